/- Contracts of functions, part CStreamWrites5. -/
import Derived.Test.YtpglhicfhppaiaaGreatCStreamWrites1
import Derived.Test.YtpglhicfhppaiaaGreatCStreamWrites2
import Derived.Test.YtpglhicfhppaiaaGreatCStreamWrites3
import Derived.Test.YtpglhicfhppaiaaGreatCStreamWrites4
import Derived.Scope
import Derived.Lib.ConvBytes
import Derived.Lib.OthersKept
import Derived.Shelf.Strings.Builder1
import Derived.Lib.SlBytesConst
set_option linter.unusedVariables false
set_option linter.unusedSimpArgs false
set_option maxRecDepth 100000
set_option maxHeartbeats 4000000
namespace Go.Proofs.YtpglhicfhppaiaaGreat
open Go.RowKit
structure SM where
  dir:Int
  held:List Int
  skip:Int
theorem wC{a b:Int}(ha:0≤a∧a<256)(hb:0≤b∧b<256) : bits .or .i64 (a*256) b=a*256+b:=by
  obtain⟨A,rfl⟩:=Int.eq_ofNat_of_zero_le ha.1
  obtain⟨B,rfl⟩:=Int.eq_ofNat_of_zero_le hb.1
  have e:((A:Int)*256)=((A*256:Nat) : Int):=by omega
  rw[e]
  show IntKind.i64.wrap ((BitVec.ofInt 64 ((A*256:Nat) : Int) ||| BitVec.ofInt 64 (B:Int)).toNat:Int)=_
  rw[BitVec.toNat_or,BitVec.ofInt_natCast,BitVec.ofInt_natCast,BitVec.toNat_ofNat,BitVec.toNat_ofNat,Nat.mod_eq_of_lt (by omega),Nat.mod_eq_of_lt (by omega)]
  have h:=Nat.shiftLeft_add_eq_or_of_lt (i:=8) (b:=B) (by omega) A
  rw[Nat.shiftLeft_eq] at h
  rw[← h,i64_in (by omega)]
  omega
def SM.size (S:SM) : Int:=S.held.getD 4 0*256+S.held.getD 5 0
def SM.nx (S:SM) : Nat:=if S.held.length<6 then 0 else if 254<S.size then 1 else if S.size<2 then 2 else if (S.held.length:Int)=6+S.size then 3 else 0
def SM.does (S:SM) : SM × List Ev:=match S.nx with
  | 1=>(⟨S.dir,[],S.size⟩,[Ev.bad 3])
  | 2=>(⟨S.dir,[],S.size⟩,[Ev.bad 5])
  | 3=>(⟨S.dir,[],S.skip⟩,[⟨(cE S.dir S.held).2,(cE S.dir S.held).1⟩])
  | _=>(S,[])
def SM.byte (S:SM)(c:Int) : SM × List Ev:=if 0<S.skip then (⟨S.dir,S.held,S.skip-1⟩,[]) else (SM.mk S.dir (S.held++[c]) S.skip).does
def SM.feed (S:SM)(b:List Int) : SM × List Ev:=b.foldl (fun p c=>((p.1.byte c).1,p.2++(p.1.byte c).2)) (S,[])
abbrev BH (S:SM) (A:Option Addr) (cp:Nat) : Array Value:=#[.int .i64 S.dir,.slice A S.held.length cp,.int .i64 S.skip]
abbrev kZ (w:World) (g:Nat) (S:SM) (A:Option Addr) (cp:Nat) : Prop:=w.heap[g]? = some (.cells (BH S A cp) 131 (0,0))
theorem SM.size_rng{S:SM}(h:∀ x,x∈S.held→0≤x∧x<256) : 0≤S.size∧S.size<65536:=by
  have hd:∀ j,0≤S.held.getD j 0∧S.held.getD j 0<256:=fun j=>by
    rw[List.getD_eq_getElem?_getD]
    cases hj:S.held[j]? with
    | none=>simp
    | some x=>exact h x (List.mem_of_getElem? hj)
  have h4:=hd 4
  have h5:=hd 5
  unfold SM.size
  omega
def zS (S:SM)(L:List Ev)(g:Nat)(w:World)(e:Ending)(w':World) : Prop:=∃ v,e = .returned v∧gS w.heap.size w' v L∧kZ w' g S none 0∧ax [g] w w'
theorem qD{w:World}:Calls Tryz.prog 48 #[.int .i64 0] w (fun e w'=>∃ g,e = .returned (.pointer (some ⟨g,0,none⟩))∧w.heap.size≤g∧kZ w' g ⟨0,[],0⟩ none 0∧ax [] w w'):=by
 refine en 12 Tryz.func48 rfl<|sg<|Pl 1<|nt<|sq<|sg<|Pl 6<|nt<|c0<|sk<|?_
 refine tn<|sg<|Pl 2<|L0<|cz #[.int .i64 0,.slice none 0 0,.int .i64 0] fun a f b c d=>Pl 1<|nt<|rt<|rr (.pointer (some ⟨a,0,none⟩))<|?_
 exact⟨a,rfl,b,c,d⟩
theorem pk{w:World}:Calls Tryz.prog 48 #[.int .i64 1] w (fun e w'=>∃ g,e = .returned (.pointer (some ⟨g,0,none⟩))∧w.heap.size≤g∧kZ w' g ⟨1,[],0⟩ none 0∧ax [] w w'):=by
 refine en 12 Tryz.func48 rfl<|sg<|Pl 1<|nt<|sq<|sg<|Pl 6<|nt<|c0<|sk<|?_
 refine tn<|sg<|Pl 2<|L0<|cz #[.int .i64 1,.slice none 0 0,.int .i64 0] fun a f b c d=>Pl 1<|nt<|rt<|rr (.pointer (some ⟨a,0,none⟩))<|?_
 exact⟨a,rfl,b,c,d⟩
theorem pv{w:World}{g:Nat}{S:SM}{A:Option Addr}{cp:Nat}(hb:kZ w g S A cp)(hr:aQ true w (.slice A S.held.length cp) S.held) : Calls Tryz.prog 185 #[.pointer (some ⟨g,0,none⟩)] w (bv (.int .i64 ((S.held.length:Nat) : Int)) w):=by
 have hcm:=aO.len hr
 have hrg:=SM.size_rng (aQ.range hr)
 have hru:=aQ.range hr
 refine en 8 Tryz.func185 rfl<|sg<|Pl 1<|ng<|Pl 3<|L0<|aN hb 1<|Pl 2<|nt<|rt<|?_
 refine rr (.int .i64 ((S.held.length:Nat) : Int))<|?_
 exact⟨rfl,(ax.refl [] _)⟩
theorem fP{w:World}{g:Nat}{S:SM}{A:Option Addr}{cp:Nat}(hb:kZ w g S A cp)(hr:aQ true w (.slice A S.held.length cp) S.held)(h6:6≤S.held.length) : Calls Tryz.prog 187 #[.pointer (some ⟨g,0,none⟩)] w (bv (.int .i64 S.size) w):=by
 have hcm:=aO.len hr
 have hrg:=SM.size_rng (aQ.range hr)
 have hru:=aQ.range hr
 refine en 19 Tryz.func187 rfl<|sg<|Pl 1<|nt<|sq<|gX (aQ.at_ hr 4 (by omega)) fun c d e f l=>gX (aQ.at_ hr 5 (by omega)) fun h i j k m=>Rg 17 (fun w'=>w'.cell? ⟨g,1,none⟩=some (.slice A S.held.length cp)∧w'.cell? ⟨c,d+4,none⟩=some (.int .u8 (S.held.getD 4 0))∧w'.cell? ⟨h,i+5,none⟩=some (.int .u8 (S.held.getD 5 0))) fun n b=>?_
 refine aZ ⟨(aa (ub b hb) rfl),(uc b f),(uc b k)⟩ fun a=>Rt 0 a<|Rt 1 a<|Rt 2 a<|Rl 3 a (fun _ hs=>hs.1)<|qF 4 a S.held.length 4 4 rfl e (by omega)<|Rl 5 a (fun _ hs=>hs.2.1)<|Rr 6 a (.int .i64 (S.held.getD 4 0)) (fun _ _=>cC (.int .i64 (IntKind.i64.wrap (S.held.getD 4 0))) (by kernel_rfl) (congrArg (Value.int .i64) (i64_in (by omega))))<|Rr 7 a (.int .i64 ((S.held.getD 4 0)*256)) (fun _ _=>cC (.int .i64 (IntKind.i64.wrap ((S.held.getD 4 0)*256))) (by kernel_rfl) (congrArg (Value.int .i64) (i64_in (by omega))))<|Rt 8 a<|Rt 9 a<|Rt 10 a<|Rl 11 a (fun _ hs=>hs.1)<|qF 12 a S.held.length 5 5 rfl j (by omega)<|?_
 refine Rl 13 a (fun _ hs=>hs.2.2)<|Rr 14 a (.int .i64 (S.held.getD 5 0)) (fun _ _=>cC (.int .i64 (IntKind.i64.wrap (S.held.getD 5 0))) (by kernel_rfl) (congrArg (Value.int .i64) (i64_in (by omega))))<|Rr 15 a (.int .i64 (((S.held.getD 4 0)*256)+(S.held.getD 5 0))) (fun _ _=>cC (.int .i64 (bits .or .i64 ((S.held.getD 4 0)*256) (S.held.getD 5 0))) (by kernel_rfl) (congrArg (Value.int .i64) (wC (by omega) (by omega))))<|Rt 16 a<|re<|tn<|rt<|rr (.int .i64 (((S.held.getD 4 0)*256)+(S.held.getD 5 0)))<|?_
 exact⟨rfl,b⟩
def SM.fn (S:SM)(g:Nat) : Value:=match S.nx with
  | 1=>.func (.func 188) #[.pointer (some ⟨g,0,none⟩)] #[]
  | 2=>.func (.func 189) #[.pointer (some ⟨g,0,none⟩)] #[]
  | 3=>.func (.func 190) #[.pointer (some ⟨g,0,none⟩)] #[]
  | _=>.nilFunc
theorem fW{w:World}{g:Nat}{S:SM}{A:Option Addr}{cp:Nat}(hb:kZ w g S A cp)(hr:aQ true w (.slice A S.held.length cp) S.held) : Calls Tryz.prog 186 #[.pointer (some ⟨g,0,none⟩)] w (bv (S.fn g) w):=by
 have hcm:=aO.len hr
 have hrg:=SM.size_rng (aQ.range hr)
 have hru:=aQ.range hr
 refine en 34 Tryz.func186 rfl<|sg<|Pl 1<|nt<|sq<|bk<|sg<|Pl 3<|L0<|aN hb 1<|Pl 3<|nl<|?_
 refine tn<|cb ((decide (((S.held.length:Nat) : Int)<6))) (fun c=>?_) (fun c=>?_)
 have r:=of_decide_eq_true c
 refine sg<|Pl 1<|nt<|rt<|br<|tr<|rr (.nilFunc)<|?_
 have hs:S.nx=0:=by unfold SM.nx;(repeat' split)<;>first | rfl | omega
 have hf:S.fn g = .nilFunc:=by unfold SM.fn;rw[hs];rfl
 exact⟨by rw[hf],(ax.refl [] _)⟩
 have r:=of_decide_eq_false c
 refine sg<|Pl 1<|L0<|Oc<|m1 (fP (S:=S) hb hr (by omega)) fun v b=>Pl 2<|nt<|cb ((decide (254<S.size))) (fun d=>?_) (fun d=>?_)
 have s:=of_decide_eq_true d
 refine sg<|Pl 3<|nt<|rt<|br<|tr<|rr (.func (.func 188) #[.pointer (some ⟨g,0,none⟩)] #[])<|?_
 have hs:S.nx=1:=by unfold SM.nx;(repeat' split)<;>first | rfl | omega
 have hf:S.fn g = .func (.func 188) #[.pointer (some ⟨g,0,none⟩)] #[]:=by unfold SM.fn;rw[hs];rfl
 exact⟨by rw[hf],b⟩
 have s:=of_decide_eq_false d
 refine sg<|Pl 1<|?_
 have j:=ub b hb
 have k:=aQ.upd' hr b aD
 refine L0<|Oc<|m1 (fP (S:=S) j k (by omega)) fun x l=>Pl 2<|nt<|?_
 have m:=aE b l
 refine cb ((decide (S.size<2))) (fun e=>?_) (fun e=>?_)
 have t:=of_decide_eq_true e
 refine sg<|Pl 3<|nt<|rt<|br<|tr<|rr (.func (.func 189) #[.pointer (some ⟨g,0,none⟩)] #[])<|?_
 have hs:S.nx=2:=by unfold SM.nx;(repeat' split)<;>first | rfl | omega
 have hf:S.fn g = .func (.func 189) #[.pointer (some ⟨g,0,none⟩)] #[]:=by unfold SM.fn;rw[hs];rfl
 exact⟨by rw[hf],m⟩
 have t:=of_decide_eq_false e
 refine sq<|Rg 10 (fun w'=>w'.cell? ⟨g,1,none⟩=some (.slice A S.held.length cp)) fun y n=>?_
 have o:=aE l n
 have f:=ub o j
 refine aZ (aa f rfl) fun a=>Rt 0 a<|Rt 1 a<|Rt 2 a<|Rl 3 a (fun _ hs=>hs)<|Rt 4 a<|Rt 5 a<|?_
 refine R0 6 rfl<|Oc<|m1 (fP (S:=S) f (aQ.upd' k o aD) (by omega)) fun z p=>?_
 refine aZ (aa (ub p f) rfl) fun h=>Rr 7 h (.int .i64 (6+S.size)) (fun _ _=>cC (.int .i64 (IntKind.i64.wrap (6+S.size))) (by kernel_rfl) (congrArg (Value.int .i64) (IntWalk.i64_in _ (by omega))))<|Rt 8 h<|Rt 9 h<|re<|tn<|?_
 have q:=aE m (aE n p)
 refine cb ((((S.held.length:Nat) : Int)==(6+S.size))) (fun i=>?_) (fun i=>?_)
 have u:=az i
 refine sg<|Pl 3<|nt<|rt<|br<|tr<|rr (.func (.func 190) #[.pointer (some ⟨g,0,none⟩)] #[])<|?_
 have hs:S.nx=3:=by unfold SM.nx;(repeat' split)<;>first | rfl | omega
 have hf:S.fn g = .func (.func 190) #[.pointer (some ⟨g,0,none⟩)] #[]:=by unfold SM.fn;rw[hs];rfl
 exact⟨by rw[hf],q⟩
 have u:=aC i
 refine sk<|bn<|tn<|sg<|Pl 1<|nt<|rt<|rr (.nilFunc)<|?_
 have hs:S.nx=0:=by unfold SM.nx;(repeat' split)<;>first | rfl | omega
 have hf:S.fn g = .nilFunc:=by unfold SM.fn;rw[hs];rfl
 exact⟨by rw[hf],q⟩
theorem iz{w:World}{g:Nat}{S:SM}{A:Option Addr}{cp:Nat}(hb:kZ w g S A cp)(hr:aQ true w (.slice A S.held.length cp) S.held)(h6:6≤S.held.length){e:Int}:Calls Tryz.prog 191 #[.pointer (some ⟨g,0,none⟩),.int .i64 e] w (zS ⟨S.dir,[],S.size⟩ [Ev.bad e] g w):=by
 have hcm:=aO.len hr
 have hrg:=SM.size_rng (aQ.range hr)
 have hru:=aQ.range hr
 refine en 16 Tryz.func191 rfl<|sg<|Pl 1<|ng<|Pl 2<|L0<|Oc<|m1 (fP (S:=S) hb hr (by omega)) fun l a=>Pl 2<|?_
 refine L0<|cn (ub a hb) 2 #[.int .i64 S.dir,.slice A S.held.length cp,.int .i64 S.size] fun n f b=>ng<|Pl 3<|L0<|cn f 1 #[.int .i64 S.dir,.slice none 0 0,.int .i64 S.size] fun o h c=>ng<|Pl 2<|L0<|cF (m:=1) (e:=66) #[.int .i64 e,.int .u8 0,.int .u16 0,.int .u8 0,.int .u8 0,.int .u16 0,.int .u16 0,.int .u16 0,.int .u16 0,.int .u16 0,.int .u16 0,.int .u16 0,.int .u16 0,.int .u16 0,.int .u16 0,.slice none 0 0,.slice none 0 0,.slice none 0 0,.slice none 0 0,.int .u8 0,.int .u8 0,.int .u8 0,.int .u8 0,.int .u8 0,.slice none 0 0] fun i p j k d=>Pl 1<|nl<|?_
 refine tn<|rt<|rr (.slice (some ⟨i,0,none⟩) 1 1)<|?_
 have hE:=mQ (w0:=w) (x:=Ev.bad e) (Nat.le_trans (le (le a.size b.size) c.size) j) k ⟨⟨none,0,none,0,none,0,none,0,none,0⟩,by kernel_rfl,mP,(show(0:Int)≤0∧(0:Int)<256 from by decide),(show(0:Int)≤0∧(0:Int)<65536 from by decide)⟩
 exact⟨_,rfl,hE,(ub d h),(uz a (u1 b (aE c d) im))⟩
theorem qm{w:World}{g:Nat}{S:SM}{A:Option Addr}{cp:Nat}(hb:kZ w g S A cp)(hr:aQ true w (.slice A S.held.length cp) S.held)(h6:6≤S.held.length) : Calls Tryz.prog 188 #[.pointer (some ⟨g,0,none⟩)] w (zS ⟨S.dir,[],S.size⟩ [Ev.bad 3] g w):=by
 have hcm:=aO.len hr
 have hrg:=SM.size_rng (aQ.range hr)
 have hru:=aQ.range hr
 refine en 5 Tryz.func188 rfl<|sg<|Pl 1<|ng<|Pl 1<|L0<|Oc<|qO (iz (S:=S) (e:=3) hb hr h6) fun a b h c i j d f=>Pl 1<|nt<|rt<|?_
 refine rr (.slice a 1 b)<|?_
 exact⟨_,rfl,c,d,f⟩
theorem oL{w:World}{g:Nat}{S:SM}{A:Option Addr}{cp:Nat}(hb:kZ w g S A cp)(hr:aQ true w (.slice A S.held.length cp) S.held)(h6:6≤S.held.length) : Calls Tryz.prog 189 #[.pointer (some ⟨g,0,none⟩)] w (zS ⟨S.dir,[],S.size⟩ [Ev.bad 5] g w):=by
 have hcm:=aO.len hr
 have hrg:=SM.size_rng (aQ.range hr)
 have hru:=aQ.range hr
 refine en 5 Tryz.func189 rfl<|sg<|Pl 1<|ng<|Pl 1<|L0<|Oc<|qO (iz (S:=S) (e:=5) hb hr h6) fun a b h c i j d f=>Pl 1<|nt<|rt<|?_
 refine rr (.slice a 1 b)<|?_
 exact⟨_,rfl,c,d,f⟩
theorem nQ{w:World}{g:Nat}{S:SM}{A:Option Addr}{cp:Nat}(hb:kZ w g S A cp)(hr:aQ true w (.slice A S.held.length cp) S.held)(hl:S.held.length≤1048576) : Calls Tryz.prog 190 #[.pointer (some ⟨g,0,none⟩)] w (zS ⟨S.dir,[],S.skip⟩ [⟨(cE S.dir S.held).2,(cE S.dir S.held).1⟩] g w):=by
 have hcm:=aO.len hr
 have hrg:=SM.size_rng (aQ.range hr)
 have hru:=aQ.range hr
 refine en 24 Tryz.func190 rfl<|sg<|Pl 1<|nt<|sq<|Rg 15 (fun w'=>w'.cell? ⟨g,0,none⟩=some (.int .i64 S.dir)∧w'.cell? ⟨g,1,none⟩=some (.slice A S.held.length cp)) fun ae a=>?_
 have f:=ub a hb
 refine aZ ⟨(aa f rfl),(aa f rfl)⟩ fun b=>Rt 0 b<|Rt 1 b<|Rt 2 b<|Rl 3 b (fun _ hs=>hs.1)<|Rt 4 b<|Rt 5 b<|Rt 6 b<|Rl 7 b (fun _ hs=>hs.2)<|?_
 refine R2 8 12 rfl rfl ?_ ?_
 refine pr (cE S.dir S.held) fun c C D=>?_
 refine  Oc<|e2 (iM D (aQ.upd' hr a aD) (by omega)) fun x56 af Q h=>?_
 obtain⟨R,T,U⟩:=Q
 have i:=ub h f
 refine aZ ⟨(aa i rfl),(aa i rfl)⟩ fun l=>Rt 9 l<|Rt 10 l<|Rt 11 l<|R0 12 rfl<|bI #[.int .u8 0,.int .u16 0,.int .u8 0,.int .u8 0,.int .u16 0,.int .u16 0,.int .u16 0,.int .u16 0,.int .u16 0,.int .u16 0,.int .u16 0,.int .u16 0,.int .u16 0,.int .u16 0,.slice none 0 0,.slice none 0 0,.slice none 0 0,.slice none 0 0,.int .u8 0,.int .u8 0,.int .u8 0,.int .u8 0,.int .u8 0,.slice none 0 0] fun ag ah E V n=>?_
 have o:=ub n i
 refine aZ ⟨(aa o rfl),(aa o rfl)⟩ fun ai=>R0 13 rfl<|bf V (dZ c.unit c.tid c.msg x56) fun aj W p=>?_
 have F:=nb (al hb) (le a.size h.size) E
 have q:=aY p F o
 refine aZ ⟨(aa q rfl),(aa q rfl)⟩ fun X=>Rt 14 X<|re<|tn<|sg<|Pl 3<|L0<|cn q 1 #[.int .i64 S.dir,.slice none 0 0,.int .i64 S.skip] fun am Y r=>ng<|Pl 1<|?_
 refine L0<|bZ (aY r (Ne.symm F) W)<|Pl 1<|L0<|cF (m:=1) (e:=66) (mS ⟨C,c⟩ x56) fun Z an a0 a1 G=>Pl 1<|nt<|rt<|rr (.slice (some ⟨Z,0,none⟩) 1 1)<|?_
 have H:=ud n (us p (aE r G)) E
 have hE:=mQ (w0:=w) (x:=⟨C,c⟩) (Nat.le_trans (le (le (le (le a.size h.size) n.size) p.size) r.size) a0) a1 ⟨x56,rfl,(aF.upd R H (ak (aL i (by decide)) aD)),T,U⟩
 exact⟨_,rfl,by rw[D];exact hE,(ub G Y),(uz a (uz h H))⟩
 refine  bI #[.int .u8 0,.int .u16 0,.int .u8 0,.int .u8 0,.int .u16 0,.int .u16 0,.int .u16 0,.int .u16 0,.int .u16 0,.int .u16 0,.int .u16 0,.int .u16 0,.int .u16 0,.int .u16 0,.slice none 0 0,.slice none 0 0,.slice none 0 0,.slice none 0 0,.int .u8 0,.int .u8 0,.int .u8 0,.int .u8 0,.int .u8 0,.slice none 0 0] fun ao ap I a2 s=>?_
 have t:=ub s f
 refine aZ ⟨(aa t rfl),(aa t rfl)⟩ fun aq=>?_
 have J:=aE a s
 refine pr (cE S.dir S.held) fun d K L=>?_
 refine R0 8 rfl<|Oc<|e2 (iM L (aQ.upd' hr J aD) (by omega)) fun u ar a3 j=>?_
 obtain⟨a4,a5,a6⟩:=a3
 have k:=ub j t
 refine aZ ⟨(aa k rfl),(aa k rfl)⟩ fun v=>Rt 9 v<|Rt 10 v<|Rt 11 v<|?_
 have M:=ub j a2
 refine R0 13 rfl<|bf M (dZ d.unit d.tid d.msg u) fun au a7 y=>?_
 have N:=nb (al hb) a.size I
 have z:=aY y N k
 refine aZ ⟨(aa z rfl),(aa z rfl)⟩ fun a8=>Rt 14 a8<|re<|tn<|sg<|Pl 3<|L0<|cn z 1 #[.int .i64 S.dir,.slice none 0 0,.int .i64 S.skip] fun av a9 B=>ng<|Pl 1<|?_
 refine L0<|bZ (aY B (Ne.symm N) a7)<|Pl 1<|L0<|cF (m:=1) (e:=66) (mS ⟨K,d⟩ u) fun ab aw ac ad O=>Pl 1<|nt<|rt<|rr (.slice (some ⟨ab,0,none⟩) 1 1)<|?_
 have P:=us y (aE B O)
 have hE:=mQ (w0:=w) (x:=⟨K,d⟩) (Nat.le_trans (le (le (le (le a.size s.size) j.size) y.size) B.size) ac) ad ⟨u,rfl,(aF.upd a4 P (ak (aL M (by decide)) (ak (aL k (by decide)) aD))),a5,a6⟩
 exact⟨_,rfl,by rw[L];exact hE,(ub O a9),(ud J (uz j P) (le a.size I))⟩
open Go.RowKit
theorem BF{C:Prop}(S:SM)(h0:S.nx=0→C)(h1:S.nx=1→C)(h2:S.nx=2→C)(h3:S.nx=3→C) : C:=by
  have h:S.nx=0∨S.nx=1∨S.nx=2∨S.nx=3:=by
    unfold SM.nx
    (repeat' split)<;>simp
  rcases h with h|h|h|h
  · exact h0 h
  · exact h1 h
  · exact h2 h
  · exact h3 h
theorem zt{S:SM}(h:S.nx≠0) : 6≤S.held.length:=by
  unfold SM.nx at h
  split at h
  · exact absurd rfl h
  · omega
theorem oq{w:World}{g:Nat}{S:SM}{A:Option Addr}{cp:Nat}(hb:kZ w g S A cp)(hr:aQ true w (.slice A S.held.length cp) S.held)(h:S.nx=0) : Calls Tryz.prog 186 #[.pointer (some ⟨g,0,none⟩)] w (bv (.nilFunc) w):=by
  have k:=fW hb hr
  unfold SM.fn at k
  rw[h] at k
  exact k
theorem ny{w:World}{g:Nat}{S:SM}{A:Option Addr}{cp:Nat}(hb:kZ w g S A cp)(hr:aQ true w (.slice A S.held.length cp) S.held)(h:S.nx=1) : Calls Tryz.prog 186 #[.pointer (some ⟨g,0,none⟩)] w (bv (.func (.func 188) #[.pointer (some ⟨g,0,none⟩)] #[]) w):=by
  have k:=fW hb hr
  unfold SM.fn at k
  rw[h] at k
  exact k
theorem nC{w:World}{g:Nat}{S:SM}{A:Option Addr}{cp:Nat}(hb:kZ w g S A cp)(hr:aQ true w (.slice A S.held.length cp) S.held)(h:S.nx=2) : Calls Tryz.prog 186 #[.pointer (some ⟨g,0,none⟩)] w (bv (.func (.func 189) #[.pointer (some ⟨g,0,none⟩)] #[]) w):=by
  have k:=fW hb hr
  unfold SM.fn at k
  rw[h] at k
  exact k
theorem nv{w:World}{g:Nat}{S:SM}{A:Option Addr}{cp:Nat}(hb:kZ w g S A cp)(hr:aQ true w (.slice A S.held.length cp) S.held)(h:S.nx=3) : Calls Tryz.prog 186 #[.pointer (some ⟨g,0,none⟩)] w (bv (.func (.func 190) #[.pointer (some ⟨g,0,none⟩)] #[]) w):=by
  have k:=fW hb hr
  unfold SM.fn at k
  rw[h] at k
  exact k
def SM.ok (S:SM) : Prop:=(0≤S.skip∧S.skip<65536)∧(∀ x,x∈S.held→0≤x∧x<256)∧(S.held.length<6∨2≤S.size∧S.size≤254∧(S.held.length:Int)<6+S.size)
theorem SM.ok_le{S:SM}(h:S.ok) : S.held.length≤259:=by
  obtain⟨_,_,h|h⟩:=h
  · omega
  · omega
theorem SM.size_app{S:SM}{c:Int}(h:6≤S.held.length) : (SM.mk S.dir (S.held++[c]) S.skip).size=S.size:=by
  unfold SM.size
  simp only[List.getD_eq_getElem?_getD]
  rw[List.getElem?_append_left (by omega),List.getElem?_append_left (by omega)]
theorem SM.byte_ok{S S2:SM}{c:Int}{L2:List Ev}(h:S.ok)(hc:0≤c∧c<256)(hx:S.byte c=(S2,L2)) : S2.ok∧L2.length≤1:=by
  obtain⟨h1,h2,h3⟩:=h
  unfold SM.byte at hx
  split at hx
  · injection hx with e1 e2
    subst e1 e2
    exact⟨⟨⟨by show 0≤S.skip-1;omega,by show S.skip-1<65536;omega⟩,h2,h3⟩,Nat.zero_le _⟩
  have hr:∀ x,x∈(SM.mk S.dir (S.held++[c]) S.skip).held→0≤x∧x<256:=fun x hx=>by
    rcases List.mem_append.1 hx with h|h
    · exact h2 x h
    · rw[List.mem_singleton] at h;rw[h];exact hc
  have hz:=SM.size_rng hr
  have hn:∀ d k,(0≤k∧k<65536)→(SM.mk d [] k).ok:=fun d k hk=>⟨hk,fun x hx=>(by cases hx),.inl (show 0<6 by omega)⟩
  unfold SM.does at hx
  have hnx:∀ i,(SM.mk S.dir (S.held++[c]) S.skip).nx=i→i=0∨i=1∨i=2∨i=3:=by
    intro i hi
    subst hi
    unfold SM.nx
    (repeat' split)<;>simp
  rcases hnx _ rfl with e|e|e|e<;>rw[e] at hx<;>injection hx with e1 e2<;>subst e1 e2
  · refine⟨⟨h1,hr,?_⟩,Nat.zero_le _⟩
    unfold SM.nx at e
    by_cases h6:(SM.mk S.dir (S.held++[c]) S.skip).held.length<6
    · exact .inl h6
    rw[if_neg h6] at e
    split at e
    · cases e
    split at e
    · cases e
    split at e
    · cases e
    rename_i k1 k2 k3
    refine .inr ⟨by omega,by omega,?_⟩
    have hl:(SM.mk S.dir (S.held++[c]) S.skip).held.length=S.held.length+1:=by simp
    rcases h3 with h3|⟨h4,h5,h7⟩
    · omega
    · by_cases h8:6≤S.held.length
      · rw[SM.size_app h8] at k1 k2 k3 ⊢
        omega
      · omega
  · exact⟨hn _ _ hz,Nat.le_refl _⟩
  · exact⟨hn _ _ hz,Nat.le_refl _⟩
  · exact⟨hn _ _ h1,Nat.le_refl _⟩
theorem iG{S0 T T2:SM}{L L2:List Ev}{b:List Int}{k:Nat}(hk:k<b.length)(h:(T,L)=S0.feed (b.take k))(hx:T.byte (b.getD k 0)=(T2,L2)) : (T2,L++L2)=S0.feed (b.take (k+1)):=by
  rw[List.take_succ_eq_append_getElem hk]
  unfold SM.feed at h ⊢
  rw[List.foldl_append,← h]
  rw[List.getD_eq_getElem?_getD,List.getElem?_eq_getElem hk] at hx
  simp only[Option.getD_some] at hx
  simp only[List.foldl_cons,List.foldl_nil,hx]
theorem jR{S0 T T2:SM}{L:List Ev}{b:List Int}{k:Nat}(hk:k<b.length)(h:(T,L)=S0.feed (b.take k))(hx:T.byte (b.getD k 0)=(T2,[])) : (T2,L)=S0.feed (b.take (k+1)):=by
  have:=iG hk h hx
  rwa [List.append_nil] at this
theorem sV{T:SM}{c:Int}(h:0<T.skip) : T.byte c=(⟨T.dir,T.held,T.skip-1⟩,[]):=by unfold SM.byte;rw[if_pos h]
theorem uf{T:SM}{c:Int}(h:¬ 0<T.skip)(e:(SM.mk T.dir (T.held++[c]) T.skip).nx=0) : T.byte c=(⟨T.dir,T.held++[c],T.skip⟩,[]):=by unfold SM.byte;rw[if_neg h];unfold SM.does;rw[e];rfl
theorem yw{T:SM}{c:Int}(h:¬ 0<T.skip)(e:(SM.mk T.dir (T.held++[c]) T.skip).nx=1) : T.byte c=(⟨T.dir,[],(SM.mk T.dir (T.held++[c]) T.skip).size⟩,[Ev.bad 3]):=by unfold SM.byte;rw[if_neg h];unfold SM.does;rw[e];rfl
theorem xS{T:SM}{c:Int}(h:¬ 0<T.skip)(e:(SM.mk T.dir (T.held++[c]) T.skip).nx=2) : T.byte c=(⟨T.dir,[],(SM.mk T.dir (T.held++[c]) T.skip).size⟩,[Ev.bad 5]):=by unfold SM.byte;rw[if_neg h];unfold SM.does;rw[e];rfl
theorem tJ{T:SM}{c:Int}{F:aW}{E:Int}(h:¬ 0<T.skip)(e:(SM.mk T.dir (T.held++[c]) T.skip).nx=3)(hX:cE T.dir (T.held++[c])=(F,E)) : T.byte c=(⟨T.dir,[],T.skip⟩,[⟨E,F⟩]):=by
  unfold SM.byte
  rw[if_neg h]
  unfold SM.does
  rw[e]
  show(SM.mk T.dir [] T.skip,[Ev.mk (cE T.dir (T.held++[c])).2 (cE T.dir (T.held++[c])).1])=_
  rw[hX]
theorem kT{w:World}{g:Nat}{d k:Int}{h:List Int}{A:Option Addr}{cp:Nat}{F:aW}{E:Int}(hX:cE d h=(F,E))(hb:kZ w g ⟨d,h,k⟩ A cp)(hr:aQ true w (.slice A h.length cp) h)(hl:h.length≤1048576) : Calls Tryz.prog 190 #[.pointer (some ⟨g,0,none⟩)] w (zS ⟨d,[],k⟩ [⟨E,F⟩] g w):=by
  have q:=nQ (S:=⟨d,h,k⟩) hb hr hl
  rw[hX] at q
  exact q
def BU (base n0:Nat)(S2:SM)(L:List Ev)(g:Nat)(A:Option Addr)(w:World)(e:Ending)(w':World) : Prop:=∃ v A2 cp2 n2,e = .returned v∧dk n2 w.heap.size w' v L∧kZ w' g S2 A2 cp2∧cy base w' (.slice A2 S2.held.length cp2) S2.held∧(∀ x,x∈ob A2→x∈ob A∨w.heap.size≤x)∧(n0≤n2∧n2≤w'.heap.size)∧(∀ x,x∈ob A2→n2≤x)∧ax (g :: (ob A++[])) w w'
theorem kE{b:List Int}(h:∀ x,x∈b→0≤x∧x<256)(k:Nat) : 0≤b.getD k 0∧b.getD k 0<256:=by
  rw[List.getD_eq_getElem?_getD]
  cases hj:b[k]? with
  | none=>simp
  | some x=>exact h x (List.mem_of_getElem? hj)
theorem oF{w:World}{g base:Nat}{S:SM}{A:Option Addr}{cp:Nat}{m:Bool}{B:Option Addr}{cpb:Nat}{b:List Int}(hb:kZ w g S A cp)(ho:cy base w (.slice A S.held.length cp) S.held)(hbs:base≤w.heap.size)(hok0:S.ok){n0:Nat}(hn0:n0≤w.heap.size)(hlo:∀ x,x∈ob A→n0≤x)(hsl:aQ m w (.slice B b.length cpb) b)(hdg:0<b.length→∀ x,x∈ob B→x≠g)(hda:lA b.length B (ob A))(hbl:b.length≤1048576) :
    Calls Tryz.prog 184 #[.pointer (some ⟨g,0,none⟩),.slice B b.length cpb] w (BU base n0 (S.feed b).1 (S.feed b).2 g A w):=by
 have hdl:=aO.low hsl
 have hok0l:=SM.ok_le hok0
 have hrb:=aQ.range hsl
 refine en 47 Tryz.func184 rfl<|sg<|Pl 1<|ng<|Pl 1<|nt<|sq<|sg<|?_
 refine Pl 3<|nt<|bk<|?_
 refine ir (fun x=>[(0,.pointer (some ⟨g,0,none⟩)),(4,.slice none 0 0),(5,.slice x.2.2.2.2.2.1 x.2.2.1.length x.2.2.2.2.2.2.1),(9,.slice B b.length cpb),(10,.int .i64 ((b.length:Nat) : Int)),(11,.int .i64 ((x.1:Nat) : Int))]) (fun(x:Nat × SM × List Ev × Option Addr × Nat × Option Addr × Nat × Nat) w'=>ax (g :: (ob A++[])) w w'∧kZ w' g x.2.1 x.2.2.2.1 x.2.2.2.2.1∧cy base w' (.slice x.2.2.2.1 x.2.1.held.length x.2.2.2.2.1) x.2.1.held∧dk x.2.2.2.2.2.2.2 w.heap.size w' (.slice x.2.2.2.2.2.1 x.2.2.1.length x.2.2.2.2.2.2.1) x.2.2.1∧x.2.2.2.2.2.2.2≤w'.heap.size∧aQ m w' (.slice B b.length cpb) b∧((x.2.1,x.2.2.1)=S.feed (b.take x.1))∧(x.2.1.ok)∧(x.2.1.held.length≤259)∧(x.1≤b.length)∧(x.2.2.1.length≤x.1)∧(∀ y,y∈ob x.2.2.2.1→y∈ob A∨w.heap.size≤y)∧(n0≤x.2.2.2.2.2.2.2)∧(∀ y,y∈ob x.2.2.2.1→x.2.2.2.2.2.2.2≤y)) (fun x=>b.length-x.1) (0,S,[],A,cp,none,0,n0) ⟨ax.refl _ _,hb,ho,(aJ.nil w.heap.size _ _ (bo n0) _),(Nat.le_trans hn0 lr),hsl,rfl,hok0,hok0l,(by(try dsimp only);exact Nat.zero_le _),(by(try dsimp only);exact Nat.zero_le _),iy,(by(try dsimp only);exact Nat.le_refl _),hlo⟩ ?_
 rintro⟨k,T,L,Ah,ch,Bq,cq,n⟩ D ⟨l,aR,aS,aT,aU,aV,aW,aX,aY,aZ,b0,b1,b2,b3⟩
 refine it [(0,.pointer (some ⟨g,0,none⟩)),(4,.slice none 0 0),(5,.slice Bq L.length cq),(9,.slice B b.length cpb),(10,.int .i64 ((b.length:Nat) : Int)),(11,.int .i64 ((k:Nat) : Int))] ?_
 have f:kZ D g T Ah ch:=aR
 have j:cy base D (.slice Ah T.held.length ch) T.held:=aS
 have a:dk n w.heap.size D (.slice Bq L.length cq) L:=aT
 have b4:n≤D.heap.size:=aU
 have hnl:=b4
 have u:aQ m D (.slice B b.length cpb) b:=aV
 have b5:(T,L)=S.feed (b.take k):=aW
 have b6:T.ok:=aX
 have bJ:T.held.length≤259:=aY
 have bK:k≤b.length:=aZ
 have bL:L.length≤k:=b0
 have b7:∀ y,y∈ob Ah→y∈ob A∨w.heap.size≤y:=b1
 have b8:n0≤n:=b2
 have b9:∀ y,y∈ob Ah→n≤y:=b3
 have hlow:=b9
 have hn0l:=b8
 have hat0:=b7
 have hok:=b6
 have hpj:=b5
 have hle:=SM.ok_le hok
 have hsk:=hok.1
 refine sg<|Pl 1<|nt<|sq<|cb ((decide (((k:Nat) : Int)<((b.length:Nat) : Int)))) (fun X=>?_) (fun X=>?_)
 have ba:=of_decide_eq_true X
 refine bG<|sq<|bk<|sg<|gX (aQ.at_ u k (by omega)) fun bb bc bd be bM=>L0<|oU b.length k bd (by omega)<|L0<|kY (p:=⟨bb,bc+k,none⟩) (v:=.int .u8 (b.getD k 0)) be<|Pl 1<|nt<|sq<|sq<|?_
 refine go<|Pl 3<|L0<|aN f 2<|Pl 1<|nt<|cb ((decide (0<T.skip))) (fun Y=>?_) (fun Y=>?_)
 have z:=of_decide_eq_true Y
 refine sg<|Pl 3<|L0<|aN f 2<|L0<|Oi (T.skip-1)<|Pl 2<|L0<|cn f 2 #[.int .i64 T.dir,.slice Ah T.held.length ch,.int .i64 (T.skip-1)] fun bN bf C=>nt<|xt<|tx<|bx<|tn<|go<|?_
 refine L0<|Oi (((k:Nat) : Int)+1)<|Pl 1<|nl<|?_
 have a2:=sV (T:=T) (c:=(b.getD k 0)) z
 have a3:=SM.byte_ok hok (kE hrb k) a2
 exact er ((k+1),(SM.mk T.dir T.held (T.skip-1)),L,Ah,ch,Bq,cq,n) ⟨(u1 l C im),bf,(aj j C (fun x hx=>(ae (fun e=>(bu f j (by decide)) (e▸hx)) ay)) (fun _ _ h=>h)),(aj a C (fun x hx=>(ae (fun e=>(aB (al hb) lr a) (e▸hx)) ay)) (fun x cs q=>bo.upd C (eD f (by decide) bR) q)),(Nat.le_trans hnl C.size),(aQ.far u C (dF hdg et)),(by(try dsimp only);exact jR (by omega) hpj a2),(by(try dsimp only);exact a3.1),(by(try dsimp only);have q:=SM.ok_le a3.1;exact q),(by(try dsimp only);omega),(by(try dsimp only);(try simp only[List.length_append,List.length_cons,List.length_nil]);omega),(by(try dsimp only);exact hat0),(by(try dsimp only);exact hn0l),(by(try dsimp only);exact hlow)⟩ (by omega)
 have z:=of_decide_eq_false Y
 refine bG<|sg<|Pl 4<|L0<|aN f 1<|Pl 1<|L0<|cF (m:=1) (e:=5) #[.int .u8 (b.getD k 0)] fun bO bP bg bh o=>?_
 have bi:=cP bg (xs:=[(b.getD k 0)]) (by as_aux_lemma=>kernel_rfl) (am (by omega) aM) (by(try simp only[List.length_cons,List.length_nil]);omega) bh
 refine L0<|fx (R:=n8) (xs:=T.held) (ys:=([(b.getD k 0)])) (.int .u8 0) 1 1 (aj j o (fun x hx=>ay) (fun _ _ h=>h)) (bi).rd qU (fun _ _ _ _ h=>h) (by(try simp only[List.length_append,List.length_cons,List.length_nil,av]);omega) (Nat.le_trans hbs (le l.size o.size)) fun a4 a5 bQ r J a6=>Pl 2<|?_
 have a7:=ut (ax.mono (S':=(ob Ah++[])) o aq) J (ag il aq)
 have E:=ax.blk a7 (aG (bu f j (by decide)) ay) f
 refine L0<|cn E 1 #[.int .i64 T.dir,.slice a4 ((T.held++[(b.getD k 0)]).length) a5,.int .i64 T.skip] fun bS s t=>ng<|Pl 1<|?_
 have F:=u1 (ax.mono (S':=(ob Ah++(g :: []))) a7 (ag il aq)) t im
 have K:=ut l F (ag (jI hat0 il lr) (ac im aq))
 refine BF (SM.mk T.dir (T.held++[(b.getD k 0)]) T.skip) (fun i=>?_) (fun i=>?_) (fun i=>?_) (fun i=>?_)
 have a8:=aj r t (fun x hx=>(ae (fun e=>(bu E r (by decide)) (e▸hx)) ay)) (fun _ _ h=>h)
 refine L0<|Oc<|m1 (oq (S:=(SM.mk T.dir (T.held++[(b.getD k 0)]) T.skip)) s (a8).rd i) fun bT M=>Pl 1<|ng<|Pl 2<|nt<|c0<|sk<|bn<|tn<|go<|?_
 refine L0<|Oi (((k:Nat) : Int)+1)<|Pl 1<|nl<|?_
 have N:=aE F M
 have a9:=uf (T:=T) (c:=(b.getD k 0)) z i
 have aa:=SM.byte_ok hok (kE hrb k) a9
 exact er ((k+1),(SM.mk T.dir (T.held++[(b.getD k 0)]) T.skip),L,a4,a5,Bq,cq,n) ⟨(aE K M),(ub M s),(aj a8 M (fun x hx=>ay) (fun _ _ h=>h)),(aj a N (fun x hx=>(aG ((bC a j (by decide)) x hx) (ae (fun e=>(aB (al hb) lr a) (e▸hx)) ay))) (fun x cs q=>bo.upd N (gw hlow (eD f (by decide) bR)) q)),(Nat.le_trans hnl N.size),(aQ.far u N (d8 (fe hda hdl hat0) (dF hdg et))),(by(try dsimp only);exact jR (by omega) hpj a9),(by(try dsimp only);exact aa.1),(by(try dsimp only);have q:=SM.ok_le aa.1;exact q),(by(try dsimp only);omega),(by(try dsimp only);(try simp only[List.length_append,List.length_cons,List.length_nil]);omega),(by(try dsimp only);exact(jg a6 hat0 (le l.size o.size))),(by(try dsimp only);exact hn0l),(by(try dsimp only);exact(rc a6 hlow (Nat.le_trans hnl o.size)))⟩ (by omega)
 have ab:=aj r t (fun x hx=>(ae (fun e=>(bu E r (by decide)) (e▸hx)) ay)) (fun _ _ h=>h)
 refine L0<|Oc<|m1 (ny (S:=(SM.mk T.dir (T.held++[(b.getD k 0)]) T.skip)) s (ab).rd i) fun bU O=>Pl 1<|ng<|Pl 2<|nt<|c1<|go<|Pl 2<|?_
 refine L0<|fb #[.pointer (some ⟨g,0,none⟩)] #[] (args:=#[.pointer (some ⟨g,0,none⟩)])<|qO (qm (S:=(SM.mk T.dir (T.held++[(b.getD k 0)]) T.skip)) (ub O s) ((aj ab O (fun x hx=>ay) (fun _ _ h=>h))).rd (zt (by rw[i];decide))) fun bV bW Z bj bX bY bl ad=>?_
 have af:=uz O ad
 have G:=u1 F af im
 have ah:=aj a G (fun x hx=>(aG ((bC a j (by decide)) x hx) (ae (fun e=>(aB (al hb) lr a) (e▸hx)) ay))) (fun x cs q=>bo.upd G (gw hlow (eD f (by decide) bR)) q)
 have bm:n≤Z.heap.size:=Nat.le_trans hnl G.size
 refine L0<|fx (R:=bo Z.heap.size) (xs:=L) (ys:=([Ev.bad 3])) (.agg #[.int .i64 0,.int .u8 0,.int .u16 0,.int .u8 0,.int .u8 0,.int .u16 0,.int .u16 0,.int .u16 0,.int .u16 0,.int .u16 0,.int .u16 0,.int .u16 0,.int .u16 0,.int .u16 0,.int .u16 0,.slice none 0 0,.slice none 0 0,.slice none 0 0,.slice none 0 0,.int .u8 0,.int .u8 0,.int .u8 0,.int .u8 0,.int .u8 0,.slice none 0 0]) 25 168 (dk.up bm (Nat.le_refl _) ah) (gS.low bj).rd bo.ones (fun w' hv x cs q=>bo.upd hv (iA ah (by decide) bR) q) (by(try simp only[List.length_append,List.length_cons,List.length_nil,av]);omega) (le (le (le (le (le l.size o.size) J.size) t.size) O.size) ad.size) fun bp bq bZ br P c2=>Pl 1<|nl<|bn<|tn<|go<|L0<|Oi (((k:Nat) : Int)+1)<|Pl 1<|nl<|?_
 have ai:=yw (T:=T) (c:=(b.getD k 0)) z i
 have ak:=SM.byte_ok hok (kE hrb k) ai
 exact er ((k+1),(SM.mk T.dir [] (SM.mk T.dir (T.held++[(b.getD k 0)]) T.skip).size),(L++[Ev.bad 3]),none,0,bp,bq,Z.heap.size) ⟨(ut K (ut (ax.mono (S':=(g :: (ob Bq++[]))) af (ac im aq)) P (ag il aq)) (ac im (ag (aI a lr) aq))),(ax.blk P (aG (aB (al hb) lr a) ay) bl),(aJ.nil base _ _ n8 _),br,P.size,(aQ.far u (ut (ax.mono (S':=(ob Ah++(g :: (ob Bq++[])))) G (ag il (ac im aq))) P (ag il aq)) (d8 (fe hda hdl hat0) (dF hdg (d8 (fc hdl a (Nat.le_refl _)) et)))),(by(try dsimp only);exact iG (by omega) hpj ai),(by(try dsimp only);exact ak.1),(by(try dsimp only);have q:=SM.ok_le ak.1;exact q),(by(try dsimp only);omega),(by(try dsimp only);(try simp only[List.length_append,List.length_cons,List.length_nil]);omega),(by(try dsimp only);exact dS),(by(try dsimp only);exact Nat.le_trans hn0l (Nat.le_trans hnl G.size)),(by(try dsimp only);exact cG)⟩ (by omega)
 have an:=aj r t (fun x hx=>(ae (fun e=>(bu E r (by decide)) (e▸hx)) ay)) (fun _ _ h=>h)
 refine L0<|Oc<|m1 (nC (S:=(SM.mk T.dir (T.held++[(b.getD k 0)]) T.skip)) s (an).rd i) fun c3 Q=>Pl 1<|ng<|Pl 2<|nt<|c1<|go<|Pl 2<|?_
 refine L0<|fb #[.pointer (some ⟨g,0,none⟩)] #[] (args:=#[.pointer (some ⟨g,0,none⟩)])<|qO (oL (S:=(SM.mk T.dir (T.held++[(b.getD k 0)]) T.skip)) (ub Q s) ((aj an Q (fun x hx=>ay) (fun _ _ h=>h))).rd (zt (by rw[i];decide))) fun c4 c5 a0 bs c6 c7 bt ao=>?_
 have ap:=uz Q ao
 have H:=u1 F ap im
 have ar:=aj a H (fun x hx=>(aG ((bC a j (by decide)) x hx) (ae (fun e=>(aB (al hb) lr a) (e▸hx)) ay))) (fun x cs q=>bo.upd H (gw hlow (eD f (by decide) bR)) q)
 have bv:n≤a0.heap.size:=Nat.le_trans hnl H.size
 refine L0<|fx (R:=bo a0.heap.size) (xs:=L) (ys:=([Ev.bad 5])) (.agg #[.int .i64 0,.int .u8 0,.int .u16 0,.int .u8 0,.int .u8 0,.int .u16 0,.int .u16 0,.int .u16 0,.int .u16 0,.int .u16 0,.int .u16 0,.int .u16 0,.int .u16 0,.int .u16 0,.int .u16 0,.slice none 0 0,.slice none 0 0,.slice none 0 0,.slice none 0 0,.int .u8 0,.int .u8 0,.int .u8 0,.int .u8 0,.int .u8 0,.slice none 0 0]) 25 168 (dk.up bv (Nat.le_refl _) ar) (gS.low bs).rd bo.ones (fun w' hv x cs q=>bo.upd hv (iA ar (by decide) bR) q) (by(try simp only[List.length_append,List.length_cons,List.length_nil,av]);omega) (le (le (le (le (le l.size o.size) J.size) t.size) Q.size) ao.size) fun bw bz c8 bA U c9=>Pl 1<|nl<|bn<|tn<|go<|L0<|Oi (((k:Nat) : Int)+1)<|Pl 1<|nl<|?_
 have au:=xS (T:=T) (c:=(b.getD k 0)) z i
 have aw:=SM.byte_ok hok (kE hrb k) au
 exact er ((k+1),(SM.mk T.dir [] (SM.mk T.dir (T.held++[(b.getD k 0)]) T.skip).size),(L++[Ev.bad 5]),none,0,bw,bz,a0.heap.size) ⟨(ut K (ut (ax.mono (S':=(g :: (ob Bq++[]))) ap (ac im aq)) U (ag il aq)) (ac im (ag (aI a lr) aq))),(ax.blk U (aG (aB (al hb) lr a) ay) bt),(aJ.nil base _ _ n8 _),bA,U.size,(aQ.far u (ut (ax.mono (S':=(ob Ah++(g :: (ob Bq++[])))) H (ag il (ac im aq))) U (ag il aq)) (d8 (fe hda hdl hat0) (dF hdg (d8 (fc hdl a (Nat.le_refl _)) et)))),(by(try dsimp only);exact iG (by omega) hpj au),(by(try dsimp only);exact aw.1),(by(try dsimp only);have q:=SM.ok_le aw.1;exact q),(by(try dsimp only);omega),(by(try dsimp only);(try simp only[List.length_append,List.length_cons,List.length_nil]);omega),(by(try dsimp only);exact dS),(by(try dsimp only);exact Nat.le_trans hn0l (Nat.le_trans hnl H.size)),(by(try dsimp only);exact cG)⟩ (by omega)
 have az:=aj r t (fun x hx=>(ae (fun e=>(bu E r (by decide)) (e▸hx)) ay)) (fun _ _ h=>h)
 refine L0<|Oc<|m1 (nv (S:=(SM.mk T.dir (T.held++[(b.getD k 0)]) T.skip)) s (az).rd i) fun ca V=>Pl 1<|ng<|Pl 2<|nt<|c1<|go<|Pl 2<|?_
 refine pr (cE T.dir (T.held++[(b.getD k 0)])) fun aA aC aD=>?_
 refine L0<|fb #[.pointer (some ⟨g,0,none⟩)] #[] (args:=#[.pointer (some ⟨g,0,none⟩)])<|qO (kT (d:=T.dir) (h:=T.held++[(b.getD k 0)]) (k:=T.skip) aD (ub V s) ((aj az V (fun x hx=>ay) (fun _ _ h=>h))).rd (by simp only[List.length_append,List.length_cons,List.length_nil];omega)) fun cc cd a1 bB ce cf bD aF=>?_
 have aH:=uz V aF
 have I:=u1 F aH im
 have aK:=aj a I (fun x hx=>(aG ((bC a j (by decide)) x hx) (ae (fun e=>(aB (al hb) lr a) (e▸hx)) ay))) (fun x cs q=>bo.upd I (gw hlow (eD f (by decide) bR)) q)
 have bE:n≤a1.heap.size:=Nat.le_trans hnl I.size
 refine L0<|fx (R:=bo a1.heap.size) (xs:=L) (ys:=([Ev.mk aC aA])) (.agg #[.int .i64 0,.int .u8 0,.int .u16 0,.int .u8 0,.int .u8 0,.int .u16 0,.int .u16 0,.int .u16 0,.int .u16 0,.int .u16 0,.int .u16 0,.int .u16 0,.int .u16 0,.int .u16 0,.int .u16 0,.slice none 0 0,.slice none 0 0,.slice none 0 0,.slice none 0 0,.int .u8 0,.int .u8 0,.int .u8 0,.int .u8 0,.int .u8 0,.slice none 0 0]) 25 168 (dk.up bE (Nat.le_refl _) aK) (gS.low bB).rd bo.ones (fun w' hv x cs q=>bo.upd hv (iA aK (by decide) bR) q) (by(try simp only[List.length_append,List.length_cons,List.length_nil,av]);omega) (le (le (le (le (le l.size o.size) J.size) t.size) V.size) aF.size) fun bF bH cg bI W ci=>Pl 1<|nl<|bn<|tn<|go<|L0<|Oi (((k:Nat) : Int)+1)<|Pl 1<|nl<|?_
 have aL:=tJ (T:=T) (c:=(b.getD k 0)) z i aD
 have aP:=SM.byte_ok hok (kE hrb k) aL
 exact er ((k+1),(SM.mk T.dir [] T.skip),(L++[Ev.mk aC aA]),none,0,bF,bH,a1.heap.size) ⟨(ut K (ut (ax.mono (S':=(g :: (ob Bq++[]))) aH (ac im aq)) W (ag il aq)) (ac im (ag (aI a lr) aq))),(ax.blk W (aG (aB (al hb) lr a) ay) bD),(aJ.nil base _ _ n8 _),bI,W.size,(aQ.far u (ut (ax.mono (S':=(ob Ah++(g :: (ob Bq++[])))) I (ag il (ac im aq))) W (ag il aq)) (d8 (fe hda hdl hat0) (dF hdg (d8 (fc hdl a (Nat.le_refl _)) et)))),(by(try dsimp only);exact iG (by omega) hpj aL),(by(try dsimp only);exact aP.1),(by(try dsimp only);have q:=SM.ok_le aP.1;exact q),(by(try dsimp only);omega),(by(try dsimp only);(try simp only[List.length_append,List.length_cons,List.length_nil]);omega),(by(try dsimp only);exact dS),(by(try dsimp only);exact Nat.le_trans hn0l (Nat.le_trans hnl I.size)),(by(try dsimp only);exact cG)⟩ (by omega)
 have ba:=of_decide_eq_false X
 refine xt<|tx<|tx<|bx<|tn<|sg<|Pl 2<|nt<|rt<|rr (.slice Bq L.length cq)<|?_
 have hs:S.feed b=(T,L):=by rw[hpj,List.take_of_length_le (by omega)]
 rw[hs]
 exact⟨_,Ah,ch,n,rfl,a,f,j,hat0,⟨hn0l,Nat.le_trans hnl lr⟩,hlow,l⟩
open Go.RowKit
def cN (n base:Nat)(w:World)(g:Nat)(A:Option Addr)(cp:Nat)(S:SM) : Prop:=kZ w g S A cp∧cy base w (.slice A S.held.length cp) S.held∧S.ok∧n≤w.heap.size∧(∀ x,x∈ob A→n≤x)∧base≤w.heap.size
section
variable {n base g cp:Nat}{w w':World}{A:Option Addr}{S:SM}{X:List Nat}
theorem cN.row(h:cN n base w g A cp S) : cy base w (.slice A S.held.length cp) S.held:=h.2.1
theorem cN.low(h:cN n base w g A cp S) : ∀ x,x∈ob A→n≤x:=h.2.2.2.2.1
theorem cN.nle(h:cN n base w g A cp S) : n≤w.heap.size:=h.2.2.2.1
theorem cN.le(h:cN n base w g A cp S) : S.held.length≤259:=SM.ok_le h.2.2.1
theorem cN.lt(h:cN n base w g A cp S) : g<w.heap.size:=al h.1
theorem cN.cells(h:cN n base w g A cp S) : ∃ cs fr,w.heap[g]? = some (.cells cs 131 fr):=⟨_,_,h.1⟩
theorem cN.upd(h:cN n base w g A cp S)(hu:ax X w w')(hg:g∉X)(hr:∀ x,x∈ob A→x∉X) : cN n base w' g A cp S :=
  ⟨hu.blk hg h.1,aj h.2.1 hu hr (fun _ _ q=>q),h.2.2.1,Nat.le_trans h.2.2.2.1 hu.size,h.2.2.2.2.1,Nat.le_trans h.2.2.2.2.2 hu.size⟩
end
theorem SM.feed_ok:∀ (b:List Int)(S:SM)(L:List Ev),S.ok→(∀ x,x∈b→0≤x∧x<256)→(b.foldl (fun(p:SM × List Ev) c=>((p.1.byte c).1,p.2++(p.1.byte c).2)) (S,L)).1.ok∧(b.foldl (fun(p:SM × List Ev) c=>((p.1.byte c).1,p.2++(p.1.byte c).2)) (S,L)).2.length≤L.length+b.length
  | [],S,L,h,_=>⟨h,Nat.le_refl _⟩
  | c :: t,S,L,h,hb=>by
    have k:=SM.byte_ok (S2:=(S.byte c).1) (L2:=(S.byte c).2) h (hb c (List.mem_cons_self ..)) rfl
    have q:=SM.feed_ok t (S.byte c).1 (L++(S.byte c).2) k.1 (fun x hx=>hb x (List.mem_cons_of_mem _ hx))
    refine⟨q.1,Nat.le_trans q.2 ?_⟩
    rw[List.length_append,List.length_cons]
    omega
theorem SM.feed_le{S S2:SM}{b:List Int}{L:List Ev}(h:S.ok)(hb:∀ x,x∈b→0≤x∧x<256)(hX:S.feed b=(S2,L)) : L.length≤b.length:=by
  have q:=(SM.feed_ok b S [] h hb).2
  have e:L=(S.feed b).2:=(congrArg Prod.snd hX).symm
  rw[e]
  rw[List.length_nil,Nat.zero_add] at q
  exact q
def BA (n base:Nat)(S2:SM)(L:List Ev)(g:Nat)(A:Option Addr)(w:World)(e:Ending)(w':World) : Prop:=∃ v A2 cp2 n2,e = .returned v∧dk n2 w.heap.size w' v L∧cN n2 base w' g A2 cp2 S2∧(∀ x,x∈ob A2→x∈ob A∨w.heap.size≤x)∧n≤n2∧ax (g :: (ob A++[])) w w'
theorem qz{w:World}{n base g cp cpb nb:Nat}{S S2:SM}{L:List Ev}{A B:Option Addr}{m:Bool}{b:List Int}(hX:S.feed b=(S2,L))(h:cN n base w g A cp S)(hsl:aQ m w (.slice B nb cpb) b)(hdg:0<nb→∀ x,x∈ob B→x≠g)(hda:lA nb B (ob A))(hbl:b.length≤1048576) :
    Calls Tryz.prog 184 #[.pointer (some ⟨g,0,none⟩),.slice B nb cpb] w (BA n base S2 L g A w):=by
  obtain⟨h1,h2,h3,h4,h5,h6⟩:=h
  obtain rfl:nb=b.length:=by
    obtain⟨_,_,e,_⟩:=hsl.shape
    injection e
  refine(oF h1 h2 h6 h3 h4 h5 hsl hdg hda hbl).mono ?_
  rintro e w' ⟨v,A2,cp2,n2,he,k1,k2,k3,k4,⟨k5,k6⟩,k7,k8⟩
  have hok:=(SM.feed_ok b S [] h3 (aQ.range hsl)).1
  rw[hX] at k1 k2 k3
  have e2:S2=(S.feed b).1:=(congrArg Prod.fst hX).symm
  exact⟨v,A2,cp2,n2,he,k1,⟨k2,k3,by rw[e2];exact hok,k6,k7,Nat.le_trans h6 k8.size⟩,k4,k5,k8⟩
theorem qI(d:Int){w:World}(hq:Calls Tryz.prog 48 #[.int .i64 d] w (fun e w'=>∃ g,e = .returned (.pointer (some ⟨g,0,none⟩))∧w.heap.size≤g∧kZ w' g ⟨d,[],0⟩ none 0∧ax [] w w')) :
    Calls Tryz.prog 48 #[.int .i64 d] w (fun e w'=>∃ g,e = .returned (.pointer (some ⟨g,0,none⟩))∧w.heap.size≤g∧cN w.heap.size w.heap.size w' g none 0 ⟨d,[],0⟩∧ax [] w w'):=by
  refine hq.mono ?_
  rintro e w' ⟨g,he,h1,h2,h3⟩
  exact⟨g,he,h1,⟨h2,aJ.nil ..,⟨⟨(show(0:Int)≤0 from by decide),(show(0:Int)<65536 from by decide)⟩,(fun x hx=>by cases hx),.inl (show 0<6 from by decide)⟩,h3.size,cG,h3.size⟩,h3⟩
theorem tV{w:World}{n base g cp:Nat}{S:SM}{A:Option Addr}(h:cN n base w g A cp S) : Calls Tryz.prog 185 #[.pointer (some ⟨g,0,none⟩)] w (bv (.int .i64 ((S.held.length:Nat) : Int)) w):=pv h.1 h.2.1.rd
open Go.RowKit
section
variable {P:Program}{Q:Exit→Act→World→Prop}{n:Nat}{D:List Deferred}{F:Fr}{w:World}{c:Code}{l:Nat}
theorem Bx(h:GC P c (Exit.noGoto Q) n D F w) : GC P (.scope c) Q n D F w:=⟨fun a ha=>wp_scope_straight (h.out a ha)⟩
theorem BL(h:GQ Q .normal n D F w) : GC P (.label l) Q n D F w:=⟨fun a ha=>wp_label (h.out a ha)⟩
theorem gr(h:GQ Q .ret n D F w) : GQ (Exit.noGoto Q) .ret n D F w:=⟨fun a ha=>h.out a ha⟩
end
open Go.RowKit
abbrev cK (xs:List Int) : Prop:=∀ x,x∈xs→0≤x∧x<256
theorem mI{x:Int}(h:0≤x∧x<256) : ((UInt8.ofNat x.toNat).toNat:Int)=x:=by
  simp only[UInt8.toNat_ofNat']
  omega
theorem gY{xs:List Int}{j:Nat}(hj:j<xs.length)(hs:j<(strOfNums xs).size) : (strOfNums xs)[j]=UInt8.ofNat (xs.getD j 0).toNat:=by
  show(strOfNums xs).data[j]=_
  simp[strOfNums,List.getD_eq_getElem?_getD,List.getElem?_eq_getElem hj]
theorem oH{P:Program}{w:World}{ev:Operand→Value}{o:Oper}{x ix:Operand}{t:TypeId}{xs:List Int}{k:IntKind}{i:Int}(j:Nat)(ho:o.op = .index t x ix)(ht:P.underlying t=some .string)(hx:ev x = .string (strOfNums xs))(hi:ev ix = .int k i)(hr:cK xs)(hj:i=(j:Int))(hlt:j<xs.length) : (execOp ev o).run P w = .ok (.value (.int .u8 (xs.getD j 0))) w:=by
  subst hj
  have hs:j<(strOfNums xs).size:=by rw[strOfNums_size];exact hlt
  have h:=run_index_string (P:=P) w t (strOfNums xs) k (j:Int) ht
  rw[dif_pos (by omega)] at h
  have hg:xs.getD j 0∈xs:=by
    rw[List.getD_eq_getElem?_getD,List.getElem?_eq_getElem hlt]
    exact List.getElem_mem hlt
  unfold execOp
  simp only[ho,hx,hi,Sem.run_bind,h,Result.andThen,Sem.run_pure]
  have e:((strOfNums xs)[((j:Nat) : Int).toNat]'(by simpa using hs))=UInt8.ofNat (xs.getD j 0).toNat:=by
    simp only[Int.toNat_natCast]
    exact gY hlt hs
  rw[e,mI (hr _ hg)]
theorem fl(xs:List Int)(a b:Nat)(hb:b≤xs.length) : (strOfNums xs).extract a b=strOfNums ((xs.take b).drop a):=by
  apply ByteArray.ext
  rw[ByteArray.data_extract]
  apply Array.toList_inj.1
  rw[Array.toList_extract]
  simp[strOfNums,List.extract,List.map_drop,List.map_take,List.drop_take]
theorem lH{P:Program}{w:World}{ev:Operand→Value}{o:Oper}{x y:Operand}{t:TypeId}{xs:List Int}{k:IntKind}{i:Int}(j:Nat)(ho:o.op = .slice t x (some y) none none)(ht:P.underlying t=some .string)(hx:ev x = .string (strOfNums xs))(hy:ev y = .int k i)(hj:i=(j:Int))(hlt:j≤xs.length) : (execOp ev o).run P w = .ok (.value (.string (strOfNums (xs.drop j)))) w:=by
  subst hj
  have hu:(underlying t).run P w = .ok .string w:=run_underlying ht w
  have h:=run_slice_string_l (P:=P) w t (strOfNums xs) ht k (j:Int) (by omega) (by rw[strOfNums_size];omega)
  rw[strOfNums_size,fl _ _ _ (Nat.le_refl _),List.take_length,Int.toNat_natCast] at h
  unfold execOp
  simp only[ho,Option.map_some,Option.map_none,hx,hy,Instr.sliceAt,Sem.run_bind,hu,h,Result.andThen,Sem.run_pure]
theorem sK{P:Program}{w:World}{ev:Operand→Value}{o:Oper}{x y:Operand}{t:TypeId}{xs:List Int}{k:IntKind}{i:Int}(j:Nat)(ho:o.op = .slice t x none (some y) none)(ht:P.underlying t=some .string)(hx:ev x = .string (strOfNums xs))(hy:ev y = .int k i)(hj:i=(j:Int))(hlt:j≤xs.length) : (execOp ev o).run P w = .ok (.value (.string (strOfNums (xs.take j)))) w:=by
  subst hj
  have hu:(underlying t).run P w = .ok .string w:=run_underlying ht w
  have h:=run_slice_string_h (P:=P) w t (strOfNums xs) ht k (j:Int) (by omega) (by rw[strOfNums_size];omega)
  rw[Int.toNat_natCast,fl _ _ _ hlt,List.drop_zero] at h
  unfold execOp
  simp only[ho,Option.map_some,Option.map_none,hx,hy,Instr.sliceAt,Sem.run_bind,hu,h,Result.andThen,Sem.run_pure]
theorem l6(xs ys:List Int) : strOfNums xs++strOfNums ys=strOfNums (xs++ys):=by
  apply ByteArray.ext
  simp[strOfNums,ByteArray.data_append]
theorem nw{P:Program}{w:World}{ev:Operand→Value}{o:Oper}{x y:Operand}{t t':TypeId}{a b:ByteArray}{xs ys:List Int}(ho:o.op = .binOp .add t x y t')(hx:ev x = .string a)(hy:ev y = .string b)(ha:a=strOfNums xs)(hb:b=strOfNums ys)(hl:xs.length+ys.length≤1048576) : (execOp ev o).run P w = .ok (.value (.string (strOfNums (xs++ys)))) w:=by
  subst ha hb
  have hg:eqGuard .add t x y (.string (strOfNums xs)) (.string (strOfNums ys))=pure ():=rfl
  unfold execOp
  simp only[ho,hx,hy,hg,Sem.run_bind,Sem.run_pure,Result.andThen]
  have h:(binOp .add t (.string (strOfNums xs)) (.string (strOfNums ys))).run P w = .ok (.string (strOfNums (xs++ys))) w:=by
    show(Op.stringOp .add _ _).run P w=_
    unfold Op.stringOp
    rw[← l6]
    have:¬ ((((strOfNums xs).size+(strOfNums ys).size:Nat) : Int) > IntKind.i64.max):=by
      rw[strOfNums_size,strOfNums_size]
      show ¬ (((xs.length+ys.length:Nat) : Int) > 9223372036854775807)
      omega
    dsimp only
    rw[if_neg this]
    rfl
  rw[h]
theorem iE{xs ys:List Int}(h:cK xs)(k:cK ys) : cK (xs++ys):=fun x hx=>by
  rcases List.mem_append.1 hx with h1|h1
  · exact h x h1
  · exact k x h1
theorem j4{xs:List Int}(h:cK xs)(j:Nat) : cK (xs.drop j):=fun x hx=>h x (List.mem_of_mem_drop hx)
theorem lF{xs:List Int}(h:cK xs)(j:Nat) : cK (xs.take j):=fun x hx=>h x (List.mem_of_mem_take hx)
theorem wj{xs ys:List Int}(hx:cK xs)(hy:cK ys) : ((strOfNums xs).toList==(strOfNums ys).toList)=decide (xs=ys):=by
  have e:∀ zs:List Int,(strOfNums zs).toList=zs.map fun n=>UInt8.ofNat n.toNat:=fun zs=>by
    rw[ByteArray.toList_eq]
    rfl
  rw[e,e]
  by_cases h:xs=ys
  · subst h;simp
  · rw[decide_eq_false h,beq_eq_false_iff_ne]
    exact fun k=>h (j8 xs ys hx hy k)
def iK (base:Nat)(w:World)(v:Value)(xs:List Int) : Prop:=∃ g cap cur n,v = .slice (some ⟨g,0,none⟩) xs.length cap∧base≤g∧w.heap[g]? = some (.cells cur 5 (n,n+1))∧xs.length≤n∧xs.length≤cap∧cap≤maxLen∧cur.toList.take xs.length=xs.map (Value.int .u8)∧cK xs
theorem iK.rd{base:Nat}{w:World}{v:Value}{xs:List Int}(h:iK base w v xs) : aQ true w v xs:=by
  obtain⟨g,cap,cur,n,rfl,hb,hh,h1,h2,h3,h4,h5⟩:=h
  refine⟨_,_,rfl,h2,h3,(fun hA=>by cases hA),fun hp=>⟨g,0,cur,_,_,rfl,hh,fun _=>rfl,fun j x hj=>?_⟩⟩
  refine⟨[.int .u8 x],rfl,⟨rfl,h5 x (List.mem_of_getElem? hj)⟩,fun i u hi=>?_⟩
  cases i with
  | succ i=>simp at hi
  | zero =>
    have hi:Value.int .u8 x=u:=by simpa using hi
    subst hi
    have h6:(xs.map (Value.int .u8))[j]? = some (.int .u8 x):=by rw[List.getElem?_map,hj];rfl
    rw[← h4,List.getElem?_take] at h6
    split at h6
    · simpa using h6
    · cases h6
theorem iK.ge{base g m c:Nat}{w:World}{xs:List Int}(h:iK base w (.slice (some ⟨g,0,none⟩) m c) xs) : base≤g:=by
  obtain⟨g',cap,cur,n,hv,hb,_⟩:=h
  injection hv with e1 _ _
  injection e1 with e1
  injection e1 with e1 _
  rw[e1]
  exact hb
theorem iK.shape{base:Nat}{w:World}{v:Value}{xs:List Int}(h:iK base w v xs) : ∃ g cp,v = .slice (some ⟨g,0,none⟩) xs.length cp:=by
  obtain⟨g,cap,cur,n,hv,_⟩:=h
  exact⟨g,cap,hv⟩
theorem nc{P:Program}{w:World}{src dst e:TypeId}{xs:List Int}(hs:P.underlying src=some .string)(hd:P.underlying dst=some (.slice e))(he:P.underlying e=some (.int .u8))(hte:e=5)(hr:cK xs)(hl:xs.length≤1048576) :
    ∃ cp w',(convert src dst (.string (strOfNums xs))).run P w = .ok (.slice (some ⟨w.heap.size,0,none⟩) xs.length cp) w'∧iK w.heap.size w' (.slice (some ⟨w.heap.size,0,none⟩) xs.length cp) xs∧ax [] w w':=by
  subst hte
  have h:=Lib.run_convert_string_bytes (P:=P) w src dst _ (strOfNums xs) hs hd he
  rw[strOfNums_size] at h
  refine⟨_,_,h,⟨_,_,_,_,rfl,Nat.le_refl _,Lib.bytesWorld_at_new w _ (strOfNums xs),?_,?_,?_,?_,hr⟩,?_⟩
  · simp[Lib.bytesCells,strOfNums]
  · exact grownCap_ge ..
  · exact grownCap_le_maxLen _ _ _ _ (by unfold maxLen;omega)
  · simp only[Lib.bytesCells]
    rw[Array.toList_append,List.take_append_of_le_length (by simp[strOfNums])]
    rw[List.take_of_length_le (by simp[strOfNums])]
    simp only[strOfNums,Array.toList_map,List.map_map]
    apply List.map_congr_left
    intro x hx
    show Value.int .u8 _=_
    rw[mI (hr x hx)]
  · exact⟨rfl,rfl,rfl,by rw[Lib.bytesWorld_size];omega,fun k hk _=>Lib.bytesWorld_at_old w _ _ k hk⟩
section
variable {P:Program}{n:Nat}{D:List Deferred}{F:Fr}{w:World}{K:Fr→World→Prop}{Q:Exit→Act→World→Prop}{d:Option Tmp}{t:TypeId}{s:String}{af:Array Edge}{gu:Option (Nat × Bool)}
theorem mi{a:Act}{o:Oper}{N:Option Tmp}{K:Act→World→Prop}{w1:World}(v:Value)(hN:o.dst=N)(hr:(execOp a.eval o).run P w = .ok (.value v) w1)(h:K (a.put N v) w1) : OW P o a w K Q:=by
  refine OW.mk ?_
  subst hN
  unfold Oper.wp
  rw[hr]
  exact h
theorem Bw{src dst:TypeId}{x:Operand}{xs:List Int}(hs:P.underlying src=some .string)(hd:P.underlying dst=some (.slice 5))(he:P.underlying 5=some (.int .u8))(hr:cK xs)(hl:xs.length≤1048576)
    (h:∀ A cp w',iK w.heap.size w' (.slice A xs.length cp) xs→ax [] w w'→K (pt d (.slice A xs.length cp) F) w') (hx:dJ F x=some (.string (strOfNums xs)):=by kernel_rfl) (hk:eE n d=true:=by kernel_rfl) : OG P ⟨d,.convert src dst x,t,s,af,gu⟩ n D F w K Q:=by
  obtain⟨cp,w',h1,h2,h3⟩:=nc (P:=P) (w:=w) hs hd he rfl hr hl
  refine⟨fun a ha K' hK=>mi _ rfl (w1:=w') ?_ (hK _ _ _ (h _ _ _ h2 h3) (ha.put hk))⟩
  have hx':=ha.ev hx
  unfold execOp
  simp only[hx',Sem.run_bind,h1,Result.andThen,Sem.run_pure]
theorem As{ty:TypeId}{x:Operand}{sv:ByteArray}(hs:P.underlying ty=some .string)(h:∀ g w',w.heap.size≤g→w'.heap[g]? = some (.stringIter sv 0)→ax [] w w'→K (pt d (.pointer (some ⟨g,0,none⟩)) F) w')
    (hx:dJ F x=some (.string sv):=by kernel_rfl) (hk:eE n d=true:=by kernel_rfl) : OG P ⟨d,.range ty x,t,s,af,gu⟩ n D F w K Q:=by
  refine⟨fun a ha K' hK=>mi (.pointer (some ⟨w.heap.size,0,none⟩)) rfl (w1:=w.alloc (.stringIter sv 0)) ?_ (hK _ _ _ (h _ _ (Nat.le_refl _) (d7 _ _) ((ax.refl _ _).alloc _)) (ha.put hk))⟩
  have hx':=ha.ev hx
  unfold execOp
  simp only[hx',Sem.run_bind,run_range_string w ty sv hs,Result.andThen,Sem.run_pure]
  rfl
theorem th{xs:List Int}(hr:cK xs)(h0:0<xs.length) : ((((Utf8.decode (strOfNums xs) 0).1:Nat) : Int)=58↔xs.getD 0 0=58):=by
  have hs:0<(strOfNums xs).size:=by rw[strOfNums_size];exact h0
  have hm:xs.getD 0 0∈xs:=by
    rw[List.getD_eq_getElem?_getD,List.getElem?_eq_getElem h0]
    exact List.getElem_mem h0
  have hb:=hr _ hm
  have h1:((strOfNums xs).get! 0).toNat=(xs.getD 0 0).toNat:=by
    have e:(strOfNums xs).get! 0=(strOfNums xs)[0]:=by
      show(strOfNums xs).data[0]! = _
      rw[getElem!_pos (strOfNums xs).data 0 hs]
      rfl
    rw[e,gY h0 hs]
    simp only[UInt8.toNat_ofNat']
    omega
  unfold Utf8.decode
  simp only[Nat.zero_add,h1,Utf8.runeError]
  split
  · omega
  · split
    · split
      · rename_i h2 h3 h4;simp only;omega
      · simp only;omega
    · split
      · split
        · rename_i h2 h3 h4 h5;simp only[Bool.and_eq_true,decide_eq_true_eq] at h5;simp only;omega
        · simp only;omega
      · split
        · split
          · rename_i h2 h3 h4 h5 h6;simp only[Bool.and_eq_true,decide_eq_true_eq] at h6;simp only;omega
          · simp only;omega
        · simp only;omega
theorem BS{x:Operand}{xs:List Int}{r:Nat}(hr:cK xs)(h0:0<xs.length)(B:w.heap[r]? = some (.stringIter (strOfNums xs) 0))(h:∀ c w',(c=58↔xs.getD 0 0=58)→ax [r] w w'→K (pt d (.tuple #[.bool true,.int .i64 0,.int .i32 c]) F) w')
    (hx:dJ F x=some (.pointer (some ⟨r,0,none⟩)):=by kernel_rfl) (hk:eE n d=true:=by kernel_rfl) : OG P ⟨d,.next x true,t,s,af,gu⟩ n D F w K Q:=by
  have hlt:=al B
  have hrun:=Lib.run_next_any_at (P:=P) w r (strOfNums xs) 0 t B (by rw[strOfNums_size];exact h0)
  refine⟨fun a ha K' hK=>mi _ rfl (w1:=w.iterAt r (strOfNums xs) (0+(Utf8.decode (strOfNums xs) 0).2)) ?_ (hK _ _ _ (h (((Utf8.decode (strOfNums xs) 0).1:Nat) : Int) _ (th hr h0) ?_) (ha.put hk))⟩
  · have hx':=ha.ev hx
    unfold execOp
    simp only[hx',Sem.run_bind,hrun,Result.andThen,Sem.run_pure]
    rfl
  · refine⟨rfl,rfl,rfl,?_,fun k hk hn=>?_⟩
    · simp[World.iterAt]
    · have:r≠k:=fun e=>hn (by simp[e])
      simp[World.iterAt,Array.getElem?_setIfInBounds,this]
end
open Go.RowKit
def eZ (xs ys:List Int) : Bool:=decide (((ys.length:Nat) : Int)≤((xs.length:Nat) : Int))&&decide (xs.drop (((xs.length:Nat) : Int)-((ys.length:Nat) : Int)).toNat=ys)
theorem ww{m m2:Bool}{A B:Option Addr}{n n2 c c2:Nat}{xs ys:List Int}{w:World}(h1:aQ m w (.slice A n c) xs)(h2:aQ m2 w (.slice B n2 c2) ys) : Calls Tryz.prog 172 #[.slice A n c,.slice B n2 c2] w (bv (.bool (decide (xs=ys))) w):=by
 refine en 10 Tryz.func172 rfl<|sg<|Pl 1<|ng<|Pl 1<|L0<|iv (.string (strOfNums xs)) (cl (A:=A) (n:=n) (c:=c) rfl (by kernel_rfl) Tryz.underlying27 Tryz.underlying5 Tryz.underlying9 h1)<|Pl 1<|L0<|iv (.string (strOfNums ys)) (cl (A:=B) (n:=n2) (c:=c2) rfl (by kernel_rfl) Tryz.underlying27 Tryz.underlying5 Tryz.underlying9 h2)<|L0<|iv (.bool (decide (xs=ys))) (ey (a:=(strOfNums xs)) (b:=(strOfNums ys)) rfl (by kernel_rfl) (by kernel_rfl) (i7 h1 h2))<|Pl 1<|nl<|?_
 refine tn<|rt<|rr (.bool (decide (xs=ys)))<|?_
 exact⟨rfl,(ax.refl [] _)⟩
theorem vl{m m2:Bool}{A B:Option Addr}{c c2:Nat}{xs ys:List Int}{w:World}(h1:aQ m w (.slice A xs.length c) xs)(h2:aQ m2 w (.slice B ys.length c2) ys) : Calls Tryz.prog 170 #[.slice A xs.length c,.slice B ys.length c2] w (bv (.bool (eZ xs ys)) w):=by
 have hz1:=aO.len h1
 have hz2:=aO.len h2
 have hz3:=aO.cap h1
 refine en 21 Tryz.func170 rfl<|sg<|Pl 1<|ng<|Pl 6<|bl 10 ((decide (((ys.length:Nat) : Int)≤((xs.length:Nat) : Int)))) (fun a=>?_) (fun a=>?_)
 have b:=of_decide_eq_true a
 refine Pl 5<|L1<|Oi (((xs.length:Nat) : Int)-((ys.length:Nat) : Int))<|u4 (m6 (P:=Tryz.prog) 27 5 1 Tryz.underlying27 rfl rfl A xs.length c (lo:=(((xs.length:Nat) : Int)-((ys.length:Nat) : Int))) (((((xs.length:Nat) : Int)-((ys.length:Nat) : Int))).toNat) (by omega) (by omega)) fun d hrun12 e=>L1<|iv (.slice d (xs.length-(((((xs.length:Nat) : Int)-((ys.length:Nat) : Int))).toNat)) (c-(((((xs.length:Nat) : Int)-((ys.length:Nat) : Int))).toNat))) (eL (kl:=.i64) (k:=(((xs.length:Nat) : Int)-((ys.length:Nat) : Int))) (A:=A) (n:=xs.length) (c:=c) rfl Tryz.underlying27 (by kernel_rfl) (by kernel_rfl) (hrun12 _ _))<|Pl 1<|L1<|Oc<|m1 (ww (xs:=(xs.drop (((((xs.length:Nat) : Int)-((ys.length:Nat) : Int))).toNat))) (ys:=ys) (e _ _ _ _ _ h1) h2) fun g f=>Pl 2<|nt<|rt<|rr (.bool (decide ((xs.drop (((((xs.length:Nat) : Int)-((ys.length:Nat) : Int))).toNat))=ys)))<|?_
 have hs:(decide ((xs.drop (((((xs.length:Nat) : Int)-((ys.length:Nat) : Int))).toNat))=ys))=eZ xs ys:=by unfold eZ;simp only[a,bs,if_true,if_false,decide_true,decide_false,Bool.true_and,Bool.false_and,Bool.and_true,Bool.and_false]
 rw[hs]
 exact⟨rfl,f⟩
 have b:=of_decide_eq_false a
 refine Pl 11<|nt<|rt<|rr (.bool false)<|?_
 have hs:false=eZ xs ys:=by unfold eZ;simp only[a,bs,if_true,if_false,decide_true,decide_false,Bool.true_and,Bool.false_and,Bool.and_true,Bool.and_false]
 rw[hs]
 exact⟨rfl,(ax.refl [] _)⟩
theorem xk{m m2:Bool}{u v:Value}{xs ys:List Int}{w:World}(h1:aQ m w u xs)(h2:aQ m2 w v ys) : Calls Tryz.prog 170 #[u,v] w (bv (.bool (eZ xs ys)) w):=by
  obtain⟨A,c,rfl,_,_⟩:=h1.shape
  obtain⟨B,c2,rfl,_,_⟩:=h2.shape
  exact vl h1 h2
end Go.Proofs.YtpglhicfhppaiaaGreat
namespace Go.Proofs.YtpglhicfhppaiaaGreat
def iC (b:List Int) : Nat→Int
  | 0=>0
  | k+1=>(iC b k+b.getD k 0)%256
def pZ (b:List Int) : Int:=iC b b.length
def cS (b:List Int) : Int:=(0-pZ b)%256
def eR (b:List Int) : Bool:=decide (0<((b.length:Nat) : Int))&&(cS b==0)
theorem v7(b:List Int) : ∀ k,0≤iC b k∧iC b k<256
  | 0=>by unfold iC;omega
  | k+1=>by unfold iC;omega
def dI (n:Int) : Int:=if n<10 then 48+n else 55+n
def cm (c:Int) : Int:=if 48≤c∧c≤57 then c-48 else if 65≤c∧c≤70 then c-55 else -1
def cY:List Int→List Int
  | []=>[]
  | c :: b=>dI (c/16) :: dI (c%16) :: cY b
def bV:List Int→Option (List Int)
  | []=>some []
  | [_]=>none
  | a :: b :: r=>if cm a<0∨cm b<0 then none else (bV r).map fun l=>(16*cm a+cm b)%256 :: l
theorem iT{n:Int}(h:0≤n∧n<16) : 48≤dI n∧dI n≤70:=by unfold dI;split<;>omega
theorem iX{n:Int}(h:0≤n∧n<16) : cm (dI n)=n:=by
  unfold dI
  split<;>unfold cm
  · rw[if_pos (by omega)];omega
  · rw[if_neg (by omega),if_pos (by omega)];omega
theorem j3{c:Int}(h:0≤cm c) : dI (cm c)=c∧cm c<16:=by
  unfold cm at h ⊢
  split at h
  · rename_i h1
    rw[if_pos h1]
    unfold dI
    rw[if_pos (by omega)]
    omega
  · rename_i h1
    split at h
    · rename_i h2
      rw[if_neg h1,if_pos h2]
      unfold dI
      rw[if_neg (by omega)]
      omega
    · omega
theorem mc(c:Int) : cm c<16∧-1≤cm c:=by unfold cm;split;omega;split<;>omega
theorem dc:∀ b:List Int,(cY b).length=2*b.length
  | []=>rfl
  | c :: b=>by simp only[cY,List.length_cons,dc b];omega
theorem nO:∀ a b:List Int,cY (a++b)=cY a++cY b
  | [],b=>rfl
  | c :: a,b=>by simp only[List.cons_append,cY,nO a b]
theorem lU:∀ b:List Int,(∀ x,x∈b→0≤x∧x<256)→bV (cY b)=some b
  | [],_=>rfl
  | c :: b,h=>by
    have hc:=h c (List.mem_cons_self ..)
    have h1:=iX (n:=c/16) (by omega)
    have h2:=iX (n:=c%16) (by omega)
    simp only[cY,bV]
    rw[h1,h2,if_neg (by omega),lU b fun x hx=>h x (List.mem_cons_of_mem _ hx),show(16*(c/16)+c%16)%256=c from by omega]
    rfl
theorem kD:∀ {s x:List Int},bV s=some x→s=cY x∧∀ y,y∈x→0≤y∧y<256
  | [],x,h=>by
    injection h with h
    subst h
    exact⟨rfl,fun y hy=>by cases hy⟩
  | [_],x,h=>by cases h
  | a :: b :: r,x,h=>by
    simp only[bV] at h
    split at h
    · cases h
    · rename_i hd
      cases hr:bV r with
      | none=>rw[hr] at h;cases h
      | some l =>
        rw[hr] at h
        injection h with h
        obtain⟨h1,h2⟩:=kD hr
        have ha:=j3 (c:=a) (by omega)
        have hb:=j3 (c:=b) (by omega)
        subst h
        refine⟨?_,fun y hy=>?_⟩
        · simp only[cY]
          rw[show(16*cm a+cm b)%256/16=cm a from by omega,show(16*cm a+cm b)%256%16=cm b from by omega,ha.1,hb.1,← h1]
        · rcases List.mem_cons.1 hy with rfl | hy
          · omega
          · exact h2 y hy
theorem pL{xs:List Int}{k:Nat}(h:2*k+1<xs.length)(ha:¬ cm (xs.getD (2*k) 0)<0)(hb:¬ cm (xs.getD (2*k+1) 0)<0) : bV (xs.drop (2*k))=(bV (xs.drop (2*(k+1)))).map fun l=>[(16*cm (xs.getD (2*k) 0)+cm (xs.getD (2*k+1) 0))%256]++l:=by
  have e1:xs.getD (2*k) 0=xs[2*k]:=by rw[List.getD_eq_getElem?_getD,List.getElem?_eq_getElem (by omega)];rfl
  have e2:xs.getD (2*k+1) 0=xs[2*k+1]:=by rw[List.getD_eq_getElem?_getD,List.getElem?_eq_getElem h];rfl
  rw[List.drop_eq_getElem_cons (show 2*k<xs.length by omega),List.drop_eq_getElem_cons h,← e1,← e2]
  simp only[bV]
  rw[if_neg (by omega),show 2*k+1+1=2*(k+1) by omega]
  rfl
theorem ta{xs:List Int}{k:Nat}(h:2*k+1<xs.length)(hd:cm (xs.getD (2*k) 0)<0∨cm (xs.getD (2*k+1) 0)<0) : bV (xs.drop (2*k))=none:=by
  have e1:xs.getD (2*k) 0=xs[2*k]:=by rw[List.getD_eq_getElem?_getD,List.getElem?_eq_getElem (by omega)];rfl
  have e2:xs.getD (2*k+1) 0=xs[2*k+1]:=by rw[List.getD_eq_getElem?_getD,List.getElem?_eq_getElem h];rfl
  rw[List.drop_eq_getElem_cons (show 2*k<xs.length by omega),List.drop_eq_getElem_cons h,← e1,← e2]
  simp only[bV]
  rw[if_pos hd]
theorem m5:∀ {xs:List Int},xs.length%2≠0→bV xs=none
  | [],h=>by simp at h
  | [_],_=>rfl
  | a :: b :: r,h=>by
    simp only[bV]
    split
    · rfl
    · rw[m5 (by simp only[List.length_cons] at h;omega)]
      rfl
theorem rI{s x:List Int}(h:bV s=some x) : s.length=2*x.length:=by
  obtain⟨h1,_⟩:=kD h
  rw[h1,dc]
theorem rL{xs L:List Int}{k:Nat}(h:bV xs=(bV (xs.drop (2*k))).map fun l=>L++l)(h1:¬ 2*k<xs.length) : bV xs=some L:=by
  rw[List.drop_eq_nil_of_le (by omega)] at h
  rw[h]
  simp[bV]
theorem pH{xs L:List Int}{k:Nat}(h:bV xs=(bV (xs.drop (2*k))).map fun l=>L++l)(h2:2*k+1<xs.length)(ha:¬ cm (xs.getD (2*k) 0)<0)(hb:¬ cm (xs.getD (2*k+1) 0)<0) : bV xs=(bV (xs.drop (2*(k+1)))).map fun l=>(L++[(16*cm (xs.getD (2*k) 0)+cm (xs.getD (2*k+1) 0))%256])++l:=by
  rw[h,pL h2 ha hb]
  cases bV (xs.drop (2*(k+1))) with
  | none=>rfl
  | some l=>simp
theorem uY{xs L:List Int}{k:Nat}(h:bV xs=(bV (xs.drop (2*k))).map fun l=>L++l)(h2:2*k+1<xs.length)(hd:cm (xs.getD (2*k) 0)<0∨cm (xs.getD (2*k+1) 0)<0) : bV xs=none:=by
  rw[h,ta h2 hd]
  rfl
theorem tq(b:List Int)(k:Nat)(h:k<b.length) : cY (b.take (k+1))=(cY (b.take k)++[dI (b.getD k 0/16)])++[dI (b.getD k 0%16)]:=by
  rw[List.take_succ_eq_append_getElem h,nO,List.getD_eq_getElem?_getD,List.getElem?_eq_getElem h]
  simp[cY]
open Go.RowKit
theorem wu{w:World}{g:Nat}{c s:Int}(hg:w.heap[g]? = some (.cells #[.int .u8 s] 5 (0,0))) : Calls Tryz.prog 182 #[.int .u8 c,.pointer (some ⟨g,0,none⟩)] w (fun e w'=>e = .returned (.tuple #[])∧w'.heap[g]? = some (.cells #[.int .u8 ((s+c)%256)] 5 (0,0))∧ax [g] w w'):=by
 refine en 6 Tryz.func182 rfl<|go<|L0<|aN hg 0<|Pl 2<|L0<|cn hg 0 #[.int .u8 ((s+c)%256)] fun d a b=>nl<|rm (.tuple #[])<|?_
 exact⟨rfl,a,b⟩
theorem tu{m:Bool}{A:Option Addr}{cp:Nat}{b:List Int}{w0 w:World}{g:Nat}(hu0:ax [] w0 w)(hg0:w0.heap.size≤g)(hsl:aQ m w0 (.slice A b.length cp) b)(hg:w.heap[g]? = some (.cells #[.int .u8 (iC b 0)] 5 (0,0))) :
    Calls Tryz.prog 181 #[.slice A b.length cp,.func (.func 182) #[] #[.pointer (some ⟨g,0,none⟩)]] w (fun e w'=>e = .returned (.tuple #[])∧w'.heap[g]? = some (.cells #[.int .u8 (pZ b)] 5 (0,0))∧ax [] w0 w'∧w.heap.size≤w'.heap.size):=by
 have hln:=aO.len hsl
 refine en 16 Tryz.func181 rfl<|sg<|Pl 3<|nt<|bk<|?_
 refine ir (fun x=>[(1,.func (.func 182) #[] #[.pointer (some ⟨g,0,none⟩)]),(6,.slice A b.length cp),(7,.int .i64 ((b.length:Nat) : Int)),(8,.int .i64 ((x:Nat) : Int))]) (fun(x:Nat) w'=>ax [] w0 w'∧w.heap.size≤w'.heap.size∧w'.heap[g]? = some (.cells #[.int .u8 (iC b x)] 5 (0,0))∧(x≤b.length)) (fun x=>b.length-x) 0 ⟨hu0,lr,hg,(by(try dsimp only);omega)⟩ ?_
 rintro k j ⟨a,f,l,n⟩
 refine it [(1,.func (.func 182) #[] #[.pointer (some ⟨g,0,none⟩)]),(6,.slice A b.length cp),(7,.int .i64 ((b.length:Nat) : Int)),(8,.int .i64 ((k:Nat) : Int))] ?_
 have h:j.heap[g]? = some (.cells #[.int .u8 (iC b k)] 5 (0,0)):=l
 have y:k≤b.length:=n
 refine sg<|Pl 1<|nt<|sq<|cb ((decide (((k:Nat) : Int)<((b.length:Nat) : Int)))) (fun d=>?_) (fun d=>?_)
 have o:=of_decide_eq_true d
 refine bG<|sq<|bk<|sg<|?_
 refine gX (aQ.at_ (aQ.old hsl a) k (by omega)) fun q r s t z=>L0<|oU b.length k s (by omega)<|L0<|kY (p:=⟨q,r+k,none⟩) (v:=.int .u8 (b.getD k 0)) t<|Pl 1<|nt<|go<|Pl 2<|L0<|fb #[] #[.pointer (some ⟨g,0,none⟩)] (args:=#[.int .u8 (b.getD k 0),.pointer (some ⟨g,0,none⟩)])<|m2 (wu (c:=(b.getD k 0)) h) fun B u i=>nl<|bn<|tn<|go<|L0<|Oi (((k:Nat) : Int)+1)<|?_
 refine Pl 1<|nl<|?_
 exact er (k+1) ⟨(ud a i hg0),(le f i.size),u,(by(try dsimp only);omega)⟩ (by omega)
 have o:=of_decide_eq_false d
 refine xt<|tx<|tx<|bx<|rm (.tuple #[])<|?_
 have hk:k=b.length:=by omega
 subst hk
 exact⟨rfl,h,a,f⟩
theorem pz{m:Bool}{A:Option Addr}{cp:Nat}{b:List Int}{w:World}(hsl:aQ m w (.slice A b.length cp) b) :
    Calls Tryz.prog 178 #[.slice A b.length cp] w (bv (.int .u8 (cS b)) w):=by
 refine en 9 Tryz.func178 rfl<|sg<|Pl 1<|ng<|L0<|bI #[.int .u8 0] fun h i a c d=>L0<|cn c 0 #[.int .u8 0] fun j db e=>ng<|?_
 refine Pl 2<|?_
 refine L0<|Oc<|m3 (tu (ud d e a) a hsl db) fun k f g l=>ng<|L0<|aN f 0<|Pl 2<|nt<|rt<|rr (.int .u8 ((0-(pZ b))%256))<|?_
 exact⟨rfl,g⟩
theorem lK{m:Bool}{v:Value}{b:List Int}{w:World}(h:aQ m w v b) : Calls Tryz.prog 178 #[v] w (bv (.int .u8 (cS b)) w):=by
  obtain⟨A,cp,rfl,_,_⟩:=h.shape
  exact pz h
theorem pG{m:Bool}{A:Option Addr}{cp:Nat}{b:List Int}{w:World}(hsl:aQ m w (.slice A b.length cp) b) :
    Calls Tryz.prog 175 #[.slice A b.length cp] w (bv (.bool (eR b)) w):=by
 refine en 11 Tryz.func175 rfl<|sg<|Pl 1<|ng<|Pl 4<|bl 6 ((decide (0<((b.length:Nat) : Int)))) (fun a=>?_) (fun a=>?_)
 have c:=of_decide_eq_true a
 refine Pl 1<|L1<|Oc (args:=#[.slice A b.length cp])<|m1 (lK hsl) fun e d=>Pl 3<|nt<|rt<|rr (.bool ((cS b)==0))<|?_
 have hs:eR b=((cS b)==0):=by unfold eR;(try simp only[a,bs,if_true,if_false,decide_true,decide_false]);all_goals rfl
 rw[hs]
 exact⟨rfl,d⟩
 have c:=of_decide_eq_false a
 refine Pl 5<|nt<|rt<|rr (.bool false)<|?_
 have hs:eR b=false:=by unfold eR;(try simp only[a,bs,if_true,if_false,decide_true,decide_false]);all_goals rfl
 rw[hs]
 exact⟨rfl,(ax.refl [] _)⟩
theorem sG{m:Bool}{v:Value}{b:List Int}{w:World}(h:aQ m w v b) : Calls Tryz.prog 175 #[v] w (bv (.bool (eR b)) w):=by
  obtain⟨A,cp,rfl,_,_⟩:=h.shape
  exact pG h
open Go.RowKit
theorem nf:∃ j,Tryz.prog.info? 236=some j∧j.size=2:=Option.map_eq_some_iff.1 (show(Tryz.prog.info? 236).map (·.size)=some 2 by kernel_rfl)
theorem mb(b:Nat)(w:World)(h0:w.cell? ⟨b,0,none⟩=some (.pointer none))(hsh:w.shape? b=some (236,2))(hfz:w.frozen? ⟨b,0,none⟩=false) :
    Calls Tryz.prog 204 #[.pointer (some ⟨b,0,none⟩)] w fun e w'=>e = .returned (.tuple #[])∧w'=w.setCell ⟨b,0,none⟩ (.pointer (some ⟨b,0,none⟩)):=by
  obtain⟨j,hj,hjs⟩:=nf
  go_enter Tryz.func204,Tryz.ntmps204
  go_wp2
  rw[Lib.run_to_unsafe w ⟨b,0,none⟩ Tryz.underlying234 Tryz.underlying240 hj (by rw[hjs];decide) hsh (Nat.zero_lt_succ 1)]
  simp only[Result.andThen]
  rw[Oper.upon_value]
  go_wp2
  rw[run_callFunc_extern Tryz.func205 (by kernel_rfl) (by kernel_rfl) (by kernel_rfl) (e:=Extern.AbiNoEscape.same) (by kernel_rfl)]
  rw[Lib.run_noEscape]
  simp only[Result.andThen]
  rw[Oper.upon_value]
  go_wp2
  rw[Lib.run_from_unsafe w ⟨b,0,none⟩ Tryz.underlying240 Tryz.underlying234 hj hsh (by kernel_rfl)]
  simp only[Result.andThen]
  rw[Oper.upon_value]
  go_wp2
  go_end0
  exact⟨rfl,rfl⟩
theorem nL(b:Nat)(w:World)(h0:w.cell? ⟨b,0,none⟩=some (.pointer (some ⟨b,0,none⟩))) :
    Calls Tryz.prog 204 #[.pointer (some ⟨b,0,none⟩)] w fun e w'=>e = .returned (.tuple #[])∧w'=w:=by
  obtain⟨j,hj,_⟩:=nf
  go_enter Tryz.func204,Tryz.ntmps204
  go_wp2
  rw[Lib.run_neq_ptr_same w _ Tryz.underlying234 hj]
  go_wp2
  go_end0
  exact⟨rfl,rfl⟩
theorem pg{w:World}{b:Nat}{p v:Value}(hp:p = .pointer none∨p = .pointer (some ⟨b,0,none⟩))(hb:w.heap[b]? = some (.cells #[p,v] 236 (0,0))) :
    Calls Tryz.prog 204 #[.pointer (some ⟨b,0,none⟩)] w fun e w'=>e = .returned (.tuple #[])∧w'.heap[b]? = some (.cells #[.pointer (some ⟨b,0,none⟩),v] 236 (0,0))∧ax [b] w w':=by
  have h0:w.cell? ⟨b,0,none⟩=some p:=(b7 hb 0).trans rfl
  rcases hp with rfl|rfl
  · refine(mb b w h0 (by simp[World.shape?,hb]) (ee hb 0)).mono ?_
    rintro e w' ⟨rfl,rfl⟩
    exact⟨rfl,(ff hb 0 _).trans rfl,(ax.refl _ _).setCell (Or.inl (by simp)) _⟩
  · refine(nL b w h0).mono ?_
    rintro e w' ⟨rfl,rfl⟩
    exact⟨rfl,hb,ax.refl _ _⟩
def jX:Array Value:=#[.int .u8 48,.int .u8 49,.int .u8 50,.int .u8 51,.int .u8 52,.int .u8 53,.int .u8 54,.int .u8 55,.int .u8 56,.int .u8 57,.int .u8 65,.int .u8 66,.int .u8 67,.int .u8 68,.int .u8 69,.int .u8 70]
theorem ru:∀ {j:Nat},j<16→jX[j]? = some (.int .u8 (dI (j:Int)))
  | 0,_ | 1,_ | 2,_ | 3,_ | 4,_ | 5,_ | 6,_ | 7,_ | 8,_ | 9,_ | 10,_ | 11,_ | 12,_ | 13,_ | 14,_ | 15,_=>rfl
  | n+16,h=>by omega
theorem oC{i:Int}(h:0≤i∧i<16) : jX[i.toNat]? = some (.int .u8 (dI i)):=by
  rw[ru (by omega),Int.toNat_of_nonneg h.1]
theorem uq{P:Program}{w:World}{ev:Operand→Value}{o:Oper}{x ix:Operand}{t e:TypeId}{k:IntKind}{i:Int}(j:Nat)(ho:o.op = .index t x ix)(ht:P.underlying t=some (.array 16 e))(hi:(P.info? e).map (·.size)=some 1)(hr:∀ w,(isAgg e).run P w = .ok false w)(hx:ev x = .agg jX)(hy:ev ix = .int k i)(hj:i=(j:Int))(hlt:j<16) : (execOp ev o).run P w = .ok (.value (.int .u8 (dI (j:Int)))) w:=by
  subst hj
  obtain⟨i0,hi0,hs⟩:=Option.map_eq_some_iff.1 hi
  have h:=ru hlt
  unfold execOp
  have h2:(0:Int)≤(j:Int)∧(j:Int)<16:=by omega
  simp[ho,hx,hy,Instr.index,asIntOf,run_underlying ht,Result.andThen,h2,sizeOf,typeInfo,hi0,hs,part,h,hr,hlt]
def xD (B b:Nat)(L:List Int)(w:World) : Prop:=∃ p A cp,w.heap[b]? = some (.cells #[p,.slice A L.length cp] 236 (0,0))∧(p = .pointer none∨p = .pointer (some ⟨b,0,none⟩))∧cy B w (.slice A L.length cp) L
theorem xD.new{B b:Nat}{w:World}(hb:w.heap[b]? = some (.cells #[.pointer none,.slice none 0 0] 236 (0,0))) : xD B b [] w:=⟨_,_,_,hb,.inl rfl,aJ.nil ..⟩
def w7:Go.Shelf.Ren:=⟨fun | 169=>203 | n=>n,fun | 70=>234 | 9=>9 | 0=>0 | 72=>236 | 37=>27 | 127=>207 | 3=>3 | 5=>5 | n=>n,fun | n=>n⟩
theorem zr:Go.Proofs.Lays.n169 Tryz.prog w7:={
  mixed:=by kernel_rfl
  f169:=Tryz.func203.trans (congrArg some (by kernel_rfl))
  t0:=Tryz.underlying0
  a0:=Tryz.isAgg0
  z0:=Tryz.sizeOf0
  v0:=Tryz.zeroValue0
  t3:=Tryz.underlying3
  a3:=Tryz.isAgg3
  z3:=Tryz.sizeOf3
  v3:=Tryz.zeroValue3
  t9:=Tryz.underlying9
  a9:=Tryz.isAgg9
  z9:=Tryz.sizeOf9
  v9:=Tryz.zeroValue9
  t37:=Tryz.underlying27
  a37:=Tryz.isAgg27
  z37:=Tryz.sizeOf27
  v37:=Tryz.zeroValue27
  t70:=Tryz.underlying234
  a70:=Tryz.isAgg234
  z70:=Tryz.sizeOf234
  v70:=Tryz.zeroValue234
  t72:=Tryz.underlying236
  a72:=Tryz.isAgg236
  z72:=Tryz.sizeOf236
  v72:=Tryz.zeroValue236
  t127:=Tryz.underlying207
  a127:=Tryz.isAgg207
  z127:=Tryz.sizeOf207
  v127:=Tryz.zeroValue207 }
theorem yv:Builder.Extra Tryz.prog w7:={
  sizeBuilder:=by kernel_rfl
  liesBuilder:=by kernel_rfl
  t5:=Tryz.underlying5
  a5:=Tryz.isAgg5
  z5:=Tryz.sizeOf5
  v5:=Tryz.zeroValue5
  infoByte:=by kernel_rfl
  cellsByte:=by kernel_rfl
  sizeByte:=by kernel_rfl
  neB5:=by decide }
theorem sI{L:List Int}(h:cK L) : Lib.byteCells (L.map fun n=>UInt8.ofNat n.toNat)=L.map (Value.int .u8):=by
  unfold Lib.byteCells
  rw[List.map_map]
  apply List.map_congr_left
  intro x hx
  show Value.int .u8 _=_
  rw[mI (h x hx)]
theorem pN{w0 w:World}{b:Nat}{L:List Int}(hu:ax [] w0 w)(hg:w0.heap.size≤b)(h:xD w0.heap.size b L w)(hr:cK L) :
    Calls Tryz.prog 203 #[.pointer (some ⟨b,0,none⟩)] w fun e w'=>e = .returned (.string (strOfNums L))∧ax [] w0 w':=by
  obtain⟨p,A,cp,hb,hp,ho⟩:=h
  have h1:=ek (enc:=Value.int .u8) (fun _ _ _ h=>h.1) ho
  have h2:Lib.BuilderAt 236 5 w0.heap.size b p (Lib.byteCells (L.map fun n=>UInt8.ofNat n.toNat)) w:=by
    rw[sI hr]
    refine⟨hg,_,hb,by rw[List.length_map];exact h1,fun hq=>?_⟩
    rcases h1.2 with⟨hv,_⟩|⟨g',cap,cur,hv,_,hh,_⟩
    · rw[hv] at hq;cases hq
    · rw[hv] at hq
      have e:g'=b:=by simpa [Value.ownBlock] using hq
      subst e
      rw[hb] at hh
      injection hh with hh
      injection hh with _ h5 _
      exact absurd h5 (by decide)
  have h3:Lib.IsBuilder (w7.t 72) (w7.t 5) w0.heap.size b (Lib.byteCells (L.map fun n=>UInt8.ofNat n.toNat)) w:=by
    rcases hp with rfl|rfl
    · exact Or.inl h2
    · exact Or.inr h2
  refine(Any.Builder_String_any zr yv _ _ _ _ h3 hu.size).mono ?_
  rintro e w' ⟨rfl,hbel⟩
  exact⟨rfl,hu.os▸hbel.os,hu.tape▸hbel.tape,hu.output▸hbel.output,Nat.le_trans hu.size hbel.size,fun k hk hn=>(hbel.block k hk).trans (hu.block k hk hn)⟩
open Go.RowKit
theorem kP{w:World}:Calls Tryz.prog 180 #[] w (bv (.agg jX) w):=by
 refine en 2 Tryz.func180 rfl<|sg<|L0<|bI #[.int .u8 0,.int .u8 0,.int .u8 0,.int .u8 0,.int .u8 0,.int .u8 0,.int .u8 0,.int .u8 0,.int .u8 0,.int .u8 0,.int .u8 0,.int .u8 0,.int .u8 0,.int .u8 0,.int .u8 0,.int .u8 0] fun e f a b c=>ng<|Pl 1<|L0<|bf b #[.int .u8 48,.int .u8 49,.int .u8 50,.int .u8 51,.int .u8 52,.int .u8 53,.int .u8 54,.int .u8 55,.int .u8 56,.int .u8 57,.int .u8 65,.int .u8 66,.int .u8 67,.int .u8 68,.int .u8 69,.int .u8 70] fun g db d=>nt<|rt<|ze db<|?_
 exact⟨rfl,(ud c d a)⟩
theorem um{c:Int}{n:Nat}(h:∀ j:Nat,j<n→dI (j:Int)≠c)(q:(dI ((n:Nat) : Int)==c)=false) : ∀ j:Nat,j<n+1→dI (j:Int)≠c:=fun j hj=>by
  by_cases e:j=n
  · subst e;simpa using q
  · exact h j (by omega)
theorem xV{c:Int}{n:Nat}(hn:n<16)(q:(dI ((n:Nat) : Int)==c)=true) : cm c=((n:Nat) : Int):=by
  have e:dI ((n:Nat) : Int)=c:=by simpa using q
  rw[← e]
  exact iX (by omega)
theorem uv{c:Int}{n:Nat}(hn:n=16)(h:∀ j:Nat,j<n→dI (j:Int)≠c) : cm c = -1:=by
  by_cases e:0≤cm c
  · have h1:=j3 e
    exact absurd (by rw[Int.toNat_of_nonneg e];exact h1.1) (h (cm c).toNat (by omega))
  · have:=mc c
    omega
theorem ln{w:World}{c:Int}(hc:0≤c∧c<256) : Calls Tryz.prog 177 #[.int .u8 c] w (bv (.int .i64 (cm c)) w):=by
 refine en 15 Tryz.func177 rfl<|sg<|Pl 1<|nt<|sq<|sg<|L0<|Oc<|m1 (@kP w) fun g h=>Pl 1<|nt<|bk<|?_
 refine ir (fun x=>[(0,.int .u8 c),(5,.agg jX),(6,.int .i64 ((x:Nat) : Int))]) (fun(x:Nat) w'=>ax [] g w'∧(x≤16)∧(∀ j:Nat,j<x→dI (j:Int)≠c)) (fun x=>16-x) 0 ⟨ax.refl _ _,(by(try dsimp only);omega),(fun j hj=>by omega)⟩ ?_
 rintro n q ⟨d,l,m⟩
 refine it [(0,.int .u8 c),(5,.agg jX),(6,.int .i64 ((n:Nat) : Int))] ?_
 have r:n≤16:=l
 have e:∀ j:Nat,j<n→dI (j:Int)≠c:=m
 refine sg<|Pl 1<|nt<|sq<|?_
 have f:=aE h d
 refine cb ((decide (((n:Nat) : Int)<16))) (fun b=>?_) (fun b=>?_)
 have o:=of_decide_eq_true b
 refine bG<|sq<|bk<|sg<|Pl 1<|L0<|iv (.int .u8 (dI ((n:Nat) : Int))) (uq (k:=.i64) (i:=((n:Nat) : Int)) n rfl Tryz.underlying226 (by kernel_rfl) Tryz.isAgg5 (by kernel_rfl) (by kernel_rfl) rfl (by omega))<|Pl 2<|ng<|Pl 3<|nl<|?_
 refine tn<|cb (((dI ((n:Nat) : Int))==c)) (fun a=>?_) (fun a=>?_)
 have p:=az a
 refine sg<|Pl 2<|nt<|rt<|br<|tr<|tr<|br<|tr<|rr (.int .i64 ((n:Nat) : Int))<|?_
 have hs:cm c=((n:Nat) : Int):=xV (by omega) a
 rw[hs]
 exact⟨rfl,f⟩
 have p:=aC a
 exact sk<|bn<|tn<|go<|L0<|Oi (((n:Nat) : Int)+1)<|Pl 1<|nl<|er (n+1) ⟨d,(by(try dsimp only);omega),(um e a)⟩ (by omega)
 have o:=of_decide_eq_false b
 refine xt<|tx<|tx<|bx<|tn<|sg<|Pl 1<|nt<|rt<|rr (.int .i64 (-1))<|?_
 have hs:cm c = -1:=uv (n:=n) (by omega) e
 rw[hs]
 exact⟨rfl,f⟩
theorem lc{w0 w:World}{b gd:Nat}{L:List Int}{c:Int}(hu0:ax [] w0 w)(hg0:w0.heap.size≤b)(hg1:w0.heap.size≤gd)(h:xD w0.heap.size b L w)(hd:w.heap[gd]? = some (.cells jX 226 (0,0)))(hne:gd≠b)(hc:0≤c∧c<256)(hl:L.length≤1048576) :
    Calls Tryz.prog 202 #[.pointer (some ⟨b,0,none⟩),.int .u8 c] w (fun e w'=>e = .returned .nilIface∧xD w0.heap.size b (L++[c]) w'∧w'.heap[gd]? = some (.cells jX 226 (0,0))∧ax [] w0 w'∧w.heap.size≤w'.heap.size):=by
 obtain⟨p,A,cp,hb,hp,ho⟩:=h
 refine en 17 Tryz.func202 rfl<|sg<|Pl 1<|ng<|Pl 1<|L0<|Oc<|m2 (pg hp hb) fun u a d=>ng<|?_
 refine Pl 4<|L0<|aN a 1<|Pl 1<|L0<|cF (m:=1) (e:=5) #[.int .u8 c] fun v y r db f=>?_
 have s:=cP r (xs:=[c]) (by as_aux_lemma=>kernel_rfl) (am (by omega) aM) (by(try simp only[List.length_cons,List.length_nil]);omega) db
 have i:=aE d f
 refine L0<|cj aX (xs:=L) (ys:=([c])) (.int .u8 0) 1 (aj ho i (fun x hx=>(ae (fun e=>(bu hb ho (by decide)) (e▸hx)) ay)) (fun _ _ h=>h)) (s).rd (by(try simp only[List.length_append,List.length_cons,List.length_nil,av]);omega) (le (le hu0.size d.size) f.size) fun j k z l n=>Pl 2<|?_
 have o:=ax.blk (ut (ax.mono (S':=(ob A++[])) f aq) n (ag il aq)) (aG (bu a (aj ho d (fun x hx=>(ae (fun e=>(bu hb ho (by decide)) (e▸hx)) ay)) (fun _ _ h=>h)) (by decide)) ay) a
 refine L0<|cn o 1 #[.pointer (some ⟨b,0,none⟩),.slice j ((L++[c]).length) k] fun B t q=>ng<|Pl 1<|nt<|rt<|rr (.nilIface)<|?_
 have g:=ut (ax.mono (S':=(b :: (ob A++[]))) i (ac im aq)) (u1 (ax.mono (S':=(ob A++(b :: []))) n (ag il aq)) q im) (ag il (ac im aq))
 exact⟨rfl,⟨_,j,k,t,.inr rfl,(aj l q (fun x hx=>(ae (fun e=>(bu o l (by decide)) (e▸hx)) ay)) (fun _ _ h=>h))⟩,(ax.blk g (ae hne (aG (bu hd ho (by decide)) ay)) hd),(ut hu0 g (ac (nr hg0) (ag (aI ho lr) aq))),g.size⟩
open Go.RowKit
theorem lR{b:List Int}(h:cK b) : cK (cY b):=by
  induction b with
  | nil=>exact h
  | cons c b ih =>
    have hc:=h c (List.mem_cons_self ..)
    have h1:=iT (n:=c/16) (by omega)
    have h2:=iT (n:=c%16) (by omega)
    intro x hx
    rcases List.mem_cons.1 hx with rfl|hx
    · omega
    rcases List.mem_cons.1 hx with rfl|hx
    · omega
    · exact ih (fun y hy=>h y (List.mem_cons_of_mem _ hy)) x hx
theorem sx{m:Bool}{A:Option Addr}{cp:Nat}{b:List Int}{w:World}(hsl:aQ m w (.slice A b.length cp) b)(hl:b.length≤1024) :
    Calls Tryz.prog 201 #[.slice A b.length cp] w (bv (.string (strOfNums (cY b))) w):=by
 have hb:=aQ.range hsl
 refine en 26 Tryz.func201 rfl<|sg<|Pl 1<|ng<|L0<|bI #[.pointer none,.slice none 0 0] fun d y g l h=>ng<|L0<|Oc<|m1 (@kP y) fun X e=>?_
 refine L0<|bI #[.int .u8 0,.int .u8 0,.int .u8 0,.int .u8 0,.int .u8 0,.int .u8 0,.int .u8 0,.int .u8 0,.int .u8 0,.int .u8 0,.int .u8 0,.int .u8 0,.int .u8 0,.int .u8 0,.int .u8 0,.int .u8 0] fun a Y f z B=>L0<|bf (hz:=(by kernel_rfl)) (hv:=rfl) (h1:=(by kernel_rfl)) z (jX) fun C D E=>nt<|sq<|sg<|Pl 3<|nt<|bk<|?_
 have o:=aE e (ud B E f)
 have q:=nb (al l) e.size f
 refine ir (fun x=>[(2,.string ⟨#[]⟩),(3,.pointer (some ⟨d,0,none⟩)),(4,.pointer (some ⟨a,0,none⟩)),(8,.slice A b.length cp),(9,.int .i64 ((b.length:Nat) : Int)),(10,.int .i64 ((x:Nat) : Int))]) (fun(x:Nat) w'=>ax [] w w'∧C.heap.size≤w'.heap.size∧xD w.heap.size d (cY (b.take x)) w'∧w'.heap[a]? = some (.cells jX 226 (0,0))∧(x≤b.length)) (fun x=>b.length-x) 0 ⟨(aE h o),lr,(by simpa [cY] using xD.new (ub o l)),D,(by(try dsimp only);omega)⟩ ?_
 rintro k r ⟨i,F,G,H,I⟩
 refine it [(2,.string ⟨#[]⟩),(3,.pointer (some ⟨d,0,none⟩)),(4,.pointer (some ⟨a,0,none⟩)),(8,.slice A b.length cp),(9,.int .i64 ((b.length:Nat) : Int)),(10,.int .i64 ((k:Nat) : Int))] ?_
 have s:xD w.heap.size d (cY (b.take k)) r:=G
 have t:r.heap[a]? = some (.cells jX 226 (0,0)):=H
 have Z:k≤b.length:=I
 refine sg<|Pl 1<|nt<|sq<|cb ((decide (((k:Nat) : Int)<((b.length:Nat) : Int)))) (fun j=>?_) (fun j=>?_)
 have J:=of_decide_eq_true j
 refine bG<|sq<|bk<|sg<|?_
 refine gX (aQ.at_ (aQ.old hsl i) k (by omega)) fun K L M N a0=>L0<|oU b.length k M (by omega)<|L0<|kY (p:=⟨K,L+k,none⟩) (v:=.int .u8 (b.getD k 0)) N<|Pl 1<|ng<|Pl 1<|L0<|Oe (.int .u8 (Int.fdiv (b.getD k 0) (2 ^ 4))) (.int .u8 ((b.getD k 0)/16)) (congrArg (Value.int .u8) (jB _ _ _ (by decide)))<|L0<|A7 (b:=a) (off:=0) 16 ((((b.getD k 0)/16)).toNat) ((b.getD k 0)/16) (by omega) (by omega)<|?_
 have a1:=iT (n:=((b.getD k 0)/16)) (by omega)
 refine L0<|kY (p:=⟨a,0+(((b.getD k 0)/16)).toNat,none⟩) (v:=.int .u8 (dI (((b.getD k 0)/16)))) (aa t (by rw[Nat.zero_add,oC (by omega)]))<|L0<|Oc<|m4 (lc (c:=(dI ((b.getD k 0)/16))) i g (Nat.le_trans (le h.size e.size) f) s t (Ne.symm q) (by omega) (by rw[dc,List.length_take];omega)) fun a2 O u P Q=>nt<|go<|Pl 1<|L0<|Oe (.int .u8 (Int.tmod (b.getD k 0) 16)) (.int .u8 ((b.getD k 0)%16)) (congrArg (Value.int .u8) (Int.tmod_eq_emod_of_nonneg (by omega)))<|L0<|A7 (b:=a) (off:=0) 16 ((((b.getD k 0)%16)).toNat) ((b.getD k 0)%16) (by omega) (by omega)<|?_
 have a3:=iT (n:=((b.getD k 0)%16)) (by omega)
 exact L0<|kY (p:=⟨a,0+(((b.getD k 0)%16)).toNat,none⟩) (v:=.int .u8 (dI (((b.getD k 0)%16)))) (aa u (by rw[Nat.zero_add,oC (by omega)]))<|L0<|Oc<|m4 (lc (c:=(dI ((b.getD k 0)%16))) P g (Nat.le_trans (le h.size e.size) f) O u (Ne.symm q) (by omega) (by rw[List.length_append,dc,List.length_take];simp only[List.length_cons,List.length_nil];omega)) fun a4 R S T U=>nl<|bn<|tn<|go<|L0<|Oi (((k:Nat) : Int)+1)<|Pl 1<|nl<|er (k+1) ⟨T,(le (le F Q) U),(by rw[tq _ _ (by omega)];exact R),S,(by(try dsimp only);omega)⟩ (by omega)
 have J:=of_decide_eq_false j
 refine xt<|tx<|tx<|bx<|tn<|sg<|?_
 have V:k=b.length:=by omega
 have hbl:=s
 rw[V,List.take_length] at hbl
 have hbr:cK (cY b):=lR hb
 refine L0<|Oc<|m1 (pN i g hbl hbr) fun a5 W=>Pl 1<|nt<|rt<|rr (.string (strOfNums (cY b)))<|?_
 exact⟨rfl,W⟩
theorem uX{m:Bool}{v:Value}{b:List Int}{w:World}(h:aQ m w v b)(hl:b.length≤1024) : Calls Tryz.prog 201 #[v] w (bv (.string (strOfNums (cY b))) w):=by
  obtain⟨A,cp,rfl,_,_⟩:=h.shape
  exact sx h hl
def gj (xs:List Int)(w:World)(e:Ending)(w':World) : Prop:=match bV xs with
  | some l=>∃ v,e = .returned (.tuple #[v,.int .i64 0])∧cy w.heap.size w' v l∧ax [] w w'
  | none=>e = .returned (.tuple #[.slice none 0 0,.int .i64 11])∧ax [] w w'
theorem wI{xs l:List Int}{w w':World}{e:Ending}(h:bV xs=some l)(k:∃ v,e = .returned (.tuple #[v,.int .i64 0])∧cy w.heap.size w' v l∧ax [] w w') : gj xs w e w':=by
  unfold gj
  rw[h]
  exact k
theorem rh{xs:List Int}{w w':World}{e:Ending}(h:bV xs=none)(k:e = .returned (.tuple #[.slice none 0 0,.int .i64 11])∧ax [] w w') : gj xs w e w':=by
  unfold gj
  rw[h]
  exact k
theorem lY{xs:List Int}{w:World}(hr:cK xs)(hl:xs.length≤1048576) :
    Calls Tryz.prog 174 #[.string (strOfNums xs)] w (gj xs w):=by
 refine en 42 Tryz.func174 rfl<|sg<|Pl 2<|nt<|sq<|sg<|Pl 1<|L0<|Oe (.int .i64 (((strOfNums xs).size:Nat) : Int)) (.int .i64 ((xs.length:Nat) : Int)) (by rw[strOfNums_size])<|L0<|Oe (.int .i64 (Int.tmod ((xs.length:Nat) : Int) 2)) (.int .i64 (((xs.length:Nat) : Int)%2)) (congrArg (Value.int .i64) (Int.tmod_eq_emod_of_nonneg (by omega)))<|Pl 1<|nl<|?_
 refine tn<|cb (((((xs.length:Nat) : Int)%2)!=0)) (fun f=>?_) (fun f=>?_)
 have A:=aA f
 refine sg<|Pl 2<|nt<|rt<|tr<|rr (.tuple #[.slice none 0 0,.int .i64 11])<|?_
 have hs:bV xs=none:=m5 (by omega)
 exact rh hs ⟨rfl,(ax.refl [] _)⟩
 have A:=ai f
 refine bG<|sg<|Pl 1<|nt<|sq<|sg<|Pl 1<|nt<|bk<|?_
 refine ir (fun x=>[(0,.string (strOfNums xs)),(4,.slice x.2.2.1 x.2.1.length x.2.2.2),(5,.int .i64 ((2*x.1:Nat) : Int))]) (fun(x:Nat × List Int × Option Addr × Nat) w'=>ax [] w w'∧cy w.heap.size w' (.slice x.2.2.1 x.2.1.length x.2.2.2) x.2.1∧(2*x.1≤xs.length)∧(bV xs=(bV (xs.drop (2*x.1))).map fun l=>x.2.1++l)∧(x.2.1.length=x.1)) (fun x=>xs.length-2*x.1) (0,[],none,0) ⟨ax.refl _ _,(aJ.nil w.heap.size _ _ n8 _),(by(try dsimp only);omega),(by(try dsimp only);simp),(by(try dsimp only);rfl)⟩ ?_
 rintro⟨k,L,B,cq⟩ C ⟨g,D,E,F,G⟩
 refine it [(0,.string (strOfNums xs)),(4,.slice B L.length cq),(5,.int .i64 ((2*k:Nat) : Int))] ?_
 have j:cy w.heap.size C (.slice B L.length cq) L:=D
 have U:2*k≤xs.length:=E
 have V:bV xs=(bV (xs.drop (2*k))).map fun l=>L++l:=F
 have W:L.length=k:=G
 have hL:bV xs=(bV (xs.drop (2*k))).map fun l=>L++l:=by assumption
 refine sq<|sg<|Pl 2<|L0<|Oe (.int .i64 (((strOfNums xs).size:Nat) : Int)) (.int .i64 ((xs.length:Nat) : Int)) (by rw[strOfNums_size])<|Pl 1<|nt<|cb ((decide (((2*k:Nat) : Int)<((xs.length:Nat) : Int)))) (fun n=>?_) (fun n=>?_)
 have H:=of_decide_eq_true n
 refine bG<|sq<|bk<|sq<|Rg 11 (fun w'=>True) fun X p=>aZ trivial fun a=>Rt 0 a<|Rt 1 a<|Rr 2 a (.int .u8 (xs.getD (2*k) 0)) (fun _ _=>oH (xs:=xs) (k:=.i64) (i:=((2*k:Nat) : Int)) (2*k) rfl Tryz.underlying9 (by kernel_rfl) (by kernel_rfl) hr rfl (by omega))<|Rt 4 a<|Rt 5 a<|Rr 6 a (.int .i64 (((2*k:Nat) : Int)+1)) (fun _ _=>cC (.int .i64 (IntKind.i64.wrap (((2*k:Nat) : Int)+1))) (by kernel_rfl) (congrArg (Value.int .i64) (IntWalk.i64_in _ (by omega))))<|Rr 7 a (.int .u8 (xs.getD ((((2*k:Nat) : Int)+1)).toNat 0)) (fun _ _=>oH (xs:=xs) (k:=.i64) (i:=(((2*k:Nat) : Int)+1)) ((((2*k:Nat) : Int)+1)).toNat rfl Tryz.underlying9 (by kernel_rfl) (by kernel_rfl) hr (by omega) (by omega))<|?_
 have Y:=mc (xs.getD (2*k) 0)
 refine R0 3 rfl<|Oc<|m1 (ln (c:=(xs.getD (2*k) 0)) (w:=_) (fD (by omega) hr _)) fun Z r=>aZ trivial fun a0=>?_
 have a1:=mc (xs.getD ((((2*k:Nat) : Int)+1)).toNat 0)
 refine R0 8 rfl<|Oc<|m1 (ln (c:=(xs.getD ((((2*k:Nat) : Int)+1)).toNat 0)) (w:=_) (fD (by omega) hr _)) fun a2 s=>aZ trivial fun t=>Rt 9 t<|Rt 10 t<|re<|tn<|sq<|sg<|Pl 3<|cu 3 [29] 32 (((decide ((cm (xs.getD (2*k) 0))<0))||(decide ((cm (xs.getD ((((2*k:Nat) : Int)+1)).toNat 0))<0)))) (fun K u=>?_) ?_
 refine bl 29 ((decide ((cm (xs.getD (2*k) 0))<0))) (fun b=>?_) (fun b=>?_)
 have I:=of_decide_eq_true b
 exact Pl 3<|ce u true (by rw[b];rfl)
 have I:=of_decide_eq_false b
 exact Pl 3<|ce u (decide ((cm (xs.getD ((((2*k:Nat) : Int)+1)).toNat 0))<0)) (by rw[b];rfl)
 refine nt<|?_
 have v:=aE p (aE r s)
 have y:=aE g v
 refine cb (((decide ((cm (xs.getD (2*k) 0))<0))||(decide ((cm (xs.getD ((((2*k:Nat) : Int)+1)).toNat 0))<0)))) (fun d=>?_) (fun d=>?_)
 refine sg<|Pl 2<|nt<|rt<|tr<|br<|tr<|tr<|br<|tr<|rr (.tuple #[.slice none 0 0,.int .i64 11])<|?_
 have hs:bV xs=none:=uY (k:=k) hL (by omega) (by have q:=d;simp only[Bool.or_eq_true,decide_eq_true_eq] at q;rw[show 2*k+1=(((2*k:Nat) : Int)+1).toNat from by omega];exact q)
 exact rh hs ⟨rfl,y⟩
 have J:=(aH d).1
 have M:=(aH d).2
 have a3:=of_decide_eq_false J
 have a4:=of_decide_eq_false M
 refine bG<|go<|Pl 2<|L0<|Oi (16*(cm (xs.getD (2*k) 0)))<|Pl 1<|L0<|Oi ((16*(cm (xs.getD (2*k) 0)))+(cm (xs.getD ((((2*k:Nat) : Int)+1)).toNat 0)))<|Pl 1<|L0<|cF (m:=1) (e:=5) #[.int .u8 (((16*(cm (xs.getD (2*k) 0)))+(cm (xs.getD ((((2*k:Nat) : Int)+1)).toNat 0)))%256)] fun a5 a6 N O o=>?_
 have P:=cP N (xs:=[(((16*(cm (xs.getD (2*k) 0)))+(cm (xs.getD ((((2*k:Nat) : Int)+1)).toNat 0)))%256)]) (by as_aux_lemma=>kernel_rfl) (am (by omega) aM) (by(try simp only[List.length_cons,List.length_nil]);omega) O
 refine L0<|cj aX (xs:=L) (ys:=([(((16*(cm (xs.getD (2*k) 0)))+(cm (xs.getD ((((2*k:Nat) : Int)+1)).toNat 0)))%256)])) (.int .u8 0) 1 (aj j (aE v o) (fun x hx=>ay) (fun _ _ h=>h)) (P).rd (by(try simp only[List.length_append,List.length_cons,List.length_nil,av]);omega) (le (le (le (le g.size p.size) r.size) s.size) o.size) fun Q R a7 S T=>Pl 1<|nl<|bn<|tn<|go<|Pl 1<|L0<|Oi (((2*k:Nat) : Int)+2)<|Pl 1<|nl<|?_
 have z:=pH (k:=k) hL (by omega) (by omega) (by rw[show 2*k+1=(((2*k:Nat) : Int)+1).toNat from by omega];omega)
 rw[show 2*k+1=(((2*k:Nat) : Int)+1).toNat from by omega] at z
 exact er ((k+1),(L++[(((16*(cm (xs.getD (2*k) 0)))+(cm (xs.getD ((((2*k:Nat) : Int)+1)).toNat 0)))%256)]),Q,R) ⟨(ut y (ut (ax.mono (S':=(ob B++[])) o aq) T (ag il aq)) (ag (aI j lr) aq)),S,(by(try dsimp only);omega),z,(by(try dsimp only);simp only[List.length_append,List.length_cons,List.length_nil];omega)⟩ (by omega)
 have H:=of_decide_eq_false n
 refine xt<|tx<|tx<|bx<|tn<|sg<|Pl 3<|nt<|rt<|rr (.tuple #[.slice B L.length cq,.int .i64 0])<|?_
 have hs:bV xs=some L:=rL hL (by omega)
 exact wI hs ⟨_,rfl,j,g⟩
open Go.RowKit
def fw (xs:List Int) : Bool:=decide (2≤((xs.length:Nat) : Int))&&decide (xs.drop (((xs.length:Nat) : Int)-2).toNat=[13,10])
def i5 (b:List Int) : Option (List Int):=if b.getD 0 0=58∧fw (b.drop 1)=true then some ((b.drop 1).take (b.length-3)) else none
theorem nJ{xs:List Int}(h:fw xs=true) : 2≤xs.length:=by
  unfold fw at h
  simp only[Bool.and_eq_true,decide_eq_true_eq] at h
  omega
theorem lz{b s:List Int}(h:i5 b=some s) : b.getD 0 0=58∧fw (b.drop 1)=true∧s=(b.drop 1).take (b.length-3)∧3≤b.length:=by
  unfold i5 at h
  split at h
  · rename_i hc
    injection h with h
    have:=nJ hc.2
    rw[List.length_drop] at this
    exact⟨hc.1,hc.2,h.symm,by omega⟩
  · cases h
theorem tS{b s:List Int}(h:i5 b=some s) : s.length=b.length-3:=by
  obtain⟨_,_,rfl,h3⟩:=lz h
  rw[List.length_take,List.length_drop]
  omega
def mw (xs:List Int)(w:World)(e:Ending)(w':World) : Prop:=match i5 xs with
  | some l=>e = .returned (.tuple #[.string (strOfNums l),.bool true])∧ax [] w w'
  | none=>∃ s,e = .returned (.tuple #[.string s,.bool false])∧ax [] w w'
theorem kz{xs:List Int}{w:World}(hr:cK xs)(hl:xs.length≤1048576) : Calls Tryz.prog 183 #[.string (strOfNums xs),.string ⟨#[13,10]⟩] w (bv (.bool (fw xs)) w):=by
 refine en 21 Tryz.func183 rfl<|sg<|Pl 1<|ng<|Pl 1<|L0<|Oe (.int .i64 (((strOfNums xs).size:Nat) : Int)) (.int .i64 ((xs.length:Nat) : Int)) (by rw[strOfNums_size])<|Pl 4<|bl 10 ((decide (2≤((xs.length:Nat) : Int)))) (fun c=>?_) (fun c=>?_)
 have d:=of_decide_eq_true c
 refine Pl 2<|L1<|Oe (.int .i64 (((strOfNums xs).size:Nat) : Int)) (.int .i64 ((xs.length:Nat) : Int)) (by rw[strOfNums_size])<|Pl 2<|L1<|Oi (((xs.length:Nat) : Int)-2)<|?_
 have e:cK (xs.drop ((((xs.length:Nat) : Int)-2)).toNat):=j4 hr ((((xs.length:Nat) : Int)-2)).toNat
 refine L1<|iv (.string (strOfNums (xs.drop ((((xs.length:Nat) : Int)-2)).toNat))) (lH (xs:=xs) (k:=.i64) (i:=(((xs.length:Nat) : Int)-2)) ((((xs.length:Nat) : Int)-2)).toNat rfl Tryz.underlying9 (by kernel_rfl) (by kernel_rfl) (by omega) (by omega))<|Pl 1<|L1<|iv (.bool (decide ((xs.drop ((((xs.length:Nat) : Int)-2)).toNat)=[13,10]))) (ey (a:=(strOfNums (xs.drop ((((xs.length:Nat) : Int)-2)).toNat))) (b:=⟨#[13,10]⟩) rfl (by kernel_rfl) (by kernel_rfl) (wj (ys:=[13,10]) e (by decide)))<|Pl 2<|nt<|rt<|rr (.bool (decide ((xs.drop ((((xs.length:Nat) : Int)-2)).toNat)=[13,10])))<|?_
 have hs:fw xs=(decide ((xs.drop ((((xs.length:Nat) : Int)-2)).toNat)=[13,10])):=by unfold fw;(try simp only[c,bs,if_true,if_false,decide_true,decide_false]);all_goals rfl
 rw[hs]
 exact⟨rfl,(ax.refl [] _)⟩
 have d:=of_decide_eq_false c
 refine Pl 11<|nt<|rt<|rr (.bool false)<|?_
 have hs:fw xs=false:=by unfold fw;(try simp only[c,bs,if_true,if_false,decide_true,decide_false]);all_goals rfl
 rw[hs]
 exact⟨rfl,(ax.refl [] _)⟩
theorem sP{xs:List Int}{w:World}(hr:cK xs)(hl:xs.length≤1048576)(hq:fw xs=true) : Calls Tryz.prog 179 #[.string (strOfNums xs),.string ⟨#[13,10]⟩] w (bv (.tuple #[.string (strOfNums (xs.take (((xs.length:Nat) : Int)-2).toNat)),.bool true]) w):=by
 have hq2:=nJ hq
 refine en 18 Tryz.func179 rfl<|sg<|Pl 2<|nt<|sq<|sg<|Pl 2<|L0<|Oc<|m1 (kz (xs:=xs) (w:=_) hr (by omega)) fun c a=>Pl 1<|nt<|?_
 have b:(!(fw xs))=false:=by simp only[hq,Bool.not_true,Bool.not_false]
 refine cf b<|bG<|sg<|Pl 2<|L0<|Oe (.int .i64 (((strOfNums xs).size:Nat) : Int)) (.int .i64 ((xs.length:Nat) : Int)) (by rw[strOfNums_size])<|Pl 2<|L0<|Oi (((xs.length:Nat) : Int)-2)<|?_
 have d:cK (xs.take ((((xs.length:Nat) : Int)-2)).toNat):=lF hr ((((xs.length:Nat) : Int)-2)).toNat
 refine L0<|iv (.string (strOfNums (xs.take ((((xs.length:Nat) : Int)-2)).toNat))) (sK (xs:=xs) (k:=.i64) (i:=(((xs.length:Nat) : Int)-2)) ((((xs.length:Nat) : Int)-2)).toNat rfl Tryz.underlying9 (by kernel_rfl) (by kernel_rfl) (by omega) (by omega))<|Pl 2<|nt<|rt<|rr (.tuple #[.string (strOfNums (xs.take ((((xs.length:Nat) : Int)-2)).toNat)),.bool true])<|?_
 exact⟨rfl,a⟩
theorem vG{xs:List Int}{w:World}(hr:cK xs)(hl:xs.length≤1048576)(hq:fw xs=true) : Calls Tryz.prog 176 #[.string (strOfNums xs),.string ⟨#[13,10]⟩] w (bv (.tuple #[.string (strOfNums (xs.take (((xs.length:Nat) : Int)-2).toNat)),.bool true]) w):=by
 refine en 11 Tryz.func176 rfl<|sg<|Pl 2<|ng<|Pl 2<|L0<|Oc<|m1 (sP (xs:=xs) (w:=_) hr hl hq) fun b a=>Pl 4<|nt<|rt<|?_
 refine rr (.tuple #[.string (strOfNums (xs.take (((xs.length:Nat) : Int)-2).toNat)),.bool true])<|?_
 exact⟨rfl,a⟩
theorem tj{xs:List Int}{w:World}(hr:cK xs)(hl:xs.length≤1048576)(hq:fw xs=false) : Calls Tryz.prog 179 #[.string (strOfNums xs),.string ⟨#[13,10]⟩] w (bv (.tuple #[.string (strOfNums xs),.bool false]) w):=by
 refine en 18 Tryz.func179 rfl<|sg<|Pl 2<|nt<|sq<|sg<|Pl 2<|L0<|Oc<|m1 (kz (xs:=xs) (w:=_) hr (by omega)) fun c a=>Pl 1<|nt<|?_
 have b:(!(fw xs))=true:=by simp only[hq,Bool.not_true,Bool.not_false]
 refine ct b<|sg<|Pl 3<|nt<|rt<|tr<|rr (.tuple #[.string (strOfNums xs),.bool false])<|?_
 exact⟨rfl,a⟩
theorem vc{xs:List Int}{w:World}(hr:cK xs)(hl:xs.length≤1048576)(hq:fw xs=false) : Calls Tryz.prog 176 #[.string (strOfNums xs),.string ⟨#[13,10]⟩] w (bv (.tuple #[.string (strOfNums xs),.bool false]) w):=by
 refine en 11 Tryz.func176 rfl<|sg<|Pl 2<|ng<|Pl 2<|L0<|Oc<|m1 (tj (xs:=xs) (w:=_) hr hl hq) fun b a=>Pl 4<|nt<|rt<|?_
 refine rr (.tuple #[.string (strOfNums xs),.bool false])<|?_
 exact⟨rfl,a⟩
theorem vg{b:List Int}(h:b.getD 0 0=58)(k:fw (b.drop 1)=true) : i5 b=some ((b.drop 1).take (b.length-3)):=if_pos ⟨h,k⟩
theorem wL{b:List Int}(h:¬ b.getD 0 0=58) : i5 b=none:=if_neg fun k=>h k.1
theorem wy{b:List Int}(k:fw (b.drop 1)=false) : i5 b=none:=if_neg fun h=>by rw[k] at h;cases h.2
theorem yc{b l:List Int}{w w':World}{e:Ending}(h:i5 b=some l)(k:e = .returned (.tuple #[.string (strOfNums l),.bool true])∧ax [] w w') : mw b w e w':=by
  unfold mw
  rw[h]
  exact k
theorem uM{b:List Int}{w w':World}{e:Ending}(h:i5 b=none)(k:∃ s,e = .returned (.tuple #[.string s,.bool false])∧ax [] w w') : mw b w e w':=by
  unfold mw
  rw[h]
  exact k
theorem jV{b:List Int}{w:World}(hr:cK b)(hl:b.length≤1048576)(h0:0<b.length) : Calls Tryz.prog 173 #[.string (strOfNums b)] w (mw b w):=by
 refine en 18 Tryz.func173 rfl<|sg<|Pl 2<|nt<|sq<|sg<|Pl 1<|L0<|As (sv:=strOfNums b) Tryz.underlying9 fun f m n o p=>nt<|bk<|?_
 refine ir (fun x=>[(0,.string (strOfNums b)),(7,.pointer (some ⟨f,0,none⟩))]) (fun(x:Unit) w'=>ax [] m w'∧(0≤0)) (fun x=>0) () ⟨ax.refl _ _,(by(try dsimp only);omega)⟩ ?_
 rintro z v ⟨g,q⟩
 refine it [(0,.string (strOfNums b)),(7,.pointer (some ⟨f,0,none⟩))] ?_
 have y:0≤0:=q
 refine sg<|?_
 refine L0<|BS hr (by omega) (ub g o) fun r A h s=>Pl 1<|nt<|sq<|c1<|bG<|bk<|sg<|Pl 2<|nt<|?_
 refine sq<|sg<|Pl 2<|nt<|?_
 have a:=ud p (uz g s) n
 refine cb ((r != 58)) (fun c=>?_) (fun c=>?_)
 have d:=aA c
 refine sg<|Pl 2<|nt<|rt<|tr<|br<|tr<|br<|tr<|rr (.tuple #[.string ⟨#[]⟩,.bool false])<|?_
 exact uM (wL fun e=>d (h.2 e)) ⟨_,rfl,a⟩
 have d:=ai c
 refine bG<|xt<|A9<|tx<|bx<|tn<|sg<|Pl 1<|?_
 have j:cK (b.drop 1):=j4 hr 1
 refine L0<|iv (.string (strOfNums (b.drop 1))) (lH (xs:=b) (k:=.i64) (i:=1) 1 rfl Tryz.underlying9 (by kernel_rfl) (by kernel_rfl) rfl (by omega))<|?_
 rcases di (fw (b.drop 1)) with hq|hq
 refine L0<|Oc<|m1 (vG (xs:=(b.drop 1)) (w:=_) j (by rw[List.length_drop];omega) hq) fun B t=>Pl 4<|nt<|rt<|rr (.tuple #[.string (strOfNums ((b.drop 1).take ((((b.drop 1).length:Nat) : Int)-2).toNat)),.bool true])<|?_
 exact yc (l:=(b.drop 1).take (b.length-3)) (vg (h.1 d) hq) ⟨by rw[show b.length-3=((((b.drop 1).length:Nat) : Int)-2).toNat from by rw[List.length_drop];omega],(aE a t)⟩
 refine L0<|Oc<|m1 (vc (xs:=(b.drop 1)) (w:=_) j (by rw[List.length_drop];omega) hq) fun C u=>Pl 4<|nt<|rt<|rr (.tuple #[.string (strOfNums (b.drop 1)),.bool false])<|?_
 exact uM (wy hq) ⟨_,rfl,(aE a u)⟩
open Go.RowKit
theorem sU{b s:List Int}(hr:cK b)(h:i5 b=some s) : cK s:=by
  obtain⟨_,_,rfl,_⟩:=lz h
  exact lF (j4 hr 1) _
theorem w6{b l:List Int}{w:World}(h:i5 b=some l)(e:Ending)(w':World)(k:mw b w e w') : e = .returned (.tuple #[.string (strOfNums l),.bool true])∧ax [] w w':=by
  unfold mw at k
  rw[h] at k
  exact k
theorem wq{b:List Int}{w:World}(h:i5 b=none)(e:Ending)(w':World)(k:mw b w e w') : ∃ s,e = .returned (.tuple #[.string s,.bool false])∧ax [] w w':=by
  unfold mw at k
  rw[h] at k
  exact k
theorem tQ{b l:List Int}{w:World}(h:bV b=some l)(e:Ending)(w':World)(k:gj b w e w') : ∃ v,e = .returned (.tuple #[v,.int .i64 0])∧cy w.heap.size w' v l∧ax [] w w':=by
  unfold gj at k
  rw[h] at k
  exact k
theorem vH{b:List Int}{w:World}(h:bV b=none)(e:Ending)(w':World)(k:gj b w e w') : e = .returned (.tuple #[.slice none 0 0,.int .i64 11])∧ax [] w w':=by
  unfold gj at k
  rw[h] at k
  exact k
def fh (x:List Int) : List Int:=(x.take (x.length-1)).drop 1
theorem ka(x:List Int) : fh x=(x.take (((x.length:Nat) : Int)-1).toNat).drop 1:=by
  unfold fh
  rw[show(((x.length:Nat) : Int)-1).toNat=x.length-1 from by omega]
def dO (dir:Int)(b:List Int) : aW × Int :=
  if dir != 0&&dir != 1 then (aW.zero,1)
  else if decide ((b.length:Int)<9) then (aW.zero,2)
  else if decide (513<(b.length:Int)) then (aW.zero,3)
  else match i5 b with
    | none=>(aW.zero,12)
    | some s=>match bV s with
      | none=>(aW.zero,11)
      | some x=>if !(eR x) then (aW.zero,10) else cT (x.getD 0 0) 0 (cL dir (fh x))
theorem p4{m:Bool}{A:Option Addr}{cp:Nat}{b:List Int}{w:World}{dir:Int}(hsl0:aQ m w (.slice A b.length cp) b)(hb:b.length≤1048576) :
    Calls Tryz.prog 171 #[.int .i64 dir,.slice A b.length cp] w (mT (dO dir b) w):=by
 have hln:(b.length:Int)≤1048576:=by omega
 have hr:cK b:=aQ.range hsl0
 refine en 71 Tryz.func171 rfl<|sg<|L0<|bI #[.int .u8 0,.int .u16 0,.int .u8 0,.int .u8 0,.int .u16 0,.int .u16 0,.int .u16 0,.int .u16 0,.int .u16 0,.int .u16 0,.int .u16 0,.int .u16 0,.int .u16 0,.int .u16 0,.slice none 0 0,.slice none 0 0,.slice none 0 0,.slice none 0 0,.int .u8 0,.int .u8 0,.int .u8 0,.int .u8 0,.int .u8 0,.slice none 0 0] fun bw X k d o=>Pl 1<|nt<|sq<|bk<|sg<|Pl 3<|cu 3 [14] 17 (((dir != 0)&&(dir != 1))) (fun K Y=>?_) ?_
 refine bl 14 ((dir != 0)) (fun F=>?_) (fun F=>?_)
 have an:=aA F
 exact Pl 3<|ce Y (dir != 1) (by rw[F];rfl)
 have an:=ai F
 exact Pl 3<|ce Y false (by rw[F];rfl)
 refine Pl 1<|nt<|cb (((dir != 0)&&(dir != 1))) (fun f=>?_) (fun f=>?_)
 have Z:=(bH f).1
 have a0:=(bH f).2
 have bx:=aA Z
 have bz:=aA a0
 refine sg<|Pl 1<|L0<|bf d #[.int .u8 0,.int .u16 0,.int .u8 0,.int .u8 0,.int .u16 0,.int .u16 0,.int .u16 0,.int .u16 0,.int .u16 0,.int .u16 0,.int .u16 0,.int .u16 0,.int .u16 0,.int .u16 0,.slice none 0 0,.slice none 0 0,.slice none 0 0,.slice none 0 0,.int .u8 0,.int .u8 0,.int .u8 0,.int .u8 0,.int .u8 0,.slice none 0 0] fun bA ao ap=>Pl 1<|nt<|rt<|br<|tr<|cU ao (.int .i64 1)<|?_
 have hs:dO dir b=(aW.zero,1):=by
   unfold dO
   (try simp only[f,Z,a0,bs,if_true,if_false,decide_true,decide_false,cT,reduceIte])
   all_goals rfl
 refine dC hs ?_
 exact cI (ud o ap k)
 refine sg<|Pl 4<|nt<|cb ((decide (((b.length:Nat) : Int)<9))) (fun i=>?_) (fun i=>?_)
 have aq:=of_decide_eq_true i
 refine sg<|Pl 1<|L0<|bf d #[.int .u8 0,.int .u16 0,.int .u8 0,.int .u8 0,.int .u16 0,.int .u16 0,.int .u16 0,.int .u16 0,.int .u16 0,.int .u16 0,.int .u16 0,.int .u16 0,.int .u16 0,.int .u16 0,.slice none 0 0,.slice none 0 0,.slice none 0 0,.slice none 0 0,.int .u8 0,.int .u8 0,.int .u8 0,.int .u8 0,.int .u8 0,.slice none 0 0] fun bB ar au=>Pl 1<|nt<|rt<|br<|tr<|cU ar (.int .i64 2)<|?_
 have hs:dO dir b=(aW.zero,2):=by
   unfold dO
   (try simp only[f,i,bs,if_true,if_false,decide_true,decide_false,cT,reduceIte])
   all_goals rfl
 refine dC hs ?_
 exact cI (ud o au k)
 have aq:=of_decide_eq_false i
 refine sg<|Pl 4<|nt<|cb ((decide (513<((b.length:Nat) : Int)))) (fun j=>?_) (fun j=>?_)
 have av:=of_decide_eq_true j
 refine sg<|Pl 1<|L0<|bf d #[.int .u8 0,.int .u16 0,.int .u8 0,.int .u8 0,.int .u16 0,.int .u16 0,.int .u16 0,.int .u16 0,.int .u16 0,.int .u16 0,.int .u16 0,.int .u16 0,.int .u16 0,.int .u16 0,.slice none 0 0,.slice none 0 0,.slice none 0 0,.slice none 0 0,.int .u8 0,.int .u8 0,.int .u8 0,.int .u8 0,.int .u8 0,.slice none 0 0] fun bC aw ax=>Pl 1<|nt<|rt<|br<|tr<|cU aw (.int .i64 3)<|?_
 have hs:dO dir b=(aW.zero,3):=by
   unfold dO
   (try simp only[f,i,j,bs,if_true,if_false,decide_true,decide_false,cT,reduceIte])
   all_goals rfl
 refine dC hs ?_
 exact cI (ud o ax k)
 have av:=of_decide_eq_false j
 refine sk<|bn<|tn<|sg<|Pl 1<|?_
 have Q:=aQ.old hsl0 o
 refine L0<|iv (.string (strOfNums b)) (cl (A:=A) (n:=b.length) (c:=cp) rfl (by kernel_rfl) Tryz.underlying27 Tryz.underlying5 Tryz.underlying9 Q)<|?_
 rcases hds:i5 b with _|sd
 have az:=jV (w:=X) (aQ.range Q) hb (by omega)
 have aC:=az.mono (wq hds)
 refine L0<|Oc (args:=#[.string (strOfNums b)])<|e1 aC fun bD bE a1=>Pl 5<|nt<|sq<|sg<|Pl 2<|nt<|c1<|sg<|Pl 1<|?_
 refine L0<|bf (ub a1 d) #[.int .u8 0,.int .u16 0,.int .u8 0,.int .u8 0,.int .u16 0,.int .u16 0,.int .u16 0,.int .u16 0,.int .u16 0,.int .u16 0,.int .u16 0,.int .u16 0,.int .u16 0,.int .u16 0,.slice none 0 0,.slice none 0 0,.slice none 0 0,.slice none 0 0,.int .u8 0,.int .u8 0,.int .u8 0,.int .u8 0,.int .u8 0,.slice none 0 0] fun bF aG aH=>Pl 1<|nt<|rt<|tr<|cU aG (.int .i64 12)<|?_
 have hs:dO dir b=(aW.zero,12):=by
   unfold dO
   (try simp only[f,i,j,bs,if_true,if_false,decide_true,decide_false,cT,hds,reduceIte])
   all_goals rfl
 refine dC hs ?_
 exact cI (ud o (uz a1 aH) k)
 have hsl:=tS hds
 have hsd:cK sd:=sU hr hds
 have aI:=jV (w:=X) (aQ.range Q) hb (by omega)
 have aJ:=aI.mono (w6 hds)
 refine L0<|Oc (args:=#[.string (strOfNums b)])<|m1 aJ fun a2 l=>Pl 5<|nt<|sq<|sg<|Pl 2<|nt<|c0<|bG<|sq<|?_
 refine go<|Pl 1<|?_
 have a3:=aE o l
 rcases hth:bV sd with _|x
 have aM:=(lY (w:=a2) hsd (by omega)).mono (vH hth)
 refine L0<|Oc<|m1 aM fun bJ a4=>Pl 5<|nt<|sq<|sg<|Pl 2<|nt<|c1<|sg<|Pl 2<|?_
 refine L0<|bf (ub (aE l a4) d) #[.int .u8 0,.int .u16 0,.int .u8 0,.int .u8 0,.int .u16 0,.int .u16 0,.int .u16 0,.int .u16 0,.int .u16 0,.int .u16 0,.int .u16 0,.int .u16 0,.int .u16 0,.int .u16 0,.slice none 0 0,.slice none 0 0,.slice none 0 0,.slice none 0 0,.int .u8 0,.int .u8 0,.int .u8 0,.int .u8 0,.int .u8 0,.slice none 0 0] fun bK aN aO=>Pl 1<|nt<|rt<|tr<|cU aN (.int .i64 11)<|?_
 have hs:dO dir b=(aW.zero,11):=by
   unfold dO
   (try simp only[f,i,j,bs,if_true,if_false,decide_true,decide_false,cT,hds,hth,reduceIte])
   all_goals rfl
 refine dC hs ?_
 exact cI (ud a3 (uz a4 aO) k)
 have hxl:=rI hth
 have aP:=(lY (w:=a2) hsd (by omega)).mono (tQ hth)
 refine L0<|Oc<|dE aP fun R J bL S bM bN a5=>Pl 5<|nt<|sq<|sg<|Pl 2<|nt<|c0<|bG<|sq<|?_
 refine sg<|Pl 1<|L0<|Oc (args:=#[.slice R x.length J])<|m1 (sG (S).rd) fun aR T=>Pl 1<|nt<|?_
 have G:=aE a5 T
 have a6:=aE a3 G
 refine cb ((!(eR x))) (fun p=>?_) (fun p=>?_)
 have L:(eR x)=false:=by simpa using p
 refine sg<|Pl 1<|?_
 refine L0<|bf (ub (aE l G) d) #[.int .u8 0,.int .u16 0,.int .u8 0,.int .u8 0,.int .u16 0,.int .u16 0,.int .u16 0,.int .u16 0,.int .u16 0,.int .u16 0,.int .u16 0,.int .u16 0,.int .u16 0,.int .u16 0,.slice none 0 0,.slice none 0 0,.slice none 0 0,.slice none 0 0,.int .u8 0,.int .u8 0,.int .u8 0,.int .u8 0,.int .u8 0,.slice none 0 0] fun bO aS aT=>Pl 1<|nt<|rt<|tr<|cU aS (.int .i64 10)<|?_
 have hs:dO dir b=(aW.zero,10):=by
   unfold dO
   (try simp only[f,i,j,p,L,bs,if_true,if_false,decide_true,decide_false,cT,hds,hth,reduceIte])
   all_goals rfl
 refine dC hs ?_
 exact cI (ud a6 aT k)
 have L:(eR x)=true:=by simpa using p
 refine bG<|sg<|Pl 4<|L0<|Oi (((x.length:Nat) : Int)-1)<|u4 (rq (P:=Tryz.prog) 27 5 1 Tryz.underlying27 rfl rfl R x.length J (lo:=1) (up:=(((x.length:Nat) : Int)-1)) 1 (((((x.length:Nat) : Int)-1)).toNat) (by omega) (by omega) (by omega) (by omega) (by omega)) fun aU hrun79 aV=>L0<|iv (.slice aU ((((((x.length:Nat) : Int)-1)).toNat)-1) (J-1)) (lW (kl:=.i64) (kh:=.i64) (lo:=1) (hi:=(((x.length:Nat) : Int)-1)) (A:=R) (n:=x.length) (c:=J) rfl Tryz.underlying27 (by kernel_rfl) (by kernel_rfl) (by kernel_rfl) (hrun79 _ _ _))<|?_
 obtain⟨a,H,U⟩ : ∃ M E,cL dir ((x.take (((((x.length:Nat) : Int)-1)).toNat)).drop 1)=(M,E):=⟨_,_,rfl⟩
 have a7:=aj S T (fun x hx=>ay) (fun _ _ h=>h)
 have a8:=jf (dir:=dir) (w:=aR) (aV _ _ _ _ _ (a7).rd) (by rw[List.length_drop,List.length_take];omega)
 rw[U] at a8
 refine L0<|Oc<|e2 a8 fun aX bP a9 V=>?_
 have b0:=a9
 obtain⟨b1,b2,b3,b4,b5,b6,b7,b9,ba,bb,bc,bQ⟩:=b0
 obtain rfl:aX=(bt a b1 b2 b3 b4 b5).toArray:=by apply Array.toList_inj.1;simpa using b6
 obtain⟨q,r,rfl,_,_⟩:=b7.shape
 obtain⟨s,t,rfl,_,_⟩:=b9.shape
 obtain⟨u,v,rfl,_,_⟩:=ba.shape
 obtain⟨y,z,rfl,_,_⟩:=bb.shape
 obtain⟨B,C,rfl,_,_⟩:=bc.shape
 refine Pl 3<|L0<|bI mZ fun aa bR ab bd be=>L0<|bf bd (mG a.code a.fail a.addr a.count a.value a.and_ a.or_ a.addr2 a.sub a.status a.events a.messages (.slice q a.words.length r) (.slice s a.bits.length t) (.slice u a.data.length v) (.slice y a.recs.length z) a.mei a.kind a.level a.more a.next (.slice B a.objects.length C)) fun bS bg bh=>Pl 1<|nt<|sq<|sg<|Pl 2<|nt<|?_
 have ac:=ud be bh ab
 have N:=aE V ac
 have ad:=aE a6 N
 refine cb ((H != 0)) (fun I=>?_) (fun I=>?_)
 have bi:=aA I
 refine sg<|Pl 2<|?_
 refine L0<|bf (ub (aE l (aE G N)) d) #[.int .u8 0,.int .u16 0,.int .u8 0,.int .u8 0,.int .u16 0,.int .u16 0,.int .u16 0,.int .u16 0,.int .u16 0,.int .u16 0,.int .u16 0,.int .u16 0,.int .u16 0,.int .u16 0,.slice none 0 0,.slice none 0 0,.slice none 0 0,.slice none 0 0,.int .u8 0,.int .u8 0,.int .u8 0,.int .u8 0,.int .u8 0,.slice none 0 0] fun bT bj bm=>Pl 1<|nt<|rt<|tr<|cU bj (.int .i64 H)<|?_
 have hX2:cL dir (fh x)=(a,H):=(congrArg (cL dir) (ka x)).trans U
 have hs:dO dir b=(aW.zero,H):=by
   unfold dO
   (try simp only[f,i,j,p,L,I,bs,if_true,if_false,decide_true,decide_false,cT,hds,hth,hX2,reduceIte])
   all_goals rfl
 refine dC hs ?_
 exact cI (ud ad bm k)
 have bi:=ai I
 refine bG<|sq<|?_
 have af:=aj a7 N (fun x hx=>ay) (fun _ _ h=>h)
 refine gX (aQ.at_ (af).rd 0 (by omega)) fun bo bp ag bq bU=>Rg 8 (fun w'=>w'.cell? ⟨bo,bp+0,none⟩=some (.int .u8 (x.getD 0 0))∧w'.heap[aa]? = some (.cells (mG a.code a.fail a.addr a.count a.value a.and_ a.or_ a.addr2 a.sub a.status a.events a.messages (.slice q a.words.length r) (.slice s a.bits.length t) (.slice u a.data.length v) (.slice y a.recs.length z) a.mei a.kind a.level a.more a.next (.slice B a.objects.length C)) 31 (0,0))) fun bW O=>?_
 have ah:=ub O bg
 refine aZ ⟨(uc O bq),ah⟩ fun D=>Rt 0 D<|qF 1 D x.length 0 0 rfl ag (by omega)<|Rl 2 D (fun _ hs=>hs.1)<|Rt 3 D<|Rr 4 D (.agg (mG a.code a.fail a.addr a.count a.value a.and_ a.or_ a.addr2 a.sub a.status a.events a.messages (.slice q a.words.length r) (.slice s a.bits.length t) (.slice u a.data.length v) (.slice y a.recs.length z) a.mei a.kind a.level a.more a.next (.slice B a.objects.length C))) (fun w' hs=>fM (g:=aa) (off:=0) [.int .u8 a.code,.int .u8 a.fail,.int .u16 a.addr,.int .u16 a.count,.int .u16 a.value,.int .u16 a.and_,.int .u16 a.or_,.int .u16 a.addr2,.int .u16 a.sub,.int .u16 a.status,.int .u16 a.events,.int .u16 a.messages,.slice q a.words.length r,.slice s a.bits.length t,.slice u a.data.length v,.slice y a.recs.length z,.int .u8 a.mei,.int .u8 a.kind,.int .u8 a.level,.int .u8 a.more,.int .u8 a.next,.slice B a.objects.length C] rfl (by kernel_rfl) hs.2 (by kernel_rfl) (by kernel_rfl) rfl)<|Rt 5 D<|?_
 refine R0 6 rfl<|bf (ub (aE l (aE G (aE N O))) d) #[.int .u8 (x.getD 0 0),.int .u16 0,.int .u8 a.code,.int .u8 a.fail,.int .u16 a.addr,.int .u16 a.count,.int .u16 a.value,.int .u16 a.and_,.int .u16 a.or_,.int .u16 a.addr2,.int .u16 a.sub,.int .u16 a.status,.int .u16 a.events,.int .u16 a.messages,.slice q a.words.length r,.slice s a.bits.length t,.slice u a.data.length v,.slice y a.recs.length z,.int .u8 a.mei,.int .u8 a.kind,.int .u8 a.level,.int .u8 a.more,.int .u8 a.next,.slice B a.objects.length C] fun bX bu am=>?_
 have W:=uz O am
 refine aZ ⟨(cB ((aj af W (fun x hx=>(ae (fun e=>(aB (al d) l.size S) (e▸hx)) ay)) (fun _ _ h=>h))).rd ag 0 (by omega)),(aY am (Ne.symm (nb (al d) (le (le (le l.size a5.size) T.size) V.size) ab)) ah)⟩ fun bv=>Rt 7 bv<|re<|tn<|rt<|cU bu (.int .i64 0)<|?_
 have hX2:cL dir (fh x)=(a,H):=(congrArg (cL dir) (ka x)).trans U
 have hs:dO dir b=(⟨(x.getD 0 0),0,a⟩,0):=by
   unfold dO
   (try simp only[f,i,j,p,L,I,bs,if_true,if_false,decide_true,decide_false,cT,hds,hth,hX2,reduceIte])
   all_goals rfl
 refine dC hs ?_
 exact⟨_,rfl,⟨#[.int .u8 a.code,.int .u8 a.fail,.int .u16 a.addr,.int .u16 a.count,.int .u16 a.value,.int .u16 a.and_,.int .u16 a.or_,.int .u16 a.addr2,.int .u16 a.sub,.int .u16 a.status,.int .u16 a.events,.int .u16 a.messages,.slice q a.words.length r,.slice s a.bits.length t,.slice u a.data.length v,.slice y a.recs.length z,.int .u8 a.mei,.int .u8 a.kind,.int .u8 a.level,.int .u8 a.more,.int .u8 a.next,.slice B a.objects.length C],(by as_aux_lemma=>kernel_rfl),(aF.upd a9 (uz ac W) (ak (aL (ub (aE l (aE G V)) d) (by decide)) aD)),b8 (x:=(x.getD 0 0)) (by omega),aK (x:=0) (by omega)⟩,(ud ad W k)⟩
theorem s8{m:Bool}{v:Value}{b:List Int}{w:World}{dir:Int}(h:aQ m w v b)(hb:b.length≤1048576) : Calls Tryz.prog 171 #[.int .i64 dir,v] w (mT (dO dir b) w):=by
  obtain⟨A,cp,rfl,_,_⟩:=h.shape
  exact p4 h hb
open Go.RowKit
def tU (u:Int)(l:List Int) : List Int:=([58]++cY (([u]++l)++[cS ([u]++l)]))++[13,10]
def gi (dir u t:Int)(M:aV) : Option (List Int) :=
  match bY dir M with
  | none=>none
  | some l=>if t != 0 then none else some (tU u l)
def mf (res:Option (List Int))(w:World)(e:Ending)(w':World) : Prop :=
  match res with
  | some l=>∃ v,e = .returned (.tuple #[v,.int .i64 0])∧iK w.heap.size w' v l∧ax [] w w'
  | none=>e = .returned (.tuple #[.slice none 0 0,.int .i64 1])∧ax [] w w'
theorem oP{x y:Option (List Int)}(h:x=y){w:World}{e:Ending}{w':World}(k:mf y w e w') : mf x w e w':=by rw[h];exact k
theorem iK.weaken{base base':Nat}{w:World}{v:Value}{xs:List Int}(h:iK base w v xs)(k:base'≤base) : iK base' w v xs:=by
  obtain⟨g,cap,cur,n,h1,h2,h3⟩:=h
  exact⟨g,cap,cur,n,h1,Nat.le_trans k h2,h3⟩
theorem jd(b:List Int) : 0≤cS b∧cS b<256:=by unfold cS;omega
theorem lS{m:Bool}{cs:Array Value}{M:aV}{w:World}{dir u t:Int}(h:aF m w cs.toList M)(hf:bp M)(hu:B8 u)(ht:db t) : Calls Tryz.prog 200 #[.int .i64 dir,.agg (#[.int .u8 u,.int .u16 t]++cs)] w (mf (gi dir u t M) w):=by
 have hM:=h
 obtain⟨hu1,hu2⟩:=hu
 obtain⟨ht1,ht2⟩:=ht
 obtain⟨vw,vb,vd,vr,vo,h0,hw,hbt,hd,hr,ho,hR⟩:=h
 obtain rfl:cs=(bt M vw vb vd vr vo).toArray:=by apply Array.toList_inj.1;simpa using h0
 clear h0
 obtain⟨Aw,kw,rfl,_,_⟩:=hw.shape
 obtain⟨Ab,kb,rfl,_,_⟩:=hbt.shape
 obtain⟨Ad,kd,rfl,_,_⟩:=hd.shape
 obtain⟨Ar,kr,rfl,_,_⟩:=hr.shape
 obtain⟨Ao,ko,rfl,_,_⟩:=ho.shape
 obtain⟨q0,q1,q2,q3,q4,q5,q6,q7,q8,q9,B,C,D,E,F,G,H⟩:=hR
 simp only[B8,db] at q0 q1 q2 q3 q4 q5 q6 q7 q8 q9 B C D E F G H
 refine en 39 Tryz.func200 rfl<|sg<|L0<|cz #[.int .u8 u,.int .u16 t,.int .u8 M.code,.int .u8 M.fail,.int .u16 M.addr,.int .u16 M.count,.int .u16 M.value,.int .u16 M.and_,.int .u16 M.or_,.int .u16 M.addr2,.int .u16 M.sub,.int .u16 M.status,.int .u16 M.events,.int .u16 M.messages,.slice Aw M.words.length kw,.slice Ab M.bits.length kb,.slice Ad M.data.length kd,.slice Ar M.recs.length kr,.int .u8 M.mei,.int .u8 M.kind,.int .u8 M.level,.int .u8 M.more,.int .u8 M.next,.slice Ao M.objects.length ko] fun a2 a3 a4 o c=>Pl 2<|ng<|Pl 2<|L0<|vU o 2 22<|?_
 rcases hwr:bY dir M with _|lw
 have p:=ec (dir:=dir) (aF.old hM c) hf
 rw[hwr] at p
 refine L0<|Oc<|m1 p fun a5 I=>Pl 5<|nt<|sq<|sg<|Pl 8<|nt<|c1<|sg<|Pl 2<|nl<|?_
 refine tn<|rt<|tr<|rr (.tuple #[.slice none 0 0,.int .i64 1])<|?_
 have hs:gi dir u t M=none:=by
   unfold gi
   (try simp only[hwr,bs,if_true,if_false,decide_true,decide_false,reduceIte])
   all_goals rfl
 refine oP hs ?_
 exact⟨rfl,(aE c I)⟩
 have hlw:=fH hwr
 have q:=ec (dir:=dir) (aF.old hM c) hf
 rw[hwr] at q
 refine L0<|Oc<|dE q fun a6 a7 a8 J a9 aa k=>Pl 5<|nt<|sq<|sg<|Pl 5<|?_
 have r:=ub k o
 refine L1<|aN r 1<|Pl 2<|nt<|?_
 have s:=aE c k
 refine cb ((t != 0)) (fun d=>?_) (fun d=>?_)
 have K:=aA d
 refine sg<|Pl 2<|nt<|rt<|tr<|rr (.tuple #[.slice none 0 0,.int .i64 1])<|?_
 have hs:gi dir u t M=none:=by
   unfold gi
   (try simp only[hwr,d,bs,if_true,if_false,decide_true,decide_false,reduceIte])
   all_goals rfl
 refine oP hs ?_
 exact⟨rfl,s⟩
 have K:=ai d
 refine bG<|sg<|Pl 2<|L0<|aN r 0<|L0<|cF (m:=1) (e:=5) #[.int .u8 u] fun L ab N O f=>?_
 have v:=cP N (xs:=[u]) (by as_aux_lemma=>kernel_rfl) (am (by omega) aM) (by(try simp only[List.length_cons,List.length_nil]);omega) O
 refine Pl 1<|?_
 refine L0<|cj aX (xs:=([u])) (ys:=lw) (.int .u8 0) 1 v ((aj J f (fun x hx=>ay) (fun _ _ h=>h))).rd (by(try simp only[List.length_append,List.length_cons,List.length_nil,av]);omega) f.size fun g P ac l n=>Pl 1<|ng<|Pl 2<|L0<|Oc (args:=#[.slice g (([u]++lw).length) P])<|m1 (lK (l).rd) fun ad i=>?_
 have ae:=jd ([u]++lw)
 refine L0<|cF (m:=1) (e:=5) #[.int .u8 (cS ([u]++lw))] fun af ah Q R j=>?_
 have S:=cP Q (xs:=[(cS ([u]++lw))]) (by as_aux_lemma=>kernel_rfl) (am (by omega) aM) (by(try simp only[List.length_cons,List.length_nil]);omega) R
 refine L0<|cj aX (xs:=([u]++lw)) (ys:=([(cS ([u]++lw))])) (.int .u8 0) 1 (aj (aj l i (fun x hx=>ay) (fun _ _ h=>h)) j (fun x hx=>ay) (fun _ _ h=>h)) (S).rd (by(try simp only[List.length_append,List.length_cons,List.length_nil,av]);omega) (le (le (le f.size n.size) i.size) j.size) fun T U ak y z=>L0<|Oc (args:=#[.slice T ((([u]++lw)++[(cS ([u]++lw))]).length) U])<|m1 (uX (y).rd (by simp only[List.length_append,List.length_cons,List.length_nil];omega)) fun al A=>?_
 have V:cK (cY (([u]++lw)++[(cS ([u]++lw))])):=lR (aQ.range (y).rd)
 have W:cK ([58]++(cY (([u]++lw)++[(cS ([u]++lw))]))):=iE (by decide) V
 refine L0<|iv (.string (strOfNums ([58]++(cY (([u]++lw)++[(cS ([u]++lw))]))))) (nw (a:=⟨#[58]⟩) (b:=(strOfNums (cY (([u]++lw)++[(cS ([u]++lw))])))) (xs:=([58])) (ys:=(cY (([u]++lw)++[(cS ([u]++lw))]))) rfl (by kernel_rfl) (by kernel_rfl) rfl rfl (by simp only[dc,List.length_append,List.length_cons,List.length_nil];omega))<|?_
 have X:cK (([58]++(cY (([u]++lw)++[(cS ([u]++lw))])))++[13,10]):=iE W (by decide)
 refine L0<|iv (.string (strOfNums (([58]++(cY (([u]++lw)++[(cS ([u]++lw))])))++[13,10]))) (nw (a:=(strOfNums ([58]++(cY (([u]++lw)++[(cS ([u]++lw))]))))) (b:=⟨#[13,10]⟩) (xs:=([58]++(cY (([u]++lw)++[(cS ([u]++lw))])))) (ys:=([13,10])) rfl (by kernel_rfl) (by kernel_rfl) rfl rfl (by simp only[dc,List.length_append,List.length_cons,List.length_nil];omega))<|L0<|Bw (xs:=(([58]++(cY (([u]++lw)++[(cS ([u]++lw))])))++[13,10])) Tryz.underlying9 Tryz.underlying27 Tryz.underlying5 X (by simp only[dc,List.length_append,List.length_cons,List.length_nil];omega) fun Y Z an a0 a1=>Pl 2<|nt<|rt<|rr (.tuple #[.slice Y ((([58]++(cY (([u]++lw)++[(cS ([u]++lw))])))++[13,10]).length) Z,.int .i64 0])<|?_
 have hs:gi dir u t M=(some (([58]++(cY (([u]++lw)++[(cS ([u]++lw))])))++[13,10])):=by
   unfold gi
   (try simp only[hwr,d,bs,if_true,if_false,decide_true,decide_false,reduceIte])
   all_goals rfl
 refine oP hs ?_
 exact⟨_,rfl,a0.weaken (le (le (le (le (le (le (le c.size k.size) f.size) n.size) i.size) j.size) z.size) A.size),(aE s (ut f (ut (ax.mono (S':=(ob (some ⟨L,0,none⟩)++(ob g++[]))) n (ag il aq)) (ut (ax.mono (S':=(ob g++[])) i aq) (ut (ax.mono (S':=(ob g++[])) j aq) (aE z (aE A a1)) (ag il aq)) (ag il aq)) (ag il aq)) (ag (aI v lr) (ag (aI l lr) aq))))⟩
open Go.RowKit
theorem jp{m:Bool}{v:Value}{b:List Int}{w:World}{dir:Int}{F:aW}{E:Int}(hX:dO dir b=(F,E))(h:aQ m w v b)(hb:b.length≤1048576) : Calls Tryz.prog 171 #[.int .i64 dir,v] w (fun e w'=>∃ x,e = .returned (.tuple #[.agg (dZ F.unit F.tid F.msg x),.int .i64 E])∧(aF true w' (gG F.msg x).toList F.msg∧(0≤F.unit∧F.unit<256)∧(0≤F.tid∧F.tid<65536))∧ax [] w w'):=by
  refine(s8 h hb).mono ?_
  rintro e w' ⟨cs,rfl,h1,h2⟩
  rw[hX] at h1 ⊢
  obtain⟨c,rfl,h3,h4,h5⟩:=h1
  obtain⟨x,rfl⟩:=mt h3
  exact⟨x,by rw[eB],⟨h3,h4,h5⟩,h2⟩
theorem oe{m:Bool}{x:SL}{M:aV}{w:World}{dir u t:Int}(hX:gi dir u t M=none)(h:aF m w (gG M x).toList M)(hf:bp M)(hu:0≤u∧u<256)(ht:0≤t∧t<65536) : Calls Tryz.prog 200 #[.int .i64 dir,.agg (dZ u t M x)] w (fun e w'=>e = .returned (.tuple #[.slice none 0 0,.int .i64 1])∧ax [] w w'):=by
  have:=lS (dir:=dir) h hf hu ht
  rw[hX] at this
  rw[eB]
  exact this
theorem nn{m:Bool}{x:SL}{M:aV}{w:World}{dir u t:Int}{l:List Int}(hX:gi dir u t M=some l)(h:aF m w (gG M x).toList M)(hf:bp M)(hu:0≤u∧u<256)(ht:0≤t∧t<65536) : Calls Tryz.prog 200 #[.int .i64 dir,.agg (dZ u t M x)] w (fun e w'=>∃ v,e = .returned (.tuple #[v,.int .i64 0])∧iK w.heap.size w' v l∧ax [] w w'):=by
  have:=lS (dir:=dir) h hf hu ht
  rw[hX] at this
  rw[eB]
  exact this
open Go.RowKit
theorem wA{P:Program}{w:World}{t e:TypeId}{g n c:Nat}{C:Array Value}(ht:P.underlying t=some (.slice e))(he:P.underlying e=some (.int .u8))(hb:w.heap[g]? = some (.cells C e (0,0))) :
    ∃ w2,(convert t t (.slice (some ⟨g,0,none⟩) n c)).run P w = .ok (.slice (some ⟨g,0,none⟩) n c) w2∧w2.heap[g]? = some (.cells C e (C.size,C.size+1))∧ax [g] w w2:=by
  have hsh:w.shape? g=some (e,C.size):=by
    unfold World.shape?
    rw[hb]
  refine⟨w.freeze ⟨g,C.size,none⟩ 1,?_,?_,?_⟩
  · simp[convert,run_underlying ht,run_underlying he,markStringish,hsh]
  · unfold World.freeze
    rw[if_neg (by decide)]
    simp[Array.getElem?_modify,hb]
  · unfold World.freeze
    rw[if_neg (by decide)]
    refine⟨rfl,rfl,rfl,by simp,fun k hk hn=>?_⟩
    have hne:¬ g=k:=fun q=>hn (by rw[q];exact List.mem_singleton.2 rfl)
    simp[Array.getElem?_modify,hne]
theorem xy{w:World}{g:Nat}{C:Array Value}{fr:Nat × Nat}{xs:List Int}(hb:w.heap[g]? = some (.cells C 5 fr))(hC:C=(xs.map (Value.int .u8)).toArray)(hr:∀ x,x∈xs→0≤x∧x<256)(hl:xs.length≤4194304) : aQ true w (.slice (some ⟨g,0,none⟩) xs.length xs.length) xs:=by
  refine⟨_,xs.length,rfl,Nat.le_refl _,by unfold maxLen;omega,(fun h=>by cases h),fun _=>⟨g,0,C,_,fr,rfl,hb,fun _=>rfl,fun j x hj=>?_⟩⟩
  refine⟨[.int .u8 x],rfl,⟨rfl,hr x (List.mem_of_getElem? hj)⟩,fun i u hi=>?_⟩
  cases i with
  | succ i=>simp at hi
  | zero =>
    have hi:Value.int .u8 x=u:=by simpa using hi
    subst hi
    subst hC
    simp only[Nat.zero_add,Nat.mul_one,Nat.add_zero]
    rw[List.getElem?_toArray,List.getElem?_map,hj]
    rfl
section
variable {P:Program}{n:Nat}{D:List Deferred}{F:Fr}{w:World}{K:Fr→World→Prop}{Q:Exit→Act→World→Prop}{d:Option Tmp}{t:TypeId}{s:String}{af:Array Edge}{gu:Option (Nat × Bool)}
theorem AC{ty e:TypeId}{x:Operand}{g m c:Nat}{C:Array Value}(hb:w.heap[g]? = some (.cells C e (0,0)))(h:∀ w',w'.heap[g]? = some (.cells C e (C.size,C.size+1))→ax [g] w w'→K (pt d (.slice (some ⟨g,0,none⟩) m c) F) w')
    (hx:dJ F x=some (.slice (some ⟨g,0,none⟩) m c):=by kernel_rfl) (hs:(o6 P ty,P.underlying e,eE n d)=(some e,some (.int .u8),true):=by kernel_rfl) : OG P ⟨d,.convert ty ty x,t,s,af,gu⟩ n D F w K Q:=by
  simp only[Prod.mk.injEq] at hs
  obtain⟨h1,h2,h3⟩:=hs
  obtain⟨w2,hr,hB,hu⟩:=wA (n:=m) (c:=c) (dQ h1) h2 hb
  refine⟨fun a ha K' hK=>OW.mk ?_⟩
  have hx':=ha.ev hx
  unfold Oper.wp execOp
  simp only[hx',Sem.run_bind,Sem.run_pure,hr,Result.andThen_ok]
  exact hK _ _ _ (h w2 hB hu) (ha.put h3)
end
open Go.RowKit
structure SA where
  dir:Int
  held:List Int
abbrev BE (S:SA) (A:Option Addr) (cp:Nat) : Array Value:=#[.int .i64 S.dir,.slice A S.held.length cp]
abbrev xh (w:World) (g:Nat) (S:SA) (A:Option Addr) (cp:Nat) : Prop:=w.heap[g]? = some (.cells (BE S A cp) 129 (0,0))
def SA.tail (d:Int)(h:List Int) : SA × List Ev:=if decide (513<((h.length:Nat) : Int))=true then (⟨d,[]⟩,[Ev.bad 3]) else if eZ h [13,10]=true then (⟨d,[]⟩,[Ev.mk (dO d h).2 (dO d h).1]) else (⟨d,h⟩,[])
def SA.byte (S:SA)(c:Int) : SA × List Ev:=if ((c==58)&&(decide (0<((S.held.length:Nat) : Int))))=true then (⟨S.dir,[58]⟩,[Ev.bad 12]) else if ((c != 58)&&(((S.held.length:Nat) : Int)==0))=true then (S,[]) else SA.tail S.dir (S.held++[c])
def SA.feed (S:SA)(b:List Int) : SA × List Ev:=b.foldl (fun p c=>((p.1.byte c).1,p.2++(p.1.byte c).2)) (S,[])
def SA.ok (S:SA) : Prop:=(∀ x,x∈S.held→0≤x∧x<256)∧S.held.length≤513
theorem SA.ok_le{S:SA}(h:S.ok) : S.held.length≤513:=h.2
theorem SA.byte_ok{S S2:SA}{c:Int}{L2:List Ev}(h:S.ok)(hc:0≤c∧c<256)(hx:S.byte c=(S2,L2)) : S2.ok∧L2.length≤1:=by
  have h0:∀ d,(SA.mk d []).ok:=fun d=>⟨fun x hx=>(by cases hx),Nat.zero_le _⟩
  unfold SA.byte at hx
  split at hx
  · injection hx with e1 e2
    subst e1 e2
    exact⟨⟨fun x hx=>(by rw[List.mem_singleton] at hx;rw[hx];decide),(by show 1≤513;decide)⟩,Nat.le_refl _⟩
  split at hx
  · injection hx with e1 e2
    subst e1 e2
    exact⟨h,Nat.zero_le _⟩
  unfold SA.tail at hx
  split at hx
  · injection hx with e1 e2
    subst e1 e2
    exact⟨h0 _,Nat.le_refl _⟩
  rename_i hl
  split at hx
  · injection hx with e1 e2
    subst e1 e2
    exact⟨h0 _,Nat.le_refl _⟩
  · injection hx with e1 e2
    subst e1 e2
    refine⟨⟨fun x hx=>?_,?_⟩,Nat.zero_le _⟩
    · rcases List.mem_append.1 hx with k | k
      · exact h.1 x k
      · rw[List.mem_singleton] at k;rw[k];exact hc
    · simp only[decide_eq_true_eq] at hl
      show(S.held++[c]).length≤513
      omega
theorem iJ{S0 T T2:SA}{L L2:List Ev}{b:List Int}{k:Nat}(hk:k<b.length)(h:(T,L)=S0.feed (b.take k))(hx:T.byte (b.getD k 0)=(T2,L2)) : (T2,L++L2)=S0.feed (b.take (k+1)):=by
  rw[List.take_succ_eq_append_getElem hk]
  unfold SA.feed at h ⊢
  rw[List.foldl_append,← h]
  rw[List.getD_eq_getElem?_getD,List.getElem?_eq_getElem hk] at hx
  simp only[Option.getD_some] at hx
  simp only[List.foldl_cons,List.foldl_nil,hx]
theorem nz{S0 T T2:SA}{L:List Ev}{b:List Int}{k:Nat}(hk:k<b.length)(h:(T,L)=S0.feed (b.take k))(hx:T.byte (b.getD k 0)=(T2,[])) : (T2,L)=S0.feed (b.take (k+1)):=by
  have:=iJ hk h hx
  rwa [List.append_nil] at this
theorem zW{T:SA}{c:Int}(h:((c==58)&&(decide (0<((T.held.length:Nat) : Int))))=true) : T.byte c=(⟨T.dir,[58]⟩,[Ev.bad 12]):=by unfold SA.byte;rw[if_pos h]
theorem zT{T:SA}{c:Int}(h:((c==58)&&(decide (0<((T.held.length:Nat) : Int))))=false)(h2:((c != 58)&&(((T.held.length:Nat) : Int)==0))=true) : T.byte c=(T,[]):=by unfold SA.byte;rw[if_neg (by rw[h];decide),if_pos h2]
theorem zB{T:SA}{c:Int}(h:((c==58)&&(decide (0<((T.held.length:Nat) : Int))))=false)(h2:((c != 58)&&(((T.held.length:Nat) : Int)==0))=false)(h3:decide (513<(((T.held++[c]).length:Nat) : Int))=true) : T.byte c=(⟨T.dir,[]⟩,[Ev.bad 3]):=by unfold SA.byte;rw[if_neg (by rw[h];decide),if_neg (by rw[h2];decide)];unfold SA.tail;rw[if_pos h3]
theorem v8{T:SA}{c:Int}{F:aW}{E:Int}(h:((c==58)&&(decide (0<((T.held.length:Nat) : Int))))=false)(h2:((c != 58)&&(((T.held.length:Nat) : Int)==0))=false)(h3:decide (513<(((T.held++[c]).length:Nat) : Int))=false)(h4:eZ (T.held++[c]) [13,10]=true)(hX:dO T.dir (T.held++[c])=(F,E)) : T.byte c=(⟨T.dir,[]⟩,[Ev.mk E F]):=by unfold SA.byte;rw[if_neg (by rw[h];decide),if_neg (by rw[h2];decide)];unfold SA.tail;rw[if_neg (by rw[h3];decide),if_pos h4,hX]
theorem vq{T:SA}{c:Int}(h:((c==58)&&(decide (0<((T.held.length:Nat) : Int))))=false)(h2:((c != 58)&&(((T.held.length:Nat) : Int)==0))=false)(h3:decide (513<(((T.held++[c]).length:Nat) : Int))=false)(h4:eZ (T.held++[c]) [13,10]=false) : T.byte c=(⟨T.dir,T.held++[c]⟩,[]):=by unfold SA.byte;rw[if_neg (by rw[h];decide),if_neg (by rw[h2];decide)];unfold SA.tail;rw[if_neg (by rw[h3];decide),if_neg (by rw[h4];decide)]
def BM (base n0:Nat)(S2:SA)(L:List Ev)(g:Nat)(A:Option Addr)(w:World)(e:Ending)(w':World) : Prop:=∃ v A2 cp2 n2,e = .returned v∧dk n2 w.heap.size w' v L∧xh w' g S2 A2 cp2∧cy base w' (.slice A2 S2.held.length cp2) S2.held∧(∀ x,x∈ob A2→x∈ob A∨w.heap.size≤x)∧(n0≤n2∧n2≤w'.heap.size)∧(∀ x,x∈ob A2→n2≤x)∧ax (g :: (ob A++[])) w w'
theorem je{b:List Int}(h:∀ x,x∈b→0≤x∧x<256)(k:Nat) : 0≤b.getD k 0∧b.getD k 0<256:=by
  rw[List.getD_eq_getElem?_getD]
  cases hj:b[k]? with
  | none=>simp
  | some x=>exact h x (List.mem_of_getElem? hj)
theorem rY{w:World}:Calls Tryz.prog 47 #[.int .i64 0] w (fun e w'=>∃ g,e = .returned (.pointer (some ⟨g,0,none⟩))∧w.heap.size≤g∧xh w' g ⟨0,[]⟩ none 0∧ax [] w w'):=by
 refine en 12 Tryz.func47 rfl<|sg<|Pl 1<|nt<|sq<|sg<|Pl 6<|nt<|c0<|sk<|?_
 refine tn<|sg<|Pl 2<|L0<|cz #[.int .i64 0,.slice none 0 0] fun a f b c d=>Pl 1<|nt<|rt<|rr (.pointer (some ⟨a,0,none⟩))<|?_
 exact⟨a,rfl,b,c,d⟩
theorem t4{w:World}:Calls Tryz.prog 47 #[.int .i64 1] w (fun e w'=>∃ g,e = .returned (.pointer (some ⟨g,0,none⟩))∧w.heap.size≤g∧xh w' g ⟨1,[]⟩ none 0∧ax [] w w'):=by
 refine en 12 Tryz.func47 rfl<|sg<|Pl 1<|nt<|sq<|sg<|Pl 6<|nt<|c0<|sk<|?_
 refine tn<|sg<|Pl 2<|L0<|cz #[.int .i64 1,.slice none 0 0] fun a f b c d=>Pl 1<|nt<|rt<|rr (.pointer (some ⟨a,0,none⟩))<|?_
 exact⟨a,rfl,b,c,d⟩
theorem sr{w:World}{g:Nat}{S:SA}{A:Option Addr}{cp:Nat}(hb:xh w g S A cp)(hr:aQ true w (.slice A S.held.length cp) S.held) : Calls Tryz.prog 169 #[.pointer (some ⟨g,0,none⟩)] w (bv (.int .i64 ((S.held.length:Nat) : Int)) w):=by
 have hcm:=aO.len hr
 refine en 8 Tryz.func169 rfl<|sg<|Pl 1<|ng<|Pl 3<|L0<|aN hb 1<|Pl 2<|nt<|rt<|?_
 refine rr (.int .i64 ((S.held.length:Nat) : Int))<|?_
 exact⟨rfl,(ax.refl [] _)⟩
theorem ph{w:World}{g base:Nat}{S:SA}{A:Option Addr}{cp:Nat}{m:Bool}{B:Option Addr}{cpb:Nat}{b:List Int}(hb:xh w g S A cp)(ho:cy base w (.slice A S.held.length cp) S.held)(hbs:base≤w.heap.size)(hok0:S.ok){n0:Nat}(hn0:n0≤w.heap.size)(hlo:∀ x,x∈ob A→n0≤x)(hsl:aQ m w (.slice B b.length cpb) b)(hdg:0<b.length→∀ x,x∈ob B→x≠g)(hda:lA b.length B (ob A))(hbl:b.length≤1048576) :
    Calls Tryz.prog 168 #[.pointer (some ⟨g,0,none⟩),.slice B b.length cpb] w (BM base n0 (S.feed b).1 (S.feed b).2 g A w):=by
 have hdl:=aO.low hsl
 have hok0l:=SA.ok_le hok0
 have hrb:=aQ.range hsl
 refine en 98 Tryz.func168 rfl<|sg<|Pl 1<|nt<|Bx<|sg<|Pl 1<|nt<|sq<|BL<|?_
 refine tn<|sq<|sg<|Pl 3<|nt<|bk<|?_
 refine ir (fun x=>[(0,.pointer (some ⟨g,0,none⟩)),(4,.slice none 0 0),(5,.slice x.2.2.2.2.2.1 x.2.2.1.length x.2.2.2.2.2.2.1),(10,.slice B b.length cpb),(11,.int .i64 ((b.length:Nat) : Int)),(12,.int .i64 ((x.1:Nat) : Int))]) (fun(x:Nat × SA × List Ev × Option Addr × Nat × Option Addr × Nat × Nat) w'=>ax (g :: (ob A++[])) w w'∧xh w' g x.2.1 x.2.2.2.1 x.2.2.2.2.1∧cy base w' (.slice x.2.2.2.1 x.2.1.held.length x.2.2.2.2.1) x.2.1.held∧dk x.2.2.2.2.2.2.2 w.heap.size w' (.slice x.2.2.2.2.2.1 x.2.2.1.length x.2.2.2.2.2.2.1) x.2.2.1∧x.2.2.2.2.2.2.2≤w'.heap.size∧aQ m w' (.slice B b.length cpb) b∧((x.2.1,x.2.2.1)=S.feed (b.take x.1))∧(x.2.1.ok)∧(x.2.1.held.length≤513)∧(x.1≤b.length)∧(x.2.2.1.length≤x.1)∧(∀ y,y∈ob x.2.2.2.1→y∈ob A∨w.heap.size≤y)∧(n0≤x.2.2.2.2.2.2.2)∧(∀ y,y∈ob x.2.2.2.1→x.2.2.2.2.2.2.2≤y)) (fun x=>b.length-x.1) (0,S,[],A,cp,none,0,n0) ⟨ax.refl _ _,hb,ho,(aJ.nil w.heap.size _ _ (bo n0) _),(Nat.le_trans hn0 lr),hsl,rfl,hok0,hok0l,(by(try dsimp only);exact Nat.zero_le _),(by(try dsimp only);exact Nat.zero_le _),iy,(by(try dsimp only);exact Nat.le_refl _),hlo⟩ ?_
 rintro⟨k,T,L,Ah,ch,Bq,cq,n⟩ H ⟨d,cg,ci,cj,ck,cl,cm,co,cr,ct,cv,cw,cx,cz⟩
 refine it [(0,.pointer (some ⟨g,0,none⟩)),(4,.slice none 0 0),(5,.slice Bq L.length cq),(10,.slice B b.length cpb),(11,.int .i64 ((b.length:Nat) : Int)),(12,.int .i64 ((k:Nat) : Int))] ?_
 have f:xh H g T Ah ch:=cg
 have r:cy base H (.slice Ah T.held.length ch) T.held:=ci
 have a:dk n w.heap.size H (.slice Bq L.length cq) L:=cj
 have cA:n≤H.heap.size:=ck
 have hnl:=cA
 have z:aQ m H (.slice B b.length cpb) b:=cl
 have cB:(T,L)=S.feed (b.take k):=cm
 have cC:T.ok:=co
 have dT:T.held.length≤513:=cr
 have dU:k≤b.length:=ct
 have dV:L.length≤k:=cv
 have cD:∀ y,y∈ob Ah→y∈ob A∨w.heap.size≤y:=cw
 have cE:n0≤n:=cx
 have cH:∀ y,y∈ob Ah→n≤y:=cz
 have hlow:=cH
 have hn0l:=cE
 have hat0:=cD
 have hok:=cC
 have hpj:=cB
 have hle:=SA.ok_le hok
 refine sg<|Pl 1<|nt<|sq<|cb ((decide (((k:Nat) : Int)<((b.length:Nat) : Int)))) (fun af=>?_) (fun af=>?_)
 have cI:=of_decide_eq_true af
 refine bG<|sq<|bk<|sg<|gX (aQ.at_ z k (by omega)) fun cJ cK cL cM dW=>L0<|oU b.length k cL (by omega)<|L0<|kY (p:=⟨cJ,cK+k,none⟩) (v:=.int .u8 (b.getD k 0)) cM<|Pl 1<|nt<|sq<|bk<|?_
 refine sg<|Pl 3<|cu 7 [19] 26 ((((b.getD k 0)==58)&&(decide (0<((T.held.length:Nat) : Int))))) (fun K bb=>?_) ?_
 refine bl 19 (((b.getD k 0)==58)) (fun M=>?_) (fun M=>?_)
 have cN:=az M
 exact Pl 3<|L1<|aN f 1<|Pl 3<|ce bb (decide (0<((T.held.length:Nat) : Int))) (by rw[M];rfl)
 have cN:=aC M
 exact Pl 7<|ce bb false (by rw[M];rfl)
 refine Pl 1<|nt<|cb ((((b.getD k 0)==58)&&(decide (0<((T.held.length:Nat) : Int))))) (fun l=>?_) (fun l=>?_)
 have cO:=(bH l).1
 have cQ:=(bH l).2
 have dX:=az cO
 have dY:=of_decide_eq_true cQ
 refine sg<|Pl 2<|L0<|cF (m:=1) (e:=66) #[.int .i64 12,.int .u8 0,.int .u16 0,.int .u8 0,.int .u8 0,.int .u16 0,.int .u16 0,.int .u16 0,.int .u16 0,.int .u16 0,.int .u16 0,.int .u16 0,.int .u16 0,.int .u16 0,.int .u16 0,.slice none 0 0,.slice none 0 0,.slice none 0 0,.slice none 0 0,.int .u8 0,.int .u8 0,.int .u8 0,.int .u8 0,.int .u8 0,.slice none 0 0] fun e0 ah cR cS i=>?_
 have cT:=mQ (w0:=H) (x:=(Ev.bad 12)) cR cS ⟨⟨none,0,none,0,none,0,none,0,none,0⟩,by kernel_rfl,mP,(show(0:Int)≤0∧(0:Int)<256 from by decide),(show(0:Int)≤0∧(0:Int)<65536 from by decide)⟩
 have bc:=aj a i (fun x hx=>ay) (fun x cs q=>bo.upd i bR q)
 have cU:n≤ah.heap.size:=Nat.le_trans hnl i.size
 refine L0<|fx (R:=bo ah.heap.size) (xs:=L) (ys:=([Ev.bad 12])) (.agg #[.int .i64 0,.int .u8 0,.int .u16 0,.int .u8 0,.int .u8 0,.int .u16 0,.int .u16 0,.int .u16 0,.int .u16 0,.int .u16 0,.int .u16 0,.int .u16 0,.int .u16 0,.int .u16 0,.int .u16 0,.slice none 0 0,.slice none 0 0,.slice none 0 0,.slice none 0 0,.int .u8 0,.int .u8 0,.int .u8 0,.int .u8 0,.int .u8 0,.slice none 0 0]) 25 168 (dk.up cU (Nat.le_refl _) bc) (gS.low cT).rd bo.ones (fun w' hv x cs q=>bo.upd hv (iA bc (by decide) bR) q) (by(try simp only[List.length_append,List.length_cons,List.length_nil,av]);omega) (le d.size i.size) fun cV cW e1 bd C e3=>Pl 1<|ng<|Pl 1<|L0<|cF (m:=1) (e:=5) #[.int .u8 58] fun be e4 cX cY an=>?_
 have W:=cP cX (xs:=[58]) (by as_aux_lemma=>kernel_rfl) (am (by omega) aM) (by(try simp only[List.length_cons,List.length_nil]);omega) cY
 refine Pl 2<|?_
 have bg:=ut (ax.mono (S':=(ob Bq++[])) i aq) (aE C an) (ag il aq)
 refine L0<|cn (ax.blk bg (aG (aB (al hb) lr a) ay) f) 1 #[.int .i64 T.dir,.slice (some ⟨be,0,none⟩) 1 1] fun e5 cZ X=>nt<|xt<|A9<|tx<|bx<|tn<|go<|L0<|Oi (((k:Nat) : Int)+1)<|Pl 1<|nl<|?_
 have bh:=u1 (ax.mono (S':=(ob Bq++(g :: []))) bg (ag il aq)) X im
 have bi:=uz an X
 have bj:=zW (T:=T) (c:=(b.getD k 0)) l
 have bm:=SA.byte_ok hok (je hrb k) bj
 exact er ((k+1),(SA.mk T.dir [58]),(L++[Ev.bad 12]),some ⟨be,0,none⟩,1,cV,cW,ah.heap.size) ⟨(ut d bh (ag (aI a lr) (ac im aq))),cZ,(uN (Nat.le_trans hbs (le (le d.size i.size) C.size)) (aj W X (fun x hx=>(ae (fun e=>(aB (al hb) (le (le d.size i.size) C.size) W) (e▸hx)) ay)) (fun _ _ h=>h))),(aj bd bi (fun x hx=>(ae (fun e=>(aB (al hb) lr bd) (e▸hx)) ay)) (fun x cs q=>bo.upd bi (eD (ax.blk (ut (ax.mono (S':=(ob Bq++[])) i aq) C (ag il aq)) (aG (aB (al hb) lr a) ay) f) (by decide) bR) q)),(le (le C.size an.size) X.size),(aQ.far z bh (d8 (fc hdl a (Nat.le_refl _)) (dF hdg et))),(by(try dsimp only);exact iJ (by omega) hpj bj),(by(try dsimp only);exact bm.1),(by(try dsimp only);have q:=SA.ok_le bm.1;exact q),(by(try dsimp only);omega),(by(try dsimp only);(try simp only[List.length_append,List.length_cons,List.length_nil]);omega),(by(try dsimp only);exact(vX W (le (le d.size i.size) C.size))),(by(try dsimp only);exact Nat.le_trans hn0l (Nat.le_trans hnl i.size)),(by(try dsimp only);exact(wQ W C.size))⟩ (by omega)
 refine sg<|Pl 3<|cu 7 [38] 45 ((((b.getD k 0)!=58)&&(((T.held.length:Nat) : Int)==0))) (fun K bp=>?_) ?_
 refine bl 38 (((b.getD k 0)!=58)) (fun N=>?_) (fun N=>?_)
 have d0:=aA N
 exact Pl 3<|L1<|aN f 1<|Pl 3<|ce bp (((T.held.length:Nat) : Int)==0) (by rw[N];rfl)
 have d0:=ai N
 exact Pl 7<|ce bp false (by rw[N];rfl)
 refine Pl 1<|nt<|cb ((((b.getD k 0)!=58)&&(((T.held.length:Nat) : Int)==0))) (fun s=>?_) (fun s=>?_)
 have d1:=(bH s).1
 have d2:=(bH s).2
 have e6:=aA d1
 have e7:=az d2
 refine xt<|A9<|tx<|bx<|tn<|go<|L0<|Oi (((k:Nat) : Int)+1)<|Pl 1<|nl<|?_
 have bq:=zT (T:=T) (c:=(b.getD k 0)) l s
 have br:=SA.byte_ok hok (je hrb k) bq
 exact er ((k+1),T,L,Ah,ch,Bq,cq,n) ⟨d,f,r,a,(Nat.le_trans hnl lr),z,(by(try dsimp only);exact nz (by omega) hpj bq),(by(try dsimp only);exact br.1),(by(try dsimp only);have q:=SA.ok_le br.1;exact q),(by(try dsimp only);omega),(by(try dsimp only);(try simp only[List.length_append,List.length_cons,List.length_nil]);omega),(by(try dsimp only);exact hat0),(by(try dsimp only);exact hn0l),(by(try dsimp only);exact hlow)⟩ (by omega)
 refine sk<|bn<|tn<|sg<|Pl 4<|L0<|aN f 1<|Pl 1<|L0<|cF (m:=1) (e:=5) #[.int .u8 (b.getD k 0)] fun e8 e9 d3 d4 j=>?_
 have d5:=cP d3 (xs:=[(b.getD k 0)]) (by as_aux_lemma=>kernel_rfl) (am (by omega) aM) (by(try simp only[List.length_cons,List.length_nil]);omega) d4
 refine L0<|fx (R:=n8) (xs:=T.held) (ys:=([(b.getD k 0)])) (.int .u8 0) 1 1 (aj r j (fun x hx=>ay) (fun _ _ h=>h)) (d5).rd qU (fun _ _ _ _ h=>h) (by(try simp only[List.length_append,List.length_cons,List.length_nil,av]);omega) (Nat.le_trans hbs (le d.size j.size)) fun Y Z ea bs I bt=>Pl 2<|?_
 have bv:=ut (ax.mono (S':=(ob Ah++[])) j aq) I (ag il aq)
 have bw:=ax.blk bv (aG (bu f r (by decide)) ay) f
 refine L0<|cn bw 1 #[.int .i64 T.dir,.slice Y ((T.held++[(b.getD k 0)]).length) Z] fun d6 O D=>nt<|sq<|bk<|sg<|Pl 3<|L0<|aN O 1<|Pl 3<|nt<|?_
 have J:=u1 (ax.mono (S':=(ob Ah++(g :: []))) bv (ag il aq)) D im
 have bz:=ut d J (ag (jI hat0 il lr) (ac im aq))
 refine cb ((decide (513<(((T.held++[(b.getD k 0)]).length:Nat) : Int)))) (fun E=>?_) (fun E=>?_)
 have d7:=of_decide_eq_true E
 refine go<|Pl 2<|L0<|cF (m:=1) (e:=66) #[.int .i64 3,.int .u8 0,.int .u16 0,.int .u8 0,.int .u8 0,.int .u16 0,.int .u16 0,.int .u16 0,.int .u16 0,.int .u16 0,.int .u16 0,.int .u16 0,.int .u16 0,.int .u16 0,.int .u16 0,.slice none 0 0,.slice none 0 0,.slice none 0 0,.slice none 0 0,.int .u8 0,.int .u8 0,.int .u8 0,.int .u8 0,.int .u8 0,.slice none 0 0] fun eb ao d9 da ap=>?_
 have db:=mQ (w0:=d6) (x:=(Ev.bad 3)) d9 da ⟨⟨none,0,none,0,none,0,none,0,none,0⟩,by kernel_rfl,mP,(show(0:Int)≤0∧(0:Int)<256 from by decide),(show(0:Int)≤0∧(0:Int)<65536 from by decide)⟩
 have a0:=aE J ap
 have bA:=aj a a0 (fun x hx=>(aG ((bC a r (by decide)) x hx) (ae (fun e=>(aB (al hb) lr a) (e▸hx)) ay))) (fun x cs q=>bo.upd a0 (gw hlow (eD f (by decide) bR)) q)
 have dc:n≤ao.heap.size:=Nat.le_trans hnl a0.size
 refine L0<|fx (R:=bo ao.heap.size) (xs:=L) (ys:=([Ev.bad 3])) (.agg #[.int .i64 0,.int .u8 0,.int .u16 0,.int .u8 0,.int .u8 0,.int .u16 0,.int .u16 0,.int .u16 0,.int .u16 0,.int .u16 0,.int .u16 0,.int .u16 0,.int .u16 0,.int .u16 0,.int .u16 0,.slice none 0 0,.slice none 0 0,.slice none 0 0,.slice none 0 0,.int .u8 0,.int .u8 0,.int .u8 0,.int .u8 0,.int .u8 0,.slice none 0 0]) 25 168 (dk.up dc (Nat.le_refl _) bA) (gS.low db).rd bo.ones (fun w' hv x cs q=>bo.upd hv (iA bA (by decide) bR) q) (by(try simp only[List.length_append,List.length_cons,List.length_nil,av]);omega) (le (le (le (le d.size j.size) I.size) D.size) ap.size) fun dd de ec bB bD ed=>Pl 1<|nl<|bn<|tn<|go<|Pl 3<|?_
 have bE:=ut (ax.mono (S':=(ob Bq++[])) ap aq) bD (ag il aq)
 have bF:=ax.blk bE (aG (aB (al hb) lr a) ay) O
 refine L0<|cn bF 1 #[.int .i64 T.dir,.slice none 0 0] fun ee df a1=>nl<|bn<|tn<|go<|L0<|Oi (((k:Nat) : Int)+1)<|Pl 1<|nl<|?_
 have bJ:=u1 (ax.mono (S':=(ob Bq++(g :: []))) bE (ag il aq)) a1 im
 have bK:=zB (T:=T) (c:=(b.getD k 0)) l s E
 have bL:=SA.byte_ok hok (je hrb k) bK
 exact er ((k+1),(SA.mk T.dir []),(L++[Ev.bad 3]),none,0,dd,de,ao.heap.size) ⟨(ut bz bJ (ag (aI a lr) (ac im aq))),df,(aJ.nil base _ _ n8 _),(aj bB a1 (fun x hx=>(ae (fun e=>(aB (al hb) lr bB) (e▸hx)) ay)) (fun x cs q=>bo.upd a1 (eD bF (by decide) bR) q)),(le bD.size a1.size),(aQ.far z (ut (ax.mono (S':=(ob Ah++(g :: (ob Bq++[])))) J (ag il (ac im aq))) bJ (ag il (ac im aq))) (d8 (fe hda hdl hat0) (dF hdg (d8 (fc hdl a (Nat.le_refl _)) et)))),(by(try dsimp only);exact iJ (by omega) hpj bK),(by(try dsimp only);exact bL.1),(by(try dsimp only);have q:=SA.ok_le bL.1;exact q),(by(try dsimp only);omega),(by(try dsimp only);(try simp only[List.length_append,List.length_cons,List.length_nil]);omega),(by(try dsimp only);exact dS),(by(try dsimp only);exact Nat.le_trans hn0l (Nat.le_trans hnl a0.size)),(by(try dsimp only);exact cG)⟩ (by omega)
 have d7:=of_decide_eq_false E
 refine sg<|Pl 3<|L0<|aN O 1<|L0<|cF (m:=2) (e:=5) #[.int .u8 13,.int .u8 10] fun dg ef bM bN P=>?_
 have eg:=cP bM (xs:=[13,10]) (by as_aux_lemma=>kernel_rfl) (am (by omega) (am (by omega) aM)) (by(try simp only[List.length_cons,List.length_nil]);omega) bN
 refine L0<|AC (m:=2) (c:=2) bN fun eh dh Q=>?_
 have di:=xy dh (xs:=[13,10]) (by as_aux_lemma=>kernel_rfl) (am (by omega) (am (by omega) aM)) (by(try simp only[List.length_cons,List.length_nil]);omega)
 have bO:=ud P Q bM
 have a2:=aj bs (aE D bO) (fun x hx=>(ae (fun e=>(bu bw bs (by decide)) (e▸hx)) ay)) (fun _ _ h=>h)
 refine L0<|Oc (args:=#[.slice Y ((T.held++[(b.getD k 0)]).length) Z,.slice (some ⟨dg,0,none⟩) 2 2])<|m1 (xk (xs:=(T.held++[(b.getD k 0)])) (ys:=[13,10]) (a2).rd di) fun ei t=>Pl 1<|nt<|?_
 have a3:=aE bO t
 have ar:=aE bz a3
 refine cb ((eZ (T.held++[(b.getD k 0)]) ([13,10]))) (fun a4=>?_) (fun a4=>?_)
 refine sq<|Rg 15 (fun w'=>w'.cell? ⟨g,0,none⟩=some (.int .i64 T.dir)∧w'.cell? ⟨g,1,none⟩=some (.slice Y ((T.held++[(b.getD k 0)]).length) Z)) fun ej o=>?_
 have au:=aE a3 o
 have a5:=ub au O
 refine aZ ⟨(aa a5 rfl),(aa a5 rfl)⟩ fun u=>Rt 0 u<|Rt 1 u<|Rt 2 u<|Rl 3 u (fun _ hs=>hs.1)<|Rt 4 u<|Rt 5 u<|Rt 6 u<|Rl 7 u (fun _ hs=>hs.2)<|?_
 refine R2 8 12 rfl rfl ?_ ?_
 refine pr (dO T.dir (T.held++[(b.getD k 0)])) fun F a6 bP=>?_
 refine  Oc<|e2 (jp bP ((aj a2 (aE t o) (fun x hx=>ay) (fun _ _ h=>h))).rd (by simp only[List.length_append,List.length_cons,List.length_nil,List.length_replicate];omega)) fun aw ek dj a7=>?_
 obtain⟨dl,dm,dn⟩:=dj
 have aH:=ub a7 a5
 refine aZ ⟨(aa aH rfl),(aa aH rfl)⟩ fun aK=>Rt 9 aK<|Rt 10 aK<|Rt 11 aK<|R0 12 rfl<|bI #[.int .u8 0,.int .u16 0,.int .u8 0,.int .u8 0,.int .u16 0,.int .u16 0,.int .u16 0,.int .u16 0,.int .u16 0,.int .u16 0,.int .u16 0,.int .u16 0,.int .u16 0,.int .u16 0,.slice none 0 0,.slice none 0 0,.slice none 0 0,.slice none 0 0,.int .u8 0,.int .u8 0,.int .u8 0,.int .u8 0,.int .u8 0,.slice none 0 0] fun el em bQ dp aP=>?_
 have aR:=ub aP aH
 refine aZ ⟨(aa aR rfl),(aa aR rfl)⟩ fun eo=>R0 13 rfl<|bf dp (dZ F.unit F.tid F.msg aw) fun dq dr aS=>?_
 have aT:=aY aS (nb (al hb) (le (le (le (le (le (le (le (le d.size j.size) I.size) D.size) P.size) Q.size) t.size) o.size) a7.size) bQ) aR
 refine aZ ⟨(aa aT rfl),(aa aT rfl)⟩ fun ds=>Rt 14 ds<|re<|tn<|go<|Pl 2<|L0<|bZ dr<|Pl 1<|L0<|cF (m:=1) (e:=66) (mS ⟨a6,F⟩ aw) fun ep aU dt du aV=>?_
 have bS:=ud aP (aE aS aV) bQ
 have dv:=mQ (w0:=dq) (x:=(Ev.mk a6 F)) dt du ⟨aw,rfl,(aF.upd dl bS aD),dm,dn⟩
 have bT:=aE a7 bS
 have U:=aE J (aE au bT)
 have bU:=aj a U (fun x hx=>(aG ((bC a r (by decide)) x hx) (ae (fun e=>(aB (al hb) lr a) (e▸hx)) ay))) (fun x cs q=>bo.upd U (gw hlow (eD f (by decide) bR)) q)
 have dw:n≤aU.heap.size:=Nat.le_trans hnl U.size
 refine L0<|fx (R:=bo aU.heap.size) (xs:=L) (ys:=([Ev.mk a6 F])) (.agg #[.int .i64 0,.int .u8 0,.int .u16 0,.int .u8 0,.int .u8 0,.int .u16 0,.int .u16 0,.int .u16 0,.int .u16 0,.int .u16 0,.int .u16 0,.int .u16 0,.int .u16 0,.int .u16 0,.int .u16 0,.slice none 0 0,.slice none 0 0,.slice none 0 0,.slice none 0 0,.int .u8 0,.int .u8 0,.int .u8 0,.int .u8 0,.int .u8 0,.slice none 0 0]) 25 168 (dk.up dw (Nat.le_refl _) bU) (gS.low dv).rd bo.ones (fun w' hv x cs q=>bo.upd hv (iA bU (by decide) bR) q) (by(try simp only[List.length_append,List.length_cons,List.length_nil,av]);omega) (le (le (le (le (le (le (le (le (le (le (le d.size j.size) I.size) D.size) P.size) Q.size) t.size) o.size) a7.size) aP.size) aS.size) aV.size) fun dx dy eq bV bW es=>Pl 1<|nl<|bn<|tn<|go<|Pl 3<|?_
 have bX:=ax.blk (ut (ax.mono (S':=(ob Bq++[])) aV aq) bW (ag il aq)) (aG (aB (al hb) lr a) ay) aT
 refine L0<|cn bX 1 #[.int .i64 T.dir,.slice none 0 0] fun eu dz aW=>nl<|bn<|tn<|go<|L0<|Oi (((k:Nat) : Int)+1)<|Pl 1<|nl<|?_
 have aX:=u1 (ax.mono (S':=(ob Bq++(g :: []))) bW (ag il aq)) aW im
 have bY:=v8 (T:=T) (c:=(b.getD k 0)) l s E a4 bP
 have c0:=SA.byte_ok hok (je hrb k) bY
 exact er ((k+1),(SA.mk T.dir []),(L++[Ev.mk a6 F]),none,0,dx,dy,aU.heap.size) ⟨(ut ar (ut (ax.mono (S':=(ob Bq++(g :: []))) o aq) (ut (ax.mono (S':=(ob Bq++(g :: []))) bT aq) aX (ag il (ac im aq))) (ag il (ac im aq))) (ag (aI a lr) (ac im aq))),dz,(aJ.nil base _ _ n8 _),(aj bV aW (fun x hx=>(ae (fun e=>(aB (al hb) lr bV) (e▸hx)) ay)) (fun x cs q=>bo.upd aW (eD bX (by decide) bR) q)),aX.size,(aQ.far z (ut (ax.mono (S':=(ob Ah++(g :: (ob Bq++[])))) U (ag il (ac im aq))) aX (ag il (ac im aq))) (d8 (fe hda hdl hat0) (dF hdg (d8 (fc hdl a (Nat.le_refl _)) et)))),(by(try dsimp only);exact iJ (by omega) hpj bY),(by(try dsimp only);exact c0.1),(by(try dsimp only);have q:=SA.ok_le c0.1;exact q),(by(try dsimp only);omega),(by(try dsimp only);(try simp only[List.length_append,List.length_cons,List.length_nil]);omega),(by(try dsimp only);exact dS),(by(try dsimp only);exact Nat.le_trans hn0l (Nat.le_trans hnl U.size)),(by(try dsimp only);exact cG)⟩ (by omega)
 refine  bI #[.int .u8 0,.int .u16 0,.int .u8 0,.int .u8 0,.int .u16 0,.int .u16 0,.int .u16 0,.int .u16 0,.int .u16 0,.int .u16 0,.int .u16 0,.int .u16 0,.int .u16 0,.int .u16 0,.slice none 0 0,.slice none 0 0,.slice none 0 0,.slice none 0 0,.int .u8 0,.int .u8 0,.int .u8 0,.int .u8 0,.int .u8 0,.slice none 0 0] fun dA ev b0 dB a8=>?_
 have b1:=ub a8 a5
 refine aZ ⟨(aa b1 rfl),(aa b1 rfl)⟩ fun ew=>?_
 have c1:=aE o a8
 refine pr (dO T.dir (T.held++[(b.getD k 0)])) fun G a9 c2=>?_
 refine R0 8 rfl<|Oc<|e2 (jp c2 ((aj a2 (aE t c1) (fun x hx=>ay) (fun _ _ h=>h))).rd (by simp only[List.length_append,List.length_cons,List.length_nil,List.length_replicate];omega)) fun b2 ex dC ab=>?_
 obtain⟨dD,dE,dG⟩:=dC
 have b3:=ub ab b1
 refine aZ ⟨(aa b3 rfl),(aa b3 rfl)⟩ fun b4=>Rt 9 b4<|Rt 10 b4<|Rt 11 b4<|?_
 have c3:=ub ab dB
 refine R0 13 rfl<|bf c3 (dZ G.unit G.tid G.msg b2) fun dH dI b5=>?_
 have b6:=aY b5 (nb (al hb) (le (le (le (le (le (le (le d.size j.size) I.size) D.size) P.size) Q.size) t.size) o.size) b0) b3
 refine aZ ⟨(aa b6 rfl),(aa b6 rfl)⟩ fun dJ=>Rt 14 dJ<|re<|tn<|go<|Pl 2<|L0<|bZ dI<|Pl 1<|L0<|cF (m:=1) (e:=66) (mS ⟨a9,G⟩ b2) fun ey b7 dK dL b8=>?_
 have c4:=aE b5 b8
 have dM:=mQ (w0:=dH) (x:=(Ev.mk a9 G)) dK dL ⟨b2,rfl,(aF.upd dD c4 (ak (aL c3 (by decide)) aD)),dE,dG⟩
 have c5:=uz ab c4
 have V:=aE J (aE au (ud a8 c5 b0))
 have c6:=aj a V (fun x hx=>(aG ((bC a r (by decide)) x hx) (ae (fun e=>(aB (al hb) lr a) (e▸hx)) ay))) (fun x cs q=>bo.upd V (gw hlow (eD f (by decide) bR)) q)
 have dN:n≤b7.heap.size:=Nat.le_trans hnl V.size
 refine L0<|fx (R:=bo b7.heap.size) (xs:=L) (ys:=([Ev.mk a9 G])) (.agg #[.int .i64 0,.int .u8 0,.int .u16 0,.int .u8 0,.int .u8 0,.int .u16 0,.int .u16 0,.int .u16 0,.int .u16 0,.int .u16 0,.int .u16 0,.int .u16 0,.int .u16 0,.int .u16 0,.int .u16 0,.slice none 0 0,.slice none 0 0,.slice none 0 0,.slice none 0 0,.int .u8 0,.int .u8 0,.int .u8 0,.int .u8 0,.int .u8 0,.slice none 0 0]) 25 168 (dk.up dN (Nat.le_refl _) c6) (gS.low dM).rd bo.ones (fun w' hv x cs q=>bo.upd hv (iA c6 (by decide) bR) q) (by(try simp only[List.length_append,List.length_cons,List.length_nil,av]);omega) (le (le (le (le (le (le (le (le (le (le (le d.size j.size) I.size) D.size) P.size) Q.size) t.size) o.size) a8.size) ab.size) b5.size) b8.size) fun dP dQ ez c7 c8 eA=>Pl 1<|nl<|bn<|tn<|go<|Pl 3<|?_
 have c9:=ax.blk (ut (ax.mono (S':=(ob Bq++[])) b8 aq) c8 (ag il aq)) (aG (aB (al hb) lr a) ay) b6
 refine L0<|cn c9 1 #[.int .i64 T.dir,.slice none 0 0] fun eB dR b9=>nl<|bn<|tn<|go<|L0<|Oi (((k:Nat) : Int)+1)<|Pl 1<|nl<|?_
 have ba:=u1 (ax.mono (S':=(ob Bq++(g :: []))) c8 (ag il aq)) b9 im
 have ca:=v8 (T:=T) (c:=(b.getD k 0)) l s E a4 c2
 have cc:=SA.byte_ok hok (je hrb k) ca
 exact er ((k+1),(SA.mk T.dir []),(L++[Ev.mk a9 G]),none,0,dP,dQ,b7.heap.size) ⟨(ut ar (ut (ax.mono (S':=(ob Bq++(g :: []))) c1 aq) (ut (ax.mono (S':=(dA :: (ob Bq++(g :: [])))) c5 (ac im aq)) ba (ag il (ac im aq))) (ac (ni o.size b0) (ag il (ac im aq)))) (ag (aI a lr) (ac im aq))),dR,(aJ.nil base _ _ n8 _),(aj c7 b9 (fun x hx=>(ae (fun e=>(aB (al hb) lr c7) (e▸hx)) ay)) (fun x cs q=>bo.upd b9 (eD c9 (by decide) bR) q)),ba.size,(aQ.far z (ut (ax.mono (S':=(ob Ah++(g :: (ob Bq++[])))) V (ag il (ac im aq))) ba (ag il (ac im aq))) (d8 (fe hda hdl hat0) (dF hdg (d8 (fc hdl a (Nat.le_refl _)) et)))),(by(try dsimp only);exact iJ (by omega) hpj ca),(by(try dsimp only);exact cc.1),(by(try dsimp only);have q:=SA.ok_le cc.1;exact q),(by(try dsimp only);omega),(by(try dsimp only);(try simp only[List.length_append,List.length_cons,List.length_nil]);omega),(by(try dsimp only);exact dS),(by(try dsimp only);exact Nat.le_trans hn0l (Nat.le_trans hnl V.size)),(by(try dsimp only);exact cG)⟩ (by omega)
 refine xt<|A9<|tx<|bx<|tn<|go<|L0<|Oi (((k:Nat) : Int)+1)<|Pl 1<|nl<|?_
 have ad:=aE J a3
 have cd:=vq (T:=T) (c:=(b.getD k 0)) l s E a4
 have cf:=SA.byte_ok hok (je hrb k) cd
 exact er ((k+1),(SA.mk T.dir (T.held++[(b.getD k 0)])),L,Y,Z,Bq,cq,n) ⟨ar,(ub a3 O),(aj a2 t (fun x hx=>ay) (fun _ _ h=>h)),(aj a ad (fun x hx=>(aG ((bC a r (by decide)) x hx) (ae (fun e=>(aB (al hb) lr a) (e▸hx)) ay))) (fun x cs q=>bo.upd ad (gw hlow (eD f (by decide) bR)) q)),(Nat.le_trans hnl ad.size),(aQ.far z ad (d8 (fe hda hdl hat0) (dF hdg et))),(by(try dsimp only);exact nz (by omega) hpj cd),(by(try dsimp only);exact cf.1),(by(try dsimp only);have q:=SA.ok_le cf.1;exact q),(by(try dsimp only);omega),(by(try dsimp only);(try simp only[List.length_append,List.length_cons,List.length_nil]);omega),(by(try dsimp only);exact(jg bt hat0 (le d.size j.size))),(by(try dsimp only);exact hn0l),(by(try dsimp only);exact(rc bt hlow (Nat.le_trans hnl j.size)))⟩ (by omega)
 have cI:=of_decide_eq_false af
 refine xt<|tx<|tx<|bx<|tn<|sg<|Pl 2<|nt<|rt<|gr<|rr (.slice Bq L.length cq)<|?_
 have hs:S.feed b=(T,L):=by rw[hpj,List.take_of_length_le (by omega)]
 rw[hs]
 exact⟨_,Ah,ch,n,rfl,a,f,r,hat0,⟨hn0l,Nat.le_trans hnl lr⟩,hlow,d⟩
open Go.RowKit
def cQ (n base:Nat)(w:World)(g:Nat)(A:Option Addr)(cp:Nat)(S:SA) : Prop:=xh w g S A cp∧cy base w (.slice A S.held.length cp) S.held∧S.ok∧n≤w.heap.size∧(∀ x,x∈ob A→n≤x)∧base≤w.heap.size
section
variable {n base g cp:Nat}{w w':World}{A:Option Addr}{S:SA}{X:List Nat}
theorem cQ.row(h:cQ n base w g A cp S) : cy base w (.slice A S.held.length cp) S.held:=h.2.1
theorem cQ.low(h:cQ n base w g A cp S) : ∀ x,x∈ob A→n≤x:=h.2.2.2.2.1
theorem cQ.nle(h:cQ n base w g A cp S) : n≤w.heap.size:=h.2.2.2.1
theorem cQ.le(h:cQ n base w g A cp S) : S.held.length≤513:=SA.ok_le h.2.2.1
theorem cQ.lt(h:cQ n base w g A cp S) : g<w.heap.size:=al h.1
theorem cQ.cells(h:cQ n base w g A cp S) : ∃ cs fr,w.heap[g]? = some (.cells cs 129 fr):=⟨_,_,h.1⟩
theorem cQ.upd(h:cQ n base w g A cp S)(hu:ax X w w')(hg:g∉X)(hr:∀ x,x∈ob A→x∉X) : cQ n base w' g A cp S :=
  ⟨hu.blk hg h.1,aj h.2.1 hu hr (fun _ _ q=>q),h.2.2.1,Nat.le_trans h.2.2.2.1 hu.size,h.2.2.2.2.1,Nat.le_trans h.2.2.2.2.2 hu.size⟩
end
theorem SA.feed_ok:∀ (b:List Int)(S:SA)(L:List Ev),S.ok→(∀ x,x∈b→0≤x∧x<256)→(b.foldl (fun(p:SA × List Ev) c=>((p.1.byte c).1,p.2++(p.1.byte c).2)) (S,L)).1.ok∧(b.foldl (fun(p:SA × List Ev) c=>((p.1.byte c).1,p.2++(p.1.byte c).2)) (S,L)).2.length≤L.length+b.length
  | [],S,L,h,_=>⟨h,Nat.le_refl _⟩
  | c :: t,S,L,h,hb=>by
    have k:=SA.byte_ok (S2:=(S.byte c).1) (L2:=(S.byte c).2) h (hb c (List.mem_cons_self ..)) rfl
    have q:=SA.feed_ok t (S.byte c).1 (L++(S.byte c).2) k.1 (fun x hx=>hb x (List.mem_cons_of_mem _ hx))
    refine⟨q.1,Nat.le_trans q.2 ?_⟩
    rw[List.length_append,List.length_cons]
    omega
theorem SA.feed_le{S S2:SA}{b:List Int}{L:List Ev}(h:S.ok)(hb:∀ x,x∈b→0≤x∧x<256)(hX:S.feed b=(S2,L)) : L.length≤b.length:=by
  have q:=(SA.feed_ok b S [] h hb).2
  have e:L=(S.feed b).2:=(congrArg Prod.snd hX).symm
  rw[e]
  rw[List.length_nil,Nat.zero_add] at q
  exact q
def BY (n base:Nat)(S2:SA)(L:List Ev)(g:Nat)(A:Option Addr)(w:World)(e:Ending)(w':World) : Prop:=∃ v A2 cp2 n2,e = .returned v∧dk n2 w.heap.size w' v L∧cQ n2 base w' g A2 cp2 S2∧(∀ x,x∈ob A2→x∈ob A∨w.heap.size≤x)∧n≤n2∧ax (g :: (ob A++[])) w w'
theorem qp{w:World}{n base g cp cpb nb:Nat}{S S2:SA}{L:List Ev}{A B:Option Addr}{m:Bool}{b:List Int}(hX:S.feed b=(S2,L))(h:cQ n base w g A cp S)(hsl:aQ m w (.slice B nb cpb) b)(hdg:0<nb→∀ x,x∈ob B→x≠g)(hda:lA nb B (ob A))(hbl:b.length≤1048576) :
    Calls Tryz.prog 168 #[.pointer (some ⟨g,0,none⟩),.slice B nb cpb] w (BY n base S2 L g A w):=by
  obtain⟨h1,h2,h3,h4,h5,h6⟩:=h
  obtain rfl:nb=b.length:=by
    obtain⟨_,_,e,_⟩:=hsl.shape
    injection e
  refine(ph h1 h2 h6 h3 h4 h5 hsl hdg hda hbl).mono ?_
  rintro e w' ⟨v,A2,cp2,n2,he,k1,k2,k3,k4,⟨k5,k6⟩,k7,k8⟩
  have hok:=(SA.feed_ok b S [] h3 (aQ.range hsl)).1
  rw[hX] at k1 k2 k3
  have e2:S2=(S.feed b).1:=(congrArg Prod.fst hX).symm
  exact⟨v,A2,cp2,n2,he,k1,⟨k2,k3,by rw[e2];exact hok,k6,k7,Nat.le_trans h6 k8.size⟩,k4,k5,k8⟩
theorem rk(d:Int){w:World}(hq:Calls Tryz.prog 47 #[.int .i64 d] w (fun e w'=>∃ g,e = .returned (.pointer (some ⟨g,0,none⟩))∧w.heap.size≤g∧xh w' g ⟨d,[]⟩ none 0∧ax [] w w')) :
    Calls Tryz.prog 47 #[.int .i64 d] w (fun e w'=>∃ g,e = .returned (.pointer (some ⟨g,0,none⟩))∧w.heap.size≤g∧cQ w.heap.size w.heap.size w' g none 0 ⟨d,[]⟩∧ax [] w w'):=by
  refine hq.mono ?_
  rintro e w' ⟨g,he,h1,h2,h3⟩
  exact⟨g,he,h1,⟨h2,aJ.nil ..,⟨(fun x hx=>by cases hx),(show 0≤513 from by decide)⟩,h3.size,cG,h3.size⟩,h3⟩
theorem tG{w:World}{n base g cp:Nat}{S:SA}{A:Option Addr}(h:cQ n base w g A cp S) : Calls Tryz.prog 169 #[.pointer (some ⟨g,0,none⟩)] w (bv (.int .i64 ((S.held.length:Nat) : Int)) w):=sr h.1 h.2.1.rd
open Go.RowKit
inductive XS where
  | r (S:SS)
  | a (S:SA)
  | m (S:SM)
def XS.zero (k d:Int) : XS:=bif k==0 then .r ⟨d,[],false⟩ else bif k==1 then .a ⟨d,[]⟩ else .m ⟨d,[],0⟩
def XS.feed:XS→List Int→XS × List Ev
  | .r S,b=>(.r (S.feed b).1,(S.feed b).2)
  | .a S,b=>(.a (S.feed b).1,(S.feed b).2)
  | .m S,b=>(.m (S.feed b).1,(S.feed b).2)
def XS.tick:XS→XS × List Ev
  | .r S=>(.r S.tick.1,S.tick.2)
  | .a S=>(.a S,[])
  | .m S=>(.m S,[])
def XS.take (S:XS)(b:List Int)(t:Bool) : XS × List Ev:=bif t then ((S.feed b).1.tick.1,(S.feed b).2++(S.feed b).1.tick.2) else S.feed b
def XS.held:XS→List Int
  | .r S=>S.held
  | .a S=>S.held
  | .m S=>S.held
def BO:XS→TypeId
  | .r _=>95
  | .a _=>101
  | .m _=>103
def cA (n base:Nat)(w:World)(g:Nat)(A:Option Addr)(c:Nat) : XS→Prop
  | .r S=>cH n base w g A c S
  | .a S=>cQ n base w g A c S
  | .m S=>cN n base w g A c S
abbrev BW (S:XS) (g:Nat) : Array Value:=#[.iface (BO S) (.pointer (some ⟨g,0,none⟩))]
def bz (n base:Nat)(w:World)(s g:Nat)(A:Option Addr)(c:Nat)(S:XS) : Prop:=w.heap[s]? = some (.cells (BW S g) 100 (0,0))∧cA n base w g A c S
section
variable {n base s g c:Nat}{w w':World}{A:Option Addr}{S:XS}{X:List Nat}
theorem cA.row(h:cA n base w g A c S) : cy base w (.slice A 0 c) []:=by
  cases S with
  | r S=>exact h.2.1
  | a S=>exact qJ h.2.1
  | m S=>exact qJ h.2.1
theorem cA.low(h:cA n base w g A c S) : ∀ x,x∈ob A→n≤x:=by
  cases S with
  | r S=>exact h.2.2.2.1
  | a S=>exact h.2.2.2.2.1
  | m S=>exact h.2.2.2.2.1
theorem cA.nle(h:cA n base w g A c S) : n≤w.heap.size:=by
  cases S with
  | r S=>exact h.2.2.1
  | a S=>exact h.2.2.2.1
  | m S=>exact h.2.2.2.1
theorem cA.ble(h:cA n base w g A c S) : base≤w.heap.size:=by
  cases S with
  | r S=>exact h.2.2.2.2
  | a S=>exact h.2.2.2.2.2
  | m S=>exact h.2.2.2.2.2
theorem cA.cells(h:cA n base w g A c S) : ∃ t cs fr,w.heap[g]? = some (.cells cs t fr)∧fA.contains t=false∧(t==100)=false∧(t==5)=false:=by
  cases S with
  | r S=>obtain⟨cs,fr,k⟩:=cH.cells h;exact⟨_,cs,fr,k,by decide,by decide,by decide⟩
  | a S=>exact⟨_,_,_,h.1,by decide,by decide,by decide⟩
  | m S=>exact⟨_,_,_,h.1,by decide,by decide,by decide⟩
theorem cA.lt(h:cA n base w g A c S) : g<w.heap.size:=by
  obtain⟨t,cs,fr,k,_⟩:=h.cells
  exact al k
theorem cA.upd(h:cA n base w g A c S)(hu:ax X w w')(hg:g∉X)(hr:∀ x,x∈ob A→x∉X) : cA n base w' g A c S:=by
  cases S with
  | r S=>exact cH.upd h hu hg hr
  | a S=>exact cQ.upd h hu hg hr
  | m S=>exact cN.upd h hu hg hr
theorem cA.gA(h:cA n base w g A c S) : g∉ob A:=by
  obtain⟨t,cs,fr,k,_,_,h2⟩:=h.cells
  exact bu k h.row h2
theorem bz.row(h:bz n base w s g A c S) : cy base w (.slice A 0 c) []:=h.2.row
theorem bz.low(h:bz n base w s g A c S) : ∀ x,x∈ob A→n≤x:=h.2.low
theorem bz.nle(h:bz n base w s g A c S) : n≤w.heap.size:=h.2.nle
theorem bz.ble(h:bz n base w s g A c S) : base≤w.heap.size:=h.2.ble
theorem bz.lt(h:bz n base w s g A c S) : s<w.heap.size:=al h.1
theorem bz.cells(h:bz n base w s g A c S) : ∃ cs fr,w.heap[s]? = some (.cells cs 100 fr):=⟨_,_,h.1⟩
theorem bz.sg(h:bz n base w s g A c S) : s≠g:=fun e=>by
  obtain⟨t,cs,fr,k,_,h2,_⟩:=h.2.cells
  rw[← e,h.1] at k
  injection k with k
  injection k with _ k _
  rw[← k] at h2
  exact absurd h2 (by decide)
theorem bz.sA(h:bz n base w s g A c S) : s∉ob A:=bu h.1 h.row (by decide)
theorem bz.gA(h:bz n base w s g A c S) : g∉ob A:=h.2.gA
theorem bz.upd(h:bz n base w s g A c S)(hu:ax X w w')(hs:s∉X)(hg:g∉X)(hr:∀ x,x∈ob A→x∉X) : bz n base w' s g A c S:=⟨hu.blk hs h.1,h.2.upd hu hg hr⟩
theorem bz.old(h:bz n base w s g A c S)(hu:ax [] w w') : bz n base w' s g A c S:=h.upd hu (by simp) (by simp) (fun x _=>by simp)
theorem cA.ty(h:cA n base w g A c S) : ∃ t cs fr,w.heap[g]? = some (.cells cs t fr)∧(t=127∨t=129∨t=131):=by
  cases S with
  | r S=>obtain⟨cs,fr,k⟩:=cH.cells h;exact⟨_,cs,fr,k,.inl rfl⟩
  | a S=>exact⟨_,_,_,h.1,.inr (.inl rfl)⟩
  | m S=>exact⟨_,_,_,h.1,.inr (.inr rfl)⟩
theorem bz.gx{α:Type}{b2 sz m c2:Nat}{e:TypeId}{R:World→α→List Value→Prop}{A2:Option Addr}{xs:List α}(h:bz n base w s g A c S)(hO:aJ b2 e sz R w (.slice A2 m c2) xs)(he:(127==e)=false∧(129==e)=false∧(131==e)=false) : g∉ob A2:=by
  obtain⟨t,cs,fr,k,rfl|rfl|rfl⟩:=h.2.ty
  · exact bu k hO he.1
  · exact bu k hO he.2.1
  · exact bu k hO he.2.2
theorem bz.apt(h:bz n base w s g A c S){k:Nat}(hk:k≤n) : sQ k (g :: (ob A++[])) w:=by
  obtain⟨t,cs,fr,q,h1,_⟩:=h.2.cells
  exact eD q h1 (gw (pT hk h.low) bR)
end
def Ak (n base:Nat)(S2:XS)(L:List Ev)(s g:Nat)(A:Option Addr)(w:World)(e:Ending)(w':World) : Prop:=∃ v A2 c2 n2,e = .returned v∧dk n2 w.heap.size w' v L∧bz n2 base w' s g A2 c2 S2∧(∀ x,x∈ob A2→x∈ob A∨w.heap.size≤x)∧n≤n2∧ax (g :: (ob A++[])) w w'
def Ae (n base:Nat)(S2:XS)(L:List Ev)(g:Nat)(A:Option Addr)(w:World)(e:Ending)(w':World) : Prop:=∃ v A2 c2 n2,e = .returned v∧dk n2 w.heap.size w' v L∧cA n2 base w' g A2 c2 S2∧(∀ x,x∈ob A2→x∈ob A∨w.heap.size≤x)∧n≤n2∧ax (g :: (ob A++[])) w w'
section
variable {w:World}{n base g c cpb nb:Nat}{A B:Option Addr}{m:Bool}{b:List Int}
theorem sJ{S:SS}(h:cA n base w g A c (.r S))(hsl:aQ m w (.slice B nb cpb) b)(hbl:b.length≤1048576) :
    Calls Tryz.prog 157 #[.pointer (some ⟨g,0,none⟩),.slice B nb cpb] w (Ae n base (.r (S.feed b).1) (S.feed b).2 g A w):=by
  obtain⟨_,_,e,hc,_⟩:=hsl.shape
  injection e with e1 e2 e3
  subst e1 e2 e3
  exact rQ h h.gA hsl hbl hc
theorem sb{S:SS}(h:cA n base w g A c (.r S)) : Calls Tryz.prog 159 #[.pointer (some ⟨g,0,none⟩)] w (Ae n base (.r S.tick.1) S.tick.2 g A w):=rR h
theorem rO{S:SA}(h:cA n base w g A c (.a S))(hsl:aQ m w (.slice B nb cpb) b)(hdg:0<nb→∀ x,x∈ob B→x≠g)(hda:lA nb B (ob A))(hbl:b.length≤1048576) :
    Calls Tryz.prog 168 #[.pointer (some ⟨g,0,none⟩),.slice B nb cpb] w (Ae n base (.a (S.feed b).1) (S.feed b).2 g A w):=qp rfl h hsl hdg hda hbl
theorem rN{S:SM}(h:cA n base w g A c (.m S))(hsl:aQ m w (.slice B nb cpb) b)(hdg:0<nb→∀ x,x∈ob B→x≠g)(hda:lA nb B (ob A))(hbl:b.length≤1048576) :
    Calls Tryz.prog 184 #[.pointer (some ⟨g,0,none⟩),.slice B nb cpb] w (Ae n base (.m (S.feed b).1) (S.feed b).2 g A w):=qz rfl h hsl hdg hda hbl
end
open Go.RowKit
section
variable {P:Program}{n:Nat}{D:List Deferred}{F:Fr}{w:World}{K:Fr→World→Prop}{Q:Exit→Act→World→Prop}{d:Option Tmp}{t:TypeId}{s:String}{af:Array Edge}{gu:Option (Nat × Bool)}
theorem uV{a:Act}{K:Act→World→Prop}{o:Oper}{N:Option Tmp}{f:FuncId}{fn:Func}{x:Operand}{nm:String}{opds:Array Operand}{ts:Array TypeId}{T:TypeId}{v rv:Value}(args:Array Value)(hN:o.dst=N)(hop:o.op = .call { callee:=.invoke x nm,args:=opds,argTypes:=ts })
    (hx : a.eval x = .iface T v) (hm : (method (P.types.size + Made.depth) T v nm).run P w = .ok (f, rv) w) (hf : P.funcs[f]? = some fn) (hname : (fn.name == "runtime.NumGoroutine") = false) (hb : fn.body.isSome = true) (hargs : #[rv] ++ opds.map a.eval = args)
    (h:Calls P f args w fun e w'=>∃ v,e = .returned v∧K (a.put N v) w') : OW P o a w K Q:=by
  refine OW.mk ?_
  subst hN
  subst hargs
  have h1 : fn.name ≠ "runtime.NumGoroutine" := by simpa using hname
  obtain⟨cd,hcd⟩:=Option.isSome_iff_exists.1 hb
  have hcm:(callMethod (.iface T v) nm (opds.map a.eval)).run P w = .ok (.enter f (#[rv]++opds.map a.eval)) w:=by
    unfold callMethod
    simp only[program,Sem.run_bind]
    have hp:(pure P:Sem Program).run P w = .ok P w:=rfl
    simp[Sem.run,hm,callFunc,hf,h1,hcd,Result.andThen]
  have hinv:invoke (.fn (.method nm) #[]) (#[.iface T v]++opds.map a.eval)=callMethod (.iface T v) nm (opds.map a.eval):=by
    have e0:(#[Value.iface T v]++opds.map a.eval)[0]? = some (.iface T v):=by
      rw[Array.getElem?_append_left (by simp)]
      rfl
    have e1:(#[Value.iface T v]++opds.map a.eval).extract 1 (#[Value.iface T v]++opds.map a.eval).size=opds.map a.eval:=by
      apply Array.toList_inj.1
      simp only[Array.toList_extract,List.extract_eq_take_drop,Array.toList_append,Array.toList_map,Array.size_append,Array.size_map]
      simp[List.take_of_length_le]
    unfold invoke
    simp only[e0,e1]
  have hrun:(execOp a.eval o).run P w = .ok (.enter f (#[rv]++opds.map a.eval)) w:=by
    unfold execOp
    simp only[hop,resolve,hx,Sem.run_bind,Sem.run_pure,Result.andThen_ok,hinv,hcm]
  unfold Oper.wp
  rw[hrun,Oper.upon_enter]
  refine h.mono fun e w'' hh=>?_
  obtain⟨v,rfl,h2⟩:=hh
  exact h2
theorem qg{f:FuncId}{x:Operand}{nm:String}{opds:Array Operand}{ts:Array TypeId}{args:Array Value}(T:TypeId)(v rv:Value)(h:Calls P f args w fun e w'=>∃ v,e = .returned v∧K (pt d v F) w')
    (hm:(method (P.types.size+Made.depth) T v nm).run P w = .ok (f,rv) w:=by kernel_rfl) (hx:dJ F x=some (.iface T v):=by kernel_rfl) (ha:some rv :: opds.toList.map (dJ F)=args.toList.map some:=by kernel_rfl) (hf:zf P f=some (false,true):=by kernel_rfl) (hs:eE n d=true:=by kernel_rfl) : OG P ⟨d,.call { callee:=.invoke x nm,args:=opds,argTypes:=ts },t,s,af,gu⟩ n D F w K Q:=by
  obtain⟨fn,h1,h2,h3⟩:=iS hf
  refine⟨fun a hag K' hK=>uV args rfl rfl (hag.ev hx) hm h1 h2 h3 ?_ (h.mono fun e w' hh=>by
    obtain⟨v,rfl,hk⟩:=hh
    exact⟨v,rfl,hK _ _ _ hk (hag.put hs)⟩)⟩
  apply Array.toList_inj.1
  obtain⟨vs,has⟩ : ∃ vs:List Value,args.toList=rv :: vs∧opds.toList.map (dJ F)=vs.map some:=by
    cases hl:args.toList with
    | nil=>rw[hl] at ha;cases ha
    | cons y ys =>
      rw[hl] at ha
      injection ha with e1 e2
      exact⟨ys,by rw[Option.some.inj e1],e2⟩
  rw[has.1,Array.toList_append,Array.toList_map,jG hag has.2]
  rfl
theorem BT{x:Operand}{xt ty:TypeId}{ok:Bool}(T:TypeId)(v r:Value)(h:K (pt d r F) w)(hx:dJ F x=some (.iface T v):=by kernel_rfl)(hr:(Instr.typeAssert (.iface T v) xt ty ok).run P w = .ok r w:=by kernel_rfl)(hs:eE n d=true:=by kernel_rfl) : OG P ⟨d,.typeAssert x xt ty ok,t,s,af,gu⟩ n D F w K Q:=by
  refine⟨fun a ha K' hK=>eK r rfl ?_ (hK _ _ _ h (ha.put hs))⟩
  unfold execOp
  simp only[ha.ev hx,Sem.run_bind,hr,Result.andThen_ok,Sem.run_pure]
theorem kG:∀ {l:List String},l≠[]→∃ m,Instr.least l=some m
  | [],h=>absurd rfl h
  | s :: r,_=>⟨_,rfl⟩
theorem mv{want:Array (String × TypeId)}{got:Array Method}(h:(want.toList.filter fun p=>!got.any fun m=>m.name==p.1&&m.sig==p.2).isEmpty=false) : ∃ m,Instr.missingMethod want got=some m:=by
  unfold Instr.missingMethod
  simp only[List.partition_eq_filter_filter]
  have hne:((want.toList.filter fun p=>!got.any fun m=>m.name==p.1&&m.sig==p.2).map (·.1))≠[]:=by
    intro e
    rw[List.map_eq_nil_iff] at e
    rw[e] at h
    cases h
  generalize ((want.toList.filter fun p=>!got.any fun m=>m.name==p.1&&m.sig==p.2).map (·.1))=l at hne
  by_cases hx:l.filter (not ∘ (fun s:String=>s.contains '.'))=[]
  · have hy:l.filter (fun s:String=>s.contains '.')≠[]:=by
      intro hy
      obtain⟨s,hs⟩:=List.exists_mem_of_ne_nil l hne
      cases hc:s.contains '.'
      · have:s∈l.filter (not ∘ (fun s:String=>s.contains '.')):=List.mem_filter.2 ⟨hs,by simp only[Function.comp,hc,Bool.not_false]⟩
        rw[hx] at this
        cases this
      · have:s∈l.filter (fun s:String=>s.contains '.'):=List.mem_filter.2 ⟨hs,hc⟩
        rw[hy] at this
        cases this
    rw[hx]
    obtain ⟨m, hm⟩ := kG (l := (l.filter (fun s : String => s.contains '.')).map (fun id => (id.splitOn ".").getLastD id)) (by simpa using hy)
    exact⟨m,by rw[hm];rfl⟩
  · obtain⟨m,hm⟩:=kG hx
    exact⟨m,by rw[hm];rfl⟩
def zR (P:Program)(ty T:TypeId) : Bool:=match P.underlying ty,P.info? T with
  | some (.interface want),some i=>!(want.toList.filter fun p=>!i.methods.any fun m=>m.name==p.1&&m.sig==p.2).isEmpty
  | _,_=>false
theorem Bl{x:Operand}{xt ty:TypeId}(T:TypeId)(v z:Value)(h:K (pt d (.tuple #[z,.bool false]) F) w)(hm:zR P ty T=true:=by kernel_rfl)(hx:dJ F x=some (.iface T v):=by kernel_rfl)(hz:(zeroValue ty).run P w = .ok z w:=by kernel_rfl)(hs:eE n d=true:=by kernel_rfl) : OG P ⟨d,.typeAssert x xt ty true,t,s,af,gu⟩ n D F w K Q:=by
  refine⟨fun a ha K' hK=>eK _ rfl ?_ (hK _ _ _ h (ha.put hs))⟩
  unfold zR at hm
  split at hm
  · rename_i want i hu hi
    obtain⟨m,hmm⟩:=mv (by simpa using hm)
    have h1:(underlying ty).run P w = .ok (.interface want) w:=run_underlying hu w
    have h2:(typeInfo T).run P w = .ok i w:=by simp[typeInfo,hi]
    unfold execOp
    simp only[ha.ev hx,Instr.typeAssert,Sem.run_bind,h1,h2,Result.andThen_ok,hmm,hz,Sem.run_pure,if_true]
  · cases hm
end
open Go.RowKit
def jw (k dir u t:Int)(M:aV) : Option (List Int):=bif k==0 then fX dir u t M else bif k==1 then gi dir u t M else bif k==2 then eb dir u t M else none
def xd (k:Int) : Int:=bif k==0 then 256 else bif k==1 then 513 else bif k==2 then 260 else 0
theorem k4{C:Prop}(k:Int)(h0:k=0→C)(h1:k=1→C)(h2:k=2→C)(h3:(k==0)=false→(k==1)=false→(k==2)=false→C) : C:=by
  cases e0:k==0
  · cases e1:k==1
    · cases e2:k==2
      · exact h3 e0 e1 e2
      · exact h2 (by simpa using e2)
    · exact h1 (by simpa using e1)
  · exact h0 (by simpa using e0)
theorem xP(x:Int) : x%3=0∨x%3=1∨x%3=2:=by omega
theorem vf{k dir u t:Int}{M:aV}(h0:(k==0)=false)(h1:(k==1)=false)(h2:(k==2)=false) : jw k dir u t M=none:=by unfold jw;rw[h0,h1,h2];rfl
theorem yj{k:Int}(h0:(k==0)=false)(h1:(k==1)=false)(h2:(k==2)=false) : xd k=0:=by unfold xd;rw[h0,h1,h2];rfl
def gn (base:Nat)(w:World)(v:Value)(xs:List Int) : Prop:=aQ true w v xs∧∃ A n c,v = .slice A n c∧∀ x,x∈ob A→base≤x
theorem gn.wk{base base':Nat}{w:World}{v:Value}{xs:List Int}(h:gn base w v xs)(k:base'≤base) : gn base' w v xs:=by
  obtain⟨h1,A,n,c,h2,h3⟩:=h
  exact⟨h1,A,n,c,h2,fun x hx=>Nat.le_trans k (h3 x hx)⟩
def WR (res:Option (List Int))(base:Nat)(w:World)(v:Value)(n:Int) : Prop:=match res with
  | some l=>n=0∧gn base w v l
  | none=>n=1∧v = .slice none 0 0
theorem WR.wk{res:Option (List Int)}{base base':Nat}{w:World}{v:Value}{n:Int}(h:WR res base w v n)(k:base'≤base) : WR res base' w v n:=by
  cases res with
  | none=>exact h
  | some l=>exact⟨h.1,h.2.wk k⟩
def tA (res:Option (List Int))(w:World)(e:Ending)(w':World) : Prop:=∃ v n,e = .returned (.tuple #[v,.int .i64 n])∧WR res w.heap.size w' v n∧ax [] w w'
theorem gn.of{base:Nat}{w:World}{v:Value}{xs:List Int}(h:cy base w v xs) : gn base w v xs:=by
  obtain⟨A,c,rfl,_,_⟩:=h.rd.shape
  exact⟨h.rd,A,_,c,rfl,dA h⟩
theorem gn.ofF{base:Nat}{w:World}{v:Value}{xs:List Int}(h:iK base w v xs) : gn base w v xs:=by
  obtain⟨b,c,rfl⟩:=h.shape
  exact⟨h.rd,_,_,c,rfl,fun x hx=>by simp[ob] at hx;subst hx;exact h.ge⟩
theorem rE{w:World}:Calls Tryz.prog 41 #[.int .i64 0] w (bv (.iface 122 (.agg #[])) w):=by
 refine en 18 Tryz.func41 rfl<|sg<|Pl 1<|nt<|sq<|sg<|Pl 1<|nt<|bk<|sq<|?_
 refine go<|Pl 2<|nt<|c1<|sg<|Pl 3<|nt<|rt<|br<|tr<|rr (.iface 122 (.agg #[]))<|?_
 exact⟨rfl,(ax.refl [] _)⟩
theorem rj{w:World}:Calls Tryz.prog 41 #[.int .i64 1] w (bv (.iface 123 (.agg #[])) w):=by
 refine en 18 Tryz.func41 rfl<|sg<|Pl 1<|nt<|sq<|sg<|Pl 1<|nt<|bk<|sq<|?_
 refine go<|Pl 2<|nt<|c0<|sg<|Pl 2<|nt<|c1<|sg<|Pl 3<|nl<|?_
 refine tn<|rt<|br<|tr<|rr (.iface 123 (.agg #[]))<|?_
 exact⟨rfl,(ax.refl [] _)⟩
theorem qL{w:World}:Calls Tryz.prog 41 #[.int .i64 2] w (bv (.iface 124 (.agg #[])) w):=by
 refine en 18 Tryz.func41 rfl<|sg<|Pl 1<|nt<|sq<|sg<|Pl 1<|nt<|bk<|sq<|?_
 refine go<|Pl 2<|nt<|c0<|sg<|Pl 2<|nt<|c0<|sg<|Pl 2<|nl<|?_
 refine tn<|c1<|sg<|Pl 3<|nt<|rt<|br<|tr<|rr (.iface 124 (.agg #[]))<|?_
 exact⟨rfl,(ax.refl [] _)⟩
theorem rz{w:World}{k:Int}(h0:(k==0)=false)(h1:(k==1)=false)(h2:(k==2)=false) : Calls Tryz.prog 41 #[.int .i64 k] w (bv (.iface 125 (.agg #[])) w):=by
 refine en 18 Tryz.func41 rfl<|sg<|Pl 1<|nt<|sq<|sg<|Pl 1<|nt<|bk<|sq<|?_
 refine go<|Pl 2<|nt<|cf h0<|sg<|Pl 2<|nt<|cf h1<|sg<|Pl 2<|nl<|?_
 refine tn<|cf h2<|sk<|bn<|tn<|sg<|Pl 3<|nt<|rt<|rr (.iface 125 (.agg #[]))<|?_
 exact⟨rfl,(ax.refl [] _)⟩
theorem wP{w:World}:Calls Tryz.prog 193 #[.agg #[]] w (bv (.int .i64 256) w):=by
 refine en 3 Tryz.func193 rfl<|sg<|L0<|cz #[] fun b c d e a=>Pl 1<|ng<|Pl 1<|nt<|rt<|rr (.int .i64 256)<|?_
 exact⟨rfl,a⟩
theorem ss{w:World}:Calls Tryz.prog 20 #[.int .i64 0] w (bv (.int .i64 256) w):=by
 refine en 6 Tryz.func20 rfl<|sg<|Pl 1<|ng<|Pl 1<|L0<|Oc<|m1 (rE) fun c a=>L0<|qg (f:=193) (args:=#[.agg #[]]) 122 (.agg #[]) (.agg #[])<|m1 (@wP _) fun d b=>Pl 1<|nt<|?_
 refine rt<|rr (.int .i64 256)<|?_
 exact⟨rfl,(aE a b)⟩
theorem wg{w:World}:Calls Tryz.prog 197 #[.agg #[]] w (bv (.int .i64 513) w):=by
 refine en 3 Tryz.func197 rfl<|sg<|L0<|cz #[] fun b c d e a=>Pl 1<|ng<|Pl 1<|nt<|rt<|rr (.int .i64 513)<|?_
 exact⟨rfl,a⟩
theorem sM{w:World}:Calls Tryz.prog 20 #[.int .i64 1] w (bv (.int .i64 513) w):=by
 refine en 6 Tryz.func20 rfl<|sg<|Pl 1<|ng<|Pl 1<|L0<|Oc<|m1 (rj) fun c a=>L0<|qg (f:=197) (args:=#[.agg #[]]) 123 (.agg #[]) (.agg #[])<|m1 (@wg _) fun d b=>Pl 1<|nt<|?_
 refine rt<|rr (.int .i64 513)<|?_
 exact⟨rfl,(aE a b)⟩
theorem wT{w:World}:Calls Tryz.prog 206 #[.agg #[]] w (bv (.int .i64 260) w):=by
 refine en 3 Tryz.func206 rfl<|sg<|L0<|cz #[] fun b c d e a=>Pl 1<|ng<|Pl 1<|nt<|rt<|rr (.int .i64 260)<|?_
 exact⟨rfl,a⟩
theorem sa{w:World}:Calls Tryz.prog 20 #[.int .i64 2] w (bv (.int .i64 260) w):=by
 refine en 6 Tryz.func20 rfl<|sg<|Pl 1<|ng<|Pl 1<|L0<|Oc<|m1 (qL) fun c a=>L0<|qg (f:=206) (args:=#[.agg #[]]) 124 (.agg #[]) (.agg #[])<|m1 (@wT _) fun d b=>Pl 1<|nt<|?_
 refine rt<|rr (.int .i64 260)<|?_
 exact⟨rfl,(aE a b)⟩
theorem wM{w:World}:Calls Tryz.prog 210 #[.agg #[]] w (bv (.int .i64 0) w):=by
 refine en 3 Tryz.func210 rfl<|sg<|L0<|cz #[] fun b c d e a=>Pl 1<|ng<|Pl 1<|nt<|rt<|rr (.int .i64 0)<|?_
 exact⟨rfl,a⟩
theorem tf{w:World}{k:Int}(h0:(k==0)=false)(h1:(k==1)=false)(h2:(k==2)=false) : Calls Tryz.prog 20 #[.int .i64 k] w (bv (.int .i64 0) w):=by
 refine en 6 Tryz.func20 rfl<|sg<|Pl 1<|ng<|Pl 1<|L0<|Oc<|m1 (rz h0 h1 h2) fun c a=>L0<|qg (f:=210) (args:=#[.agg #[]]) 125 (.agg #[]) (.agg #[])<|m1 (@wM _) fun d b=>Pl 1<|nt<|?_
 refine rt<|rr (.int .i64 0)<|?_
 exact⟨rfl,(aE a b)⟩
theorem ke{w:World}{k:Int}:Calls Tryz.prog 20 #[.int .i64 k] w (bv (.int .i64 (xd k)) w):=by
  refine k4 k (fun h=>?_) (fun h=>?_) (fun h=>?_) (fun h0 h1 h2=>?_)
  · subst h;exact ss
  · subst h;exact sM
  · subst h;exact sa
  · rw[yj h0 h1 h2];exact tf h0 h1 h2
theorem qx{m:Bool}{x:SL}{M:aV}{w:World}{dir u t:Int}(h:aF m w (gG M x).toList M)(hf:bp M)(hbu:0≤u∧u<256)(hbt:0≤t∧t<65536) : Calls Tryz.prog 196 #[.int .i64 dir,.agg (dZ u t M x)] w (tA (fX dir u t M) w):=by
  cases hX:fX dir u t M with
  | none =>
    refine(ns hX h hf hbu hbt).mono ?_
    rintro e w' ⟨rfl,hu⟩
    exact⟨_,_,rfl,⟨rfl,rfl⟩,hu⟩
  | some l =>
    refine(ox hX h hf hbu hbt).mono ?_
    rintro e w' ⟨v,rfl,ho,hu⟩
    exact⟨_,_,rfl,⟨rfl,gn.of ho⟩,hu⟩
theorem wi{m:Bool}{x:SL}{M:aV}{w:World}{dir u t:Int}(h:aF m w (gG M x).toList M)(hf:bp M)(hbu:0≤u∧u<256)(hbt:0≤t∧t<65536) : Calls Tryz.prog 195 #[.agg #[],.int .i64 dir,.agg (dZ u t M x)] w (tA (fX dir u t M) w):=by
 refine en 13 Tryz.func195 rfl<|sg<|L0<|cz #[] fun j k l n b=>L0<|cz (dZ u t M x) fun o p q c d=>Pl 2<|ng<|Pl 1<|L0<|bZ c<|?_
 have a:=aE b d
 refine L0<|Oc<|yK (qx (dir:=dir) (aF.old h a) hf hbu hbt) fun e f r g i=>Pl 4<|nt<|rt<|rr (.tuple #[e,.int .i64 f])<|?_
 exact⟨_,_,rfl,g.wk a.size,(aE a i)⟩
theorem oZ{m:Bool}{x:SL}{M:aV}{w:World}{dir u t:Int}(h:aF m w (gG M x).toList M)(hf:bp M)(hbu:0≤u∧u<256)(hbt:0≤t∧t<65536) : Calls Tryz.prog 18 #[.int .i64 0,.int .i64 dir,.agg (dZ u t M x)] w (tA (fX dir u t M) w):=by
 refine en 15 Tryz.func18 rfl<|sg<|L0<|cz (dZ u t M x) fun d s v n o=>Pl 2<|nt<|sq<|Rg 9 (fun w'=>w'.heap[d]? = some (.cells (dZ u t M x) 33 (0,0))) fun y e=>?_
 have i:=ub e n
 refine aZ i fun b=>Rt 0 b<|Rt 2 b<|Rr 3 b (.agg (dZ u t M x)) (fun w' hs=>fM (g:=d) (off:=0) [.int .u8 u,.int .u16 t,.int .u8 M.code,.int .u8 M.fail,.int .u16 M.addr,.int .u16 M.count,.int .u16 M.value,.int .u16 M.and_,.int .u16 M.or_,.int .u16 M.addr2,.int .u16 M.sub,.int .u16 M.status,.int .u16 M.events,.int .u16 M.messages,.slice x.aw M.words.length x.kw,.slice x.ab M.bits.length x.kb,.slice x.ad M.data.length x.kd,.slice x.ar M.recs.length x.kr,.int .u8 M.mei,.int .u8 M.kind,.int .u8 M.level,.int .u8 M.more,.int .u8 M.next,.slice x.ao M.objects.length x.ko] rfl (by kernel_rfl) hs (by kernel_rfl) (by kernel_rfl) rfl)<|R0 1 rfl<|Oc<|m1 (rE) fun z j=>?_
 have k:=ub j i
 refine aZ k fun A=>?_
 have c:=aE o (aE e j)
 refine R0 4 rfl<|qg (f:=195) (args:=#[.agg #[],.int .i64 dir,.agg (dZ u t M x)]) 122 (.agg #[]) (.agg #[])<|yK (wi (dir:=dir) (aF.old h c) hf hbu hbt) fun p q B r l=>?_
 refine aZ (ub l k) fun a=>Rt 5 a<|Rt 6 a<|Rt 7 a<|Rt 8 a<|re<|tn<|rt<|rr (.tuple #[p,.int .i64 q])<|?_
 exact⟨_,_,rfl,r.wk c.size,(aE c l)⟩
theorem pU{m:Bool}{x:SL}{M:aV}{w:World}{dir u t:Int}(h:aF m w (gG M x).toList M)(hf:bp M)(hbu:0≤u∧u<256)(hbt:0≤t∧t<65536) : Calls Tryz.prog 200 #[.int .i64 dir,.agg (dZ u t M x)] w (tA (gi dir u t M) w):=by
  cases hX:gi dir u t M with
  | none =>
    refine(oe hX h hf hbu hbt).mono ?_
    rintro e w' ⟨rfl,hu⟩
    exact⟨_,_,rfl,⟨rfl,rfl⟩,hu⟩
  | some l =>
    refine(nn hX h hf hbu hbt).mono ?_
    rintro e w' ⟨v,rfl,ho,hu⟩
    exact⟨_,_,rfl,⟨rfl,gn.ofF ho⟩,hu⟩
theorem vL{m:Bool}{x:SL}{M:aV}{w:World}{dir u t:Int}(h:aF m w (gG M x).toList M)(hf:bp M)(hbu:0≤u∧u<256)(hbt:0≤t∧t<65536) : Calls Tryz.prog 199 #[.agg #[],.int .i64 dir,.agg (dZ u t M x)] w (tA (gi dir u t M) w):=by
 refine en 13 Tryz.func199 rfl<|sg<|L0<|cz #[] fun j k l n b=>L0<|cz (dZ u t M x) fun o p q c d=>Pl 2<|ng<|Pl 1<|L0<|bZ c<|?_
 have a:=aE b d
 refine L0<|Oc<|yK (pU (dir:=dir) (aF.old h a) hf hbu hbt) fun e f r g i=>Pl 4<|nt<|rt<|rr (.tuple #[e,.int .i64 f])<|?_
 exact⟨_,_,rfl,g.wk a.size,(aE a i)⟩
theorem qC{m:Bool}{x:SL}{M:aV}{w:World}{dir u t:Int}(h:aF m w (gG M x).toList M)(hf:bp M)(hbu:0≤u∧u<256)(hbt:0≤t∧t<65536) : Calls Tryz.prog 18 #[.int .i64 1,.int .i64 dir,.agg (dZ u t M x)] w (tA (gi dir u t M) w):=by
 refine en 15 Tryz.func18 rfl<|sg<|L0<|cz (dZ u t M x) fun d s v n o=>Pl 2<|nt<|sq<|Rg 9 (fun w'=>w'.heap[d]? = some (.cells (dZ u t M x) 33 (0,0))) fun y e=>?_
 have i:=ub e n
 refine aZ i fun b=>Rt 0 b<|Rt 2 b<|Rr 3 b (.agg (dZ u t M x)) (fun w' hs=>fM (g:=d) (off:=0) [.int .u8 u,.int .u16 t,.int .u8 M.code,.int .u8 M.fail,.int .u16 M.addr,.int .u16 M.count,.int .u16 M.value,.int .u16 M.and_,.int .u16 M.or_,.int .u16 M.addr2,.int .u16 M.sub,.int .u16 M.status,.int .u16 M.events,.int .u16 M.messages,.slice x.aw M.words.length x.kw,.slice x.ab M.bits.length x.kb,.slice x.ad M.data.length x.kd,.slice x.ar M.recs.length x.kr,.int .u8 M.mei,.int .u8 M.kind,.int .u8 M.level,.int .u8 M.more,.int .u8 M.next,.slice x.ao M.objects.length x.ko] rfl (by kernel_rfl) hs (by kernel_rfl) (by kernel_rfl) rfl)<|R0 1 rfl<|Oc<|m1 (rj) fun z j=>?_
 have k:=ub j i
 refine aZ k fun A=>?_
 have c:=aE o (aE e j)
 refine R0 4 rfl<|qg (f:=199) (args:=#[.agg #[],.int .i64 dir,.agg (dZ u t M x)]) 123 (.agg #[]) (.agg #[])<|yK (vL (dir:=dir) (aF.old h c) hf hbu hbt) fun p q B r l=>?_
 refine aZ (ub l k) fun a=>Rt 5 a<|Rt 6 a<|Rt 7 a<|Rt 8 a<|re<|tn<|rt<|rr (.tuple #[p,.int .i64 q])<|?_
 exact⟨_,_,rfl,r.wk c.size,(aE c l)⟩
theorem ol{m:Bool}{x:SL}{M:aV}{w:World}{dir u t:Int}(h:aF m w (gG M x).toList M)(hf:bp M)(hbu:0≤u∧u<256)(hbt:0≤t∧t<65536) : Calls Tryz.prog 209 #[.int .i64 dir,.agg (dZ u t M x)] w (tA (eb dir u t M) w):=by
  cases hX:eb dir u t M with
  | none =>
    refine(mA hX h hf hbu hbt).mono ?_
    rintro e w' ⟨rfl,hu⟩
    exact⟨_,_,rfl,⟨rfl,rfl⟩,hu⟩
  | some l =>
    refine(mU hX h hf hbu hbt).mono ?_
    rintro e w' ⟨v,rfl,ho,hu⟩
    exact⟨_,_,rfl,⟨rfl,gn.of ho⟩,hu⟩
theorem xr{m:Bool}{x:SL}{M:aV}{w:World}{dir u t:Int}(h:aF m w (gG M x).toList M)(hf:bp M)(hbu:0≤u∧u<256)(hbt:0≤t∧t<65536) : Calls Tryz.prog 208 #[.agg #[],.int .i64 dir,.agg (dZ u t M x)] w (tA (eb dir u t M) w):=by
 refine en 13 Tryz.func208 rfl<|sg<|L0<|cz #[] fun j k l n b=>L0<|cz (dZ u t M x) fun o p q c d=>Pl 2<|ng<|Pl 1<|L0<|bZ c<|?_
 have a:=aE b d
 refine L0<|Oc<|yK (ol (dir:=dir) (aF.old h a) hf hbu hbt) fun e f r g i=>Pl 4<|nt<|rt<|rr (.tuple #[e,.int .i64 f])<|?_
 exact⟨_,_,rfl,g.wk a.size,(aE a i)⟩
theorem oX{m:Bool}{x:SL}{M:aV}{w:World}{dir u t:Int}(h:aF m w (gG M x).toList M)(hf:bp M)(hbu:0≤u∧u<256)(hbt:0≤t∧t<65536) : Calls Tryz.prog 18 #[.int .i64 2,.int .i64 dir,.agg (dZ u t M x)] w (tA (eb dir u t M) w):=by
 refine en 15 Tryz.func18 rfl<|sg<|L0<|cz (dZ u t M x) fun d s v n o=>Pl 2<|nt<|sq<|Rg 9 (fun w'=>w'.heap[d]? = some (.cells (dZ u t M x) 33 (0,0))) fun y e=>?_
 have i:=ub e n
 refine aZ i fun b=>Rt 0 b<|Rt 2 b<|Rr 3 b (.agg (dZ u t M x)) (fun w' hs=>fM (g:=d) (off:=0) [.int .u8 u,.int .u16 t,.int .u8 M.code,.int .u8 M.fail,.int .u16 M.addr,.int .u16 M.count,.int .u16 M.value,.int .u16 M.and_,.int .u16 M.or_,.int .u16 M.addr2,.int .u16 M.sub,.int .u16 M.status,.int .u16 M.events,.int .u16 M.messages,.slice x.aw M.words.length x.kw,.slice x.ab M.bits.length x.kb,.slice x.ad M.data.length x.kd,.slice x.ar M.recs.length x.kr,.int .u8 M.mei,.int .u8 M.kind,.int .u8 M.level,.int .u8 M.more,.int .u8 M.next,.slice x.ao M.objects.length x.ko] rfl (by kernel_rfl) hs (by kernel_rfl) (by kernel_rfl) rfl)<|R0 1 rfl<|Oc<|m1 (qL) fun z j=>?_
 have k:=ub j i
 refine aZ k fun A=>?_
 have c:=aE o (aE e j)
 refine R0 4 rfl<|qg (f:=208) (args:=#[.agg #[],.int .i64 dir,.agg (dZ u t M x)]) 124 (.agg #[]) (.agg #[])<|yK (xr (dir:=dir) (aF.old h c) hf hbu hbt) fun p q B r l=>?_
 refine aZ (ub l k) fun a=>Rt 5 a<|Rt 6 a<|Rt 7 a<|Rt 8 a<|re<|tn<|rt<|rr (.tuple #[p,.int .i64 q])<|?_
 exact⟨_,_,rfl,r.wk c.size,(aE c l)⟩
theorem wK{m:Bool}{x:SL}{M:aV}{w:World}{dir u t:Int}(h:aF m w (gG M x).toList M)(hf:bp M)(hbu:0≤u∧u<256)(hbt:0≤t∧t<65536) : Calls Tryz.prog 212 #[.agg #[],.int .i64 dir,.agg (dZ u t M x)] w (tA (none) w):=by
 refine en 8 Tryz.func212 rfl<|sg<|L0<|cz #[] fun c d e f a=>L0<|cz (dZ u t M x) fun g i j k b=>Pl 2<|ng<|Pl 2<|nt<|rt<|?_
 refine rr (.tuple #[.slice none 0 0,.int .i64 1])<|?_
 exact⟨_,_,rfl,⟨rfl,rfl⟩,(aE a b)⟩
theorem pS{m:Bool}{x:SL}{M:aV}{w:World}{dir u t:Int}(h:aF m w (gG M x).toList M)(hf:bp M)(hbu:0≤u∧u<256)(hbt:0≤t∧t<65536){k:Int}(h0:(k==0)=false)(h1:(k==1)=false)(h2:(k==2)=false) : Calls Tryz.prog 18 #[.int .i64 k,.int .i64 dir,.agg (dZ u t M x)] w (tA (none) w):=by
 refine en 15 Tryz.func18 rfl<|sg<|L0<|cz (dZ u t M x) fun d v y o p=>Pl 2<|nt<|sq<|Rg 9 (fun w'=>w'.heap[d]? = some (.cells (dZ u t M x) 33 (0,0))) fun z e=>?_
 have i:=ub e o
 refine aZ i fun b=>Rt 0 b<|Rt 2 b<|Rr 3 b (.agg (dZ u t M x)) (fun w' hs=>fM (g:=d) (off:=0) [.int .u8 u,.int .u16 t,.int .u8 M.code,.int .u8 M.fail,.int .u16 M.addr,.int .u16 M.count,.int .u16 M.value,.int .u16 M.and_,.int .u16 M.or_,.int .u16 M.addr2,.int .u16 M.sub,.int .u16 M.status,.int .u16 M.events,.int .u16 M.messages,.slice x.aw M.words.length x.kw,.slice x.ab M.bits.length x.kb,.slice x.ad M.data.length x.kd,.slice x.ar M.recs.length x.kr,.int .u8 M.mei,.int .u8 M.kind,.int .u8 M.level,.int .u8 M.more,.int .u8 M.next,.slice x.ao M.objects.length x.ko] rfl (by kernel_rfl) hs (by kernel_rfl) (by kernel_rfl) rfl)<|R0 1 rfl<|Oc<|m1 (rz h0 h1 h2) fun A j=>?_
 have l:=ub j i
 refine aZ l fun B=>?_
 have c:=aE p (aE e j)
 refine R0 4 rfl<|qg (f:=212) (args:=#[.agg #[],.int .i64 dir,.agg (dZ u t M x)]) 125 (.agg #[]) (.agg #[])<|yK (wK (dir:=dir) (aF.old h c) hf hbu hbt) fun q r C s n=>?_
 refine aZ (ub n l) fun a=>Rt 5 a<|Rt 6 a<|Rt 7 a<|Rt 8 a<|re<|tn<|rt<|rr (.tuple #[q,.int .i64 r])<|?_
 exact⟨_,_,rfl,s.wk c.size,(aE c n)⟩
theorem lB{k:Int}{m:Bool}{x:SL}{M:aV}{w:World}{dir u t:Int}(h:aF m w (gG M x).toList M)(hf:bp M)(hbu:0≤u∧u<256)(hbt:0≤t∧t<65536) : Calls Tryz.prog 18 #[.int .i64 k,.int .i64 dir,.agg (dZ u t M x)] w (tA (jw k dir u t M) w):=by
  refine k4 k (fun e=>?_) (fun e=>?_) (fun e=>?_) (fun h0 h1 h2=>?_)
  · subst e;exact oZ h hf hbu hbt
  · subst e;exact qC h hf hbu hbt
  · subst e;exact oX h hf hbu hbt
  · rw[vf h0 h1 h2];exact pS h hf hbu hbt h0 h1 h2
theorem fi{k:Int}{m:Bool}{x:SL}{M:aV}{w:World}{dir u t:Int}(h:aF m w (gG M x).toList M)(hf:bp M)(hbu:0≤u∧u<256)(hbt:0≤t∧t<65536)(hX:jw k dir u t M=none) : Calls Tryz.prog 18 #[.int .i64 k,.int .i64 dir,.agg (dZ u t M x)] w (fun e w'=>e = .returned (.tuple #[.slice none 0 0,.int .i64 1])∧ax [] w w'):=by
  refine(lB h hf hbu hbt).mono ?_
  rw[hX]
  rintro e w' ⟨v,n,rfl,⟨rfl,rfl⟩,hu⟩
  exact⟨rfl,hu⟩
theorem fg{k:Int}{m:Bool}{x:SL}{M:aV}{w:World}{dir u t:Int}{l:List Int}(h:aF m w (gG M x).toList M)(hf:bp M)(hbu:0≤u∧u<256)(hbt:0≤t∧t<65536)(hX:jw k dir u t M=some l) : Calls Tryz.prog 18 #[.int .i64 k,.int .i64 dir,.agg (dZ u t M x)] w (fun e w'=>∃ v,e = .returned (.tuple #[v,.int .i64 0])∧gn w.heap.size w' v l∧ax [] w w'):=by
  refine(lB h hf hbu hbt).mono ?_
  rw[hX]
  rintro e w' ⟨v,n,rfl,⟨rfl,ho⟩,hu⟩
  exact⟨v,rfl,ho,hu⟩
open Go.RowKit
theorem cA.apt{n base g c:Nat}{w:World}{A:Option Addr}{S:XS}(h:cA n base w g A c S){k:Nat}(hk:k≤n) : sQ k (g :: (ob A++[])) w:=by
  obtain⟨t,cs,fr,q,h1,_⟩:=h.cells
  exact eD q h1 (gw (pT hk h.low) bR)
theorem yz{d:Int}(hd:d=0∨d=1) : ((d != 0)&&(d != 1))=false:=by rcases hd with rfl | rfl<;>rfl
theorem cH.old0{n base g c:Nat}{w w':World}{A:Option Addr}{S:SS}(h:cH n base w g A c S)(hu:ax [] w w') : cH n base w' g A c S:=h.upd hu (by simp) (fun x _=>by simp)
theorem cH.weak{n n' g:Nat}{w:World}{S:SS}{c:Nat}(h:cH n n w g none c S)(hn:n'≤n) : cH n' n' w g none c S:=by
  obtain⟨h1,h2,h3,h4,h5⟩:=h
  exact⟨h1,aJ.weaken h2 hn,Nat.le_trans hn h3,cG,Nat.le_trans hn h5⟩
theorem t8{w:World}{d:Int}(hd:d=0∨d=1) : Calls Tryz.prog 29 #[.int .i64 0,.int .i64 d] w (fun e w'=>∃ s g,e = .returned (.pointer (some ⟨s,0,none⟩))∧w.heap.size≤s∧w.heap.size≤g∧bz w.heap.size w.heap.size w' s g none 0 (XS.zero 0 d)∧ax [] w w'):=by
 refine en 36 Tryz.func29 rfl<|sg<|Pl 1<|nt<|sq<|sg<|Pl 1<|L0<|Oc<|m1 (ke (k:=0)) fun q b=>Pl 5<|cu 3 [11] 14 (((d != 0)&&(d != 1))) (fun K c=>?_) ?_
 refine bl 11 ((d != 0)) (fun a=>?_) (fun a=>?_)
 have l:=aA a
 exact Pl 3<|ce c (d != 1) (by rw[a];rfl)
 have l:=ai a
 exact Pl 3<|ce c false (by rw[a];rfl)
 refine Pl 1<|nt<|cf (yz hd)<|bG<|sq<|sg<|Pl 1<|nt<|bk<|sq<|?_
 refine go<|Pl 2<|nt<|c1<|sg<|Pl 1<|L0<|Oc<|e3 (wD hd) fun f t m n h=>Pl 2<|L0<|cz #[.iface 95 (.pointer (some ⟨f,0,none⟩))] fun i u o p j=>Pl 1<|nt<|?_
 refine rt<|br<|tr<|rr (.pointer (some ⟨i,0,none⟩))<|?_
 exact⟨i,f,rfl,(Nat.le_trans (le b.size h.size) o),(Nat.le_trans b.size m),⟨p,(show cA _ _ _ _ _ _ (XS.r _) from((cH.old0 n j)).weak b.size)⟩,(aE b (aE h j))⟩
theorem uj{w:World}{d:Int}(hd:d=0∨d=1) : Calls Tryz.prog 47 #[.int .i64 d] w (fun e w'=>∃ g,e = .returned (.pointer (some ⟨g,0,none⟩))∧w.heap.size≤g∧cQ w.heap.size w.heap.size w' g none 0 ⟨d,[]⟩∧ax [] w w'):=by
  rcases hd with rfl|rfl
  · exact rk 0 rY
  · exact rk 1 t4
theorem cQ.old0{n base g c:Nat}{w w':World}{A:Option Addr}{S:SA}(h:cQ n base w g A c S)(hu:ax [] w w') : cQ n base w' g A c S:=h.upd hu (by simp) (fun x _=>by simp)
theorem cQ.weak{n n' g:Nat}{w:World}{S:SA}{c:Nat}(h:cQ n n w g none c S)(hn:n'≤n) : cQ n' n' w g none c S:=by
  obtain⟨h1,h2,h6,h3,h4,h5⟩:=h
  exact⟨h1,aJ.weaken h2 hn,h6,Nat.le_trans hn h3,cG,Nat.le_trans hn h5⟩
theorem s9{w:World}{d:Int}(hd:d=0∨d=1) : Calls Tryz.prog 29 #[.int .i64 1,.int .i64 d] w (fun e w'=>∃ s g,e = .returned (.pointer (some ⟨s,0,none⟩))∧w.heap.size≤s∧w.heap.size≤g∧bz w.heap.size w.heap.size w' s g none 0 (XS.zero 1 d)∧ax [] w w'):=by
 refine en 36 Tryz.func29 rfl<|sg<|Pl 1<|nt<|sq<|sg<|Pl 1<|L0<|Oc<|m1 (ke (k:=1)) fun r c=>Pl 5<|cu 3 [11] 14 (((d != 0)&&(d != 1))) (fun K f=>?_) ?_
 refine bl 11 ((d != 0)) (fun b=>?_) (fun b=>?_)
 have m:=aA b
 exact Pl 3<|ce f (d != 1) (by rw[b];rfl)
 have m:=ai b
 exact Pl 3<|ce f false (by rw[b];rfl)
 refine Pl 1<|nt<|cf (yz hd)<|bG<|sq<|sg<|Pl 1<|nt<|bk<|sq<|?_
 refine go<|Pl 2<|nt<|c0<|sg<|Pl 2<|nt<|c1<|sg<|Pl 1<|L0<|Oc<|e3 (uj hd) fun h t n o i=>?_
 refine Pl 2<|L0<|cz #[.iface 101 (.pointer (some ⟨h,0,none⟩))] fun j u p q l=>Pl 1<|nt<|rt<|br<|tr<|rr (.pointer (some ⟨j,0,none⟩))<|?_
 exact⟨j,h,rfl,(Nat.le_trans (le c.size i.size) p),(Nat.le_trans c.size n),⟨q,(show cA _ _ _ _ _ _ (XS.a _) from((cQ.old0 o l)).weak c.size)⟩,(aE c (aE i l))⟩
theorem vI{w:World}{d:Int}(hd:d=0∨d=1) : Calls Tryz.prog 48 #[.int .i64 d] w (fun e w'=>∃ g,e = .returned (.pointer (some ⟨g,0,none⟩))∧w.heap.size≤g∧cN w.heap.size w.heap.size w' g none 0 ⟨d,[],0⟩∧ax [] w w'):=by
  rcases hd with rfl|rfl
  · exact qI 0 qD
  · exact qI 1 pk
theorem cN.old0{n base g c:Nat}{w w':World}{A:Option Addr}{S:SM}(h:cN n base w g A c S)(hu:ax [] w w') : cN n base w' g A c S:=h.upd hu (by simp) (fun x _=>by simp)
theorem cN.weak{n n' g:Nat}{w:World}{S:SM}{c:Nat}(h:cN n n w g none c S)(hn:n'≤n) : cN n' n' w g none c S:=by
  obtain⟨h1,h2,h6,h3,h4,h5⟩:=h
  exact⟨h1,aJ.weaken h2 hn,h6,Nat.le_trans hn h3,cG,Nat.le_trans hn h5⟩
theorem si{w:World}{d:Int}(hd:d=0∨d=1) : Calls Tryz.prog 29 #[.int .i64 2,.int .i64 d] w (fun e w'=>∃ s g,e = .returned (.pointer (some ⟨s,0,none⟩))∧w.heap.size≤s∧w.heap.size≤g∧bz w.heap.size w.heap.size w' s g none 0 (XS.zero 2 d)∧ax [] w w'):=by
 refine en 36 Tryz.func29 rfl<|sg<|Pl 1<|nt<|sq<|sg<|Pl 1<|L0<|Oc<|m1 (ke (k:=2)) fun r b=>Pl 5<|cu 3 [11] 14 (((d != 0)&&(d != 1))) (fun K c=>?_) ?_
 refine bl 11 ((d != 0)) (fun a=>?_) (fun a=>?_)
 have l:=aA a
 exact Pl 3<|ce c (d != 1) (by rw[a];rfl)
 have l:=ai a
 exact Pl 3<|ce c false (by rw[a];rfl)
 refine Pl 1<|nt<|cf (yz hd)<|bG<|sq<|sg<|Pl 1<|nt<|bk<|sq<|?_
 refine go<|Pl 2<|nt<|c0<|sg<|Pl 2<|nt<|c0<|sk<|bn<|tn<|?_
 refine sg<|Pl 1<|L0<|Oc<|e3 (vI hd) fun f t n o h=>Pl 2<|L0<|cz #[.iface 103 (.pointer (some ⟨f,0,none⟩))] fun i u p q j=>Pl 1<|nt<|rt<|rr (.pointer (some ⟨i,0,none⟩))<|?_
 exact⟨i,f,rfl,(Nat.le_trans (le b.size h.size) p),(Nat.le_trans b.size n),⟨q,(show cA _ _ _ _ _ _ (XS.m _) from((cN.old0 o j)).weak b.size)⟩,(aE b (aE h j))⟩
theorem xg{w:World}{k:Int}(hk:k=0∨k=1∨k=2){d:Int}(hd:d=0∨d=1) : Calls Tryz.prog 29 #[.int .i64 k,.int .i64 d] w (fun e w'=>∃ s g,e = .returned (.pointer (some ⟨s,0,none⟩))∧w.heap.size≤s∧w.heap.size≤g∧bz w.heap.size w.heap.size w' s g none 0 (XS.zero k d)∧ax [] w w'):=by
  rcases hk with rfl|rfl|rfl
  · exact t8 hd
  · exact s9 hd
  · exact si hd
theorem pI{w:World}{n base s g c:Nat}{A B:Option Addr}{cpb:Nat}{S:SS}{m t:Bool}{b:List Int}(h:bz n base w s g A c (.r S))(hsl:aQ m w (.slice B b.length cpb) b)(hdg:0<b.length→∀ x,x∈ob B→x≠g)(hda:lA b.length B (ob A))(hbl:b.length≤1048576) :
    Calls Tryz.prog 31 #[.pointer (some ⟨s,0,none⟩),.agg #[.slice B b.length cpb,.bool t]] w (Ak n base (XS.take (.r S) b t).1 (XS.take (.r S) b t).2 s g A w):=by
 have hzb:=aO.len hsl
 have hz1:(S.feed b).2.length≤1:=SS.feed_le (S:=S) (b:=b) rfl
 have hz2:(S.feed b).1.tick.2.length≤1:=SS.tick_le (S:=(S.feed b).1) rfl
 refine en 33 Tryz.func31 rfl<|sg<|L0<|cz #[.slice B b.length cpb,.bool t] fun O a3 C P Q=>Pl 1<|nt<|sq<|Rg 8 (fun w'=>w'.cell? ⟨s,0,none⟩=some (.iface 95 (.pointer (some ⟨g,0,none⟩)))∧w'.cell? ⟨O,0,none⟩=some (.slice B b.length cpb)) fun a4 D=>?_
 have a:=aE Q D
 have p:=ub a h.1
 have E:=ub D P
 refine aZ ⟨(aa p rfl),(aa E rfl)⟩ fun i=>Rt 0 i<|Rt 1 i<|Rt 2 i<|Rl 3 i (fun _ hs=>hs.1)<|Rt 4 i<|Rl 5 i (fun _ hs=>hs.2)<|?_
 refine R0 6 rfl<|qg (f:=157) (args:=#[.pointer (some ⟨g,0,none⟩),.slice B b.length cpb]) 95 (.pointer (some ⟨g,0,none⟩)) (.pointer (some ⟨g,0,none⟩))<|?_
 refine(sJ (cA.upd h.2 a ay (fun x hx=>ay)) (aQ.old hsl a) hbl).mono ?_
 rintro _ a5 ⟨a6,F,a7,a8,rfl,T,j,u,G,k⟩
 refine⟨_,rfl,?_⟩
 have d:=T
 obtain⟨H,U,rfl,a9,ab⟩:=aO.shape d.rd
 have l:=ax.blk k (ae h.sg (aG (bu p (aj (cA.row h.2) a (fun x hx=>ay) (fun _ _ h=>h)) (by decide)) ay)) p
 have I:=ax.blk k (ae (Ne.symm (nb (cA.lt h.2) lr C)) (aG (ci (cA.row h.2) lr C) ay)) E
 refine aZ ⟨(aa l rfl),(aa I rfl)⟩ fun V=>Rt 7 V<|re<|tn<|sq<|sg<|Pl 3<|L0<|aN l 0<|L0<|BT 95 (.pointer (some ⟨g,0,none⟩)) (.tuple #[.iface 95 (.pointer (some ⟨g,0,none⟩)),.bool true])<|Pl 5<|nt<|sq<|?_
 refine go<|Pl 3<|L1<|aN I 1<|Pl 1<|nt<|?_
 have J:=ut (ax.mono (S':=(g :: (ob A++[]))) a aq) k (ac im (ag il aq))
 refine cb (t) (fun v=>?_) (fun v=>?_)
 refine go<|Pl 2<|L0<|qg (f:=159) (args:=#[.pointer (some ⟨g,0,none⟩)]) 95 (.pointer (some ⟨g,0,none⟩)) (.pointer (some ⟨g,0,none⟩))<|?_
 refine(sb j).mono ?_
 rintro _ ad ⟨af,W,ah,X,rfl,Y,y,Z,K,o⟩
 refine⟨_,rfl,?_⟩
 have L:=Y
 obtain⟨ai,ak,rfl,am,an⟩:=aO.shape L.rd
 have z:=aj d o (fun x hx=>(ae (fun e=>(aB (cA.lt h.2) a.size d) (e▸hx)) (aG ((bC d (cA.row j) (by decide)) x hx) ay))) (fun x cs q=>bo.upd o (cA.apt j (Nat.le_refl _)) q)
 refine L0<|fx (R:=bo X) (xs:=((S.feed b).2)) (ys:=((S.feed b).1.tick.2)) (.agg #[.int .i64 0,.int .u8 0,.int .u16 0,.int .u8 0,.int .u8 0,.int .u16 0,.int .u16 0,.int .u16 0,.int .u16 0,.int .u16 0,.int .u16 0,.int .u16 0,.int .u16 0,.int .u16 0,.int .u16 0,.slice none 0 0,.slice none 0 0,.slice none 0 0,.slice none 0 0,.int .u8 0,.int .u8 0,.int .u8 0,.int .u8 0,.int .u8 0,.slice none 0 0]) 25 168 (dk.up K (y.nle) z) (L).rd bo.ones (fun w' hv x cs q=>bo.upd hv (iA z (by decide) bR) q) (by omega) (le k.size o.size) fun a0 a1 ao a2 M ap=>Pl 1<|ng<|Pl 2<|nt<|rt<|rr (.slice a0 (((S.feed b).2++(S.feed b).1.tick.2).length) a1)<|?_
 have hs:XS.take (.r S) b t=(.r (S.feed b).1.tick.1,(S.feed b).2++(S.feed b).1.tick.2):=by unfold XS.take;rw[v];rfl
 rw[hs]
 have hat0:∀ x,x∈ob W→x∈ob A∨w.heap.size≤x:=fun x hx=>((fun x hx=>jg Z u k.size x hx) x hx).imp id (Nat.le_trans a.size)
 have N:=ut (ax.mono (S':=(g :: (ob F++(ob H++[])))) o (ac im (ag il aq))) M (ag il aq)
 exact⟨_,_,_,_,rfl,aJ.weaken a2 a.size,⟨(ax.blk N (ae h.sg (aG (bu l (cA.row j) (by decide)) (aG (aB (al h.1) a.size d) ay))) l),(cA.upd y M (aG (aB (cA.lt h.2) a.size d) ay) (fun x hx=>(aG ((bC (cA.row y) z (by decide)) x hx) ay)))⟩,hat0,Nat.le_trans G K,(ax.mono (S':=g :: (ob A++[])) (ut J N (ac im (ag (jI u il a.size) (ag (aI d a.size) aq)))) (ac im (ag il aq)))⟩
 refine bG<|sg<|Pl 2<|nt<|rt<|rr (.slice H (((S.feed b).2).length) U)<|?_
 have hs:XS.take (.r S) b t=(.r (S.feed b).1,(S.feed b).2):=by unfold XS.take;rw[v];rfl
 rw[hs]
 have hat0:∀ x,x∈ob F→x∈ob A∨w.heap.size≤x:=fun x hx=>((fun x hx=>u x hx) x hx).imp id (Nat.le_trans a.size)
 exact⟨_,_,_,_,rfl,aJ.weaken d a.size,⟨l,j⟩,hat0,G,(ax.mono (S':=g :: (ob A++[])) J (ac im (ag il aq)))⟩
theorem p9{w:World}{n base s g c:Nat}{A B:Option Addr}{cpb:Nat}{S:SA}{m t:Bool}{b:List Int}(h:bz n base w s g A c (.a S))(hsl:aQ m w (.slice B b.length cpb) b)(hdg:0<b.length→∀ x,x∈ob B→x≠g)(hda:lA b.length B (ob A))(hbl:b.length≤1048576) :
    Calls Tryz.prog 31 #[.pointer (some ⟨s,0,none⟩),.agg #[.slice B b.length cpb,.bool t]] w (Ak n base (XS.take (.a S) b t).1 (XS.take (.a S) b t).2 s g A w):=by
 have hzb:=aO.len hsl
 refine en 33 Tryz.func31 rfl<|sg<|L0<|cz #[.slice B b.length cpb,.bool t] fun r I l u v=>Pl 1<|nt<|sq<|Rg 8 (fun w'=>w'.cell? ⟨s,0,none⟩=some (.iface 101 (.pointer (some ⟨g,0,none⟩)))∧w'.cell? ⟨r,0,none⟩=some (.slice B b.length cpb)) fun J o=>?_
 have d:=aE v o
 have i:=ub d h.1
 have p:=ub o u
 refine aZ ⟨(aa i rfl),(aa p rfl)⟩ fun e=>Rt 0 e<|Rt 1 e<|Rt 2 e<|Rl 3 e (fun _ hs=>hs.1)<|Rt 4 e<|Rl 5 e (fun _ hs=>hs.2)<|?_
 refine R0 6 rfl<|qg (f:=168) (args:=#[.pointer (some ⟨g,0,none⟩),.slice B b.length cpb]) 101 (.pointer (some ⟨g,0,none⟩)) (.pointer (some ⟨g,0,none⟩))<|?_
 refine(rO (cA.upd h.2 d ay (fun x hx=>ay)) (aQ.old hsl d) hdg hda hbl).mono ?_
 rintro _ K ⟨L,y,M,N,rfl,z,C,D,E,j⟩
 refine⟨_,rfl,?_⟩
 have q:=z
 obtain⟨F,G,rfl,O,P⟩:=aO.shape q.rd
 have k:=ax.blk j (ae h.sg (aG (bu i (aj (cA.row h.2) d (fun x hx=>ay) (fun _ _ h=>h)) (by decide)) ay)) i
 refine aZ ⟨(aa k rfl),(aa (ax.blk j (ae (Ne.symm (nb (cA.lt h.2) lr l)) (aG (ci (cA.row h.2) lr l) ay)) p) rfl)⟩ fun H=>Rt 7 H<|re<|tn<|sq<|sg<|Pl 3<|L0<|aN k 0<|L0<|Bl 101 (.pointer (some ⟨g,0,none⟩)) .nilIface<|Pl 5<|nt<|sq<|?_
 refine go<|Pl 5<|nt<|c0<|bG<|sg<|Pl 2<|nt<|rt<|rr (.slice F (((S.feed b).2).length) G)<|?_
 have hs:XS.take (.a S) b t=(.a (S.feed b).1,(S.feed b).2):=by unfold XS.take;cases t;rfl;show(_,(S.feed b).2++[])=_;rw[List.append_nil];rfl
 rw[hs]
 have hat0:∀ x,x∈ob y→x∈ob A∨w.heap.size≤x:=fun x hx=>((fun x hx=>D x hx) x hx).imp id (Nat.le_trans d.size)
 exact⟨_,_,_,_,rfl,aJ.weaken q d.size,⟨k,C⟩,hat0,E,(ax.mono (S':=g :: (ob A++[])) (ut (ax.mono (S':=(g :: (ob A++[]))) d aq) j (ac im (ag il aq))) (ac im (ag il aq)))⟩
theorem qB{w:World}{n base s g c:Nat}{A B:Option Addr}{cpb:Nat}{S:SM}{m t:Bool}{b:List Int}(h:bz n base w s g A c (.m S))(hsl:aQ m w (.slice B b.length cpb) b)(hdg:0<b.length→∀ x,x∈ob B→x≠g)(hda:lA b.length B (ob A))(hbl:b.length≤1048576) :
    Calls Tryz.prog 31 #[.pointer (some ⟨s,0,none⟩),.agg #[.slice B b.length cpb,.bool t]] w (Ak n base (XS.take (.m S) b t).1 (XS.take (.m S) b t).2 s g A w):=by
 have hzb:=aO.len hsl
 refine en 33 Tryz.func31 rfl<|sg<|L0<|cz #[.slice B b.length cpb,.bool t] fun q H k r u=>Pl 1<|nt<|sq<|Rg 8 (fun w'=>w'.cell? ⟨s,0,none⟩=some (.iface 103 (.pointer (some ⟨g,0,none⟩)))∧w'.cell? ⟨q,0,none⟩=some (.slice B b.length cpb)) fun I l=>?_
 have a:=aE u l
 have e:=ub a h.1
 have o:=ub l r
 refine aZ ⟨(aa e rfl),(aa o rfl)⟩ fun d=>Rt 0 d<|Rt 1 d<|Rt 2 d<|Rl 3 d (fun _ hs=>hs.1)<|Rt 4 d<|Rl 5 d (fun _ hs=>hs.2)<|?_
 refine R0 6 rfl<|qg (f:=184) (args:=#[.pointer (some ⟨g,0,none⟩),.slice B b.length cpb]) 103 (.pointer (some ⟨g,0,none⟩)) (.pointer (some ⟨g,0,none⟩))<|?_
 refine(rN (cA.upd h.2 a ay (fun x hx=>ay)) (aQ.old hsl a) hdg hda hbl).mono ?_
 rintro _ J ⟨K,v,L,M,rfl,y,z,C,D,i⟩
 refine⟨_,rfl,?_⟩
 have p:=y
 obtain⟨E,F,rfl,N,O⟩:=aO.shape p.rd
 have j:=ax.blk i (ae h.sg (aG (bu e (aj (cA.row h.2) a (fun x hx=>ay) (fun _ _ h=>h)) (by decide)) ay)) e
 refine aZ ⟨(aa j rfl),(aa (ax.blk i (ae (Ne.symm (nb (cA.lt h.2) lr k)) (aG (ci (cA.row h.2) lr k) ay)) o) rfl)⟩ fun G=>Rt 7 G<|re<|tn<|sq<|sg<|Pl 3<|L0<|aN j 0<|L0<|Bl 103 (.pointer (some ⟨g,0,none⟩)) .nilIface<|Pl 5<|nt<|sq<|?_
 refine go<|Pl 5<|nt<|c0<|bG<|sg<|Pl 2<|nt<|rt<|rr (.slice E (((S.feed b).2).length) F)<|?_
 have hs:XS.take (.m S) b t=(.m (S.feed b).1,(S.feed b).2):=by unfold XS.take;cases t;rfl;show(_,(S.feed b).2++[])=_;rw[List.append_nil];rfl
 rw[hs]
 have hat0:∀ x,x∈ob v→x∈ob A∨w.heap.size≤x:=fun x hx=>((fun x hx=>C x hx) x hx).imp id (Nat.le_trans a.size)
 exact⟨_,_,_,_,rfl,aJ.weaken p a.size,⟨j,z⟩,hat0,D,(ax.mono (S':=g :: (ob A++[])) (ut (ax.mono (S':=(g :: (ob A++[]))) a aq) i (ac im (ag il aq))) (ac im (ag il aq)))⟩
theorem uB{w:World}{n base s g c nb:Nat}{A B:Option Addr}{cpb:Nat}{S S2:XS}{L:List Ev}{m t:Bool}{b:List Int}(hX:S.take b t=(S2,L))(h:bz n base w s g A c S)(hsl:aQ m w (.slice B nb cpb) b)(hdg:0<nb→∀ x,x∈ob B→x≠g)(hda:lA nb B (ob A))(hbl:b.length≤1048576) :
    Calls Tryz.prog 31 #[.pointer (some ⟨s,0,none⟩),.agg #[.slice B nb cpb,.bool t]] w (Ak n base S2 L s g A w):=by
  obtain⟨_,_,e,_,_⟩:=hsl.shape
  injection e with e1 e2 e3
  subst e1 e2 e3
  have e1:S2=(S.take b t).1:=(congrArg Prod.fst hX).symm
  have e2:L=(S.take b t).2:=(congrArg Prod.snd hX).symm
  rw[e1,e2]
  cases S with
  | r S=>exact pI h hsl hdg hda hbl
  | a S=>exact p9 h hsl hdg hda hbl
  | m S=>exact qB h hsl hdg hda hbl
theorem qE{w:World}{n base s g c:Nat}{A:Option Addr}{S:SS}(h:bz n base w s g A c (.r S)) : Calls Tryz.prog 30 #[.pointer (some ⟨s,0,none⟩)] w (bv (.int .i64 ((S.held.length:Nat) : Int)) w):=by
 refine en 8 Tryz.func30 rfl<|sg<|Pl 1<|ng<|Pl 3<|L0<|aN h.1 0<|L0<|qg (f:=158) (args:=#[.pointer (some ⟨g,0,none⟩)]) 95 (.pointer (some ⟨g,0,none⟩)) (.pointer (some ⟨g,0,none⟩))<|m1 (vv h.2) fun b a=>Pl 1<|nt<|?_
 refine rt<|rr (.int .i64 ((S.held.length:Nat) : Int))<|?_
 exact⟨rfl,a⟩
theorem pm{w:World}{n base s g c:Nat}{A:Option Addr}{S:SA}(h:bz n base w s g A c (.a S)) : Calls Tryz.prog 30 #[.pointer (some ⟨s,0,none⟩)] w (bv (.int .i64 ((S.held.length:Nat) : Int)) w):=by
 refine en 8 Tryz.func30 rfl<|sg<|Pl 1<|ng<|Pl 3<|L0<|aN h.1 0<|L0<|qg (f:=169) (args:=#[.pointer (some ⟨g,0,none⟩)]) 101 (.pointer (some ⟨g,0,none⟩)) (.pointer (some ⟨g,0,none⟩))<|m1 (tG h.2) fun d b=>Pl 1<|nt<|?_
 refine rt<|rr (.int .i64 ((S.held.length:Nat) : Int))<|?_
 exact⟨rfl,b⟩
theorem qh{w:World}{n base s g c:Nat}{A:Option Addr}{S:SM}(h:bz n base w s g A c (.m S)) : Calls Tryz.prog 30 #[.pointer (some ⟨s,0,none⟩)] w (bv (.int .i64 ((S.held.length:Nat) : Int)) w):=by
 refine en 8 Tryz.func30 rfl<|sg<|Pl 1<|ng<|Pl 3<|L0<|aN h.1 0<|L0<|qg (f:=185) (args:=#[.pointer (some ⟨g,0,none⟩)]) 103 (.pointer (some ⟨g,0,none⟩)) (.pointer (some ⟨g,0,none⟩))<|m1 (tV h.2) fun b a=>Pl 1<|nt<|?_
 refine rt<|rr (.int .i64 ((S.held.length:Nat) : Int))<|?_
 exact⟨rfl,a⟩
theorem vB{w:World}{n base s g c:Nat}{A:Option Addr}{S:XS}(h:bz n base w s g A c S) : Calls Tryz.prog 30 #[.pointer (some ⟨s,0,none⟩)] w (bv (.int .i64 ((S.held.length:Nat) : Int)) w):=by
  cases S with
  | r S=>exact qE h
  | a S=>exact pm h
  | m S=>exact qh h
open Go.RowKit
def qt:List (List Int)→Nat
  | []=>0
  | x :: t=>x.length+qt t
theorem kF(a b:List (List Int)) : qt (a++b)=qt a+qt b:=by
  induction a with
  | nil=>simp[qt]
  | cons x t ih=>simp only[List.cons_append,qt,ih];omega
open Go.RowKit
structure Pc where
  bytes:List Int
  tick:Bool
def Pc.z:Pc:=⟨[],false⟩
def rW (n:Nat)(w:World)(v:Value)(b:List Int) : Prop:=aQ false w v b∧∀ A k c,v = .slice A k c→0<k→∀ x,x∈ob A→x<n
theorem rW.of{m:Bool}{w:World}{v:Value}{b:List Int}(h:aQ m w v b) : rW w.heap.size w v b:=⟨aO.any h (fun _ _ q=>q),fun A k c e hk=>by subst e;exact aO.low h hk⟩
theorem rW.nil{n:Nat}{w:World}:rW n w (.slice none 0 0) []:=⟨aO.nil ..,fun A k c e hk=>by injection e with _ e;omega⟩
theorem rW.upd{n:Nat}{w w':World}{X:List Nat}{v:Value}{b:List Int}(hu:ax X w w')(hx:∀ x,x∈X→n≤x)(h:rW n w v b) : rW n w' v b:=by
  obtain⟨A,c,rfl,_,_⟩:=h.1.shape
  exact⟨aQ.far h.1 hu fun hn x hxA hxX=>Nat.lt_irrefl _ (Nat.lt_of_lt_of_le (h.2 A _ _ rfl hn x hxA) (hx x hxX)),h.2⟩
def oN (m:Bool)(w:World)(p:Pc)(cs:List Value) : Prop:=∃ v,cs=[v,.bool p.tick]∧aQ m w v p.bytes
def uy (n:Nat)(w:World)(p:Pc)(cs:List Value) : Prop:=∃ v,cs=[v,.bool p.tick]∧rW n w v p.bytes
def zn (n:Nat)(w:World)(b:List Int)(cs:List Value) : Prop:=∃ v,cs=[v]∧rW n w v b
abbrev qX (m:Bool) (w:World) (v:Value) (ps:List Pc) : Prop:=aO m 53 2 (oN m) w v ps
abbrev zG (n base:Nat) (w:World) (v:Value) (ps:List Pc) : Prop:=aJ base 53 2 (uy n) w v ps
theorem uy.upd{n:Nat}{w w':World}{X:List Nat}(hu:ax X w w')(hx:∀ x,x∈X→n≤x)(p:Pc)(cs:List Value)(h:uy n w p cs) : uy n w' p cs:=by
  obtain⟨v,h1,h2⟩:=h
  exact⟨v,h1,rW.upd hu hx h2⟩
theorem zn.upd{n:Nat}{w w':World}{X:List Nat}(hu:ax X w w')(hx:∀ x,x∈X→n≤x)(p:List Int)(cs:List Value)(h:zn n w p cs) : zn n w' p cs:=by
  obtain⟨v,h1,h2⟩:=h
  exact⟨v,h1,rW.upd hu hx h2⟩
theorem zn.ones{n:Nat}{w:World}:∀ (x:List Int)(cs:List Value),zn n w x cs→∀ v,v∈cs→v.oneCell'=true:=fun x cs ⟨v,h1,h2⟩ u hu=>by
  rw[h1,List.mem_singleton] at hu
  obtain⟨A,c,e,_⟩:=h2.1.shape
  rw[hu,e]
  rfl
theorem uy.ones{n:Nat}{w:World}:∀ (x:Pc)(cs:List Value),uy n w x cs→∀ v,v∈cs→v.oneCell'=true:=fun x cs ⟨v,h1,h2⟩ u hu=>by
  rw[h1] at hu
  obtain⟨A,c,e,_⟩:=h2.1.shape
  rcases List.mem_cons.1 hu with e2|hu
  · rw[e2,e];rfl
  · rw[List.mem_singleton] at hu;rw[hu];rfl
theorem zG.any{n base:Nat}{w:World}{v:Value}{ps:List Pc}(h:zG n base w v ps) : qX false w v ps:=aO.any h.rd fun p cs ⟨v,h1,h2⟩=>⟨v,h1,h2.1⟩
theorem qX.old{m:Bool}{w w':World}{v:Value}{ps:List Pc}(h:qX m w v ps)(hu:ax [] w w') : qX m w' v ps:=aO.upd h hu (bX.nil _ _ _) fun x cs ⟨v,h1,h2⟩=>⟨v,h1,h2.old hu⟩
theorem qX.elt{m:Bool}{w:World}{A:Option Addr}{n c:Nat}{ps:List Pc}(h:qX m w (.slice A n c) ps)(j:Nat)(hj:j<ps.length) :
    ∃ b off cells t fr A' c',A=some ⟨b,off,none⟩∧w.heap[b]? = some (.cells cells t fr)∧aQ m w (.slice A' (ps.getD j Pc.z).bytes.length c') (ps.getD j Pc.z).bytes∧((ps.getD j Pc.z).bytes.length≤c'∧c'≤maxLen)∧(cells.toList.drop (off+j*2)).take 2=[.slice A' (ps.getD j Pc.z).bytes.length c',.bool (ps.getD j Pc.z).tick]:=by
  obtain⟨b,off,cells,t,fr,cs,h1,h2,h3,⟨v,h4,h5⟩,h6⟩:=aO.elt h Pc.z j hj
  obtain⟨A',c',rfl,h7,h8⟩:=h5.shape
  exact⟨b,off,cells,t,fr,A',c',h1,h2,h5,⟨h7,h8⟩,h6.trans h4⟩
theorem qX.n{m:Bool}{w:World}{v:Value}{ps:List Pc}(h:qX m w v ps) : aO false 53 2 (uy w.heap.size) w v ps:=aO.any h fun p cs ⟨v,h1,h2⟩=>⟨v,h1,rW.of h2⟩
theorem RdPn.old{n:Nat}{w w':World}{v:Value}{ps:List Pc}(h:aO false 53 2 (uy n) w v ps)(hu:ax [] w w') : aO false 53 2 (uy n) w' v ps:=aO.upd h hu (bX.nil _ _ _) fun x cs q=>uy.upd hu (fun x hx=>by cases hx) x cs q
theorem RdPn.elt{n0:Nat}{w:World}{A:Option Addr}{n c:Nat}{ps:List Pc}(h:aO false 53 2 (uy n0) w (.slice A n c) ps)(j:Nat)(hj:j<ps.length) :
    ∃ b off cells t fr A' c',A=some ⟨b,off,none⟩∧w.heap[b]? = some (.cells cells t fr)∧rW n0 w (.slice A' (ps.getD j Pc.z).bytes.length c') (ps.getD j Pc.z).bytes∧((ps.getD j Pc.z).bytes.length≤c'∧c'≤maxLen)∧(cells.toList.drop (off+j*2)).take 2=[.slice A' (ps.getD j Pc.z).bytes.length c',.bool (ps.getD j Pc.z).tick]:=by
  obtain⟨b,off,cells,t,fr,cs,h1,h2,h3,⟨v,h4,h5⟩,h6⟩:=aO.elt h Pc.z j hj
  obtain⟨A',c',rfl,h7,h8⟩:=h5.1.shape
  exact⟨b,off,cells,t,fr,A',c',h1,h2,h5,⟨h7,h8⟩,h6.trans h4⟩
section
variable {P:Program}{n:Nat}{D:List Deferred}{F:Fr}{w:World}{K:Fr→World→Prop}{Q:Exit→Act→World→Prop}{d:Option Tmp}{t:TypeId}{s:String}{af:Array Edge}{gu:Option (Nat × Bool)}
end
def XS.run (S:XS)(ps:List Pc) : XS × List Ev:=ps.foldl (fun p c=>((p.1.take c.bytes c.tick).1,p.2++(p.1.take c.bytes c.tick).2)) (S,[])
theorem mD:∀ (ps:List Pc)(S:XS)(K:List Ev),ps.foldl (fun p c=>((p.1.take c.bytes c.tick).1,p.2++(p.1.take c.bytes c.tick).2)) (S,K)=((S.run ps).1,K++(S.run ps).2)
  | [],S,K=>by simp[XS.run]
  | c :: t,S,K=>by
    unfold XS.run
    rw[List.foldl_cons,List.foldl_cons,mD t,mD t]
    simp
theorem mr(S:XS)(a b:List Pc) : S.run (a++b)=(((S.run a).1.run b).1,(S.run a).2++((S.run a).1.run b).2):=by
  unfold XS.run
  rw[List.foldl_append]
  exact mD b _ _
theorem kc{ps:List Pc}{k:Nat}(hk:k<ps.length) : ps.take (k+1)=ps.take k++[ps.getD k Pc.z]:=by
  rw[List.take_succ_eq_append_getElem hk,List.getD_eq_getElem?_getD,List.getElem?_eq_getElem hk]
  rfl
theorem jK(S:XS)(p:Pc) : S.run [p]=S.take p.bytes p.tick:=by
  unfold XS.run
  simp
theorem tL{S0 S S2:XS}{ps:List Pc}{L L2:List Ev}{k:Nat}(hk:k<ps.length)(h:(S,L)=S0.run (ps.take k))(hX:S.take (ps.getD k Pc.z).bytes (ps.getD k Pc.z).tick=(S2,L2)) : (S2,L++L2)=S0.run (ps.take (k+1)):=by
  rw[kc hk,mr,← h,jK,hX]
def fq (ps:List Pc) : Nat:=qt (ps.map Pc.bytes)
theorem lg{ps:List Pc}{k:Nat}(hk:k<ps.length) : fq (ps.take (k+1))=fq (ps.take k)+(ps.getD k Pc.z).bytes.length:=by
  unfold fq
  rw[kc hk,List.map_append,kF]
  rfl
theorem t6{ps:List Pc}{k:Nat}(hk:k<ps.length) : (ps.getD k Pc.z).bytes.length+fq (ps.take k)≤fq ps:=by
  have h:=lg hk
  have e:ps=ps.take (k+1)++ps.drop (k+1):=(List.take_append_drop ..).symm
  have e2:fq ps=fq (ps.take (k+1))+fq (ps.drop (k+1)):=by
    conv=>lhs;rw[e]
    unfold fq
    rw[List.map_append,kF]
  omega
theorem bz.take_le{n base s g c:Nat}{w:World}{A:Option Addr}{S S2:XS}{b:List Int}{t:Bool}{L:List Ev}(h:bz n base w s g A c S)(hb:∀ x,x∈b→0≤x∧x<256)(hX:S.take b t=(S2,L)) : L.length≤b.length+2:=by
  have e:L=(S.take b t).2:=(congrArg Prod.snd hX).symm
  rw[e]
  have h:=h.2
  have hf:(S.feed b).2.length≤b.length+1:=by
    cases S with
    | r S=>exact Nat.le_trans (SS.feed_le (S:=S) (b:=b) rfl) (by omega)
    | a S=>exact Nat.le_trans (SA.feed_le h.2.2.1 hb rfl) (by omega)
    | m S=>exact Nat.le_trans (SM.feed_le h.2.2.1 hb rfl) (by omega)
  have ht:(S.feed b).1.tick.2.length≤1:=by
    cases S with
    | r S=>exact SS.tick_le (S:=(S.feed b).1) rfl
    | a S=>exact Nat.zero_le _
    | m S=>exact Nat.zero_le _
  unfold XS.take
  cases t
  · exact Nat.le_trans hf (by omega)
  · show(((S.feed b).2++(S.feed b).1.tick.2:List Ev)).length≤_
    rw[List.length_append]
    omega
open Go.RowKit
theorem OwnS.any{n base:Nat}{w:World}{v:Value}{ls:List (List Int)}(h:aJ base 27 1 (zn n) w v ls) : s0 false w v ls:=aO.any h.rd fun p cs ⟨v,h1,h2⟩=>⟨v,h1,h2.1⟩
open Go.RowKit
theorem zY{n n0 base s g c:Nat}{w:World}{A:Option Addr}{S:XS}{X:List Nat}(h:bz n0 base w s g A c S)(k:sQ n X w) : sQ n (g :: X) w:=by
  obtain⟨t,cs,fr,q,h1,_⟩:=h.2.cells
  exact eD q h1 k
theorem xe{S0 S:XS}{L:List Ev}{ps:List Pc}{k:Nat}(h:(S,L)=XS.run S0 (ps.take k))(hk:ps.length≤k) : XS.run S0 ps=(S,L):=by
  rw[List.take_of_length_le hk] at h
  exact h.symm
def zO (r:XS × List Ev)(w:World)(e:Ending)(w':World) : Prop:=∃ v,e = .returned (.tuple #[v,.int .i64 ((r.1.held.length:Nat) : Int)])∧gS w.heap.size w' v r.2∧ax [] w w'
theorem u5{m:Bool}{A:Option Addr}{cp:Nat}{ps:List Pc}{w:World}{k0 d:Int}(hk:k0=0∨k0=1∨k0=2)(hd:d=0∨d=1)(h:qX m w (.slice A ps.length cp) ps)(hps:ps.length≤1000)(hsum:fq ps≤100000) : Calls Tryz.prog 26 #[.int .i64 k0,.int .i64 d,.slice A ps.length cp] w (zO (XS.run (XS.zero k0 d) ps) w):=by
 have hz:=aO.len h
 refine en 32 Tryz.func26 rfl<|sg<|Pl 2<|ng<|Pl 2<|L0<|Oc (args:=#[.int .i64 k0,.int .i64 d])<|Bu (xg (k:=k0) (d:=d) hk hd) fun b i T ai F U G=>Pl 1<|nt<|sq<|?_
 refine sg<|Pl 2<|nt<|c0<|bG<|sg<|Pl 1<|nt<|sq<|?_
 refine sg<|Pl 3<|nt<|bk<|?_
 refine ir (fun x=>[(6,.slice none 0 0),(7,.int .i64 0),(8,.pointer (some ⟨b,0,none⟩)),(9,.slice x.2.2.2.2.2.1 x.2.2.1.length x.2.2.2.2.2.2.1),(17,.slice A ps.length cp),(18,.int .i64 ((ps.length:Nat) : Int)),(19,.int .i64 ((x.1:Nat) : Int))]) (fun(x:Nat × XS × List Ev × Option Addr × Nat × Option Addr × Nat × Nat) w'=>ax [] w w'∧T.heap.size≤w'.heap.size∧bz x.2.2.2.2.2.2.2 w.heap.size w' b i x.2.2.2.1 x.2.2.2.2.1 x.2.1∧dk x.2.2.2.2.2.2.2 w.heap.size w' (.slice x.2.2.2.2.2.1 x.2.2.1.length x.2.2.2.2.2.2.1) x.2.2.1∧(x.1≤ps.length)∧((x.2.1,x.2.2.1)=XS.run (XS.zero k0 d) (ps.take x.1))∧(x.2.2.1.length≤fq (ps.take x.1)+2*x.1)) (fun x=>ps.length-x.1) (0,(XS.zero k0 d),[],none,0,none,0,w.heap.size) ⟨G,lr,U,(aJ.nil w.heap.size _ _ (bo w.heap.size) _),(by(try dsimp only);omega),rfl,(by(try dsimp only);exact Nat.zero_le _)⟩ ?_
 rintro⟨k,S,L,Ah,ch,Bq,cq,n⟩ H ⟨l,I,V,W,X,Y,Z⟩
 refine it [(6,.slice none 0 0),(7,.int .i64 0),(8,.pointer (some ⟨b,0,none⟩)),(9,.slice Bq L.length cq),(17,.slice A ps.length cp),(18,.int .i64 ((ps.length:Nat) : Int)),(19,.int .i64 ((k:Nat) : Int))] ?_
 have a:bz n w.heap.size H b i Ah ch S:=V
 have c:dk n w.heap.size H (.slice Bq L.length cq) L:=W
 have ak:k≤ps.length:=X
 have J:(S,L)=XS.run (XS.zero k0 d) (ps.take k):=Y
 have al:L.length≤fq (ps.take k)+2*k:=Z
 refine sg<|Pl 1<|nt<|sq<|cb ((decide (((k:Nat) : Int)<((ps.length:Nat) : Int)))) (fun o=>?_) (fun o=>?_)
 have a0:=of_decide_eq_true o
 refine bG<|sq<|bk<|sg<|sL (qX.elt h k (by omega)) fun am an ao ap ar p r a1 a2 s au a3=>L0<|ia 2 ps.length k a1 (by omega)<|?_
 refine L0<|uh [.slice p ((ps.getD k Pc.z).bytes.length) r,.bool ((ps.getD k Pc.z).tick)] (ub l a2) a3<|L0<|bI #[.slice none 0 0,.bool false] fun aw az a4 a5 t=>L0<|bf a5 #[.slice p ((ps.getD k Pc.z).bytes.length) r,.bool ((ps.getD k Pc.z).tick)] fun aA a6 u=>nt<|go<|Pl 2<|L0<|bZ a6<|?_
 have v:=ud t u a4
 have K:=aE l v
 have M:=aQ.old s K
 have hpart:=t6 (ps:=ps) (k:=k) (by omega)
 have B:=bz.old a v
 refine pr (XS.take S ((ps.getD k Pc.z).bytes) ((ps.getD k Pc.z).tick)) fun a7 N C=>?_
 have aB:=bz.take_le B (aQ.range M) C
 refine L0<|Oc (args:=#[.pointer (some ⟨b,0,none⟩),.agg #[.slice p ((ps.getD k Pc.z).bytes.length) r,.bool ((ps.getD k Pc.z).tick)]])<|?_
 refine(uB C B M (uu (aO.low (s)) F) (fc (aO.low (s)) (bz.row B) lr) (by omega)).mono ?_
 rintro _ aC ⟨aD,a8,a9,O,rfl,aa,f,aF,ab,j⟩
 refine⟨_,rfl,?_⟩
 have P:=aa
 obtain⟨aH,aK,rfl,aL,aM⟩:=aO.shape P.rd
 have Q:=ut (ax.mono (S':=(i :: (ob Ah++[]))) v aq) j (ac im (ag il aq))
 have g:=aj c Q (fun x hx=>(ae (fun e=>(bz.gx a c (by decide)) (e▸hx)) (aG ((bC c (bz.row a) (by decide)) x hx) ay))) (fun x cs q=>bo.upd Q (zY a (gw (pT (Nat.le_refl _) (bz.low a)) bR)) q)
 refine L0<|fx (R:=bo O) (xs:=L) (ys:=N) (.agg #[.int .i64 0,.int .u8 0,.int .u16 0,.int .u8 0,.int .u8 0,.int .u16 0,.int .u16 0,.int .u16 0,.int .u16 0,.int .u16 0,.int .u16 0,.int .u16 0,.int .u16 0,.int .u16 0,.int .u16 0,.slice none 0 0,.slice none 0 0,.slice none 0 0,.slice none 0 0,.int .u8 0,.int .u8 0,.int .u8 0,.int .u8 0,.int .u8 0,.slice none 0 0]) 25 168 (dk.up ab (bz.nle f) g) (P).rd bo.ones (fun w' hv x cs q=>bo.upd hv (iA g (by decide) bR) q) (by(try simp only[List.length_append,List.length_cons,List.length_nil,av]);omega) (le (le (le (le G.size I) t.size) u.size) j.size) fun ad af aN ah D aP=>Pl 1<|nl<|bn<|tn<|go<|L0<|Oi (((k:Nat) : Int)+1)<|Pl 1<|nl<|?_
 exact er ((k+1),a7,(L++N),a8,a9,ad,af,O) ⟨(ut K (ut (ax.mono (S':=(i :: (ob Ah++(ob Bq++[])))) j (ac im (ag il aq))) D (ag il aq)) (ac (nr F) (ag (aI (bz.row a) lr) (ag (aI c lr) aq)))),(le (le (le (le I t.size) u.size) j.size) D.size),(bz.upd f D (aG (tp (bz.cells f) g (by decide)) ay) (aG (bz.gx f g (by decide)) ay) (fun x hx=>(aG ((bC (bz.row f) g (by decide)) x hx) ay))),ah,(by(try dsimp only);omega),(by(try dsimp only);exact tL (by omega) J C),(by(try dsimp only);have y:=lg (ps:=ps) (k:=k) (by omega);simp only[List.length_append];omega)⟩ (by omega)
 have a0:=of_decide_eq_false o
 refine xt<|tx<|tx<|bx<|tn<|sg<|Pl 2<|L0<|Oc<|m1 (vB a) fun aR E=>Pl 2<|nt<|rt<|rr (.tuple #[.slice Bq L.length cq,.int .i64 ((S.held.length:Nat) : Int)])<|?_
 have hs:XS.run (XS.zero k0 d) ps=(S,L):=xe J (by omega)
 rw[hs]
 exact⟨_,rfl,dk.own (aj c E (fun x hx=>ay) (fun x cs q=>bo.upd E bR q)),(aE l E)⟩
theorem wh{m:Bool}{v:Value}{ps:List Pc}{w:World}{k0 d:Int}(hk:k0=0∨k0=1∨k0=2)(hd:d=0∨d=1)(h:qX m w v ps)(hps:ps.length≤1000)(hsum:fq ps≤100000) : Calls Tryz.prog 26 #[.int .i64 k0,.int .i64 d,v] w (zO (XS.run (XS.zero k0 d) ps) w):=by
  obtain⟨A,cp,rfl,_,_⟩:=h.shape
  exact u5 hk hd h hps hsum
open Go.RowKit
theorem lu.ones{m:Bool}{w:World}(x:aW)(cs:List Value)(h:lu m w x cs) : ∀ v,v∈cs→v.oneCell'=true:=by
  obtain⟨s,h1,h2,_⟩:=h
  have h3:=h2.one
  intro v hv
  rw[h1,eB,Array.toList_append,List.mem_append] at hv
  rw[Array.all_eq_true'] at h3
  rcases hv with hv|hv
  · simp at hv;rcases hv with rfl | rfl<;>rfl
  · exact h3 v (by simpa using hv)
theorem AT{w0 w:World}{g:Nat}{cs:Array Value}{x:aW}(hg:w0.heap.size≤g)(hb:w.heap[g]? = some (.cells cs 33 (0,0)))(h:lu true w x cs.toList) : aJ w0.heap.size 33 24 (lu true) w (.slice (some ⟨g,0,none⟩) 1 1) [x]:=by
  have hh:=h
  obtain⟨s,h1,h2⟩:=hh
  have hl:cs.toList.length=24:=by rw[h1];kernel_rfl
  clear h1
  refine⟨cs.toList,⟨hl,.inr ⟨g,1,cs,rfl,hg,hb,Nat.le_refl _,by unfold maxLen;omega,by simpa using hl,by rw[List.take_of_length_le];exact Nat.le_of_eq hl⟩⟩,fun j y hj=>?_⟩
  cases j with
  | succ j=>simp at hj
  | zero =>
    have hj:x=y:=by simpa using hj
    subst hj
    exact⟨cs.toList,hl,h,fun i u hi=>by simpa using hi⟩
def cO (L:List Ev) : List aW:=(L.filter fun x=>x.e==0).map (·.f)
theorem rf{L:List Ev}{fs:List aW}{k:Nat}(hk:k<L.length)(h:fs=cO (L.take k)) : (((L.getD k (Ev.bad 0)).e==0)=true→fs++[(L.getD k (Ev.bad 0)).f]=cO (L.take (k+1)))∧(((L.getD k (Ev.bad 0)).e==0)=false→fs=cO (L.take (k+1))):=by
  have e:cO (L.take (k+1))=cO (L.take k)++cO [L.getD k (Ev.bad 0)]:=by
    unfold cO
    rw[List.take_succ_eq_append_getElem hk,List.getD_eq_getElem?_getD,List.getElem?_eq_getElem hk,List.filter_append,List.map_append]
    rfl
  rw[e,← h]
  refine⟨fun q=>?_,fun q=>?_⟩
  · unfold cO;rw[List.filter_cons,if_pos q];rfl
  · unfold cO;rw[List.filter_cons,if_neg (by rw[q];simp)];simp
theorem nX{A:Option Addr}{cp:Nat}{L:List Ev}{w:World}(h:od true w (.slice A L.length cp) L)(hL:L.length≤200000) : Calls Tryz.prog 39 #[.slice A L.length cp] w (fun e w'=>∃ v,e = .returned v∧aJ w.heap.size 33 24 (lu true) w' v (cO L)∧ax [] w w'):=by
 have hz:=aO.len h
 refine en 22 Tryz.func39 rfl<|sg<|Pl 1<|ng<|Pl 1<|nt<|sq<|sg<|?_
 refine Pl 3<|nt<|bk<|?_
 refine ir (fun x=>[(2,.slice none 0 0),(3,.slice x.2.2.1 x.2.1.length x.2.2.2),(6,.slice A L.length cp),(7,.int .i64 ((L.length:Nat) : Int)),(8,.int .i64 ((x.1:Nat) : Int))]) (fun(x:Nat × List aW × Option Addr × Nat) w'=>ax [] w w'∧aJ w.heap.size 33 24 (lu true) w' (.slice x.2.2.1 x.2.1.length x.2.2.2) x.2.1∧(x.1≤L.length)∧(x.2.1.length≤x.1)∧(x.2.1=cO (L.take x.1))) (fun x=>L.length-x.1) (0,[],none,0) ⟨ax.refl _ _,(aJ.nil w.heap.size _ _ (lu true) _),(by(try dsimp only);omega),(by(try dsimp only);exact Nat.le_refl _),rfl⟩ ?_
 rintro⟨k,fs,B,cq⟩ t ⟨g,u,y,z,C⟩
 refine it [(2,.slice none 0 0),(3,.slice B fs.length cq),(6,.slice A L.length cp),(7,.int .i64 ((L.length:Nat) : Int)),(8,.int .i64 ((k:Nat) : Int))] ?_
 have c:aJ w.heap.size 33 24 (lu true) t (.slice B fs.length cq) fs:=u
 have U:k≤L.length:=y
 have V:fs.length≤k:=z
 have i:fs=cO (L.take k):=C
 refine sg<|Pl 1<|nt<|sq<|cb ((decide (((k:Nat) : Int)<((L.length:Nat) : Int)))) (fun j=>?_) (fun j=>?_)
 have D:=of_decide_eq_true j
 refine bG<|sq<|bk<|sg<|zb (od.elt h k (by omega) (Ev.bad 0)) fun W X Y Z a0 a E F n G=>L0<|ia 25 L.length k E (by omega)<|?_
 refine L0<|uh [.int .i64 ((L.getD k (Ev.bad 0)).e),.int .u8 ((L.getD k (Ev.bad 0)).f.unit),.int .u16 ((L.getD k (Ev.bad 0)).f.tid),.int .u8 ((L.getD k (Ev.bad 0)).f.msg.code),.int .u8 ((L.getD k (Ev.bad 0)).f.msg.fail),.int .u16 ((L.getD k (Ev.bad 0)).f.msg.addr),.int .u16 ((L.getD k (Ev.bad 0)).f.msg.count),.int .u16 ((L.getD k (Ev.bad 0)).f.msg.value),.int .u16 ((L.getD k (Ev.bad 0)).f.msg.and_),.int .u16 ((L.getD k (Ev.bad 0)).f.msg.or_),.int .u16 ((L.getD k (Ev.bad 0)).f.msg.addr2),.int .u16 ((L.getD k (Ev.bad 0)).f.msg.sub),.int .u16 ((L.getD k (Ev.bad 0)).f.msg.status),.int .u16 ((L.getD k (Ev.bad 0)).f.msg.events),.int .u16 ((L.getD k (Ev.bad 0)).f.msg.messages),.slice a.aw ((L.getD k (Ev.bad 0)).f.msg.words.length) a.kw,.slice a.ab ((L.getD k (Ev.bad 0)).f.msg.bits.length) a.kb,.slice a.ad ((L.getD k (Ev.bad 0)).f.msg.data.length) a.kd,.slice a.ar ((L.getD k (Ev.bad 0)).f.msg.recs.length) a.kr,.int .u8 ((L.getD k (Ev.bad 0)).f.msg.mei),.int .u8 ((L.getD k (Ev.bad 0)).f.msg.kind),.int .u8 ((L.getD k (Ev.bad 0)).f.msg.level),.int .u8 ((L.getD k (Ev.bad 0)).f.msg.more),.int .u8 ((L.getD k (Ev.bad 0)).f.msg.next),.slice a.ao ((L.getD k (Ev.bad 0)).f.msg.objects.length) a.ko] (ub g F) G<|L0<|bI #[.int .i64 0,.int .u8 0,.int .u16 0,.int .u8 0,.int .u8 0,.int .u16 0,.int .u16 0,.int .u16 0,.int .u16 0,.int .u16 0,.int .u16 0,.int .u16 0,.int .u16 0,.int .u16 0,.int .u16 0,.slice none 0 0,.slice none 0 0,.slice none 0 0,.slice none 0 0,.int .u8 0,.int .u8 0,.int .u8 0,.int .u8 0,.int .u8 0,.slice none 0 0] fun a1 a2 H I J=>L0<|bf I (mS ⟨(L.getD k (Ev.bad 0)).e,(L.getD k (Ev.bad 0)).f⟩ a) fun a3 o K=>ng<|Pl 1<|L0<|aN o 0<|Pl 1<|nt<|?_
 have d:=ud J K H
 have p:=aE g d
 refine cb ((((L.getD k (Ev.bad 0)).e)==0)) (fun b=>?_) (fun b=>?_)
 have M:=az b
 refine go<|Pl 2<|L0<|vU o 1 24<|L0<|cF (m:=1) (e:=33) (dZ ((L.getD k (Ev.bad 0)).f.unit) ((L.getD k (Ev.bad 0)).f.tid) ((L.getD k (Ev.bad 0)).f.msg) a) fun a4 a5 N O q=>?_
 have l:=aE p q
 have P:=AT N O ⟨a,rfl,(aF.old (n.1) l),n.2⟩
 have r:=aE d q
 have s:=aj c r (fun x hx=>ay) (lu.upd r aD)
 refine L0<|fx (xs:=fs) (ys:=([(L.getD k (Ev.bad 0)).f])) (.agg xn) 24 160 s (P).rd lu.ones (fun w' hv=>lu.upd hv (bN (cg _ s (by decide)) aD)) (by(try simp only[List.length_append,List.length_cons,List.length_nil,av]);omega) l.size fun Q R a6 S T a7=>Pl 1<|nl<|bn<|tn<|go<|L0<|Oi (((k:Nat) : Int)+1)<|Pl 1<|nl<|?_
 exact er ((k+1),(fs++[(L.getD k (Ev.bad 0)).f]),Q,R) ⟨(ut l T (ag (aI c lr) aq)),S,(by(try dsimp only);omega),(by(try dsimp only);(try simp only[List.length_append,List.length_cons,List.length_nil]);omega),(by(try dsimp only);exact(rf (by omega) i).1 b)⟩ (by omega)
 have M:=aC b
 refine sk<|bn<|tn<|go<|L0<|Oi (((k:Nat) : Int)+1)<|Pl 1<|nl<|?_
 exact er ((k+1),fs,B,cq) ⟨p,(aj c d (fun x hx=>ay) (lu.upd d aD)),(by(try dsimp only);omega),(by(try dsimp only);(try simp only[List.length_append,List.length_cons,List.length_nil]);omega),(by(try dsimp only);exact(rf (by omega) i).2 b)⟩ (by omega)
 have D:=of_decide_eq_false j
 refine xt<|tx<|tx<|bx<|tn<|sg<|Pl 2<|nt<|rt<|rr (.slice B fs.length cq)<|?_
 have hs:fs=cO L:=by rw[i,List.take_of_length_le (by omega)]
 exact⟨_,rfl,by rw[← hs];exact c,g⟩
theorem oT{v:Value}{L:List Ev}{w:World}(h:od true w v L)(hL:L.length≤200000) : Calls Tryz.prog 39 #[v] w (fun e w'=>∃ v,e = .returned v∧aJ w.heap.size 33 24 (lu true) w' v (cO L)∧ax [] w w'):=by
  obtain⟨A,cp,rfl,_,_⟩:=h.shape
  exact nX h hL
open Go.RowKit
open Go.RowKit
theorem wm{w:World}{g:Nat}{cs:Array Value}{t:TypeId}{fr:Nat × Nat}{ps:List Pc}(hb:w.heap[g]? = some (.cells cs t fr))(hl:ps.length≤maxLen)(h:∀ j,j<ps.length→∃ v,(cs.toList.drop (j*2)).take 2=[v,.bool (ps.getD j Pc.z).tick]∧aQ false w v (ps.getD j Pc.z).bytes) : qX false w (.slice (some ⟨g,0,none⟩) ps.length ps.length) ps:=by
  refine⟨_,_,rfl,Nat.le_refl _,hl,(fun e=>by cases e),fun hp=>⟨g,0,cs,t,fr,rfl,hb,(fun e=>by cases e),fun j x hj=>?_⟩⟩
  have hlt:=(List.getElem?_eq_some_iff.1 hj).1
  obtain⟨v,h1,h2⟩:=h j hlt
  have hx:ps.getD j Pc.z=x:=by rw[List.getD_eq_getElem?_getD,hj];rfl
  rw[hx] at h1 h2
  refine⟨[v,.bool x.tick],rfl,⟨v,rfl,h2⟩,fun i u hi=>?_⟩
  rw[← h1] at hi
  rw[List.getElem?_take] at hi
  split at hi
  · rw[List.getElem?_drop] at hi
    rw[Nat.zero_add,← Array.getElem?_toList]
    exact hi
  · cases hi
theorem zD{m m':Bool}{w:World}{g:Nat}{t:TypeId}{fr:Nat × Nat}{v v':Value}{p p':Pc}(hb:w.heap[g]? = some (.cells #[v,.bool p.tick,v',.bool p'.tick] t fr))(h:aQ m w v p.bytes)(h':aQ m' w v' p'.bytes) : qX false w (.slice (some ⟨g,0,none⟩) 2 2) [p,p']:=by
  refine wm (ps:=[p,p']) hb (by unfold maxLen;simp) fun j hj=>?_
  match j,hj with
  | 0,_=>exact⟨v,rfl,aO.any h fun _ _ q=>q⟩
  | 1,_=>exact⟨v',rfl,aO.any h' fun _ _ q=>q⟩
theorem ja{m:Bool}{v:Value}{ps:List Pc}{w:World}{k0 d:Int}{S:XS}{L:List Ev}(hX:XS.run (XS.zero k0 d) ps=(S,L))(hk:k0=0∨k0=1∨k0=2)(hd:d=0∨d=1)(h:qX m w v ps)(hps:ps.length≤1000)(hsum:fq ps≤100000) : Calls Tryz.prog 26 #[.int .i64 k0,.int .i64 d,v] w (fun e w'=>∃ v,e = .returned (.tuple #[v,.int .i64 ((S.held.length:Nat) : Int)])∧gS w.heap.size w' v L∧ax [] w w'):=by
  have k:=wh hk hd h hps hsum
  rw[hX] at k
  exact k
open Go.RowKit
theorem zL:eI 0 [1,7,65,226]=(⟨1,0,sY⟩,0):=by decide +kernel
theorem zK:XS.run (XS.zero 0 0) [Pc.mk [1,7] false,Pc.mk [65,226] true]=((XS.r ⟨0,[],false⟩),[⟨0,⟨1,0,sY⟩⟩]):=by
  have e1:(SS.mk 0 [] false).feed [1,7]=(SS.mk 0 [1,7] false,[]):=rfl
  have e2:(SS.mk 0 [1,7] false).feed [65,226]=(SS.mk 0 [1,7,65,226] false,[]):=rfl
  have e3:(SS.mk 0 [1,7,65,226] false).tick=(SS.mk 0 [] false,[⟨0,⟨1,0,sY⟩⟩]):=by
    unfold SS.tick
    rw[if_neg (by decide),zL]
  have h1:(XS.zero 0 0).take [1,7] false=(XS.r (SS.mk 0 [1,7] false),[]):=rfl
  have h2:(XS.r (SS.mk 0 [1,7] false)).take [65,226] true=((XS.r ⟨0,[],false⟩),[⟨0,⟨1,0,sY⟩⟩]):=by
    show(XS.r ((SS.mk 0 [1,7] false).feed [65,226]).1.tick.1,((SS.mk 0 [1,7] false).feed [65,226]).2++((SS.mk 0 [1,7] false).feed [65,226]).1.tick.2)=_
    rw[e2,e3]
    rfl
  have g1:(XS.zero 0 0).run [Pc.mk [1,7] false]=(XS.r (SS.mk 0 [1,7] false),[]):=(jK _ _).trans h1
  have g2:(XS.r (SS.mk 0 [1,7] false)).run [Pc.mk [65,226] true]=((XS.r ⟨0,[],false⟩),[⟨0,⟨1,0,sY⟩⟩]):=(jK _ _).trans h2
  rw[show[Pc.mk [1,7] false,Pc.mk [65,226] true]=[Pc.mk [1,7] false]++[Pc.mk [65,226] true] from rfl,mr,g1]
  show(((XS.r (SS.mk 0 [1,7] false)).run [Pc.mk [65,226] true]).1,[]++((XS.r (SS.mk 0 [1,7] false)).run [Pc.mk [65,226] true]).2)=_
  rw[g2]
  rfl
theorem vN{w:World}:Calls Tryz.prog 24 #[] w (bv (.bool true) w):=by
 refine en 39 Tryz.func24 rfl<|sg<|Pl 1<|ng<|L0<|cF (m:=2) (e:=5) #[.int .u8 1,.int .u8 7] fun k E l n o=>?_
 have q:=cP l (xs:=[1,7]) (by as_aux_lemma=>kernel_rfl) (am (by omega) (am (by omega) aM)) (by(try simp only[List.length_cons,List.length_nil]);omega) n
 refine Pl 1<|L0<|cF (m:=2) (e:=5) #[.int .u8 65,.int .u8 226] fun r F s t u=>?_
 have y:=cP s (xs:=[65,226]) (by as_aux_lemma=>kernel_rfl) (am (by omega) (am (by omega) aM)) (by(try simp only[List.length_cons,List.length_nil]);omega) t
 refine Pl 1<|L0<|cF (m:=2) (e:=53) #[.slice (some ⟨k,0,none⟩) 2 2,.bool false,.slice (some ⟨r,0,none⟩) 2 2,.bool true] fun z G H A a=>?_
 have b:=aE u a
 have B:=zD (p:=(Pc.mk ([1,7]) false)) (p':=(Pc.mk ([65,226]) true)) A ((aj q b (fun x hx=>ay) (fun _ _ h=>h))).rd ((aj y a (fun x hx=>ay) (fun _ _ h=>h))).rd
 refine L0<|Oc (args:=#[.int .i64 0,.int .i64 0,.slice (some ⟨z,0,none⟩) 2 2])<|dE (ja zK (show 0=0∨0=1∨0=2 by decide) (show 0=0∨0=1 by decide) B (by decide) (by decide)) fun I J K c M N C=>Pl 5<|nt<|sq<|sg<|Pl 3<|nt<|c0<|bG<|sq<|?_
 refine go<|Pl 1<|zb (od.elt (c).rd 0 (by decide) (Ev.bad 0)) fun d f O P Q R g i S j=>L0<|ia 25 1 0 g (by omega)<|Pl 1<|L0<|kY (p:=⟨d,f+0*25+0,none⟩) (v:=.int .i64 0) (i3 i j 0 (by kernel_rfl) (by decide))<|Pl 3<|L1<|ia 25 1 0 g (by omega)<|Pl 3<|L1<|kY (p:=⟨d,f+0*25+1+2+0,none⟩) (v:=.int .u8 7) (i3 i j 3 (by kernel_rfl) (by decide))<|Pl 8<|L1<|Oc<|dE (oT (L:=[⟨0,⟨1,0,sY⟩⟩]) (c).rd (by decide)) fun T U V W X Y D=>Pl 4<|nl<|?_
 refine tn<|rt<|rr (.bool true)<|?_
 exact⟨rfl,(aE o (aE b (aE C D)))⟩
open Go.RowKit
theorem qj{m m':Bool}{A B:Option Addr}{c d:Nat}{xs ys:List Int}{w:World}(h1:aQ m w (.slice A xs.length c) xs)(h2:aQ m' w (.slice B ys.length d) ys) :
    Calls Tryz.prog 33 #[.slice A xs.length c,.slice B ys.length d] w (bv (.bool (decide (xs=ys))) w):=by
 refine en 10 Tryz.func33 rfl<|sg<|Pl 1<|ng<|Pl 1<|L0<|iv (.string (strOfNums xs)) (cl (A:=A) (n:=xs.length) (c:=c) rfl (by kernel_rfl) Tryz.underlying27 Tryz.underlying5 Tryz.underlying9 h1)<|Pl 1<|L0<|iv (.string (strOfNums ys)) (cl (A:=B) (n:=ys.length) (c:=d) rfl (by kernel_rfl) Tryz.underlying27 Tryz.underlying5 Tryz.underlying9 h2)<|L0<|iv (.bool (decide (xs=ys))) (ey (a:=(strOfNums xs)) (b:=(strOfNums ys)) rfl (by kernel_rfl) (by kernel_rfl) (i7 h1 h2))<|Pl 1<|nl<|?_
 refine tn<|rt<|rr (.bool (decide (xs=ys)))<|?_
 exact⟨rfl,(ax.refl [] _)⟩
theorem lZ{m m':Bool}{a b:Value}{xs ys:List Int}{w:World}(h1:aQ m w a xs)(h2:aQ m' w b ys) : Calls Tryz.prog 33 #[a,b] w (bv (.bool (decide (xs=ys))) w):=by
  obtain⟨A,c,rfl,_,_⟩:=h1.shape
  obtain⟨B,d,rfl,_,_⟩:=h2.shape
  exact qj h1 h2
open Go.RowKit
theorem ga{α:Type}{xs ys:List α}{k:Nat}(h:xs.take k=ys.take k)(h1:k=xs.length)(h2:xs.length=ys.length) : xs=ys:=by
  rw[List.take_of_length_le (by omega),List.take_of_length_le (by omega)] at h
  exact h
theorem l0{m m':Bool}{A B:Option Addr}{c d:Nat}{xs ys:List Int}{w:World}(h1:dB m w (.slice A xs.length c) xs)(h2:dB m' w (.slice B ys.length d) ys) :
    Calls Tryz.prog 42 #[.slice A xs.length c,.slice B ys.length d] w (bv (.bool (decide (xs=ys))) w):=by
 have hz1:=aO.len h1
 have hz2:=aO.len h2
 refine en 26 Tryz.func42 rfl<|sg<|Pl 1<|nt<|sq<|sg<|Pl 5<|nt<|cb ((((xs.length:Nat) : Int)!=((ys.length:Nat) : Int))) (fun g=>?_) (fun g=>?_)
 have j:=aA g
 refine sg<|Pl 1<|nt<|rt<|tr<|rr (.bool false)<|?_
 have hs:decide (xs=ys)=false:=decide_eq_false (fun e=>by rw[e] at j;omega)
 rw[hs]
 exact⟨rfl,(ax.refl [] _)⟩
 have j:=ai g
 refine bG<|sq<|sg<|Pl 1<|nt<|bk<|?_
 refine ir (fun x=>[(0,.slice A xs.length c),(1,.slice B ys.length d),(5,.int .i64 ((x:Nat) : Int))]) (fun(x:Nat) w'=>ax [] w w'∧(xs.take x=ys.take x)∧(x≤xs.length)) (fun x=>xs.length-x) 0 ⟨ax.refl _ _,(by(try dsimp only);simp),(by(try dsimp only);omega)⟩ ?_
 rintro k E ⟨b,p,q⟩
 refine it [(0,.slice A xs.length c),(1,.slice B ys.length d),(5,.int .i64 ((k:Nat) : Int))] ?_
 have l:xs.take k=ys.take k:=p
 have F:k≤xs.length:=q
 refine sq<|sg<|Pl 4<|nt<|cb ((decide (((k:Nat) : Int)<((xs.length:Nat) : Int)))) (fun h=>?_) (fun h=>?_)
 have r:=of_decide_eq_true h
 refine bG<|sq<|bk<|sq<|?_
 refine gX (dB.at_ (dB.old h1 b) k (by omega)) fun s t u v G=>?_
 refine gX (dB.at_ (dB.old h2 b) k (by omega)) fun y z C D H=>Rg 9 (fun w'=>w'.cell? ⟨s,t+k,none⟩=some (.int .u16 (xs.getD k 0))∧w'.cell? ⟨y,z+k,none⟩=some (.int .u16 (ys.getD k 0))) fun I i=>aZ ⟨(uc i v),(uc i D)⟩ fun a=>Rt 0 a<|Rt 1 a<|qF 2 a xs.length k ((k:Nat) : Int) rfl u (by omega)<|Rl 3 a (fun _ hs=>hs.1)<|Rt 4 a<|Rt 5 a<|qF 6 a ys.length k ((k:Nat) : Int) rfl C (by omega)<|Rl 7 a (fun _ hs=>hs.2)<|Rt 8 a<|re<|tn<|?_
 have n:=aE b i
 refine cb (((xs.getD k 0)!=(ys.getD k 0))) (fun f=>?_) (fun f=>?_)
 have o:=aA f
 refine sg<|Pl 1<|nt<|rt<|br<|tr<|tr<|br<|tr<|rr (.bool false)<|?_
 have hs:decide (xs=ys)=false:=decide_eq_false (sf (d:=0) k (by simpa using f))
 rw[hs]
 exact⟨rfl,n⟩
 have o:=ai f
 exact sk<|bn<|tn<|go<|Pl 1<|L0<|Oi (((k:Nat) : Int)+1)<|Pl 1<|nl<|er (k+1) ⟨n,(ky (d:=0) (by omega) (by omega) l o),(by(try dsimp only);omega)⟩ (by omega)
 have r:=of_decide_eq_false h
 refine xt<|tx<|tx<|bx<|tn<|sg<|Pl 1<|nt<|rt<|rr (.bool true)<|?_
 have hs:decide (xs=ys)=true:=decide_eq_true (ga l (by omega) (by omega))
 rw[hs]
 exact⟨rfl,b⟩
theorem iN{m m':Bool}{a b:Value}{xs ys:List Int}{w:World}(h1:dB m w a xs)(h2:dB m' w b ys) : Calls Tryz.prog 42 #[a,b] w (bv (.bool (decide (xs=ys))) w):=by
  obtain⟨A,c,rfl,_,_⟩:=h1.shape
  obtain⟨B,d,rfl,_,_⟩:=h2.shape
  exact l0 h1 h2
theorem l9{m m':Bool}{A B:Option Addr}{c d:Nat}{xs ys:List Bool}{w:World}(h1:iq m w (.slice A xs.length c) xs)(h2:iq m' w (.slice B ys.length d) ys) :
    Calls Tryz.prog 43 #[.slice A xs.length c,.slice B ys.length d] w (bv (.bool (decide (xs=ys))) w):=by
 have hz1:=aO.len h1
 have hz2:=aO.len h2
 refine en 26 Tryz.func43 rfl<|sg<|Pl 1<|nt<|sq<|sg<|Pl 5<|nt<|cb ((((xs.length:Nat) : Int)!=((ys.length:Nat) : Int))) (fun f=>?_) (fun f=>?_)
 have j:=aA f
 refine sg<|Pl 1<|nt<|rt<|tr<|rr (.bool false)<|?_
 have hs:decide (xs=ys)=false:=decide_eq_false (fun e=>by rw[e] at j;omega)
 rw[hs]
 exact⟨rfl,(ax.refl [] _)⟩
 have j:=ai f
 refine bG<|sq<|sg<|Pl 1<|nt<|bk<|?_
 refine ir (fun x=>[(0,.slice A xs.length c),(1,.slice B ys.length d),(5,.int .i64 ((x:Nat) : Int))]) (fun(x:Nat) w'=>ax [] w w'∧(xs.take x=ys.take x)∧(x≤xs.length)) (fun x=>xs.length-x) 0 ⟨ax.refl _ _,(by(try dsimp only);simp),(by(try dsimp only);omega)⟩ ?_
 rintro k D ⟨b,o,p⟩
 refine it [(0,.slice A xs.length c),(1,.slice B ys.length d),(5,.int .i64 ((k:Nat) : Int))] ?_
 have l:xs.take k=ys.take k:=o
 have E:k≤xs.length:=p
 refine sq<|sg<|Pl 4<|nt<|cb ((decide (((k:Nat) : Int)<((xs.length:Nat) : Int)))) (fun g=>?_) (fun g=>?_)
 have q:=of_decide_eq_true g
 refine bG<|sq<|bk<|sq<|?_
 refine zl (iq.at_ (iq.old h1 b) k (by omega)) fun r s t u=>?_
 refine zl (iq.at_ (iq.old h2 b) k (by omega)) fun v y z C=>Rg 9 (fun w'=>w'.cell? ⟨r,s+k,none⟩=some (.bool (xs.getD k false))∧w'.cell? ⟨v,y+k,none⟩=some (.bool (ys.getD k false))) fun F h=>aZ ⟨(uc h u),(uc h C)⟩ fun a=>Rt 0 a<|Rt 1 a<|qF 2 a xs.length k ((k:Nat) : Int) rfl t (by omega)<|Rl 3 a (fun _ hs=>hs.1)<|Rt 4 a<|Rt 5 a<|qF 6 a ys.length k ((k:Nat) : Int) rfl z (by omega)<|Rl 7 a (fun _ hs=>hs.2)<|Rt 8 a<|re<|tn<|?_
 have n:=aE b h
 refine cb (((xs.getD k false)!=(ys.getD k false))) (fun i=>?_) (fun i=>?_)
 refine sg<|Pl 1<|nt<|rt<|br<|tr<|tr<|br<|tr<|rr (.bool false)<|?_
 have hs:decide (xs=ys)=false:=decide_eq_false (sf (d:=false) k (by simpa using i))
 rw[hs]
 exact⟨rfl,n⟩
 exact sk<|bn<|tn<|go<|Pl 1<|L0<|Oi (((k:Nat) : Int)+1)<|Pl 1<|nl<|er (k+1) ⟨n,(ky (d:=false) (by omega) (by omega) l (by simpa using i)),(by(try dsimp only);omega)⟩ (by omega)
 have q:=of_decide_eq_false g
 refine xt<|tx<|tx<|bx<|tn<|sg<|Pl 1<|nt<|rt<|rr (.bool true)<|?_
 have hs:decide (xs=ys)=true:=decide_eq_true (ga l (by omega) (by omega))
 rw[hs]
 exact⟨rfl,b⟩
theorem mV{m m':Bool}{a b:Value}{xs ys:List Bool}{w:World}(h1:iq m w a xs)(h2:iq m' w b ys) : Calls Tryz.prog 43 #[a,b] w (bv (.bool (decide (xs=ys))) w):=by
  obtain⟨A,c,rfl,_,_⟩:=h1.shape
  obtain⟨B,d,rfl,_,_⟩:=h2.shape
  exact l9 h1 h2
end Go.Proofs.YtpglhicfhppaiaaGreat
