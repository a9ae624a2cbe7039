/- The statement AscWrites holds; no condition of its own. -/
import Derived.Test.YtogbnemojakcpaaGreatCAscWrites1
import Derived.Test.YtogbnemojakcpaaGreatCAscWrites2
import Derived.Test.YtogbnemojakcpaaGreatCAscWrites3
import Derived.Test.YtogbnemojakcpaaGreatCAscWrites4
import Derived.Test.YtogbnemojakcpaaGreatCAscWrites5
import Derived.Test.YtogbnemojakcpaaGreatCAscWrites6
import Derived.Test.YtogbnemojakcpaaGreatCAscWrites7
import Derived.Test.YtogbnemojakcpaaGreatRows
import Derived.WalkKit
import Derived.ProofKit
import Derived.OpenShut
import Derived.ShutString
import Derived.ChangeOld
import Derived.Below
set_option linter.unusedVariables false
set_option linter.unusedSimpArgs false
set_option maxRecDepth 100000
set_option maxHeartbeats 4000000
namespace Go.Proofs.YtogbnemojakcpaaGreat
open Go.ChangeShapes Go.WideShapes Go.ChangeAt Go.RowKit
theorem own:ownKnob Tryz.prog.godebug=none:=by kernel_rfl
theorem w9:laidOutB Tryz.prog=true:=by kernel_rfl
theorem lifted(os:Os)(started:os.Started)(H:Type)(enc:TypeId × Value→H) :
    ReturnsInHanded {} Tryz.checked os 13 .any (Rows.ascWritesSpec.pre6 enc Tryz.prog Tryz.f13 Rows.ascWritesRow.domain false) (Rows.ascWritesSpec.post enc Tryz.prog Tryz.f13 false true false false):=by
  refine returnsInHanded_of_change (C:=Tryz.checked) own started (by kernel_rfl) Tryz.func13
    (ChangeSpec.witness6 (enc:=enc) (C:=Tryz.checked) false ⟨#[],#[.int .i64 0,.agg #[.int .u8 0,.int .u16 0,.int .u8 0,.int .u8 0,.int .u16 0,.int .u16 0,.int .u16 0,.int .u16 0,.int .u16 0,.int .u16 0,.int .u16 0,.int .u16 0,.int .u16 0,.int .u16 0,.slice none 0 0,.slice none 0 0,.slice none 0 0,.slice none 0 0,.int .u8 0,.int .u8 0,.int .u8 0,.int .u8 0,.int .u8 0,.slice none 0 0]],[]⟩ 8 (by kernel_rfl) (by kernel_rfl) (by kernel_rfl) (by kernel_rfl)) ?_
  intro W base args ds gs before hval0 hW hcnd _
  have hval:∀ (j:Nat) t v,Tryz.f13.params[j]? = some t→args[j]? = some v→Value.okWide Tryz.prog W .any base t v:=hval0
  have hW':=hW
  obtain⟨p,q,hA0,hV,rfl,hfz,hnd⟩:=hW
  have hA:DataW.TrodAll enc Tryz.prog W 0 (fun _=>true) true Tryz.f13.params.toList args.toList ds p:=hA0
  rw[Tryz.params13] at hA hval
  obtain⟨v0,vs0,d0,ds0,p0,q0,hargs,rfl,rfl,h0,r0⟩:=trodAll_cons hA
  obtain⟨v1,vs1,d1,ds1,p1,q1,rfl,rfl,rfl,h1,r1⟩:=trodAll_cons r0
  obtain⟨rfl,rfl,rfl⟩:=trodAll_nil r1
  obtain rfl:args = #[v0,v1]:=by cases args;simp_all
  obtain⟨rfl,rfl⟩:=trodVars_none hV
  obtain⟨a0,rfl,rfl,rfl,w0⟩:=open_int Tryz.underlying3 (hval 0 3 v0 rfl rfl) h0
  have b0:=bounds_i64 w0
  have k1:=h1
  have lt1:∀ x∈p1,x.block<W.heap.size:=by obtain⟨m,hm⟩:=k1;exact DataW.trod_lt m _ _ _ hm
  obtain⟨u1,t1,M1,x1,rfl,R1,bu1,bt1⟩:=xL ⟨_,hval 1 44 v1 rfl rfl⟩ h1
  clear hA0 hval0
  refine(o0 (dir:=a0) R1 bu1 bt1).mono fun e W' ⟨he,hu⟩=>?_
  have bel:=se hu
  subst he
  exact⟨_,rfl,_,_,_,[],_,[],hW',trodAll_mk1 (shut_bool Tryz.underlying4 _),(trodAll_cons_mk (shut_int Tryz.underlying3 w0) (trodAll_cons_mk (Below.trod w9 (by kernel_rfl) (of_decide_eq_true (by kernel_rfl)) k1 bel lt1) trodAll_mk0)),rfl,bel.frame _,fun h=>by cases h⟩
def xo:List Nat:=[104,97,114,110,101,115,115,32,97,50,55,101,102,53,102,99,102,98,48,100,102,55,102,52,52,53,51,97,57,55,55,49,53,99,51,56,101,97,98,100,97,101,100,49,55,98,56,53,54,53,57,53,57,52,52,57,50,48,51,101,48,53,98,56,99,97,48,48,99,56,53,52,32,99,117,116,32,97,116,32,98,117,115,98,97,114,47,98,117,115,98,97,114,108,97,119,49,52,46,80,100,117,80,97,114,115,101,115,32,98,117,115,98,97,114,47,98,117,115,98,97,114,108,97,119,49,52,46,80,100,117,87,114,105,116,101,115,32,98,117,115,98,97,114,47,98,117,115,98,97,114,108,97,119,49,55,46,77,98,97,112,80,97,114,115,101,115,32,98,117,115,98,97,114,47,98,117,115,98,97,114,108,97,119,49,55,46,77,98,97,112,87,114,105,116,101,115,32,98,117,115,98,97,114,47,98,117,115,98,97,114,108,97,119,49,57,46,83,114,116,117,84,101,108,108,115,32,98,117,115,98,97,114,47,98,117,115,98,97,114,108,97,119,50,49,46,83,109,98,97,112,84,101,108,108,115,32,98,117,115,98,97,114,47,98,117,115,98,97,114,108,97,119,49,53,46,82,116,117,80,97,114,115,101,115,32,98,117,115,98,97,114,47,98,117,115,98,97,114,108,97,119,49,53,46,82,116,117,87,114,105,116,101,115,32,98,117,115,98,97,114,47,98,117,115,98,97,114,108,97,119,50,48,46,83,97,115,99,84,101,108,108,115,32,98,117,115,98,97,114,47,98,117,115,98,97,114,108,97,119,49,54,46,65,115,99,80,97,114,115,101,115,32,98,117,115,98,97,114,47,98,117,115,98,97,114,108,97,119,49,54,46,65,115,99,87,114,105,116,101,115,32,98,117,115,98,97,114,47,98,117,115,98,97,114,108,97,119,49,56,46,65,100,117,80,97,114,115,101,115,32,98,117,115,98,97,114,47,98,117,115,98,97,114,108,97,119,49,56,46,65,100,117,87,114,105,116,101,115,32,98,117,115,98,97,114,47,98,117,115,98,97,114,108,97,119,49,56,46,65,100,117,84,117,114,110,115,32,98,117,115,98,97,114,47,98,117,115,98,97,114,108,97,119,50,50,46,83,116,114,101,97,109,82,117,110,115,32,98,117,115,98,97,114,47,98,117,115,98,97,114,108,97,119,50,52,46,71,97,116,101,67,117,116,115,32,98,117,115,98,97,114,47,98,117,115,98,97,114,108,97,119,50,52,46,71,97,116,101,66,97,99,107,32,98,117,115,98,97,114,47,98,117,115,98,97,114,108,97,119,50,52,46,71,97,116,101,82,117,110,115,32,98,117,115,98,97,114,47,98,117,115,98,97,114,108,97,119,50,52,46,71,97,116,101,67,111,117,110,116,115,32,98,117,115,98,97,114,47,98,117,115,98,97,114,108,97,119,50,52,46,71,97,116,101,75,101,101,112,115]
theorem A0:Tryz.pinned.checked.prog.initOrder=String.ofList (xo.map Char.ofNat):=by kernel_rfl
theorem oq:Tryz.pinned.checked.prog.initOrder.toList=xo.map Char.ofNat:=by rw[A0,String.toList_ofList]
theorem xd(P:Program)(h:P.initOrder.toList=xo.map Char.ofNat) : (P.make==some Rows.ascWritesRow.make)=true:=by
  unfold Program.make
  rw[h]
  kernel_rfl
theorem xG(P:Program)(h:P.initOrder.toList=xo.map Char.ofNat) : P.headLifts=[]:=by
  unfold Program.headLifts
  rw[h]
  kernel_rfl
theorem vA(P:Program)(h:P.initOrder.toList=xo.map Char.ofNat) : (Rows.ascWritesRow.lifted==P.liftsFinal)=true:=by
  unfold Program.liftsFinal
  rw[xG P h,h]
  kernel_rfl
theorem vE(P:Program)(h:P.initOrder.toList=xo.map Char.ofNat)(h2:P.laysLater=false)(h3:P.bearsReflect=false)(h4:P.doorFits []=true) : P.mayEnter=true:=by
  unfold Program.mayEnter
  rw[h,h2,h3]
  have e:(stripLifts liftWords (behindMainWord (wordsSigns (xo.map Char.ofNat)))).1=[]:=by kernel_rfl
  have e2 : behindMainWord (wordsSigns (xo.map Char.ofNat)) = "cut".toList :: (behindMainWord (wordsSigns (xo.map Char.ofNat))).tail := by kernel_rfl
  rw[e2] at e ⊢
  dsimp only
  rw[e,h4]
  show _=true
  kernel_rfl
theorem an{a b:Bool}(h:a=true)(k:b=true) : (a&&b)=true:=by rw[h,k];rfl
theorem j1:(Rows.ascWritesRow.inPlace==Tryz.pinned.checked.prog.inPlace 13)=true:=by kernel_rfl
theorem j2:(Rows.ascWritesRow.unfollowed==Tryz.pinned.checked.prog.unfollowed 13)=true:=by kernel_rfl
theorem j3:(Rows.ascWritesRow.recurses==Tryz.pinned.checked.prog.recurses 13)=true:=by kernel_rfl
theorem j4:(Rows.ascWritesRow.named==Tryz.pinned.checked.prog.varsNamed 13)=true:=by kernel_rfl
theorem yz:joinedFacts Tryz.pinned.checked.prog 13 Tryz.f13 Rows.ascWritesSpec Rows.ascWritesRow=true:=(an (an (an (an (an (an (an (an (an (an (an (an (an (an (an (an (an (an (an (an (an (an (an (an (an (an (an (an (an (an (an (by kernel_rfl) (by kernel_rfl)) (by kernel_rfl)) (by kernel_rfl)) (by kernel_rfl)) (by kernel_rfl)) (by kernel_rfl)) (by kernel_rfl)) (by kernel_rfl)) j1) j2) j3) j4) (by kernel_rfl)) (by kernel_rfl)) (by kernel_rfl)) (by kernel_rfl)) (by kernel_rfl)) (by kernel_rfl)) (by kernel_rfl)) (by kernel_rfl)) (by kernel_rfl)) (by kernel_rfl)) (by kernel_rfl)) (by kernel_rfl)) (vE _ oq (by kernel_rfl) (by kernel_rfl) (by kernel_rfl))) (vA _ oq)) (xd _ oq)) (by kernel_rfl)) (by kernel_rfl)) (by kernel_rfl)) (by kernel_rfl))
theorem AW:Rows.ascWritesRow.holds Tryz.pinned (OpenSpec.ofChange Rows.ascWritesSpec) :=
  OpenClaim.holds_of_wide 13 Tryz.f13 rfl rfl rfl rfl rfl rfl rfl ⟨rfl,rfl,rfl,rfl,rfl⟩ rfl rfl rfl rfl rfl (by kernel_rfl) Tryz.func13 yz
    (of_decide_eq_true (by kernel_rfl)) (by unfold Func.isWrapper;first | (rw[if_pos (by decide +kernel)];kernel_rfl) | (rw[if_neg (by decide +kernel)];exact⟨rfl,rfl⟩))
    (fun os started H enc _=>lifted os started H enc)
theorem proved:Rows.AscWritesSaid:=AW
#print axioms proved
end Go.Proofs.YtogbnemojakcpaaGreat
