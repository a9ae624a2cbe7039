/- The statement GateBack holds; no condition of its own. -/
import Derived.Test.YtdkhbcefkfgbdaaGreatCGateBack1
import Derived.Test.YtdkhbcefkfgbdaaGreatCGateBack2
import Derived.Test.YtdkhbcefkfgbdaaGreatCGateBack3
import Derived.Test.YtdkhbcefkfgbdaaGreatCGateBack4
import Derived.Test.YtdkhbcefkfgbdaaGreatCGateBack5
import Derived.Test.YtdkhbcefkfgbdaaGreatCGateBack6
import Derived.Test.YtdkhbcefkfgbdaaGreatRows
import Derived.WalkKit
import Derived.ProofKit
import Derived.OpenShut
import Derived.ShutString
import Derived.ChangeOld
import Derived.Below
set_option linter.unusedVariables false
set_option linter.unusedSimpArgs false
set_option maxRecDepth 100000
set_option maxHeartbeats 4000000
namespace Go.Proofs.YtdkhbcefkfgbdaaGreat
open Go.ChangeShapes Go.WideShapes Go.ChangeAt Go.RowKit
theorem own:ownKnob Tryz.prog.godebug=none:=by kernel_rfl
theorem Au:laidOutB Tryz.prog=true:=by kernel_rfl
theorem lifted(os:Os)(started:os.Started)(H:Type)(enc:TypeId × Value→H) :
    ReturnsInHanded {} Tryz.checked os 9 .any (Rows.gateBackSpec.pre6 enc Tryz.prog Tryz.f9 Rows.gateBackRow.domain false) (Rows.gateBackSpec.post enc Tryz.prog Tryz.f9 false true false false):=by
  refine returnsInHanded_of_change (C:=Tryz.checked) own started (by kernel_rfl) Tryz.func9
    (ChangeSpec.witness6 (enc:=enc) (C:=Tryz.checked) false ⟨#[],#[.bool false,.int .u8 0,.bool false,.slice none 0 0],[]⟩ 8 (by kernel_rfl) (by kernel_rfl) (by kernel_rfl) (by kernel_rfl)) ?_
  intro W base args ds gs before hval0 hW hcnd _
  have hval:∀ (j:Nat) t v,Tryz.f9.params[j]? = some t→args[j]? = some v→Value.okWide Tryz.prog W .any base t v:=hval0
  have hW':=hW
  obtain⟨p,q,hA0,hV,rfl,hfz,hnd⟩:=hW
  have hA:DataW.TrodAll enc Tryz.prog W 0 (fun _=>true) true Tryz.f9.params.toList args.toList ds p:=hA0
  rw[Tryz.params9] at hA hval
  obtain⟨v0,vs0,d0,ds0,p0,q0,hargs,rfl,rfl,h0,r0⟩:=trodAll_cons hA
  obtain⟨v1,vs1,d1,ds1,p1,q1,rfl,rfl,rfl,h1,r1⟩:=trodAll_cons r0
  obtain⟨v2,vs2,d2,ds2,p2,q2,rfl,rfl,rfl,h2,r2⟩:=trodAll_cons r1
  obtain⟨v3,vs3,d3,ds3,p3,q3,rfl,rfl,rfl,h3,r3⟩:=trodAll_cons r2
  obtain⟨rfl,rfl,rfl⟩:=trodAll_nil r3
  obtain rfl:args = #[v0,v1,v2,v3]:=by cases args;simp_all
  obtain⟨rfl,rfl⟩:=trodVars_none hV
  obtain⟨a0,rfl,rfl,rfl⟩:=open_bool Tryz.underlying4 (hval 0 4 v0 rfl rfl) h0
  obtain⟨a1,rfl,rfl,rfl,w1⟩:=open_int Tryz.underlying5 (hval 1 5 v1 rfl rfl) h1
  have b1:=bounds_u8 w1
  obtain⟨a2,rfl,rfl,rfl⟩:=open_bool Tryz.underlying4 (hval 2 4 v2 rfl rfl) h2
  have k3:=h3
  have lt3:∀ x∈p3,x.block<W.heap.size:=by obtain⟨m,hm⟩:=k3;exact DataW.trod_lt m _ _ _ hm
  obtain⟨s3,len3,cap3,rfl⟩:=okWide_slice Tryz.underlying64 (hval 3 64 v3 rfl rfl)
  obtain⟨u3,xs3,e3,R3⟩ : ∃ u xs,[Value.slice s3 len3 cap3]=[u]∧um false W u xs:=by
    obtain⟨fuel,hf⟩:=k3
    exact zR hf
  obtain rfl:Value.slice s3 len3 cap3=u3:=by simpa using e3
  clear hA0 hval0
  refine(p9 (frm:=a0) (ans:=a2) (hto:=(by omega)) R3).mono fun e W' ⟨he,hu⟩=>?_
  have bel:=wj hu
  subst he
  exact⟨_,rfl,_,_,_,[],_,[],hW',trodAll_mk1 (shut_bool Tryz.underlying4 _),(trodAll_cons_mk (shut_bool Tryz.underlying4 _) (trodAll_cons_mk (shut_int Tryz.underlying5 w1) (trodAll_cons_mk (shut_bool Tryz.underlying4 _) (trodAll_cons_mk (Below.trod Au (by kernel_rfl) (of_decide_eq_true (by kernel_rfl)) k3 bel lt3) trodAll_mk0)))),rfl,bel.frame _,fun h=>by cases h⟩
def AN:List Nat:=[104,97,114,110,101,115,115,32,101,98,56,48,52,54,56,100,48,54,101,50,51,50,54,49,55,49,49,49,54,56,57,102,99,99,53,99,57,54,49,100,97,97,100,48,98,101,102,57,99,51,56,54,50,100,56,98,53,54,52,55,52,51,54,100,55,99,50,54,100,97,57,50,32,99,117,116,32,97,116,32,98,117,115,98,97,114,47,98,117,115,98,97,114,108,97,119,50,49,46,83,109,98,97,112,84,101,108,108,115,32,98,117,115,98,97,114,47,98,117,115,98,97,114,108,97,119,50,48,46,83,97,115,99,84,101,108,108,115,32,98,117,115,98,97,114,47,98,117,115,98,97,114,108,97,119,49,56,46,65,100,117,87,114,105,116,101,115,32,98,117,115,98,97,114,47,98,117,115,98,97,114,108,97,119,49,56,46,65,100,117,84,117,114,110,115,32,98,117,115,98,97,114,47,98,117,115,98,97,114,108,97,119,50,50,46,83,116,114,101,97,109,82,117,110,115,32,98,117,115,98,97,114,47,98,117,115,98,97,114,108,97,119,50,52,46,71,97,116,101,67,117,116,115,32,98,117,115,98,97,114,47,98,117,115,98,97,114,108,97,119,50,52,46,71,97,116,101,66,97,99,107,32,98,117,115,98,97,114,47,98,117,115,98,97,114,108,97,119,50,52,46,71,97,116,101,82,117,110,115,32,98,117,115,98,97,114,47,98,117,115,98,97,114,108,97,119,50,52,46,71,97,116,101,67,111,117,110,116,115,32,98,117,115,98,97,114,47,98,117,115,98,97,114,108,97,119,50,52,46,71,97,116,101,75,101,101,112,115]
theorem D0:Tryz.pinned.checked.prog.initOrder=String.ofList (AN.map Char.ofNat):=by kernel_rfl
theorem oE:Tryz.pinned.checked.prog.initOrder.toList=AN.map Char.ofNat:=by rw[D0,String.toList_ofList]
theorem B9(P:Program)(h:P.initOrder.toList=AN.map Char.ofNat) : (P.make==some Rows.gateBackRow.make)=true:=by
  unfold Program.make
  rw[h]
  kernel_rfl
theorem Ai(P:Program)(h:P.initOrder.toList=AN.map Char.ofNat) : P.headLifts=[]:=by
  unfold Program.headLifts
  rw[h]
  kernel_rfl
theorem xx(P:Program)(h:P.initOrder.toList=AN.map Char.ofNat) : (Rows.gateBackRow.lifted==P.liftsFinal)=true:=by
  unfold Program.liftsFinal
  rw[Ai P h,h]
  kernel_rfl
theorem xR(P:Program)(h:P.initOrder.toList=AN.map Char.ofNat)(h2:P.laysLater=false)(h3:P.bearsReflect=false)(h4:P.doorFits []=true) : P.mayEnter=true:=by
  unfold Program.mayEnter
  rw[h,h2,h3]
  have e:(stripLifts liftWords (behindMainWord (wordsSigns (AN.map Char.ofNat)))).1=[]:=by kernel_rfl
  have e2 : behindMainWord (wordsSigns (AN.map Char.ofNat)) = "cut".toList :: (behindMainWord (wordsSigns (AN.map Char.ofNat))).tail := by kernel_rfl
  rw[e2] at e ⊢
  dsimp only
  rw[e,h4]
  show _=true
  kernel_rfl
theorem an{a b:Bool}(h:a=true)(k:b=true) : (a&&b)=true:=by rw[h,k];rfl
theorem j1:(Rows.gateBackRow.inPlace==Tryz.pinned.checked.prog.inPlace 9)=true:=by kernel_rfl
theorem j2:(Rows.gateBackRow.unfollowed==Tryz.pinned.checked.prog.unfollowed 9)=true:=by kernel_rfl
theorem j3:(Rows.gateBackRow.recurses==Tryz.pinned.checked.prog.recurses 9)=true:=by kernel_rfl
theorem j4:(Rows.gateBackRow.named==Tryz.pinned.checked.prog.varsNamed 9)=true:=by kernel_rfl
theorem Ch:joinedFacts Tryz.pinned.checked.prog 9 Tryz.f9 Rows.gateBackSpec Rows.gateBackRow=true:=(an (an (an (an (an (an (an (an (an (an (an (an (an (an (an (an (an (an (an (an (an (an (an (an (an (an (an (an (an (an (an (by kernel_rfl) (by kernel_rfl)) (by kernel_rfl)) (by kernel_rfl)) (by kernel_rfl)) (by kernel_rfl)) (by kernel_rfl)) (by kernel_rfl)) (by kernel_rfl)) j1) j2) j3) j4) (by kernel_rfl)) (by kernel_rfl)) (by kernel_rfl)) (by kernel_rfl)) (by kernel_rfl)) (by kernel_rfl)) (by kernel_rfl)) (by kernel_rfl)) (by kernel_rfl)) (by kernel_rfl)) (by kernel_rfl)) (by kernel_rfl)) (xR _ oE (by kernel_rfl) (by kernel_rfl) (by kernel_rfl))) (xx _ oE)) (B9 _ oE)) (by kernel_rfl)) (by kernel_rfl)) (by kernel_rfl)) (by kernel_rfl))
theorem DV:Rows.gateBackRow.holds Tryz.pinned (OpenSpec.ofChange Rows.gateBackSpec) :=
  OpenClaim.holds_of_wide 9 Tryz.f9 rfl rfl rfl rfl rfl rfl rfl ⟨rfl,rfl,rfl,rfl,rfl⟩ rfl rfl rfl rfl rfl (by kernel_rfl) Tryz.func9 Ch
    (of_decide_eq_true (by kernel_rfl)) (by unfold Func.isWrapper;first | (rw[if_pos (by decide +kernel)];kernel_rfl) | (rw[if_neg (by decide +kernel)];exact⟨rfl,rfl⟩))
    (fun os started H enc _=>lifted os started H enc)
theorem proved:Rows.GateBackSaid:=DV
#print axioms proved
end Go.Proofs.YtdkhbcefkfgbdaaGreat
