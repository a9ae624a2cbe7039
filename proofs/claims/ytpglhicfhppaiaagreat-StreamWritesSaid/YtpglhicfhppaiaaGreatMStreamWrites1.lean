/- The statement StreamWrites holds; no condition of its own. -/
import Derived.Test.YtpglhicfhppaiaaGreatCStreamWrites1
import Derived.Test.YtpglhicfhppaiaaGreatCStreamWrites2
import Derived.Test.YtpglhicfhppaiaaGreatCStreamWrites3
import Derived.Test.YtpglhicfhppaiaaGreatCStreamWrites4
import Derived.Test.YtpglhicfhppaiaaGreatCStreamWrites5
import Derived.Test.YtpglhicfhppaiaaGreatCStreamWrites6
import Derived.Test.YtpglhicfhppaiaaGreatRows
import Derived.WalkKit
import Derived.ProofKit
import Derived.OpenShut
import Derived.ShutString
import Derived.ChangeOld
import Derived.Below
set_option linter.unusedVariables false
set_option linter.unusedSimpArgs false
set_option maxRecDepth 100000
set_option maxHeartbeats 4000000
namespace Go.Proofs.YtpglhicfhppaiaaGreat
open Go.ChangeShapes Go.WideShapes Go.ChangeAt Go.RowKit
theorem own:ownKnob Tryz.prog.godebug=none:=by kernel_rfl
theorem xv:laidOutB Tryz.prog=true:=by kernel_rfl
theorem yt(os:Os)(started:os.Started)(H:Type)(enc:TypeId × Value→H) :
    ReturnsInHanded {} Tryz.checked os 11 .any (Rows.streamWritesSpec.pre6 enc Tryz.prog Tryz.f11 Rows.streamWritesRow.domain false) (Rows.streamWritesSpec.post enc Tryz.prog Tryz.f11 false true false false):=by
  refine returnsInHanded_of_change (C:=Tryz.checked) own started (by kernel_rfl) Tryz.func11
    (ChangeSpec.witness6 (enc:=enc) (C:=Tryz.checked) false ⟨#[],#[.int .u8 0,.bool false,.slice none 0 0],[]⟩ 8 (by kernel_rfl) (by kernel_rfl) (by kernel_rfl) (by kernel_rfl)) ?_
  intro W base args ds gs before hval0 hW hcnd _
  have hval:∀ (j:Nat) t v,Tryz.f11.params[j]? = some t→args[j]? = some v→Value.okWide Tryz.prog W .any base t v:=hval0
  have hW':=hW
  obtain⟨p,q,hA0,hV,rfl,hfz,hnd⟩:=hW
  have hA:DataW.TrodAll enc Tryz.prog W 0 (fun _=>true) true Tryz.f11.params.toList args.toList ds p:=hA0
  rw[Tryz.params11] at hA hval
  obtain⟨v0,vs0,d0,ds0,p0,q0,hargs,rfl,rfl,h0,r0⟩:=trodAll_cons hA
  obtain⟨v1,vs1,d1,ds1,p1,q1,rfl,rfl,rfl,h1,r1⟩:=trodAll_cons r0
  obtain⟨v2,vs2,d2,ds2,p2,q2,rfl,rfl,rfl,h2,r2⟩:=trodAll_cons r1
  obtain⟨rfl,rfl,rfl⟩:=trodAll_nil r2
  obtain rfl:args = #[v0,v1,v2]:=by cases args;simp_all
  obtain⟨rfl,rfl⟩:=trodVars_none hV
  obtain⟨a0,rfl,rfl,rfl,w0⟩:=open_int Tryz.underlying5 (hval 0 5 v0 rfl rfl) h0
  have b0:=bounds_u8 w0
  obtain⟨a1,rfl,rfl,rfl⟩:=open_bool Tryz.underlying4 (hval 1 4 v1 rfl rfl) h1
  have k2:=h2
  have lt2:∀ x∈p2,x.block<W.heap.size:=by obtain⟨m,hm⟩:=k2;exact DataW.trod_lt m _ _ _ hm
  obtain⟨s2,len2,cap2,rfl⟩:=okWide_slice Tryz.underlying68 (hval 2 68 v2 rfl rfl)
  obtain⟨u2,xs2,e2,R2⟩ : ∃ u xs,[Value.slice s2 len2 cap2]=[u]∧uA false W u xs:=by
    obtain⟨fuel,hf⟩:=k2
    exact xl hf
  obtain rfl:Value.slice s2 len2 cap2=u2:=by simpa using e2
  clear hA0 hval0
  refine(iY (ans:=a1) (hfr:=(by omega)) R2).mono fun e W' ⟨he,hu⟩=>?_
  have bel:=rX hu
  subst he
  exact⟨_,rfl,_,_,_,[],_,[],hW',trodAll_mk1 (shut_bool Tryz.underlying4 _),(trodAll_cons_mk (shut_int Tryz.underlying5 w0) (trodAll_cons_mk (shut_bool Tryz.underlying4 _) (trodAll_cons_mk (Below.trod xv (by kernel_rfl) (of_decide_eq_true (by kernel_rfl)) k2 bel lt2) trodAll_mk0))),rfl,bel.frame _,fun h=>by cases h⟩
theorem Az:Rows.streamWritesRow.holds Tryz.pinned (OpenSpec.ofChange Rows.streamWritesSpec) :=
  OpenClaim.holds_of_wide 11 Tryz.f11 rfl rfl rfl rfl rfl rfl rfl ⟨rfl,rfl,rfl,rfl,rfl⟩ rfl rfl rfl rfl rfl (by kernel_rfl) Tryz.func11 (by kernel_rfl)
    (of_decide_eq_true (by kernel_rfl)) (by unfold Func.isWrapper;first | (rw[if_pos (by decide +kernel)];kernel_rfl) | (rw[if_neg (by decide +kernel)];exact⟨rfl,rfl⟩))
    (fun os started H enc _=>yt os started H enc)
theorem proved:Rows.StreamWritesSaid:=Az
#print axioms proved
end Go.Proofs.YtpglhicfhppaiaaGreat
