/- The statement SrtuTells holds; no condition of its own. -/
import Derived.Test.YtogbnemojakcpaaGreatCSrtuTells1
import Derived.Test.YtogbnemojakcpaaGreatCSrtuTells2
import Derived.Test.YtogbnemojakcpaaGreatCSrtuTells3
import Derived.Test.YtogbnemojakcpaaGreatCSrtuTells4
import Derived.Test.YtogbnemojakcpaaGreatCSrtuTells5
import Derived.Test.YtogbnemojakcpaaGreatRows
import Derived.WalkKit
import Derived.ProofKit
import Derived.OpenShut
import Derived.ShutString
import Derived.ChangeOld
import Derived.Below
import Derived.SizedLaws
set_option linter.unusedVariables false
set_option linter.unusedSimpArgs false
set_option maxRecDepth 100000
set_option maxHeartbeats 4000000
namespace Go.Proofs.YtogbnemojakcpaaGreat
open Go.ChangeShapes Go.WideShapes Go.ChangeAt Go.RowKit
theorem own:ownKnob Tryz.prog.godebug=none:=by kernel_rfl
theorem nv:laidOutB Tryz.prog=true:=by kernel_rfl
theorem lifted(os:Os)(started:os.Started)(H:Type)(enc:TypeId × Value→H) :
    ReturnsInHanded {} Tryz.checked os 7 .any (Rows.srtuTellsSpec.pre6 enc Tryz.prog Tryz.f7 Rows.srtuTellsRow.domain false) (Rows.srtuTellsSpec.post enc Tryz.prog Tryz.f7 false true false false):=by
  refine returnsInHanded_of_change_sized (C:=Tryz.checked) own started (by kernel_rfl) Tryz.func7
    (ChangeSpec.witness6 (enc:=enc) (C:=Tryz.checked) false ⟨#[],#[.int .i64 0,.slice none 0 0,.slice none 0 0],[]⟩ 8 (by kernel_rfl) (by kernel_rfl) (by kernel_rfl) (by kernel_rfl)) ?_
  intro W base args ds gs before hval0 hW hcnd hsz0 _
  have hval:∀ (j:Nat) t v,Tryz.f7.params[j]? = some t→args[j]? = some v→Value.okWide Tryz.prog W .any base t v:=hval0
  have hW':=hW
  obtain⟨p,q,hA0,hV,rfl,hfz,hnd⟩:=hW
  have hA:DataW.TrodAll enc Tryz.prog W 0 (fun _=>true) true Tryz.f7.params.toList args.toList ds p:=hA0
  rw[Tryz.params7] at hA hval
  obtain⟨v0,vs0,d0,ds0,p0,q0,hargs,rfl,rfl,h0,r0⟩:=trodAll_cons hA
  obtain⟨v1,vs1,d1,ds1,p1,q1,rfl,rfl,rfl,h1,r1⟩:=trodAll_cons r0
  obtain⟨v2,vs2,d2,ds2,p2,q2,rfl,rfl,rfl,h2,r2⟩:=trodAll_cons r1
  obtain⟨rfl,rfl,rfl⟩:=trodAll_nil r2
  obtain rfl:args = #[v0,v1,v2]:=by cases args;simp_all
  obtain⟨rfl,rfl⟩:=trodVars_none hV
  obtain⟨a0,rfl,rfl,rfl,w0⟩:=open_int Tryz.underlying3 (hval 0 3 v0 rfl rfl) h0
  have b0:=bounds_i64 w0
  have k1:=h1
  have lt1:∀ x∈p1,x.block<W.heap.size:=by obtain⟨m,hm⟩:=k1;exact DataW.trod_lt m _ _ _ hm
  obtain⟨s1,len1,cap1,rfl⟩:=okWide_slice Tryz.underlying49 (hval 1 49 v1 rfl rfl)
  obtain⟨u1,xs1,e1,R1,L1⟩ : ∃ u xs,[Value.slice s1 len1 cap1]=[u]∧fs false W u xs∧∀ x,x∈xs→x.length≤140737488355328:=by
    obtain⟨fuel,hf⟩:=k1
    exact rQ hf (rT hsz0 (j:=1) rfl rfl)
  obtain rfl:Value.slice s1 len1 cap1=u1:=by simpa using e1
  have k2:=h2
  have lt2:∀ x∈p2,x.block<W.heap.size:=by obtain⟨m,hm⟩:=k2;exact DataW.trod_lt m _ _ _ hm
  obtain⟨s2,len2,cap2,rfl⟩:=okWide_slice Tryz.underlying26 (hval 2 26 v2 rfl rfl)
  obtain⟨u2,xs2,e2,R2⟩ : ∃ u xs,[Value.slice s2 len2 cap2]=[u]∧eN false W u xs:=by
    obtain⟨fuel,hf⟩:=k2
    exact ro hf
  obtain rfl:Value.slice s2 len2 cap2=u2:=by simpa using e2
  clear hA0 hval0
  refine(jl (dir:=a0) R1 L1 R2).mono fun e W' ⟨he,hu⟩=>?_
  have bel:=oZ hu
  subst he
  exact⟨_,rfl,_,_,_,[],_,[],hW',trodAll_mk1 (shut_bool Tryz.underlying4 _),(trodAll_cons_mk (shut_int Tryz.underlying3 w0) (trodAll_cons_mk (Below.trod nv (by kernel_rfl) (of_decide_eq_true (by kernel_rfl)) k1 bel lt1) (trodAll_cons_mk (Below.trod nv (by kernel_rfl) (of_decide_eq_true (by kernel_rfl)) k2 bel lt2) trodAll_mk0))),rfl,bel.frame _,fun h=>by cases h⟩
def s3:List Nat:=[104,97,114,110,101,115,115,32,97,50,55,101,102,53,102,99,102,98,48,100,102,55,102,52,52,53,51,97,57,55,55,49,53,99,51,56,101,97,98,100,97,101,100,49,55,98,56,53,54,53,57,53,57,52,52,57,50,48,51,101,48,53,98,56,99,97,48,48,99,56,53,52,32,99,117,116,32,97,116,32,98,117,115,98,97,114,47,98,117,115,98,97,114,108,97,119,49,52,46,80,100,117,80,97,114,115,101,115,32,98,117,115,98,97,114,47,98,117,115,98,97,114,108,97,119,49,52,46,80,100,117,87,114,105,116,101,115,32,98,117,115,98,97,114,47,98,117,115,98,97,114,108,97,119,49,55,46,77,98,97,112,80,97,114,115,101,115,32,98,117,115,98,97,114,47,98,117,115,98,97,114,108,97,119,49,55,46,77,98,97,112,87,114,105,116,101,115,32,98,117,115,98,97,114,47,98,117,115,98,97,114,108,97,119,49,57,46,83,114,116,117,84,101,108,108,115,32,98,117,115,98,97,114,47,98,117,115,98,97,114,108,97,119,50,49,46,83,109,98,97,112,84,101,108,108,115,32,98,117,115,98,97,114,47,98,117,115,98,97,114,108,97,119,49,53,46,82,116,117,80,97,114,115,101,115,32,98,117,115,98,97,114,47,98,117,115,98,97,114,108,97,119,49,53,46,82,116,117,87,114,105,116,101,115,32,98,117,115,98,97,114,47,98,117,115,98,97,114,108,97,119,50,48,46,83,97,115,99,84,101,108,108,115,32,98,117,115,98,97,114,47,98,117,115,98,97,114,108,97,119,49,54,46,65,115,99,80,97,114,115,101,115,32,98,117,115,98,97,114,47,98,117,115,98,97,114,108,97,119,49,54,46,65,115,99,87,114,105,116,101,115,32,98,117,115,98,97,114,47,98,117,115,98,97,114,108,97,119,49,56,46,65,100,117,80,97,114,115,101,115,32,98,117,115,98,97,114,47,98,117,115,98,97,114,108,97,119,49,56,46,65,100,117,87,114,105,116,101,115,32,98,117,115,98,97,114,47,98,117,115,98,97,114,108,97,119,49,56,46,65,100,117,84,117,114,110,115,32,98,117,115,98,97,114,47,98,117,115,98,97,114,108,97,119,50,50,46,83,116,114,101,97,109,82,117,110,115,32,98,117,115,98,97,114,47,98,117,115,98,97,114,108,97,119,50,52,46,71,97,116,101,67,117,116,115,32,98,117,115,98,97,114,47,98,117,115,98,97,114,108,97,119,50,52,46,71,97,116,101,66,97,99,107,32,98,117,115,98,97,114,47,98,117,115,98,97,114,108,97,119,50,52,46,71,97,116,101,82,117,110,115,32,98,117,115,98,97,114,47,98,117,115,98,97,114,108,97,119,50,52,46,71,97,116,101,67,111,117,110,116,115,32,98,117,115,98,97,114,47,98,117,115,98,97,114,108,97,119,50,52,46,71,97,116,101,75,101,101,112,115]
theorem tK:Tryz.pinned.checked.prog.initOrder=String.ofList (s3.map Char.ofNat):=by kernel_rfl
theorem kD:Tryz.pinned.checked.prog.initOrder.toList=s3.map Char.ofNat:=by rw[tK,String.toList_ofList]
theorem rU(P:Program)(h:P.initOrder.toList=s3.map Char.ofNat) : (P.make==some Rows.srtuTellsRow.make)=true:=by
  unfold Program.make
  rw[h]
  kernel_rfl
theorem rp(P:Program)(h:P.initOrder.toList=s3.map Char.ofNat) : P.headLifts=[]:=by
  unfold Program.headLifts
  rw[h]
  kernel_rfl
theorem pH(P:Program)(h:P.initOrder.toList=s3.map Char.ofNat) : (Rows.srtuTellsRow.lifted==P.liftsFinal)=true:=by
  unfold Program.liftsFinal
  rw[rp P h,h]
  kernel_rfl
theorem r8(P:Program)(h:P.initOrder.toList=s3.map Char.ofNat)(h2:P.laysLater=false)(h3:P.bearsReflect=false)(h4:P.doorFits []=true) : P.mayEnter=true:=by
  unfold Program.mayEnter
  rw[h,h2,h3]
  have e:(stripLifts liftWords (behindMainWord (wordsSigns (s3.map Char.ofNat)))).1=[]:=by kernel_rfl
  have e2 : behindMainWord (wordsSigns (s3.map Char.ofNat)) = "cut".toList :: (behindMainWord (wordsSigns (s3.map Char.ofNat))).tail := by kernel_rfl
  rw[e2] at e ⊢
  dsimp only
  rw[e,h4]
  show _=true
  kernel_rfl
theorem an{a b:Bool}(h:a=true)(k:b=true) : (a&&b)=true:=by rw[h,k];rfl
theorem j1:(Rows.srtuTellsRow.inPlace==Tryz.pinned.checked.prog.inPlace 7)=true:=by kernel_rfl
theorem j2:(Rows.srtuTellsRow.unfollowed==Tryz.pinned.checked.prog.unfollowed 7)=true:=by kernel_rfl
theorem j3:(Rows.srtuTellsRow.recurses==Tryz.pinned.checked.prog.recurses 7)=true:=by kernel_rfl
theorem j4:(Rows.srtuTellsRow.named==Tryz.pinned.checked.prog.varsNamed 7)=true:=by kernel_rfl
theorem t4:joinedFacts Tryz.pinned.checked.prog 7 Tryz.f7 Rows.srtuTellsSpec Rows.srtuTellsRow=true:=(an (an (an (an (an (an (an (an (an (an (an (an (an (an (an (an (an (an (an (an (an (an (an (an (an (an (an (an (an (an (an (by kernel_rfl) (by kernel_rfl)) (by kernel_rfl)) (by kernel_rfl)) (by kernel_rfl)) (by kernel_rfl)) (by kernel_rfl)) (by kernel_rfl)) (by kernel_rfl)) j1) j2) j3) j4) (by kernel_rfl)) (by kernel_rfl)) (by kernel_rfl)) (by kernel_rfl)) (by kernel_rfl)) (by kernel_rfl)) (by kernel_rfl)) (by kernel_rfl)) (by kernel_rfl)) (by kernel_rfl)) (by kernel_rfl)) (by kernel_rfl)) (r8 _ kD (by kernel_rfl) (by kernel_rfl) (by kernel_rfl))) (pH _ kD)) (rU _ kD)) (by kernel_rfl)) (by kernel_rfl)) (by kernel_rfl)) (by kernel_rfl))
theorem vi:Rows.srtuTellsRow.holds Tryz.pinned (OpenSpec.ofChange Rows.srtuTellsSpec) :=
  OpenClaim.holds_of_wide 7 Tryz.f7 rfl rfl rfl rfl rfl rfl rfl ⟨rfl,rfl,rfl,rfl,rfl⟩ rfl rfl rfl rfl rfl (by kernel_rfl) Tryz.func7 t4
    (of_decide_eq_true (by kernel_rfl)) (by unfold Func.isWrapper;first | (rw[if_pos (by decide +kernel)];kernel_rfl) | (rw[if_neg (by decide +kernel)];exact⟨rfl,rfl⟩))
    (fun os started H enc _=>lifted os started H enc)
theorem proved:Rows.SrtuTellsSaid:=vi
#print axioms proved
end Go.Proofs.YtogbnemojakcpaaGreat
