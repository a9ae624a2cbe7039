/- The statement AduWays holds; no condition of its own. -/
import Derived.Test.YtpglhicfhppaiaaGreatKA1
import Derived.Test.YtpglhicfhppaiaaGreatKA2
import Derived.Test.YtpglhicfhppaiaaGreatKA3
import Derived.Test.YtpglhicfhppaiaaGreatKA4
import Derived.Test.YtpglhicfhppaiaaGreatKA5
import Derived.Test.YtpglhicfhppaiaaGreatKB1
import Derived.Test.YtpglhicfhppaiaaGreatKB2
import Derived.Test.YtpglhicfhppaiaaGreatRows
import Derived.WalkKit
import Derived.ProofKit
import Derived.OpenShut
import Derived.ShutString
import Derived.ChangeOld
import Derived.Below
set_option linter.unusedVariables false
set_option linter.unusedSimpArgs false
namespace Go.Proofs.YtpglhicfhppaiaaGreat
open Go.RowKit
theorem way_rd {c f:Int} (w:World) (hc:0≤c∧c < 256) (hf:0≤f∧f < 256) : MsgRd true w (mcl (wayM c f) ⟨none,0,none,0,none,0,none,0,none,0⟩).toList (wayM c f):=⟨nilS,nilS,nilS,nilS,nilS,rfl,RdG.nil ..,RdG.nil ..,RdG.nil ..,RdG.nil ..,RdG.nil ..,{ MsgRng.zero with code:=hc,fail:=hf }⟩
theorem way_few {c f:Int}:MsgFew (wayM c f):=few_nil _ rfl rfl rfl rfl rfl
set_option maxRecDepth 100000 in
set_option maxHeartbeats 4000000 in
theorem lawAduWays {w:World} {fr u c why dir:Int} (hfr:0≤fr∧fr < 256) (hu:0≤u∧u < 256) (hc:0≤c∧c < 256) (hwhy:0≤why∧why < 256) :
    Calls Tryz.prog 6 #[.int .u8 fr,.int .u8 u,.int .u8 c,.int .u8 why,.int .i64 dir] w (PVal (.bool true) w):=by
 obtain ⟨z1,z2,z3⟩:=adu_ways (k:=fr % 3) (u:=u) (c:=c) (f:=(1 + (why % 6)) % 256) (three fr) hu hc (by omega)
 refine en 94 Tryz.func6 rfl<|sg<|Pl 1<|ng<|L0<|Oc<|m1 (@awake18 _) fun w10 hu11=>Pl 1<|ng<|?_
 refine Pl 1<|L0<|Oe (.int .u8 (Int.tmod fr 3)) (.int .u8 (fr % 3)) (congrArg (Value.int .u8) (Int.tmod_eq_emod_of_nonneg (by omega)))<|L0<|Oi (fr % 3)<|Pl 1<|ng<|Pl 4<|L0<|Oe (.int .u8 (Int.tmod why 6)) (.int .u8 (why % 6)) (congrArg (Value.int .u8) (Int.tmod_eq_emod_of_nonneg (by omega)))<|Pl 3<|L0<|Oal frmZ fun g12 w13 hg14 B15 hu16=>L0<|Osw B15 #[.int .u8 u,.int .u16 0,.int .u8 c,.int .u8 ((1 + (why % 6)) % 256),.int .u16 0,.int .u16 0,.int .u16 0,.int .u16 0,.int .u16 0,.int .u16 0,.int .u16 0,.int .u16 0,.int .u16 0,.int .u16 0,.slice none 0 0,.slice none 0 0,.slice none 0 0,.slice none 0 0,.int .u8 0,.int .u8 0,.int .u8 0,.int .u8 0,.int .u8 0,.slice none 0 0] fun w17 B18 hu19=>nl<|?_
 refine tn<|sg<|Pl 1<|L0<|Olw B18<|?_
 have U22:=ut0 hu11 hu16
 have U23:=u1 U22 hu19 (ni hu11.size hg14)
 refine wo (aduW (fr % 3) 1 u 0 (wayM c ((1 + (why % 6)) % 256))) (fun hX21=>?_) (fun l20 hX21=>?_)
 refine L0<|Oc<|m1 (adu_write_n (way_rd w17 (by omega) (by omega)) way_few (by omega) (by omega) hX21) fun w24 hu25=>Pl 5<|ng<|Pl 1<|?_
 have r26:=ub hu25 B18
 refine L0<|Olw r26<|L0<|Oc<|m1 (adu_write_n (way_rd w24 (by omega) (by omega)) way_few (by omega) (by omega) z1) fun w27 hu28=>Pl 5<|ng<|Pl 1<|L0<|Oc<|m1 (pub7_any (x:=c)) fun w29 hu30=>Pl 1<|nt<|sq<|sq<|?_
 refine go<|Pl 5<|cu 3 [53] 56 ((false != (pub7 c))) (fun K K32=>?_) ?_
 refine bl 53 ((false != (pub7 c))) (fun q31=>?_) (fun q31=>?_)
 exact Pl 3<|ce K32 true q31
 exact Pl 3<|ce K32 false q31
 refine nt<|?_
 have U33:=ut0 U23 hu25
 have U34:=ut0 U33 hu28
 have U35:=ut0 U34 hu30
 refine cb ((false != (pub7 c))) (fun q36=>?_) (fun q36=>?_)
 refine sg<|Pl 1<|nt<|rt<|tr<|rr (.bool false)<|?_
 have hs:false=true:=by cases hp:pub7 c; (exfalso; have q:=q36; rw [hp] at q; simp at q); (obtain ⟨b,hb⟩:=z3 hp; rw [hX21] at hb; cases hb)
 rw [hs]
 exact ⟨rfl,U35⟩
 refine skn<|sq<|sg<|Pl 2<|nt<|c1<|sg<|Pl 7<|nt<|?_
 refine rt<|tr<|rr (.bool true)<|?_
 exact ⟨rfl,U35⟩
 have hl37:=aduW_le ((way_rd w17 (by omega) (by omega)).rngs).1 hX21
 refine L0<|Oc<|e2 (adu_write_s (way_rd w17 (by omega) (by omega)) way_few (by omega) (by omega) hX21) fun v39 w38 ho40 hu41=>?_
 obtain ⟨A42,cp43,rfl,rd45,hg46⟩:=NewB.shape ho40
 refine Pl 5<|ng<|Pl 1<|?_
 have r47:=ub hu41 B18
 refine L0<|Olw r47<|L0<|Oc<|m1 (adu_write_n (way_rd w38 (by omega) (by omega)) way_few (by omega) (by omega) z1) fun w48 hu49=>Pl 5<|ng<|Pl 1<|L0<|Oc<|m1 (pub7_any (x:=c)) fun w50 hu51=>Pl 1<|nt<|sq<|sq<|?_
 refine go<|Pl 5<|cu 3 [53] 56 ((true != (pub7 c))) (fun K K53=>?_) ?_
 refine bl 53 ((true != (pub7 c))) (fun q52=>?_) (fun q52=>?_)
 exact Pl 3<|ce K53 true q52
 exact Pl 3<|ce K53 false q52
 refine nt<|?_
 have U54:=ut0 U23 hu41
 have U55:=ut0 U54 hu49
 have U56:=ut0 U55 hu51
 refine cb ((true != (pub7 c))) (fun q57=>?_) (fun q57=>?_)
 refine sg<|Pl 1<|nt<|rt<|tr<|rr (.bool false)<|?_
 have hs:false=true:=by cases hp:pub7 c; (have z:=z2 hp; rw [hX21] at z; cases z); (exfalso; have q:=q57; rw [hp] at q; simp at q)
 rw [hs]
 exact ⟨rfl,U56⟩
 refine skn<|sq<|sg<|Pl 2<|nt<|c0<|skn<|sg<|Pl 2<|?_
 have U58:=ut0 hu49 hu51
 have r59:=RdB.upd' rd45 U58 safe0
 refine pr (aduP (fr % 3) 0 l20) fun F66 E67 hX68=>?_
 refine L0<|Oc<|e2 (adu_parse_x hX68 r59 (by omega)) fun x60 w61 hx69 hu65=>?_
 obtain ⟨hM62,hF63,hF64⟩:=hx69
 refine Pl 3<|L0<|Oal frmZ fun g70 w71 hg72 B73 hu74=>L0<|Osw B73 (fcl F66.unit F66.tid F66.msg x60) fun w75 B76 hu77=>Pl 1<|ng<|Pl 3<|?_
 have U78:=ut0 hu65 hu74
 have U79:=u1 U78 hu77 (ni hu65.size hg72)
 have r80:=RdB.upd' r59 U79 safe0
 refine pr (aduP (fr % 3) dir l20) fun F87 E88 hX89=>?_
 refine L0<|Oc<|e2 (adu_parse_x hX89 r80 (by omega)) fun x81 w82 hx90 hu86=>?_
 obtain ⟨hM83,hF84,hF85⟩:=hx90
 refine Pl 3<|L0<|Oal frmZ fun g91 w92 hg93 B94 hu95=>L0<|Osw B94 (fcl F87.unit F87.tid F87.msg x81) fun w96 B97 hu98=>Pl 1<|ng<|Pl 6<|cu 10 [83] 93 (((E67 == 4) && ((E88 == 1) == ((dir != 0) && (dir != 1))))) (fun K K100=>?_) ?_
 refine bl 83 ((E67 == 4)) (fun q99=>?_) (fun q99=>?_)
 have q99p:=eq_of_beqi q99
 refine Pl 5<|cu 3 [88] 91 (((dir != 0) && (dir != 1))) (fun K K102=>?_) ?_
 refine bl 88 ((dir != 0)) (fun q101=>?_) (fun q101=>?_)
 have q101p:=ne_of_bnei q101
 exact Pl 3<|ce K102 (dir != 1) (by rw [q101]; rfl)
 have q101p:=eq_of_bnei q101
 exact Pl 3<|ce K102 false (by rw [q101]; rfl)
 exact Pl 2<|ce K100 ((E88 == 1) == ((dir != 0) && (dir != 1))) (by rw [q99]; rfl)
 have q99p:=ne_of_beqi q99
 exact Pl 10<|ce K100 false (by rw [q99]; rfl)
 refine Pl 1<|nt<|rt<|rr (.bool ((E67 == 4) && ((E88 == 1) == ((dir != 0) && (dir != 1)))))<|?_
 have hs:((E67 == 4) && ((E88 == 1) == ((dir != 0) && (dir != 1))))=true:=by have hp:pub7 c=true:=(by cases hp:pub7 c; (have z:=z2 hp; rw [hX21] at z; cases z); rfl); have y1:=(adu_ways2 hu hc (by omega) hp hX21 _ _ hX68).1 rfl; have y2:=(adu_ways2 hu hc (by omega) hp hX21 _ _ hX89).2; rw [y1,y2]; simp
 rw [hs]
 have U103:=ut0 U56 hu65
 have U104:=ut0 U103 hu74
 have U105:=u1 U104 hu77 (ni U103.size hg72)
 have U106:=ut0 U105 hu86
 have U107:=ut0 U106 hu95
 have U108:=u1 U107 hu98 (ni U106.size hg93)
 exact ⟨rfl,U108⟩
end Go.Proofs.YtpglhicfhppaiaaGreat
namespace Go.Proofs.YtpglhicfhppaiaaGreat
open Go.ChangeShapes Go.WideShapes Go.ChangeAt Go.RowKit
theorem own:ownKnob Tryz.prog.godebug=none:=by kernel_rfl
theorem laidOut:laidOutB Tryz.prog=true:=by kernel_rfl
set_option maxRecDepth 100000 in
theorem lifted (os:Os) (started:os.Started) (H:Type) (enc:TypeId × Value→H) :
    ReturnsInHanded {} Tryz.checked os 6 .any (Rows.aduWaysSpec.pre6 enc Tryz.prog Tryz.f6 Rows.aduWaysRow.domain false) (Rows.aduWaysSpec.post enc Tryz.prog Tryz.f6 false true false false):=by
  refine returnsInHanded_of_change (C:=Tryz.checked) own started (by kernel_rfl) Tryz.func6
    (ChangeSpec.witness6 (enc:=enc) (C:=Tryz.checked) false ⟨#[],#[.int .u8 0,.int .u8 0,.int .u8 0,.int .u8 0,.int .i64 0],[]⟩ 8 (by kernel_rfl) (by kernel_rfl) (by kernel_rfl) (by kernel_rfl)) ?_
  intro W base args ds gs before hval0 hW hcnd _
  have hval:∀ (j:Nat) t v,Tryz.f6.params[j]? = some t→args[j]? = some v→Value.okWide Tryz.prog W .any base t v:=hval0
  have hW':=hW
  obtain ⟨p,q,hA0,hV,rfl,hfz,hnd⟩:=hW
  have hA:DataW.TrodAll enc Tryz.prog W 0 (fun _=>true) true Tryz.f6.params.toList args.toList ds p:=hA0
  rw [Tryz.params6] at hA hval
  obtain ⟨v0,vs0,d0,ds0,p0,q0,hargs,rfl,rfl,h0,r0⟩:=trodAll_cons hA
  obtain ⟨v1,vs1,d1,ds1,p1,q1,rfl,rfl,rfl,h1,r1⟩:=trodAll_cons r0
  obtain ⟨v2,vs2,d2,ds2,p2,q2,rfl,rfl,rfl,h2,r2⟩:=trodAll_cons r1
  obtain ⟨v3,vs3,d3,ds3,p3,q3,rfl,rfl,rfl,h3,r3⟩:=trodAll_cons r2
  obtain ⟨v4,vs4,d4,ds4,p4,q4,rfl,rfl,rfl,h4,r4⟩:=trodAll_cons r3
  obtain ⟨rfl,rfl,rfl⟩:=trodAll_nil r4
  obtain rfl:args = #[v0,v1,v2,v3,v4]:=by cases args; simp_all
  obtain ⟨rfl,rfl⟩:=trodVars_none hV
  obtain ⟨a0,rfl,rfl,rfl,w0⟩:=open_int Tryz.underlying5 (hval 0 5 v0 rfl rfl) h0
  have b0:=bounds_u8 w0
  obtain ⟨a1,rfl,rfl,rfl,w1⟩:=open_int Tryz.underlying5 (hval 1 5 v1 rfl rfl) h1
  have b1:=bounds_u8 w1
  obtain ⟨a2,rfl,rfl,rfl,w2⟩:=open_int Tryz.underlying5 (hval 2 5 v2 rfl rfl) h2
  have b2:=bounds_u8 w2
  obtain ⟨a3,rfl,rfl,rfl,w3⟩:=open_int Tryz.underlying5 (hval 3 5 v3 rfl rfl) h3
  have b3:=bounds_u8 w3
  obtain ⟨a4,rfl,rfl,rfl,w4⟩:=open_int Tryz.underlying3 (hval 4 3 v4 rfl rfl) h4
  have b4:=bounds_i64 w4
  clear hA0 hval0
  refine (lawAduWays (by omega) (by omega) (by omega) (by omega)).mono fun e W' ⟨he,hu⟩=>?_
  have bel:=upd_below hu
  subst he
  exact ⟨_,rfl,_,_,_,[],_,[],hW',trodAll_mk1 (shut_bool Tryz.underlying4 _),(trodAll_cons_mk (shut_int Tryz.underlying5 w0) (trodAll_cons_mk (shut_int Tryz.underlying5 w1) (trodAll_cons_mk (shut_int Tryz.underlying5 w2) (trodAll_cons_mk (shut_int Tryz.underlying5 w3) (trodAll_cons_mk (shut_int Tryz.underlying3 w4) trodAll_mk0))))),rfl,bel.frame _,fun h=>by cases h⟩
theorem over:Rows.aduWaysRow.holds Tryz.pinned (OpenSpec.ofChange Rows.aduWaysSpec) :=
  OpenClaim.holds_of_wide 6 Tryz.f6 rfl rfl rfl rfl rfl rfl rfl ⟨rfl,rfl,rfl,rfl,rfl⟩ rfl rfl rfl rfl rfl (by kernel_rfl) Tryz.func6 (by kernel_rfl)
    (of_decide_eq_true (by kernel_rfl)) (by unfold Func.isWrapper; first | (rw [if_pos (by decide +kernel)]; kernel_rfl) | (rw [if_neg (by decide +kernel)]; exact ⟨rfl,rfl⟩))
    (fun os started H enc _=>lifted os started H enc)
theorem proved:Rows.AduWaysSaid:=over
#print axioms proved
end Go.Proofs.YtpglhicfhppaiaaGreat
