/- Contracts of functions, part KB2. -/
import Derived.Test.YtpglhicfhppaiaaGreatKA1
import Derived.Test.YtpglhicfhppaiaaGreatKA2
import Derived.Test.YtpglhicfhppaiaaGreatKA3
import Derived.Test.YtpglhicfhppaiaaGreatKA4
import Derived.Test.YtpglhicfhppaiaaGreatKA5
import Derived.Test.YtpglhicfhppaiaaGreatKB1
set_option linter.unusedVariables false
set_option linter.unusedSimpArgs false
namespace Go.Proofs.YtpglhicfhppaiaaGreat
open Go.RowKit
theorem NewB.shape {base:Nat} {w:World} {v:Value} {xs:List Int} (h:NewB base w v xs) : ∃ A cp,v = .slice A xs.length cp∧RdB true w (.slice A xs.length cp) xs∧∀ x,x∈ob A→base≤x:=by
  obtain ⟨h1,A,n,c,rfl,h2⟩:=h
  obtain ⟨A',c',e,_,_⟩:=h1.shape
  injection e with e1 e2 e3
  subst e1 e2 e3
  exact ⟨A,c,rfl,h1,h2⟩
def TR (res:Option (List Int)) (base:Nat) (w:World) (v:Value) : Prop:=match res with
  | some l=>NewB base w v l
  | none=>v = .slice none 0 0
def PT (res:Option (List Int) × Int) (w:World) (e:Ending) (w':World) : Prop:=∃ v,e = .returned (.tuple #[v,.int .i64 res.2])∧TR res.1 w.heap.size w' v∧Upd [] w w'
set_option maxRecDepth 100000 in
set_option maxHeartbeats 4000000 in
theorem adu_turn0 {m:Bool} {A:Option Addr} {cp:Nat} {b:List Int} {w:World} {a c dir:Int} (hsl:RdB m w (.slice A b.length cp) b) (hb:b.length≤1048576) : Calls Tryz.prog 19 #[.int .i64 a,.int .i64 c,.int .i64 dir,.slice A b.length cp] w (PT (aduT a c dir b) w):=by
 refine en 40 Tryz.func19 rfl<|sg<|Pl 2<|nt<|sq<|sg<|Pl 1<|L0<|Oc<|m1 (adu_most (k:=a)) fun w10 hu11=>Pl 2<|bl 15 (((aduM a) == 0)) (fun q12=>?_) (fun q12=>?_)
 have q12p:=eq_of_beqi q12
 refine Pl 4<|nt<|c1<|sg<|Pl 2<|nt<|rt<|tr<|rr (.tuple #[.slice none 0 0,.int .i64 1])<|?_
 have hs:aduT a c dir b=(none,1):=by
   unfold aduT
   simp only [q12,Bool.true_or,Bool.or_true,Bool.or_self,cond_true,cond_false]
 rw [hs]
 exact ⟨_,rfl,rfl,hu11⟩
 have q12p:=ne_of_beqi q12
 refine Pl 1<|L1<|Oc<|m1 (adu_most (k:=c)) fun w13 hu14=>Pl 2<|nt<|?_
 have U15:=ut0 hu11 hu14
 refine cb (((aduM c) == 0)) (fun q16=>?_) (fun q16=>?_)
 have q16p:=eq_of_beqi q16
 refine sg<|Pl 2<|nt<|rt<|tr<|rr (.tuple #[.slice none 0 0,.int .i64 1])<|?_
 have hs:aduT a c dir b=(none,1):=by
   unfold aduT
   simp only [q12,q16,Bool.true_or,Bool.or_true,Bool.or_self,cond_true,cond_false]
 rw [hs]
 exact ⟨_,rfl,rfl,U15⟩
 have q16p:=ne_of_beqi q16
 refine skn<|sg<|Pl 3<|?_
 have r17:=RdB.old hsl U15
 refine pr (aduP a dir b) fun F24 E25 hX26=>?_
 refine L0<|Oc<|e2 (adu_parse_x hX26 r17 (by omega)) fun x18 w19 hx27 hu23=>?_
 obtain ⟨hM20,hF21,hF22⟩:=hx27
 refine Pl 3<|L0<|Oal frmZ fun g28 w29 hg30 B31 hu32=>L0<|Osw B31 (fcl F24.unit F24.tid F24.msg x18) fun w33 B34 hu35=>Pl 1<|nt<|sq<|sg<|Pl 2<|nt<|?_
 have U36:=ut0 U15 hu23
 have U37:=ut0 U36 hu32
 have U38:=u1 U37 hu35 (ni U36.size hg30)
 refine cb ((E25 != 0)) (fun q39=>?_) (fun q39=>?_)
 have q39p:=ne_of_bnei q39
 refine sg<|Pl 3<|nt<|rt<|tr<|rr (.tuple #[.slice none 0 0,.int .i64 E25])<|?_
 have hs:aduT a c dir b=(none,E25):=by
   unfold aduT
   rw [hX26]
   simp only [q12,q16,q39,Bool.true_or,Bool.or_true,Bool.or_self,cond_true,cond_false]
 rw [hs]
 exact ⟨_,rfl,rfl,U38⟩
 have q39p:=eq_of_bnei q39
 refine skn<|sq<|sg<|Pl 2<|nt<|cb ((c != 2)) (fun q40=>?_) (fun q40=>?_)
 have q40p:=ne_of_bnei q40
 refine go<|Pl 2<|L0<|Ost B34 1 (fcl F24.unit 0 F24.msg x18) fun w41 B42 hu43=>ng<|Pl 2<|L0<|Olw B42<|?_
 have U44:=u1 hu32 hu35 (nr hg30)
 have U45:=u1 U44 hu43 (nr hg30)
 have r46:=MsgRd.upd hM20 U45 safe0
 have U49:=u1 U38 hu43 (ni U36.size hg30)
 refine wo (aduW c dir F24.unit 0 F24.msg) (fun hX48=>?_) (fun l47 hX48=>?_)
 refine L0<|Oc (args:=#[.int .i64 c,.int .i64 dir,.agg (fcl F24.unit 0 F24.msg x18)])<|m1 (adu_write_n r46 (aduP_few (RdB.range hsl) hX26).1 (by omega) (by omega) hX48) fun w50 hu51=>Pl 4<|nt<|rt<|rr (.tuple #[.slice none 0 0,.int .i64 1])<|?_
 have hs:aduT a c dir b=(none,1):=by
   unfold aduT
   rw [hX26]
   simp only [q12,q16,q39,q40,Bool.true_or,Bool.or_true,Bool.or_self,cond_true,cond_false]
   rw [hX48]
 rw [hs]
 have U52:=ut0 U49 hu51
 exact ⟨_,rfl,rfl,U52⟩
 have hl53:=aduW_le (r46.rngs).1 hX48
 refine L0<|Oc (args:=#[.int .i64 c,.int .i64 dir,.agg (fcl F24.unit 0 F24.msg x18)])<|e2 (adu_write_s r46 (aduP_few (RdB.range hsl) hX26).1 (by omega) (by omega) hX48) fun v55 w54 ho56 hu57=>?_
 obtain ⟨A58,cp59,rfl,rd61,hg62⟩:=NewB.shape ho56
 refine Pl 4<|nt<|rt<|rr (.tuple #[.slice A58 l47.length cp59,.int .i64 0])<|?_
 have hs:aduT a c dir b=(some l47,0):=by
   unfold aduT
   rw [hX26]
   simp only [q12,q16,q39,q40,Bool.true_or,Bool.or_true,Bool.or_self,cond_true,cond_false]
   rw [hX48]
 rw [hs]
 have U63:=ut0 U49 hu57
 exact ⟨_,rfl,(show NewB _ _ _ _ from ⟨rd61,_,_,_,rfl,fun x hx=>Nat.le_trans U49.size (hg62 x hx)⟩),U63⟩
 have q40p:=eq_of_bnei q40
 refine skn<|sg<|Pl 2<|L0<|Olw B34<|?_
 have U64:=u1 hu32 hu35 (nr hg30)
 have r65:=MsgRd.upd hM20 U64 safe0
 refine wo (aduW c dir F24.unit F24.tid F24.msg) (fun hX67=>?_) (fun l66 hX67=>?_)
 refine L0<|Oc (args:=#[.int .i64 c,.int .i64 dir,.agg (fcl F24.unit F24.tid F24.msg x18)])<|m1 (adu_write_n r65 (aduP_few (RdB.range hsl) hX26).1 (by omega) (by omega) hX67) fun w68 hu69=>Pl 4<|nt<|rt<|rr (.tuple #[.slice none 0 0,.int .i64 1])<|?_
 have hs:aduT a c dir b=(none,1):=by
   unfold aduT
   rw [hX26]
   simp only [q12,q16,q39,q40,Bool.true_or,Bool.or_true,Bool.or_self,cond_true,cond_false]
   rw [hX67]
 rw [hs]
 have U70:=ut0 U38 hu69
 exact ⟨_,rfl,rfl,U70⟩
 have hl71:=aduW_le (r65.rngs).1 hX67
 refine L0<|Oc (args:=#[.int .i64 c,.int .i64 dir,.agg (fcl F24.unit F24.tid F24.msg x18)])<|e2 (adu_write_s r65 (aduP_few (RdB.range hsl) hX26).1 (by omega) (by omega) hX67) fun v73 w72 ho74 hu75=>?_
 obtain ⟨A76,cp77,rfl,rd79,hg80⟩:=NewB.shape ho74
 refine Pl 4<|nt<|rt<|rr (.tuple #[.slice A76 l66.length cp77,.int .i64 0])<|?_
 have hs:aduT a c dir b=(some l66,0):=by
   unfold aduT
   rw [hX26]
   simp only [q12,q16,q39,q40,Bool.true_or,Bool.or_true,Bool.or_self,cond_true,cond_false]
   rw [hX67]
 rw [hs]
 have U81:=ut0 U38 hu75
 exact ⟨_,rfl,(show NewB _ _ _ _ from ⟨rd79,_,_,_,rfl,fun x hx=>Nat.le_trans U38.size (hg80 x hx)⟩),U81⟩
theorem adu_turn {m:Bool} {v:Value} {b:List Int} {w:World} {a c dir:Int} (h:RdB m w v b) (hb:b.length≤1048576) : Calls Tryz.prog 19 #[.int .i64 a,.int .i64 c,.int .i64 dir,v] w (PT (aduT a c dir b) w):=by
  obtain ⟨A,cp,rfl,_,_⟩:=h.shape
  exact adu_turn0 h hb
theorem adu_turn_s {m:Bool} {v:Value} {b l:List Int} {w:World} {a c dir E:Int} (h:RdB m w v b) (hb:b.length≤1048576) (hX:aduT a c dir b=(some l,E)) : Calls Tryz.prog 19 #[.int .i64 a,.int .i64 c,.int .i64 dir,v] w (fun e w'=>∃ v,e = .returned (.tuple #[v,.int .i64 E])∧NewB w.heap.size w' v l∧Upd [] w w'):=by
  have k:=adu_turn (a:=a) (c:=c) (dir:=dir) h hb
  rw [hX] at k
  exact k
open Go.RowKit
section
variable {H:Type} {enc:TypeId × Value→H} {w:World} {base:Nat} {spare:Nat→Bool} {held:Bool} {n:Nat} {y:DataW H × List MemPlace}
theorem head_open {cs:List Value} (h:DataW.trod enc Tryz.prog w base spare held n 24 cs=some y) : ∃ u t,cs=[.int .u8 u,.int .u16 t]∧(0≤u∧u < 256)∧(0≤t∧t < 65536):=by
  obtain ⟨xs,m,rfl,_,hlen,hxs,hf⟩:=DataW.trod_struct Tryz.underlying24 h
  rw [show Tryz.prog.cellsOf 24=2 from by kernel_rfl] at hlen
  replace hxs:xs.length=2:=hxs.trans (by kernel_rfl)
  obtain ⟨y0,g0⟩ : ∃ y,xs[0]? = some y:=⟨_,List.getElem?_eq_getElem (show 0 < xs.length by omega)⟩
  have f0:DataW.trod enc Tryz.prog w base spare held m 5 ((cs.drop 0).take (Tryz.prog.cellsOf 5))=xs[0]?:=hf 0 _ rfl
  rw [g0] at f0
  rw [show Tryz.prog.cellsOf 5=1 from by kernel_rfl] at f0
  obtain ⟨x0,e0,r0⟩:=el_u8 f0
  obtain ⟨y1,g1⟩ : ∃ y,xs[1]? = some y:=⟨_,List.getElem?_eq_getElem (show 1 < xs.length by omega)⟩
  have f1:DataW.trod enc Tryz.prog w base spare held m 22 ((cs.drop 1).take (Tryz.prog.cellsOf 22))=xs[1]?:=hf 1 _ rfl
  rw [g1] at f1
  rw [show Tryz.prog.cellsOf 22=1 from by kernel_rfl] at f1
  obtain ⟨x1,e1,r1⟩:=el_u16 f1
  have hcs:cs=[.int .u8 x0,.int .u16 x1]:=by
    show cs.drop 0=_
    rw [peel e0,peel e1,drop_all hlen]
  exact ⟨x0,x1,hcs,r0,r1⟩
set_option maxRecDepth 20000 in
theorem frm_open {cs:List Value} (h:DataW.trod enc Tryz.prog w base spare held n 33 cs=some y) : ∃ u t M c,cs=[.int .u8 u,.int .u16 t]++c∧MsgRd false w c M∧(0≤u∧u < 256)∧(0≤t∧t < 65536):=by
  obtain ⟨xs,m,rfl,_,hlen,hxs,hf⟩:=DataW.trod_struct Tryz.underlying33 h
  rw [show Tryz.prog.cellsOf 33=24 from by kernel_rfl] at hlen
  replace hxs:xs.length=2:=hxs.trans (by kernel_rfl)
  obtain ⟨y0,g0⟩ : ∃ y,xs[0]? = some y:=⟨_,List.getElem?_eq_getElem (show 0 < xs.length by omega)⟩
  have f0:DataW.trod enc Tryz.prog w base spare held m 24 ((cs.drop 0).take (Tryz.prog.cellsOf 24))=xs[0]?:=hf 0 _ rfl
  rw [g0] at f0
  rw [show Tryz.prog.cellsOf 24=2 from by kernel_rfl] at f0
  obtain ⟨u,t,e0,hu,ht⟩:=head_open f0
  obtain ⟨y1,g1⟩ : ∃ y,xs[1]? = some y:=⟨_,List.getElem?_eq_getElem (show 1 < xs.length by omega)⟩
  have f1:DataW.trod enc Tryz.prog w base spare held m 31 ((cs.drop 2).take (Tryz.prog.cellsOf 31))=xs[1]?:=hf 1 _ rfl
  rw [g1] at f1
  rw [show Tryz.prog.cellsOf 31=22 from by kernel_rfl] at f1
  obtain ⟨M,hM⟩:=msg_open f1
  refine ⟨u,t,M,(cs.drop 2).take 22,?_,hM,hu,ht⟩
  rw [← e0,List.take_of_length_le (show (cs.drop 2).length≤22 by rw [List.length_drop]; omega)]
  exact (List.take_append_drop 2 cs).symm
set_option maxRecDepth 20000 in
open Go.WideShapes in
theorem frm_arg {v:Value} {d:DataW H} {p:List MemPlace} (hv:∃ b0,Value.okWide Tryz.prog w .any b0 33 v) (h:DataW.Trod enc Tryz.prog w base spare held 33 v d p) : ∃ u t M x,v = .agg (fcl u t M x)∧MsgRd false w (mcl M x).toList M∧(0≤u∧u < 256)∧(0≤t∧t < 65536):=by
  obtain ⟨b0,hv⟩:=hv
  obtain ⟨cs,rfl,hsz⟩:=okWide_struct Tryz.underlying33 hv
  obtain ⟨fuel,hf⟩:=h
  obtain ⟨u,t,M,c,e0,hM,hu,ht⟩:=frm_open hf
  obtain ⟨x,hx⟩:=mcl_of (cs:=c.toArray) (by simpa using hM)
  refine ⟨u,t,M,x,?_,?_,hu,ht⟩
  · rw [fcl_eq,← hx]
    congr 1
    apply Array.toList_inj.1
    rw [show cs.toList=_ from e0]
    simp
  · rw [← hx]
    simpa using hM
end
open Go.RowKit
def awM7:Msg:={ Msg.zero with code:=7 }
open Go.RowKit
theorem aw18t:aduT 0 2 0 [1,7,65,226]=(some [0,0,0,0,0,2,1,7],0):=by decide +kernel
theorem aw18p:aduP 2 0 [0,0,0,0,0,2,1,7]=(⟨1,0,awM7⟩,0):=by decide +kernel
set_option maxRecDepth 100000 in
set_option maxHeartbeats 4000000 in
theorem awake18 {w:World}:Calls Tryz.prog 16 #[] w (PVal (.bool true) w):=by
 refine en 42 Tryz.func16 rfl<|sg<|Pl 1<|ng<|L0<|Olt (m:=4) (e:=5) #[.int .u8 1,.int .u8 7,.int .u8 65,.int .u8 226] fun g10 w11 hg12 B13 hu14=>?_
 have ow15:=litB hg12 (xs:=[1,7,65,226]) (by as_aux_lemma=>kernel_rfl) (rng_cons (by omega) (rng_cons (by omega) (rng_cons (by omega) (rng_cons (by omega) rng_nil)))) (by (try simp only [List.length_cons,List.length_nil]); omega) B13
 refine L0<|Oc<|e2 (adu_turn_s (ow15).rd (by decide) aw18t) fun v17 w16 ho18 hu19=>?_
 obtain ⟨A20,cp21,rfl,rd23,hg24⟩:=NewB.shape ho18
 refine Pl 5<|ng<|Pl 1<|L0<|Oc<|e2 (adu_parse_x aw18p rd23 (by decide)) fun x25 w26 hx31 hu30=>?_
 obtain ⟨hM27,hF28,hF29⟩:=hx31
 refine Pl 3<|L0<|Oal frmZ fun g32 w33 hg34 B35 hu36=>L0<|Osw B35 #[.int .u8 1,.int .u16 0,.int .u8 7,.int .u8 0,.int .u16 0,.int .u16 0,.int .u16 0,.int .u16 0,.int .u16 0,.int .u16 0,.int .u16 0,.int .u16 0,.int .u16 0,.int .u16 0,.slice x25.aw awM7.words.length x25.kw,.slice x25.ab awM7.bits.length x25.kb,.slice x25.ad awM7.data.length x25.kd,.slice x25.ar awM7.recs.length x25.kr,.int .u8 0,.int .u8 0,.int .u8 0,.int .u8 0,.int .u8 0,.slice x25.ao awM7.objects.length x25.ko] fun w37 B38 hu39=>Pl 1<|ng<|Pl 8<|?_
 have U40:=ut0 hu30 hu36
 have U41:=u1 U40 hu39 (ni hu30.size hg34)
 have r42:=RdB.upd' rd23 U41 safe0
 refine L1<|Or_ (.string (strOfNums ([0,0,0,0,0,2,1,7]))) (run_convB (A:=A20) (n:=([0,0,0,0,0,2,1,7]).length) (c:=cp21) rfl (by kernel_rfl) Tryz.underlying27 Tryz.underlying5 Tryz.underlying9 r42)<|L1<|Or_ (.bool true) (run_strq (a:=(strOfNums ([0,0,0,0,0,2,1,7]))) (b:=⟨#[0,0,0,0,0,2,1,7]⟩) rfl (by kernel_rfl) (by kernel_rfl) (str_lit rfl (by decide)))<|Pl 4<|L1<|Olb B38 0<|Pl 5<|L1<|Olb B38 2<|Pl 3<|L1<|Oc<|m1 (adu_most (k:=1)) fun w43 hu44=>Pl 3<|nt<|rt<|rr (.bool true)<|?_
 have U45:=ut0 hu14 hu19
 have U46:=ut0 U45 hu30
 have U47:=ut0 U46 hu36
 have U48:=u1 U47 hu39 (ni U46.size hg34)
 have U49:=ut0 U48 hu44
 exact ⟨rfl,U49⟩
end Go.Proofs.YtpglhicfhppaiaaGreat
