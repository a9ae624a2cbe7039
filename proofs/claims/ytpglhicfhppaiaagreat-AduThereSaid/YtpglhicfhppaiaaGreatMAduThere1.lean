/- The statement AduThere holds; no condition of its own. -/
import Derived.Test.YtpglhicfhppaiaaGreatKA1
import Derived.Test.YtpglhicfhppaiaaGreatKA2
import Derived.Test.YtpglhicfhppaiaaGreatKA3
import Derived.Test.YtpglhicfhppaiaaGreatKA4
import Derived.Test.YtpglhicfhppaiaaGreatKA5
import Derived.Test.YtpglhicfhppaiaaGreatKB1
import Derived.Test.YtpglhicfhppaiaaGreatKB2
import Derived.Test.YtpglhicfhppaiaaGreatRows
import Derived.WalkKit
import Derived.ProofKit
import Derived.OpenShut
import Derived.ShutString
import Derived.ChangeOld
import Derived.Below
set_option linter.unusedVariables false
set_option linter.unusedSimpArgs false
namespace Go.Proofs.YtpglhicfhppaiaaGreat
open Go.RowKit
set_option maxRecDepth 100000 in
set_option maxHeartbeats 4000000 in
theorem same1_any0 {m m':Bool} {A B:Option Addr} {c d:Nat} {xs ys:List Int} {w:World} (h1:RdB m w (.slice A xs.length c) xs) (h2:RdB m' w (.slice B ys.length d) ys) :
    Calls Tryz.prog 33 #[.slice A xs.length c,.slice B ys.length d] w (PVal (.bool (decide (xs=ys))) w):=by
 refine en 10 Tryz.func33 rfl<|sg<|Pl 1<|ng<|Pl 1<|L0<|Or_ (.string (strOfNums xs)) (run_convB (A:=A) (n:=xs.length) (c:=c) rfl (by kernel_rfl) Tryz.underlying27 Tryz.underlying5 Tryz.underlying9 h1)<|Pl 1<|L0<|Or_ (.string (strOfNums ys)) (run_convB (A:=B) (n:=ys.length) (c:=d) rfl (by kernel_rfl) Tryz.underlying27 Tryz.underlying5 Tryz.underlying9 h2)<|L0<|Or_ (.bool (decide (xs=ys))) (run_strq (a:=(strOfNums xs)) (b:=(strOfNums ys)) rfl (by kernel_rfl) (by kernel_rfl) (str_eq h1 h2))<|Pl 1<|nl<|?_
 refine tn<|rt<|rr (.bool (decide (xs=ys)))<|?_
 exact ⟨rfl,(Upd.refl [] _)⟩
theorem same1_any {m m':Bool} {a b:Value} {xs ys:List Int} {w:World} (h1:RdB m w a xs) (h2:RdB m' w b ys) : Calls Tryz.prog 33 #[a,b] w (PVal (.bool (decide (xs=ys))) w):=by
  obtain ⟨A,c,rfl,_,_⟩:=h1.shape
  obtain ⟨B,d,rfl,_,_⟩:=h2.shape
  exact same1_any0 h1 h2
end Go.Proofs.YtpglhicfhppaiaaGreat
namespace Go.Proofs.YtpglhicfhppaiaaGreat
open Go.RowKit
theorem eq_of_take {α:Type} {xs ys:List α} {k:Nat} (h:xs.take k=ys.take k) (h1:k=xs.length) (h2:xs.length=ys.length) : xs=ys:=by
  rw [List.take_of_length_le (by omega),List.take_of_length_le (by omega)] at h
  exact h
set_option maxRecDepth 100000 in
set_option maxHeartbeats 4000000 in
theorem refWords_any0 {m m':Bool} {A B:Option Addr} {c d:Nat} {xs ys:List Int} {w:World} (h1:RdW m w (.slice A xs.length c) xs) (h2:RdW m' w (.slice B ys.length d) ys) :
    Calls Tryz.prog 42 #[.slice A xs.length c,.slice B ys.length d] w (PVal (.bool (decide (xs=ys))) w):=by
 have hz1:=RdG.len h1
 have hz2:=RdG.len h2
 refine en 26 Tryz.func42 rfl<|sg<|Pl 1<|nt<|sq<|sg<|Pl 5<|nt<|cb ((((xs.length:Nat) : Int) != ((ys.length:Nat) : Int))) (fun q10=>?_) (fun q10=>?_)
 have q10p:=ne_of_bnei q10
 refine sg<|Pl 1<|nt<|rt<|tr<|rr (.bool false)<|?_
 have hs:decide (xs=ys)=false:=decide_eq_false (fun e=>by rw [e] at q10p; omega)
 rw [hs]
 exact ⟨rfl,(Upd.refl [] _)⟩
 have q10p:=eq_of_bnei q10
 refine skn<|sq<|sg<|Pl 1<|nt<|bk<|?_
 refine glp (fun x=>[(0,.slice A xs.length c),(1,.slice B ys.length d),(5,.int .i64 ((x:Nat) : Int))]) (fun (x:Nat) w'=>Upd [] w w'∧(xs.take x=ys.take x)∧(x≤xs.length)) (fun x=>xs.length - x) 0 ⟨Upd.refl _ _,(by (try dsimp only); simp),(by (try dsimp only); omega)⟩ ?_
 rintro k w11 ⟨hu12,p13,p14⟩
 refine wkc [(0,.slice A xs.length c),(1,.slice B ys.length d),(5,.int .i64 ((k:Nat) : Int))] ?_
 have p16:xs.take k=ys.take k:=p13
 have p17:k≤xs.length:=p14
 refine sq<|sg<|Pl 4<|nt<|cb ((decide (((k:Nat) : Int) < ((xs.length:Nat) : Int)))) (fun q18=>?_) (fun q18=>?_)
 have q18p:=of_decide_eq_true q18
 refine skn<|sq<|bk<|sq<|?_
 have r31:=RdW.old h1 hu12
 refine x23 (RdW.at_ r31 k (by omega)) fun b32 o33 hA34 hl35 hr36=>?_
 have r37:=RdW.old h2 hu12
 refine x23 (RdW.at_ r37 k (by omega)) fun b38 o39 hA40 hl41 hr42=>Rg 9 (fun w'=>w'.cell? ⟨b32,o33 + k,none⟩=some (.int .u16 (xs.getD k 0))∧w'.cell? ⟨b38,o39 + k,none⟩=some (.int .u16 (ys.getD k 0))) fun w43 hu44=>hld ⟨(uc hu44 hl35),(uc hu44 hl41)⟩ fun hS45=>Rt 0 hS45<|Rt 1 hS45<|Ri1 2 hS45 xs.length k ((k:Nat) : Int) rfl hA34 (by omega)<|Rl 3 hS45 (fun _ hs=>hs.1)<|Rt 4 hS45<|Rt 5 hS45<|Ri1 6 hS45 ys.length k ((k:Nat) : Int) rfl hA40 (by omega)<|Rl 7 hS45 (fun _ hs=>hs.2)<|Rt 8 hS45<|re<|tn<|?_
 have U46:=ut0 hu12 hu44
 refine cb (((xs.getD k 0) != (ys.getD k 0))) (fun q47=>?_) (fun q47=>?_)
 have q47p:=ne_of_bnei q47
 refine sg<|Pl 1<|nt<|rt<|br<|tr<|tr<|br<|tr<|rr (.bool false)<|?_
 have hs:decide (xs=ys)=false:=decide_eq_false (eqNo (d:=0) k (by simpa using q47))
 rw [hs]
 exact ⟨rfl,U46⟩
 have q47p:=eq_of_bnei q47
 exact sk<|bn<|tn<|go<|Pl 1<|L0<|Oi (((k:Nat) : Int) + 1)<|Pl 1<|nl<|lpe (k + 1) ⟨U46,(eqPre (d:=0) (by omega) (by omega) p16 q47p),(by (try dsimp only); omega)⟩ (by omega)
 have q18p:=of_decide_eq_false q18
 refine xt<|tx<|tx<|bx<|tn<|sg<|Pl 1<|nt<|rt<|rr (.bool true)<|?_
 have hs:decide (xs=ys)=true:=decide_eq_true (eq_of_take p16 (by omega) (by omega))
 rw [hs]
 exact ⟨rfl,hu12⟩
theorem refWords_any {m m':Bool} {a b:Value} {xs ys:List Int} {w:World} (h1:RdW m w a xs) (h2:RdW m' w b ys) : Calls Tryz.prog 42 #[a,b] w (PVal (.bool (decide (xs=ys))) w):=by
  obtain ⟨A,c,rfl,_,_⟩:=h1.shape
  obtain ⟨B,d,rfl,_,_⟩:=h2.shape
  exact refWords_any0 h1 h2
set_option maxRecDepth 100000 in
set_option maxHeartbeats 4000000 in
theorem refBools_any0 {m m':Bool} {A B:Option Addr} {c d:Nat} {xs ys:List Bool} {w:World} (h1:RdL m w (.slice A xs.length c) xs) (h2:RdL m' w (.slice B ys.length d) ys) :
    Calls Tryz.prog 43 #[.slice A xs.length c,.slice B ys.length d] w (PVal (.bool (decide (xs=ys))) w):=by
 have hz1:=RdG.len h1
 have hz2:=RdG.len h2
 refine en 26 Tryz.func43 rfl<|sg<|Pl 1<|nt<|sq<|sg<|Pl 5<|nt<|cb ((((xs.length:Nat) : Int) != ((ys.length:Nat) : Int))) (fun q10=>?_) (fun q10=>?_)
 have q10p:=ne_of_bnei q10
 refine sg<|Pl 1<|nt<|rt<|tr<|rr (.bool false)<|?_
 have hs:decide (xs=ys)=false:=decide_eq_false (fun e=>by rw [e] at q10p; omega)
 rw [hs]
 exact ⟨rfl,(Upd.refl [] _)⟩
 have q10p:=eq_of_bnei q10
 refine skn<|sq<|sg<|Pl 1<|nt<|bk<|?_
 refine glp (fun x=>[(0,.slice A xs.length c),(1,.slice B ys.length d),(5,.int .i64 ((x:Nat) : Int))]) (fun (x:Nat) w'=>Upd [] w w'∧(xs.take x=ys.take x)∧(x≤xs.length)) (fun x=>xs.length - x) 0 ⟨Upd.refl _ _,(by (try dsimp only); simp),(by (try dsimp only); omega)⟩ ?_
 rintro k w11 ⟨hu12,p13,p14⟩
 refine wkc [(0,.slice A xs.length c),(1,.slice B ys.length d),(5,.int .i64 ((k:Nat) : Int))] ?_
 have p16:xs.take k=ys.take k:=p13
 have p17:k≤xs.length:=p14
 refine sq<|sg<|Pl 4<|nt<|cb ((decide (((k:Nat) : Int) < ((xs.length:Nat) : Int)))) (fun q18=>?_) (fun q18=>?_)
 have q18p:=of_decide_eq_true q18
 refine skn<|sq<|bk<|sq<|?_
 have r31:=RdL.old h1 hu12
 refine x22 (RdL.at_ r31 k (by omega)) fun b32 o33 hA34 hl35=>?_
 have r37:=RdL.old h2 hu12
 refine x22 (RdL.at_ r37 k (by omega)) fun b38 o39 hA40 hl41=>Rg 9 (fun w'=>w'.cell? ⟨b32,o33 + k,none⟩=some (.bool (xs.getD k false))∧w'.cell? ⟨b38,o39 + k,none⟩=some (.bool (ys.getD k false))) fun w43 hu44=>hld ⟨(uc hu44 hl35),(uc hu44 hl41)⟩ fun hS45=>Rt 0 hS45<|Rt 1 hS45<|Ri1 2 hS45 xs.length k ((k:Nat) : Int) rfl hA34 (by omega)<|Rl 3 hS45 (fun _ hs=>hs.1)<|Rt 4 hS45<|Rt 5 hS45<|Ri1 6 hS45 ys.length k ((k:Nat) : Int) rfl hA40 (by omega)<|Rl 7 hS45 (fun _ hs=>hs.2)<|Rt 8 hS45<|re<|tn<|?_
 have U46:=ut0 hu12 hu44
 refine cb (((xs.getD k false) != (ys.getD k false))) (fun q47=>?_) (fun q47=>?_)
 refine sg<|Pl 1<|nt<|rt<|br<|tr<|tr<|br<|tr<|rr (.bool false)<|?_
 have hs:decide (xs=ys)=false:=decide_eq_false (eqNo (d:=false) k (by simpa using q47))
 rw [hs]
 exact ⟨rfl,U46⟩
 exact sk<|bn<|tn<|go<|Pl 1<|L0<|Oi (((k:Nat) : Int) + 1)<|Pl 1<|nl<|lpe (k + 1) ⟨U46,(eqPre (d:=false) (by omega) (by omega) p16 (by simpa using q47)),(by (try dsimp only); omega)⟩ (by omega)
 have q18p:=of_decide_eq_false q18
 refine xt<|tx<|tx<|bx<|tn<|sg<|Pl 1<|nt<|rt<|rr (.bool true)<|?_
 have hs:decide (xs=ys)=true:=decide_eq_true (eq_of_take p16 (by omega) (by omega))
 rw [hs]
 exact ⟨rfl,hu12⟩
theorem refBools_any {m m':Bool} {a b:Value} {xs ys:List Bool} {w:World} (h1:RdL m w a xs) (h2:RdL m' w b ys) : Calls Tryz.prog 43 #[a,b] w (PVal (.bool (decide (xs=ys))) w):=by
  obtain ⟨A,c,rfl,_,_⟩:=h1.shape
  obtain ⟨B,d,rfl,_,_⟩:=h2.shape
  exact refBools_any0 h1 h2
end Go.Proofs.YtpglhicfhppaiaaGreat
namespace Go.Proofs.YtpglhicfhppaiaaGreat
open Go.RowKit
theorem take_eq {α:Type} {xs ys:List α} {d:α} {k:Nat} (h:xs.take k=ys.take k) (hk:k < xs.length) (hl:xs.length=ys.length) (he:xs.getD k d=ys.getD k d) : xs.take (k + 1)=ys.take (k + 1):=by
  have hk2:k < ys.length:=by omega
  rw [List.take_succ_eq_append_getElem hk,List.take_succ_eq_append_getElem hk2,h]
  rw [List.getD_eq_getElem?_getD,List.getElem?_eq_getElem hk,List.getD_eq_getElem?_getD,List.getElem?_eq_getElem (by omega)] at he
  simp only [Option.getD_some] at he
  rw [he]
theorem rec_eq {a b:Rec} (h:((((!(decide (a.words=b.words))) || (a.file != b.file)) || (a.record != b.record)) || (a.count != b.count))=false) : a=b:=by
  cases a
  cases b
  simp at h
  simp [h]
theorem obj_eq {a b:Obj} (h:((!(decide (a.value=b.value))) || (a.id != b.id))=false) : a=b:=by
  cases a
  cases b
  simp at h
  simp [h]
theorem obj_eq2 {a b:Obj} (h:(!(decide (a.value=b.value)))=false) (h2:(a.id != b.id)=false) : a=b:=obj_eq (by rw [h,h2]; rfl)
theorem ne_by {A B:Msg} {f:Msg→Msg→Bool} (h:f A B=true) (hf:∀ M,f M M=false) : decide (A=B)=false:=decide_eq_false fun e=>by rw [e,hf] at h; cases h
theorem same7_t {A B:Msg} (h1:((((((((((((A.code != B.code) || (A.fail != B.fail)) || (A.addr != B.addr)) || (A.count != B.count)) || (A.value != B.value)) || (A.and_ != B.and_)) || (A.or_ != B.or_)) || (A.addr2 != B.addr2)) || (A.sub != B.sub)) || (A.status != B.status)) || (A.events != B.events)) || (A.messages != B.messages))=false) (h2:(((((A.mei != B.mei) || (A.kind != B.kind)) || (A.level != B.level)) || (A.more != B.more)) || (A.next != B.next))=false) (h3:(((((!(decide (A.words=B.words))) || (!(decide (A.bits=B.bits)))) || (!(decide (A.data=B.data)))) || (((A.recs.length:Nat) : Int) != ((B.recs.length:Nat) : Int))) || (((A.objects.length:Nat) : Int) != ((B.objects.length:Nat) : Int)))=false) (hr:A.recs.length=B.recs.length→A.recs=B.recs) (ho:A.objects.length=B.objects.length→A.objects=B.objects) : A=B:=by
  cases A
  cases B
  simp only [Bool.or_eq_false_iff,bne_eq_false_iff_eq,Bool.not_eq_false',decide_eq_true_eq] at h1 h2 h3
  simp only at hr ho
  obtain ⟨⟨⟨⟨⟨⟨⟨⟨⟨⟨⟨a1,a2⟩,a3⟩,a4⟩,a5⟩,a6⟩,a7⟩,a8⟩,a9⟩,a10⟩,a11⟩,a12⟩:=h1
  obtain ⟨⟨⟨⟨b1,b2⟩,b3⟩,b4⟩,b5⟩:=h2
  obtain ⟨⟨⟨⟨d1,d2⟩,d3⟩,d4⟩,d5⟩:=h3
  have d4:=hr (by omega)
  have d5:=ho (by omega)
  subst a1 a2 a3 a4 a5 a6 a7 a8 a9 a10 a11 a12 b1 b2 b3 b4 b5 d1 d2 d3 d4 d5
  rfl
set_option maxRecDepth 100000 in
set_option maxHeartbeats 4000000 in
theorem same7_any {m m':Bool} {pc qc:Array Value} {A B:Msg} {w:World} (ha:MsgRd m w pc.toList A) (hb:MsgRd m' w qc.toList B) :
    Calls Tryz.prog 22 #[.agg pc,.agg qc] w (PVal (.bool (decide (A=B))) w):=by
 have pM:=ha
 obtain ⟨pvw,pvb,pvd,pvr,pvo,ph0,phw,phb,phd,phr,pho,pR⟩:=ha
 obtain rfl:pc=(msgCells A pvw pvb pvd pvr pvo).toArray:=by apply Array.toList_inj.1; simpa using ph0
 clear ph0
 obtain ⟨pw,pkw,rfl,_,_⟩:=phw.shape
 obtain ⟨pb,pkb,rfl,_,_⟩:=phb.shape
 obtain ⟨pd,pkd,rfl,_,_⟩:=phd.shape
 obtain ⟨pr,pkr,rfl,_,_⟩:=phr.shape
 obtain ⟨po,pko,rfl,_,_⟩:=pho.shape
 have qM:=hb
 obtain ⟨qvw,qvb,qvd,qvr,qvo,qh0,qhw,qhb,qhd,qhr,qho,qR⟩:=hb
 obtain rfl:qc=(msgCells B qvw qvb qvd qvr qvo).toArray:=by apply Array.toList_inj.1; simpa using qh0
 clear qh0
 obtain ⟨qw,qkw,rfl,_,_⟩:=qhw.shape
 obtain ⟨qb,qkb,rfl,_,_⟩:=qhb.shape
 obtain ⟨qd,qkd,rfl,_,_⟩:=qhd.shape
 obtain ⟨qr,qkr,rfl,_,_⟩:=qhr.shape
 obtain ⟨qo,qko,rfl,_,_⟩:=qho.shape
 have hz1:=RdG.len phr
 have hz2:=RdG.len pho
 refine en 254 Tryz.func22 rfl<|sg<|L0<|Obx (mG A.code A.fail A.addr A.count A.value A.and_ A.or_ A.addr2 A.sub A.status A.events A.messages (.slice pw A.words.length pkw) (.slice pb A.bits.length pkb) (.slice pd A.data.length pkd) (.slice pr A.recs.length pkr) A.mei A.kind A.level A.more A.next (.slice po A.objects.length pko)) fun g10 w11 hg12 B13 hu14=>L0<|Obx (mG B.code B.fail B.addr B.count B.value B.and_ B.or_ B.addr2 B.sub B.status B.events B.messages (.slice qw B.words.length qkw) (.slice qb B.bits.length qkb) (.slice qd B.data.length qkd) (.slice qr B.recs.length qkr) B.mei B.kind B.level B.more B.next (.slice qo B.objects.length qko)) fun g15 w16 hg17 B18 hu19=>Pl 1<|nt<|sq<|sg<|Pl 1<|?_
 have r20:=ub hu19 B13
 refine L0<|Olb r20 0<|Pl 1<|L0<|Olb B18 0<|Pl 2<|cu 6 [19] 25 (((A.code != B.code) || (A.fail != B.fail))) (fun K K22=>?_) ?_
 refine bl 19 ((A.code != B.code)) (fun q21=>?_) (fun q21=>?_)
 have q21p:=ne_of_bnei q21
 exact Pl 6<|ce K22 true (by rw [q21]; rfl)
 have q21p:=eq_of_bnei q21
 exact Pl 1<|L1<|Olb r20 1<|Pl 1<|L1<|Olb B18 1<|Pl 2<|ce K22 (A.fail != B.fail) (by rw [q21]; rfl)
 refine Pl 1<|cu 6 [26] 32 ((((A.code != B.code) || (A.fail != B.fail)) || (A.addr != B.addr))) (fun K K24=>?_) ?_
 refine bl 26 (((A.code != B.code) || (A.fail != B.fail))) (fun q23=>?_) (fun q23=>?_)
 exact Pl 6<|ce K24 true (by rw [q23]; rfl)
 have q23a:=(or_f q23).1
 have q23b:=(or_f q23).2
 have q23ap:=eq_of_bnei q23a
 have q23bp:=eq_of_bnei q23b
 exact Pl 1<|L1<|Olb r20 2<|Pl 1<|L1<|Olb B18 2<|Pl 2<|ce K24 (A.addr != B.addr) (by rw [q23]; rfl)
 refine Pl 1<|cu 6 [33] 39 (((((A.code != B.code) || (A.fail != B.fail)) || (A.addr != B.addr)) || (A.count != B.count))) (fun K K26=>?_) ?_
 refine bl 33 ((((A.code != B.code) || (A.fail != B.fail)) || (A.addr != B.addr))) (fun q25=>?_) (fun q25=>?_)
 exact Pl 6<|ce K26 true (by rw [q25]; rfl)
 have q25a:=(or_f q25).1
 have q25b:=(or_f q25).2
 have q25aa:=(or_f q25a).1
 have q25ab:=(or_f q25a).2
 have q25aap:=eq_of_bnei q25aa
 have q25abp:=eq_of_bnei q25ab
 have q25bp:=eq_of_bnei q25b
 exact Pl 1<|L1<|Olb r20 3<|Pl 1<|L1<|Olb B18 3<|Pl 2<|ce K26 (A.count != B.count) (by rw [q25]; rfl)
 refine Pl 1<|cu 6 [40] 46 ((((((A.code != B.code) || (A.fail != B.fail)) || (A.addr != B.addr)) || (A.count != B.count)) || (A.value != B.value))) (fun K K28=>?_) ?_
 refine bl 40 (((((A.code != B.code) || (A.fail != B.fail)) || (A.addr != B.addr)) || (A.count != B.count))) (fun q27=>?_) (fun q27=>?_)
 exact Pl 6<|ce K28 true (by rw [q27]; rfl)
 have q27a:=(or_f q27).1
 have q27b:=(or_f q27).2
 have q27aa:=(or_f q27a).1
 have q27ab:=(or_f q27a).2
 have q27aaa:=(or_f q27aa).1
 have q27aab:=(or_f q27aa).2
 have q27aaap:=eq_of_bnei q27aaa
 have q27aabp:=eq_of_bnei q27aab
 have q27abp:=eq_of_bnei q27ab
 have q27bp:=eq_of_bnei q27b
 exact Pl 1<|L1<|Olb r20 4<|Pl 1<|L1<|Olb B18 4<|Pl 2<|ce K28 (A.value != B.value) (by rw [q27]; rfl)
 refine Pl 1<|cu 6 [47] 53 (((((((A.code != B.code) || (A.fail != B.fail)) || (A.addr != B.addr)) || (A.count != B.count)) || (A.value != B.value)) || (A.and_ != B.and_))) (fun K K30=>?_) ?_
 refine bl 47 ((((((A.code != B.code) || (A.fail != B.fail)) || (A.addr != B.addr)) || (A.count != B.count)) || (A.value != B.value))) (fun q29=>?_) (fun q29=>?_)
 exact Pl 6<|ce K30 true (by rw [q29]; rfl)
 have q29a:=(or_f q29).1
 have q29b:=(or_f q29).2
 have q29aa:=(or_f q29a).1
 have q29ab:=(or_f q29a).2
 have q29aaa:=(or_f q29aa).1
 have q29aab:=(or_f q29aa).2
 have q29aaaa:=(or_f q29aaa).1
 have q29aaab:=(or_f q29aaa).2
 have q29aaaap:=eq_of_bnei q29aaaa
 have q29aaabp:=eq_of_bnei q29aaab
 have q29aabp:=eq_of_bnei q29aab
 have q29abp:=eq_of_bnei q29ab
 have q29bp:=eq_of_bnei q29b
 exact Pl 1<|L1<|Olb r20 5<|Pl 1<|L1<|Olb B18 5<|Pl 2<|ce K30 (A.and_ != B.and_) (by rw [q29]; rfl)
 refine Pl 1<|cu 6 [54] 60 ((((((((A.code != B.code) || (A.fail != B.fail)) || (A.addr != B.addr)) || (A.count != B.count)) || (A.value != B.value)) || (A.and_ != B.and_)) || (A.or_ != B.or_))) (fun K K32=>?_) ?_
 refine bl 54 (((((((A.code != B.code) || (A.fail != B.fail)) || (A.addr != B.addr)) || (A.count != B.count)) || (A.value != B.value)) || (A.and_ != B.and_))) (fun q31=>?_) (fun q31=>?_)
 exact Pl 6<|ce K32 true (by rw [q31]; rfl)
 have q31a:=(or_f q31).1
 have q31b:=(or_f q31).2
 have q31aa:=(or_f q31a).1
 have q31ab:=(or_f q31a).2
 have q31aaa:=(or_f q31aa).1
 have q31aab:=(or_f q31aa).2
 have q31aaaa:=(or_f q31aaa).1
 have q31aaab:=(or_f q31aaa).2
 have q31aaaaa:=(or_f q31aaaa).1
 have q31aaaab:=(or_f q31aaaa).2
 have q31aaaaap:=eq_of_bnei q31aaaaa
 have q31aaaabp:=eq_of_bnei q31aaaab
 have q31aaabp:=eq_of_bnei q31aaab
 have q31aabp:=eq_of_bnei q31aab
 have q31abp:=eq_of_bnei q31ab
 have q31bp:=eq_of_bnei q31b
 exact Pl 1<|L1<|Olb r20 6<|Pl 1<|L1<|Olb B18 6<|Pl 2<|ce K32 (A.or_ != B.or_) (by rw [q31]; rfl)
 refine Pl 1<|cu 6 [61] 67 (((((((((A.code != B.code) || (A.fail != B.fail)) || (A.addr != B.addr)) || (A.count != B.count)) || (A.value != B.value)) || (A.and_ != B.and_)) || (A.or_ != B.or_)) || (A.addr2 != B.addr2))) (fun K K34=>?_) ?_
 refine bl 61 ((((((((A.code != B.code) || (A.fail != B.fail)) || (A.addr != B.addr)) || (A.count != B.count)) || (A.value != B.value)) || (A.and_ != B.and_)) || (A.or_ != B.or_))) (fun q33=>?_) (fun q33=>?_)
 exact Pl 6<|ce K34 true (by rw [q33]; rfl)
 have q33a:=(or_f q33).1
 have q33b:=(or_f q33).2
 have q33aa:=(or_f q33a).1
 have q33ab:=(or_f q33a).2
 have q33aaa:=(or_f q33aa).1
 have q33aab:=(or_f q33aa).2
 have q33aaaa:=(or_f q33aaa).1
 have q33aaab:=(or_f q33aaa).2
 have q33aaaaa:=(or_f q33aaaa).1
 have q33aaaab:=(or_f q33aaaa).2
 have q33aaaaaa:=(or_f q33aaaaa).1
 have q33aaaaab:=(or_f q33aaaaa).2
 have q33aaaaaap:=eq_of_bnei q33aaaaaa
 have q33aaaaabp:=eq_of_bnei q33aaaaab
 have q33aaaabp:=eq_of_bnei q33aaaab
 have q33aaabp:=eq_of_bnei q33aaab
 have q33aabp:=eq_of_bnei q33aab
 have q33abp:=eq_of_bnei q33ab
 have q33bp:=eq_of_bnei q33b
 exact Pl 1<|L1<|Olb r20 7<|Pl 1<|L1<|Olb B18 7<|Pl 2<|ce K34 (A.addr2 != B.addr2) (by rw [q33]; rfl)
 refine Pl 1<|cu 6 [68] 74 ((((((((((A.code != B.code) || (A.fail != B.fail)) || (A.addr != B.addr)) || (A.count != B.count)) || (A.value != B.value)) || (A.and_ != B.and_)) || (A.or_ != B.or_)) || (A.addr2 != B.addr2)) || (A.sub != B.sub))) (fun K K36=>?_) ?_
 refine bl 68 (((((((((A.code != B.code) || (A.fail != B.fail)) || (A.addr != B.addr)) || (A.count != B.count)) || (A.value != B.value)) || (A.and_ != B.and_)) || (A.or_ != B.or_)) || (A.addr2 != B.addr2))) (fun q35=>?_) (fun q35=>?_)
 exact Pl 6<|ce K36 true (by rw [q35]; rfl)
 have q35a:=(or_f q35).1
 have q35b:=(or_f q35).2
 have q35aa:=(or_f q35a).1
 have q35ab:=(or_f q35a).2
 have q35aaa:=(or_f q35aa).1
 have q35aab:=(or_f q35aa).2
 have q35aaaa:=(or_f q35aaa).1
 have q35aaab:=(or_f q35aaa).2
 have q35aaaaa:=(or_f q35aaaa).1
 have q35aaaab:=(or_f q35aaaa).2
 have q35aaaaaa:=(or_f q35aaaaa).1
 have q35aaaaab:=(or_f q35aaaaa).2
 have q35aaaaaaa:=(or_f q35aaaaaa).1
 have q35aaaaaab:=(or_f q35aaaaaa).2
 have q35aaaaaaap:=eq_of_bnei q35aaaaaaa
 have q35aaaaaabp:=eq_of_bnei q35aaaaaab
 have q35aaaaabp:=eq_of_bnei q35aaaaab
 have q35aaaabp:=eq_of_bnei q35aaaab
 have q35aaabp:=eq_of_bnei q35aaab
 have q35aabp:=eq_of_bnei q35aab
 have q35abp:=eq_of_bnei q35ab
 have q35bp:=eq_of_bnei q35b
 exact Pl 1<|L1<|Olb r20 8<|Pl 1<|L1<|Olb B18 8<|Pl 2<|ce K36 (A.sub != B.sub) (by rw [q35]; rfl)
 refine Pl 1<|cu 6 [75] 81 (((((((((((A.code != B.code) || (A.fail != B.fail)) || (A.addr != B.addr)) || (A.count != B.count)) || (A.value != B.value)) || (A.and_ != B.and_)) || (A.or_ != B.or_)) || (A.addr2 != B.addr2)) || (A.sub != B.sub)) || (A.status != B.status))) (fun K K38=>?_) ?_
 refine bl 75 ((((((((((A.code != B.code) || (A.fail != B.fail)) || (A.addr != B.addr)) || (A.count != B.count)) || (A.value != B.value)) || (A.and_ != B.and_)) || (A.or_ != B.or_)) || (A.addr2 != B.addr2)) || (A.sub != B.sub))) (fun q37=>?_) (fun q37=>?_)
 exact Pl 6<|ce K38 true (by rw [q37]; rfl)
 have q37a:=(or_f q37).1
 have q37b:=(or_f q37).2
 have q37aa:=(or_f q37a).1
 have q37ab:=(or_f q37a).2
 have q37aaa:=(or_f q37aa).1
 have q37aab:=(or_f q37aa).2
 have q37aaaa:=(or_f q37aaa).1
 have q37aaab:=(or_f q37aaa).2
 have q37aaaaa:=(or_f q37aaaa).1
 have q37aaaab:=(or_f q37aaaa).2
 have q37aaaaaa:=(or_f q37aaaaa).1
 have q37aaaaab:=(or_f q37aaaaa).2
 have q37aaaaaaa:=(or_f q37aaaaaa).1
 have q37aaaaaab:=(or_f q37aaaaaa).2
 have q37aaaaaaaa:=(or_f q37aaaaaaa).1
 have q37aaaaaaab:=(or_f q37aaaaaaa).2
 have q37aaaaaaaap:=eq_of_bnei q37aaaaaaaa
 have q37aaaaaaabp:=eq_of_bnei q37aaaaaaab
 have q37aaaaaabp:=eq_of_bnei q37aaaaaab
 have q37aaaaabp:=eq_of_bnei q37aaaaab
 have q37aaaabp:=eq_of_bnei q37aaaab
 have q37aaabp:=eq_of_bnei q37aaab
 have q37aabp:=eq_of_bnei q37aab
 have q37abp:=eq_of_bnei q37ab
 have q37bp:=eq_of_bnei q37b
 exact Pl 1<|L1<|Olb r20 9<|Pl 1<|L1<|Olb B18 9<|Pl 2<|ce K38 (A.status != B.status) (by rw [q37]; rfl)
 refine Pl 1<|cu 6 [82] 88 ((((((((((((A.code != B.code) || (A.fail != B.fail)) || (A.addr != B.addr)) || (A.count != B.count)) || (A.value != B.value)) || (A.and_ != B.and_)) || (A.or_ != B.or_)) || (A.addr2 != B.addr2)) || (A.sub != B.sub)) || (A.status != B.status)) || (A.events != B.events))) (fun K K40=>?_) ?_
 refine bl 82 (((((((((((A.code != B.code) || (A.fail != B.fail)) || (A.addr != B.addr)) || (A.count != B.count)) || (A.value != B.value)) || (A.and_ != B.and_)) || (A.or_ != B.or_)) || (A.addr2 != B.addr2)) || (A.sub != B.sub)) || (A.status != B.status))) (fun q39=>?_) (fun q39=>?_)
 exact Pl 6<|ce K40 true (by rw [q39]; rfl)
 have q39a:=(or_f q39).1
 have q39b:=(or_f q39).2
 have q39aa:=(or_f q39a).1
 have q39ab:=(or_f q39a).2
 have q39aaa:=(or_f q39aa).1
 have q39aab:=(or_f q39aa).2
 have q39aaaa:=(or_f q39aaa).1
 have q39aaab:=(or_f q39aaa).2
 have q39aaaaa:=(or_f q39aaaa).1
 have q39aaaab:=(or_f q39aaaa).2
 have q39aaaaaa:=(or_f q39aaaaa).1
 have q39aaaaab:=(or_f q39aaaaa).2
 have q39aaaaaaa:=(or_f q39aaaaaa).1
 have q39aaaaaab:=(or_f q39aaaaaa).2
 have q39aaaaaaaa:=(or_f q39aaaaaaa).1
 have q39aaaaaaab:=(or_f q39aaaaaaa).2
 have q39aaaaaaaaa:=(or_f q39aaaaaaaa).1
 have q39aaaaaaaab:=(or_f q39aaaaaaaa).2
 have q39aaaaaaaaap:=eq_of_bnei q39aaaaaaaaa
 have q39aaaaaaaabp:=eq_of_bnei q39aaaaaaaab
 have q39aaaaaaabp:=eq_of_bnei q39aaaaaaab
 have q39aaaaaabp:=eq_of_bnei q39aaaaaab
 have q39aaaaabp:=eq_of_bnei q39aaaaab
 have q39aaaabp:=eq_of_bnei q39aaaab
 have q39aaabp:=eq_of_bnei q39aaab
 have q39aabp:=eq_of_bnei q39aab
 have q39abp:=eq_of_bnei q39ab
 have q39bp:=eq_of_bnei q39b
 exact Pl 1<|L1<|Olb r20 10<|Pl 1<|L1<|Olb B18 10<|Pl 2<|ce K40 (A.events != B.events) (by rw [q39]; rfl)
 refine Pl 1<|cu 6 [89] 95 (((((((((((((A.code != B.code) || (A.fail != B.fail)) || (A.addr != B.addr)) || (A.count != B.count)) || (A.value != B.value)) || (A.and_ != B.and_)) || (A.or_ != B.or_)) || (A.addr2 != B.addr2)) || (A.sub != B.sub)) || (A.status != B.status)) || (A.events != B.events)) || (A.messages != B.messages))) (fun K K42=>?_) ?_
 refine bl 89 ((((((((((((A.code != B.code) || (A.fail != B.fail)) || (A.addr != B.addr)) || (A.count != B.count)) || (A.value != B.value)) || (A.and_ != B.and_)) || (A.or_ != B.or_)) || (A.addr2 != B.addr2)) || (A.sub != B.sub)) || (A.status != B.status)) || (A.events != B.events))) (fun q41=>?_) (fun q41=>?_)
 exact Pl 6<|ce K42 true (by rw [q41]; rfl)
 have q41a:=(or_f q41).1
 have q41b:=(or_f q41).2
 have q41aa:=(or_f q41a).1
 have q41ab:=(or_f q41a).2
 have q41aaa:=(or_f q41aa).1
 have q41aab:=(or_f q41aa).2
 have q41aaaa:=(or_f q41aaa).1
 have q41aaab:=(or_f q41aaa).2
 have q41aaaaa:=(or_f q41aaaa).1
 have q41aaaab:=(or_f q41aaaa).2
 have q41aaaaaa:=(or_f q41aaaaa).1
 have q41aaaaab:=(or_f q41aaaaa).2
 have q41aaaaaaa:=(or_f q41aaaaaa).1
 have q41aaaaaab:=(or_f q41aaaaaa).2
 have q41aaaaaaaa:=(or_f q41aaaaaaa).1
 have q41aaaaaaab:=(or_f q41aaaaaaa).2
 have q41aaaaaaaaa:=(or_f q41aaaaaaaa).1
 have q41aaaaaaaab:=(or_f q41aaaaaaaa).2
 have q41aaaaaaaaaa:=(or_f q41aaaaaaaaa).1
 have q41aaaaaaaaab:=(or_f q41aaaaaaaaa).2
 have q41aaaaaaaaaap:=eq_of_bnei q41aaaaaaaaaa
 have q41aaaaaaaaabp:=eq_of_bnei q41aaaaaaaaab
 have q41aaaaaaaabp:=eq_of_bnei q41aaaaaaaab
 have q41aaaaaaabp:=eq_of_bnei q41aaaaaaab
 have q41aaaaaabp:=eq_of_bnei q41aaaaaab
 have q41aaaaabp:=eq_of_bnei q41aaaaab
 have q41aaaabp:=eq_of_bnei q41aaaab
 have q41aaabp:=eq_of_bnei q41aaab
 have q41aabp:=eq_of_bnei q41aab
 have q41abp:=eq_of_bnei q41ab
 have q41bp:=eq_of_bnei q41b
 exact Pl 1<|L1<|Olb r20 11<|Pl 1<|L1<|Olb B18 11<|Pl 2<|ce K42 (A.messages != B.messages) (by rw [q41]; rfl)
 refine nt<|?_
 have U43:=ut0 hu14 hu19
 refine cb (((((((((((((A.code != B.code) || (A.fail != B.fail)) || (A.addr != B.addr)) || (A.count != B.count)) || (A.value != B.value)) || (A.and_ != B.and_)) || (A.or_ != B.or_)) || (A.addr2 != B.addr2)) || (A.sub != B.sub)) || (A.status != B.status)) || (A.events != B.events)) || (A.messages != B.messages))) (fun q44=>?_) (fun q44=>?_)
 refine sg<|Pl 1<|nt<|rt<|tr<|rr (.bool false)<|?_
 have hs:decide (A=B)=false:=ne_by (f:=fun x y=>((((((((((((x.code != y.code) || (x.fail != y.fail)) || (x.addr != y.addr)) || (x.count != y.count)) || (x.value != y.value)) || (x.and_ != y.and_)) || (x.or_ != y.or_)) || (x.addr2 != y.addr2)) || (x.sub != y.sub)) || (x.status != y.status)) || (x.events != y.events)) || (x.messages != y.messages))) q44 (fun M=>by simp)
 rw [hs]
 exact ⟨rfl,U43⟩
 have q44a:=(or_f q44).1
 have q44b:=(or_f q44).2
 have q44aa:=(or_f q44a).1
 have q44ab:=(or_f q44a).2
 have q44aaa:=(or_f q44aa).1
 have q44aab:=(or_f q44aa).2
 have q44aaaa:=(or_f q44aaa).1
 have q44aaab:=(or_f q44aaa).2
 have q44aaaaa:=(or_f q44aaaa).1
 have q44aaaab:=(or_f q44aaaa).2
 have q44aaaaaa:=(or_f q44aaaaa).1
 have q44aaaaab:=(or_f q44aaaaa).2
 have q44aaaaaaa:=(or_f q44aaaaaa).1
 have q44aaaaaab:=(or_f q44aaaaaa).2
 have q44aaaaaaaa:=(or_f q44aaaaaaa).1
 have q44aaaaaaab:=(or_f q44aaaaaaa).2
 have q44aaaaaaaaa:=(or_f q44aaaaaaaa).1
 have q44aaaaaaaab:=(or_f q44aaaaaaaa).2
 have q44aaaaaaaaaa:=(or_f q44aaaaaaaaa).1
 have q44aaaaaaaaab:=(or_f q44aaaaaaaaa).2
 have q44aaaaaaaaaaa:=(or_f q44aaaaaaaaaa).1
 have q44aaaaaaaaaab:=(or_f q44aaaaaaaaaa).2
 have q44aaaaaaaaaaap:=eq_of_bnei q44aaaaaaaaaaa
 have q44aaaaaaaaaabp:=eq_of_bnei q44aaaaaaaaaab
 have q44aaaaaaaaabp:=eq_of_bnei q44aaaaaaaaab
 have q44aaaaaaaabp:=eq_of_bnei q44aaaaaaaab
 have q44aaaaaaabp:=eq_of_bnei q44aaaaaaab
 have q44aaaaaabp:=eq_of_bnei q44aaaaaab
 have q44aaaaabp:=eq_of_bnei q44aaaaab
 have q44aaaabp:=eq_of_bnei q44aaaab
 have q44aaabp:=eq_of_bnei q44aaab
 have q44aabp:=eq_of_bnei q44aab
 have q44abp:=eq_of_bnei q44ab
 have q44bp:=eq_of_bnei q44b
 refine skn<|sq<|sg<|Pl 1<|L0<|Olb r20 16<|Pl 1<|L0<|Olb B18 16<|Pl 2<|cu 6 [101] 107 (((A.mei != B.mei) || (A.kind != B.kind))) (fun K K46=>?_) ?_
 refine bl 101 ((A.mei != B.mei)) (fun q45=>?_) (fun q45=>?_)
 have q45p:=ne_of_bnei q45
 exact Pl 6<|ce K46 true (by rw [q45]; rfl)
 have q45p:=eq_of_bnei q45
 exact Pl 1<|L1<|Olb r20 17<|Pl 1<|L1<|Olb B18 17<|Pl 2<|ce K46 (A.kind != B.kind) (by rw [q45]; rfl)
 refine Pl 1<|cu 6 [108] 114 ((((A.mei != B.mei) || (A.kind != B.kind)) || (A.level != B.level))) (fun K K48=>?_) ?_
 refine bl 108 (((A.mei != B.mei) || (A.kind != B.kind))) (fun q47=>?_) (fun q47=>?_)
 exact Pl 6<|ce K48 true (by rw [q47]; rfl)
 have q47a:=(or_f q47).1
 have q47b:=(or_f q47).2
 have q47ap:=eq_of_bnei q47a
 have q47bp:=eq_of_bnei q47b
 exact Pl 1<|L1<|Olb r20 18<|Pl 1<|L1<|Olb B18 18<|Pl 2<|ce K48 (A.level != B.level) (by rw [q47]; rfl)
 refine Pl 1<|cu 6 [115] 121 (((((A.mei != B.mei) || (A.kind != B.kind)) || (A.level != B.level)) || (A.more != B.more))) (fun K K50=>?_) ?_
 refine bl 115 ((((A.mei != B.mei) || (A.kind != B.kind)) || (A.level != B.level))) (fun q49=>?_) (fun q49=>?_)
 exact Pl 6<|ce K50 true (by rw [q49]; rfl)
 have q49a:=(or_f q49).1
 have q49b:=(or_f q49).2
 have q49aa:=(or_f q49a).1
 have q49ab:=(or_f q49a).2
 have q49aap:=eq_of_bnei q49aa
 have q49abp:=eq_of_bnei q49ab
 have q49bp:=eq_of_bnei q49b
 exact Pl 1<|L1<|Olb r20 19<|Pl 1<|L1<|Olb B18 19<|Pl 2<|ce K50 (A.more != B.more) (by rw [q49]; rfl)
 refine Pl 1<|cu 6 [122] 128 ((((((A.mei != B.mei) || (A.kind != B.kind)) || (A.level != B.level)) || (A.more != B.more)) || (A.next != B.next))) (fun K K52=>?_) ?_
 refine bl 122 (((((A.mei != B.mei) || (A.kind != B.kind)) || (A.level != B.level)) || (A.more != B.more))) (fun q51=>?_) (fun q51=>?_)
 exact Pl 6<|ce K52 true (by rw [q51]; rfl)
 have q51a:=(or_f q51).1
 have q51b:=(or_f q51).2
 have q51aa:=(or_f q51a).1
 have q51ab:=(or_f q51a).2
 have q51aaa:=(or_f q51aa).1
 have q51aab:=(or_f q51aa).2
 have q51aaap:=eq_of_bnei q51aaa
 have q51aabp:=eq_of_bnei q51aab
 have q51abp:=eq_of_bnei q51ab
 have q51bp:=eq_of_bnei q51b
 exact Pl 1<|L1<|Olb r20 20<|Pl 1<|L1<|Olb B18 20<|Pl 2<|ce K52 (A.next != B.next) (by rw [q51]; rfl)
 refine nt<|cb ((((((A.mei != B.mei) || (A.kind != B.kind)) || (A.level != B.level)) || (A.more != B.more)) || (A.next != B.next))) (fun q53=>?_) (fun q53=>?_)
 refine sg<|Pl 1<|nt<|rt<|tr<|rr (.bool false)<|?_
 have hs:decide (A=B)=false:=ne_by (f:=fun x y=>(((((x.mei != y.mei) || (x.kind != y.kind)) || (x.level != y.level)) || (x.more != y.more)) || (x.next != y.next))) q53 (fun M=>by simp)
 rw [hs]
 exact ⟨rfl,U43⟩
 have q53a:=(or_f q53).1
 have q53b:=(or_f q53).2
 have q53aa:=(or_f q53a).1
 have q53ab:=(or_f q53a).2
 have q53aaa:=(or_f q53aa).1
 have q53aab:=(or_f q53aa).2
 have q53aaaa:=(or_f q53aaa).1
 have q53aaab:=(or_f q53aaa).2
 have q53aaaap:=eq_of_bnei q53aaaa
 have q53aaabp:=eq_of_bnei q53aaab
 have q53aabp:=eq_of_bnei q53aab
 have q53abp:=eq_of_bnei q53ab
 have q53bp:=eq_of_bnei q53b
 refine skn<|sg<|Pl 1<|L0<|Olb r20 12<|Pl 1<|L0<|Olb B18 12<|?_
 have r56:=RdW.old phw U43
 have r57:=RdW.old qhw U43
 refine L0<|Oc<|m1 (refWords_any r56 r57) fun w54 hu55=>Pl 1<|ng<|Pl 1<|?_
 have r58:=ub hu55 r20
 refine L0<|Olb r58 13<|Pl 1<|?_
 have r59:=ub hu55 B18
 refine L0<|Olb r59 13<|?_
 have U62:=ut0 U43 hu55
 have r63:=RdL.old phb U62
 have r64:=RdL.old qhb U62
 refine L0<|Oc<|m1 (refBools_any r63 r64) fun w60 hu61=>Pl 1<|ng<|Pl 1<|?_
 have r65:=ub hu61 r58
 refine L0<|Olb r65 14<|Pl 1<|?_
 have r66:=ub hu61 r59
 refine L0<|Olb r66 14<|?_
 have U69:=ut0 U62 hu61
 have r70:=RdB.old phd U69
 have r71:=RdB.old qhd U69
 refine L0<|Oc<|m1 (same1_any r70 r71) fun w67 hu68=>Pl 1<|nt<|sq<|sg<|Pl 3<|cu 3 [146] 149 (((!(decide (A.words=B.words))) || (!(decide (A.bits=B.bits))))) (fun K K73=>?_) ?_
 refine bl 146 ((!(decide (A.words=B.words)))) (fun q72=>?_) (fun q72=>?_)
 have q72n:(decide (A.words=B.words))=false:=by simpa using q72
 have q72np:=of_decide_eq_false q72n
 exact Pl 3<|ce K73 true (by rw [q72]; rfl)
 have q72n:(decide (A.words=B.words))=true:=by simpa using q72
 have q72np:=of_decide_eq_true q72n
 exact Pl 3<|ce K73 (!(decide (A.bits=B.bits))) (by rw [q72]; rfl)
 refine Pl 1<|cu 3 [150] 153 ((((!(decide (A.words=B.words))) || (!(decide (A.bits=B.bits)))) || (!(decide (A.data=B.data))))) (fun K K75=>?_) ?_
 refine bl 150 (((!(decide (A.words=B.words))) || (!(decide (A.bits=B.bits))))) (fun q74=>?_) (fun q74=>?_)
 exact Pl 3<|ce K75 true (by rw [q74]; rfl)
 have q74a:=(or_f q74).1
 have q74b:=(or_f q74).2
 have q74an:(decide (A.words=B.words))=true:=by simpa using q74a
 have q74anp:=of_decide_eq_true q74an
 have q74bn:(decide (A.bits=B.bits))=true:=by simpa using q74b
 have q74bnp:=of_decide_eq_true q74bn
 exact Pl 3<|ce K75 (!(decide (A.data=B.data))) (by rw [q74]; rfl)
 refine Pl 1<|cu 8 [154] 162 (((((!(decide (A.words=B.words))) || (!(decide (A.bits=B.bits)))) || (!(decide (A.data=B.data)))) || (((A.recs.length:Nat) : Int) != ((B.recs.length:Nat) : Int)))) (fun K K77=>?_) ?_
 refine bl 154 ((((!(decide (A.words=B.words))) || (!(decide (A.bits=B.bits)))) || (!(decide (A.data=B.data))))) (fun q76=>?_) (fun q76=>?_)
 exact Pl 8<|ce K77 true (by rw [q76]; rfl)
 have q76a:=(or_f q76).1
 have q76b:=(or_f q76).2
 have q76aa:=(or_f q76a).1
 have q76ab:=(or_f q76a).2
 have q76aan:(decide (A.words=B.words))=true:=by simpa using q76aa
 have q76aanp:=of_decide_eq_true q76aan
 have q76abn:(decide (A.bits=B.bits))=true:=by simpa using q76ab
 have q76abnp:=of_decide_eq_true q76abn
 have q76bn:(decide (A.data=B.data))=true:=by simpa using q76b
 have q76bnp:=of_decide_eq_true q76bn
 refine Pl 1<|?_
 have r78:=ub hu68 r65
 refine L1<|Olb r78 15<|Pl 2<|?_
 have r79:=ub hu68 r66
 exact L1<|Olb r79 15<|Pl 3<|ce K77 (((A.recs.length:Nat) : Int) != ((B.recs.length:Nat) : Int)) (by rw [q76]; rfl)
 refine Pl 1<|cu 8 [163] 171 ((((((!(decide (A.words=B.words))) || (!(decide (A.bits=B.bits)))) || (!(decide (A.data=B.data)))) || (((A.recs.length:Nat) : Int) != ((B.recs.length:Nat) : Int))) || (((A.objects.length:Nat) : Int) != ((B.objects.length:Nat) : Int)))) (fun K K81=>?_) ?_
 refine bl 163 (((((!(decide (A.words=B.words))) || (!(decide (A.bits=B.bits)))) || (!(decide (A.data=B.data)))) || (((A.recs.length:Nat) : Int) != ((B.recs.length:Nat) : Int)))) (fun q80=>?_) (fun q80=>?_)
 exact Pl 8<|ce K81 true (by rw [q80]; rfl)
 have q80a:=(or_f q80).1
 have q80b:=(or_f q80).2
 have q80aa:=(or_f q80a).1
 have q80ab:=(or_f q80a).2
 have q80aaa:=(or_f q80aa).1
 have q80aab:=(or_f q80aa).2
 have q80aaan:(decide (A.words=B.words))=true:=by simpa using q80aaa
 have q80aaanp:=of_decide_eq_true q80aaan
 have q80aabn:(decide (A.bits=B.bits))=true:=by simpa using q80aab
 have q80aabnp:=of_decide_eq_true q80aabn
 have q80abn:(decide (A.data=B.data))=true:=by simpa using q80ab
 have q80abnp:=of_decide_eq_true q80abn
 have q80bp:=eq_of_bnei q80b
 refine Pl 1<|?_
 have r82:=ub hu68 r65
 refine L1<|Olb r82 21<|Pl 2<|?_
 have r83:=ub hu68 r66
 exact L1<|Olb r83 21<|Pl 3<|ce K81 (((A.objects.length:Nat) : Int) != ((B.objects.length:Nat) : Int)) (by rw [q80]; rfl)
 refine nt<|?_
 have U84:=ut0 U69 hu68
 refine cb ((((((!(decide (A.words=B.words))) || (!(decide (A.bits=B.bits)))) || (!(decide (A.data=B.data)))) || (((A.recs.length:Nat) : Int) != ((B.recs.length:Nat) : Int))) || (((A.objects.length:Nat) : Int) != ((B.objects.length:Nat) : Int)))) (fun q85=>?_) (fun q85=>?_)
 refine sg<|Pl 1<|nt<|rt<|tr<|rr (.bool false)<|?_
 have hs:decide (A=B)=false:=ne_by (f:=fun x y=>(((((!(decide (x.words=y.words))) || (!(decide (x.bits=y.bits)))) || (!(decide (x.data=y.data)))) || (((x.recs.length:Nat) : Int) != ((y.recs.length:Nat) : Int))) || (((x.objects.length:Nat) : Int) != ((y.objects.length:Nat) : Int)))) q85 (fun M=>by simp)
 rw [hs]
 exact ⟨rfl,U84⟩
 have q85a:=(or_f q85).1
 have q85b:=(or_f q85).2
 have q85aa:=(or_f q85a).1
 have q85ab:=(or_f q85a).2
 have q85aaa:=(or_f q85aa).1
 have q85aab:=(or_f q85aa).2
 have q85aaaa:=(or_f q85aaa).1
 have q85aaab:=(or_f q85aaa).2
 have q85aaaan:(decide (A.words=B.words))=true:=by simpa using q85aaaa
 have q85aaaanp:=of_decide_eq_true q85aaaan
 have q85aaabn:(decide (A.bits=B.bits))=true:=by simpa using q85aaab
 have q85aaabnp:=of_decide_eq_true q85aaabn
 have q85aabn:(decide (A.data=B.data))=true:=by simpa using q85aab
 have q85aabnp:=of_decide_eq_true q85aabn
 have q85abp:=eq_of_bnei q85ab
 have q85bp:=eq_of_bnei q85b
 refine skn<|sq<|sg<|Pl 1<|nt<|bk<|?_
 refine glp (fun x=>[(2,.pointer (some ⟨g10,0,none⟩)),(3,.pointer (some ⟨g15,0,none⟩)),(8,.int .i64 ((x:Nat) : Int))]) (fun (x:Nat) w'=>Upd [] w67 w'∧(A.recs.take x=B.recs.take x)∧(x≤A.recs.length)) (fun x=>A.recs.length - x) 0 ⟨Upd.refl _ _,(by (try dsimp only); simp),(by (try dsimp only); omega)⟩ ?_
 rintro j w86 ⟨hu87,p88,p89⟩
 refine wkc [(2,.pointer (some ⟨g10,0,none⟩)),(3,.pointer (some ⟨g15,0,none⟩)),(8,.int .i64 ((j:Nat) : Int))] ?_
 have p91:A.recs.take j=B.recs.take j:=p88
 have p92:j≤A.recs.length:=p89
 refine sq<|sg<|Pl 2<|?_
 have U93:=ut0 hu68 hu87
 have r94:=ub U93 r65
 refine L0<|Olb r94 15<|Pl 2<|nt<|?_
 have U95:=ut0 U84 hu87
 refine cb ((decide (((j:Nat) : Int) < ((A.recs.length:Nat) : Int)))) (fun q96=>?_) (fun q96=>?_)
 have q96p:=of_decide_eq_true q96
 refine skn<|sq<|bk<|sg<|Pl 1<|L0<|Olb r94 15<|Pl 1<|x75 (RdR.elt phr j (by omega)) fun b97 o98 cl99 t100 fr101 A102 cp103 hA104 hb105 hv106 hr107 hs108=>L0<|Oixs 4 A.recs.length j hA104 (by omega)<|?_
 have r109:=ub U95 hb105
 refine L0<|Oel [.int .u16 ((A.recs.getD j ⟨0,0,0,[]⟩).file),.int .u16 ((A.recs.getD j ⟨0,0,0,[]⟩).record),.int .u16 ((A.recs.getD j ⟨0,0,0,[]⟩).count),.slice A102 ((A.recs.getD j ⟨0,0,0,[]⟩).words.length) cp103] r109 hs108<|L0<|Oal #[.int .u16 0,.int .u16 0,.int .u16 0,.slice none 0 0] fun g110 w111 hg112 B113 hu114=>L0<|Osw B113 #[.int .u16 ((A.recs.getD j ⟨0,0,0,[]⟩).file),.int .u16 ((A.recs.getD j ⟨0,0,0,[]⟩).record),.int .u16 ((A.recs.getD j ⟨0,0,0,[]⟩).count),.slice A102 ((A.recs.getD j ⟨0,0,0,[]⟩).words.length) cp103] fun w115 B116 hu117=>ng<|Pl 1<|?_
 have U118:=ut0 U93 hu114
 have U119:=u1 U118 hu117 (ni U93.size hg112)
 have r120:=ub U119 r66
 refine L0<|Olb r120 15<|Pl 1<|x75 (RdR.elt qhr j (by omega)) fun b121 o122 cl123 t124 fr125 A126 cp127 hA128 hb129 hv130 hr131 hs132=>L0<|Oixs 4 B.recs.length j hA128 (by omega)<|?_
 have U133:=ut0 U95 hu114
 have U134:=u1 U133 hu117 (ni U95.size hg112)
 have r135:=ub U134 hb129
 refine L0<|Oel [.int .u16 ((B.recs.getD j ⟨0,0,0,[]⟩).file),.int .u16 ((B.recs.getD j ⟨0,0,0,[]⟩).record),.int .u16 ((B.recs.getD j ⟨0,0,0,[]⟩).count),.slice A126 ((B.recs.getD j ⟨0,0,0,[]⟩).words.length) cp127] r135 hs132<|L0<|Oal #[.int .u16 0,.int .u16 0,.int .u16 0,.slice none 0 0] fun g136 w137 hg138 B139 hu140=>L0<|Osw B139 #[.int .u16 ((B.recs.getD j ⟨0,0,0,[]⟩).file),.int .u16 ((B.recs.getD j ⟨0,0,0,[]⟩).record),.int .u16 ((B.recs.getD j ⟨0,0,0,[]⟩).count),.slice A126 ((B.recs.getD j ⟨0,0,0,[]⟩).words.length) cp127] fun w141 B142 hu143=>ng<|Pl 1<|?_
 have U144:=u1 hu140 hu143 (nr hg138)
 have r145:=ub U144 B116
 refine L0<|Olb r145 3<|Pl 1<|L0<|Olb B142 3<|?_
 have U148:=ut0 U134 hu140
 have U149:=u1 U148 hu143 (ni U134.size hg138)
 have r150:=RdW.old hv106 U149
 have r151:=RdW.old hv130 U149
 refine L0<|Oc<|m1 (refWords_any r150 r151) fun w146 hu147=>Pl 1<|ng<|Pl 3<|cu 6 [196] 202 (((!(decide ((A.recs.getD j ⟨0,0,0,[]⟩).words=(B.recs.getD j ⟨0,0,0,[]⟩).words))) || (((A.recs.getD j ⟨0,0,0,[]⟩).file) != ((B.recs.getD j ⟨0,0,0,[]⟩).file)))) (fun K K153=>?_) ?_
 refine bl 196 ((!(decide ((A.recs.getD j ⟨0,0,0,[]⟩).words=(B.recs.getD j ⟨0,0,0,[]⟩).words)))) (fun q152=>?_) (fun q152=>?_)
 have q152n:(decide ((A.recs.getD j ⟨0,0,0,[]⟩).words=(B.recs.getD j ⟨0,0,0,[]⟩).words))=false:=by simpa using q152
 have q152np:=of_decide_eq_false q152n
 exact Pl 6<|ce K153 true (by rw [q152]; rfl)
 have q152n:(decide ((A.recs.getD j ⟨0,0,0,[]⟩).words=(B.recs.getD j ⟨0,0,0,[]⟩).words))=true:=by simpa using q152
 have q152np:=of_decide_eq_true q152n
 refine Pl 1<|?_
 have r154:=ub hu147 r145
 refine L1<|Olb r154 0<|Pl 1<|?_
 have r155:=ub hu147 B142
 exact L1<|Olb r155 0<|Pl 2<|ce K153 (((A.recs.getD j ⟨0,0,0,[]⟩).file) != ((B.recs.getD j ⟨0,0,0,[]⟩).file)) (by rw [q152]; rfl)
 refine Pl 1<|cu 6 [203] 209 ((((!(decide ((A.recs.getD j ⟨0,0,0,[]⟩).words=(B.recs.getD j ⟨0,0,0,[]⟩).words))) || (((A.recs.getD j ⟨0,0,0,[]⟩).file) != ((B.recs.getD j ⟨0,0,0,[]⟩).file))) || (((A.recs.getD j ⟨0,0,0,[]⟩).record) != ((B.recs.getD j ⟨0,0,0,[]⟩).record)))) (fun K K157=>?_) ?_
 refine bl 203 (((!(decide ((A.recs.getD j ⟨0,0,0,[]⟩).words=(B.recs.getD j ⟨0,0,0,[]⟩).words))) || (((A.recs.getD j ⟨0,0,0,[]⟩).file) != ((B.recs.getD j ⟨0,0,0,[]⟩).file)))) (fun q156=>?_) (fun q156=>?_)
 exact Pl 6<|ce K157 true (by rw [q156]; rfl)
 have q156a:=(or_f q156).1
 have q156b:=(or_f q156).2
 have q156an:(decide ((A.recs.getD j ⟨0,0,0,[]⟩).words=(B.recs.getD j ⟨0,0,0,[]⟩).words))=true:=by simpa using q156a
 have q156anp:=of_decide_eq_true q156an
 have q156bp:=eq_of_bnei q156b
 refine Pl 1<|?_
 have r158:=ub hu147 r145
 refine L1<|Olb r158 1<|Pl 1<|?_
 have r159:=ub hu147 B142
 exact L1<|Olb r159 1<|Pl 2<|ce K157 (((A.recs.getD j ⟨0,0,0,[]⟩).record) != ((B.recs.getD j ⟨0,0,0,[]⟩).record)) (by rw [q156]; rfl)
 refine Pl 1<|cu 6 [210] 216 (((((!(decide ((A.recs.getD j ⟨0,0,0,[]⟩).words=(B.recs.getD j ⟨0,0,0,[]⟩).words))) || (((A.recs.getD j ⟨0,0,0,[]⟩).file) != ((B.recs.getD j ⟨0,0,0,[]⟩).file))) || (((A.recs.getD j ⟨0,0,0,[]⟩).record) != ((B.recs.getD j ⟨0,0,0,[]⟩).record))) || (((A.recs.getD j ⟨0,0,0,[]⟩).count) != ((B.recs.getD j ⟨0,0,0,[]⟩).count)))) (fun K K161=>?_) ?_
 refine bl 210 ((((!(decide ((A.recs.getD j ⟨0,0,0,[]⟩).words=(B.recs.getD j ⟨0,0,0,[]⟩).words))) || (((A.recs.getD j ⟨0,0,0,[]⟩).file) != ((B.recs.getD j ⟨0,0,0,[]⟩).file))) || (((A.recs.getD j ⟨0,0,0,[]⟩).record) != ((B.recs.getD j ⟨0,0,0,[]⟩).record)))) (fun q160=>?_) (fun q160=>?_)
 exact Pl 6<|ce K161 true (by rw [q160]; rfl)
 have q160a:=(or_f q160).1
 have q160b:=(or_f q160).2
 have q160aa:=(or_f q160a).1
 have q160ab:=(or_f q160a).2
 have q160aan:(decide ((A.recs.getD j ⟨0,0,0,[]⟩).words=(B.recs.getD j ⟨0,0,0,[]⟩).words))=true:=by simpa using q160aa
 have q160aanp:=of_decide_eq_true q160aan
 have q160abp:=eq_of_bnei q160ab
 have q160bp:=eq_of_bnei q160b
 refine Pl 1<|?_
 have r162:=ub hu147 r145
 refine L1<|Olb r162 2<|Pl 1<|?_
 have r163:=ub hu147 B142
 exact L1<|Olb r163 2<|Pl 2<|ce K161 (((A.recs.getD j ⟨0,0,0,[]⟩).count) != ((B.recs.getD j ⟨0,0,0,[]⟩).count)) (by rw [q160]; rfl)
 refine nt<|?_
 have U164:=ut0 U149 hu147
 refine cb (((((!(decide ((A.recs.getD j ⟨0,0,0,[]⟩).words=(B.recs.getD j ⟨0,0,0,[]⟩).words))) || (((A.recs.getD j ⟨0,0,0,[]⟩).file) != ((B.recs.getD j ⟨0,0,0,[]⟩).file))) || (((A.recs.getD j ⟨0,0,0,[]⟩).record) != ((B.recs.getD j ⟨0,0,0,[]⟩).record))) || (((A.recs.getD j ⟨0,0,0,[]⟩).count) != ((B.recs.getD j ⟨0,0,0,[]⟩).count)))) (fun q165=>?_) (fun q165=>?_)
 refine sg<|Pl 1<|nt<|rt<|br<|tr<|tr<|br<|tr<|rr (.bool false)<|?_
 have hs:decide (A=B)=false:=ne_by (f:=fun x y=>((((!(decide ((x.recs.getD j ⟨0,0,0,[]⟩).words=(y.recs.getD j ⟨0,0,0,[]⟩).words))) || (((x.recs.getD j ⟨0,0,0,[]⟩).file) != ((y.recs.getD j ⟨0,0,0,[]⟩).file))) || (((x.recs.getD j ⟨0,0,0,[]⟩).record) != ((y.recs.getD j ⟨0,0,0,[]⟩).record))) || (((x.recs.getD j ⟨0,0,0,[]⟩).count) != ((y.recs.getD j ⟨0,0,0,[]⟩).count)))) q165 (fun M=>by simp)
 rw [hs]
 exact ⟨rfl,U164⟩
 have q165a:=(or_f q165).1
 have q165b:=(or_f q165).2
 have q165aa:=(or_f q165a).1
 have q165ab:=(or_f q165a).2
 have q165aaa:=(or_f q165aa).1
 have q165aab:=(or_f q165aa).2
 have q165aaan:(decide ((A.recs.getD j ⟨0,0,0,[]⟩).words=(B.recs.getD j ⟨0,0,0,[]⟩).words))=true:=by simpa using q165aaa
 have q165aaanp:=of_decide_eq_true q165aaan
 have q165aabp:=eq_of_bnei q165aab
 have q165abp:=eq_of_bnei q165ab
 have q165bp:=eq_of_bnei q165b
 refine sk<|bn<|tn<|go<|Pl 1<|L0<|Oi (((j:Nat) : Int) + 1)<|Pl 1<|nl<|?_
 have U166:=ut0 hu87 hu114
 have U167:=u1 U166 hu117 (ni hu87.size hg112)
 have U168:=ut0 U167 hu140
 have U169:=u1 U168 hu143 (ni U167.size hg138)
 have U170:=ut0 U169 hu147
 exact lpe (j + 1) ⟨U170,(take_eq (d:=⟨0,0,0,[]⟩) p91 (by omega) (by omega) (rec_eq q165)),(by (try dsimp only); omega)⟩ (by omega)
 have q96p:=of_decide_eq_false q96
 refine xt<|tx<|tx<|bx<|tn<|sq<|sg<|Pl 1<|nt<|bk<|?_
 refine glp (fun x=>[(2,.pointer (some ⟨g10,0,none⟩)),(3,.pointer (some ⟨g15,0,none⟩)),(12,.int .i64 ((x:Nat) : Int))]) (fun (x:Nat) w'=>Upd [] w86 w'∧(A.objects.take x=B.objects.take x)∧(x≤A.objects.length)) (fun x=>A.objects.length - x) 0 ⟨Upd.refl _ _,(by (try dsimp only); simp),(by (try dsimp only); omega)⟩ ?_
 rintro k w171 ⟨hu172,p173,p174⟩
 refine wkc [(2,.pointer (some ⟨g10,0,none⟩)),(3,.pointer (some ⟨g15,0,none⟩)),(12,.int .i64 ((k:Nat) : Int))] ?_
 have p176:A.objects.take k=B.objects.take k:=p173
 have p177:k≤A.objects.length:=p174
 refine sq<|sg<|Pl 2<|?_
 have r178:=ub hu172 r94
 refine L0<|Olb r178 21<|Pl 2<|nt<|?_
 have U179:=ut0 U95 hu172
 refine cb ((decide (((k:Nat) : Int) < ((A.objects.length:Nat) : Int)))) (fun q180=>?_) (fun q180=>?_)
 have q180p:=of_decide_eq_true q180
 refine skn<|sq<|bk<|sq<|x75 (RdO.elt pho k (by omega)) fun b209 o210 cl211 t212 fr213 A214 cp215 hA216 hb217 hv218 hr219 hs220=>x75 (RdO.elt qho k (by omega)) fun b221 o222 cl223 t224 fr225 A226 cp227 hA228 hb229 hv230 hr231 hs232=>Rg 14 (fun w'=>w'.cell? ⟨g10,21,none⟩=some (.slice po A.objects.length pko)∧w'.cell? ⟨b209,o210 + k * 2 + 1,none⟩=some (.slice A214 ((A.objects.getD k ⟨0,[]⟩).value.length) cp215)∧w'.cell? ⟨g15,21,none⟩=some (.slice qo B.objects.length qko)∧w'.cell? ⟨b221,o222 + k * 2 + 1,none⟩=some (.slice A226 ((B.objects.getD k ⟨0,[]⟩).value.length) cp227)) fun w237 hu238=>?_
 have r240:=ub hu238 r178
 have U241:=ut0 U179 hu238
 have r242:=ub U241 hb217
 have U243:=ut0 U93 hu172
 have U244:=ut0 U243 hu238
 have r245:=ub U244 r66
 have r246:=ub U241 hb229
 refine hld ⟨(blk_at r240 rfl),(el_at r242 hs220 1 rfl (by decide)),(blk_at r245 rfl),(el_at r246 hs232 1 rfl (by decide))⟩ fun hS239=>Rt 0 hS239<|Rl 1 hS239 (fun _ hs=>hs.1)<|Rt 2 hS239<|Ri 3 hS239 2 A.objects.length k ((k:Nat) : Int) rfl hA216 (by omega)<|Rt 4 hS239<|Rl 5 hS239 (fun _ hs=>hs.2.1)<|Rt 6 hS239<|Rl 7 hS239 (fun _ hs=>hs.2.2.1)<|Rt 8 hS239<|Ri 9 hS239 2 B.objects.length k ((k:Nat) : Int) rfl hA228 (by omega)<|Rt 10 hS239<|Rl 11 hS239 (fun _ hs=>hs.2.2.2)<|?_
 have r249:=RdB.old hv218 U241
 have r250:=RdB.old hv230 U241
 refine R0 12 rfl<|Oc<|m1 (same1_any r249 r250) fun w247 hu248=>?_
 have r252:=ub hu248 r240
 have r253:=ub hu248 r242
 have r254:=ub hu248 r245
 have r255:=ub hu248 r246
 refine hld ⟨(blk_at r252 rfl),(el_at r253 hs220 1 rfl (by decide)),(blk_at r254 rfl),(el_at r255 hs232 1 rfl (by decide))⟩ fun hS251=>Rt 13 hS251<|re<|tn<|sq<|Rg 17 (fun w'=>w'.cell? ⟨g10,21,none⟩=some (.slice po A.objects.length pko)∧w'.cell? ⟨b209,o210 + k * 2 + 0,none⟩=some (.int .u8 ((A.objects.getD k ⟨0,[]⟩).id))∧w'.cell? ⟨g15,21,none⟩=some (.slice qo B.objects.length qko)∧w'.cell? ⟨b221,o222 + k * 2 + 0,none⟩=some (.int .u8 ((B.objects.getD k ⟨0,[]⟩).id))) fun w260 hu261=>?_
 have r263:=ub hu261 r252
 have r264:=ub hu261 r253
 have r265:=ub hu261 r254
 have r266:=ub hu261 r255
 refine hld ⟨(blk_at r263 rfl),(el_at r264 hs220 0 rfl (by decide)),(blk_at r265 rfl),(el_at r266 hs232 0 rfl (by decide))⟩ fun hS262=>Rt 0 hS262<|Rt 1 hS262<|Rt 2 hS262<|?_
 have U267:=ut0 U241 hu248
 have U268:=ut0 U267 hu261
 refine bla 239 ((!(decide ((A.objects.getD k ⟨0,[]⟩).value=(B.objects.getD k ⟨0,[]⟩).value)))) (fun q269=>?_) (fun q269=>?_)
 have q269n:(decide ((A.objects.getD k ⟨0,[]⟩).value=(B.objects.getD k ⟨0,[]⟩).value))=false:=by simpa using q269
 have q269np:=of_decide_eq_false q269n
 refine Ro 3 hS262<|Ro 4 hS262<|Ro 5 hS262<|Ro 6 hS262<|Ro 7 hS262<|Ro 8 hS262<|Ro 9 hS262<|Ro 10 hS262<|Ro 11 hS262<|Ro 12 hS262<|Ro 13 hS262<|Ro 14 hS262<|Ro 15 hS262<|Rt 16 hS262<|?_
 refine re<|tn<|c1<|sg<|Pl 1<|nt<|rt<|br<|tr<|tr<|br<|tr<|?_
 refine rr (.bool false)<|?_
 have hs:decide (A=B)=false:=ne_by (f:=fun x y=>(!(decide ((x.objects.getD k ⟨0,[]⟩).value=(y.objects.getD k ⟨0,[]⟩).value)))) q269 (fun M=>by simp)
 rw [hs]
 exact ⟨rfl,U268⟩
 have q269n:(decide ((A.objects.getD k ⟨0,[]⟩).value=(B.objects.getD k ⟨0,[]⟩).value))=true:=by simpa using q269
 have q269np:=of_decide_eq_true q269n
 refine Rt 3 hS262<|Rl 4 hS262 (fun _ hs=>hs.1)<|Rt 5 hS262<|Ri 6 hS262 2 A.objects.length k ((k:Nat) : Int) rfl hA216 (by omega)<|Rt 7 hS262<|Rl 8 hS262 (fun _ hs=>hs.2.1)<|Rt 9 hS262<|Rl 10 hS262 (fun _ hs=>hs.2.2.1)<|Rt 11 hS262<|Ri 12 hS262 2 B.objects.length k ((k:Nat) : Int) rfl hA228 (by omega)<|Rt 13 hS262<|Rl 14 hS262 (fun _ hs=>hs.2.2.2)<|Rt 15 hS262<|Rt 16 hS262<|?_
 refine re<|tn<|cb ((((A.objects.getD k ⟨0,[]⟩).id) != ((B.objects.getD k ⟨0,[]⟩).id))) (fun q270=>?_) (fun q270=>?_)
 have q270p:=ne_of_bnei q270
 refine sg<|Pl 1<|nt<|rt<|br<|tr<|tr<|br<|tr<|rr (.bool false)<|?_
 have hs:decide (A=B)=false:=ne_by (f:=fun x y=>(((x.objects.getD k ⟨0,[]⟩).id) != ((y.objects.getD k ⟨0,[]⟩).id))) q270 (fun M=>by simp)
 rw [hs]
 exact ⟨rfl,U268⟩
 have q270p:=eq_of_bnei q270
 refine sk<|bn<|tn<|go<|Pl 1<|L0<|Oi (((k:Nat) : Int) + 1)<|Pl 1<|nl<|?_
 have U271:=ut0 hu172 hu238
 have U272:=ut0 U271 hu248
 have U273:=ut0 U272 hu261
 exact lpe (k + 1) ⟨U273,(take_eq (d:=⟨0,[]⟩) p176 (by omega) (by omega) (obj_eq2 q269 q270)),(by (try dsimp only); omega)⟩ (by omega)
 have q180p:=of_decide_eq_false q180
 refine xt<|tx<|tx<|bx<|tn<|sg<|Pl 1<|nt<|rt<|rr (.bool true)<|?_
 have hs:decide (A=B)=true:=decide_eq_true (same7_t q44 q53 q85 (fun e=>eq_of_take p91 (by omega) e) (fun e=>eq_of_take p176 (by omega) e))
 rw [hs]
 exact ⟨rfl,U179⟩
end Go.Proofs.YtpglhicfhppaiaaGreat
namespace Go.Proofs.YtpglhicfhppaiaaGreat
open Go.RowKit
set_option maxRecDepth 100000 in
set_option maxHeartbeats 4000000 in
theorem lawAduThere {w:World} {fr to:Int} {ans:Bool} (hfr:0≤fr∧fr < 256) (hto:0≤to∧to < 256) {u t:Int} {M:Msg} {xM:SL} {mM:Bool} (hM:MsgRd mM w (mcl M xM).toList M) (hbu:0≤u∧u < 256) (hbt:0≤t∧t < 65536) :
    Calls Tryz.prog 3 #[.int .u8 fr,.int .u8 to,.bool ans,.agg (fcl u t M xM)] w (PVal (.bool true) w):=by
 have hRM:=hM.rngs
 obtain ⟨hcM,hdM⟩:=hRM
 refine en 115 Tryz.func3 rfl<|sg<|L0<|Obx (fcl u t M xM) fun g10 w11 hg12 B13 hu14=>Pl 1<|ng<|L0<|Oc<|m1 (@awake18 _) fun w15 hu16=>Pl 1<|nt<|sq<|?_
 refine go<|Pl 1<|?_
 have r17:=ub hu16 B13
 refine L0<|Ola r17 2 22<|?_
 have U18:=ut0 hu14 hu16
 have r19:=MsgRd.old hM U18
 refine L0<|Oc<|m1 (few_any r19) fun w20 hu21=>Pl 1<|nt<|sq<|sg<|Pl 2<|nt<|?_
 have U22:=ut0 U18 hu21
 refine cb ((!(fewB M))) (fun q23=>?_) (fun q23=>?_)
 have q23n:(fewB M)=false:=by simpa using q23
 refine sg<|Pl 2<|nt<|rt<|tr<|rr (.bool true)<|?_
 exact ⟨rfl,U22⟩
 have q23n:(fewB M)=true:=by simpa using q23
 refine skn<|sg<|Pl 1<|nt<|sq<|sg<|Pl 1<|nt<|cb (ans) (fun q24=>?_) (fun q24=>?_)
 refine go<|Pl 1<|ng<|Pl 1<|L0<|Oe (.int .u8 (Int.tmod fr 3)) (.int .u8 (fr % 3)) (congrArg (Value.int .u8) (Int.tmod_eq_emod_of_nonneg (by omega)))<|L0<|Oi (fr % 3)<|Pl 1<|ng<|?_
 refine Pl 1<|L0<|Oe (.int .u8 (Int.tmod to 3)) (.int .u8 (to % 3)) (congrArg (Value.int .u8) (Int.tmod_eq_emod_of_nonneg (by omega)))<|L0<|Oi (to % 3)<|Pl 1<|ng<|Pl 2<|?_
 have r25:=ub hu21 r17
 refine L0<|Olw r25<|?_
 have r26:=MsgRd.old r19 hu21
 refine wo (aduW (fr % 3) 1 u t M) (fun hX28=>?_) (fun l27 hX28=>?_)
 refine L0<|Oc (args:=#[.int .i64 (fr % 3),.int .i64 1,.agg (fcl u t M xM)])<|m1 (adu_write_n r26 (fewB_few q23n) (by omega) (by omega) hX28) fun w29 hu30=>Pl 5<|nt<|sq<|sg<|Pl 2<|nt<|c1<|sg<|Pl 7<|nl<|?_
 refine tn<|rt<|tr<|rr (.bool true)<|?_
 have U31:=ut0 U22 hu30
 exact ⟨rfl,U31⟩
 have hl32:=aduW_le (r26.rngs).1 hX28
 obtain ⟨b33,hT35,hz38,b34,hT36,hz39,hP37⟩:=adu_there (three to) (show 1=0∨1=1 by decide) hbu hbt hcM hdM (fun l hz=>pduW_byts hM (fewB_few q23n) l hz) hX28
 refine L0<|Oc (args:=#[.int .i64 (fr % 3),.int .i64 1,.agg (fcl u t M xM)])<|e2 (adu_write_s r26 (fewB_few q23n) (by omega) (by omega) hX28) fun v42 w41 ho43 hu44=>?_
 obtain ⟨A45,cp46,rfl,rd48,hg49⟩:=NewB.shape ho43
 refine Pl 5<|nt<|sq<|sg<|Pl 2<|nt<|c0<|skn<|sg<|?_
 refine Pl 4<|L0<|Oc<|e2 (adu_turn_s rd48 (by omega) hT35) fun v51 w50 ho52 hu53=>?_
 obtain ⟨A54,cp55,rfl,rd57,hg58⟩:=NewB.shape ho52
 refine Pl 5<|ng<|Pl 4<|L0<|Oc<|e2 (adu_turn_s rd57 (by omega) hT36) fun v60 w59 ho61 hu62=>?_
 obtain ⟨A63,cp64,rfl,rd66,hg67⟩:=NewB.shape ho61
 refine Pl 5<|nt<|sq<|sg<|Pl 10<|L1<|Oc<|m1 (adu_most (k:=(to % 3))) fun w68 hu69=>Pl 2<|nt<|?_
 have U70:=ut0 U22 hu44
 have U71:=ut0 U70 hu53
 have U72:=ut0 U71 hu62
 have U73:=ut0 U72 hu69
 refine cb ((decide ((aduM (to % 3)) < ((b33.length:Nat) : Int)))) (fun q74=>?_) (fun q74=>?_)
 have q74p:=of_decide_eq_true q74
 refine sg<|Pl 1<|nt<|rt<|tr<|rr (.bool false)<|?_
 have hs:false=true:=by have y:=of_decide_eq_true q74; omega
 rw [hs]
 exact ⟨rfl,U73⟩
 have q74p:=of_decide_eq_false q74
 refine skn<|sg<|Pl 3<|?_
 have r75:=RdB.upd' rd66 hu69 safe0
 refine L0<|Oc<|e2 (adu_parse_x hP37 r75 (by omega)) fun x76 w77 hx82 hu81=>?_
 obtain ⟨hM78,hF79,hF80⟩:=hx82
 refine Pl 3<|L0<|Oal frmZ fun g83 w84 hg85 B86 hu87=>L0<|Osw B86 (fcl ((Frm.mk u (bif (to % 3) != 2 then 0 else t) M).unit) ((Frm.mk u (bif (to % 3) != 2 then 0 else t) M).tid) ((Frm.mk u (bif (to % 3) != 2 then 0 else t) M).msg) x76) fun w88 B89 hu90=>Pl 1<|ng<|Pl 2<|?_
 have U91:=ut0 hu44 hu53
 have U92:=ut0 U91 hu62
 have U93:=ut0 U92 hu69
 have U94:=ut0 U93 hu81
 have U95:=ut0 U94 hu87
 have U96:=u1 U95 hu90 (ni U94.size hg85)
 have r97:=ub U96 r25
 refine L0<|Olb r97 1<|Pl 1<|nt<|sq<|sg<|Pl 2<|nt<|?_
 have U98:=ut0 U73 hu81
 have U99:=ut0 U98 hu87
 have U100:=u1 U99 hu90 (ni U98.size hg85)
 refine cb (((to % 3) != 2)) (fun q101=>?_) (fun q101=>?_)
 have q101p:=ne_of_bnei q101
 refine go<|Pl 1<|ng<|Pl 7<|L1<|Ola B89 0 2<|Pl 2<|L1<|Olb r97 0<|Pl 2<|L1<|Or_ (.bool ((((Frm.mk u (bif (to % 3) != 2 then 0 else t) M).unit) == u) && (((Frm.mk u (bif (to % 3) != 2 then 0 else t) M).tid) == 0))) (run_headeq ((Frm.mk u (bif (to % 3) != 2 then 0 else t) M).unit) ((Frm.mk u (bif (to % 3) != 2 then 0 else t) M).tid) u 0 rfl (by kernel_rfl) (by kernel_rfl) rfl)<|Pl 2<|bl 108 (((((Frm.mk u (bif (to % 3) != 2 then 0 else t) M).unit) == u) && (((Frm.mk u (bif (to % 3) != 2 then 0 else t) M).tid) == 0))) (fun q102=>?_) (fun q102=>?_)
 have q102a:=(and_t q102).1
 have q102b:=(and_t q102).2
 have q102ap:=eq_of_beqi q102a
 have q102bp:=eq_of_beqi q102b
 refine Pl 1<|L1<|Ola B89 2 22<|Pl 1<|L1<|Ola r97 2 22<|?_
 have U103:=u1 hu87 hu90 (nr hg85)
 have r104:=MsgRd.upd hM78 U103 safe0
 have r105:=MsgRd.old r26 U96
 refine L1<|Oc<|m1 (same7_any r104 r105) fun w106 hu107=>Pl 2<|nt<|rt<|rr (.bool (decide ((Frm.mk u (bif (to % 3) != 2 then 0 else t) M).msg=M)))<|?_
 have hs:(decide ((Frm.mk u (bif (to % 3) != 2 then 0 else t) M).msg=M))=true:=by exact decide_eq_true rfl
 rw [hs]
 have U108:=ut0 U100 hu107
 exact ⟨rfl,U108⟩
 refine Pl 7<|nt<|rt<|rr (.bool false)<|?_
 have hs:false=true:=by have q:=q102; rw [q101] at q; simp at q
 rw [hs]
 exact ⟨rfl,U100⟩
 have q101p:=eq_of_bnei q101
 refine skn<|sg<|Pl 7<|L1<|Ola B89 0 2<|Pl 2<|L1<|Olb r97 0<|Pl 2<|L1<|Or_ (.bool ((((Frm.mk u (bif (to % 3) != 2 then 0 else t) M).unit) == u) && (((Frm.mk u (bif (to % 3) != 2 then 0 else t) M).tid) == t))) (run_headeq ((Frm.mk u (bif (to % 3) != 2 then 0 else t) M).unit) ((Frm.mk u (bif (to % 3) != 2 then 0 else t) M).tid) u t rfl (by kernel_rfl) (by kernel_rfl) rfl)<|Pl 2<|bl 108 (((((Frm.mk u (bif (to % 3) != 2 then 0 else t) M).unit) == u) && (((Frm.mk u (bif (to % 3) != 2 then 0 else t) M).tid) == t))) (fun q109=>?_) (fun q109=>?_)
 have q109a:=(and_t q109).1
 have q109b:=(and_t q109).2
 have q109ap:=eq_of_beqi q109a
 have q109bp:=eq_of_beqi q109b
 refine Pl 1<|L1<|Ola B89 2 22<|Pl 1<|L1<|Ola r97 2 22<|?_
 have U110:=u1 hu87 hu90 (nr hg85)
 have r111:=MsgRd.upd hM78 U110 safe0
 have r112:=MsgRd.old r26 U96
 refine L1<|Oc<|m1 (same7_any r111 r112) fun w113 hu114=>Pl 2<|nt<|rt<|rr (.bool (decide ((Frm.mk u (bif (to % 3) != 2 then 0 else t) M).msg=M)))<|?_
 have hs:(decide ((Frm.mk u (bif (to % 3) != 2 then 0 else t) M).msg=M))=true:=by exact decide_eq_true rfl
 rw [hs]
 have U115:=ut0 U100 hu114
 exact ⟨rfl,U115⟩
 refine Pl 7<|nt<|rt<|rr (.bool false)<|?_
 have hs:false=true:=by have q:=q109; rw [q101] at q; simp at q
 rw [hs]
 exact ⟨rfl,U100⟩
 refine skn<|sg<|Pl 1<|L0<|Oe (.int .u8 (Int.tmod fr 3)) (.int .u8 (fr % 3)) (congrArg (Value.int .u8) (Int.tmod_eq_emod_of_nonneg (by omega)))<|L0<|Oi (fr % 3)<|Pl 1<|ng<|Pl 1<|L0<|Oe (.int .u8 (Int.tmod to 3)) (.int .u8 (to % 3)) (congrArg (Value.int .u8) (Int.tmod_eq_emod_of_nonneg (by omega)))<|?_
 refine L0<|Oi (to % 3)<|Pl 1<|ng<|Pl 2<|?_
 have r116:=ub hu21 r17
 refine L0<|Olw r116<|?_
 have r117:=MsgRd.old r19 hu21
 refine wo (aduW (fr % 3) 0 u t M) (fun hX119=>?_) (fun l118 hX119=>?_)
 refine L0<|Oc (args:=#[.int .i64 (fr % 3),.int .i64 0,.agg (fcl u t M xM)])<|m1 (adu_write_n r117 (fewB_few q23n) (by omega) (by omega) hX119) fun w120 hu121=>Pl 5<|nt<|sq<|sg<|Pl 2<|nt<|c1<|sg<|Pl 7<|nl<|?_
 refine tn<|rt<|tr<|rr (.bool true)<|?_
 have U122:=ut0 U22 hu121
 exact ⟨rfl,U122⟩
 have hl123:=aduW_le (r117.rngs).1 hX119
 obtain ⟨b124,hT126,hz129,b125,hT127,hz130,hP128⟩:=adu_there (three to) (show 0=0∨0=1 by decide) hbu hbt hcM hdM (fun l hz=>pduW_byts hM (fewB_few q23n) l hz) hX119
 refine L0<|Oc (args:=#[.int .i64 (fr % 3),.int .i64 0,.agg (fcl u t M xM)])<|e2 (adu_write_s r117 (fewB_few q23n) (by omega) (by omega) hX119) fun v133 w132 ho134 hu135=>?_
 obtain ⟨A136,cp137,rfl,rd139,hg140⟩:=NewB.shape ho134
 refine Pl 5<|nt<|sq<|sg<|Pl 2<|nt<|c0<|skn<|sg<|?_
 refine Pl 4<|L0<|Oc<|e2 (adu_turn_s rd139 (by omega) hT126) fun v142 w141 ho143 hu144=>?_
 obtain ⟨A145,cp146,rfl,rd148,hg149⟩:=NewB.shape ho143
 refine Pl 5<|ng<|Pl 4<|L0<|Oc<|e2 (adu_turn_s rd148 (by omega) hT127) fun v151 w150 ho152 hu153=>?_
 obtain ⟨A154,cp155,rfl,rd157,hg158⟩:=NewB.shape ho152
 refine Pl 5<|nt<|sq<|sg<|Pl 10<|L1<|Oc<|m1 (adu_most (k:=(to % 3))) fun w159 hu160=>Pl 2<|nt<|?_
 have U161:=ut0 U22 hu135
 have U162:=ut0 U161 hu144
 have U163:=ut0 U162 hu153
 have U164:=ut0 U163 hu160
 refine cb ((decide ((aduM (to % 3)) < ((b124.length:Nat) : Int)))) (fun q165=>?_) (fun q165=>?_)
 have q165p:=of_decide_eq_true q165
 refine sg<|Pl 1<|nt<|rt<|tr<|rr (.bool false)<|?_
 have hs:false=true:=by have y:=of_decide_eq_true q165; omega
 rw [hs]
 exact ⟨rfl,U164⟩
 have q165p:=of_decide_eq_false q165
 refine skn<|sg<|Pl 3<|?_
 have r166:=RdB.upd' rd157 hu160 safe0
 refine L0<|Oc<|e2 (adu_parse_x hP128 r166 (by omega)) fun x167 w168 hx173 hu172=>?_
 obtain ⟨hM169,hF170,hF171⟩:=hx173
 refine Pl 3<|L0<|Oal frmZ fun g174 w175 hg176 B177 hu178=>L0<|Osw B177 (fcl ((Frm.mk u (bif (to % 3) != 2 then 0 else t) M).unit) ((Frm.mk u (bif (to % 3) != 2 then 0 else t) M).tid) ((Frm.mk u (bif (to % 3) != 2 then 0 else t) M).msg) x167) fun w179 B180 hu181=>Pl 1<|ng<|Pl 2<|?_
 have U182:=ut0 hu135 hu144
 have U183:=ut0 U182 hu153
 have U184:=ut0 U183 hu160
 have U185:=ut0 U184 hu172
 have U186:=ut0 U185 hu178
 have U187:=u1 U186 hu181 (ni U185.size hg176)
 have r188:=ub U187 r116
 refine L0<|Olb r188 1<|Pl 1<|nt<|sq<|sg<|Pl 2<|nt<|?_
 have U189:=ut0 U164 hu172
 have U190:=ut0 U189 hu178
 have U191:=u1 U190 hu181 (ni U189.size hg176)
 refine cb (((to % 3) != 2)) (fun q192=>?_) (fun q192=>?_)
 have q192p:=ne_of_bnei q192
 refine go<|Pl 1<|ng<|Pl 7<|L1<|Ola B180 0 2<|Pl 2<|L1<|Olb r188 0<|Pl 2<|L1<|Or_ (.bool ((((Frm.mk u (bif (to % 3) != 2 then 0 else t) M).unit) == u) && (((Frm.mk u (bif (to % 3) != 2 then 0 else t) M).tid) == 0))) (run_headeq ((Frm.mk u (bif (to % 3) != 2 then 0 else t) M).unit) ((Frm.mk u (bif (to % 3) != 2 then 0 else t) M).tid) u 0 rfl (by kernel_rfl) (by kernel_rfl) rfl)<|Pl 2<|bl 108 (((((Frm.mk u (bif (to % 3) != 2 then 0 else t) M).unit) == u) && (((Frm.mk u (bif (to % 3) != 2 then 0 else t) M).tid) == 0))) (fun q193=>?_) (fun q193=>?_)
 have q193a:=(and_t q193).1
 have q193b:=(and_t q193).2
 have q193ap:=eq_of_beqi q193a
 have q193bp:=eq_of_beqi q193b
 refine Pl 1<|L1<|Ola B180 2 22<|Pl 1<|L1<|Ola r188 2 22<|?_
 have U194:=u1 hu178 hu181 (nr hg176)
 have r195:=MsgRd.upd hM169 U194 safe0
 have r196:=MsgRd.old r117 U187
 refine L1<|Oc<|m1 (same7_any r195 r196) fun w197 hu198=>Pl 2<|nt<|rt<|rr (.bool (decide ((Frm.mk u (bif (to % 3) != 2 then 0 else t) M).msg=M)))<|?_
 have hs:(decide ((Frm.mk u (bif (to % 3) != 2 then 0 else t) M).msg=M))=true:=by exact decide_eq_true rfl
 rw [hs]
 have U199:=ut0 U191 hu198
 exact ⟨rfl,U199⟩
 refine Pl 7<|nt<|rt<|rr (.bool false)<|?_
 have hs:false=true:=by have q:=q193; rw [q192] at q; simp at q
 rw [hs]
 exact ⟨rfl,U191⟩
 have q192p:=eq_of_bnei q192
 refine skn<|sg<|Pl 7<|L1<|Ola B180 0 2<|Pl 2<|L1<|Olb r188 0<|Pl 2<|L1<|Or_ (.bool ((((Frm.mk u (bif (to % 3) != 2 then 0 else t) M).unit) == u) && (((Frm.mk u (bif (to % 3) != 2 then 0 else t) M).tid) == t))) (run_headeq ((Frm.mk u (bif (to % 3) != 2 then 0 else t) M).unit) ((Frm.mk u (bif (to % 3) != 2 then 0 else t) M).tid) u t rfl (by kernel_rfl) (by kernel_rfl) rfl)<|Pl 2<|bl 108 (((((Frm.mk u (bif (to % 3) != 2 then 0 else t) M).unit) == u) && (((Frm.mk u (bif (to % 3) != 2 then 0 else t) M).tid) == t))) (fun q200=>?_) (fun q200=>?_)
 have q200a:=(and_t q200).1
 have q200b:=(and_t q200).2
 have q200ap:=eq_of_beqi q200a
 have q200bp:=eq_of_beqi q200b
 refine Pl 1<|L1<|Ola B180 2 22<|Pl 1<|L1<|Ola r188 2 22<|?_
 have U201:=u1 hu178 hu181 (nr hg176)
 have r202:=MsgRd.upd hM169 U201 safe0
 have r203:=MsgRd.old r117 U187
 refine L1<|Oc<|m1 (same7_any r202 r203) fun w204 hu205=>Pl 2<|nt<|rt<|rr (.bool (decide ((Frm.mk u (bif (to % 3) != 2 then 0 else t) M).msg=M)))<|?_
 have hs:(decide ((Frm.mk u (bif (to % 3) != 2 then 0 else t) M).msg=M))=true:=by exact decide_eq_true rfl
 rw [hs]
 have U206:=ut0 U191 hu205
 exact ⟨rfl,U206⟩
 refine Pl 7<|nt<|rt<|rr (.bool false)<|?_
 have hs:false=true:=by have q:=q200; rw [q192] at q; simp at q
 rw [hs]
 exact ⟨rfl,U191⟩
end Go.Proofs.YtpglhicfhppaiaaGreat
namespace Go.Proofs.YtpglhicfhppaiaaGreat
open Go.ChangeShapes Go.WideShapes Go.ChangeAt Go.RowKit
theorem own:ownKnob Tryz.prog.godebug=none:=by kernel_rfl
theorem laidOut:laidOutB Tryz.prog=true:=by kernel_rfl
set_option maxRecDepth 100000 in
theorem lifted (os:Os) (started:os.Started) (H:Type) (enc:TypeId × Value→H) :
    ReturnsInHanded {} Tryz.checked os 3 .any (Rows.aduThereSpec.pre6 enc Tryz.prog Tryz.f3 Rows.aduThereRow.domain false) (Rows.aduThereSpec.post enc Tryz.prog Tryz.f3 false true false false):=by
  refine returnsInHanded_of_change (C:=Tryz.checked) own started (by kernel_rfl) Tryz.func3
    (ChangeSpec.witness6 (enc:=enc) (C:=Tryz.checked) false ⟨#[],#[.int .u8 0,.int .u8 0,.bool false,.agg #[.int .u8 0,.int .u16 0,.int .u8 0,.int .u8 0,.int .u16 0,.int .u16 0,.int .u16 0,.int .u16 0,.int .u16 0,.int .u16 0,.int .u16 0,.int .u16 0,.int .u16 0,.int .u16 0,.slice none 0 0,.slice none 0 0,.slice none 0 0,.slice none 0 0,.int .u8 0,.int .u8 0,.int .u8 0,.int .u8 0,.int .u8 0,.slice none 0 0]],[]⟩ 8 (by kernel_rfl) (by kernel_rfl) (by kernel_rfl) (by kernel_rfl)) ?_
  intro W base args ds gs before hval0 hW hcnd _
  have hval:∀ (j:Nat) t v,Tryz.f3.params[j]? = some t→args[j]? = some v→Value.okWide Tryz.prog W .any base t v:=hval0
  have hW':=hW
  obtain ⟨p,q,hA0,hV,rfl,hfz,hnd⟩:=hW
  have hA:DataW.TrodAll enc Tryz.prog W 0 (fun _=>true) true Tryz.f3.params.toList args.toList ds p:=hA0
  rw [Tryz.params3] at hA hval
  obtain ⟨v0,vs0,d0,ds0,p0,q0,hargs,rfl,rfl,h0,r0⟩:=trodAll_cons hA
  obtain ⟨v1,vs1,d1,ds1,p1,q1,rfl,rfl,rfl,h1,r1⟩:=trodAll_cons r0
  obtain ⟨v2,vs2,d2,ds2,p2,q2,rfl,rfl,rfl,h2,r2⟩:=trodAll_cons r1
  obtain ⟨v3,vs3,d3,ds3,p3,q3,rfl,rfl,rfl,h3,r3⟩:=trodAll_cons r2
  obtain ⟨rfl,rfl,rfl⟩:=trodAll_nil r3
  obtain rfl:args = #[v0,v1,v2,v3]:=by cases args; simp_all
  obtain ⟨rfl,rfl⟩:=trodVars_none hV
  obtain ⟨a0,rfl,rfl,rfl,w0⟩:=open_int Tryz.underlying5 (hval 0 5 v0 rfl rfl) h0
  have b0:=bounds_u8 w0
  obtain ⟨a1,rfl,rfl,rfl,w1⟩:=open_int Tryz.underlying5 (hval 1 5 v1 rfl rfl) h1
  have b1:=bounds_u8 w1
  obtain ⟨a2,rfl,rfl,rfl⟩:=open_bool Tryz.underlying4 (hval 2 4 v2 rfl rfl) h2
  have k3:=h3
  have lt3:∀ x∈p3,x.block < W.heap.size:=by obtain ⟨m,hm⟩:=k3; exact DataW.trod_lt m _ _ _ hm
  obtain ⟨u3,t3,M3,x3,rfl,R3,bu3,bt3⟩:=frm_arg ⟨_,hval 3 33 v3 rfl rfl⟩ h3
  clear hA0 hval0
  refine (lawAduThere (ans:=a2) (hfr:=(by omega)) (hto:=(by omega)) R3 bu3 bt3).mono fun e W' ⟨he,hu⟩=>?_
  have bel:=upd_below hu
  subst he
  exact ⟨_,rfl,_,_,_,[],_,[],hW',trodAll_mk1 (shut_bool Tryz.underlying4 _),(trodAll_cons_mk (shut_int Tryz.underlying5 w0) (trodAll_cons_mk (shut_int Tryz.underlying5 w1) (trodAll_cons_mk (shut_bool Tryz.underlying4 _) (trodAll_cons_mk (Below.trod laidOut (by kernel_rfl) (of_decide_eq_true (by kernel_rfl)) k3 bel lt3) trodAll_mk0)))),rfl,bel.frame _,fun h=>by cases h⟩
theorem over:Rows.aduThereRow.holds Tryz.pinned (OpenSpec.ofChange Rows.aduThereSpec) :=
  OpenClaim.holds_of_wide 3 Tryz.f3 rfl rfl rfl rfl rfl rfl rfl ⟨rfl,rfl,rfl,rfl,rfl⟩ rfl rfl rfl rfl rfl (by kernel_rfl) Tryz.func3 (by kernel_rfl)
    (of_decide_eq_true (by kernel_rfl)) (by unfold Func.isWrapper; first | (rw [if_pos (by decide +kernel)]; kernel_rfl) | (rw [if_neg (by decide +kernel)]; exact ⟨rfl,rfl⟩))
    (fun os started H enc _=>lifted os started H enc)
theorem proved:Rows.AduThereSaid:=over
#print axioms proved
end Go.Proofs.YtpglhicfhppaiaaGreat
