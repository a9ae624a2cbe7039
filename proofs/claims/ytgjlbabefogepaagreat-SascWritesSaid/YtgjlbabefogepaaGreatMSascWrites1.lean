/- The statement SascWrites holds; no condition of its own. -/
import Derived.Test.YtgjlbabefogepaaGreatKA1
import Derived.Test.YtgjlbabefogepaaGreatKA2
import Derived.Test.YtgjlbabefogepaaGreatKA3
import Derived.Test.YtgjlbabefogepaaGreatKA4
import Derived.Test.YtgjlbabefogepaaGreatKA5
import Derived.Test.YtgjlbabefogepaaGreatKB1
import Derived.Test.YtgjlbabefogepaaGreatRows
import Derived.WalkKit
import Derived.ProofKit
import Derived.OpenShut
import Derived.ShutString
import Derived.ChangeOld
import Derived.Below
set_option linter.unusedVariables false
set_option linter.unusedSimpArgs false
namespace Go.Proofs.YtgjlbabefogepaaGreat
open Go.RowKit
def echoM (M:Msg) : Msg:={ Msg.zero with code:=M.code,addr:=M.addr,count:=M.count }
theorem echo_rd {m:Bool} {w:World} {cs:Array Value} {M:Msg} (h:MsgRd m w cs.toList M) (W:World) : MsgRd true W (mG M.code 0 M.addr M.count 0 0 0 0 0 0 0 0 nS nS nS nS 0 0 0 0 0 nS).toList (echoM M):=by
  obtain ⟨vw,vb,vd,vr,vo,h0,hw,hbt,hd,hr,ho,hR⟩:=h
  exact ⟨nilS,nilS,nilS,nilS,nilS,rfl,RdG.nil ..,RdG.nil ..,RdG.nil ..,RdG.nil ..,RdG.nil ..,{ MsgRng.zero with code:=hR.code,addr:=hR.addr,count:=hR.count }⟩
theorem echo_few (M:Msg) : MsgFew (echoM M):=⟨Nat.zero_le _,Nat.zero_le _,Nat.zero_le _,Nat.zero_le _,(fun r h=>nomatch h),Nat.zero_le _,(fun r h=>nomatch h)⟩
theorem rng_ac {m:Bool} {w:World} {cs:Array Value} {M:Msg} (h:MsgRd m w cs.toList M) : (0≤M.addr∧M.addr < 65536)∧(0≤M.count∧M.count < 65536):=by
  obtain ⟨vw,vb,vd,vr,vo,h0,hw,hbt,hd,hr,ho,hR⟩:=h
  exact ⟨hR.addr,hR.count⟩
theorem fail0 {M:Msg} {l:List Int} (h:pduW 0 M=some l) : M.fail=0:=by
  unfold pduW at h
  split at h
  · rename_i hf
    rw [if_pos (by decide)] at h
    cases h
  · rename_i hf
    simpa using hf
theorem pduW_fam {M:Msg} (hf:M.fail=0) (h:famW (cfam M.code) 0 M=famW (cfam M.code) 1 M) : pduW 0 M=pduW 1 M:=by
  unfold pduW
  rw [hf,if_neg (by decide),if_neg (by decide),h]
theorem writeOf_eq {form:Int→Int→Cur→Option (Cur × Msg)} {lay:Int→Msg→List Int} {M:Msg} (h1:∀ C,form 0 M.code C=form 1 M.code C) (h2:lay 0 M=lay 1 M) : writeOf (parseOf form) lay 0 M=writeOf (parseOf form) lay 1 M:=by
  have h3:∀ b,parseOf form 0 M.code b=parseOf form 1 M.code b:=fun b=>by
    unfold parseOf
    rw [if_pos (Or.inl rfl),if_pos (Or.inr rfl),h1]
  unfold writeOf
  rw [h2,h3]
theorem filesB_21:∀ L,filesB 0 21 L=filesB 1 21 L
  | []=>rfl
  | r :: L=>by
    show recB 0 21 r++filesB 0 21 L=recB 1 21 r++filesB 1 21 L
    rw [filesB_21 L]
    rfl
theorem echo_same {M:Msg} {l:List Int} (hc:M.code=5∨M.code=6∨M.code=21∨M.code=22) (h:pduW 0 M=some l) : pduW 1 M=some l:=by
  rw [← h]
  refine (pduW_fam (fail0 h) ?_).symm
  rcases hc with hc | hc | hc | hc
  · rw [hc]
    refine writeOf_eq (fun C=>?_) ?_
    · rw [hc]; rfl
    · unfold coilsLay; rw [hc]; rfl
  · rw [hc]
    refine writeOf_eq (fun C=>?_) ?_
    · rw [hc]; rfl
    · unfold regsLay; rw [hc]; rfl
  · rw [hc]
    refine writeOf_eq (fun C=>?_) ?_
    · rw [hc]; rfl
    · rw [filesLay_eq,filesLay_eq,hc,filesB_21]
  · rw [hc]
    refine writeOf_eq (fun C=>?_) ?_
    · rw [hc]; rfl
    · unfold regsLay; rw [hc]; rfl
theorem wd1 {a:Int} {r:List Int} (ha:0≤a∧a < 65536) : (Cur.mk (putW [a]++r) false 0).wordV=a∧(Cur.mk (putW [a]++r) false 0).wordsC 1=⟨r,false,0⟩:=by
  have hb:(Cur.mk (putW [a]++r) false 0).wbad 1=false:=by
    unfold Cur.wbad
    simp only [putW,List.length_append,List.length_cons,List.length_nil,Bool.or_eq_false_iff,decide_eq_false_iff_not]
    omega
  have hf:(Cur.mk (putW [a]++r) false 0).fails (2 * 1)=false:=by
    unfold Cur.fails
    simp [putW]
    omega
  constructor
  · unfold Cur.wordV Cur.wordsR Cur.bytesR
    rw [hb,hf]
    show (wordTake [a / 256,a % 256]).getD 0 0=a
    unfold wordTake
    rw [if_pos (by simp)]
    show a / 256 * 256 + a % 256=a
    omega
  · unfold Cur.wordsC Cur.bytesC
    rw [hb,hf]
    rfl
theorem need_t (C:Cur) (x:Int) : C.need true x=C:=by
  unfold Cur.need
  rw [if_neg (by rintro ⟨_,h⟩; cases h)]
theorem wd2 {a n:Int} (ha:0≤a∧a < 65536) (hn:0≤n∧n < 65536) : (Cur.mk (putW [a,n]) false 0).wordV=a∧(Cur.mk (putW [a,n]) false 0).wordsC 1=⟨putW [n],false,0⟩∧(Cur.mk (putW [n]) false 0).wordV=n∧(Cur.mk (putW [n]) false 0).wordsC 1=⟨[],false,0⟩:=by
  have h1:=wd1 (r:=putW [n]) ha
  have h2:=wd1 (r:=[]) hn
  rw [List.append_nil] at h2
  exact ⟨h1.1,h1.2,h2.1,h2.2⟩
theorem asks_ok {a n most c:Int} (ha:0≤a∧a < 65536) (hn:0≤n∧n < 65536) (h1:1≤n∧n≤most) (h2:within a n=true) : asksR most c ⟨putW [a,n],false,0⟩=(⟨[],false,0⟩,{ Msg.zero with code:=c,addr:=a,count:=n }):=by
  obtain ⟨e1,e2,e3,e4⟩:=wd2 ha hn
  unfold asksR spanC spanC1
  rw [e2,e1,e3,e4,h2,decide_eq_true h1.1,decide_eq_true h1.2]
  rw [show (true && true)=true from rfl,need_t,need_t]
theorem rasks_ok {a n most c:Int} (ha:0≤a∧a < 65536) (hn:0≤n∧n < 65536) (h1:1≤n∧n≤most) (h2:within a n=true) : rasksR most c ⟨putW [a,n],false,0⟩=(⟨[],false,0⟩,{ Msg.zero with code:=c,addr:=a,count:=n }):=by
  obtain ⟨e1,e2,e3,e4⟩:=wd2 ha hn
  unfold rasksR rspanC
  rw [e2,e1,e3,e4,h2,decide_eq_true h1.1,decide_eq_true h1.2]
  rw [show (true && true)=true from rfl,need_t,need_t]
theorem span_e {C:Cur} {most:Int} (h:(spanC C most).e=0) : (1≤(C.wordsC 1).wordV∧(C.wordsC 1).wordV≤most)∧within C.wordV (C.wordsC 1).wordV=true:=by
  obtain ⟨h1,h2⟩:=nd_ok (by decide) h
  obtain ⟨_,h3⟩:=nd_ok (by decide) h1
  simp only [Bool.and_eq_true,decide_eq_true_eq] at h3
  exact ⟨h3,h2⟩
theorem rspan_e {C:Cur} {a most:Int} (h:(rspanC C a most).e=0) : (1≤C.wordV∧C.wordV≤most)∧within a C.wordV=true:=by
  obtain ⟨h1,h2⟩:=nd_ok (by decide) h
  obtain ⟨_,h3⟩:=nd_ok (by decide) h1
  simp only [Bool.and_eq_true,decide_eq_true_eq] at h3
  exact ⟨h3,h2⟩
theorem parse_fin {form:Int→Int→Cur→Option (Cur × Msg)} {dir c:Int} {b:List Int} {M:Msg} (hd:dir=0∨dir=1) (h:parseOf form dir c b=(M,0)) : ∃ C',form dir c ⟨b,false,0⟩=some (C',M)∧C'.endC.e=0:=by
  unfold parseOf at h
  rw [if_pos hd] at h
  split at h
  · cases h
  · rename_i r hr
    unfold finish at h
    split at h
    · rename_i he
      injection h with h
      obtain ⟨C',M'⟩:=r
      have h:M'=M:=h
      subst h
      exact ⟨C',hr,he⟩
    · rename_i he
      injection h with _ h
      exact absurd h he
theorem end0 {C:Cur} (h:C.endC.e=0) : C.e=0:=(nd_ok (by decide) h).1
theorem wo_e {C:Cur} {n:Int} (h:(C.wordsC n).e=0) : C.e=0:=by
  unfold Cur.wordsC at h
  split at h
  · exact (by_ok h).1
  · exact (by_ok h).1
theorem many_ok {M:Msg} {l:List Int} (hc:M.code=15∨M.code=16) (h:pduW 0 M=some l) : (∃ r,l=[M.code]++(putW [M.addr,M.count]++r)∧1≤r.length)∧(1≤M.count∧(M.code=15→M.count≤1968)∧(M.code=16→M.count≤123))∧within M.addr M.count=true:=by
  have hf:=fail0 h
  unfold pduW at h
  rw [hf,if_neg (by decide)] at h
  split at h
  · cases h
  rename_i l' hl'
  split at h
  · cases h
  injection h with h
  subst h
  rcases hc with hc | hc
  · rw [hc] at hl' ⊢
    obtain ⟨h1,h2⟩:=writeOf_some (show writeOf parseCoils coilsLay 0 M=some l' from hl')
    rw [hc] at h1
    obtain ⟨C',h3,h4⟩:=parse_fin (Or.inl rfl) h1
    have h3:some (csmR 15 ⟨l',false,0⟩)=some (C',M):=h3
    obtain ⟨rfl,rfl⟩:=some_pair h3
    obtain ⟨h6,_⟩:=nd_ok (by decide) (end0 h4)
    obtain ⟨h7,_⟩:=nd_ok (by decide) (by_ok h6).1
    obtain ⟨h8,h9⟩:=span_e (by_ok h7).1
    refine ⟨⟨[((packB (csmR 15 ⟨l',false,0⟩).2.bits).length:Int) % 256]++packB (csmR 15 ⟨l',false,0⟩).2.bits,?_,by simp⟩,⟨h8.1,fun _=>h8.2,fun h=>absurd h (by decide)⟩,h9⟩
    rw [← List.append_assoc (putW _)]
    exact congrArg _ h2
  · rw [hc] at hl' ⊢
    obtain ⟨h1,h2⟩:=writeOf_some (show writeOf parseRegs regsLay 0 M=some l' from hl')
    rw [hc] at h1
    obtain ⟨C',h3,h4⟩:=parse_fin (Or.inl rfl) h1
    have h3:some (rmanyR 16 ⟨l',false,0⟩)=some (C',M):=h3
    obtain ⟨rfl,rfl⟩:=some_pair h3
    have h6:(rmanyC ⟨l',false,0⟩).e=0:=wo_e (end0 h4)
    obtain ⟨h7,_⟩:=nd_ok (by decide) h6
    obtain ⟨h8,h9⟩:=rspan_e (by_ok h7).1
    refine ⟨⟨[(2 * ((rmanyR 16 ⟨l',false,0⟩).2.words.length:Int)) % 256]++putW (rmanyR 16 ⟨l',false,0⟩).2.words,?_,by simp⟩,⟨h8.1,(fun h=>absurd h (by decide)),fun _=>h8.2⟩,h9⟩
    rw [← List.append_assoc (putW _)]
    exact congrArg _ h2
theorem echo_cut {M:Msg} {l:List Int} (hc:M.code=15∨M.code=16) (ha:0≤M.addr∧M.addr < 65536) (hn:0≤M.count∧M.count < 65536) (h:pduW 0 M=some l) : 6≤l.length∧pduW 1 (echoM M)=some (l.take 5):=by
  obtain ⟨⟨r,rfl,hr⟩,⟨h1,h2,h3⟩,h4⟩:=many_ok hc h
  refine ⟨by simp [putW]; omega,?_⟩
  show pduW 1 (echoM M)=some ([M.code]++putW [M.addr,M.count])
  have hw:famW (cfam M.code) 1 (echoM M)=some (putW [M.addr,M.count]):=by
    rcases hc with hc | hc
    · rw [hc]
      have h5:=h2 hc
      refine writeOf_ok (parse:=parseCoils) (lay:=coilsLay) ?_ ?_
      · unfold coilsLay
        rw [show (echoM M).code=15 from hc]
        rfl
      · show parseOf coilsForm 1 M.code _=_
        rw [hc]
        unfold parseOf
        rw [if_pos (Or.inr rfl)]
        show finish (asksR 1968 15 ⟨putW [M.addr,M.count],false,0⟩).2 (asksR 1968 15 ⟨putW [M.addr,M.count],false,0⟩).1=_
        rw [asks_ok ha hn ⟨h1,h5⟩ h4]
        show ((_:Msg),(0:Int))=_
        unfold echoM
        rw [hc]
    · rw [hc]
      have h5:=h3 hc
      refine writeOf_ok (parse:=parseRegs) (lay:=regsLay) ?_ ?_
      · unfold regsLay
        rw [show (echoM M).code=16 from hc]
        rfl
      · show parseOf regsForm 1 M.code _=_
        rw [hc]
        unfold parseOf
        rw [if_pos (Or.inr rfl)]
        show finish (rasksR 123 16 ⟨putW [M.addr,M.count],false,0⟩).2 (rasksR 123 16 ⟨putW [M.addr,M.count],false,0⟩).1=_
        rw [rasks_ok ha hn ⟨h1,h5⟩ h4]
        show ((_:Msg),(0:Int))=_
        unfold echoM
        rw [hc]
  unfold pduW
  show (if ((0:Int) != 0)=true then _ else match famW (cfam M.code) 1 (echoM M) with | none=>none | some l=>if decide (253≤(l.length:Int)) then none else some ([M.code]++l))=_
  rw [if_neg (by decide),hw]
  rfl
end Go.Proofs.YtgjlbabefogepaaGreat
namespace Go.Proofs.YtgjlbabefogepaaGreat
open Go.RowKit
theorem pduW_byts {m:Bool} {cs:Array Value} {M:Msg} {w:World} {dir:Int} (h:MsgRd m w cs.toList M) (hf:MsgFew M) (l:List Int) (hX:pduW dir M=some l) : Byts l:=by
  obtain ⟨e,w',_,hR,_⟩:=pdu_write (dir:=dir) h hf []
  rw [hX] at hR
  obtain ⟨v,_,ho,_⟩:=hR
  exact RdB.range ho.rd
def ascX (u:Int) (l:List Int) : List Int:=([u]++l)++[lrcOf ([u]++l)]
theorem ascX_len (u:Int) (l:List Int) : (ascX u l).length=l.length + 2:=by simp [ascX]
theorem ascB_X (u:Int) (l:List Int) : ascB u l=([58]++putH (ascX u l))++[13,10]:=rfl
theorem ascB_len (u:Int) (l:List Int) : (ascB u l).length=2 * l.length + 7:=by
  rw [ascB_X]
  simp only [List.length_append,List.length_cons,List.length_nil,putH_len,ascX_len]
  omega
theorem ascX_byts {u:Int} {l:List Int} (hu:0≤u∧u < 256) (hl:Byts l) : Byts (ascX u l):=by
  refine byts_app (byts_app ?_ hl) ?_
  · intro x hx; rw [List.mem_singleton] at hx; rw [hx]; exact hu
  · intro x hx; rw [List.mem_singleton] at hx; rw [hx]; exact lrcOf_rng _
theorem ascW_some {dir u t:Int} {M:Msg} {b:List Int} (h:ascW dir u t M=some b) : t=0∧∃ l,pduW dir M=some l∧b=ascB u l∧l.length≤253:=by
  unfold ascW at h
  split at h
  · cases h
  · rename_i l hl
    have hle:=pduW_len hl
    split at h
    · cases h
    · rename_i ht
      injection h with h
      exact ⟨by simpa using ht,l,hl,h.symm,hle⟩
theorem ascW_le {dir u t:Int} {M:Msg} {b:List Int} (hc:0≤M.code∧M.code < 256) (h:ascW dir u t M=some b) : 9≤b.length∧b.length≤513:=by
  obtain ⟨_,l,h1,rfl,h2⟩:=ascW_some h
  have:=pduW_pos hc h1
  rw [ascB_len]
  omega
theorem ascW_none {dir u t u':Int} {M:Msg} (h:ascW dir u t M=none) : ascW dir u' t M=none:=by
  unfold ascW at h ⊢
  split at h
  · rfl
  · split at h
    · rename_i h2
      rw [if_pos h2]
    · cases h
theorem ascB_cut (s:List Int) : (([58]++s)++[13,10]).drop 1=s++[13,10]:=rfl
theorem suf_app (s:List Int) : sufB (s++[13,10])=true:=by
  unfold sufB
  have e:(((s++[13,10]).length:Nat) : Int)=(s.length:Int) + 2:=by simp
  have e2:((s.length:Int) + 2 - 2).toNat=s.length:=by omega
  rw [e,e2,List.drop_left' rfl]
  simp
  omega
theorem digS_app (s:List Int) : digS (([58]++s)++[13,10])=some s:=by
  rw [digS_t rfl (by rw [ascB_cut]; exact suf_app s),ascB_cut]
  have e:(([58]++s)++[13,10]).length - 3=s.length:=by simp
  rw [e,List.take_left' rfl]
theorem digS_inv {b s:List Int} (h:digS b=some s) : b=([58]++s)++[13,10]:=by
  obtain ⟨h1,h2,rfl,h3⟩:=digS_some h
  cases b with
  | nil=>simp at h3
  | cons a r =>
    have ha:a=58:=h1
    subst ha
    have h2:sufB r=true:=h2
    have h4:=sufB_len h2
    unfold sufB at h2
    simp only [Bool.and_eq_true,decide_eq_true_eq] at h2
    have h5:=h2.2
    rw [show (((r.length:Nat) : Int) - 2).toNat=r.length - 2 from by omega] at h5
    show 58 :: r=58 :: (r.take ((58 :: r).length - 3)++[13,10])
    rw [show (58 :: r).length - 3=r.length - 2 from by simp only [List.length_cons]; omega,← h5,List.take_append_drop]
theorem lrcP_app (a b:List Int) : ∀ k,k≤a.length→lrcP (a++b) k=lrcP a k
  | 0,_=>rfl
  | k + 1,h=>by
    unfold lrcP
    rw [lrcP_app a b k (by omega),List.getD_eq_getElem?_getD,List.getD_eq_getElem?_getD,List.getElem?_append_left (by omega)]
theorem lrcS_snoc (a:List Int) (c:Int) : lrcS (a++[c])=(lrcS a + c) % 256:=by
  unfold lrcS
  have e:(a++[c]).length=a.length + 1:=by simp
  rw [e]
  show (lrcP (a++[c]) a.length + (a++[c]).getD a.length 0) % 256=_
  rw [lrcP_app a [c] _ (Nat.le_refl _)]
  simp
theorem lrcIs_snoc {a:List Int} {c:Int} (hc:0≤c∧c < 256) : lrcIs (a++[c])=true ↔ c=lrcOf a:=by
  have h:=lrcP_rng a a.length
  unfold lrcIs lrcOf
  rw [lrcS_snoc]
  have hs:lrcS a=lrcP a a.length:=rfl
  simp only [Bool.and_eq_true,decide_eq_true_eq,beq_iff_eq,List.length_append,List.length_cons,List.length_nil]
  constructor
  · intro k; omega
  · intro k; omega
theorem lrcIs_X (u:Int) (l:List Int) : lrcIs (ascX u l)=true:=(lrcIs_snoc (lrcOf_rng _)).2 rfl
theorem body_X (u:Int) (l:List Int) : ascBody (ascX u l)=l:=by
  unfold ascBody
  rw [ascX_len,show l.length + 2 - 1=([u]++l).length from by simp]
  unfold ascX
  rw [List.take_left' rfl]
  rfl
theorem ascP_S {dir:Int} {s:List Int} (hd:dir=0∨dir=1) (h:6≤s.length) (h2:s.length≤510) : ascP dir (([58]++s)++[13,10])=match takeH s with
      | none=>(Frm.zero,11)
      | some x=>if !(lrcIs x) then (Frm.zero,10) else frmOf (x.getD 0 0) 0 (pduP dir (ascBody x)):=by
  have hl:((([58]++s)++[13,10]).length:Int)=(s.length:Int) + 3:=by simp; omega
  unfold ascP
  rw [digS_app,hl]
  rw [if_neg (show ¬ (dir != 0 && dir != 1)=true by rcases hd with rfl | rfl <;> decide),if_neg (by simp only [decide_eq_true_eq]; omega),if_neg (by simp only [decide_eq_true_eq]; omega)]
  all_goals rfl
theorem ascP_B {dir u:Int} {l:List Int} (hd:dir=0∨dir=1) (hu:0≤u∧u < 256) (hb:Byts l) (h:0 < l.length) (h2:l.length≤253) : ascP dir (ascB u l)=frmOf u 0 (pduP dir l):=by
  rw [ascB_X,ascP_S hd (by rw [putH_len,ascX_len]; omega) (by rw [putH_len,ascX_len]; omega),takeH_put _ (ascX_byts hu hb)]
  show (if !(lrcIs (ascX u l)) then _ else _)=_
  rw [lrcIs_X,body_X]
  rfl
theorem asc_rt {dir u t:Int} {M:Msg} {b:List Int} (hd:dir=0∨dir=1) (hu:0≤u∧u < 256) (hc:0≤M.code∧M.code < 256) (hf:0≤M.fail∧M.fail < 256) (hb:∀ l,pduW dir M=some l→Byts l) (h:ascW dir u t M=some b) : ascP dir b=(⟨u,t,M⟩,0):=by
  obtain ⟨rfl,l,h1,rfl,h2⟩:=ascW_some h
  rw [ascP_B hd hu (hb l h1) (pduW_pos hc h1) h2,pdu_rt hd hc hf h1]
  rfl
theorem x_shape {x:List Int} (h:2≤x.length) (hb:Byts x) (k:lrcIs x=true) : x=ascX (x.getD 0 0) (ascBody x):=by
  have hne:x ≠ []:=fun e=>by rw [e] at h; simp at h
  obtain ⟨y,c,rfl⟩ : ∃ y c,x=y++[c]:=⟨x.dropLast,x.getLast hne,(List.dropLast_concat_getLast hne).symm⟩
  have hc:=hb c (by simp)
  have h1:=(lrcIs_snoc hc).1 k
  cases y with
  | nil=>simp at h
  | cons u l =>
    have e:ascBody ((u :: l)++[c])=l:=by
      unfold ascBody
      rw [show ((u :: l)++[c]).length - 1=(u :: l).length from by simp,List.take_left' rfl]
      rfl
    rw [e]
    show (u :: l)++[c]=([u]++l)++[lrcOf ([u]++l)]
    rw [h1]
    rfl
theorem ascP_few {dir:Int} {b:List Int} {F:Frm} {E:Int} (h:ascP dir b=(F,E)) : MsgFew F.msg∧(E ≠ 0→F=Frm.zero):=by
  have hz:∀ k:Int,((Frm.zero,k) : Frm × Int)=(F,E)→MsgFew F.msg∧(E ≠ 0→F=Frm.zero):=fun k h=>by
    injection h with h1 h2
    subst h1
    exact ⟨few_zero,fun _=>rfl⟩
  unfold ascP at h
  split at h
  · exact hz _ h
  split at h
  · exact hz _ h
  split at h
  · exact hz _ h
  split at h
  · exact hz _ h
  split at h
  · exact hz _ h
  rename_i s _ x hx
  split at h
  · exact hz _ h
  cases hp:pduP dir (ascBody x) with
  | mk M E' =>
    rw [hp] at h
    obtain ⟨k1,k2⟩:=pduP_few (fun y hy=>(takeH_some hx).2 y (List.mem_of_mem_take (List.mem_of_mem_drop hy))) hp
    have h:(if (E' != 0)=true then ((Frm.zero,E') : Frm × Int) else (⟨_,_,M⟩,0))=(F,E):=h
    split at h
    · exact hz _ h
    · injection h with h5 h6
      subst h5
      exact ⟨k1,fun hE=>absurd h6.symm hE⟩
theorem asc_back {dir:Int} {b:List Int} {F:Frm} {E:Int} {r:Option (List Int)} (hd:dir=0∨dir=1) (h:ascP dir b=(F,E)) (hE:(E == 0)=true) (hW:ascW dir F.unit F.tid F.msg=r) : r=some b∧9≤b.length∧b.length≤513:=by
  obtain rfl:E=0:=by simpa using hE
  unfold ascP at h
  split at h
  · cases h
  split at h
  · cases h
  rename_i h2
  split at h
  · cases h
  rename_i h3
  simp only [decide_eq_true_eq] at h2 h3
  cases hs:digS b with
  | none=>rw [hs] at h; cases h
  | some s =>
  rw [hs] at h
  cases hx:takeH s with
  | none=>dsimp only at h; rw [hx] at h; cases h
  | some x =>
  dsimp only at h
  rw [hx] at h
  dsimp only at h
  split at h
  · cases h
  rename_i h4
  have h4:lrcIs x=true:=by simpa using h4
  have hl:=digS_len hs
  have hxl:=takeH_len hx
  obtain ⟨e1,e2⟩:=takeH_some hx
  have hsh:=x_shape (by omega) e2 h4
  cases hp:pduP dir (ascBody x) with
  | mk M E' =>
    rw [hp] at h
    have h:(if (E' != 0)=true then ((Frm.zero,E') : Frm × Int) else (⟨_,_,M⟩,0))=(F,0):=h
    split at h
    · rename_i h5
      injection h with _ h6
      subst h6
      cases h5
    · rename_i h5
      injection h with h6 _
      subst h6
      obtain rfl:E'=0:=by simpa using h5
      have h7:pduW dir M=some (ascBody x):=pdu_back hd (fun y hy=>e2 y (List.mem_of_mem_take (List.mem_of_mem_drop hy))) hp
      rw [← hW]
      refine ⟨?_,by omega,by omega⟩
      show ascW dir (x.getD 0 0) 0 M=_
      unfold ascW
      rw [h7]
      show some (ascB _ _)=_
      rw [ascB_X,← hsh,← e1,← digS_inv hs]
theorem lrcP_set {x:List Int} {i:Nat} {v:Int} (hb:Byts x) (hi:i < x.length) (hv:0≤v∧v < 256) : ∀ k,lrcP (x.set i v) k=if i < k then (lrcP x k - x.getD i 0 + v) % 256 else lrcP x k
  | 0=>by simp [lrcP]
  | k + 1=>by
    have hk:=lrcP_set hb hi hv k
    have hr:=lrcP_rng x k
    unfold lrcP
    rw [hk]
    by_cases e:i=k
    · subst e
      rw [if_neg (by omega),if_pos (by omega)]
      rw [List.getD_eq_getElem?_getD,List.getElem?_set_self hi]
      show (lrcP x i + v) % 256=_
      omega
    · have e2:(x.set i v).getD k 0=x.getD k 0:=by rw [List.getD_eq_getElem?_getD,List.getElem?_set_ne e,← List.getD_eq_getElem?_getD]
      rw [e2]
      split
      · rw [if_pos (by omega)]; omega
      · rw [if_neg (by omega)]
theorem lrc_set {x:List Int} {i:Nat} {v:Int} (hb:Byts x) (hi:i < x.length) (hv:0≤v∧v < 256) (hne:v ≠ x.getD i 0) (h:lrcIs x=true) : lrcIs (x.set i v)=false:=by
  have hg:0≤x.getD i 0∧x.getD i 0 < 256:=by
    rw [List.getD_eq_getElem?_getD,List.getElem?_eq_getElem hi]
    exact hb _ (List.getElem_mem hi)
  have h1:=lrcP_set hb hi hv x.length
  rw [if_pos hi] at h1
  have h2:=lrcP_rng x x.length
  cases e:lrcIs (x.set i v) with
  | false=>rfl
  | true =>
    unfold lrcIs lrcOf lrcS at h e
    rw [List.length_set,h1] at e
    simp only [Bool.and_eq_true,decide_eq_true_eq,beq_iff_eq] at h e
    omega
theorem putH_get (x:List Int) : ∀ (i:Nat),i < x.length→(putH x).getD (2 * i) 0=hexD (x.getD i 0 / 16)∧(putH x).getD (2 * i + 1) 0=hexD (x.getD i 0 % 16):=by
  induction x with
  | nil=>intro i hi; simp at hi
  | cons c x ih =>
    intro i hi
    cases i with
    | zero=>exact ⟨rfl,rfl⟩
    | succ i =>
      have:=ih i (by simpa using hi)
      simpa [putH,Nat.mul_add] using this
theorem takeH_set {x:List Int} (hb:Byts x) : ∀ {j:Nat} {c:Int},j < 2 * x.length→c ≠ (putH x).getD j 0→takeH ((putH x).set j c)=none∨∃ v,takeH ((putH x).set j c)=some (x.set (j / 2) v)∧(0≤v∧v < 256)∧v ≠ x.getD (j / 2) 0:=by
  induction x with
  | nil=>intro j c hj; simp at hj
  | cons a x ih =>
    intro j c hj hc
    have ha:=hb a (List.mem_cons_self ..)
    have h1:=digV_hexD (n:=a / 16) (by omega)
    have h2:=digV_hexD (n:=a % 16) (by omega)
    have hx:Byts x:=fun y hy=>hb y (List.mem_cons_of_mem _ hy)
    match j,hj,hc with
    | 0,_,hc =>
      have hc:c ≠ hexD (a / 16):=hc
      show takeH (c :: hexD (a % 16) :: putH x)=none∨∃ v,takeH (c :: hexD (a % 16) :: putH x)=some (v :: x)∧_∧v ≠ a
      simp only [takeH]
      rw [h2,takeH_put x hx]
      by_cases hd:digV c < 0
      · left; rw [if_pos (Or.inl hd)]
      · right
        have h3:=hexD_digV (c:=c) (by omega)
        rw [if_neg (by omega)]
        refine ⟨_,rfl,by omega,fun e=>hc ?_⟩
        rw [← h3.1,show digV c=a / 16 from by omega]
    | 1,_,hc =>
      have hc:c ≠ hexD (a % 16):=hc
      show takeH (hexD (a / 16) :: c :: putH x)=none∨∃ v,takeH (hexD (a / 16) :: c :: putH x)=some (v :: x)∧_∧v ≠ a
      simp only [takeH]
      rw [h1,takeH_put x hx]
      by_cases hd:digV c < 0
      · left; rw [if_pos (Or.inr hd)]
      · right
        have h3:=hexD_digV (c:=c) (by omega)
        rw [if_neg (by omega)]
        refine ⟨_,rfl,by omega,fun e=>hc ?_⟩
        rw [← h3.1,show digV c=a % 16 from by omega]
    | j + 2,hj,hc =>
      have hc:c ≠ (putH x).getD j 0:=hc
      have:=ih hx (j:=j) (c:=c) (by simp only [List.length_cons] at hj; omega) hc
      show takeH (hexD (a / 16) :: hexD (a % 16) :: (putH x).set j c)=none∨∃ v,takeH (hexD (a / 16) :: hexD (a % 16) :: (putH x).set j c)=some ((a :: x).set ((j + 2) / 2) v)∧_∧v ≠ (a :: x).getD ((j + 2) / 2) 0
      simp only [takeH]
      rw [h1,h2,if_neg (by omega)]
      rcases this with h | ⟨v,h,hv,hne⟩
      · left; rw [h]; rfl
      · right
        rw [h,show (j + 2) / 2=j / 2 + 1 from by omega]
        exact ⟨v,by rw [show (16 * (a / 16) + a % 16) % 256=a from by omega]; rfl,hv,hne⟩
theorem asc_sign {dir u t:Int} {M:Msg} {b:List Int} (hd:dir=0∨dir=1) (hu:0≤u∧u < 256) (hc:0≤M.code∧M.code < 256) (hb:∀ l,pduW dir M=some l→Byts l) (h:ascW dir u t M=some b) {k:Nat} (hk:k < b.length) {c:Int} (hne:c ≠ b.getD k 0) {F:Frm} {E:Int} (hP:ascP dir (b.set k c)=(F,E)) : F=Frm.zero∧(E=12∨E=11∨E=10):=by
  obtain ⟨rfl,l,h1,rfl,h2⟩:=ascW_some h
  have hl0:=pduW_pos hc h1
  have hlen:=ascB_len u l
  have hX:=ascX_byts hu (hb l h1)
  have hsl:(putH (ascX u l)).length=2 * (l.length + 2):=by rw [putH_len,ascX_len]
  have h12:digS ((ascB u l).set k c)=none→F=Frm.zero∧(E=12∨E=11∨E=10):=fun hn=>by
    unfold ascP at hP
    rw [hn,List.length_set,hlen,if_neg (show ¬ (dir != 0 && dir != 1)=true by rcases hd with rfl | rfl <;> decide),if_neg (by simp only [decide_eq_true_eq]; omega),if_neg (by simp only [decide_eq_true_eq]; omega)] at hP
    injection hP with e1 e2
    exact ⟨e1.symm,Or.inl e2.symm⟩
  by_cases hk0:k=0
  · subst hk0
    refine h12 (digS_f1 fun e=>hne ?_)
    rw [List.getD_eq_getElem?_getD,List.getElem?_set_self hk] at e
    exact e
  by_cases hk2:k < 1 + (putH (ascX u l)).length
  · obtain ⟨j,rfl⟩ : ∃ j,k=j + 1:=⟨k - 1,by omega⟩
    have e1:(ascB u l).set (j + 1) c=([58]++(putH (ascX u l)).set j c)++[13,10]:=by
      rw [ascB_X]
      show 58 :: ((putH (ascX u l)++[13,10]).set j c)=58 :: ((putH (ascX u l)).set j c++[13,10])
      rw [List.set_append_left _ _ (by omega)]
    have e2:(ascB u l).getD (j + 1) 0=(putH (ascX u l)).getD j 0:=by
      rw [ascB_X]
      show (putH (ascX u l)++[13,10]).getD j 0=_
      rw [List.getD_eq_getElem?_getD,List.getElem?_append_left (by omega),← List.getD_eq_getElem?_getD]
    rw [e1,ascP_S hd (by rw [List.length_set]; omega) (by rw [List.length_set]; omega)] at hP
    rw [e2] at hne
    rcases takeH_set hX (j:=j) (c:=c) (by rw [ascX_len]; omega) hne with h3 | ⟨v,h3,hv,hvn⟩
    · rw [h3] at hP
      injection hP with e3 e4
      exact ⟨e3.symm,Or.inr (Or.inl e4.symm)⟩
    · rw [h3] at hP
      have h4:=lrc_set hX (i:=j / 2) (by rw [ascX_len]; omega) hv hvn (lrcIs_X u l)
      have hP:(if !(lrcIs ((ascX u l).set (j / 2) v)) then ((Frm.zero,10) : Frm × Int) else _)=(F,E):=hP
      rw [h4] at hP
      injection hP with e3 e4
      exact ⟨e3.symm,Or.inr (Or.inr e4.symm)⟩
  · refine h12 (digS_f2 ?_)
    have e1:((ascB u l).set k c).drop 1=putH (ascX u l)++[13,10].set (k - 1 - (putH (ascX u l)).length) c:=by
      obtain ⟨j,rfl⟩ : ∃ j,k=j + 1:=⟨k - 1,by omega⟩
      rw [ascB_X]
      show (putH (ascX u l)++[13,10]).set j c=_
      rw [List.set_append_right _ _ (by omega)]
      rfl
    have e2:(ascB u l).getD k 0=[13,10].getD (k - 1 - (putH (ascX u l)).length) 0:=by
      obtain ⟨j,rfl⟩ : ∃ j,k=j + 1:=⟨k - 1,by omega⟩
      rw [ascB_X]
      show (putH (ascX u l)++[13,10]).getD j 0=_
      rw [List.getD_eq_getElem?_getD,List.getElem?_append_right (by omega),← List.getD_eq_getElem?_getD]
      rfl
    rw [e2] at hne
    unfold sufB
    rw [e1]
    have e5:(((putH (ascX u l)++[13,10].set (k - 1 - (putH (ascX u l)).length) c).length:Nat) : Int) - 2=((putH (ascX u l)).length:Int):=by simp only [List.length_append,List.length_set,List.length_cons,List.length_nil]; omega
    rw [e5,Int.toNat_natCast,List.drop_left' rfl]
    rw [Bool.and_eq_false_iff]
    right
    rw [decide_eq_false_iff_not]
    intro e
    generalize hq:k - 1 - (putH (ascX u l)).length=q at e hne
    have hq2:q < 2:=by omega
    match q,hq2 with
    | 0,_=>injection e with e _; exact hne e
    | 1,_=>injection e with _ e; injection e with e _; exact hne e
theorem asc_ends {dir u t:Int} {M:Msg} {b:List Int} (hd:dir=0∨dir=1) (hu:0≤u∧u < 256) (hc:0≤M.code∧M.code < 256) (hb:∀ l,pduW dir M=some l→Byts l) (h:ascW dir u t M=some b) :
    ((b.length:Int) % 2=1∧(b.length:Int)≤513)∧(ascP dir (b.drop 1)).2 ≠ 0∧(ascP dir (b.take (b.length - 1))).2 ≠ 0∧(ascP dir (b.take (b.length - 2))).2 ≠ 0:=by
  obtain ⟨rfl,l,h1,rfl,h2⟩:=ascW_some h
  have hlen:=ascB_len u l
  have hX:=ascX_byts hu (hb l h1)
  have hsl:(putH (ascX u l)).length=2 * (l.length + 2):=by rw [putH_len,ascX_len]
  have hno:∀ z:List Int,digS z=none→(ascP dir z).2 ≠ 0:=fun z hz=>by
    unfold ascP
    rw [hz]
    dsimp only
    rw [if_neg (show ¬ (dir != 0 && dir != 1)=true by rcases hd with rfl | rfl <;> decide)]
    split
    · decide
    split
    · decide
    · decide
  have h58:∀ n:Int,0≤n∧n < 16→48≤hexD n∧hexD n ≠ 58:=fun n hn=>by unfold hexD; split <;> omega
  have hg:∀ i,i < (putH (ascX u l)).length→48≤(putH (ascX u l)).getD i 0∧(putH (ascX u l)).getD i 0 ≠ 58:=fun i hi=>by
    have h3:=putH_get (ascX u l) (i / 2) (by rw [ascX_len]; omega)
    have h4:0≤(ascX u l).getD (i / 2) 0∧(ascX u l).getD (i / 2) 0 < 256:=by
      have hi2:i / 2 < (ascX u l).length:=by rw [ascX_len]; omega
      rw [List.getD_eq_getElem?_getD,List.getElem?_eq_getElem hi2]
      exact hX _ (List.getElem_mem hi2)
    have h5:=h58 ((ascX u l).getD (i / 2) 0 / 16) (by omega)
    have h6:=h58 ((ascX u l).getD (i / 2) 0 % 16) (by omega)
    rcases Nat.mod_two_eq_zero_or_one i with e | e
    · rw [show 2 * (i / 2)=i from by omega] at h3; rw [h3.1]; exact h5
    · rw [show 2 * (i / 2) + 1=i from by omega] at h3; rw [h3.2]; exact h6
  have hno2:∀ z:List Int,(∀ s,z ≠ ([58]++s)++[13,10])→(ascP dir z).2 ≠ 0:=fun z hz=>hno z (by
    cases e:digS z with
    | none=>rfl
    | some s=>exact absurd (digS_inv e) (hz s))
  have hlast:∀ (z:List Int) (n:Nat) (v:Int),z.length=n + 1→z.getD n 0=v→v ≠ 10→∀ s,z ≠ ([58]++s)++[13,10]:=fun z n v hn hv h10 s e=>by
    apply h10
    rw [← hv,e]
    have:(([58]++s)++[13,10]).length=n + 1:=by rw [← e]; exact hn
    have hn2:n=([58]++s).length + 1:=by simp at this ⊢; omega
    rw [hn2,List.getD_eq_getElem?_getD,List.getElem?_append_right (by omega)]
    simp
  refine ⟨by rw [hlen]; omega,?_,?_,?_⟩
  · refine hno _ (digS_f1 ?_)
    rw [ascB_X,ascB_cut]
    have h7:=hg 0 (by omega)
    rw [List.getD_eq_getElem?_getD,List.getElem?_append_left (by omega),← List.getD_eq_getElem?_getD]
    exact h7.2
  · refine hno2 _ (hlast _ ((ascB u l).length - 2) 13 (by rw [List.length_take]; omega) ?_ (by decide))
    rw [hlen,ascB_X,List.getD_eq_getElem?_getD,List.getElem?_take,if_pos (by omega),List.getElem?_append_right (by simp; omega)]
    have e:2 * l.length + 7 - 2 - ([58]++putH (ascX u l)).length=0:=by simp only [List.length_append,List.length_cons,List.length_nil]; omega
    rw [e]
    rfl
  · have h7:=hg ((putH (ascX u l)).length - 1) (by omega)
    refine hno2 _ (hlast _ ((ascB u l).length - 3) ((putH (ascX u l)).getD ((putH (ascX u l)).length - 1) 0) (by rw [List.length_take]; omega) ?_ (by omega))
    rw [hlen,ascB_X,List.getD_eq_getElem?_getD,List.getElem?_take,if_pos (by omega),List.getElem?_append_left (by simp; omega)]
    rw [show 2 * l.length + 7 - 3=((putH (ascX u l)).length - 1) + 1 from by omega]
    show ((putH (ascX u l))[(putH (ascX u l)).length - 1]?).getD 0=_
    rw [List.getD_eq_getElem?_getD]
end Go.Proofs.YtgjlbabefogepaaGreat
namespace Go.Proofs.YtgjlbabefogepaaGreat
open Go.RowKit
theorem asc_rt2 {dir u t:Int} {M:Msg} {b:List Int} {F:Frm} {E:Int} (hd:dir=0∨dir=1) (hu:0≤u∧u < 256) (hc:0≤M.code∧M.code < 256) (hf:0≤M.fail∧M.fail < 256) (hb:∀ l,pduW dir M=some l→Byts l) (h:ascW dir u t M=some b) (hP:ascP dir b=(F,E)) : F=⟨u,t,M⟩∧E=0:=by
  rw [asc_rt hd hu hc hf hb h] at hP
  injection hP with h1 h2
  exact ⟨h1.symm,h2.symm⟩
theorem set_same {l:List Int} {k:Nat} (h:k < l.length) : l.set k (l.getD k 0)=l:=by
  apply List.ext_getElem?
  intro i
  by_cases e:k=i
  · subst e
    rw [List.getElem?_set_self h,List.getD_eq_getElem?_getD,List.getElem?_eq_getElem h]
    rfl
  · rw [List.getElem?_set_ne e]
end Go.Proofs.YtgjlbabefogepaaGreat
namespace Go.Proofs.YtgjlbabefogepaaGreat
theorem sas_app3 {S S2 S3:SA} {a b:List Int} {L L2:List Ev} (h:S.feed a=(S2,L)) (hX:S2.feed b=(S3,L2)) : S.feed (a++b)=(S3,L++L2):=by
  have gen:∀ (b:List Int) (T:SA) (K:List Ev),b.foldl (fun (p:SA × List Ev) c=>((p.1.byte c).1,p.2++(p.1.byte c).2)) (T,K)=((T.feed b).1,K++(T.feed b).2):=by
    intro b
    induction b with
    | nil=>intro T K; simp [SA.feed]
    | cons c t ih =>
      intro T K
      unfold SA.feed
      rw [List.foldl_cons,List.foldl_cons,ih,ih]
      simp
  unfold SA.feed at h ⊢
  rw [List.foldl_append,h,gen,hX]
theorem sas_one {S:SA} {c:Int}:S.feed [c]=S.byte c:=by
  unfold SA.feed
  simp
theorem SA.byte_dir {S S2:SA} {c:Int} {L:List Ev} (h:S.byte c=(S2,L)) : S2.dir=S.dir:=by
  unfold SA.byte at h
  split at h
  · injection h with e1 _; rw [← e1]
  split at h
  · injection h with e1 _; rw [← e1]
  unfold SA.tail at h
  split at h
  · injection h with e1 _; rw [← e1]
  split at h
  · injection h with e1 _; rw [← e1]
  · injection h with e1 _; rw [← e1]
theorem SA.feed_dir:∀ (b:List Int) {S S2:SA} {L:List Ev},S.feed b=(S2,L)→S2.dir=S.dir
  | [],S,S2,L,h=>by injection h with e1 _; rw [← e1]
  | c :: t,S,S2,L,h=>by
    have q:=sas_app3 (a:=[c]) (b:=t) (S:=S) (S2:=(S.byte c).1) (L:=(S.byte c).2) (S3:=((S.byte c).1.feed t).1) (L2:=((S.byte c).1.feed t).2) sas_one rfl
    rw [show [c]++t=c :: t from rfl,h] at q
    injection q with e1 _
    have q2:((S.byte c).1.feed t).1.dir=(S.byte c).1.dir:=SA.feed_dir t rfl
    have q3:(S.byte c).1.dir=S.dir:=SA.byte_dir (c:=c) rfl
    rw [e1,q2,q3]
theorem endsB_no {h:List Int} {c:Int} (hc:c ≠ 10) : endsB (h++[c]) [13,10]=false:=by
  unfold endsB
  rw [Bool.and_eq_false_iff]
  by_cases hl:2≤(h++[c]).length
  · refine .inr (decide_eq_false fun e=>hc ?_)
    have hn:((((h++[c]).length:Nat) : Int) - (([13,10] : List Int).length:Nat)).toNat=h.length - 1:=by
      rw [List.length_append,List.length_cons,List.length_nil]
      show ((((h.length + (0 + 1)) : Nat) : Int) - 2).toNat=_
      omega
    rw [hn] at e
    have hl2:1≤h.length:=by rw [List.length_append,List.length_cons,List.length_nil] at hl; omega
    have h1:((h++[c]).drop (h.length - 1))[1]? = some c:=by
      rw [List.getElem?_drop,List.getElem?_append_right (by omega)]
      rw [show h.length - 1 + 1 - h.length=0 by omega]
      rfl
    rw [e] at h1
    injection h1 with h1
    exact h1.symm
  · refine .inl (decide_eq_false ?_)
    show ¬ (2:Int)≤_
    omega
theorem sas_plain {d:Int} {h:List Int} {c:Int} (h0:0 < h.length) (hl:h.length < 513) (h58:c ≠ 58) (h10:c ≠ 10) : (SA.mk d h).byte c=(SA.mk d (h++[c]),[]) :=
  sab_5 (T:=SA.mk d h) (by rw [show (c == 58)=false from beq_eq_false_iff_ne.2 h58]; rfl) (by rw [Bool.and_eq_false_iff]; refine .inr (beq_eq_false_iff_ne.2 ?_); show ((h.length:Nat) : Int) ≠ 0; omega) (by refine decide_eq_false ?_; show ¬ (513:Int) < (((h++[c]).length:Nat) : Int); rw [List.length_append,List.length_cons,List.length_nil]; omega) (endsB_no h10)
theorem sas_run {d:Int}:∀ (l h:List Int),0 < h.length→h.length + l.length≤513→(∀ x,x∈l→x ≠ 58∧x ≠ 10)→(SA.mk d h).feed l=(SA.mk d (h++l),[])
  | [],h,_,_,_=>by rw [List.append_nil]; rfl
  | c :: t,h,h0,hl,hx=>by
    have hc:=hx c (List.mem_cons_self ..)
    rw [List.length_cons] at hl
    have e:(SA.mk d h).feed [c]=(SA.mk d (h++[c]),[]):=by rw [sas_one]; exact sas_plain h0 (by omega) hc.1 hc.2
    have q:=sas_app3 e (sas_run (d:=d) t (h++[c]) (by rw [List.length_append]; omega) (by rw [List.length_append,List.length_cons,List.length_nil]; omega) (fun x hx'=>hx x (List.mem_cons_of_mem _ hx')))
    simpa using q
theorem sas_first {S:SA}:∃ L,S.feed [58]=(SA.mk S.dir [58],L)∧L.length≤1:=by
  rw [sas_one]
  by_cases h:0 < S.held.length
  · exact ⟨_,sab_1 (by rw [Bool.and_eq_true]; exact ⟨rfl,decide_eq_true (by omega)⟩),Nat.le_refl _⟩
  · have hn:S.held=[]:=List.eq_nil_of_length_eq_zero (by omega)
    obtain ⟨d,hl⟩:=S
    subst hn
    exact ⟨[],sab_5 (T:=SA.mk d []) (by simp) (by simp) (by simp) (by simp [endsB]),Nat.zero_le _⟩
theorem sas_end {d:Int} {h:List Int} {F:Frm} {E:Int} (h0:0 < h.length) (hl:h.length + 2≤513) (hP:ascP d (h++[13,10])=(F,E)) : (SA.mk d h).feed [13,10]=(SA.mk d [],[Ev.mk E F]):=by
  have e:(SA.mk d h).feed [13]=(SA.mk d (h++[13]),[]):=by rw [sas_one]; exact sas_plain h0 (by omega) (by decide) (by decide)
  have e2:(SA.mk d (h++[13])).feed [10]=(SA.mk d [],[Ev.mk E F]):=by
    rw [sas_one]
    have ha:(h++[13])++[10]=h++[13,10]:=by simp
    refine sab_4 (T:=SA.mk d (h++[13])) (by simp) ?_ ?_ ?_ (by show ascP d ((h++[13])++[10])=_; rw [ha]; exact hP)
    · rw [Bool.and_eq_false_iff]
      refine .inr (beq_eq_false_iff_ne.2 ?_)
      show (((h++[13]).length:Nat) : Int) ≠ 0
      rw [List.length_append,List.length_cons,List.length_nil]
      omega
    · refine decide_eq_false ?_
      show ¬ (513:Int) < ((((h++[13])++[10]).length:Nat) : Int)
      rw [ha,List.length_append]
      show ¬ (513:Int) < ((h.length + 2:Nat) : Int)
      omega
    · show endsB ((h++[13])++[10]) [13,10]=true
      rw [ha]
      unfold endsB
      rw [Bool.and_eq_true]
      refine ⟨decide_eq_true ?_,decide_eq_true ?_⟩
      · rw [List.length_append]; show (2:Int)≤((h.length + 2:Nat) : Int); omega
      · have hn:((((h++[13,10]).length:Nat) : Int) - (([13,10] : List Int).length:Nat)).toNat=h.length:=by
          rw [List.length_append]
          show (((h.length + 2:Nat) : Int) - 2).toNat=_
          omega
        rw [hn,List.drop_left]
  exact sas_app3 e e2
theorem sas_frame {S S2:SA} {L:List Ev} {s:List Int} {F:Frm} {E:Int} (hl:s.length + 3≤513) (hs:∀ x,x∈s→x ≠ 58∧x ≠ 10) (hP:ascP S.dir (([58]++s)++[13,10])=(F,E)) (hX:S.feed (([58]++s)++[13,10])=(S2,L)) :
    S2=SA.mk S.dir []∧L.getD (L.length - 1) (Ev.bad 0)=Ev.mk E F∧0 < L.length∧L.length≤2:=by
  obtain ⟨L1,h1,h2⟩:=sas_first (S:=S)
  have h3:=sas_run (d:=S.dir) s [58] (by decide) (by rw [List.length_cons,List.length_nil]; omega) hs
  have h4:=sas_end (d:=S.dir) (h:=[58]++s) (by simp) (by rw [List.length_append,List.length_cons,List.length_nil]; omega) hP
  have q:=sas_app3 (sas_app3 h1 h3) h4
  rw [q] at hX
  injection hX with e1 e2
  subst e1 e2
  refine ⟨rfl,?_,?_,?_⟩
  · simp
  · simp
  · simp; omega
theorem putH_no {b:List Int} (h:Byts b) : ∀ x,x∈putH b→x ≠ 58∧x ≠ 10:=by
  have hd:∀ n:Int,0≤n∧n < 16→hexD n ≠ 58∧hexD n ≠ 10:=fun n hn=>by
    unfold hexD
    split <;> omega
  induction b with
  | nil=>intro x hx; cases hx
  | cons c t ih =>
    have hc:=h c (List.mem_cons_self ..)
    have ht:Byts t:=fun x hx=>h x (List.mem_cons_of_mem _ hx)
    intro x hx
    simp only [putH,List.mem_cons] at hx
    rcases hx with rfl | rfl | hx
    · exact hd _ (by omega)
    · exact hd _ (by omega)
    · exact ih ht x hx
theorem sas_write {S S2:SA} {L:List Ev} {d u t:Int} {M:Msg} {b:List Int} (hS:S.dir=d) (hd:d=0∨d=1) (hu:0≤u∧u < 256) (hM:(0≤M.code∧M.code < 256)∧(0≤M.fail∧M.fail < 256)) (hb:∀ l,pduW d M=some l→Byts l) (h:ascW d u t M=some b) (hX:S.feed b=(S2,L)) :
    S2=SA.mk d []∧L.getD (L.length - 1) (Ev.bad 0)=Ev.mk 0 ⟨u,t,M⟩∧0 < L.length∧L.length≤2:=by
  subst hS
  have hP:=asc_rt hd hu hM.1 hM.2 hb h
  obtain ⟨h0,l,h1,h2,h3⟩:=ascW_some h
  have hx:=ascX_byts hu (hb l h1)
  rw [h2,ascB_X] at hX hP
  exact sas_frame (by rw [putH_len,ascX_len]; omega) (putH_no hx) hP hX
end Go.Proofs.YtgjlbabefogepaaGreat
namespace Go.Proofs.YtgjlbabefogepaaGreat
open Go.RowKit
set_option maxRecDepth 100000 in
set_option maxHeartbeats 4000000 in
theorem lawSascWrites {w:World} {ans:Bool} {z:Int} (hz:0≤z∧z < 256) {mA:Bool} {A:Option Addr} {cpA:Nat} {a:List Int} (ha:RdB mA w (.slice A a.length cpA) a) {mF:Bool} {F:Option Addr} {cpF:Nat} {fs:List Frm} (hF:RdF mF w (.slice F fs.length cpF) fs) :
    Calls Tryz.prog 16 #[.bool ans,.slice A a.length cpA,.slice F fs.length cpF,.int .u8 z] w (PVal (.bool true) w):=by
 have hzF:=RdG.len hF
 have hzA:=RdG.len ha
 refine en 101 Tryz.func16 rfl<|sg<|Pl 1<|ng<|L0<|Oc<|m1 (@awake20 _) fun w10 hu11=>Pl 1<|nt<|sq<|sq<|?_
 refine go<|Pl 4<|cu 4 [22] 26 (((decide (300 < ((a.length:Nat) : Int))) || (decide (30 < ((fs.length:Nat) : Int))))) (fun K K13=>?_) ?_
 refine bl 22 ((decide (300 < ((a.length:Nat) : Int)))) (fun q12=>?_) (fun q12=>?_)
 have q12p:=of_decide_eq_true q12
 exact Pl 4<|ce K13 true (by rw [q12]; rfl)
 have q12p:=of_decide_eq_false q12
 exact Pl 4<|ce K13 (decide (30 < ((fs.length:Nat) : Int))) (by rw [q12]; rfl)
 refine Pl 1<|cu 3 [27] 30 ((((decide (300 < ((a.length:Nat) : Int))) || (decide (30 < ((fs.length:Nat) : Int)))) || (z == 58))) (fun K K15=>?_) ?_
 refine bl 27 (((decide (300 < ((a.length:Nat) : Int))) || (decide (30 < ((fs.length:Nat) : Int))))) (fun q14=>?_) (fun q14=>?_)
 exact Pl 3<|ce K15 true (by rw [q14]; rfl)
 have q14a:=(or_f q14).1
 have q14b:=(or_f q14).2
 have q14ap:=of_decide_eq_false q14a
 have q14bp:=of_decide_eq_false q14b
 exact Pl 3<|ce K15 (z == 58) (by rw [q14]; rfl)
 refine nt<|cb ((((decide (300 < ((a.length:Nat) : Int))) || (decide (30 < ((fs.length:Nat) : Int)))) || (z == 58))) (fun q16=>?_) (fun q16=>?_)
 refine sg<|Pl 2<|nt<|rt<|tr<|rr (.bool true)<|?_
 exact ⟨rfl,hu11⟩
 have q16a:=(or_f q16).1
 have q16b:=(or_f q16).2
 have q16aa:=(or_f q16a).1
 have q16ab:=(or_f q16a).2
 have q16aap:=of_decide_eq_false q16aa
 have q16abp:=of_decide_eq_false q16ab
 have q16bp:=ne_of_beqi q16b
 refine skn<|sg<|Pl 1<|nt<|sq<|sg<|Pl 1<|nt<|cb (ans) (fun q17=>?_) (fun q17=>?_)
 refine go<|Pl 1<|ng<|Pl 1<|L0<|Oc<|e3 (sas_new 1 sasc_new1) fun g18 w19 hg20 hA21 hu22=>Pl 1<|nt<|sq<|sg<|?_
 refine Pl 2<|nt<|c0<|skn<|sg<|Pl 2<|?_
 have U23:=ut0 hu11 hu22
 have r24:=RdB.old ha U23
 refine pr (SA.feed (SA.mk 1 []) a) fun S25 L26 hX27=>?_
 have hk38:=SA.feed_le hA21.2.2.1 (RdB.range r24) hX27
 refine L0<|Oc (args:=#[.pointer (some ⟨g18,0,none⟩),.slice A a.length cpA])<|?_
 refine (sas_feed_x hX27 hA21 r24 (far_made (RdG.low ha) (Nat.le_trans hu11.size hg20)) far_none (by omega)).mono ?_
 rintro _ w32 ⟨v28,A29,cp30,n31,rfl,ho33,hA34,hat35,hn36,hu37⟩
 refine ⟨_,rfl,?_⟩
 have hu39:Upd [g18] w19 w32:=hu37
 have hk40:=SasAt.le hA34
 have rd45:=ho33
 obtain ⟨A41,cp42,rfl,hl43,hm44⟩:=RdG.shape rd45.rd
 refine nt<|sq<|sg<|Pl 1<|nt<|bk<|?_
 have U46:=u1 U23 hu39 (ni hu11.size hg20)
 refine glp (fun x=>[(2,.slice F fs.length cpF),(3,.int .u8 z),(9,.bool true),(10,.int .i64 1),(11,.pointer (some ⟨g18,0,none⟩)),(12,.int .i64 ((x.1:Nat) : Int))]) (fun (x:Nat × SA × Option Addr × Nat × Nat) w'=>Upd [] w w'∧w32.heap.size≤w'.heap.size∧SasAt x.2.2.2.2 w10.heap.size w' g18 x.2.2.1 x.2.2.2.1 x.2.1∧(x.1≤fs.length)∧(x.2.1.dir=1)) (fun x=>fs.length - x.1) (0,S25,A29,cp30,n31) ⟨U46,lr,hA34,(by (try dsimp only); omega),(by (try dsimp only); exact SA.feed_dir _ hX27)⟩ ?_
 rintro ⟨k,S,Ah,ch,n⟩ w47 ⟨hu48,hz52,f49,p50,p51⟩
 refine wkc [(2,.slice F fs.length cpF),(3,.int .u8 z),(9,.bool true),(10,.int .i64 1),(11,.pointer (some ⟨g18,0,none⟩)),(12,.int .i64 ((k:Nat) : Int))] ?_
 have f53:SasAt n w10.heap.size w47 g18 Ah ch S:=f49
 have p54:k≤fs.length:=p50
 have p55:S.dir=1:=p51
 refine sq<|sg<|Pl 4<|nt<|?_
 have U56:=ut0 (Upd.refl [] _) hu48
 refine cb ((decide (((k:Nat) : Int) < ((fs.length:Nat) : Int)))) (fun q57=>?_) (fun q57=>?_)
 have q57p:=of_decide_eq_true q57
 refine skn<|sq<|bk<|sg<|Pl 2<|x64 (RdF.elt hF k (by omega) Frm.zero) fun b58 o59 cl60 t61 fr62 s63 hA64 hb65 hv66 hs67=>?_
 have hw68:=hv66.2
 refine L0<|Oixs 24 fs.length k hA64 (by omega)<|Pl 1<|?_
 have r69:=ub U56 hb65
 refine L0<|Oel [.int .u8 ((fs.getD k Frm.zero).msg.code),.int .u8 ((fs.getD k Frm.zero).msg.fail),.int .u16 ((fs.getD k Frm.zero).msg.addr),.int .u16 ((fs.getD k Frm.zero).msg.count),.int .u16 ((fs.getD k Frm.zero).msg.value),.int .u16 ((fs.getD k Frm.zero).msg.and_),.int .u16 ((fs.getD k Frm.zero).msg.or_),.int .u16 ((fs.getD k Frm.zero).msg.addr2),.int .u16 ((fs.getD k Frm.zero).msg.sub),.int .u16 ((fs.getD k Frm.zero).msg.status),.int .u16 ((fs.getD k Frm.zero).msg.events),.int .u16 ((fs.getD k Frm.zero).msg.messages),.slice s63.aw ((fs.getD k Frm.zero).msg.words.length) s63.kw,.slice s63.ab ((fs.getD k Frm.zero).msg.bits.length) s63.kb,.slice s63.ad ((fs.getD k Frm.zero).msg.data.length) s63.kd,.slice s63.ar ((fs.getD k Frm.zero).msg.recs.length) s63.kr,.int .u8 ((fs.getD k Frm.zero).msg.mei),.int .u8 ((fs.getD k Frm.zero).msg.kind),.int .u8 ((fs.getD k Frm.zero).msg.level),.int .u8 ((fs.getD k Frm.zero).msg.more),.int .u8 ((fs.getD k Frm.zero).msg.next),.slice s63.ao ((fs.getD k Frm.zero).msg.objects.length) s63.ko] r69 (el_sub (k:=2) (m:=22) hs67 (by kernel_rfl) (by decide))<|?_
 have r70:=MsgRd.old (hv66.1) U56
 refine L0<|Oc<|m1 (few_any r70) fun w71 hu72=>Pl 1<|nt<|sq<|sg<|Pl 2<|nt<|?_
 have U73:=ut0 U56 hu72
 refine cb ((!(fewB (fs.getD k Frm.zero).msg))) (fun q74=>?_) (fun q74=>?_)
 have q74n:(fewB (fs.getD k Frm.zero).msg)=false:=by simpa using q74
 refine sg<|Pl 2<|nt<|rt<|tr<|br<|tr<|tr<|br<|tr<|rr (.bool true)<|?_
 exact ⟨rfl,U73⟩
 have q74n:(fewB (fs.getD k Frm.zero).msg)=true:=by simpa using q74
 refine skn<|sg<|Pl 3<|L0<|Oixs 24 fs.length k hA64 (by omega)<|?_
 have r75:=ub hu72 r69
 refine L0<|Oel [.int .u8 ((fs.getD k Frm.zero).unit),.int .u16 ((fs.getD k Frm.zero).tid),.int .u8 ((fs.getD k Frm.zero).msg.code),.int .u8 ((fs.getD k Frm.zero).msg.fail),.int .u16 ((fs.getD k Frm.zero).msg.addr),.int .u16 ((fs.getD k Frm.zero).msg.count),.int .u16 ((fs.getD k Frm.zero).msg.value),.int .u16 ((fs.getD k Frm.zero).msg.and_),.int .u16 ((fs.getD k Frm.zero).msg.or_),.int .u16 ((fs.getD k Frm.zero).msg.addr2),.int .u16 ((fs.getD k Frm.zero).msg.sub),.int .u16 ((fs.getD k Frm.zero).msg.status),.int .u16 ((fs.getD k Frm.zero).msg.events),.int .u16 ((fs.getD k Frm.zero).msg.messages),.slice s63.aw ((fs.getD k Frm.zero).msg.words.length) s63.kw,.slice s63.ab ((fs.getD k Frm.zero).msg.bits.length) s63.kb,.slice s63.ad ((fs.getD k Frm.zero).msg.data.length) s63.kd,.slice s63.ar ((fs.getD k Frm.zero).msg.recs.length) s63.kr,.int .u8 ((fs.getD k Frm.zero).msg.mei),.int .u8 ((fs.getD k Frm.zero).msg.kind),.int .u8 ((fs.getD k Frm.zero).msg.level),.int .u8 ((fs.getD k Frm.zero).msg.more),.int .u8 ((fs.getD k Frm.zero).msg.next),.slice s63.ao ((fs.getD k Frm.zero).msg.objects.length) s63.ko] r75 hs67<|?_
 have r76:=MsgRd.old r70 hu72
 refine wo (ascW 1 ((fs.getD k Frm.zero).unit) ((fs.getD k Frm.zero).tid) ((fs.getD k Frm.zero).msg)) (fun hX78=>?_) (fun l77 hX78=>?_)
 refine L0<|Oc<|m1 (asc_write_n hX78 r76 (fewB_few q74n) (by omega) (by omega)) fun w79 hu80=>Pl 5<|nt<|sq<|sg<|Pl 2<|nt<|c1<|xt<|tx<|bx<|?_
 refine tn<|go<|Pl 1<|L0<|Oi (((k:Nat) : Int) + 1)<|Pl 1<|nl<|?_
 have U81:=ut0 U73 hu80
 have U82:=ut0 hu72 hu80
 have r83:=SasAt.upd f53 U82 not0 (fun x hx=>not0)
 exact lpe ((k + 1),S,Ah,ch,n) ⟨U81,(le (le hz52 hu72.size) hu80.size),r83,(by (try dsimp only); omega),(by (try dsimp only); exact p55)⟩ (by omega)
 have hl84:=ascW_le (r76.rngs).1 hX78
 refine L0<|Oc<|e2 (asc_write_s hX78 r76 (fewB_few q74n) (by omega) (by omega)) fun v86 w85 ho87 hu88=>?_
 rcases OwnF.shape ho87 with ⟨g89,cp90,rfl⟩
 rcases RdG.shape (ho87).rd with ⟨_,_,e91,hl92,hm93⟩
 injection e91 with _ _ e91
 rw [← e91] at hl92 hm93
 refine Pl 5<|nt<|sq<|sg<|Pl 2<|nt<|c0<|skn<|sg<|?_
 refine Pl 2<|L0<|Olt (m:=1) (e:=5) #[.int .u8 z] fun g94 w95 hg96 B97 hu98=>?_
 have ow99:=litB hg96 (xs:=[z]) (by as_aux_lemma=>kernel_rfl) (rng_cons (by omega) rng_nil) (by (try simp only [List.length_cons,List.length_nil]); omega) B97
 have U100:=ut0 hu72 hu88
 have U101:=ut0 U100 hu98
 have r102:=SasAt.upd f53 U101 not0 (fun x hx=>not0)
 refine pr (SA.feed S ([z])) fun S103 L104 hX105=>?_
 have hz116:([z] : List Int).length=1:=rfl
 have hk117:=SA.feed_le r102.2.2.1 (RdB.range (ow99).rd) hX105
 refine L0<|Oc (args:=#[.pointer (some ⟨g18,0,none⟩),.slice (some ⟨g94,0,none⟩) 1 1])<|?_
 refine (sas_feed_x hX105 r102 (ow99).rd (far_ne (not_old (SasAt.lt hA21) (le (le (le hu39.size hz52) hu72.size) hu88.size) ow99)) (far_rows (rows_young ow99 (SasAt.row f53) U100.size)) (by exact (show 1≤1048576 from by decide))).mono ?_
 rintro _ w110 ⟨v106,A107,cp108,n109,rfl,ho111,hA112,hat113,hn114,hu115⟩
 refine ⟨_,rfl,?_⟩
 have hk118:=SasAt.le hA112
 have rd123:=ho111
 obtain ⟨A119,cp120,rfl,hl121,hm122⟩:=RdG.shape rd123.rd
 refine ng<|Pl 2<|?_
 have U124:=ut (Upd.mono (S':=(g18 :: (ob Ah++[]))) hu98 all0) hu115 (ac im (all_app (fun x hx=>Or.inl (by simp [hx])) all0))
 have ne125:=nb (SasAt.lt hA21) (le (le hu39.size hz52) hu72.size) (OwnF.ge ho87)
 have r126:=RdB.far (ho87).rd U124 (far_cons (far_blk (Ne.symm ne125)) (far_app (far_nrow (not_young (SasAt.row f53) hu72.size (OwnF.ge ho87))) far_nil))
 have r127:=RdB.far (ho87).rd hu98 far_nil
 refine pr (SA.feed S103 l77) fun S128 L129 hX130=>?_
 have hk141:=SA.feed_le hA112.2.2.1 (RdB.range r126) hX130
 refine L0<|Oc (args:=#[.pointer (some ⟨g18,0,none⟩),.slice (some ⟨g89,0,none⟩) l77.length cp90])<|?_
 refine (sas_feed_x hX130 hA112 r126 (far_blk (Ne.symm ne125)) (far_frm (far_nrow (not_young (SasAt.row f53) hu72.size (OwnF.ge ho87))) (RdG.low r127) hat113) (by omega)).mono ?_
 rintro _ w135 ⟨v131,A132,cp133,n134,rfl,ho136,hA137,hat138,hn139,hu140⟩
 refine ⟨_,rfl,?_⟩
 have hk142:=SasAt.le hA137
 have rd147:=ho136
 obtain ⟨A143,cp144,rfl,hl145,hm146⟩:=RdG.shape rd147.rd
 refine Pl 1<|nt<|sq<|sg<|Pl 3<|nt<|?_
 have U148:=ut0 U73 hu88
 have U149:=ut0 U148 hu98
 have U150:=ut U149 hu115 (ac (ni hu11.size hg20) (all_app (ob_new (SasAt.row f53) hu11.size) all0))
 have U151:=ut U150 hu140 (ac (ni hu11.size hg20) (all_app (ob_new (SasAt.row hA112) hu11.size) all0))
 refine cb ((((L129.length:Nat) : Int) == 0)) (fun q152=>?_) (fun q152=>?_)
 have q152p:=eq_of_beqi q152
 refine sg<|Pl 1<|nt<|rt<|tr<|br<|tr<|tr<|br<|tr<|rr (.bool false)<|?_
 have U153:=ut0 hu88 hu98
 have U154:=ut (Upd.mono (S':=(g18 :: (ob Ah++[]))) U153 all0) hu115 (ac im (all_app (fun x hx=>Or.inl (by simp [hx])) all0))
 have U155:=ut U154 hu140 (ac im (all_app (ob_from hat113 (fun x hx=>Or.inl (by simp [hx])) U153.size) all0))
 have U156:=ut (Upd.mono (S':=(g18 :: (ob Ah++[]))) U101 all0) hu115 (ac im (all_app (fun x hx=>Or.inl (by simp [hx])) all0))
 have U157:=ut U156 hu140 (ac im (all_app (ob_from hat113 (fun x hx=>Or.inl (by simp [hx])) U101.size) all0))
 have r158:=MsgRd.old (hv66.1) U151
 have hs:false=true:=by obtain ⟨z1,z2,z3,z4⟩:=sas_write ((SA.feed_dir _ hX105).trans p55) (by decide) (hv66.2.1) (r158).rngs (fun l hz=>pduW_byts r158 (fewB_few q74n) l hz) hX78 hX130; omega
 rw [hs]
 exact ⟨rfl,U151⟩
 have q152p:=ne_of_beqi q152
 refine skn<|sg<|Pl 3<|L0<|Oi (((L129.length:Nat) : Int) - 1)<|x64 (RdE.elt (OwnV.own rd147).rd (((((L129.length:Nat) : Int) - 1)).toNat) (by omega) (Ev.bad 0)) fun b159 o160 cl161 t162 fr163 s164 hA165 hb166 hv167 hs168=>L0<|Oixi 25 L129.length (((((L129.length:Nat) : Int) - 1)).toNat) (((L129.length:Nat) : Int) - 1) (by omega) hA165 (by omega)<|L0<|Oel [.int .i64 ((L129.getD (((((L129.length:Nat) : Int) - 1)).toNat) (Ev.bad 0)).e),.int .u8 ((L129.getD (((((L129.length:Nat) : Int) - 1)).toNat) (Ev.bad 0)).f.unit),.int .u16 ((L129.getD (((((L129.length:Nat) : Int) - 1)).toNat) (Ev.bad 0)).f.tid),.int .u8 ((L129.getD (((((L129.length:Nat) : Int) - 1)).toNat) (Ev.bad 0)).f.msg.code),.int .u8 ((L129.getD (((((L129.length:Nat) : Int) - 1)).toNat) (Ev.bad 0)).f.msg.fail),.int .u16 ((L129.getD (((((L129.length:Nat) : Int) - 1)).toNat) (Ev.bad 0)).f.msg.addr),.int .u16 ((L129.getD (((((L129.length:Nat) : Int) - 1)).toNat) (Ev.bad 0)).f.msg.count),.int .u16 ((L129.getD (((((L129.length:Nat) : Int) - 1)).toNat) (Ev.bad 0)).f.msg.value),.int .u16 ((L129.getD (((((L129.length:Nat) : Int) - 1)).toNat) (Ev.bad 0)).f.msg.and_),.int .u16 ((L129.getD (((((L129.length:Nat) : Int) - 1)).toNat) (Ev.bad 0)).f.msg.or_),.int .u16 ((L129.getD (((((L129.length:Nat) : Int) - 1)).toNat) (Ev.bad 0)).f.msg.addr2),.int .u16 ((L129.getD (((((L129.length:Nat) : Int) - 1)).toNat) (Ev.bad 0)).f.msg.sub),.int .u16 ((L129.getD (((((L129.length:Nat) : Int) - 1)).toNat) (Ev.bad 0)).f.msg.status),.int .u16 ((L129.getD (((((L129.length:Nat) : Int) - 1)).toNat) (Ev.bad 0)).f.msg.events),.int .u16 ((L129.getD (((((L129.length:Nat) : Int) - 1)).toNat) (Ev.bad 0)).f.msg.messages),.slice s164.aw ((L129.getD (((((L129.length:Nat) : Int) - 1)).toNat) (Ev.bad 0)).f.msg.words.length) s164.kw,.slice s164.ab ((L129.getD (((((L129.length:Nat) : Int) - 1)).toNat) (Ev.bad 0)).f.msg.bits.length) s164.kb,.slice s164.ad ((L129.getD (((((L129.length:Nat) : Int) - 1)).toNat) (Ev.bad 0)).f.msg.data.length) s164.kd,.slice s164.ar ((L129.getD (((((L129.length:Nat) : Int) - 1)).toNat) (Ev.bad 0)).f.msg.recs.length) s164.kr,.int .u8 ((L129.getD (((((L129.length:Nat) : Int) - 1)).toNat) (Ev.bad 0)).f.msg.mei),.int .u8 ((L129.getD (((((L129.length:Nat) : Int) - 1)).toNat) (Ev.bad 0)).f.msg.kind),.int .u8 ((L129.getD (((((L129.length:Nat) : Int) - 1)).toNat) (Ev.bad 0)).f.msg.level),.int .u8 ((L129.getD (((((L129.length:Nat) : Int) - 1)).toNat) (Ev.bad 0)).f.msg.more),.int .u8 ((L129.getD (((((L129.length:Nat) : Int) - 1)).toNat) (Ev.bad 0)).f.msg.next),.slice s164.ao ((L129.getD (((((L129.length:Nat) : Int) - 1)).toNat) (Ev.bad 0)).f.msg.objects.length) s164.ko] hb166 hs168<|L0<|Oal #[.int .i64 0,.int .u8 0,.int .u16 0,.int .u8 0,.int .u8 0,.int .u16 0,.int .u16 0,.int .u16 0,.int .u16 0,.int .u16 0,.int .u16 0,.int .u16 0,.int .u16 0,.int .u16 0,.int .u16 0,.slice none 0 0,.slice none 0 0,.slice none 0 0,.slice none 0 0,.int .u8 0,.int .u8 0,.int .u8 0,.int .u8 0,.int .u8 0,.slice none 0 0] fun g169 w170 hg171 B172 hu173=>L0<|Osw B172 (evl ⟨(L129.getD (((((L129.length:Nat) : Int) - 1)).toNat) (Ev.bad 0)).e,(L129.getD (((((L129.length:Nat) : Int) - 1)).toNat) (Ev.bad 0)).f⟩ s164) fun w174 B175 hu176=>nt<|sq<|?_
 refine Rg 18 (fun w'=>w'.heap[g169]? = some (.cells (evl ⟨(L129.getD (((((L129.length:Nat) : Int) - 1)).toNat) (Ev.bad 0)).e,(L129.getD (((((L129.length:Nat) : Int) - 1)).toNat) (Ev.bad 0)).f⟩ s164) 61 (0,0))∧w'.heap[b58]? = some (.cells cl60 t61 fr62)) fun w223 hu224=>?_
 have r226:=ub hu224 B175
 have U227:=ut0 hu88 hu98
 have U228:=ut (Upd.mono (S':=(g18 :: (ob Ah++[]))) U227 all0) hu115 (ac im (all_app (fun x hx=>Or.inl (by simp [hx])) all0))
 have U229:=ut U228 hu140 (ac im (all_app (ob_from hat113 (fun x hx=>Or.inl (by simp [hx])) U227.size) all0))
 have U230:=ut0 U229 hu173
 have U231:=u1 U230 hu176 (ni U229.size hg171)
 have U232:=ut0 U231 hu224
 have ne233:=nb (blk_lt hb65) hu11.size hg20
 have r234:=Upd.blk U232 (not_cons ne233 (not_app (not_old (blk_lt hb65) hu11.size (SasAt.row f53)) not0)) r75
 refine hld ⟨r226,r234⟩ fun hS225=>Rr 0 hS225 (.agg (evl ⟨(L129.getD (((((L129.length:Nat) : Int) - 1)).toNat) (Ev.bad 0)).e,(L129.getD (((((L129.length:Nat) : Int) - 1)).toNat) (Ev.bad 0)).f⟩ s164)) (fun w' hs=>lda_o (g:=g169) (off:=0) [.int .i64 ((L129.getD (((((L129.length:Nat) : Int) - 1)).toNat) (Ev.bad 0)).e),.int .u8 ((L129.getD (((((L129.length:Nat) : Int) - 1)).toNat) (Ev.bad 0)).f.unit),.int .u16 ((L129.getD (((((L129.length:Nat) : Int) - 1)).toNat) (Ev.bad 0)).f.tid),.int .u8 ((L129.getD (((((L129.length:Nat) : Int) - 1)).toNat) (Ev.bad 0)).f.msg.code),.int .u8 ((L129.getD (((((L129.length:Nat) : Int) - 1)).toNat) (Ev.bad 0)).f.msg.fail),.int .u16 ((L129.getD (((((L129.length:Nat) : Int) - 1)).toNat) (Ev.bad 0)).f.msg.addr),.int .u16 ((L129.getD (((((L129.length:Nat) : Int) - 1)).toNat) (Ev.bad 0)).f.msg.count),.int .u16 ((L129.getD (((((L129.length:Nat) : Int) - 1)).toNat) (Ev.bad 0)).f.msg.value),.int .u16 ((L129.getD (((((L129.length:Nat) : Int) - 1)).toNat) (Ev.bad 0)).f.msg.and_),.int .u16 ((L129.getD (((((L129.length:Nat) : Int) - 1)).toNat) (Ev.bad 0)).f.msg.or_),.int .u16 ((L129.getD (((((L129.length:Nat) : Int) - 1)).toNat) (Ev.bad 0)).f.msg.addr2),.int .u16 ((L129.getD (((((L129.length:Nat) : Int) - 1)).toNat) (Ev.bad 0)).f.msg.sub),.int .u16 ((L129.getD (((((L129.length:Nat) : Int) - 1)).toNat) (Ev.bad 0)).f.msg.status),.int .u16 ((L129.getD (((((L129.length:Nat) : Int) - 1)).toNat) (Ev.bad 0)).f.msg.events),.int .u16 ((L129.getD (((((L129.length:Nat) : Int) - 1)).toNat) (Ev.bad 0)).f.msg.messages),.slice s164.aw ((L129.getD (((((L129.length:Nat) : Int) - 1)).toNat) (Ev.bad 0)).f.msg.words.length) s164.kw,.slice s164.ab ((L129.getD (((((L129.length:Nat) : Int) - 1)).toNat) (Ev.bad 0)).f.msg.bits.length) s164.kb,.slice s164.ad ((L129.getD (((((L129.length:Nat) : Int) - 1)).toNat) (Ev.bad 0)).f.msg.data.length) s164.kd,.slice s164.ar ((L129.getD (((((L129.length:Nat) : Int) - 1)).toNat) (Ev.bad 0)).f.msg.recs.length) s164.kr,.int .u8 ((L129.getD (((((L129.length:Nat) : Int) - 1)).toNat) (Ev.bad 0)).f.msg.mei),.int .u8 ((L129.getD (((((L129.length:Nat) : Int) - 1)).toNat) (Ev.bad 0)).f.msg.kind),.int .u8 ((L129.getD (((((L129.length:Nat) : Int) - 1)).toNat) (Ev.bad 0)).f.msg.level),.int .u8 ((L129.getD (((((L129.length:Nat) : Int) - 1)).toNat) (Ev.bad 0)).f.msg.more),.int .u8 ((L129.getD (((((L129.length:Nat) : Int) - 1)).toNat) (Ev.bad 0)).f.msg.next),.slice s164.ao ((L129.getD (((((L129.length:Nat) : Int) - 1)).toNat) (Ev.bad 0)).f.msg.objects.length) s164.ko] rfl (by kernel_rfl) hs.1 (by kernel_rfl) (by kernel_rfl) rfl)<|Rt 1 hS225<|Rt 2 hS225<|Ri 3 hS225 24 fs.length k ((k:Nat) : Int) rfl hA64 (by omega)<|Rr 4 hS225 (.agg (fcl ((fs.getD k Frm.zero).unit) ((fs.getD k Frm.zero).tid) ((fs.getD k Frm.zero).msg) s63)) (fun w' hs=>lda_o (g:=b58) (off:=o59 + k * 24) [.int .u8 ((fs.getD k Frm.zero).unit),.int .u16 ((fs.getD k Frm.zero).tid),.int .u8 ((fs.getD k Frm.zero).msg.code),.int .u8 ((fs.getD k Frm.zero).msg.fail),.int .u16 ((fs.getD k Frm.zero).msg.addr),.int .u16 ((fs.getD k Frm.zero).msg.count),.int .u16 ((fs.getD k Frm.zero).msg.value),.int .u16 ((fs.getD k Frm.zero).msg.and_),.int .u16 ((fs.getD k Frm.zero).msg.or_),.int .u16 ((fs.getD k Frm.zero).msg.addr2),.int .u16 ((fs.getD k Frm.zero).msg.sub),.int .u16 ((fs.getD k Frm.zero).msg.status),.int .u16 ((fs.getD k Frm.zero).msg.events),.int .u16 ((fs.getD k Frm.zero).msg.messages),.slice s63.aw ((fs.getD k Frm.zero).msg.words.length) s63.kw,.slice s63.ab ((fs.getD k Frm.zero).msg.bits.length) s63.kb,.slice s63.ad ((fs.getD k Frm.zero).msg.data.length) s63.kd,.slice s63.ar ((fs.getD k Frm.zero).msg.recs.length) s63.kr,.int .u8 ((fs.getD k Frm.zero).msg.mei),.int .u8 ((fs.getD k Frm.zero).msg.kind),.int .u8 ((fs.getD k Frm.zero).msg.level),.int .u8 ((fs.getD k Frm.zero).msg.more),.int .u8 ((fs.getD k Frm.zero).msg.next),.slice s63.ao ((fs.getD k Frm.zero).msg.objects.length) s63.ko] rfl (by kernel_rfl) hs.2 (by kernel_rfl) (by kernel_rfl) hs67)<|Rt 5 hS225<|?_
 have U235:=u1 hu173 hu176 (nr hg171)
 have U236:=ut0 U235 hu224
 have r237:=MsgRd.upd (hv167.1) U236 safe0
 have U238:=ut (Upd.mono (S':=(g18 :: (ob Ah++[]))) U101 all0) hu115 (ac im (all_app (fun x hx=>Or.inl (by simp [hx])) all0))
 have U239:=ut U238 hu140 (ac im (all_app (ob_from hat113 (fun x hx=>Or.inl (by simp [hx])) U101.size) all0))
 have U240:=ut0 U239 hu173
 have U241:=u1 U240 hu176 (ni U239.size hg171)
 have U242:=ut0 U241 hu224
 have U243:=ut0 U151 hu173
 have U244:=u1 U243 hu176 (ni U151.size hg171)
 have U245:=ut0 U244 hu224
 have r246:=MsgRd.old (hv66.1) U245
 refine R0 6 rfl<|Oc<|m1 (same19_any (A:=(L129.getD (((((L129.length:Nat) : Int) - 1)).toNat) (Ev.bad 0))) (B:=(Ev.mk 0 (fs.getD k Frm.zero))) r237 r246) fun w247 hu248=>?_
 have r250:=ub hu248 r226
 have r251:=ub hu248 r234
 refine hld ⟨r250,r251⟩ fun hS249=>Rt 7 hS249<|Rt 8 hS249<|?_
 have U252:=ut0 U245 hu248
 refine bla 90 ((!(decide ((L129.getD (((((L129.length:Nat) : Int) - 1)).toNat) (Ev.bad 0))=(Ev.mk 0 (fs.getD k Frm.zero)))))) (fun q253=>?_) (fun q253=>?_)
 have q253n:(decide ((L129.getD (((((L129.length:Nat) : Int) - 1)).toNat) (Ev.bad 0))=(Ev.mk 0 (fs.getD k Frm.zero))))=false:=by simpa using q253
 have q253np:=of_decide_eq_false q253n
 refine Ro 9 hS249<|Ro 10 hS249<|Ro 11 hS249<|Rt 12 hS249<|Rt 13 hS249<|Ro 14 hS249<|Ro 15 hS249<|Ro 16 hS249<|Rt 17 hS249<|re<|tn<|c1<|sg<|?_
 refine Pl 1<|nt<|rt<|br<|tr<|tr<|br<|tr<|rr (.bool false)<|?_
 have r254:=MsgRd.old r246 hu248
 have hs:false=true:=by obtain ⟨z1,z2,z3,z4⟩:=sas_write ((SA.feed_dir _ hX105).trans p55) (by decide) (hv66.2.1) (r254).rngs (fun l hz=>pduW_byts r254 (fewB_few q74n) l hz) hX78 hX130; rw [show (((L129.length:Nat) : Int) - 1).toNat=L129.length - 1 from by omega,z2] at q253n; simp at q253n
 rw [hs]
 exact ⟨rfl,U252⟩
 have q253n:(decide ((L129.getD (((((L129.length:Nat) : Int) - 1)).toNat) (Ev.bad 0))=(Ev.mk 0 (fs.getD k Frm.zero))))=true:=by simpa using q253
 have q253np:=of_decide_eq_true q253n
 refine Rt 9 hS249<|Rt 10 hS249<|Rt 11 hS249<|Rt 12 hS249<|Rt 13 hS249<|bla 95 ((decide (2 < ((L129.length:Nat) : Int)))) (fun q255=>?_) (fun q255=>?_)
 have q255p:=of_decide_eq_true q255
 refine Ro 14 hS249<|Ro 15 hS249<|Ro 16 hS249<|Rt 17 hS249<|re<|tn<|c1<|sg<|Pl 1<|nt<|rt<|br<|?_
 refine tr<|tr<|br<|tr<|rr (.bool false)<|?_
 have r256:=MsgRd.old r246 hu248
 have hs:false=true:=by obtain ⟨z1,z2,z3,z4⟩:=sas_write ((SA.feed_dir _ hX105).trans p55) (by decide) (hv66.2.1) (r256).rngs (fun l hz=>pduW_byts r256 (fewB_few q74n) l hz) hX78 hX130; omega
 rw [hs]
 exact ⟨rfl,U252⟩
 have q255p:=of_decide_eq_false q255
 refine Rt 14 hS249<|?_
 have U259:=ut0 U236 hu248
 have r260:=SasAt.upd hA137 U259 not0 (fun x hx=>not0)
 refine R0 15 rfl<|Oc<|m1 (sas_held r260) fun w257 hu258=>?_
 have r262:=ub hu258 r250
 have r263:=ub hu258 r251
 refine hld ⟨r262,r263⟩ fun hS261=>Rt 16 hS261<|Rt 17 hS261<|re<|tn<|?_
 have U264:=ut0 U252 hu258
 refine cb ((((S128.held.length:Nat) : Int) != 0)) (fun q265=>?_) (fun q265=>?_)
 have q265p:=ne_of_bnei q265
 refine sg<|Pl 1<|nt<|rt<|br<|tr<|tr<|br<|tr<|rr (.bool false)<|?_
 have U266:=ut0 hu248 hu258
 have r267:=MsgRd.old r246 U266
 have hs:false=true:=by obtain ⟨z1,z2,z3,z4⟩:=sas_write ((SA.feed_dir _ hX105).trans p55) (by decide) (hv66.2.1) (r267).rngs (fun l hz=>pduW_byts r267 (fewB_few q74n) l hz) hX78 hX130; rw [z1] at q265; simp at q265
 rw [hs]
 exact ⟨rfl,U264⟩
 have q265p:=eq_of_bnei q265
 refine sk<|bn<|tn<|go<|Pl 1<|L0<|Oi (((k:Nat) : Int) + 1)<|Pl 1<|nl<|?_
 have r268:=SasAt.upd r260 hu258 not0 (fun x hx=>not0)
 exact lpe ((k + 1),S128,A132,cp133,n134) ⟨U264,(le (le (le (le (le (le (le (le (le (le hz52 hu72.size) hu88.size) hu98.size) hu115.size) hu140.size) hu173.size) hu176.size) hu224.size) hu248.size) hu258.size),r268,(by (try dsimp only); omega),(by (try dsimp only); exact (SA.feed_dir _ hX130).trans ((SA.feed_dir _ hX105).trans p55))⟩ (by omega)
 have q57p:=of_decide_eq_false q57
 refine xt<|tx<|tx<|bx<|tn<|sg<|Pl 2<|nt<|rt<|rr (.bool true)<|?_
 exact ⟨rfl,U56⟩
 refine skn<|sg<|Pl 1<|L0<|Oc<|e3 (sas_new 0 sasc_new0) fun g269 w270 hg271 hA272 hu273=>Pl 1<|nt<|sq<|sg<|Pl 2<|nl<|?_
 refine tn<|c0<|skn<|sg<|Pl 2<|?_
 have U274:=ut0 hu11 hu273
 have r275:=RdB.old ha U274
 refine pr (SA.feed (SA.mk 0 []) a) fun S276 L277 hX278=>?_
 have hk289:=SA.feed_le hA272.2.2.1 (RdB.range r275) hX278
 refine L0<|Oc (args:=#[.pointer (some ⟨g269,0,none⟩),.slice A a.length cpA])<|?_
 refine (sas_feed_x hX278 hA272 r275 (far_made (RdG.low ha) (Nat.le_trans hu11.size hg271)) far_none (by omega)).mono ?_
 rintro _ w283 ⟨v279,A280,cp281,n282,rfl,ho284,hA285,hat286,hn287,hu288⟩
 refine ⟨_,rfl,?_⟩
 have hu290:Upd [g269] w270 w283:=hu288
 have hk291:=SasAt.le hA285
 have rd296:=ho284
 obtain ⟨A292,cp293,rfl,hl294,hm295⟩:=RdG.shape rd296.rd
 refine nt<|sq<|sg<|Pl 1<|nt<|bk<|?_
 have U297:=u1 U274 hu290 (ni hu11.size hg271)
 refine glp (fun x=>[(2,.slice F fs.length cpF),(3,.int .u8 z),(9,.bool true),(10,.int .i64 0),(11,.pointer (some ⟨g269,0,none⟩)),(12,.int .i64 ((x.1:Nat) : Int))]) (fun (x:Nat × SA × Option Addr × Nat × Nat) w'=>Upd [] w w'∧w283.heap.size≤w'.heap.size∧SasAt x.2.2.2.2 w10.heap.size w' g269 x.2.2.1 x.2.2.2.1 x.2.1∧(x.1≤fs.length)∧(x.2.1.dir=0)) (fun x=>fs.length - x.1) (0,S276,A280,cp281,n282) ⟨U297,lr,hA285,(by (try dsimp only); omega),(by (try dsimp only); exact SA.feed_dir _ hX278)⟩ ?_
 rintro ⟨k,S,Ah,ch,n⟩ w298 ⟨hu299,hz303,f300,p301,p302⟩
 refine wkc [(2,.slice F fs.length cpF),(3,.int .u8 z),(9,.bool true),(10,.int .i64 0),(11,.pointer (some ⟨g269,0,none⟩)),(12,.int .i64 ((k:Nat) : Int))] ?_
 have f304:SasAt n w10.heap.size w298 g269 Ah ch S:=f300
 have p305:k≤fs.length:=p301
 have p306:S.dir=0:=p302
 refine sq<|sg<|Pl 4<|nt<|?_
 have U307:=ut0 (Upd.refl [] _) hu299
 refine cb ((decide (((k:Nat) : Int) < ((fs.length:Nat) : Int)))) (fun q308=>?_) (fun q308=>?_)
 have q308p:=of_decide_eq_true q308
 refine skn<|sq<|bk<|sg<|Pl 2<|x64 (RdF.elt hF k (by omega) Frm.zero) fun b309 o310 cl311 t312 fr313 s314 hA315 hb316 hv317 hs318=>?_
 have hw319:=hv317.2
 refine L0<|Oixs 24 fs.length k hA315 (by omega)<|Pl 1<|?_
 have r320:=ub U307 hb316
 refine L0<|Oel [.int .u8 ((fs.getD k Frm.zero).msg.code),.int .u8 ((fs.getD k Frm.zero).msg.fail),.int .u16 ((fs.getD k Frm.zero).msg.addr),.int .u16 ((fs.getD k Frm.zero).msg.count),.int .u16 ((fs.getD k Frm.zero).msg.value),.int .u16 ((fs.getD k Frm.zero).msg.and_),.int .u16 ((fs.getD k Frm.zero).msg.or_),.int .u16 ((fs.getD k Frm.zero).msg.addr2),.int .u16 ((fs.getD k Frm.zero).msg.sub),.int .u16 ((fs.getD k Frm.zero).msg.status),.int .u16 ((fs.getD k Frm.zero).msg.events),.int .u16 ((fs.getD k Frm.zero).msg.messages),.slice s314.aw ((fs.getD k Frm.zero).msg.words.length) s314.kw,.slice s314.ab ((fs.getD k Frm.zero).msg.bits.length) s314.kb,.slice s314.ad ((fs.getD k Frm.zero).msg.data.length) s314.kd,.slice s314.ar ((fs.getD k Frm.zero).msg.recs.length) s314.kr,.int .u8 ((fs.getD k Frm.zero).msg.mei),.int .u8 ((fs.getD k Frm.zero).msg.kind),.int .u8 ((fs.getD k Frm.zero).msg.level),.int .u8 ((fs.getD k Frm.zero).msg.more),.int .u8 ((fs.getD k Frm.zero).msg.next),.slice s314.ao ((fs.getD k Frm.zero).msg.objects.length) s314.ko] r320 (el_sub (k:=2) (m:=22) hs318 (by kernel_rfl) (by decide))<|?_
 have r321:=MsgRd.old (hv317.1) U307
 refine L0<|Oc<|m1 (few_any r321) fun w322 hu323=>Pl 1<|nt<|sq<|sg<|Pl 2<|nt<|?_
 have U324:=ut0 U307 hu323
 refine cb ((!(fewB (fs.getD k Frm.zero).msg))) (fun q325=>?_) (fun q325=>?_)
 have q325n:(fewB (fs.getD k Frm.zero).msg)=false:=by simpa using q325
 refine sg<|Pl 2<|nt<|rt<|tr<|br<|tr<|tr<|br<|tr<|rr (.bool true)<|?_
 exact ⟨rfl,U324⟩
 have q325n:(fewB (fs.getD k Frm.zero).msg)=true:=by simpa using q325
 refine skn<|sg<|Pl 3<|L0<|Oixs 24 fs.length k hA315 (by omega)<|?_
 have r326:=ub hu323 r320
 refine L0<|Oel [.int .u8 ((fs.getD k Frm.zero).unit),.int .u16 ((fs.getD k Frm.zero).tid),.int .u8 ((fs.getD k Frm.zero).msg.code),.int .u8 ((fs.getD k Frm.zero).msg.fail),.int .u16 ((fs.getD k Frm.zero).msg.addr),.int .u16 ((fs.getD k Frm.zero).msg.count),.int .u16 ((fs.getD k Frm.zero).msg.value),.int .u16 ((fs.getD k Frm.zero).msg.and_),.int .u16 ((fs.getD k Frm.zero).msg.or_),.int .u16 ((fs.getD k Frm.zero).msg.addr2),.int .u16 ((fs.getD k Frm.zero).msg.sub),.int .u16 ((fs.getD k Frm.zero).msg.status),.int .u16 ((fs.getD k Frm.zero).msg.events),.int .u16 ((fs.getD k Frm.zero).msg.messages),.slice s314.aw ((fs.getD k Frm.zero).msg.words.length) s314.kw,.slice s314.ab ((fs.getD k Frm.zero).msg.bits.length) s314.kb,.slice s314.ad ((fs.getD k Frm.zero).msg.data.length) s314.kd,.slice s314.ar ((fs.getD k Frm.zero).msg.recs.length) s314.kr,.int .u8 ((fs.getD k Frm.zero).msg.mei),.int .u8 ((fs.getD k Frm.zero).msg.kind),.int .u8 ((fs.getD k Frm.zero).msg.level),.int .u8 ((fs.getD k Frm.zero).msg.more),.int .u8 ((fs.getD k Frm.zero).msg.next),.slice s314.ao ((fs.getD k Frm.zero).msg.objects.length) s314.ko] r326 hs318<|?_
 have r327:=MsgRd.old r321 hu323
 refine wo (ascW 0 ((fs.getD k Frm.zero).unit) ((fs.getD k Frm.zero).tid) ((fs.getD k Frm.zero).msg)) (fun hX329=>?_) (fun l328 hX329=>?_)
 refine L0<|Oc<|m1 (asc_write_n hX329 r327 (fewB_few q325n) (by omega) (by omega)) fun w330 hu331=>Pl 5<|nt<|sq<|sg<|Pl 2<|nt<|c1<|xt<|tx<|bx<|?_
 refine tn<|go<|Pl 1<|L0<|Oi (((k:Nat) : Int) + 1)<|Pl 1<|nl<|?_
 have U332:=ut0 U324 hu331
 have U333:=ut0 hu323 hu331
 have r334:=SasAt.upd f304 U333 not0 (fun x hx=>not0)
 exact lpe ((k + 1),S,Ah,ch,n) ⟨U332,(le (le hz303 hu323.size) hu331.size),r334,(by (try dsimp only); omega),(by (try dsimp only); exact p306)⟩ (by omega)
 have hl335:=ascW_le (r327.rngs).1 hX329
 refine L0<|Oc<|e2 (asc_write_s hX329 r327 (fewB_few q325n) (by omega) (by omega)) fun v337 w336 ho338 hu339=>?_
 rcases OwnF.shape ho338 with ⟨g340,cp341,rfl⟩
 rcases RdG.shape (ho338).rd with ⟨_,_,e342,hl343,hm344⟩
 injection e342 with _ _ e342
 rw [← e342] at hl343 hm344
 refine Pl 5<|nt<|sq<|sg<|Pl 2<|nt<|c0<|skn<|sg<|?_
 refine Pl 2<|L0<|Olt (m:=1) (e:=5) #[.int .u8 z] fun g345 w346 hg347 B348 hu349=>?_
 have ow350:=litB hg347 (xs:=[z]) (by as_aux_lemma=>kernel_rfl) (rng_cons (by omega) rng_nil) (by (try simp only [List.length_cons,List.length_nil]); omega) B348
 have U351:=ut0 hu323 hu339
 have U352:=ut0 U351 hu349
 have r353:=SasAt.upd f304 U352 not0 (fun x hx=>not0)
 refine pr (SA.feed S ([z])) fun S354 L355 hX356=>?_
 have hz367:([z] : List Int).length=1:=rfl
 have hk368:=SA.feed_le r353.2.2.1 (RdB.range (ow350).rd) hX356
 refine L0<|Oc (args:=#[.pointer (some ⟨g269,0,none⟩),.slice (some ⟨g345,0,none⟩) 1 1])<|?_
 refine (sas_feed_x hX356 r353 (ow350).rd (far_ne (not_old (SasAt.lt hA272) (le (le (le hu290.size hz303) hu323.size) hu339.size) ow350)) (far_rows (rows_young ow350 (SasAt.row f304) U351.size)) (by exact (show 1≤1048576 from by decide))).mono ?_
 rintro _ w361 ⟨v357,A358,cp359,n360,rfl,ho362,hA363,hat364,hn365,hu366⟩
 refine ⟨_,rfl,?_⟩
 have hk369:=SasAt.le hA363
 have rd374:=ho362
 obtain ⟨A370,cp371,rfl,hl372,hm373⟩:=RdG.shape rd374.rd
 refine ng<|Pl 2<|?_
 have U375:=ut (Upd.mono (S':=(g269 :: (ob Ah++[]))) hu349 all0) hu366 (ac im (all_app (fun x hx=>Or.inl (by simp [hx])) all0))
 have ne376:=nb (SasAt.lt hA272) (le (le hu290.size hz303) hu323.size) (OwnF.ge ho338)
 have r377:=RdB.far (ho338).rd U375 (far_cons (far_blk (Ne.symm ne376)) (far_app (far_nrow (not_young (SasAt.row f304) hu323.size (OwnF.ge ho338))) far_nil))
 have r378:=RdB.far (ho338).rd hu349 far_nil
 refine pr (SA.feed S354 l328) fun S379 L380 hX381=>?_
 have hk392:=SA.feed_le hA363.2.2.1 (RdB.range r377) hX381
 refine L0<|Oc (args:=#[.pointer (some ⟨g269,0,none⟩),.slice (some ⟨g340,0,none⟩) l328.length cp341])<|?_
 refine (sas_feed_x hX381 hA363 r377 (far_blk (Ne.symm ne376)) (far_frm (far_nrow (not_young (SasAt.row f304) hu323.size (OwnF.ge ho338))) (RdG.low r378) hat364) (by omega)).mono ?_
 rintro _ w386 ⟨v382,A383,cp384,n385,rfl,ho387,hA388,hat389,hn390,hu391⟩
 refine ⟨_,rfl,?_⟩
 have hk393:=SasAt.le hA388
 have rd398:=ho387
 obtain ⟨A394,cp395,rfl,hl396,hm397⟩:=RdG.shape rd398.rd
 refine Pl 1<|nt<|sq<|sg<|Pl 3<|nt<|?_
 have U399:=ut0 U324 hu339
 have U400:=ut0 U399 hu349
 have U401:=ut U400 hu366 (ac (ni hu11.size hg271) (all_app (ob_new (SasAt.row f304) hu11.size) all0))
 have U402:=ut U401 hu391 (ac (ni hu11.size hg271) (all_app (ob_new (SasAt.row hA363) hu11.size) all0))
 refine cb ((((L380.length:Nat) : Int) == 0)) (fun q403=>?_) (fun q403=>?_)
 have q403p:=eq_of_beqi q403
 refine sg<|Pl 1<|nt<|rt<|tr<|br<|tr<|tr<|br<|tr<|rr (.bool false)<|?_
 have U404:=ut0 hu339 hu349
 have U405:=ut (Upd.mono (S':=(g269 :: (ob Ah++[]))) U404 all0) hu366 (ac im (all_app (fun x hx=>Or.inl (by simp [hx])) all0))
 have U406:=ut U405 hu391 (ac im (all_app (ob_from hat364 (fun x hx=>Or.inl (by simp [hx])) U404.size) all0))
 have U407:=ut (Upd.mono (S':=(g269 :: (ob Ah++[]))) U352 all0) hu366 (ac im (all_app (fun x hx=>Or.inl (by simp [hx])) all0))
 have U408:=ut U407 hu391 (ac im (all_app (ob_from hat364 (fun x hx=>Or.inl (by simp [hx])) U352.size) all0))
 have r409:=MsgRd.old (hv317.1) U402
 have hs:false=true:=by obtain ⟨z1,z2,z3,z4⟩:=sas_write ((SA.feed_dir _ hX356).trans p306) (by decide) (hv317.2.1) (r409).rngs (fun l hz=>pduW_byts r409 (fewB_few q325n) l hz) hX329 hX381; omega
 rw [hs]
 exact ⟨rfl,U402⟩
 have q403p:=ne_of_beqi q403
 refine skn<|sg<|Pl 3<|L0<|Oi (((L380.length:Nat) : Int) - 1)<|x64 (RdE.elt (OwnV.own rd398).rd (((((L380.length:Nat) : Int) - 1)).toNat) (by omega) (Ev.bad 0)) fun b410 o411 cl412 t413 fr414 s415 hA416 hb417 hv418 hs419=>L0<|Oixi 25 L380.length (((((L380.length:Nat) : Int) - 1)).toNat) (((L380.length:Nat) : Int) - 1) (by omega) hA416 (by omega)<|L0<|Oel [.int .i64 ((L380.getD (((((L380.length:Nat) : Int) - 1)).toNat) (Ev.bad 0)).e),.int .u8 ((L380.getD (((((L380.length:Nat) : Int) - 1)).toNat) (Ev.bad 0)).f.unit),.int .u16 ((L380.getD (((((L380.length:Nat) : Int) - 1)).toNat) (Ev.bad 0)).f.tid),.int .u8 ((L380.getD (((((L380.length:Nat) : Int) - 1)).toNat) (Ev.bad 0)).f.msg.code),.int .u8 ((L380.getD (((((L380.length:Nat) : Int) - 1)).toNat) (Ev.bad 0)).f.msg.fail),.int .u16 ((L380.getD (((((L380.length:Nat) : Int) - 1)).toNat) (Ev.bad 0)).f.msg.addr),.int .u16 ((L380.getD (((((L380.length:Nat) : Int) - 1)).toNat) (Ev.bad 0)).f.msg.count),.int .u16 ((L380.getD (((((L380.length:Nat) : Int) - 1)).toNat) (Ev.bad 0)).f.msg.value),.int .u16 ((L380.getD (((((L380.length:Nat) : Int) - 1)).toNat) (Ev.bad 0)).f.msg.and_),.int .u16 ((L380.getD (((((L380.length:Nat) : Int) - 1)).toNat) (Ev.bad 0)).f.msg.or_),.int .u16 ((L380.getD (((((L380.length:Nat) : Int) - 1)).toNat) (Ev.bad 0)).f.msg.addr2),.int .u16 ((L380.getD (((((L380.length:Nat) : Int) - 1)).toNat) (Ev.bad 0)).f.msg.sub),.int .u16 ((L380.getD (((((L380.length:Nat) : Int) - 1)).toNat) (Ev.bad 0)).f.msg.status),.int .u16 ((L380.getD (((((L380.length:Nat) : Int) - 1)).toNat) (Ev.bad 0)).f.msg.events),.int .u16 ((L380.getD (((((L380.length:Nat) : Int) - 1)).toNat) (Ev.bad 0)).f.msg.messages),.slice s415.aw ((L380.getD (((((L380.length:Nat) : Int) - 1)).toNat) (Ev.bad 0)).f.msg.words.length) s415.kw,.slice s415.ab ((L380.getD (((((L380.length:Nat) : Int) - 1)).toNat) (Ev.bad 0)).f.msg.bits.length) s415.kb,.slice s415.ad ((L380.getD (((((L380.length:Nat) : Int) - 1)).toNat) (Ev.bad 0)).f.msg.data.length) s415.kd,.slice s415.ar ((L380.getD (((((L380.length:Nat) : Int) - 1)).toNat) (Ev.bad 0)).f.msg.recs.length) s415.kr,.int .u8 ((L380.getD (((((L380.length:Nat) : Int) - 1)).toNat) (Ev.bad 0)).f.msg.mei),.int .u8 ((L380.getD (((((L380.length:Nat) : Int) - 1)).toNat) (Ev.bad 0)).f.msg.kind),.int .u8 ((L380.getD (((((L380.length:Nat) : Int) - 1)).toNat) (Ev.bad 0)).f.msg.level),.int .u8 ((L380.getD (((((L380.length:Nat) : Int) - 1)).toNat) (Ev.bad 0)).f.msg.more),.int .u8 ((L380.getD (((((L380.length:Nat) : Int) - 1)).toNat) (Ev.bad 0)).f.msg.next),.slice s415.ao ((L380.getD (((((L380.length:Nat) : Int) - 1)).toNat) (Ev.bad 0)).f.msg.objects.length) s415.ko] hb417 hs419<|L0<|Oal #[.int .i64 0,.int .u8 0,.int .u16 0,.int .u8 0,.int .u8 0,.int .u16 0,.int .u16 0,.int .u16 0,.int .u16 0,.int .u16 0,.int .u16 0,.int .u16 0,.int .u16 0,.int .u16 0,.int .u16 0,.slice none 0 0,.slice none 0 0,.slice none 0 0,.slice none 0 0,.int .u8 0,.int .u8 0,.int .u8 0,.int .u8 0,.int .u8 0,.slice none 0 0] fun g420 w421 hg422 B423 hu424=>L0<|Osw B423 (evl ⟨(L380.getD (((((L380.length:Nat) : Int) - 1)).toNat) (Ev.bad 0)).e,(L380.getD (((((L380.length:Nat) : Int) - 1)).toNat) (Ev.bad 0)).f⟩ s415) fun w425 B426 hu427=>nt<|sq<|?_
 refine Rg 18 (fun w'=>w'.heap[g420]? = some (.cells (evl ⟨(L380.getD (((((L380.length:Nat) : Int) - 1)).toNat) (Ev.bad 0)).e,(L380.getD (((((L380.length:Nat) : Int) - 1)).toNat) (Ev.bad 0)).f⟩ s415) 61 (0,0))∧w'.heap[b309]? = some (.cells cl311 t312 fr313)) fun w474 hu475=>?_
 have r477:=ub hu475 B426
 have U478:=ut0 hu339 hu349
 have U479:=ut (Upd.mono (S':=(g269 :: (ob Ah++[]))) U478 all0) hu366 (ac im (all_app (fun x hx=>Or.inl (by simp [hx])) all0))
 have U480:=ut U479 hu391 (ac im (all_app (ob_from hat364 (fun x hx=>Or.inl (by simp [hx])) U478.size) all0))
 have U481:=ut0 U480 hu424
 have U482:=u1 U481 hu427 (ni U480.size hg422)
 have U483:=ut0 U482 hu475
 have ne484:=nb (blk_lt hb316) hu11.size hg271
 have r485:=Upd.blk U483 (not_cons ne484 (not_app (not_old (blk_lt hb316) hu11.size (SasAt.row f304)) not0)) r326
 refine hld ⟨r477,r485⟩ fun hS476=>Rr 0 hS476 (.agg (evl ⟨(L380.getD (((((L380.length:Nat) : Int) - 1)).toNat) (Ev.bad 0)).e,(L380.getD (((((L380.length:Nat) : Int) - 1)).toNat) (Ev.bad 0)).f⟩ s415)) (fun w' hs=>lda_o (g:=g420) (off:=0) [.int .i64 ((L380.getD (((((L380.length:Nat) : Int) - 1)).toNat) (Ev.bad 0)).e),.int .u8 ((L380.getD (((((L380.length:Nat) : Int) - 1)).toNat) (Ev.bad 0)).f.unit),.int .u16 ((L380.getD (((((L380.length:Nat) : Int) - 1)).toNat) (Ev.bad 0)).f.tid),.int .u8 ((L380.getD (((((L380.length:Nat) : Int) - 1)).toNat) (Ev.bad 0)).f.msg.code),.int .u8 ((L380.getD (((((L380.length:Nat) : Int) - 1)).toNat) (Ev.bad 0)).f.msg.fail),.int .u16 ((L380.getD (((((L380.length:Nat) : Int) - 1)).toNat) (Ev.bad 0)).f.msg.addr),.int .u16 ((L380.getD (((((L380.length:Nat) : Int) - 1)).toNat) (Ev.bad 0)).f.msg.count),.int .u16 ((L380.getD (((((L380.length:Nat) : Int) - 1)).toNat) (Ev.bad 0)).f.msg.value),.int .u16 ((L380.getD (((((L380.length:Nat) : Int) - 1)).toNat) (Ev.bad 0)).f.msg.and_),.int .u16 ((L380.getD (((((L380.length:Nat) : Int) - 1)).toNat) (Ev.bad 0)).f.msg.or_),.int .u16 ((L380.getD (((((L380.length:Nat) : Int) - 1)).toNat) (Ev.bad 0)).f.msg.addr2),.int .u16 ((L380.getD (((((L380.length:Nat) : Int) - 1)).toNat) (Ev.bad 0)).f.msg.sub),.int .u16 ((L380.getD (((((L380.length:Nat) : Int) - 1)).toNat) (Ev.bad 0)).f.msg.status),.int .u16 ((L380.getD (((((L380.length:Nat) : Int) - 1)).toNat) (Ev.bad 0)).f.msg.events),.int .u16 ((L380.getD (((((L380.length:Nat) : Int) - 1)).toNat) (Ev.bad 0)).f.msg.messages),.slice s415.aw ((L380.getD (((((L380.length:Nat) : Int) - 1)).toNat) (Ev.bad 0)).f.msg.words.length) s415.kw,.slice s415.ab ((L380.getD (((((L380.length:Nat) : Int) - 1)).toNat) (Ev.bad 0)).f.msg.bits.length) s415.kb,.slice s415.ad ((L380.getD (((((L380.length:Nat) : Int) - 1)).toNat) (Ev.bad 0)).f.msg.data.length) s415.kd,.slice s415.ar ((L380.getD (((((L380.length:Nat) : Int) - 1)).toNat) (Ev.bad 0)).f.msg.recs.length) s415.kr,.int .u8 ((L380.getD (((((L380.length:Nat) : Int) - 1)).toNat) (Ev.bad 0)).f.msg.mei),.int .u8 ((L380.getD (((((L380.length:Nat) : Int) - 1)).toNat) (Ev.bad 0)).f.msg.kind),.int .u8 ((L380.getD (((((L380.length:Nat) : Int) - 1)).toNat) (Ev.bad 0)).f.msg.level),.int .u8 ((L380.getD (((((L380.length:Nat) : Int) - 1)).toNat) (Ev.bad 0)).f.msg.more),.int .u8 ((L380.getD (((((L380.length:Nat) : Int) - 1)).toNat) (Ev.bad 0)).f.msg.next),.slice s415.ao ((L380.getD (((((L380.length:Nat) : Int) - 1)).toNat) (Ev.bad 0)).f.msg.objects.length) s415.ko] rfl (by kernel_rfl) hs.1 (by kernel_rfl) (by kernel_rfl) rfl)<|Rt 1 hS476<|Rt 2 hS476<|Ri 3 hS476 24 fs.length k ((k:Nat) : Int) rfl hA315 (by omega)<|Rr 4 hS476 (.agg (fcl ((fs.getD k Frm.zero).unit) ((fs.getD k Frm.zero).tid) ((fs.getD k Frm.zero).msg) s314)) (fun w' hs=>lda_o (g:=b309) (off:=o310 + k * 24) [.int .u8 ((fs.getD k Frm.zero).unit),.int .u16 ((fs.getD k Frm.zero).tid),.int .u8 ((fs.getD k Frm.zero).msg.code),.int .u8 ((fs.getD k Frm.zero).msg.fail),.int .u16 ((fs.getD k Frm.zero).msg.addr),.int .u16 ((fs.getD k Frm.zero).msg.count),.int .u16 ((fs.getD k Frm.zero).msg.value),.int .u16 ((fs.getD k Frm.zero).msg.and_),.int .u16 ((fs.getD k Frm.zero).msg.or_),.int .u16 ((fs.getD k Frm.zero).msg.addr2),.int .u16 ((fs.getD k Frm.zero).msg.sub),.int .u16 ((fs.getD k Frm.zero).msg.status),.int .u16 ((fs.getD k Frm.zero).msg.events),.int .u16 ((fs.getD k Frm.zero).msg.messages),.slice s314.aw ((fs.getD k Frm.zero).msg.words.length) s314.kw,.slice s314.ab ((fs.getD k Frm.zero).msg.bits.length) s314.kb,.slice s314.ad ((fs.getD k Frm.zero).msg.data.length) s314.kd,.slice s314.ar ((fs.getD k Frm.zero).msg.recs.length) s314.kr,.int .u8 ((fs.getD k Frm.zero).msg.mei),.int .u8 ((fs.getD k Frm.zero).msg.kind),.int .u8 ((fs.getD k Frm.zero).msg.level),.int .u8 ((fs.getD k Frm.zero).msg.more),.int .u8 ((fs.getD k Frm.zero).msg.next),.slice s314.ao ((fs.getD k Frm.zero).msg.objects.length) s314.ko] rfl (by kernel_rfl) hs.2 (by kernel_rfl) (by kernel_rfl) hs318)<|Rt 5 hS476<|?_
 have U486:=u1 hu424 hu427 (nr hg422)
 have U487:=ut0 U486 hu475
 have r488:=MsgRd.upd (hv418.1) U487 safe0
 have U489:=ut (Upd.mono (S':=(g269 :: (ob Ah++[]))) U352 all0) hu366 (ac im (all_app (fun x hx=>Or.inl (by simp [hx])) all0))
 have U490:=ut U489 hu391 (ac im (all_app (ob_from hat364 (fun x hx=>Or.inl (by simp [hx])) U352.size) all0))
 have U491:=ut0 U490 hu424
 have U492:=u1 U491 hu427 (ni U490.size hg422)
 have U493:=ut0 U492 hu475
 have U494:=ut0 U402 hu424
 have U495:=u1 U494 hu427 (ni U402.size hg422)
 have U496:=ut0 U495 hu475
 have r497:=MsgRd.old (hv317.1) U496
 refine R0 6 rfl<|Oc<|m1 (same19_any (A:=(L380.getD (((((L380.length:Nat) : Int) - 1)).toNat) (Ev.bad 0))) (B:=(Ev.mk 0 (fs.getD k Frm.zero))) r488 r497) fun w498 hu499=>?_
 have r501:=ub hu499 r477
 have r502:=ub hu499 r485
 refine hld ⟨r501,r502⟩ fun hS500=>Rt 7 hS500<|Rt 8 hS500<|?_
 have U503:=ut0 U496 hu499
 refine bla 90 ((!(decide ((L380.getD (((((L380.length:Nat) : Int) - 1)).toNat) (Ev.bad 0))=(Ev.mk 0 (fs.getD k Frm.zero)))))) (fun q504=>?_) (fun q504=>?_)
 have q504n:(decide ((L380.getD (((((L380.length:Nat) : Int) - 1)).toNat) (Ev.bad 0))=(Ev.mk 0 (fs.getD k Frm.zero))))=false:=by simpa using q504
 have q504np:=of_decide_eq_false q504n
 refine Ro 9 hS500<|Ro 10 hS500<|Ro 11 hS500<|Rt 12 hS500<|Rt 13 hS500<|Ro 14 hS500<|Ro 15 hS500<|Ro 16 hS500<|Rt 17 hS500<|re<|tn<|c1<|sg<|?_
 refine Pl 1<|nt<|rt<|br<|tr<|tr<|br<|tr<|rr (.bool false)<|?_
 have r505:=MsgRd.old r497 hu499
 have hs:false=true:=by obtain ⟨z1,z2,z3,z4⟩:=sas_write ((SA.feed_dir _ hX356).trans p306) (by decide) (hv317.2.1) (r505).rngs (fun l hz=>pduW_byts r505 (fewB_few q325n) l hz) hX329 hX381; rw [show (((L380.length:Nat) : Int) - 1).toNat=L380.length - 1 from by omega,z2] at q504n; simp at q504n
 rw [hs]
 exact ⟨rfl,U503⟩
 have q504n:(decide ((L380.getD (((((L380.length:Nat) : Int) - 1)).toNat) (Ev.bad 0))=(Ev.mk 0 (fs.getD k Frm.zero))))=true:=by simpa using q504
 have q504np:=of_decide_eq_true q504n
 refine Rt 9 hS500<|Rt 10 hS500<|Rt 11 hS500<|Rt 12 hS500<|Rt 13 hS500<|bla 95 ((decide (2 < ((L380.length:Nat) : Int)))) (fun q506=>?_) (fun q506=>?_)
 have q506p:=of_decide_eq_true q506
 refine Ro 14 hS500<|Ro 15 hS500<|Ro 16 hS500<|Rt 17 hS500<|re<|tn<|c1<|sg<|Pl 1<|nt<|rt<|br<|?_
 refine tr<|tr<|br<|tr<|rr (.bool false)<|?_
 have r507:=MsgRd.old r497 hu499
 have hs:false=true:=by obtain ⟨z1,z2,z3,z4⟩:=sas_write ((SA.feed_dir _ hX356).trans p306) (by decide) (hv317.2.1) (r507).rngs (fun l hz=>pduW_byts r507 (fewB_few q325n) l hz) hX329 hX381; omega
 rw [hs]
 exact ⟨rfl,U503⟩
 have q506p:=of_decide_eq_false q506
 refine Rt 14 hS500<|?_
 have U510:=ut0 U487 hu499
 have r511:=SasAt.upd hA388 U510 not0 (fun x hx=>not0)
 refine R0 15 rfl<|Oc<|m1 (sas_held r511) fun w508 hu509=>?_
 have r513:=ub hu509 r501
 have r514:=ub hu509 r502
 refine hld ⟨r513,r514⟩ fun hS512=>Rt 16 hS512<|Rt 17 hS512<|re<|tn<|?_
 have U515:=ut0 U503 hu509
 refine cb ((((S379.held.length:Nat) : Int) != 0)) (fun q516=>?_) (fun q516=>?_)
 have q516p:=ne_of_bnei q516
 refine sg<|Pl 1<|nt<|rt<|br<|tr<|tr<|br<|tr<|rr (.bool false)<|?_
 have U517:=ut0 hu499 hu509
 have r518:=MsgRd.old r497 U517
 have hs:false=true:=by obtain ⟨z1,z2,z3,z4⟩:=sas_write ((SA.feed_dir _ hX356).trans p306) (by decide) (hv317.2.1) (r518).rngs (fun l hz=>pduW_byts r518 (fewB_few q325n) l hz) hX329 hX381; rw [z1] at q516; simp at q516
 rw [hs]
 exact ⟨rfl,U515⟩
 have q516p:=eq_of_bnei q516
 refine sk<|bn<|tn<|go<|Pl 1<|L0<|Oi (((k:Nat) : Int) + 1)<|Pl 1<|nl<|?_
 have r519:=SasAt.upd r511 hu509 not0 (fun x hx=>not0)
 exact lpe ((k + 1),S379,A383,cp384,n385) ⟨U515,(le (le (le (le (le (le (le (le (le (le hz303 hu323.size) hu339.size) hu349.size) hu366.size) hu391.size) hu424.size) hu427.size) hu475.size) hu499.size) hu509.size),r519,(by (try dsimp only); omega),(by (try dsimp only); exact (SA.feed_dir _ hX381).trans ((SA.feed_dir _ hX356).trans p306))⟩ (by omega)
 have q308p:=of_decide_eq_false q308
 refine xt<|tx<|tx<|bx<|tn<|sg<|Pl 2<|nt<|rt<|rr (.bool true)<|?_
 exact ⟨rfl,U307⟩
theorem lawSascWritesV {w:World} {ans:Bool} {z:Int} (hz:0≤z∧z < 256) {mA:Bool} {vA:Value} {a:List Int} (ha:RdB mA w vA a) {mF:Bool} {vF:Value} {fs:List Frm} (hF:RdF mF w vF fs) : Calls Tryz.prog 16 #[.bool ans,vA,vF,.int .u8 z] w (PVal (.bool true) w):=by
  obtain ⟨AA,cpA,rfl,_,_⟩:=ha.shape
  obtain ⟨A0,cp0,rfl,_,_⟩:=hF.shape
  exact lawSascWrites (ans:=ans) (z:=z) (hz:=hz) ha hF
end Go.Proofs.YtgjlbabefogepaaGreat
namespace Go.Proofs.YtgjlbabefogepaaGreat
open Go.ChangeShapes Go.WideShapes Go.ChangeAt Go.RowKit
theorem own:ownKnob Tryz.prog.godebug=none:=by kernel_rfl
theorem laidOut:laidOutB Tryz.prog=true:=by kernel_rfl
set_option maxRecDepth 100000 in
theorem lifted (os:Os) (started:os.Started) (H:Type) (enc:TypeId × Value→H) :
    ReturnsInHanded {} Tryz.checked os 16 .any (Rows.sascWritesSpec.pre6 enc Tryz.prog Tryz.f16 Rows.sascWritesRow.domain false) (Rows.sascWritesSpec.post enc Tryz.prog Tryz.f16 false true false false):=by
  refine returnsInHanded_of_change (C:=Tryz.checked) own started (by kernel_rfl) Tryz.func16
    (ChangeSpec.witness6 (enc:=enc) (C:=Tryz.checked) false ⟨#[],#[.bool false,.slice none 0 0,.slice none 0 0,.int .u8 0],[]⟩ 8 (by kernel_rfl) (by kernel_rfl) (by kernel_rfl) (by kernel_rfl)) ?_
  intro W base args ds gs before hval0 hW hcnd _
  have hval:∀ (j:Nat) t v,Tryz.f16.params[j]? = some t→args[j]? = some v→Value.okWide Tryz.prog W .any base t v:=hval0
  have hW':=hW
  obtain ⟨p,q,hA0,hV,rfl,hfz,hnd⟩:=hW
  have hA:DataW.TrodAll enc Tryz.prog W 0 (fun _=>true) true Tryz.f16.params.toList args.toList ds p:=hA0
  rw [Tryz.params16] at hA hval
  obtain ⟨v0,vs0,d0,ds0,p0,q0,hargs,rfl,rfl,h0,r0⟩:=trodAll_cons hA
  obtain ⟨v1,vs1,d1,ds1,p1,q1,rfl,rfl,rfl,h1,r1⟩:=trodAll_cons r0
  obtain ⟨v2,vs2,d2,ds2,p2,q2,rfl,rfl,rfl,h2,r2⟩:=trodAll_cons r1
  obtain ⟨v3,vs3,d3,ds3,p3,q3,rfl,rfl,rfl,h3,r3⟩:=trodAll_cons r2
  obtain ⟨rfl,rfl,rfl⟩:=trodAll_nil r3
  obtain rfl:args = #[v0,v1,v2,v3]:=by cases args; simp_all
  obtain ⟨rfl,rfl⟩:=trodVars_none hV
  obtain ⟨a0,rfl,rfl,rfl⟩:=open_bool Tryz.underlying4 (hval 0 4 v0 rfl rfl) h0
  have k1:=h1
  have lt1:∀ x∈p1,x.block < W.heap.size:=by obtain ⟨m,hm⟩:=k1; exact DataW.trod_lt m _ _ _ hm
  obtain ⟨s1,len1,cap1,rfl⟩:=okWide_slice Tryz.underlying29 (hval 1 29 v1 rfl rfl)
  obtain ⟨u1,xs1,e1,R1⟩ : ∃ u xs,[Value.slice s1 len1 cap1]=[u]∧RdB false W u xs:=by
    obtain ⟨fuel,hf⟩:=k1
    exact sl_u8 hf
  obtain rfl:Value.slice s1 len1 cap1=u1:=by simpa using e1
  have k2:=h2
  have lt2:∀ x∈p2,x.block < W.heap.size:=by obtain ⟨m,hm⟩:=k2; exact DataW.trod_lt m _ _ _ hm
  obtain ⟨s2,len2,cap2,rfl⟩:=okWide_slice Tryz.underlying58 (hval 2 58 v2 rfl rfl)
  obtain ⟨u2,xs2,e2,R2⟩ : ∃ u xs,[Value.slice s2 len2 cap2]=[u]∧RdF false W u xs:=by
    obtain ⟨fuel,hf⟩:=k2
    exact fs_open hf
  obtain rfl:Value.slice s2 len2 cap2=u2:=by simpa using e2
  obtain ⟨a3,rfl,rfl,rfl,w3⟩:=open_int Tryz.underlying5 (hval 3 5 v3 rfl rfl) h3
  have b3:=bounds_u8 w3
  clear hA0 hval0
  refine (lawSascWritesV (ans:=a0) (hz:=(by omega)) R1 R2).mono fun e W' ⟨he,hu⟩=>?_
  have bel:=upd_below hu
  subst he
  exact ⟨_,rfl,_,_,_,[],_,[],hW',trodAll_mk1 (shut_bool Tryz.underlying4 _),(trodAll_cons_mk (shut_bool Tryz.underlying4 _) (trodAll_cons_mk (Below.trod laidOut (by kernel_rfl) (of_decide_eq_true (by kernel_rfl)) k1 bel lt1) (trodAll_cons_mk (Below.trod laidOut (by kernel_rfl) (of_decide_eq_true (by kernel_rfl)) k2 bel lt2) (trodAll_cons_mk (shut_int Tryz.underlying5 w3) trodAll_mk0)))),rfl,bel.frame _,fun h=>by cases h⟩
theorem over:Rows.sascWritesRow.holds Tryz.pinned (OpenSpec.ofChange Rows.sascWritesSpec) :=
  OpenClaim.holds_of_wide 16 Tryz.f16 rfl rfl rfl rfl rfl rfl rfl ⟨rfl,rfl,rfl,rfl,rfl⟩ rfl rfl rfl rfl rfl (by kernel_rfl) Tryz.func16 (by kernel_rfl)
    (of_decide_eq_true (by kernel_rfl)) (by unfold Func.isWrapper; first | (rw [if_pos (by decide +kernel)]; kernel_rfl) | (rw [if_neg (by decide +kernel)]; exact ⟨rfl,rfl⟩))
    (fun os started H enc _=>lifted os started H enc)
theorem proved:Rows.SascWritesSaid:=over
#print axioms proved
end Go.Proofs.YtgjlbabefogepaaGreat
