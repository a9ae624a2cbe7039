/- Contracts of functions, part KA4. -/
import Derived.Test.YtpglhicfhppaiaaGreatKA1
import Derived.Test.YtpglhicfhppaiaaGreatKA2
import Derived.Test.YtpglhicfhppaiaaGreatKA3
set_option linter.unusedVariables false
set_option linter.unusedSimpArgs false
namespace Go.Proofs.YtpglhicfhppaiaaGreat
open Go.RowKit
def loopR (fn0:FuncId) (tm:Array Value) (asg bdy:Code) (D:Nat) : Loop:={ state:=.ready,pending:=none,fn:=fn0,tmps:=tm,params:=#[53],assign:=asg,body:=bdy,defers:=D }
def Rounds (w:World) (gb gs gm l:Nat) (c:Int) (R:Loop) : Prop:=∀ (W:World) (C:Cur) (s:Int) (L:List Rec) (A:Option Addr) (cp:Nat) (x:Rec) (Ax:Option Addr) (cx:Nat),JR w gb gs gm l c R C s L A cp W→RdW true W (.slice Ax x.words.length cx) x.words→B16 x.file→B16 x.record→B16 x.count→L.length≤1048576 →
    RoundIn Fence.wide 8 Tryz.prog l R.fn (R.tmps.setIfInBounds 53 (.agg #[.int .u16 x.file,.int .u16 x.record,.int .u16 x.count,.slice Ax x.words.length cx])) R.assign R.body W (fun e W'=>e = .returned (.bool true)∧W.heap.size≤W'.heap.size∧∃ A2 c2,JR w gb gs gm l c R C s (L++[x]) A2 c2 W')
set_option maxRecDepth 100000 in
set_option maxHeartbeats 4000000 in
theorem full_A {w:World} {gb gs gm l b1 b2 fn0 D:Nat} {tm:Array Value} {asg bdy:Code} {c:Int} {C0:Cur} (hC:CurAt w gb C0) (hS:w.heap[gs]? = some (.cells #[.int .i64 0] 3 (0,0))) (hm:w.heap[gm]? = some (.cells (partsC c nilS) 31 (0,0)))
    (hl:w.heap[l]? = some (.loop (loopR fn0 tm asg bdy D))) (hb1:w.heap[b1]? = some (.cells #[.pointer (some ⟨gb,0,none⟩)] 143 (0,0))) (hb2:w.heap[b2]? = some (.cells #[.func (.func 124) #[] #[.pointer (some ⟨gs,0,none⟩)]] 158 (0,0)))
    (n1:gb ≠ gs) (n2:gb ≠ gm) (n3:gb ≠ l) (n4:gs ≠ gm) (n5:gs ≠ l) (n6:gm ≠ l) (m1:b1 ≠ gb) (m2:b1 ≠ gs) (m3:b1 ≠ gm) (m4:b1 ≠ l) (k1:b2 ≠ gb) (k2:b2 ≠ gs) (k3:b2 ≠ gm) (k4:b2 ≠ l) (hround:Rounds w gb gs gm l c (loopR fn0 tm asg bdy D)) :
    Calls Tryz.prog 131 #[.func (.yield l) #[] #[],.pointer (some ⟨b1,0,none⟩),.pointer (some ⟨b2,0,none⟩)] w (fun e W=>e = .returned (.tuple #[])∧∃ s A cp,JR w gb gs gm l c (loopR fn0 tm asg bdy D) (recsR askO C0.l.length 0 C0 []).1 s (recsR askO C0.l.length 0 C0 []).2 A cp W):=by
 have hlen:=hC.len
 refine en 25 Tryz.func131 rfl<|bk<|?_
 refine glp (fun x=>[(0,.func (.yield l) #[] #[]),(1,.pointer (some ⟨b1,0,none⟩)),(2,.pointer (some ⟨b2,0,none⟩))]) (fun (x:Nat × Cur × Int × List Rec × Option Addr × Nat) w'=>Upd [gb,gs,gm,l] w w'∧CurAt w' gb x.2.1∧w'.heap[gs]? = some (.cells #[.int .i64 x.2.2.1] 3 (0,0))∧w'.heap[gm]? = some (.cells (partsC c (.slice x.2.2.2.2.1 x.2.2.2.1.length x.2.2.2.2.2)) 31 (0,0))∧w'.heap[l]? = some (.loop (loopR fn0 tm asg bdy D))∧OwnG w.heap.size 83 4 (recR true) w' (.slice x.2.2.2.2.1 x.2.2.2.1.length x.2.2.2.2.2) x.2.2.2.1∧(recsR askO x.1 x.2.2.1 x.2.1 x.2.2.2.1=recsR askO C0.l.length 0 C0 [])∧(x.2.1.l.length≤x.1)∧(0≤x.2.2.1∧x.2.2.1≤131074 * (x.2.2.2.1.length:Int))∧(x.2.2.2.1.length + x.1≤C0.l.length)) (fun x=>x.1) (C0.l.length,C0,0,[],none,0) ⟨Upd.refl _ _,hC,hS,hm,hl,OwnG.nil ..,rfl,(Nat.le_refl _),(by (try dsimp only); omega),(by (try dsimp only); (try simp only [List.length_nil]); omega)⟩ ?_
 rintro ⟨n,C,s,L,A,cp⟩ w10 ⟨hu11,f12,f13,f14,f15,f16,p17,p18,p19,p20⟩
 refine wkc [(0,.func (.yield l) #[] #[]),(1,.pointer (some ⟨b1,0,none⟩)),(2,.pointer (some ⟨b2,0,none⟩))] ?_
 have f22:CurAt w10 gb C:=f12
 have f23:w10.heap[gs]? = some (.cells #[.int .i64 s] 3 (0,0)):=f13
 have f24:w10.heap[gm]? = some (.cells (partsC c (.slice A L.length cp)) 31 (0,0)):=f14
 have f25:w10.heap[l]? = some (.loop (loopR fn0 tm asg bdy D)):=f15
 have f26:OwnG w.heap.size 83 4 (recR true) w10 (.slice A L.length cp) L:=f16
 have p27:recsR askO n s C L=recsR askO C0.l.length 0 C0 []:=p17
 have p28:C.l.length≤n:=p18
 have p29:0≤s∧s≤131074 * (L.length:Int):=p19
 have p30:L.length + n≤C0.l.length:=p20
 have hrec:recsR askO n s C L=recsR askO C0.l.length 0 C0 []:=by assumption
 refine sq<|sg<|?_
 have r31:=Upd.blk hu11 (not_cons m1 (not_cons m2 (not_cons m3 (not_cons m4 not0)))) hb1
 refine L0<|Olb r31 0<|L0<|Oc<|mq (left_any f22)<|?_
 have hl32:=CurAt.len f22
 refine Pl 2<|cu 4 [8] 12 (((decide (0 < ((C.l.length:Nat) : Int))) && (C.e == 0))) (fun K K34=>?_) ?_
 refine bl 8 ((decide (0 < ((C.l.length:Nat) : Int)))) (fun q33=>?_) (fun q33=>?_)
 have q33p:=of_decide_eq_true q33
 refine L1<|Olb r31 0<|L1<|Oc<|mq (err_any f22)<|?_
 have hl35:=CurAt.len f22
 exact Pl 2<|ce K34 (C.e == 0) (by rw [q33]; rfl)
 have q33p:=of_decide_eq_false q33
 exact Pl 4<|ce K34 false (by rw [q33]; rfl)
 refine nt<|cb (((decide (0 < ((C.l.length:Nat) : Int))) && (C.e == 0))) (fun q36=>?_) (fun q36=>?_)
 have q36a:=(and_t q36).1
 have q36b:=(and_t q36).2
 have q36ap:=of_decide_eq_true q36a
 have q36bp:=eq_of_beqi q36b
 refine skn<|bk<|sg<|?_
 have r37:=Upd.blk hu11 (not_cons k1 (not_cons k2 (not_cons k3 (not_cons k4 not0)))) hb2
 refine L0<|Olb r37 0<|L0<|Olb r31 0<|L0<|Ocv #[] #[.pointer (some ⟨gs,0,none⟩)] (args:=#[.pointer (some ⟨gb,0,none⟩),.pointer (some ⟨gs,0,none⟩)])<|ee7 (asked_any (s:=s) f22 f23 n1 (by omega)) fun A39 cp40 w38 rd41 hb42 hb43 hb44 hc45 hS46 hu47=>?_
 have hs48:askedS s C=s + (2 + 2 * (headM C).count):=rfl
 obtain ⟨hb42a,hb42b⟩:=hb42
 obtain ⟨hb43a,hb43b⟩:=hb43
 obtain ⟨hb44a,hb44b⟩:=hb44
 refine L0<|Oal #[.int .u16 0,.int .u16 0,.int .u16 0,.slice none 0 0] fun g49 w50 hg51 B52 hu53=>L0<|Osw B52 #[.int .u16 ((headM C).file),.int .u16 ((headM C).record),.int .u16 ((headM C).count),.slice A39 ((headM C).words.length) cp40] fun w54 B55 hu56=>nt<|sq<|fgo 9<|?_
 have U57:=ut0 hu47 hu53
 have U58:=u1 U57 hu56 (ni hu47.size hg51)
 have r59:=Upd.blk U58 (not_cons m1 (not_cons m2 not0)) r31
 refine F0<|Olb r59 0<|?_
 have U60:=u1 hu53 hu56 (nr hg51)
 have r61:=CurAt.old hc45 U60
 refine F0<|Oc<|mq (err_any r61)<|?_
 have hl62:=CurAt.len r61
 refine Fp<|Fp<|?_
 have U63:=ut hu11 hu47 (ac im (ac im all0))
 have U64:=ut0 U63 hu53
 have U65:=u1 U64 hu56 (ni U63.size hg51)
 refine blf 19 ((((askedC s C).e) != 0)) (fun q66=>?_) (fun q66=>?_)
 have q66p:=ne_of_bnei q66
 refine Fp<|Fp<|Fp<|Fp<|Fp<|fnl<|tn<|c1<|rt<|br<|tr<|br<|rr (.tuple #[])<|?_
 have hfin:recsR askO C0.l.length 0 C0 []=((askedC s C),L):=by
   rw [← hrec]
   rw [show n=(n - 1) + 1 from by omega]
   simp only [recsR,askO,q36,q36a,q36b,q66,bs,if_true,if_false,decide_true,decide_false,reduceIte]
 refine ⟨rfl,(askedS s C),A,cp,?_⟩
 rw [hfin]
 have r67:=ub U60 hS46
 have r68:=Upd.blk U58 (not_cons (Ne.symm n2) (not_cons (Ne.symm n4) not0)) f24
 have r69:=own_stay f26 U58 (fun x hx=>(not_cons (fun e=>(not_old (CurAt.lt hC) lr f26) (e ▸ hx)) (not_cons (fun e=>(not_old (blk_lt hS) lr f26) (e ▸ hx)) not0))) (recR.upd16 U58 (safe_cons (CurAt.safe f22 _ (by decide)) (safe_cons (safe1 f23 (by decide)) safe0)))
 have r70:=Upd.blk U58 (not_cons (Ne.symm n3) (not_cons (Ne.symm n5) not0)) f25
 exact ⟨U65,r61,r67,r68,r69,r70⟩
 have q66p:=eq_of_bnei q66
 refine Fp<|F0<|Olw B55<|?_
 have r72:=ub U60 hS46
 have r73:=Upd.blk U58 (not_cons (Ne.symm n2) (not_cons (Ne.symm n4) not0)) f24
 have r74:=own_stay f26 U58 (fun x hx=>(not_cons (fun e=>(not_old (CurAt.lt hC) lr f26) (e ▸ hx)) (not_cons (fun e=>(not_old (blk_lt hS) lr f26) (e ▸ hx)) not0))) (recR.upd16 U58 (safe_cons (CurAt.safe f22 _ (by decide)) (safe_cons (safe1 f23 (by decide)) safe0)))
 have r75:=Upd.blk U58 (not_cons (Ne.symm n3) (not_cons (Ne.symm n5) not0)) f25
 have hJ71:JR w gb gs gm l c (loopR fn0 tm asg bdy D) (askedC s C) (askedS s C) L A cp w54:=⟨U65,r61,r72,r73,r74,r75⟩
 refine Fy (r:=loopR fn0 tm asg bdy D) (.agg #[.int .u16 ((headM C).file),.int .u16 ((headM C).record),.int .u16 ((headM C).count),.slice A39 ((headM C).words.length) cp40]) 53 r75 rfl<|?_
 have r81:=RdW.upd' rd41 U60 safe0
 refine RoundIn.mono (hround _ _ _ _ _ _ (headM C) _ _ hJ71 r81 (b16 (by omega)) (b16 (by omega)) (b16 (by omega)) (by omega)) ?_
 rintro _ w76 ⟨rfl,hz79,A77,cp78,hJ80⟩
 refine ⟨_,rfl,?_⟩
 refine Fp<|Fp<|fnl<|tn<|c0<|sk<|bn<|?_
 have U82:=ut (Upd.mono (S':=[gb,gs,gm,l]) (Upd.refl [] _) all0) hJ80.u (ac im (ac im (ac im (ac im all0))))
 exact lpe ((n - 1),(askedC s C),(askedS s C),(L++[(headM C)]),A77,cp78) ⟨U82,hJ80.hC,hJ80.hS,hJ80.hm,hJ80.hl,hJ80.ho,(by (try dsimp only); rw [← hrec,show n=(n - 1) + 1 from by omega]; simp only [recsR,askO,q36,q36a,q36b,q66,bs,if_true,if_false,decide_true,decide_false,Nat.add_sub_cancel,reduceIte]),(by (try dsimp only); have hd:=askO_lt s C (by omega); have hd2:(askO s C).2.1.l.length=(askedC s C).l.length:=rfl; omega),(by (try dsimp only); simp only [List.length_append,List.length_cons,List.length_nil]; omega),(by (try dsimp only); simp only [List.length_append,List.length_cons,List.length_nil]; omega)⟩ (by omega)
 refine xt<|tx<|tx<|bx<|rm (.tuple #[])<|?_
 have hfin:recsR askO C0.l.length 0 C0 []=(C,L):=by
   rw [← hrec]
   exact recsR_stop _ _ _ _ _ (by simp only [q36,bs,if_true,if_false,decide_true,decide_false])
 refine ⟨rfl,s,A,cp,?_⟩
 rw [hfin]
 exact ⟨hu11,f22,f23,f24,f26,f25⟩
set_option maxRecDepth 100000 in
set_option maxHeartbeats 4000000 in
theorem full_T {w:World} {gb gs gm l b1 b2 fn0 D:Nat} {tm:Array Value} {asg bdy:Code} {c:Int} {C0:Cur} (hC:CurAt w gb C0) (hS:w.heap[gs]? = some (.cells #[.int .i64 0] 3 (0,0))) (hm:w.heap[gm]? = some (.cells (partsC c nilS) 31 (0,0)))
    (hl:w.heap[l]? = some (.loop (loopR fn0 tm asg bdy D))) (hb1:w.heap[b1]? = some (.cells #[.pointer (some ⟨gb,0,none⟩)] 143 (0,0))) (hb2:w.heap[b2]? = some (.cells #[.func (.func 128) #[] #[]] 158 (0,0)))
    (n1:gb ≠ gs) (n2:gb ≠ gm) (n3:gb ≠ l) (n4:gs ≠ gm) (n5:gs ≠ l) (n6:gm ≠ l) (m1:b1 ≠ gb) (m2:b1 ≠ gs) (m3:b1 ≠ gm) (m4:b1 ≠ l) (k1:b2 ≠ gb) (k2:b2 ≠ gs) (k3:b2 ≠ gm) (k4:b2 ≠ l) (hround:Rounds w gb gs gm l c (loopR fn0 tm asg bdy D)) :
    Calls Tryz.prog 131 #[.func (.yield l) #[] #[],.pointer (some ⟨b1,0,none⟩),.pointer (some ⟨b2,0,none⟩)] w (fun e W=>e = .returned (.tuple #[])∧∃ s A cp,JR w gb gs gm l c (loopR fn0 tm asg bdy D) (recsR toldO C0.l.length 0 C0 []).1 s (recsR toldO C0.l.length 0 C0 []).2 A cp W):=by
 have hlen:=hC.len
 refine en 25 Tryz.func131 rfl<|bk<|?_
 refine glp (fun x=>[(0,.func (.yield l) #[] #[]),(1,.pointer (some ⟨b1,0,none⟩)),(2,.pointer (some ⟨b2,0,none⟩))]) (fun (x:Nat × Cur × Int × List Rec × Option Addr × Nat) w'=>Upd [gb,gs,gm,l] w w'∧CurAt w' gb x.2.1∧w'.heap[gs]? = some (.cells #[.int .i64 x.2.2.1] 3 (0,0))∧w'.heap[gm]? = some (.cells (partsC c (.slice x.2.2.2.2.1 x.2.2.2.1.length x.2.2.2.2.2)) 31 (0,0))∧w'.heap[l]? = some (.loop (loopR fn0 tm asg bdy D))∧OwnG w.heap.size 83 4 (recR true) w' (.slice x.2.2.2.2.1 x.2.2.2.1.length x.2.2.2.2.2) x.2.2.2.1∧(recsR toldO x.1 x.2.2.1 x.2.1 x.2.2.2.1=recsR toldO C0.l.length 0 C0 [])∧(x.2.1.l.length≤x.1)∧(0≤x.2.2.1∧x.2.2.1≤131074 * (x.2.2.2.1.length:Int))∧(x.2.2.2.1.length + x.1≤C0.l.length)) (fun x=>x.1) (C0.l.length,C0,0,[],none,0) ⟨Upd.refl _ _,hC,hS,hm,hl,OwnG.nil ..,rfl,(Nat.le_refl _),(by (try dsimp only); omega),(by (try dsimp only); (try simp only [List.length_nil]); omega)⟩ ?_
 rintro ⟨n,C,s,L,A,cp⟩ w10 ⟨hu11,f12,f13,f14,f15,f16,p17,p18,p19,p20⟩
 refine wkc [(0,.func (.yield l) #[] #[]),(1,.pointer (some ⟨b1,0,none⟩)),(2,.pointer (some ⟨b2,0,none⟩))] ?_
 have f22:CurAt w10 gb C:=f12
 have f23:w10.heap[gs]? = some (.cells #[.int .i64 s] 3 (0,0)):=f13
 have f24:w10.heap[gm]? = some (.cells (partsC c (.slice A L.length cp)) 31 (0,0)):=f14
 have f25:w10.heap[l]? = some (.loop (loopR fn0 tm asg bdy D)):=f15
 have f26:OwnG w.heap.size 83 4 (recR true) w10 (.slice A L.length cp) L:=f16
 have p27:recsR toldO n s C L=recsR toldO C0.l.length 0 C0 []:=p17
 have p28:C.l.length≤n:=p18
 have p29:0≤s∧s≤131074 * (L.length:Int):=p19
 have p30:L.length + n≤C0.l.length:=p20
 have hrec:recsR toldO n s C L=recsR toldO C0.l.length 0 C0 []:=by assumption
 refine sq<|sg<|?_
 have r31:=Upd.blk hu11 (not_cons m1 (not_cons m2 (not_cons m3 (not_cons m4 not0)))) hb1
 refine L0<|Olb r31 0<|L0<|Oc<|mq (left_any f22)<|?_
 have hl32:=CurAt.len f22
 refine Pl 2<|cu 4 [8] 12 (((decide (0 < ((C.l.length:Nat) : Int))) && (C.e == 0))) (fun K K34=>?_) ?_
 refine bl 8 ((decide (0 < ((C.l.length:Nat) : Int)))) (fun q33=>?_) (fun q33=>?_)
 have q33p:=of_decide_eq_true q33
 refine L1<|Olb r31 0<|L1<|Oc<|mq (err_any f22)<|?_
 have hl35:=CurAt.len f22
 exact Pl 2<|ce K34 (C.e == 0) (by rw [q33]; rfl)
 have q33p:=of_decide_eq_false q33
 exact Pl 4<|ce K34 false (by rw [q33]; rfl)
 refine nt<|cb (((decide (0 < ((C.l.length:Nat) : Int))) && (C.e == 0))) (fun q36=>?_) (fun q36=>?_)
 have q36a:=(and_t q36).1
 have q36b:=(and_t q36).2
 have q36ap:=of_decide_eq_true q36a
 have q36bp:=eq_of_beqi q36b
 refine skn<|bk<|sg<|?_
 have r37:=Upd.blk hu11 (not_cons k1 (not_cons k2 (not_cons k3 (not_cons k4 not0)))) hb2
 refine L0<|Olb r37 0<|L0<|Olb r31 0<|L0<|Ocv #[] #[] (args:=#[.pointer (some ⟨gb,0,none⟩)])<|ee6 (ftold_any f22) fun A39 cp40 w38 rd41 hb42 hb43 hb44 hc45 hu46=>?_
 obtain ⟨hb42a,hb42b⟩:=hb42
 obtain ⟨hb43a,hb43b⟩:=hb43
 obtain ⟨hb44a,hb44b⟩:=hb44
 refine L0<|Oal #[.int .u16 0,.int .u16 0,.int .u16 0,.slice none 0 0] fun g47 w48 hg49 B50 hu51=>L0<|Osw B50 #[.int .u16 ((toldM C).file),.int .u16 ((toldM C).record),.int .u16 ((toldM C).count),.slice A39 ((toldM C).words.length) cp40] fun w52 B53 hu54=>nt<|sq<|fgo 9<|?_
 have U55:=ut0 hu46 hu51
 have U56:=u1 U55 hu54 (ni hu46.size hg49)
 have r57:=ub1 U56 m1 r31
 refine F0<|Olb r57 0<|?_
 have U58:=u1 hu51 hu54 (nr hg49)
 have r59:=CurAt.old hc45 U58
 refine F0<|Oc<|mq (err_any r59)<|?_
 have hl60:=CurAt.len r59
 refine Fp<|Fp<|?_
 have U61:=u1 hu11 hu46 im
 have U62:=ut0 U61 hu51
 have U63:=u1 U62 hu54 (ni U61.size hg49)
 refine blf 19 ((((toldC C).e) != 0)) (fun q64=>?_) (fun q64=>?_)
 have q64p:=ne_of_bnei q64
 refine Fp<|Fp<|Fp<|Fp<|Fp<|fnl<|tn<|c1<|rt<|br<|tr<|br<|rr (.tuple #[])<|?_
 have hfin:recsR toldO C0.l.length 0 C0 []=((toldC C),L):=by
   rw [← hrec]
   rw [show n=(n - 1) + 1 from by omega]
   simp only [recsR,toldO,q36,q36a,q36b,q64,bs,if_true,if_false,decide_true,decide_false,reduceIte]
 refine ⟨rfl,s,A,cp,?_⟩
 rw [hfin]
 have r65:=ub1 U56 (Ne.symm n1) f23
 have r66:=ub1 U56 (Ne.symm n2) f24
 have r67:=own_stay f26 U56 (fun x hx=>(not_cons (fun e=>(not_old (CurAt.lt hC) lr f26) (e ▸ hx)) not0)) (recR.upd16 U56 (safe_cons (CurAt.safe f22 _ (by decide)) safe0))
 have r68:=ub1 U56 (Ne.symm n3) f25
 exact ⟨U63,r59,r65,r66,r67,r68⟩
 have q64p:=eq_of_bnei q64
 refine Fp<|F0<|Olw B53<|?_
 have r70:=ub1 U56 (Ne.symm n1) f23
 have r71:=ub1 U56 (Ne.symm n2) f24
 have r72:=own_stay f26 U56 (fun x hx=>(not_cons (fun e=>(not_old (CurAt.lt hC) lr f26) (e ▸ hx)) not0)) (recR.upd16 U56 (safe_cons (CurAt.safe f22 _ (by decide)) safe0))
 have r73:=ub1 U56 (Ne.symm n3) f25
 have hJ69:JR w gb gs gm l c (loopR fn0 tm asg bdy D) (toldC C) s L A cp w52:=⟨U63,r59,r70,r71,r72,r73⟩
 refine Fy (r:=loopR fn0 tm asg bdy D) (.agg #[.int .u16 ((toldM C).file),.int .u16 ((toldM C).record),.int .u16 ((toldM C).count),.slice A39 ((toldM C).words.length) cp40]) 53 r73 rfl<|?_
 have r79:=RdW.upd' rd41 U58 safe0
 refine RoundIn.mono (hround _ _ _ _ _ _ (toldM C) _ _ hJ69 r79 (b16 (by omega)) (b16 (by omega)) (b16 (by omega)) (by omega)) ?_
 rintro _ w74 ⟨rfl,hz77,A75,cp76,hJ78⟩
 refine ⟨_,rfl,?_⟩
 refine Fp<|Fp<|fnl<|tn<|c0<|sk<|bn<|?_
 have U80:=ut (Upd.mono (S':=[gb,gs,gm,l]) (Upd.refl [] _) all0) hJ78.u (ac im (ac im (ac im (ac im all0))))
 exact lpe ((n - 1),(toldC C),s,(L++[(toldM C)]),A75,cp76) ⟨U80,hJ78.hC,hJ78.hS,hJ78.hm,hJ78.hl,hJ78.ho,(by (try dsimp only); rw [← hrec,show n=(n - 1) + 1 from by omega]; simp only [recsR,toldO,q36,q36a,q36b,q64,bs,if_true,if_false,decide_true,decide_false,Nat.add_sub_cancel,reduceIte]),(by (try dsimp only); have hd:=toldO_lt s C (by omega); have hd2:(toldO s C).2.1.l.length=(toldC C).l.length:=rfl; omega),(by (try dsimp only); simp only [List.length_append,List.length_cons,List.length_nil]; omega),(by (try dsimp only); simp only [List.length_append,List.length_cons,List.length_nil]; omega)⟩ (by omega)
 refine xt<|tx<|tx<|bx<|rm (.tuple #[])<|?_
 have hfin:recsR toldO C0.l.length 0 C0 []=(C,L):=by
   rw [← hrec]
   exact recsR_stop _ _ _ _ _ (by simp only [q36,bs,if_true,if_false,decide_true,decide_false])
 refine ⟨rfl,s,A,cp,?_⟩
 rw [hfin]
 exact ⟨hu11,f22,f23,f24,f26,f25⟩
set_option maxRecDepth 100000 in
set_option maxHeartbeats 4000000 in
theorem full_W {w:World} {gb gs gm l b1 b2 fn0 D:Nat} {tm:Array Value} {asg bdy:Code} {c:Int} {C0:Cur} (hC:CurAt w gb C0) (hS:w.heap[gs]? = some (.cells #[.int .i64 0] 3 (0,0))) (hm:w.heap[gm]? = some (.cells (partsC c nilS) 31 (0,0)))
    (hl:w.heap[l]? = some (.loop (loopR fn0 tm asg bdy D))) (hb1:w.heap[b1]? = some (.cells #[.pointer (some ⟨gb,0,none⟩)] 143 (0,0))) (hb2:w.heap[b2]? = some (.cells #[.func (.func 130) #[] #[]] 158 (0,0)))
    (n1:gb ≠ gs) (n2:gb ≠ gm) (n3:gb ≠ l) (n4:gs ≠ gm) (n5:gs ≠ l) (n6:gm ≠ l) (m1:b1 ≠ gb) (m2:b1 ≠ gs) (m3:b1 ≠ gm) (m4:b1 ≠ l) (k1:b2 ≠ gb) (k2:b2 ≠ gs) (k3:b2 ≠ gm) (k4:b2 ≠ l) (hround:Rounds w gb gs gm l c (loopR fn0 tm asg bdy D)) :
    Calls Tryz.prog 131 #[.func (.yield l) #[] #[],.pointer (some ⟨b1,0,none⟩),.pointer (some ⟨b2,0,none⟩)] w (fun e W=>e = .returned (.tuple #[])∧∃ s A cp,JR w gb gs gm l c (loopR fn0 tm asg bdy D) (recsR wrtO C0.l.length 0 C0 []).1 s (recsR wrtO C0.l.length 0 C0 []).2 A cp W):=by
 have hlen:=hC.len
 refine en 25 Tryz.func131 rfl<|bk<|?_
 refine glp (fun x=>[(0,.func (.yield l) #[] #[]),(1,.pointer (some ⟨b1,0,none⟩)),(2,.pointer (some ⟨b2,0,none⟩))]) (fun (x:Nat × Cur × Int × List Rec × Option Addr × Nat) w'=>Upd [gb,gs,gm,l] w w'∧CurAt w' gb x.2.1∧w'.heap[gs]? = some (.cells #[.int .i64 x.2.2.1] 3 (0,0))∧w'.heap[gm]? = some (.cells (partsC c (.slice x.2.2.2.2.1 x.2.2.2.1.length x.2.2.2.2.2)) 31 (0,0))∧w'.heap[l]? = some (.loop (loopR fn0 tm asg bdy D))∧OwnG w.heap.size 83 4 (recR true) w' (.slice x.2.2.2.2.1 x.2.2.2.1.length x.2.2.2.2.2) x.2.2.2.1∧(recsR wrtO x.1 x.2.2.1 x.2.1 x.2.2.2.1=recsR wrtO C0.l.length 0 C0 [])∧(x.2.1.l.length≤x.1)∧(0≤x.2.2.1∧x.2.2.1≤131074 * (x.2.2.2.1.length:Int))∧(x.2.2.2.1.length + x.1≤C0.l.length)) (fun x=>x.1) (C0.l.length,C0,0,[],none,0) ⟨Upd.refl _ _,hC,hS,hm,hl,OwnG.nil ..,rfl,(Nat.le_refl _),(by (try dsimp only); omega),(by (try dsimp only); (try simp only [List.length_nil]); omega)⟩ ?_
 rintro ⟨n,C,s,L,A,cp⟩ w10 ⟨hu11,f12,f13,f14,f15,f16,p17,p18,p19,p20⟩
 refine wkc [(0,.func (.yield l) #[] #[]),(1,.pointer (some ⟨b1,0,none⟩)),(2,.pointer (some ⟨b2,0,none⟩))] ?_
 have f22:CurAt w10 gb C:=f12
 have f23:w10.heap[gs]? = some (.cells #[.int .i64 s] 3 (0,0)):=f13
 have f24:w10.heap[gm]? = some (.cells (partsC c (.slice A L.length cp)) 31 (0,0)):=f14
 have f25:w10.heap[l]? = some (.loop (loopR fn0 tm asg bdy D)):=f15
 have f26:OwnG w.heap.size 83 4 (recR true) w10 (.slice A L.length cp) L:=f16
 have p27:recsR wrtO n s C L=recsR wrtO C0.l.length 0 C0 []:=p17
 have p28:C.l.length≤n:=p18
 have p29:0≤s∧s≤131074 * (L.length:Int):=p19
 have p30:L.length + n≤C0.l.length:=p20
 have hrec:recsR wrtO n s C L=recsR wrtO C0.l.length 0 C0 []:=by assumption
 refine sq<|sg<|?_
 have r31:=Upd.blk hu11 (not_cons m1 (not_cons m2 (not_cons m3 (not_cons m4 not0)))) hb1
 refine L0<|Olb r31 0<|L0<|Oc<|mq (left_any f22)<|?_
 have hl32:=CurAt.len f22
 refine Pl 2<|cu 4 [8] 12 (((decide (0 < ((C.l.length:Nat) : Int))) && (C.e == 0))) (fun K K34=>?_) ?_
 refine bl 8 ((decide (0 < ((C.l.length:Nat) : Int)))) (fun q33=>?_) (fun q33=>?_)
 have q33p:=of_decide_eq_true q33
 refine L1<|Olb r31 0<|L1<|Oc<|mq (err_any f22)<|?_
 have hl35:=CurAt.len f22
 exact Pl 2<|ce K34 (C.e == 0) (by rw [q33]; rfl)
 have q33p:=of_decide_eq_false q33
 exact Pl 4<|ce K34 false (by rw [q33]; rfl)
 refine nt<|cb (((decide (0 < ((C.l.length:Nat) : Int))) && (C.e == 0))) (fun q36=>?_) (fun q36=>?_)
 have q36a:=(and_t q36).1
 have q36b:=(and_t q36).2
 have q36ap:=of_decide_eq_true q36a
 have q36bp:=eq_of_beqi q36b
 refine skn<|bk<|sg<|?_
 have r37:=Upd.blk hu11 (not_cons k1 (not_cons k2 (not_cons k3 (not_cons k4 not0)))) hb2
 refine L0<|Olb r37 0<|L0<|Olb r31 0<|L0<|Ocv #[] #[] (args:=#[.pointer (some ⟨gb,0,none⟩)])<|ee6 (wrt_any f22) fun A39 cp40 w38 rd41 hb42 hb43 hb44 hc45 hu46=>?_
 obtain ⟨hb42a,hb42b⟩:=hb42
 obtain ⟨hb43a,hb43b⟩:=hb43
 obtain ⟨hb44a,hb44b⟩:=hb44
 refine L0<|Oal #[.int .u16 0,.int .u16 0,.int .u16 0,.slice none 0 0] fun g47 w48 hg49 B50 hu51=>L0<|Osw B50 #[.int .u16 ((wrtM C).file),.int .u16 ((wrtM C).record),.int .u16 ((wrtM C).count),.slice A39 ((wrtM C).words.length) cp40] fun w52 B53 hu54=>nt<|sq<|fgo 9<|?_
 have U55:=ut0 hu46 hu51
 have U56:=u1 U55 hu54 (ni hu46.size hg49)
 have r57:=ub1 U56 m1 r31
 refine F0<|Olb r57 0<|?_
 have U58:=u1 hu51 hu54 (nr hg49)
 have r59:=CurAt.old hc45 U58
 refine F0<|Oc<|mq (err_any r59)<|?_
 have hl60:=CurAt.len r59
 refine Fp<|Fp<|?_
 have U61:=u1 hu11 hu46 im
 have U62:=ut0 U61 hu51
 have U63:=u1 U62 hu54 (ni U61.size hg49)
 refine blf 19 ((((wrtC C).e) != 0)) (fun q64=>?_) (fun q64=>?_)
 have q64p:=ne_of_bnei q64
 refine Fp<|Fp<|Fp<|Fp<|Fp<|fnl<|tn<|c1<|rt<|br<|tr<|br<|rr (.tuple #[])<|?_
 have hfin:recsR wrtO C0.l.length 0 C0 []=((wrtC C),L):=by
   rw [← hrec]
   rw [show n=(n - 1) + 1 from by omega]
   simp only [recsR,wrtO,q36,q36a,q36b,q64,bs,if_true,if_false,decide_true,decide_false,reduceIte]
 refine ⟨rfl,s,A,cp,?_⟩
 rw [hfin]
 have r65:=ub1 U56 (Ne.symm n1) f23
 have r66:=ub1 U56 (Ne.symm n2) f24
 have r67:=own_stay f26 U56 (fun x hx=>(not_cons (fun e=>(not_old (CurAt.lt hC) lr f26) (e ▸ hx)) not0)) (recR.upd16 U56 (safe_cons (CurAt.safe f22 _ (by decide)) safe0))
 have r68:=ub1 U56 (Ne.symm n3) f25
 exact ⟨U63,r59,r65,r66,r67,r68⟩
 have q64p:=eq_of_bnei q64
 refine Fp<|F0<|Olw B53<|?_
 have r70:=ub1 U56 (Ne.symm n1) f23
 have r71:=ub1 U56 (Ne.symm n2) f24
 have r72:=own_stay f26 U56 (fun x hx=>(not_cons (fun e=>(not_old (CurAt.lt hC) lr f26) (e ▸ hx)) not0)) (recR.upd16 U56 (safe_cons (CurAt.safe f22 _ (by decide)) safe0))
 have r73:=ub1 U56 (Ne.symm n3) f25
 have hJ69:JR w gb gs gm l c (loopR fn0 tm asg bdy D) (wrtC C) s L A cp w52:=⟨U63,r59,r70,r71,r72,r73⟩
 refine Fy (r:=loopR fn0 tm asg bdy D) (.agg #[.int .u16 ((wrtM C).file),.int .u16 ((wrtM C).record),.int .u16 ((wrtM C).count),.slice A39 ((wrtM C).words.length) cp40]) 53 r73 rfl<|?_
 have r79:=RdW.upd' rd41 U58 safe0
 refine RoundIn.mono (hround _ _ _ _ _ _ (wrtM C) _ _ hJ69 r79 (b16 (by omega)) (b16 (by omega)) (b16 (by omega)) (by omega)) ?_
 rintro _ w74 ⟨rfl,hz77,A75,cp76,hJ78⟩
 refine ⟨_,rfl,?_⟩
 refine Fp<|Fp<|fnl<|tn<|c0<|sk<|bn<|?_
 have U80:=ut (Upd.mono (S':=[gb,gs,gm,l]) (Upd.refl [] _) all0) hJ78.u (ac im (ac im (ac im (ac im all0))))
 exact lpe ((n - 1),(wrtC C),s,(L++[(wrtM C)]),A75,cp76) ⟨U80,hJ78.hC,hJ78.hS,hJ78.hm,hJ78.hl,hJ78.ho,(by (try dsimp only); rw [← hrec,show n=(n - 1) + 1 from by omega]; simp only [recsR,wrtO,q36,q36a,q36b,q64,bs,if_true,if_false,decide_true,decide_false,Nat.add_sub_cancel,reduceIte]),(by (try dsimp only); have hd:=wrtO_lt s C (by omega); have hd2:(wrtO s C).2.1.l.length=(wrtC C).l.length:=rfl; omega),(by (try dsimp only); simp only [List.length_append,List.length_cons,List.length_nil]; omega),(by (try dsimp only); simp only [List.length_append,List.length_cons,List.length_nil]; omega)⟩ (by omega)
 refine xt<|tx<|tx<|bx<|rm (.tuple #[])<|?_
 have hfin:recsR wrtO C0.l.length 0 C0 []=(C,L):=by
   rw [← hrec]
   exact recsR_stop _ _ _ _ _ (by simp only [q36,bs,if_true,if_false,decide_true,decide_false])
 refine ⟨rfl,s,A,cp,?_⟩
 rw [hfin]
 exact ⟨hu11,f22,f23,f24,f26,f25⟩
open Go.RowKit
def mayA (n:Int) : Bool:=(decide (7≤n) && decide (n≤245)) && n % 7 == 0
def mayT (n:Int) : Bool:=decide (4≤n) && decide (n≤245)
def mayW (n:Int) : Bool:=decide (9≤n) && decide (n≤251)
def fl1 (may:Int→Bool) (C:Cur) : Cur:=(C.bytesC 1).need (may C.byteV) 5
def flB (may:Int→Bool) (C:Cur) : Cur:=⟨(fl1 may C).bytesR C.byteV,false,0⟩
def flR (one:Int→Cur→Int × Cur × Rec) (may:Int→Bool) (C:Cur) : Cur × List Rec:=recsR one (flB may C).l.length 0 (flB may C) []
def withinE (e:Int) : Int:=if e == 2 then 5 else e
def filesR (one:Int→Cur→Int × Cur × Rec) (may:Int→Bool) (c:Int) (C:Cur) : Cur × Msg :=
  (((fl1 may C).bytesC C.byteV).need ((flR one may C).1.e == 0) (withinE (flR one may C).1.e),{ Msg.zero with code:=c,recs:=(flR one may C).2 })
def filesForm (dir c:Int) (C:Cur) : Option (Cur × Msg) :=
  if c == 20 then (if dir == 0 then some (filesR askO mayA c C) else some (filesR toldO mayT c C)) else if c == 21 then some (filesR wrtO mayW c C) else none
theorem i2020:((20:Int) == 20)=true:=rfl
theorem i2120:((21:Int) == 20)=false:=rfl
theorem i2121:((21:Int) == 21)=true:=rfl
set_option maxRecDepth 100000 in
set_option maxHeartbeats 4000000 in
theorem files_p20_0 {m:Bool} {A:Option Addr} {cp:Nat} {b:List Int} {w:World} {dir:Int} (hd:dir=0∨dir=1) (hsl:RdB m w (.slice A b.length cp) b) (hb:b.length≤1048576) :
    Calls Tryz.prog 64 #[.int .i64 0,.int .u8 20,.slice A b.length cp] w (PMsg (parseOf filesForm 0 20 b) w):=by
 have hln:(b.length:Int)≤1048576:=by omega
 have e01:((dir != 0) && (dir != 1))=false:=by rcases hd with rfl | rfl <;> rfl
 refine enm 77 Tryz.func64 rfl<|sg<|L0<|Oal mZ fun g10 w11 hg12 B13 hu14=>Pl 1<|nt<|sq<|sg<|Pl 6<|nt<|c0<|?_
 refine skn<|sg<|Pl 2<|L0<|Oc (args:=#[.int .i64 0,.int .u8 20])<|e3 rules_A fun gs16 w15 hg17 hB18 hu19=>Pl 3<|L0<|Oal #[.nilFunc,.nilFunc] fun g20 w21 hg22 B23 hu24=>L0<|Osw B23 #[.func (.func 126) #[] #[],.func (.func 124) #[] #[.pointer (some ⟨gs16,0,none⟩)]] fun w25 B26 hu27=>Pl 1<|nt<|sq<|sq<|?_
 refine go<|Pl 2<|nt<|c0<|skn<|sg<|Pl 1<|?_
 have U28:=ut0 hu14 hu19
 have U29:=ut0 U28 hu24
 have U30:=u1 U29 hu27 (ni U28.size hg22)
 have r31:=RdB.old hsl U30
 refine L0<|Oc<|e3 (new_any r31 (by omega)) fun g33 w32 hg34 hc35 hu36=>Pl 1<|ng<|Pl 1<|L0<|Oc<|m3 (byte_any hc35) fun w37 hc38 hu39 hr40=>L0<|Oi ((Cur.mk b false 0).byteV)<|Pl 1<|ng<|?_
 refine Pl 2<|?_
 have U41:=u1 hu36 hu39 (nr hg34)
 have r42:=ub U41 B26
 refine L0<|Olb r42 0<|Pl 1<|L0<|Ocv #[] #[] (args:=#[.int .i64 ((Cur.mk b false 0).byteV)])<|m1 (frule2_any (n:=(Cur.mk b false 0).byteV) (by omega)) fun w43 hu44=>?_
 have r45:=CurAt.old hc38 hu44
 refine L0<|Oc<|m2 (need_any ((mayA ((Cur.mk b false 0).byteV))) 5 r45) fun w46 hc47 hu48=>?_
 refine ab hc47 fun x49 ex50 hc51=>?_
 refine ng<|Pl 2<|L0<|Oc<|sr3 (bytes_any (n:=(Cur.mk b false 0).byteV) hc51) fun A61 cp62 w52 rd65 hl63 hm64 hc55 hu56=>?_
 have hlb57:=Nat.le_trans (Cur.bytesR_le x49 ((Cur.mk b false 0).byteV)) (CurAt.len hc51)
 refine ab hc55 fun x58 ex59 hc60=>?_
 refine L0<|Oc<|e3 (new_any rd65 (by omega)) fun g67 w66 hg68 hc69 hu70=>Pl 1<|ng<|Pl 2<|L0<|Oal mZ fun g71 w72 hg73 B74 hu75=>L0<|Osw B74 (mC 20) fun w76 B77 hu78=>nt<|sq<|sg<|?_
 refine Pl 2<|?_
 have U79:=u1 (Upd.mono (S':=[g33]) hu44 all0) hu48 im
 have U80:=u1 U79 hu56 im
 have U81:=ut0 U80 hu70
 have U82:=ut0 U81 hu75
 have U83:=u1 U82 hu78 (ni U81.size hg73)
 have ne84:=nb (blk_lt B23) hu27.size hg34
 have r85:=ub1 U83 ne84 r42
 refine L0<|Olb r85 1<|L0<|Oc<|ee6 (full_any (gb:=g67) (f:=.func 124) (x:=#[]) (y:=#[.pointer (some ⟨gs16,0,none⟩)])) fun b87 b88 w86 hg89 hg90 hn91 hB92 hB93 hu94=>nt<|bk<|?_
 refine grange (f:=131) #[.pointer (some ⟨b87,0,none⟩),.pointer (some ⟨b88,0,none⟩)] fun a ha=>?_
 intro fn95 D96 l97 w98 hg99 hg100 hn101 hB102 hB103 hu104
 have ne105:=nb (blk_lt hB18) (le (le (le (le (le (le hu24.size hu27.size) hu36.size) hu39.size) hu44.size) hu48.size) hu56.size) hg68
 have ne106:=nb (CurAt.lt hc69) lr hg73
 have ne107:=nb (CurAt.lt hc69) (le (le hu75.size hu78.size) hu94.size) hg100
 have ne108:=nb (blk_lt hB18) (le (le (le (le (le (le (le hu24.size hu27.size) hu36.size) hu39.size) hu44.size) hu48.size) hu56.size) hu70.size) hg73
 have ne109:=nb (blk_lt hB18) (le (le (le (le (le (le (le (le (le (le hu24.size hu27.size) hu36.size) hu39.size) hu44.size) hu48.size) hu56.size) hu70.size) hu75.size) hu78.size) hu94.size) hg100
 have ne110:=nb (blk_lt B74) (le hu78.size hu94.size) hg100
 have ne111:=nb (CurAt.lt hc69) (le hu75.size hu78.size) hg89
 have ne112:=nb (blk_lt hB18) (le (le (le (le (le (le (le (le (le hu24.size hu27.size) hu36.size) hu39.size) hu44.size) hu48.size) hu56.size) hu70.size) hu75.size) hu78.size) hg89
 have ne113:=nb (blk_lt B74) hu78.size hg89
 have ne114:=nb (blk_lt hB92) lr hg100
 have ne115:=nb (CurAt.lt hc69) (le hu75.size hu78.size) hg90
 have ne116:=nb (blk_lt hB18) (le (le (le (le (le (le (le (le (le hu24.size hu27.size) hu36.size) hu39.size) hu44.size) hu48.size) hu56.size) hu70.size) hu75.size) hu78.size) hg90
 have ne117:=nb (blk_lt B74) hu78.size hg90
 have ne118:=nb (blk_lt hB93) lr hg100
 have U119:=u1 hu75 hu78 (nr hg73)
 have U120:=ut0 U119 hu94
 have U121:=ut0 U120 hu104
 have r122:=CurAt.old hc69 U121
 have U123:=u1 hu24 hu27 (nr hg22)
 have U124:=ut0 U123 hu36
 have U125:=u1 U124 hu39 (ni U123.size hg34)
 have U126:=ut0 U125 hu44
 have U127:=u1 U126 hu48 (ni U123.size hg34)
 have U128:=u1 U127 hu56 (ni U123.size hg34)
 have U129:=ut0 U128 hu70
 have U130:=ut0 U129 hu75
 have U131:=u1 U130 hu78 (ni U129.size hg73)
 have U132:=ut0 U131 hu94
 have U133:=ut0 U132 hu104
 have r134:=ub U133 hB18
 have U135:=ut0 hu94 hu104
 have r136:=ub U135 B77
 have r137:=ub hu104 hB92
 have r138:=ub hu104 hB93
 refine (full_A (c:=20) r122 r134 r136 hB103 r137 r138 (Ne.symm ne105) ne106 ne107 ne108 ne109 ne110 (Ne.symm ne111) (Ne.symm ne112) (Ne.symm ne113) ne114 (Ne.symm ne115) (Ne.symm ne116) (Ne.symm ne117) ne118 ?_).mono ?_
 intro W C s L Ar cr x Ax cx hJ hrd hx1 hx2 hx3 hL
 simp only [B16] at hx1 hx2 hx3
 have hm2:W.heap[g71]? = some (.cells #[.int .u8 20,.int .u8 0,.int .u16 0,.int .u16 0,.int .u16 0,.int .u16 0,.int .u16 0,.int .u16 0,.int .u16 0,.int .u16 0,.int .u16 0,.int .u16 0,.slice none 0 0,.slice none 0 0,.slice none 0 0,.slice Ar L.length cr,.int .u8 0,.int .u8 0,.int .u8 0,.int .u8 0,.int .u8 0,.slice none 0 0] 31 (0,0)):=hJ.hm
 refine round_at hJ.hl ?_
 refine gri ha 53<|fgr<|R0f<|Oal #[.int .u16 0,.int .u16 0,.int .u16 0,.slice none 0 0] fun g139 w140 hg141 B142 hu143=>R0f<|Osw B142 #[.int .u16 x.file,.int .u16 x.record,.int .u16 x.count,.slice Ax x.words.length cx] fun w144 B145 hu146=>fnl<|?_
 have U150:=u1 hu143 hu146 (nr hg141)
 have r151:=ub U150 hJ.hl
 refine gr1 r151 (by trivial) fun w147 hB148 hu149=>fbk<|fgr<|Rpf<|?_
 have U152:=u1 (Upd.mono (S':=[l97]) U150 all0) hu149 im
 have r153:=ub1 U152 ne110 hm2
 refine R0f<|Olb r153 15<|?_
 have ne154:=nb (blk_lt hB103) hJ.u.size hg141
 have r155:=ub1 hu149 (Ne.symm ne154) B145
 refine R0f<|Olw r155<|R0f<|Olt (m:=1) (e:=83) #[.int .u16 x.file,.int .u16 x.record,.int .u16 x.count,.slice Ax x.words.length cx] fun g156 w157 hg158 B159 hu160=>?_
 have U161:=ut0 U152 hu160
 have r162:=RdW.updl hrd U161 hJ.hl rfl
 have ol163:=lit1 (R:=recR true) (x:=(Rec.mk x.file x.record x.count x.words)) B159 rfl ⟨_,rfl,r162,b16 (by omega),b16 (by omega),b16 (by omega)⟩
 have r164:=own_stay hJ.ho U161 (fun x hx=>(not_cons (fun e=>(not_old (blk_lt hB103) lr hJ.ho) (e ▸ hx)) not0)) (recR.updl U161 hJ.hl rfl)
 refine R0f<|Oappg (xs:=L) (ys:=([(Rec.mk x.file x.record x.count x.words)])) (.agg #[.int .u16 0,.int .u16 0,.int .u16 0,.slice none 0 0]) 4 32 r164 ol163 (by simp) recR.ones (fun w' hv=>recR.upd16 hv (safe_app (ob_safe _ r164 (by decide)) safe0)) (by (try simp only [List.length_append,List.length_cons,List.length_nil,putW_length]); omega) (le (le (le (le hJ.u.size hu143.size) hu146.size) hu149.size) hu160.size) fun A165 cp166 w167 ho168 hu169=>Rpf<|?_
 have U172:=ut (Upd.mono (S':=(ob Ar++[])) hu160 all0) hu169 (all_app (fun x hx=>Or.inl (by simp [hx])) all0)
 have r173:=Upd.blk U172 (not_app (not_old (blk_lt r136) lr hJ.ho) not0) r153
 refine R0f<|Ost r173 15 (mG 20 0 0 0 0 0 0 0 0 0 0 0 nS nS nS (.slice A165 ((L++[(Rec.mk x.file x.record x.count x.words)]).length) cp166) 0 0 0 0 0 nS) fun w174 B175 hu176=>fnl<|bn<|?_
 have U180:=u1 (Upd.mono (S':=(ob Ar++(g71 :: []))) U172 (all_app (fun x hx=>Or.inl (by simp [hx])) all0)) hu176 im
 have r181:=Upd.blk U180 (not_app (not_old (blk_lt hB103) lr hJ.ho) (not_cons (Ne.symm ne110) not0)) hB148
 refine gr2 r181 fun w177 hB178 hu179=>?_
 have U182:=ut (Upd.mono (S':=[g67,gs16,g71,l97]) (Upd.refl [] _) all0) hJ.u (ac im (ac im (ac im (ac im all0))))
 have U183:=ut0 U182 hu143
 have U184:=u1 U183 hu146 (ni U182.size hg141)
 have U185:=u1 U184 hu149 im
 have U186:=ut0 U185 hu160
 have U187:=ut U186 hu169 (all_app (ob_new hJ.ho lr) all0)
 have U188:=u1 U187 hu176 im
 have U189:=u1 U188 hu179 im
 have U190:=ut (Upd.mono (S':=(l97 :: (ob Ar++[]))) U161 (ac im all0)) hu169 (all_app (fun x hx=>Or.inl (by simp [hx])) all0)
 have U191:=u1 (Upd.mono (S':=(l97 :: (ob Ar++(g71 :: [])))) U190 (ac im (all_app (fun x hx=>Or.inl (by simp [hx])) all0))) hu176 im
 have U192:=u1 U191 hu179 im
 have r193:=CurAt.updl hJ.hC U161 (not_cons ne107 not0) hJ.hl rfl
 have r194:=CurAt.upd r193 hu169 (not_app (not_old (CurAt.lt r122) lr hJ.ho) not0) (safe_app (ob_safe _ r164 (by decide)) safe0)
 have r195:=CurAt.upd r194 hu176 (not_cons ne106 not0) (safe_cons (safe1 r173 (by decide)) safe0)
 have r196:=CurAt.updl r195 hu179 (not_cons ne107 not0) r181 rfl
 have r197:=Upd.blk U192 (not_cons ne109 (not_app (not_old (blk_lt r134) lr hJ.ho) (not_cons ne108 not0))) hJ.hS
 have r198:=ub1 hu179 ne110 B175
 have U199:=u1 (Upd.mono (S':=[g71,l97]) hu176 (ac im all0)) hu179 im
 have r200:=own_stay ho168 hu176 (fun x hx=>(not_cons (fun e=>(not_old (blk_lt r136) lr ho168) (e ▸ hx)) not0)) (recR.upd16 hu176 (safe_cons (safe1 r173 (by decide)) safe0))
 have r201:=own_stay r200 hu179 (fun x hx=>(not_cons (fun e=>(not_old (blk_lt hB103) lr ho168) (e ▸ hx)) not0)) (recR.updl hu179 r181 rfl)
 exact ⟨by trivial,(le (le (le (le (le (le hu143.size hu146.size) hu149.size) hu160.size) hu169.size) hu176.size) hu179.size),A165,cp166,⟨U189,r196,r197,r198,r201,hB178⟩⟩
 rintro _ w202 ⟨rfl,s203,A204,cp205,hJ206⟩
 refine ⟨_,_,rfl,hJ206.hl,by simp [loopR],by trivial,fun w207 hu208=>?_⟩
 refine ab hJ206.hC fun x209 ex210 hc211=>?_
 have hm212:w202.heap[g71]? = some (.cells #[.int .u8 20,.int .u8 0,.int .u16 0,.int .u16 0,.int .u16 0,.int .u16 0,.int .u16 0,.int .u16 0,.int .u16 0,.int .u16 0,.int .u16 0,.int .u16 0,.slice none 0 0,.slice none 0 0,.slice none 0 0,.slice A204 ((recsR askO (Cur.mk (x49.bytesR ((Cur.mk b false 0).byteV)) false 0).l.length 0 (Cur.mk (x49.bytesR ((Cur.mk b false 0).byteV)) false 0) []).2.length) cp205,.int .u8 0,.int .u8 0,.int .u8 0,.int .u8 0,.int .u8 0,.slice none 0 0] 31 (0,0)):=hJ206.hm
 refine bn<|tn<|sg<|Pl 2<|?_
 have r213:=CurAt.updl hc211 hu208 (not_cons ne107 not0) hJ206.hl rfl
 refine L0<|Oc<|mq (err_any r213)<|?_
 have hl214:=CurAt.len r213
 refine Pl 2<|L0<|Oc<|mq (err_any r213)<|?_
 have hl215:=CurAt.len r213
 refine L0<|Oc<|m1 (within_err (e:=x209.e)) fun w216 hu217=>?_
 have U218:=ut0 hu70 hu75
 have U219:=u1 U218 hu78 (ni hu70.size hg73)
 have U220:=ut0 U219 hu94
 have U221:=ut0 U220 hu104
 have U222:=ut (Upd.mono (S':=[gs16]) U221 all0) hJ206.u (ac (nr hg68) (ac im (ac (ni hu70.size hg73) (ac (ni U220.size hg100) all0))))
 have U223:=u1 U222 hu208 (ni U220.size hg100)
 have U224:=ut0 U223 hu217
 have ne225:=nb (blk_lt hB18) U123.size hg34
 have r226:=ub U128 hB18
 have r227:=CurAt.upd hc60 U224 (not_cons (Ne.symm ne225) not0) (safe_cons (safe1 r226 (by decide)) safe0)
 refine L0<|Oc<|m2 (need_any ((x209.e == 0)) (withinE x209.e) r227) fun w228 hc229 hu230=>?_
 refine ab hc229 fun x231 ex232 hc233=>?_
 refine ng<|Pl 1<|L0<|Oc<|m2 (end_any hc233) fun w234 hc235 hu236=>nt<|sq<|sg<|Pl 1<|L0<|Oc<|mq (err_any hc235)<|?_
 have hl237:=CurAt.len hc235
 refine Pl 1<|ng<|Pl 2<|nt<|?_
 have U238:=ut0 U30 hu36
 have U239:=u1 U238 hu39 (ni U30.size hg34)
 have U240:=ut0 U239 hu44
 have U241:=u1 U240 hu48 (ni U30.size hg34)
 have U242:=u1 U241 hu56 (ni U30.size hg34)
 have U243:=ut0 U242 hu70
 have U244:=ut0 U243 hu75
 have U245:=u1 U244 hu78 (ni U243.size hg73)
 have U246:=ut0 U245 hu94
 have U247:=ut0 U246 hu104
 have U248:=ut U247 hJ206.u (ac (ni U242.size hg68) (ac (ni hu14.size hg17) (ac (ni U243.size hg73) (ac (ni U246.size hg100) all0))))
 have U249:=u1 U248 hu208 (ni U246.size hg100)
 have U250:=ut0 U249 hu217
 have U251:=u1 U250 hu230 (ni U30.size hg34)
 have U252:=u1 U251 hu236 (ni U30.size hg34)
 refine cb ((x231.endC.e != 0)) (fun q253=>?_) (fun q253=>?_)
 have q253p:=ne_of_bnei q253
 refine sg<|Pl 2<|?_
 have U254:=ut0 hu19 hu24
 have U255:=u1 U254 hu27 (ni hu19.size hg22)
 have U256:=ut0 U255 hu36
 have U257:=u1 U256 hu39 (ni U255.size hg34)
 have U258:=ut0 U257 hu44
 have U259:=u1 U258 hu48 (ni U255.size hg34)
 have U260:=u1 U259 hu56 (ni U255.size hg34)
 have U261:=ut0 U260 hu70
 have U262:=ut0 U261 hu75
 have U263:=u1 U262 hu78 (ni U261.size hg73)
 have U264:=ut0 U263 hu94
 have U265:=ut0 U264 hu104
 have U266:=ut U265 hJ206.u (ac (ni U260.size hg68) (ac (nr hg17) (ac (ni U261.size hg73) (ac (ni U264.size hg100) all0))))
 have U267:=u1 U266 hu208 (ni U264.size hg100)
 have U268:=ut0 U267 hu217
 have U269:=u1 U268 hu230 (ni U255.size hg34)
 have U270:=u1 U269 hu236 (ni U255.size hg34)
 have r271:=ub U270 B13
 refine L0<|Osw r271 mZ fun w272 B273 hu274=>Pl 1<|nt<|rt<|tr<|?_
 have U277:=u1 hJ206.u hu208 im
 have U278:=ut0 U277 hu217
 have U279:=u1 (Upd.mono (S':=[g67,gs16,g71,l97,g33]) U278 (ac im (ac im (ac im (ac im all0))))) hu230 im
 have U280:=u1 U279 hu236 im
 have U281:=u1 (Upd.mono (S':=[g67,gs16,g71,l97,g33,g10]) U280 (ac im (ac im (ac im (ac im (ac im all0)))))) hu274 im
 have ne282:=nb (blk_lt B13) U264.size hg99
 have ne283:=nb (CurAt.lt hc35) (le (le (le (le (le (le (le hu39.size hu44.size) hu48.size) hu56.size) hu70.size) hu75.size) hu78.size) hu94.size) hg99
 have ne284:=nb (blk_lt B74) (le hu78.size hu94.size) hg99
 have ne285:=nb (blk_lt hB18) U132.size hg99
 have ne286:=nb (CurAt.lt hc69) U120.size hg99
 have r287:=Upd.blk U281 (not_cons (Ne.symm ne286) (not_cons (Ne.symm ne285) (not_cons (Ne.symm ne284) (not_cons hn101 (not_cons (Ne.symm ne283) (not_cons (Ne.symm ne282) not0)))))) hB102
 refine rmd r287 fun w275 hu276=>?_
 have r288:=ub1 hu276 ne282 B273
 refine rx r288 (.int .i64 x231.endC.e)<|?_
 subst ex232 ex210 ex59 ex50
 have U289:=u1 U252 hu274 (nr hg12)
 have U290:=u1 U289 hu276 (ni U246.size hg99)
 have U291:=ut0 hu208 hu217
 have U292:=u1 (Upd.mono (S':=[l97,g33]) U291 (ac im all0)) hu230 im
 have U293:=u1 U292 hu236 im
 have U294:=u1 (Upd.mono (S':=[l97,g33,g10]) U293 (ac im (ac im all0))) hu274 im
 have U295:=u1 (Upd.mono (S':=[l97,g33,g10,D96]) U294 (ac im (ac im (ac im all0)))) hu276 im
 have r296:=ub U266 B13
 have r297:=CurAt.upd hc60 U222 (not_cons (Ne.symm ne225) not0) (safe_cons (safe1 r226 (by decide)) safe0)
 have r298:=own_stay hJ206.ho U291 (fun x hx=>(not_cons (fun e=>(not_old (blk_lt hB103) lr hJ206.ho) (e ▸ hx)) not0)) (recR.updl U291 hJ206.hl rfl)
 have r299:=own_stay r298 hu230 (fun x hx=>(not_cons (fun e=>(not_old (CurAt.lt hc35) (le (le (le (le (le (le (le (le hu39.size hu44.size) hu48.size) hu56.size) hu70.size) hu75.size) hu78.size) hu94.size) hu104.size) hJ206.ho) (e ▸ hx)) not0)) (recR.upd16 hu230 (safe_cons (CurAt.safe r227 _ (by decide)) safe0))
 have r300:=own_stay r299 hu236 (fun x hx=>(not_cons (fun e=>(not_old (CurAt.lt hc35) (le (le (le (le (le (le (le (le hu39.size hu44.size) hu48.size) hu56.size) hu70.size) hu75.size) hu78.size) hu94.size) hu104.size) hJ206.ho) (e ▸ hx)) not0)) (recR.upd16 hu236 (safe_cons (CurAt.safe hc233 _ (by decide)) safe0))
 have r301:=own_stay r300 hu274 (fun x hx=>(not_cons (fun e=>(not_old (blk_lt B13) U265.size hJ206.ho) (e ▸ hx)) not0)) (recR.upd16 hu274 (safe_cons (safe1 r271 (by decide)) safe0))
 have r302:=own_stay r301 hu276 (fun x hx=>(not_cons (fun e=>(not_old (blk_lt hB102) lr hJ206.ho) (e ▸ hx)) not0)) (recR.updl hu276 r287 rfl)
 have hs:parseOf filesForm 0 20 b=finish (Msg.mk 20 0 0 0 0 0 0 0 0 0 0 0 [] [] [] (recsR askO (Cur.mk ((((Cur.mk b false 0).bytesC 1).need (mayA ((Cur.mk b false 0).byteV)) 5).bytesR ((Cur.mk b false 0).byteV)) false 0).l.length 0 (Cur.mk ((((Cur.mk b false 0).bytesC 1).need (mayA ((Cur.mk b false 0).byteV)) 5).bytesR ((Cur.mk b false 0).byteV)) false 0) []).2 0 0 0 0 0 []) (((((Cur.mk b false 0).bytesC 1).need (mayA ((Cur.mk b false 0).byteV)) 5).bytesC ((Cur.mk b false 0).byteV)).need (((recsR askO (Cur.mk ((((Cur.mk b false 0).bytesC 1).need (mayA ((Cur.mk b false 0).byteV)) 5).bytesR ((Cur.mk b false 0).byteV)) false 0).l.length 0 (Cur.mk ((((Cur.mk b false 0).bytesC 1).need (mayA ((Cur.mk b false 0).byteV)) 5).bytesR ((Cur.mk b false 0).byteV)) false 0) []).1).e == 0) (withinE ((recsR askO (Cur.mk ((((Cur.mk b false 0).bytesC 1).need (mayA ((Cur.mk b false 0).byteV)) 5).bytesR ((Cur.mk b false 0).byteV)) false 0).l.length 0 (Cur.mk ((((Cur.mk b false 0).bytesC 1).need (mayA ((Cur.mk b false 0).byteV)) 5).bytesR ((Cur.mk b false 0).byteV)) false 0) []).1).e)):=by
   unfold parseOf filesForm filesR flR flB fl1
   (try simp only [q253,bs,if_true,if_false,decide_true,decide_false,eq_self,true_or,or_true,or_false,false_or,if_true,if_false,i00,i01,i10,i11,reduceIte,i2020,i2120,i2121])
   all_goals rfl
 rw [hs]
 exact finish_bad q253p U290
 have q253p:=eq_of_bnei q253
 refine skn<|sg<|?_
 have U303:=ut0 hu208 hu217
 have U304:=u1 (Upd.mono (S':=[l97,g33]) U303 (ac im all0)) hu230 im
 have U305:=u1 U304 hu236 im
 have ne306:=nb (CurAt.lt hc35) (le (le (le (le hu39.size hu44.size) hu48.size) hu56.size) hu70.size) hg73
 have r307:=Upd.blk U305 (not_cons ne110 (not_cons (Ne.symm ne306) not0)) hm212
 refine L0<|Olw r307<|?_
 have U308:=ut0 hu19 hu24
 have U309:=u1 U308 hu27 (ni hu19.size hg22)
 have U310:=ut0 U309 hu36
 have U311:=u1 U310 hu39 (ni U309.size hg34)
 have U312:=ut0 U311 hu44
 have U313:=u1 U312 hu48 (ni U309.size hg34)
 have U314:=u1 U313 hu56 (ni U309.size hg34)
 have U315:=ut0 U314 hu70
 have U316:=ut0 U315 hu75
 have U317:=u1 U316 hu78 (ni U315.size hg73)
 have U318:=ut0 U317 hu94
 have U319:=ut0 U318 hu104
 have U320:=ut U319 hJ206.u (ac (ni U314.size hg68) (ac (nr hg17) (ac (ni U315.size hg73) (ac (ni U318.size hg100) all0))))
 have U321:=u1 U320 hu208 (ni U318.size hg100)
 have U322:=ut0 U321 hu217
 have U323:=u1 U322 hu230 (ni U309.size hg34)
 have U324:=u1 U323 hu236 (ni U309.size hg34)
 have r325:=ub U324 B13
 refine L0<|Osw r325 (mG 20 0 0 0 0 0 0 0 0 0 0 0 nS nS nS (.slice A204 ((recsR askO (Cur.mk (x49.bytesR ((Cur.mk b false 0).byteV)) false 0).l.length 0 (Cur.mk (x49.bytesR ((Cur.mk b false 0).byteV)) false 0) []).2.length) cp205) 0 0 0 0 0 nS) fun w326 B327 hu328=>Pl 1<|nt<|rt<|?_
 have U331:=u1 hJ206.u hu208 im
 have U332:=ut0 U331 hu217
 have U333:=u1 (Upd.mono (S':=[g67,gs16,g71,l97,g33]) U332 (ac im (ac im (ac im (ac im all0))))) hu230 im
 have U334:=u1 U333 hu236 im
 have U335:=u1 (Upd.mono (S':=[g67,gs16,g71,l97,g33,g10]) U334 (ac im (ac im (ac im (ac im (ac im all0)))))) hu328 im
 have ne336:=nb (blk_lt B13) U318.size hg99
 have ne337:=nb (CurAt.lt hc35) (le (le (le (le (le (le (le hu39.size hu44.size) hu48.size) hu56.size) hu70.size) hu75.size) hu78.size) hu94.size) hg99
 have ne338:=nb (blk_lt B74) (le hu78.size hu94.size) hg99
 have ne339:=nb (blk_lt hB18) U132.size hg99
 have ne340:=nb (CurAt.lt hc69) U120.size hg99
 have r341:=Upd.blk U335 (not_cons (Ne.symm ne340) (not_cons (Ne.symm ne339) (not_cons (Ne.symm ne338) (not_cons hn101 (not_cons (Ne.symm ne337) (not_cons (Ne.symm ne336) not0)))))) hB102
 refine rmd r341 fun w329 hu330=>?_
 have r342:=ub1 hu330 ne336 B327
 refine rx r342 (.int .i64 0)<|?_
 subst ex232 ex210 ex59 ex50
 have U343:=u1 U252 hu328 (nr hg12)
 have U344:=u1 U343 hu330 (ni U246.size hg99)
 have U345:=u1 (Upd.mono (S':=[l97,g33,g10]) U305 (ac im (ac im all0))) hu328 im
 have U346:=u1 (Upd.mono (S':=[l97,g33,g10,D96]) U345 (ac im (ac im (ac im all0)))) hu330 im
 have r347:=ub U320 B13
 have r348:=CurAt.upd hc60 U222 (not_cons (Ne.symm ne225) not0) (safe_cons (safe1 r226 (by decide)) safe0)
 have r349:=own_stay hJ206.ho U303 (fun x hx=>(not_cons (fun e=>(not_old (blk_lt hB103) lr hJ206.ho) (e ▸ hx)) not0)) (recR.updl U303 hJ206.hl rfl)
 have r350:=own_stay r349 hu230 (fun x hx=>(not_cons (fun e=>(not_old (CurAt.lt hc35) (le (le (le (le (le (le (le (le hu39.size hu44.size) hu48.size) hu56.size) hu70.size) hu75.size) hu78.size) hu94.size) hu104.size) hJ206.ho) (e ▸ hx)) not0)) (recR.upd16 hu230 (safe_cons (CurAt.safe r227 _ (by decide)) safe0))
 have r351:=own_stay r350 hu236 (fun x hx=>(not_cons (fun e=>(not_old (CurAt.lt hc35) (le (le (le (le (le (le (le (le hu39.size hu44.size) hu48.size) hu56.size) hu70.size) hu75.size) hu78.size) hu94.size) hu104.size) hJ206.ho) (e ▸ hx)) not0)) (recR.upd16 hu236 (safe_cons (CurAt.safe hc233 _ (by decide)) safe0))
 have r352:=own_stay r351 hu328 (fun x hx=>(not_cons (fun e=>(not_old (blk_lt B13) U319.size hJ206.ho) (e ▸ hx)) not0)) (recR.upd16 hu328 (safe_cons (safe1 r325 (by decide)) safe0))
 have r353:=own_stay r352 hu330 (fun x hx=>(not_cons (fun e=>(not_old (blk_lt hB102) lr hJ206.ho) (e ▸ hx)) not0)) (recR.updl hu330 r341 rfl)
 have hs:parseOf filesForm 0 20 b=finish (Msg.mk 20 0 0 0 0 0 0 0 0 0 0 0 [] [] [] (recsR askO (Cur.mk ((((Cur.mk b false 0).bytesC 1).need (mayA ((Cur.mk b false 0).byteV)) 5).bytesR ((Cur.mk b false 0).byteV)) false 0).l.length 0 (Cur.mk ((((Cur.mk b false 0).bytesC 1).need (mayA ((Cur.mk b false 0).byteV)) 5).bytesR ((Cur.mk b false 0).byteV)) false 0) []).2 0 0 0 0 0 []) (((((Cur.mk b false 0).bytesC 1).need (mayA ((Cur.mk b false 0).byteV)) 5).bytesC ((Cur.mk b false 0).byteV)).need (((recsR askO (Cur.mk ((((Cur.mk b false 0).bytesC 1).need (mayA ((Cur.mk b false 0).byteV)) 5).bytesR ((Cur.mk b false 0).byteV)) false 0).l.length 0 (Cur.mk ((((Cur.mk b false 0).bytesC 1).need (mayA ((Cur.mk b false 0).byteV)) 5).bytesR ((Cur.mk b false 0).byteV)) false 0) []).1).e == 0) (withinE ((recsR askO (Cur.mk ((((Cur.mk b false 0).bytesC 1).need (mayA ((Cur.mk b false 0).byteV)) 5).bytesR ((Cur.mk b false 0).byteV)) false 0).l.length 0 (Cur.mk ((((Cur.mk b false 0).bytesC 1).need (mayA ((Cur.mk b false 0).byteV)) 5).bytesR ((Cur.mk b false 0).byteV)) false 0) []).1).e)):=by
   unfold parseOf filesForm filesR flR flB fl1
   (try simp only [q253,bs,if_true,if_false,decide_true,decide_false,eq_self,true_or,or_true,or_false,false_or,if_true,if_false,i00,i01,i10,i11,reduceIte,i2020,i2120,i2121])
   all_goals rfl
 rw [hs]
 exact finish_ok q253p ⟨_,_,_,_,_,rfl,RdG.nil ..,RdG.nil ..,RdG.nil ..,(r353).rd,RdG.nil ..,⟨(b8 (x:=20) (by omega)),(b8 (x:=0) (by omega)),(b16 (x:=0) (by omega)),(b16 (x:=0) (by omega)),(b16 (x:=0) (by omega)),(b16 (x:=0) (by omega)),(b16 (x:=0) (by omega)),(b16 (x:=0) (by omega)),(b16 (x:=0) (by omega)),(b16 (x:=0) (by omega)),(b16 (x:=0) (by omega)),(b16 (x:=0) (by omega)),(b8 (x:=0) (by omega)),(b8 (x:=0) (by omega)),(b8 (x:=0) (by omega)),(b8 (x:=0) (by omega)),(b8 (x:=0) (by omega))⟩⟩ U344
set_option maxRecDepth 100000 in
set_option maxHeartbeats 4000000 in
theorem files_p20_1 {m:Bool} {A:Option Addr} {cp:Nat} {b:List Int} {w:World} {dir:Int} (hd:dir=0∨dir=1) (hsl:RdB m w (.slice A b.length cp) b) (hb:b.length≤1048576) :
    Calls Tryz.prog 64 #[.int .i64 1,.int .u8 20,.slice A b.length cp] w (PMsg (parseOf filesForm 1 20 b) w):=by
 have hln:(b.length:Int)≤1048576:=by omega
 have e01:((dir != 0) && (dir != 1))=false:=by rcases hd with rfl | rfl <;> rfl
 refine enm 77 Tryz.func64 rfl<|sg<|L0<|Oal mZ fun g10 w11 hg12 B13 hu14=>Pl 1<|nt<|sq<|sg<|Pl 6<|nt<|c0<|?_
 refine skn<|sg<|Pl 2<|L0<|Oc (args:=#[.int .i64 1,.int .u8 20])<|e3 rules_T fun gs16 w15 hg17 hB18 hu19=>Pl 3<|L0<|Oal #[.nilFunc,.nilFunc] fun g20 w21 hg22 B23 hu24=>L0<|Osw B23 #[.func (.func 127) #[] #[],.func (.func 128) #[] #[]] fun w25 B26 hu27=>Pl 1<|nt<|sq<|sq<|?_
 refine go<|Pl 2<|nt<|c0<|skn<|sg<|Pl 1<|?_
 have U28:=ut0 hu14 hu19
 have U29:=ut0 U28 hu24
 have U30:=u1 U29 hu27 (ni U28.size hg22)
 have r31:=RdB.old hsl U30
 refine L0<|Oc<|e3 (new_any r31 (by omega)) fun g33 w32 hg34 hc35 hu36=>Pl 1<|ng<|Pl 1<|L0<|Oc<|m3 (byte_any hc35) fun w37 hc38 hu39 hr40=>L0<|Oi ((Cur.mk b false 0).byteV)<|Pl 1<|ng<|?_
 refine Pl 2<|?_
 have U41:=u1 hu36 hu39 (nr hg34)
 have r42:=ub U41 B26
 refine L0<|Olb r42 0<|Pl 1<|L0<|Ocv #[] #[] (args:=#[.int .i64 ((Cur.mk b false 0).byteV)])<|m1 (frule3_any (n:=(Cur.mk b false 0).byteV) (by omega)) fun w43 hu44=>?_
 have r45:=CurAt.old hc38 hu44
 refine L0<|Oc<|m2 (need_any ((mayT ((Cur.mk b false 0).byteV))) 5 r45) fun w46 hc47 hu48=>?_
 refine ab hc47 fun x49 ex50 hc51=>?_
 refine ng<|Pl 2<|L0<|Oc<|sr3 (bytes_any (n:=(Cur.mk b false 0).byteV) hc51) fun A61 cp62 w52 rd65 hl63 hm64 hc55 hu56=>?_
 have hlb57:=Nat.le_trans (Cur.bytesR_le x49 ((Cur.mk b false 0).byteV)) (CurAt.len hc51)
 refine ab hc55 fun x58 ex59 hc60=>?_
 refine L0<|Oc<|e3 (new_any rd65 (by omega)) fun g67 w66 hg68 hc69 hu70=>Pl 1<|ng<|Pl 2<|L0<|Oal mZ fun g71 w72 hg73 B74 hu75=>L0<|Osw B74 (mC 20) fun w76 B77 hu78=>nt<|sq<|sg<|?_
 refine Pl 2<|?_
 have U79:=u1 (Upd.mono (S':=[g33]) hu44 all0) hu48 im
 have U80:=u1 U79 hu56 im
 have U81:=ut0 U80 hu70
 have U82:=ut0 U81 hu75
 have U83:=u1 U82 hu78 (ni U81.size hg73)
 have ne84:=nb (blk_lt B23) hu27.size hg34
 have r85:=ub1 U83 ne84 r42
 refine L0<|Olb r85 1<|L0<|Oc<|ee6 (full_any (gb:=g67) (f:=.func 128) (x:=#[]) (y:=#[])) fun b87 b88 w86 hg89 hg90 hn91 hB92 hB93 hu94=>nt<|bk<|?_
 refine grange (f:=131) #[.pointer (some ⟨b87,0,none⟩),.pointer (some ⟨b88,0,none⟩)] fun a ha=>?_
 intro fn95 D96 l97 w98 hg99 hg100 hn101 hB102 hB103 hu104
 have ne105:=nb (blk_lt hB18) (le (le (le (le (le (le hu24.size hu27.size) hu36.size) hu39.size) hu44.size) hu48.size) hu56.size) hg68
 have ne106:=nb (CurAt.lt hc69) lr hg73
 have ne107:=nb (CurAt.lt hc69) (le (le hu75.size hu78.size) hu94.size) hg100
 have ne108:=nb (blk_lt hB18) (le (le (le (le (le (le (le hu24.size hu27.size) hu36.size) hu39.size) hu44.size) hu48.size) hu56.size) hu70.size) hg73
 have ne109:=nb (blk_lt hB18) (le (le (le (le (le (le (le (le (le (le hu24.size hu27.size) hu36.size) hu39.size) hu44.size) hu48.size) hu56.size) hu70.size) hu75.size) hu78.size) hu94.size) hg100
 have ne110:=nb (blk_lt B74) (le hu78.size hu94.size) hg100
 have ne111:=nb (CurAt.lt hc69) (le hu75.size hu78.size) hg89
 have ne112:=nb (blk_lt hB18) (le (le (le (le (le (le (le (le (le hu24.size hu27.size) hu36.size) hu39.size) hu44.size) hu48.size) hu56.size) hu70.size) hu75.size) hu78.size) hg89
 have ne113:=nb (blk_lt B74) hu78.size hg89
 have ne114:=nb (blk_lt hB92) lr hg100
 have ne115:=nb (CurAt.lt hc69) (le hu75.size hu78.size) hg90
 have ne116:=nb (blk_lt hB18) (le (le (le (le (le (le (le (le (le hu24.size hu27.size) hu36.size) hu39.size) hu44.size) hu48.size) hu56.size) hu70.size) hu75.size) hu78.size) hg90
 have ne117:=nb (blk_lt B74) hu78.size hg90
 have ne118:=nb (blk_lt hB93) lr hg100
 have U119:=u1 hu75 hu78 (nr hg73)
 have U120:=ut0 U119 hu94
 have U121:=ut0 U120 hu104
 have r122:=CurAt.old hc69 U121
 have U123:=u1 hu24 hu27 (nr hg22)
 have U124:=ut0 U123 hu36
 have U125:=u1 U124 hu39 (ni U123.size hg34)
 have U126:=ut0 U125 hu44
 have U127:=u1 U126 hu48 (ni U123.size hg34)
 have U128:=u1 U127 hu56 (ni U123.size hg34)
 have U129:=ut0 U128 hu70
 have U130:=ut0 U129 hu75
 have U131:=u1 U130 hu78 (ni U129.size hg73)
 have U132:=ut0 U131 hu94
 have U133:=ut0 U132 hu104
 have r134:=ub U133 hB18
 have U135:=ut0 hu94 hu104
 have r136:=ub U135 B77
 have r137:=ub hu104 hB92
 have r138:=ub hu104 hB93
 refine (full_T (c:=20) r122 r134 r136 hB103 r137 r138 (Ne.symm ne105) ne106 ne107 ne108 ne109 ne110 (Ne.symm ne111) (Ne.symm ne112) (Ne.symm ne113) ne114 (Ne.symm ne115) (Ne.symm ne116) (Ne.symm ne117) ne118 ?_).mono ?_
 intro W C s L Ar cr x Ax cx hJ hrd hx1 hx2 hx3 hL
 simp only [B16] at hx1 hx2 hx3
 have hm2:W.heap[g71]? = some (.cells #[.int .u8 20,.int .u8 0,.int .u16 0,.int .u16 0,.int .u16 0,.int .u16 0,.int .u16 0,.int .u16 0,.int .u16 0,.int .u16 0,.int .u16 0,.int .u16 0,.slice none 0 0,.slice none 0 0,.slice none 0 0,.slice Ar L.length cr,.int .u8 0,.int .u8 0,.int .u8 0,.int .u8 0,.int .u8 0,.slice none 0 0] 31 (0,0)):=hJ.hm
 refine round_at hJ.hl ?_
 refine gri ha 53<|fgr<|R0f<|Oal #[.int .u16 0,.int .u16 0,.int .u16 0,.slice none 0 0] fun g139 w140 hg141 B142 hu143=>R0f<|Osw B142 #[.int .u16 x.file,.int .u16 x.record,.int .u16 x.count,.slice Ax x.words.length cx] fun w144 B145 hu146=>fnl<|?_
 have U150:=u1 hu143 hu146 (nr hg141)
 have r151:=ub U150 hJ.hl
 refine gr1 r151 (by trivial) fun w147 hB148 hu149=>fbk<|fgr<|Rpf<|?_
 have U152:=u1 (Upd.mono (S':=[l97]) U150 all0) hu149 im
 have r153:=ub1 U152 ne110 hm2
 refine R0f<|Olb r153 15<|?_
 have ne154:=nb (blk_lt hB103) hJ.u.size hg141
 have r155:=ub1 hu149 (Ne.symm ne154) B145
 refine R0f<|Olw r155<|R0f<|Olt (m:=1) (e:=83) #[.int .u16 x.file,.int .u16 x.record,.int .u16 x.count,.slice Ax x.words.length cx] fun g156 w157 hg158 B159 hu160=>?_
 have U161:=ut0 U152 hu160
 have r162:=RdW.updl hrd U161 hJ.hl rfl
 have ol163:=lit1 (R:=recR true) (x:=(Rec.mk x.file x.record x.count x.words)) B159 rfl ⟨_,rfl,r162,b16 (by omega),b16 (by omega),b16 (by omega)⟩
 have r164:=own_stay hJ.ho U161 (fun x hx=>(not_cons (fun e=>(not_old (blk_lt hB103) lr hJ.ho) (e ▸ hx)) not0)) (recR.updl U161 hJ.hl rfl)
 refine R0f<|Oappg (xs:=L) (ys:=([(Rec.mk x.file x.record x.count x.words)])) (.agg #[.int .u16 0,.int .u16 0,.int .u16 0,.slice none 0 0]) 4 32 r164 ol163 (by simp) recR.ones (fun w' hv=>recR.upd16 hv (safe_app (ob_safe _ r164 (by decide)) safe0)) (by (try simp only [List.length_append,List.length_cons,List.length_nil,putW_length]); omega) (le (le (le (le hJ.u.size hu143.size) hu146.size) hu149.size) hu160.size) fun A165 cp166 w167 ho168 hu169=>Rpf<|?_
 have U172:=ut (Upd.mono (S':=(ob Ar++[])) hu160 all0) hu169 (all_app (fun x hx=>Or.inl (by simp [hx])) all0)
 have r173:=Upd.blk U172 (not_app (not_old (blk_lt r136) lr hJ.ho) not0) r153
 refine R0f<|Ost r173 15 (mG 20 0 0 0 0 0 0 0 0 0 0 0 nS nS nS (.slice A165 ((L++[(Rec.mk x.file x.record x.count x.words)]).length) cp166) 0 0 0 0 0 nS) fun w174 B175 hu176=>fnl<|bn<|?_
 have U180:=u1 (Upd.mono (S':=(ob Ar++(g71 :: []))) U172 (all_app (fun x hx=>Or.inl (by simp [hx])) all0)) hu176 im
 have r181:=Upd.blk U180 (not_app (not_old (blk_lt hB103) lr hJ.ho) (not_cons (Ne.symm ne110) not0)) hB148
 refine gr2 r181 fun w177 hB178 hu179=>?_
 have U182:=ut (Upd.mono (S':=[g67,gs16,g71,l97]) (Upd.refl [] _) all0) hJ.u (ac im (ac im (ac im (ac im all0))))
 have U183:=ut0 U182 hu143
 have U184:=u1 U183 hu146 (ni U182.size hg141)
 have U185:=u1 U184 hu149 im
 have U186:=ut0 U185 hu160
 have U187:=ut U186 hu169 (all_app (ob_new hJ.ho lr) all0)
 have U188:=u1 U187 hu176 im
 have U189:=u1 U188 hu179 im
 have U190:=ut (Upd.mono (S':=(l97 :: (ob Ar++[]))) U161 (ac im all0)) hu169 (all_app (fun x hx=>Or.inl (by simp [hx])) all0)
 have U191:=u1 (Upd.mono (S':=(l97 :: (ob Ar++(g71 :: [])))) U190 (ac im (all_app (fun x hx=>Or.inl (by simp [hx])) all0))) hu176 im
 have U192:=u1 U191 hu179 im
 have r193:=CurAt.updl hJ.hC U161 (not_cons ne107 not0) hJ.hl rfl
 have r194:=CurAt.upd r193 hu169 (not_app (not_old (CurAt.lt r122) lr hJ.ho) not0) (safe_app (ob_safe _ r164 (by decide)) safe0)
 have r195:=CurAt.upd r194 hu176 (not_cons ne106 not0) (safe_cons (safe1 r173 (by decide)) safe0)
 have r196:=CurAt.updl r195 hu179 (not_cons ne107 not0) r181 rfl
 have r197:=Upd.blk U192 (not_cons ne109 (not_app (not_old (blk_lt r134) lr hJ.ho) (not_cons ne108 not0))) hJ.hS
 have r198:=ub1 hu179 ne110 B175
 have U199:=u1 (Upd.mono (S':=[g71,l97]) hu176 (ac im all0)) hu179 im
 have r200:=own_stay ho168 hu176 (fun x hx=>(not_cons (fun e=>(not_old (blk_lt r136) lr ho168) (e ▸ hx)) not0)) (recR.upd16 hu176 (safe_cons (safe1 r173 (by decide)) safe0))
 have r201:=own_stay r200 hu179 (fun x hx=>(not_cons (fun e=>(not_old (blk_lt hB103) lr ho168) (e ▸ hx)) not0)) (recR.updl hu179 r181 rfl)
 exact ⟨by trivial,(le (le (le (le (le (le hu143.size hu146.size) hu149.size) hu160.size) hu169.size) hu176.size) hu179.size),A165,cp166,⟨U189,r196,r197,r198,r201,hB178⟩⟩
 rintro _ w202 ⟨rfl,s203,A204,cp205,hJ206⟩
 refine ⟨_,_,rfl,hJ206.hl,by simp [loopR],by trivial,fun w207 hu208=>?_⟩
 refine ab hJ206.hC fun x209 ex210 hc211=>?_
 have hm212:w202.heap[g71]? = some (.cells #[.int .u8 20,.int .u8 0,.int .u16 0,.int .u16 0,.int .u16 0,.int .u16 0,.int .u16 0,.int .u16 0,.int .u16 0,.int .u16 0,.int .u16 0,.int .u16 0,.slice none 0 0,.slice none 0 0,.slice none 0 0,.slice A204 ((recsR toldO (Cur.mk (x49.bytesR ((Cur.mk b false 0).byteV)) false 0).l.length 0 (Cur.mk (x49.bytesR ((Cur.mk b false 0).byteV)) false 0) []).2.length) cp205,.int .u8 0,.int .u8 0,.int .u8 0,.int .u8 0,.int .u8 0,.slice none 0 0] 31 (0,0)):=hJ206.hm
 refine bn<|tn<|sg<|Pl 2<|?_
 have r213:=CurAt.updl hc211 hu208 (not_cons ne107 not0) hJ206.hl rfl
 refine L0<|Oc<|mq (err_any r213)<|?_
 have hl214:=CurAt.len r213
 refine Pl 2<|L0<|Oc<|mq (err_any r213)<|?_
 have hl215:=CurAt.len r213
 refine L0<|Oc<|m1 (within_err (e:=x209.e)) fun w216 hu217=>?_
 have U218:=ut0 hu70 hu75
 have U219:=u1 U218 hu78 (ni hu70.size hg73)
 have U220:=ut0 U219 hu94
 have U221:=ut0 U220 hu104
 have U222:=ut (Upd.mono (S':=[gs16]) U221 all0) hJ206.u (ac (nr hg68) (ac im (ac (ni hu70.size hg73) (ac (ni U220.size hg100) all0))))
 have U223:=u1 U222 hu208 (ni U220.size hg100)
 have U224:=ut0 U223 hu217
 have ne225:=nb (blk_lt hB18) U123.size hg34
 have r226:=ub U128 hB18
 have r227:=CurAt.upd hc60 U224 (not_cons (Ne.symm ne225) not0) (safe_cons (safe1 r226 (by decide)) safe0)
 refine L0<|Oc<|m2 (need_any ((x209.e == 0)) (withinE x209.e) r227) fun w228 hc229 hu230=>?_
 refine ab hc229 fun x231 ex232 hc233=>?_
 refine ng<|Pl 1<|L0<|Oc<|m2 (end_any hc233) fun w234 hc235 hu236=>nt<|sq<|sg<|Pl 1<|L0<|Oc<|mq (err_any hc235)<|?_
 have hl237:=CurAt.len hc235
 refine Pl 1<|ng<|Pl 2<|nt<|?_
 have U238:=ut0 U30 hu36
 have U239:=u1 U238 hu39 (ni U30.size hg34)
 have U240:=ut0 U239 hu44
 have U241:=u1 U240 hu48 (ni U30.size hg34)
 have U242:=u1 U241 hu56 (ni U30.size hg34)
 have U243:=ut0 U242 hu70
 have U244:=ut0 U243 hu75
 have U245:=u1 U244 hu78 (ni U243.size hg73)
 have U246:=ut0 U245 hu94
 have U247:=ut0 U246 hu104
 have U248:=ut U247 hJ206.u (ac (ni U242.size hg68) (ac (ni hu14.size hg17) (ac (ni U243.size hg73) (ac (ni U246.size hg100) all0))))
 have U249:=u1 U248 hu208 (ni U246.size hg100)
 have U250:=ut0 U249 hu217
 have U251:=u1 U250 hu230 (ni U30.size hg34)
 have U252:=u1 U251 hu236 (ni U30.size hg34)
 refine cb ((x231.endC.e != 0)) (fun q253=>?_) (fun q253=>?_)
 have q253p:=ne_of_bnei q253
 refine sg<|Pl 2<|?_
 have U254:=ut0 hu19 hu24
 have U255:=u1 U254 hu27 (ni hu19.size hg22)
 have U256:=ut0 U255 hu36
 have U257:=u1 U256 hu39 (ni U255.size hg34)
 have U258:=ut0 U257 hu44
 have U259:=u1 U258 hu48 (ni U255.size hg34)
 have U260:=u1 U259 hu56 (ni U255.size hg34)
 have U261:=ut0 U260 hu70
 have U262:=ut0 U261 hu75
 have U263:=u1 U262 hu78 (ni U261.size hg73)
 have U264:=ut0 U263 hu94
 have U265:=ut0 U264 hu104
 have U266:=ut U265 hJ206.u (ac (ni U260.size hg68) (ac (nr hg17) (ac (ni U261.size hg73) (ac (ni U264.size hg100) all0))))
 have U267:=u1 U266 hu208 (ni U264.size hg100)
 have U268:=ut0 U267 hu217
 have U269:=u1 U268 hu230 (ni U255.size hg34)
 have U270:=u1 U269 hu236 (ni U255.size hg34)
 have r271:=ub U270 B13
 refine L0<|Osw r271 mZ fun w272 B273 hu274=>Pl 1<|nt<|rt<|tr<|?_
 have U277:=u1 hJ206.u hu208 im
 have U278:=ut0 U277 hu217
 have U279:=u1 (Upd.mono (S':=[g67,gs16,g71,l97,g33]) U278 (ac im (ac im (ac im (ac im all0))))) hu230 im
 have U280:=u1 U279 hu236 im
 have U281:=u1 (Upd.mono (S':=[g67,gs16,g71,l97,g33,g10]) U280 (ac im (ac im (ac im (ac im (ac im all0)))))) hu274 im
 have ne282:=nb (blk_lt B13) U264.size hg99
 have ne283:=nb (CurAt.lt hc35) (le (le (le (le (le (le (le hu39.size hu44.size) hu48.size) hu56.size) hu70.size) hu75.size) hu78.size) hu94.size) hg99
 have ne284:=nb (blk_lt B74) (le hu78.size hu94.size) hg99
 have ne285:=nb (blk_lt hB18) U132.size hg99
 have ne286:=nb (CurAt.lt hc69) U120.size hg99
 have r287:=Upd.blk U281 (not_cons (Ne.symm ne286) (not_cons (Ne.symm ne285) (not_cons (Ne.symm ne284) (not_cons hn101 (not_cons (Ne.symm ne283) (not_cons (Ne.symm ne282) not0)))))) hB102
 refine rmd r287 fun w275 hu276=>?_
 have r288:=ub1 hu276 ne282 B273
 refine rx r288 (.int .i64 x231.endC.e)<|?_
 subst ex232 ex210 ex59 ex50
 have U289:=u1 U252 hu274 (nr hg12)
 have U290:=u1 U289 hu276 (ni U246.size hg99)
 have U291:=ut0 hu208 hu217
 have U292:=u1 (Upd.mono (S':=[l97,g33]) U291 (ac im all0)) hu230 im
 have U293:=u1 U292 hu236 im
 have U294:=u1 (Upd.mono (S':=[l97,g33,g10]) U293 (ac im (ac im all0))) hu274 im
 have U295:=u1 (Upd.mono (S':=[l97,g33,g10,D96]) U294 (ac im (ac im (ac im all0)))) hu276 im
 have r296:=ub U266 B13
 have r297:=CurAt.upd hc60 U222 (not_cons (Ne.symm ne225) not0) (safe_cons (safe1 r226 (by decide)) safe0)
 have r298:=own_stay hJ206.ho U291 (fun x hx=>(not_cons (fun e=>(not_old (blk_lt hB103) lr hJ206.ho) (e ▸ hx)) not0)) (recR.updl U291 hJ206.hl rfl)
 have r299:=own_stay r298 hu230 (fun x hx=>(not_cons (fun e=>(not_old (CurAt.lt hc35) (le (le (le (le (le (le (le (le hu39.size hu44.size) hu48.size) hu56.size) hu70.size) hu75.size) hu78.size) hu94.size) hu104.size) hJ206.ho) (e ▸ hx)) not0)) (recR.upd16 hu230 (safe_cons (CurAt.safe r227 _ (by decide)) safe0))
 have r300:=own_stay r299 hu236 (fun x hx=>(not_cons (fun e=>(not_old (CurAt.lt hc35) (le (le (le (le (le (le (le (le hu39.size hu44.size) hu48.size) hu56.size) hu70.size) hu75.size) hu78.size) hu94.size) hu104.size) hJ206.ho) (e ▸ hx)) not0)) (recR.upd16 hu236 (safe_cons (CurAt.safe hc233 _ (by decide)) safe0))
 have r301:=own_stay r300 hu274 (fun x hx=>(not_cons (fun e=>(not_old (blk_lt B13) U265.size hJ206.ho) (e ▸ hx)) not0)) (recR.upd16 hu274 (safe_cons (safe1 r271 (by decide)) safe0))
 have r302:=own_stay r301 hu276 (fun x hx=>(not_cons (fun e=>(not_old (blk_lt hB102) lr hJ206.ho) (e ▸ hx)) not0)) (recR.updl hu276 r287 rfl)
 have hs:parseOf filesForm 1 20 b=finish (Msg.mk 20 0 0 0 0 0 0 0 0 0 0 0 [] [] [] (recsR toldO (Cur.mk ((((Cur.mk b false 0).bytesC 1).need (mayT ((Cur.mk b false 0).byteV)) 5).bytesR ((Cur.mk b false 0).byteV)) false 0).l.length 0 (Cur.mk ((((Cur.mk b false 0).bytesC 1).need (mayT ((Cur.mk b false 0).byteV)) 5).bytesR ((Cur.mk b false 0).byteV)) false 0) []).2 0 0 0 0 0 []) (((((Cur.mk b false 0).bytesC 1).need (mayT ((Cur.mk b false 0).byteV)) 5).bytesC ((Cur.mk b false 0).byteV)).need (((recsR toldO (Cur.mk ((((Cur.mk b false 0).bytesC 1).need (mayT ((Cur.mk b false 0).byteV)) 5).bytesR ((Cur.mk b false 0).byteV)) false 0).l.length 0 (Cur.mk ((((Cur.mk b false 0).bytesC 1).need (mayT ((Cur.mk b false 0).byteV)) 5).bytesR ((Cur.mk b false 0).byteV)) false 0) []).1).e == 0) (withinE ((recsR toldO (Cur.mk ((((Cur.mk b false 0).bytesC 1).need (mayT ((Cur.mk b false 0).byteV)) 5).bytesR ((Cur.mk b false 0).byteV)) false 0).l.length 0 (Cur.mk ((((Cur.mk b false 0).bytesC 1).need (mayT ((Cur.mk b false 0).byteV)) 5).bytesR ((Cur.mk b false 0).byteV)) false 0) []).1).e)):=by
   unfold parseOf filesForm filesR flR flB fl1
   (try simp only [q253,bs,if_true,if_false,decide_true,decide_false,eq_self,true_or,or_true,or_false,false_or,if_true,if_false,i00,i01,i10,i11,reduceIte,i2020,i2120,i2121])
   all_goals rfl
 rw [hs]
 exact finish_bad q253p U290
 have q253p:=eq_of_bnei q253
 refine skn<|sg<|?_
 have U303:=ut0 hu208 hu217
 have U304:=u1 (Upd.mono (S':=[l97,g33]) U303 (ac im all0)) hu230 im
 have U305:=u1 U304 hu236 im
 have ne306:=nb (CurAt.lt hc35) (le (le (le (le hu39.size hu44.size) hu48.size) hu56.size) hu70.size) hg73
 have r307:=Upd.blk U305 (not_cons ne110 (not_cons (Ne.symm ne306) not0)) hm212
 refine L0<|Olw r307<|?_
 have U308:=ut0 hu19 hu24
 have U309:=u1 U308 hu27 (ni hu19.size hg22)
 have U310:=ut0 U309 hu36
 have U311:=u1 U310 hu39 (ni U309.size hg34)
 have U312:=ut0 U311 hu44
 have U313:=u1 U312 hu48 (ni U309.size hg34)
 have U314:=u1 U313 hu56 (ni U309.size hg34)
 have U315:=ut0 U314 hu70
 have U316:=ut0 U315 hu75
 have U317:=u1 U316 hu78 (ni U315.size hg73)
 have U318:=ut0 U317 hu94
 have U319:=ut0 U318 hu104
 have U320:=ut U319 hJ206.u (ac (ni U314.size hg68) (ac (nr hg17) (ac (ni U315.size hg73) (ac (ni U318.size hg100) all0))))
 have U321:=u1 U320 hu208 (ni U318.size hg100)
 have U322:=ut0 U321 hu217
 have U323:=u1 U322 hu230 (ni U309.size hg34)
 have U324:=u1 U323 hu236 (ni U309.size hg34)
 have r325:=ub U324 B13
 refine L0<|Osw r325 (mG 20 0 0 0 0 0 0 0 0 0 0 0 nS nS nS (.slice A204 ((recsR toldO (Cur.mk (x49.bytesR ((Cur.mk b false 0).byteV)) false 0).l.length 0 (Cur.mk (x49.bytesR ((Cur.mk b false 0).byteV)) false 0) []).2.length) cp205) 0 0 0 0 0 nS) fun w326 B327 hu328=>Pl 1<|nt<|rt<|?_
 have U331:=u1 hJ206.u hu208 im
 have U332:=ut0 U331 hu217
 have U333:=u1 (Upd.mono (S':=[g67,gs16,g71,l97,g33]) U332 (ac im (ac im (ac im (ac im all0))))) hu230 im
 have U334:=u1 U333 hu236 im
 have U335:=u1 (Upd.mono (S':=[g67,gs16,g71,l97,g33,g10]) U334 (ac im (ac im (ac im (ac im (ac im all0)))))) hu328 im
 have ne336:=nb (blk_lt B13) U318.size hg99
 have ne337:=nb (CurAt.lt hc35) (le (le (le (le (le (le (le hu39.size hu44.size) hu48.size) hu56.size) hu70.size) hu75.size) hu78.size) hu94.size) hg99
 have ne338:=nb (blk_lt B74) (le hu78.size hu94.size) hg99
 have ne339:=nb (blk_lt hB18) U132.size hg99
 have ne340:=nb (CurAt.lt hc69) U120.size hg99
 have r341:=Upd.blk U335 (not_cons (Ne.symm ne340) (not_cons (Ne.symm ne339) (not_cons (Ne.symm ne338) (not_cons hn101 (not_cons (Ne.symm ne337) (not_cons (Ne.symm ne336) not0)))))) hB102
 refine rmd r341 fun w329 hu330=>?_
 have r342:=ub1 hu330 ne336 B327
 refine rx r342 (.int .i64 0)<|?_
 subst ex232 ex210 ex59 ex50
 have U343:=u1 U252 hu328 (nr hg12)
 have U344:=u1 U343 hu330 (ni U246.size hg99)
 have U345:=u1 (Upd.mono (S':=[l97,g33,g10]) U305 (ac im (ac im all0))) hu328 im
 have U346:=u1 (Upd.mono (S':=[l97,g33,g10,D96]) U345 (ac im (ac im (ac im all0)))) hu330 im
 have r347:=ub U320 B13
 have r348:=CurAt.upd hc60 U222 (not_cons (Ne.symm ne225) not0) (safe_cons (safe1 r226 (by decide)) safe0)
 have r349:=own_stay hJ206.ho U303 (fun x hx=>(not_cons (fun e=>(not_old (blk_lt hB103) lr hJ206.ho) (e ▸ hx)) not0)) (recR.updl U303 hJ206.hl rfl)
 have r350:=own_stay r349 hu230 (fun x hx=>(not_cons (fun e=>(not_old (CurAt.lt hc35) (le (le (le (le (le (le (le (le hu39.size hu44.size) hu48.size) hu56.size) hu70.size) hu75.size) hu78.size) hu94.size) hu104.size) hJ206.ho) (e ▸ hx)) not0)) (recR.upd16 hu230 (safe_cons (CurAt.safe r227 _ (by decide)) safe0))
 have r351:=own_stay r350 hu236 (fun x hx=>(not_cons (fun e=>(not_old (CurAt.lt hc35) (le (le (le (le (le (le (le (le hu39.size hu44.size) hu48.size) hu56.size) hu70.size) hu75.size) hu78.size) hu94.size) hu104.size) hJ206.ho) (e ▸ hx)) not0)) (recR.upd16 hu236 (safe_cons (CurAt.safe hc233 _ (by decide)) safe0))
 have r352:=own_stay r351 hu328 (fun x hx=>(not_cons (fun e=>(not_old (blk_lt B13) U319.size hJ206.ho) (e ▸ hx)) not0)) (recR.upd16 hu328 (safe_cons (safe1 r325 (by decide)) safe0))
 have r353:=own_stay r352 hu330 (fun x hx=>(not_cons (fun e=>(not_old (blk_lt hB102) lr hJ206.ho) (e ▸ hx)) not0)) (recR.updl hu330 r341 rfl)
 have hs:parseOf filesForm 1 20 b=finish (Msg.mk 20 0 0 0 0 0 0 0 0 0 0 0 [] [] [] (recsR toldO (Cur.mk ((((Cur.mk b false 0).bytesC 1).need (mayT ((Cur.mk b false 0).byteV)) 5).bytesR ((Cur.mk b false 0).byteV)) false 0).l.length 0 (Cur.mk ((((Cur.mk b false 0).bytesC 1).need (mayT ((Cur.mk b false 0).byteV)) 5).bytesR ((Cur.mk b false 0).byteV)) false 0) []).2 0 0 0 0 0 []) (((((Cur.mk b false 0).bytesC 1).need (mayT ((Cur.mk b false 0).byteV)) 5).bytesC ((Cur.mk b false 0).byteV)).need (((recsR toldO (Cur.mk ((((Cur.mk b false 0).bytesC 1).need (mayT ((Cur.mk b false 0).byteV)) 5).bytesR ((Cur.mk b false 0).byteV)) false 0).l.length 0 (Cur.mk ((((Cur.mk b false 0).bytesC 1).need (mayT ((Cur.mk b false 0).byteV)) 5).bytesR ((Cur.mk b false 0).byteV)) false 0) []).1).e == 0) (withinE ((recsR toldO (Cur.mk ((((Cur.mk b false 0).bytesC 1).need (mayT ((Cur.mk b false 0).byteV)) 5).bytesR ((Cur.mk b false 0).byteV)) false 0).l.length 0 (Cur.mk ((((Cur.mk b false 0).bytesC 1).need (mayT ((Cur.mk b false 0).byteV)) 5).bytesR ((Cur.mk b false 0).byteV)) false 0) []).1).e)):=by
   unfold parseOf filesForm filesR flR flB fl1
   (try simp only [q253,bs,if_true,if_false,decide_true,decide_false,eq_self,true_or,or_true,or_false,false_or,if_true,if_false,i00,i01,i10,i11,reduceIte,i2020,i2120,i2121])
   all_goals rfl
 rw [hs]
 exact finish_ok q253p ⟨_,_,_,_,_,rfl,RdG.nil ..,RdG.nil ..,RdG.nil ..,(r353).rd,RdG.nil ..,⟨(b8 (x:=20) (by omega)),(b8 (x:=0) (by omega)),(b16 (x:=0) (by omega)),(b16 (x:=0) (by omega)),(b16 (x:=0) (by omega)),(b16 (x:=0) (by omega)),(b16 (x:=0) (by omega)),(b16 (x:=0) (by omega)),(b16 (x:=0) (by omega)),(b16 (x:=0) (by omega)),(b16 (x:=0) (by omega)),(b16 (x:=0) (by omega)),(b8 (x:=0) (by omega)),(b8 (x:=0) (by omega)),(b8 (x:=0) (by omega)),(b8 (x:=0) (by omega)),(b8 (x:=0) (by omega))⟩⟩ U344
set_option maxRecDepth 100000 in
set_option maxHeartbeats 4000000 in
theorem files_p21 {m:Bool} {A:Option Addr} {cp:Nat} {b:List Int} {w:World} {dir:Int} (hd:dir=0∨dir=1) (hsl:RdB m w (.slice A b.length cp) b) (hb:b.length≤1048576) :
    Calls Tryz.prog 64 #[.int .i64 dir,.int .u8 21,.slice A b.length cp] w (PMsg (parseOf filesForm dir 21 b) w):=by
 have hln:(b.length:Int)≤1048576:=by omega
 have e01:((dir != 0) && (dir != 1))=false:=by rcases hd with rfl | rfl <;> rfl
 refine enm 77 Tryz.func64 rfl<|sg<|L0<|Oal mZ fun g10 w11 hg12 B13 hu14=>Pl 1<|nt<|sq<|sg<|Pl 3<|cu 3 [18] 21 (((dir != 0) && (dir != 1))) (fun K K16=>?_) ?_
 refine bl 18 ((dir != 0)) (fun q15=>?_) (fun q15=>?_)
 have q15p:=ne_of_bnei q15
 exact Pl 3<|ce K16 (dir != 1) (by rw [q15]; rfl)
 have q15p:=eq_of_bnei q15
 exact Pl 3<|ce K16 false (by rw [q15]; rfl)
 refine nt<|cf e01<|skn<|sg<|Pl 2<|L0<|Oc (args:=#[.int .i64 dir,.int .u8 21])<|e3 rules_W fun gs18 w17 hg19 hB20 hu21=>Pl 3<|L0<|Oal #[.nilFunc,.nilFunc] fun g22 w23 hg24 B25 hu26=>L0<|Osw B25 #[.func (.func 129) #[] #[],.func (.func 130) #[] #[]] fun w27 B28 hu29=>Pl 1<|nl<|?_
 refine tn<|sq<|sg<|Pl 2<|nt<|c0<|skn<|sg<|Pl 1<|?_
 have U30:=ut0 hu14 hu21
 have U31:=ut0 U30 hu26
 have U32:=u1 U31 hu29 (ni U30.size hg24)
 have r33:=RdB.old hsl U32
 refine L0<|Oc<|e3 (new_any r33 (by omega)) fun g35 w34 hg36 hc37 hu38=>Pl 1<|ng<|Pl 1<|L0<|Oc<|m3 (byte_any hc37) fun w39 hc40 hu41 hr42=>L0<|Oi ((Cur.mk b false 0).byteV)<|Pl 1<|ng<|?_
 refine Pl 2<|?_
 have U43:=u1 hu38 hu41 (nr hg36)
 have r44:=ub U43 B28
 refine L0<|Olb r44 0<|Pl 1<|L0<|Ocv #[] #[] (args:=#[.int .i64 ((Cur.mk b false 0).byteV)])<|m1 (frule4_any (n:=(Cur.mk b false 0).byteV) (by omega)) fun w45 hu46=>?_
 have r47:=CurAt.old hc40 hu46
 refine L0<|Oc<|m2 (need_any ((mayW ((Cur.mk b false 0).byteV))) 5 r47) fun w48 hc49 hu50=>?_
 refine ab hc49 fun x51 ex52 hc53=>?_
 refine ng<|Pl 2<|L0<|Oc<|sr3 (bytes_any (n:=(Cur.mk b false 0).byteV) hc53) fun A63 cp64 w54 rd67 hl65 hm66 hc57 hu58=>?_
 have hlb59:=Nat.le_trans (Cur.bytesR_le x51 ((Cur.mk b false 0).byteV)) (CurAt.len hc53)
 refine ab hc57 fun x60 ex61 hc62=>?_
 refine L0<|Oc<|e3 (new_any rd67 (by omega)) fun g69 w68 hg70 hc71 hu72=>Pl 1<|ng<|Pl 2<|L0<|Oal mZ fun g73 w74 hg75 B76 hu77=>L0<|Osw B76 (mC 21) fun w78 B79 hu80=>nt<|sq<|sg<|?_
 refine Pl 2<|?_
 have U81:=u1 (Upd.mono (S':=[g35]) hu46 all0) hu50 im
 have U82:=u1 U81 hu58 im
 have U83:=ut0 U82 hu72
 have U84:=ut0 U83 hu77
 have U85:=u1 U84 hu80 (ni U83.size hg75)
 have ne86:=nb (blk_lt B25) hu29.size hg36
 have r87:=ub1 U85 ne86 r44
 refine L0<|Olb r87 1<|L0<|Oc<|ee6 (full_any (gb:=g69) (f:=.func 130) (x:=#[]) (y:=#[])) fun b89 b90 w88 hg91 hg92 hn93 hB94 hB95 hu96=>nt<|bk<|?_
 refine grange (f:=131) #[.pointer (some ⟨b89,0,none⟩),.pointer (some ⟨b90,0,none⟩)] fun a ha=>?_
 intro fn97 D98 l99 w100 hg101 hg102 hn103 hB104 hB105 hu106
 have ne107:=nb (blk_lt hB20) (le (le (le (le (le (le hu26.size hu29.size) hu38.size) hu41.size) hu46.size) hu50.size) hu58.size) hg70
 have ne108:=nb (CurAt.lt hc71) lr hg75
 have ne109:=nb (CurAt.lt hc71) (le (le hu77.size hu80.size) hu96.size) hg102
 have ne110:=nb (blk_lt hB20) (le (le (le (le (le (le (le hu26.size hu29.size) hu38.size) hu41.size) hu46.size) hu50.size) hu58.size) hu72.size) hg75
 have ne111:=nb (blk_lt hB20) (le (le (le (le (le (le (le (le (le (le hu26.size hu29.size) hu38.size) hu41.size) hu46.size) hu50.size) hu58.size) hu72.size) hu77.size) hu80.size) hu96.size) hg102
 have ne112:=nb (blk_lt B76) (le hu80.size hu96.size) hg102
 have ne113:=nb (CurAt.lt hc71) (le hu77.size hu80.size) hg91
 have ne114:=nb (blk_lt hB20) (le (le (le (le (le (le (le (le (le hu26.size hu29.size) hu38.size) hu41.size) hu46.size) hu50.size) hu58.size) hu72.size) hu77.size) hu80.size) hg91
 have ne115:=nb (blk_lt B76) hu80.size hg91
 have ne116:=nb (blk_lt hB94) lr hg102
 have ne117:=nb (CurAt.lt hc71) (le hu77.size hu80.size) hg92
 have ne118:=nb (blk_lt hB20) (le (le (le (le (le (le (le (le (le hu26.size hu29.size) hu38.size) hu41.size) hu46.size) hu50.size) hu58.size) hu72.size) hu77.size) hu80.size) hg92
 have ne119:=nb (blk_lt B76) hu80.size hg92
 have ne120:=nb (blk_lt hB95) lr hg102
 have U121:=u1 hu77 hu80 (nr hg75)
 have U122:=ut0 U121 hu96
 have U123:=ut0 U122 hu106
 have r124:=CurAt.old hc71 U123
 have U125:=u1 hu26 hu29 (nr hg24)
 have U126:=ut0 U125 hu38
 have U127:=u1 U126 hu41 (ni U125.size hg36)
 have U128:=ut0 U127 hu46
 have U129:=u1 U128 hu50 (ni U125.size hg36)
 have U130:=u1 U129 hu58 (ni U125.size hg36)
 have U131:=ut0 U130 hu72
 have U132:=ut0 U131 hu77
 have U133:=u1 U132 hu80 (ni U131.size hg75)
 have U134:=ut0 U133 hu96
 have U135:=ut0 U134 hu106
 have r136:=ub U135 hB20
 have U137:=ut0 hu96 hu106
 have r138:=ub U137 B79
 have r139:=ub hu106 hB94
 have r140:=ub hu106 hB95
 refine (full_W (c:=21) r124 r136 r138 hB105 r139 r140 (Ne.symm ne107) ne108 ne109 ne110 ne111 ne112 (Ne.symm ne113) (Ne.symm ne114) (Ne.symm ne115) ne116 (Ne.symm ne117) (Ne.symm ne118) (Ne.symm ne119) ne120 ?_).mono ?_
 intro W C s L Ar cr x Ax cx hJ hrd hx1 hx2 hx3 hL
 simp only [B16] at hx1 hx2 hx3
 have hm2:W.heap[g73]? = some (.cells #[.int .u8 21,.int .u8 0,.int .u16 0,.int .u16 0,.int .u16 0,.int .u16 0,.int .u16 0,.int .u16 0,.int .u16 0,.int .u16 0,.int .u16 0,.int .u16 0,.slice none 0 0,.slice none 0 0,.slice none 0 0,.slice Ar L.length cr,.int .u8 0,.int .u8 0,.int .u8 0,.int .u8 0,.int .u8 0,.slice none 0 0] 31 (0,0)):=hJ.hm
 refine round_at hJ.hl ?_
 refine gri ha 53<|fgr<|R0f<|Oal #[.int .u16 0,.int .u16 0,.int .u16 0,.slice none 0 0] fun g141 w142 hg143 B144 hu145=>R0f<|Osw B144 #[.int .u16 x.file,.int .u16 x.record,.int .u16 x.count,.slice Ax x.words.length cx] fun w146 B147 hu148=>fnl<|?_
 have U152:=u1 hu145 hu148 (nr hg143)
 have r153:=ub U152 hJ.hl
 refine gr1 r153 (by trivial) fun w149 hB150 hu151=>fbk<|fgr<|Rpf<|?_
 have U154:=u1 (Upd.mono (S':=[l99]) U152 all0) hu151 im
 have r155:=ub1 U154 ne112 hm2
 refine R0f<|Olb r155 15<|?_
 have ne156:=nb (blk_lt hB105) hJ.u.size hg143
 have r157:=ub1 hu151 (Ne.symm ne156) B147
 refine R0f<|Olw r157<|R0f<|Olt (m:=1) (e:=83) #[.int .u16 x.file,.int .u16 x.record,.int .u16 x.count,.slice Ax x.words.length cx] fun g158 w159 hg160 B161 hu162=>?_
 have U163:=ut0 U154 hu162
 have r164:=RdW.updl hrd U163 hJ.hl rfl
 have ol165:=lit1 (R:=recR true) (x:=(Rec.mk x.file x.record x.count x.words)) B161 rfl ⟨_,rfl,r164,b16 (by omega),b16 (by omega),b16 (by omega)⟩
 have r166:=own_stay hJ.ho U163 (fun x hx=>(not_cons (fun e=>(not_old (blk_lt hB105) lr hJ.ho) (e ▸ hx)) not0)) (recR.updl U163 hJ.hl rfl)
 refine R0f<|Oappg (xs:=L) (ys:=([(Rec.mk x.file x.record x.count x.words)])) (.agg #[.int .u16 0,.int .u16 0,.int .u16 0,.slice none 0 0]) 4 32 r166 ol165 (by simp) recR.ones (fun w' hv=>recR.upd16 hv (safe_app (ob_safe _ r166 (by decide)) safe0)) (by (try simp only [List.length_append,List.length_cons,List.length_nil,putW_length]); omega) (le (le (le (le hJ.u.size hu145.size) hu148.size) hu151.size) hu162.size) fun A167 cp168 w169 ho170 hu171=>Rpf<|?_
 have U174:=ut (Upd.mono (S':=(ob Ar++[])) hu162 all0) hu171 (all_app (fun x hx=>Or.inl (by simp [hx])) all0)
 have r175:=Upd.blk U174 (not_app (not_old (blk_lt r138) lr hJ.ho) not0) r155
 refine R0f<|Ost r175 15 (mG 21 0 0 0 0 0 0 0 0 0 0 0 nS nS nS (.slice A167 ((L++[(Rec.mk x.file x.record x.count x.words)]).length) cp168) 0 0 0 0 0 nS) fun w176 B177 hu178=>fnl<|bn<|?_
 have U182:=u1 (Upd.mono (S':=(ob Ar++(g73 :: []))) U174 (all_app (fun x hx=>Or.inl (by simp [hx])) all0)) hu178 im
 have r183:=Upd.blk U182 (not_app (not_old (blk_lt hB105) lr hJ.ho) (not_cons (Ne.symm ne112) not0)) hB150
 refine gr2 r183 fun w179 hB180 hu181=>?_
 have U184:=ut (Upd.mono (S':=[g69,gs18,g73,l99]) (Upd.refl [] _) all0) hJ.u (ac im (ac im (ac im (ac im all0))))
 have U185:=ut0 U184 hu145
 have U186:=u1 U185 hu148 (ni U184.size hg143)
 have U187:=u1 U186 hu151 im
 have U188:=ut0 U187 hu162
 have U189:=ut U188 hu171 (all_app (ob_new hJ.ho lr) all0)
 have U190:=u1 U189 hu178 im
 have U191:=u1 U190 hu181 im
 have U192:=ut (Upd.mono (S':=(l99 :: (ob Ar++[]))) U163 (ac im all0)) hu171 (all_app (fun x hx=>Or.inl (by simp [hx])) all0)
 have U193:=u1 (Upd.mono (S':=(l99 :: (ob Ar++(g73 :: [])))) U192 (ac im (all_app (fun x hx=>Or.inl (by simp [hx])) all0))) hu178 im
 have U194:=u1 U193 hu181 im
 have r195:=CurAt.updl hJ.hC U163 (not_cons ne109 not0) hJ.hl rfl
 have r196:=CurAt.upd r195 hu171 (not_app (not_old (CurAt.lt r124) lr hJ.ho) not0) (safe_app (ob_safe _ r166 (by decide)) safe0)
 have r197:=CurAt.upd r196 hu178 (not_cons ne108 not0) (safe_cons (safe1 r175 (by decide)) safe0)
 have r198:=CurAt.updl r197 hu181 (not_cons ne109 not0) r183 rfl
 have r199:=Upd.blk U194 (not_cons ne111 (not_app (not_old (blk_lt r136) lr hJ.ho) (not_cons ne110 not0))) hJ.hS
 have r200:=ub1 hu181 ne112 B177
 have U201:=u1 (Upd.mono (S':=[g73,l99]) hu178 (ac im all0)) hu181 im
 have r202:=own_stay ho170 hu178 (fun x hx=>(not_cons (fun e=>(not_old (blk_lt r138) lr ho170) (e ▸ hx)) not0)) (recR.upd16 hu178 (safe_cons (safe1 r175 (by decide)) safe0))
 have r203:=own_stay r202 hu181 (fun x hx=>(not_cons (fun e=>(not_old (blk_lt hB105) lr ho170) (e ▸ hx)) not0)) (recR.updl hu181 r183 rfl)
 exact ⟨by trivial,(le (le (le (le (le (le hu145.size hu148.size) hu151.size) hu162.size) hu171.size) hu178.size) hu181.size),A167,cp168,⟨U191,r198,r199,r200,r203,hB180⟩⟩
 rintro _ w204 ⟨rfl,s205,A206,cp207,hJ208⟩
 refine ⟨_,_,rfl,hJ208.hl,by simp [loopR],by trivial,fun w209 hu210=>?_⟩
 refine ab hJ208.hC fun x211 ex212 hc213=>?_
 have hm214:w204.heap[g73]? = some (.cells #[.int .u8 21,.int .u8 0,.int .u16 0,.int .u16 0,.int .u16 0,.int .u16 0,.int .u16 0,.int .u16 0,.int .u16 0,.int .u16 0,.int .u16 0,.int .u16 0,.slice none 0 0,.slice none 0 0,.slice none 0 0,.slice A206 ((recsR wrtO (Cur.mk (x51.bytesR ((Cur.mk b false 0).byteV)) false 0).l.length 0 (Cur.mk (x51.bytesR ((Cur.mk b false 0).byteV)) false 0) []).2.length) cp207,.int .u8 0,.int .u8 0,.int .u8 0,.int .u8 0,.int .u8 0,.slice none 0 0] 31 (0,0)):=hJ208.hm
 refine bn<|tn<|sg<|Pl 2<|?_
 have r215:=CurAt.updl hc213 hu210 (not_cons ne109 not0) hJ208.hl rfl
 refine L0<|Oc<|mq (err_any r215)<|?_
 have hl216:=CurAt.len r215
 refine Pl 2<|L0<|Oc<|mq (err_any r215)<|?_
 have hl217:=CurAt.len r215
 refine L0<|Oc<|m1 (within_err (e:=x211.e)) fun w218 hu219=>?_
 have U220:=ut0 hu72 hu77
 have U221:=u1 U220 hu80 (ni hu72.size hg75)
 have U222:=ut0 U221 hu96
 have U223:=ut0 U222 hu106
 have U224:=ut (Upd.mono (S':=[gs18]) U223 all0) hJ208.u (ac (nr hg70) (ac im (ac (ni hu72.size hg75) (ac (ni U222.size hg102) all0))))
 have U225:=u1 U224 hu210 (ni U222.size hg102)
 have U226:=ut0 U225 hu219
 have ne227:=nb (blk_lt hB20) U125.size hg36
 have r228:=ub U130 hB20
 have r229:=CurAt.upd hc62 U226 (not_cons (Ne.symm ne227) not0) (safe_cons (safe1 r228 (by decide)) safe0)
 refine L0<|Oc<|m2 (need_any ((x211.e == 0)) (withinE x211.e) r229) fun w230 hc231 hu232=>?_
 refine ab hc231 fun x233 ex234 hc235=>?_
 refine ng<|Pl 1<|L0<|Oc<|m2 (end_any hc235) fun w236 hc237 hu238=>nt<|sq<|sg<|Pl 1<|L0<|Oc<|mq (err_any hc237)<|?_
 have hl239:=CurAt.len hc237
 refine Pl 1<|ng<|Pl 2<|nt<|?_
 have U240:=ut0 U32 hu38
 have U241:=u1 U240 hu41 (ni U32.size hg36)
 have U242:=ut0 U241 hu46
 have U243:=u1 U242 hu50 (ni U32.size hg36)
 have U244:=u1 U243 hu58 (ni U32.size hg36)
 have U245:=ut0 U244 hu72
 have U246:=ut0 U245 hu77
 have U247:=u1 U246 hu80 (ni U245.size hg75)
 have U248:=ut0 U247 hu96
 have U249:=ut0 U248 hu106
 have U250:=ut U249 hJ208.u (ac (ni U244.size hg70) (ac (ni hu14.size hg19) (ac (ni U245.size hg75) (ac (ni U248.size hg102) all0))))
 have U251:=u1 U250 hu210 (ni U248.size hg102)
 have U252:=ut0 U251 hu219
 have U253:=u1 U252 hu232 (ni U32.size hg36)
 have U254:=u1 U253 hu238 (ni U32.size hg36)
 refine cb ((x233.endC.e != 0)) (fun q255=>?_) (fun q255=>?_)
 have q255p:=ne_of_bnei q255
 refine sg<|Pl 2<|?_
 have U256:=ut0 hu21 hu26
 have U257:=u1 U256 hu29 (ni hu21.size hg24)
 have U258:=ut0 U257 hu38
 have U259:=u1 U258 hu41 (ni U257.size hg36)
 have U260:=ut0 U259 hu46
 have U261:=u1 U260 hu50 (ni U257.size hg36)
 have U262:=u1 U261 hu58 (ni U257.size hg36)
 have U263:=ut0 U262 hu72
 have U264:=ut0 U263 hu77
 have U265:=u1 U264 hu80 (ni U263.size hg75)
 have U266:=ut0 U265 hu96
 have U267:=ut0 U266 hu106
 have U268:=ut U267 hJ208.u (ac (ni U262.size hg70) (ac (nr hg19) (ac (ni U263.size hg75) (ac (ni U266.size hg102) all0))))
 have U269:=u1 U268 hu210 (ni U266.size hg102)
 have U270:=ut0 U269 hu219
 have U271:=u1 U270 hu232 (ni U257.size hg36)
 have U272:=u1 U271 hu238 (ni U257.size hg36)
 have r273:=ub U272 B13
 refine L0<|Osw r273 mZ fun w274 B275 hu276=>Pl 1<|nt<|rt<|tr<|?_
 have U279:=u1 hJ208.u hu210 im
 have U280:=ut0 U279 hu219
 have U281:=u1 (Upd.mono (S':=[g69,gs18,g73,l99,g35]) U280 (ac im (ac im (ac im (ac im all0))))) hu232 im
 have U282:=u1 U281 hu238 im
 have U283:=u1 (Upd.mono (S':=[g69,gs18,g73,l99,g35,g10]) U282 (ac im (ac im (ac im (ac im (ac im all0)))))) hu276 im
 have ne284:=nb (blk_lt B13) U266.size hg101
 have ne285:=nb (CurAt.lt hc37) (le (le (le (le (le (le (le hu41.size hu46.size) hu50.size) hu58.size) hu72.size) hu77.size) hu80.size) hu96.size) hg101
 have ne286:=nb (blk_lt B76) (le hu80.size hu96.size) hg101
 have ne287:=nb (blk_lt hB20) U134.size hg101
 have ne288:=nb (CurAt.lt hc71) U122.size hg101
 have r289:=Upd.blk U283 (not_cons (Ne.symm ne288) (not_cons (Ne.symm ne287) (not_cons (Ne.symm ne286) (not_cons hn103 (not_cons (Ne.symm ne285) (not_cons (Ne.symm ne284) not0)))))) hB104
 refine rmd r289 fun w277 hu278=>?_
 have r290:=ub1 hu278 ne284 B275
 refine rx r290 (.int .i64 x233.endC.e)<|?_
 subst ex234 ex212 ex61 ex52
 have U291:=u1 U254 hu276 (nr hg12)
 have U292:=u1 U291 hu278 (ni U248.size hg101)
 have U293:=ut0 hu210 hu219
 have U294:=u1 (Upd.mono (S':=[l99,g35]) U293 (ac im all0)) hu232 im
 have U295:=u1 U294 hu238 im
 have U296:=u1 (Upd.mono (S':=[l99,g35,g10]) U295 (ac im (ac im all0))) hu276 im
 have U297:=u1 (Upd.mono (S':=[l99,g35,g10,D98]) U296 (ac im (ac im (ac im all0)))) hu278 im
 have r298:=ub U268 B13
 have r299:=CurAt.upd hc62 U224 (not_cons (Ne.symm ne227) not0) (safe_cons (safe1 r228 (by decide)) safe0)
 have r300:=own_stay hJ208.ho U293 (fun x hx=>(not_cons (fun e=>(not_old (blk_lt hB105) lr hJ208.ho) (e ▸ hx)) not0)) (recR.updl U293 hJ208.hl rfl)
 have r301:=own_stay r300 hu232 (fun x hx=>(not_cons (fun e=>(not_old (CurAt.lt hc37) (le (le (le (le (le (le (le (le hu41.size hu46.size) hu50.size) hu58.size) hu72.size) hu77.size) hu80.size) hu96.size) hu106.size) hJ208.ho) (e ▸ hx)) not0)) (recR.upd16 hu232 (safe_cons (CurAt.safe r229 _ (by decide)) safe0))
 have r302:=own_stay r301 hu238 (fun x hx=>(not_cons (fun e=>(not_old (CurAt.lt hc37) (le (le (le (le (le (le (le (le hu41.size hu46.size) hu50.size) hu58.size) hu72.size) hu77.size) hu80.size) hu96.size) hu106.size) hJ208.ho) (e ▸ hx)) not0)) (recR.upd16 hu238 (safe_cons (CurAt.safe hc235 _ (by decide)) safe0))
 have r303:=own_stay r302 hu276 (fun x hx=>(not_cons (fun e=>(not_old (blk_lt B13) U267.size hJ208.ho) (e ▸ hx)) not0)) (recR.upd16 hu276 (safe_cons (safe1 r273 (by decide)) safe0))
 have r304:=own_stay r303 hu278 (fun x hx=>(not_cons (fun e=>(not_old (blk_lt hB104) lr hJ208.ho) (e ▸ hx)) not0)) (recR.updl hu278 r289 rfl)
 have hs:parseOf filesForm dir 21 b=finish (Msg.mk 21 0 0 0 0 0 0 0 0 0 0 0 [] [] [] (recsR wrtO (Cur.mk ((((Cur.mk b false 0).bytesC 1).need (mayW ((Cur.mk b false 0).byteV)) 5).bytesR ((Cur.mk b false 0).byteV)) false 0).l.length 0 (Cur.mk ((((Cur.mk b false 0).bytesC 1).need (mayW ((Cur.mk b false 0).byteV)) 5).bytesR ((Cur.mk b false 0).byteV)) false 0) []).2 0 0 0 0 0 []) (((((Cur.mk b false 0).bytesC 1).need (mayW ((Cur.mk b false 0).byteV)) 5).bytesC ((Cur.mk b false 0).byteV)).need (((recsR wrtO (Cur.mk ((((Cur.mk b false 0).bytesC 1).need (mayW ((Cur.mk b false 0).byteV)) 5).bytesR ((Cur.mk b false 0).byteV)) false 0).l.length 0 (Cur.mk ((((Cur.mk b false 0).bytesC 1).need (mayW ((Cur.mk b false 0).byteV)) 5).bytesR ((Cur.mk b false 0).byteV)) false 0) []).1).e == 0) (withinE ((recsR wrtO (Cur.mk ((((Cur.mk b false 0).bytesC 1).need (mayW ((Cur.mk b false 0).byteV)) 5).bytesR ((Cur.mk b false 0).byteV)) false 0).l.length 0 (Cur.mk ((((Cur.mk b false 0).bytesC 1).need (mayW ((Cur.mk b false 0).byteV)) 5).bytesR ((Cur.mk b false 0).byteV)) false 0) []).1).e)):=by
   unfold parseOf filesForm filesR flR flB fl1
   (try simp only [e01,q255,bs,if_true,if_false,decide_true,decide_false,eq_self,true_or,or_true,or_false,false_or,if_true,if_false,i00,i01,i10,i11,reduceIte,i2020,i2120,i2121,if_pos hd])
   all_goals rfl
 rw [hs]
 exact finish_bad q255p U292
 have q255p:=eq_of_bnei q255
 refine skn<|sg<|?_
 have U305:=ut0 hu210 hu219
 have U306:=u1 (Upd.mono (S':=[l99,g35]) U305 (ac im all0)) hu232 im
 have U307:=u1 U306 hu238 im
 have ne308:=nb (CurAt.lt hc37) (le (le (le (le hu41.size hu46.size) hu50.size) hu58.size) hu72.size) hg75
 have r309:=Upd.blk U307 (not_cons ne112 (not_cons (Ne.symm ne308) not0)) hm214
 refine L0<|Olw r309<|?_
 have U310:=ut0 hu21 hu26
 have U311:=u1 U310 hu29 (ni hu21.size hg24)
 have U312:=ut0 U311 hu38
 have U313:=u1 U312 hu41 (ni U311.size hg36)
 have U314:=ut0 U313 hu46
 have U315:=u1 U314 hu50 (ni U311.size hg36)
 have U316:=u1 U315 hu58 (ni U311.size hg36)
 have U317:=ut0 U316 hu72
 have U318:=ut0 U317 hu77
 have U319:=u1 U318 hu80 (ni U317.size hg75)
 have U320:=ut0 U319 hu96
 have U321:=ut0 U320 hu106
 have U322:=ut U321 hJ208.u (ac (ni U316.size hg70) (ac (nr hg19) (ac (ni U317.size hg75) (ac (ni U320.size hg102) all0))))
 have U323:=u1 U322 hu210 (ni U320.size hg102)
 have U324:=ut0 U323 hu219
 have U325:=u1 U324 hu232 (ni U311.size hg36)
 have U326:=u1 U325 hu238 (ni U311.size hg36)
 have r327:=ub U326 B13
 refine L0<|Osw r327 (mG 21 0 0 0 0 0 0 0 0 0 0 0 nS nS nS (.slice A206 ((recsR wrtO (Cur.mk (x51.bytesR ((Cur.mk b false 0).byteV)) false 0).l.length 0 (Cur.mk (x51.bytesR ((Cur.mk b false 0).byteV)) false 0) []).2.length) cp207) 0 0 0 0 0 nS) fun w328 B329 hu330=>Pl 1<|nt<|rt<|?_
 have U333:=u1 hJ208.u hu210 im
 have U334:=ut0 U333 hu219
 have U335:=u1 (Upd.mono (S':=[g69,gs18,g73,l99,g35]) U334 (ac im (ac im (ac im (ac im all0))))) hu232 im
 have U336:=u1 U335 hu238 im
 have U337:=u1 (Upd.mono (S':=[g69,gs18,g73,l99,g35,g10]) U336 (ac im (ac im (ac im (ac im (ac im all0)))))) hu330 im
 have ne338:=nb (blk_lt B13) U320.size hg101
 have ne339:=nb (CurAt.lt hc37) (le (le (le (le (le (le (le hu41.size hu46.size) hu50.size) hu58.size) hu72.size) hu77.size) hu80.size) hu96.size) hg101
 have ne340:=nb (blk_lt B76) (le hu80.size hu96.size) hg101
 have ne341:=nb (blk_lt hB20) U134.size hg101
 have ne342:=nb (CurAt.lt hc71) U122.size hg101
 have r343:=Upd.blk U337 (not_cons (Ne.symm ne342) (not_cons (Ne.symm ne341) (not_cons (Ne.symm ne340) (not_cons hn103 (not_cons (Ne.symm ne339) (not_cons (Ne.symm ne338) not0)))))) hB104
 refine rmd r343 fun w331 hu332=>?_
 have r344:=ub1 hu332 ne338 B329
 refine rx r344 (.int .i64 0)<|?_
 subst ex234 ex212 ex61 ex52
 have U345:=u1 U254 hu330 (nr hg12)
 have U346:=u1 U345 hu332 (ni U248.size hg101)
 have U347:=u1 (Upd.mono (S':=[l99,g35,g10]) U307 (ac im (ac im all0))) hu330 im
 have U348:=u1 (Upd.mono (S':=[l99,g35,g10,D98]) U347 (ac im (ac im (ac im all0)))) hu332 im
 have r349:=ub U322 B13
 have r350:=CurAt.upd hc62 U224 (not_cons (Ne.symm ne227) not0) (safe_cons (safe1 r228 (by decide)) safe0)
 have r351:=own_stay hJ208.ho U305 (fun x hx=>(not_cons (fun e=>(not_old (blk_lt hB105) lr hJ208.ho) (e ▸ hx)) not0)) (recR.updl U305 hJ208.hl rfl)
 have r352:=own_stay r351 hu232 (fun x hx=>(not_cons (fun e=>(not_old (CurAt.lt hc37) (le (le (le (le (le (le (le (le hu41.size hu46.size) hu50.size) hu58.size) hu72.size) hu77.size) hu80.size) hu96.size) hu106.size) hJ208.ho) (e ▸ hx)) not0)) (recR.upd16 hu232 (safe_cons (CurAt.safe r229 _ (by decide)) safe0))
 have r353:=own_stay r352 hu238 (fun x hx=>(not_cons (fun e=>(not_old (CurAt.lt hc37) (le (le (le (le (le (le (le (le hu41.size hu46.size) hu50.size) hu58.size) hu72.size) hu77.size) hu80.size) hu96.size) hu106.size) hJ208.ho) (e ▸ hx)) not0)) (recR.upd16 hu238 (safe_cons (CurAt.safe hc235 _ (by decide)) safe0))
 have r354:=own_stay r353 hu330 (fun x hx=>(not_cons (fun e=>(not_old (blk_lt B13) U321.size hJ208.ho) (e ▸ hx)) not0)) (recR.upd16 hu330 (safe_cons (safe1 r327 (by decide)) safe0))
 have r355:=own_stay r354 hu332 (fun x hx=>(not_cons (fun e=>(not_old (blk_lt hB104) lr hJ208.ho) (e ▸ hx)) not0)) (recR.updl hu332 r343 rfl)
 have hs:parseOf filesForm dir 21 b=finish (Msg.mk 21 0 0 0 0 0 0 0 0 0 0 0 [] [] [] (recsR wrtO (Cur.mk ((((Cur.mk b false 0).bytesC 1).need (mayW ((Cur.mk b false 0).byteV)) 5).bytesR ((Cur.mk b false 0).byteV)) false 0).l.length 0 (Cur.mk ((((Cur.mk b false 0).bytesC 1).need (mayW ((Cur.mk b false 0).byteV)) 5).bytesR ((Cur.mk b false 0).byteV)) false 0) []).2 0 0 0 0 0 []) (((((Cur.mk b false 0).bytesC 1).need (mayW ((Cur.mk b false 0).byteV)) 5).bytesC ((Cur.mk b false 0).byteV)).need (((recsR wrtO (Cur.mk ((((Cur.mk b false 0).bytesC 1).need (mayW ((Cur.mk b false 0).byteV)) 5).bytesR ((Cur.mk b false 0).byteV)) false 0).l.length 0 (Cur.mk ((((Cur.mk b false 0).bytesC 1).need (mayW ((Cur.mk b false 0).byteV)) 5).bytesR ((Cur.mk b false 0).byteV)) false 0) []).1).e == 0) (withinE ((recsR wrtO (Cur.mk ((((Cur.mk b false 0).bytesC 1).need (mayW ((Cur.mk b false 0).byteV)) 5).bytesR ((Cur.mk b false 0).byteV)) false 0).l.length 0 (Cur.mk ((((Cur.mk b false 0).bytesC 1).need (mayW ((Cur.mk b false 0).byteV)) 5).bytesR ((Cur.mk b false 0).byteV)) false 0) []).1).e)):=by
   unfold parseOf filesForm filesR flR flB fl1
   (try simp only [e01,q255,bs,if_true,if_false,decide_true,decide_false,eq_self,true_or,or_true,or_false,false_or,if_true,if_false,i00,i01,i10,i11,reduceIte,i2020,i2120,i2121,if_pos hd])
   all_goals rfl
 rw [hs]
 exact finish_ok q255p ⟨_,_,_,_,_,rfl,RdG.nil ..,RdG.nil ..,RdG.nil ..,(r355).rd,RdG.nil ..,⟨(b8 (x:=21) (by omega)),(b8 (x:=0) (by omega)),(b16 (x:=0) (by omega)),(b16 (x:=0) (by omega)),(b16 (x:=0) (by omega)),(b16 (x:=0) (by omega)),(b16 (x:=0) (by omega)),(b16 (x:=0) (by omega)),(b16 (x:=0) (by omega)),(b16 (x:=0) (by omega)),(b16 (x:=0) (by omega)),(b16 (x:=0) (by omega)),(b8 (x:=0) (by omega)),(b8 (x:=0) (by omega)),(b8 (x:=0) (by omega)),(b8 (x:=0) (by omega)),(b8 (x:=0) (by omega))⟩⟩ U346
set_option maxRecDepth 100000 in
set_option maxHeartbeats 4000000 in
theorem files_pn0 {A:Option Addr} {cp:Nat} {b:List Int} {w:World} {c:Int} (n1:(c == 20)=false) (n2:(c == 21)=false) : Calls Tryz.prog 64 #[.int .i64 0,.int .u8 c,.slice A b.length cp] w (PMsg (parseOf filesForm 0 c b) w):=by
 refine enm 77 Tryz.func64 rfl<|sg<|L0<|Oal mZ fun g10 w11 hg12 B13 hu14=>Pl 1<|nt<|sq<|sg<|Pl 6<|nt<|c0<|?_
 refine skn<|sg<|Pl 2<|L0<|Oc (args:=#[.int .i64 0,.int .u8 c])<|m1 (rules_no (dir:=0) (x:=c) n1 n2) fun w15 hu16=>Pl 3<|L0<|Oal #[.nilFunc,.nilFunc] fun g17 w18 hg19 B20 hu21=>L0<|Osw B20 #[.nilFunc,.nilFunc] fun w22 B23 hu24=>Pl 1<|nt<|sq<|sq<|?_
 refine go<|Pl 2<|nt<|c1<|sg<|Pl 1<|?_
 have U25:=ut0 hu16 hu21
 have U26:=u1 U25 hu24 (ni hu16.size hg19)
 have r27:=ub U26 B13
 refine L0<|Osw r27 mZ fun w28 B29 hu30=>Pl 1<|nt<|rt<|tr<|ry B29 (.int .i64 4)<|?_
 have U33:=ut0 hu14 hu16
 have U34:=ut0 U33 hu21
 have U35:=u1 U34 hu24 (ni U33.size hg19)
 have U36:=u1 U35 hu30 (nr hg12)
 have hs:parseOf filesForm 0 c b=(Msg.zero,4):=by
   unfold parseOf filesForm 
   (try simp only [bs,if_true,if_false,decide_true,decide_false,eq_self,true_or,or_true,or_false,false_or,if_true,if_false,i00,i01,i10,i11,reduceIte,n1,n2])
   all_goals rfl
 rw [hs]
 exact bad_res U36
set_option maxRecDepth 100000 in
set_option maxHeartbeats 4000000 in
theorem files_pn1 {A:Option Addr} {cp:Nat} {b:List Int} {w:World} {c:Int} (n1:(c == 20)=false) (n2:(c == 21)=false) : Calls Tryz.prog 64 #[.int .i64 1,.int .u8 c,.slice A b.length cp] w (PMsg (parseOf filesForm 1 c b) w):=by
 refine enm 77 Tryz.func64 rfl<|sg<|L0<|Oal mZ fun g10 w11 hg12 B13 hu14=>Pl 1<|nt<|sq<|sg<|Pl 6<|nt<|c0<|?_
 refine skn<|sg<|Pl 2<|L0<|Oc (args:=#[.int .i64 1,.int .u8 c])<|m1 (rules_no (dir:=1) (x:=c) n1 n2) fun w15 hu16=>Pl 3<|L0<|Oal #[.nilFunc,.nilFunc] fun g17 w18 hg19 B20 hu21=>L0<|Osw B20 #[.nilFunc,.nilFunc] fun w22 B23 hu24=>Pl 1<|nt<|sq<|sq<|?_
 refine go<|Pl 2<|nt<|c1<|sg<|Pl 1<|?_
 have U25:=ut0 hu16 hu21
 have U26:=u1 U25 hu24 (ni hu16.size hg19)
 have r27:=ub U26 B13
 refine L0<|Osw r27 mZ fun w28 B29 hu30=>Pl 1<|nt<|rt<|tr<|ry B29 (.int .i64 4)<|?_
 have U33:=ut0 hu14 hu16
 have U34:=ut0 U33 hu21
 have U35:=u1 U34 hu24 (ni U33.size hg19)
 have U36:=u1 U35 hu30 (nr hg12)
 have hs:parseOf filesForm 1 c b=(Msg.zero,4):=by
   unfold parseOf filesForm 
   (try simp only [bs,if_true,if_false,decide_true,decide_false,eq_self,true_or,or_true,or_false,false_or,if_true,if_false,i00,i01,i10,i11,reduceIte,n1,n2])
   all_goals rfl
 rw [hs]
 exact bad_res U36
set_option maxRecDepth 100000 in
set_option maxHeartbeats 4000000 in
theorem files_pnx {A:Option Addr} {cp:Nat} {b:List Int} {w:World} {dir c:Int} (hd:¬ (dir=0∨dir=1)) : Calls Tryz.prog 64 #[.int .i64 dir,.int .u8 c,.slice A b.length cp] w (PMsg (parseOf filesForm dir c b) w):=by
 have e0:(dir != 0)=true:=by simp; omega
 have e1:(dir != 1)=true:=by simp; omega
 refine enm 77 Tryz.func64 rfl<|sg<|L0<|Oal mZ fun g10 w11 hg12 B13 hu14=>Pl 1<|nt<|sq<|sg<|Pl 3<|sy 18 e0<|Pl 3<|nl<|?_
 refine tn<|ct e1<|sg<|Pl 1<|L0<|Osw B13 mZ fun w15 B16 hu17=>Pl 1<|nt<|rt<|tr<|ry B16 (.int .i64 1)<|?_
 have U20:=u1 hu14 hu17 (nr hg12)
 have hs:parseOf filesForm dir c b=(Msg.zero,1):=by
   unfold parseOf filesForm 
   (try simp only [e0,e1,bs,if_true,if_false,decide_true,decide_false,eq_self,true_or,or_true,or_false,false_or,if_true,if_false,i00,i01,i10,i11,reduceIte,hd])
   all_goals rfl
 rw [hs]
 exact bad_res U20
theorem files_parse {m:Bool} {v:Value} {b:List Int} {w:World} {dir c:Int} (hc:B8 c) (h:RdB m w v b) (hb:b.length≤1048576) :
    Calls Tryz.prog 64 #[.int .i64 dir,.int .u8 c,v] w (PMsg (parseOf filesForm dir c b) w):=by
  obtain ⟨A,cp,rfl,_,_⟩:=h.shape
  by_cases h0:dir=0
  · subst h0
    by_cases h20:c=20
    · subst h20; exact files_p20_0 (Or.inl (rfl:(0:Int)=0)) h hb
    by_cases h21:c=21
    · subst h21; exact files_p21 (Or.inl rfl) h hb
    exact files_pn0 (by simpa using h20) (by simpa using h21)
  by_cases h1:dir=1
  · subst h1
    by_cases h20:c=20
    · subst h20; exact files_p20_1 (Or.inl (rfl:(0:Int)=0)) h hb
    by_cases h21:c=21
    · subst h21; exact files_p21 (Or.inr rfl) h hb
    exact files_pn1 (by simpa using h20) (by simpa using h21)
  exact files_pnx (by omega)
open Go.RowKit
def PWrite (res:Option (List Int)) (w:World) (e:Ending) (w':World) : Prop :=
  match res with
  | some l=>∃ v,e = .returned (.tuple #[v,.int .i64 0])∧OwnB w.heap.size w' v l∧Upd [] w w'
  | none=>e = .returned (.tuple #[.slice none 0 0,.int .i64 1])∧Upd [] w w'
def writeOf (parse:Int→Int→List Int→Msg × Int) (lay:Int→Msg→List Int) (dir:Int) (M:Msg) : Option (List Int) :=
  if parse dir M.code (lay dir M)=(M,0) then some (lay dir M) else none
def parseCoils:=parseOf coilsForm
def parseRegs:=parseOf regsForm
def parseDiag:=parseOf diagForm
def parseMei:=parseOf meiForm
def parseFiles:=parseOf filesForm
open Go.RowKit
def refW (M:Msg) : Option (List Int):=if !(pairB M.code M.fail) then none else if !(decide (M=refM M.code M.fail)) then none else some [(M.code + 128) % 256,M.fail]
theorem ns_eq {x y:Option (List Int)} (h:x=y) {w:World} {e:Ending} {w':World} (k:PWrite y w e w') : PWrite x w e w':=by rw [h]; exact k
set_option maxRecDepth 100000 in
set_option maxHeartbeats 4000000 in
theorem ref_write {m:Bool} {cs:Array Value} {M:Msg} {w:World} (h:MsgRd m w cs.toList M) : Calls Tryz.prog 51 #[.agg cs] w (PWrite (refW M) w):=by
 have hM:=h
 obtain ⟨vw,vb,vd,vr,vo,h0,hw,hbt,hd,hr,ho,hR⟩:=h
 obtain rfl:cs=(msgCells M vw vb vd vr vo).toArray:=by apply Array.toList_inj.1; simpa using h0
 clear h0
 obtain ⟨Aw,kw,rfl,_,_⟩:=hw.shape
 obtain ⟨Ab,kb,rfl,_,_⟩:=hbt.shape
 obtain ⟨Ad,kd,rfl,_,_⟩:=hd.shape
 obtain ⟨Ar,kr,rfl,_,_⟩:=hr.shape
 obtain ⟨Ao,ko,rfl,_,_⟩:=ho.shape
 obtain ⟨q0,q1,q2,q3,q4,q5,q6,q7,q8,q9,q10,q11,q16,q17,q18,q19,q20⟩:=hR
 simp only [B8,B16] at q0 q1 q2 q3 q4 q5 q6 q7 q8 q9 q10 q11 q16 q17 q18 q19 q20
 refine en 26 Tryz.func51 rfl<|sg<|L0<|Obx (mG M.code M.fail M.addr M.count M.value M.and_ M.or_ M.addr2 M.sub M.status M.events M.messages (.slice Aw M.words.length kw) (.slice Ab M.bits.length kb) (.slice Ad M.data.length kd) (.slice Ar M.recs.length kr) M.mei M.kind M.level M.more M.next (.slice Ao M.objects.length ko)) fun g10 w11 hg12 B13 hu14=>Pl 2<|ng<|Pl 1<|L0<|Olb B13 0<|Pl 1<|L0<|Olb B13 1<|Pl 1<|L0<|Oal #[.int .u8 0,.int .u8 0] fun g15 w16 hg17 B18 hu19=>?_
 refine L0<|Osw B18 #[.int .u8 M.code,.int .u8 M.fail] fun w20 B21 hu22=>nt<|sq<|sq<|Rg 10 (fun w'=>w'.heap[g15]? = some (.cells #[.int .u8 M.code,.int .u8 M.fail] 134 (0,0))∧w'.heap[g10]? = some (.cells (mG M.code M.fail M.addr M.count M.value M.and_ M.or_ M.addr2 M.sub M.status M.events M.messages (.slice Aw M.words.length kw) (.slice Ab M.bits.length kb) (.slice Ad M.data.length kd) (.slice Ar M.recs.length kr) M.mei M.kind M.level M.more M.next (.slice Ao M.objects.length ko)) 31 (0,0))) fun w35 hu36=>?_
 have r38:=ub hu36 B21
 have U39:=u1 hu19 hu22 (nr hg17)
 have U40:=ut0 U39 hu36
 have r41:=ub U40 B13
 refine hld ⟨r38,r41⟩ fun hS37=>Rr 0 hS37 (.agg #[.int .u8 M.code,.int .u8 M.fail]) (fun w' hs=>lda_o (g:=g15) (off:=0) [.int .u8 M.code,.int .u8 M.fail] rfl (by kernel_rfl) hs.1 (by kernel_rfl) (by kernel_rfl) rfl)<|R0 1 rfl<|Oc<|m1 (right_any (a:=M.code) (b:=M.fail) (w:=_)) fun w42 hu43=>?_
 have r45:=ub hu43 r38
 have r46:=ub hu43 r41
 refine hld ⟨r45,r46⟩ fun hS44=>Rt 2 hS44<|Rt 3 hS44<|?_
 have U47:=ut0 hu14 hu19
 have U48:=u1 U47 hu22 (ni hu14.size hg17)
 have U49:=ut0 U48 hu36
 have U50:=ut0 U49 hu43
 refine bla 13 ((!(pairB M.code M.fail))) (fun q51=>?_) (fun q51=>?_)
 have q51n:(pairB M.code M.fail)=false:=by simpa using q51
 refine Ro 4 hS44<|Ro 5 hS44<|Ro 6 hS44<|Ro 7 hS44<|Ro 8 hS44<|Rt 9 hS44<|re<|tn<|c1<|sg<|Pl 2<|nt<|?_
 refine rt<|tr<|rr (.tuple #[.slice none 0 0,.int .i64 1])<|?_
 have hs:refW M=none:=by
   unfold refW
   (try simp only [q51,q51n,bs,if_true,if_false,decide_true,decide_false,reduceIte])
   all_goals rfl
 refine ns_eq hs ?_
 exact ⟨rfl,U50⟩
 have q51n:(pairB M.code M.fail)=true:=by simpa using q51
 refine Rr 4 hS44 (.agg (mG M.code M.fail M.addr M.count M.value M.and_ M.or_ M.addr2 M.sub M.status M.events M.messages (.slice Aw M.words.length kw) (.slice Ab M.bits.length kb) (.slice Ad M.data.length kd) (.slice Ar M.recs.length kr) M.mei M.kind M.level M.more M.next (.slice Ao M.objects.length ko))) (fun w' hs=>lda_o (g:=g10) (off:=0) [.int .u8 M.code,.int .u8 M.fail,.int .u16 M.addr,.int .u16 M.count,.int .u16 M.value,.int .u16 M.and_,.int .u16 M.or_,.int .u16 M.addr2,.int .u16 M.sub,.int .u16 M.status,.int .u16 M.events,.int .u16 M.messages,.slice Aw M.words.length kw,.slice Ab M.bits.length kb,.slice Ad M.data.length kd,.slice Ar M.recs.length kr,.int .u8 M.mei,.int .u8 M.kind,.int .u8 M.level,.int .u8 M.more,.int .u8 M.next,.slice Ao M.objects.length ko] rfl (by kernel_rfl) hs.2 (by kernel_rfl) (by kernel_rfl) rfl)<|Rr 5 hS44 (.agg #[.int .u8 M.code,.int .u8 M.fail]) (fun w' hs=>lda_o (g:=g15) (off:=0) [.int .u8 M.code,.int .u8 M.fail] rfl (by kernel_rfl) hs.1 (by kernel_rfl) (by kernel_rfl) rfl)<|R0 6 rfl<|Oc<|m1 (pairof_any (a:=M.code) (b:=M.fail) (w:=_)) fun w52 hu53=>?_
 have r55:=ub hu53 r45
 have r56:=ub hu53 r46
 refine hld ⟨r55,r56⟩ fun hS54=>?_
 have U59:=ut0 U50 hu53
 have r60:=MsgRd.old hM U59
 refine R0 7 rfl<|Oc<|m1 (same_any (A:=M) (B:=refM M.code M.fail) r60 (show MsgRd true _ _ _ from ⟨_,_,_,_,_,rfl,RdG.nil ..,RdG.nil ..,RdG.nil ..,RdG.nil ..,RdG.nil ..,⟨(b8 (x:=M.code) (by omega)),(b8 (x:=M.fail) (by omega)),(b16 (x:=0) (by omega)),(b16 (x:=0) (by omega)),(b16 (x:=0) (by omega)),(b16 (x:=0) (by omega)),(b16 (x:=0) (by omega)),(b16 (x:=0) (by omega)),(b16 (x:=0) (by omega)),(b16 (x:=0) (by omega)),(b16 (x:=0) (by omega)),(b16 (x:=0) (by omega)),(b8 (x:=0) (by omega)),(b8 (x:=0) (by omega)),(b8 (x:=0) (by omega)),(b8 (x:=0) (by omega)),(b8 (x:=0) (by omega))⟩⟩)) fun w57 hu58=>?_
 have r62:=ub hu58 r55
 have r63:=ub hu58 r56
 refine hld ⟨r62,r63⟩ fun hS61=>Rt 8 hS61<|Rt 9 hS61<|re<|tn<|?_
 have U64:=ut0 U59 hu58
 refine cb ((!(decide (M=refM M.code M.fail)))) (fun q65=>?_) (fun q65=>?_)
 have q65n:(decide (M=refM M.code M.fail))=false:=by simpa using q65
 have q65np:=of_decide_eq_false q65n
 refine sg<|Pl 2<|nt<|rt<|tr<|rr (.tuple #[.slice none 0 0,.int .i64 1])<|?_
 have hs:refW M=none:=by
   unfold refW
   (try simp only [q51,q51n,q65,q65n,bs,if_true,if_false,decide_true,decide_false,reduceIte])
   all_goals rfl
 refine ns_eq hs ?_
 exact ⟨rfl,U64⟩
 have q65n:(decide (M=refM M.code M.fail))=true:=by simpa using q65
 have q65np:=of_decide_eq_true q65n
 refine skn<|sg<|Pl 1<|L0<|Olb r63 0<|Pl 2<|L0<|Olb r63 1<|L0<|Olt (m:=2) (e:=5) #[.int .u8 ((M.code + 128) % 256),.int .u8 M.fail] fun g66 w67 hg68 B69 hu70=>?_
 have ow71:=litB hg68 (xs:=[((M.code + 128) % 256),M.fail]) (by as_aux_lemma=>kernel_rfl) (rng_cons (by omega) (rng_cons (by omega) rng_nil)) (by (try simp only [List.length_cons,List.length_nil]); omega) B69
 refine Pl 2<|nt<|rt<|rr (.tuple #[.slice (some ⟨g66,0,none⟩) 2 2,.int .i64 0])<|?_
 have hs:refW M=(some [((M.code + 128) % 256),M.fail]):=by
   unfold refW
   (try simp only [q51,q51n,q65,q65n,bs,if_true,if_false,decide_true,decide_false,reduceIte])
   all_goals rfl
 refine ns_eq hs ?_
 have U72:=ut0 U64 hu70
 exact ⟨_,rfl,(OwnG.weaken ow71 U64.size),U72⟩
open Go.RowKit
def regsLay (dir:Int) (M:Msg) : List Int :=
  if (!(dir == 0)) && (M.code == 3 || M.code == 4 || M.code == 23) then [(2 * (M.words.length:Int)) % 256]++putW M.words
  else if M.code == 6 then putW [M.addr,M.value]
  else if M.code == 22 then putW [M.addr,M.and_,M.or_]
  else if M.code == 16 && dir == 0 then ((putW [M.addr,M.count]++[(2 * (M.words.length:Int)) % 256])++putW M.words)
  else if M.code == 23 then ((putW [M.addr,M.count,M.addr2,(M.words.length:Int) % 65536]++[(2 * (M.words.length:Int)) % 256])++putW M.words)
  else if M.code == 24 && dir == 0 then putW [M.addr]
  else if M.code == 24 then putW [(2 + 2 * (M.words.length:Int)) % 65536,(M.words.length:Int) % 65536]++putW M.words
  else putW [M.addr,M.count]
set_option maxRecDepth 100000 in
set_option maxHeartbeats 4000000 in
theorem regs_lay_t {m:Bool} {cs:Array Value} {M:Msg} {w:World} {dir:Int} (h:MsgRd m w cs.toList M) (hf:MsgFew M) (hd0:(dir == 0)=true) : Calls Tryz.prog 87 #[.int .i64 dir,.agg cs] w (PLay (regsLay dir M) w):=by
 obtain ⟨vw,vb,vd,vr,vo,h0,hw,hbt,hd,hr,ho,hR⟩:=h
 obtain rfl:cs=(msgCells M vw vb vd vr vo).toArray:=by apply Array.toList_inj.1; simpa using h0
 clear h0
 obtain ⟨Aw,kw,rfl,_,_⟩:=hw.shape
 obtain ⟨Ab,kb,rfl,_,_⟩:=hbt.shape
 obtain ⟨Ad,kd,rfl,_,_⟩:=hd.shape
 obtain ⟨Ar,kr,rfl,_,_⟩:=hr.shape
 obtain ⟨Ao,ko,rfl,_,_⟩:=ho.shape
 obtain ⟨q0,q1,q2,q3,q4,q5,q6,q7,q8,q9,q10,q11,q16,q17,q18,q19,q20⟩:=hR
 simp only [B8,B16] at q0 q1 q2 q3 q4 q5 q6 q7 q8 q9 q10 q11 q16 q17 q18 q19 q20
 have hf1:=hf.words
 have hf2:=hf.bits
 have hf3:=hf.data
 have hf4:=hf.recs
 have hf5:=hf.objects
 refine en 124 Tryz.func87 rfl<|sg<|L0<|Obx (mG M.code M.fail M.addr M.count M.value M.and_ M.or_ M.addr2 M.sub M.status M.events M.messages (.slice Aw M.words.length kw) (.slice Ab M.bits.length kb) (.slice Ad M.data.length kd) (.slice Ar M.recs.length kr) M.mei M.kind M.level M.more M.next (.slice Ao M.objects.length ko)) fun g10 w11 hg12 B13 hu14=>Pl 1<|ng<|Pl 1<|L0<|Olb B13 12<|Pl 2<|nt<|?_
 refine sg<|Pl 1<|L0<|Oi (2 * ((M.words.length:Nat) : Int))<|Pl 1<|L0<|Olt (m:=1) (e:=5) #[.int .u8 ((2 * ((M.words.length:Nat) : Int)) % 256)] fun g15 w16 hg17 B18 hu19=>?_
 have ow20:=litB hg17 (xs:=[((2 * ((M.words.length:Nat) : Int)) % 256)]) (by as_aux_lemma=>kernel_rfl) (rng_cons (by omega) rng_nil) (by (try simp only [List.length_cons,List.length_nil]); omega) B18
 refine Pl 1<|?_
 have r21:=ub hu19 B13
 refine L0<|Olb r21 12<|?_
 have U22:=ut0 hu14 hu19
 have r23:=RdW.old hw U22
 refine L0<|Oc<|so2 (put_any (xs:=M.words) r23 (by (try simp only [List.length_cons,List.length_nil]); omega)) fun A28 cp29 w24 rd32 hl30 hm31 hu27=>Pl 2<|ng<|Pl 3<|nt<|sq<|sg<|Pl 1<|?_
 have r33:=ub hu27 r21
 refine L0<|Olb r33 0<|Pl 1<|nt<|bk<|sg<|Pl 3<|?_
 have k34:(!(dir == 0))=false:=by simp only [hd0,Bool.not_true,Bool.not_false]
 refine sy 27 k34<|Pl 12<|nt<|c0<|sg<|Pl 3<|nt<|?_
 have U35:=ut0 U22 hu27
 refine cb ((M.code == 6)) (fun q36=>?_) (fun q36=>?_)
 have q36p:=eq_of_beqi q36
 refine sg<|Pl 1<|L0<|Olb r33 2<|Pl 1<|L0<|Olb r33 4<|L0<|Olt (m:=2) (e:=22) #[.int .u16 M.addr,.int .u16 M.value] fun g37 w38 hg39 B40 hu41=>?_
 have ow42:=litW hg39 (xs:=[M.addr,M.value]) (by as_aux_lemma=>kernel_rfl) (rng_cons (by omega) (rng_cons (by omega) rng_nil)) (by (try simp only [List.length_cons,List.length_nil]); omega) B40
 refine L0<|Oc<|so2 (put_any (xs:=[M.addr,M.value]) (ow42).rd (by (try simp only [List.length_cons,List.length_nil]); omega)) fun A47 cp48 w43 rd51 hl49 hm50 hu46=>Pl 1<|nt<|rt<|br<|tr<|rr (.slice A47 ((putW ([M.addr,M.value])).length) cp48)<|?_
 have hs:regsLay dir M=(putW ([M.addr,M.value])):=by
   unfold regsLay 
   (try simp only [hd0,k34,q36,bs,if_true,if_false,decide_true,decide_false,reduceIte])
   all_goals rfl
 rw [hs]
 have U52:=ut0 U35 hu41
 have U53:=ut0 U52 hu46
 exact ⟨_,rfl,(OwnG.weaken rd51 (le (le (le hu14.size hu19.size) hu27.size) hu41.size)),U53⟩
 have q36p:=ne_of_beqi q36
 refine sg<|Pl 3<|nt<|cb ((M.code == 22)) (fun q54=>?_) (fun q54=>?_)
 have q54p:=eq_of_beqi q54
 refine sg<|Pl 1<|L0<|Olb r33 2<|Pl 1<|L0<|Olb r33 5<|Pl 1<|L0<|Olb r33 6<|L0<|Olt (m:=3) (e:=22) #[.int .u16 M.addr,.int .u16 M.and_,.int .u16 M.or_] fun g55 w56 hg57 B58 hu59=>?_
 have ow60:=litW hg57 (xs:=[M.addr,M.and_,M.or_]) (by as_aux_lemma=>kernel_rfl) (rng_cons (by omega) (rng_cons (by omega) (rng_cons (by omega) rng_nil))) (by (try simp only [List.length_cons,List.length_nil]); omega) B58
 refine L0<|Oc<|so2 (put_any (xs:=[M.addr,M.and_,M.or_]) (ow60).rd (by (try simp only [List.length_cons,List.length_nil]); omega)) fun A65 cp66 w61 rd69 hl67 hm68 hu64=>Pl 1<|nt<|rt<|br<|tr<|rr (.slice A65 ((putW ([M.addr,M.and_,M.or_])).length) cp66)<|?_
 have hs:regsLay dir M=(putW ([M.addr,M.and_,M.or_])):=by
   unfold regsLay 
   (try simp only [hd0,k34,q36,q54,bs,if_true,if_false,decide_true,decide_false,reduceIte])
   all_goals rfl
 rw [hs]
 have U70:=ut0 U35 hu59
 have U71:=ut0 U70 hu64
 exact ⟨_,rfl,(OwnG.weaken rd69 (le (le (le hu14.size hu19.size) hu27.size) hu59.size)),U71⟩
 have q54p:=ne_of_beqi q54
 refine sg<|Pl 3<|cu 2 [65] 67 (((M.code == 16) && (dir == 0))) (fun K K73=>?_) ?_
 refine bl 65 ((M.code == 16)) (fun q72=>?_) (fun q72=>?_)
 have q72p:=eq_of_beqi q72
 exact Pl 2<|ce K73 (dir == 0) (by rw [q72]; rfl)
 have q72p:=ne_of_beqi q72
 exact Pl 2<|ce K73 false (by rw [q72]; rfl)
 refine Pl 1<|nt<|cb (((M.code == 16) && (dir == 0))) (fun q74=>?_) (fun q74=>?_)
 have q74a:=(and_t q74).1
 have q74b:=(and_t q74).2
 have q74ap:=eq_of_beqi q74a
 have q74bp:=eq_of_beqi q74b
 refine sg<|Pl 1<|L0<|Olb r33 2<|Pl 1<|L0<|Olb r33 3<|L0<|Olt (m:=2) (e:=22) #[.int .u16 M.addr,.int .u16 M.count] fun g75 w76 hg77 B78 hu79=>?_
 have ow80:=litW hg77 (xs:=[M.addr,M.count]) (by as_aux_lemma=>kernel_rfl) (rng_cons (by omega) (rng_cons (by omega) rng_nil)) (by (try simp only [List.length_cons,List.length_nil]); omega) B78
 refine L0<|Oc<|so2 (put_any (xs:=[M.addr,M.count]) (ow80).rd (by (try simp only [List.length_cons,List.length_nil]); omega)) fun A85 cp86 w81 rd89 hl87 hm88 hu84=>Pl 1<|?_
 have U90:=ut0 hu27 hu79
 have U91:=ut0 U90 hu84
 have r92:=own_stay ow20 U91 (fun x hx=>not0) (fun _ _ h=>h)
 refine L0<|Oapp one_u8 (xs:=(putW ([M.addr,M.count]))) (ys:=([((2 * ((M.words.length:Nat) : Int)) % 256)])) (.int .u8 0) 1 rd89 (r92).rd (by (try simp only [List.length_append,List.length_cons,List.length_nil,putW_length]); omega) hu84.size fun A93 cp94 w95 ho96 hu97=>Pl 1<|?_
 have U98:=ut0 hu79 hu84
 have U99:=ut U98 hu97 (all_app (ob_new rd89 hu79.size) all0)
 have r100:=own_stay rd32 U99 (fun x hx=>not0) (fun _ _ h=>h)
 refine L0<|Oapp one_u8 (xs:=((putW ([M.addr,M.count]))++[((2 * ((M.words.length:Nat) : Int)) % 256)])) (ys:=(putW M.words)) (.int .u8 0) 1 ho96 (r100).rd (by (try simp only [List.length_append,List.length_cons,List.length_nil,putW_length]); omega) (le hu84.size hu97.size) fun A101 cp102 w103 ho104 hu105=>Pl 1<|nt<|rt<|br<|tr<|rr (.slice A101 ((((putW ([M.addr,M.count]))++[((2 * ((M.words.length:Nat) : Int)) % 256)])++(putW M.words)).length) cp102)<|?_
 have hs:regsLay dir M=(((putW ([M.addr,M.count]))++[((2 * ((M.words.length:Nat) : Int)) % 256)])++(putW M.words)):=by
   unfold regsLay 
   (try simp only [q74b,k34,q36,q54,q74,q74a,bs,if_true,if_false,decide_true,decide_false,reduceIte])
   all_goals rfl
 rw [hs]
 have U106:=ut0 U35 hu79
 have U107:=ut0 U106 hu84
 have U108:=ut U107 hu97 (all_app (ob_new rd89 U106.size) all0)
 have U109:=ut U108 hu105 (all_app (ob_new ho96 U106.size) all0)
 exact ⟨_,rfl,(OwnG.weaken ho104 (le (le (le hu14.size hu19.size) hu27.size) hu79.size)),U109⟩
 have q74a:(M.code == 16)=false:=by simpa only [hd0,bs] using q74
 have q74ap:=ne_of_beqi q74a
 refine sg<|Pl 3<|nt<|cb ((M.code == 23)) (fun q110=>?_) (fun q110=>?_)
 have q110p:=eq_of_beqi q110
 refine sg<|Pl 1<|L0<|Olb r33 2<|Pl 1<|L0<|Olb r33 3<|Pl 1<|L0<|Olb r33 7<|Pl 2<|L0<|Olt (m:=4) (e:=22) #[.int .u16 M.addr,.int .u16 M.count,.int .u16 M.addr2,.int .u16 (((M.words.length:Nat) : Int) % 65536)] fun g111 w112 hg113 B114 hu115=>?_
 have ow116:=litW hg113 (xs:=[M.addr,M.count,M.addr2,(((M.words.length:Nat) : Int) % 65536)]) (by as_aux_lemma=>kernel_rfl) (rng_cons (by omega) (rng_cons (by omega) (rng_cons (by omega) (rng_cons (by omega) rng_nil)))) (by (try simp only [List.length_cons,List.length_nil]); omega) B114
 refine L0<|Oc<|so2 (put_any (xs:=[M.addr,M.count,M.addr2,(((M.words.length:Nat) : Int) % 65536)]) (ow116).rd (by (try simp only [List.length_cons,List.length_nil]); omega)) fun A121 cp122 w117 rd125 hl123 hm124 hu120=>Pl 1<|?_
 have U126:=ut0 hu27 hu115
 have U127:=ut0 U126 hu120
 have r128:=own_stay ow20 U127 (fun x hx=>not0) (fun _ _ h=>h)
 refine L0<|Oapp one_u8 (xs:=(putW ([M.addr,M.count,M.addr2,(((M.words.length:Nat) : Int) % 65536)]))) (ys:=([((2 * ((M.words.length:Nat) : Int)) % 256)])) (.int .u8 0) 1 rd125 (r128).rd (by (try simp only [List.length_append,List.length_cons,List.length_nil,putW_length]); omega) hu120.size fun A129 cp130 w131 ho132 hu133=>Pl 1<|?_
 have U134:=ut0 hu115 hu120
 have U135:=ut U134 hu133 (all_app (ob_new rd125 hu115.size) all0)
 have r136:=own_stay rd32 U135 (fun x hx=>not0) (fun _ _ h=>h)
 refine L0<|Oapp one_u8 (xs:=((putW ([M.addr,M.count,M.addr2,(((M.words.length:Nat) : Int) % 65536)]))++[((2 * ((M.words.length:Nat) : Int)) % 256)])) (ys:=(putW M.words)) (.int .u8 0) 1 ho132 (r136).rd (by (try simp only [List.length_append,List.length_cons,List.length_nil,putW_length]); omega) (le hu120.size hu133.size) fun A137 cp138 w139 ho140 hu141=>Pl 1<|nt<|rt<|br<|tr<|rr (.slice A137 ((((putW ([M.addr,M.count,M.addr2,(((M.words.length:Nat) : Int) % 65536)]))++[((2 * ((M.words.length:Nat) : Int)) % 256)])++(putW M.words)).length) cp138)<|?_
 have hs:regsLay dir M=(((putW ([M.addr,M.count,M.addr2,(((M.words.length:Nat) : Int) % 65536)]))++[((2 * ((M.words.length:Nat) : Int)) % 256)])++(putW M.words)):=by
   unfold regsLay 
   (try simp only [hd0,k34,q36,q54,q74,q74a,q110,bs,if_true,if_false,decide_true,decide_false,reduceIte])
   all_goals rfl
 rw [hs]
 have U142:=ut0 U35 hu115
 have U143:=ut0 U142 hu120
 have U144:=ut U143 hu133 (all_app (ob_new rd125 U142.size) all0)
 have U145:=ut U144 hu141 (all_app (ob_new ho132 U142.size) all0)
 exact ⟨_,rfl,(OwnG.weaken ho140 (le (le (le hu14.size hu19.size) hu27.size) hu115.size)),U145⟩
 have q110p:=ne_of_beqi q110
 refine sg<|Pl 3<|cu 2 [98] 100 (((M.code == 24) && (dir == 0))) (fun K K147=>?_) ?_
 refine bl 98 ((M.code == 24)) (fun q146=>?_) (fun q146=>?_)
 have q146p:=eq_of_beqi q146
 exact Pl 2<|ce K147 (dir == 0) (by rw [q146]; rfl)
 have q146p:=ne_of_beqi q146
 exact Pl 2<|ce K147 false (by rw [q146]; rfl)
 refine Pl 1<|nt<|cb (((M.code == 24) && (dir == 0))) (fun q148=>?_) (fun q148=>?_)
 have q148a:=(and_t q148).1
 have q148b:=(and_t q148).2
 have q148ap:=eq_of_beqi q148a
 have q148bp:=eq_of_beqi q148b
 refine sg<|Pl 1<|L0<|Olb r33 2<|L0<|Olt (m:=1) (e:=22) #[.int .u16 M.addr] fun g149 w150 hg151 B152 hu153=>?_
 have ow154:=litW hg151 (xs:=[M.addr]) (by as_aux_lemma=>kernel_rfl) (rng_cons (by omega) rng_nil) (by (try simp only [List.length_cons,List.length_nil]); omega) B152
 refine L0<|Oc<|so2 (put_any (xs:=[M.addr]) (ow154).rd (by (try simp only [List.length_cons,List.length_nil]); omega)) fun A159 cp160 w155 rd163 hl161 hm162 hu158=>Pl 1<|nt<|rt<|br<|tr<|rr (.slice A159 ((putW ([M.addr])).length) cp160)<|?_
 have hs:regsLay dir M=(putW ([M.addr])):=by
   unfold regsLay 
   (try simp only [q148b,k34,q36,q54,q74,q74a,q110,q148,q148a,bs,if_true,if_false,decide_true,decide_false,reduceIte])
   all_goals rfl
 rw [hs]
 have U164:=ut0 U35 hu153
 have U165:=ut0 U164 hu158
 exact ⟨_,rfl,(OwnG.weaken rd163 (le (le (le hu14.size hu19.size) hu27.size) hu153.size)),U165⟩
 have q148a:(M.code == 24)=false:=by simpa only [hd0,bs] using q148
 have q148ap:=ne_of_beqi q148a
 refine sg<|Pl 3<|nt<|cf q148a<|sk<|bn<|tn<|sg<|Pl 1<|L0<|Olb r33 2<|Pl 1<|L0<|Olb r33 3<|?_
 refine L0<|Olt (m:=2) (e:=22) #[.int .u16 M.addr,.int .u16 M.count] fun g166 w167 hg168 B169 hu170=>?_
 have ow171:=litW hg168 (xs:=[M.addr,M.count]) (by as_aux_lemma=>kernel_rfl) (rng_cons (by omega) (rng_cons (by omega) rng_nil)) (by (try simp only [List.length_cons,List.length_nil]); omega) B169
 refine L0<|Oc<|so2 (put_any (xs:=[M.addr,M.count]) (ow171).rd (by (try simp only [List.length_cons,List.length_nil]); omega)) fun A176 cp177 w172 rd180 hl178 hm179 hu175=>Pl 1<|nt<|rt<|rr (.slice A176 ((putW ([M.addr,M.count])).length) cp177)<|?_
 have hs:regsLay dir M=(putW ([M.addr,M.count])):=by
   unfold regsLay 
   (try simp only [hd0,k34,q36,q54,q74,q74a,q110,q148,q148a,bs,if_true,if_false,decide_true,decide_false,reduceIte])
   all_goals rfl
 rw [hs]
 have U181:=ut0 U35 hu170
 have U182:=ut0 U181 hu175
 exact ⟨_,rfl,(OwnG.weaken rd180 (le (le (le hu14.size hu19.size) hu27.size) hu170.size)),U182⟩
set_option maxRecDepth 100000 in
set_option maxHeartbeats 4000000 in
theorem regs_lay_f {m:Bool} {cs:Array Value} {M:Msg} {w:World} {dir:Int} (h:MsgRd m w cs.toList M) (hf:MsgFew M) (hd0:(dir == 0)=false) : Calls Tryz.prog 87 #[.int .i64 dir,.agg cs] w (PLay (regsLay dir M) w):=by
 obtain ⟨vw,vb,vd,vr,vo,h0,hw,hbt,hd,hr,ho,hR⟩:=h
 obtain rfl:cs=(msgCells M vw vb vd vr vo).toArray:=by apply Array.toList_inj.1; simpa using h0
 clear h0
 obtain ⟨Aw,kw,rfl,_,_⟩:=hw.shape
 obtain ⟨Ab,kb,rfl,_,_⟩:=hbt.shape
 obtain ⟨Ad,kd,rfl,_,_⟩:=hd.shape
 obtain ⟨Ar,kr,rfl,_,_⟩:=hr.shape
 obtain ⟨Ao,ko,rfl,_,_⟩:=ho.shape
 obtain ⟨q0,q1,q2,q3,q4,q5,q6,q7,q8,q9,q10,q11,q16,q17,q18,q19,q20⟩:=hR
 simp only [B8,B16] at q0 q1 q2 q3 q4 q5 q6 q7 q8 q9 q10 q11 q16 q17 q18 q19 q20
 have hf1:=hf.words
 have hf2:=hf.bits
 have hf3:=hf.data
 have hf4:=hf.recs
 have hf5:=hf.objects
 refine en 124 Tryz.func87 rfl<|sg<|L0<|Obx (mG M.code M.fail M.addr M.count M.value M.and_ M.or_ M.addr2 M.sub M.status M.events M.messages (.slice Aw M.words.length kw) (.slice Ab M.bits.length kb) (.slice Ad M.data.length kd) (.slice Ar M.recs.length kr) M.mei M.kind M.level M.more M.next (.slice Ao M.objects.length ko)) fun g10 w11 hg12 B13 hu14=>Pl 1<|ng<|Pl 1<|L0<|Olb B13 12<|Pl 2<|nt<|?_
 refine sg<|Pl 1<|L0<|Oi (2 * ((M.words.length:Nat) : Int))<|Pl 1<|L0<|Olt (m:=1) (e:=5) #[.int .u8 ((2 * ((M.words.length:Nat) : Int)) % 256)] fun g15 w16 hg17 B18 hu19=>?_
 have ow20:=litB hg17 (xs:=[((2 * ((M.words.length:Nat) : Int)) % 256)]) (by as_aux_lemma=>kernel_rfl) (rng_cons (by omega) rng_nil) (by (try simp only [List.length_cons,List.length_nil]); omega) B18
 refine Pl 1<|?_
 have r21:=ub hu19 B13
 refine L0<|Olb r21 12<|?_
 have U22:=ut0 hu14 hu19
 have r23:=RdW.old hw U22
 refine L0<|Oc<|so2 (put_any (xs:=M.words) r23 (by (try simp only [List.length_cons,List.length_nil]); omega)) fun A28 cp29 w24 rd32 hl30 hm31 hu27=>Pl 2<|ng<|Pl 3<|nt<|sq<|sg<|Pl 1<|?_
 have r33:=ub hu27 r21
 refine L0<|Olb r33 0<|Pl 1<|nt<|bk<|sg<|Pl 3<|?_
 have k34:(!(dir == 0))=true:=by simp only [hd0,Bool.not_true,Bool.not_false]
 refine sy 27 k34<|Pl 3<|cu 3 [30] 33 (((M.code == 3) || (M.code == 4))) (fun K K36=>?_) ?_
 refine bl 30 ((M.code == 3)) (fun q35=>?_) (fun q35=>?_)
 have q35p:=eq_of_beqi q35
 exact Pl 3<|ce K36 true (by rw [q35]; rfl)
 have q35p:=ne_of_beqi q35
 exact Pl 3<|ce K36 (M.code == 4) (by rw [q35]; rfl)
 refine Pl 1<|cu 3 [34] 37 ((((M.code == 3) || (M.code == 4)) || (M.code == 23))) (fun K K38=>?_) ?_
 refine bl 34 (((M.code == 3) || (M.code == 4))) (fun q37=>?_) (fun q37=>?_)
 exact Pl 3<|ce K38 true (by rw [q37]; rfl)
 have q37a:=(or_f q37).1
 have q37b:=(or_f q37).2
 have q37ap:=ne_of_beqi q37a
 have q37bp:=ne_of_beqi q37b
 exact Pl 3<|ce K38 (M.code == 23) (by rw [q37]; rfl)
 refine Pl 2<|nt<|?_
 have U39:=ut0 U22 hu27
 refine cb ((((M.code == 3) || (M.code == 4)) || (M.code == 23))) (fun q40=>?_) (fun q40=>?_)
 refine sg<|Pl 2<|?_
 have r41:=own_stay ow20 hu27 (fun x hx=>not0) (fun _ _ h=>h)
 refine L0<|Oapp one_u8 (xs:=([((2 * ((M.words.length:Nat) : Int)) % 256)])) (ys:=(putW M.words)) (.int .u8 0) 1 r41 (rd32).rd (by (try simp only [List.length_append,List.length_cons,List.length_nil,putW_length]); omega) (le hu19.size hu27.size) fun A42 cp43 w44 ho45 hu46=>Pl 1<|nt<|rt<|br<|tr<|rr (.slice A42 (([((2 * ((M.words.length:Nat) : Int)) % 256)]++(putW M.words)).length) cp43)<|?_
 have hs:regsLay dir M=([((2 * ((M.words.length:Nat) : Int)) % 256)]++(putW M.words)):=by
   unfold regsLay 
   (try simp only [hd0,k34,q40,bs,if_true,if_false,decide_true,decide_false,reduceIte])
   all_goals rfl
 rw [hs]
 have U47:=ut U39 hu46 (all_app (ob_new ow20 hu14.size) all0)
 exact ⟨_,rfl,(OwnG.weaken ho45 hu14.size),U47⟩
 have q40a:=(or_f q40).1
 have q40b:=(or_f q40).2
 have q40aa:=(or_f q40a).1
 have q40ab:=(or_f q40a).2
 have q40aap:=ne_of_beqi q40aa
 have q40abp:=ne_of_beqi q40ab
 have q40bp:=ne_of_beqi q40b
 refine sg<|Pl 3<|nt<|cb ((M.code == 6)) (fun q48=>?_) (fun q48=>?_)
 have q48p:=eq_of_beqi q48
 refine sg<|Pl 1<|L0<|Olb r33 2<|Pl 1<|L0<|Olb r33 4<|L0<|Olt (m:=2) (e:=22) #[.int .u16 M.addr,.int .u16 M.value] fun g49 w50 hg51 B52 hu53=>?_
 have ow54:=litW hg51 (xs:=[M.addr,M.value]) (by as_aux_lemma=>kernel_rfl) (rng_cons (by omega) (rng_cons (by omega) rng_nil)) (by (try simp only [List.length_cons,List.length_nil]); omega) B52
 refine L0<|Oc<|so2 (put_any (xs:=[M.addr,M.value]) (ow54).rd (by (try simp only [List.length_cons,List.length_nil]); omega)) fun A59 cp60 w55 rd63 hl61 hm62 hu58=>Pl 1<|nt<|rt<|br<|tr<|rr (.slice A59 ((putW ([M.addr,M.value])).length) cp60)<|?_
 have hs:regsLay dir M=(putW ([M.addr,M.value])):=by
   unfold regsLay 
   (try simp only [hd0,k34,q40,q40a,q40aa,q40ab,q40b,q48,bs,if_true,if_false,decide_true,decide_false,reduceIte])
   all_goals rfl
 rw [hs]
 have U64:=ut0 U39 hu53
 have U65:=ut0 U64 hu58
 exact ⟨_,rfl,(OwnG.weaken rd63 (le (le (le hu14.size hu19.size) hu27.size) hu53.size)),U65⟩
 have q48p:=ne_of_beqi q48
 refine sg<|Pl 3<|nt<|cb ((M.code == 22)) (fun q66=>?_) (fun q66=>?_)
 have q66p:=eq_of_beqi q66
 refine sg<|Pl 1<|L0<|Olb r33 2<|Pl 1<|L0<|Olb r33 5<|Pl 1<|L0<|Olb r33 6<|L0<|Olt (m:=3) (e:=22) #[.int .u16 M.addr,.int .u16 M.and_,.int .u16 M.or_] fun g67 w68 hg69 B70 hu71=>?_
 have ow72:=litW hg69 (xs:=[M.addr,M.and_,M.or_]) (by as_aux_lemma=>kernel_rfl) (rng_cons (by omega) (rng_cons (by omega) (rng_cons (by omega) rng_nil))) (by (try simp only [List.length_cons,List.length_nil]); omega) B70
 refine L0<|Oc<|so2 (put_any (xs:=[M.addr,M.and_,M.or_]) (ow72).rd (by (try simp only [List.length_cons,List.length_nil]); omega)) fun A77 cp78 w73 rd81 hl79 hm80 hu76=>Pl 1<|nt<|rt<|br<|tr<|rr (.slice A77 ((putW ([M.addr,M.and_,M.or_])).length) cp78)<|?_
 have hs:regsLay dir M=(putW ([M.addr,M.and_,M.or_])):=by
   unfold regsLay 
   (try simp only [hd0,k34,q40,q40a,q40aa,q40ab,q40b,q48,q66,bs,if_true,if_false,decide_true,decide_false,reduceIte])
   all_goals rfl
 rw [hs]
 have U82:=ut0 U39 hu71
 have U83:=ut0 U82 hu76
 exact ⟨_,rfl,(OwnG.weaken rd81 (le (le (le hu14.size hu19.size) hu27.size) hu71.size)),U83⟩
 have q66p:=ne_of_beqi q66
 refine sg<|Pl 3<|cu 2 [65] 67 (((M.code == 16) && (dir == 0))) (fun K K85=>?_) ?_
 refine bl 65 ((M.code == 16)) (fun q84=>?_) (fun q84=>?_)
 have q84p:=eq_of_beqi q84
 exact Pl 2<|ce K85 (dir == 0) (by rw [q84]; rfl)
 have q84p:=ne_of_beqi q84
 exact Pl 2<|ce K85 false (by rw [q84]; rfl)
 refine Pl 1<|nt<|?_
 have k86:((M.code == 16) && (dir == 0))=false:=by simp only [hd0,bs]
 refine cf k86<|sg<|Pl 3<|nt<|cf q40b<|sg<|Pl 3<|cu 2 [98] 100 (((M.code == 24) && (dir == 0))) (fun K K88=>?_) ?_
 refine bl 98 ((M.code == 24)) (fun q87=>?_) (fun q87=>?_)
 have q87p:=eq_of_beqi q87
 exact Pl 2<|ce K88 (dir == 0) (by rw [q87]; rfl)
 have q87p:=ne_of_beqi q87
 exact Pl 2<|ce K88 false (by rw [q87]; rfl)
 refine Pl 1<|nt<|?_
 have k89:((M.code == 24) && (dir == 0))=false:=by simp only [hd0,bs]
 refine cf k89<|sg<|Pl 3<|nt<|cb ((M.code == 24)) (fun q90=>?_) (fun q90=>?_)
 have q90p:=eq_of_beqi q90
 refine sg<|Pl 1<|L0<|Oi (2 * ((M.words.length:Nat) : Int))<|L0<|Oi (2 + (2 * ((M.words.length:Nat) : Int)))<|Pl 3<|L0<|Olt (m:=2) (e:=22) #[.int .u16 ((2 + (2 * ((M.words.length:Nat) : Int))) % 65536),.int .u16 (((M.words.length:Nat) : Int) % 65536)] fun g91 w92 hg93 B94 hu95=>?_
 have ow96:=litW hg93 (xs:=[((2 + (2 * ((M.words.length:Nat) : Int))) % 65536),(((M.words.length:Nat) : Int) % 65536)]) (by as_aux_lemma=>kernel_rfl) (rng_cons (by omega) (rng_cons (by omega) rng_nil)) (by (try simp only [List.length_cons,List.length_nil]); omega) B94
 refine L0<|Oc<|so2 (put_any (xs:=[((2 + (2 * ((M.words.length:Nat) : Int))) % 65536),(((M.words.length:Nat) : Int) % 65536)]) (ow96).rd (by (try simp only [List.length_cons,List.length_nil]); omega)) fun A101 cp102 w97 rd105 hl103 hm104 hu100=>Pl 1<|?_
 have U106:=ut0 hu95 hu100
 have r107:=own_stay rd32 U106 (fun x hx=>not0) (fun _ _ h=>h)
 refine L0<|Oapp one_u8 (xs:=(putW ([((2 + (2 * ((M.words.length:Nat) : Int))) % 65536),(((M.words.length:Nat) : Int) % 65536)]))) (ys:=(putW M.words)) (.int .u8 0) 1 rd105 (r107).rd (by (try simp only [List.length_append,List.length_cons,List.length_nil,putW_length]); omega) hu100.size fun A108 cp109 w110 ho111 hu112=>Pl 1<|nt<|rt<|br<|tr<|rr (.slice A108 (((putW ([((2 + (2 * ((M.words.length:Nat) : Int))) % 65536),(((M.words.length:Nat) : Int) % 65536)]))++(putW M.words)).length) cp109)<|?_
 have hs:regsLay dir M=((putW ([((2 + (2 * ((M.words.length:Nat) : Int))) % 65536),(((M.words.length:Nat) : Int) % 65536)]))++(putW M.words)):=by
   unfold regsLay 
   (try simp only [hd0,k34,q40,q40a,q40aa,q40ab,q40b,q48,q66,k86,k89,q90,bs,if_true,if_false,decide_true,decide_false,reduceIte])
   all_goals rfl
 rw [hs]
 have U113:=ut0 U39 hu95
 have U114:=ut0 U113 hu100
 have U115:=ut U114 hu112 (all_app (ob_new rd105 U113.size) all0)
 exact ⟨_,rfl,(OwnG.weaken ho111 (le (le (le hu14.size hu19.size) hu27.size) hu95.size)),U115⟩
 have q90p:=ne_of_beqi q90
 refine sk<|bn<|tn<|sg<|Pl 1<|L0<|Olb r33 2<|Pl 1<|L0<|Olb r33 3<|L0<|Olt (m:=2) (e:=22) #[.int .u16 M.addr,.int .u16 M.count] fun g116 w117 hg118 B119 hu120=>?_
 have ow121:=litW hg118 (xs:=[M.addr,M.count]) (by as_aux_lemma=>kernel_rfl) (rng_cons (by omega) (rng_cons (by omega) rng_nil)) (by (try simp only [List.length_cons,List.length_nil]); omega) B119
 refine L0<|Oc<|so2 (put_any (xs:=[M.addr,M.count]) (ow121).rd (by (try simp only [List.length_cons,List.length_nil]); omega)) fun A126 cp127 w122 rd130 hl128 hm129 hu125=>Pl 1<|nt<|rt<|rr (.slice A126 ((putW ([M.addr,M.count])).length) cp127)<|?_
 have hs:regsLay dir M=(putW ([M.addr,M.count])):=by
   unfold regsLay 
   (try simp only [hd0,k34,q40,q40a,q40aa,q40ab,q40b,q48,q66,k86,k89,q90,bs,if_true,if_false,decide_true,decide_false,reduceIte])
   all_goals rfl
 rw [hs]
 have U131:=ut0 U39 hu120
 have U132:=ut0 U131 hu125
 exact ⟨_,rfl,(OwnG.weaken rd130 (le (le (le hu14.size hu19.size) hu27.size) hu120.size)),U132⟩
theorem regs_lay {m:Bool} {cs:Array Value} {M:Msg} {w:World} {dir:Int} (h:MsgRd m w cs.toList M) (hf:MsgFew M) : Calls Tryz.prog 87 #[.int .i64 dir,.agg cs] w (PLay (regsLay dir M) w):=by
  rcases bool_dich (dir == 0) with h0 | h0
  · exact regs_lay_t h hf h0
  · exact regs_lay_f h hf h0
open Go.RowKit
def diagLay (dir:Int) (M:Msg) : List Int :=
  if M.code == 8 then putW [M.sub]++putW M.words
  else if dir == 0 then []
  else if M.code == 7 then [M.value % 256]
  else if M.code == 11 then putW [M.status,M.events]
  else if M.code == 12 then (([(6 + (M.data.length:Int)) % 256]++putW [M.status,M.events,M.messages])++M.data)
  else [(M.data.length:Int) % 256]++M.data
set_option maxRecDepth 100000 in
set_option maxHeartbeats 4000000 in
theorem diag_lay_t {m:Bool} {cs:Array Value} {M:Msg} {w:World} {dir:Int} (h:MsgRd m w cs.toList M) (hf:MsgFew M) (hd0:(dir == 0)=true) : Calls Tryz.prog 90 #[.int .i64 dir,.agg cs] w (PLay (diagLay dir M) w):=by
 obtain ⟨vw,vb,vd,vr,vo,h0,hw,hbt,hd,hr,ho,hR⟩:=h
 obtain rfl:cs=(msgCells M vw vb vd vr vo).toArray:=by apply Array.toList_inj.1; simpa using h0
 clear h0
 obtain ⟨Aw,kw,rfl,_,_⟩:=hw.shape
 obtain ⟨Ab,kb,rfl,_,_⟩:=hbt.shape
 obtain ⟨Ad,kd,rfl,_,_⟩:=hd.shape
 obtain ⟨Ar,kr,rfl,_,_⟩:=hr.shape
 obtain ⟨Ao,ko,rfl,_,_⟩:=ho.shape
 obtain ⟨q0,q1,q2,q3,q4,q5,q6,q7,q8,q9,q10,q11,q16,q17,q18,q19,q20⟩:=hR
 simp only [B8,B16] at q0 q1 q2 q3 q4 q5 q6 q7 q8 q9 q10 q11 q16 q17 q18 q19 q20
 have hf1:=hf.words
 have hf2:=hf.bits
 have hf3:=hf.data
 have hf4:=hf.recs
 have hf5:=hf.objects
 refine en 70 Tryz.func90 rfl<|sg<|L0<|Obx (mG M.code M.fail M.addr M.count M.value M.and_ M.or_ M.addr2 M.sub M.status M.events M.messages (.slice Aw M.words.length kw) (.slice Ab M.bits.length kb) (.slice Ad M.data.length kd) (.slice Ar M.recs.length kr) M.mei M.kind M.level M.more M.next (.slice Ao M.objects.length ko)) fun g10 w11 hg12 B13 hu14=>Pl 1<|nt<|sq<|bk<|sg<|Pl 1<|L0<|Olb B13 0<|Pl 2<|nl<|?_
 refine tn<|cb ((M.code == 8)) (fun q15=>?_) (fun q15=>?_)
 have q15p:=eq_of_beqi q15
 refine sq<|Rg 9 (fun w'=>w'.cell? ⟨g10,8,none⟩=some (.int .u16 M.sub)∧w'.cell? ⟨g10,12,none⟩=some (.slice Aw M.words.length kw)) fun w49 hu50=>?_
 have r52:=ub hu50 B13
 refine hld ⟨(blk_at r52 rfl),(blk_at r52 rfl)⟩ fun hS51=>Rt 0 hS51<|Rl 1 hS51 (fun _ hs=>hs.1)<|Rt 4 hS51<|Rl 5 hS51 (fun _ hs=>hs.2)<|R0 2 rfl<|Olt (m:=1) (e:=22) #[.int .u16 M.sub] fun g53 w54 hg55 B56 hu57=>?_
 have ow58:=litW hg55 (xs:=[M.sub]) (by as_aux_lemma=>kernel_rfl) (rng_cons (by omega) rng_nil) (by (try simp only [List.length_cons,List.length_nil]); omega) B56
 have r60:=ub hu57 r52
 refine hld ⟨(blk_at r60 rfl),(blk_at r60 rfl)⟩ fun hS59=>R0 3 rfl<|Oc<|so2 (put_any (xs:=[M.sub]) (ow58).rd (by (try simp only [List.length_cons,List.length_nil]); omega)) fun A65 cp66 w61 rd69 hl67 hm68 hu64=>?_
 have r71:=ub hu64 r60
 refine hld ⟨(blk_at r71 rfl),(blk_at r71 rfl)⟩ fun hS70=>?_
 have U72:=ut0 hu14 hu50
 have U73:=ut0 U72 hu57
 have U74:=ut0 U73 hu64
 have r75:=RdW.old hw U74
 refine R0 6 rfl<|Oc<|so2 (put_any (xs:=M.words) r75 (by (try simp only [List.length_cons,List.length_nil]); omega)) fun A80 cp81 w76 rd84 hl82 hm83 hu79=>?_
 have r86:=ub hu79 r71
 refine hld ⟨(blk_at r86 rfl),(blk_at r86 rfl)⟩ fun hS85=>?_
 have r87:=own_stay rd69 hu79 (fun x hx=>not0) (fun _ _ h=>h)
 refine R0 7 rfl<|Oapp one_u8 (xs:=(putW ([M.sub]))) (ys:=(putW M.words)) (.int .u8 0) 1 r87 (rd84).rd (by (try simp only [List.length_append,List.length_cons,List.length_nil,putW_length]); omega) (le hu64.size hu79.size) fun A88 cp89 w90 ho91 hu92=>?_
 have r94:=Upd.blk hu92 (not_app (not_old (blk_lt B13) (le hu50.size hu57.size) rd69) not0) r86
 refine hld ⟨(blk_at r94 rfl),(blk_at r94 rfl)⟩ fun hS93=>Rt 8 hS93<|re<|tn<|rt<|br<|tr<|rr (.slice A88 (((putW ([M.sub]))++(putW M.words)).length) cp89)<|?_
 have hs:diagLay dir M=((putW ([M.sub]))++(putW M.words)):=by
   unfold diagLay 
   (try simp only [hd0,q15,bs,if_true,if_false,decide_true,decide_false,reduceIte])
   all_goals rfl
 rw [hs]
 have U95:=ut0 U74 hu79
 have U96:=ut U95 hu92 (all_app (ob_new rd69 U73.size) all0)
 exact ⟨_,rfl,(OwnG.weaken ho91 U73.size),U96⟩
 have q15p:=ne_of_beqi q15
 refine sg<|Pl 3<|nt<|ct hd0<|sg<|Pl 1<|nt<|rt<|br<|tr<|?_
 refine rr (.slice none 0 0)<|?_
 have hs:diagLay dir M=[]:=by
   unfold diagLay 
   (try simp only [hd0,q15,bs,if_true,if_false,decide_true,decide_false,reduceIte])
   all_goals rfl
 rw [hs]
 exact ⟨_,rfl,(OwnG.nil ..),hu14⟩
set_option maxRecDepth 100000 in
set_option maxHeartbeats 4000000 in
theorem diag_lay_f {m:Bool} {cs:Array Value} {M:Msg} {w:World} {dir:Int} (h:MsgRd m w cs.toList M) (hf:MsgFew M) (hd0:(dir == 0)=false) : Calls Tryz.prog 90 #[.int .i64 dir,.agg cs] w (PLay (diagLay dir M) w):=by
 obtain ⟨vw,vb,vd,vr,vo,h0,hw,hbt,hd,hr,ho,hR⟩:=h
 obtain rfl:cs=(msgCells M vw vb vd vr vo).toArray:=by apply Array.toList_inj.1; simpa using h0
 clear h0
 obtain ⟨Aw,kw,rfl,_,_⟩:=hw.shape
 obtain ⟨Ab,kb,rfl,_,_⟩:=hbt.shape
 obtain ⟨Ad,kd,rfl,_,_⟩:=hd.shape
 obtain ⟨Ar,kr,rfl,_,_⟩:=hr.shape
 obtain ⟨Ao,ko,rfl,_,_⟩:=ho.shape
 obtain ⟨q0,q1,q2,q3,q4,q5,q6,q7,q8,q9,q10,q11,q16,q17,q18,q19,q20⟩:=hR
 simp only [B8,B16] at q0 q1 q2 q3 q4 q5 q6 q7 q8 q9 q10 q11 q16 q17 q18 q19 q20
 have hf1:=hf.words
 have hf2:=hf.bits
 have hf3:=hf.data
 have hf4:=hf.recs
 have hf5:=hf.objects
 refine en 70 Tryz.func90 rfl<|sg<|L0<|Obx (mG M.code M.fail M.addr M.count M.value M.and_ M.or_ M.addr2 M.sub M.status M.events M.messages (.slice Aw M.words.length kw) (.slice Ab M.bits.length kb) (.slice Ad M.data.length kd) (.slice Ar M.recs.length kr) M.mei M.kind M.level M.more M.next (.slice Ao M.objects.length ko)) fun g10 w11 hg12 B13 hu14=>Pl 1<|nt<|sq<|bk<|sg<|Pl 1<|L0<|Olb B13 0<|Pl 2<|nl<|?_
 refine tn<|cb ((M.code == 8)) (fun q15=>?_) (fun q15=>?_)
 have q15p:=eq_of_beqi q15
 refine sq<|Rg 9 (fun w'=>w'.cell? ⟨g10,8,none⟩=some (.int .u16 M.sub)∧w'.cell? ⟨g10,12,none⟩=some (.slice Aw M.words.length kw)) fun w49 hu50=>?_
 have r52:=ub hu50 B13
 refine hld ⟨(blk_at r52 rfl),(blk_at r52 rfl)⟩ fun hS51=>Rt 0 hS51<|Rl 1 hS51 (fun _ hs=>hs.1)<|Rt 4 hS51<|Rl 5 hS51 (fun _ hs=>hs.2)<|R0 2 rfl<|Olt (m:=1) (e:=22) #[.int .u16 M.sub] fun g53 w54 hg55 B56 hu57=>?_
 have ow58:=litW hg55 (xs:=[M.sub]) (by as_aux_lemma=>kernel_rfl) (rng_cons (by omega) rng_nil) (by (try simp only [List.length_cons,List.length_nil]); omega) B56
 have r60:=ub hu57 r52
 refine hld ⟨(blk_at r60 rfl),(blk_at r60 rfl)⟩ fun hS59=>R0 3 rfl<|Oc<|so2 (put_any (xs:=[M.sub]) (ow58).rd (by (try simp only [List.length_cons,List.length_nil]); omega)) fun A65 cp66 w61 rd69 hl67 hm68 hu64=>?_
 have r71:=ub hu64 r60
 refine hld ⟨(blk_at r71 rfl),(blk_at r71 rfl)⟩ fun hS70=>?_
 have U72:=ut0 hu14 hu50
 have U73:=ut0 U72 hu57
 have U74:=ut0 U73 hu64
 have r75:=RdW.old hw U74
 refine R0 6 rfl<|Oc<|so2 (put_any (xs:=M.words) r75 (by (try simp only [List.length_cons,List.length_nil]); omega)) fun A80 cp81 w76 rd84 hl82 hm83 hu79=>?_
 have r86:=ub hu79 r71
 refine hld ⟨(blk_at r86 rfl),(blk_at r86 rfl)⟩ fun hS85=>?_
 have r87:=own_stay rd69 hu79 (fun x hx=>not0) (fun _ _ h=>h)
 refine R0 7 rfl<|Oapp one_u8 (xs:=(putW ([M.sub]))) (ys:=(putW M.words)) (.int .u8 0) 1 r87 (rd84).rd (by (try simp only [List.length_append,List.length_cons,List.length_nil,putW_length]); omega) (le hu64.size hu79.size) fun A88 cp89 w90 ho91 hu92=>?_
 have r94:=Upd.blk hu92 (not_app (not_old (blk_lt B13) (le hu50.size hu57.size) rd69) not0) r86
 refine hld ⟨(blk_at r94 rfl),(blk_at r94 rfl)⟩ fun hS93=>Rt 8 hS93<|re<|tn<|rt<|br<|tr<|rr (.slice A88 (((putW ([M.sub]))++(putW M.words)).length) cp89)<|?_
 have hs:diagLay dir M=((putW ([M.sub]))++(putW M.words)):=by
   unfold diagLay 
   (try simp only [hd0,q15,bs,if_true,if_false,decide_true,decide_false,reduceIte])
   all_goals rfl
 rw [hs]
 have U95:=ut0 U74 hu79
 have U96:=ut U95 hu92 (all_app (ob_new rd69 U73.size) all0)
 exact ⟨_,rfl,(OwnG.weaken ho91 U73.size),U96⟩
 have q15p:=ne_of_beqi q15
 refine sg<|Pl 3<|nt<|cf hd0<|sg<|Pl 1<|L0<|Olb B13 0<|Pl 2<|nt<|cb ((M.code == 7)) (fun q97=>?_) (fun q97=>?_)
 have q97p:=eq_of_beqi q97
 refine sg<|Pl 1<|L0<|Olb B13 4<|Pl 1<|L0<|Olt (m:=1) (e:=5) #[.int .u8 (M.value % 256)] fun g98 w99 hg100 B101 hu102=>?_
 have ow103:=litB hg100 (xs:=[(M.value % 256)]) (by as_aux_lemma=>kernel_rfl) (rng_cons (by omega) rng_nil) (by (try simp only [List.length_cons,List.length_nil]); omega) B101
 refine Pl 1<|nt<|rt<|br<|tr<|rr (.slice (some ⟨g98,0,none⟩) 1 1)<|?_
 have hs:diagLay dir M=[(M.value % 256)]:=by
   unfold diagLay 
   (try simp only [hd0,q15,q97,bs,if_true,if_false,decide_true,decide_false,reduceIte])
   all_goals rfl
 rw [hs]
 have U104:=ut0 hu14 hu102
 exact ⟨_,rfl,(OwnG.weaken ow103 hu14.size),U104⟩
 have q97p:=ne_of_beqi q97
 refine sg<|Pl 1<|L0<|Olb B13 0<|Pl 2<|nt<|cb ((M.code == 11)) (fun q105=>?_) (fun q105=>?_)
 have q105p:=eq_of_beqi q105
 refine sg<|Pl 1<|L0<|Olb B13 9<|Pl 1<|L0<|Olb B13 10<|L0<|Olt (m:=2) (e:=22) #[.int .u16 M.status,.int .u16 M.events] fun g106 w107 hg108 B109 hu110=>?_
 have ow111:=litW hg108 (xs:=[M.status,M.events]) (by as_aux_lemma=>kernel_rfl) (rng_cons (by omega) (rng_cons (by omega) rng_nil)) (by (try simp only [List.length_cons,List.length_nil]); omega) B109
 refine L0<|Oc<|so2 (put_any (xs:=[M.status,M.events]) (ow111).rd (by (try simp only [List.length_cons,List.length_nil]); omega)) fun A116 cp117 w112 rd120 hl118 hm119 hu115=>Pl 1<|nt<|rt<|br<|tr<|rr (.slice A116 ((putW ([M.status,M.events])).length) cp117)<|?_
 have hs:diagLay dir M=(putW ([M.status,M.events])):=by
   unfold diagLay 
   (try simp only [hd0,q15,q97,q105,bs,if_true,if_false,decide_true,decide_false,reduceIte])
   all_goals rfl
 rw [hs]
 have U121:=ut0 hu14 hu110
 have U122:=ut0 U121 hu115
 exact ⟨_,rfl,(OwnG.weaken rd120 (le hu14.size hu110.size)),U122⟩
 have q105p:=ne_of_beqi q105
 refine sg<|Pl 1<|L0<|Olb B13 0<|Pl 2<|nt<|cb ((M.code == 12)) (fun q123=>?_) (fun q123=>?_)
 have q123p:=eq_of_beqi q123
 refine sq<|Rg 16 (fun w'=>w'.cell? ⟨g10,14,none⟩=some (.slice Ad M.data.length kd)∧w'.cell? ⟨g10,9,none⟩=some (.int .u16 M.status)∧w'.cell? ⟨g10,10,none⟩=some (.int .u16 M.events)∧w'.cell? ⟨g10,11,none⟩=some (.int .u16 M.messages)) fun w201 hu202=>?_
 have r204:=ub hu202 B13
 refine hld ⟨(blk_at r204 rfl),(blk_at r204 rfl),(blk_at r204 rfl),(blk_at r204 rfl)⟩ fun hS203=>Rt 0 hS203<|Rl 1 hS203 (fun _ hs=>hs.1)<|Rt 2 hS203<|Rr 3 hS203 (.int .i64 (6 + ((M.data.length:Nat) : Int))) (fun _ _=>run_eqo (.int .i64 (IntKind.i64.wrap (6 + ((M.data.length:Nat) : Int)))) (by kernel_rfl) (congrArg (Value.int .i64) (IntWalk.i64_in _ (by omega))))<|Rt 4 hS203<|Rt 6 hS203<|Rl 7 hS203 (fun _ hs=>hs.2.1)<|Rt 8 hS203<|Rl 9 hS203 (fun _ hs=>hs.2.2.1)<|Rt 10 hS203<|Rl 11 hS203 (fun _ hs=>hs.2.2.2)<|?_
 refine R2 5 12 rfl rfl ?_ ?_
 refine  Olt (m:=1) (e:=5) #[.int .u8 ((6 + ((M.data.length:Nat) : Int)) % 256)] fun g205 w206 hg207 B208 hu209=>?_
 have ow210:=litB hg207 (xs:=[((6 + ((M.data.length:Nat) : Int)) % 256)]) (by as_aux_lemma=>kernel_rfl) (rng_cons (by omega) rng_nil) (by (try simp only [List.length_cons,List.length_nil]); omega) B208
 have r212:=ub hu209 r204
 refine hld ⟨(blk_at r212 rfl),(blk_at r212 rfl),(blk_at r212 rfl),(blk_at r212 rfl)⟩ fun hS211=>R0 12 rfl<|Olt (m:=3) (e:=22) #[.int .u16 M.status,.int .u16 M.events,.int .u16 M.messages] fun g213 w214 hg215 B216 hu217=>?_
 have ow218:=litW hg215 (xs:=[M.status,M.events,M.messages]) (by as_aux_lemma=>kernel_rfl) (rng_cons (by omega) (rng_cons (by omega) (rng_cons (by omega) rng_nil))) (by (try simp only [List.length_cons,List.length_nil]); omega) B216
 have r220:=ub hu217 r212
 refine hld ⟨(blk_at r220 rfl),(blk_at r220 rfl),(blk_at r220 rfl),(blk_at r220 rfl)⟩ fun hS219=>R0 13 rfl<|Oc<|so2 (put_any (xs:=[M.status,M.events,M.messages]) (ow218).rd (by (try simp only [List.length_cons,List.length_nil]); omega)) fun A225 cp226 w221 rd229 hl227 hm228 hu224=>?_
 have r231:=ub hu224 r220
 refine hld ⟨(blk_at r231 rfl),(blk_at r231 rfl),(blk_at r231 rfl),(blk_at r231 rfl)⟩ fun hS230=>?_
 have U232:=ut0 hu217 hu224
 have r233:=own_stay ow210 U232 (fun x hx=>not0) (fun _ _ h=>h)
 refine R0 14 rfl<|Oapp one_u8 (xs:=([((6 + ((M.data.length:Nat) : Int)) % 256)])) (ys:=(putW ([M.status,M.events,M.messages]))) (.int .u8 0) 1 r233 (rd229).rd (by (try simp only [List.length_append,List.length_cons,List.length_nil,putW_length]); omega) (le (le hu209.size hu217.size) hu224.size) fun A234 cp235 w236 ho237 hu238=>?_
 have r240:=Upd.blk hu238 (not_app (not_old (blk_lt B13) hu202.size ow210) not0) r231
 refine hld ⟨(blk_at r240 rfl),(blk_at r240 rfl),(blk_at r240 rfl),(blk_at r240 rfl)⟩ fun hS239=>Rt 15 hS239<|re<|tn<|sg<|Pl 2<|L0<|Olb r240 14<|?_
 have U241:=ut0 hu14 hu202
 have U242:=ut0 U241 hu209
 have U243:=ut0 U242 hu217
 have U244:=ut0 U243 hu224
 have U245:=ut U244 hu238 (all_app (ob_new ow210 U241.size) all0)
 have r246:=RdB.old hd U245
 refine L0<|Oapp one_u8 (xs:=([((6 + ((M.data.length:Nat) : Int)) % 256)]++(putW ([M.status,M.events,M.messages])))) (ys:=M.data) (.int .u8 0) 1 ho237 r246 (by (try simp only [List.length_append,List.length_cons,List.length_nil,putW_length]); omega) (le (le (le hu209.size hu217.size) hu224.size) hu238.size) fun A247 cp248 w249 ho250 hu251=>Pl 1<|nt<|rt<|br<|tr<|rr (.slice A247 ((([((6 + ((M.data.length:Nat) : Int)) % 256)]++(putW ([M.status,M.events,M.messages])))++M.data).length) cp248)<|?_
 have hs:diagLay dir M=(([((6 + ((M.data.length:Nat) : Int)) % 256)]++(putW ([M.status,M.events,M.messages])))++M.data):=by
   unfold diagLay 
   (try simp only [hd0,q15,q97,q105,q123,bs,if_true,if_false,decide_true,decide_false,reduceIte])
   all_goals rfl
 rw [hs]
 have U252:=ut U245 hu251 (all_app (ob_new ho237 U241.size) all0)
 exact ⟨_,rfl,(OwnG.weaken ho250 U241.size),U252⟩
 refine  Olt (m:=3) (e:=22) #[.int .u16 M.status,.int .u16 M.events,.int .u16 M.messages] fun g253 w254 hg255 B256 hu257=>?_
 have ow258:=litW hg255 (xs:=[M.status,M.events,M.messages]) (by as_aux_lemma=>kernel_rfl) (rng_cons (by omega) (rng_cons (by omega) (rng_cons (by omega) rng_nil))) (by (try simp only [List.length_cons,List.length_nil]); omega) B256
 have r260:=ub hu257 r204
 refine hld ⟨(blk_at r260 rfl),(blk_at r260 rfl),(blk_at r260 rfl),(blk_at r260 rfl)⟩ fun hS259=>?_
 refine R2 5 13 rfl rfl ?_ ?_
 refine  Olt (m:=1) (e:=5) #[.int .u8 ((6 + ((M.data.length:Nat) : Int)) % 256)] fun g261 w262 hg263 B264 hu265=>?_
 have ow266:=litB hg263 (xs:=[((6 + ((M.data.length:Nat) : Int)) % 256)]) (by as_aux_lemma=>kernel_rfl) (rng_cons (by omega) rng_nil) (by (try simp only [List.length_cons,List.length_nil]); omega) B264
 have r268:=ub hu265 r260
 refine hld ⟨(blk_at r268 rfl),(blk_at r268 rfl),(blk_at r268 rfl),(blk_at r268 rfl)⟩ fun hS267=>?_
 have r269:=own_stay ow258 hu265 (fun x hx=>not0) (fun _ _ h=>h)
 refine R0 13 rfl<|Oc<|so2 (put_any (xs:=[M.status,M.events,M.messages]) (r269).rd (by (try simp only [List.length_cons,List.length_nil]); omega)) fun A274 cp275 w270 rd278 hl276 hm277 hu273=>?_
 have r280:=ub hu273 r268
 refine hld ⟨(blk_at r280 rfl),(blk_at r280 rfl),(blk_at r280 rfl),(blk_at r280 rfl)⟩ fun hS279=>?_
 have r281:=own_stay ow266 hu273 (fun x hx=>not0) (fun _ _ h=>h)
 refine R0 14 rfl<|Oapp one_u8 (xs:=([((6 + ((M.data.length:Nat) : Int)) % 256)])) (ys:=(putW ([M.status,M.events,M.messages]))) (.int .u8 0) 1 r281 (rd278).rd (by (try simp only [List.length_append,List.length_cons,List.length_nil,putW_length]); omega) (le hu265.size hu273.size) fun A282 cp283 w284 ho285 hu286=>?_
 have r288:=Upd.blk hu286 (not_app (not_old (blk_lt B13) (le hu202.size hu257.size) ow266) not0) r280
 refine hld ⟨(blk_at r288 rfl),(blk_at r288 rfl),(blk_at r288 rfl),(blk_at r288 rfl)⟩ fun hS287=>Rt 15 hS287<|re<|tn<|sg<|Pl 2<|L0<|Olb r288 14<|?_
 have U289:=ut0 hu14 hu202
 have U290:=ut0 U289 hu257
 have U291:=ut0 U290 hu265
 have U292:=ut0 U291 hu273
 have U293:=ut U292 hu286 (all_app (ob_new ow266 U290.size) all0)
 have r294:=RdB.old hd U293
 refine L0<|Oapp one_u8 (xs:=([((6 + ((M.data.length:Nat) : Int)) % 256)]++(putW ([M.status,M.events,M.messages])))) (ys:=M.data) (.int .u8 0) 1 ho285 r294 (by (try simp only [List.length_append,List.length_cons,List.length_nil,putW_length]); omega) (le (le hu265.size hu273.size) hu286.size) fun A295 cp296 w297 ho298 hu299=>Pl 1<|nt<|rt<|br<|tr<|rr (.slice A295 ((([((6 + ((M.data.length:Nat) : Int)) % 256)]++(putW ([M.status,M.events,M.messages])))++M.data).length) cp296)<|?_
 have hs:diagLay dir M=(([((6 + ((M.data.length:Nat) : Int)) % 256)]++(putW ([M.status,M.events,M.messages])))++M.data):=by
   unfold diagLay 
   (try simp only [hd0,q15,q97,q105,q123,bs,if_true,if_false,decide_true,decide_false,reduceIte])
   all_goals rfl
 rw [hs]
 have U300:=ut U293 hu299 (all_app (ob_new ho285 U290.size) all0)
 exact ⟨_,rfl,(OwnG.weaken ho298 U290.size),U300⟩
 refine  Oc<|so2 (put_any (xs:=[M.status,M.events,M.messages]) (ow258).rd (by (try simp only [List.length_cons,List.length_nil]); omega)) fun A305 cp306 w301 rd309 hl307 hm308 hu304=>?_
 have r311:=ub hu304 r260
 refine hld ⟨(blk_at r311 rfl),(blk_at r311 rfl),(blk_at r311 rfl),(blk_at r311 rfl)⟩ fun hS310=>R0 5 rfl<|Olt (m:=1) (e:=5) #[.int .u8 ((6 + ((M.data.length:Nat) : Int)) % 256)] fun g312 w313 hg314 B315 hu316=>?_
 have ow317:=litB hg314 (xs:=[((6 + ((M.data.length:Nat) : Int)) % 256)]) (by as_aux_lemma=>kernel_rfl) (rng_cons (by omega) rng_nil) (by (try simp only [List.length_cons,List.length_nil]); omega) B315
 have r319:=ub hu316 r311
 refine hld ⟨(blk_at r319 rfl),(blk_at r319 rfl),(blk_at r319 rfl),(blk_at r319 rfl)⟩ fun hS318=>?_
 have r320:=own_stay rd309 hu316 (fun x hx=>not0) (fun _ _ h=>h)
 refine R0 14 rfl<|Oapp one_u8 (xs:=([((6 + ((M.data.length:Nat) : Int)) % 256)])) (ys:=(putW ([M.status,M.events,M.messages]))) (.int .u8 0) 1 ow317 (r320).rd (by (try simp only [List.length_append,List.length_cons,List.length_nil,putW_length]); omega) hu316.size fun A321 cp322 w323 ho324 hu325=>?_
 have r327:=Upd.blk hu325 (not_app (not_old (blk_lt B13) (le (le hu202.size hu257.size) hu304.size) ow317) not0) r319
 refine hld ⟨(blk_at r327 rfl),(blk_at r327 rfl),(blk_at r327 rfl),(blk_at r327 rfl)⟩ fun hS326=>Rt 15 hS326<|re<|tn<|sg<|Pl 2<|L0<|Olb r327 14<|?_
 have U328:=ut0 hu14 hu202
 have U329:=ut0 U328 hu257
 have U330:=ut0 U329 hu304
 have U331:=ut0 U330 hu316
 have U332:=ut U331 hu325 (all_app (ob_new ow317 U330.size) all0)
 have r333:=RdB.old hd U332
 refine L0<|Oapp one_u8 (xs:=([((6 + ((M.data.length:Nat) : Int)) % 256)]++(putW ([M.status,M.events,M.messages])))) (ys:=M.data) (.int .u8 0) 1 ho324 r333 (by (try simp only [List.length_append,List.length_cons,List.length_nil,putW_length]); omega) (le hu316.size hu325.size) fun A334 cp335 w336 ho337 hu338=>Pl 1<|nt<|rt<|br<|tr<|rr (.slice A334 ((([((6 + ((M.data.length:Nat) : Int)) % 256)]++(putW ([M.status,M.events,M.messages])))++M.data).length) cp335)<|?_
 have hs:diagLay dir M=(([((6 + ((M.data.length:Nat) : Int)) % 256)]++(putW ([M.status,M.events,M.messages])))++M.data):=by
   unfold diagLay 
   (try simp only [hd0,q15,q97,q105,q123,bs,if_true,if_false,decide_true,decide_false,reduceIte])
   all_goals rfl
 rw [hs]
 have U339:=ut U332 hu338 (all_app (ob_new ho324 U330.size) all0)
 exact ⟨_,rfl,(OwnG.weaken ho337 U330.size),U339⟩
 have q123p:=ne_of_beqi q123
 refine sk<|bn<|tn<|sg<|Pl 1<|L0<|Olb B13 14<|Pl 2<|L0<|Olt (m:=1) (e:=5) #[.int .u8 (((M.data.length:Nat) : Int) % 256)] fun g340 w341 hg342 B343 hu344=>?_
 have ow345:=litB hg342 (xs:=[(((M.data.length:Nat) : Int) % 256)]) (by as_aux_lemma=>kernel_rfl) (rng_cons (by omega) rng_nil) (by (try simp only [List.length_cons,List.length_nil]); omega) B343
 refine Pl 1<|?_
 have r346:=ub hu344 B13
 refine L0<|Olb r346 14<|?_
 have U347:=ut0 hu14 hu344
 have r348:=RdB.old hd U347
 refine L0<|Oapp one_u8 (xs:=([(((M.data.length:Nat) : Int) % 256)])) (ys:=M.data) (.int .u8 0) 1 ow345 r348 (by (try simp only [List.length_append,List.length_cons,List.length_nil,putW_length]); omega) hu344.size fun A349 cp350 w351 ho352 hu353=>Pl 1<|nt<|rt<|rr (.slice A349 (([(((M.data.length:Nat) : Int) % 256)]++M.data).length) cp350)<|?_
 have hs:diagLay dir M=([(((M.data.length:Nat) : Int) % 256)]++M.data):=by
   unfold diagLay 
   (try simp only [hd0,q15,q97,q105,q123,bs,if_true,if_false,decide_true,decide_false,reduceIte])
   all_goals rfl
 rw [hs]
 have U354:=ut U347 hu353 (all_app (ob_new ow345 hu14.size) all0)
 exact ⟨_,rfl,(OwnG.weaken ho352 hu14.size),U354⟩
theorem diag_lay {m:Bool} {cs:Array Value} {M:Msg} {w:World} {dir:Int} (h:MsgRd m w cs.toList M) (hf:MsgFew M) : Calls Tryz.prog 90 #[.int .i64 dir,.agg cs] w (PLay (diagLay dir M) w):=by
  rcases bool_dich (dir == 0) with h0 | h0
  · exact diag_lay_t h hf h0
  · exact diag_lay_f h hf h0
open Go.RowKit
theorem getD_mem {α:Type} (d:α) (xs:List α) (k:Nat) (h:k < xs.length) : xs.getD k d∈xs:=by
  simp [List.getD_eq_getElem?_getD,List.getElem?_eq_getElem h]
def objB:List Obj→List Int
  | []=>[]
  | o :: r=>([o.id,(o.value.length:Int) % 256]++o.value)++objB r
theorem objB_drop (xs:List Obj) (k:Nat) (h:k < xs.length) : objB (xs.drop k)=([(xs.getD k ⟨0,[]⟩).id,((xs.getD k ⟨0,[]⟩).value.length:Int) % 256]++(xs.getD k ⟨0,[]⟩).value)++objB (xs.drop (k + 1)):=by
  rw [List.drop_eq_getElem_cons h]
  simp [objB,List.getD_eq_getElem?_getD,List.getElem?_eq_getElem h]
def meiLay (dir:Int) (M:Msg) : List Int :=
  if M.mei == 13 then [M.mei]++M.data
  else if dir == 0 then [M.mei,M.kind,M.next]
  else [M.mei,M.kind,M.level,M.more,M.next,(M.objects.length:Int) % 256]++objB M.objects
set_option maxRecDepth 100000 in
set_option maxHeartbeats 4000000 in
theorem mei_lay_t {m:Bool} {cs:Array Value} {M:Msg} {w:World} {dir:Int} (h:MsgRd m w cs.toList M) (hf:MsgFew M) (hd0:(dir == 0)=true) : Calls Tryz.prog 100 #[.int .i64 dir,.agg cs] w (PLay (meiLay dir M) w):=by
 obtain ⟨vw,vb,vd,vr,vo,h0,hw,hbt,hd,hr,ho,hR⟩:=h
 obtain rfl:cs=(msgCells M vw vb vd vr vo).toArray:=by apply Array.toList_inj.1; simpa using h0
 clear h0
 obtain ⟨Aw,kw,rfl,_,_⟩:=hw.shape
 obtain ⟨Ab,kb,rfl,_,_⟩:=hbt.shape
 obtain ⟨Ad,kd,rfl,_,_⟩:=hd.shape
 obtain ⟨Ar,kr,rfl,_,_⟩:=hr.shape
 obtain ⟨Ao,ko,rfl,_,_⟩:=ho.shape
 obtain ⟨q0,q1,q2,q3,q4,q5,q6,q7,q8,q9,q10,q11,q16,q17,q18,q19,q20⟩:=hR
 simp only [B8,B16] at q0 q1 q2 q3 q4 q5 q6 q7 q8 q9 q10 q11 q16 q17 q18 q19 q20
 have hf1:=hf.words
 have hf2:=hf.bits
 have hf3:=hf.data
 have hf4:=hf.recs
 have hf5:=hf.objects
 refine en 64 Tryz.func100 rfl<|sg<|L0<|Obx (mG M.code M.fail M.addr M.count M.value M.and_ M.or_ M.addr2 M.sub M.status M.events M.messages (.slice Aw M.words.length kw) (.slice Ab M.bits.length kb) (.slice Ad M.data.length kd) (.slice Ar M.recs.length kr) M.mei M.kind M.level M.more M.next (.slice Ao M.objects.length ko)) fun g10 w11 hg12 B13 hu14=>Pl 1<|nt<|sq<|bk<|sg<|Pl 1<|L0<|Olb B13 16<|Pl 2<|nl<|?_
 refine tn<|cb ((M.mei == 13)) (fun q15=>?_) (fun q15=>?_)
 have q15p:=eq_of_beqi q15
 refine sg<|Pl 1<|L0<|Olb B13 16<|L0<|Olt (m:=1) (e:=5) #[.int .u8 M.mei] fun g16 w17 hg18 B19 hu20=>?_
 have ow21:=litB hg18 (xs:=[M.mei]) (by as_aux_lemma=>kernel_rfl) (rng_cons (by omega) rng_nil) (by (try simp only [List.length_cons,List.length_nil]); omega) B19
 refine Pl 1<|?_
 have r22:=ub hu20 B13
 refine L0<|Olb r22 14<|?_
 have U23:=ut0 hu14 hu20
 have r24:=RdB.old hd U23
 refine L0<|Oapp one_u8 (xs:=([M.mei])) (ys:=M.data) (.int .u8 0) 1 ow21 r24 (by (try simp only [List.length_append,List.length_cons,List.length_nil,putW_length]); omega) hu20.size fun A25 cp26 w27 ho28 hu29=>Pl 1<|nt<|rt<|br<|tr<|rr (.slice A25 (([M.mei]++M.data).length) cp26)<|?_
 have hs:meiLay dir M=([M.mei]++M.data):=by
   unfold meiLay 
   (try simp only [hd0,q15,bs,if_true,if_false,decide_true,decide_false,reduceIte])
   all_goals rfl
 rw [hs]
 have U30:=ut U23 hu29 (all_app (ob_new ow21 hu14.size) all0)
 exact ⟨_,rfl,(OwnG.weaken ho28 hu14.size),U30⟩
 have q15p:=ne_of_beqi q15
 refine sg<|Pl 3<|nt<|ct hd0<|sg<|Pl 1<|L0<|Olb B13 16<|Pl 1<|L0<|Olb B13 17<|Pl 1<|L0<|Olb B13 20<|?_
 refine L0<|Olt (m:=3) (e:=5) #[.int .u8 M.mei,.int .u8 M.kind,.int .u8 M.next] fun g31 w32 hg33 B34 hu35=>?_
 have ow36:=litB hg33 (xs:=[M.mei,M.kind,M.next]) (by as_aux_lemma=>kernel_rfl) (rng_cons (by omega) (rng_cons (by omega) (rng_cons (by omega) rng_nil))) (by (try simp only [List.length_cons,List.length_nil]); omega) B34
 refine Pl 1<|nt<|rt<|br<|tr<|rr (.slice (some ⟨g31,0,none⟩) 3 3)<|?_
 have hs:meiLay dir M=[M.mei,M.kind,M.next]:=by
   unfold meiLay 
   (try simp only [hd0,q15,bs,if_true,if_false,decide_true,decide_false,reduceIte])
   all_goals rfl
 rw [hs]
 have U37:=ut0 hu14 hu35
 exact ⟨_,rfl,(OwnG.weaken ow36 hu14.size),U37⟩
set_option maxRecDepth 100000 in
set_option maxHeartbeats 4000000 in
theorem mei_lay_f {m:Bool} {cs:Array Value} {M:Msg} {w:World} {dir:Int} (h:MsgRd m w cs.toList M) (hf:MsgFew M) (hd0:(dir == 0)=false) : Calls Tryz.prog 100 #[.int .i64 dir,.agg cs] w (PLay (meiLay dir M) w):=by
 obtain ⟨vw,vb,vd,vr,vo,h0,hw,hbt,hd,hr,ho,hR⟩:=h
 obtain rfl:cs=(msgCells M vw vb vd vr vo).toArray:=by apply Array.toList_inj.1; simpa using h0
 clear h0
 obtain ⟨Aw,kw,rfl,_,_⟩:=hw.shape
 obtain ⟨Ab,kb,rfl,_,_⟩:=hbt.shape
 obtain ⟨Ad,kd,rfl,_,_⟩:=hd.shape
 obtain ⟨Ar,kr,rfl,_,_⟩:=hr.shape
 obtain ⟨Ao,ko,rfl,_,_⟩:=ho.shape
 obtain ⟨q0,q1,q2,q3,q4,q5,q6,q7,q8,q9,q10,q11,q16,q17,q18,q19,q20⟩:=hR
 simp only [B8,B16] at q0 q1 q2 q3 q4 q5 q6 q7 q8 q9 q10 q11 q16 q17 q18 q19 q20
 have hf1:=hf.words
 have hf2:=hf.bits
 have hf3:=hf.data
 have hf4:=hf.recs
 have hf5:=hf.objects
 refine en 64 Tryz.func100 rfl<|sg<|L0<|Obx (mG M.code M.fail M.addr M.count M.value M.and_ M.or_ M.addr2 M.sub M.status M.events M.messages (.slice Aw M.words.length kw) (.slice Ab M.bits.length kb) (.slice Ad M.data.length kd) (.slice Ar M.recs.length kr) M.mei M.kind M.level M.more M.next (.slice Ao M.objects.length ko)) fun g10 w11 hg12 B13 hu14=>Pl 1<|nt<|sq<|bk<|sg<|Pl 1<|L0<|Olb B13 16<|Pl 2<|nl<|?_
 refine tn<|cb ((M.mei == 13)) (fun q15=>?_) (fun q15=>?_)
 have q15p:=eq_of_beqi q15
 refine sg<|Pl 1<|L0<|Olb B13 16<|L0<|Olt (m:=1) (e:=5) #[.int .u8 M.mei] fun g16 w17 hg18 B19 hu20=>?_
 have ow21:=litB hg18 (xs:=[M.mei]) (by as_aux_lemma=>kernel_rfl) (rng_cons (by omega) rng_nil) (by (try simp only [List.length_cons,List.length_nil]); omega) B19
 refine Pl 1<|?_
 have r22:=ub hu20 B13
 refine L0<|Olb r22 14<|?_
 have U23:=ut0 hu14 hu20
 have r24:=RdB.old hd U23
 refine L0<|Oapp one_u8 (xs:=([M.mei])) (ys:=M.data) (.int .u8 0) 1 ow21 r24 (by (try simp only [List.length_append,List.length_cons,List.length_nil,putW_length]); omega) hu20.size fun A25 cp26 w27 ho28 hu29=>Pl 1<|nt<|rt<|br<|tr<|rr (.slice A25 (([M.mei]++M.data).length) cp26)<|?_
 have hs:meiLay dir M=([M.mei]++M.data):=by
   unfold meiLay 
   (try simp only [hd0,q15,bs,if_true,if_false,decide_true,decide_false,reduceIte])
   all_goals rfl
 rw [hs]
 have U30:=ut U23 hu29 (all_app (ob_new ow21 hu14.size) all0)
 exact ⟨_,rfl,(OwnG.weaken ho28 hu14.size),U30⟩
 have q15p:=ne_of_beqi q15
 refine sg<|Pl 3<|nt<|cf hd0<|sk<|bn<|tn<|sg<|Pl 1<|L0<|Olb B13 16<|Pl 1<|L0<|Olb B13 17<|?_
 refine Pl 1<|L0<|Olb B13 18<|Pl 1<|L0<|Olb B13 19<|Pl 1<|L0<|Olb B13 20<|Pl 1<|L0<|Olb B13 21<|Pl 2<|L0<|Olt (m:=6) (e:=5) #[.int .u8 M.mei,.int .u8 M.kind,.int .u8 M.level,.int .u8 M.more,.int .u8 M.next,.int .u8 (((M.objects.length:Nat) : Int) % 256)] fun g31 w32 hg33 B34 hu35=>?_
 have ow36:=litB hg33 (xs:=[M.mei,M.kind,M.level,M.more,M.next,(((M.objects.length:Nat) : Int) % 256)]) (by as_aux_lemma=>kernel_rfl) (rng_cons (by omega) (rng_cons (by omega) (rng_cons (by omega) (rng_cons (by omega) (rng_cons (by omega) (rng_cons (by omega) rng_nil)))))) (by (try simp only [List.length_cons,List.length_nil]); omega) B34
 refine Pl 1<|nt<|sq<|sg<|Pl 1<|?_
 have r37:=ub hu35 B13
 refine L0<|Olb r37 21<|Pl 2<|nt<|bk<|?_
 refine glp (fun x=>[(4,.slice none 0 0),(5,.slice x.2.2.1 x.2.1.length x.2.2.2),(44,.slice Ao M.objects.length ko),(45,.int .i64 ((M.objects.length:Nat) : Int)),(46,.int .i64 ((x.1:Nat) : Int))]) (fun (x:Nat × List Int × Option Addr × Nat) w'=>Upd [] w11 w'∧w32.heap.size≤w'.heap.size∧OwnB w11.heap.size w' (.slice x.2.2.1 x.2.1.length x.2.2.2) x.2.1∧(x.1≤M.objects.length)∧(x.2.1++objB (M.objects.drop x.1)=([M.mei,M.kind,M.level,M.more,M.next,(((M.objects.length:Nat) : Int) % 256)])++objB M.objects)∧(x.2.1.length≤16 + x.1 * 1026)∧(6≤x.2.1.length)) (fun x=>M.objects.length - x.1) (0,[M.mei,M.kind,M.level,M.more,M.next,(((M.objects.length:Nat) : Int) % 256)],some ⟨g31,0,none⟩,6) ⟨hu35,lr,ow36,(by (try dsimp only); omega),rfl,(by (try dsimp only); (try simp only [List.length_cons,List.length_nil]); omega),(by (try dsimp only); (try simp only [List.length_cons,List.length_nil]); omega)⟩ ?_
 rintro ⟨k,L,A,cp⟩ w38 ⟨hu39,hz45,f40,p41,p42,p43,p44⟩
 refine wkc [(4,.slice none 0 0),(5,.slice A L.length cp),(44,.slice Ao M.objects.length ko),(45,.int .i64 ((M.objects.length:Nat) : Int)),(46,.int .i64 ((k:Nat) : Int))] ?_
 have f46:OwnB w11.heap.size w38 (.slice A L.length cp) L:=f40
 have p47:k≤M.objects.length:=p41
 have p48:L++objB (M.objects.drop k)=([M.mei,M.kind,M.level,M.more,M.next,(((M.objects.length:Nat) : Int) % 256)])++objB M.objects:=p42
 have p49:L.length≤16 + k * 1026:=p43
 have p50:6≤L.length:=p44
 have hL:L++objB (M.objects.drop k)=([M.mei,M.kind,M.level,M.more,M.next,(((M.objects.length:Nat) : Int) % 256)])++objB M.objects:=by assumption
 have hv0:=fun (h:k < M.objects.length)=>hf.objv _ (getD_mem ⟨0,[]⟩ M.objects k h)
 refine sg<|Pl 1<|nt<|sq<|?_
 have U51:=ut0 hu14 hu39
 refine cb ((decide (((k:Nat) : Int) < ((M.objects.length:Nat) : Int)))) (fun q52=>?_) (fun q52=>?_)
 have q52p:=of_decide_eq_true q52
 refine skn<|sq<|bk<|sg<|x75 (RdO.elt ho k (by omega)) fun b53 o54 cl55 t56 fr57 A58 cp59 hA60 hb61 hv62 hr63 hs64=>L0<|Oixs 2 M.objects.length k hA60 (by omega)<|?_
 have r65:=ub U51 hb61
 refine L0<|Oel [.int .u8 ((M.objects.getD k ⟨0,[]⟩).id),.slice A58 ((M.objects.getD k ⟨0,[]⟩).value.length) cp59] r65 hs64<|L0<|Oal #[.int .u8 0,.slice none 0 0] fun g66 w67 hg68 B69 hu70=>L0<|Osw B69 #[.int .u8 ((M.objects.getD k ⟨0,[]⟩).id),.slice A58 ((M.objects.getD k ⟨0,[]⟩).value.length) cp59] fun w71 B72 hu73=>nt<|Rg 13 (fun w'=>w'.cell? ⟨g66,0,none⟩=some (.int .u8 ((M.objects.getD k ⟨0,[]⟩).id))∧w'.cell? ⟨g66,1,none⟩=some (.slice A58 ((M.objects.getD k ⟨0,[]⟩).value.length) cp59)) fun w98 hu99=>?_
 have r101:=ub hu99 B72
 refine hld ⟨(blk_at r101 rfl),(blk_at r101 rfl)⟩ fun hS100=>Rt 0 hS100<|Rt 1 hS100<|Rl 2 hS100 (fun _ hs=>hs.1)<|Rt 3 hS100<|Rl 4 hS100 (fun _ hs=>hs.2)<|Rt 5 hS100<|Rt 6 hS100<|Rt 9 hS100<|Rl 10 hS100 (fun _ hs=>hs.2)<|R0 7 rfl<|Olt (m:=2) (e:=5) #[.int .u8 ((M.objects.getD k ⟨0,[]⟩).id),.int .u8 ((((M.objects.getD k ⟨0,[]⟩).value.length:Nat) : Int) % 256)] fun g102 w103 hg104 B105 hu106=>?_
 have ow107:=litB hg104 (xs:=[(M.objects.getD k ⟨0,[]⟩).id,((((M.objects.getD k ⟨0,[]⟩).value.length:Nat) : Int) % 256)]) (by as_aux_lemma=>kernel_rfl) (rng_cons (by omega) (rng_cons (by omega) rng_nil)) (by (try simp only [List.length_cons,List.length_nil]); omega) B105
 have r109:=ub hu106 r101
 refine hld ⟨(blk_at r109 rfl),(blk_at r109 rfl)⟩ fun hS108=>?_
 have U110:=u1 hu70 hu73 (nr hg68)
 have U111:=ut0 U110 hu99
 have U112:=ut0 U111 hu106
 have r113:=own_stay f46 U112 (fun x hx=>not0) (fun _ _ h=>h)
 refine R0 8 rfl<|Oapp one_u8 (xs:=L) (ys:=([(M.objects.getD k ⟨0,[]⟩).id,((((M.objects.getD k ⟨0,[]⟩).value.length:Nat) : Int) % 256)])) (.int .u8 0) 1 r113 (ow107).rd (by (try simp only [List.length_append,List.length_cons,List.length_nil,putW_length]); omega) (le (le (le (le (le hu35.size hz45) hu70.size) hu73.size) hu99.size) hu106.size) fun A114 cp115 w116 ho117 hu118=>?_
 have r120:=Upd.blk hu118 (not_app (not_young f46 lr hg68) not0) r109
 refine hld ⟨(blk_at r120 rfl),(blk_at r120 rfl)⟩ fun hS119=>?_
 have U121:=ut0 U51 hu70
 have U122:=u1 U121 hu73 (ni U51.size hg68)
 have U123:=ut0 U122 hu99
 have U124:=ut0 U123 hu106
 have U125:=ut U124 hu118 (all_app (ob_new f46 hu14.size) all0)
 have r126:=RdB.old hv62 U125
 refine R0 11 rfl<|Oapp one_u8 (xs:=(L++[(M.objects.getD k ⟨0,[]⟩).id,((((M.objects.getD k ⟨0,[]⟩).value.length:Nat) : Int) % 256)])) (ys:=((M.objects.getD k ⟨0,[]⟩).value)) (.int .u8 0) 1 ho117 r126 (by (try simp only [List.length_append,List.length_cons,List.length_nil,putW_length]); omega) (le (le (le (le (le (le hu35.size hz45) hu70.size) hu73.size) hu99.size) hu106.size) hu118.size) fun A127 cp128 w129 ho130 hu131=>?_
 have r133:=Upd.blk hu131 (not_app (not_type r120 ho117 (by decide)) not0) r120
 refine hld ⟨(blk_at r133 rfl),(blk_at r133 rfl)⟩ fun hS132=>Rt 12 hS132<|re<|bn<|tn<|go<|L0<|Oi (((k:Nat) : Int) + 1)<|Pl 1<|nl<|?_
 have U134:=ut0 (Upd.refl [] _) hu39
 have U135:=ut0 U134 hu70
 have U136:=u1 U135 hu73 (ni U134.size hg68)
 have U137:=ut0 U136 hu99
 have U138:=ut0 U137 hu106
 have U139:=ut U138 hu118 (all_app (ob_new f46 lr) all0)
 have U140:=ut U139 hu131 (all_app (ob_new ho117 lr) all0)
 exact lpe ((k + 1),((L++[(M.objects.getD k ⟨0,[]⟩).id,((((M.objects.getD k ⟨0,[]⟩).value.length:Nat) : Int) % 256)])++(M.objects.getD k ⟨0,[]⟩).value),A127,cp128) ⟨U140,(le (le (le (le (le (le hz45 hu70.size) hu73.size) hu99.size) hu106.size) hu118.size) hu131.size),ho130,(by (try dsimp only); omega),(by (try dsimp only); rw [← hL,objB_drop  M.objects k (by omega)]; simp only [List.append_assoc]),(by (try dsimp only); have hv:=hf.objv _ (getD_mem ⟨0,[]⟩ M.objects k (by omega)); (try simp only [List.length_append,List.length_cons,List.length_nil,putW_length]); omega),(by (try dsimp only); (try simp only [List.length_append,List.length_cons,List.length_nil]); omega)⟩ (by omega)
 have q52p:=of_decide_eq_false q52
 refine xt<|tx<|tx<|bx<|tn<|sg<|Pl 2<|nt<|rt<|rr (.slice A L.length cp)<|?_
 have hk:k=M.objects.length:=by omega
 rw [hk,List.drop_length] at hL
 have hL2:L=([M.mei,M.kind,M.level,M.more,M.next,(((M.objects.length:Nat) : Int) % 256)])++objB M.objects:=by rw [← hL]; simp [objB]
 have hs:meiLay dir M=L:=by
   rw [hL2]
   unfold meiLay
   (try simp only [hd0,q15,q52,bs,if_true,if_false,decide_true,decide_false,reduceIte])
   all_goals rfl
 rw [hs]
 exact ⟨_,rfl,(OwnG.weaken f46 hu14.size),U51⟩
theorem mei_lay {m:Bool} {cs:Array Value} {M:Msg} {w:World} {dir:Int} (h:MsgRd m w cs.toList M) (hf:MsgFew M) : Calls Tryz.prog 100 #[.int .i64 dir,.agg cs] w (PLay (meiLay dir M) w):=by
  rcases bool_dich (dir == 0) with h0 | h0
  · exact mei_lay_t h hf h0
  · exact mei_lay_f h hf h0
open Go.RowKit
def recB (dir code:Int) (r:Rec) : List Int:=(if code == 20 && dir == 1 then [(1 + 2 * (r.words.length:Int)) % 256,6] else [6]++putW [r.file,r.record,r.count])++putW r.words
def filesB (dir code:Int) : List Rec→List Int
  | []=>[]
  | r :: rs=>recB dir code r++filesB dir code rs
theorem filesB_drop (dir code:Int) (xs:List Rec) (k:Nat) (h:k < xs.length) : filesB dir code (xs.drop k)=recB dir code (xs.getD k ⟨0,0,0,[]⟩)++filesB dir code (xs.drop (k + 1)):=by
  rw [List.drop_eq_getElem_cons h]
  simp [filesB,List.getD_eq_getElem?_getD,List.getElem?_eq_getElem h]
def filesLay (dir:Int) (M:Msg) : List Int:=([0]++filesB dir M.code M.recs).set 0 (((([0]++filesB dir M.code M.recs).length:Int) - 1) % 256)
set_option maxRecDepth 100000 in
set_option maxHeartbeats 4000000 in
theorem files_lay_t {m:Bool} {cs:Array Value} {M:Msg} {w:World} {dir:Int} (h:MsgRd m w cs.toList M) (hf:MsgFew M) (hd0:(dir == 0)=true) : Calls Tryz.prog 97 #[.int .i64 dir,.agg cs] w (PLay (filesLay dir M) w):=by
 obtain ⟨vw,vb,vd,vr,vo,h0,hw,hbt,hd,hr,ho,hR⟩:=h
 obtain rfl:cs=(msgCells M vw vb vd vr vo).toArray:=by apply Array.toList_inj.1; simpa using h0
 clear h0
 obtain ⟨Aw,kw,rfl,_,_⟩:=hw.shape
 obtain ⟨Ab,kb,rfl,_,_⟩:=hbt.shape
 obtain ⟨Ad,kd,rfl,_,_⟩:=hd.shape
 obtain ⟨Ar,kr,rfl,_,_⟩:=hr.shape
 obtain ⟨Ao,ko,rfl,_,_⟩:=ho.shape
 obtain ⟨q0,q1,q2,q3,q4,q5,q6,q7,q8,q9,q10,q11,q16,q17,q18,q19,q20⟩:=hR
 simp only [B8,B16] at q0 q1 q2 q3 q4 q5 q6 q7 q8 q9 q10 q11 q16 q17 q18 q19 q20
 have hf1:=hf.words
 have hf2:=hf.bits
 have hf3:=hf.data
 have hf4:=hf.recs
 have hf5:=hf.objects
 refine en 58 Tryz.func97 rfl<|sg<|L0<|Obx (mG M.code M.fail M.addr M.count M.value M.and_ M.or_ M.addr2 M.sub M.status M.events M.messages (.slice Aw M.words.length kw) (.slice Ab M.bits.length kb) (.slice Ad M.data.length kd) (.slice Ar M.recs.length kr) M.mei M.kind M.level M.more M.next (.slice Ao M.objects.length ko)) fun g10 w11 hg12 B13 hu14=>Pl 1<|ng<|L0<|Olt (m:=1) (e:=5) #[.int .u8 0] fun g15 w16 hg17 B18 hu19=>?_
 have ow20:=litB hg17 (xs:=[0]) (by as_aux_lemma=>kernel_rfl) (rng_cons (by omega) rng_nil) (by (try simp only [List.length_cons,List.length_nil]); omega) B18
 refine Pl 1<|nt<|sq<|sg<|Pl 1<|?_
 have r21:=ub hu19 B13
 refine L0<|Olb r21 15<|Pl 2<|nt<|bk<|?_
 refine glp (fun x=>[(0,.int .i64 dir),(3,.pointer (some ⟨g10,0,none⟩)),(4,.slice none 0 0),(5,.slice x.2.2.1 x.2.1.length x.2.2.2),(10,.slice Ar M.recs.length kr),(11,.int .i64 ((M.recs.length:Nat) : Int)),(12,.int .i64 ((x.1:Nat) : Int))]) (fun (x:Nat × List Int × Option Addr × Nat) w'=>Upd [] w11 w'∧w16.heap.size≤w'.heap.size∧OwnB w11.heap.size w' (.slice x.2.2.1 x.2.1.length x.2.2.2) x.2.1∧(x.1≤M.recs.length)∧(x.2.1++filesB dir M.code (M.recs.drop x.1)=([0])++filesB dir M.code M.recs)∧(x.2.1.length≤16 + x.1 * 2060)∧(1≤x.2.1.length)) (fun x=>M.recs.length - x.1) (0,[0],some ⟨g15,0,none⟩,1) ⟨hu19,lr,ow20,(by (try dsimp only); omega),rfl,(by (try dsimp only); (try simp only [List.length_cons,List.length_nil]); omega),(by (try dsimp only); (try simp only [List.length_cons,List.length_nil]); omega)⟩ ?_
 rintro ⟨k,L,A,cp⟩ w22 ⟨hu23,hz29,f24,p25,p26,p27,p28⟩
 refine wkc [(0,.int .i64 dir),(3,.pointer (some ⟨g10,0,none⟩)),(4,.slice none 0 0),(5,.slice A L.length cp),(10,.slice Ar M.recs.length kr),(11,.int .i64 ((M.recs.length:Nat) : Int)),(12,.int .i64 ((k:Nat) : Int))] ?_
 have f30:OwnB w11.heap.size w22 (.slice A L.length cp) L:=f24
 have p31:k≤M.recs.length:=p25
 have p32:L++filesB dir M.code (M.recs.drop k)=([0])++filesB dir M.code M.recs:=p26
 have p33:L.length≤16 + k * 2060:=p27
 have p34:1≤L.length:=p28
 have hL:L++filesB dir M.code (M.recs.drop k)=([0])++filesB dir M.code M.recs:=by assumption
 have hv0:=fun (h:k < M.recs.length)=>hf.recw _ (getD_mem ⟨0,0,0,[]⟩ M.recs k h)
 refine sg<|Pl 1<|nt<|sq<|?_
 have U35:=ut0 hu14 hu23
 refine cb ((decide (((k:Nat) : Int) < ((M.recs.length:Nat) : Int)))) (fun q36=>?_) (fun q36=>?_)
 have q36p:=of_decide_eq_true q36
 refine skn<|sq<|bk<|sg<|x75 (RdR.elt hr k (by omega)) fun b37 o38 cl39 t40 fr41 A42 cp43 hA44 hb45 hv46 hr47 hs48=>L0<|Oixs 4 M.recs.length k hA44 (by omega)<|?_
 have r49:=ub U35 hb45
 refine L0<|Oel [.int .u16 ((M.recs.getD k ⟨0,0,0,[]⟩).file),.int .u16 ((M.recs.getD k ⟨0,0,0,[]⟩).record),.int .u16 ((M.recs.getD k ⟨0,0,0,[]⟩).count),.slice A42 ((M.recs.getD k ⟨0,0,0,[]⟩).words.length) cp43] r49 hs48<|L0<|Oal #[.int .u16 0,.int .u16 0,.int .u16 0,.slice none 0 0] fun g50 w51 hg52 B53 hu54=>L0<|Osw B53 #[.int .u16 ((M.recs.getD k ⟨0,0,0,[]⟩).file),.int .u16 ((M.recs.getD k ⟨0,0,0,[]⟩).record),.int .u16 ((M.recs.getD k ⟨0,0,0,[]⟩).count),.slice A42 ((M.recs.getD k ⟨0,0,0,[]⟩).words.length) cp43] fun w55 B56 hu57=>nt<|sq<|bk<|sg<|Pl 1<|?_
 have U58:=ut0 (Upd.refl [] _) hu23
 have U59:=ut0 U58 hu54
 have U60:=u1 U59 hu57 (ni U58.size hg52)
 have r61:=ub U60 B13
 refine L0<|Olb r61 0<|Pl 2<|cu 3 [32] 35 (((M.code == 20) && (dir == 1))) (fun K K63=>?_) ?_
 refine bl 32 ((M.code == 20)) (fun q62=>?_) (fun q62=>?_)
 have q62p:=eq_of_beqi q62
 exact Pl 3<|ce K63 (dir == 1) (by rw [q62]; rfl)
 have q62p:=ne_of_beqi q62
 exact Pl 3<|ce K63 false (by rw [q62]; rfl)
 refine Pl 1<|nt<|?_
 have U64:=ut0 U35 hu54
 have U65:=u1 U64 hu57 (ni U35.size hg52)
 refine cb (((M.code == 20) && (dir == 1))) (fun q66=>?_) (fun q66=>?_)
 have q66a:=(and_t q66).1
 have q66b:=(and_t q66).2
 have q66ap:=eq_of_beqi q66a
 have q66bp:=eq_of_beqi q66b
 refine go<|Pl 2<|L0<|Olb B56 3<|Pl 1<|L0<|Oi (2 * (((M.recs.getD k ⟨0,0,0,[]⟩).words.length:Nat) : Int))<|L0<|Oi (1 + (2 * (((M.recs.getD k ⟨0,0,0,[]⟩).words.length:Nat) : Int)))<|Pl 1<|L0<|Olt (m:=2) (e:=5) #[.int .u8 ((1 + (2 * (((M.recs.getD k ⟨0,0,0,[]⟩).words.length:Nat) : Int))) % 256),.int .u8 6] fun g67 w68 hg69 B70 hu71=>?_
 have ow72:=litB hg69 (xs:=[((1 + (2 * (((M.recs.getD k ⟨0,0,0,[]⟩).words.length:Nat) : Int))) % 256),6]) (by as_aux_lemma=>kernel_rfl) (rng_cons (by omega) (rng_cons (by omega) rng_nil)) (by (try simp only [List.length_cons,List.length_nil]); omega) B70
 have U73:=u1 hu54 hu57 (nr hg52)
 have U74:=ut0 U73 hu71
 have r75:=own_stay f30 U74 (fun x hx=>not0) (fun _ _ h=>h)
 refine L0<|Oapp one_u8 (xs:=L) (ys:=([((1 + (2 * (((M.recs.getD k ⟨0,0,0,[]⟩).words.length:Nat) : Int))) % 256),6])) (.int .u8 0) 1 r75 (ow72).rd (by (try simp only [List.length_append,List.length_cons,List.length_nil,putW_length]); omega) (le (le (le (le hu19.size hz29) hu54.size) hu57.size) hu71.size) fun A76 cp77 w78 ho79 hu80=>Pl 1<|nl<|bn<|tn<|go<|Pl 2<|?_
 have U81:=ut (Upd.mono (S':=(ob A++[])) hu71 all0) hu80 (all_app (fun x hx=>Or.inl (by simp [hx])) all0)
 have r82:=Upd.blk U81 (not_app (not_young f30 lr hg52) not0) B56
 refine L0<|Olb r82 3<|?_
 have U83:=ut0 U65 hu71
 have U84:=ut U83 hu80 (all_app (ob_new f30 hu14.size) all0)
 have r85:=RdW.old hv46 U84
 refine L0<|Oc<|so2 (put_any (xs:=(M.recs.getD k ⟨0,0,0,[]⟩).words) r85 (by (try simp only [List.length_cons,List.length_nil]); omega)) fun A90 cp91 w86 rd94 hl92 hm93 hu89=>?_
 have r95:=own_stay ho79 hu89 (fun x hx=>not0) (fun _ _ h=>h)
 refine L0<|Oapp one_u8 (xs:=(L++[((1 + (2 * (((M.recs.getD k ⟨0,0,0,[]⟩).words.length:Nat) : Int))) % 256),6])) (ys:=(putW ((M.recs.getD k ⟨0,0,0,[]⟩).words))) (.int .u8 0) 1 r95 (rd94).rd (by (try simp only [List.length_append,List.length_cons,List.length_nil,putW_length]); omega) (le (le (le (le (le (le hu19.size hz29) hu54.size) hu57.size) hu71.size) hu80.size) hu89.size) fun A96 cp97 w98 ho99 hu100=>Pl 1<|nl<|bn<|tn<|go<|L0<|Oi (((k:Nat) : Int) + 1)<|Pl 1<|nl<|?_
 have U101:=ut0 U60 hu71
 have U102:=ut U101 hu80 (all_app (ob_new f30 lr) all0)
 have U103:=ut0 U102 hu89
 have U104:=ut U103 hu100 (all_app (ob_new ho79 lr) all0)
 exact lpe ((k + 1),((L++[((1 + (2 * (((M.recs.getD k ⟨0,0,0,[]⟩).words.length:Nat) : Int))) % 256),6])++(putW ((M.recs.getD k ⟨0,0,0,[]⟩).words))),A96,cp97) ⟨U104,(le (le (le (le (le (le hz29 hu54.size) hu57.size) hu71.size) hu80.size) hu89.size) hu100.size),ho99,(by (try dsimp only); omega),(by (try dsimp only); rw [← hL,filesB_drop dir M.code M.recs k (by omega)]; simp only [recB,hd0,q36,q66,q66a,q66b,bs,if_true,if_false,decide_true,decide_false,List.append_assoc]),(by (try dsimp only); have hv:=hf.recw _ (getD_mem ⟨0,0,0,[]⟩ M.recs k (by omega)); (try simp only [List.length_append,List.length_cons,List.length_nil,putW_length]); omega),(by (try dsimp only); (try simp only [List.length_append,List.length_cons,List.length_nil]); omega)⟩ (by omega)
 refine Rg 13 (fun w'=>w'.cell? ⟨g50,0,none⟩=some (.int .u16 ((M.recs.getD k ⟨0,0,0,[]⟩).file))∧w'.cell? ⟨g50,1,none⟩=some (.int .u16 ((M.recs.getD k ⟨0,0,0,[]⟩).record))∧w'.cell? ⟨g50,2,none⟩=some (.int .u16 ((M.recs.getD k ⟨0,0,0,[]⟩).count))) fun w211 hu212=>?_
 have r214:=ub hu212 B56
 refine hld ⟨(blk_at r214 rfl),(blk_at r214 rfl),(blk_at r214 rfl)⟩ fun hS213=>Rt 0 hS213<|Rt 3 hS213<|Rl 4 hS213 (fun _ hs=>hs.1)<|Rt 5 hS213<|Rl 6 hS213 (fun _ hs=>hs.2.1)<|Rt 7 hS213<|Rl 8 hS213 (fun _ hs=>hs.2.2)<|?_
 refine R2 1 9 rfl rfl ?_ ?_
 refine  Olt (m:=1) (e:=5) #[.int .u8 6] fun g215 w216 hg217 B218 hu219=>?_
 have ow220:=litB hg217 (xs:=[6]) (by as_aux_lemma=>kernel_rfl) (rng_cons (by omega) rng_nil) (by (try simp only [List.length_cons,List.length_nil]); omega) B218
 have r222:=ub hu219 r214
 refine hld ⟨(blk_at r222 rfl),(blk_at r222 rfl),(blk_at r222 rfl)⟩ fun hS221=>?_
 refine R2 2 9 rfl rfl ?_ ?_
 have U223:=u1 hu54 hu57 (nr hg52)
 have U224:=ut0 U223 hu212
 have U225:=ut0 U224 hu219
 have r226:=own_stay f30 U225 (fun x hx=>not0) (fun _ _ h=>h)
 refine  Oapp one_u8 (xs:=L) (ys:=([6])) (.int .u8 0) 1 r226 (ow220).rd (by (try simp only [List.length_append,List.length_cons,List.length_nil,putW_length]); omega) (le (le (le (le (le hu19.size hz29) hu54.size) hu57.size) hu212.size) hu219.size) fun A227 cp228 w229 ho230 hu231=>?_
 have r233:=Upd.blk hu231 (not_app (not_young f30 lr hg52) not0) r222
 refine hld ⟨(blk_at r233 rfl),(blk_at r233 rfl),(blk_at r233 rfl)⟩ fun hS232=>R0 9 rfl<|Olt (m:=3) (e:=22) #[.int .u16 ((M.recs.getD k ⟨0,0,0,[]⟩).file),.int .u16 ((M.recs.getD k ⟨0,0,0,[]⟩).record),.int .u16 ((M.recs.getD k ⟨0,0,0,[]⟩).count)] fun g234 w235 hg236 B237 hu238=>?_
 have ow239:=litW hg236 (xs:=[(M.recs.getD k ⟨0,0,0,[]⟩).file,(M.recs.getD k ⟨0,0,0,[]⟩).record,(M.recs.getD k ⟨0,0,0,[]⟩).count]) (by as_aux_lemma=>kernel_rfl) (rng_cons (by omega) (rng_cons (by omega) (rng_cons (by omega) rng_nil))) (by (try simp only [List.length_cons,List.length_nil]); omega) B237
 have r241:=ub hu238 r233
 refine hld ⟨(blk_at r241 rfl),(blk_at r241 rfl),(blk_at r241 rfl)⟩ fun hS240=>R0 10 rfl<|Oc<|so2 (put_any (xs:=[(M.recs.getD k ⟨0,0,0,[]⟩).file,(M.recs.getD k ⟨0,0,0,[]⟩).record,(M.recs.getD k ⟨0,0,0,[]⟩).count]) (ow239).rd (by (try simp only [List.length_cons,List.length_nil]); omega)) fun A246 cp247 w242 rd250 hl248 hm249 hu245=>?_
 have r252:=ub hu245 r241
 refine hld ⟨(blk_at r252 rfl),(blk_at r252 rfl),(blk_at r252 rfl)⟩ fun hS251=>?_
 have U253:=ut0 hu238 hu245
 have r254:=own_stay ho230 U253 (fun x hx=>not0) (fun _ _ h=>h)
 refine R0 11 rfl<|Oapp one_u8 (xs:=(L++[6])) (ys:=(putW ([(M.recs.getD k ⟨0,0,0,[]⟩).file,(M.recs.getD k ⟨0,0,0,[]⟩).record,(M.recs.getD k ⟨0,0,0,[]⟩).count]))) (.int .u8 0) 1 r254 (rd250).rd (by (try simp only [List.length_append,List.length_cons,List.length_nil,putW_length]); omega) (le (le (le (le (le (le (le (le hu19.size hz29) hu54.size) hu57.size) hu212.size) hu219.size) hu231.size) hu238.size) hu245.size) fun A255 cp256 w257 ho258 hu259=>?_
 have r261:=Upd.blk hu259 (not_app (not_type r252 r254 (by decide)) not0) r252
 refine hld ⟨(blk_at r261 rfl),(blk_at r261 rfl),(blk_at r261 rfl)⟩ fun hS260=>Rt 12 hS260<|re<|bn<|tn<|go<|Pl 2<|L0<|Olb r261 3<|?_
 have U262:=ut0 U65 hu212
 have U263:=ut0 U262 hu219
 have U264:=ut U263 hu231 (all_app (ob_new f30 hu14.size) all0)
 have U265:=ut0 U264 hu238
 have U266:=ut0 U265 hu245
 have U267:=ut U266 hu259 (all_app (ob_new ho230 hu14.size) all0)
 have r268:=RdW.old hv46 U267
 refine L0<|Oc<|so2 (put_any (xs:=(M.recs.getD k ⟨0,0,0,[]⟩).words) r268 (by (try simp only [List.length_cons,List.length_nil]); omega)) fun A273 cp274 w269 rd277 hl275 hm276 hu272=>?_
 have r278:=own_stay ho258 hu272 (fun x hx=>not0) (fun _ _ h=>h)
 refine L0<|Oapp one_u8 (xs:=((L++[6])++(putW ([(M.recs.getD k ⟨0,0,0,[]⟩).file,(M.recs.getD k ⟨0,0,0,[]⟩).record,(M.recs.getD k ⟨0,0,0,[]⟩).count])))) (ys:=(putW ((M.recs.getD k ⟨0,0,0,[]⟩).words))) (.int .u8 0) 1 r278 (rd277).rd (by (try simp only [List.length_append,List.length_cons,List.length_nil,putW_length]); omega) (le (le (le (le (le (le (le (le (le (le hu19.size hz29) hu54.size) hu57.size) hu212.size) hu219.size) hu231.size) hu238.size) hu245.size) hu259.size) hu272.size) fun A279 cp280 w281 ho282 hu283=>Pl 1<|nl<|bn<|tn<|go<|L0<|Oi (((k:Nat) : Int) + 1)<|Pl 1<|nl<|?_
 have U284:=ut0 U60 hu212
 have U285:=ut0 U284 hu219
 have U286:=ut U285 hu231 (all_app (ob_new f30 lr) all0)
 have U287:=ut0 U286 hu238
 have U288:=ut0 U287 hu245
 have U289:=ut U288 hu259 (all_app (ob_new ho230 lr) all0)
 have U290:=ut0 U289 hu272
 have U291:=ut U290 hu283 (all_app (ob_new ho258 lr) all0)
 exact lpe ((k + 1),(((L++[6])++(putW ([(M.recs.getD k ⟨0,0,0,[]⟩).file,(M.recs.getD k ⟨0,0,0,[]⟩).record,(M.recs.getD k ⟨0,0,0,[]⟩).count])))++(putW ((M.recs.getD k ⟨0,0,0,[]⟩).words))),A279,cp280) ⟨U291,(le (le (le (le (le (le (le (le (le (le hz29 hu54.size) hu57.size) hu212.size) hu219.size) hu231.size) hu238.size) hu245.size) hu259.size) hu272.size) hu283.size),ho282,(by (try dsimp only); omega),(by (try dsimp only); rw [← hL,filesB_drop dir M.code M.recs k (by omega)]; simp only [recB,hd0,q36,q66,bs,if_true,if_false,decide_true,decide_false,List.append_assoc]),(by (try dsimp only); have hv:=hf.recw _ (getD_mem ⟨0,0,0,[]⟩ M.recs k (by omega)); (try simp only [List.length_append,List.length_cons,List.length_nil,putW_length]); omega),(by (try dsimp only); (try simp only [List.length_append,List.length_cons,List.length_nil]); omega)⟩ (by omega)
 refine  Olt (m:=3) (e:=22) #[.int .u16 ((M.recs.getD k ⟨0,0,0,[]⟩).file),.int .u16 ((M.recs.getD k ⟨0,0,0,[]⟩).record),.int .u16 ((M.recs.getD k ⟨0,0,0,[]⟩).count)] fun g292 w293 hg294 B295 hu296=>?_
 have ow297:=litW hg294 (xs:=[(M.recs.getD k ⟨0,0,0,[]⟩).file,(M.recs.getD k ⟨0,0,0,[]⟩).record,(M.recs.getD k ⟨0,0,0,[]⟩).count]) (by as_aux_lemma=>kernel_rfl) (rng_cons (by omega) (rng_cons (by omega) (rng_cons (by omega) rng_nil))) (by (try simp only [List.length_cons,List.length_nil]); omega) B295
 have r299:=ub hu296 r222
 refine hld ⟨(blk_at r299 rfl),(blk_at r299 rfl),(blk_at r299 rfl)⟩ fun hS298=>?_
 have U300:=u1 hu54 hu57 (nr hg52)
 have U301:=ut0 U300 hu212
 have U302:=ut0 U301 hu219
 have U303:=ut0 U302 hu296
 have r304:=own_stay f30 U303 (fun x hx=>not0) (fun _ _ h=>h)
 have r305:=own_stay ow220 hu296 (fun x hx=>not0) (fun _ _ h=>h)
 refine R0 2 rfl<|Oapp one_u8 (xs:=L) (ys:=([6])) (.int .u8 0) 1 r304 (r305).rd (by (try simp only [List.length_append,List.length_cons,List.length_nil,putW_length]); omega) (le (le (le (le (le (le hu19.size hz29) hu54.size) hu57.size) hu212.size) hu219.size) hu296.size) fun A306 cp307 w308 ho309 hu310=>?_
 have r312:=Upd.blk hu310 (not_app (not_young f30 lr hg52) not0) r299
 refine hld ⟨(blk_at r312 rfl),(blk_at r312 rfl),(blk_at r312 rfl)⟩ fun hS311=>?_
 have r313:=own_stay ow297 hu310 (fun x hx=>(not_app ((rows_young ow297 f30 U302.size) x hx) not0)) (fun _ _ h=>h)
 refine R0 10 rfl<|Oc<|so2 (put_any (xs:=[(M.recs.getD k ⟨0,0,0,[]⟩).file,(M.recs.getD k ⟨0,0,0,[]⟩).record,(M.recs.getD k ⟨0,0,0,[]⟩).count]) (r313).rd (by (try simp only [List.length_cons,List.length_nil]); omega)) fun A318 cp319 w314 rd322 hl320 hm321 hu317=>?_
 have r324:=ub hu317 r312
 refine hld ⟨(blk_at r324 rfl),(blk_at r324 rfl),(blk_at r324 rfl)⟩ fun hS323=>?_
 have r325:=own_stay ho309 hu317 (fun x hx=>not0) (fun _ _ h=>h)
 refine R0 11 rfl<|Oapp one_u8 (xs:=(L++[6])) (ys:=(putW ([(M.recs.getD k ⟨0,0,0,[]⟩).file,(M.recs.getD k ⟨0,0,0,[]⟩).record,(M.recs.getD k ⟨0,0,0,[]⟩).count]))) (.int .u8 0) 1 r325 (rd322).rd (by (try simp only [List.length_append,List.length_cons,List.length_nil,putW_length]); omega) (le (le (le (le (le (le (le (le hu19.size hz29) hu54.size) hu57.size) hu212.size) hu219.size) hu296.size) hu310.size) hu317.size) fun A326 cp327 w328 ho329 hu330=>?_
 have r332:=Upd.blk hu330 (not_app (not_type r324 r325 (by decide)) not0) r324
 refine hld ⟨(blk_at r332 rfl),(blk_at r332 rfl),(blk_at r332 rfl)⟩ fun hS331=>Rt 12 hS331<|re<|bn<|tn<|go<|Pl 2<|L0<|Olb r332 3<|?_
 have U333:=ut0 U65 hu212
 have U334:=ut0 U333 hu219
 have U335:=ut0 U334 hu296
 have U336:=ut U335 hu310 (all_app (ob_new f30 hu14.size) all0)
 have U337:=ut0 U336 hu317
 have U338:=ut U337 hu330 (all_app (ob_new ho309 hu14.size) all0)
 have r339:=RdW.old hv46 U338
 refine L0<|Oc<|so2 (put_any (xs:=(M.recs.getD k ⟨0,0,0,[]⟩).words) r339 (by (try simp only [List.length_cons,List.length_nil]); omega)) fun A344 cp345 w340 rd348 hl346 hm347 hu343=>?_
 have r349:=own_stay ho329 hu343 (fun x hx=>not0) (fun _ _ h=>h)
 refine L0<|Oapp one_u8 (xs:=((L++[6])++(putW ([(M.recs.getD k ⟨0,0,0,[]⟩).file,(M.recs.getD k ⟨0,0,0,[]⟩).record,(M.recs.getD k ⟨0,0,0,[]⟩).count])))) (ys:=(putW ((M.recs.getD k ⟨0,0,0,[]⟩).words))) (.int .u8 0) 1 r349 (rd348).rd (by (try simp only [List.length_append,List.length_cons,List.length_nil,putW_length]); omega) (le (le (le (le (le (le (le (le (le (le hu19.size hz29) hu54.size) hu57.size) hu212.size) hu219.size) hu296.size) hu310.size) hu317.size) hu330.size) hu343.size) fun A350 cp351 w352 ho353 hu354=>Pl 1<|nl<|bn<|tn<|go<|L0<|Oi (((k:Nat) : Int) + 1)<|Pl 1<|nl<|?_
 have U355:=ut0 U60 hu212
 have U356:=ut0 U355 hu219
 have U357:=ut0 U356 hu296
 have U358:=ut U357 hu310 (all_app (ob_new f30 lr) all0)
 have U359:=ut0 U358 hu317
 have U360:=ut U359 hu330 (all_app (ob_new ho309 lr) all0)
 have U361:=ut0 U360 hu343
 have U362:=ut U361 hu354 (all_app (ob_new ho329 lr) all0)
 exact lpe ((k + 1),(((L++[6])++(putW ([(M.recs.getD k ⟨0,0,0,[]⟩).file,(M.recs.getD k ⟨0,0,0,[]⟩).record,(M.recs.getD k ⟨0,0,0,[]⟩).count])))++(putW ((M.recs.getD k ⟨0,0,0,[]⟩).words))),A350,cp351) ⟨U362,(le (le (le (le (le (le (le (le (le (le hz29 hu54.size) hu57.size) hu212.size) hu219.size) hu296.size) hu310.size) hu317.size) hu330.size) hu343.size) hu354.size),ho353,(by (try dsimp only); omega),(by (try dsimp only); rw [← hL,filesB_drop dir M.code M.recs k (by omega)]; simp only [recB,hd0,q36,q66,bs,if_true,if_false,decide_true,decide_false,List.append_assoc]),(by (try dsimp only); have hv:=hf.recw _ (getD_mem ⟨0,0,0,[]⟩ M.recs k (by omega)); (try simp only [List.length_append,List.length_cons,List.length_nil,putW_length]); omega),(by (try dsimp only); (try simp only [List.length_append,List.length_cons,List.length_nil]); omega)⟩ (by omega)
 refine  Olt (m:=3) (e:=22) #[.int .u16 ((M.recs.getD k ⟨0,0,0,[]⟩).file),.int .u16 ((M.recs.getD k ⟨0,0,0,[]⟩).record),.int .u16 ((M.recs.getD k ⟨0,0,0,[]⟩).count)] fun g363 w364 hg365 B366 hu367=>?_
 have ow368:=litW hg365 (xs:=[(M.recs.getD k ⟨0,0,0,[]⟩).file,(M.recs.getD k ⟨0,0,0,[]⟩).record,(M.recs.getD k ⟨0,0,0,[]⟩).count]) (by as_aux_lemma=>kernel_rfl) (rng_cons (by omega) (rng_cons (by omega) (rng_cons (by omega) rng_nil))) (by (try simp only [List.length_cons,List.length_nil]); omega) B366
 have r370:=ub hu367 r214
 refine hld ⟨(blk_at r370 rfl),(blk_at r370 rfl),(blk_at r370 rfl)⟩ fun hS369=>R0 1 rfl<|Olt (m:=1) (e:=5) #[.int .u8 6] fun g371 w372 hg373 B374 hu375=>?_
 have ow376:=litB hg373 (xs:=[6]) (by as_aux_lemma=>kernel_rfl) (rng_cons (by omega) rng_nil) (by (try simp only [List.length_cons,List.length_nil]); omega) B374
 have r378:=ub hu375 r370
 refine hld ⟨(blk_at r378 rfl),(blk_at r378 rfl),(blk_at r378 rfl)⟩ fun hS377=>?_
 have U379:=u1 hu54 hu57 (nr hg52)
 have U380:=ut0 U379 hu212
 have U381:=ut0 U380 hu367
 have U382:=ut0 U381 hu375
 have r383:=own_stay f30 U382 (fun x hx=>not0) (fun _ _ h=>h)
 refine R0 2 rfl<|Oapp one_u8 (xs:=L) (ys:=([6])) (.int .u8 0) 1 r383 (ow376).rd (by (try simp only [List.length_append,List.length_cons,List.length_nil,putW_length]); omega) (le (le (le (le (le (le hu19.size hz29) hu54.size) hu57.size) hu212.size) hu367.size) hu375.size) fun A384 cp385 w386 ho387 hu388=>?_
 have r390:=Upd.blk hu388 (not_app (not_young f30 lr hg52) not0) r378
 refine hld ⟨(blk_at r390 rfl),(blk_at r390 rfl),(blk_at r390 rfl)⟩ fun hS389=>?_
 have U391:=ut (Upd.mono (S':=(ob A++[])) hu375 all0) hu388 (all_app (fun x hx=>Or.inl (by simp [hx])) all0)
 have r392:=own_stay ow368 U391 (fun x hx=>(not_app ((rows_young ow368 f30 U380.size) x hx) not0)) (fun _ _ h=>h)
 refine R0 10 rfl<|Oc<|so2 (put_any (xs:=[(M.recs.getD k ⟨0,0,0,[]⟩).file,(M.recs.getD k ⟨0,0,0,[]⟩).record,(M.recs.getD k ⟨0,0,0,[]⟩).count]) (r392).rd (by (try simp only [List.length_cons,List.length_nil]); omega)) fun A397 cp398 w393 rd401 hl399 hm400 hu396=>?_
 have r403:=ub hu396 r390
 refine hld ⟨(blk_at r403 rfl),(blk_at r403 rfl),(blk_at r403 rfl)⟩ fun hS402=>?_
 have r404:=own_stay ho387 hu396 (fun x hx=>not0) (fun _ _ h=>h)
 refine R0 11 rfl<|Oapp one_u8 (xs:=(L++[6])) (ys:=(putW ([(M.recs.getD k ⟨0,0,0,[]⟩).file,(M.recs.getD k ⟨0,0,0,[]⟩).record,(M.recs.getD k ⟨0,0,0,[]⟩).count]))) (.int .u8 0) 1 r404 (rd401).rd (by (try simp only [List.length_append,List.length_cons,List.length_nil,putW_length]); omega) (le (le (le (le (le (le (le (le hu19.size hz29) hu54.size) hu57.size) hu212.size) hu367.size) hu375.size) hu388.size) hu396.size) fun A405 cp406 w407 ho408 hu409=>?_
 have r411:=Upd.blk hu409 (not_app (not_type r403 r404 (by decide)) not0) r403
 refine hld ⟨(blk_at r411 rfl),(blk_at r411 rfl),(blk_at r411 rfl)⟩ fun hS410=>Rt 12 hS410<|re<|bn<|tn<|go<|Pl 2<|L0<|Olb r411 3<|?_
 have U412:=ut0 U65 hu212
 have U413:=ut0 U412 hu367
 have U414:=ut0 U413 hu375
 have U415:=ut U414 hu388 (all_app (ob_new f30 hu14.size) all0)
 have U416:=ut0 U415 hu396
 have U417:=ut U416 hu409 (all_app (ob_new ho387 hu14.size) all0)
 have r418:=RdW.old hv46 U417
 refine L0<|Oc<|so2 (put_any (xs:=(M.recs.getD k ⟨0,0,0,[]⟩).words) r418 (by (try simp only [List.length_cons,List.length_nil]); omega)) fun A423 cp424 w419 rd427 hl425 hm426 hu422=>?_
 have r428:=own_stay ho408 hu422 (fun x hx=>not0) (fun _ _ h=>h)
 refine L0<|Oapp one_u8 (xs:=((L++[6])++(putW ([(M.recs.getD k ⟨0,0,0,[]⟩).file,(M.recs.getD k ⟨0,0,0,[]⟩).record,(M.recs.getD k ⟨0,0,0,[]⟩).count])))) (ys:=(putW ((M.recs.getD k ⟨0,0,0,[]⟩).words))) (.int .u8 0) 1 r428 (rd427).rd (by (try simp only [List.length_append,List.length_cons,List.length_nil,putW_length]); omega) (le (le (le (le (le (le (le (le (le (le hu19.size hz29) hu54.size) hu57.size) hu212.size) hu367.size) hu375.size) hu388.size) hu396.size) hu409.size) hu422.size) fun A429 cp430 w431 ho432 hu433=>Pl 1<|nl<|bn<|tn<|go<|L0<|Oi (((k:Nat) : Int) + 1)<|Pl 1<|nl<|?_
 have U434:=ut0 U60 hu212
 have U435:=ut0 U434 hu367
 have U436:=ut0 U435 hu375
 have U437:=ut U436 hu388 (all_app (ob_new f30 lr) all0)
 have U438:=ut0 U437 hu396
 have U439:=ut U438 hu409 (all_app (ob_new ho387 lr) all0)
 have U440:=ut0 U439 hu422
 have U441:=ut U440 hu433 (all_app (ob_new ho408 lr) all0)
 exact lpe ((k + 1),(((L++[6])++(putW ([(M.recs.getD k ⟨0,0,0,[]⟩).file,(M.recs.getD k ⟨0,0,0,[]⟩).record,(M.recs.getD k ⟨0,0,0,[]⟩).count])))++(putW ((M.recs.getD k ⟨0,0,0,[]⟩).words))),A429,cp430) ⟨U441,(le (le (le (le (le (le (le (le (le (le hz29 hu54.size) hu57.size) hu212.size) hu367.size) hu375.size) hu388.size) hu396.size) hu409.size) hu422.size) hu433.size),ho432,(by (try dsimp only); omega),(by (try dsimp only); rw [← hL,filesB_drop dir M.code M.recs k (by omega)]; simp only [recB,hd0,q36,q66,bs,if_true,if_false,decide_true,decide_false,List.append_assoc]),(by (try dsimp only); have hv:=hf.recw _ (getD_mem ⟨0,0,0,[]⟩ M.recs k (by omega)); (try simp only [List.length_append,List.length_cons,List.length_nil,putW_length]); omega),(by (try dsimp only); (try simp only [List.length_append,List.length_cons,List.length_nil]); omega)⟩ (by omega)
 have q36p:=of_decide_eq_false q36
 refine xt<|tx<|tx<|bx<|tn<|sg<|Pl 3<|L0<|Oi (((L.length:Nat) : Int) - 1)<|Pl 1<|x23 (RdB.at_ (f30).rd 0 (by omega)) fun b442 o443 hA444 hl445 hr446=>L0<|Oix L.length 0 hA444 (by omega)<|L0<|Orow one_u8 (j:=0) f30 hA444 (by omega) ((((L.length:Nat) : Int) - 1) % 256) (fun _=>⟨rfl,by omega⟩) fun w447 ho448 hu449=>nl<|?_
 refine tn<|sg<|Pl 2<|nt<|rt<|rr (.slice A L.length cp)<|?_
 have hk:k=M.recs.length:=by omega
 rw [hk,List.drop_length] at hL
 have hL2:[0]++filesB dir M.code M.recs=L:=by rw [← hL]; simp [filesB]
 have hs:filesLay dir M=(L.set 0 ((((L.length:Nat) : Int) - 1) % 256)):=by unfold filesLay; rw [hL2]
 rw [hs]
 have U450:=ut U35 hu449 (all_app (ob_new f30 hu14.size) all0)
 exact ⟨_,rfl,(OwnG.weaken ho448 hu14.size),U450⟩
set_option maxRecDepth 100000 in
set_option maxHeartbeats 4000000 in
theorem files_lay_f {m:Bool} {cs:Array Value} {M:Msg} {w:World} {dir:Int} (h:MsgRd m w cs.toList M) (hf:MsgFew M) (hd0:(dir == 0)=false) : Calls Tryz.prog 97 #[.int .i64 dir,.agg cs] w (PLay (filesLay dir M) w):=by
 obtain ⟨vw,vb,vd,vr,vo,h0,hw,hbt,hd,hr,ho,hR⟩:=h
 obtain rfl:cs=(msgCells M vw vb vd vr vo).toArray:=by apply Array.toList_inj.1; simpa using h0
 clear h0
 obtain ⟨Aw,kw,rfl,_,_⟩:=hw.shape
 obtain ⟨Ab,kb,rfl,_,_⟩:=hbt.shape
 obtain ⟨Ad,kd,rfl,_,_⟩:=hd.shape
 obtain ⟨Ar,kr,rfl,_,_⟩:=hr.shape
 obtain ⟨Ao,ko,rfl,_,_⟩:=ho.shape
 obtain ⟨q0,q1,q2,q3,q4,q5,q6,q7,q8,q9,q10,q11,q16,q17,q18,q19,q20⟩:=hR
 simp only [B8,B16] at q0 q1 q2 q3 q4 q5 q6 q7 q8 q9 q10 q11 q16 q17 q18 q19 q20
 have hf1:=hf.words
 have hf2:=hf.bits
 have hf3:=hf.data
 have hf4:=hf.recs
 have hf5:=hf.objects
 refine en 58 Tryz.func97 rfl<|sg<|L0<|Obx (mG M.code M.fail M.addr M.count M.value M.and_ M.or_ M.addr2 M.sub M.status M.events M.messages (.slice Aw M.words.length kw) (.slice Ab M.bits.length kb) (.slice Ad M.data.length kd) (.slice Ar M.recs.length kr) M.mei M.kind M.level M.more M.next (.slice Ao M.objects.length ko)) fun g10 w11 hg12 B13 hu14=>Pl 1<|ng<|L0<|Olt (m:=1) (e:=5) #[.int .u8 0] fun g15 w16 hg17 B18 hu19=>?_
 have ow20:=litB hg17 (xs:=[0]) (by as_aux_lemma=>kernel_rfl) (rng_cons (by omega) rng_nil) (by (try simp only [List.length_cons,List.length_nil]); omega) B18
 refine Pl 1<|nt<|sq<|sg<|Pl 1<|?_
 have r21:=ub hu19 B13
 refine L0<|Olb r21 15<|Pl 2<|nt<|bk<|?_
 refine glp (fun x=>[(0,.int .i64 dir),(3,.pointer (some ⟨g10,0,none⟩)),(4,.slice none 0 0),(5,.slice x.2.2.1 x.2.1.length x.2.2.2),(10,.slice Ar M.recs.length kr),(11,.int .i64 ((M.recs.length:Nat) : Int)),(12,.int .i64 ((x.1:Nat) : Int))]) (fun (x:Nat × List Int × Option Addr × Nat) w'=>Upd [] w11 w'∧w16.heap.size≤w'.heap.size∧OwnB w11.heap.size w' (.slice x.2.2.1 x.2.1.length x.2.2.2) x.2.1∧(x.1≤M.recs.length)∧(x.2.1++filesB dir M.code (M.recs.drop x.1)=([0])++filesB dir M.code M.recs)∧(x.2.1.length≤16 + x.1 * 2060)∧(1≤x.2.1.length)) (fun x=>M.recs.length - x.1) (0,[0],some ⟨g15,0,none⟩,1) ⟨hu19,lr,ow20,(by (try dsimp only); omega),rfl,(by (try dsimp only); (try simp only [List.length_cons,List.length_nil]); omega),(by (try dsimp only); (try simp only [List.length_cons,List.length_nil]); omega)⟩ ?_
 rintro ⟨k,L,A,cp⟩ w22 ⟨hu23,hz29,f24,p25,p26,p27,p28⟩
 refine wkc [(0,.int .i64 dir),(3,.pointer (some ⟨g10,0,none⟩)),(4,.slice none 0 0),(5,.slice A L.length cp),(10,.slice Ar M.recs.length kr),(11,.int .i64 ((M.recs.length:Nat) : Int)),(12,.int .i64 ((k:Nat) : Int))] ?_
 have f30:OwnB w11.heap.size w22 (.slice A L.length cp) L:=f24
 have p31:k≤M.recs.length:=p25
 have p32:L++filesB dir M.code (M.recs.drop k)=([0])++filesB dir M.code M.recs:=p26
 have p33:L.length≤16 + k * 2060:=p27
 have p34:1≤L.length:=p28
 have hL:L++filesB dir M.code (M.recs.drop k)=([0])++filesB dir M.code M.recs:=by assumption
 have hv0:=fun (h:k < M.recs.length)=>hf.recw _ (getD_mem ⟨0,0,0,[]⟩ M.recs k h)
 refine sg<|Pl 1<|nt<|sq<|?_
 have U35:=ut0 hu14 hu23
 refine cb ((decide (((k:Nat) : Int) < ((M.recs.length:Nat) : Int)))) (fun q36=>?_) (fun q36=>?_)
 have q36p:=of_decide_eq_true q36
 refine skn<|sq<|bk<|sg<|x75 (RdR.elt hr k (by omega)) fun b37 o38 cl39 t40 fr41 A42 cp43 hA44 hb45 hv46 hr47 hs48=>L0<|Oixs 4 M.recs.length k hA44 (by omega)<|?_
 have r49:=ub U35 hb45
 refine L0<|Oel [.int .u16 ((M.recs.getD k ⟨0,0,0,[]⟩).file),.int .u16 ((M.recs.getD k ⟨0,0,0,[]⟩).record),.int .u16 ((M.recs.getD k ⟨0,0,0,[]⟩).count),.slice A42 ((M.recs.getD k ⟨0,0,0,[]⟩).words.length) cp43] r49 hs48<|L0<|Oal #[.int .u16 0,.int .u16 0,.int .u16 0,.slice none 0 0] fun g50 w51 hg52 B53 hu54=>L0<|Osw B53 #[.int .u16 ((M.recs.getD k ⟨0,0,0,[]⟩).file),.int .u16 ((M.recs.getD k ⟨0,0,0,[]⟩).record),.int .u16 ((M.recs.getD k ⟨0,0,0,[]⟩).count),.slice A42 ((M.recs.getD k ⟨0,0,0,[]⟩).words.length) cp43] fun w55 B56 hu57=>nt<|sq<|bk<|sg<|Pl 1<|?_
 have U58:=ut0 (Upd.refl [] _) hu23
 have U59:=ut0 U58 hu54
 have U60:=u1 U59 hu57 (ni U58.size hg52)
 have r61:=ub U60 B13
 refine L0<|Olb r61 0<|Pl 2<|cu 3 [32] 35 (((M.code == 20) && (dir == 1))) (fun K K63=>?_) ?_
 refine bl 32 ((M.code == 20)) (fun q62=>?_) (fun q62=>?_)
 have q62p:=eq_of_beqi q62
 exact Pl 3<|ce K63 (dir == 1) (by rw [q62]; rfl)
 have q62p:=ne_of_beqi q62
 exact Pl 3<|ce K63 false (by rw [q62]; rfl)
 refine Pl 1<|nt<|?_
 have U64:=ut0 U35 hu54
 have U65:=u1 U64 hu57 (ni U35.size hg52)
 refine cb (((M.code == 20) && (dir == 1))) (fun q66=>?_) (fun q66=>?_)
 have q66a:=(and_t q66).1
 have q66b:=(and_t q66).2
 have q66ap:=eq_of_beqi q66a
 have q66bp:=eq_of_beqi q66b
 refine go<|Pl 2<|L0<|Olb B56 3<|Pl 1<|L0<|Oi (2 * (((M.recs.getD k ⟨0,0,0,[]⟩).words.length:Nat) : Int))<|L0<|Oi (1 + (2 * (((M.recs.getD k ⟨0,0,0,[]⟩).words.length:Nat) : Int)))<|Pl 1<|L0<|Olt (m:=2) (e:=5) #[.int .u8 ((1 + (2 * (((M.recs.getD k ⟨0,0,0,[]⟩).words.length:Nat) : Int))) % 256),.int .u8 6] fun g67 w68 hg69 B70 hu71=>?_
 have ow72:=litB hg69 (xs:=[((1 + (2 * (((M.recs.getD k ⟨0,0,0,[]⟩).words.length:Nat) : Int))) % 256),6]) (by as_aux_lemma=>kernel_rfl) (rng_cons (by omega) (rng_cons (by omega) rng_nil)) (by (try simp only [List.length_cons,List.length_nil]); omega) B70
 have U73:=u1 hu54 hu57 (nr hg52)
 have U74:=ut0 U73 hu71
 have r75:=own_stay f30 U74 (fun x hx=>not0) (fun _ _ h=>h)
 refine L0<|Oapp one_u8 (xs:=L) (ys:=([((1 + (2 * (((M.recs.getD k ⟨0,0,0,[]⟩).words.length:Nat) : Int))) % 256),6])) (.int .u8 0) 1 r75 (ow72).rd (by (try simp only [List.length_append,List.length_cons,List.length_nil,putW_length]); omega) (le (le (le (le hu19.size hz29) hu54.size) hu57.size) hu71.size) fun A76 cp77 w78 ho79 hu80=>Pl 1<|nl<|bn<|tn<|go<|Pl 2<|?_
 have U81:=ut (Upd.mono (S':=(ob A++[])) hu71 all0) hu80 (all_app (fun x hx=>Or.inl (by simp [hx])) all0)
 have r82:=Upd.blk U81 (not_app (not_young f30 lr hg52) not0) B56
 refine L0<|Olb r82 3<|?_
 have U83:=ut0 U65 hu71
 have U84:=ut U83 hu80 (all_app (ob_new f30 hu14.size) all0)
 have r85:=RdW.old hv46 U84
 refine L0<|Oc<|so2 (put_any (xs:=(M.recs.getD k ⟨0,0,0,[]⟩).words) r85 (by (try simp only [List.length_cons,List.length_nil]); omega)) fun A90 cp91 w86 rd94 hl92 hm93 hu89=>?_
 have r95:=own_stay ho79 hu89 (fun x hx=>not0) (fun _ _ h=>h)
 refine L0<|Oapp one_u8 (xs:=(L++[((1 + (2 * (((M.recs.getD k ⟨0,0,0,[]⟩).words.length:Nat) : Int))) % 256),6])) (ys:=(putW ((M.recs.getD k ⟨0,0,0,[]⟩).words))) (.int .u8 0) 1 r95 (rd94).rd (by (try simp only [List.length_append,List.length_cons,List.length_nil,putW_length]); omega) (le (le (le (le (le (le hu19.size hz29) hu54.size) hu57.size) hu71.size) hu80.size) hu89.size) fun A96 cp97 w98 ho99 hu100=>Pl 1<|nl<|bn<|tn<|go<|L0<|Oi (((k:Nat) : Int) + 1)<|Pl 1<|nl<|?_
 have U101:=ut0 U60 hu71
 have U102:=ut U101 hu80 (all_app (ob_new f30 lr) all0)
 have U103:=ut0 U102 hu89
 have U104:=ut U103 hu100 (all_app (ob_new ho79 lr) all0)
 exact lpe ((k + 1),((L++[((1 + (2 * (((M.recs.getD k ⟨0,0,0,[]⟩).words.length:Nat) : Int))) % 256),6])++(putW ((M.recs.getD k ⟨0,0,0,[]⟩).words))),A96,cp97) ⟨U104,(le (le (le (le (le (le hz29 hu54.size) hu57.size) hu71.size) hu80.size) hu89.size) hu100.size),ho99,(by (try dsimp only); omega),(by (try dsimp only); rw [← hL,filesB_drop dir M.code M.recs k (by omega)]; simp only [recB,hd0,q36,q66,q66a,q66b,bs,if_true,if_false,decide_true,decide_false,List.append_assoc]),(by (try dsimp only); have hv:=hf.recw _ (getD_mem ⟨0,0,0,[]⟩ M.recs k (by omega)); (try simp only [List.length_append,List.length_cons,List.length_nil,putW_length]); omega),(by (try dsimp only); (try simp only [List.length_append,List.length_cons,List.length_nil]); omega)⟩ (by omega)
 refine Rg 13 (fun w'=>w'.cell? ⟨g50,0,none⟩=some (.int .u16 ((M.recs.getD k ⟨0,0,0,[]⟩).file))∧w'.cell? ⟨g50,1,none⟩=some (.int .u16 ((M.recs.getD k ⟨0,0,0,[]⟩).record))∧w'.cell? ⟨g50,2,none⟩=some (.int .u16 ((M.recs.getD k ⟨0,0,0,[]⟩).count))) fun w211 hu212=>?_
 have r214:=ub hu212 B56
 refine hld ⟨(blk_at r214 rfl),(blk_at r214 rfl),(blk_at r214 rfl)⟩ fun hS213=>Rt 0 hS213<|Rt 3 hS213<|Rl 4 hS213 (fun _ hs=>hs.1)<|Rt 5 hS213<|Rl 6 hS213 (fun _ hs=>hs.2.1)<|Rt 7 hS213<|Rl 8 hS213 (fun _ hs=>hs.2.2)<|?_
 refine R2 1 9 rfl rfl ?_ ?_
 refine  Olt (m:=1) (e:=5) #[.int .u8 6] fun g215 w216 hg217 B218 hu219=>?_
 have ow220:=litB hg217 (xs:=[6]) (by as_aux_lemma=>kernel_rfl) (rng_cons (by omega) rng_nil) (by (try simp only [List.length_cons,List.length_nil]); omega) B218
 have r222:=ub hu219 r214
 refine hld ⟨(blk_at r222 rfl),(blk_at r222 rfl),(blk_at r222 rfl)⟩ fun hS221=>?_
 refine R2 2 9 rfl rfl ?_ ?_
 have U223:=u1 hu54 hu57 (nr hg52)
 have U224:=ut0 U223 hu212
 have U225:=ut0 U224 hu219
 have r226:=own_stay f30 U225 (fun x hx=>not0) (fun _ _ h=>h)
 refine  Oapp one_u8 (xs:=L) (ys:=([6])) (.int .u8 0) 1 r226 (ow220).rd (by (try simp only [List.length_append,List.length_cons,List.length_nil,putW_length]); omega) (le (le (le (le (le hu19.size hz29) hu54.size) hu57.size) hu212.size) hu219.size) fun A227 cp228 w229 ho230 hu231=>?_
 have r233:=Upd.blk hu231 (not_app (not_young f30 lr hg52) not0) r222
 refine hld ⟨(blk_at r233 rfl),(blk_at r233 rfl),(blk_at r233 rfl)⟩ fun hS232=>R0 9 rfl<|Olt (m:=3) (e:=22) #[.int .u16 ((M.recs.getD k ⟨0,0,0,[]⟩).file),.int .u16 ((M.recs.getD k ⟨0,0,0,[]⟩).record),.int .u16 ((M.recs.getD k ⟨0,0,0,[]⟩).count)] fun g234 w235 hg236 B237 hu238=>?_
 have ow239:=litW hg236 (xs:=[(M.recs.getD k ⟨0,0,0,[]⟩).file,(M.recs.getD k ⟨0,0,0,[]⟩).record,(M.recs.getD k ⟨0,0,0,[]⟩).count]) (by as_aux_lemma=>kernel_rfl) (rng_cons (by omega) (rng_cons (by omega) (rng_cons (by omega) rng_nil))) (by (try simp only [List.length_cons,List.length_nil]); omega) B237
 have r241:=ub hu238 r233
 refine hld ⟨(blk_at r241 rfl),(blk_at r241 rfl),(blk_at r241 rfl)⟩ fun hS240=>R0 10 rfl<|Oc<|so2 (put_any (xs:=[(M.recs.getD k ⟨0,0,0,[]⟩).file,(M.recs.getD k ⟨0,0,0,[]⟩).record,(M.recs.getD k ⟨0,0,0,[]⟩).count]) (ow239).rd (by (try simp only [List.length_cons,List.length_nil]); omega)) fun A246 cp247 w242 rd250 hl248 hm249 hu245=>?_
 have r252:=ub hu245 r241
 refine hld ⟨(blk_at r252 rfl),(blk_at r252 rfl),(blk_at r252 rfl)⟩ fun hS251=>?_
 have U253:=ut0 hu238 hu245
 have r254:=own_stay ho230 U253 (fun x hx=>not0) (fun _ _ h=>h)
 refine R0 11 rfl<|Oapp one_u8 (xs:=(L++[6])) (ys:=(putW ([(M.recs.getD k ⟨0,0,0,[]⟩).file,(M.recs.getD k ⟨0,0,0,[]⟩).record,(M.recs.getD k ⟨0,0,0,[]⟩).count]))) (.int .u8 0) 1 r254 (rd250).rd (by (try simp only [List.length_append,List.length_cons,List.length_nil,putW_length]); omega) (le (le (le (le (le (le (le (le hu19.size hz29) hu54.size) hu57.size) hu212.size) hu219.size) hu231.size) hu238.size) hu245.size) fun A255 cp256 w257 ho258 hu259=>?_
 have r261:=Upd.blk hu259 (not_app (not_type r252 r254 (by decide)) not0) r252
 refine hld ⟨(blk_at r261 rfl),(blk_at r261 rfl),(blk_at r261 rfl)⟩ fun hS260=>Rt 12 hS260<|re<|bn<|tn<|go<|Pl 2<|L0<|Olb r261 3<|?_
 have U262:=ut0 U65 hu212
 have U263:=ut0 U262 hu219
 have U264:=ut U263 hu231 (all_app (ob_new f30 hu14.size) all0)
 have U265:=ut0 U264 hu238
 have U266:=ut0 U265 hu245
 have U267:=ut U266 hu259 (all_app (ob_new ho230 hu14.size) all0)
 have r268:=RdW.old hv46 U267
 refine L0<|Oc<|so2 (put_any (xs:=(M.recs.getD k ⟨0,0,0,[]⟩).words) r268 (by (try simp only [List.length_cons,List.length_nil]); omega)) fun A273 cp274 w269 rd277 hl275 hm276 hu272=>?_
 have r278:=own_stay ho258 hu272 (fun x hx=>not0) (fun _ _ h=>h)
 refine L0<|Oapp one_u8 (xs:=((L++[6])++(putW ([(M.recs.getD k ⟨0,0,0,[]⟩).file,(M.recs.getD k ⟨0,0,0,[]⟩).record,(M.recs.getD k ⟨0,0,0,[]⟩).count])))) (ys:=(putW ((M.recs.getD k ⟨0,0,0,[]⟩).words))) (.int .u8 0) 1 r278 (rd277).rd (by (try simp only [List.length_append,List.length_cons,List.length_nil,putW_length]); omega) (le (le (le (le (le (le (le (le (le (le hu19.size hz29) hu54.size) hu57.size) hu212.size) hu219.size) hu231.size) hu238.size) hu245.size) hu259.size) hu272.size) fun A279 cp280 w281 ho282 hu283=>Pl 1<|nl<|bn<|tn<|go<|L0<|Oi (((k:Nat) : Int) + 1)<|Pl 1<|nl<|?_
 have U284:=ut0 U60 hu212
 have U285:=ut0 U284 hu219
 have U286:=ut U285 hu231 (all_app (ob_new f30 lr) all0)
 have U287:=ut0 U286 hu238
 have U288:=ut0 U287 hu245
 have U289:=ut U288 hu259 (all_app (ob_new ho230 lr) all0)
 have U290:=ut0 U289 hu272
 have U291:=ut U290 hu283 (all_app (ob_new ho258 lr) all0)
 exact lpe ((k + 1),(((L++[6])++(putW ([(M.recs.getD k ⟨0,0,0,[]⟩).file,(M.recs.getD k ⟨0,0,0,[]⟩).record,(M.recs.getD k ⟨0,0,0,[]⟩).count])))++(putW ((M.recs.getD k ⟨0,0,0,[]⟩).words))),A279,cp280) ⟨U291,(le (le (le (le (le (le (le (le (le (le hz29 hu54.size) hu57.size) hu212.size) hu219.size) hu231.size) hu238.size) hu245.size) hu259.size) hu272.size) hu283.size),ho282,(by (try dsimp only); omega),(by (try dsimp only); rw [← hL,filesB_drop dir M.code M.recs k (by omega)]; simp only [recB,hd0,q36,q66,bs,if_true,if_false,decide_true,decide_false,List.append_assoc]),(by (try dsimp only); have hv:=hf.recw _ (getD_mem ⟨0,0,0,[]⟩ M.recs k (by omega)); (try simp only [List.length_append,List.length_cons,List.length_nil,putW_length]); omega),(by (try dsimp only); (try simp only [List.length_append,List.length_cons,List.length_nil]); omega)⟩ (by omega)
 refine  Olt (m:=3) (e:=22) #[.int .u16 ((M.recs.getD k ⟨0,0,0,[]⟩).file),.int .u16 ((M.recs.getD k ⟨0,0,0,[]⟩).record),.int .u16 ((M.recs.getD k ⟨0,0,0,[]⟩).count)] fun g292 w293 hg294 B295 hu296=>?_
 have ow297:=litW hg294 (xs:=[(M.recs.getD k ⟨0,0,0,[]⟩).file,(M.recs.getD k ⟨0,0,0,[]⟩).record,(M.recs.getD k ⟨0,0,0,[]⟩).count]) (by as_aux_lemma=>kernel_rfl) (rng_cons (by omega) (rng_cons (by omega) (rng_cons (by omega) rng_nil))) (by (try simp only [List.length_cons,List.length_nil]); omega) B295
 have r299:=ub hu296 r222
 refine hld ⟨(blk_at r299 rfl),(blk_at r299 rfl),(blk_at r299 rfl)⟩ fun hS298=>?_
 have U300:=u1 hu54 hu57 (nr hg52)
 have U301:=ut0 U300 hu212
 have U302:=ut0 U301 hu219
 have U303:=ut0 U302 hu296
 have r304:=own_stay f30 U303 (fun x hx=>not0) (fun _ _ h=>h)
 have r305:=own_stay ow220 hu296 (fun x hx=>not0) (fun _ _ h=>h)
 refine R0 2 rfl<|Oapp one_u8 (xs:=L) (ys:=([6])) (.int .u8 0) 1 r304 (r305).rd (by (try simp only [List.length_append,List.length_cons,List.length_nil,putW_length]); omega) (le (le (le (le (le (le hu19.size hz29) hu54.size) hu57.size) hu212.size) hu219.size) hu296.size) fun A306 cp307 w308 ho309 hu310=>?_
 have r312:=Upd.blk hu310 (not_app (not_young f30 lr hg52) not0) r299
 refine hld ⟨(blk_at r312 rfl),(blk_at r312 rfl),(blk_at r312 rfl)⟩ fun hS311=>?_
 have r313:=own_stay ow297 hu310 (fun x hx=>(not_app ((rows_young ow297 f30 U302.size) x hx) not0)) (fun _ _ h=>h)
 refine R0 10 rfl<|Oc<|so2 (put_any (xs:=[(M.recs.getD k ⟨0,0,0,[]⟩).file,(M.recs.getD k ⟨0,0,0,[]⟩).record,(M.recs.getD k ⟨0,0,0,[]⟩).count]) (r313).rd (by (try simp only [List.length_cons,List.length_nil]); omega)) fun A318 cp319 w314 rd322 hl320 hm321 hu317=>?_
 have r324:=ub hu317 r312
 refine hld ⟨(blk_at r324 rfl),(blk_at r324 rfl),(blk_at r324 rfl)⟩ fun hS323=>?_
 have r325:=own_stay ho309 hu317 (fun x hx=>not0) (fun _ _ h=>h)
 refine R0 11 rfl<|Oapp one_u8 (xs:=(L++[6])) (ys:=(putW ([(M.recs.getD k ⟨0,0,0,[]⟩).file,(M.recs.getD k ⟨0,0,0,[]⟩).record,(M.recs.getD k ⟨0,0,0,[]⟩).count]))) (.int .u8 0) 1 r325 (rd322).rd (by (try simp only [List.length_append,List.length_cons,List.length_nil,putW_length]); omega) (le (le (le (le (le (le (le (le hu19.size hz29) hu54.size) hu57.size) hu212.size) hu219.size) hu296.size) hu310.size) hu317.size) fun A326 cp327 w328 ho329 hu330=>?_
 have r332:=Upd.blk hu330 (not_app (not_type r324 r325 (by decide)) not0) r324
 refine hld ⟨(blk_at r332 rfl),(blk_at r332 rfl),(blk_at r332 rfl)⟩ fun hS331=>Rt 12 hS331<|re<|bn<|tn<|go<|Pl 2<|L0<|Olb r332 3<|?_
 have U333:=ut0 U65 hu212
 have U334:=ut0 U333 hu219
 have U335:=ut0 U334 hu296
 have U336:=ut U335 hu310 (all_app (ob_new f30 hu14.size) all0)
 have U337:=ut0 U336 hu317
 have U338:=ut U337 hu330 (all_app (ob_new ho309 hu14.size) all0)
 have r339:=RdW.old hv46 U338
 refine L0<|Oc<|so2 (put_any (xs:=(M.recs.getD k ⟨0,0,0,[]⟩).words) r339 (by (try simp only [List.length_cons,List.length_nil]); omega)) fun A344 cp345 w340 rd348 hl346 hm347 hu343=>?_
 have r349:=own_stay ho329 hu343 (fun x hx=>not0) (fun _ _ h=>h)
 refine L0<|Oapp one_u8 (xs:=((L++[6])++(putW ([(M.recs.getD k ⟨0,0,0,[]⟩).file,(M.recs.getD k ⟨0,0,0,[]⟩).record,(M.recs.getD k ⟨0,0,0,[]⟩).count])))) (ys:=(putW ((M.recs.getD k ⟨0,0,0,[]⟩).words))) (.int .u8 0) 1 r349 (rd348).rd (by (try simp only [List.length_append,List.length_cons,List.length_nil,putW_length]); omega) (le (le (le (le (le (le (le (le (le (le hu19.size hz29) hu54.size) hu57.size) hu212.size) hu219.size) hu296.size) hu310.size) hu317.size) hu330.size) hu343.size) fun A350 cp351 w352 ho353 hu354=>Pl 1<|nl<|bn<|tn<|go<|L0<|Oi (((k:Nat) : Int) + 1)<|Pl 1<|nl<|?_
 have U355:=ut0 U60 hu212
 have U356:=ut0 U355 hu219
 have U357:=ut0 U356 hu296
 have U358:=ut U357 hu310 (all_app (ob_new f30 lr) all0)
 have U359:=ut0 U358 hu317
 have U360:=ut U359 hu330 (all_app (ob_new ho309 lr) all0)
 have U361:=ut0 U360 hu343
 have U362:=ut U361 hu354 (all_app (ob_new ho329 lr) all0)
 exact lpe ((k + 1),(((L++[6])++(putW ([(M.recs.getD k ⟨0,0,0,[]⟩).file,(M.recs.getD k ⟨0,0,0,[]⟩).record,(M.recs.getD k ⟨0,0,0,[]⟩).count])))++(putW ((M.recs.getD k ⟨0,0,0,[]⟩).words))),A350,cp351) ⟨U362,(le (le (le (le (le (le (le (le (le (le hz29 hu54.size) hu57.size) hu212.size) hu219.size) hu296.size) hu310.size) hu317.size) hu330.size) hu343.size) hu354.size),ho353,(by (try dsimp only); omega),(by (try dsimp only); rw [← hL,filesB_drop dir M.code M.recs k (by omega)]; simp only [recB,hd0,q36,q66,bs,if_true,if_false,decide_true,decide_false,List.append_assoc]),(by (try dsimp only); have hv:=hf.recw _ (getD_mem ⟨0,0,0,[]⟩ M.recs k (by omega)); (try simp only [List.length_append,List.length_cons,List.length_nil,putW_length]); omega),(by (try dsimp only); (try simp only [List.length_append,List.length_cons,List.length_nil]); omega)⟩ (by omega)
 refine  Olt (m:=3) (e:=22) #[.int .u16 ((M.recs.getD k ⟨0,0,0,[]⟩).file),.int .u16 ((M.recs.getD k ⟨0,0,0,[]⟩).record),.int .u16 ((M.recs.getD k ⟨0,0,0,[]⟩).count)] fun g363 w364 hg365 B366 hu367=>?_
 have ow368:=litW hg365 (xs:=[(M.recs.getD k ⟨0,0,0,[]⟩).file,(M.recs.getD k ⟨0,0,0,[]⟩).record,(M.recs.getD k ⟨0,0,0,[]⟩).count]) (by as_aux_lemma=>kernel_rfl) (rng_cons (by omega) (rng_cons (by omega) (rng_cons (by omega) rng_nil))) (by (try simp only [List.length_cons,List.length_nil]); omega) B366
 have r370:=ub hu367 r214
 refine hld ⟨(blk_at r370 rfl),(blk_at r370 rfl),(blk_at r370 rfl)⟩ fun hS369=>R0 1 rfl<|Olt (m:=1) (e:=5) #[.int .u8 6] fun g371 w372 hg373 B374 hu375=>?_
 have ow376:=litB hg373 (xs:=[6]) (by as_aux_lemma=>kernel_rfl) (rng_cons (by omega) rng_nil) (by (try simp only [List.length_cons,List.length_nil]); omega) B374
 have r378:=ub hu375 r370
 refine hld ⟨(blk_at r378 rfl),(blk_at r378 rfl),(blk_at r378 rfl)⟩ fun hS377=>?_
 have U379:=u1 hu54 hu57 (nr hg52)
 have U380:=ut0 U379 hu212
 have U381:=ut0 U380 hu367
 have U382:=ut0 U381 hu375
 have r383:=own_stay f30 U382 (fun x hx=>not0) (fun _ _ h=>h)
 refine R0 2 rfl<|Oapp one_u8 (xs:=L) (ys:=([6])) (.int .u8 0) 1 r383 (ow376).rd (by (try simp only [List.length_append,List.length_cons,List.length_nil,putW_length]); omega) (le (le (le (le (le (le hu19.size hz29) hu54.size) hu57.size) hu212.size) hu367.size) hu375.size) fun A384 cp385 w386 ho387 hu388=>?_
 have r390:=Upd.blk hu388 (not_app (not_young f30 lr hg52) not0) r378
 refine hld ⟨(blk_at r390 rfl),(blk_at r390 rfl),(blk_at r390 rfl)⟩ fun hS389=>?_
 have U391:=ut (Upd.mono (S':=(ob A++[])) hu375 all0) hu388 (all_app (fun x hx=>Or.inl (by simp [hx])) all0)
 have r392:=own_stay ow368 U391 (fun x hx=>(not_app ((rows_young ow368 f30 U380.size) x hx) not0)) (fun _ _ h=>h)
 refine R0 10 rfl<|Oc<|so2 (put_any (xs:=[(M.recs.getD k ⟨0,0,0,[]⟩).file,(M.recs.getD k ⟨0,0,0,[]⟩).record,(M.recs.getD k ⟨0,0,0,[]⟩).count]) (r392).rd (by (try simp only [List.length_cons,List.length_nil]); omega)) fun A397 cp398 w393 rd401 hl399 hm400 hu396=>?_
 have r403:=ub hu396 r390
 refine hld ⟨(blk_at r403 rfl),(blk_at r403 rfl),(blk_at r403 rfl)⟩ fun hS402=>?_
 have r404:=own_stay ho387 hu396 (fun x hx=>not0) (fun _ _ h=>h)
 refine R0 11 rfl<|Oapp one_u8 (xs:=(L++[6])) (ys:=(putW ([(M.recs.getD k ⟨0,0,0,[]⟩).file,(M.recs.getD k ⟨0,0,0,[]⟩).record,(M.recs.getD k ⟨0,0,0,[]⟩).count]))) (.int .u8 0) 1 r404 (rd401).rd (by (try simp only [List.length_append,List.length_cons,List.length_nil,putW_length]); omega) (le (le (le (le (le (le (le (le hu19.size hz29) hu54.size) hu57.size) hu212.size) hu367.size) hu375.size) hu388.size) hu396.size) fun A405 cp406 w407 ho408 hu409=>?_
 have r411:=Upd.blk hu409 (not_app (not_type r403 r404 (by decide)) not0) r403
 refine hld ⟨(blk_at r411 rfl),(blk_at r411 rfl),(blk_at r411 rfl)⟩ fun hS410=>Rt 12 hS410<|re<|bn<|tn<|go<|Pl 2<|L0<|Olb r411 3<|?_
 have U412:=ut0 U65 hu212
 have U413:=ut0 U412 hu367
 have U414:=ut0 U413 hu375
 have U415:=ut U414 hu388 (all_app (ob_new f30 hu14.size) all0)
 have U416:=ut0 U415 hu396
 have U417:=ut U416 hu409 (all_app (ob_new ho387 hu14.size) all0)
 have r418:=RdW.old hv46 U417
 refine L0<|Oc<|so2 (put_any (xs:=(M.recs.getD k ⟨0,0,0,[]⟩).words) r418 (by (try simp only [List.length_cons,List.length_nil]); omega)) fun A423 cp424 w419 rd427 hl425 hm426 hu422=>?_
 have r428:=own_stay ho408 hu422 (fun x hx=>not0) (fun _ _ h=>h)
 refine L0<|Oapp one_u8 (xs:=((L++[6])++(putW ([(M.recs.getD k ⟨0,0,0,[]⟩).file,(M.recs.getD k ⟨0,0,0,[]⟩).record,(M.recs.getD k ⟨0,0,0,[]⟩).count])))) (ys:=(putW ((M.recs.getD k ⟨0,0,0,[]⟩).words))) (.int .u8 0) 1 r428 (rd427).rd (by (try simp only [List.length_append,List.length_cons,List.length_nil,putW_length]); omega) (le (le (le (le (le (le (le (le (le (le hu19.size hz29) hu54.size) hu57.size) hu212.size) hu367.size) hu375.size) hu388.size) hu396.size) hu409.size) hu422.size) fun A429 cp430 w431 ho432 hu433=>Pl 1<|nl<|bn<|tn<|go<|L0<|Oi (((k:Nat) : Int) + 1)<|Pl 1<|nl<|?_
 have U434:=ut0 U60 hu212
 have U435:=ut0 U434 hu367
 have U436:=ut0 U435 hu375
 have U437:=ut U436 hu388 (all_app (ob_new f30 lr) all0)
 have U438:=ut0 U437 hu396
 have U439:=ut U438 hu409 (all_app (ob_new ho387 lr) all0)
 have U440:=ut0 U439 hu422
 have U441:=ut U440 hu433 (all_app (ob_new ho408 lr) all0)
 exact lpe ((k + 1),(((L++[6])++(putW ([(M.recs.getD k ⟨0,0,0,[]⟩).file,(M.recs.getD k ⟨0,0,0,[]⟩).record,(M.recs.getD k ⟨0,0,0,[]⟩).count])))++(putW ((M.recs.getD k ⟨0,0,0,[]⟩).words))),A429,cp430) ⟨U441,(le (le (le (le (le (le (le (le (le (le hz29 hu54.size) hu57.size) hu212.size) hu367.size) hu375.size) hu388.size) hu396.size) hu409.size) hu422.size) hu433.size),ho432,(by (try dsimp only); omega),(by (try dsimp only); rw [← hL,filesB_drop dir M.code M.recs k (by omega)]; simp only [recB,hd0,q36,q66,bs,if_true,if_false,decide_true,decide_false,List.append_assoc]),(by (try dsimp only); have hv:=hf.recw _ (getD_mem ⟨0,0,0,[]⟩ M.recs k (by omega)); (try simp only [List.length_append,List.length_cons,List.length_nil,putW_length]); omega),(by (try dsimp only); (try simp only [List.length_append,List.length_cons,List.length_nil]); omega)⟩ (by omega)
 have q36p:=of_decide_eq_false q36
 refine xt<|tx<|tx<|bx<|tn<|sg<|Pl 3<|L0<|Oi (((L.length:Nat) : Int) - 1)<|Pl 1<|x23 (RdB.at_ (f30).rd 0 (by omega)) fun b442 o443 hA444 hl445 hr446=>L0<|Oix L.length 0 hA444 (by omega)<|L0<|Orow one_u8 (j:=0) f30 hA444 (by omega) ((((L.length:Nat) : Int) - 1) % 256) (fun _=>⟨rfl,by omega⟩) fun w447 ho448 hu449=>nl<|?_
 refine tn<|sg<|Pl 2<|nt<|rt<|rr (.slice A L.length cp)<|?_
 have hk:k=M.recs.length:=by omega
 rw [hk,List.drop_length] at hL
 have hL2:[0]++filesB dir M.code M.recs=L:=by rw [← hL]; simp [filesB]
 have hs:filesLay dir M=(L.set 0 ((((L.length:Nat) : Int) - 1) % 256)):=by unfold filesLay; rw [hL2]
 rw [hs]
 have U450:=ut U35 hu449 (all_app (ob_new f30 hu14.size) all0)
 exact ⟨_,rfl,(OwnG.weaken ho448 hu14.size),U450⟩
theorem files_lay {m:Bool} {cs:Array Value} {M:Msg} {w:World} {dir:Int} (h:MsgRd m w cs.toList M) (hf:MsgFew M) : Calls Tryz.prog 97 #[.int .i64 dir,.agg cs] w (PLay (filesLay dir M) w):=by
  rcases bool_dich (dir == 0) with h0 | h0
  · exact files_lay_t h hf h0
  · exact files_lay_f h hf h0
open Go.RowKit
theorem wr_bad1 {parse:Int→Int→List Int→Msg × Int} {lay:Int→Msg→List Int} {dir E:Int} {M X:Msg} (hX:parse dir M.code (lay dir M)=(X,E)) (hE:(E != 0)=true) : writeOf parse lay dir M=none:=by
  unfold writeOf
  rw [hX,if_neg]
  intro h
  injection h with h1 h2
  rw [h2] at hE
  cases hE
theorem wr_bad2 {parse:Int→Int→List Int→Msg × Int} {lay:Int→Msg→List Int} {dir E:Int} {M X:Msg} (hX:parse dir M.code (lay dir M)=(X,E)) (hE:decide (X=M)=false) : writeOf parse lay dir M=none:=by
  unfold writeOf
  rw [hX,if_neg]
  intro h
  injection h with h1 h2
  rw [h1] at hE
  simp at hE
theorem wr_ok {parse:Int→Int→List Int→Msg × Int} {lay:Int→Msg→List Int} {dir E:Int} {M X:Msg} (hX:parse dir M.code (lay dir M)=(X,E)) (hE:(E != 0)=false) (h:decide (X=M)=true) : writeOf parse lay dir M=some (lay dir M):=by
  unfold writeOf
  have h1:X=M:=by simpa using h
  have h2:E=0:=by simpa using hE
  rw [hX,h1,h2,if_pos rfl]
theorem ws_eq {x y:Option (List Int)} (h:x=y) {w:World} {e:Ending} {w':World} (k:PWrite y w e w') : PWrite x w e w':=by rw [h]; exact k
set_option maxRecDepth 100000 in
set_option maxHeartbeats 4000000 in
theorem coils_write {m:Bool} {cs:Array Value} {M:Msg} {w:World} {dir:Int} (h:MsgRd m w cs.toList M) (hf:MsgFew M) (hlen:(coilsLay dir M).length≤1048576) : Calls Tryz.prog 59 #[.int .i64 dir,.agg cs] w (PWrite (writeOf parseCoils coilsLay dir M) w):=by
 have hM:=h
 obtain ⟨vw,vb,vd,vr,vo,h0,hw,hbt,hd,hr,ho,hR⟩:=h
 obtain rfl:cs=(msgCells M vw vb vd vr vo).toArray:=by apply Array.toList_inj.1; simpa using h0
 clear h0
 obtain ⟨Aw,kw,rfl,_,_⟩:=hw.shape
 obtain ⟨Ab,kb,rfl,_,_⟩:=hbt.shape
 obtain ⟨Ad,kd,rfl,_,_⟩:=hd.shape
 obtain ⟨Ar,kr,rfl,_,_⟩:=hr.shape
 obtain ⟨Ao,ko,rfl,_,_⟩:=ho.shape
 obtain ⟨q0,q1,q2,q3,q4,q5,q6,q7,q8,q9,q10,q11,q16,q17,q18,q19,q20⟩:=hR
 simp only [B8,B16] at q0 q1 q2 q3 q4 q5 q6 q7 q8 q9 q10 q11 q16 q17 q18 q19 q20
 refine en 29 Tryz.func59 rfl<|sg<|L0<|Obx (mG M.code M.fail M.addr M.count M.value M.and_ M.or_ M.addr2 M.sub M.status M.events M.messages (.slice Aw M.words.length kw) (.slice Ab M.bits.length kb) (.slice Ad M.data.length kd) (.slice Ar M.recs.length kr) M.mei M.kind M.level M.more M.next (.slice Ao M.objects.length ko)) fun g10 w11 hg12 B13 hu14=>Pl 2<|ng<|Pl 1<|L0<|Olw B13<|?_
 have r19:=MsgRd.old hM hu14
 refine L0<|Oc<|so2 (coils_lay (dir:=dir) r19 hf) fun A20 cp21 w15 rd24 hl22 hm23 hu18=>Pl 1<|ng<|Pl 2<|?_
 have r25:=ub hu18 B13
 refine L0<|Olb r25 0<|Pl 1<|?_
 refine pr (parseCoils dir M.code (coilsLay dir M)) fun X26 E27 hX28=>?_
 have hp33:Calls _ _ _ _ (PMsg (parseCoils dir M.code (coilsLay dir M)) w15):=coils_parse (dir:=dir) (c:=M.code) q0 (rd24).rd hlen
 rw [hX28] at hp33
 refine L0<|Oc<|e2 (hp33) fun cs30 w29 hM31 hu32=>Pl 3<|L0<|Oal mZ fun g34 w35 hg36 B37 hu38=>L0<|Osw (hz:=(by rw [hM31.size]; exact msg_size)) (hv:=hM31.size) (h1:=hM31.one) B37 (cs30) fun w39 B40 hu41=>Pl 1<|nt<|sq<|sg<|Pl 3<|?_
 have U42:=ut0 hu14 hu18
 have U43:=ut0 U42 hu32
 have U44:=ut0 U43 hu38
 have U45:=u1 U44 hu41 (ni U43.size hg36)
 refine bl 22 ((E27 != 0)) (fun q46=>?_) (fun q46=>?_)
 have q46p:=ne_of_bnei q46
 refine Pl 5<|nt<|c1<|sg<|Pl 2<|nt<|rt<|tr<|rr (.tuple #[.slice none 0 0,.int .i64 1])<|?_
 refine ws_eq (wr_bad1 hX28 q46) ?_
 exact ⟨rfl,U45⟩
 have q46p:=eq_of_bnei q46
 refine L1<|Olw (hz:=(by rw [hM31.size]; exact msg_size)) B40<|?_
 have U47:=ut0 hu32 hu38
 have U48:=u1 U47 hu41 (ni hu32.size hg36)
 have r49:=ub U48 r25
 refine L1<|Olw r49<|?_
 have U52:=u1 hu38 hu41 (nr hg36)
 have r53:=MsgRd.upd hM31 U52 safe0
 have U54:=ut0 hu18 hu32
 have U55:=ut0 U54 hu38
 have U56:=u1 U55 hu41 (ni U54.size hg36)
 have r57:=MsgRd.old r19 U56
 refine L1<|Oc<|m1 (same_any (A:=X26) (B:=M) r53 r57) fun w50 hu51=>Pl 2<|nt<|?_
 have U58:=ut0 U45 hu51
 refine cb ((!(decide (X26=M)))) (fun q59=>?_) (fun q59=>?_)
 have q59n:(decide (X26=M))=false:=by simpa using q59
 have q59np:=of_decide_eq_false q59n
 refine sg<|Pl 2<|nt<|rt<|tr<|rr (.tuple #[.slice none 0 0,.int .i64 1])<|?_
 refine ws_eq (wr_bad2 hX28 q59n) ?_
 exact ⟨rfl,U58⟩
 have q59n:(decide (X26=M))=true:=by simpa using q59
 have q59np:=of_decide_eq_true q59n
 refine skn<|sg<|Pl 3<|nt<|rt<|rr (.tuple #[.slice A20 ((coilsLay dir M).length) cp21,.int .i64 0])<|?_
 have U60:=ut0 U48 hu51
 have r61:=own_stay rd24 U60 (fun x hx=>not0) (fun _ _ h=>h)
 refine ws_eq (wr_ok hX28 q46 q59n) ?_
 exact ⟨_,rfl,(OwnG.weaken r61 hu14.size),U58⟩
set_option maxRecDepth 100000 in
set_option maxHeartbeats 4000000 in
theorem regs_write {m:Bool} {cs:Array Value} {M:Msg} {w:World} {dir:Int} (h:MsgRd m w cs.toList M) (hf:MsgFew M) (hlen:(regsLay dir M).length≤1048576) : Calls Tryz.prog 61 #[.int .i64 dir,.agg cs] w (PWrite (writeOf parseRegs regsLay dir M) w):=by
 have hM:=h
 obtain ⟨vw,vb,vd,vr,vo,h0,hw,hbt,hd,hr,ho,hR⟩:=h
 obtain rfl:cs=(msgCells M vw vb vd vr vo).toArray:=by apply Array.toList_inj.1; simpa using h0
 clear h0
 obtain ⟨Aw,kw,rfl,_,_⟩:=hw.shape
 obtain ⟨Ab,kb,rfl,_,_⟩:=hbt.shape
 obtain ⟨Ad,kd,rfl,_,_⟩:=hd.shape
 obtain ⟨Ar,kr,rfl,_,_⟩:=hr.shape
 obtain ⟨Ao,ko,rfl,_,_⟩:=ho.shape
 obtain ⟨q0,q1,q2,q3,q4,q5,q6,q7,q8,q9,q10,q11,q16,q17,q18,q19,q20⟩:=hR
 simp only [B8,B16] at q0 q1 q2 q3 q4 q5 q6 q7 q8 q9 q10 q11 q16 q17 q18 q19 q20
 refine en 29 Tryz.func61 rfl<|sg<|L0<|Obx (mG M.code M.fail M.addr M.count M.value M.and_ M.or_ M.addr2 M.sub M.status M.events M.messages (.slice Aw M.words.length kw) (.slice Ab M.bits.length kb) (.slice Ad M.data.length kd) (.slice Ar M.recs.length kr) M.mei M.kind M.level M.more M.next (.slice Ao M.objects.length ko)) fun g10 w11 hg12 B13 hu14=>Pl 2<|ng<|Pl 1<|L0<|Olw B13<|?_
 have r19:=MsgRd.old hM hu14
 refine L0<|Oc<|so2 (regs_lay (dir:=dir) r19 hf) fun A20 cp21 w15 rd24 hl22 hm23 hu18=>Pl 1<|ng<|Pl 2<|?_
 have r25:=ub hu18 B13
 refine L0<|Olb r25 0<|Pl 1<|?_
 refine pr (parseRegs dir M.code (regsLay dir M)) fun X26 E27 hX28=>?_
 have hp33:Calls _ _ _ _ (PMsg (parseRegs dir M.code (regsLay dir M)) w15):=regs_parse (dir:=dir) (c:=M.code) q0 (rd24).rd hlen
 rw [hX28] at hp33
 refine L0<|Oc<|e2 (hp33) fun cs30 w29 hM31 hu32=>Pl 3<|L0<|Oal mZ fun g34 w35 hg36 B37 hu38=>L0<|Osw (hz:=(by rw [hM31.size]; exact msg_size)) (hv:=hM31.size) (h1:=hM31.one) B37 (cs30) fun w39 B40 hu41=>Pl 1<|nt<|sq<|sg<|Pl 3<|?_
 have U42:=ut0 hu14 hu18
 have U43:=ut0 U42 hu32
 have U44:=ut0 U43 hu38
 have U45:=u1 U44 hu41 (ni U43.size hg36)
 refine bl 22 ((E27 != 0)) (fun q46=>?_) (fun q46=>?_)
 have q46p:=ne_of_bnei q46
 refine Pl 5<|nt<|c1<|sg<|Pl 2<|nt<|rt<|tr<|rr (.tuple #[.slice none 0 0,.int .i64 1])<|?_
 refine ws_eq (wr_bad1 hX28 q46) ?_
 exact ⟨rfl,U45⟩
 have q46p:=eq_of_bnei q46
 refine L1<|Olw (hz:=(by rw [hM31.size]; exact msg_size)) B40<|?_
 have U47:=ut0 hu32 hu38
 have U48:=u1 U47 hu41 (ni hu32.size hg36)
 have r49:=ub U48 r25
 refine L1<|Olw r49<|?_
 have U52:=u1 hu38 hu41 (nr hg36)
 have r53:=MsgRd.upd hM31 U52 safe0
 have U54:=ut0 hu18 hu32
 have U55:=ut0 U54 hu38
 have U56:=u1 U55 hu41 (ni U54.size hg36)
 have r57:=MsgRd.old r19 U56
 refine L1<|Oc<|m1 (same_any (A:=X26) (B:=M) r53 r57) fun w50 hu51=>Pl 2<|nt<|?_
 have U58:=ut0 U45 hu51
 refine cb ((!(decide (X26=M)))) (fun q59=>?_) (fun q59=>?_)
 have q59n:(decide (X26=M))=false:=by simpa using q59
 have q59np:=of_decide_eq_false q59n
 refine sg<|Pl 2<|nt<|rt<|tr<|rr (.tuple #[.slice none 0 0,.int .i64 1])<|?_
 refine ws_eq (wr_bad2 hX28 q59n) ?_
 exact ⟨rfl,U58⟩
 have q59n:(decide (X26=M))=true:=by simpa using q59
 have q59np:=of_decide_eq_true q59n
 refine skn<|sg<|Pl 3<|nt<|rt<|rr (.tuple #[.slice A20 ((regsLay dir M).length) cp21,.int .i64 0])<|?_
 have U60:=ut0 U48 hu51
 have r61:=own_stay rd24 U60 (fun x hx=>not0) (fun _ _ h=>h)
 refine ws_eq (wr_ok hX28 q46 q59n) ?_
 exact ⟨_,rfl,(OwnG.weaken r61 hu14.size),U58⟩
set_option maxRecDepth 100000 in
set_option maxHeartbeats 4000000 in
theorem diag_write {m:Bool} {cs:Array Value} {M:Msg} {w:World} {dir:Int} (h:MsgRd m w cs.toList M) (hf:MsgFew M) (hlen:(diagLay dir M).length≤1048576) : Calls Tryz.prog 63 #[.int .i64 dir,.agg cs] w (PWrite (writeOf parseDiag diagLay dir M) w):=by
 have hM:=h
 obtain ⟨vw,vb,vd,vr,vo,h0,hw,hbt,hd,hr,ho,hR⟩:=h
 obtain rfl:cs=(msgCells M vw vb vd vr vo).toArray:=by apply Array.toList_inj.1; simpa using h0
 clear h0
 obtain ⟨Aw,kw,rfl,_,_⟩:=hw.shape
 obtain ⟨Ab,kb,rfl,_,_⟩:=hbt.shape
 obtain ⟨Ad,kd,rfl,_,_⟩:=hd.shape
 obtain ⟨Ar,kr,rfl,_,_⟩:=hr.shape
 obtain ⟨Ao,ko,rfl,_,_⟩:=ho.shape
 obtain ⟨q0,q1,q2,q3,q4,q5,q6,q7,q8,q9,q10,q11,q16,q17,q18,q19,q20⟩:=hR
 simp only [B8,B16] at q0 q1 q2 q3 q4 q5 q6 q7 q8 q9 q10 q11 q16 q17 q18 q19 q20
 refine en 29 Tryz.func63 rfl<|sg<|L0<|Obx (mG M.code M.fail M.addr M.count M.value M.and_ M.or_ M.addr2 M.sub M.status M.events M.messages (.slice Aw M.words.length kw) (.slice Ab M.bits.length kb) (.slice Ad M.data.length kd) (.slice Ar M.recs.length kr) M.mei M.kind M.level M.more M.next (.slice Ao M.objects.length ko)) fun g10 w11 hg12 B13 hu14=>Pl 2<|ng<|Pl 1<|L0<|Olw B13<|?_
 have r19:=MsgRd.old hM hu14
 refine L0<|Oc<|so2 (diag_lay (dir:=dir) r19 hf) fun A20 cp21 w15 rd24 hl22 hm23 hu18=>Pl 1<|ng<|Pl 2<|?_
 have r25:=ub hu18 B13
 refine L0<|Olb r25 0<|Pl 1<|?_
 refine pr (parseDiag dir M.code (diagLay dir M)) fun X26 E27 hX28=>?_
 have hp33:Calls _ _ _ _ (PMsg (parseDiag dir M.code (diagLay dir M)) w15):=diag_parse (dir:=dir) (c:=M.code) q0 (rd24).rd hlen
 rw [hX28] at hp33
 refine L0<|Oc<|e2 (hp33) fun cs30 w29 hM31 hu32=>Pl 3<|L0<|Oal mZ fun g34 w35 hg36 B37 hu38=>L0<|Osw (hz:=(by rw [hM31.size]; exact msg_size)) (hv:=hM31.size) (h1:=hM31.one) B37 (cs30) fun w39 B40 hu41=>Pl 1<|nt<|sq<|sg<|Pl 3<|?_
 have U42:=ut0 hu14 hu18
 have U43:=ut0 U42 hu32
 have U44:=ut0 U43 hu38
 have U45:=u1 U44 hu41 (ni U43.size hg36)
 refine bl 22 ((E27 != 0)) (fun q46=>?_) (fun q46=>?_)
 have q46p:=ne_of_bnei q46
 refine Pl 5<|nt<|c1<|sg<|Pl 2<|nt<|rt<|tr<|rr (.tuple #[.slice none 0 0,.int .i64 1])<|?_
 refine ws_eq (wr_bad1 hX28 q46) ?_
 exact ⟨rfl,U45⟩
 have q46p:=eq_of_bnei q46
 refine L1<|Olw (hz:=(by rw [hM31.size]; exact msg_size)) B40<|?_
 have U47:=ut0 hu32 hu38
 have U48:=u1 U47 hu41 (ni hu32.size hg36)
 have r49:=ub U48 r25
 refine L1<|Olw r49<|?_
 have U52:=u1 hu38 hu41 (nr hg36)
 have r53:=MsgRd.upd hM31 U52 safe0
 have U54:=ut0 hu18 hu32
 have U55:=ut0 U54 hu38
 have U56:=u1 U55 hu41 (ni U54.size hg36)
 have r57:=MsgRd.old r19 U56
 refine L1<|Oc<|m1 (same_any (A:=X26) (B:=M) r53 r57) fun w50 hu51=>Pl 2<|nt<|?_
 have U58:=ut0 U45 hu51
 refine cb ((!(decide (X26=M)))) (fun q59=>?_) (fun q59=>?_)
 have q59n:(decide (X26=M))=false:=by simpa using q59
 have q59np:=of_decide_eq_false q59n
 refine sg<|Pl 2<|nt<|rt<|tr<|rr (.tuple #[.slice none 0 0,.int .i64 1])<|?_
 refine ws_eq (wr_bad2 hX28 q59n) ?_
 exact ⟨rfl,U58⟩
 have q59n:(decide (X26=M))=true:=by simpa using q59
 have q59np:=of_decide_eq_true q59n
 refine skn<|sg<|Pl 3<|nt<|rt<|rr (.tuple #[.slice A20 ((diagLay dir M).length) cp21,.int .i64 0])<|?_
 have U60:=ut0 U48 hu51
 have r61:=own_stay rd24 U60 (fun x hx=>not0) (fun _ _ h=>h)
 refine ws_eq (wr_ok hX28 q46 q59n) ?_
 exact ⟨_,rfl,(OwnG.weaken r61 hu14.size),U58⟩
set_option maxRecDepth 100000 in
set_option maxHeartbeats 4000000 in
theorem mei_write {m:Bool} {cs:Array Value} {M:Msg} {w:World} {dir:Int} (h:MsgRd m w cs.toList M) (hf:MsgFew M) (hlen:(meiLay dir M).length≤1048576) : Calls Tryz.prog 67 #[.int .i64 dir,.agg cs] w (PWrite (writeOf parseMei meiLay dir M) w):=by
 have hM:=h
 obtain ⟨vw,vb,vd,vr,vo,h0,hw,hbt,hd,hr,ho,hR⟩:=h
 obtain rfl:cs=(msgCells M vw vb vd vr vo).toArray:=by apply Array.toList_inj.1; simpa using h0
 clear h0
 obtain ⟨Aw,kw,rfl,_,_⟩:=hw.shape
 obtain ⟨Ab,kb,rfl,_,_⟩:=hbt.shape
 obtain ⟨Ad,kd,rfl,_,_⟩:=hd.shape
 obtain ⟨Ar,kr,rfl,_,_⟩:=hr.shape
 obtain ⟨Ao,ko,rfl,_,_⟩:=ho.shape
 obtain ⟨q0,q1,q2,q3,q4,q5,q6,q7,q8,q9,q10,q11,q16,q17,q18,q19,q20⟩:=hR
 simp only [B8,B16] at q0 q1 q2 q3 q4 q5 q6 q7 q8 q9 q10 q11 q16 q17 q18 q19 q20
 refine en 29 Tryz.func67 rfl<|sg<|L0<|Obx (mG M.code M.fail M.addr M.count M.value M.and_ M.or_ M.addr2 M.sub M.status M.events M.messages (.slice Aw M.words.length kw) (.slice Ab M.bits.length kb) (.slice Ad M.data.length kd) (.slice Ar M.recs.length kr) M.mei M.kind M.level M.more M.next (.slice Ao M.objects.length ko)) fun g10 w11 hg12 B13 hu14=>Pl 2<|ng<|Pl 1<|L0<|Olw B13<|?_
 have r19:=MsgRd.old hM hu14
 refine L0<|Oc<|so2 (mei_lay (dir:=dir) r19 hf) fun A20 cp21 w15 rd24 hl22 hm23 hu18=>Pl 1<|ng<|Pl 2<|?_
 have r25:=ub hu18 B13
 refine L0<|Olb r25 0<|Pl 1<|?_
 refine pr (parseMei dir M.code (meiLay dir M)) fun X26 E27 hX28=>?_
 have hp33:Calls _ _ _ _ (PMsg (parseMei dir M.code (meiLay dir M)) w15):=mei_parse (dir:=dir) (c:=M.code) q0 (rd24).rd hlen
 rw [hX28] at hp33
 refine L0<|Oc<|e2 (hp33) fun cs30 w29 hM31 hu32=>Pl 3<|L0<|Oal mZ fun g34 w35 hg36 B37 hu38=>L0<|Osw (hz:=(by rw [hM31.size]; exact msg_size)) (hv:=hM31.size) (h1:=hM31.one) B37 (cs30) fun w39 B40 hu41=>Pl 1<|nt<|sq<|sg<|Pl 3<|?_
 have U42:=ut0 hu14 hu18
 have U43:=ut0 U42 hu32
 have U44:=ut0 U43 hu38
 have U45:=u1 U44 hu41 (ni U43.size hg36)
 refine bl 22 ((E27 != 0)) (fun q46=>?_) (fun q46=>?_)
 have q46p:=ne_of_bnei q46
 refine Pl 5<|nt<|c1<|sg<|Pl 2<|nt<|rt<|tr<|rr (.tuple #[.slice none 0 0,.int .i64 1])<|?_
 refine ws_eq (wr_bad1 hX28 q46) ?_
 exact ⟨rfl,U45⟩
 have q46p:=eq_of_bnei q46
 refine L1<|Olw (hz:=(by rw [hM31.size]; exact msg_size)) B40<|?_
 have U47:=ut0 hu32 hu38
 have U48:=u1 U47 hu41 (ni hu32.size hg36)
 have r49:=ub U48 r25
 refine L1<|Olw r49<|?_
 have U52:=u1 hu38 hu41 (nr hg36)
 have r53:=MsgRd.upd hM31 U52 safe0
 have U54:=ut0 hu18 hu32
 have U55:=ut0 U54 hu38
 have U56:=u1 U55 hu41 (ni U54.size hg36)
 have r57:=MsgRd.old r19 U56
 refine L1<|Oc<|m1 (same_any (A:=X26) (B:=M) r53 r57) fun w50 hu51=>Pl 2<|nt<|?_
 have U58:=ut0 U45 hu51
 refine cb ((!(decide (X26=M)))) (fun q59=>?_) (fun q59=>?_)
 have q59n:(decide (X26=M))=false:=by simpa using q59
 have q59np:=of_decide_eq_false q59n
 refine sg<|Pl 2<|nt<|rt<|tr<|rr (.tuple #[.slice none 0 0,.int .i64 1])<|?_
 refine ws_eq (wr_bad2 hX28 q59n) ?_
 exact ⟨rfl,U58⟩
 have q59n:(decide (X26=M))=true:=by simpa using q59
 have q59np:=of_decide_eq_true q59n
 refine skn<|sg<|Pl 3<|nt<|rt<|rr (.tuple #[.slice A20 ((meiLay dir M).length) cp21,.int .i64 0])<|?_
 have U60:=ut0 U48 hu51
 have r61:=own_stay rd24 U60 (fun x hx=>not0) (fun _ _ h=>h)
 refine ws_eq (wr_ok hX28 q46 q59n) ?_
 exact ⟨_,rfl,(OwnG.weaken r61 hu14.size),U58⟩
set_option maxRecDepth 100000 in
set_option maxHeartbeats 4000000 in
theorem files_write {m:Bool} {cs:Array Value} {M:Msg} {w:World} {dir:Int} (h:MsgRd m w cs.toList M) (hf:MsgFew M) (hlen:(filesLay dir M).length≤1048576) : Calls Tryz.prog 65 #[.int .i64 dir,.agg cs] w (PWrite (writeOf parseFiles filesLay dir M) w):=by
 have hM:=h
 obtain ⟨vw,vb,vd,vr,vo,h0,hw,hbt,hd,hr,ho,hR⟩:=h
 obtain rfl:cs=(msgCells M vw vb vd vr vo).toArray:=by apply Array.toList_inj.1; simpa using h0
 clear h0
 obtain ⟨Aw,kw,rfl,_,_⟩:=hw.shape
 obtain ⟨Ab,kb,rfl,_,_⟩:=hbt.shape
 obtain ⟨Ad,kd,rfl,_,_⟩:=hd.shape
 obtain ⟨Ar,kr,rfl,_,_⟩:=hr.shape
 obtain ⟨Ao,ko,rfl,_,_⟩:=ho.shape
 obtain ⟨q0,q1,q2,q3,q4,q5,q6,q7,q8,q9,q10,q11,q16,q17,q18,q19,q20⟩:=hR
 simp only [B8,B16] at q0 q1 q2 q3 q4 q5 q6 q7 q8 q9 q10 q11 q16 q17 q18 q19 q20
 refine en 29 Tryz.func65 rfl<|sg<|L0<|Obx (mG M.code M.fail M.addr M.count M.value M.and_ M.or_ M.addr2 M.sub M.status M.events M.messages (.slice Aw M.words.length kw) (.slice Ab M.bits.length kb) (.slice Ad M.data.length kd) (.slice Ar M.recs.length kr) M.mei M.kind M.level M.more M.next (.slice Ao M.objects.length ko)) fun g10 w11 hg12 B13 hu14=>Pl 2<|ng<|Pl 1<|L0<|Olw B13<|?_
 have r19:=MsgRd.old hM hu14
 refine L0<|Oc<|so2 (files_lay (dir:=dir) r19 hf) fun A20 cp21 w15 rd24 hl22 hm23 hu18=>Pl 1<|ng<|Pl 2<|?_
 have r25:=ub hu18 B13
 refine L0<|Olb r25 0<|Pl 1<|?_
 refine pr (parseFiles dir M.code (filesLay dir M)) fun X26 E27 hX28=>?_
 have hp33:Calls _ _ _ _ (PMsg (parseFiles dir M.code (filesLay dir M)) w15):=files_parse (dir:=dir) (c:=M.code) q0 (rd24).rd hlen
 rw [hX28] at hp33
 refine L0<|Oc<|e2 (hp33) fun cs30 w29 hM31 hu32=>Pl 3<|L0<|Oal mZ fun g34 w35 hg36 B37 hu38=>L0<|Osw (hz:=(by rw [hM31.size]; exact msg_size)) (hv:=hM31.size) (h1:=hM31.one) B37 (cs30) fun w39 B40 hu41=>Pl 1<|nt<|sq<|sg<|Pl 3<|?_
 have U42:=ut0 hu14 hu18
 have U43:=ut0 U42 hu32
 have U44:=ut0 U43 hu38
 have U45:=u1 U44 hu41 (ni U43.size hg36)
 refine bl 22 ((E27 != 0)) (fun q46=>?_) (fun q46=>?_)
 have q46p:=ne_of_bnei q46
 refine Pl 5<|nt<|c1<|sg<|Pl 2<|nt<|rt<|tr<|rr (.tuple #[.slice none 0 0,.int .i64 1])<|?_
 refine ws_eq (wr_bad1 hX28 q46) ?_
 exact ⟨rfl,U45⟩
 have q46p:=eq_of_bnei q46
 refine L1<|Olw (hz:=(by rw [hM31.size]; exact msg_size)) B40<|?_
 have U47:=ut0 hu32 hu38
 have U48:=u1 U47 hu41 (ni hu32.size hg36)
 have r49:=ub U48 r25
 refine L1<|Olw r49<|?_
 have U52:=u1 hu38 hu41 (nr hg36)
 have r53:=MsgRd.upd hM31 U52 safe0
 have U54:=ut0 hu18 hu32
 have U55:=ut0 U54 hu38
 have U56:=u1 U55 hu41 (ni U54.size hg36)
 have r57:=MsgRd.old r19 U56
 refine L1<|Oc<|m1 (same_any (A:=X26) (B:=M) r53 r57) fun w50 hu51=>Pl 2<|nt<|?_
 have U58:=ut0 U45 hu51
 refine cb ((!(decide (X26=M)))) (fun q59=>?_) (fun q59=>?_)
 have q59n:(decide (X26=M))=false:=by simpa using q59
 have q59np:=of_decide_eq_false q59n
 refine sg<|Pl 2<|nt<|rt<|tr<|rr (.tuple #[.slice none 0 0,.int .i64 1])<|?_
 refine ws_eq (wr_bad2 hX28 q59n) ?_
 exact ⟨rfl,U58⟩
 have q59n:(decide (X26=M))=true:=by simpa using q59
 have q59np:=of_decide_eq_true q59n
 refine skn<|sg<|Pl 3<|nt<|rt<|rr (.tuple #[.slice A20 ((filesLay dir M).length) cp21,.int .i64 0])<|?_
 have U60:=ut0 U48 hu51
 have r61:=own_stay rd24 U60 (fun x hx=>not0) (fun _ _ h=>h)
 refine ws_eq (wr_ok hX28 q46 q59n) ?_
 exact ⟨_,rfl,(OwnG.weaken r61 hu14.size),U58⟩
end Go.Proofs.YtpglhicfhppaiaaGreat
