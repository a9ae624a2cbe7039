/- Contracts of functions, part CAduParses5. -/
import Derived.Test.YtogbnemojakcpaaGreatCAduParses1
import Derived.Test.YtogbnemojakcpaaGreatCAduParses2
import Derived.Test.YtogbnemojakcpaaGreatCAduParses3
import Derived.Test.YtogbnemojakcpaaGreatCAduParses4
set_option linter.unusedVariables false
set_option linter.unusedSimpArgs false
set_option maxRecDepth 100000
set_option maxHeartbeats 4000000
namespace Go.Proofs.YtogbnemojakcpaaGreat
open Go.RowKit
def jA (k dir:Int)(b:List Int) : d7 × Int:=bif k==0 then dW dir b else bif k==1 then eD dir b else bif k==2 then dH dir b else (d7.zero,1)
def i2 (k:Int) : Int:=bif k==0 then 256 else bif k==1 then 513 else bif k==2 then 260 else 0
theorem k4{C:Prop}(k:Int)(h0:k=0→C)(h1:k=1→C)(h2:k=2→C)(h3:(k==0)=false→(k==1)=false→(k==2)=false→C) : C:=by
  cases e0:k==0
  · cases e1:k==1
    · cases e2:k==2
      · exact h3 e0 e1 e2
      · exact h2 (by simpa using e2)
    · exact h1 (by simpa using e1)
  · exact h0 (by simpa using e0)
theorem xz{k dir:Int}{b:List Int}(h0:(k==0)=false)(h1:(k==1)=false)(h2:(k==2)=false) : jA k dir b=(d7.zero,1):=by unfold jA;rw[h0,h1,h2];rfl
theorem wL{k:Int}(h0:(k==0)=false)(h1:(k==1)=false)(h2:(k==2)=false) : i2 k=0:=by unfold i2;rw[h0,h1,h2];rfl
def iU (base:Nat)(w:World)(v:Value)(xs:List Int) : Prop:=aT true w v xs∧∃ A n c,v = .slice A n c∧∀ x,x∈ob A→base≤x
theorem iU.wk{base base':Nat}{w:World}{v:Value}{xs:List Int}(h:iU base w v xs)(k:base'≤base) : iU base' w v xs:=by
  obtain⟨h1,A,n,c,h2,h3⟩:=h
  exact⟨h1,A,n,c,h2,fun x hx=>Nat.le_trans k (h3 x hx)⟩
def WR (res:Option (List Int))(base:Nat)(w:World)(v:Value)(n:Int) : Prop:=match res with
  | some l=>n=0∧iU base w v l
  | none=>n=1∧v = .slice none 0 0
theorem WR.wk{res:Option (List Int)}{base base':Nat}{w:World}{v:Value}{n:Int}(h:WR res base w v n)(k:base'≤base) : WR res base' w v n:=by
  cases res with
  | none=>exact h
  | some l=>exact⟨h.1,h.2.wk k⟩
def ze (res:Option (List Int))(w:World)(e:Ending)(w':World) : Prop:=∃ v n,e = .returned (.tuple #[v,.int .i64 n])∧WR res w.heap.size w' v n∧aD [] w w'
theorem iU.of{base:Nat}{w:World}{v:Value}{xs:List Int}(h:eq base w v xs) : iU base w v xs:=by
  obtain⟨A,c,rfl,_,_⟩:=h.rd.shape
  exact⟨h.rd,A,_,c,rfl,qA h⟩
theorem qJ{w:World}:Calls Tryz.prog 130 #[.int .i64 0] w (bP (.iface 192 (.agg #[])) w):=by
 refine en 18 Tryz.func130 rfl<|sg<|Pl 1<|nt<|sq<|sg<|Pl 1<|nt<|bk<|sq<|?_
 refine go<|Pl 2<|nt<|c1<|sg<|Pl 3<|nt<|rt<|br<|tr<|rr (.iface 192 (.agg #[]))<|?_
 exact⟨rfl,(aD.refl [] _)⟩
theorem qH{w:World}:Calls Tryz.prog 130 #[.int .i64 1] w (bP (.iface 193 (.agg #[])) w):=by
 refine en 18 Tryz.func130 rfl<|sg<|Pl 1<|nt<|sq<|sg<|Pl 1<|nt<|bk<|sq<|?_
 refine go<|Pl 2<|nt<|c0<|sg<|Pl 2<|nt<|c1<|sg<|Pl 3<|nl<|?_
 refine tn<|rt<|br<|tr<|rr (.iface 193 (.agg #[]))<|?_
 exact⟨rfl,(aD.refl [] _)⟩
theorem ms{w:World}:Calls Tryz.prog 130 #[.int .i64 2] w (bP (.iface 194 (.agg #[])) w):=by
 refine en 18 Tryz.func130 rfl<|sg<|Pl 1<|nt<|sq<|sg<|Pl 1<|nt<|bk<|sq<|?_
 refine go<|Pl 2<|nt<|c0<|sg<|Pl 2<|nt<|c0<|sg<|Pl 2<|nl<|?_
 refine tn<|c1<|sg<|Pl 3<|nt<|rt<|br<|tr<|rr (.iface 194 (.agg #[]))<|?_
 exact⟨rfl,(aD.refl [] _)⟩
theorem qu{w:World}{k:Int}(h0:(k==0)=false)(h1:(k==1)=false)(h2:(k==2)=false) : Calls Tryz.prog 130 #[.int .i64 k] w (bP (.iface 195 (.agg #[])) w):=by
 refine en 18 Tryz.func130 rfl<|sg<|Pl 1<|nt<|sq<|sg<|Pl 1<|nt<|bk<|sq<|?_
 refine go<|Pl 2<|nt<|cf h0<|sg<|Pl 2<|nt<|cf h1<|sg<|Pl 2<|nl<|?_
 refine tn<|cf h2<|sk<|bn<|tn<|sg<|Pl 3<|nt<|rt<|rr (.iface 195 (.agg #[]))<|?_
 exact⟨rfl,(aD.refl [] _)⟩
theorem vL{w:World}:Calls Tryz.prog 284 #[.agg #[]] w (bP (.int .i64 256) w):=by
 refine en 3 Tryz.func284 rfl<|sg<|L0<|dq #[] fun b c d e a=>Pl 1<|ng<|Pl 1<|nt<|rt<|rr (.int .i64 256)<|?_
 exact⟨rfl,a⟩
theorem rb{w:World}:Calls Tryz.prog 67 #[.int .i64 0] w (bP (.int .i64 256) w):=by
 refine en 6 Tryz.func67 rfl<|sg<|Pl 1<|ng<|Pl 1<|L0<|Oc<|m1 (qJ) fun c a=>L0<|w7 (f:=284) (args:=#[.agg #[]]) 192 (.agg #[]) (.agg #[])<|m1 (@vL _) fun d b=>Pl 1<|nt<|?_
 refine rt<|rr (.int .i64 256)<|?_
 exact⟨rfl,(aF a b)⟩
theorem vP{w:World}:Calls Tryz.prog 287 #[.agg #[]] w (bP (.int .i64 513) w):=by
 refine en 3 Tryz.func287 rfl<|sg<|L0<|dq #[] fun b c d e a=>Pl 1<|ng<|Pl 1<|nt<|rt<|rr (.int .i64 513)<|?_
 exact⟨rfl,a⟩
theorem rO{w:World}:Calls Tryz.prog 67 #[.int .i64 1] w (bP (.int .i64 513) w):=by
 refine en 6 Tryz.func67 rfl<|sg<|Pl 1<|ng<|Pl 1<|L0<|Oc<|m1 (qH) fun c a=>L0<|w7 (f:=287) (args:=#[.agg #[]]) 193 (.agg #[]) (.agg #[])<|m1 (@vP _) fun d b=>Pl 1<|nt<|?_
 refine rt<|rr (.int .i64 513)<|?_
 exact⟨rfl,(aF a b)⟩
theorem vI{w:World}:Calls Tryz.prog 290 #[.agg #[]] w (bP (.int .i64 260) w):=by
 refine en 3 Tryz.func290 rfl<|sg<|L0<|dq #[] fun b c d e a=>Pl 1<|ng<|Pl 1<|nt<|rt<|rr (.int .i64 260)<|?_
 exact⟨rfl,a⟩
theorem s4{w:World}:Calls Tryz.prog 67 #[.int .i64 2] w (bP (.int .i64 260) w):=by
 refine en 6 Tryz.func67 rfl<|sg<|Pl 1<|ng<|Pl 1<|L0<|Oc<|m1 (ms) fun c a=>L0<|w7 (f:=290) (args:=#[.agg #[]]) 194 (.agg #[]) (.agg #[])<|m1 (@vI _) fun d b=>Pl 1<|nt<|?_
 refine rt<|rr (.int .i64 260)<|?_
 exact⟨rfl,(aF a b)⟩
theorem vt{w:World}:Calls Tryz.prog 293 #[.agg #[]] w (bP (.int .i64 0) w):=by
 refine en 3 Tryz.func293 rfl<|sg<|L0<|dq #[] fun b c d e a=>Pl 1<|ng<|Pl 1<|nt<|rt<|rr (.int .i64 0)<|?_
 exact⟨rfl,a⟩
theorem sn{w:World}{k:Int}(h0:(k==0)=false)(h1:(k==1)=false)(h2:(k==2)=false) : Calls Tryz.prog 67 #[.int .i64 k] w (bP (.int .i64 0) w):=by
 refine en 6 Tryz.func67 rfl<|sg<|Pl 1<|ng<|Pl 1<|L0<|Oc<|m1 (qu h0 h1 h2) fun c a=>L0<|w7 (f:=293) (args:=#[.agg #[]]) 195 (.agg #[]) (.agg #[])<|m1 (@vt _) fun d b=>Pl 1<|nt<|?_
 refine rt<|rr (.int .i64 0)<|?_
 exact⟨rfl,(aF a b)⟩
theorem iQ{w:World}{k:Int}:Calls Tryz.prog 67 #[.int .i64 k] w (bP (.int .i64 (i2 k)) w):=by
  refine k4 k (fun h=>?_) (fun h=>?_) (fun h=>?_) (fun h0 h1 h2=>?_)
  · subst h;exact rb
  · subst h;exact rO
  · subst h;exact s4
  · rw[wL h0 h1 h2];exact sn h0 h1 h2
theorem wu{m:Md}{A:Option Addr}{cp:Nat}{b:List Int}{w:World}{dir:Int}{F:d7}{E:Int}(hX:dW dir b=(F,E))(hsl:aT m w (.slice A b.length cp) b)(hb:b.length≤1048576) : Calls Tryz.prog 285 #[.agg #[],.int .i64 dir,.slice A b.length cp] w (fun e w'=>∃ x,e = .returned (.tuple #[.agg (fD F.unit F.tid F.msg x),.int .i64 E])∧(aL true w' (gF F.msg x).toList F.msg∧(0≤F.unit∧F.unit<256)∧(0≤F.tid∧F.tid<65536))∧aD [] w w'):=by
 refine en 13 Tryz.func285 rfl<|sg<|L0<|dq #[] fun q r s t a=>L0<|bE jc fun u v h i j=>Pl 1<|ng<|Pl 2<|?_
 have c:=aF a j
 refine L0<|Oc<|e2 (nY hX (aT.old hsl c) hb) fun x20 y k d=>?_
 obtain⟨l,n,o⟩:=k
 refine Pl 2<|?_
 have f:=ub d i
 refine L0<|aW f (fD F.unit F.tid F.msg x20) fun z p g=>Pl 1<|nt<|rt<|bz p (.int .i64 E)<|?_
 exact⟨x20,rfl,⟨(aL.upd l g (ak (aM f (by decide)) aG)),n,o⟩,(ud c (uz d g) (le a.size h))⟩
theorem kv{m:Md}{A:Option Addr}{cp:Nat}{b:List Int}{w:World}{dir:Int}{F:d7}{E:Int}(hX:dW dir b=(F,E))(hsl:aT m w (.slice A b.length cp) b)(hb:b.length≤1048576) : Calls Tryz.prog 65 #[.int .i64 0,.int .i64 dir,.slice A b.length cp] w (fun e w'=>∃ x,e = .returned (.tuple #[.agg (fD F.unit F.tid F.msg x),.int .i64 E])∧(aL true w' (gF F.msg x).toList F.msg∧(0≤F.unit∧F.unit<256)∧(0≤F.tid∧F.tid<65536))∧aD [] w w'):=by
 refine en 15 Tryz.func65 rfl<|sg<|L0<|bE jc fun r s i j k=>Pl 1<|ng<|Pl 1<|L0<|Oc<|m1 (qJ) fun t a=>Pl 2<|?_
 have c:=aF k a
 refine L0<|w7 (f:=285) (args:=#[.agg #[],.int .i64 dir,.slice A b.length cp]) 192 (.agg #[]) (.agg #[])<|e2 (wu hX (aT.old hsl c) hb) fun x17 u l d=>?_
 obtain⟨n,o,p⟩:=l
 refine Pl 2<|?_
 have g:=ub (aF a d) j
 refine L0<|aW g (fD F.unit F.tid F.msg x17) fun v q h=>Pl 1<|nt<|rt<|bz q (.int .i64 E)<|?_
 exact⟨x17,rfl,⟨(aL.upd n h (ak (aM g (by decide)) aG)),o,p⟩,(ud c (uz d h) i)⟩
theorem wm{m:Md}{A:Option Addr}{cp:Nat}{b:List Int}{w:World}{dir:Int}{F:d7}{E:Int}(hX:eD dir b=(F,E))(hsl:aT m w (.slice A b.length cp) b)(hb:b.length≤1048576) : Calls Tryz.prog 288 #[.agg #[],.int .i64 dir,.slice A b.length cp] w (fun e w'=>∃ x,e = .returned (.tuple #[.agg (fD F.unit F.tid F.msg x),.int .i64 E])∧(aL true w' (gF F.msg x).toList F.msg∧(0≤F.unit∧F.unit<256)∧(0≤F.tid∧F.tid<65536))∧aD [] w w'):=by
 refine en 13 Tryz.func288 rfl<|sg<|L0<|dq #[] fun q r s t a=>L0<|bE jc fun u v h i j=>Pl 1<|ng<|Pl 2<|?_
 have c:=aF a j
 refine L0<|Oc<|e2 (o3 hX (aT.old hsl c) hb) fun x20 y k d=>?_
 obtain⟨l,n,o⟩:=k
 refine Pl 2<|?_
 have f:=ub d i
 refine L0<|aW f (fD F.unit F.tid F.msg x20) fun z p g=>Pl 1<|nt<|rt<|bz p (.int .i64 E)<|?_
 exact⟨x20,rfl,⟨(aL.upd l g (ak (aM f (by decide)) aG)),n,o⟩,(ud c (uz d g) (le a.size h))⟩
theorem oR{m:Md}{A:Option Addr}{cp:Nat}{b:List Int}{w:World}{dir:Int}{F:d7}{E:Int}(hX:eD dir b=(F,E))(hsl:aT m w (.slice A b.length cp) b)(hb:b.length≤1048576) : Calls Tryz.prog 65 #[.int .i64 1,.int .i64 dir,.slice A b.length cp] w (fun e w'=>∃ x,e = .returned (.tuple #[.agg (fD F.unit F.tid F.msg x),.int .i64 E])∧(aL true w' (gF F.msg x).toList F.msg∧(0≤F.unit∧F.unit<256)∧(0≤F.tid∧F.tid<65536))∧aD [] w w'):=by
 refine en 15 Tryz.func65 rfl<|sg<|L0<|bE jc fun r s i j k=>Pl 1<|ng<|Pl 1<|L0<|Oc<|m1 (qH) fun t a=>Pl 2<|?_
 have c:=aF k a
 refine L0<|w7 (f:=288) (args:=#[.agg #[],.int .i64 dir,.slice A b.length cp]) 193 (.agg #[]) (.agg #[])<|e2 (wm hX (aT.old hsl c) hb) fun x17 u l d=>?_
 obtain⟨n,o,p⟩:=l
 refine Pl 2<|?_
 have g:=ub (aF a d) j
 refine L0<|aW g (fD F.unit F.tid F.msg x17) fun v q h=>Pl 1<|nt<|rt<|bz q (.int .i64 E)<|?_
 exact⟨x17,rfl,⟨(aL.upd n h (ak (aM g (by decide)) aG)),o,p⟩,(ud c (uz d h) i)⟩
theorem vz{m:Md}{A:Option Addr}{cp:Nat}{b:List Int}{w:World}{dir:Int}{F:d7}{E:Int}(hX:dH dir b=(F,E))(hsl:aT m w (.slice A b.length cp) b)(hb:b.length≤1048576) : Calls Tryz.prog 291 #[.agg #[],.int .i64 dir,.slice A b.length cp] w (fun e w'=>∃ x,e = .returned (.tuple #[.agg (fD F.unit F.tid F.msg x),.int .i64 E])∧(aL true w' (gF F.msg x).toList F.msg∧(0≤F.unit∧F.unit<256)∧(0≤F.tid∧F.tid<65536))∧aD [] w w'):=by
 refine en 13 Tryz.func291 rfl<|sg<|L0<|dq #[] fun q r s t a=>L0<|bE jc fun u v h i j=>Pl 1<|ng<|Pl 2<|?_
 have c:=aF a j
 refine L0<|Oc<|e2 (mX hX (aT.old hsl c) hb) fun x20 y k d=>?_
 obtain⟨l,n,o⟩:=k
 refine Pl 2<|?_
 have f:=ub d i
 refine L0<|aW f (fD F.unit F.tid F.msg x20) fun z p g=>Pl 1<|nt<|rt<|bz p (.int .i64 E)<|?_
 exact⟨x20,rfl,⟨(aL.upd l g (ak (aM f (by decide)) aG)),n,o⟩,(ud c (uz d g) (le a.size h))⟩
theorem pB{m:Md}{A:Option Addr}{cp:Nat}{b:List Int}{w:World}{dir:Int}{F:d7}{E:Int}(hX:dH dir b=(F,E))(hsl:aT m w (.slice A b.length cp) b)(hb:b.length≤1048576) : Calls Tryz.prog 65 #[.int .i64 2,.int .i64 dir,.slice A b.length cp] w (fun e w'=>∃ x,e = .returned (.tuple #[.agg (fD F.unit F.tid F.msg x),.int .i64 E])∧(aL true w' (gF F.msg x).toList F.msg∧(0≤F.unit∧F.unit<256)∧(0≤F.tid∧F.tid<65536))∧aD [] w w'):=by
 refine en 15 Tryz.func65 rfl<|sg<|L0<|bE jc fun r s i j k=>Pl 1<|ng<|Pl 1<|L0<|Oc<|m1 (ms) fun t a=>Pl 2<|?_
 have c:=aF k a
 refine L0<|w7 (f:=291) (args:=#[.agg #[],.int .i64 dir,.slice A b.length cp]) 194 (.agg #[]) (.agg #[])<|e2 (vz hX (aT.old hsl c) hb) fun x17 u l d=>?_
 obtain⟨n,o,p⟩:=l
 refine Pl 2<|?_
 have g:=ub (aF a d) j
 refine L0<|aW g (fD F.unit F.tid F.msg x17) fun v q h=>Pl 1<|nt<|rt<|bz q (.int .i64 E)<|?_
 exact⟨x17,rfl,⟨(aL.upd n h (ak (aM g (by decide)) aG)),o,p⟩,(ud c (uz d h) i)⟩
theorem uR{m:Md}{A:Option Addr}{cp:Nat}{b:List Int}{w:World}{dir:Int}{F:d7}{E:Int}(hX:(d7.zero,(1:Int))=(F,E))(hsl:aT m w (.slice A b.length cp) b)(hb:b.length≤1048576) : Calls Tryz.prog 294 #[.agg #[],.int .i64 dir,.slice A b.length cp] w (fun e w'=>∃ x,e = .returned (.tuple #[.agg (fD F.unit F.tid F.msg x),.int .i64 E])∧(aL true w' (gF F.msg x).toList F.msg∧(0≤F.unit∧F.unit<256)∧(0≤F.tid∧F.tid<65536))∧aD [] w w'):=by
 refine en 9 Tryz.func294 rfl<|sg<|L0<|dq #[] fun i j k l a=>L0<|bE jc fun n o c d f=>Pl 1<|ng<|Pl 1<|L0<|aW d jc fun p g h=>Pl 1<|nl<|?_
 refine tn<|rt<|bz g (.int .i64 1)<|?_
 injection hX with e1 e2
 subst e1 e2
 exact⟨⟨none,0,none,0,none,0,none,0,none,0⟩,rfl,⟨aL.zero ..,(show(0:Int)≤0∧(0:Int)<256 from by decide),(show(0:Int)≤0∧(0:Int)<65536 from by decide)⟩,(aF a (ud f h c))⟩
theorem pu{m:Md}{A:Option Addr}{cp:Nat}{b:List Int}{w:World}{dir:Int}{F:d7}{E:Int}{k:Int}(h0:(k==0)=false)(h1:(k==1)=false)(h2:(k==2)=false)(hX:(d7.zero,(1:Int))=(F,E))(hsl:aT m w (.slice A b.length cp) b)(hb:b.length≤1048576) : Calls Tryz.prog 65 #[.int .i64 k,.int .i64 dir,.slice A b.length cp] w (fun e w'=>∃ x,e = .returned (.tuple #[.agg (fD F.unit F.tid F.msg x),.int .i64 E])∧(aL true w' (gF F.msg x).toList F.msg∧(0≤F.unit∧F.unit<256)∧(0≤F.tid∧F.tid<65536))∧aD [] w w'):=by
 refine en 15 Tryz.func65 rfl<|sg<|L0<|bE jc fun s t i j l=>Pl 1<|ng<|Pl 1<|L0<|Oc<|m1 (qu h0 h1 h2) fun u a=>Pl 2<|?_
 have c:=aF l a
 refine L0<|w7 (f:=294) (args:=#[.agg #[],.int .i64 dir,.slice A b.length cp]) 195 (.agg #[]) (.agg #[])<|e2 (uR hX (aT.old hsl c) hb) fun x17 v n d=>?_
 obtain⟨o,p,q⟩:=n
 refine Pl 2<|?_
 have g:=ub (aF a d) j
 refine L0<|aW g (fD F.unit F.tid F.msg x17) fun y r h=>Pl 1<|nt<|rt<|bz r (.int .i64 E)<|?_
 exact⟨x17,rfl,⟨(aL.upd o h (ak (aM g (by decide)) aG)),p,q⟩,(ud c (uz d h) i)⟩
theorem jo{k:Int}{m:Md}{v:Value}{b:List Int}{w:World}{dir:Int}{F:d7}{E:Int}(hX:jA k dir b=(F,E))(h:aT m w v b)(hb:b.length≤1048576) : Calls Tryz.prog 65 #[.int .i64 k,.int .i64 dir,v] w (fun e w'=>∃ x,e = .returned (.tuple #[.agg (fD F.unit F.tid F.msg x),.int .i64 E])∧(aL true w' (gF F.msg x).toList F.msg∧(0≤F.unit∧F.unit<256)∧(0≤F.tid∧F.tid<65536))∧aD [] w w'):=by
  obtain⟨A,cp,rfl,_,_⟩:=h.shape
  refine k4 k (fun e=>?_) (fun e=>?_) (fun e=>?_) (fun h0 h1 h2=>?_)
  · subst e;exact kv hX h hb
  · subst e;exact oR hX h hb
  · subst e;exact pB hX h hb
  · rw[xz h0 h1 h2] at hX;exact pu h0 h1 h2 hX h hb
theorem oB{m:Md}{x:SL}{M:aQ}{w:World}{dir u t:Int}(h:aL m w (gF M x).toList M)(hf:cO M)(hbu:0≤u∧u<256)(hbt:0≤t∧t<65536) : Calls Tryz.prog 34 #[.int .i64 dir,.agg (fD u t M x)] w (ze (gB dir u t M) w):=by
  cases hX:gB dir u t M with
  | none =>
    refine(mK hX h hf hbu hbt).mono ?_
    rintro e w' ⟨rfl,hu⟩
    exact⟨_,_,rfl,⟨rfl,rfl⟩,hu⟩
  | some l =>
    refine(mU hX h hf hbu hbt).mono ?_
    rintro e w' ⟨v,rfl,ho,hu⟩
    exact⟨_,_,rfl,⟨rfl,iU.of ho⟩,hu⟩
theorem vO{m:Md}{x:SL}{M:aQ}{w:World}{dir u t:Int}(h:aL m w (gF M x).toList M)(hf:cO M)(hbu:0≤u∧u<256)(hbt:0≤t∧t<65536) : Calls Tryz.prog 292 #[.agg #[],.int .i64 dir,.agg (fD u t M x)] w (ze (gB dir u t M) w):=by
 refine en 13 Tryz.func292 rfl<|sg<|L0<|dq #[] fun j k l n b=>L0<|dq (fD u t M x) fun o p q c d=>Pl 2<|ng<|Pl 1<|L0<|ci c<|?_
 have a:=aF b d
 refine L0<|Oc<|z9 (oB (dir:=dir) (aL.old h a) hf hbu hbt) fun e f r g i=>Pl 4<|nt<|rt<|rr (.tuple #[e,.int .i64 f])<|?_
 exact⟨_,_,rfl,g.wk a.size,(aF a i)⟩
theorem oS{m:Md}{x:SL}{M:aQ}{w:World}{dir u t:Int}(h:aL m w (gF M x).toList M)(hf:cO M)(hbu:0≤u∧u<256)(hbt:0≤t∧t<65536) : Calls Tryz.prog 69 #[.int .i64 2,.int .i64 dir,.agg (fD u t M x)] w (ze (gB dir u t M) w):=by
 refine en 15 Tryz.func69 rfl<|sg<|L0<|dq (fD u t M x) fun d s v n o=>Pl 2<|nt<|sq<|Rg 9 (fun w'=>w'.heap[d]? = some (.cells (fD u t M x) 44 (0,0))) fun y e=>?_
 have i:=ub e n
 refine bg i fun b=>Rt 0 b<|Rt 2 b<|Rr 3 b (.agg (fD u t M x)) (fun w' hs=>gM (g:=d) (off:=0) [.int .u8 u,.int .u16 t,.int .u8 M.code,.int .u8 M.fail,.int .u16 M.addr,.int .u16 M.count,.int .u16 M.value,.int .u16 M.and_,.int .u16 M.or_,.int .u16 M.addr2,.int .u16 M.sub,.int .u16 M.status,.int .u16 M.events,.int .u16 M.messages,.slice x.aw M.words.length x.kw,.slice x.ab M.bits.length x.kb,.slice x.ad M.data.length x.kd,.slice x.ar M.recs.length x.kr,.int .u8 M.mei,.int .u8 M.kind,.int .u8 M.level,.int .u8 M.more,.int .u8 M.next,.slice x.ao M.objects.length x.ko] rfl (by kernel_rfl) hs (by kernel_rfl) (by kernel_rfl) rfl)<|R0 1 rfl<|Oc<|m1 (ms) fun z j=>?_
 have k:=ub j i
 refine bg k fun A=>?_
 have c:=aF o (aF e j)
 refine R0 4 rfl<|w7 (f:=292) (args:=#[.agg #[],.int .i64 dir,.agg (fD u t M x)]) 194 (.agg #[]) (.agg #[])<|z9 (vO (dir:=dir) (aL.old h c) hf hbu hbt) fun p q B r l=>?_
 refine bg (ub l k) fun a=>Rt 5 a<|Rt 6 a<|Rt 7 a<|Rt 8 a<|re<|tn<|rt<|rr (.tuple #[p,.int .i64 q])<|?_
 exact⟨_,_,rfl,r.wk c.size,(aF c l)⟩
open Go.RowKit
theorem y7:dW 0 [1,7,65,226]=(⟨1,0,iG⟩,0):=by decide +kernel
theorem y9:gB 0 1 0 iG=some [0,0,0,0,0,2,1,7]:=by decide +kernel
theorem ym:jA 2 0 [0,0,0,0,0,2,1,7]=(⟨1,0,iG⟩,0):=by decide +kernel
theorem xU:cO iG:=⟨by decide,by decide,by decide,by decide,(fun r h=>by cases h),by decide,(fun r h=>by cases h)⟩
theorem iU.shape{base:Nat}{w:World}{v:Value}{xs:List Int}(h:iU base w v xs) : ∃ A cp,v = .slice A xs.length cp∧aT true w (.slice A xs.length cp) xs∧∀ x,x∈ob A→base≤x:=by
  obtain⟨h1,A,n,c,rfl,h2⟩:=h
  obtain⟨A',c',e,_,_⟩:=h1.shape
  injection e with e1 e2 e3
  subst e1 e2 e3
  exact⟨A,c,rfl,h1,h2⟩
theorem pq{m:Md}{A:Option Addr}{cp:Nat}{w:World}(hsl:aT m w (.slice A 4 cp) [1,7,65,226]) : Calls Tryz.prog 71 #[.int .i64 0,.int .i64 2,.int .i64 0,.slice A 4 cp] w (fun e w'=>∃ v,e = .returned (.tuple #[v,.int .i64 0])∧iU w.heap.size w' v [0,0,0,0,0,2,1,7]∧aD [] w w'):=by
 refine en 40 Tryz.func71 rfl<|sg<|Pl 2<|nt<|sq<|sg<|Pl 1<|L0<|Oc<|m1 (iQ (k:=0)) fun E a=>Pl 3<|L1<|Oc<|m1 (iQ (k:=2)) fun F b=>Pl 2<|nl<|?_
 refine tn<|c0<|bi<|sg<|Pl 3<|?_
 have c:=aF a b
 refine L0<|Oc<|e2 (kv y7 (aT.old hsl c) (by decide)) fun x14 G j d=>?_
 obtain⟨l,H,I⟩:=j
 refine Pl 3<|L0<|bE jc fun J K n o f=>L0<|aW o #[.int .u8 1,.int .u16 0,.int .u8 7,.int .u8 0,.int .u16 0,.int .u16 0,.int .u16 0,.int .u16 0,.int .u16 0,.int .u16 0,.int .u16 0,.int .u16 0,.int .u16 0,.int .u16 0,.slice x14.aw iG.words.length x14.kw,.slice x14.ab iG.bits.length x14.kb,.slice x14.ad iG.data.length x14.kd,.slice x14.ar iG.recs.length x14.kr,.int .u8 0,.int .u8 0,.int .u8 0,.int .u8 0,.int .u8 0,.slice x14.ao iG.objects.length x14.ko] fun L p g=>Pl 1<|nt<|sq<|sg<|Pl 2<|nt<|c0<|sk<|?_
 refine tn<|sq<|sg<|Pl 2<|nt<|c0<|bi<|sg<|Pl 2<|L0<|ci p<|?_
 have h:=ud f g n
 have i:=oS (dir:=0) (u:=1) (t:=0) (aL.upd l h aG) xU (by decide) (by decide)
 rw[y9] at i
 refine L0<|Oc<|z9 i fun M N O q r=>?_
 obtain⟨s,y⟩:=q
 subst s
 obtain⟨z,B,rfl,C,D⟩:=iU.shape y
 refine Pl 4<|nt<|rt<|rr (.tuple #[.slice z (([0,0,0,0,0,2,1,7]).length) B,.int .i64 0])<|?_
 exact⟨_,rfl,(show iU _ _ _ _ from⟨C,_,_,_,rfl,fun x hx=>Nat.le_trans (le (le (le (le a.size b.size) d.size) f.size) g.size) (D x hx)⟩),(aF c (aF d (aF h r)))⟩
theorem sw{m:Md}{v:Value}{w:World}(h:aT m w v [1,7,65,226]) : Calls Tryz.prog 71 #[.int .i64 0,.int .i64 2,.int .i64 0,v] w (fun e w'=>∃ v,e = .returned (.tuple #[v,.int .i64 0])∧iU w.heap.size w' v [0,0,0,0,0,2,1,7]∧aD [] w w'):=by
  obtain⟨A,cp,rfl,_,_⟩:=h.shape
  exact pq h
theorem wi{w:World}:Calls Tryz.prog 64 #[] w (bP (.bool true) w):=by
 refine en 42 Tryz.func64 rfl<|sg<|Pl 1<|ng<|L0<|dD (m:=4) (e:=5) #[.int .u8 1,.int .u8 7,.int .u8 65,.int .u8 226] fun B C h i j=>?_
 have l:=dR h (xs:=[1,7,65,226]) (by as_aux_lemma=>kernel_rfl) (az (by omega) (az (by omega) (az (by omega) (az (by omega) aZ)))) (by(try simp only[List.length_cons,List.length_nil]);omega) i
 refine L0<|Oc<|e2 (sw (l).rd) fun D E o p=>?_
 obtain⟨q,r,rfl,d,F⟩:=iU.shape o
 refine Pl 5<|ng<|Pl 1<|L0<|Oc<|e2 (jo ym d (by decide)) fun x25 G s t=>?_
 obtain⟨H,I,J⟩:=s
 refine Pl 3<|L0<|bE jc fun K L u v x=>L0<|aW v #[.int .u8 1,.int .u16 0,.int .u8 7,.int .u8 0,.int .u16 0,.int .u16 0,.int .u16 0,.int .u16 0,.int .u16 0,.int .u16 0,.int .u16 0,.int .u16 0,.int .u16 0,.int .u16 0,.slice x25.aw iG.words.length x25.kw,.slice x25.ab iG.bits.length x25.kb,.slice x25.ad iG.data.length x25.kd,.slice x25.ar iG.recs.length x25.kr,.int .u8 0,.int .u8 0,.int .u8 0,.int .u8 0,.int .u8 0,.slice x25.ao iG.objects.length x25.ko] fun M f y=>Pl 1<|ng<|Pl 8<|?_
 have g:=aF t (ud x y u)
 refine L1<|g9 (.string (strOfNums ([0,0,0,0,0,2,1,7]))) (cL (A:=q) (n:=([0,0,0,0,0,2,1,7]).length) (c:=r) rfl (by kernel_rfl) Tryz.underlying22 Tryz.underlying5 Tryz.underlying9 (aT.upd' d g aG))<|L1<|g9 (.bool true) (eY (a:=(strOfNums ([0,0,0,0,0,2,1,7]))) (b:=⟨#[0,0,0,0,0,2,1,7]⟩) rfl (by kernel_rfl) (by kernel_rfl) (wc rfl (by decide)))<|Pl 4<|L1<|aU f 0<|Pl 5<|L1<|aU f 2<|Pl 3<|L1<|Oc<|m1 (iQ (k:=1)) fun N z=>Pl 3<|nt<|rt<|rr (.bool true)<|?_
 exact⟨rfl,(aF j (aF p (aF g z)))⟩
open Go.RowKit
theorem pj{m m':Md}{A B:Option Addr}{c d:Nat}{xs ys:List Int}{w:World}(h1:aT m w (.slice A xs.length c) xs)(h2:aT m' w (.slice B ys.length d) ys) :
    Calls Tryz.prog 30 #[.slice A xs.length c,.slice B ys.length d] w (bP (.bool (decide (xs=ys))) w):=by
 refine en 10 Tryz.func30 rfl<|sg<|Pl 1<|ng<|Pl 1<|L0<|g9 (.string (strOfNums xs)) (cL (A:=A) (n:=xs.length) (c:=c) rfl (by kernel_rfl) Tryz.underlying22 Tryz.underlying5 Tryz.underlying9 h1)<|Pl 1<|L0<|g9 (.string (strOfNums ys)) (cL (A:=B) (n:=ys.length) (c:=d) rfl (by kernel_rfl) Tryz.underlying22 Tryz.underlying5 Tryz.underlying9 h2)<|L0<|g9 (.bool (decide (xs=ys))) (eY (a:=(strOfNums xs)) (b:=(strOfNums ys)) rfl (by kernel_rfl) (by kernel_rfl) (iv h1 h2))<|Pl 1<|nl<|?_
 refine tn<|rt<|rr (.bool (decide (xs=ys)))<|?_
 exact⟨rfl,(aD.refl [] _)⟩
theorem mb{m m':Md}{a b:Value}{xs ys:List Int}{w:World}(h1:aT m w a xs)(h2:aT m' w b ys) : Calls Tryz.prog 30 #[a,b] w (bP (.bool (decide (xs=ys))) w):=by
  obtain⟨A,c,rfl,_,_⟩:=h1.shape
  obtain⟨B,d,rfl,_,_⟩:=h2.shape
  exact pj h1 h2
open Go.RowKit
theorem gj{α:Type}{xs ys:List α}{k:Nat}(h:xs.take k=ys.take k)(h1:k=xs.length)(h2:xs.length=ys.length) : xs=ys:=by
  rw[List.take_of_length_le (by omega),List.take_of_length_le (by omega)] at h
  exact h
theorem ly{m m':Md}{A B:Option Addr}{c d:Nat}{xs ys:List Int}{w:World}(h1:e8 m w (.slice A xs.length c) xs)(h2:e8 m' w (.slice B ys.length d) ys) :
    Calls Tryz.prog 98 #[.slice A xs.length c,.slice B ys.length d] w (bP (.bool (decide (xs=ys))) w):=by
 have hz1:=aK.len h1
 have hz2:=aK.len h2
 refine en 26 Tryz.func98 rfl<|sg<|Pl 1<|nt<|sq<|sg<|Pl 5<|nt<|cb ((((xs.length:Nat) : Int)!=((ys.length:Nat) : Int))) (fun g=>?_) (fun g=>?_)
 have j:=aq g
 refine sg<|Pl 1<|nt<|rt<|tr<|rr (.bool false)<|?_
 have hs:decide (xs=ys)=false:=decide_eq_false (fun e=>by rw[e] at j;omega)
 rw[hs]
 exact⟨rfl,(aD.refl [] _)⟩
 have j:=ai g
 refine bi<|sq<|sg<|Pl 1<|nt<|bk<|?_
 refine hY (fun x=>[(0,.slice A xs.length c),(1,.slice B ys.length d),(5,.int .i64 ((x:Nat) : Int))]) (fun(x:Nat) w'=>aD [] w w'∧(xs.take x=ys.take x)∧(x≤xs.length)) (fun x=>xs.length-x) 0 ⟨aD.refl _ _,(by(try dsimp only);simp),(by(try dsimp only);omega)⟩ ?_
 rintro k E ⟨b,p,q⟩
 refine i1 [(0,.slice A xs.length c),(1,.slice B ys.length d),(5,.int .i64 ((k:Nat) : Int))] ?_
 have l:xs.take k=ys.take k:=p
 have F:k≤xs.length:=q
 refine sq<|sg<|Pl 4<|nt<|cb ((decide (((k:Nat) : Int)<((xs.length:Nat) : Int)))) (fun h=>?_) (fun h=>?_)
 have r:=of_decide_eq_true h
 refine bi<|sq<|bk<|sq<|?_
 refine eJ (e8.at_ (e8.old h1 b) k (by omega)) fun s t u v G=>?_
 refine eJ (e8.at_ (e8.old h2 b) k (by omega)) fun y z C D H=>Rg 9 (fun w'=>w'.cell? ⟨s,t+k,none⟩=some (.int .u16 (xs.getD k 0))∧w'.cell? ⟨y,z+k,none⟩=some (.int .u16 (ys.getD k 0))) fun I i=>bg ⟨(uc i v),(uc i D)⟩ fun a=>Rt 0 a<|Rt 1 a<|kU 2 a xs.length k ((k:Nat) : Int) rfl u (by omega)<|Rl 3 a (fun _ hs=>hs.1)<|Rt 4 a<|Rt 5 a<|kU 6 a ys.length k ((k:Nat) : Int) rfl C (by omega)<|Rl 7 a (fun _ hs=>hs.2)<|Rt 8 a<|re<|tn<|?_
 have n:=aF b i
 refine cb (((xs.getD k 0)!=(ys.getD k 0))) (fun f=>?_) (fun f=>?_)
 have o:=aq f
 refine sg<|Pl 1<|nt<|rt<|br<|tr<|tr<|br<|tr<|rr (.bool false)<|?_
 have hs:decide (xs=ys)=false:=decide_eq_false (rT (d:=0) k (by simpa using f))
 rw[hs]
 exact⟨rfl,n⟩
 have o:=ai f
 exact sk<|bn<|tn<|go<|Pl 1<|L0<|Oi (((k:Nat) : Int)+1)<|Pl 1<|nl<|fF (k+1) ⟨n,(lM (d:=0) (by omega) (by omega) l o),(by(try dsimp only);omega)⟩ (by omega)
 have r:=of_decide_eq_false h
 refine xt<|tx<|tx<|bx<|tn<|sg<|Pl 1<|nt<|rt<|rr (.bool true)<|?_
 have hs:decide (xs=ys)=true:=decide_eq_true (gj l (by omega) (by omega))
 rw[hs]
 exact⟨rfl,b⟩
theorem iM{m m':Md}{a b:Value}{xs ys:List Int}{w:World}(h1:e8 m w a xs)(h2:e8 m' w b ys) : Calls Tryz.prog 98 #[a,b] w (bP (.bool (decide (xs=ys))) w):=by
  obtain⟨A,c,rfl,_,_⟩:=h1.shape
  obtain⟨B,d,rfl,_,_⟩:=h2.shape
  exact ly h1 h2
theorem ll{m m':Md}{A B:Option Addr}{c d:Nat}{xs ys:List Bool}{w:World}(h1:gI m w (.slice A xs.length c) xs)(h2:gI m' w (.slice B ys.length d) ys) :
    Calls Tryz.prog 99 #[.slice A xs.length c,.slice B ys.length d] w (bP (.bool (decide (xs=ys))) w):=by
 have hz1:=aK.len h1
 have hz2:=aK.len h2
 refine en 26 Tryz.func99 rfl<|sg<|Pl 1<|nt<|sq<|sg<|Pl 5<|nt<|cb ((((xs.length:Nat) : Int)!=((ys.length:Nat) : Int))) (fun f=>?_) (fun f=>?_)
 have j:=aq f
 refine sg<|Pl 1<|nt<|rt<|tr<|rr (.bool false)<|?_
 have hs:decide (xs=ys)=false:=decide_eq_false (fun e=>by rw[e] at j;omega)
 rw[hs]
 exact⟨rfl,(aD.refl [] _)⟩
 have j:=ai f
 refine bi<|sq<|sg<|Pl 1<|nt<|bk<|?_
 refine hY (fun x=>[(0,.slice A xs.length c),(1,.slice B ys.length d),(5,.int .i64 ((x:Nat) : Int))]) (fun(x:Nat) w'=>aD [] w w'∧(xs.take x=ys.take x)∧(x≤xs.length)) (fun x=>xs.length-x) 0 ⟨aD.refl _ _,(by(try dsimp only);simp),(by(try dsimp only);omega)⟩ ?_
 rintro k D ⟨b,o,p⟩
 refine i1 [(0,.slice A xs.length c),(1,.slice B ys.length d),(5,.int .i64 ((k:Nat) : Int))] ?_
 have l:xs.take k=ys.take k:=o
 have E:k≤xs.length:=p
 refine sq<|sg<|Pl 4<|nt<|cb ((decide (((k:Nat) : Int)<((xs.length:Nat) : Int)))) (fun g=>?_) (fun g=>?_)
 have q:=of_decide_eq_true g
 refine bi<|sq<|bk<|sq<|?_
 refine yI (gI.at_ (gI.old h1 b) k (by omega)) fun r s t u=>?_
 refine yI (gI.at_ (gI.old h2 b) k (by omega)) fun v y z C=>Rg 9 (fun w'=>w'.cell? ⟨r,s+k,none⟩=some (.bool (xs.getD k false))∧w'.cell? ⟨v,y+k,none⟩=some (.bool (ys.getD k false))) fun F h=>bg ⟨(uc h u),(uc h C)⟩ fun a=>Rt 0 a<|Rt 1 a<|kU 2 a xs.length k ((k:Nat) : Int) rfl t (by omega)<|Rl 3 a (fun _ hs=>hs.1)<|Rt 4 a<|Rt 5 a<|kU 6 a ys.length k ((k:Nat) : Int) rfl z (by omega)<|Rl 7 a (fun _ hs=>hs.2)<|Rt 8 a<|re<|tn<|?_
 have n:=aF b h
 refine cb (((xs.getD k false)!=(ys.getD k false))) (fun i=>?_) (fun i=>?_)
 refine sg<|Pl 1<|nt<|rt<|br<|tr<|tr<|br<|tr<|rr (.bool false)<|?_
 have hs:decide (xs=ys)=false:=decide_eq_false (rT (d:=false) k (by simpa using i))
 rw[hs]
 exact⟨rfl,n⟩
 exact sk<|bn<|tn<|go<|Pl 1<|L0<|Oi (((k:Nat) : Int)+1)<|Pl 1<|nl<|fF (k+1) ⟨n,(lM (d:=false) (by omega) (by omega) l (by simpa using i)),(by(try dsimp only);omega)⟩ (by omega)
 have q:=of_decide_eq_false g
 refine xt<|tx<|tx<|bx<|tn<|sg<|Pl 1<|nt<|rt<|rr (.bool true)<|?_
 have hs:decide (xs=ys)=true:=decide_eq_true (gj l (by omega) (by omega))
 rw[hs]
 exact⟨rfl,b⟩
theorem mI{m m':Md}{a b:Value}{xs ys:List Bool}{w:World}(h1:gI m w a xs)(h2:gI m' w b ys) : Calls Tryz.prog 99 #[a,b] w (bP (.bool (decide (xs=ys))) w):=by
  obtain⟨A,c,rfl,_,_⟩:=h1.shape
  obtain⟨B,d,rfl,_,_⟩:=h2.shape
  exact ll h1 h2
open Go.RowKit
theorem qG{α:Type}{xs ys:List α}{d:α}{k:Nat}(h:xs.take k=ys.take k)(hk:k<xs.length)(hl:xs.length=ys.length)(he:xs.getD k d=ys.getD k d) : xs.take (k+1)=ys.take (k+1):=by
  have hk2:k<ys.length:=by omega
  rw[List.take_succ_eq_append_getElem hk,List.take_succ_eq_append_getElem hk2,h]
  rw[List.getD_eq_getElem?_getD,List.getElem?_eq_getElem hk,List.getD_eq_getElem?_getD,List.getElem?_eq_getElem (by omega)] at he
  simp only[Option.getD_some] at he
  rw[he]
theorem xA{a b:dt}(h:((((!(decide (a.words=b.words)))||(a.file != b.file))||(a.record != b.record))||(a.count != b.count))=false) : a=b:=by
  cases a
  cases b
  simp at h
  simp[h]
theorem wP{a b:Obj}(h:((!(decide (a.value=b.value)))||(a.id != b.id))=false) : a=b:=by
  cases a
  cases b
  simp at h
  simp[h]
theorem wv{a b:Obj}(h:(!(decide (a.value=b.value)))=false)(h2:(a.id != b.id)=false) : a=b:=wP (by rw[h,h2];rfl)
theorem lX{A B:aQ}{f:aQ→aQ→Bool}(h:f A B=true)(hf:∀ M,f M M=false) : decide (A=B)=false:=decide_eq_false fun e=>by rw[e,hf] at h;cases h
theorem v3{A B:aQ}(h1:((((((((((((A.code != B.code)||(A.fail != B.fail))||(A.addr != B.addr))||(A.count != B.count))||(A.value != B.value))||(A.and_ != B.and_))||(A.or_ != B.or_))||(A.addr2 != B.addr2))||(A.sub != B.sub))||(A.status != B.status))||(A.events != B.events))||(A.messages != B.messages))=false)(h2:(((((A.mei != B.mei)||(A.kind != B.kind))||(A.level != B.level))||(A.more != B.more))||(A.next != B.next))=false)(h3:(((((!(decide (A.words=B.words)))||(!(decide (A.bits=B.bits))))||(!(decide (A.data=B.data))))||(((A.recs.length:Nat) : Int)!=((B.recs.length:Nat) : Int)))||(((A.objects.length:Nat) : Int)!=((B.objects.length:Nat) : Int)))=false)(hr:A.recs.length=B.recs.length→A.recs=B.recs)(ho:A.objects.length=B.objects.length→A.objects=B.objects) : A=B:=by
  cases A
  cases B
  simp only[Bool.or_eq_false_iff,bne_eq_false_iff_eq,Bool.not_eq_false',decide_eq_true_eq] at h1 h2 h3
  simp only at hr ho
  obtain⟨⟨⟨⟨⟨⟨⟨⟨⟨⟨⟨a1,a2⟩,a3⟩,a4⟩,a5⟩,a6⟩,a7⟩,a8⟩,a9⟩,a⟩,b⟩,c⟩:=h1
  obtain⟨⟨⟨⟨b1,b2⟩,b3⟩,b4⟩,b5⟩:=h2
  obtain⟨⟨⟨⟨d1,d2⟩,d3⟩,d4⟩,d5⟩:=h3
  have d4:=hr (by omega)
  have d5:=ho (by omega)
  subst a1 a2 a3 a4 a5 a6 a7 a8 a9 a b c b1 b2 b3 b4 b5 d1 d2 d3 d4 d5
  rfl
theorem sF{m m':Md}{pc qc:Array Value}{A B:aQ}{w:World}(ha:aL m w pc.toList A)(hb:aL m' w qc.toList B) :
    Calls Tryz.prog 26 #[.agg pc,.agg qc] w (bP (.bool (decide (A=B))) w):=by
 have pM:=ha
 obtain⟨pvw,pvb,pvd,pvr,pvo,ph0,phw,phb,phd,phr,pho,pR⟩:=ha
 obtain rfl:pc=(bM A pvw pvb pvd pvr pvo).toArray:=by apply Array.toList_inj.1;simpa using ph0
 clear ph0
 obtain⟨pw,pkw,rfl,_,_⟩:=phw.shape
 obtain⟨pb,pkb,rfl,_,_⟩:=phb.shape
 obtain⟨pd,pkd,rfl,_,_⟩:=phd.shape
 obtain⟨pr,pkr,rfl,_,_⟩:=phr.shape
 obtain⟨po,pko,rfl,_,_⟩:=pho.shape
 have qM:=hb
 obtain⟨qvw,qvb,qvd,qvr,qvo,qh0,qhw,qhb,qhd,qhr,qho,qR⟩:=hb
 obtain rfl:qc=(bM B qvw qvb qvd qvr qvo).toArray:=by apply Array.toList_inj.1;simpa using qh0
 clear qh0
 obtain⟨qw,qkw,rfl,_,_⟩:=qhw.shape
 obtain⟨qb,qkb,rfl,_,_⟩:=qhb.shape
 obtain⟨qd,qkd,rfl,_,_⟩:=qhd.shape
 obtain⟨qr,qkr,rfl,_,_⟩:=qhr.shape
 obtain⟨qo,qko,rfl,_,_⟩:=qho.shape
 have hz1:=aK.len phr
 have hz2:=aK.len pho
 refine en 254 Tryz.func26 rfl<|sg<|L0<|dq (mG A.code A.fail A.addr A.count A.value A.and_ A.or_ A.addr2 A.sub A.status A.events A.messages (.slice pw A.words.length pkw) (.slice pb A.bits.length pkb) (.slice pd A.data.length pkd) (.slice pr A.recs.length pkr) A.mei A.kind A.level A.more A.next (.slice po A.objects.length pko)) fun i dJ dK cg ch=>L0<|dq (mG B.code B.fail B.addr B.count B.value B.and_ B.or_ B.addr2 B.sub B.status B.events B.messages (.slice qw B.words.length qkw) (.slice qb B.bits.length qkb) (.slice qd B.data.length qkd) (.slice qr B.recs.length qkr) B.mei B.kind B.level B.more B.next (.slice qo B.objects.length qko)) fun l dL dM b az=>Pl 1<|nt<|sq<|sg<|Pl 1<|?_
 have c:=ub az cg
 refine L0<|aU c 0<|Pl 1<|L0<|aU b 0<|Pl 2<|cu 6 [19] 25 (((A.code != B.code)||(A.fail != B.fail))) (fun K aA=>?_) ?_
 refine bl 19 ((A.code != B.code)) (fun q=>?_) (fun q=>?_)
 have ci:=aq q
 exact Pl 6<|ce aA true (by rw[q];rfl)
 have ci:=ai q
 exact Pl 1<|L1<|aU c 1<|Pl 1<|L1<|aU b 1<|Pl 2<|ce aA (A.fail != B.fail) (by rw[q];rfl)
 refine Pl 1<|cu 6 [26] 32 ((((A.code != B.code)||(A.fail != B.fail))||(A.addr != B.addr))) (fun K aB=>?_) ?_
 refine bl 26 (((A.code != B.code)||(A.fail != B.fail))) (fun r=>?_) (fun r=>?_)
 exact Pl 6<|ce aB true (by rw[r];rfl)
 have cj:=(aJ r).1
 have ck:=(aJ r).2
 have dN:=ai cj
 have dO:=ai ck
 exact Pl 1<|L1<|aU c 2<|Pl 1<|L1<|aU b 2<|Pl 2<|ce aB (A.addr != B.addr) (by rw[r];rfl)
 refine Pl 1<|cu 6 [33] 39 (((((A.code != B.code)||(A.fail != B.fail))||(A.addr != B.addr))||(A.count != B.count))) (fun K aC=>?_) ?_
 refine bl 33 ((((A.code != B.code)||(A.fail != B.fail))||(A.addr != B.addr))) (fun s=>?_) (fun s=>?_)
 exact Pl 6<|ce aC true (by rw[s];rfl)
 have aE:=(aJ s).1
 have cl:=(aJ s).2
 have cm:=(aJ aE).1
 have cn:=(aJ aE).2
 have q25aap:=ai cm
 have q25abp:=ai cn
 have dP:=ai cl
 exact Pl 1<|L1<|aU c 3<|Pl 1<|L1<|aU b 3<|Pl 2<|ce aC (A.count != B.count) (by rw[s];rfl)
 refine Pl 1<|cu 6 [40] 46 ((((((A.code != B.code)||(A.fail != B.fail))||(A.addr != B.addr))||(A.count != B.count))||(A.value != B.value))) (fun K aG=>?_) ?_
 refine bl 40 (((((A.code != B.code)||(A.fail != B.fail))||(A.addr != B.addr))||(A.count != B.count))) (fun t=>?_) (fun t=>?_)
 exact Pl 6<|ce aG true (by rw[t];rfl)
 have aH:=(aJ t).1
 have co:=(aJ t).2
 have aI:=(aJ aH).1
 have cp:=(aJ aH).2
 have q27aaa:=(aJ aI).1
 have q27aab:=(aJ aI).2
 have q27aaap:=ai q27aaa
 have q27aabp:=ai q27aab
 have q27abp:=ai cp
 have dQ:=ai co
 exact Pl 1<|L1<|aU c 4<|Pl 1<|L1<|aU b 4<|Pl 2<|ce aG (A.value != B.value) (by rw[t];rfl)
 refine Pl 1<|cu 6 [47] 53 (((((((A.code != B.code)||(A.fail != B.fail))||(A.addr != B.addr))||(A.count != B.count))||(A.value != B.value))||(A.and_ != B.and_))) (fun K aM=>?_) ?_
 refine bl 47 ((((((A.code != B.code)||(A.fail != B.fail))||(A.addr != B.addr))||(A.count != B.count))||(A.value != B.value))) (fun u=>?_) (fun u=>?_)
 exact Pl 6<|ce aM true (by rw[u];rfl)
 have aN:=(aJ u).1
 have cq:=(aJ u).2
 have aO:=(aJ aN).1
 have cr:=(aJ aN).2
 have q29aaa:=(aJ aO).1
 have q29aab:=(aJ aO).2
 have q29aaaa:=(aJ q29aaa).1
 have q29aaab:=(aJ q29aaa).2
 have q29aaaap:=ai q29aaaa
 have q29aaabp:=ai q29aaab
 have q29aabp:=ai q29aab
 have q29abp:=ai cr
 have dR:=ai cq
 exact Pl 1<|L1<|aU c 5<|Pl 1<|L1<|aU b 5<|Pl 2<|ce aM (A.and_ != B.and_) (by rw[u];rfl)
 refine Pl 1<|cu 6 [54] 60 ((((((((A.code != B.code)||(A.fail != B.fail))||(A.addr != B.addr))||(A.count != B.count))||(A.value != B.value))||(A.and_ != B.and_))||(A.or_ != B.or_))) (fun K aP=>?_) ?_
 refine bl 54 (((((((A.code != B.code)||(A.fail != B.fail))||(A.addr != B.addr))||(A.count != B.count))||(A.value != B.value))||(A.and_ != B.and_))) (fun v=>?_) (fun v=>?_)
 exact Pl 6<|ce aP true (by rw[v];rfl)
 have aR:=(aJ v).1
 have cs:=(aJ v).2
 have aS:=(aJ aR).1
 have ct:=(aJ aR).2
 have q31aaa:=(aJ aS).1
 have q31aab:=(aJ aS).2
 have q31aaaa:=(aJ q31aaa).1
 have q31aaab:=(aJ q31aaa).2
 have q31aaaaa:=(aJ q31aaaa).1
 have q31aaaab:=(aJ q31aaaa).2
 have q31aaaaap:=ai q31aaaaa
 have q31aaaabp:=ai q31aaaab
 have q31aaabp:=ai q31aaab
 have q31aabp:=ai q31aab
 have q31abp:=ai ct
 have dS:=ai cs
 exact Pl 1<|L1<|aU c 6<|Pl 1<|L1<|aU b 6<|Pl 2<|ce aP (A.or_ != B.or_) (by rw[v];rfl)
 refine Pl 1<|cu 6 [61] 67 (((((((((A.code != B.code)||(A.fail != B.fail))||(A.addr != B.addr))||(A.count != B.count))||(A.value != B.value))||(A.and_ != B.and_))||(A.or_ != B.or_))||(A.addr2 != B.addr2))) (fun K aV=>?_) ?_
 refine bl 61 ((((((((A.code != B.code)||(A.fail != B.fail))||(A.addr != B.addr))||(A.count != B.count))||(A.value != B.value))||(A.and_ != B.and_))||(A.or_ != B.or_))) (fun z=>?_) (fun z=>?_)
 exact Pl 6<|ce aV true (by rw[z];rfl)
 have aX:=(aJ z).1
 have cv:=(aJ z).2
 have aY:=(aJ aX).1
 have cw:=(aJ aX).2
 have q33aaa:=(aJ aY).1
 have q33aab:=(aJ aY).2
 have q33aaaa:=(aJ q33aaa).1
 have q33aaab:=(aJ q33aaa).2
 have q33aaaaa:=(aJ q33aaaa).1
 have q33aaaab:=(aJ q33aaaa).2
 have q33aaaaaa:=(aJ q33aaaaa).1
 have q33aaaaab:=(aJ q33aaaaa).2
 have q33aaaaaap:=ai q33aaaaaa
 have q33aaaaabp:=ai q33aaaaab
 have q33aaaabp:=ai q33aaaab
 have q33aaabp:=ai q33aaab
 have q33aabp:=ai q33aab
 have q33abp:=ai cw
 have dT:=ai cv
 exact Pl 1<|L1<|aU c 7<|Pl 1<|L1<|aU b 7<|Pl 2<|ce aV (A.addr2 != B.addr2) (by rw[z];rfl)
 refine Pl 1<|cu 6 [68] 74 ((((((((((A.code != B.code)||(A.fail != B.fail))||(A.addr != B.addr))||(A.count != B.count))||(A.value != B.value))||(A.and_ != B.and_))||(A.or_ != B.or_))||(A.addr2 != B.addr2))||(A.sub != B.sub))) (fun K aZ=>?_) ?_
 refine bl 68 (((((((((A.code != B.code)||(A.fail != B.fail))||(A.addr != B.addr))||(A.count != B.count))||(A.value != B.value))||(A.and_ != B.and_))||(A.or_ != B.or_))||(A.addr2 != B.addr2))) (fun C=>?_) (fun C=>?_)
 exact Pl 6<|ce aZ true (by rw[C];rfl)
 have b0:=(aJ C).1
 have cx:=(aJ C).2
 have b1:=(aJ b0).1
 have cy:=(aJ b0).2
 have q35aaa:=(aJ b1).1
 have q35aab:=(aJ b1).2
 have q35aaaa:=(aJ q35aaa).1
 have q35aaab:=(aJ q35aaa).2
 have q35aaaaa:=(aJ q35aaaa).1
 have q35aaaab:=(aJ q35aaaa).2
 have q35aaaaaa:=(aJ q35aaaaa).1
 have q35aaaaab:=(aJ q35aaaaa).2
 have q35aaaaaaa:=(aJ q35aaaaaa).1
 have q35aaaaaab:=(aJ q35aaaaaa).2
 have q35aaaaaaap:=ai q35aaaaaaa
 have q35aaaaaabp:=ai q35aaaaaab
 have q35aaaaabp:=ai q35aaaaab
 have q35aaaabp:=ai q35aaaab
 have q35aaabp:=ai q35aaab
 have q35aabp:=ai q35aab
 have q35abp:=ai cy
 have dU:=ai cx
 exact Pl 1<|L1<|aU c 8<|Pl 1<|L1<|aU b 8<|Pl 2<|ce aZ (A.sub != B.sub) (by rw[C];rfl)
 refine Pl 1<|cu 6 [75] 81 (((((((((((A.code != B.code)||(A.fail != B.fail))||(A.addr != B.addr))||(A.count != B.count))||(A.value != B.value))||(A.and_ != B.and_))||(A.or_ != B.or_))||(A.addr2 != B.addr2))||(A.sub != B.sub))||(A.status != B.status))) (fun K b2=>?_) ?_
 refine bl 75 ((((((((((A.code != B.code)||(A.fail != B.fail))||(A.addr != B.addr))||(A.count != B.count))||(A.value != B.value))||(A.and_ != B.and_))||(A.or_ != B.or_))||(A.addr2 != B.addr2))||(A.sub != B.sub))) (fun D=>?_) (fun D=>?_)
 exact Pl 6<|ce b2 true (by rw[D];rfl)
 have b3:=(aJ D).1
 have cz:=(aJ D).2
 have b4:=(aJ b3).1
 have cA:=(aJ b3).2
 have q37aaa:=(aJ b4).1
 have q37aab:=(aJ b4).2
 have q37aaaa:=(aJ q37aaa).1
 have q37aaab:=(aJ q37aaa).2
 have q37aaaaa:=(aJ q37aaaa).1
 have q37aaaab:=(aJ q37aaaa).2
 have q37aaaaaa:=(aJ q37aaaaa).1
 have q37aaaaab:=(aJ q37aaaaa).2
 have q37aaaaaaa:=(aJ q37aaaaaa).1
 have q37aaaaaab:=(aJ q37aaaaaa).2
 have q37aaaaaaaa:=(aJ q37aaaaaaa).1
 have q37aaaaaaab:=(aJ q37aaaaaaa).2
 have q37aaaaaaaap:=ai q37aaaaaaaa
 have q37aaaaaaabp:=ai q37aaaaaaab
 have q37aaaaaabp:=ai q37aaaaaab
 have q37aaaaabp:=ai q37aaaaab
 have q37aaaabp:=ai q37aaaab
 have q37aaabp:=ai q37aaab
 have q37aabp:=ai q37aab
 have q37abp:=ai cA
 have dV:=ai cz
 exact Pl 1<|L1<|aU c 9<|Pl 1<|L1<|aU b 9<|Pl 2<|ce b2 (A.status != B.status) (by rw[D];rfl)
 refine Pl 1<|cu 6 [82] 88 ((((((((((((A.code != B.code)||(A.fail != B.fail))||(A.addr != B.addr))||(A.count != B.count))||(A.value != B.value))||(A.and_ != B.and_))||(A.or_ != B.or_))||(A.addr2 != B.addr2))||(A.sub != B.sub))||(A.status != B.status))||(A.events != B.events))) (fun K b5=>?_) ?_
 refine bl 82 (((((((((((A.code != B.code)||(A.fail != B.fail))||(A.addr != B.addr))||(A.count != B.count))||(A.value != B.value))||(A.and_ != B.and_))||(A.or_ != B.or_))||(A.addr2 != B.addr2))||(A.sub != B.sub))||(A.status != B.status))) (fun E=>?_) (fun E=>?_)
 exact Pl 6<|ce b5 true (by rw[E];rfl)
 have b6:=(aJ E).1
 have cB:=(aJ E).2
 have b7:=(aJ b6).1
 have cC:=(aJ b6).2
 have q39aaa:=(aJ b7).1
 have q39aab:=(aJ b7).2
 have q39aaaa:=(aJ q39aaa).1
 have q39aaab:=(aJ q39aaa).2
 have q39aaaaa:=(aJ q39aaaa).1
 have q39aaaab:=(aJ q39aaaa).2
 have q39aaaaaa:=(aJ q39aaaaa).1
 have q39aaaaab:=(aJ q39aaaaa).2
 have q39aaaaaaa:=(aJ q39aaaaaa).1
 have q39aaaaaab:=(aJ q39aaaaaa).2
 have q39aaaaaaaa:=(aJ q39aaaaaaa).1
 have q39aaaaaaab:=(aJ q39aaaaaaa).2
 have q39aaaaaaaaa:=(aJ q39aaaaaaaa).1
 have q39aaaaaaaab:=(aJ q39aaaaaaaa).2
 have q39aaaaaaaaap:=ai q39aaaaaaaaa
 have q39aaaaaaaabp:=ai q39aaaaaaaab
 have q39aaaaaaabp:=ai q39aaaaaaab
 have q39aaaaaabp:=ai q39aaaaaab
 have q39aaaaabp:=ai q39aaaaab
 have q39aaaabp:=ai q39aaaab
 have q39aaabp:=ai q39aaab
 have q39aabp:=ai q39aab
 have q39abp:=ai cC
 have dW:=ai cB
 exact Pl 1<|L1<|aU c 10<|Pl 1<|L1<|aU b 10<|Pl 2<|ce b5 (A.events != B.events) (by rw[E];rfl)
 refine Pl 1<|cu 6 [89] 95 (((((((((((((A.code != B.code)||(A.fail != B.fail))||(A.addr != B.addr))||(A.count != B.count))||(A.value != B.value))||(A.and_ != B.and_))||(A.or_ != B.or_))||(A.addr2 != B.addr2))||(A.sub != B.sub))||(A.status != B.status))||(A.events != B.events))||(A.messages != B.messages))) (fun K b8=>?_) ?_
 refine bl 89 ((((((((((((A.code != B.code)||(A.fail != B.fail))||(A.addr != B.addr))||(A.count != B.count))||(A.value != B.value))||(A.and_ != B.and_))||(A.or_ != B.or_))||(A.addr2 != B.addr2))||(A.sub != B.sub))||(A.status != B.status))||(A.events != B.events))) (fun F=>?_) (fun F=>?_)
 exact Pl 6<|ce b8 true (by rw[F];rfl)
 have b9:=(aJ F).1
 have cD:=(aJ F).2
 have ba:=(aJ b9).1
 have cE:=(aJ b9).2
 have q41aaa:=(aJ ba).1
 have q41aab:=(aJ ba).2
 have q41aaaa:=(aJ q41aaa).1
 have q41aaab:=(aJ q41aaa).2
 have q41aaaaa:=(aJ q41aaaa).1
 have q41aaaab:=(aJ q41aaaa).2
 have q41aaaaaa:=(aJ q41aaaaa).1
 have q41aaaaab:=(aJ q41aaaaa).2
 have q41aaaaaaa:=(aJ q41aaaaaa).1
 have q41aaaaaab:=(aJ q41aaaaaa).2
 have q41aaaaaaaa:=(aJ q41aaaaaaa).1
 have q41aaaaaaab:=(aJ q41aaaaaaa).2
 have q41aaaaaaaaa:=(aJ q41aaaaaaaa).1
 have q41aaaaaaaab:=(aJ q41aaaaaaaa).2
 have q41aaaaaaaaaa:=(aJ q41aaaaaaaaa).1
 have q41aaaaaaaaab:=(aJ q41aaaaaaaaa).2
 have q41aaaaaaaaaap:=ai q41aaaaaaaaaa
 have q41aaaaaaaaabp:=ai q41aaaaaaaaab
 have q41aaaaaaaabp:=ai q41aaaaaaaab
 have q41aaaaaaabp:=ai q41aaaaaaab
 have q41aaaaaabp:=ai q41aaaaaab
 have q41aaaaabp:=ai q41aaaaab
 have q41aaaabp:=ai q41aaaab
 have q41aaabp:=ai q41aaab
 have q41aabp:=ai q41aab
 have q41abp:=ai cE
 have dX:=ai cD
 exact Pl 1<|L1<|aU c 11<|Pl 1<|L1<|aU b 11<|Pl 2<|ce b8 (A.messages != B.messages) (by rw[F];rfl)
 refine nt<|?_
 have G:=aF ch az
 refine cb (((((((((((((A.code != B.code)||(A.fail != B.fail))||(A.addr != B.addr))||(A.count != B.count))||(A.value != B.value))||(A.and_ != B.and_))||(A.or_ != B.or_))||(A.addr2 != B.addr2))||(A.sub != B.sub))||(A.status != B.status))||(A.events != B.events))||(A.messages != B.messages))) (fun H=>?_) (fun H=>?_)
 refine sg<|Pl 1<|nt<|rt<|tr<|rr (.bool false)<|?_
 have hs:decide (A=B)=false:=lX (f:=fun x y=>((((((((((((x.code != y.code)||(x.fail != y.fail))||(x.addr != y.addr))||(x.count != y.count))||(x.value != y.value))||(x.and_ != y.and_))||(x.or_ != y.or_))||(x.addr2 != y.addr2))||(x.sub != y.sub))||(x.status != y.status))||(x.events != y.events))||(x.messages != y.messages))) H (fun M=>by simp)
 rw[hs]
 exact⟨rfl,G⟩
 have bb:=(aJ H).1
 have cF:=(aJ H).2
 have bc:=(aJ bb).1
 have cG:=(aJ bb).2
 have q44aaa:=(aJ bc).1
 have q44aab:=(aJ bc).2
 have q44aaaa:=(aJ q44aaa).1
 have q44aaab:=(aJ q44aaa).2
 have q44aaaaa:=(aJ q44aaaa).1
 have q44aaaab:=(aJ q44aaaa).2
 have q44aaaaaa:=(aJ q44aaaaa).1
 have q44aaaaab:=(aJ q44aaaaa).2
 have q44aaaaaaa:=(aJ q44aaaaaa).1
 have q44aaaaaab:=(aJ q44aaaaaa).2
 have q44aaaaaaaa:=(aJ q44aaaaaaa).1
 have q44aaaaaaab:=(aJ q44aaaaaaa).2
 have q44aaaaaaaaa:=(aJ q44aaaaaaaa).1
 have q44aaaaaaaab:=(aJ q44aaaaaaaa).2
 have q44aaaaaaaaaa:=(aJ q44aaaaaaaaa).1
 have q44aaaaaaaaab:=(aJ q44aaaaaaaaa).2
 have q44aaaaaaaaaaa:=(aJ q44aaaaaaaaaa).1
 have q44aaaaaaaaaab:=(aJ q44aaaaaaaaaa).2
 have q44aaaaaaaaaaap:=ai q44aaaaaaaaaaa
 have q44aaaaaaaaaabp:=ai q44aaaaaaaaaab
 have q44aaaaaaaaabp:=ai q44aaaaaaaaab
 have q44aaaaaaaabp:=ai q44aaaaaaaab
 have q44aaaaaaabp:=ai q44aaaaaaab
 have q44aaaaaabp:=ai q44aaaaaab
 have q44aaaaabp:=ai q44aaaaab
 have q44aaaabp:=ai q44aaaab
 have q44aaabp:=ai q44aaab
 have q44aabp:=ai q44aab
 have q44abp:=ai cG
 have dY:=ai cF
 refine bi<|sq<|sg<|Pl 1<|L0<|aU c 16<|Pl 1<|L0<|aU b 16<|Pl 2<|cu 6 [101] 107 (((A.mei != B.mei)||(A.kind != B.kind))) (fun K bd=>?_) ?_
 refine bl 101 ((A.mei != B.mei)) (fun I=>?_) (fun I=>?_)
 have cH:=aq I
 exact Pl 6<|ce bd true (by rw[I];rfl)
 have cH:=ai I
 exact Pl 1<|L1<|aU c 17<|Pl 1<|L1<|aU b 17<|Pl 2<|ce bd (A.kind != B.kind) (by rw[I];rfl)
 refine Pl 1<|cu 6 [108] 114 ((((A.mei != B.mei)||(A.kind != B.kind))||(A.level != B.level))) (fun K be=>?_) ?_
 refine bl 108 (((A.mei != B.mei)||(A.kind != B.kind))) (fun J=>?_) (fun J=>?_)
 exact Pl 6<|ce be true (by rw[J];rfl)
 have cI:=(aJ J).1
 have cJ:=(aJ J).2
 have dZ:=ai cI
 have e0:=ai cJ
 exact Pl 1<|L1<|aU c 18<|Pl 1<|L1<|aU b 18<|Pl 2<|ce be (A.level != B.level) (by rw[J];rfl)
 refine Pl 1<|cu 6 [115] 121 (((((A.mei != B.mei)||(A.kind != B.kind))||(A.level != B.level))||(A.more != B.more))) (fun K bf=>?_) ?_
 refine bl 115 ((((A.mei != B.mei)||(A.kind != B.kind))||(A.level != B.level))) (fun L=>?_) (fun L=>?_)
 exact Pl 6<|ce bf true (by rw[L];rfl)
 have bh:=(aJ L).1
 have cK:=(aJ L).2
 have cL:=(aJ bh).1
 have cM:=(aJ bh).2
 have q49aap:=ai cL
 have q49abp:=ai cM
 have e1:=ai cK
 exact Pl 1<|L1<|aU c 19<|Pl 1<|L1<|aU b 19<|Pl 2<|ce bf (A.more != B.more) (by rw[L];rfl)
 refine Pl 1<|cu 6 [122] 128 ((((((A.mei != B.mei)||(A.kind != B.kind))||(A.level != B.level))||(A.more != B.more))||(A.next != B.next))) (fun K bj=>?_) ?_
 refine bl 122 (((((A.mei != B.mei)||(A.kind != B.kind))||(A.level != B.level))||(A.more != B.more))) (fun N=>?_) (fun N=>?_)
 exact Pl 6<|ce bj true (by rw[N];rfl)
 have bm:=(aJ N).1
 have cN:=(aJ N).2
 have bo:=(aJ bm).1
 have cO:=(aJ bm).2
 have q51aaa:=(aJ bo).1
 have q51aab:=(aJ bo).2
 have q51aaap:=ai q51aaa
 have q51aabp:=ai q51aab
 have q51abp:=ai cO
 have e2:=ai cN
 exact Pl 1<|L1<|aU c 20<|Pl 1<|L1<|aU b 20<|Pl 2<|ce bj (A.next != B.next) (by rw[N];rfl)
 refine nt<|cb ((((((A.mei != B.mei)||(A.kind != B.kind))||(A.level != B.level))||(A.more != B.more))||(A.next != B.next))) (fun O=>?_) (fun O=>?_)
 refine sg<|Pl 1<|nt<|rt<|tr<|rr (.bool false)<|?_
 have hs:decide (A=B)=false:=lX (f:=fun x y=>(((((x.mei != y.mei)||(x.kind != y.kind))||(x.level != y.level))||(x.more != y.more))||(x.next != y.next))) O (fun M=>by simp)
 rw[hs]
 exact⟨rfl,G⟩
 have bp:=(aJ O).1
 have cP:=(aJ O).2
 have bq:=(aJ bp).1
 have cQ:=(aJ bp).2
 have q53aaa:=(aJ bq).1
 have q53aab:=(aJ bq).2
 have q53aaaa:=(aJ q53aaa).1
 have q53aaab:=(aJ q53aaa).2
 have q53aaaap:=ai q53aaaa
 have q53aaabp:=ai q53aaab
 have q53aabp:=ai q53aab
 have q53abp:=ai cQ
 have e3:=ai cP
 refine bi<|sg<|Pl 1<|L0<|aU c 12<|Pl 1<|L0<|aU b 12<|?_
 refine L0<|Oc<|m1 (iM (e8.old phw G) (e8.old qhw G)) fun e4 aa=>Pl 1<|ng<|Pl 1<|?_
 have bs:=ub aa c
 refine L0<|aU bs 13<|Pl 1<|?_
 have bt:=ub aa b
 refine L0<|aU bt 13<|?_
 have ab:=aF G aa
 refine L0<|Oc<|m1 (mI (gI.old phb ab) (gI.old qhb ab)) fun e5 ac=>Pl 1<|ng<|Pl 1<|?_
 have a2:=ub ac bs
 refine L0<|aU a2 14<|Pl 1<|?_
 have P:=ub ac bt
 refine L0<|aU P 14<|?_
 have ad:=aF ab ac
 refine L0<|Oc<|m1 (mb (aT.old phd ad) (aT.old qhd ad)) fun cR n=>Pl 1<|nt<|sq<|sg<|Pl 3<|cu 3 [146] 149 (((!(decide (A.words=B.words)))||(!(decide (A.bits=B.bits))))) (fun K bu=>?_) ?_
 refine bl 146 ((!(decide (A.words=B.words)))) (fun Q=>?_) (fun Q=>?_)
 have ae:(decide (A.words=B.words))=false:=by simpa using Q
 have cS:=of_decide_eq_false ae
 exact Pl 3<|ce bu true (by rw[Q];rfl)
 have ae:(decide (A.words=B.words))=true:=by simpa using Q
 have cS:=of_decide_eq_true ae
 exact Pl 3<|ce bu (!(decide (A.bits=B.bits))) (by rw[Q];rfl)
 refine Pl 1<|cu 3 [150] 153 ((((!(decide (A.words=B.words)))||(!(decide (A.bits=B.bits))))||(!(decide (A.data=B.data))))) (fun K bv=>?_) ?_
 refine bl 150 (((!(decide (A.words=B.words)))||(!(decide (A.bits=B.bits))))) (fun R=>?_) (fun R=>?_)
 exact Pl 3<|ce bv true (by rw[R];rfl)
 have cT:=(aJ R).1
 have cU:=(aJ R).2
 have cV:(decide (A.words=B.words))=true:=by simpa using cT
 have q74anp:=of_decide_eq_true cV
 have cW:(decide (A.bits=B.bits))=true:=by simpa using cU
 have q74bnp:=of_decide_eq_true cW
 exact Pl 3<|ce bv (!(decide (A.data=B.data))) (by rw[R];rfl)
 refine Pl 1<|cu 8 [154] 162 (((((!(decide (A.words=B.words)))||(!(decide (A.bits=B.bits))))||(!(decide (A.data=B.data))))||(((A.recs.length:Nat) : Int)!=((B.recs.length:Nat) : Int)))) (fun K bw=>?_) ?_
 refine bl 154 ((((!(decide (A.words=B.words)))||(!(decide (A.bits=B.bits))))||(!(decide (A.data=B.data))))) (fun S=>?_) (fun S=>?_)
 exact Pl 8<|ce bw true (by rw[S];rfl)
 have bz:=(aJ S).1
 have cX:=(aJ S).2
 have cY:=(aJ bz).1
 have cZ:=(aJ bz).2
 have q76aan:(decide (A.words=B.words))=true:=by simpa using cY
 have q76aanp:=of_decide_eq_true q76aan
 have q76abn:(decide (A.bits=B.bits))=true:=by simpa using cZ
 have q76abnp:=of_decide_eq_true q76abn
 have d0:(decide (A.data=B.data))=true:=by simpa using cX
 have q76bnp:=of_decide_eq_true d0
 refine Pl 1<|?_
 refine L1<|aU (ub n a2) 15<|Pl 2<|?_
 exact L1<|aU (ub n P) 15<|Pl 3<|ce bw (((A.recs.length:Nat) : Int)!=((B.recs.length:Nat) : Int)) (by rw[S];rfl)
 refine Pl 1<|cu 8 [163] 171 ((((((!(decide (A.words=B.words)))||(!(decide (A.bits=B.bits))))||(!(decide (A.data=B.data))))||(((A.recs.length:Nat) : Int)!=((B.recs.length:Nat) : Int)))||(((A.objects.length:Nat) : Int)!=((B.objects.length:Nat) : Int)))) (fun K bA=>?_) ?_
 refine bl 163 (((((!(decide (A.words=B.words)))||(!(decide (A.bits=B.bits))))||(!(decide (A.data=B.data))))||(((A.recs.length:Nat) : Int)!=((B.recs.length:Nat) : Int)))) (fun T=>?_) (fun T=>?_)
 exact Pl 8<|ce bA true (by rw[T];rfl)
 have bB:=(aJ T).1
 have d1:=(aJ T).2
 have bC:=(aJ bB).1
 have d2:=(aJ bB).2
 have q80aaa:=(aJ bC).1
 have q80aab:=(aJ bC).2
 have q80aaan:(decide (A.words=B.words))=true:=by simpa using q80aaa
 have q80aaanp:=of_decide_eq_true q80aaan
 have q80aabn:(decide (A.bits=B.bits))=true:=by simpa using q80aab
 have q80aabnp:=of_decide_eq_true q80aabn
 have q80abn:(decide (A.data=B.data))=true:=by simpa using d2
 have q80abnp:=of_decide_eq_true q80abn
 have e6:=ai d1
 refine Pl 1<|?_
 refine L1<|aU (ub n a2) 21<|Pl 2<|?_
 exact L1<|aU (ub n P) 21<|Pl 3<|ce bA (((A.objects.length:Nat) : Int)!=((B.objects.length:Nat) : Int)) (by rw[T];rfl)
 refine nt<|?_
 have bD:=aF ad n
 refine cb ((((((!(decide (A.words=B.words)))||(!(decide (A.bits=B.bits))))||(!(decide (A.data=B.data))))||(((A.recs.length:Nat) : Int)!=((B.recs.length:Nat) : Int)))||(((A.objects.length:Nat) : Int)!=((B.objects.length:Nat) : Int)))) (fun U=>?_) (fun U=>?_)
 refine sg<|Pl 1<|nt<|rt<|tr<|rr (.bool false)<|?_
 have hs:decide (A=B)=false:=lX (f:=fun x y=>(((((!(decide (x.words=y.words)))||(!(decide (x.bits=y.bits))))||(!(decide (x.data=y.data))))||(((x.recs.length:Nat) : Int)!=((y.recs.length:Nat) : Int)))||(((x.objects.length:Nat) : Int)!=((y.objects.length:Nat) : Int)))) U (fun M=>by simp)
 rw[hs]
 exact⟨rfl,bD⟩
 have bF:=(aJ U).1
 have d3:=(aJ U).2
 have bG:=(aJ bF).1
 have d4:=(aJ bF).2
 have q85aaa:=(aJ bG).1
 have q85aab:=(aJ bG).2
 have q85aaaa:=(aJ q85aaa).1
 have q85aaab:=(aJ q85aaa).2
 have q85aaaan:(decide (A.words=B.words))=true:=by simpa using q85aaaa
 have q85aaaanp:=of_decide_eq_true q85aaaan
 have q85aaabn:(decide (A.bits=B.bits))=true:=by simpa using q85aaab
 have q85aaabnp:=of_decide_eq_true q85aaabn
 have q85aabn:(decide (A.data=B.data))=true:=by simpa using q85aab
 have q85aabnp:=of_decide_eq_true q85aabn
 have q85abp:=ai d4
 have e7:=ai d3
 refine bi<|sq<|sg<|Pl 1<|nt<|bk<|?_
 refine hY (fun x=>[(2,.pointer (some ⟨i,0,none⟩)),(3,.pointer (some ⟨l,0,none⟩)),(8,.int .i64 ((x:Nat) : Int))]) (fun(x:Nat) w'=>aD [] cR w'∧(A.recs.take x=B.recs.take x)∧(x≤A.recs.length)) (fun x=>A.recs.length-x) 0 ⟨aD.refl _ _,(by(try dsimp only);simp),(by(try dsimp only);omega)⟩ ?_
 rintro j d5 ⟨a3,d6,d7⟩
 refine i1 [(2,.pointer (some ⟨i,0,none⟩)),(3,.pointer (some ⟨l,0,none⟩)),(8,.int .i64 ((j:Nat) : Int))] ?_
 have bH:A.recs.take j=B.recs.take j:=d6
 have e9:j≤A.recs.length:=d7
 refine sq<|sg<|Pl 2<|?_
 have a4:=aF n a3
 have af:=ub a4 a2
 refine L0<|aU af 15<|Pl 2<|nt<|?_
 have a5:=aF bD a3
 refine cb ((decide (((j:Nat) : Int)<((A.recs.length:Nat) : Int)))) (fun ah=>?_) (fun ah=>?_)
 have d8:=of_decide_eq_true ah
 refine bi<|sq<|bk<|sg<|Pl 1<|L0<|aU af 15<|Pl 1<|jG (mr.elt phr j (by omega)) fun ea eb ec ed ee bI bJ d9 da db ef dc=>L0<|tq 4 A.recs.length j d9 (by omega)<|?_
 refine L0<|y3 [.int .u16 ((A.recs.getD j ⟨0,0,0,[]⟩).file),.int .u16 ((A.recs.getD j ⟨0,0,0,[]⟩).record),.int .u16 ((A.recs.getD j ⟨0,0,0,[]⟩).count),.slice bI ((A.recs.getD j ⟨0,0,0,[]⟩).words.length) bJ] (ub a5 da) dc<|L0<|bE #[.int .u16 0,.int .u16 0,.int .u16 0,.slice none 0 0] fun eg eh aj dd ak=>L0<|aW dd #[.int .u16 ((A.recs.getD j ⟨0,0,0,[]⟩).file),.int .u16 ((A.recs.getD j ⟨0,0,0,[]⟩).record),.int .u16 ((A.recs.getD j ⟨0,0,0,[]⟩).count),.slice bI ((A.recs.getD j ⟨0,0,0,[]⟩).words.length) bJ] fun ei de al=>ng<|Pl 1<|?_
 refine L0<|aU (ub (u1 (aF a4 ak) al (ni a4.size aj)) P) 15<|Pl 1<|jG (mr.elt qhr j (by omega)) fun ej ek el em eo bK bL df dg dh ep di=>L0<|tq 4 B.recs.length j df (by omega)<|?_
 have am:=u1 (aF a5 ak) al (ni a5.size aj)
 refine L0<|y3 [.int .u16 ((B.recs.getD j ⟨0,0,0,[]⟩).file),.int .u16 ((B.recs.getD j ⟨0,0,0,[]⟩).record),.int .u16 ((B.recs.getD j ⟨0,0,0,[]⟩).count),.slice bK ((B.recs.getD j ⟨0,0,0,[]⟩).words.length) bL] (ub am dg) di<|L0<|bE #[.int .u16 0,.int .u16 0,.int .u16 0,.slice none 0 0] fun eq er an dj ao=>L0<|aW dj #[.int .u16 ((B.recs.getD j ⟨0,0,0,[]⟩).file),.int .u16 ((B.recs.getD j ⟨0,0,0,[]⟩).record),.int .u16 ((B.recs.getD j ⟨0,0,0,[]⟩).count),.slice bK ((B.recs.getD j ⟨0,0,0,[]⟩).words.length) bL] fun es a6 ap=>ng<|Pl 1<|?_
 have a7:=ub (u1 ao ap (nr an)) de
 refine L0<|aU a7 3<|Pl 1<|L0<|aU a6 3<|?_
 have ar:=u1 (aF am ao) ap (ni am.size an)
 refine L0<|Oc<|m1 (iM (e8.old db ar) (e8.old dh ar)) fun et h=>Pl 1<|ng<|Pl 3<|cu 6 [196] 202 (((!(decide ((A.recs.getD j ⟨0,0,0,[]⟩).words=(B.recs.getD j ⟨0,0,0,[]⟩).words)))||(((A.recs.getD j ⟨0,0,0,[]⟩).file)!=((B.recs.getD j ⟨0,0,0,[]⟩).file)))) (fun K bN=>?_) ?_
 refine bl 196 ((!(decide ((A.recs.getD j ⟨0,0,0,[]⟩).words=(B.recs.getD j ⟨0,0,0,[]⟩).words)))) (fun V=>?_) (fun V=>?_)
 have au:(decide ((A.recs.getD j ⟨0,0,0,[]⟩).words=(B.recs.getD j ⟨0,0,0,[]⟩).words))=false:=by simpa using V
 have dk:=of_decide_eq_false au
 exact Pl 6<|ce bN true (by rw[V];rfl)
 have au:(decide ((A.recs.getD j ⟨0,0,0,[]⟩).words=(B.recs.getD j ⟨0,0,0,[]⟩).words))=true:=by simpa using V
 have dk:=of_decide_eq_true au
 refine Pl 1<|?_
 refine L1<|aU (ub h a7) 0<|Pl 1<|?_
 exact L1<|aU (ub h a6) 0<|Pl 2<|ce bN (((A.recs.getD j ⟨0,0,0,[]⟩).file)!=((B.recs.getD j ⟨0,0,0,[]⟩).file)) (by rw[V];rfl)
 refine Pl 1<|cu 6 [203] 209 ((((!(decide ((A.recs.getD j ⟨0,0,0,[]⟩).words=(B.recs.getD j ⟨0,0,0,[]⟩).words)))||(((A.recs.getD j ⟨0,0,0,[]⟩).file)!=((B.recs.getD j ⟨0,0,0,[]⟩).file)))||(((A.recs.getD j ⟨0,0,0,[]⟩).record)!=((B.recs.getD j ⟨0,0,0,[]⟩).record)))) (fun K bO=>?_) ?_
 refine bl 203 (((!(decide ((A.recs.getD j ⟨0,0,0,[]⟩).words=(B.recs.getD j ⟨0,0,0,[]⟩).words)))||(((A.recs.getD j ⟨0,0,0,[]⟩).file)!=((B.recs.getD j ⟨0,0,0,[]⟩).file)))) (fun W=>?_) (fun W=>?_)
 exact Pl 6<|ce bO true (by rw[W];rfl)
 have dl:=(aJ W).1
 have dm:=(aJ W).2
 have dn:(decide ((A.recs.getD j ⟨0,0,0,[]⟩).words=(B.recs.getD j ⟨0,0,0,[]⟩).words))=true:=by simpa using dl
 have q156anp:=of_decide_eq_true dn
 have eu:=ai dm
 refine Pl 1<|?_
 refine L1<|aU (ub h a7) 1<|Pl 1<|?_
 exact L1<|aU (ub h a6) 1<|Pl 2<|ce bO (((A.recs.getD j ⟨0,0,0,[]⟩).record)!=((B.recs.getD j ⟨0,0,0,[]⟩).record)) (by rw[W];rfl)
 refine Pl 1<|cu 6 [210] 216 (((((!(decide ((A.recs.getD j ⟨0,0,0,[]⟩).words=(B.recs.getD j ⟨0,0,0,[]⟩).words)))||(((A.recs.getD j ⟨0,0,0,[]⟩).file)!=((B.recs.getD j ⟨0,0,0,[]⟩).file)))||(((A.recs.getD j ⟨0,0,0,[]⟩).record)!=((B.recs.getD j ⟨0,0,0,[]⟩).record)))||(((A.recs.getD j ⟨0,0,0,[]⟩).count)!=((B.recs.getD j ⟨0,0,0,[]⟩).count)))) (fun K bQ=>?_) ?_
 refine bl 210 ((((!(decide ((A.recs.getD j ⟨0,0,0,[]⟩).words=(B.recs.getD j ⟨0,0,0,[]⟩).words)))||(((A.recs.getD j ⟨0,0,0,[]⟩).file)!=((B.recs.getD j ⟨0,0,0,[]⟩).file)))||(((A.recs.getD j ⟨0,0,0,[]⟩).record)!=((B.recs.getD j ⟨0,0,0,[]⟩).record)))) (fun X=>?_) (fun X=>?_)
 exact Pl 6<|ce bQ true (by rw[X];rfl)
 have bR:=(aJ X).1
 have dp:=(aJ X).2
 have dr:=(aJ bR).1
 have ds:=(aJ bR).2
 have q160aan:(decide ((A.recs.getD j ⟨0,0,0,[]⟩).words=(B.recs.getD j ⟨0,0,0,[]⟩).words))=true:=by simpa using dr
 have q160aanp:=of_decide_eq_true q160aan
 have q160abp:=ai ds
 have ev:=ai dp
 refine Pl 1<|?_
 refine L1<|aU (ub h a7) 2<|Pl 1<|?_
 exact L1<|aU (ub h a6) 2<|Pl 2<|ce bQ (((A.recs.getD j ⟨0,0,0,[]⟩).count)!=((B.recs.getD j ⟨0,0,0,[]⟩).count)) (by rw[X];rfl)
 refine nt<|?_
 refine cb (((((!(decide ((A.recs.getD j ⟨0,0,0,[]⟩).words=(B.recs.getD j ⟨0,0,0,[]⟩).words)))||(((A.recs.getD j ⟨0,0,0,[]⟩).file)!=((B.recs.getD j ⟨0,0,0,[]⟩).file)))||(((A.recs.getD j ⟨0,0,0,[]⟩).record)!=((B.recs.getD j ⟨0,0,0,[]⟩).record)))||(((A.recs.getD j ⟨0,0,0,[]⟩).count)!=((B.recs.getD j ⟨0,0,0,[]⟩).count)))) (fun Y=>?_) (fun Y=>?_)
 refine sg<|Pl 1<|nt<|rt<|br<|tr<|tr<|br<|tr<|rr (.bool false)<|?_
 have hs:decide (A=B)=false:=lX (f:=fun x y=>((((!(decide ((x.recs.getD j ⟨0,0,0,[]⟩).words=(y.recs.getD j ⟨0,0,0,[]⟩).words)))||(((x.recs.getD j ⟨0,0,0,[]⟩).file)!=((y.recs.getD j ⟨0,0,0,[]⟩).file)))||(((x.recs.getD j ⟨0,0,0,[]⟩).record)!=((y.recs.getD j ⟨0,0,0,[]⟩).record)))||(((x.recs.getD j ⟨0,0,0,[]⟩).count)!=((y.recs.getD j ⟨0,0,0,[]⟩).count)))) Y (fun M=>by simp)
 rw[hs]
 exact⟨rfl,(aF ar h)⟩
 have bS:=(aJ Y).1
 have dt:=(aJ Y).2
 have bT:=(aJ bS).1
 have du:=(aJ bS).2
 have q165aaa:=(aJ bT).1
 have q165aab:=(aJ bT).2
 have q165aaan:(decide ((A.recs.getD j ⟨0,0,0,[]⟩).words=(B.recs.getD j ⟨0,0,0,[]⟩).words))=true:=by simpa using q165aaa
 have q165aaanp:=of_decide_eq_true q165aaan
 have q165aabp:=ai q165aab
 have q165abp:=ai du
 have ew:=ai dt
 refine sk<|bn<|tn<|go<|Pl 1<|L0<|Oi (((j:Nat) : Int)+1)<|Pl 1<|nl<|?_
 have bU:=u1 (aF a3 ak) al (ni a3.size aj)
 exact fF (j+1) ⟨(aF (u1 (aF bU ao) ap (ni bU.size an)) h),(qG (d:=⟨0,0,0,[]⟩) bH (by omega) (by omega) (xA Y)),(by(try dsimp only);omega)⟩ (by omega)
 have d8:=of_decide_eq_false ah
 refine xt<|tx<|tx<|bx<|tn<|sq<|sg<|Pl 1<|nt<|bk<|?_
 refine hY (fun x=>[(2,.pointer (some ⟨i,0,none⟩)),(3,.pointer (some ⟨l,0,none⟩)),(12,.int .i64 ((x:Nat) : Int))]) (fun(x:Nat) w'=>aD [] d5 w'∧(A.objects.take x=B.objects.take x)∧(x≤A.objects.length)) (fun x=>A.objects.length-x) 0 ⟨aD.refl _ _,(by(try dsimp only);simp),(by(try dsimp only);omega)⟩ ?_
 rintro k ex ⟨a8,dv,dw⟩
 refine i1 [(2,.pointer (some ⟨i,0,none⟩)),(3,.pointer (some ⟨l,0,none⟩)),(12,.int .i64 ((k:Nat) : Int))] ?_
 have bV:A.objects.take k=B.objects.take k:=dv
 have ey:k≤A.objects.length:=dw
 refine sq<|sg<|Pl 2<|?_
 have bW:=ub a8 af
 refine L0<|aU bW 21<|Pl 2<|nt<|?_
 have bX:=aF a5 a8
 refine cb ((decide (((k:Nat) : Int)<((A.objects.length:Nat) : Int)))) (fun av=>?_) (fun av=>?_)
 have dx:=of_decide_eq_true av
 refine bi<|sq<|bk<|sq<|jG (nW.elt pho k (by omega)) fun bY bZ ez eA eB dy dz c0 dA dB eC aw=>jG (nW.elt qho k (by omega)) fun c2 c3 eD eE eF dC dD c4 dE dF eG ax=>Rg 14 (fun w'=>w'.cell? ⟨i,21,none⟩=some (.slice po A.objects.length pko)∧w'.cell? ⟨bY,bZ+k*2+1,none⟩=some (.slice dy ((A.objects.getD k ⟨0,[]⟩).value.length) dz)∧w'.cell? ⟨l,21,none⟩=some (.slice qo B.objects.length qko)∧w'.cell? ⟨c2,c3+k*2+1,none⟩=some (.slice dC ((B.objects.getD k ⟨0,[]⟩).value.length) dD)) fun eH a9=>?_
 have c5:=ub a9 bW
 have Z:=aF bX a9
 have c6:=ub Z dA
 have c7:=ub (aF (aF a4 a8) a9) P
 have c8:=ub Z dE
 refine bg ⟨(ag c5 rfl),(mf c6 aw 1 rfl (by decide)),(ag c7 rfl),(mf c8 ax 1 rfl (by decide))⟩ fun g=>Rt 0 g<|Rl 1 g (fun _ hs=>hs.1)<|Rt 2 g<|Ri 3 g 2 A.objects.length k ((k:Nat) : Int) rfl c0 (by omega)<|Rt 4 g<|Rl 5 g (fun _ hs=>hs.2.1)<|Rt 6 g<|Rl 7 g (fun _ hs=>hs.2.2.1)<|Rt 8 g<|Ri 9 g 2 B.objects.length k ((k:Nat) : Int) rfl c4 (by omega)<|Rt 10 g<|Rl 11 g (fun _ hs=>hs.2.2.2)<|?_
 refine R0 12 rfl<|Oc<|m1 (mb (aT.old dB Z) (aT.old dF Z)) fun eI o=>?_
 have c9:=ub o c5
 have ca:=ub o c6
 have cc:=ub o c7
 have cd:=ub o c8
 refine bg ⟨(ag c9 rfl),(mf ca aw 1 rfl (by decide)),(ag cc rfl),(mf cd ax 1 rfl (by decide))⟩ fun dG=>Rt 13 dG<|re<|tn<|sq<|Rg 17 (fun w'=>w'.cell? ⟨i,21,none⟩=some (.slice po A.objects.length pko)∧w'.cell? ⟨bY,bZ+k*2+0,none⟩=some (.int .u8 ((A.objects.getD k ⟨0,[]⟩).id))∧w'.cell? ⟨l,21,none⟩=some (.slice qo B.objects.length qko)∧w'.cell? ⟨c2,c3+k*2+0,none⟩=some (.int .u8 ((B.objects.getD k ⟨0,[]⟩).id))) fun eJ p=>?_
 refine bg ⟨(ag (ub p c9) rfl),(mf (ub p ca) aw 0 rfl (by decide)),(ag (ub p cc) rfl),(mf (ub p cd) ax 0 rfl (by decide))⟩ fun a=>Rt 0 a<|Rt 1 a<|Rt 2 a<|?_
 have cf:=aF (aF Z o) p
 refine rN 239 ((!(decide ((A.objects.getD k ⟨0,[]⟩).value=(B.objects.getD k ⟨0,[]⟩).value)))) (fun a0=>?_) (fun a0=>?_)
 have ay:(decide ((A.objects.getD k ⟨0,[]⟩).value=(B.objects.getD k ⟨0,[]⟩).value))=false:=by simpa using a0
 have dH:=of_decide_eq_false ay
 refine Ro 3 a<|Ro 4 a<|Ro 5 a<|Ro 6 a<|Ro 7 a<|Ro 8 a<|Ro 9 a<|Ro 10 a<|Ro 11 a<|Ro 12 a<|Ro 13 a<|Ro 14 a<|Ro 15 a<|Rt 16 a<|?_
 refine re<|tn<|c1<|sg<|Pl 1<|nt<|rt<|br<|tr<|tr<|br<|tr<|?_
 refine rr (.bool false)<|?_
 have hs:decide (A=B)=false:=lX (f:=fun x y=>(!(decide ((x.objects.getD k ⟨0,[]⟩).value=(y.objects.getD k ⟨0,[]⟩).value)))) a0 (fun M=>by simp)
 rw[hs]
 exact⟨rfl,cf⟩
 have ay:(decide ((A.objects.getD k ⟨0,[]⟩).value=(B.objects.getD k ⟨0,[]⟩).value))=true:=by simpa using a0
 have dH:=of_decide_eq_true ay
 refine Rt 3 a<|Rl 4 a (fun _ hs=>hs.1)<|Rt 5 a<|Ri 6 a 2 A.objects.length k ((k:Nat) : Int) rfl c0 (by omega)<|Rt 7 a<|Rl 8 a (fun _ hs=>hs.2.1)<|Rt 9 a<|Rl 10 a (fun _ hs=>hs.2.2.1)<|Rt 11 a<|Ri 12 a 2 B.objects.length k ((k:Nat) : Int) rfl c4 (by omega)<|Rt 13 a<|Rl 14 a (fun _ hs=>hs.2.2.2)<|Rt 15 a<|Rt 16 a<|?_
 refine re<|tn<|cb ((((A.objects.getD k ⟨0,[]⟩).id)!=((B.objects.getD k ⟨0,[]⟩).id))) (fun a1=>?_) (fun a1=>?_)
 have dI:=aq a1
 refine sg<|Pl 1<|nt<|rt<|br<|tr<|tr<|br<|tr<|rr (.bool false)<|?_
 have hs:decide (A=B)=false:=lX (f:=fun x y=>(((x.objects.getD k ⟨0,[]⟩).id)!=((y.objects.getD k ⟨0,[]⟩).id))) a1 (fun M=>by simp)
 rw[hs]
 exact⟨rfl,cf⟩
 have dI:=ai a1
 refine sk<|bn<|tn<|go<|Pl 1<|L0<|Oi (((k:Nat) : Int)+1)<|Pl 1<|nl<|?_
 exact fF (k+1) ⟨(aF (aF (aF a8 a9) o) p),(qG (d:=⟨0,[]⟩) bV (by omega) (by omega) (wv a0 a1)),(by(try dsimp only);omega)⟩ (by omega)
 have dx:=of_decide_eq_false av
 refine xt<|tx<|tx<|bx<|tn<|sg<|Pl 1<|nt<|rt<|rr (.bool true)<|?_
 have hs:decide (A=B)=true:=decide_eq_true (v3 H O U (fun e=>gj bH (by omega) e) (fun e=>gj bV (by omega) e))
 rw[hs]
 exact⟨rfl,bX⟩
end Go.Proofs.YtogbnemojakcpaaGreat
namespace Go.Proofs.YtogbnemojakcpaaGreat
def N4 (C:ah) : Prop:=C.e≠4
theorem N4.need{C:ah}{b:Bool}{x:Int}(hx:x≠4)(h:N4 C) : N4 (C.need b x):=by
  unfold N4 ah.need at *
  split
  · exact hx
  · exact h
theorem N4.bytesC{C:ah}{n:Int}(h:N4 C) : N4 (C.bytesC n):=by
  unfold ah.bytesC
  split
  · exact N4.need (by decide) h
  · exact h
theorem N4.wordsC{C:ah}{n:Int}(h:N4 C) : N4 (C.wordsC n):=by
  unfold ah.wordsC
  split<;>exact N4.bytesC h
theorem N4.recs{one:Int→ah→Int × ah × dt}(ho:∀ s C,N4 C→N4 (one s C).2.1) : ∀ (n:Nat)(s:Int)(C:ah)(L:List dt),N4 C→N4 (aP one n s C L).1
  | 0,_,_,_,h=>h
  | n+1,s,C,L,h=>by
    unfold aP
    split
    · split
      · exact ho s C h
      · exact N4.recs ho n _ _ _ (ho s C h)
    · exact h
theorem pp{x:Int}(h:x≠4) : bp x≠4:=by
  unfold bp
  split
  · decide
  · exact h
theorem tH{dir c:Int}{C:ah}{r:ah × aQ}(hC:N4 C)(h:aE dir c C=some r) : N4 r.1:=by
  unfold aE at h
  repeat' split at h
  all_goals first | cases h | skip
  all_goals simp only[cK,cA,cv,eC,bB,jd,dZ,dl,kR,fo]
  all_goals repeat' first | with_reducible exact hC | with_reducible apply N4.bytesC | with_reducible apply N4.wordsC | (with_reducible refine N4.need (by decide) ?_)
theorem uX{dir c:Int}{C:ah}{r:ah × aQ}(hC:N4 C)(h:aI dir c C=some r) : N4 r.1:=by
  unfold aI at h
  repeat' split at h
  all_goals first | cases h | skip
  all_goals simp only[bJ,bQ,d6,cI,co,cF,cH,i9,my,mR,bK,qK,de,lK,uy,yv,xM]
  all_goals repeat' first | with_reducible exact hC | with_reducible apply N4.bytesC | with_reducible apply N4.wordsC | (with_reducible refine N4.need (by decide) ?_)
theorem uS{dir c:Int}{C:ah}{r:ah × aQ}(hC:N4 C)(h:aO dir c C=some r) : N4 r.1:=by
  unfold aO ef bZ at h
  repeat' split at h
  all_goals first | cases h | skip
  all_goals simp only[fd,ju,gH,i3,dG]
  all_goals repeat' first | with_reducible exact hC | with_reducible apply N4.bytesC | with_reducible apply N4.wordsC | (with_reducible refine N4.need (by decide) ?_)
theorem ws(s:Int)(C:ah)(h:N4 C) : N4 (cU s C).2.1:=by
  simp only[cU,eH,dF,iw,iy,nk]
  repeat' first | with_reducible exact h | with_reducible apply N4.bytesC | with_reducible apply N4.wordsC | (with_reducible refine N4.need (by decide) ?_)
theorem u9(s:Int)(C:ah)(h:N4 C) : N4 (bH s C).2.1:=by
  simp only[bH,eW,i6,ib]
  repeat' first | with_reducible exact h | with_reducible apply N4.bytesC | with_reducible apply N4.wordsC | (with_reducible refine N4.need (by decide) ?_)
theorem vl(s:Int)(C:ah)(h:N4 C) : N4 (cT s C).2.1:=by
  simp only[cT,iS,nR,dF,iw,iy,nk]
  repeat' first | with_reducible exact h | with_reducible apply N4.bytesC | with_reducible apply N4.wordsC | (with_reducible refine N4.need (by decide) ?_)
theorem j9{one:Int→ah→Int × ah × dt}(ho:∀ s C,N4 C→N4 (one s C).2.1)(may:Int→Bool)(c:Int){C:ah}(hC:N4 C) : N4 (dX one may c C).1:=by
  unfold dX kV
  refine N4.need (pp (N4.recs ho _ _ _ _ ?_)) (N4.bytesC (N4.need (by decide) (N4.bytesC hC)))
  show(0:Int)≠4
  decide
theorem tI{dir c:Int}{C:ah}{r:ah × aQ}(hC:N4 C)(h:b7 dir c C=some r) : N4 r.1:=by
  unfold b7 at h
  repeat' split at h
  all_goals first | cases h | skip
  · exact j9 ws _ _ hC
  · exact j9 u9 _ _ hC
  · exact j9 vl _ _ hC
theorem N4.endC{C:ah}(h:N4 C) : N4 C.endC:=by
  unfold ah.endC
  exact N4.need (by decide) h
theorem uE{form:Int→Int→ah→Option (ah × aQ)}(hg:∀ {dir c:Int}{C:ah}{r:ah × aQ},N4 C→form dir c C=some r→N4 r.1){dir c:Int}{b:List Int}(hd:dir=0∨dir=1){r:ah × aQ}(hf:form dir c ⟨b,false,0⟩=some r) :
    (ae form dir c b).2≠4:=by
  unfold ae
  rw[if_pos hd,hf]
  have h0:N4 ⟨b,false,0⟩:=by show(0:Int)≠4;decide
  have g1:=hg h0 hf
  show(aH r.2 r.1).2≠4
  unfold aH
  split
  · exact(show ¬ (0:Int)=4 from by decide)
  · exact N4.endC g1
theorem nJ{form:Int→Int→ah→Option (ah × aQ)}{dir c:Int}{b:List Int}(hd:dir=0∨dir=1)(hf:form dir c ⟨b,false,0⟩=none) : ae form dir c b=(aQ.zero,4):=by
  unfold ae
  rw[if_pos hd,hf]
def f5 (dir:Int)(b:List Int) : aQ × Int :=
  if (ae aE dir (b.getD 0 0) (b.drop 1)).2==4 then
    if (ae aI dir (b.getD 0 0) (b.drop 1)).2==4 then
      if (ae aO dir (b.getD 0 0) (b.drop 1)).2==4 then
        if (ae b7 dir (b.getD 0 0) (b.drop 1)).2==4 then ae bG dir (b.getD 0 0) (b.drop 1)
        else ae b7 dir (b.getD 0 0) (b.drop 1)
      else ae aO dir (b.getD 0 0) (b.drop 1)
    else ae aI dir (b.getD 0 0) (b.drop 1)
  else ae aE dir (b.getD 0 0) (b.drop 1)
theorem rf{dir:Int}{b:List Int}(hd:dir=0∨dir=1) : f5 dir b=jx (kP (b.getD 0 0)) dir b:=by
  have no:∀ (form:Int→Int→ah→Option (ah × aQ)),form dir (b.getD 0 0) ⟨b.drop 1,false,0⟩=none→((ae form dir (b.getD 0 0) (b.drop 1)).2==4)=true:=fun f h=>by rw[nJ hd h];rfl
  have ye:∀ (form:Int→Int→ah→Option (ah × aQ)),(∀ {dir c:Int} {C:ah} {r:ah × aQ},N4 C→form dir c C=some r→N4 r.1)→(form dir (b.getD 0 0) ⟨b.drop 1,false,0⟩).isSome=true→¬ ((ae form dir (b.getD 0 0) (b.drop 1)).2==4)=true:=fun form hg h=>by
    obtain⟨r,hr⟩:=Option.isSome_iff_exists.1 h
    have k:=uE (form:=form) (c:=b.getD 0 0) (fun hC h=>hg hC h) hd hr
    rw[beq_iff_eq]
    exact k
  unfold f5
  rcases gZ (b.getD 0 0) with⟨hk,hf⟩|⟨hk,hf⟩|⟨hk,hf⟩|⟨hk,hf⟩|⟨hk,hf⟩|⟨hk,hf⟩<;>rw[hf]
  · rw[if_neg (ye aE (fun hC h=>tH hC h) (by rcases hd with rfl | rfl<;>rcases hk with h | h | h | h<;>rw[h]<;>rfl))]
    rfl
  · rw[if_pos (no aE (by rcases hk with h | h | h | h | h | h | h<;>rw[h]<;>rfl)),if_neg (ye aI (fun hC h=>uX hC h) (by rcases hd with rfl | rfl<;>rcases hk with h | h | h | h | h | h | h<;>rw[h]<;>rfl))]
    rfl
  · rw[if_pos (no aE (by rcases hk with h | h | h | h | h<;>rw[h]<;>rfl)),if_pos (no aI (by rcases hk with h | h | h | h | h<;>rw[h]<;>rfl)),if_neg (ye aO (fun hC h=>uS hC h) (by rcases hd with rfl | rfl<;>rcases hk with h | h | h | h | h<;>rw[h]<;>rfl))]
    rfl
  · rw[if_pos (no aE (by rcases hk with h | h<;>rw[h]<;>rfl)),if_pos (no aI (by rcases hk with h | h<;>rw[h]<;>rfl)),if_pos (no aO (by rcases hk with h | h<;>rw[h]<;>rfl)),if_neg (ye b7 (fun hC h=>tI hC h) (by rcases hd with rfl | rfl<;>rcases hk with h | h<;>rw[h]<;>rfl))]
    rfl
  · rw[if_pos (no aE (by rw[hk]<;>rfl)),if_pos (no aI (by rw[hk]<;>rfl)),if_pos (no aO (by rw[hk]<;>rfl)),if_pos (no b7 (by rw[hk]<;>rfl))]
    rfl
  · have no0:∀ (form:Int→Int→ah→Option (ah × aQ)),(∀ C,form dir (b.getD 0 0) C=none)→((ae form dir (b.getD 0 0) (b.drop 1)).2==4)=true:=fun f h=>no f (h _)
    have ne:∀ k:Int,¬ b.getD 0 0=k→(b.getD 0 0==k)=false:=fun k h=>by simpa using h
    obtain⟨z1,z2,z5,a,z3,z4,z6,d,e,g,i,z7,z8,j,l,m,n,o,p⟩:=hk
    rw[if_pos (no0 aE fun C=>by unfold aE;simp only[ne _ z1,ne _ z2,ne _ z5,ne _ a,Bool.or_false,Bool.false_eq_true,if_false]),if_pos (no0 aI fun C=>by unfold aI;simp only[ne _ z3,ne _ z4,ne _ z6,ne _ d,ne _ e,ne _ g,ne _ i,Bool.or_false,Bool.false_eq_true,if_false]),if_pos (no0 aO fun C=>by unfold aO;simp only[ne _ z7,ne _ z8,ne _ j,ne _ l,ne _ m,Bool.or_false,Bool.false_eq_true,if_false]),if_pos (no0 b7 fun C=>by unfold b7;simp only[ne _ n,ne _ o,Bool.or_false,Bool.false_eq_true,if_false])]
    exact nJ hd (by unfold bG;rw[if_pos (show(b.getD 0 0 != 43)=true from by rw[bne_iff_ne];exact p)])
def fW (dir:Int)(b:List Int) : aQ × Int :=
  if dir != 0&&dir != 1 then (aQ.zero,1)
  else if (b.length:Int)==0 then (aQ.zero,2)
  else if decide (253<(b.length:Int)) then (aQ.zero,3)
  else if decide (128≤b.getD 0 0)&&dir==1 then f8 b
  else f5 dir b
theorem fe(dir:Int)(b:List Int) : fW dir b=cZ dir b:=by
  unfold fW cZ
  split
  · rfl
  · rename_i hh
    have hd:dir=0∨dir=1:=by simp only[Bool.and_eq_true,bne_iff_ne,ne_eq] at hh;omega
    rw[rf hd]
open Go.RowKit
theorem s8{xs:List Int}{k a b:Nat}(h:2*k+1<xs.length)(ha:a=2*k)(hb:b=2*k+1)(hr:∀ x,x∈xs→0≤x∧x<256) : dc (xs.drop (2*k))=[(((256*xs.getD a 0)%65536)+xs.getD b 0)%65536]++dc (xs.drop (2*(k+1))):=by
  subst ha hb
  rw[List.drop_eq_getElem_cons (show 2*k<xs.length by omega),List.drop_eq_getElem_cons h]
  have h1:=hr _ (List.getElem_mem (show 2*k<xs.length by omega))
  have h2:=hr _ (List.getElem_mem h)
  have e1:xs.getD (2*k) 0=xs[2*k]:=by rw[List.getD_eq_getElem?_getD,List.getElem?_eq_getElem (by omega)];rfl
  have e2:xs.getD (2*k+1) 0=xs[2*k+1]:=by rw[List.getD_eq_getElem?_getD,List.getElem?_eq_getElem h];rfl
  rw[e1,e2]
  show(xs[2*k]*256+xs[2*k+1]) :: dc (xs.drop (2*k+1+1))=_
  rw[show 2*k+1+1=2*(k+1) by omega,show((256*xs[2*k])%65536+xs[2*k+1])%65536=xs[2*k]*256+xs[2*k+1] by omega]
  rfl
theorem rS{xs L:List Int}{k:Nat}(h:L++dc (xs.drop (2*k))=dc xs)(h1:¬ 2*k+1<xs.length)(h2:xs.length%2=0) : L=cG xs:=by
  have hd:xs.drop (2*k)=[]:=List.drop_eq_nil_of_le (by omega)
  rw[hd] at h
  unfold cG
  rw[if_pos h2,← h]
  simp[dc]
theorem wU{m:Md}{A:Option Addr}{cp:Nat}{xs:List Int}{w:World}(h:aT m w (.slice A xs.length cp) xs)(hn:xs.length≤1048576) : Calls Tryz.prog 217 #[.slice A xs.length cp] w (tD xs w):=by
 have hr:=aT.range h
 refine en 33 Tryz.func217 rfl<|sg<|Pl 1<|ng<|Pl 1<|nt<|sq<|sg<|?_
 refine Pl 2<|L0<|Oe (.int .i64 (Int.tmod ((xs.length:Nat) : Int) 2)) (.int .i64 (((xs.length:Nat) : Int)%2)) (congrArg (Value.int .i64) (Int.tmod_eq_emod_of_nonneg (by omega)))<|Pl 1<|nt<|cb (((((xs.length:Nat) : Int)%2)==1)) (fun f=>?_) (fun f=>?_)
 have y:=al f
 refine sg<|Pl 1<|nt<|rt<|tr<|rr (.slice none 0 0)<|?_
 have hs:cG xs=[]:=by unfold cG;rw[if_neg (by have:=al f;omega)]
 exact⟨_,rfl,by rw[hs];exact be.nil ..,(aD.refl [] _)⟩
 have y:=ap f
 refine bi<|sq<|sg<|Pl 1<|nt<|bk<|?_
 refine hY (fun x=>[(0,.slice A xs.length cp),(2,.slice none 0 0),(3,.slice x.2.2.1 x.2.1.length x.2.2.2),(4,.int .i64 ((2*x.1:Nat) : Int))]) (fun(x:Nat × List Int × Option Addr × Nat) w'=>aD [] w w'∧jy w.heap.size w' (.slice x.2.2.1 x.2.1.length x.2.2.2) x.2.1∧(2*x.1≤xs.length)∧(x.2.1++dc (xs.drop (2*x.1))=dc xs)∧(x.2.1.length=x.1)) (fun x=>xs.length-2*x.1) (0,[],none,0) ⟨aD.refl _ _,(be.nil w.heap.size _ _ uA _),(by(try dsimp only);omega),rfl,rfl⟩ ?_
 rintro⟨k,L,B,cq⟩ z ⟨g,C,D,E,F⟩
 refine i1 [(0,.slice A xs.length cp),(2,.slice none 0 0),(3,.slice B L.length cq),(4,.int .i64 ((2*k:Nat) : Int))] ?_
 have j:jy w.heap.size z (.slice B L.length cq) L:=C
 have T:2*k≤xs.length:=D
 have U:L++dc (xs.drop (2*k))=dc xs:=E
 have V:L.length=k:=F
 have hL:L++dc (xs.drop (2*k))=dc xs:=by assumption
 refine sq<|sg<|Pl 1<|L0<|Oi (((2*k:Nat) : Int)+1)<|Pl 3<|nt<|cb ((decide ((((2*k:Nat) : Int)+1)<((xs.length:Nat) : Int)))) (fun l=>?_) (fun l=>?_)
 have G:=of_decide_eq_true l
 refine bi<|sq<|bk<|?_
 have o:=aT.old h g
 refine eJ (aT.at_ o (2*k) (by omega)) fun H I p q W=>eJ (aT.at_ o (((((2*k:Nat) : Int)+1)).toNat) (by omega)) fun J K r s X=>Rg 17 (fun w'=>w'.cell? ⟨H,I+2*k,none⟩=some (.int .u8 (xs.getD (2*k) 0))∧w'.cell? ⟨J,K+((((2*k:Nat) : Int)+1)).toNat,none⟩=some (.int .u8 (xs.getD (((((2*k:Nat) : Int)+1)).toNat) 0))) fun Y d=>bg ⟨(uc d q),(uc d s)⟩ fun c=>Rt 0 c<|Rt 1 c<|Rt 2 c<|kU 3 c xs.length (2*k) ((2*k:Nat) : Int) rfl p (by omega)<|Rl 4 c (fun _ hs=>hs.1)<|Rr 5 c (.int .u16 (xs.getD (2*k) 0)) (fun _ _=>cg (.int .u16 (IntKind.u16.wrap (xs.getD (2*k) 0))) (by kernel_rfl) (congrArg (Value.int .u16) (gN (by omega))))<|Rt 6 c<|Rt 7 c<|Rt 8 c<|Rr 9 c (.int .i64 (((2*k:Nat) : Int)+1)) (fun _ _=>cg (.int .i64 (IntKind.i64.wrap (((2*k:Nat) : Int)+1))) (by kernel_rfl) (congrArg (Value.int .i64) (IntWalk.i64_in _ (by omega))))<|?_
 refine kU 10 c xs.length (((((2*k:Nat) : Int)+1)).toNat) (((2*k:Nat) : Int)+1) (by omega) r (by omega)<|Rl 11 c (fun _ hs=>hs.2)<|Rr 12 c (.int .u16 (xs.getD (((((2*k:Nat) : Int)+1)).toNat) 0)) (fun _ _=>cg (.int .u16 (IntKind.u16.wrap (xs.getD (((((2*k:Nat) : Int)+1)).toNat) 0))) (by kernel_rfl) (congrArg (Value.int .u16) (gN (by omega))))<|Rt 13 c<|R0 14 rfl<|dD (m:=1) (e:=24) #[.int .u16 ((((256*(xs.getD (2*k) 0))%65536)+(xs.getD (((((2*k:Nat) : Int)+1)).toNat) 0))%65536)] fun Z a0 M N n=>?_
 have O:=ek M (xs:=[((((256*(xs.getD (2*k) 0))%65536)+(xs.getD (((((2*k:Nat) : Int)+1)).toNat) 0))%65536)]) (by as_aux_lemma=>kernel_rfl) (az (by omega) aZ) (by(try simp only[List.length_cons,List.length_nil]);omega) N
 have i:=aF d n
 refine bg ⟨(uc i q),(uc i s)⟩ fun a1=>?_
 refine R0 15 rfl<|cR qz (xs:=L) (ys:=([((((256*(xs.getD (2*k) 0))%65536)+(xs.getD (((((2*k:Nat) : Int)+1)).toNat) 0))%65536)])) (.int .u16 0) 2 (ax j i (fun x hx=>ay) (fun _ _ h=>h)) (O).rd (by(try simp only[List.length_append,List.length_cons,List.length_nil,aC]);omega) (le (le g.size d.size) n.size) fun P Q a2 R t=>?_
 have a3:=ut (aD.mono (S':=(ob B++[])) i au) t (av (fun x hx=>Or.inl (by simp[hx])) au)
 have u:=ut (aF (aF g d) n) t (av (aV j lr) au)
 have v:=aT.old h u
 exact bg ⟨(cB v p (2*k) (by omega)),(cB v r (((((2*k:Nat) : Int)+1)).toNat) (by omega))⟩ fun S=>Rt 16 S<|re<|bn<|tn<|go<|Pl 1<|L0<|Oi (((2*k:Nat) : Int)+2)<|Pl 1<|nl<|fF ((k+1),(L++[((((256*(xs.getD (2*k) 0))%65536)+(xs.getD (((((2*k:Nat) : Int)+1)).toNat) 0))%65536)]),P,Q) ⟨u,R,(by(try dsimp only);omega),(by(try dsimp only);rw[← hL,s8 (k:=k) (a:=2*k) (b:=(((2*k:Nat) : Int)+1).toNat) (by omega) rfl (by omega) hr,List.append_assoc]),(by(try dsimp only);simp only[List.length_append,List.length_cons,List.length_nil];omega)⟩ (by omega)
 have G:=of_decide_eq_false l
 refine xt<|tx<|tx<|bx<|tn<|sg<|Pl 2<|nt<|rt<|rr (.slice B L.length cq)<|?_
 have hs:L=cG xs:=rS hL (by omega) (by omega)
 exact⟨_,rfl,by rw[← hs];exact j,g⟩
theorem wG{m:Md}{v:Value}{xs:List Int}{w:World}(h:aT m w v xs)(hn:xs.length≤1048576) : Calls Tryz.prog 217 #[v] w (tD xs w):=by
  obtain⟨A,cp,rfl,_,_⟩:=h.shape
  exact wU h hn
theorem qy{a n:Int}{w:World}(ha:0≤a∧a<65536)(hn : -1048576≤n∧n≤1048576) : Calls Tryz.prog 215 #[.int .u16 a,.int .i64 n] w (bP (.bool (dp a n)) w):=by
 refine en 16 Tryz.func215 rfl<|sg<|Pl 1<|nt<|sq<|sg<|Pl 3<|cu 3 [7] 10 (((decide (n<1))||(decide (65536<n)))) (fun K d=>?_) ?_
 refine bl 7 ((decide (n<1))) (fun b=>?_) (fun b=>?_)
 have e:=of_decide_eq_true b
 exact Pl 3<|ce d true (by rw[b];rfl)
 have e:=of_decide_eq_false b
 exact Pl 3<|ce d (decide (65536<n)) (by rw[b];rfl)
 refine nt<|cb (((decide (n<1))||(decide (65536<n)))) (fun c=>?_) (fun c=>?_)
 refine sg<|Pl 1<|nt<|rt<|tr<|rr (.bool false)<|?_
 have hq:=c
 have hs:dp a n=false:=by unfold dp;simp only[Bool.or_eq_true,decide_eq_true_eq] at hq;simp only[Bool.and_eq_false_iff,decide_eq_false_iff_not];omega
 rw[hs]
 exact⟨rfl,(aD.refl [] _)⟩
 have f:=(aJ c).1
 have g:=(aJ c).2
 have h:=of_decide_eq_false f
 have i:=of_decide_eq_false g
 refine bi<|sg<|Pl 1<|L0<|Oi a<|Pl 1<|L0<|Oi (a+n)<|Pl 2<|nt<|rt<|rr (.bool (decide ((a+n)≤65536)))<|?_
 have hs:dp a n=(decide ((a+n)≤65536)):=by unfold dp;rw[Bool.eq_iff_iff];simp only[Bool.and_eq_true,decide_eq_true_eq];omega
 rw[hs]
 exact⟨rfl,(aD.refl [] _)⟩
open Go.RowKit
def zm (A:Option Addr)(cp:Nat)(full:List Int)(k:Nat)(C:ah) : Array Value:=#[.slice A full.length cp,.int .i64 ((k:Nat) : Int),.bool C.sh,.int .i64 C.e]
structure RC (w0:World) (m:Md) (A:Option Addr) (cp:Nat) (full:List Int) (w:World) (g:Nat) (C:ah) : Prop where
  src:aT m w0 (.slice A full.length cp) full
  u:aD [] w0 w
  new:w0.heap.size≤g
  cell:∃ k:Nat,w.heap[g]? = some (.cells (zm A cp full k C) 159 (0,0))∧k≤full.length∧C.l=full.drop k
  len:full.length≤1048576
theorem RC.upd{w0:World}{m:Md}{A:Option Addr}{cp:Nat}{full:List Int}{w w':World}{g:Nat}{C:ah}{S:List Nat}(h:RC w0 m A cp full w g C)(hu:aD S w w')(hg:g∉S)(U:aD [] w0 w') : RC w0 m A cp full w' g C:=by
  obtain⟨h1,h2,h3,⟨k,h4,h5,h6⟩,h7⟩:=h
  exact⟨h1,U,h3,⟨k,hu.blk hg h4,h5,h6⟩,h7⟩
theorem RC.rd{w0:World}{m:Md}{A:Option Addr}{cp:Nat}{full:List Int}{w:World}{g:Nat}{C:ah}(h:RC w0 m A cp full w g C) : aT m w (.slice A full.length cp) full:=aT.old h.src h.u
theorem RC.rng{w0:World}{m:Md}{A:Option Addr}{cp:Nat}{full:List Int}{w:World}{g:Nat}{C:ah}(h:RC w0 m A cp full w g C) : ∀ x,x∈C.l→0≤x∧x<256:=fun x hx=>by
  obtain⟨k,_,_,h2⟩:=h.cell
  rw[h2] at hx
  exact aT.range h.src x (List.mem_of_mem_drop hx)
theorem uV(C:ah){ok:Bool}{x:Int}(h:(ok || (C.e != 0))=true) : C.need ok x=C:=by
  unfold ah.need
  rw[if_neg]
  rintro⟨h1,rfl⟩
  rw[h1] at h
  cases h
theorem uY(C:ah){ok:Bool}{x:Int}(h:(ok || (C.e != 0))=false) : C.need ok x = { C with e:=x }:=by
  simp only[Bool.or_eq_false_iff,bne_eq_false_iff_eq] at h
  unfold ah.need
  rw[if_pos ⟨h.2,h.1⟩]
def wz (w0:World)(m:Md)(A:Option Addr)(cp:Nat)(full:List Int)(g:Nat)(C:ah)(w:World)(e:Ending)(w':World) : Prop:=e = .returned (.tuple #[])∧RC w0 m A cp full w' g C∧aD [g] w w'
theorem aY{w0:World}{m:Md}{A:Option Addr}{cp:Nat}{full:List Int}{w:World}{g:Nat}{C:ah}(ok:Bool)(x:Int)(hC:RC w0 m A cp full w g C) :
    Calls Tryz.prog 152 #[.pointer (some ⟨g,0,none⟩),.bool ok,.int .i64 x] w (wz w0 m A cp full g (C.need ok x) w):=by
 obtain⟨hsrc,hU,hnew,⟨k,hB,hk,hl⟩,hlen⟩:=hC
 refine en 18 Tryz.func152 rfl<|sq<|sg<|Pl 2<|cu 6 [7] 13 ((ok || (C.e != 0))) (fun K c=>?_) ?_
 refine bl 7 (ok) (fun b=>?_) (fun b=>?_)
 exact Pl 6<|ce c true (by rw[b];rfl)
 exact Pl 3<|L1<|aU hB 3<|Pl 2<|ce c (C.e != 0) (by rw[b];rfl)
 refine nt<|cb ((ok || (C.e != 0))) (fun a=>?_) (fun a=>?_)
 refine rt<|tr<|rr (.tuple #[])<|?_
 rw[uV C a]
 exact⟨rfl,⟨hsrc,hU.trans' (aD.mono (S':=[g]) (aD.refl [] _) au) (fun x hx=>.inr (by simp at hx;subst hx;exact hnew)),hnew,⟨k,hB,hk,hl⟩,hlen⟩,(aD.mono (S':=[g]) (aD.refl [] _) au)⟩
 have i:=(aJ a).1
 have f:=(aJ a).2
 have j:=ai f
 refine bi<|go<|Pl 4<|L0<|bX hB 3 #[.slice A full.length cp,.int .i64 ((k:Nat) : Int),.bool C.sh,.int .i64 x] fun l h d=>nl<|rm (.tuple #[])<|?_
 rw[uY C a]
 exact⟨rfl,⟨hsrc,hU.trans' d (fun x hx=>.inr (by simp at hx;subst hx;exact hnew)),hnew,⟨k,h,hk,hl⟩,hlen⟩,d⟩
theorem iA{C:ah}{full:List Int}{k:Nat}{n:Int}(hk:k≤full.length)(hl:C.l=full.drop k) : C.fails n=((C.sh || decide (n<0))||decide ((((full.length:Nat) : Int)-((k:Nat) : Int))<n)):=by
  unfold ah.fails
  rw[hl,List.length_drop,show((full.length-k:Nat) : Int)=((full.length:Nat) : Int)-((k:Nat) : Int) by omega]
def vi (w0:World)(m:Md)(A:Option Addr)(cp:Nat)(full:List Int)(g:Nat)(C:ah)(n:Int)(w:World)(e:Ending)(w':World) : Prop:=∃ A2 n2 c2,e = .returned (.slice A2 n2 c2)∧(∀ m' w'',aT m' w'' (.slice A full.length cp) full→aT m' w'' (.slice A2 n2 c2) (C.bytesR n))∧RC w0 m A cp full w' g (C.bytesC n)∧aD [g] w w'
theorem v9{l full:List Int}{k a b:Nat}(hl:l=full.drop k)(h:b=k+a) : l.drop a=full.drop b:=by
  rw[hl,List.drop_drop,h]
theorem p7{C:ah}{full:List Int}{k:Nat}{n:Int}(hk:k≤full.length)(hl:C.l=full.drop k)(hf:C.fails n=false)(a b:Nat)(ha:(a:Int)=k)(hb:(b:Int)=(k:Int)+n) : (full.take b).drop a=C.bytesR n:=by
  obtain rfl:a=k:=by omega
  unfold ah.bytesR
  rw[hf,hl,List.drop_take]
  show _=(full.drop a).take n.toNat
  rw[show b-a=n.toNat by omega]
theorem pK{w0:World}{m:Md}{A:Option Addr}{cp:Nat}{full:List Int}{w:World}{g:Nat}{C:ah}{n:Int}(hn : -1048576≤n∧n≤2097152)(hC:RC w0 m A cp full w g C) :
    Calls Tryz.prog 153 #[.pointer (some ⟨g,0,none⟩),.int .i64 n] w (vi w0 m A cp full g C n w):=by
 obtain⟨hsrc,hU,hnew,⟨k,hB,hk,hl⟩,hlen⟩:=hC
 have hcp:full.length≤cp:=by obtain⟨_,_,hv,h1,_⟩:=aK.shape hsrc;injection hv with _ _ h3;omega
 refine en 64 Tryz.func153 rfl<|sg<|Pl 1<|nt<|sq<|sq<|Rg 22 (fun w'=>w'.cell? ⟨g,2,none⟩=some (.bool C.sh)∧w'.cell? ⟨g,0,none⟩=some (.slice A full.length cp)∧w'.cell? ⟨g,1,none⟩=some (.int .i64 ((k:Nat) : Int))) fun a4 i=>?_
 have d:=ub i hB
 refine bg ⟨(ag d rfl),(ag d rfl),(ag d rfl)⟩ fun a=>Rt 0 a<|Rt 1 a<|Rt 2 a<|Rl 3 a (fun _ hs=>hs.1)<|Rt 4 a<|rN 9 (C.sh) (fun j=>?_) (fun j=>?_)
 refine Ro 5 a<|Ro 6 a<|Rt 7 a<|Rt 8 a<|Ro 9 a<|Ro 10 a<|Ro 11 a<|Ro 12 a<|Ro 13 a<|Ro 14 a<|Ro 15 a<|Ro 16 a<|Ro 17 a<|Ro 18 a<|?_
 refine Ro 19 a<|Ro 20 a<|Rt 21 a<|re<|tn<|c1<|sg<|Pl 3<|L0<|bX d 2 #[.slice A full.length cp,.int .i64 ((k:Nat) : Int),.bool true,.int .i64 C.e] fun a5 q D=>ng<|?_
 refine Pl 4<|L0<|aU q 0<|Pl 3<|L0<|bX q 1 #[.slice A full.length cp,.int .i64 ((full.length:Nat) : Int),.bool true,.int .i64 C.e] fun E F G=>ng<|Pl 1<|?_
 have r:=u1 (u1 (aD.mono (S':=[g]) i au) D im) G im
 have H:RC w0 m A cp full E g { C with l:=[],sh:=true }:=⟨hsrc,hU.trans' r (fun x hx=>.inr (by simp at hx;subst hx;exact hnew)),hnew,⟨full.length,F,Nat.le_refl _,List.drop_length.symm⟩,hlen⟩
 refine L0<|Oc<|m2 (aY false 2 H) fun a6 I J=>ng<|Pl 1<|nt<|rt<|tr<|rr (.slice none 0 0)<|?_
 have hf:C.fails n=true:=by rw[iA (n:=n) hk hl,j];rfl
 have e1:C.bytesR n=[]:=by unfold ah.bytesR;rw[hf];rfl
 have e2:C.bytesC n=ah.need { C with l:=[],sh:=true } false 2:=by unfold ah.bytesC;rw[hf];rfl
 exact⟨none,0,0,rfl,fun _ _ _=>by rw[e1];exact aK.nil ..,by rw[e2];exact I,(u1 r J im)⟩
 refine Rt 5 a<|Rt 6 a<|Rt 7 a<|Rt 8 a<|rN 13 ((decide (n<0))) (fun f=>?_) (fun f=>?_)
 have K:=of_decide_eq_true f
 refine Ro 9 a<|Ro 10 a<|Ro 11 a<|Ro 12 a<|Ro 13 a<|Ro 14 a<|Ro 15 a<|Ro 16 a<|Ro 17 a<|Ro 18 a<|Ro 19 a<|Ro 20 a<|Rt 21 a<|re<|?_
 refine tn<|c1<|sg<|Pl 3<|L0<|bX d 2 #[.slice A full.length cp,.int .i64 ((k:Nat) : Int),.bool true,.int .i64 C.e] fun a7 s L=>ng<|Pl 4<|L0<|aU s 0<|Pl 3<|L0<|bX s 1 #[.slice A full.length cp,.int .i64 ((full.length:Nat) : Int),.bool true,.int .i64 C.e] fun M N O=>?_
 refine ng<|Pl 1<|?_
 have t:=u1 (u1 (aD.mono (S':=[g]) i au) L im) O im
 have Q:RC w0 m A cp full M g { C with l:=[],sh:=true }:=⟨hsrc,hU.trans' t (fun x hx=>.inr (by simp at hx;subst hx;exact hnew)),hnew,⟨full.length,N,Nat.le_refl _,List.drop_length.symm⟩,hlen⟩
 refine L0<|Oc<|m2 (aY false 2 Q) fun a8 R S=>ng<|Pl 1<|nt<|rt<|tr<|rr (.slice none 0 0)<|?_
 have hf:C.fails n=true:=by rw[iA (n:=n) hk hl,j,f];rfl
 have e1:C.bytesR n=[]:=by unfold ah.bytesR;rw[hf];rfl
 have e2:C.bytesC n=ah.need { C with l:=[],sh:=true } false 2:=by unfold ah.bytesC;rw[hf];rfl
 exact⟨none,0,0,rfl,fun _ _ _=>by rw[e1];exact aK.nil ..,by rw[e2];exact R,(u1 t S im)⟩
 have K:=of_decide_eq_false f
 refine Rt 9 a<|Rt 10 a<|Rt 11 a<|Rt 12 a<|Rl 13 a (fun _ hs=>hs.2.1)<|Rt 14 a<|Rt 15 a<|Rt 16 a<|Rt 17 a<|Rl 18 a (fun _ hs=>hs.2.2)<|Rr 19 a (.int .i64 (((full.length:Nat) : Int)-((k:Nat) : Int))) (fun _ _=>cg (.int .i64 (IntKind.i64.wrap (((full.length:Nat) : Int)-((k:Nat) : Int)))) (by kernel_rfl) (congrArg (Value.int .i64) (IntWalk.i64_in _ (by omega))))<|Rt 20 a<|Rt 21 a<|re<|?_
 refine tn<|cb ((decide ((((full.length:Nat) : Int)-((k:Nat) : Int))<n))) (fun o=>?_) (fun o=>?_)
 have T:=of_decide_eq_true o
 refine sg<|Pl 3<|L0<|bX d 2 #[.slice A full.length cp,.int .i64 ((k:Nat) : Int),.bool true,.int .i64 C.e] fun a9 u U=>ng<|Pl 4<|L0<|aU u 0<|Pl 3<|L0<|bX u 1 #[.slice A full.length cp,.int .i64 ((full.length:Nat) : Int),.bool true,.int .i64 C.e] fun V W X=>nt<|?_
 refine sg<|Pl 1<|?_
 have v:=u1 (u1 (aD.mono (S':=[g]) i au) U im) X im
 have Y:RC w0 m A cp full V g { C with l:=[],sh:=true }:=⟨hsrc,hU.trans' v (fun x hx=>.inr (by simp at hx;subst hx;exact hnew)),hnew,⟨full.length,W,Nat.le_refl _,List.drop_length.symm⟩,hlen⟩
 refine L0<|Oc<|m2 (aY false 2 Y) fun aa Z a0=>ng<|Pl 1<|nt<|rt<|tr<|rr (.slice none 0 0)<|?_
 have hf:C.fails n=true:=by rw[iA (n:=n) hk hl,j,f,o];rfl
 have e1:C.bytesR n=[]:=by unfold ah.bytesR;rw[hf];rfl
 have e2:C.bytesC n=ah.need { C with l:=[],sh:=true } false 2:=by unfold ah.bytesC;rw[hf];rfl
 exact⟨none,0,0,rfl,fun _ _ _=>by rw[e1];exact aK.nil ..,by rw[e2];exact Z,(u1 v a0 im)⟩
 have T:=of_decide_eq_false o
 refine bi<|sg<|Pl 4<|L0<|aU d 1<|Pl 1<|L0<|Oi (((k:Nat) : Int)+n)<|Pl 2<|L0<|bX d 1 #[.slice A full.length cp,.int .i64 (((k:Nat) : Int)+n),.bool C.sh,.int .i64 C.e] fun ab a1 a2=>nt<|sq<|Rg 16 (fun w'=>w'.cell? ⟨g,0,none⟩=some (.slice A full.length cp)∧w'.cell? ⟨g,1,none⟩=some (.int .i64 (((k:Nat) : Int)+n))) fun ac y=>?_
 have p:=ub y a1
 refine bg ⟨(ag p rfl),(ag p rfl)⟩ fun b=>Rt 0 b<|Rt 1 b<|Rt 2 b<|Rl 3 b (fun _ hs=>hs.1)<|Rt 4 b<|Rt 5 b<|Rt 6 b<|Rl 7 b (fun _ hs=>hs.2)<|Rt 8 b<|Rr 9 b (.int .i64 ((((k:Nat) : Int)+n)-n)) (fun _ _=>cg (.int .i64 (IntKind.i64.wrap ((((k:Nat) : Int)+n)-n))) (by kernel_rfl) (congrArg (Value.int .i64) (IntWalk.i64_in _ (by omega))))<|Rt 10 b<|Rt 11 b<|Rt 12 b<|?_
 refine Rl 13 b (fun _ hs=>hs.2)<|jW (fg (P:=Tryz.prog) 22 5 1 Tryz.underlying22 rfl rfl A full.length cp (lo:=((((k:Nat) : Int)+n)-n)) (up:=(((k:Nat) : Int)+n)) ((((((k:Nat) : Int)+n)-n)).toNat) (((((k:Nat) : Int)+n)).toNat) (by omega) (by omega) (by omega) (by omega) (by omega)) fun z hrun69 a3=>Rr 14 b (.slice z ((((((k:Nat) : Int)+n)).toNat)-((((((k:Nat) : Int)+n)-n)).toNat)) (cp-((((((k:Nat) : Int)+n)-n)).toNat))) (fun _ _=>ec (kl:=.i64) (kh:=.i64) (lo:=((((k:Nat) : Int)+n)-n)) (hi:=(((k:Nat) : Int)+n)) (A:=A) (n:=full.length) (c:=cp) rfl Tryz.underlying22 (by kernel_rfl) (by kernel_rfl) (by kernel_rfl) (hrun69 _ _ _))<|Rt 15 b<|re<|tn<|rt<|rr (.slice z ((((((k:Nat) : Int)+n)).toNat)-((((((k:Nat) : Int)+n)-n)).toNat)) (cp-((((((k:Nat) : Int)+n)-n)).toNat)))<|?_
 have hf:C.fails n=false:=by rw[iA (n:=n) hk hl,j,f,o];rfl
 have B:=aF (u1 (aD.mono (S':=[g]) i au) a2 im) y
 have e2:C.bytesC n = { C with l:=C.l.drop n.toNat }:=by unfold ah.bytesC;rw[hf];rfl
 exact⟨_,_,_,rfl,fun m' w'' h=>by have:=a3 m' _ _ w'' full h;rw[p7 hk hl hf _ _ (by omega) (by omega)] at this;exact this,by rw[e2];exact⟨hsrc,hU.trans' B (fun x hx=>.inr (by simp at hx;subst hx;exact hnew)),hnew,⟨(((k:Nat) : Int)+n).toNat,(by unfold zm;rw[show((((((k:Nat) : Int)+n).toNat:Nat) : Int))=((k:Nat) : Int)+n by omega];exact p),by omega,v9 hl (by omega)⟩,hlen⟩,B⟩
def wa (w0:World)(m:Md)(A:Option Addr)(cp:Nat)(full:List Int)(g:Nat)(C:ah)(n:Int)(w:World)(e:Ending)(w':World) : Prop:=∃ A2 c2,e = .returned (.slice A2 (C.bytesR n).length c2)∧(∀ m' w'',aT m' w'' (.slice A full.length cp) full→aT m' w'' (.slice A2 (C.bytesR n).length c2) (C.bytesR n))∧RC w0 m A cp full w' g (C.bytesC n)∧aD [g] w w'
theorem fu{w0:World}{m:Md}{A:Option Addr}{cp:Nat}{full:List Int}{w:World}{g:Nat}{C:ah}{n:Int}(hn : -1048576≤n∧n≤2097152)(hC:RC w0 m A cp full w g C) : Calls Tryz.prog 153 #[.pointer (some ⟨g,0,none⟩),.int .i64 n] w (wa w0 m A cp full g C n w):=by
  refine(pK hn hC).mono ?_
  rintro e w' ⟨A2,n2,c2,rfl,h1,h2,h3⟩
  obtain⟨_,_,hv,_⟩:=aK.shape (h1 m w0 hC.src)
  injection hv with _ e2 _
  subst e2
  exact⟨A2,c2,rfl,h1,h2,h3⟩
theorem wq{full:List Int}{k:Nat}{C:ah}(hk:k≤full.length)(hl:C.l=full.drop k) : ((full.length:Nat) : Int)-((k:Nat) : Int)=((C.l.length:Nat) : Int):=by
  rw[hl,List.length_drop]
  omega
theorem i7{w0:World}{m:Md}{A:Option Addr}{cp:Nat}{full:List Int}{w:World}{g:Nat}{C:ah}(hC:RC w0 m A cp full w g C) :
    Calls Tryz.prog 161 #[.pointer (some ⟨g,0,none⟩)] w (bP (.int .i64 ((C.l.length:Nat) : Int)) w):=by
 obtain⟨hsrc,hU,hnew,⟨k,hB,hk,hl⟩,hlen⟩:=hC
 have hcp:full.length≤1048576:=hlen
 refine en 13 Tryz.func161 rfl<|sg<|Pl 1<|nt<|sq<|Rg 11 (fun w'=>w'.cell? ⟨g,0,none⟩=some (.slice A full.length cp)∧w'.cell? ⟨g,1,none⟩=some (.int .i64 ((k:Nat) : Int))) fun d b=>?_
 have c:=ub b hB
 refine bg ⟨(ag c rfl),(ag c rfl)⟩ fun a=>Rt 0 a<|Rt 1 a<|Rt 2 a<|Rl 3 a (fun _ hs=>hs.1)<|Rt 4 a<|Rt 5 a<|Rt 6 a<|Rt 7 a<|Rl 8 a (fun _ hs=>hs.2)<|Rr 9 a (.int .i64 (((full.length:Nat) : Int)-((k:Nat) : Int))) (fun _ _=>cg (.int .i64 (IntKind.i64.wrap (((full.length:Nat) : Int)-((k:Nat) : Int)))) (by kernel_rfl) (congrArg (Value.int .i64) (IntWalk.i64_in _ (by omega))))<|Rt 10 a<|re<|tn<|?_
 refine rt<|rr (.int .i64 (((full.length:Nat) : Int)-((k:Nat) : Int)))<|?_
 rw[wq hk hl]
 exact⟨rfl,b⟩
theorem eh{w0:World}{m:Md}{A:Option Addr}{cp:Nat}{full:List Int}{w:World}{g:Nat}{C:ah}(hC:RC w0 m A cp full w g C) :
    Calls Tryz.prog 157 #[.pointer (some ⟨g,0,none⟩)] w (wz w0 m A cp full g C.endC w):=by
 refine en 7 Tryz.func157 rfl<|go<|Pl 2<|L0<|Oc<|m1 (i7 hC) fun e a=>?_
 have b:=RC.upd hC a ay (aD.step (RC.u hC) a)
 refine Pl 1<|L0<|Oc<|m2 (aY ((((C.l.length:Nat) : Int)==0)) 3 b) fun f c d=>nl<|rm (.tuple #[])<|?_
 exact⟨rfl,c,(u1 (aD.mono (S':=[g]) a au) d im)⟩
theorem RC.clen{w0:World}{m:Md}{A:Option Addr}{cp:Nat}{full:List Int}{w:World}{g:Nat}{C:ah}(h:RC w0 m A cp full w g C) : C.l.length≤1048576:=by
  obtain⟨k,_,_,h2⟩:=h.cell
  have:=h.len
  rw[h2,List.length_drop]
  omega
theorem rZ{C:ah}(h:((((C.bytesR 1).length:Nat) : Int)==0)=true) : C.byteV=0:=by
  have hz:C.bytesR 1=[]:=List.eq_nil_of_length_eq_zero (by have:=al h;omega)
  unfold ah.byteV
  rw[hz]
  rfl
def p6 (w0:World)(m:Md)(A:Option Addr)(cp:Nat)(full:List Int)(g:Nat)(q:IntKind)(M x:Int)(C:ah)(w:World)(e:Ending)(w':World) : Prop:=e = .returned (.int q x)∧RC w0 m A cp full w' g C∧aD [g] w w'∧0≤x∧x<M
theorem dU{w0:World}{m:Md}{A:Option Addr}{cp:Nat}{full:List Int}{w:World}{g:Nat}{C:ah}(hC:RC w0 m A cp full w g C) :
    Calls Tryz.prog 151 #[.pointer (some ⟨g,0,none⟩)] w (p6 w0 m A cp full g .u8 256 C.byteV (C.bytesC 1) w):=by
 refine en 12 Tryz.func151 rfl<|sg<|Pl 1<|ng<|Pl 1<|L0<|Oc<|oO (fu (n:=1) (by omega) hC) fun k l o d b c=>?_
 have q:=Nat.le_trans (ah.bytesR_le C 1) (RC.clen hC)
 refine Pl 1<|nt<|sq<|sg<|Pl 3<|nt<|cb (((((C.bytesR 1).length:Nat) : Int)==0)) (fun a=>?_) (fun a=>?_)
 have e:=al a
 refine sg<|Pl 1<|nt<|rt<|tr<|rr (.int .u8 0)<|?_
 exact⟨by rw[rZ a],b,c,lQ (RC.rng hC)⟩
 have e:=ap a
 refine bi<|sg<|Pl 1<|eJ (aT.at_ (d _ _ (RC.rd b)) 0 (by omega)) fun f h i j r=>L0<|iZ ((C.bytesR 1).length) 0 i (by omega)<|L0<|dY (p:=⟨f,h+0,none⟩) (v:=.int .u8 ((C.bytesR 1).getD 0 0)) j<|Pl 1<|nt<|rt<|rr (.int .u8 ((C.bytesR 1).getD 0 0))<|?_
 exact⟨rfl,b,c,lQ (RC.rng hC)⟩
theorem s6{C:ah}{full:List Int}{k:Nat}{n:Int}(hk:k≤full.length)(hl:C.l=full.drop k)(h:(decide (n<0)||decide (((full.length:Nat) : Int)<n))=true) : C.wordsR n=cG (C.bytesR (-1))∧C.wordsC n=C.bytesC (-1):=by
  have hb:C.wbad n=true:=by
    unfold ah.wbad
    simp only[Bool.or_eq_true,decide_eq_true_eq] at h ⊢
    rw[hl,List.length_drop]
    omega
  have hf:C.fails (-1)=true:=by
    unfold ah.fails
    simp
  constructor
  · unfold ah.wordsR ah.bytesR
    rw[hb,hf]
    rfl
  · unfold ah.wordsC
    rw[hb]
    rfl
theorem tQ{C:ah}{full:List Int}{k:Nat}{n:Int}(hk:k≤full.length)(hl:C.l=full.drop k)(h:(decide (n<0)||decide (((full.length:Nat) : Int)<n))=false) : C.wordsR n=cG (C.bytesR (n+n))∧C.wordsC n=C.bytesC (n+n):=by
  simp only[Bool.or_eq_false_iff,decide_eq_false_iff_not] at h
  by_cases hw:((C.l.length:Int)<n)
  · have hb:C.wbad n=true:=by
      unfold ah.wbad
      simp only[Bool.or_eq_true,decide_eq_true_eq]
      omega
    have hf:C.fails (-1)=true:=by
      unfold ah.fails
      simp
    have hf2:C.fails (n+n)=true:=by
      unfold ah.fails
      simp only[Bool.or_eq_true,decide_eq_true_eq]
      omega
    constructor
    · unfold ah.wordsR ah.bytesR
      rw[hb,hf2]
      rfl
    · unfold ah.wordsC
      rw[hb]
      unfold ah.bytesC
      rw[hf2,hf]
      rfl
  · have hb:C.wbad n=false:=by
      unfold ah.wbad
      simp only[Bool.or_eq_false_iff,decide_eq_false_iff_not]
      omega
    constructor
    · unfold ah.wordsR
      rw[hb,show 2*n=n+n by omega]
      rfl
    · unfold ah.wordsC
      rw[hb,show 2*n=n+n by omega]
      rfl
def vE (w0:World)(m:Md)(A:Option Addr)(cp:Nat)(full:List Int)(g:Nat)(C:ah)(n:Int)(w:World)(e:Ending)(w':World) : Prop:=∃ v,e = .returned v∧jy w.heap.size w' v (C.wordsR n)∧RC w0 m A cp full w' g (C.wordsC n)∧aD [g] w w'
theorem fK{w0:World}{m:Md}{A:Option Addr}{cp:Nat}{full:List Int}{w:World}{g:Nat}{C:ah}{n:Int}(hn : -1048576≤n∧n≤1048576)(hC:RC w0 m A cp full w g C) :
    Calls Tryz.prog 158 #[.pointer (some ⟨g,0,none⟩),.int .i64 n] w (vE w0 m A cp full g C n w):=by
 have hC0:=hC
 obtain⟨hsrc,hU,hnew,⟨k,hB,hk,hl⟩,hlen⟩:=hC0
 refine en 25 Tryz.func158 rfl<|sg<|Pl 1<|nt<|sq<|sg<|Pl 3<|cu 8 [7] 15 (((decide (n<0))||(decide (((full.length:Nat) : Int)<n)))) (fun K h=>?_) ?_
 refine bl 7 ((decide (n<0))) (fun a=>?_) (fun a=>?_)
 have l:=of_decide_eq_true a
 exact Pl 8<|ce h true (by rw[a];rfl)
 have l:=of_decide_eq_false a
 exact Pl 4<|L1<|aU hB 0<|Pl 3<|ce h (decide (((full.length:Nat) : Int)<n)) (by rw[a];rfl)
 refine nt<|cb (((decide (n<0))||(decide (((full.length:Nat) : Int)<n)))) (fun b=>?_) (fun b=>?_)
 refine sg<|Pl 1<|?_
 have o:=RC.upd hC (aD.refl [] _) ay (aD.step hC.u (aD.refl [] _))
 refine L0<|Oc<|oO (fu (n:=-1) (by omega) o) fun E F G p c i=>?_
 have H:=Nat.le_trans (ah.bytesR_le C (-1)) (RC.clen hC)
 refine L0<|Oc<|ej (wG (p _ _ (RC.rd c)) (by omega)) fun q r I s J L d=>Pl 1<|nt<|rt<|tr<|rr (.slice q ((cG (C.bytesR (-1))).length) r)<|?_
 have hw:=s6 hk hl b
 exact⟨_,rfl,by rw[hw.1];exact(be.weaken s i.size),by rw[hw.2];exact(RC.upd c d ay (aD.step (RC.u c) d)),(aF i d)⟩
 have t:=(aJ b).1
 have v:=(aJ b).2
 have M:=of_decide_eq_false t
 have N:=of_decide_eq_false v
 refine bi<|sg<|Pl 3<|L0<|Oi (n+n)<|?_
 have x:=RC.upd hC (aD.refl [] _) ay (aD.step hC.u (aD.refl [] _))
 refine L0<|Oc<|oO (fu (n:=(n+n)) (by omega) x) fun O P Q y e j=>?_
 have R:=Nat.le_trans (ah.bytesR_le C (n+n)) (RC.clen hC)
 refine L0<|Oc<|ej (wG (y _ _ (RC.rd e)) (by omega)) fun z B S D T U f=>Pl 1<|nt<|rt<|rr (.slice z ((cG (C.bytesR (n+n))).length) B)<|?_
 have hw:=tQ hk hl b
 exact⟨_,rfl,by rw[hw.1];exact(be.weaken D j.size),by rw[hw.2];exact(RC.upd e f ay (aD.step (RC.u e) f)),(aF j f)⟩
theorem sb{C:ah}(h:((((C.wordsR 1).length:Nat) : Int)==0)=true) : C.wordV=0:=by
  have hz:C.wordsR 1=[]:=List.eq_nil_of_length_eq_zero (by have:=al h;omega)
  unfold ah.wordV
  rw[hz]
  rfl
theorem cV{w0:World}{m:Md}{A:Option Addr}{cp:Nat}{full:List Int}{w:World}{g:Nat}{C:ah}(hC:RC w0 m A cp full w g C) :
    Calls Tryz.prog 154 #[.pointer (some ⟨g,0,none⟩)] w (p6 w0 m A cp full g .u16 65536 C.wordV (C.wordsC 1) w):=by
 refine en 12 Tryz.func154 rfl<|sg<|Pl 1<|ng<|Pl 1<|L0<|Oc<|mF (fK (n:=1) (by omega) hC) fun k l o d q r b c=>Pl 1<|nt<|sq<|?_
 refine sg<|Pl 3<|nt<|cb (((((C.wordsR 1).length:Nat) : Int)==0)) (fun a=>?_) (fun a=>?_)
 have e:=al a
 refine sg<|Pl 1<|nt<|rt<|tr<|rr (.int .u16 0)<|?_
 exact⟨by rw[sb a],b,c,bU (RC.rng hC)⟩
 have e:=ap a
 refine bi<|sg<|Pl 1<|eJ (e8.at_ (d).rd 0 (by omega)) fun f h i j s=>L0<|iZ ((C.wordsR 1).length) 0 i (by omega)<|L0<|dY (p:=⟨f,h+0,none⟩) (v:=.int .u16 ((C.wordsR 1).getD 0 0)) j<|Pl 1<|nt<|rt<|rr (.int .u16 ((C.wordsR 1).getD 0 0))<|?_
 exact⟨rfl,b,c,bU (RC.rng hC)⟩
theorem fw{w0:World}{m:Md}{A:Option Addr}{cp:Nat}{full:List Int}{w:World}{g:Nat}{C:ah}{G:Prop}(h:RC w0 m A cp full w g C)(k:∀ x,C=x→RC w0 m A cp full w g x→G) : G:=k C rfl h
open Go.RowKit
theorem s5{x:Int}(hx:0≤x∧x<65536) : eg x=((decide (x≤4)||(decide (10≤x)&&decide (x≤18)))||x==20):=by
  unfold eg
  rw[Bool.eq_iff_iff]
  simp only[decide_eq_true_eq,List.mem_cons,List.not_mem_nil,or_false,Bool.or_eq_true,Bool.and_eq_true,beq_iff_eq]
  omega
theorem kX{x:Int}(hx:0≤x∧x<256) : di x=((((decide (1≤x)&&decide (x≤6))||x==8)||x==10)||x==11):=by
  unfold di
  rw[Bool.eq_iff_iff]
  simp only[decide_eq_true_eq,List.mem_cons,List.not_mem_nil,or_false,Bool.or_eq_true,Bool.and_eq_true,beq_iff_eq]
  omega
theorem yd{x:Int}{w:World}(hx:0≤x∧x<65536) : Calls Tryz.prog 160 #[.int .u16 x] w (bP (.bool (eg x)) w):=by
 refine en 17 Tryz.func160 rfl<|sg<|Pl 1<|ng<|Pl 3<|cu 7 [5] 12 (((decide (x≤4))||((decide (10≤x))&&(decide (x≤18))))) (fun K d=>?_) ?_
 refine bl 5 ((decide (x≤4))) (fun a=>?_) (fun a=>?_)
 have g:=of_decide_eq_true a
 exact Pl 7<|ce d true (by rw[a];rfl)
 have g:=of_decide_eq_false a
 refine Pl 3<|cu 3 [8] 11 (((decide (10≤x))&&(decide (x≤18)))) (fun K e=>?_) ?_
 refine bl 8 ((decide (10≤x))) (fun b=>?_) (fun b=>?_)
 have h:=of_decide_eq_true b
 exact Pl 3<|ce e (decide (x≤18)) (by rw[b];rfl)
 have h:=of_decide_eq_false b
 exact Pl 3<|ce e false (by rw[b];rfl)
 exact Pl 1<|ce d ((decide (10≤x))&&(decide (x≤18))) (by rw[a];rfl)
 refine Pl 1<|cu 3 [13] 16 ((((decide (x≤4))||((decide (10≤x))&&(decide (x≤18))))||(x==20))) (fun K f=>?_) ?_
 refine bl 13 (((decide (x≤4))||((decide (10≤x))&&(decide (x≤18))))) (fun c=>?_) (fun c=>?_)
 exact Pl 3<|ce f true (by rw[c];rfl)
 have i:=(aJ c).1
 have j:=(aJ c).2
 have k:=of_decide_eq_false i
 exact Pl 3<|ce f (x==20) (by rw[c];rfl)
 refine Pl 1<|nt<|rt<|rr (.bool (((decide (x≤4))||((decide (10≤x))&&(decide (x≤18))))||(x==20)))<|?_
 rw[s5 hx]
 have hs:((decide (x≤4)||(decide (10≤x)&&decide (x≤18)))||x==20)=(((decide (x≤4))||((decide (10≤x))&&(decide (x≤18))))||(x==20)):=by(try simp only[Bool.true_or,Bool.false_or,Bool.true_and,Bool.false_and,Bool.or_true,Bool.or_false]);all_goals rfl
 rw[hs]
 exact⟨rfl,(aD.refl [] _)⟩
theorem tt{x:Int}{w:World}(hx:0≤x∧x<256) : Calls Tryz.prog 149 #[.int .u8 x] w (bP (.bool (di x)) w):=by
 refine en 21 Tryz.func149 rfl<|sg<|Pl 1<|ng<|Pl 3<|cu 3 [5] 8 (((decide (1≤x))&&(decide (x≤6)))) (fun K e=>?_) ?_
 refine bl 5 ((decide (1≤x))) (fun a=>?_) (fun a=>?_)
 have j:=of_decide_eq_true a
 exact Pl 3<|ce e (decide (x≤6)) (by rw[a];rfl)
 have j:=of_decide_eq_false a
 exact Pl 3<|ce e false (by rw[a];rfl)
 refine Pl 1<|cu 3 [9] 12 ((((decide (1≤x))&&(decide (x≤6)))||(x==8))) (fun K f=>?_) ?_
 refine bl 9 (((decide (1≤x))&&(decide (x≤6)))) (fun b=>?_) (fun b=>?_)
 have k:=(aR b).1
 have l:=(aR b).2
 have p:=of_decide_eq_true k
 have q:=of_decide_eq_true l
 exact Pl 3<|ce f true (by rw[b];rfl)
 exact Pl 3<|ce f (x==8) (by rw[b];rfl)
 refine Pl 1<|cu 3 [13] 16 (((((decide (1≤x))&&(decide (x≤6)))||(x==8))||(x==10))) (fun K g=>?_) ?_
 refine bl 13 ((((decide (1≤x))&&(decide (x≤6)))||(x==8))) (fun c=>?_) (fun c=>?_)
 exact Pl 3<|ce g true (by rw[c];rfl)
 have r:=(aJ c).1
 have m:=(aJ c).2
 have s:=ap m
 exact Pl 3<|ce g (x==10) (by rw[c];rfl)
 refine Pl 1<|cu 3 [17] 20 ((((((decide (1≤x))&&(decide (x≤6)))||(x==8))||(x==10))||(x==11))) (fun K h=>?_) ?_
 refine bl 17 (((((decide (1≤x))&&(decide (x≤6)))||(x==8))||(x==10))) (fun d=>?_) (fun d=>?_)
 exact Pl 3<|ce h true (by rw[d];rfl)
 have i:=(aJ d).1
 have n:=(aJ d).2
 have t:=(aJ i).1
 have o:=(aJ i).2
 have q16abp:=ap o
 have u:=ap n
 exact Pl 3<|ce h (x==11) (by rw[d];rfl)
 refine Pl 1<|nt<|rt<|rr (.bool (((((decide (1≤x))&&(decide (x≤6)))||(x==8))||(x==10))||(x==11)))<|?_
 rw[kX hx]
 have hs:((((decide (1≤x)&&decide (x≤6))||x==8)||x==10)||x==11)=(((((decide (1≤x))&&(decide (x≤6)))||(x==8))||(x==10))||(x==11)):=by(try simp only[Bool.true_or,Bool.false_or,Bool.true_and,Bool.false_and,Bool.or_true,Bool.or_false]);all_goals rfl
 rw[hs]
 exact⟨rfl,(aD.refl [] _)⟩
theorem hG{dir sub v:Int}:f7 dir sub v=if sub==1 then (v==0 || v==65280) else if sub==3 then v%256==0 else if dir==1&&(sub==2 || (decide (11≤sub)&&decide (sub≤18))) then true else v==0:=by
  unfold f7
  by_cases h1:sub=1
  · subst h1
    rfl
  by_cases h3:sub=3
  · subst h3
    rfl
  have e1:(sub==1)=false:=by simpa using h1
  have e3:(sub==3)=false:=by simpa using h3
  rw[e1,e3,Bool.and_comm]
  rfl
theorem xS{dir sub v:Int}{w:World}(hv:0≤v∧v<65536) : Calls Tryz.prog 162 #[.int .i64 dir,.int .u16 sub,.int .u16 v] w (bP (.bool (f7 dir sub v)) w):=by
 refine en 39 Tryz.func162 rfl<|sg<|Pl 1<|nt<|sq<|bk<|sg<|Pl 3<|nt<|cb ((sub==1)) (fun a=>?_) (fun a=>?_)
 have m:=al a
 refine sg<|Pl 3<|cu 3 [12] 15 (((v==0)||(v==65280))) (fun K h=>?_) ?_
 refine bl 12 ((v==0)) (fun c=>?_) (fun c=>?_)
 have n:=al c
 exact Pl 3<|ce h true (by rw[c];rfl)
 have n:=ap c
 exact Pl 3<|ce h (v==65280) (by rw[c];rfl)
 refine Pl 1<|nt<|rt<|br<|tr<|rr (.bool ((v==0)||(v==65280)))<|?_
 have hs:f7 dir sub v=((v==0)||(v==65280)):=by
   rw[hG]
   (try simp only[a,bs,if_true,if_false,decide_true,decide_false,reduceIte])
   all_goals rfl
 rw[hs]
 exact⟨rfl,(aD.refl [] _)⟩
 have m:=ap a
 refine sg<|Pl 3<|nt<|cb ((sub==3)) (fun b=>?_) (fun b=>?_)
 have o:=al b
 refine sg<|Pl 1<|L0<|Oe (.int .u16 (Int.tmod v 256)) (.int .u16 (v%256)) (congrArg (Value.int .u16) (Int.tmod_eq_emod_of_nonneg (by omega)))<|Pl 2<|nt<|rt<|br<|tr<|rr (.bool ((v%256)==0))<|?_
 have hs:f7 dir sub v=((v%256)==0):=by
   rw[hG]
   (try simp only[a,b,bs,if_true,if_false,decide_true,decide_false,reduceIte])
   all_goals rfl
 rw[hs]
 exact⟨rfl,(aD.refl [] _)⟩
 have o:=ap b
 refine sg<|Pl 3<|cu 11 [25] 36 (((dir==1)&&((sub==2)||((decide (11≤sub))&&(decide (sub≤18)))))) (fun K i=>?_) ?_
 refine bl 25 ((dir==1)) (fun d=>?_) (fun d=>?_)
 have p:=al d
 refine Pl 3<|cu 7 [28] 35 (((sub==2)||((decide (11≤sub))&&(decide (sub≤18))))) (fun K j=>?_) ?_
 refine bl 28 ((sub==2)) (fun e=>?_) (fun e=>?_)
 have q:=al e
 exact Pl 7<|ce j true (by rw[e];rfl)
 have q:=ap e
 refine Pl 3<|cu 3 [31] 34 (((decide (11≤sub))&&(decide (sub≤18)))) (fun K k=>?_) ?_
 refine bl 31 ((decide (11≤sub))) (fun f=>?_) (fun f=>?_)
 have r:=of_decide_eq_true f
 exact Pl 3<|ce k (decide (sub≤18)) (by rw[f];rfl)
 have r:=of_decide_eq_false f
 exact Pl 3<|ce k false (by rw[f];rfl)
 exact Pl 1<|ce j ((decide (11≤sub))&&(decide (sub≤18))) (by rw[e];rfl)
 exact Pl 1<|ce i ((sub==2)||((decide (11≤sub))&&(decide (sub≤18)))) (by rw[d];rfl)
 have p:=ap d
 exact Pl 11<|ce i false (by rw[d];rfl)
 refine Pl 1<|nt<|cb (((dir==1)&&((sub==2)||((decide (11≤sub))&&(decide (sub≤18)))))) (fun g=>?_) (fun g=>?_)
 have l:=(aR g).1
 have s:=(aR g).2
 have t:=al l
 refine sg<|Pl 1<|nt<|rt<|br<|tr<|rr (.bool true)<|?_
 have hs:f7 dir sub v=true:=by
   rw[hG]
   (try simp only[a,b,g,l,s,bs,if_true,if_false,decide_true,decide_false,reduceIte])
   all_goals rfl
 rw[hs]
 exact⟨rfl,(aD.refl [] _)⟩
 refine sk<|bn<|tn<|sg<|Pl 3<|nt<|rt<|rr (.bool (v==0))<|?_
 have hs:f7 dir sub v=(v==0):=by
   rw[hG]
   (try simp only[a,b,g,bs,if_true,if_false,decide_true,decide_false,reduceIte])
   all_goals rfl
 rw[hs]
 exact⟨rfl,(aD.refl [] _)⟩
open Go.RowKit
theorem RC.lt{w0:World}{m:Md}{A:Option Addr}{cp:Nat}{full:List Int}{w:World}{g:Nat}{C:ah}(h:RC w0 m A cp full w g C) : g<w.heap.size:=by
  obtain⟨k,h1,_⟩:=h.cell
  exact am h1
theorem RC.fld{w0:World}{m:Md}{A:Option Addr}{cp:Nat}{full:List Int}{w:World}{g:Nat}{C:ah}(h:RC w0 m A cp full w g C) : w.cell? ⟨g,3,none⟩=some (.int .i64 C.e):=by
  obtain⟨k,h1,_⟩:=h.cell
  rw[bv h1]
  rfl
theorem o0{c:Int}{C:ah}(h:(((c==3)||(c==4))||(c==23))=true) : aI 1 c C=some (bQ c C):=by
  unfold aI
  by_cases h1:(c==3 || c==4)=true
  · rw[if_pos h1]
    rfl
  · rw[if_neg h1]
    have h2:c=23:=by
      simp only[Bool.or_eq_true,beq_iff_eq] at h h1
      omega
    subst h2
    rfl
theorem jD{n m:Int}:((n%2==0&&decide (0<n))&&decide (n≤m))=j7 n m:=by
  unfold j7
  rw[Bool.eq_iff_iff]
  simp only[Bool.and_eq_true,decide_eq_true_eq,beq_iff_eq]
  omega
theorem jz{a k:Int}:(a==2*k+2)=(2+2*k==a):=by
  rw[Bool.eq_iff_iff]
  simp only[beq_iff_eq]
  omega
theorem du{x:Int}:decide (0<x)=decide (1≤x):=by
  rw[Bool.eq_iff_iff]
  simp only[decide_eq_true_eq]
  omega
theorem ki{w0:World}{m:Md}{A:Option Addr}{cp:Nat}{full:List Int}{w:World}{g:Nat}{C:ah}{a most:Int}(ha:0≤a∧a<65536)(hC:RC w0 m A cp full w g C) :
    Calls Tryz.prog 159 #[.pointer (some ⟨g,0,none⟩),.int .u16 a,.int .i64 most] w (p6 w0 m A cp full g .i64 65536 C.wordV (bK C a most) w):=by
 have hrng:=bU (RC.rng hC)
 refine en 26 Tryz.func159 rfl<|sg<|Pl 1<|ng<|Pl 1<|L0<|Oc<|m3 (cV hC) fun r f h s=>L0<|Oi C.wordV<|Pl 1<|nt<|?_
 refine sg<|Pl 4<|cu 4 [14] 18 (((decide (0<C.wordV))&&(decide (C.wordV≤most)))) (fun K d=>?_) ?_
 refine bl 14 ((decide (0<C.wordV))) (fun b=>?_) (fun b=>?_)
 have i:=of_decide_eq_true b
 exact Pl 4<|ce d (decide (C.wordV≤most)) (by rw[b];rfl)
 have i:=of_decide_eq_false b
 exact Pl 4<|ce d false (by rw[b];rfl)
 refine L0<|Oc<|m2 (aY (((decide (0<C.wordV))&&(decide (C.wordV≤most)))) 5 f) fun j k l=>?_
 refine fw k fun x19 o e=>?_
 refine ng<|Pl 3<|L0<|Oc<|m1 (qy (a:=a) (n:=C.wordV) (w:=j) (by omega) (by omega)) fun t c=>?_
 refine L0<|Oc<|m2 (aY ((dp a C.wordV)) 7 (RC.upd e c ay (aD.step (RC.u e) c))) fun v p q=>ng<|Pl 2<|nt<|rt<|rr (.int .i64 C.wordV)<|?_
 subst o
 have e1:bK C a most=((C.wordsC 1).need (decide (0<C.wordV)&&decide (C.wordV≤most)) 5).need (dp a C.wordV) 7:=by unfold bK;rw[← du]
 rw[e1]
 exact⟨rfl,p,(u1 h (u1 l (uz c q) im) im),hrng⟩
theorem aK.upd0{α:Type}{m:Md}{e:TypeId}{sz:Nat}{R R':World→α→List Value→Prop}{w:World}{v:Value}{xs:List α}(h:aK m e sz R w v xs)(hR:∀ x cs,R w x cs→R' w x cs) : aK m e sz R' w v xs:=by
  obtain⟨A,c,rfl,h1,h2,h0,h3⟩:=h
  refine⟨A,c,rfl,h1,h2,h0,fun hp=>?_⟩
  obtain⟨b,off,cells,t,fr,rfl,hb,ht,hx⟩:=h3 hp
  exact⟨b,off,cells,t,fr,rfl,hb,ht,fun j x hj=>by obtain⟨cs,hl,hr,hc⟩:=hx j x hj;exact⟨cs,hl,hR _ _ hr,hc⟩⟩
def oo (v0:Value)(b:List Int)(w:World)(o:Obj)(cs:List Value) : Prop:=∃ A n c,cs=[.int .u8 o.id,.slice A n c]∧(∀ m' w',aT m' w' v0 b→aT m' w' (.slice A n c) o.value)∧B8 o.id
theorem oo.ones{v0:Value}{b:List Int}{w:World}(x:Obj)(cs:List Value)(h:oo v0 b w x cs) : ∀ v,v∈cs→v.oneCell'=true:=by
  obtain⟨A,n,c,rfl,h2,_⟩:=h
  intro u hu
  simp at hu
  rcases hu with rfl|rfl<;>rfl
def cP (v0:Value)(b:List Int)(w:World)(cs:List Value)(M:aQ) : Prop :=
  ∃ vw vb vd vr vo,cs=bM M vw vb vd vr vo∧e8 true w vw M.words∧gI true w vb M.bits∧(∀ m' w',aT m' w' v0 b→aT m' w' vd M.data)∧mr true w vr M.recs∧aK true 111 2 (oo v0 b) w vo M.objects∧fq M
theorem cP.rd{v0:Value}{b:List Int}{m:Md}{w:World}{cs:List Value}{M:aQ}(h:cP v0 b w cs M)(hb:aT m w v0 b) : aL false w cs M:=by
  obtain⟨vw,vb,vd,vr,vo,h0,h1,h2,h3,h4,h5,h6⟩:=h
  exact⟨vw,vb,vd,vr,vo,h0,aK.any h1 fun _ _ q=>q,aK.any h2 fun _ _ q=>q,aK.any (h3 _ _ hb) fun _ _ q=>q,aK.any h4 fun r cs ⟨v,a,b,c⟩=>⟨v,a,aK.any b fun _ _ q=>q,c⟩,aK.any h5 fun r cs ⟨A,n,k,a,b,c⟩=>⟨_,a,aK.any (b _ _ hb) fun _ _ q=>q,c⟩,h6⟩
theorem cP.rdt{v0:Value}{b:List Int}{w:World}{cs:List Value}{M:aQ}(h:cP v0 b w cs M)(hb:aT true w v0 b) : aL true w cs M:=by
  obtain⟨vw,vb,vd,vr,vo,h0,h1,h2,h3,h4,h5,h6⟩:=h
  exact⟨vw,vb,vd,vr,vo,h0,h1,h2,h3 _ _ hb,h4,aK.upd0 h5 fun r cs ⟨A,n,k,a,b,c⟩=>⟨_,a,b _ _ hb,c⟩,h6⟩
theorem cP.sub{v0 v1:Value}{b b1:List Int}{w:World}{cs:List Value}{M:aQ}(h:cP v1 b1 w cs M)(hv:∀ m' w',aT m' w' v0 b→aT m' w' v1 b1) : cP v0 b w cs M:=by
  obtain⟨vw,vb,vd,vr,vo,h0,h1,h2,h3,h4,h5,h6⟩:=h
  exact⟨vw,vb,vd,vr,vo,h0,h1,h2,fun m' w' q=>h3 _ _ (hv _ _ q),h4,aK.upd0 h5 fun r cs ⟨A,n,k,a,b,c⟩=>⟨A,n,k,a,fun m' w' q=>b _ _ (hv _ _ q),c⟩,h6⟩
theorem cP.upd{v0:Value}{b:List Int}{w w':World}{cs:List Value}{M:aQ}{S:List Nat}(h:cP v0 b w cs M)(hu:aD S w w')(hs:db true mg S w) : cP v0 b w' cs M:=by
  obtain⟨vw,vb,vd,vr,vo,h0,h1,h2,h3,h4,h5,h6⟩:=h
  exact⟨vw,vb,vd,vr,vo,h0,e8.upd' h1 hu (hs.sub (by decide)),gI.upd' h2 hu (hs.sub (by decide)),h3,mr.upd' h4 hu hs,aK.upd h5 hu (hs.sub (by decide)) (fun _ _ q=>q),h6⟩
theorem cP.zero(v0:Value)(b:List Int)(w:World) : cP v0 b w lc.toList aQ.zero:=by
  obtain⟨vw,vb,vd,vr,vo,h0,h1,h2,h3,h4,h5,h6⟩:=aL.zero true w
  exact⟨_,_,_,_,_,rfl,aK.nil ..,aK.nil ..,(fun _ _ _=>aK.nil ..),aK.nil ..,aK.nil ..,h6⟩
theorem cP.size{v0:Value}{b:List Int}{w:World}{cs:Array Value}{M:aQ}(h:cP v0 b w cs.toList M) : cs.size=22:=by
  obtain⟨vw,vb,vd,vr,vo,h0,_⟩:=h
  rw[← Array.length_toList,h0]
  rfl
theorem cP.one{v0:Value}{b:List Int}{w w2:World}{m:Md}{cs:Array Value}{M:aQ}(h:cP v0 b w cs.toList M)(hb:aT m w2 v0 b) : cs.all (·.oneCell')=true:=by
  obtain⟨vw,vb,vd,vr,vo,h0,h1,h2,h3,h4,h5,h6⟩:=h
  rw[← Array.all_toList,h0]
  obtain⟨_,_,rfl,_⟩:=h1
  obtain⟨_,_,rfl,_⟩:=h2
  obtain⟨_,_,rfl,_⟩:=h3 _ _ hb
  obtain⟨_,_,rfl,_⟩:=h4
  obtain⟨_,_,rfl,_⟩:=h5
  rfl
def dk (v0:Value)(b:List Int)(res:aQ × Int)(w:World)(e:Ending)(w':World) : Prop:=∃ cs,e = .returned (.tuple #[.agg cs,.int .i64 res.2])∧cP v0 b w' cs.toList res.1∧aD [] w w'
theorem bo{v0:Value}{b:List Int}{M:aQ}{c:ah}{w W:World}{cs:Array Value}(h0:c.endC.e=0)(h:cP v0 b W cs.toList M)(hu:aD [] w W) : dk v0 b (aH M c) w (.returned (.tuple #[.agg cs,.int .i64 0])) W:=by
  unfold aH
  rw[if_pos h0]
  exact⟨cs,rfl,h,hu⟩
theorem bh{v0:Value}{b:List Int}{M:aQ}{c:ah}{w W:World}(h0:¬ c.endC.e=0)(hu:aD [] w W) : dk v0 b (aH M c) w (.returned (.tuple #[.agg lc,.int .i64 c.endC.e])) W:=by
  unfold aH
  rw[if_neg h0]
  exact⟨lc,rfl,cP.zero ..,hu⟩
theorem bu{v0:Value}{b:List Int}{x:Int}{w W:World}(hu:aD [] w W) : dk v0 b (aQ.zero,x) w (.returned (.tuple #[.agg lc,.int .i64 x])) W:=⟨lc,rfl,cP.zero ..,hu⟩
theorem l6{m:Md}{A:Option Addr}{cp:Nat}{b:List Int}{w:World}{c:Int}(hcode:B8 c)(hsl:aT m w (.slice A b.length cp) b)(hb:b.length≤1048576) :
    Calls Tryz.prog 94 #[.int .i64 0,.int .u8 c,.slice A b.length cp] w (dk (.slice A b.length cp) b (ae aI 0 c b) w):=by
 obtain⟨hcode1,hcode2⟩:=hcode
 have hln:(b.length:Int)≤1048576:=by omega
 refine en 221 Tryz.func94 rfl<|sg<|L0<|bE mZ fun eH eI t k f=>Pl 1<|nt<|sq<|sg<|Pl 6<|nt<|c0<|?_
 refine bi<|sg<|Pl 2<|L0<|dq #[.slice A b.length cp,.int .i64 0,.bool false,.int .i64 0] fun l eJ d o i=>Pl 1<|ng<|Pl 2<|L0<|bE mZ fun eK eL g a8 H=>L0<|aW a8 (mC c) fun a6 a7 y=>?_
 refine nt<|sq<|bk<|sg<|Pl 15<|nt<|c0<|sg<|Pl 3<|cu 3 [68] 71 (((c==3)||(c==4))) (fun K bP=>?_) ?_
 refine bl 68 ((c==3)) (fun a9=>?_) (fun a9=>?_)
 have dr:=al a9
 exact Pl 3<|ce bP true (by rw[a9];rfl)
 have dr:=ap a9
 exact Pl 3<|ce bP (c==4) (by rw[a9];rfl)
 refine Pl 1<|nt<|?_
 have a0:=ud H y g
 have r:=aF i a0
 have z:=aF f r
 refine cb (((c==3)||(c==4))) (fun q=>?_) (fun q=>?_)
 refine sg<|Pl 1<|?_
 have ds:RC w _ A cp b a6 l (ah.mk b false 0):=⟨hsl,z,(Nat.le_trans f.size d),⟨0,(ub a0 o),Nat.zero_le _,rfl⟩,by omega⟩
 refine L0<|Oc<|m3 (cV ds) fun eM dt bR eN=>Pl 1<|?_
 have ab:=nb (am o) lr g
 refine L0<|bX (aX bR (Ne.symm ab) a7) 2 (mG c 0 ((ah.mk b false 0).wordV) 0 0 0 0 0 0 0 0 0 nS nS nS nS 0 0 0 0 0 nS) fun eO bS bT=>nt<|go<|Pl 2<|L0<|aU bS 2<|?_
 have b5:=us bR bT
 have bU:=ut z b5 (ac (ni f.size d) (ac (ni (le f.size i.size) g) au))
 refine L0<|Oc<|m3 (ki (a:=(ah.mk b false 0).wordV) (most:=125) (by omega) (RC.upd dt bT (aa ab ay) bU)) fun eP du bV eQ=>?_
 refine fw du fun x52 bW dv=>?_
 refine L0<|xo (((ah.mk b false 0).wordsC 1).wordV)<|Pl 1<|?_
 refine L0<|bX (aX bV (Ne.symm ab) bS) 3 (mG c 0 ((ah.mk b false 0).wordV) (((ah.mk b false 0).wordsC 1).wordV) 0 0 0 0 0 0 0 0 nS nS nS nS 0 0 0 0 0 nS) fun eR dw bY=>nl<|bn<|tn<|sg<|Pl 1<|?_
 have b6:=us bV bY
 have bZ:=ut bU b6 (ac (ni f.size d) (ac (ni (le f.size i.size) g) au))
 refine L0<|Oc<|m2 (eh (RC.upd dv bY (aa ab ay) bZ)) fun eS b7 aN=>nt<|sq<|sg<|Pl 3<|L0<|dY (p:=⟨l,3,none⟩) (v:=.int .i64 x52.endC.e) (RC.fld b7)<|Pl 1<|nt<|?_
 have c2:=ud bZ aN (le f.size d)
 refine cb ((x52.endC.e != 0)) (fun ad=>?_) (fun ad=>?_)
 have b9:=aq ad
 refine sq<|Rg 7 (fun w'=>w'.cell? ⟨l,3,none⟩=some (.int .i64 x52.endC.e)) fun eT aO=>?_
 have c3:=RC.upd b7 aO ay (aD.step (RC.u b7) aO)
 refine bg (RC.fld c3) fun af=>Rt 0 af<|Rt 1 af<|Rt 2 af<|Rt 3 af<|Rl 4 af (fun _ hs=>hs)<|?_
 refine R0 5 rfl<|aW (ub (ut r (ut b5 (u1 b6 (aF aN aO) im) (ac im (ac im au))) (ac (nr d) (ac (ni i.size g) au))) k) mZ fun eU dx c4=>?_
 have c5:=ud c2 (uz aO c4) t
 refine bg (RC.fld (RC.upd c3 c4 (aa (Ne.symm (nb (am k) lr d)) ay) c5)) fun dy=>Rt 6 dy<|re<|tn<|rt<|tr<|bz dx (.int .i64 x52.endC.e)<|?_
 have hs:ae aI 0 c b=aH (aQ.mk c 0 ((ah.mk b false 0).wordV) (((ah.mk b false 0).wordsC 1).wordV) 0 0 0 0 0 0 0 0 [] [] [] [] 0 0 0 0 0 []) x52:=by
   subst bW
   unfold ae aI bJ bQ d6 cI co cF cH i9
   (try simp only[q,ad,bs,if_true,if_false,decide_true,decide_false,eq_self,true_or,or_true,or_false,false_or,if_true,if_false,cl,cj,cm,ck,reduceIte,jD,jz])
   all_goals rfl
 rw[hs]
 exact bh b9 c5
 have b9:=ai ad
 refine bi<|sg<|?_
 refine L0<|ci (aX aN (Ne.symm ab) dw)<|?_
 refine L0<|aW (ub (ut r (ut b5 (u1 b6 aN im) (ac im (ac im au))) (ac (nr d) (ac (ni i.size g) au))) k) (mG c 0 ((ah.mk b false 0).wordV) (((ah.mk b false 0).wordsC 1).wordV) 0 0 0 0 0 0 0 0 nS nS nS nS 0 0 0 0 0 nS) fun eV dz dA=>Pl 1<|nt<|rt<|bz dz (.int .i64 0)<|?_
 have hs:ae aI 0 c b=aH (aQ.mk c 0 ((ah.mk b false 0).wordV) (((ah.mk b false 0).wordsC 1).wordV) 0 0 0 0 0 0 0 0 [] [] [] [] 0 0 0 0 0 []) x52:=by
   subst bW
   unfold ae aI bJ bQ d6 cI co cF cH i9
   (try simp only[q,ad,bs,if_true,if_false,decide_true,decide_false,eq_self,true_or,or_true,or_false,false_or,if_true,if_false,cl,cj,cm,ck,reduceIte,jD,jz])
   all_goals rfl
 rw[hs]
 exact bo b9 ⟨_,_,_,_,_,rfl,aK.nil ..,aK.nil ..,(fun _ _ _=>aK.nil ..),aK.nil ..,aK.nil ..,⟨(b8 (x:=c) (by omega)),(b8 (x:=0) (by omega)),(aB (x:=(ah.mk b false 0).wordV) (by omega)),(aB (x:=((ah.mk b false 0).wordsC 1).wordV) (by omega)),(aB (x:=0) (by omega)),(aB (x:=0) (by omega)),(aB (x:=0) (by omega)),(aB (x:=0) (by omega)),(aB (x:=0) (by omega)),(aB (x:=0) (by omega)),(aB (x:=0) (by omega)),(aB (x:=0) (by omega)),(b8 (x:=0) (by omega)),(b8 (x:=0) (by omega)),(b8 (x:=0) (by omega)),(b8 (x:=0) (by omega)),(b8 (x:=0) (by omega))⟩⟩ (ud c2 dA t)
 have B:=(aJ q).1
 have C:=(aJ q).2
 have eW:=ap B
 have eX:=ap C
 refine sg<|Pl 3<|nt<|cb ((c==6)) (fun s=>?_) (fun s=>?_)
 have dB:=al s
 refine sg<|Pl 1<|?_
 have dC:RC w _ A cp b a6 l (ah.mk b false 0):=⟨hsl,z,(Nat.le_trans f.size d),⟨0,(ub a0 o),Nat.zero_le _,rfl⟩,by omega⟩
 refine L0<|Oc<|m3 (cV dC) fun eY dD c6 eZ=>Pl 1<|?_
 have ag:=nb (am o) lr g
 refine L0<|bX (aX c6 (Ne.symm ag) a7) 2 (mG c 0 ((ah.mk b false 0).wordV) 0 0 0 0 0 0 0 0 0 nS nS nS nS 0 0 0 0 0 nS) fun f0 dE c7=>nt<|go<|Pl 1<|?_
 have ba:=us c6 c7
 have c8:=ut z ba (ac (ni f.size d) (ac (ni (le f.size i.size) g) au))
 refine L0<|Oc<|m3 (cV (RC.upd dD c7 (aa ag ay) c8)) fun f1 dF c9 f2=>Pl 1<|?_
 refine L0<|bX (aX c9 (Ne.symm ag) dE) 4 (mG c 0 ((ah.mk b false 0).wordV) 0 (((ah.mk b false 0).wordsC 1).wordV) 0 0 0 0 0 0 0 nS nS nS nS 0 0 0 0 0 nS) fun f3 dG ca=>nl<|bn<|tn<|sg<|Pl 1<|?_
 have bb:=us c9 ca
 have cc:=ut c8 bb (ac (ni f.size d) (ac (ni (le f.size i.size) g) au))
 refine L0<|Oc<|m2 (eh (RC.upd dF ca (aa ag ay) cc)) fun f4 bc aP=>nt<|sq<|sg<|Pl 3<|L0<|dY (p:=⟨l,3,none⟩) (v:=.int .i64 (((((ah.mk b false 0).wordsC 1).wordsC 1).endC).e)) (RC.fld bc)<|Pl 1<|nt<|?_
 have cd:=ud cc aP (le f.size d)
 refine cb (((((((ah.mk b false 0).wordsC 1).wordsC 1).endC).e)!=0)) (fun aj=>?_) (fun aj=>?_)
 have bd:=aq aj
 refine sq<|Rg 7 (fun w'=>w'.cell? ⟨l,3,none⟩=some (.int .i64 (((((ah.mk b false 0).wordsC 1).wordsC 1).endC).e))) fun f5 aR=>?_
 have cg:=RC.upd bc aR ay (aD.step (RC.u bc) aR)
 refine bg (RC.fld cg) fun ak=>Rt 0 ak<|Rt 1 ak<|Rt 2 ak<|Rt 3 ak<|Rl 4 ak (fun _ hs=>hs)<|?_
 refine R0 5 rfl<|aW (ub (ut r (ut ba (u1 bb (aF aP aR) im) (ac im (ac im au))) (ac (nr d) (ac (ni i.size g) au))) k) mZ fun f6 dH ch=>?_
 have cn:=ud cd (uz aR ch) t
 refine bg (RC.fld (RC.upd cg ch (aa (Ne.symm (nb (am k) lr d)) ay) cn)) fun dI=>Rt 6 dI<|re<|tn<|rt<|tr<|bz dH (.int .i64 (((((ah.mk b false 0).wordsC 1).wordsC 1).endC).e))<|?_
 have hs:ae aI 0 c b=aH (aQ.mk c 0 ((ah.mk b false 0).wordV) 0 (((ah.mk b false 0).wordsC 1).wordV) 0 0 0 0 0 0 0 [] [] [] [] 0 0 0 0 0 []) (((ah.mk b false 0).wordsC 1).wordsC 1):=by
   unfold ae aI bJ bQ d6 cI co cF cH i9
   (try simp only[q,B,C,s,aj,bs,if_true,if_false,decide_true,decide_false,eq_self,true_or,or_true,or_false,false_or,if_true,if_false,cl,cj,cm,ck,reduceIte,jD,jz])
   all_goals rfl
 rw[hs]
 exact bh bd cn
 have bd:=ai aj
 refine bi<|sg<|?_
 refine L0<|ci (aX aP (Ne.symm ag) dG)<|?_
 refine L0<|aW (ub (ut r (ut ba (u1 bb aP im) (ac im (ac im au))) (ac (nr d) (ac (ni i.size g) au))) k) (mG c 0 ((ah.mk b false 0).wordV) 0 (((ah.mk b false 0).wordsC 1).wordV) 0 0 0 0 0 0 0 nS nS nS nS 0 0 0 0 0 nS) fun f7 dJ dK=>Pl 1<|nt<|rt<|bz dJ (.int .i64 0)<|?_
 have hs:ae aI 0 c b=aH (aQ.mk c 0 ((ah.mk b false 0).wordV) 0 (((ah.mk b false 0).wordsC 1).wordV) 0 0 0 0 0 0 0 [] [] [] [] 0 0 0 0 0 []) (((ah.mk b false 0).wordsC 1).wordsC 1):=by
   unfold ae aI bJ bQ d6 cI co cF cH i9
   (try simp only[q,B,C,s,aj,bs,if_true,if_false,decide_true,decide_false,eq_self,true_or,or_true,or_false,false_or,if_true,if_false,cl,cj,cm,ck,reduceIte,jD,jz])
   all_goals rfl
 rw[hs]
 exact bo bd ⟨_,_,_,_,_,rfl,aK.nil ..,aK.nil ..,(fun _ _ _=>aK.nil ..),aK.nil ..,aK.nil ..,⟨(b8 (x:=c) (by omega)),(b8 (x:=0) (by omega)),(aB (x:=(ah.mk b false 0).wordV) (by omega)),(aB (x:=0) (by omega)),(aB (x:=((ah.mk b false 0).wordsC 1).wordV) (by omega)),(aB (x:=0) (by omega)),(aB (x:=0) (by omega)),(aB (x:=0) (by omega)),(aB (x:=0) (by omega)),(aB (x:=0) (by omega)),(aB (x:=0) (by omega)),(aB (x:=0) (by omega)),(b8 (x:=0) (by omega)),(b8 (x:=0) (by omega)),(b8 (x:=0) (by omega)),(b8 (x:=0) (by omega)),(b8 (x:=0) (by omega))⟩⟩ (ud cd dK t)
 have dB:=ap s
 refine sg<|Pl 3<|nt<|cb ((c==16)) (fun D=>?_) (fun D=>?_)
 have dL:=al D
 refine sg<|Pl 1<|?_
 have dM:RC w _ A cp b a6 l (ah.mk b false 0):=⟨hsl,z,(Nat.le_trans f.size d),⟨0,(ub a0 o),Nat.zero_le _,rfl⟩,by omega⟩
 refine L0<|Oc<|m3 (cV dM) fun f8 dN L f9=>Pl 1<|?_
 have I:=nb (am o) lr g
 refine L0<|bX (aX L (Ne.symm I) a7) 2 (mG c 0 ((ah.mk b false 0).wordV) 0 0 0 0 0 0 0 0 0 nS nS nS nS 0 0 0 0 0 nS) fun fa cq M=>ng<|Pl 2<|L0<|aU cq 2<|?_
 have be:=us L M
 have cr:=ut z be (ac (ni f.size d) (ac (ni (le f.size i.size) g) au))
 refine L0<|Oc<|m3 (ki (a:=(ah.mk b false 0).wordV) (most:=123) (by omega) (RC.upd dN M (aa I ay) cr)) fun fb dO N fc=>?_
 refine fw dO fun cs ct dP=>?_
 refine L0<|xo (((ah.mk b false 0).wordsC 1).wordV)<|Pl 1<|?_
 refine L0<|bX (aX N (Ne.symm I) cq) 3 (mG c 0 ((ah.mk b false 0).wordV) (((ah.mk b false 0).wordsC 1).wordV) 0 0 0 0 0 0 0 0 nS nS nS nS 0 0 0 0 0 nS) fun fd dQ O=>ng<|Pl 2<|nt<|c1<|sg<|Pl 1<|?_
 have bf:=us N O
 have cv:=ut cr bf (ac (ni f.size d) (ac (ni (le f.size i.size) g) au))
 refine L0<|Oc<|m3 (dU (RC.upd dP O (aa I ay) cv)) fun fe dR P ff=>L0<|Oi cs.byteV<|Pl 1<|ng<|Pl 3<|?_
 have cw:=aX P (Ne.symm I) dQ
 refine L0<|aU cw 3<|L0<|Oi (((ah.mk b false 0).wordsC 1).wordV)<|L0<|Oi (2*(((ah.mk b false 0).wordsC 1).wordV))<|Pl 1<|L0<|Oc<|m2 (aY ((cs.byteV==(2*(((ah.mk b false 0).wordsC 1).wordV)))) 5 dR) fun fg dS Q=>?_
 refine fw dS fun E cx dT=>?_
 refine nt<|go<|Pl 2<|?_
 have cy:=aX Q (Ne.symm I) cw
 refine L0<|aU cy 3<|L0<|Oi (((ah.mk b false 0).wordsC 1).wordV)<|L0<|Oc<|mF (fK (n:=((ah.mk b false 0).wordsC 1).wordV) (by omega) dT) fun cz cA fh R fi fj dV cB=>Pl 1<|?_
 refine L0<|bX (aX cB (Ne.symm I) cy) 12 (mG c 0 ((ah.mk b false 0).wordV) (((ah.mk b false 0).wordsC 1).wordV) 0 0 0 0 0 0 0 0 (.slice cz ((E.wordsR (((ah.mk b false 0).wordsC 1).wordV)).length) cA) nS nS nS 0 0 0 0 0 nS) fun fk dW aS=>nl<|bn<|tn<|sg<|Pl 1<|?_
 have bj:=ui P (ui Q (us cB aS))
 have cC:=ut cv bj (ac (ni f.size d) (ac (ni (le f.size i.size) g) au))
 refine L0<|Oc<|m2 (eh (RC.upd dV aS (aa I ay) cC)) fun fl bm an=>nt<|sq<|sg<|Pl 3<|L0<|dY (p:=⟨l,3,none⟩) (v:=.int .i64 (((E.wordsC (((ah.mk b false 0).wordsC 1).wordV)).endC).e)) (RC.fld bm)<|Pl 1<|nt<|?_
 have cD:=ud cC an (le f.size d)
 refine cb (((((E.wordsC (((ah.mk b false 0).wordsC 1).wordV)).endC).e)!=0)) (fun ao=>?_) (fun ao=>?_)
 have bp:=aq ao
 refine sq<|Rg 7 (fun w'=>w'.cell? ⟨l,3,none⟩=some (.int .i64 (((E.wordsC (((ah.mk b false 0).wordsC 1).wordV)).endC).e))) fun fm aV=>?_
 have cE:=RC.upd bm aV ay (aD.step (RC.u bm) aV)
 refine bg (RC.fld cE) fun ar=>Rt 0 ar<|Rt 1 ar<|Rt 2 ar<|Rt 3 ar<|Rl 4 ar (fun _ hs=>hs)<|?_
 have cG:=aF an aV
 refine R0 5 rfl<|aW (ub (ut r (ut be (ut bf (u1 bj cG im) (ac im (ac im au))) (ac im (ac im au))) (ac (nr d) (ac (ni i.size g) au))) k) mZ fun fn dX bq=>?_
 have cJ:=ud cD (uz aV bq) t
 refine bg (RC.fld (RC.upd cE bq (aa (Ne.symm (nb (am k) lr d)) ay) cJ)) fun dZ=>Rt 6 dZ<|re<|tn<|rt<|tr<|bz dX (.int .i64 (((E.wordsC (((ah.mk b false 0).wordsC 1).wordV)).endC).e))<|?_
 have fo:=ax R (us aS (us cG bq)) (fun x hx=>(aa (fun e=>(aA (am a8) (le (le (le (le (le (le y.size L.size) M.size) N.size) O.size) P.size) Q.size) R) (e▸hx)) (aa (fun e=>(aA (am o) (le (le (le (le (le (le (le H.size y.size) L.size) M.size) N.size) O.size) P.size) Q.size) R) (e▸hx)) (aa (fun e=>(aA (am k) (le (le (le (le (le (le (le (le i.size H.size) y.size) L.size) M.size) N.size) O.size) P.size) Q.size) R) (e▸hx)) ay)))) (fun _ _ h=>h)
 have hs:ae aI 0 c b=aH (aQ.mk c 0 ((ah.mk b false 0).wordV) (((ah.mk b false 0).wordsC 1).wordV) 0 0 0 0 0 0 0 0 (E.wordsR (((ah.mk b false 0).wordsC 1).wordV)) [] [] [] 0 0 0 0 0 []) (E.wordsC (((ah.mk b false 0).wordsC 1).wordV)):=by
   subst cx ct
   unfold ae aI bJ bQ d6 cI co cF cH i9
   (try simp only[q,B,C,s,D,ao,bs,if_true,if_false,decide_true,decide_false,eq_self,true_or,or_true,or_false,false_or,if_true,if_false,cl,cj,cm,ck,reduceIte,jD,jz])
   all_goals rfl
 rw[hs]
 exact bh bp cJ
 have bp:=ai ao
 refine bi<|sg<|?_
 refine L0<|ci (aX an (Ne.symm I) dW)<|?_
 refine L0<|aW (ub (ut r (ut be (ut bf (u1 bj an im) (ac im (ac im au))) (ac im (ac im au))) (ac (nr d) (ac (ni i.size g) au))) k) (mG c 0 ((ah.mk b false 0).wordV) (((ah.mk b false 0).wordsC 1).wordV) 0 0 0 0 0 0 0 0 (.slice cz ((E.wordsR (((ah.mk b false 0).wordsC 1).wordV)).length) cA) nS nS nS 0 0 0 0 0 nS) fun fp e0 cK=>Pl 1<|nt<|rt<|bz e0 (.int .i64 0)<|?_
 have hs:ae aI 0 c b=aH (aQ.mk c 0 ((ah.mk b false 0).wordV) (((ah.mk b false 0).wordsC 1).wordV) 0 0 0 0 0 0 0 0 (E.wordsR (((ah.mk b false 0).wordsC 1).wordV)) [] [] [] 0 0 0 0 0 []) (E.wordsC (((ah.mk b false 0).wordsC 1).wordV)):=by
   subst cx ct
   unfold ae aI bJ bQ d6 cI co cF cH i9
   (try simp only[q,B,C,s,D,ao,bs,if_true,if_false,decide_true,decide_false,eq_self,true_or,or_true,or_false,false_or,if_true,if_false,cl,cj,cm,ck,reduceIte,jD,jz])
   all_goals rfl
 rw[hs]
 exact bo bp ⟨_,_,_,_,_,rfl,((ax R (us aS (us an cK)) (fun x hx=>(aa (fun e=>(aA (am a8) (le (le (le (le (le (le y.size L.size) M.size) N.size) O.size) P.size) Q.size) R) (e▸hx)) (aa (fun e=>(aA (am o) (le (le (le (le (le (le (le H.size y.size) L.size) M.size) N.size) O.size) P.size) Q.size) R) (e▸hx)) (aa (fun e=>(aA (am k) (le (le (le (le (le (le (le (le i.size H.size) y.size) L.size) M.size) N.size) O.size) P.size) Q.size) R) (e▸hx)) ay)))) (fun _ _ h=>h))).rd,aK.nil ..,(fun _ _ _=>aK.nil ..),aK.nil ..,aK.nil ..,⟨(b8 (x:=c) (by omega)),(b8 (x:=0) (by omega)),(aB (x:=(ah.mk b false 0).wordV) (by omega)),(aB (x:=((ah.mk b false 0).wordsC 1).wordV) (by omega)),(aB (x:=0) (by omega)),(aB (x:=0) (by omega)),(aB (x:=0) (by omega)),(aB (x:=0) (by omega)),(aB (x:=0) (by omega)),(aB (x:=0) (by omega)),(aB (x:=0) (by omega)),(aB (x:=0) (by omega)),(b8 (x:=0) (by omega)),(b8 (x:=0) (by omega)),(b8 (x:=0) (by omega)),(b8 (x:=0) (by omega)),(b8 (x:=0) (by omega))⟩⟩ (ud cD cK t)
 have dL:=ap D
 refine sg<|Pl 3<|nt<|cb ((c==22)) (fun F=>?_) (fun F=>?_)
 have e1:=al F
 refine sg<|Pl 1<|?_
 have e2:RC w _ A cp b a6 l (ah.mk b false 0):=⟨hsl,z,(Nat.le_trans f.size d),⟨0,(ub a0 o),Nat.zero_le _,rfl⟩,by omega⟩
 refine L0<|Oc<|m3 (cV e2) fun fq e3 cL fr=>Pl 1<|?_
 have a1:=nb (am o) lr g
 refine L0<|bX (aX cL (Ne.symm a1) a7) 2 (mG c 0 ((ah.mk b false 0).wordV) 0 0 0 0 0 0 0 0 0 nS nS nS nS 0 0 0 0 0 nS) fun fs e4 cM=>ng<|Pl 1<|?_
 have bt:=us cL cM
 have cN:=ut z bt (ac (ni f.size d) (ac (ni (le f.size i.size) g) au))
 refine L0<|Oc<|m3 (cV (RC.upd e3 cM (aa a1 ay) cN)) fun ft e5 cO fu=>Pl 1<|?_
 refine L0<|bX (aX cO (Ne.symm a1) e4) 5 (mG c 0 ((ah.mk b false 0).wordV) 0 0 (((ah.mk b false 0).wordsC 1).wordV) 0 0 0 0 0 0 nS nS nS nS 0 0 0 0 0 nS) fun fv e6 cP=>nt<|go<|Pl 1<|?_
 have bv:=us cO cP
 have cQ:=ut cN bv (ac (ni f.size d) (ac (ni (le f.size i.size) g) au))
 refine L0<|Oc<|m3 (cV (RC.upd e5 cP (aa a1 ay) cQ)) fun fx e7 cR fy=>Pl 1<|?_
 refine L0<|bX (aX cR (Ne.symm a1) e6) 6 (mG c 0 ((ah.mk b false 0).wordV) 0 0 (((ah.mk b false 0).wordsC 1).wordV) ((((ah.mk b false 0).wordsC 1).wordsC 1).wordV) 0 0 0 0 0 nS nS nS nS 0 0 0 0 0 nS) fun fz e8 cS=>nl<|bn<|tn<|sg<|Pl 1<|?_
 have bw:=us cR cS
 have cT:=ut cQ bw (ac (ni f.size d) (ac (ni (le f.size i.size) g) au))
 refine L0<|Oc<|m2 (eh (RC.upd e7 cS (aa a1 ay) cT)) fun fA bx aZ=>nt<|sq<|sg<|Pl 3<|L0<|dY (p:=⟨l,3,none⟩) (v:=.int .i64 ((((((ah.mk b false 0).wordsC 1).wordsC 1).wordsC 1).endC).e)) (RC.fld bx)<|Pl 1<|nt<|?_
 have cU:=ud cT aZ (le f.size d)
 refine cb ((((((((ah.mk b false 0).wordsC 1).wordsC 1).wordsC 1).endC).e)!=0)) (fun av=>?_) (fun av=>?_)
 have bA:=aq av
 refine sq<|Rg 7 (fun w'=>w'.cell? ⟨l,3,none⟩=some (.int .i64 ((((((ah.mk b false 0).wordsC 1).wordsC 1).wordsC 1).endC).e))) fun fB b0=>?_
 have cW:=RC.upd bx b0 ay (aD.step (RC.u bx) b0)
 refine bg (RC.fld cW) fun aw=>Rt 0 aw<|Rt 1 aw<|Rt 2 aw<|Rt 3 aw<|Rl 4 aw (fun _ hs=>hs)<|?_
 refine R0 5 rfl<|aW (ub (ut r (ut bt (ut bv (u1 bw (aF aZ b0) im) (ac im (ac im au))) (ac im (ac im au))) (ac (nr d) (ac (ni i.size g) au))) k) mZ fun fC e9 cX=>?_
 have cY:=ud cU (uz b0 cX) t
 refine bg (RC.fld (RC.upd cW cX (aa (Ne.symm (nb (am k) lr d)) ay) cY)) fun ea=>Rt 6 ea<|re<|tn<|rt<|tr<|bz e9 (.int .i64 ((((((ah.mk b false 0).wordsC 1).wordsC 1).wordsC 1).endC).e))<|?_
 have hs:ae aI 0 c b=aH (aQ.mk c 0 ((ah.mk b false 0).wordV) 0 0 (((ah.mk b false 0).wordsC 1).wordV) ((((ah.mk b false 0).wordsC 1).wordsC 1).wordV) 0 0 0 0 0 [] [] [] [] 0 0 0 0 0 []) ((((ah.mk b false 0).wordsC 1).wordsC 1).wordsC 1):=by
   unfold ae aI bJ bQ d6 cI co cF cH i9
   (try simp only[q,B,C,s,D,F,av,bs,if_true,if_false,decide_true,decide_false,eq_self,true_or,or_true,or_false,false_or,if_true,if_false,cl,cj,cm,ck,reduceIte,jD,jz])
   all_goals rfl
 rw[hs]
 exact bh bA cY
 have bA:=ai av
 refine bi<|sg<|?_
 refine L0<|ci (aX aZ (Ne.symm a1) e8)<|?_
 refine L0<|aW (ub (ut r (ut bt (ut bv (u1 bw aZ im) (ac im (ac im au))) (ac im (ac im au))) (ac (nr d) (ac (ni i.size g) au))) k) (mG c 0 ((ah.mk b false 0).wordV) 0 0 (((ah.mk b false 0).wordsC 1).wordV) ((((ah.mk b false 0).wordsC 1).wordsC 1).wordV) 0 0 0 0 0 nS nS nS nS 0 0 0 0 0 nS) fun fD eb ec=>Pl 1<|nt<|rt<|bz eb (.int .i64 0)<|?_
 have hs:ae aI 0 c b=aH (aQ.mk c 0 ((ah.mk b false 0).wordV) 0 0 (((ah.mk b false 0).wordsC 1).wordV) ((((ah.mk b false 0).wordsC 1).wordsC 1).wordV) 0 0 0 0 0 [] [] [] [] 0 0 0 0 0 []) ((((ah.mk b false 0).wordsC 1).wordsC 1).wordsC 1):=by
   unfold ae aI bJ bQ d6 cI co cF cH i9
   (try simp only[q,B,C,s,D,F,av,bs,if_true,if_false,decide_true,decide_false,eq_self,true_or,or_true,or_false,false_or,if_true,if_false,cl,cj,cm,ck,reduceIte,jD,jz])
   all_goals rfl
 rw[hs]
 exact bo bA ⟨_,_,_,_,_,rfl,aK.nil ..,aK.nil ..,(fun _ _ _=>aK.nil ..),aK.nil ..,aK.nil ..,⟨(b8 (x:=c) (by omega)),(b8 (x:=0) (by omega)),(aB (x:=(ah.mk b false 0).wordV) (by omega)),(aB (x:=0) (by omega)),(aB (x:=0) (by omega)),(aB (x:=((ah.mk b false 0).wordsC 1).wordV) (by omega)),(aB (x:=(((ah.mk b false 0).wordsC 1).wordsC 1).wordV) (by omega)),(aB (x:=0) (by omega)),(aB (x:=0) (by omega)),(aB (x:=0) (by omega)),(aB (x:=0) (by omega)),(aB (x:=0) (by omega)),(b8 (x:=0) (by omega)),(b8 (x:=0) (by omega)),(b8 (x:=0) (by omega)),(b8 (x:=0) (by omega)),(b8 (x:=0) (by omega))⟩⟩ (ud cU ec t)
 have e1:=ap F
 refine sg<|Pl 3<|nt<|cb ((c==23)) (fun S=>?_) (fun S=>?_)
 have ed:=al S
 refine sg<|Pl 1<|?_
 have ee:RC w _ A cp b a6 l (ah.mk b false 0):=⟨hsl,z,(Nat.le_trans f.size d),⟨0,(ub a0 o),Nat.zero_le _,rfl⟩,by omega⟩
 refine L0<|Oc<|m3 (cV ee) fun fE ef T fF=>Pl 1<|?_
 have J:=nb (am o) lr g
 refine L0<|bX (aX T (Ne.symm J) a7) 2 (mG c 0 ((ah.mk b false 0).wordV) 0 0 0 0 0 0 0 0 0 nS nS nS nS 0 0 0 0 0 nS) fun fG cZ U=>ng<|Pl 2<|L0<|aU cZ 2<|?_
 have bB:=us T U
 have d0:=ut z bB (ac (ni f.size d) (ac (ni (le f.size i.size) g) au))
 refine L0<|Oc<|m3 (ki (a:=(ah.mk b false 0).wordV) (most:=125) (by omega) (RC.upd ef U (aa J ay) d0)) fun fH eg V fI=>?_
 refine fw eg fun j d1 ei=>?_
 refine L0<|xo (((ah.mk b false 0).wordsC 1).wordV)<|Pl 1<|?_
 refine L0<|bX (aX V (Ne.symm J) cZ) 3 (mG c 0 ((ah.mk b false 0).wordV) (((ah.mk b false 0).wordsC 1).wordV) 0 0 0 0 0 0 0 0 nS nS nS nS 0 0 0 0 0 nS) fun fJ ej W=>ng<|Pl 1<|?_
 have bC:=us V W
 have d2:=ut d0 bC (ac (ni f.size d) (ac (ni (le f.size i.size) g) au))
 refine L0<|Oc<|m3 (cV (RC.upd ei W (aa J ay) d2)) fun fL ek X fM=>Pl 1<|?_
 refine L0<|bX (aX X (Ne.symm J) ej) 7 (mG c 0 ((ah.mk b false 0).wordV) (((ah.mk b false 0).wordsC 1).wordV) 0 0 0 j.wordV 0 0 0 0 nS nS nS nS 0 0 0 0 0 nS) fun fN d3 Y=>ng<|Pl 2<|L0<|aU d3 7<|?_
 have bD:=us X Y
 have d4:=ut d2 bD (ac (ni f.size d) (ac (ni (le f.size i.size) g) au))
 refine L0<|Oc<|m3 (ki (a:=j.wordV) (most:=121) (by omega) (RC.upd ek Y (aa J ay) d4)) fun fO el a2 fP=>Pl 1<|ng<|Pl 1<|L0<|Oc<|m3 (dU el) fun fQ em a3 fR=>L0<|Oi ((bK (j.wordsC 1) j.wordV 121).byteV)<|Pl 1<|ng<|?_
 refine Pl 3<|L0<|Oi (2*((j.wordsC 1).wordV))<|Pl 1<|L0<|Oc<|m2 (aY ((((bK (j.wordsC 1) j.wordV 121).byteV)==(2*((j.wordsC 1).wordV)))) 5 em) fun fS eo a4=>?_
 refine fw eo fun G d5 ep=>?_
 refine nt<|go<|Pl 2<|L0<|Oc<|mF (fK (n:=(j.wordsC 1).wordV) (by omega) ep) fun d7 d8 fT Z fU fV eq er=>Pl 1<|?_
 have d9:=u1 a2 (u1 a3 (u1 a4 er im) im) im
 refine L0<|bX (aX d9 (Ne.symm J) d3) 12 (mG c 0 ((ah.mk b false 0).wordV) (((ah.mk b false 0).wordsC 1).wordV) 0 0 0 j.wordV 0 0 0 0 (.slice d7 ((G.wordsR ((j.wordsC 1).wordV)).length) d8) nS nS nS 0 0 0 0 0 nS) fun fW es b1=>nl<|bn<|tn<|sg<|Pl 1<|?_
 have bF:=us d9 b1
 have da:=ut d4 bF (ac (ni f.size d) (ac (ni (le f.size i.size) g) au))
 refine L0<|Oc<|m2 (eh (RC.upd eq b1 (aa J ay) da)) fun fX bG az=>nt<|sq<|sg<|Pl 3<|L0<|dY (p:=⟨l,3,none⟩) (v:=.int .i64 (((G.wordsC ((j.wordsC 1).wordV)).endC).e)) (RC.fld bG)<|Pl 1<|nt<|?_
 have db:=ud da az (le f.size d)
 refine cb (((((G.wordsC ((j.wordsC 1).wordV)).endC).e)!=0)) (fun aC=>?_) (fun aC=>?_)
 have bH:=aq aC
 refine sq<|Rg 7 (fun w'=>w'.cell? ⟨l,3,none⟩=some (.int .i64 (((G.wordsC ((j.wordsC 1).wordV)).endC).e))) fun fY b2=>?_
 have dc:=RC.upd bG b2 ay (aD.step (RC.u bG) b2)
 refine bg (RC.fld dc) fun aE=>Rt 0 aE<|Rt 1 aE<|Rt 2 aE<|Rt 3 aE<|Rl 4 aE (fun _ hs=>hs)<|?_
 have dd:=aF az b2
 refine R0 5 rfl<|aW (ub (ut r (ut bB (ut bC (ut bD (u1 bF dd im) (ac im (ac im au))) (ac im (ac im au))) (ac im (ac im au))) (ac (nr d) (ac (ni i.size g) au))) k) mZ fun fZ et bI=>?_
 have de:=ud db (uz b2 bI) t
 refine bg (RC.fld (RC.upd dc bI (aa (Ne.symm (nb (am k) lr d)) ay) de)) fun eu=>Rt 6 eu<|re<|tn<|rt<|tr<|bz et (.int .i64 (((G.wordsC ((j.wordsC 1).wordV)).endC).e))<|?_
 have g0:=ax Z (us b1 (us dd bI)) (fun x hx=>(aa (fun e=>(aA (am a8) (le (le (le (le (le (le (le (le (le y.size T.size) U.size) V.size) W.size) X.size) Y.size) a2.size) a3.size) a4.size) Z) (e▸hx)) (aa (fun e=>(aA (am o) (le (le (le (le (le (le (le (le (le (le H.size y.size) T.size) U.size) V.size) W.size) X.size) Y.size) a2.size) a3.size) a4.size) Z) (e▸hx)) (aa (fun e=>(aA (am k) (le (le (le (le (le (le (le (le (le (le (le i.size H.size) y.size) T.size) U.size) V.size) W.size) X.size) Y.size) a2.size) a3.size) a4.size) Z) (e▸hx)) ay)))) (fun _ _ h=>h)
 have hs:ae aI 0 c b=aH (aQ.mk c 0 ((ah.mk b false 0).wordV) (((ah.mk b false 0).wordsC 1).wordV) 0 0 0 j.wordV 0 0 0 0 (G.wordsR ((j.wordsC 1).wordV)) [] [] [] 0 0 0 0 0 []) (G.wordsC ((j.wordsC 1).wordV)):=by
   subst d5 d1
   unfold ae aI bJ bQ d6 cI co cF cH i9
   (try simp only[q,B,C,s,D,F,S,aC,bs,if_true,if_false,decide_true,decide_false,eq_self,true_or,or_true,or_false,false_or,if_true,if_false,cl,cj,cm,ck,reduceIte,jD,jz])
   all_goals rfl
 rw[hs]
 exact bh bH de
 have bH:=ai aC
 refine bi<|sg<|?_
 refine L0<|ci (aX az (Ne.symm J) es)<|?_
 refine L0<|aW (ub (ut r (ut bB (ut bC (ut bD (u1 bF az im) (ac im (ac im au))) (ac im (ac im au))) (ac im (ac im au))) (ac (nr d) (ac (ni i.size g) au))) k) (mG c 0 ((ah.mk b false 0).wordV) (((ah.mk b false 0).wordsC 1).wordV) 0 0 0 j.wordV 0 0 0 0 (.slice d7 ((G.wordsR ((j.wordsC 1).wordV)).length) d8) nS nS nS 0 0 0 0 0 nS) fun g1 ev df=>Pl 1<|nt<|rt<|bz ev (.int .i64 0)<|?_
 have hs:ae aI 0 c b=aH (aQ.mk c 0 ((ah.mk b false 0).wordV) (((ah.mk b false 0).wordsC 1).wordV) 0 0 0 j.wordV 0 0 0 0 (G.wordsR ((j.wordsC 1).wordV)) [] [] [] 0 0 0 0 0 []) (G.wordsC ((j.wordsC 1).wordV)):=by
   subst d5 d1
   unfold ae aI bJ bQ d6 cI co cF cH i9
   (try simp only[q,B,C,s,D,F,S,aC,bs,if_true,if_false,decide_true,decide_false,eq_self,true_or,or_true,or_false,false_or,if_true,if_false,cl,cj,cm,ck,reduceIte,jD,jz])
   all_goals rfl
 rw[hs]
 exact bo bH ⟨_,_,_,_,_,rfl,((ax Z (us b1 (us az df)) (fun x hx=>(aa (fun e=>(aA (am a8) (le (le (le (le (le (le (le (le (le y.size T.size) U.size) V.size) W.size) X.size) Y.size) a2.size) a3.size) a4.size) Z) (e▸hx)) (aa (fun e=>(aA (am o) (le (le (le (le (le (le (le (le (le (le H.size y.size) T.size) U.size) V.size) W.size) X.size) Y.size) a2.size) a3.size) a4.size) Z) (e▸hx)) (aa (fun e=>(aA (am k) (le (le (le (le (le (le (le (le (le (le (le i.size H.size) y.size) T.size) U.size) V.size) W.size) X.size) Y.size) a2.size) a3.size) a4.size) Z) (e▸hx)) ay)))) (fun _ _ h=>h))).rd,aK.nil ..,(fun _ _ _=>aK.nil ..),aK.nil ..,aK.nil ..,⟨(b8 (x:=c) (by omega)),(b8 (x:=0) (by omega)),(aB (x:=(ah.mk b false 0).wordV) (by omega)),(aB (x:=((ah.mk b false 0).wordsC 1).wordV) (by omega)),(aB (x:=0) (by omega)),(aB (x:=0) (by omega)),(aB (x:=0) (by omega)),(aB (x:=j.wordV) (by omega)),(aB (x:=0) (by omega)),(aB (x:=0) (by omega)),(aB (x:=0) (by omega)),(aB (x:=0) (by omega)),(b8 (x:=0) (by omega)),(b8 (x:=0) (by omega)),(b8 (x:=0) (by omega)),(b8 (x:=0) (by omega)),(b8 (x:=0) (by omega))⟩⟩ (ud db df t)
 have ed:=ap S
 refine sg<|Pl 3<|cu 3 [168] 171 ((c==24)) (fun K dg=>?_) ?_
 refine bl 168 ((c==24)) (fun aG=>?_) (fun aG=>?_)
 have ew:=al aG
 exact Pl 3<|ce dg true aG
 have ew:=ap aG
 exact Pl 3<|ce dg false aG
 refine Pl 1<|nt<|cb ((c==24)) (fun a5=>?_) (fun a5=>?_)
 have ex:=al a5
 refine go<|Pl 1<|?_
 have ey:RC w _ A cp b a6 l (ah.mk b false 0):=⟨hsl,z,(Nat.le_trans f.size d),⟨0,(ub a0 o),Nat.zero_le _,rfl⟩,by omega⟩
 refine L0<|Oc<|m3 (cV ey) fun g2 ez dh g3=>Pl 1<|?_
 have bL:=nb (am o) lr g
 refine L0<|bX (aX dh (Ne.symm bL) a7) 2 (mG c 0 ((ah.mk b false 0).wordV) 0 0 0 0 0 0 0 0 0 nS nS nS nS 0 0 0 0 0 nS) fun g4 eA di=>nl<|bn<|tn<|sg<|Pl 1<|?_
 have bM:=us dh di
 have dj:=ut z bM (ac (ni f.size d) (ac (ni (le f.size i.size) g) au))
 refine L0<|Oc<|m2 (eh (RC.upd ez di (aa bL ay) dj)) fun g5 bN b3=>nt<|sq<|sg<|Pl 3<|L0<|dY (p:=⟨l,3,none⟩) (v:=.int .i64 ((((ah.mk b false 0).wordsC 1).endC).e)) (RC.fld bN)<|Pl 1<|nt<|?_
 have dl:=ud dj b3 (le f.size d)
 refine cb ((((((ah.mk b false 0).wordsC 1).endC).e)!=0)) (fun aL=>?_) (fun aL=>?_)
 have bO:=aq aL
 refine sq<|Rg 7 (fun w'=>w'.cell? ⟨l,3,none⟩=some (.int .i64 ((((ah.mk b false 0).wordsC 1).endC).e))) fun g6 b4=>?_
 have dm:=RC.upd bN b4 ay (aD.step (RC.u bN) b4)
 refine bg (RC.fld dm) fun aM=>Rt 0 aM<|Rt 1 aM<|Rt 2 aM<|Rt 3 aM<|Rl 4 aM (fun _ hs=>hs)<|?_
 refine R0 5 rfl<|aW (ub (ut r (u1 bM (aF b3 b4) im) (ac (nr d) (ac (ni i.size g) au))) k) mZ fun g7 eB dn=>?_
 have dp:=ud dl (uz b4 dn) t
 refine bg (RC.fld (RC.upd dm dn (aa (Ne.symm (nb (am k) lr d)) ay) dp)) fun eC=>Rt 6 eC<|re<|tn<|rt<|tr<|bz eB (.int .i64 ((((ah.mk b false 0).wordsC 1).endC).e))<|?_
 have hs:ae aI 0 c b=aH (aQ.mk c 0 ((ah.mk b false 0).wordV) 0 0 0 0 0 0 0 0 0 [] [] [] [] 0 0 0 0 0 []) ((ah.mk b false 0).wordsC 1):=by
   unfold ae aI bJ bQ d6 cI co cF cH i9
   (try simp only[q,B,C,s,D,F,S,a5,aL,bs,if_true,if_false,decide_true,decide_false,eq_self,true_or,or_true,or_false,false_or,if_true,if_false,cl,cj,cm,ck,reduceIte,jD,jz])
   all_goals rfl
 rw[hs]
 exact bh bO dp
 have bO:=ai aL
 refine bi<|sg<|?_
 refine L0<|ci (aX b3 (Ne.symm bL) eA)<|?_
 refine L0<|aW (ub (ut r (u1 bM b3 im) (ac (nr d) (ac (ni i.size g) au))) k) (mG c 0 ((ah.mk b false 0).wordV) 0 0 0 0 0 0 0 0 0 nS nS nS nS 0 0 0 0 0 nS) fun g8 eD eE=>Pl 1<|nt<|rt<|bz eD (.int .i64 0)<|?_
 have hs:ae aI 0 c b=aH (aQ.mk c 0 ((ah.mk b false 0).wordV) 0 0 0 0 0 0 0 0 0 [] [] [] [] 0 0 0 0 0 []) ((ah.mk b false 0).wordsC 1):=by
   unfold ae aI bJ bQ d6 cI co cF cH i9
   (try simp only[q,B,C,s,D,F,S,a5,aL,bs,if_true,if_false,decide_true,decide_false,eq_self,true_or,or_true,or_false,false_or,if_true,if_false,cl,cj,cm,ck,reduceIte,jD,jz])
   all_goals rfl
 rw[hs]
 exact bo bO ⟨_,_,_,_,_,rfl,aK.nil ..,aK.nil ..,(fun _ _ _=>aK.nil ..),aK.nil ..,aK.nil ..,⟨(b8 (x:=c) (by omega)),(b8 (x:=0) (by omega)),(aB (x:=(ah.mk b false 0).wordV) (by omega)),(aB (x:=0) (by omega)),(aB (x:=0) (by omega)),(aB (x:=0) (by omega)),(aB (x:=0) (by omega)),(aB (x:=0) (by omega)),(aB (x:=0) (by omega)),(aB (x:=0) (by omega)),(aB (x:=0) (by omega)),(aB (x:=0) (by omega)),(b8 (x:=0) (by omega)),(b8 (x:=0) (by omega)),(b8 (x:=0) (by omega)),(b8 (x:=0) (by omega)),(b8 (x:=0) (by omega))⟩⟩ (ud dl eE t)
 have ex:=ap a5
 refine sg<|Pl 3<|nt<|cf a5<|sg<|Pl 1<|?_
 refine L0<|aW (ub r k) mZ fun g9 eF eG=>Pl 1<|nt<|rt<|br<|tr<|bz eF (.int .i64 4)<|?_
 have hs:ae aI 0 c b=(aQ.zero,4):=by
   unfold ae aI bJ bQ d6 cI co cF cH i9
   (try simp only[q,B,C,s,D,F,S,a5,bs,if_true,if_false,decide_true,decide_false,eq_self,true_or,or_true,or_false,false_or,if_true,if_false,cl,cj,cm,ck,reduceIte,jD,jz])
   all_goals rfl
 rw[hs]
 exact bu (ud z eG t)
theorem ld{m:Md}{A:Option Addr}{cp:Nat}{b:List Int}{w:World}{c:Int}(hcode:B8 c)(hsl:aT m w (.slice A b.length cp) b)(hb:b.length≤1048576) :
    Calls Tryz.prog 94 #[.int .i64 1,.int .u8 c,.slice A b.length cp] w (dk (.slice A b.length cp) b (ae aI 1 c b) w):=by
 obtain⟨hcode1,hcode2⟩:=hcode
 have hln:(b.length:Int)≤1048576:=by omega
 refine en 221 Tryz.func94 rfl<|sg<|L0<|bE mZ fun e4 e5 y j f=>Pl 1<|nt<|sq<|sg<|Pl 6<|nt<|c0<|?_
 refine bi<|sg<|Pl 2<|L0<|dq #[.slice A b.length cp,.int .i64 0,.bool false,.int .i64 0] fun l e6 d q i=>Pl 1<|ng<|Pl 2<|L0<|bE mZ fun e7 e8 g W H=>L0<|aW W (mC c) fun X Y r=>?_
 refine nt<|sq<|bk<|sg<|Pl 6<|cu 3 [35] 38 (((c==3)||(c==4))) (fun K bv=>?_) ?_
 refine bl 35 ((c==3)) (fun Z=>?_) (fun Z=>?_)
 have cR:=al Z
 exact Pl 3<|ce bv true (by rw[Z];rfl)
 have cR:=ap Z
 exact Pl 3<|ce bv (c==4) (by rw[Z];rfl)
 refine Pl 1<|cu 3 [39] 42 ((((c==3)||(c==4))||(c==23))) (fun K bw=>?_) ?_
 refine bl 39 (((c==3)||(c==4))) (fun a0=>?_) (fun a0=>?_)
 exact Pl 3<|ce bw true (by rw[a0];rfl)
 have cS:=(aJ a0).1
 have cT:=(aJ a0).2
 have e9:=ap cS
 have ea:=ap cT
 exact Pl 3<|ce bw (c==23) (by rw[a0];rfl)
 refine Pl 2<|nt<|?_
 have T:=ud H r g
 have s:=aF i T
 have z:=aF f s
 refine cb ((((c==3)||(c==4))||(c==23))) (fun k=>?_) (fun k=>?_)
 refine sg<|Pl 1<|?_
 have cU:RC w _ A cp b X l (ah.mk b false 0):=⟨hsl,z,(Nat.le_trans f.size d),⟨0,(ub T q),Nat.zero_le _,rfl⟩,by omega⟩
 refine L0<|Oc<|m3 (dU cU) fun eb cW M ec=>L0<|Oi ((ah.mk b false 0).byteV)<|Pl 1<|ng<|Pl 2<|L0<|Oe (.int .i64 (Int.tmod ((ah.mk b false 0).byteV) 2)) (.int .i64 (((ah.mk b false 0).byteV)%2)) (congrArg (Value.int .i64) (Int.tmod_eq_emod_of_nonneg (by omega)))<|Pl 2<|cu 3 [51] 54 ((((((ah.mk b false 0).byteV)%2)==0)&&(decide (0<((ah.mk b false 0).byteV))))) (fun K bx=>?_) ?_
 refine bl 51 (((((ah.mk b false 0).byteV)%2)==0)) (fun a1=>?_) (fun a1=>?_)
 have cX:=al a1
 exact Pl 3<|ce bx (decide (0<((ah.mk b false 0).byteV))) (by rw[a1];rfl)
 have cX:=ap a1
 exact Pl 3<|ce bx false (by rw[a1];rfl)
 refine Pl 1<|cu 3 [55] 58 (((((((ah.mk b false 0).byteV)%2)==0)&&(decide (0<((ah.mk b false 0).byteV))))&&(decide (((ah.mk b false 0).byteV)≤250)))) (fun K bA=>?_) ?_
 refine bl 55 ((((((ah.mk b false 0).byteV)%2)==0)&&(decide (0<((ah.mk b false 0).byteV))))) (fun a2=>?_) (fun a2=>?_)
 have cY:=(aR a2).1
 have cZ:=(aR a2).2
 have ed:=al cY
 have ee:=of_decide_eq_true cZ
 exact Pl 3<|ce bA (decide (((ah.mk b false 0).byteV)≤250)) (by rw[a2];rfl)
 exact Pl 3<|ce bA false (by rw[a2];rfl)
 refine L0<|Oc<|m2 (aY (((((((ah.mk b false 0).byteV)%2)==0)&&(decide (0<((ah.mk b false 0).byteV))))&&(decide (((ah.mk b false 0).byteV)≤250)))) 5 cW) fun ef d0 N=>?_
 refine fw d0 fun x49 bB d1=>?_
 refine nt<|go<|Pl 2<|L0<|Oe (.int .i64 (IntKind.i64.wrap (Int.tdiv ((ah.mk b false 0).byteV) 2))) (.int .i64 (((ah.mk b false 0).byteV)/2)) (congrArg (Value.int .i64) (fA (by omega) (by omega)))<|L0<|Oc<|mF (fK (n:=(((ah.mk b false 0).byteV)/2)) (by omega) d1) fun bC bD eg I ei ej d2 d3=>Pl 1<|?_
 have bF:=u1 M (u1 N d3 im) im
 have aP:=nb (am q) lr g
 refine L0<|bX (aX bF (Ne.symm aP) Y) 12 (mG c 0 0 0 0 0 0 0 0 0 0 0 (.slice bC ((x49.wordsR (((ah.mk b false 0).byteV)/2)).length) bD) nS nS nS 0 0 0 0 0 nS) fun ek d4 av=>nl<|bn<|tn<|sg<|Pl 1<|?_
 have aS:=us bF av
 have bG:=ut z aS (ac (ni f.size d) (ac (ni (le f.size i.size) g) au))
 refine L0<|Oc<|m2 (eh (RC.upd d2 av (aa aP ay) bG)) fun el aV a3=>nt<|sq<|sg<|Pl 3<|L0<|dY (p:=⟨l,3,none⟩) (v:=.int .i64 (((x49.wordsC (((ah.mk b false 0).byteV)/2)).endC).e)) (RC.fld aV)<|Pl 1<|nt<|?_
 have bH:=ud bG a3 (le f.size d)
 refine cb (((((x49.wordsC (((ah.mk b false 0).byteV)/2)).endC).e)!=0)) (fun a4=>?_) (fun a4=>?_)
 have aZ:=aq a4
 refine sq<|Rg 7 (fun w'=>w'.cell? ⟨l,3,none⟩=some (.int .i64 (((x49.wordsC (((ah.mk b false 0).byteV)/2)).endC).e))) fun em aw=>?_
 have bI:=RC.upd aV aw ay (aD.step (RC.u aV) aw)
 refine bg (RC.fld bI) fun a5=>Rt 0 a5<|Rt 1 a5<|Rt 2 a5<|Rt 3 a5<|Rl 4 a5 (fun _ hs=>hs)<|?_
 have bK:=aF a3 aw
 refine R0 5 rfl<|aW (ub (ut s (u1 aS bK im) (ac (nr d) (ac (ni i.size g) au))) j) mZ fun eo d5 b0=>?_
 have bL:=ud bH (uz aw b0) y
 refine bg (RC.fld (RC.upd bI b0 (aa (Ne.symm (nb (am j) lr d)) ay) bL)) fun d7=>Rt 6 d7<|re<|tn<|rt<|tr<|bz d5 (.int .i64 (((x49.wordsC (((ah.mk b false 0).byteV)/2)).endC).e))<|?_
 have ep:=ax I (us av (us bK b0)) (fun x hx=>(aa (fun e=>(aA (am W) (le (le r.size M.size) N.size) I) (e▸hx)) (aa (fun e=>(aA (am q) (le (le (le H.size r.size) M.size) N.size) I) (e▸hx)) (aa (fun e=>(aA (am j) (le (le (le (le i.size H.size) r.size) M.size) N.size) I) (e▸hx)) ay)))) (fun _ _ h=>h)
 have hs:ae aI 1 c b=aH (aQ.mk c 0 0 0 0 0 0 0 0 0 0 0 (x49.wordsR (((ah.mk b false 0).byteV)/2)) [] [] [] 0 0 0 0 0 []) (x49.wordsC (((ah.mk b false 0).byteV)/2)):=by
   subst bB
   unfold ae
   (try simp only[k,a4,bs,if_true,if_false,decide_true,decide_false,eq_self,true_or,or_true,or_false,false_or,if_true,if_false,cl,cj,cm,ck,reduceIte,jD,jz,o0 k])
   all_goals rfl
 rw[hs]
 exact bh aZ bL
 have aZ:=ai a4
 refine bi<|sg<|?_
 refine L0<|ci (aX a3 (Ne.symm aP) d4)<|?_
 refine L0<|aW (ub (ut s (u1 aS a3 im) (ac (nr d) (ac (ni i.size g) au))) j) (mG c 0 0 0 0 0 0 0 0 0 0 0 (.slice bC ((x49.wordsR (((ah.mk b false 0).byteV)/2)).length) bD) nS nS nS 0 0 0 0 0 nS) fun eq d8 bM=>Pl 1<|nt<|rt<|bz d8 (.int .i64 0)<|?_
 have hs:ae aI 1 c b=aH (aQ.mk c 0 0 0 0 0 0 0 0 0 0 0 (x49.wordsR (((ah.mk b false 0).byteV)/2)) [] [] [] 0 0 0 0 0 []) (x49.wordsC (((ah.mk b false 0).byteV)/2)):=by
   subst bB
   unfold ae
   (try simp only[k,a4,bs,if_true,if_false,decide_true,decide_false,eq_self,true_or,or_true,or_false,false_or,if_true,if_false,cl,cj,cm,ck,reduceIte,jD,jz,o0 k])
   all_goals rfl
 rw[hs]
 exact bo aZ ⟨_,_,_,_,_,rfl,((ax I (us av (us a3 bM)) (fun x hx=>(aa (fun e=>(aA (am W) (le (le r.size M.size) N.size) I) (e▸hx)) (aa (fun e=>(aA (am q) (le (le (le H.size r.size) M.size) N.size) I) (e▸hx)) (aa (fun e=>(aA (am j) (le (le (le (le i.size H.size) r.size) M.size) N.size) I) (e▸hx)) ay)))) (fun _ _ h=>h))).rd,aK.nil ..,(fun _ _ _=>aK.nil ..),aK.nil ..,aK.nil ..,⟨(b8 (x:=c) (by omega)),(b8 (x:=0) (by omega)),(aB (x:=0) (by omega)),(aB (x:=0) (by omega)),(aB (x:=0) (by omega)),(aB (x:=0) (by omega)),(aB (x:=0) (by omega)),(aB (x:=0) (by omega)),(aB (x:=0) (by omega)),(aB (x:=0) (by omega)),(aB (x:=0) (by omega)),(aB (x:=0) (by omega)),(b8 (x:=0) (by omega)),(b8 (x:=0) (by omega)),(b8 (x:=0) (by omega)),(b8 (x:=0) (by omega)),(b8 (x:=0) (by omega))⟩⟩ (ud bH bM y)
 have B:=(aJ k).1
 have C:=(aJ k).2
 have D:=(aJ B).1
 have E:=(aJ B).2
 have q35aap:=ap D
 have q35abp:=ap E
 have er:=ap C
 refine sg<|Pl 3<|sy 68 D<|Pl 4<|nt<|cf E<|sg<|Pl 3<|nt<|cb ((c==6)) (fun t=>?_) (fun t=>?_)
 have d9:=al t
 refine sg<|Pl 1<|?_
 have da:RC w _ A cp b X l (ah.mk b false 0):=⟨hsl,z,(Nat.le_trans f.size d),⟨0,(ub T q),Nat.zero_le _,rfl⟩,by omega⟩
 refine L0<|Oc<|m3 (cV da) fun es db bN et=>Pl 1<|?_
 have a6:=nb (am q) lr g
 refine L0<|bX (aX bN (Ne.symm a6) Y) 2 (mG c 0 ((ah.mk b false 0).wordV) 0 0 0 0 0 0 0 0 0 nS nS nS nS 0 0 0 0 0 nS) fun eu dc bO=>nt<|go<|Pl 1<|?_
 have b1:=us bN bO
 have bP:=ut z b1 (ac (ni f.size d) (ac (ni (le f.size i.size) g) au))
 refine L0<|Oc<|m3 (cV (RC.upd db bO (aa a6 ay) bP)) fun ev dd bR ew=>Pl 1<|?_
 refine L0<|bX (aX bR (Ne.symm a6) dc) 4 (mG c 0 ((ah.mk b false 0).wordV) 0 (((ah.mk b false 0).wordsC 1).wordV) 0 0 0 0 0 0 0 nS nS nS nS 0 0 0 0 0 nS) fun ex de bS=>nl<|bn<|tn<|sg<|Pl 1<|?_
 have b2:=us bR bS
 have bT:=ut bP b2 (ac (ni f.size d) (ac (ni (le f.size i.size) g) au))
 refine L0<|Oc<|m2 (eh (RC.upd dd bS (aa a6 ay) bT)) fun ey b3 az=>nt<|sq<|sg<|Pl 3<|L0<|dY (p:=⟨l,3,none⟩) (v:=.int .i64 (((((ah.mk b false 0).wordsC 1).wordsC 1).endC).e)) (RC.fld b3)<|Pl 1<|nt<|?_
 have bU:=ud bT az (le f.size d)
 refine cb (((((((ah.mk b false 0).wordsC 1).wordsC 1).endC).e)!=0)) (fun a7=>?_) (fun a7=>?_)
 have b4:=aq a7
 refine sq<|Rg 7 (fun w'=>w'.cell? ⟨l,3,none⟩=some (.int .i64 (((((ah.mk b false 0).wordsC 1).wordsC 1).endC).e))) fun ez aC=>?_
 have bV:=RC.upd b3 aC ay (aD.step (RC.u b3) aC)
 refine bg (RC.fld bV) fun a8=>Rt 0 a8<|Rt 1 a8<|Rt 2 a8<|Rt 3 a8<|Rl 4 a8 (fun _ hs=>hs)<|?_
 refine R0 5 rfl<|aW (ub (ut s (ut b1 (u1 b2 (aF az aC) im) (ac im (ac im au))) (ac (nr d) (ac (ni i.size g) au))) j) mZ fun eA df bW=>?_
 have bY:=ud bU (uz aC bW) y
 refine bg (RC.fld (RC.upd bV bW (aa (Ne.symm (nb (am j) lr d)) ay) bY)) fun dg=>Rt 6 dg<|re<|tn<|rt<|tr<|bz df (.int .i64 (((((ah.mk b false 0).wordsC 1).wordsC 1).endC).e))<|?_
 have hs:ae aI 1 c b=aH (aQ.mk c 0 ((ah.mk b false 0).wordV) 0 (((ah.mk b false 0).wordsC 1).wordV) 0 0 0 0 0 0 0 [] [] [] [] 0 0 0 0 0 []) (((ah.mk b false 0).wordsC 1).wordsC 1):=by
   unfold ae aI bJ bQ d6 cI co cF cH i9
   (try simp only[k,B,D,E,C,t,a7,bs,if_true,if_false,decide_true,decide_false,eq_self,true_or,or_true,or_false,false_or,if_true,if_false,cl,cj,cm,ck,reduceIte,jD,jz])
   all_goals rfl
 rw[hs]
 exact bh b4 bY
 have b4:=ai a7
 refine bi<|sg<|?_
 refine L0<|ci (aX az (Ne.symm a6) de)<|?_
 refine L0<|aW (ub (ut s (ut b1 (u1 b2 az im) (ac im (ac im au))) (ac (nr d) (ac (ni i.size g) au))) j) (mG c 0 ((ah.mk b false 0).wordV) 0 (((ah.mk b false 0).wordsC 1).wordV) 0 0 0 0 0 0 0 nS nS nS nS 0 0 0 0 0 nS) fun eB dh di=>Pl 1<|nt<|rt<|bz dh (.int .i64 0)<|?_
 have hs:ae aI 1 c b=aH (aQ.mk c 0 ((ah.mk b false 0).wordV) 0 (((ah.mk b false 0).wordsC 1).wordV) 0 0 0 0 0 0 0 [] [] [] [] 0 0 0 0 0 []) (((ah.mk b false 0).wordsC 1).wordsC 1):=by
   unfold ae aI bJ bQ d6 cI co cF cH i9
   (try simp only[k,B,D,E,C,t,a7,bs,if_true,if_false,decide_true,decide_false,eq_self,true_or,or_true,or_false,false_or,if_true,if_false,cl,cj,cm,ck,reduceIte,jD,jz])
   all_goals rfl
 rw[hs]
 exact bo b4 ⟨_,_,_,_,_,rfl,aK.nil ..,aK.nil ..,(fun _ _ _=>aK.nil ..),aK.nil ..,aK.nil ..,⟨(b8 (x:=c) (by omega)),(b8 (x:=0) (by omega)),(aB (x:=(ah.mk b false 0).wordV) (by omega)),(aB (x:=0) (by omega)),(aB (x:=((ah.mk b false 0).wordsC 1).wordV) (by omega)),(aB (x:=0) (by omega)),(aB (x:=0) (by omega)),(aB (x:=0) (by omega)),(aB (x:=0) (by omega)),(aB (x:=0) (by omega)),(aB (x:=0) (by omega)),(aB (x:=0) (by omega)),(b8 (x:=0) (by omega)),(b8 (x:=0) (by omega)),(b8 (x:=0) (by omega)),(b8 (x:=0) (by omega)),(b8 (x:=0) (by omega))⟩⟩ (ud bU di y)
 have d9:=ap t
 refine sg<|Pl 3<|nt<|cb ((c==16)) (fun F=>?_) (fun F=>?_)
 have dj:=al F
 refine sg<|Pl 1<|?_
 have dl:RC w _ A cp b X l (ah.mk b false 0):=⟨hsl,z,(Nat.le_trans f.size d),⟨0,(ub T q),Nat.zero_le _,rfl⟩,by omega⟩
 refine L0<|Oc<|m3 (cV dl) fun eC dm bZ eD=>Pl 1<|?_
 have a9:=nb (am q) lr g
 refine L0<|bX (aX bZ (Ne.symm a9) Y) 2 (mG c 0 ((ah.mk b false 0).wordV) 0 0 0 0 0 0 0 0 0 nS nS nS nS 0 0 0 0 0 nS) fun eE c1 c2=>ng<|Pl 2<|L0<|aU c1 2<|?_
 have b5:=us bZ c2
 have c3:=ut z b5 (ac (ni f.size d) (ac (ni (le f.size i.size) g) au))
 refine L0<|Oc<|m3 (ki (a:=(ah.mk b false 0).wordV) (most:=123) (by omega) (RC.upd dm c2 (aa a9 ay) c3)) fun eF dn c4 eG=>?_
 refine fw dn fun U c5 dp=>?_
 refine L0<|xo (((ah.mk b false 0).wordsC 1).wordV)<|Pl 1<|?_
 refine L0<|bX (aX c4 (Ne.symm a9) c1) 3 (mG c 0 ((ah.mk b false 0).wordV) (((ah.mk b false 0).wordsC 1).wordV) 0 0 0 0 0 0 0 0 nS nS nS nS 0 0 0 0 0 nS) fun eH dr c6=>ng<|Pl 2<|nt<|c0<|sk<|bn<|tn<|sg<|?_
 refine Pl 1<|?_
 have b6:=us c4 c6
 have c7:=ut c3 b6 (ac (ni f.size d) (ac (ni (le f.size i.size) g) au))
 refine L0<|Oc<|m2 (eh (RC.upd dp c6 (aa a9 ay) c7)) fun eI b7 aE=>nt<|sq<|sg<|Pl 3<|L0<|dY (p:=⟨l,3,none⟩) (v:=.int .i64 U.endC.e) (RC.fld b7)<|Pl 1<|nt<|?_
 have c8:=ud c7 aE (le f.size d)
 refine cb ((U.endC.e != 0)) (fun ab=>?_) (fun ab=>?_)
 have b9:=aq ab
 refine sq<|Rg 7 (fun w'=>w'.cell? ⟨l,3,none⟩=some (.int .i64 U.endC.e)) fun eJ aG=>?_
 have c9:=RC.upd b7 aG ay (aD.step (RC.u b7) aG)
 refine bg (RC.fld c9) fun ad=>Rt 0 ad<|Rt 1 ad<|Rt 2 ad<|Rt 3 ad<|Rl 4 ad (fun _ hs=>hs)<|?_
 refine R0 5 rfl<|aW (ub (ut s (ut b5 (u1 b6 (aF aE aG) im) (ac im (ac im au))) (ac (nr d) (ac (ni i.size g) au))) j) mZ fun eK ds ca=>?_
 have cc:=ud c8 (uz aG ca) y
 refine bg (RC.fld (RC.upd c9 ca (aa (Ne.symm (nb (am j) lr d)) ay) cc)) fun dt=>Rt 6 dt<|re<|tn<|rt<|tr<|bz ds (.int .i64 U.endC.e)<|?_
 have hs:ae aI 1 c b=aH (aQ.mk c 0 ((ah.mk b false 0).wordV) (((ah.mk b false 0).wordsC 1).wordV) 0 0 0 0 0 0 0 0 [] [] [] [] 0 0 0 0 0 []) U:=by
   subst c5
   unfold ae aI bJ bQ d6 cI co cF cH i9
   (try simp only[k,B,D,E,C,t,F,ab,bs,if_true,if_false,decide_true,decide_false,eq_self,true_or,or_true,or_false,false_or,if_true,if_false,cl,cj,cm,ck,reduceIte,jD,jz])
   all_goals rfl
 rw[hs]
 exact bh b9 cc
 have b9:=ai ab
 refine bi<|sg<|?_
 refine L0<|ci (aX aE (Ne.symm a9) dr)<|?_
 refine L0<|aW (ub (ut s (ut b5 (u1 b6 aE im) (ac im (ac im au))) (ac (nr d) (ac (ni i.size g) au))) j) (mG c 0 ((ah.mk b false 0).wordV) (((ah.mk b false 0).wordsC 1).wordV) 0 0 0 0 0 0 0 0 nS nS nS nS 0 0 0 0 0 nS) fun eL du dv=>Pl 1<|nt<|rt<|bz du (.int .i64 0)<|?_
 have hs:ae aI 1 c b=aH (aQ.mk c 0 ((ah.mk b false 0).wordV) (((ah.mk b false 0).wordsC 1).wordV) 0 0 0 0 0 0 0 0 [] [] [] [] 0 0 0 0 0 []) U:=by
   subst c5
   unfold ae aI bJ bQ d6 cI co cF cH i9
   (try simp only[k,B,D,E,C,t,F,ab,bs,if_true,if_false,decide_true,decide_false,eq_self,true_or,or_true,or_false,false_or,if_true,if_false,cl,cj,cm,ck,reduceIte,jD,jz])
   all_goals rfl
 rw[hs]
 exact bo b9 ⟨_,_,_,_,_,rfl,aK.nil ..,aK.nil ..,(fun _ _ _=>aK.nil ..),aK.nil ..,aK.nil ..,⟨(b8 (x:=c) (by omega)),(b8 (x:=0) (by omega)),(aB (x:=(ah.mk b false 0).wordV) (by omega)),(aB (x:=((ah.mk b false 0).wordsC 1).wordV) (by omega)),(aB (x:=0) (by omega)),(aB (x:=0) (by omega)),(aB (x:=0) (by omega)),(aB (x:=0) (by omega)),(aB (x:=0) (by omega)),(aB (x:=0) (by omega)),(aB (x:=0) (by omega)),(aB (x:=0) (by omega)),(b8 (x:=0) (by omega)),(b8 (x:=0) (by omega)),(b8 (x:=0) (by omega)),(b8 (x:=0) (by omega)),(b8 (x:=0) (by omega))⟩⟩ (ud c8 dv y)
 have dj:=ap F
 refine sg<|Pl 3<|nt<|cb ((c==22)) (fun J=>?_) (fun J=>?_)
 have dw:=al J
 refine sg<|Pl 1<|?_
 have dx:RC w _ A cp b X l (ah.mk b false 0):=⟨hsl,z,(Nat.le_trans f.size d),⟨0,(ub T q),Nat.zero_le _,rfl⟩,by omega⟩
 refine L0<|Oc<|m3 (cV dx) fun eM dy cd eN=>Pl 1<|?_
 have O:=nb (am q) lr g
 refine L0<|bX (aX cd (Ne.symm O) Y) 2 (mG c 0 ((ah.mk b false 0).wordV) 0 0 0 0 0 0 0 0 0 nS nS nS nS 0 0 0 0 0 nS) fun eO dz cg=>ng<|Pl 1<|?_
 have ba:=us cd cg
 have ch:=ut z ba (ac (ni f.size d) (ac (ni (le f.size i.size) g) au))
 refine L0<|Oc<|m3 (cV (RC.upd dy cg (aa O ay) ch)) fun eP dA cn eQ=>Pl 1<|?_
 refine L0<|bX (aX cn (Ne.symm O) dz) 5 (mG c 0 ((ah.mk b false 0).wordV) 0 0 (((ah.mk b false 0).wordsC 1).wordV) 0 0 0 0 0 0 nS nS nS nS 0 0 0 0 0 nS) fun eR dB cq=>nt<|go<|Pl 1<|?_
 have bb:=us cn cq
 have cr:=ut ch bb (ac (ni f.size d) (ac (ni (le f.size i.size) g) au))
 refine L0<|Oc<|m3 (cV (RC.upd dA cq (aa O ay) cr)) fun eS dC cs eT=>Pl 1<|?_
 refine L0<|bX (aX cs (Ne.symm O) dB) 6 (mG c 0 ((ah.mk b false 0).wordV) 0 0 (((ah.mk b false 0).wordsC 1).wordV) ((((ah.mk b false 0).wordsC 1).wordsC 1).wordV) 0 0 0 0 0 nS nS nS nS 0 0 0 0 0 nS) fun eU dD ct=>nl<|bn<|tn<|sg<|Pl 1<|?_
 have bc:=us cs ct
 have cv:=ut cr bc (ac (ni f.size d) (ac (ni (le f.size i.size) g) au))
 refine L0<|Oc<|m2 (eh (RC.upd dC ct (aa O ay) cv)) fun eV bd aL=>nt<|sq<|sg<|Pl 3<|L0<|dY (p:=⟨l,3,none⟩) (v:=.int .i64 ((((((ah.mk b false 0).wordsC 1).wordsC 1).wordsC 1).endC).e)) (RC.fld bd)<|Pl 1<|nt<|?_
 have cw:=ud cv aL (le f.size d)
 refine cb ((((((((ah.mk b false 0).wordsC 1).wordsC 1).wordsC 1).endC).e)!=0)) (fun af=>?_) (fun af=>?_)
 have be:=aq af
 refine sq<|Rg 7 (fun w'=>w'.cell? ⟨l,3,none⟩=some (.int .i64 ((((((ah.mk b false 0).wordsC 1).wordsC 1).wordsC 1).endC).e))) fun eW aM=>?_
 have cx:=RC.upd bd aM ay (aD.step (RC.u bd) aM)
 refine bg (RC.fld cx) fun ag=>Rt 0 ag<|Rt 1 ag<|Rt 2 ag<|Rt 3 ag<|Rl 4 ag (fun _ hs=>hs)<|?_
 refine R0 5 rfl<|aW (ub (ut s (ut ba (ut bb (u1 bc (aF aL aM) im) (ac im (ac im au))) (ac im (ac im au))) (ac (nr d) (ac (ni i.size g) au))) j) mZ fun eX dE cy=>?_
 have cz:=ud cw (uz aM cy) y
 refine bg (RC.fld (RC.upd cx cy (aa (Ne.symm (nb (am j) lr d)) ay) cz)) fun dF=>Rt 6 dF<|re<|tn<|rt<|tr<|bz dE (.int .i64 ((((((ah.mk b false 0).wordsC 1).wordsC 1).wordsC 1).endC).e))<|?_
 have hs:ae aI 1 c b=aH (aQ.mk c 0 ((ah.mk b false 0).wordV) 0 0 (((ah.mk b false 0).wordsC 1).wordV) ((((ah.mk b false 0).wordsC 1).wordsC 1).wordV) 0 0 0 0 0 [] [] [] [] 0 0 0 0 0 []) ((((ah.mk b false 0).wordsC 1).wordsC 1).wordsC 1):=by
   unfold ae aI bJ bQ d6 cI co cF cH i9
   (try simp only[k,B,D,E,C,t,F,J,af,bs,if_true,if_false,decide_true,decide_false,eq_self,true_or,or_true,or_false,false_or,if_true,if_false,cl,cj,cm,ck,reduceIte,jD,jz])
   all_goals rfl
 rw[hs]
 exact bh be cz
 have be:=ai af
 refine bi<|sg<|?_
 refine L0<|ci (aX aL (Ne.symm O) dD)<|?_
 refine L0<|aW (ub (ut s (ut ba (ut bb (u1 bc aL im) (ac im (ac im au))) (ac im (ac im au))) (ac (nr d) (ac (ni i.size g) au))) j) (mG c 0 ((ah.mk b false 0).wordV) 0 0 (((ah.mk b false 0).wordsC 1).wordV) ((((ah.mk b false 0).wordsC 1).wordsC 1).wordV) 0 0 0 0 0 nS nS nS nS 0 0 0 0 0 nS) fun eY dG dH=>Pl 1<|nt<|rt<|bz dG (.int .i64 0)<|?_
 have hs:ae aI 1 c b=aH (aQ.mk c 0 ((ah.mk b false 0).wordV) 0 0 (((ah.mk b false 0).wordsC 1).wordV) ((((ah.mk b false 0).wordsC 1).wordsC 1).wordV) 0 0 0 0 0 [] [] [] [] 0 0 0 0 0 []) ((((ah.mk b false 0).wordsC 1).wordsC 1).wordsC 1):=by
   unfold ae aI bJ bQ d6 cI co cF cH i9
   (try simp only[k,B,D,E,C,t,F,J,af,bs,if_true,if_false,decide_true,decide_false,eq_self,true_or,or_true,or_false,false_or,if_true,if_false,cl,cj,cm,ck,reduceIte,jD,jz])
   all_goals rfl
 rw[hs]
 exact bo be ⟨_,_,_,_,_,rfl,aK.nil ..,aK.nil ..,(fun _ _ _=>aK.nil ..),aK.nil ..,aK.nil ..,⟨(b8 (x:=c) (by omega)),(b8 (x:=0) (by omega)),(aB (x:=(ah.mk b false 0).wordV) (by omega)),(aB (x:=0) (by omega)),(aB (x:=0) (by omega)),(aB (x:=((ah.mk b false 0).wordsC 1).wordV) (by omega)),(aB (x:=(((ah.mk b false 0).wordsC 1).wordsC 1).wordV) (by omega)),(aB (x:=0) (by omega)),(aB (x:=0) (by omega)),(aB (x:=0) (by omega)),(aB (x:=0) (by omega)),(aB (x:=0) (by omega)),(b8 (x:=0) (by omega)),(b8 (x:=0) (by omega)),(b8 (x:=0) (by omega)),(b8 (x:=0) (by omega)),(b8 (x:=0) (by omega))⟩⟩ (ud cw dH y)
 have dw:=ap J
 refine sg<|Pl 3<|nt<|cf C<|sg<|Pl 3<|cu 3 [168] 171 (false) (fun K cA=>?_) ?_
 refine bl 168 ((c==24)) (fun bf=>?_) (fun bf=>?_)
 have dI:=al bf
 exact Pl 3<|ce cA false rfl
 have dI:=ap bf
 exact Pl 3<|ce cA false rfl
 refine Pl 1<|nt<|c0<|sg<|Pl 3<|nt<|cb ((c==24)) (fun V=>?_) (fun V=>?_)
 have dJ:=al V
 refine sg<|Pl 1<|?_
 have dK:RC w _ A cp b X l (ah.mk b false 0):=⟨hsl,z,(Nat.le_trans f.size d),⟨0,(ub T q),Nat.zero_le _,rfl⟩,by omega⟩
 refine L0<|Oc<|m3 (cV dK) fun eZ dL P f0=>L0<|Oi ((ah.mk b false 0).wordV)<|Pl 1<|ng<|Pl 2<|L0<|Oe (.int .i64 (Int.tmod ((ah.mk b false 0).wordV) 2)) (.int .i64 (((ah.mk b false 0).wordV)%2)) (congrArg (Value.int .i64) (Int.tmod_eq_emod_of_nonneg (by omega)))<|Pl 2<|cu 3 [185] 188 ((((((ah.mk b false 0).wordV)%2)==0)&&(decide (2≤((ah.mk b false 0).wordV))))) (fun K cB=>?_) ?_
 refine bl 185 (((((ah.mk b false 0).wordV)%2)==0)) (fun aj=>?_) (fun aj=>?_)
 have dM:=al aj
 exact Pl 3<|ce cB (decide (2≤((ah.mk b false 0).wordV))) (by rw[aj];rfl)
 have dM:=ap aj
 exact Pl 3<|ce cB false (by rw[aj];rfl)
 refine Pl 1<|cu 3 [189] 192 (((((((ah.mk b false 0).wordV)%2)==0)&&(decide (2≤((ah.mk b false 0).wordV))))&&(decide (((ah.mk b false 0).wordV)≤64)))) (fun K cC=>?_) ?_
 refine bl 189 ((((((ah.mk b false 0).wordV)%2)==0)&&(decide (2≤((ah.mk b false 0).wordV))))) (fun ak=>?_) (fun ak=>?_)
 have dN:=(aR ak).1
 have dO:=(aR ak).2
 have f1:=al dN
 have f2:=of_decide_eq_true dO
 exact Pl 3<|ce cC (decide (((ah.mk b false 0).wordV)≤64)) (by rw[ak];rfl)
 exact Pl 3<|ce cC false (by rw[ak];rfl)
 refine L0<|Oc<|m2 (aY (((((((ah.mk b false 0).wordV)%2)==0)&&(decide (2≤((ah.mk b false 0).wordV))))&&(decide (((ah.mk b false 0).wordV)≤64)))) 5 dL) fun f3 dP Q=>?_
 refine fw dP fun o cD dQ=>?_
 refine ng<|Pl 1<|L0<|Oc<|m3 (cV dQ) fun f4 dR R f5=>L0<|Oi o.wordV<|Pl 1<|ng<|Pl 3<|L0<|Oi (2*o.wordV)<|?_
 refine L0<|Oi ((2*o.wordV)+2)<|Pl 1<|L0<|Oc<|m2 (aY ((((ah.mk b false 0).wordV)==((2*o.wordV)+2))) 5 dR) fun f6 dS S=>?_
 refine fw dS fun G cE dT=>?_
 refine nt<|go<|Pl 2<|L0<|Oc<|mF (fK (n:=o.wordV) (by omega) dT) fun cG cJ f7 L f8 f9 dV dW=>Pl 1<|?_
 have cK:=u1 P (u1 Q (u1 R (u1 S dW im) im) im) im
 have bj:=nb (am q) lr g
 refine L0<|bX (aX cK (Ne.symm bj) Y) 12 (mG c 0 0 0 0 0 0 0 0 0 0 0 (.slice cG ((G.wordsR o.wordV).length) cJ) nS nS nS 0 0 0 0 0 nS) fun fa dX aN=>nl<|bn<|tn<|sg<|Pl 1<|?_
 have bm:=us cK aN
 have cL:=ut z bm (ac (ni f.size d) (ac (ni (le f.size i.size) g) au))
 refine L0<|Oc<|m2 (eh (RC.upd dV aN (aa bj ay) cL)) fun fb bp an=>nt<|sq<|sg<|Pl 3<|L0<|dY (p:=⟨l,3,none⟩) (v:=.int .i64 (((G.wordsC o.wordV).endC).e)) (RC.fld bp)<|Pl 1<|nt<|?_
 have cM:=ud cL an (le f.size d)
 refine cb (((((G.wordsC o.wordV).endC).e)!=0)) (fun ao=>?_) (fun ao=>?_)
 have bq:=aq ao
 refine sq<|Rg 7 (fun w'=>w'.cell? ⟨l,3,none⟩=some (.int .i64 (((G.wordsC o.wordV).endC).e))) fun fc aO=>?_
 have cN:=RC.upd bp aO ay (aD.step (RC.u bp) aO)
 refine bg (RC.fld cN) fun ar=>Rt 0 ar<|Rt 1 ar<|Rt 2 ar<|Rt 3 ar<|Rl 4 ar (fun _ hs=>hs)<|?_
 have cO:=aF an aO
 refine R0 5 rfl<|aW (ub (ut s (u1 bm cO im) (ac (nr d) (ac (ni i.size g) au))) j) mZ fun fd dZ bt=>?_
 have cP:=ud cM (uz aO bt) y
 refine bg (RC.fld (RC.upd cN bt (aa (Ne.symm (nb (am j) lr d)) ay) cP)) fun e0=>Rt 6 e0<|re<|tn<|rt<|tr<|bz dZ (.int .i64 (((G.wordsC o.wordV).endC).e))<|?_
 have fe:=ax L (us aN (us cO bt)) (fun x hx=>(aa (fun e=>(aA (am W) (le (le (le (le r.size P.size) Q.size) R.size) S.size) L) (e▸hx)) (aa (fun e=>(aA (am q) (le (le (le (le (le H.size r.size) P.size) Q.size) R.size) S.size) L) (e▸hx)) (aa (fun e=>(aA (am j) (le (le (le (le (le (le i.size H.size) r.size) P.size) Q.size) R.size) S.size) L) (e▸hx)) ay)))) (fun _ _ h=>h)
 have hs:ae aI 1 c b=aH (aQ.mk c 0 0 0 0 0 0 0 0 0 0 0 (G.wordsR o.wordV) [] [] [] 0 0 0 0 0 []) (G.wordsC o.wordV):=by
   subst cE cD
   unfold ae aI bJ bQ d6 cI co cF cH i9
   (try simp only[k,B,D,E,C,t,F,J,V,ao,bs,if_true,if_false,decide_true,decide_false,eq_self,true_or,or_true,or_false,false_or,if_true,if_false,cl,cj,cm,ck,reduceIte,jD,jz])
   all_goals rfl
 rw[hs]
 exact bh bq cP
 have bq:=ai ao
 refine bi<|sg<|?_
 refine L0<|ci (aX an (Ne.symm bj) dX)<|?_
 refine L0<|aW (ub (ut s (u1 bm an im) (ac (nr d) (ac (ni i.size g) au))) j) (mG c 0 0 0 0 0 0 0 0 0 0 0 (.slice cG ((G.wordsR o.wordV).length) cJ) nS nS nS 0 0 0 0 0 nS) fun ff e1 cQ=>Pl 1<|nt<|rt<|bz e1 (.int .i64 0)<|?_
 have hs:ae aI 1 c b=aH (aQ.mk c 0 0 0 0 0 0 0 0 0 0 0 (G.wordsR o.wordV) [] [] [] 0 0 0 0 0 []) (G.wordsC o.wordV):=by
   subst cE cD
   unfold ae aI bJ bQ d6 cI co cF cH i9
   (try simp only[k,B,D,E,C,t,F,J,V,ao,bs,if_true,if_false,decide_true,decide_false,eq_self,true_or,or_true,or_false,false_or,if_true,if_false,cl,cj,cm,ck,reduceIte,jD,jz])
   all_goals rfl
 rw[hs]
 exact bo bq ⟨_,_,_,_,_,rfl,((ax L (us aN (us an cQ)) (fun x hx=>(aa (fun e=>(aA (am W) (le (le (le (le r.size P.size) Q.size) R.size) S.size) L) (e▸hx)) (aa (fun e=>(aA (am q) (le (le (le (le (le H.size r.size) P.size) Q.size) R.size) S.size) L) (e▸hx)) (aa (fun e=>(aA (am j) (le (le (le (le (le (le i.size H.size) r.size) P.size) Q.size) R.size) S.size) L) (e▸hx)) ay)))) (fun _ _ h=>h))).rd,aK.nil ..,(fun _ _ _=>aK.nil ..),aK.nil ..,aK.nil ..,⟨(b8 (x:=c) (by omega)),(b8 (x:=0) (by omega)),(aB (x:=0) (by omega)),(aB (x:=0) (by omega)),(aB (x:=0) (by omega)),(aB (x:=0) (by omega)),(aB (x:=0) (by omega)),(aB (x:=0) (by omega)),(aB (x:=0) (by omega)),(aB (x:=0) (by omega)),(aB (x:=0) (by omega)),(aB (x:=0) (by omega)),(b8 (x:=0) (by omega)),(b8 (x:=0) (by omega)),(b8 (x:=0) (by omega)),(b8 (x:=0) (by omega)),(b8 (x:=0) (by omega))⟩⟩ (ud cM cQ y)
 have dJ:=ap V
 refine sg<|Pl 1<|?_
 refine L0<|aW (ub s j) mZ fun fg e2 e3=>Pl 1<|nt<|rt<|br<|tr<|bz e2 (.int .i64 4)<|?_
 have hs:ae aI 1 c b=(aQ.zero,4):=by
   unfold ae aI bJ bQ d6 cI co cF cH i9
   (try simp only[k,B,D,E,C,t,F,J,V,bs,if_true,if_false,decide_true,decide_false,eq_self,true_or,or_true,or_false,false_or,if_true,if_false,cl,cj,cm,ck,reduceIte,jD,jz])
   all_goals rfl
 rw[hs]
 exact bu (ud z e3 y)
theorem lx{m:Md}{A:Option Addr}{cp:Nat}{b:List Int}{w:World}{dir c:Int}(hcode:B8 c)(hsl:aT m w (.slice A b.length cp) b)(hb:b.length≤1048576)(hd:¬ (dir=0∨dir=1)) :
    Calls Tryz.prog 94 #[.int .i64 dir,.int .u8 c,.slice A b.length cp] w (dk (.slice A b.length cp) b (ae aI dir c b) w):=by
 obtain⟨hcode1,hcode2⟩:=hcode
 have hln:(b.length:Int)≤1048576:=by omega
 have e0:(dir != 0)=true:=by simp;omega
 have e1:(dir != 1)=true:=by simp;omega
 refine en 221 Tryz.func94 rfl<|sg<|L0<|bE mZ fun g h a d e=>Pl 1<|nt<|sq<|sg<|Pl 3<|sy 18 e0<|Pl 3<|nl<|?_
 refine tn<|ct e1<|sg<|Pl 1<|L0<|aW d mZ fun i dx f=>Pl 1<|nt<|rt<|tr<|bz dx (.int .i64 1)<|?_
 have hs:ae aI dir c b=(aQ.zero,1):=by
   unfold ae aI bJ bQ d6 cI co cF cH i9
   (try simp only[e0,e1,bs,if_true,if_false,decide_true,decide_false,eq_self,true_or,or_true,or_false,false_or,if_true,if_false,cl,cj,cm,ck,reduceIte,hd,jD,jz])
   all_goals rfl
 rw[hs]
 exact bu (ud e f a)
open Go.RowKit
def eI (dir:Int)(C:ah) : ah:=(C.wordsC 1).need (eg C.wordV&&((C.wordV != 4)||(dir==0))) 8
theorem fH{C:ah}:eI 0 C=(C.wordsC 1).need (eg C.wordV) 8:=by
  unfold eI
  rw[show((0:Int)==0)=true from rfl,Bool.or_true,Bool.and_true]
theorem fI{C:ah}:eI 1 C=(C.wordsC 1).need (eg C.wordV&&(C.wordV != 4)) 8:=by
  unfold eI
  rw[show((1:Int)==0)=false from rfl,Bool.or_false]
def d9 (dir c:Int)(C:ah) : ah × aQ :=
  if C.wordV==0 then ((ju (eI dir C)).wordsC (((eI dir C).l.length:Int)/2),{ aQ.zero with code:=c,sub:=C.wordV,words:=(ju (eI dir C)).wordsR (((eI dir C).l.length:Int)/2) })
  else (((eI dir C).wordsC 1).need (f7 dir C.wordV (eI dir C).wordV) 6,{ aQ.zero with code:=c,sub:=C.wordV,words:=[(eI dir C).wordV] })
def cz (c:Int)(C:ah) : ah × aQ :=
  if c==7 then (C.bytesC 1,{ aQ.zero with code:=c,value:=C.byteV })
  else if c==11 then ((dG C).wordsC 1,{ aQ.zero with code:=c,status:=C.wordV,events:=(dG C).wordV })
  else if c==12 then ((i3 C).bytesC (C.byteV-6),{ aQ.zero with code:=c,status:=(gH C 6 70).wordV,events:=(dG (gH C 6 70)).wordV,messages:=((dG (gH C 6 70)).wordsC 1).wordV,data:=(i3 C).bytesR (C.byteV-6) })
  else ((gH C 1 251).bytesC C.byteV,{ aQ.zero with code:=c,data:=(gH C 1 251).bytesR C.byteV })
def b6 (dir c:Int)(C:ah) : Option (ah × aQ) :=
  if ((((c != 7)&&(c != 8))&&(c != 11))&&(c != 12))&&(c != 17) then none
  else if c==8 then some (d9 dir c C)
  else if dir==0 then some (C,{ aQ.zero with code:=c })
  else some (cz c C)
theorem ln{m:Md}{A:Option Addr}{cp:Nat}{b:List Int}{w:World}{c:Int}(hcode:B8 c)(hsl:aT m w (.slice A b.length cp) b)(hb:b.length≤1048576) :
    Calls Tryz.prog 95 #[.int .i64 0,.int .u8 c,.slice A b.length cp] w (dk (.slice A b.length cp) b (ae b6 0 c b) w):=by
 obtain⟨hcode1,hcode2⟩:=hcode
 have hln:(b.length:Int)≤1048576:=by omega
 refine en 197 Tryz.func95 rfl<|sg<|L0<|bE mZ fun cO cP I g i=>Pl 1<|nt<|sq<|sg<|Pl 6<|nt<|c0<|?_
 refine bi<|sq<|sg<|Pl 3<|cu 3 [24] 27 (((c != 7)&&(c != 8))) (fun K aS=>?_) ?_
 refine bl 24 ((c != 7)) (fun P=>?_) (fun P=>?_)
 have bV:=aq P
 exact Pl 3<|ce aS (c != 8) (by rw[P];rfl)
 have bV:=ai P
 exact Pl 3<|ce aS false (by rw[P];rfl)
 refine Pl 1<|cu 3 [28] 31 ((((c != 7)&&(c != 8))&&(c != 11))) (fun K aV=>?_) ?_
 refine bl 28 (((c != 7)&&(c != 8))) (fun Q=>?_) (fun Q=>?_)
 have bW:=(aR Q).1
 have bY:=(aR Q).2
 have cQ:=aq bW
 have cR:=aq bY
 exact Pl 3<|ce aV (c != 11) (by rw[Q];rfl)
 exact Pl 3<|ce aV false (by rw[Q];rfl)
 refine Pl 1<|cu 3 [32] 35 (((((c != 7)&&(c != 8))&&(c != 11))&&(c != 12))) (fun K b0=>?_) ?_
 refine bl 32 ((((c != 7)&&(c != 8))&&(c != 11))) (fun R=>?_) (fun R=>?_)
 have b1:=(aR R).1
 have bZ:=(aR R).2
 have c2:=(aR b1).1
 have c3:=(aR b1).2
 have q19aap:=aq c2
 have q19abp:=aq c3
 have cS:=aq bZ
 exact Pl 3<|ce b0 (c != 12) (by rw[R];rfl)
 exact Pl 3<|ce b0 false (by rw[R];rfl)
 refine Pl 1<|cu 3 [36] 39 ((((((c != 7)&&(c != 8))&&(c != 11))&&(c != 12))&&(c != 17))) (fun K b2=>?_) ?_
 refine bl 36 (((((c != 7)&&(c != 8))&&(c != 11))&&(c != 12))) (fun S=>?_) (fun S=>?_)
 have b3:=(aR S).1
 have c4:=(aR S).2
 have b4:=(aR b3).1
 have c5:=(aR b3).2
 have q21aaa:=(aR b4).1
 have q21aab:=(aR b4).2
 have q21aaap:=aq q21aaa
 have q21aabp:=aq q21aab
 have q21abp:=aq c5
 have cT:=aq c4
 exact Pl 3<|ce b2 (c != 17) (by rw[S];rfl)
 exact Pl 3<|ce b2 false (by rw[S];rfl)
 refine nt<|cb ((((((c != 7)&&(c != 8))&&(c != 11))&&(c != 12))&&(c != 17))) (fun r=>?_) (fun r=>?_)
 have aj:=(aR r).1
 have b5:=(aR r).2
 have ak:=(aR aj).1
 have b7:=(aR aj).2
 have q23aaa:=(aR ak).1
 have q23aab:=(aR ak).2
 have q23aaaa:=(aR q23aaa).1
 have q23aaab:=(aR q23aaa).2
 have q23aaaap:=aq q23aaaa
 have q23aaabp:=aq q23aaab
 have q23aabp:=aq q23aab
 have q23abp:=aq b7
 have cU:=aq b5
 refine sg<|Pl 1<|L0<|aW g mZ fun cW c6 c7=>Pl 1<|nt<|rt<|tr<|bz c6 (.int .i64 4)<|?_
 have hs:ae b6 0 c b=(aQ.zero,4):=by
   unfold ae b6 d9 cz
   (try simp only[r,aj,ak,q23aaa,q23aaaa,q23aaab,q23aab,b7,b5,bs,if_true,if_false,decide_true,decide_false,eq_self,true_or,or_true,or_false,false_or,if_true,if_false,cl,cj,cm,ck,reduceIte,fH,fI])
   all_goals rfl
 rw[hs]
 exact bu (ud i c7 I)
 refine bi<|sg<|Pl 2<|L0<|dq #[.slice A b.length cp,.int .i64 0,.bool false,.int .i64 0] fun D cX a E q=>Pl 1<|ng<|Pl 2<|L0<|bE mZ fun cY cZ s T y=>L0<|aW T (mC c) fun b9 ba k=>?_
 refine nt<|sq<|bk<|sg<|Pl 3<|nt<|?_
 have an:=ud y k s
 have J:=aF q an
 have a6:=aF i J
 refine cb ((c==8)) (fun z=>?_) (fun z=>?_)
 have c8:=al z
 refine sg<|Pl 1<|?_
 have c9:RC w _ A cp b b9 D (ah.mk b false 0):=⟨hsl,a6,(Nat.le_trans i.size a),⟨0,(ub an E),Nat.zero_le _,rfl⟩,by omega⟩
 refine L0<|Oc<|m3 (cV c9) fun d0 ca j d1=>Pl 1<|?_
 have t:=nb (am E) lr s
 refine L0<|bX (aX j (Ne.symm t) ba) 8 (mG c 0 0 0 0 0 0 0 ((ah.mk b false 0).wordV) 0 0 0 nS nS nS nS 0 0 0 0 0 nS) fun cc ao o=>ng<|Pl 1<|L0<|aU ao 8<|L0<|Oc<|m1 (yd (x:=(ah.mk b false 0).wordV) (w:=cc) (by omega)) fun d2 f=>Pl 1<|ng<|Pl 3<|cu 8 [72] 80 ((eg ((ah.mk b false 0).wordV))) (fun K bb=>?_) ?_
 refine bl 72 ((eg ((ah.mk b false 0).wordV))) (fun ar=>?_) (fun ar=>?_)
 refine Pl 1<|?_
 refine L1<|aU (ub f ao) 8<|Pl 2<|cu 3 [76] 79 (true) (fun K bc=>?_) ?_
 refine bl 76 ((((ah.mk b false 0).wordV)!=4)) (fun av=>?_) (fun av=>?_)
 have cd:=aq av
 exact Pl 3<|ce bc true rfl
 have cd:=ai av
 exact Pl 3<|ce bc true rfl
 exact Pl 1<|ce bb true ar
 exact Pl 8<|ce bb false ar
 have bd:=aF o f
 have U:=us j bd
 have be:=ut a6 U (ac (ni i.size a) (ac (ni (le i.size q.size) s) au))
 refine L0<|Oc<|m2 (aY ((eg ((ah.mk b false 0).wordV))) 8 (RC.upd ca bd (aa t ay) be)) fun d3 cf d=>?_
 refine fw cf fun x70 a7 V=>?_
 refine nt<|sq<|sg<|Pl 1<|?_
 have aw:=aX (uz f d) (Ne.symm t) ao
 refine L0<|aU aw 8<|Pl 1<|nt<|?_
 have bf:=ud be d (le i.size a)
 refine cb ((((ah.mk b false 0).wordV)==0)) (fun L=>?_) (fun L=>?_)
 have cg:=al L
 refine sg<|Pl 1<|L0<|Oc<|m1 (i7 V) fun d4 B=>?_
 have d5:=RC.clen V
 refine Pl 1<|ng<|Pl 2<|L0<|Oe (.int .i64 (Int.tmod ((x70.l.length:Nat) : Int) 2)) (.int .i64 (((x70.l.length:Nat) : Int)%2)) (congrArg (Value.int .i64) (Int.tmod_eq_emod_of_nonneg (by omega)))<|Pl 2<|cu 3 [91] 94 ((((((x70.l.length:Nat) : Int)%2)==0)&&(decide (2≤((x70.l.length:Nat) : Int))))) (fun K bj=>?_) ?_
 refine bl 91 (((((x70.l.length:Nat) : Int)%2)==0)) (fun W=>?_) (fun W=>?_)
 have ch:=al W
 exact Pl 3<|ce bj (decide (2≤((x70.l.length:Nat) : Int))) (by rw[W];rfl)
 have ch:=ap W
 exact Pl 3<|ce bj false (by rw[W];rfl)
 refine Pl 1<|cu 3 [95] 98 (((((((x70.l.length:Nat) : Int)%2)==0)&&(decide (2≤((x70.l.length:Nat) : Int))))&&(decide (((x70.l.length:Nat) : Int)≤250)))) (fun K bm=>?_) ?_
 refine bl 95 ((((((x70.l.length:Nat) : Int)%2)==0)&&(decide (2≤((x70.l.length:Nat) : Int))))) (fun X=>?_) (fun X=>?_)
 have cn:=(aR X).1
 have co:=(aR X).2
 have d6:=al cn
 have d7:=of_decide_eq_true co
 exact Pl 3<|ce bm (decide (((x70.l.length:Nat) : Int)≤250)) (by rw[X];rfl)
 exact Pl 3<|ce bm false (by rw[X];rfl)
 refine L0<|Oc<|m2 (aY (((((((x70.l.length:Nat) : Int)%2)==0)&&(decide (2≤((x70.l.length:Nat) : Int))))&&(decide (((x70.l.length:Nat) : Int)≤250)))) 5 (RC.upd V B ay (aD.step (RC.u V) B))) fun d8 cq M=>?_
 refine fw cq fun x88 bp cr=>?_
 refine ng<|Pl 2<|L0<|Oe (.int .i64 (IntKind.i64.wrap (Int.tdiv ((x70.l.length:Nat) : Int) 2))) (.int .i64 (((x70.l.length:Nat) : Int)/2)) (congrArg (Value.int .i64) (fA (by omega) (by omega)))<|L0<|Oc<|mF (fK (n:=(((x70.l.length:Nat) : Int)/2)) (by omega) cr) fun bq br da F db dc cs ct=>Pl 1<|?_
 have bt:=uz B (u1 M ct im)
 refine L0<|bX (aX bt (Ne.symm t) aw) 12 (mG c 0 0 0 0 0 0 0 ((ah.mk b false 0).wordV) 0 0 0 (.slice bq ((x88.wordsR (((x70.l.length:Nat) : Int)/2)).length) br) nS nS nS 0 0 0 0 0 nS) fun dd cv a8=>nt<|xt<|tx<|bx<|tn<|sg<|Pl 1<|?_
 have aC:=us bt a8
 have bv:=ut bf aC (ac (ni i.size a) (ac (ni (le i.size q.size) s) au))
 refine L0<|Oc<|m2 (eh (RC.upd cs a8 (aa t ay) bv)) fun de aE Y=>nt<|sq<|sg<|Pl 3<|L0<|dY (p:=⟨D,3,none⟩) (v:=.int .i64 (((x88.wordsC (((x70.l.length:Nat) : Int)/2)).endC).e)) (RC.fld aE)<|Pl 1<|nt<|?_
 have bw:=ud bv Y (le i.size a)
 refine cb (((((x88.wordsC (((x70.l.length:Nat) : Int)/2)).endC).e)!=0)) (fun Z=>?_) (fun Z=>?_)
 have aG:=aq Z
 refine sq<|Rg 7 (fun w'=>w'.cell? ⟨D,3,none⟩=some (.int .i64 (((x88.wordsC (((x70.l.length:Nat) : Int)/2)).endC).e))) fun df a9=>?_
 have bA:=RC.upd aE a9 ay (aD.step (RC.u aE) a9)
 refine bg (RC.fld bA) fun a0=>Rt 0 a0<|Rt 1 a0<|Rt 2 a0<|Rt 3 a0<|Rl 4 a0 (fun _ hs=>hs)<|?_
 have bB:=aF Y a9
 refine R0 5 rfl<|aW (ub (ut J (ut U (ui d (u1 aC bB im)) (ac im (ac im au))) (ac (nr a) (ac (ni q.size s) au))) g) mZ fun dg cw aI=>?_
 have bC:=ud bw (uz a9 aI) I
 refine bg (RC.fld (RC.upd bA aI (aa (Ne.symm (nb (am g) lr a)) ay) bC)) fun cx=>Rt 6 cx<|re<|tn<|rt<|tr<|bz cw (.int .i64 (((x88.wordsC (((x70.l.length:Nat) : Int)/2)).endC).e))<|?_
 have dh:=ax F (us a8 (us bB aI)) (fun x hx=>(aa (fun e=>(aA (am T) (le (le (le (le (le (le k.size j.size) o.size) f.size) d.size) B.size) M.size) F) (e▸hx)) (aa (fun e=>(aA (am E) (le (le (le (le (le (le (le y.size k.size) j.size) o.size) f.size) d.size) B.size) M.size) F) (e▸hx)) (aa (fun e=>(aA (am g) (le (le (le (le (le (le (le (le q.size y.size) k.size) j.size) o.size) f.size) d.size) B.size) M.size) F) (e▸hx)) ay)))) (fun _ _ h=>h)
 have hs:ae b6 0 c b=aH (aQ.mk c 0 0 0 0 0 0 0 ((ah.mk b false 0).wordV) 0 0 0 (x88.wordsR (((x70.l.length:Nat) : Int)/2)) [] [] [] 0 0 0 0 0 []) (x88.wordsC (((x70.l.length:Nat) : Int)/2)):=by
   subst bp a7
   unfold ae b6 d9 cz
   (try simp only[r,z,L,Z,bs,if_true,if_false,decide_true,decide_false,eq_self,true_or,or_true,or_false,false_or,if_true,if_false,cl,cj,cm,ck,reduceIte,fH,fI])
   all_goals rfl
 rw[hs]
 exact bh aG bC
 have aG:=ai Z
 refine bi<|sg<|?_
 refine L0<|ci (aX Y (Ne.symm t) cv)<|?_
 refine L0<|aW (ub (ut J (ut U (ui d (u1 aC Y im)) (ac im (ac im au))) (ac (nr a) (ac (ni q.size s) au))) g) (mG c 0 0 0 0 0 0 0 ((ah.mk b false 0).wordV) 0 0 0 (.slice bq ((x88.wordsR (((x70.l.length:Nat) : Int)/2)).length) br) nS nS nS 0 0 0 0 0 nS) fun di cy bD=>Pl 1<|nt<|rt<|bz cy (.int .i64 0)<|?_
 have hs:ae b6 0 c b=aH (aQ.mk c 0 0 0 0 0 0 0 ((ah.mk b false 0).wordV) 0 0 0 (x88.wordsR (((x70.l.length:Nat) : Int)/2)) [] [] [] 0 0 0 0 0 []) (x88.wordsC (((x70.l.length:Nat) : Int)/2)):=by
   subst bp a7
   unfold ae b6 d9 cz
   (try simp only[r,z,L,Z,bs,if_true,if_false,decide_true,decide_false,eq_self,true_or,or_true,or_false,false_or,if_true,if_false,cl,cj,cm,ck,reduceIte,fH,fI])
   all_goals rfl
 rw[hs]
 exact bo aG ⟨_,_,_,_,_,rfl,((ax F (us a8 (us Y bD)) (fun x hx=>(aa (fun e=>(aA (am T) (le (le (le (le (le (le k.size j.size) o.size) f.size) d.size) B.size) M.size) F) (e▸hx)) (aa (fun e=>(aA (am E) (le (le (le (le (le (le (le y.size k.size) j.size) o.size) f.size) d.size) B.size) M.size) F) (e▸hx)) (aa (fun e=>(aA (am g) (le (le (le (le (le (le (le (le q.size y.size) k.size) j.size) o.size) f.size) d.size) B.size) M.size) F) (e▸hx)) ay)))) (fun _ _ h=>h))).rd,aK.nil ..,(fun _ _ _=>aK.nil ..),aK.nil ..,aK.nil ..,⟨(b8 (x:=c) (by omega)),(b8 (x:=0) (by omega)),(aB (x:=0) (by omega)),(aB (x:=0) (by omega)),(aB (x:=0) (by omega)),(aB (x:=0) (by omega)),(aB (x:=0) (by omega)),(aB (x:=0) (by omega)),(aB (x:=(ah.mk b false 0).wordV) (by omega)),(aB (x:=0) (by omega)),(aB (x:=0) (by omega)),(aB (x:=0) (by omega)),(b8 (x:=0) (by omega)),(b8 (x:=0) (by omega)),(b8 (x:=0) (by omega)),(b8 (x:=0) (by omega)),(b8 (x:=0) (by omega))⟩⟩ (ud bw bD I)
 have cg:=ap L
 refine bi<|sg<|Pl 1<|L0<|Oc<|m3 (cV V) fun cA bF G dj=>Pl 1<|ng<|Pl 3<|?_
 have bG:=aX G (Ne.symm t) aw
 refine L0<|aU bG 8<|Pl 1<|L0<|Oc<|m1 (xS (dir:=0) (sub:=(ah.mk b false 0).wordV) (v:=x70.wordV) (w:=cA) (by omega)) fun dl C=>?_
 refine L0<|Oc<|m2 (aY ((f7 0 ((ah.mk b false 0).wordV) x70.wordV)) 6 (RC.upd bF C ay (aD.step (RC.u bF) C))) fun dm cB N=>?_
 refine fw cB fun O bH cC=>?_
 refine nt<|go<|Pl 1<|L0<|dD (m:=1) (e:=24) #[.int .u16 x70.wordV] fun bI dn cD cE bJ=>?_
 have H:=ek cD (xs:=[x70.wordV]) (by as_aux_lemma=>kernel_rfl) (az (by omega) aZ) (by(try simp only[List.length_cons,List.length_nil]);omega) cE
 refine Pl 1<|?_
 have bK:=uz C (aF N bJ)
 refine L0<|bX (aX bK (Ne.symm t) bG) 12 (mG c 0 0 0 0 0 0 0 ((ah.mk b false 0).wordV) 0 0 0 (.slice (some ⟨bI,0,none⟩) 1 1) nS nS nS 0 0 0 0 0 nS) fun dp cF ab=>nl<|bn<|tn<|sg<|Pl 1<|?_
 have aJ:=ui G (us bK ab)
 have bL:=ut bf aJ (ac (ni i.size a) (ac (ni (le i.size q.size) s) au))
 refine L0<|Oc<|m2 (eh (RC.upd cC (uz bJ ab) (aa t ay) bL)) fun dr aL a1=>nt<|sq<|sg<|Pl 3<|L0<|dY (p:=⟨D,3,none⟩) (v:=.int .i64 O.endC.e) (RC.fld aL)<|Pl 1<|nt<|?_
 have bM:=ud bL a1 (le i.size a)
 refine cb ((O.endC.e != 0)) (fun a2=>?_) (fun a2=>?_)
 have aM:=aq a2
 refine sq<|Rg 7 (fun w'=>w'.cell? ⟨D,3,none⟩=some (.int .i64 O.endC.e)) fun ds ad=>?_
 have bN:=RC.upd aL ad ay (aD.step (RC.u aL) ad)
 refine bg (RC.fld bN) fun a3=>Rt 0 a3<|Rt 1 a3<|Rt 2 a3<|Rt 3 a3<|Rl 4 a3 (fun _ hs=>hs)<|?_
 have bO:=aF a1 ad
 refine R0 5 rfl<|aW (ub (ut J (ut U (ui d (u1 aJ bO im)) (ac im (ac im au))) (ac (nr a) (ac (ni q.size s) au))) g) mZ fun dt cG aN=>?_
 have bP:=ud bM (uz ad aN) I
 refine bg (RC.fld (RC.upd bN aN (aa (Ne.symm (nb (am g) lr a)) ay) bP)) fun cH=>Rt 6 cH<|re<|tn<|rt<|tr<|bz cG (.int .i64 O.endC.e)<|?_
 have du:=ax H (us ab (us bO aN)) (fun x hx=>(aa (fun e=>(aA (am T) (le (le (le (le (le (le (le k.size j.size) o.size) f.size) d.size) G.size) C.size) N.size) H) (e▸hx)) (aa (fun e=>(aA (am E) (le (le (le (le (le (le (le (le y.size k.size) j.size) o.size) f.size) d.size) G.size) C.size) N.size) H) (e▸hx)) (aa (fun e=>(aA (am g) (le (le (le (le (le (le (le (le (le q.size y.size) k.size) j.size) o.size) f.size) d.size) G.size) C.size) N.size) H) (e▸hx)) ay)))) (fun _ _ h=>h)
 have hs:ae b6 0 c b=aH (aQ.mk c 0 0 0 0 0 0 0 ((ah.mk b false 0).wordV) 0 0 0 [x70.wordV] [] [] [] 0 0 0 0 0 []) O:=by
   subst bH a7
   unfold ae b6 d9 cz
   (try simp only[r,z,L,a2,bs,if_true,if_false,decide_true,decide_false,eq_self,true_or,or_true,or_false,false_or,if_true,if_false,cl,cj,cm,ck,reduceIte,fH,fI])
   all_goals rfl
 rw[hs]
 exact bh aM bP
 have aM:=ai a2
 refine bi<|sg<|?_
 refine L0<|ci (aX a1 (Ne.symm t) cF)<|?_
 refine L0<|aW (ub (ut J (ut U (ui d (u1 aJ a1 im)) (ac im (ac im au))) (ac (nr a) (ac (ni q.size s) au))) g) (mG c 0 0 0 0 0 0 0 ((ah.mk b false 0).wordV) 0 0 0 (.slice (some ⟨bI,0,none⟩) 1 1) nS nS nS 0 0 0 0 0 nS) fun dv cI bQ=>Pl 1<|nt<|rt<|bz cI (.int .i64 0)<|?_
 have hs:ae b6 0 c b=aH (aQ.mk c 0 0 0 0 0 0 0 ((ah.mk b false 0).wordV) 0 0 0 [x70.wordV] [] [] [] 0 0 0 0 0 []) O:=by
   subst bH a7
   unfold ae b6 d9 cz
   (try simp only[r,z,L,a2,bs,if_true,if_false,decide_true,decide_false,eq_self,true_or,or_true,or_false,false_or,if_true,if_false,cl,cj,cm,ck,reduceIte,fH,fI])
   all_goals rfl
 rw[hs]
 exact bo aM ⟨_,_,_,_,_,rfl,((ax H (us ab (us a1 bQ)) (fun x hx=>(aa (fun e=>(aA (am T) (le (le (le (le (le (le (le k.size j.size) o.size) f.size) d.size) G.size) C.size) N.size) H) (e▸hx)) (aa (fun e=>(aA (am E) (le (le (le (le (le (le (le (le y.size k.size) j.size) o.size) f.size) d.size) G.size) C.size) N.size) H) (e▸hx)) (aa (fun e=>(aA (am g) (le (le (le (le (le (le (le (le (le q.size y.size) k.size) j.size) o.size) f.size) d.size) G.size) C.size) N.size) H) (e▸hx)) ay)))) (fun _ _ h=>h))).rd,aK.nil ..,(fun _ _ _=>aK.nil ..),aK.nil ..,aK.nil ..,⟨(b8 (x:=c) (by omega)),(b8 (x:=0) (by omega)),(aB (x:=0) (by omega)),(aB (x:=0) (by omega)),(aB (x:=0) (by omega)),(aB (x:=0) (by omega)),(aB (x:=0) (by omega)),(aB (x:=0) (by omega)),(aB (x:=(ah.mk b false 0).wordV) (by omega)),(aB (x:=0) (by omega)),(aB (x:=0) (by omega)),(aB (x:=0) (by omega)),(b8 (x:=0) (by omega)),(b8 (x:=0) (by omega)),(b8 (x:=0) (by omega)),(b8 (x:=0) (by omega)),(b8 (x:=0) (by omega))⟩⟩ (ud bM bQ I)
 have c8:=ap z
 refine sg<|Pl 3<|nt<|c1<|sk<|bn<|tn<|sg<|Pl 1<|?_
 have cJ:RC w _ A cp b b9 D (ah.mk b false 0):=⟨hsl,a6,(Nat.le_trans i.size a),⟨0,(ub an E),Nat.zero_le _,rfl⟩,by omega⟩
 refine L0<|Oc<|m2 (eh cJ) fun dw aO af=>nt<|sq<|sg<|Pl 3<|L0<|dY (p:=⟨D,3,none⟩) (v:=.int .i64 (((ah.mk b false 0).endC).e)) (RC.fld aO)<|Pl 1<|nt<|?_
 have bR:=ud a6 af (le i.size a)
 refine cb (((((ah.mk b false 0).endC).e)!=0)) (fun a4=>?_) (fun a4=>?_)
 have aP:=aq a4
 refine sq<|Rg 7 (fun w'=>w'.cell? ⟨D,3,none⟩=some (.int .i64 (((ah.mk b false 0).endC).e))) fun dx ag=>?_
 have bS:=RC.upd aO ag ay (aD.step (RC.u aO) ag)
 refine bg (RC.fld bS) fun a5=>Rt 0 a5<|Rt 1 a5<|Rt 2 a5<|Rt 3 a5<|Rl 4 a5 (fun _ hs=>hs)<|?_
 refine R0 5 rfl<|aW (ub (ud J (aF af ag) a) g) mZ fun dy cK bT=>?_
 have bU:=ud bR (uz ag bT) I
 refine bg (RC.fld (RC.upd bS bT (aa (Ne.symm (nb (am g) lr a)) ay) bU)) fun cL=>Rt 6 cL<|re<|tn<|rt<|tr<|bz cK (.int .i64 (((ah.mk b false 0).endC).e))<|?_
 have hs:ae b6 0 c b=aH (aQ.mk c 0 0 0 0 0 0 0 0 0 0 0 [] [] [] [] 0 0 0 0 0 []) (ah.mk b false 0):=by
   unfold ae b6 d9 cz
   (try simp only[r,z,a4,bs,if_true,if_false,decide_true,decide_false,eq_self,true_or,or_true,or_false,false_or,if_true,if_false,cl,cj,cm,ck,reduceIte,fH,fI])
   all_goals rfl
 rw[hs]
 exact bh aP bU
 have aP:=ai a4
 refine bi<|sg<|?_
 refine L0<|ci (aX af (Ne.symm (nb (am E) lr s)) ba)<|?_
 refine L0<|aW (ub (ud J af a) g) (mC c) fun dz cM cN=>Pl 1<|nt<|rt<|bz cM (.int .i64 0)<|?_
 have hs:ae b6 0 c b=aH (aQ.mk c 0 0 0 0 0 0 0 0 0 0 0 [] [] [] [] 0 0 0 0 0 []) (ah.mk b false 0):=by
   unfold ae b6 d9 cz
   (try simp only[r,z,a4,bs,if_true,if_false,decide_true,decide_false,eq_self,true_or,or_true,or_false,false_or,if_true,if_false,cl,cj,cm,ck,reduceIte,fH,fI])
   all_goals rfl
 rw[hs]
 exact bo aP ⟨_,_,_,_,_,rfl,aK.nil ..,aK.nil ..,(fun _ _ _=>aK.nil ..),aK.nil ..,aK.nil ..,⟨(b8 (x:=c) (by omega)),(b8 (x:=0) (by omega)),(aB (x:=0) (by omega)),(aB (x:=0) (by omega)),(aB (x:=0) (by omega)),(aB (x:=0) (by omega)),(aB (x:=0) (by omega)),(aB (x:=0) (by omega)),(aB (x:=0) (by omega)),(aB (x:=0) (by omega)),(aB (x:=0) (by omega)),(aB (x:=0) (by omega)),(b8 (x:=0) (by omega)),(b8 (x:=0) (by omega)),(b8 (x:=0) (by omega)),(b8 (x:=0) (by omega)),(b8 (x:=0) (by omega))⟩⟩ (ud bR cN I)
theorem lf{m:Md}{A:Option Addr}{cp:Nat}{b:List Int}{w:World}{c:Int}(hcode:B8 c)(hsl:aT m w (.slice A b.length cp) b)(hb:b.length≤1048576) :
    Calls Tryz.prog 95 #[.int .i64 1,.int .u8 c,.slice A b.length cp] w (dk (.slice A b.length cp) b (ae b6 1 c b) w):=by
 obtain⟨hcode1,hcode2⟩:=hcode
 have hln:(b.length:Int)≤1048576:=by omega
 refine en 197 Tryz.func95 rfl<|sg<|L0<|bE mZ fun ft fv B i d=>Pl 1<|nt<|sq<|sg<|Pl 6<|nt<|c0<|?_
 refine bi<|sq<|sg<|Pl 3<|cu 3 [24] 27 (((c != 7)&&(c != 8))) (fun K bY=>?_) ?_
 refine bl 24 ((c != 7)) (fun a0=>?_) (fun a0=>?_)
 have dK:=aq a0
 exact Pl 3<|ce bY (c != 8) (by rw[a0];rfl)
 have dK:=ai a0
 exact Pl 3<|ce bY false (by rw[a0];rfl)
 refine Pl 1<|cu 3 [28] 31 ((((c != 7)&&(c != 8))&&(c != 11))) (fun K bZ=>?_) ?_
 refine bl 28 (((c != 7)&&(c != 8))) (fun a1=>?_) (fun a1=>?_)
 have dL:=(aR a1).1
 have dM:=(aR a1).2
 have fx:=aq dL
 have fy:=aq dM
 exact Pl 3<|ce bZ (c != 11) (by rw[a1];rfl)
 exact Pl 3<|ce bZ false (by rw[a1];rfl)
 refine Pl 1<|cu 3 [32] 35 (((((c != 7)&&(c != 8))&&(c != 11))&&(c != 12))) (fun K c1=>?_) ?_
 refine bl 32 ((((c != 7)&&(c != 8))&&(c != 11))) (fun a2=>?_) (fun a2=>?_)
 have c2:=(aR a2).1
 have dN:=(aR a2).2
 have dO:=(aR c2).1
 have dP:=(aR c2).2
 have q19aap:=aq dO
 have q19abp:=aq dP
 have fz:=aq dN
 exact Pl 3<|ce c1 (c != 12) (by rw[a2];rfl)
 exact Pl 3<|ce c1 false (by rw[a2];rfl)
 refine Pl 1<|cu 3 [36] 39 ((((((c != 7)&&(c != 8))&&(c != 11))&&(c != 12))&&(c != 17))) (fun K c3=>?_) ?_
 refine bl 36 (((((c != 7)&&(c != 8))&&(c != 11))&&(c != 12))) (fun a3=>?_) (fun a3=>?_)
 have c4:=(aR a3).1
 have dQ:=(aR a3).2
 have c5:=(aR c4).1
 have dR:=(aR c4).2
 have q21aaa:=(aR c5).1
 have q21aab:=(aR c5).2
 have q21aaap:=aq q21aaa
 have q21aabp:=aq q21aab
 have q21abp:=aq dR
 have fB:=aq dQ
 exact Pl 3<|ce c3 (c != 17) (by rw[a3];rfl)
 exact Pl 3<|ce c3 false (by rw[a3];rfl)
 refine nt<|cb ((((((c != 7)&&(c != 8))&&(c != 11))&&(c != 12))&&(c != 17))) (fun q=>?_) (fun q=>?_)
 have bd:=(aR q).1
 have c6:=(aR q).2
 have be:=(aR bd).1
 have c7:=(aR bd).2
 have q23aaa:=(aR be).1
 have q23aab:=(aR be).2
 have q23aaaa:=(aR q23aaa).1
 have q23aaab:=(aR q23aaa).2
 have q23aaaap:=aq q23aaaa
 have q23aaabp:=aq q23aaab
 have q23aabp:=aq q23aab
 have q23abp:=aq c7
 have fC:=aq c6
 refine sg<|Pl 1<|L0<|aW i mZ fun fD dS dT=>Pl 1<|nt<|rt<|tr<|bz dS (.int .i64 4)<|?_
 have hs:ae b6 1 c b=(aQ.zero,4):=by
   unfold ae b6 d9 cz
   (try simp only[q,bd,be,q23aaa,q23aaaa,q23aaab,q23aab,c7,c6,bs,if_true,if_false,decide_true,decide_false,eq_self,true_or,or_true,or_false,false_or,if_true,if_false,cl,cj,cm,ck,reduceIte,fH,fI])
   all_goals rfl
 rw[hs]
 exact bu (ud d dT B)
 refine bi<|sg<|Pl 2<|L0<|dq #[.slice A b.length cp,.int .i64 0,.bool false,.int .i64 0] fun o fE a t g=>Pl 1<|ng<|Pl 2<|L0<|bE mZ fun fF fG f a4 L=>L0<|aW a4 (mC c) fun a5 a6 C=>?_
 refine nt<|sq<|bk<|sg<|Pl 3<|nt<|?_
 have X:=ud L C f
 have D:=aF g X
 have I:=aF d D
 refine cb ((c==8)) (fun r=>?_) (fun r=>?_)
 have dV:=al r
 refine sg<|Pl 1<|?_
 have dW:RC w _ A cp b a5 o (ah.mk b false 0):=⟨hsl,I,(Nat.le_trans d.size a),⟨0,(ub X t),Nat.zero_le _,rfl⟩,by omega⟩
 refine L0<|Oc<|m3 (cV dW) fun fJ dX y fL=>Pl 1<|?_
 have J:=nb (am t) lr f
 refine L0<|bX (aX y (Ne.symm J) a6) 8 (mG c 0 0 0 0 0 0 0 ((ah.mk b false 0).wordV) 0 0 0 nS nS nS nS 0 0 0 0 0 nS) fun dZ bf E=>ng<|Pl 1<|L0<|aU bf 8<|L0<|Oc<|m1 (yd (x:=(ah.mk b false 0).wordV) (w:=dZ) (by omega)) fun fM s=>Pl 1<|ng<|Pl 3<|cu 8 [72] 80 (((eg ((ah.mk b false 0).wordV))&&(((ah.mk b false 0).wordV)!=4))) (fun K c8=>?_) ?_
 refine bl 72 ((eg ((ah.mk b false 0).wordV))) (fun bj=>?_) (fun bj=>?_)
 refine Pl 1<|?_
 refine L1<|aU (ub s bf) 8<|Pl 2<|cu 3 [76] 79 ((((ah.mk b false 0).wordV)!=4)) (fun K c9=>?_) ?_
 refine bl 76 ((((ah.mk b false 0).wordV)!=4)) (fun a7=>?_) (fun a7=>?_)
 have e0:=aq a7
 exact Pl 3<|ce c9 true a7
 have e0:=ai a7
 exact Pl 3<|ce c9 false a7
 exact Pl 1<|ce c8 (((ah.mk b false 0).wordV)!=4) (by rw[bj];rfl)
 exact Pl 8<|ce c8 false (by rw[bj];rfl)
 have ca:=aF E s
 have a8:=us y ca
 have cc:=ut I a8 (ac (ni d.size a) (ac (ni (le d.size g.size) f) au))
 refine L0<|Oc<|m2 (aY (((eg ((ah.mk b false 0).wordV))&&(((ah.mk b false 0).wordV)!=4))) 8 (RC.upd dX ca (aa J ay) cc)) fun fN e1 j=>?_
 refine fw e1 fun x70 aS a9=>?_
 refine nt<|sq<|sg<|Pl 1<|?_
 have bm:=aX (uz s j) (Ne.symm J) bf
 refine L0<|aU bm 8<|Pl 1<|nt<|?_
 have cd:=ud cc j (le d.size a)
 refine cb ((((ah.mk b false 0).wordV)==0)) (fun T=>?_) (fun T=>?_)
 have e2:=al T
 refine sg<|Pl 1<|L0<|Oc<|m1 (i7 a9) fun fO M=>?_
 have fP:=RC.clen a9
 refine Pl 1<|ng<|Pl 2<|L0<|Oe (.int .i64 (Int.tmod ((x70.l.length:Nat) : Int) 2)) (.int .i64 (((x70.l.length:Nat) : Int)%2)) (congrArg (Value.int .i64) (Int.tmod_eq_emod_of_nonneg (by omega)))<|Pl 2<|cu 3 [91] 94 ((((((x70.l.length:Nat) : Int)%2)==0)&&(decide (2≤((x70.l.length:Nat) : Int))))) (fun K cf=>?_) ?_
 refine bl 91 (((((x70.l.length:Nat) : Int)%2)==0)) (fun ab=>?_) (fun ab=>?_)
 have e3:=al ab
 exact Pl 3<|ce cf (decide (2≤((x70.l.length:Nat) : Int))) (by rw[ab];rfl)
 have e3:=ap ab
 exact Pl 3<|ce cf false (by rw[ab];rfl)
 refine Pl 1<|cu 3 [95] 98 (((((((x70.l.length:Nat) : Int)%2)==0)&&(decide (2≤((x70.l.length:Nat) : Int))))&&(decide (((x70.l.length:Nat) : Int)≤250)))) (fun K cg=>?_) ?_
 refine bl 95 ((((((x70.l.length:Nat) : Int)%2)==0)&&(decide (2≤((x70.l.length:Nat) : Int))))) (fun ad=>?_) (fun ad=>?_)
 have e4:=(aR ad).1
 have e5:=(aR ad).2
 have fQ:=al e4
 have fR:=of_decide_eq_true e5
 exact Pl 3<|ce cg (decide (((x70.l.length:Nat) : Int)≤250)) (by rw[ad];rfl)
 exact Pl 3<|ce cg false (by rw[ad];rfl)
 refine L0<|Oc<|m2 (aY (((((((x70.l.length:Nat) : Int)%2)==0)&&(decide (2≤((x70.l.length:Nat) : Int))))&&(decide (((x70.l.length:Nat) : Int)≤250)))) 5 (RC.upd a9 M ay (aD.step (RC.u a9) M))) fun fS e6 U=>?_
 refine fw e6 fun x88 ch e7=>?_
 refine ng<|Pl 2<|L0<|Oe (.int .i64 (IntKind.i64.wrap (Int.tdiv ((x70.l.length:Nat) : Int) 2))) (.int .i64 (((x70.l.length:Nat) : Int)/2)) (congrArg (Value.int .i64) (fA (by omega) (by omega)))<|L0<|Oc<|mF (fK (n:=(((x70.l.length:Nat) : Int)/2)) (by omega) e7) fun cn co fT Q fU fV e8 e9=>Pl 1<|?_
 have cq:=uz M (u1 U e9 im)
 refine L0<|bX (aX cq (Ne.symm J) bm) 12 (mG c 0 0 0 0 0 0 0 ((ah.mk b false 0).wordV) 0 0 0 (.slice cn ((x88.wordsR (((x70.l.length:Nat) : Int)/2)).length) co) nS nS nS 0 0 0 0 0 nS) fun fW ea aV=>nt<|xt<|tx<|bx<|tn<|sg<|Pl 1<|?_
 have bp:=us cq aV
 have cr:=ut cd bp (ac (ni d.size a) (ac (ni (le d.size g.size) f) au))
 refine L0<|Oc<|m2 (eh (RC.upd e8 aV (aa J ay) cr)) fun fX bq af=>nt<|sq<|sg<|Pl 3<|L0<|dY (p:=⟨o,3,none⟩) (v:=.int .i64 (((x88.wordsC (((x70.l.length:Nat) : Int)/2)).endC).e)) (RC.fld bq)<|Pl 1<|nt<|?_
 have cs:=ud cr af (le d.size a)
 refine cb (((((x88.wordsC (((x70.l.length:Nat) : Int)/2)).endC).e)!=0)) (fun ag=>?_) (fun ag=>?_)
 have br:=aq ag
 refine sq<|Rg 7 (fun w'=>w'.cell? ⟨o,3,none⟩=some (.int .i64 (((x88.wordsC (((x70.l.length:Nat) : Int)/2)).endC).e))) fun fY b0=>?_
 have ct:=RC.upd bq b0 ay (aD.step (RC.u bq) b0)
 refine bg (RC.fld ct) fun aj=>Rt 0 aj<|Rt 1 aj<|Rt 2 aj<|Rt 3 aj<|Rl 4 aj (fun _ hs=>hs)<|?_
 have cv:=aF af b0
 refine R0 5 rfl<|aW (ub (ut D (ut a8 (ui j (u1 bp cv im)) (ac im (ac im au))) (ac (nr a) (ac (ni g.size f) au))) i) mZ fun fZ eb bt=>?_
 have cw:=ud cs (uz b0 bt) B
 refine bg (RC.fld (RC.upd ct bt (aa (Ne.symm (nb (am i) lr a)) ay) cw)) fun ec=>Rt 6 ec<|re<|tn<|rt<|tr<|bz eb (.int .i64 (((x88.wordsC (((x70.l.length:Nat) : Int)/2)).endC).e))<|?_
 have g0:=ax Q (us aV (us cv bt)) (fun x hx=>(aa (fun e=>(aA (am a4) (le (le (le (le (le (le C.size y.size) E.size) s.size) j.size) M.size) U.size) Q) (e▸hx)) (aa (fun e=>(aA (am t) (le (le (le (le (le (le (le L.size C.size) y.size) E.size) s.size) j.size) M.size) U.size) Q) (e▸hx)) (aa (fun e=>(aA (am i) (le (le (le (le (le (le (le (le g.size L.size) C.size) y.size) E.size) s.size) j.size) M.size) U.size) Q) (e▸hx)) ay)))) (fun _ _ h=>h)
 have hs:ae b6 1 c b=aH (aQ.mk c 0 0 0 0 0 0 0 ((ah.mk b false 0).wordV) 0 0 0 (x88.wordsR (((x70.l.length:Nat) : Int)/2)) [] [] [] 0 0 0 0 0 []) (x88.wordsC (((x70.l.length:Nat) : Int)/2)):=by
   subst ch aS
   unfold ae b6 d9 cz
   (try simp only[q,r,T,ag,bs,if_true,if_false,decide_true,decide_false,eq_self,true_or,or_true,or_false,false_or,if_true,if_false,cl,cj,cm,ck,reduceIte,fH,fI])
   all_goals rfl
 rw[hs]
 exact bh br cw
 have br:=ai ag
 refine bi<|sg<|?_
 refine L0<|ci (aX af (Ne.symm J) ea)<|?_
 refine L0<|aW (ub (ut D (ut a8 (ui j (u1 bp af im)) (ac im (ac im au))) (ac (nr a) (ac (ni g.size f) au))) i) (mG c 0 0 0 0 0 0 0 ((ah.mk b false 0).wordV) 0 0 0 (.slice cn ((x88.wordsR (((x70.l.length:Nat) : Int)/2)).length) co) nS nS nS 0 0 0 0 0 nS) fun g1 ed cx=>Pl 1<|nt<|rt<|bz ed (.int .i64 0)<|?_
 have hs:ae b6 1 c b=aH (aQ.mk c 0 0 0 0 0 0 0 ((ah.mk b false 0).wordV) 0 0 0 (x88.wordsR (((x70.l.length:Nat) : Int)/2)) [] [] [] 0 0 0 0 0 []) (x88.wordsC (((x70.l.length:Nat) : Int)/2)):=by
   subst ch aS
   unfold ae b6 d9 cz
   (try simp only[q,r,T,ag,bs,if_true,if_false,decide_true,decide_false,eq_self,true_or,or_true,or_false,false_or,if_true,if_false,cl,cj,cm,ck,reduceIte,fH,fI])
   all_goals rfl
 rw[hs]
 exact bo br ⟨_,_,_,_,_,rfl,((ax Q (us aV (us af cx)) (fun x hx=>(aa (fun e=>(aA (am a4) (le (le (le (le (le (le C.size y.size) E.size) s.size) j.size) M.size) U.size) Q) (e▸hx)) (aa (fun e=>(aA (am t) (le (le (le (le (le (le (le L.size C.size) y.size) E.size) s.size) j.size) M.size) U.size) Q) (e▸hx)) (aa (fun e=>(aA (am i) (le (le (le (le (le (le (le (le g.size L.size) C.size) y.size) E.size) s.size) j.size) M.size) U.size) Q) (e▸hx)) ay)))) (fun _ _ h=>h))).rd,aK.nil ..,(fun _ _ _=>aK.nil ..),aK.nil ..,aK.nil ..,⟨(b8 (x:=c) (by omega)),(b8 (x:=0) (by omega)),(aB (x:=0) (by omega)),(aB (x:=0) (by omega)),(aB (x:=0) (by omega)),(aB (x:=0) (by omega)),(aB (x:=0) (by omega)),(aB (x:=0) (by omega)),(aB (x:=(ah.mk b false 0).wordV) (by omega)),(aB (x:=0) (by omega)),(aB (x:=0) (by omega)),(aB (x:=0) (by omega)),(b8 (x:=0) (by omega)),(b8 (x:=0) (by omega)),(b8 (x:=0) (by omega)),(b8 (x:=0) (by omega)),(b8 (x:=0) (by omega))⟩⟩ (ud cs cx B)
 have e2:=ap T
 refine bi<|sg<|Pl 1<|L0<|Oc<|m3 (cV a9) fun ee cy R g2=>Pl 1<|ng<|Pl 3<|?_
 have cA:=aX R (Ne.symm J) bm
 refine L0<|aU cA 8<|Pl 1<|L0<|Oc<|m1 (xS (dir:=1) (sub:=(ah.mk b false 0).wordV) (v:=x70.wordV) (w:=ee) (by omega)) fun g3 N=>?_
 refine L0<|Oc<|m2 (aY ((f7 1 ((ah.mk b false 0).wordV) x70.wordV)) 6 (RC.upd cy N ay (aD.step (RC.u cy) N))) fun g4 ef V=>?_
 refine fw ef fun Y cB ei=>?_
 refine nt<|go<|Pl 1<|L0<|dD (m:=1) (e:=24) #[.int .u16 x70.wordV] fun cC g5 ej el cD=>?_
 have S:=ek ej (xs:=[x70.wordV]) (by as_aux_lemma=>kernel_rfl) (az (by omega) aZ) (by(try simp only[List.length_cons,List.length_nil]);omega) el
 refine Pl 1<|?_
 have cE:=uz N (aF V cD)
 refine L0<|bX (aX cE (Ne.symm J) cA) 12 (mG c 0 0 0 0 0 0 0 ((ah.mk b false 0).wordV) 0 0 0 (.slice (some ⟨cC,0,none⟩) 1 1) nS nS nS 0 0 0 0 0 nS) fun g6 em b1=>nl<|bn<|tn<|sg<|Pl 1<|?_
 have bv:=ui R (us cE b1)
 have cF:=ut cd bv (ac (ni d.size a) (ac (ni (le d.size g.size) f) au))
 refine L0<|Oc<|m2 (eh (RC.upd ei (uz cD b1) (aa J ay) cF)) fun g7 bw ak=>nt<|sq<|sg<|Pl 3<|L0<|dY (p:=⟨o,3,none⟩) (v:=.int .i64 Y.endC.e) (RC.fld bw)<|Pl 1<|nt<|?_
 have cG:=ud cF ak (le d.size a)
 refine cb ((Y.endC.e != 0)) (fun an=>?_) (fun an=>?_)
 have bA:=aq an
 refine sq<|Rg 7 (fun w'=>w'.cell? ⟨o,3,none⟩=some (.int .i64 Y.endC.e)) fun g8 b2=>?_
 have cH:=RC.upd bw b2 ay (aD.step (RC.u bw) b2)
 refine bg (RC.fld cH) fun ao=>Rt 0 ao<|Rt 1 ao<|Rt 2 ao<|Rt 3 ao<|Rl 4 ao (fun _ hs=>hs)<|?_
 have cI:=aF ak b2
 refine R0 5 rfl<|aW (ub (ut D (ut a8 (ui j (u1 bv cI im)) (ac im (ac im au))) (ac (nr a) (ac (ni g.size f) au))) i) mZ fun g9 eo bB=>?_
 have cJ:=ud cG (uz b2 bB) B
 refine bg (RC.fld (RC.upd cH bB (aa (Ne.symm (nb (am i) lr a)) ay) cJ)) fun ep=>Rt 6 ep<|re<|tn<|rt<|tr<|bz eo (.int .i64 Y.endC.e)<|?_
 have ga:=ax S (us b1 (us cI bB)) (fun x hx=>(aa (fun e=>(aA (am a4) (le (le (le (le (le (le (le C.size y.size) E.size) s.size) j.size) R.size) N.size) V.size) S) (e▸hx)) (aa (fun e=>(aA (am t) (le (le (le (le (le (le (le (le L.size C.size) y.size) E.size) s.size) j.size) R.size) N.size) V.size) S) (e▸hx)) (aa (fun e=>(aA (am i) (le (le (le (le (le (le (le (le (le g.size L.size) C.size) y.size) E.size) s.size) j.size) R.size) N.size) V.size) S) (e▸hx)) ay)))) (fun _ _ h=>h)
 have hs:ae b6 1 c b=aH (aQ.mk c 0 0 0 0 0 0 0 ((ah.mk b false 0).wordV) 0 0 0 [x70.wordV] [] [] [] 0 0 0 0 0 []) Y:=by
   subst cB aS
   unfold ae b6 d9 cz
   (try simp only[q,r,T,an,bs,if_true,if_false,decide_true,decide_false,eq_self,true_or,or_true,or_false,false_or,if_true,if_false,cl,cj,cm,ck,reduceIte,fH,fI])
   all_goals rfl
 rw[hs]
 exact bh bA cJ
 have bA:=ai an
 refine bi<|sg<|?_
 refine L0<|ci (aX ak (Ne.symm J) em)<|?_
 refine L0<|aW (ub (ut D (ut a8 (ui j (u1 bv ak im)) (ac im (ac im au))) (ac (nr a) (ac (ni g.size f) au))) i) (mG c 0 0 0 0 0 0 0 ((ah.mk b false 0).wordV) 0 0 0 (.slice (some ⟨cC,0,none⟩) 1 1) nS nS nS 0 0 0 0 0 nS) fun gb eq cK=>Pl 1<|nt<|rt<|bz eq (.int .i64 0)<|?_
 have hs:ae b6 1 c b=aH (aQ.mk c 0 0 0 0 0 0 0 ((ah.mk b false 0).wordV) 0 0 0 [x70.wordV] [] [] [] 0 0 0 0 0 []) Y:=by
   subst cB aS
   unfold ae b6 d9 cz
   (try simp only[q,r,T,an,bs,if_true,if_false,decide_true,decide_false,eq_self,true_or,or_true,or_false,false_or,if_true,if_false,cl,cj,cm,ck,reduceIte,fH,fI])
   all_goals rfl
 rw[hs]
 exact bo bA ⟨_,_,_,_,_,rfl,((ax S (us b1 (us ak cK)) (fun x hx=>(aa (fun e=>(aA (am a4) (le (le (le (le (le (le (le C.size y.size) E.size) s.size) j.size) R.size) N.size) V.size) S) (e▸hx)) (aa (fun e=>(aA (am t) (le (le (le (le (le (le (le (le L.size C.size) y.size) E.size) s.size) j.size) R.size) N.size) V.size) S) (e▸hx)) (aa (fun e=>(aA (am i) (le (le (le (le (le (le (le (le (le g.size L.size) C.size) y.size) E.size) s.size) j.size) R.size) N.size) V.size) S) (e▸hx)) ay)))) (fun _ _ h=>h))).rd,aK.nil ..,(fun _ _ _=>aK.nil ..),aK.nil ..,aK.nil ..,⟨(b8 (x:=c) (by omega)),(b8 (x:=0) (by omega)),(aB (x:=0) (by omega)),(aB (x:=0) (by omega)),(aB (x:=0) (by omega)),(aB (x:=0) (by omega)),(aB (x:=0) (by omega)),(aB (x:=0) (by omega)),(aB (x:=(ah.mk b false 0).wordV) (by omega)),(aB (x:=0) (by omega)),(aB (x:=0) (by omega)),(aB (x:=0) (by omega)),(b8 (x:=0) (by omega)),(b8 (x:=0) (by omega)),(b8 (x:=0) (by omega)),(b8 (x:=0) (by omega)),(b8 (x:=0) (by omega))⟩⟩ (ud cG cK B)
 have dV:=ap r
 refine sg<|Pl 3<|nt<|c0<|sg<|Pl 3<|nt<|cb ((c==7)) (fun F=>?_) (fun F=>?_)
 have er:=al F
 refine go<|Pl 1<|?_
 have es:RC w _ A cp b a5 o (ah.mk b false 0):=⟨hsl,I,(Nat.le_trans d.size a),⟨0,(ub X t),Nat.zero_le _,rfl⟩,by omega⟩
 refine L0<|Oc<|m3 (dU es) fun gc et cL gd=>L0<|xo ((ah.mk b false 0).byteV)<|Pl 1<|?_
 have bC:=nb (am t) lr f
 refine L0<|bX (aX cL (Ne.symm bC) a6) 4 (mG c 0 0 0 ((ah.mk b false 0).byteV) 0 0 0 0 0 0 0 nS nS nS nS 0 0 0 0 0 nS) fun ge eu cM=>nl<|bn<|tn<|sg<|Pl 1<|?_
 have bD:=us cL cM
 have cN:=ut I bD (ac (ni d.size a) (ac (ni (le d.size g.size) f) au))
 refine L0<|Oc<|m2 (eh (RC.upd et cM (aa bC ay) cN)) fun gf bF b3=>nt<|sq<|sg<|Pl 3<|L0<|dY (p:=⟨o,3,none⟩) (v:=.int .i64 ((((ah.mk b false 0).bytesC 1).endC).e)) (RC.fld bF)<|Pl 1<|nt<|?_
 have cO:=ud cN b3 (le d.size a)
 refine cb ((((((ah.mk b false 0).bytesC 1).endC).e)!=0)) (fun ar=>?_) (fun ar=>?_)
 have bG:=aq ar
 refine sq<|Rg 7 (fun w'=>w'.cell? ⟨o,3,none⟩=some (.int .i64 ((((ah.mk b false 0).bytesC 1).endC).e))) fun gg b4=>?_
 have cP:=RC.upd bF b4 ay (aD.step (RC.u bF) b4)
 refine bg (RC.fld cP) fun av=>Rt 0 av<|Rt 1 av<|Rt 2 av<|Rt 3 av<|Rl 4 av (fun _ hs=>hs)<|?_
 refine R0 5 rfl<|aW (ub (ut D (u1 bD (aF b3 b4) im) (ac (nr a) (ac (ni g.size f) au))) i) mZ fun gh ev cQ=>?_
 have cR:=ud cO (uz b4 cQ) B
 refine bg (RC.fld (RC.upd cP cQ (aa (Ne.symm (nb (am i) lr a)) ay) cR)) fun ew=>Rt 6 ew<|re<|tn<|rt<|tr<|bz ev (.int .i64 ((((ah.mk b false 0).bytesC 1).endC).e))<|?_
 have hs:ae b6 1 c b=aH (aQ.mk c 0 0 0 ((ah.mk b false 0).byteV) 0 0 0 0 0 0 0 [] [] [] [] 0 0 0 0 0 []) ((ah.mk b false 0).bytesC 1):=by
   unfold ae b6 d9 cz
   (try simp only[q,r,F,ar,bs,if_true,if_false,decide_true,decide_false,eq_self,true_or,or_true,or_false,false_or,if_true,if_false,cl,cj,cm,ck,reduceIte,fH,fI])
   all_goals rfl
 rw[hs]
 exact bh bG cR
 have bG:=ai ar
 refine bi<|sg<|?_
 refine L0<|ci (aX b3 (Ne.symm bC) eu)<|?_
 refine L0<|aW (ub (ut D (u1 bD b3 im) (ac (nr a) (ac (ni g.size f) au))) i) (mG c 0 0 0 ((ah.mk b false 0).byteV) 0 0 0 0 0 0 0 nS nS nS nS 0 0 0 0 0 nS) fun gi ex ey=>Pl 1<|nt<|rt<|bz ex (.int .i64 0)<|?_
 have hs:ae b6 1 c b=aH (aQ.mk c 0 0 0 ((ah.mk b false 0).byteV) 0 0 0 0 0 0 0 [] [] [] [] 0 0 0 0 0 []) ((ah.mk b false 0).bytesC 1):=by
   unfold ae b6 d9 cz
   (try simp only[q,r,F,ar,bs,if_true,if_false,decide_true,decide_false,eq_self,true_or,or_true,or_false,false_or,if_true,if_false,cl,cj,cm,ck,reduceIte,fH,fI])
   all_goals rfl
 rw[hs]
 exact bo bG ⟨_,_,_,_,_,rfl,aK.nil ..,aK.nil ..,(fun _ _ _=>aK.nil ..),aK.nil ..,aK.nil ..,⟨(b8 (x:=c) (by omega)),(b8 (x:=0) (by omega)),(aB (x:=0) (by omega)),(aB (x:=0) (by omega)),(aB (x:=(ah.mk b false 0).byteV) (by omega)),(aB (x:=0) (by omega)),(aB (x:=0) (by omega)),(aB (x:=0) (by omega)),(aB (x:=0) (by omega)),(aB (x:=0) (by omega)),(aB (x:=0) (by omega)),(aB (x:=0) (by omega)),(b8 (x:=0) (by omega)),(b8 (x:=0) (by omega)),(b8 (x:=0) (by omega)),(b8 (x:=0) (by omega)),(b8 (x:=0) (by omega))⟩⟩ (ud cO ey B)
 have er:=ap F
 refine sg<|Pl 3<|nt<|cb ((c==11)) (fun O=>?_) (fun O=>?_)
 have ez:=al O
 refine sg<|Pl 1<|?_
 have eA:RC w _ A cp b a5 o (ah.mk b false 0):=⟨hsl,I,(Nat.le_trans d.size a),⟨0,(ub X t),Nat.zero_le _,rfl⟩,by omega⟩
 refine L0<|Oc<|m3 (cV eA) fun gj eB cS gk=>Pl 1<|?_
 have aw:=nb (am t) lr f
 refine L0<|bX (aX cS (Ne.symm aw) a6) 9 (mG c 0 0 0 0 0 0 0 0 ((ah.mk b false 0).wordV) 0 0 nS nS nS nS 0 0 0 0 0 nS) fun gl bH cT=>ng<|Pl 2<|L0<|aU bH 9<|Pl 2<|cu 4 [137] 141 (((((ah.mk b false 0).wordV)==0)||(((ah.mk b false 0).wordV)==65535))) (fun K cU=>?_) ?_
 refine bl 137 ((((ah.mk b false 0).wordV)==0)) (fun aC=>?_) (fun aC=>?_)
 have eC:=al aC
 exact Pl 4<|ce cU true (by rw[aC];rfl)
 have eC:=ap aC
 exact Pl 1<|L1<|aU bH 9<|Pl 2<|ce cU (((ah.mk b false 0).wordV)==65535) (by rw[aC];rfl)
 have bI:=us cS cT
 have cW:=ut I bI (ac (ni d.size a) (ac (ni (le d.size g.size) f) au))
 refine L0<|Oc<|m2 (aY (((((ah.mk b false 0).wordV)==0)||(((ah.mk b false 0).wordV)==65535))) 6 (RC.upd eB cT (aa aw ay) cW)) fun gm eD eE=>?_
 refine fw eD fun G cX eF=>?_
 refine nt<|go<|Pl 1<|L0<|Oc<|m3 (cV eF) fun gn eG eH gp=>Pl 1<|?_
 have cY:=u1 eE eH im
 refine L0<|bX (aX cY (Ne.symm aw) bH) 10 (mG c 0 0 0 0 0 0 0 0 ((ah.mk b false 0).wordV) G.wordV 0 nS nS nS nS 0 0 0 0 0 nS) fun gq eI cZ=>nl<|bn<|tn<|sg<|Pl 1<|?_
 have bJ:=us cY cZ
 have d0:=ut cW bJ (ac (ni d.size a) (ac (ni (le d.size g.size) f) au))
 refine L0<|Oc<|m2 (eh (RC.upd eG cZ (aa aw ay) d0)) fun gr bK b5=>nt<|sq<|sg<|Pl 3<|L0<|dY (p:=⟨o,3,none⟩) (v:=.int .i64 (((G.wordsC 1).endC).e)) (RC.fld bK)<|Pl 1<|nt<|?_
 have d1:=ud d0 b5 (le d.size a)
 refine cb (((((G.wordsC 1).endC).e)!=0)) (fun aE=>?_) (fun aE=>?_)
 have bL:=aq aE
 refine sq<|Rg 7 (fun w'=>w'.cell? ⟨o,3,none⟩=some (.int .i64 (((G.wordsC 1).endC).e))) fun gs b7=>?_
 have d2:=RC.upd bK b7 ay (aD.step (RC.u bK) b7)
 refine bg (RC.fld d2) fun aG=>Rt 0 aG<|Rt 1 aG<|Rt 2 aG<|Rt 3 aG<|Rl 4 aG (fun _ hs=>hs)<|?_
 refine R0 5 rfl<|aW (ub (ut D (ut bI (u1 bJ (aF b5 b7) im) (ac im (ac im au))) (ac (nr a) (ac (ni g.size f) au))) i) mZ fun gt eJ d3=>?_
 have d4:=ud d1 (uz b7 d3) B
 refine bg (RC.fld (RC.upd d2 d3 (aa (Ne.symm (nb (am i) lr a)) ay) d4)) fun eK=>Rt 6 eK<|re<|tn<|rt<|tr<|bz eJ (.int .i64 (((G.wordsC 1).endC).e))<|?_
 have hs:ae b6 1 c b=aH (aQ.mk c 0 0 0 0 0 0 0 0 ((ah.mk b false 0).wordV) G.wordV 0 [] [] [] [] 0 0 0 0 0 []) (G.wordsC 1):=by
   subst cX
   unfold ae b6 d9 cz
   (try simp only[q,r,F,O,aE,bs,if_true,if_false,decide_true,decide_false,eq_self,true_or,or_true,or_false,false_or,if_true,if_false,cl,cj,cm,ck,reduceIte,fH,fI])
   all_goals rfl
 rw[hs]
 exact bh bL d4
 have bL:=ai aE
 refine bi<|sg<|?_
 refine L0<|ci (aX b5 (Ne.symm aw) eI)<|?_
 refine L0<|aW (ub (ut D (ut bI (u1 bJ b5 im) (ac im (ac im au))) (ac (nr a) (ac (ni g.size f) au))) i) (mG c 0 0 0 0 0 0 0 0 ((ah.mk b false 0).wordV) G.wordV 0 nS nS nS nS 0 0 0 0 0 nS) fun gu eL eM=>Pl 1<|nt<|rt<|bz eL (.int .i64 0)<|?_
 have hs:ae b6 1 c b=aH (aQ.mk c 0 0 0 0 0 0 0 0 ((ah.mk b false 0).wordV) G.wordV 0 [] [] [] [] 0 0 0 0 0 []) (G.wordsC 1):=by
   subst cX
   unfold ae b6 d9 cz
   (try simp only[q,r,F,O,aE,bs,if_true,if_false,decide_true,decide_false,eq_self,true_or,or_true,or_false,false_or,if_true,if_false,cl,cj,cm,ck,reduceIte,fH,fI])
   all_goals rfl
 rw[hs]
 exact bo bL ⟨_,_,_,_,_,rfl,aK.nil ..,aK.nil ..,(fun _ _ _=>aK.nil ..),aK.nil ..,aK.nil ..,⟨(b8 (x:=c) (by omega)),(b8 (x:=0) (by omega)),(aB (x:=0) (by omega)),(aB (x:=0) (by omega)),(aB (x:=0) (by omega)),(aB (x:=0) (by omega)),(aB (x:=0) (by omega)),(aB (x:=0) (by omega)),(aB (x:=0) (by omega)),(aB (x:=(ah.mk b false 0).wordV) (by omega)),(aB (x:=G.wordV) (by omega)),(aB (x:=0) (by omega)),(b8 (x:=0) (by omega)),(b8 (x:=0) (by omega)),(b8 (x:=0) (by omega)),(b8 (x:=0) (by omega)),(b8 (x:=0) (by omega))⟩⟩ (ud d1 eM B)
 have ez:=ap O
 refine sg<|Pl 3<|nt<|cb ((c==12)) (fun W=>?_) (fun W=>?_)
 have eN:=al W
 refine sg<|Pl 1<|?_
 have eO:RC w _ A cp b a5 o (ah.mk b false 0):=⟨hsl,I,(Nat.le_trans d.size a),⟨0,(ub X t),Nat.zero_le _,rfl⟩,by omega⟩
 refine L0<|Oc<|m3 (dU eO) fun gv eP eQ gw=>L0<|Oi ((ah.mk b false 0).byteV)<|Pl 1<|ng<|Pl 4<|cu 3 [155] 158 (((decide (6≤((ah.mk b false 0).byteV)))&&(decide (((ah.mk b false 0).byteV)≤70)))) (fun K d5=>?_) ?_
 refine bl 155 ((decide (6≤((ah.mk b false 0).byteV)))) (fun aI=>?_) (fun aI=>?_)
 have eR:=of_decide_eq_true aI
 exact Pl 3<|ce d5 (decide (((ah.mk b false 0).byteV)≤70)) (by rw[aI];rfl)
 have eR:=of_decide_eq_false aI
 exact Pl 3<|ce d5 false (by rw[aI];rfl)
 refine L0<|Oc<|m2 (aY (((decide (6≤((ah.mk b false 0).byteV)))&&(decide (((ah.mk b false 0).byteV)≤70)))) 5 eP) fun gx eS eT=>?_
 refine fw eS fun z d6 eU=>?_
 refine ng<|Pl 1<|L0<|Oc<|m3 (cV eU) fun gy eV eW gz=>Pl 1<|?_
 have d7:=u1 eQ (u1 eT eW im) im
 have P:=nb (am t) lr f
 refine L0<|bX (aX d7 (Ne.symm P) a6) 9 (mG c 0 0 0 0 0 0 0 0 z.wordV 0 0 nS nS nS nS 0 0 0 0 0 nS) fun gA bM d8=>ng<|Pl 2<|L0<|aU bM 9<|Pl 2<|cu 4 [167] 171 (((z.wordV==0)||(z.wordV==65535))) (fun K da=>?_) ?_
 refine bl 167 ((z.wordV==0)) (fun aJ=>?_) (fun aJ=>?_)
 have eX:=al aJ
 exact Pl 4<|ce da true (by rw[aJ];rfl)
 have eX:=ap aJ
 exact Pl 1<|L1<|aU bM 9<|Pl 2<|ce da (z.wordV==65535) (by rw[aJ];rfl)
 have bN:=us d7 d8
 have db:=ut I bN (ac (ni d.size a) (ac (ni (le d.size g.size) f) au))
 refine L0<|Oc<|m2 (aY (((z.wordV==0)||(z.wordV==65535))) 6 (RC.upd eV d8 (aa P ay) db)) fun gB eY eZ=>?_
 refine fw eY fun k dc f0=>?_
 refine ng<|Pl 1<|L0<|Oc<|m3 (cV f0) fun gC f1 f2 gD=>Pl 1<|?_
 have dd:=u1 eZ f2 im
 refine L0<|bX (aX dd (Ne.symm P) bM) 10 (mG c 0 0 0 0 0 0 0 0 z.wordV k.wordV 0 nS nS nS nS 0 0 0 0 0 nS) fun gE f3 de=>ng<|Pl 1<|?_
 have bO:=us dd de
 have df:=ut db bO (ac (ni d.size a) (ac (ni (le d.size g.size) f) au))
 refine L0<|Oc<|m3 (cV (RC.upd f1 de (aa P ay) df)) fun gF f4 dg gG=>Pl 1<|?_
 refine L0<|bX (aX dg (Ne.symm P) f3) 11 (mG c 0 0 0 0 0 0 0 0 z.wordV k.wordV ((k.wordsC 1).wordV) nS nS nS nS 0 0 0 0 0 nS) fun gH f5 dh=>nt<|go<|Pl 2<|L0<|Oi (((ah.mk b false 0).byteV)-6)<|?_
 have bP:=us dg dh
 have di:=ut df bP (ac (ni d.size a) (ac (ni (le d.size g.size) f) au))
 have dj:=RC.upd f4 dh (aa P ay) di
 refine L0<|Oc<|oO (fu (n:=(((ah.mk b false 0).byteV)-6)) (by omega) dj) fun dl dm gI f6 f8 dn=>?_
 have gJ:=Nat.le_trans (ah.bytesR_le ((k.wordsC 1).wordsC 1) (((ah.mk b false 0).byteV)-6)) (RC.clen dj)
 refine fw f8 fun Z dp f9=>?_
 refine Pl 1<|?_
 refine L0<|bX (aX dn (Ne.symm P) f5) 14 (mG c 0 0 0 0 0 0 0 0 z.wordV k.wordV ((k.wordsC 1).wordV) nS nS (.slice dl ((((k.wordsC 1).wordsC 1).bytesR (((ah.mk b false 0).byteV)-6)).length) dm) nS 0 0 0 0 0 nS) fun gK fa dr=>nl<|bn<|tn<|sg<|Pl 1<|?_
 have bQ:=us dn dr
 have ds:=ut di bQ (ac (ni d.size a) (ac (ni (le d.size g.size) f) au))
 refine L0<|Oc<|m2 (eh (RC.upd f9 dr (aa P ay) ds)) fun gL bR b9=>nt<|sq<|sg<|Pl 3<|L0<|dY (p:=⟨o,3,none⟩) (v:=.int .i64 Z.endC.e) (RC.fld bR)<|Pl 1<|nt<|?_
 have dt:=ud ds b9 (le d.size a)
 refine cb ((Z.endC.e != 0)) (fun aL=>?_) (fun aL=>?_)
 have bS:=aq aL
 refine sq<|Rg 7 (fun w'=>w'.cell? ⟨o,3,none⟩=some (.int .i64 Z.endC.e)) fun gM ba=>?_
 have du:=RC.upd bR ba ay (aD.step (RC.u bR) ba)
 refine bg (RC.fld du) fun aM=>Rt 0 aM<|Rt 1 aM<|Rt 2 aM<|Rt 3 aM<|Rl 4 aM (fun _ hs=>hs)<|?_
 refine R0 5 rfl<|aW (ub (ut D (ut bN (ut bO (ut bP (u1 bQ (aF b9 ba) im) (ac im (ac im au))) (ac im (ac im au))) (ac im (ac im au))) (ac (nr a) (ac (ni g.size f) au))) i) mZ fun gN fb dv=>?_
 have dw:=ud dt (uz ba dv) B
 refine bg (RC.fld (RC.upd du dv (aa (Ne.symm (nb (am i) lr a)) ay) dw)) fun fc=>Rt 6 fc<|re<|tn<|rt<|tr<|bz fb (.int .i64 Z.endC.e)<|?_
 have hs:ae b6 1 c b=aH (aQ.mk c 0 0 0 0 0 0 0 0 z.wordV k.wordV ((k.wordsC 1).wordV) [] [] (((k.wordsC 1).wordsC 1).bytesR (((ah.mk b false 0).byteV)-6)) [] 0 0 0 0 0 []) Z:=by
   subst dp dc d6
   unfold ae b6 d9 cz
   (try simp only[q,r,F,O,W,aL,bs,if_true,if_false,decide_true,decide_false,eq_self,true_or,or_true,or_false,false_or,if_true,if_false,cl,cj,cm,ck,reduceIte,fH,fI])
   all_goals rfl
 rw[hs]
 exact bh bS dw
 have bS:=ai aL
 refine bi<|sg<|?_
 refine L0<|ci (aX b9 (Ne.symm P) fa)<|?_
 refine L0<|aW (ub (ut D (ut bN (ut bO (ut bP (u1 bQ b9 im) (ac im (ac im au))) (ac im (ac im au))) (ac im (ac im au))) (ac (nr a) (ac (ni g.size f) au))) i) (mG c 0 0 0 0 0 0 0 0 z.wordV k.wordV ((k.wordsC 1).wordV) nS nS (.slice dl ((((k.wordsC 1).wordsC 1).bytesR (((ah.mk b false 0).byteV)-6)).length) dm) nS 0 0 0 0 0 nS) fun gO fd fe=>Pl 1<|nt<|rt<|bz fd (.int .i64 0)<|?_
 have hs:ae b6 1 c b=aH (aQ.mk c 0 0 0 0 0 0 0 0 z.wordV k.wordV ((k.wordsC 1).wordV) [] [] (((k.wordsC 1).wordsC 1).bytesR (((ah.mk b false 0).byteV)-6)) [] 0 0 0 0 0 []) Z:=by
   subst dp dc d6
   unfold ae b6 d9 cz
   (try simp only[q,r,F,O,W,aL,bs,if_true,if_false,decide_true,decide_false,eq_self,true_or,or_true,or_false,false_or,if_true,if_false,cl,cj,cm,ck,reduceIte,fH,fI])
   all_goals rfl
 rw[hs]
 exact bo bS ⟨_,_,_,_,_,rfl,aK.nil ..,aK.nil ..,f6,aK.nil ..,aK.nil ..,⟨(b8 (x:=c) (by omega)),(b8 (x:=0) (by omega)),(aB (x:=0) (by omega)),(aB (x:=0) (by omega)),(aB (x:=0) (by omega)),(aB (x:=0) (by omega)),(aB (x:=0) (by omega)),(aB (x:=0) (by omega)),(aB (x:=0) (by omega)),(aB (x:=z.wordV) (by omega)),(aB (x:=k.wordV) (by omega)),(aB (x:=(k.wordsC 1).wordV) (by omega)),(b8 (x:=0) (by omega)),(b8 (x:=0) (by omega)),(b8 (x:=0) (by omega)),(b8 (x:=0) (by omega)),(b8 (x:=0) (by omega))⟩⟩ (ud dt fe B)
 have eN:=ap W
 refine sg<|Pl 1<|?_
 have ff:RC w _ A cp b a5 o (ah.mk b false 0):=⟨hsl,I,(Nat.le_trans d.size a),⟨0,(ub X t),Nat.zero_le _,rfl⟩,by omega⟩
 refine L0<|Oc<|m3 (dU ff) fun gP fg fh gQ=>L0<|Oi ((ah.mk b false 0).byteV)<|Pl 1<|ng<|Pl 4<|cu 3 [52] 55 (((decide (1≤((ah.mk b false 0).byteV)))&&(decide (((ah.mk b false 0).byteV)≤251)))) (fun K dx=>?_) ?_
 refine bl 52 ((decide (1≤((ah.mk b false 0).byteV)))) (fun aN=>?_) (fun aN=>?_)
 have fi:=of_decide_eq_true aN
 exact Pl 3<|ce dx (decide (((ah.mk b false 0).byteV)≤251)) (by rw[aN];rfl)
 have fi:=of_decide_eq_false aN
 exact Pl 3<|ce dx false (by rw[aN];rfl)
 refine L0<|Oc<|m2 (aY (((decide (1≤((ah.mk b false 0).byteV)))&&(decide (((ah.mk b false 0).byteV)≤251)))) 5 fg) fun gR fj fk=>?_
 refine fw fj fun H dy dz=>?_
 refine nt<|go<|Pl 2<|L0<|Oc<|oO (fu (n:=(ah.mk b false 0).byteV) (by omega) dz) fun dA dB gS fl fm fn=>?_
 have gT:=Nat.le_trans (ah.bytesR_le H ((ah.mk b false 0).byteV)) (RC.clen dz)
 refine Pl 1<|?_
 have dC:=u1 fh (u1 fk fn im) im
 have bT:=nb (am t) lr f
 refine L0<|bX (aX dC (Ne.symm bT) a6) 14 (mG c 0 0 0 0 0 0 0 0 0 0 0 nS nS (.slice dA ((H.bytesR ((ah.mk b false 0).byteV)).length) dB) nS 0 0 0 0 0 nS) fun gU fo dE=>nl<|bn<|tn<|sg<|Pl 1<|?_
 have bU:=us dC dE
 have dF:=ut I bU (ac (ni d.size a) (ac (ni (le d.size g.size) f) au))
 refine L0<|Oc<|m2 (eh (RC.upd fm dE (aa bT ay) dF)) fun gV bV bb=>nt<|sq<|sg<|Pl 3<|L0<|dY (p:=⟨o,3,none⟩) (v:=.int .i64 (((H.bytesC ((ah.mk b false 0).byteV)).endC).e)) (RC.fld bV)<|Pl 1<|nt<|?_
 have dG:=ud dF bb (le d.size a)
 refine cb (((((H.bytesC ((ah.mk b false 0).byteV)).endC).e)!=0)) (fun aO=>?_) (fun aO=>?_)
 have bW:=aq aO
 refine sq<|Rg 7 (fun w'=>w'.cell? ⟨o,3,none⟩=some (.int .i64 (((H.bytesC ((ah.mk b false 0).byteV)).endC).e))) fun gW bc=>?_
 have dH:=RC.upd bV bc ay (aD.step (RC.u bV) bc)
 refine bg (RC.fld dH) fun aP=>Rt 0 aP<|Rt 1 aP<|Rt 2 aP<|Rt 3 aP<|Rl 4 aP (fun _ hs=>hs)<|?_
 refine R0 5 rfl<|aW (ub (ut D (u1 bU (aF bb bc) im) (ac (nr a) (ac (ni g.size f) au))) i) mZ fun gX fp dI=>?_
 have dJ:=ud dG (uz bc dI) B
 refine bg (RC.fld (RC.upd dH dI (aa (Ne.symm (nb (am i) lr a)) ay) dJ)) fun fq=>Rt 6 fq<|re<|tn<|rt<|tr<|bz fp (.int .i64 (((H.bytesC ((ah.mk b false 0).byteV)).endC).e))<|?_
 have hs:ae b6 1 c b=aH (aQ.mk c 0 0 0 0 0 0 0 0 0 0 0 [] [] (H.bytesR ((ah.mk b false 0).byteV)) [] 0 0 0 0 0 []) (H.bytesC ((ah.mk b false 0).byteV)):=by
   subst dy
   unfold ae b6 d9 cz
   (try simp only[q,r,F,O,W,aO,bs,if_true,if_false,decide_true,decide_false,eq_self,true_or,or_true,or_false,false_or,if_true,if_false,cl,cj,cm,ck,reduceIte,fH,fI])
   all_goals rfl
 rw[hs]
 exact bh bW dJ
 have bW:=ai aO
 refine bi<|sg<|?_
 refine L0<|ci (aX bb (Ne.symm bT) fo)<|?_
 refine L0<|aW (ub (ut D (u1 bU bb im) (ac (nr a) (ac (ni g.size f) au))) i) (mG c 0 0 0 0 0 0 0 0 0 0 0 nS nS (.slice dA ((H.bytesR ((ah.mk b false 0).byteV)).length) dB) nS 0 0 0 0 0 nS) fun gY fr fs=>Pl 1<|nt<|rt<|bz fr (.int .i64 0)<|?_
 have hs:ae b6 1 c b=aH (aQ.mk c 0 0 0 0 0 0 0 0 0 0 0 [] [] (H.bytesR ((ah.mk b false 0).byteV)) [] 0 0 0 0 0 []) (H.bytesC ((ah.mk b false 0).byteV)):=by
   subst dy
   unfold ae b6 d9 cz
   (try simp only[q,r,F,O,W,aO,bs,if_true,if_false,decide_true,decide_false,eq_self,true_or,or_true,or_false,false_or,if_true,if_false,cl,cj,cm,ck,reduceIte,fH,fI])
   all_goals rfl
 rw[hs]
 exact bo bW ⟨_,_,_,_,_,rfl,aK.nil ..,aK.nil ..,fl,aK.nil ..,aK.nil ..,⟨(b8 (x:=c) (by omega)),(b8 (x:=0) (by omega)),(aB (x:=0) (by omega)),(aB (x:=0) (by omega)),(aB (x:=0) (by omega)),(aB (x:=0) (by omega)),(aB (x:=0) (by omega)),(aB (x:=0) (by omega)),(aB (x:=0) (by omega)),(aB (x:=0) (by omega)),(aB (x:=0) (by omega)),(aB (x:=0) (by omega)),(b8 (x:=0) (by omega)),(b8 (x:=0) (by omega)),(b8 (x:=0) (by omega)),(b8 (x:=0) (by omega)),(b8 (x:=0) (by omega))⟩⟩ (ud dG fs B)
theorem lg{m:Md}{A:Option Addr}{cp:Nat}{b:List Int}{w:World}{dir c:Int}(hcode:B8 c)(hsl:aT m w (.slice A b.length cp) b)(hb:b.length≤1048576)(hd:¬ (dir=0∨dir=1)) :
    Calls Tryz.prog 95 #[.int .i64 dir,.int .u8 c,.slice A b.length cp] w (dk (.slice A b.length cp) b (ae b6 dir c b) w):=by
 obtain⟨hcode1,hcode2⟩:=hcode
 have hln:(b.length:Int)≤1048576:=by omega
 have e0:(dir != 0)=true:=by simp;omega
 have e1:(dir != 1)=true:=by simp;omega
 refine en 197 Tryz.func95 rfl<|sg<|L0<|bE mZ fun g h a d e=>Pl 1<|nt<|sq<|sg<|Pl 3<|sy 17 e0<|Pl 3<|nl<|?_
 refine tn<|ct e1<|sg<|Pl 1<|L0<|aW d mZ fun i dx f=>Pl 1<|nt<|rt<|tr<|bz dx (.int .i64 1)<|?_
 have hs:ae b6 dir c b=(aQ.zero,1):=by
   unfold ae b6 d9 cz
   (try simp only[e0,e1,bs,if_true,if_false,decide_true,decide_false,eq_self,true_or,or_true,or_false,false_or,if_true,if_false,cl,cj,cm,ck,reduceIte,hd,fH,fI])
   all_goals rfl
 rw[hs]
 exact bu (ud e f a)
open Go.RowKit
theorem ee{C:ah}{ok:Bool}{x:Int}(h:C.e≠0) : C.need ok x=C:=by
  unfold ah.need
  rw[if_neg fun k=>h k.1]
theorem eV{C:ah}{n:Int}(h:C.fails n=true) : (C.bytesC n).e≠0:=by
  unfold ah.bytesC
  rw[if_pos h]
  unfold ah.need
  split
  · exact(show(2:Int)≠0 from by decide)
  · rename_i k
    intro e
    exact k ⟨e,rfl⟩
theorem n7{C:ah}(h:(C.wordsR 1).length≠1) : (C.wordsC 1).e≠0:=by
  unfold ah.wordsR at h
  unfold ah.wordsC
  split
  · exact eV (by unfold ah.fails;simp)
  · rename_i hb
    rw[if_neg hb] at h
    by_cases hf:C.fails (2*1)=true
    · exact eV hf
    · exfalso
      apply h
      unfold ah.bytesR
      rw[if_neg hf]
      unfold ah.fails at hf
      simp only[Bool.or_eq_true,decide_eq_true_eq,not_or] at hf
      rcases e:C.l with _|⟨a,_|⟨b,t⟩⟩
      · rw[e] at hf;simp at hf
      · rw[e] at hf;simp at hf
      · show(cG [a,b]).length=1
        unfold cG
        rw[if_pos (by simp)]
        simp[dc]
theorem qi{C:ah}(h:(C.wordsR 1).length=1) : [C.wordV]=C.wordsR 1:=by
  unfold ah.wordV
  rcases e:C.wordsR 1 with _|⟨a,_|⟨b,t⟩⟩
  · rw[e] at h;simp at h
  · rfl
  · rw[e] at h;simp at h
theorem rX{M M':aQ}{C:ah}(h:C.e≠0) : aH M C=aH M' C:=by
  unfold aH
  have e:C.endC.e≠0:=by unfold ah.endC;rw[ee h];exact h
  rw[if_neg e,if_neg e]
theorem sG(dir:Int)(C:ah) : eI dir C=fd dir C:=by
  unfold eI fd
  rw[Bool.or_comm]
theorem sa(dir c:Int)(C:ah) : aH (d9 dir c C).2 (d9 dir c C).1=aH (ef dir c C).2 (ef dir c C).1:=by
  unfold d9 ef
  rw[sG]
  by_cases h0:C.wordV=0
  · rw[h0,if_pos (show((0:Int)==0)=true from rfl),if_neg (show ¬ ((0:Int)!=0)=true from by decide)]
  · rw[if_neg (by simpa using h0),if_pos (by simpa using h0)]
    by_cases h1:((fd dir C).wordsR 1).length=1
    · rw[qi h1,show((((fd dir C).wordsR 1).length:Int)==1)=true from by rw[h1];rfl,Bool.true_and]
      rfl
    · have k:=n7 h1
      dsimp only
      rw[ee k,ee k]
      exact rX k
theorem lv{f f':Int→Int→ah→Option (ah × aQ)}{dir c:Int}{b:List Int}(h:∀ C,(dir=0∨dir=1)→(f dir c C=none∧f' dir c C=none)∨∃ r r',f dir c C=some r∧f' dir c C=some r'∧aH r.2 r.1=aH r'.2 r'.1) : ae f dir c b=ae f' dir c b:=by
  unfold ae
  split
  · rename_i hd
    rcases h ⟨b,false,0⟩ hd with⟨h1,h2⟩|⟨r,r',h1,h2,h3⟩
    · rw[h1,h2]
    · rw[h1,h2];exact h3
  · rfl
theorem mT(dir c:Int)(b:List Int) : ae b6 dir c b=ae aO dir c b:=by
  refine lv fun C hd=>?_
  unfold b6 aO
  by_cases h8:c=8
  · subst h8
    exact .inr ⟨_,_,rfl,rfl,sa dir 8 C⟩
  · by_cases h:c=7∨c=11∨c=12∨c=17
    · refine .inr ?_
      rw[if_neg (show ¬ (((((c != 7)&&(c != 8))&&(c != 11))&&(c != 12))&&(c != 17))=true from by rcases h with rfl | rfl | rfl | rfl<;>decide),if_neg (show ¬ (c==8)=true from by simpa using h8),if_neg (show ¬ (c==8)=true from by simpa using h8),if_pos (show(c==7 || c==11 || c==12 || c==17)=true from by rcases h with rfl | rfl | rfl | rfl<;>decide)]
      rcases hd with rfl|rfl
      · exact⟨_,_,rfl,rfl,rfl⟩
      · refine⟨_,_,rfl,rfl,?_⟩
        rcases h with rfl|rfl|rfl|rfl<;>rfl
    · refine .inl ?_
      rw[if_pos (show(((((c != 7)&&(c != 8))&&(c != 11))&&(c != 12))&&(c != 17))=true from by simp;omega),if_neg (show ¬ (c==8)=true from by simpa using h8),if_neg (show ¬ (c==7 || c==11 || c==12 || c==17)=true from by simp;omega)]
      exact⟨rfl,rfl⟩
end Go.Proofs.YtogbnemojakcpaaGreat
namespace Go.Proofs.YtogbnemojakcpaaGreat
def iR (C:ah) : Prop:=∀ x,x∈C.l→0≤x∧x<256
theorem uI{C:ah}{ok:Bool}{x:Int}(hx:x≠0)(h:(C.need ok x).e=0) : C.e=0∧ok=true:=by
  unfold ah.need at h
  split at h
  · exact absurd h hx
  · rename_i hh
    refine⟨h,?_⟩
    cases ok
    · exact absurd ⟨h,rfl⟩ hh
    · rfl
theorem oD{C:ah}{n:Int}(h:(C.bytesC n).e=0) : C.e=0∧C.l=C.bytesR n++(C.bytesC n).l∧((C.bytesR n).length:Int)=n:=by
  unfold ah.bytesC at h ⊢
  unfold ah.bytesR
  split at h
  · exfalso
    unfold ah.need at h
    split at h
    · cases h
    · rename_i hh
      exact hh ⟨h,rfl⟩
  · rename_i hf
    rw[if_neg hf,if_neg hf]
    refine⟨h,(List.take_append_drop _ _).symm,?_⟩
    unfold ah.fails at hf
    simp only[Bool.or_eq_true,decide_eq_true_eq,not_or] at hf
    rw[List.length_take]
    omega
theorem km:∀ (l:List Int),l.length%2=0→(∀ x,x∈l→0≤x∧x<256)→b9 (dc l)=l
  | [],_,_=>rfl
  | [_],h,_=>by simp at h
  | a :: b :: r,h,hr=>by
    have ha:=hr a (by simp)
    have hb:=hr b (by simp)
    simp only[dc,b9]
    rw[km r (by simp at h;omega) (fun x hx=>hr x (by simp[hx]))]
    congr 1
    · omega
    · congr 1
      omega
theorem wF{C:ah}{n:Int}(hr:iR C)(h:(C.wordsC n).e=0) : C.e=0∧C.l=b9 (C.wordsR n)++(C.wordsC n).l∧((C.wordsR n).length:Int)=n:=by
  unfold ah.wordsC at h ⊢
  unfold ah.wordsR
  split at h
  · obtain⟨_,_,h3⟩:=oD h
    omega
  · rename_i hb
    rw[if_neg hb,if_neg hb]
    obtain⟨h1,h2,h3⟩:=oD h
    have h4:(C.bytesR (2*n)).length%2=0:=by omega
    have h5:∀ x,x∈C.bytesR (2*n)→0≤x∧x<256:=fun x hx=>hr x (by rw[h2];exact List.mem_append_left _ hx)
    unfold cG
    rw[if_pos h4]
    refine⟨h1,by rw[km _ h4 h5];exact h2,?_⟩
    rw[ff]
    omega
def p9 (C:ah)(l:List Int)(C':ah) : Prop:=iR C→iR C'∧(C'.e=0→C.e=0∧C.l=l++C'.l)
theorem p9.trans{A B C:ah}{l m:List Int}(h:p9 A l B)(k:p9 B m C) : p9 A (l++m) C:=fun hr=>by
  obtain⟨h1,h2⟩:=h hr
  obtain⟨k1,k2⟩:=k h1
  refine⟨k1,fun he=>?_⟩
  obtain⟨k3,k4⟩:=k2 he
  obtain⟨h3,h4⟩:=h2 k3
  exact⟨h3,by rw[h4,k4,List.append_assoc]⟩
theorem p9.refl(C:ah) : p9 C [] C:=fun hr=>⟨hr,fun he=>⟨he,rfl⟩⟩
theorem p9.need{A C:ah}{l:List Int}{ok:Bool}{x:Int}(h:p9 A l C)(hx:x≠0:=by decide) : p9 A l (C.need ok x):=fun hr=>by
  obtain⟨h1,h2⟩:=h hr
  refine⟨fun y hy=>h1 y (by rwa [kM] at hy),fun he=>?_⟩
  rw[kM]
  exact h2 (uI hx he).1
theorem p9.bytes{A C:ah}{l:List Int}(h:p9 A l C)(n:Int) : p9 A (l++C.bytesR n) (C.bytesC n):=h.trans fun hr=>⟨ij hr n,fun he=>⟨(oD he).1,(oD he).2.1⟩⟩
theorem p9.words{A C:ah}{l:List Int}(h:p9 A l C)(n:Int) : p9 A (l++b9 (C.wordsR n)) (C.wordsC n):=h.trans fun hr=>⟨cN hr n,fun he=>⟨(wF hr he).1,(wF hr he).2.1⟩⟩
theorem it{C:ah}(hr:iR C) : 0≤C.byteV∧C.byteV<256:=by
  unfold ah.byteV
  rw[List.getD_eq_getElem?_getD]
  cases h:(C.bytesR 1)[0]? with
  | none=>simp
  | some x =>
    have hm:x∈C.bytesR 1:=List.mem_of_getElem? h
    have:x∈C.l:=by
      unfold ah.bytesR at hm
      split at hm
      · cases hm
      · exact List.mem_of_mem_take hm
    exact hr x this
theorem vv:∀ n:Nat,n<256→(((if ((n:Int)/2 ^ 0%2==1) then 1 else 0)+(if ((n:Int)/2 ^ 1%2==1) then 2 else 0)+(if ((n:Int)/2 ^ 2%2==1) then 4 else 0)+(if ((n:Int)/2 ^ 3%2==1) then 8 else 0)+(if ((n:Int)/2 ^ 4%2==1) then 16 else 0)+(if ((n:Int)/2 ^ 5%2==1) then 32 else 0)+(if ((n:Int)/2 ^ 6%2==1) then 64 else 0)+(if ((n:Int)/2 ^ 7%2==1) then 128 else 0) : Nat) : Int)=n:=by decide +kernel
theorem la{x:Int}(hx:0≤x∧x<256)(f:Nat→Bool)(hf:∀ i,i<8→f i=(x/2 ^ i%2==1)) :
    (((if f 0 then 1 else 0)+(if f 1 then 2 else 0)+(if f 2 then 4 else 0)+(if f 3 then 8 else 0)+(if f 4 then 16 else 0)+(if f 5 then 32 else 0)+(if f 6 then 64 else 0)+(if f 7 then 128 else 0) : Nat) : Int)=x:=by
  rw[hf 0 (by decide),hf 1 (by decide),hf 2 (by decide),hf 3 (by decide),hf 4 (by decide),hf 5 (by decide),hf 6 (by decide),hf 7 (by decide)]
  obtain⟨n,rfl⟩:=Int.eq_ofNat_of_zero_le hx.1
  exact vv n (by omega)
theorem ou{b:List Int}{n:Int}{l:List Bool}(hr:∀ x,x∈b→0≤x∧x<256)(h:cn b n=some l) : cM l=b:=by
  unfold cn at h
  split at h
  · rename_i hc
    split at h
    · rename_i hall
      injection h with h
      subst h
      have hlen:((List.range n.toNat).map (cC b)).length=n.toNat:=by simp
      have hm:((List.range n.toNat).map (cC b)).length=n:=by rw[hlen];omega
      unfold cM
      rw[hm,← hc.2]
      apply List.ext_getElem
      · simp
      intro j h1 h2
      simp only[List.getElem_map,List.getElem_range]
      have hj:j<b.length:=h2
      have hget:∀ i,i<8*b.length→((List.range n.toNat).map (cC b)).getD i false=cC b i:=fun i hi=>by
        rw[List.getD_eq_getElem?_getD,List.getElem?_map]
        by_cases hin:i<n.toNat
        · rw[List.getElem?_range hin];rfl
        · rw[List.getElem?_eq_none (by simpa using hin)]
          rw[List.all_eq_true] at hall
          have:=hall i (by simpa using hi)
          simp only[Bool.or_eq_true,decide_eq_true_eq,Bool.not_eq_true'] at this
          rcases this with h3|h3
          · omega
          · simp[h3]
      have hx:∀ k,k<8→cC b (8*j+k)=(b[j]/2 ^ k%2==1):=fun k hk=>by
        unfold cC
        rw[show(8*j+k)/8=j from by omega,show(8*j+k)%8=k from by omega,List.getD_eq_getElem?_getD,List.getElem?_eq_getElem hj]
        rfl
      unfold bV
      rw[show(8*j:Nat)=8*j+0 from rfl]
      simp only[hget _ (show 8*j+0<8*b.length by omega),hget _ (show 8*j+0+1<8*b.length by omega),hget _ (show 8*j+0+2<8*b.length by omega),hget _ (show 8*j+0+3<8*b.length by omega),hget _ (show 8*j+0+4<8*b.length by omega),hget _ (show 8*j+0+5<8*b.length by omega),hget _ (show 8*j+0+6<8*b.length by omega),hget _ (show 8*j+0+7<8*b.length by omega)]
      exact la (hr _ (List.getElem_mem hj)) (fun k=>cC b (8*j+k)) hx
    · cases h
  · cases h
end Go.Proofs.YtogbnemojakcpaaGreat
namespace Go.Proofs.YtogbnemojakcpaaGreat
end Go.Proofs.YtogbnemojakcpaaGreat
namespace Go.Proofs.YtogbnemojakcpaaGreat
end Go.Proofs.YtogbnemojakcpaaGreat
namespace Go.Proofs.YtogbnemojakcpaaGreat
def Sh (C C':ah) : Prop:=C'.l.length≤C.l.length
theorem Sh.refl(C:ah) : Sh C C:=Nat.le_refl _
theorem Sh.bytes{A C:ah}(h:Sh A C){n:Int}:Sh A (C.bytesC n):=Nat.le_trans (ic C n) h
theorem Sh.words{A C:ah}(h:Sh A C){n:Int}:Sh A (C.wordsC n):=Nat.le_trans (eN C n) h
theorem Sh.need{A C:ah}(h:Sh A C){b:Bool}{e:Int}:Sh A (C.need b e):=by unfold Sh;rw[ey];exact h
open Go.RowKit
theorem mL{n:Int}:dC n=if n<1 then 0 else n/8+(if 0<n%8 then 1 else 0):=by
  unfold dC
  split
  · rfl
  · split<;>omega
theorem kx(l:List Bool)(j:Nat) : bV (l.take (8*j)) j=0:=by
  have h:=lE l (8*j)
  rw[show 8*j/8=j from by omega,show 8*j%8=0 from by omega] at h
  omega
theorem j0{l:List Bool}{j t:Nat}(ht:t<8) : bV (l.take (8*j+t+1)) j=bV (l.take (8*j+t)) j+if l.getD (8*j+t) false=true then 2 ^ t else 0:=by
  rw[gQ,show(8*j+t)/8=j from by omega,show(8*j+t)%8=t from by omega]
  simp
theorem sI{l:List Bool}{j t:Nat}(h:t=8∨l.length≤8*j+t) : bV (l.take (8*j+t)) j=bV l j:=by
  rcases h with rfl|h
  · unfold bV
    simp only[hH]
    simp
  · rw[List.take_of_length_le h]
theorem sZ{l:List Bool}{j:Nat}(h1:l.length≤8*j)(h2:8*j<l.length+8) : (List.range j).map (fun i=>(bV l i:Int))=cM l:=by
  unfold cM
  rw[show(dC l.length).toNat=j from by unfold dC;split<;>omega]
theorem so(l:List Bool) : ((cM l).length:Int)=dC l.length:=by
  unfold cM
  rw[List.length_map,List.length_range]
  unfold dC
  split<;>omega
theorem za:∀ x0 x1 x2 x3 x4 x5 x6 x7:Bool,∀ t:Fin 8,(((((if x0=true then 1 else 0)+(if x1=true then 2 else 0)+(if x2=true then 4 else 0)+(if x3=true then 8 else 0)+(if x4=true then 16 else 0)+(if x5=true then 32 else 0)+(if x6=true then 64 else 0)+(if x7=true then 128 else 0) : Nat) : Int)/2 ^ t.val%2==1)=[x0,x1,x2,x3,x4,x5,x6,x7].getD t.val false):=by decide +kernel
theorem wW{l:List Bool}{j t:Nat}(ht:t<8) : ((bV l j:Int)/2 ^ t%2==1)=l.getD (8*j+t) false:=by
  have h:=za (l.getD (8*j) false) (l.getD (8*j+1) false) (l.getD (8*j+2) false) (l.getD (8*j+3) false) (l.getD (8*j+4) false) (l.getD (8*j+5) false) (l.getD (8*j+6) false) (l.getD (8*j+7) false) ⟨t,ht⟩
  refine h.trans ?_
  rcases t with _|_|_|_|_|_|_|_|t
  case succ.succ.succ.succ.succ.succ.succ.succ=>omega
  all_goals rfl
theorem oy(l:List Bool) : cn (cM l) (l.length:Int)=some ((List.range l.length).map (cC (cM l))):=by
  have hl:=so l
  unfold cn
  rw[if_pos ⟨by omega,hl⟩,if_pos,show((l.length:Int)).toNat=l.length from by omega]
  rw[List.all_eq_true]
  intro i hi
  have hi:i<8*(cM l).length:=by simpa using hi
  simp only[Bool.or_eq_true,decide_eq_true_eq,Bool.not_eq_true']
  by_cases h:(i:Int)<l.length
  · exact .inl h
  · refine .inr ?_
    have hj:i/8<(cM l).length:=by omega
    unfold cC
    have e:(cM l).getD (i/8) 0=(bV l (i/8) : Int):=by
      have hj2:i/8<(dC (l.length:Int)).toNat:=by omega
      unfold cM
      rw[List.getD_eq_getElem?_getD,List.getElem?_map,List.getElem?_range hj2]
      rfl
    rw[e,wW (Nat.mod_lt _ (by decide)),show 8*(i/8)+i%8=i from by omega,List.getD_eq_getElem?_getD,List.getElem?_eq_none (by omega)]
    rfl
theorem oA{b:List Int}{n:Int}(hr:∀ x,x∈b→0≤x∧x<256)(h0:0≤n) : cn b n=if cM ((List.range n.toNat).map (cC b))=b then some ((List.range n.toNat).map (cC b)) else none:=by
  by_cases h:cM ((List.range n.toNat).map (cC b))=b
  · rw[if_pos h]
    have k:=oy ((List.range n.toNat).map (cC b))
    rw[h,List.length_map,List.length_range,show((n.toNat:Nat) : Int)=n from by omega] at k
    exact k
  · rw[if_neg h]
    cases e:cn b n with
    | none=>rfl
    | some l =>
      exfalso
      have k:=ou hr e
      unfold cn at e
      split at e
      · split at e
        · injection e with e;rw[e] at h;exact h k
        · cases e
      · cases e
end Go.Proofs.YtogbnemojakcpaaGreat
