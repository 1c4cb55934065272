/-
  Contracts of the functions that the claim's statement reaches, walked one by one (part 7).
  Conditions: as each theorem says.
-/
import Derived.Lib.SliceRun
import Derived.Laws.IdiomCopy
import Derived.Sort.Grow
import Derived.Test.YtafonabghnogaaaGreatDoorGrM1
import Derived.Test.YtafonabghnogaaaGreatDoorGrM2
import Derived.Test.YtafonabghnogaaaGreatDoorGrM3
import Derived.Test.YtafonabghnogaaaGreatDoorGrM4
import Derived.Test.YtafonabghnogaaaGreatDoorGrM6
set_option maxRecDepth 100000
set_option maxHeartbeats 16000000
open Array renaming getD→Am1
open Bool renaming and_eq_true→Am6
open List renaming eq_nil_of_length_eq_zero→Al4,nil_append→Al5,length_map→Al6,drop_drop→Al8,getElem?_eq_getElem→Al9,flatMap_cons→Am2,take_of_length_le→Am3,drop→Am4,mem_of_getElem?→Am5,getElem?_toArray→Am7,drop_set_of_lt→Am8,take_succ_eq_append_getElem→Am9,getElem?_set_self→An0,length_take→An1
open Nat renaming zero_add→Al2,zero_mul→Al3,le_refl→Al7
open Go.World renaming size_alloc→Al1,drewN→Am0
namespace Go.Proofs.YtafonabghnogaaaGreatDoor
section
open Go.RowKit
attribute [local go_sem ↓] Go.wp_at_zero Go.wp_at_succ
namespace Oq
theorem Ww {P:Program} {t e:TypeId} (hu:P.underlying t=some (.slice e)) (A:Option Addr) (n c:Nat) (w:World):(Go.Op.equal t (.slice A n c) (.slice none 0 0)).run P w=.ok A.isNone w:=by
 show (Go.Op.equalIn (9999+1) t (.slice A n c) (.slice none 0 0)).run P w=_
 generalize 9999=d
 cases A<;>simp [Go.Op.equalIn,run_underlying hu]
theorem Ex {P:Program} {t e:TypeId} (hu:P.underlying t=some (.slice e)) (A:Option Addr) (n c:Nat) (w:World):(binOp .eql t (.slice A n c) (.slice none 0 0)).run P w=.ok (.bool A.isNone) w:=by
 have h:binOp .eql t (.slice A n c) (.slice none 0 0)=(do pure (.bool (← Go.Op.equal t (.slice A n c) (.slice none 0 0)))):=by
  unfold binOp
  rfl
 rw [h]
 simp [Ww hu]
theorem Own.empty (w:World) (t:TypeId) (size:Nat):Own (w.alloc (.cells #[] t)) w.heap.size t size (some ⟨w.heap.size,0,none⟩) 0 0 []:=
 ⟨by simp,.inr ⟨w.heap.size,0,#[],rfl,Al7 _,heap_alloc_new w _,Al7 _,by omega,by simp,by simp⟩⟩
def Ba (e:TypeId) (size n:Nat) (xs:List Value) (w:World) (r:Ending) (w':World):Prop:=∃A' c',r=.returned (.slice A' n c')∧Own w' w.heap.size e size A' n c' xs∧Fr Non w w'
theorem Ph (B n c:Nat) (A:Option Addr) (xs:List Value) (w:World) (hr:Rd w B 3 A n xs) (h1:∀u∈xs,u.oneCell'=true) (hn:n≤1000000):
  Calls Tryz.prog 80 #[.slice A n c] w (Ba 38 3 n xs w):=by
 have heq:=fun w'=>Ex (P:=Tryz.prog) Tryz.underlying28 A n c w'
 cases A with
 |none=>
  replace heq:∀w',(binOp .eql 28 (.slice none n c) (.slice none 0 0)).run Tryz.prog w'=.ok (.bool true) w':=heq
  have h0:n=0:=by
   rcases hr.2 with h|⟨_,_,h,_⟩
   · exact h
   · cases h
  have hx:xs=[]:=Al4 (by rw [hr.1,h0,Al3])
  subst h0
  subst hx
  have fin:Ba 38 3 0 [] w (.returned (.slice none 0 0)) w:=⟨none,0,rfl,Own.nil _ _ _ _,Fr.refl _ _⟩
  generalize Ba 38 3 0 [] w=POST at*
  replace fin:=Lib.hid fin
  go_enter Tryz.func80,Tryz.ntmps80
  go_wp2_with (fail)
  exact fin.out
 |some ad=>
  replace heq:∀w',(binOp .eql 28 (.slice (some ad) n c) (.slice none 0 0)).run Tryz.prog w'=.ok (.bool false) w':=heq
  have hem:=Own.empty w 38 3
  have hr1:=hr.fr ((Fr.refl Non w).alloc (.cells #[] 38)) zr
  have fin:∀A' c' w',Own w' w.heap.size 38 3 A' (0+n) c' ([]++xs)→Fr (fun k=>Ab (some (⟨w.heap.size,0,none⟩:Addr))=some k) (w.alloc (.cells #[] 38)) w'→Ba 38 3 n xs w (.returned (.slice A' n c')) w':=by
   intro A' c' w' h2 h3
   rw [Al2,Al5] at h2
   refine ⟨A',c',rfl,h2,((Fr.refl Non w).alloc (.cells #[] 38)).trans h3 (fun k hk e=> ?_)⟩
   have e':w.heap.size=k:=Option.some.inj e
   omega
  replace fin:=Lib.hid fin
  generalize Ba 38 3 n xs w=POST at*
  go_enter Tryz.func80,Tryz.ntmps80
  go_upto_region 3 with (fail)
  go_wp2_with (at_builtin;go_loud (refine Bb (base:=w.heap.size) (.tmp 5) (.tmp 6) 28 rfl rfl rfl rfl C9 hem hr1 h1 (by omega) (by omega) (by rw [Al1];omega) ?_);intro A1 c1 w2 own1 fr1 hat1;have hdone:=Lib.hid (fin.out _ _ _ own1 fr1);clear own1 fr1 hat1 fin)
  exact hdone.out
theorem Pj (B n c:Nat) (A:Option Addr) (xs:List Value) (w:World) (hr:Rd w B 1 A n xs) (h1:∀u∈xs,u.oneCell'=true) (hn:n≤1000000):
  Calls Tryz.prog 118 #[.slice A n c] w (Ba 5 1 n xs w):=by
 have heq:=fun w'=>Ex (P:=Tryz.prog) Tryz.underlying39 A n c w'
 cases A with
 |none=>
  replace heq:∀w',(binOp .eql 39 (.slice none n c) (.slice none 0 0)).run Tryz.prog w'=.ok (.bool true) w':=heq
  have h0:n=0:=by
   rcases hr.2 with h|⟨_,_,h,_⟩
   · exact h
   · cases h
  have hx:xs=[]:=Al4 (by rw [hr.1,h0,Al3])
  subst h0
  subst hx
  have fin:Ba 5 1 0 [] w (.returned (.slice none 0 0)) w:=⟨none,0,rfl,Own.nil _ _ _ _,Fr.refl _ _⟩
  generalize Ba 5 1 0 [] w=POST at*
  replace fin:=Lib.hid fin
  go_enter Tryz.func118,Tryz.ntmps118
  go_wp2_with (fail)
  exact fin.out
 |some ad=>
  replace heq:∀w',(binOp .eql 39 (.slice (some ad) n c) (.slice none 0 0)).run Tryz.prog w'=.ok (.bool false) w':=heq
  have hem:=Own.empty w 5 1
  have hr1:=hr.fr ((Fr.refl Non w).alloc (.cells #[] 5)) zr
  have fin:∀A' c' w',Own w' w.heap.size 5 1 A' (0+n) c' ([]++xs)→Fr (fun k=>Ab (some (⟨w.heap.size,0,none⟩:Addr))=some k) (w.alloc (.cells #[] 5)) w'→Ba 5 1 n xs w (.returned (.slice A' n c')) w':=by
   intro A' c' w' h2 h3
   rw [Al2,Al5] at h2
   refine ⟨A',c',rfl,h2,((Fr.refl Non w).alloc (.cells #[] 5)).trans h3 (fun k hk e=> ?_)⟩
   have e':w.heap.size=k:=Option.some.inj e
   omega
  replace fin:=Lib.hid fin
  generalize Ba 5 1 n xs w=POST at*
  go_enter Tryz.func118,Tryz.ntmps118
  go_upto_region 3 with (fail)
  go_wp2_with (at_builtin;go_loud (refine Bb (base:=w.heap.size) (.tmp 5) (.tmp 6) 39 rfl rfl rfl rfl slB hem hr1 h1 (by omega) (by omega) (by rw [Al1];omega) ?_);intro A1 c1 w2 own1 fr1 hat1;have hdone:=Lib.hid (fin.out _ _ _ own1 fr1);clear own1 fr1 hat1 fin)
  exact hdone.out
theorem Wx (B n c:Nat) (A:Option Addr) (xs:List Value) (w:World) (hr:Rd w B 1 A n xs) (h1:∀u∈xs,u.oneCell'=true) (hn:n≤1000000):
  Calls Tryz.prog 119 #[.slice A n c] w (Ba 23 1 n xs w):=by
 have heq:=fun w'=>Ex (P:=Tryz.prog) Tryz.underlying40 A n c w'
 cases A with
 |none=>
  replace heq:∀w',(binOp .eql 40 (.slice none n c) (.slice none 0 0)).run Tryz.prog w'=.ok (.bool true) w':=heq
  have h0:n=0:=by
   rcases hr.2 with h|⟨_,_,h,_⟩
   · exact h
   · cases h
  have hx:xs=[]:=Al4 (by rw [hr.1,h0,Al3])
  subst h0
  subst hx
  have fin:Ba 23 1 0 [] w (.returned (.slice none 0 0)) w:=⟨none,0,rfl,Own.nil _ _ _ _,Fr.refl _ _⟩
  generalize Ba 23 1 0 [] w=POST at*
  replace fin:=Lib.hid fin
  go_enter Tryz.func119,Tryz.ntmps119
  go_wp2_with (fail)
  exact fin.out
 |some ad=>
  replace heq:∀w',(binOp .eql 40 (.slice (some ad) n c) (.slice none 0 0)).run Tryz.prog w'=.ok (.bool false) w':=heq
  have hem:=Own.empty w 23 1
  have hr1:=hr.fr ((Fr.refl Non w).alloc (.cells #[] 23)) zr
  have fin:∀A' c' w',Own w' w.heap.size 23 1 A' (0+n) c' ([]++xs)→Fr (fun k=>Ab (some (⟨w.heap.size,0,none⟩:Addr))=some k) (w.alloc (.cells #[] 23)) w'→Ba 23 1 n xs w (.returned (.slice A' n c')) w':=by
   intro A' c' w' h2 h3
   rw [Al2,Al5] at h2
   refine ⟨A',c',rfl,h2,((Fr.refl Non w).alloc (.cells #[] 23)).trans h3 (fun k hk e=> ?_)⟩
   have e':w.heap.size=k:=Option.some.inj e
   omega
  replace fin:=Lib.hid fin
  generalize Ba 23 1 n xs w=POST at*
  go_enter Tryz.func119,Tryz.ntmps119
  go_upto_region 3 with (fail)
  go_wp2_with (at_builtin;go_loud (refine Bb (base:=w.heap.size) (.tmp 5) (.tmp 6) 40 rfl rfl rfl rfl Ni hem hr1 h1 (by omega) (by omega) (by rw [Al1];omega) ?_);intro A1 c1 w2 own1 fr1 hat1;have hdone:=Lib.hid (fin.out _ _ _ own1 fr1);clear own1 fr1 hat1 fin)
  exact hdone.out
theorem Wy (B n c:Nat) (A:Option Addr) (xs:List Value) (w:World) (hr:Rd w B 1 A n xs) (h1:∀u∈xs,u.oneCell'=true) (hn:n≤1000000):
  Calls Tryz.prog 120 #[.slice A n c] w (Ba 3 1 n xs w):=by
 have heq:=fun w'=>Ex (P:=Tryz.prog) Tryz.underlying22 A n c w'
 cases A with
 |none=>
  replace heq:∀w',(binOp .eql 22 (.slice none n c) (.slice none 0 0)).run Tryz.prog w'=.ok (.bool true) w':=heq
  have h0:n=0:=by
   rcases hr.2 with h|⟨_,_,h,_⟩
   · exact h
   · cases h
  have hx:xs=[]:=Al4 (by rw [hr.1,h0,Al3])
  subst h0
  subst hx
  have fin:Ba 3 1 0 [] w (.returned (.slice none 0 0)) w:=⟨none,0,rfl,Own.nil _ _ _ _,Fr.refl _ _⟩
  generalize Ba 3 1 0 [] w=POST at*
  replace fin:=Lib.hid fin
  go_enter Tryz.func120,Tryz.ntmps120
  go_wp2_with (fail)
  exact fin.out
 |some ad=>
  replace heq:∀w',(binOp .eql 22 (.slice (some ad) n c) (.slice none 0 0)).run Tryz.prog w'=.ok (.bool false) w':=heq
  have hem:=Own.empty w 3 1
  have hr1:=hr.fr ((Fr.refl Non w).alloc (.cells #[] 3)) zr
  have fin:∀A' c' w',Own w' w.heap.size 3 1 A' (0+n) c' ([]++xs)→Fr (fun k=>Ab (some (⟨w.heap.size,0,none⟩:Addr))=some k) (w.alloc (.cells #[] 3)) w'→Ba 3 1 n xs w (.returned (.slice A' n c')) w':=by
   intro A' c' w' h2 h3
   rw [Al2,Al5] at h2
   refine ⟨A',c',rfl,h2,((Fr.refl Non w).alloc (.cells #[] 3)).trans h3 (fun k hk e=> ?_)⟩
   have e':w.heap.size=k:=Option.some.inj e
   omega
  replace fin:=Lib.hid fin
  generalize Ba 3 1 n xs w=POST at*
  go_enter Tryz.func120,Tryz.ntmps120
  go_upto_region 3 with (fail)
  go_wp2_with (at_builtin;go_loud (refine Bb (base:=w.heap.size) (.tmp 5) (.tmp 6) 22 rfl rfl rfl rfl Gp hem hr1 h1 (by omega) (by omega) (by rw [Al1];omega) ?_);intro A1 c1 w2 own1 fr1 hat1;have hdone:=Lib.hid (fin.out _ _ _ own1 fr1);clear own1 fr1 hat1 fin)
  exact hdone.out
theorem Pm (B n c:Nat) (A:Option Addr) (xs:List Value) (w:World) (hr:Rd w B 4 A n xs) (h1:∀u∈xs,u.oneCell'=true) (hn:n≤1000000):
  Calls Tryz.prog 121 #[.slice A n c] w (Ba 144 4 n xs w):=by
 have heq:=fun w'=>Ex (P:=Tryz.prog) Tryz.underlying41 A n c w'
 cases A with
 |none=>
  replace heq:∀w',(binOp .eql 41 (.slice none n c) (.slice none 0 0)).run Tryz.prog w'=.ok (.bool true) w':=heq
  have h0:n=0:=by
   rcases hr.2 with h|⟨_,_,h,_⟩
   · exact h
   · cases h
  have hx:xs=[]:=Al4 (by rw [hr.1,h0,Al3])
  subst h0
  subst hx
  have fin:Ba 144 4 0 [] w (.returned (.slice none 0 0)) w:=⟨none,0,rfl,Own.nil _ _ _ _,Fr.refl _ _⟩
  generalize Ba 144 4 0 [] w=POST at*
  replace fin:=Lib.hid fin
  go_enter Tryz.func121,Tryz.ntmps121
  go_wp2_with (fail)
  exact fin.out
 |some ad=>
  replace heq:∀w',(binOp .eql 41 (.slice (some ad) n c) (.slice none 0 0)).run Tryz.prog w'=.ok (.bool false) w':=heq
  have hem:=Own.empty w 144 4
  have hr1:=hr.fr ((Fr.refl Non w).alloc (.cells #[] 144)) zr
  have fin:∀A' c' w',Own w' w.heap.size 144 4 A' (0+n) c' ([]++xs)→Fr (fun k=>Ab (some (⟨w.heap.size,0,none⟩:Addr))=some k) (w.alloc (.cells #[] 144)) w'→Ba 144 4 n xs w (.returned (.slice A' n c')) w':=by
   intro A' c' w' h2 h3
   rw [Al2,Al5] at h2
   refine ⟨A',c',rfl,h2,((Fr.refl Non w).alloc (.cells #[] 144)).trans h3 (fun k hk e=> ?_)⟩
   have e':w.heap.size=k:=Option.some.inj e
   omega
  replace fin:=Lib.hid fin
  generalize Ba 144 4 n xs w=POST at*
  go_enter Tryz.func121,Tryz.ntmps121
  go_upto_region 3 with (fail)
  go_wp2_with (at_builtin;go_loud (refine Bb (base:=w.heap.size) (.tmp 5) (.tmp 6) 41 rfl rfl rfl rfl slBx hem hr1 h1 (by omega) (by omega) (by rw [Al1];omega) ?_);intro A1 c1 w2 own1 fr1 hat1;have hdone:=Lib.hid (fin.out _ _ _ own1 fr1);clear own1 fr1 hat1 fin)
  exact hdone.out
theorem Wz (B n c:Nat) (A:Option Addr) (xs:List Value) (w:World) (hr:Rd w B 2 A n xs) (h1:∀u∈xs,u.oneCell'=true) (hn:n≤1000000):
  Calls Tryz.prog 122 #[.slice A n c] w (Ba 103 2 n xs w):=by
 have heq:=fun w'=>Ex (P:=Tryz.prog) Tryz.underlying36 A n c w'
 cases A with
 |none=>
  replace heq:∀w',(binOp .eql 36 (.slice none n c) (.slice none 0 0)).run Tryz.prog w'=.ok (.bool true) w':=heq
  have h0:n=0:=by
   rcases hr.2 with h|⟨_,_,h,_⟩
   · exact h
   · cases h
  have hx:xs=[]:=Al4 (by rw [hr.1,h0,Al3])
  subst h0
  subst hx
  have fin:Ba 103 2 0 [] w (.returned (.slice none 0 0)) w:=⟨none,0,rfl,Own.nil _ _ _ _,Fr.refl _ _⟩
  generalize Ba 103 2 0 [] w=POST at*
  replace fin:=Lib.hid fin
  go_enter Tryz.func122,Tryz.ntmps122
  go_wp2_with (fail)
  exact fin.out
 |some ad=>
  replace heq:∀w',(binOp .eql 36 (.slice (some ad) n c) (.slice none 0 0)).run Tryz.prog w'=.ok (.bool false) w':=heq
  have hem:=Own.empty w 103 2
  have hr1:=hr.fr ((Fr.refl Non w).alloc (.cells #[] 103)) zr
  have fin:∀A' c' w',Own w' w.heap.size 103 2 A' (0+n) c' ([]++xs)→Fr (fun k=>Ab (some (⟨w.heap.size,0,none⟩:Addr))=some k) (w.alloc (.cells #[] 103)) w'→Ba 103 2 n xs w (.returned (.slice A' n c')) w':=by
   intro A' c' w' h2 h3
   rw [Al2,Al5] at h2
   refine ⟨A',c',rfl,h2,((Fr.refl Non w).alloc (.cells #[] 103)).trans h3 (fun k hk e=> ?_)⟩
   have e':w.heap.size=k:=Option.some.inj e
   omega
  replace fin:=Lib.hid fin
  generalize Ba 103 2 n xs w=POST at*
  go_enter Tryz.func122,Tryz.ntmps122
  go_upto_region 3 with (fail)
  go_wp2_with (at_builtin;go_loud (refine Bb (base:=w.heap.size) (.tmp 5) (.tmp 6) 36 rfl rfl rfl rfl slNd hem hr1 h1 (by omega) (by omega) (by rw [Al1];omega) ?_);intro A1 c1 w2 own1 fr1 hat1;have hdone:=Lib.hid (fin.out _ _ _ own1 fr1);clear own1 fr1 hat1 fin)
  exact hdone.out
theorem W4 (B n c:Nat) (A:Option Addr) (xs:List Value) (w:World) (hr:Rd w B 4 A n xs) (h1:∀u∈xs,u.oneCell'=true) (hn:n≤1000000):
  Calls Tryz.prog 123 #[.slice A n c] w (Ba 106 4 n xs w):=by
 have heq:=fun w'=>Ex (P:=Tryz.prog) Tryz.underlying42 A n c w'
 cases A with
 |none=>
  replace heq:∀w',(binOp .eql 42 (.slice none n c) (.slice none 0 0)).run Tryz.prog w'=.ok (.bool true) w':=heq
  have h0:n=0:=by
   rcases hr.2 with h|⟨_,_,h,_⟩
   · exact h
   · cases h
  have hx:xs=[]:=Al4 (by rw [hr.1,h0,Al3])
  subst h0
  subst hx
  have fin:Ba 106 4 0 [] w (.returned (.slice none 0 0)) w:=⟨none,0,rfl,Own.nil _ _ _ _,Fr.refl _ _⟩
  generalize Ba 106 4 0 [] w=POST at*
  replace fin:=Lib.hid fin
  go_enter Tryz.func123,Tryz.ntmps123
  go_wp2_with (fail)
  exact fin.out
 |some ad=>
  replace heq:∀w',(binOp .eql 42 (.slice (some ad) n c) (.slice none 0 0)).run Tryz.prog w'=.ok (.bool false) w':=heq
  have hem:=Own.empty w 106 4
  have hr1:=hr.fr ((Fr.refl Non w).alloc (.cells #[] 106)) zr
  have fin:∀A' c' w',Own w' w.heap.size 106 4 A' (0+n) c' ([]++xs)→Fr (fun k=>Ab (some (⟨w.heap.size,0,none⟩:Addr))=some k) (w.alloc (.cells #[] 106)) w'→Ba 106 4 n xs w (.returned (.slice A' n c')) w':=by
   intro A' c' w' h2 h3
   rw [Al2,Al5] at h2
   refine ⟨A',c',rfl,h2,((Fr.refl Non w).alloc (.cells #[] 106)).trans h3 (fun k hk e=> ?_)⟩
   have e':w.heap.size=k:=Option.some.inj e
   omega
  replace fin:=Lib.hid fin
  generalize Ba 106 4 n xs w=POST at*
  go_enter Tryz.func123,Tryz.ntmps123
  go_upto_region 3 with (fail)
  go_wp2_with (at_builtin;go_loud (refine Bb (base:=w.heap.size) (.tmp 5) (.tmp 6) 42 rfl rfl rfl rfl slSl hem hr1 h1 (by omega) (by omega) (by rw [Al1];omega) ?_);intro A1 c1 w2 own1 fr1 hat1;have hdone:=Lib.hid (fin.out _ _ _ own1 fr1);clear own1 fr1 hat1 fin)
  exact hdone.out
theorem W5 (B n c:Nat) (A:Option Addr) (xs:List Value) (w:World) (hr:Rd w B 5 A n xs) (h1:∀u∈xs,u.oneCell'=true) (hn:n≤1000000):
  Calls Tryz.prog 76 #[.slice A n c] w (Ba 81 5 n xs w):=by
 have heq:=fun w'=>Ex (P:=Tryz.prog) Tryz.underlying26 A n c w'
 cases A with
 |none=>
  replace heq:∀w',(binOp .eql 26 (.slice none n c) (.slice none 0 0)).run Tryz.prog w'=.ok (.bool true) w':=heq
  have h0:n=0:=by
   rcases hr.2 with h|⟨_,_,h,_⟩
   · exact h
   · cases h
  have hx:xs=[]:=Al4 (by rw [hr.1,h0,Al3])
  subst h0
  subst hx
  have fin:Ba 81 5 0 [] w (.returned (.slice none 0 0)) w:=⟨none,0,rfl,Own.nil _ _ _ _,Fr.refl _ _⟩
  generalize Ba 81 5 0 [] w=POST at*
  replace fin:=Lib.hid fin
  go_enter Tryz.func76,Tryz.ntmps76
  go_wp2_with (fail)
  exact fin.out
 |some ad=>
  replace heq:∀w',(binOp .eql 26 (.slice (some ad) n c) (.slice none 0 0)).run Tryz.prog w'=.ok (.bool false) w':=heq
  have hem:=Own.empty w 81 5
  have hr1:=hr.fr ((Fr.refl Non w).alloc (.cells #[] 81)) zr
  have fin:∀A' c' w',Own w' w.heap.size 81 5 A' (0+n) c' ([]++xs)→Fr (fun k=>Ab (some (⟨w.heap.size,0,none⟩:Addr))=some k) (w.alloc (.cells #[] 81)) w'→Ba 81 5 n xs w (.returned (.slice A' n c')) w':=by
   intro A' c' w' h2 h3
   rw [Al2,Al5] at h2
   refine ⟨A',c',rfl,h2,((Fr.refl Non w).alloc (.cells #[] 81)).trans h3 (fun k hk e=> ?_)⟩
   have e':w.heap.size=k:=Option.some.inj e
   omega
  replace fin:=Lib.hid fin
  generalize Ba 81 5 n xs w=POST at*
  go_enter Tryz.func76,Tryz.ntmps76
  go_upto_region 3 with (fail)
  go_wp2_with (at_builtin;go_loud (refine Bb (base:=w.heap.size) (.tmp 5) (.tmp 6) 26 rfl rfl rfl rfl slCd hem hr1 h1 (by omega) (by omega) (by rw [Al1];omega) ?_);intro A1 c1 w2 own1 fr1 hat1;have hdone:=Lib.hid (fin.out _ _ _ own1 fr1);clear own1 fr1 hat1 fin)
  exact hdone.out
end Oq
end
section
open Go.RowKit
section
variable {P : Program} {ops : Array Oper} {Q : Exit → Act → World → Prop} {md : Region.Mode} {S : World → Prop} {g : Nat}
def Cy (P:Program) (md:Region.Mode) (ops:Array Oper) (Q:Exit→Act→World→Prop) (S:World→Prop) (g:Nat) (fuel:Nat) (listed:Array Bool) (a:Act) (w:World):Prop:=
 match fuel with
 |0=>Region.ready md ops listed=[]∧Q .normal a w
 |k+1=>(Region.ready md ops listed=[]→Q .normal a w)∧
   ∀i∈Region.ready md ops listed,wpOp P ops Q i (fun a' w'=>((listed.setIfInBounds i true).getD g true=false→S w')∧Cy P md ops Q S g k (listed.setIfInBounds i true) a' w') a w
theorem W6:∀(fuel:Nat) (listed:Array Bool) (a:Act) (w:World),Cy P md ops Q S g fuel listed a w→wpAny P md ops Q fuel listed a w:=by
 intro fuel
 induction fuel with
 |zero=>intro _ _ _ h;exact h
 |succ k ih=>intro l a w h;exact ⟨h.1,fun i hi=>wpOp_mono (fun a' w' h'=>ih _ a' w' h'.2) (h.2 i hi)⟩
theorem W7:∀(fuel:Nat) (listed:Array Bool) (a:Act) (w:World),listed.getD g true=true→wpAny P md ops Q fuel listed a w→Cy P md ops Q S g fuel listed a w:=by
 intro fuel
 induction fuel with
 |zero=>intro _ _ _ _ h;exact h
 |succ k ih=>
  intro l a w hg h
  refine ⟨h.1,fun i hi=>wpOp_mono (fun a' w' h'=> ?_) (h.2 i hi)⟩
  have hg':(l.setIfInBounds i true).getD g true=true:=by
   by_cases hgi:i=g
   ·
    subst hgi
    by_cases hb:i<l.size
    · simp [Am1,hb]
    · simp [Am1,hb]
   ·
    rw [getD_set_ne true hgi]
    exact hg
  exact ⟨fun h0=>(by rw [hg'] at h0;cases h0),ih _ a' w' hg' h'⟩
theorem W8 {i:Nat} {oi og:Oper} {v:Value} (hi:ops[i]? =some oi) (hog:ops[g]? =some og) (hgi:g≠i) (hwait:∃e∈og.after,Region.binds md e=true∧e.on=i)
  (hsel:∀(j:Nat) (o:Oper) cs b,ops[j]? =some o→o.op≠ .select cs b) (hQ:∀c a w,Q (.panic c) (a.put oi.dst v) w→Q (.panic c) a w):
  ∀(fuel:Nat) (listed:Array Bool) (a:Act) (w:World),listed.getD g true=false→
   (∀j oj,ops[j]? =some oj→j≠i→listed.getD j true=false→(∀e∈oj.after,Region.binds md e=true→e.on≠i)→oi.apart ops oj=true)→
   i∈Region.ready md ops listed→YieldsIf P ops S oi v a→S w→
   Cy P md ops Q S g fuel (listed.setIfInBounds i true) (a.put oi.dst v) w→Cy P md ops Q S g (fuel+1) listed a w:=by
 intro fuel
 induction fuel with
 |zero=>
  intro listed a w hg _ hr hy hS H
  refine ⟨fun h=>(by rw [h] at hr;cases hr),fun j hj=> ?_⟩
  by_cases hji:j=i
  · subst hji;exact hy.wpOp hi hS ⟨fun _=>hS,H⟩
  ·
   have h0:=ready_mono hj hji
   rw [H.1] at h0
   cases h0
 |succ k ih=>
  intro listed a w hg hfree hr hy hS H
  refine ⟨fun h=>(by rw [h] at hr;cases hr),fun j hj=> ?_⟩
  by_cases hji:j=i
  · subst hji;exact hy.wpOp hi hS ⟨fun _=>hS,H⟩
  ·
   have hpend:=(mem_ready.1 hr).1
   obtain ⟨hjun,oj,hoj,hall⟩:=mem_ready.1 hj
   have hbl:∀e∈oj.after,Region.binds md e=true→e.on≠i:=fun e he hb heq=>by
    have h1:=hall e he hb
    rw [heq] at h1
    rcases Nat.lt_or_ge i listed.size with h'|h'
    · simp [h'] at hpend h1;rw [hpend] at h1;cases h1
    · simp [Array.getElem?_eq_none h'] at h1
   have hjg:j≠g:=by
    rintro rfl
    obtain ⟨e,he,hb,heq⟩:=hwait
    rw [hog] at hoj
    cases hoj
    exact hbl e he hb heq
   have h1:=H.2 j (ready_mono hj hji)
   have h2:=wpOp_putIf hoj (hfree j oj hoj hji hjun hbl) (fun cs b=>hsel i oi cs b hi) (fun cs b=>hsel j oj cs b hoj) hQ hy h1
   have hg':(listed.setIfInBounds j true).getD g true=false:=by rw [getD_set_ne true hjg];exact hg
   have hgij:((listed.setIfInBounds i true).setIfInBounds j true).getD g true=false:=by rw [getD_set_ne true hjg,getD_set_ne true (Ne.symm hgi)];exact hg
   have hfree':∀m om,ops[m]? =some om→m≠i→(listed.setIfInBounds j true).getD m true=false→
     (∀e∈om.after,Region.binds md e=true→e.on≠i)→oi.apart ops om=true:=fun m om hm hmi hun hno=>by
    refine hfree m om hm hmi ?_ hno
    by_cases hjm:j=m
    · subst hjm;exact hjun
    · rw [getD_set_ne true hjm] at hun;exact hun
   refine wpOp_mono (fun a' w' h3=> ?_) h2
   have hS':=h3.2.1 hgij
   refine ⟨fun _=>hS',ih _ a' w' hg' hfree' (ready_mono hr (Ne.symm hji)) h3.1 hS' ?_⟩
   rw [Array.setIfInBounds_comm _ _ hji]
   exact h3.2.2
def Ie (md:Region.Mode) (ops:Array Oper) (g i:Nat):Bool:=match ops[g]? with|some og=>og.after.any (fun e=>Region.binds md e&&e.on==i)|none=>false
theorem W9 {i:Nat} (h:Ie md ops g i=true):∃og,ops[g]? =some og∧∃e∈og.after,Region.binds md e=true∧e.on=i:=by
 unfold Ie at h
 split at h
 ·
  rename_i og hog
  obtain ⟨e,he,hb⟩:=Array.any_eq_true'.1 h
  simp only [Am6,beq_iff_eq] at hb
  exact ⟨og,hog,e,he,hb.1,hb.2⟩
 · cases h
end
theorem Et {P:Program} {Q:Exit→Act→World→Prop} {md:Region.Mode} {S:World→Prop} {g:Nat} {l:List Oper} {i:Nat} {d:Tmp} {op:Op} {ty:TypeId} {pos:String} {after:Array Edge} {gd:Option (Nat × Bool)} {v:Value} {fuel:Nat} {listed:Array Bool} {tl:List Value} {ds:List Deferred} {w:World} (hi:l[i]? =some ⟨some d,op,ty,pos,after,gd⟩)
  (hgate:(listed.getD g true==false&&g !=i&&Ie md l.toArray g i)=true)
  (hs:Region.noSelect l.toArray=true) (hf:Region.free md l.toArray listed i=true) (hr:(Region.ready md l.toArray listed).contains i=true)
  (hQ:∀c a w,Q (.panic c) (a.put (some d) v) w→Q (.panic c) a w) (hy:YieldsIf P l.toArray S ⟨some d,op,ty,pos,after,gd⟩ v ⟨tl.toArray,ds⟩) (hS:S w)
  (h:Cy P md l.toArray Q S g fuel (listed.setIfInBounds i true) ⟨(tl.set d v).toArray,ds⟩ w):Cy P md l.toArray Q S g (fuel+1) listed ⟨tl.toArray,ds⟩ w:=by
 simp only [Am6,beq_iff_eq,bne_iff_ne] at hgate
 obtain ⟨og,hog,hwait⟩:=W9 hgate.2
 have hi':l.toArray[i]? =some ⟨some d,op,ty,pos,after,gd⟩:=by rw [Am7];exact hi
 exact W8 hi' hog hgate.1.2 hwait (Region.noSelect_spec hs) hQ fuel listed _ w hgate.1.1 (Region.free_spec hi' hf) (by simpa using hr) hy hS (by rw [Ac];exact h)
theorem Bl {P:Program} {Q:Exit→Act→World→Prop} {l:List Oper} {md:Region.Mode} {S:World→Prop} {g fuel:Nat} {listed:Array Bool} {a:Act} {w:World} (i:Nat) {d:Option Tmp} {op:Op} {ty:TypeId} {pos:String} {after:Array Edge} (hr:Region.ready md l.toArray listed=[i]) (ho:l[i]? =some ⟨d,op,ty,pos,after,none⟩)
  (h:∀K':Act→World→Prop,Shut (∀a w,S w→(S w→Cy P md l.toArray Q S g fuel (listed.setIfInBounds i true) a w)→K' a w)→Oper.wp P ⟨d,op,ty,pos,after,none⟩ a w K' Q):
  Cy P md l.toArray Q S g (fuel+1) listed a w:=by
 refine ⟨fun h0=>(by rw [hr] at h0;cases h0),fun j hj=> ?_⟩
 rw [hr] at hj
 obtain rfl:=List.mem_singleton.1 hj
 refine wpOp_step (o:=⟨d,op,ty,pos,after,none⟩) (by rw [Am7];exact ho) (fun K' hK=> ?_)
 rw [if_pos (show Region.wanted _ _=true from rfl)]
 exact h K' (fun a w hS hW=>hK a w ⟨fun _=>hS,hW hS⟩)
theorem Cv {P:Program} {Q:Exit→Act→World→Prop} {l:List Oper} {md:Region.Mode} {S:World→Prop} {g fuel:Nat} {listed:Array Bool} {a:Act} {w:World} (hr:Region.ready md l.toArray listed=[g])
  (h:wpAnyH P md l.toArray Q (fun _=>True) (fuel+1) listed a w):Cy P md l.toArray Q S g (fuel+1) listed a w:=by
 refine ⟨h.1,fun j hj=>wpOp_mono (fun a' w' h'=> ?_) (h.2 j hj)⟩
 rw [hr] at hj
 obtain rfl:=List.mem_singleton.1 hj
 have hg':(listed.setIfInBounds j true).getD j true=true:=by
  by_cases hb:j<listed.size
  · simp [Am1,hb]
  · simp [Am1,hb]
 exact ⟨fun h0=>(by rw [hg'] at h0;cases h0),W7 _ _ _ _ hg' (wpAny_of_held _ _ _ _ h'.2)⟩
theorem C4 {P:Program} {Q:Exit→Act→World→Prop} {S:World→Prop} (g:Nat) {id:Nat} {l:List Oper} {a:Act} {w:World} (hm:P.follows .mixedOrders=true)
  (h:Cy P .any l.toArray Q S g l.toArray.size (Array.replicate l.toArray.size false) a w.drew):(Code.region id l.toArray true).wp P Q a w:=
 wp_region_any hm (W6 _ _ _ _ h)
theorem tkG (i:Nat) {P:Program} {Q:Exit→Act→World→Prop} {md:Region.Mode} {S:World→Prop} {gt:Nat} {l:List Oper} {d:Tmp} {op:Op} {ty:TypeId} {pos:String} {after:Array Edge} {g:Option (Nat × Bool)} {v:Value} {fuel:Nat} {listed:Array Bool} {tl:List Value} {ds:List Deferred} {w:World} (hS:S w) (hi:l[i]? =some ⟨some d,op,ty,pos,after,g⟩:=by rfl)
  (hgate:(listed.getD gt true==false&&gt !=i&&Ie md l.toArray gt i)=true:=by kernel_rfl)
  (hs:Region.noSelect l.toArray=true:=by kernel_rfl) (hf:Region.free md l.toArray listed i=true:=by kernel_rfl) (hr:(Region.ready md l.toArray listed).contains i=true:=by kernel_rfl)
  (hQ:∀c a w,Q (.panic c) (a.put (some d) v) w→Q (.panic c) a w:=by exact fun _ _ _ h=>h) (hy:YieldsIf P l.toArray S ⟨some d,op,ty,pos,after,g⟩ v ⟨tl.toArray,ds⟩:=by (refine Or.inl ⟨by kernel_rfl,?_⟩;intro w' hSw;(try dsimp only at hSw);(try simp only [List.set]);go_simp;(try with_reducible rfl)))
  (h:Cy P md l.toArray Q S gt fuel (listed.setIfInBounds i true) ⟨(tl.set d v).toArray,ds⟩ w):
  Cy P md l.toArray Q S gt (fuel+1) listed ⟨tl.toArray,ds⟩ w:=Et hi hgate hs hf hr hQ hy hS h
theorem Own.setAt {w:World} {base n c size:Nat} {t:TypeId} {A:Option Addr} {xs:List Value} (h:Own w base t size A n c xs) {j:Nat} (hj:j<n*size) (u:Value):
  ∃g,A=some ⟨g,0,none⟩∧base≤g∧g<w.heap.size∧(∀v,xs[j]? =some v→w.cell? ⟨g,j,none⟩=some v)∧w.frozen? ⟨g,j,none⟩=false∧Own (w.setCell ⟨g,j,none⟩ u) base t size A n c (xs.set j u):=by
 rcases h.2 with ⟨_,h0⟩|⟨g,cap,cur,hv,hb,hg,h1,h2,h3,h4⟩
 ·
  subst h0
  omega
 ·
  injection hv with hA hn hc
  have hblk:Blk w g t cur:=hg
  have hset:=hblk.set j u
  refine ⟨g,hA,hb,hblk.lt,?_,hblk.frozen j,?_⟩
  ·
   intro v hv'
   rw [hblk.cell j]
   rw [← h4,List.getElem?_take_of_lt hj] at hv'
   simpa using hv'
  ·
   refine ⟨by rw [List.length_set];exact h.1,.inr ⟨g,cap,cur.setIfInBounds j u,?_,hb,hset,h1,h2,by simpa using h3,?_⟩⟩
   · subst hA hc;rfl
   · rw [Array.toList_setIfInBounds,List.take_set,h4]
theorem Gx {α:Type} {f:α→List Value} {size:Nat} (hf:∀x,(f x).length=size) {j:Nat} (hj:j<size) (v:Value) (y:α):∀(l:List α) (k:Nat) (x:α),l[k]? =some x→(f x).set j v=f y→
  (l.flatMap f).set (k*size+j) v=(l.set k y).flatMap f:=by
 intro l
 induction l with
 |nil=>intro k x hx _;simp at hx
 |cons a r ih=>
  intro k x hx hy
  cases k with
  |zero=>
   simp only [List.getElem?_cons_zero,Option.some.injEq] at hx
   subst hx
   rw [Am2,List.set_cons_zero,Am2,Al3,Al2,List.set_append_left _ _ (by rw [hf];exact hj),hy]
  |succ m=>
   rw [List.getElem?_cons_succ] at hx
   rw [Am2,List.set_cons_succ,Am2,List.set_append_right _ _ (by rw [hf,Nat.add_mul];omega),hf,show (m+1)*size+j-size=m*size+j by rw [Nat.add_mul];omega,ih m x hx hy]
theorem Po {α β:Type} (nd:α→β) (l:List α) (k:Nat) {y y':α} (h:l[k]? =some y) (e:nd y'=nd y):(l.set k y').map nd=l.map nd:=by
 rw [List.map_set,e]
 apply List.ext_getElem?
 intro i
 rw [List.getElem?_set]
 by_cases hi:k=i
 ·
  subst hi
  rw [List.getElem?_map,h]
  have hk:k<(l.map nd).length:=by rw [Al6];exact (List.getElem?_eq_some_iff.1 h).1
  simp [(List.getElem?_eq_some_iff.1 h).1]
 · rw [if_neg hi]
theorem Pp {α:Type} (l m:List α) (k:Nat) (y':α) (h:l.drop k=m.drop k):(l.set k y').drop (k+1)=m.drop (k+1):=by
 rw [Am8 (by omega)]
 have h2:=congrArg (Am4 1) h
 rwa [Al8,Al8] at h2
theorem Kq {α:Type} (l:List α) (k:Nat) {y:α} (y':α) (h:l[k]? =some y):(l.set k y').take (k+1)=l.take k++[y']:=by
 have hk:=(List.getElem?_eq_some_iff.1 h).1
 rw [Am9 (by rw [List.length_set];exact hk),List.take_set_of_le (by omega)]
 simp
theorem Kr {α:Type} {l m:List α} {k:Nat} (h:l.drop k=m.drop k):l[k]? =m[k]? :=by
 have h2:=congrArg (fun t=>t[0]?) h
 simpa [List.getElem?_drop] using h2
end
section
open Go.RowKit
attribute [local go_sem ↓] Go.wp_at_zero Go.wp_at_succ
namespace Oq
attribute [local go_sem ↓] Ci
theorem Ig {α:Type} (f:α→Value) (hf:∀a,(f a).oneCell'=true) (l:List α):∀v∈l.map f,v.oneCell'=true:=by
 intro v hv
 obtain ⟨y,_,rfl⟩:=List.mem_map.1 hv
 exact hf y
theorem Ih {α:Type} (f:α→List Value) (hf:∀a,∀v∈f a,v.oneCell'=true) (l:List α):∀v∈l.flatMap f,v.oneCell'=true:=by
 intro v hv
 obtain ⟨y,_,hy⟩:=List.mem_flatMap.1 hv
 exact hf y v hy
theorem Pq (l:List Bx):∀v∈l.flatMap Bx.cells,v.oneCell'=true:=Ih _ (fun a v hv=>by simp [Bx.cells] at hv;rcases hv with rfl|rfl|rfl|rfl<;>rfl) l
theorem Xa (l:List NdL):∀v∈l.flatMap NdL.cells,v.oneCell'=true:=Ih _ (fun a v hv=>by simp [NdL.cells] at hv;rcases hv with rfl|rfl<;>rfl) l
theorem Xb (l:List SlL):∀v∈l.flatMap SlL.cells,v.oneCell'=true:=Ih _ (fun a v hv=>by simp [SlL.cells] at hv;rcases hv with rfl|rfl|rfl|rfl<;>rfl) l
def Ks (o:Op) (w:World) (r:Ending) (w':World):Prop:=
 ∃y:OpL,r=.returned (.agg y.cells)∧y.op=o∧y.own w' w.heap.size∧Fr Non w w'
theorem Xc (x:OpL) (w:World) (hat:x.at w w.heap.size) (hok:x.op.ok):Calls Tryz.prog 69 #[.agg x.cells] w (Ks x.op w):=by
 have hi:(Tryz.prog.info? 44).map (·.size)=some 27:=by kernel_rfl
 have bx0:Blk ((w.alloc (.cells x.cells 44)).alloc (.cells zO 44)) w.heap.size 44 x.cells:=(Blk.new w 44 x.cells).alloc _
 have br0:Blk ((w.alloc (.cells x.cells 44)).alloc (.cells zO 44)) (w.heap.size+1) 44 zO:=by
  have:=Blk.new (w.alloc (.cells x.cells 44)) 44 zO
  rwa [Al1] at this
 have hsz:((w.alloc (.cells x.cells 44)).alloc (.cells zO 44)).heap.size=w.heap.size+2:=by rw [Al1,Al1]
 have fr0:Fr Non w ((w.alloc (.cells x.cells 44)).alloc (.cells zO 44)):=((Fr.refl Non w).alloc _).alloc _
 have xd0:=OpL.frame hat fr0
 have lguards:x.guards.length≤1000000:=by have h:=hok.guards.1;rw [show x.op.guards=x.guards from rfl] at h;omega
 have lrefs:x.refs.length≤1000000:=by have h:=hok.refs.1;rw [show x.op.refs=x.refs from rfl] at h;omega
 have lboxes:x.boxes.length≤1000000:=by have h:=hok.boxes.1;rw [show x.op.boxes=x.boxes from rfl] at h;omega
 have lpast:x.past.length≤1000000:=by have h:=hok.past.1;rw [show x.op.past=x.past from rfl] at h;omega
 have lpath:x.path.length≤1000000:=by have h:=hok.path.1;rw [show x.op.path=x.path.map NdL.nd from rfl,Al6] at h;omega
 have lhist:x.hist.length≤1000000:=by have h:=hok.hist.1;rw [show x.op.hist=x.hist.map SlL.sl from rfl,Al6] at h;omega
 have lbody:x.body.length≤1000000:=by have h:=hok.body;rw [show x.op.body=x.body from rfl] at h;omega
 have lnodes:Hid (∀y∈x.path,y.xs.length≤1000000):=fun y hy=>by have h:=(hok.path.2 y.nd (List.mem_map.2 ⟨y,hy,rfl⟩)).2.1;rw [show y.nd.xs=y.xs from rfl] at h;omega
 have lseals:Hid (∀y∈x.hist,y.y.length≤1000000):=fun y hy=>by have h:=(hok.hist.2 y.sl (List.mem_map.2 ⟨y,hy,rfl⟩)).2;rw [show y.sl.y=y.y from rfl] at h;omega
 have hpost:Hid (∀(y:OpL) (w':World),y.op=x.op→y.own w' w.heap.size→Fr Non w w'→Ks x.op w (.returned (.agg y.cells)) w'):=fun y w' h1 h2 h3=>⟨y,rfl,h1,h2,h3⟩
 generalize Ks x.op w=POST at*
 go_enter Tryz.func69,Tryz.ntmps69
 go_upto_region 1 with (fail)
 generalize ((w.alloc (.cells x.cells 44)).alloc (.cells zO 44))=w0 at*
 obtain ⟨CS,hCS⟩:=Aa x.cells
 rw [hCS.out] at bx0
 have e4:Hid (CS[4]? =some (.slice x.pastA x.past.length x.pastC)):=by show _=_;rw [← hCS.out];rfl
 have e14:Hid (CS[14]? =some (.slice x.bodyA x.body.length x.bodyC)):=by show _=_;rw [← hCS.out];rfl
 have e15:Hid (CS[15]? =some (.slice x.refsA x.refs.length x.refsC)):=by show _=_;rw [← hCS.out];rfl
 have e19:Hid (CS[19]? =some (.slice x.guardsA x.guards.length x.guardsC)):=by show _=_;rw [← hCS.out];rfl
 have e22:Hid (CS[22]? =some (.slice x.boxesA x.boxes.length x.boxesC)):=by show _=_;rw [← hCS.out];rfl
 refine C4 (S:=(fun w'=>Blk w' w.heap.size 44 CS)) 16 (by kernel_rfl) ?_
 replace bx0:Blk w0.drew w.heap.size 44 CS:=bx0.drew
 replace br0:=br0.drew
 replace fr0:=fr0.drew
 replace xd0:=OpL.frame xd0 ((Fr.refl Non w0).drew)
 refine tkG 0 bx0 (h:=?_)
 simp only [List.set]
 refine Et (i:=1) (v:=?_) rfl (by kernel_rfl) (by kernel_rfl) (by kernel_rfl) (by kernel_rfl) (fun _ _ _ h=>h) (Or.inl ⟨by kernel_rfl,?_⟩) bx0 ?_
 rotate_left
 focus (intro w' hSw;have hB:=hSw;have q:w'.cell? ⟨w.heap.size,4,none⟩=some _:=(hB.cell 4).trans e4.out;(try dsimp only at hSw);go_simp;(try with_reducible rfl))
 simp only [List.set]
 refine tkG 3 bx0 (h:=?_)
 simp only [List.set]
 refine Et (i:=4) (v:=?_) rfl (by kernel_rfl) (by kernel_rfl) (by kernel_rfl) (by kernel_rfl) (fun _ _ _ h=>h) (Or.inl ⟨by kernel_rfl,?_⟩) bx0 ?_
 rotate_left
 focus (intro w' hSw;have hB:=hSw;have q:w'.cell? ⟨w.heap.size,14,none⟩=some _:=(hB.cell 14).trans e14.out;(try dsimp only at hSw);go_simp;(try with_reducible rfl))
 simp only [List.set]
 refine tkG 6 bx0 (h:=?_)
 simp only [List.set]
 refine Et (i:=7) (v:=?_) rfl (by kernel_rfl) (by kernel_rfl) (by kernel_rfl) (by kernel_rfl) (fun _ _ _ h=>h) (Or.inl ⟨by kernel_rfl,?_⟩) bx0 ?_
 rotate_left
 focus (intro w' hSw;have hB:=hSw;have q:w'.cell? ⟨w.heap.size,15,none⟩=some _:=(hB.cell 15).trans e15.out;(try dsimp only at hSw);go_simp;(try with_reducible rfl))
 simp only [List.set]
 refine tkG 9 bx0 (h:=?_)
 simp only [List.set]
 refine Et (i:=10) (v:=?_) rfl (by kernel_rfl) (by kernel_rfl) (by kernel_rfl) (by kernel_rfl) (fun _ _ _ h=>h) (Or.inl ⟨by kernel_rfl,?_⟩) bx0 ?_
 rotate_left
 focus (intro w' hSw;have hB:=hSw;have q:w'.cell? ⟨w.heap.size,19,none⟩=some _:=(hB.cell 19).trans e19.out;(try dsimp only at hSw);go_simp;(try with_reducible rfl))
 simp only [List.set]
 refine tkG 12 bx0 (h:=?_)
 simp only [List.set]
 refine Et (i:=13) (v:=?_) rfl (by kernel_rfl) (by kernel_rfl) (by kernel_rfl) (by kernel_rfl) (fun _ _ _ h=>h) (Or.inl ⟨by kernel_rfl,?_⟩) bx0 ?_
 rotate_left
 focus (intro w' hSw;have hB:=hSw;have q:w'.cell? ⟨w.heap.size,22,none⟩=some _:=(hB.cell 22).trans e22.out;(try dsimp only at hSw);go_simp;(try with_reducible rfl))
 simp only [List.set]
 refine Bl 2 (by kernel_rfl) rfl (fun K hK=> ?_)
 go_simp
 go_wp2_with (go_at_call 80;(with_reducible refine (Ph _ _ _ _ _ _ xd0.past.rd (Id.cells_one _) (by omega)).mono ?_);rintro _ w1 ⟨A1,c1,rfl,o1,f1⟩;have bx1:=bx0.fr f1 zq;have br1:=br0.fr f1 zq;have xd1:=OpL.frame xd0 f1;have fr1:=fr0.trans f1 zr;have sz1:=f1.size)
 refine hK.out _ _ bx1 (fun hZ=> ?_)
 clear hZ hK K
 try simp only [put_lit2,List.set]
 refine tkG 15 bx1 (h:=?_)
 simp only [List.set]
 refine Bl 5 (by kernel_rfl) rfl (fun K hK=> ?_)
 go_simp
 go_wp2_with (go_at_call 118;(with_reducible refine (Pj _ _ _ _ _ _ xd1.body.rd (Ig Bv (fun _=>rfl) _) (by omega)).mono ?_);rintro _ w2 ⟨A2,c2,rfl,o2,f2⟩;have bx2:=bx1.fr f2 zq;have br2:=br1.fr f2 zq;have xd2:=OpL.frame xd1 f2;have fr2:=fr1.trans f2 zr;have sz2:=f2.size)
 refine hK.out _ _ bx2 (fun hZ=> ?_)
 clear hZ hK K
 try simp only [put_lit2,List.set]
 refine Bl 8 (by kernel_rfl) rfl (fun K hK=> ?_)
 go_simp
 go_wp2_with (go_at_call 119;(with_reducible refine (Wx _ _ _ _ _ _ xd2.refs.rd (Ig Uv (fun _=>rfl) _) (by omega)).mono ?_);rintro _ w3 ⟨A3,c3,rfl,o3,f3⟩;have bx3:=bx2.fr f3 zq;have br3:=br2.fr f3 zq;have xd3:=OpL.frame xd2 f3;have fr3:=fr2.trans f3 zr;have sz3:=f3.size)
 refine hK.out _ _ bx3 (fun hZ=> ?_)
 clear hZ hK K
 try simp only [put_lit2,List.set]
 refine Bl 11 (by kernel_rfl) rfl (fun K hK=> ?_)
 go_simp
 go_wp2_with (go_at_call 120;(with_reducible refine (Wy _ _ _ _ _ _ xd3.guards.rd (Ig Iv (fun _=>rfl) _) (by omega)).mono ?_);rintro _ w4 ⟨A4,c4,rfl,o4,f4⟩;have bx4:=bx3.fr f4 zq;have br4:=br3.fr f4 zq;have xd4:=OpL.frame xd3 f4;have fr4:=fr3.trans f4 zr;have sz4:=f4.size)
 refine hK.out _ _ bx4 (fun hZ=> ?_)
 clear hZ hK K
 try simp only [put_lit2,List.set]
 refine Bl 14 (by kernel_rfl) rfl (fun K hK=> ?_)
 go_simp
 go_wp2_with (go_at_call 121;(with_reducible refine (Pm _ _ _ _ _ _ xd4.boxes.rd (Pq _) (by omega)).mono ?_);rintro _ w5 ⟨A5,c5,rfl,o5,f5⟩;have bx5:=bx4.fr f5 zq;have br5:=br4.fr f5 zq;have xd5:=OpL.frame xd4 f5;have fr5:=fr4.trans f5 zr;have sz5:=f5.size)
 refine hK.out _ _ bx5 (fun hZ=> ?_)
 clear hZ hK K
 try simp only [put_lit2,List.set]
 refine Cv (by kernel_rfl) ?_
 have k4:w5.cell? ⟨w.heap.size,4,none⟩=some (.slice x.pastA x.past.length x.pastC):=(bx5.cell 4).trans e4.out
 have z4:=bx5.frozen 4
 have k14:w5.cell? ⟨w.heap.size,14,none⟩=some (.slice x.bodyA x.body.length x.bodyC):=(bx5.cell 14).trans e14.out
 have z14:=bx5.frozen 14
 have k15:w5.cell? ⟨w.heap.size,15,none⟩=some (.slice x.refsA x.refs.length x.refsC):=(bx5.cell 15).trans e15.out
 have z15:=bx5.frozen 15
 have k19:w5.cell? ⟨w.heap.size,19,none⟩=some (.slice x.guardsA x.guards.length x.guardsC):=(bx5.cell 19).trans e19.out
 have z19:=bx5.frozen 19
 have k22:w5.cell? ⟨w.heap.size,22,none⟩=some (.slice x.boxesA x.boxes.length x.boxesC):=(bx5.cell 22).trans e22.out
 have z22:=bx5.frozen 22
 refine oG 16 (fun K hK=> ?_)
 go_simp
 refine hK.out _ _ trivial (fun hZ=> ?_)
 clear hZ hK K
 try simp only [put_lit2,List.set]
 refine oG 17 (fun K hK=> ?_)
 go_simp
 refine hK.out _ _ trivial (fun hZ=> ?_)
 clear hZ hK K
 try simp only [put_lit2,List.set]
 refine oG 18 (fun K hK=> ?_)
 go_simp
 refine hK.out _ _ trivial (fun hZ=> ?_)
 clear hZ hK K
 try simp only [put_lit2,List.set]
 refine oG 19 (fun K hK=> ?_)
 go_simp
 refine hK.out _ _ trivial (fun hZ=> ?_)
 clear hZ hK K
 try simp only [put_lit2,List.set]
 refine oG 20 (fun K hK=> ?_)
 go_simp
 refine hK.out _ _ trivial (fun hZ=> ?_)
 clear hZ hK K
 try simp only [put_lit2,List.set]
 refine oG 21 (fun K hK=> ?_)
 go_simp
 refine hK.out _ _ trivial (fun hZ=> ?_)
 clear hZ hK K
 try simp only [put_lit2,List.set]
 refine oG 22 (fun K hK=> ?_)
 go_simp
 refine hK.out _ _ trivial (fun hZ=> ?_)
 clear hZ hK K
 try simp only [put_lit2,List.set]
 refine oG 23 (fun K hK=> ?_)
 go_simp
 refine hK.out _ _ trivial (fun hZ=> ?_)
 clear hZ hK K
 try simp only [put_lit2,List.set]
 refine oG 24 (fun K hK=> ?_)
 go_simp
 refine hK.out _ _ trivial (fun hZ=> ?_)
 clear hZ hK K
 try simp only [put_lit2,List.set]
 refine oD ?_
 go_simp
 obtain ⟨CS1,hCS1⟩:=Aa ({x with pastA:=A1,pastC:=c1,bodyA:=A2,bodyC:=c2,refsA:=A3,refsC:=c3,guardsA:=A4,guardsC:=c4,boxesA:=A5,boxesC:=c5}:OpL).cells
 have bx6:Blk (((((w5.setCell ⟨w.heap.size,4,none⟩ (.slice A1 x.past.length c1)).setCell ⟨w.heap.size,14,none⟩ (.slice A2 x.body.length c2)).setCell ⟨w.heap.size,15,none⟩ (.slice A3 x.refs.length c3)).setCell ⟨w.heap.size,19,none⟩ (.slice A4 x.guards.length c4)).setCell ⟨w.heap.size,22,none⟩ (.slice A5 x.boxes.length c5)) w.heap.size 44 CS1:=by
  rw [← hCS1.out]
  rw [← hCS.out] at bx5
  exact ((((bx5.set 4 _).set 14 _).set 15 _).set 19 _).set 22 _
 have f56:Fr (One w.heap.size) w5 (((((w5.setCell ⟨w.heap.size,4,none⟩ (.slice A1 x.past.length c1)).setCell ⟨w.heap.size,14,none⟩ (.slice A2 x.body.length c2)).setCell ⟨w.heap.size,15,none⟩ (.slice A3 x.refs.length c3)).setCell ⟨w.heap.size,19,none⟩ (.slice A4 x.guards.length c4)).setCell ⟨w.heap.size,22,none⟩ (.slice A5 x.boxes.length c5)):=(((((Fr.refl (One w.heap.size) w5).setCell (p:=⟨w.heap.size,4,none⟩) (fun _=>rfl) _).setCell (p:=⟨w.heap.size,14,none⟩) (fun _=>rfl) _).setCell (p:=⟨w.heap.size,15,none⟩) (fun _=>rfl) _).setCell (p:=⟨w.heap.size,19,none⟩) (fun _=>rfl) _).setCell (p:=⟨w.heap.size,22,none⟩) (fun _=>rfl) _
 have sd:w0.drew.heap.size=w.heap.size+2:=hsz
 have fz6:w.heap.size+2≤(((((w5.setCell ⟨w.heap.size,4,none⟩ (.slice A1 x.past.length c1)).setCell ⟨w.heap.size,14,none⟩ (.slice A2 x.body.length c2)).setCell ⟨w.heap.size,15,none⟩ (.slice A3 x.refs.length c3)).setCell ⟨w.heap.size,19,none⟩ (.slice A4 x.guards.length c4)).setCell ⟨w.heap.size,22,none⟩ (.slice A5 x.boxes.length c5)).heap.size:=by have h1:=f56.size;omega
 have br6:=br5.fr f56 (fun e=>by have e':w.heap.size+1=w.heap.size:=e;omega)
 have hat6:x.at (((((w5.setCell ⟨w.heap.size,4,none⟩ (.slice A1 x.past.length c1)).setCell ⟨w.heap.size,14,none⟩ (.slice A2 x.body.length c2)).setCell ⟨w.heap.size,15,none⟩ (.slice A3 x.refs.length c3)).setCell ⟨w.heap.size,19,none⟩ (.slice A4 x.guards.length c4)).setCell ⟨w.heap.size,22,none⟩ (.slice A5 x.boxes.length c5)) w.heap.size:=(hat.fr fr5 zr).fr f56 (fun j hj e=>by have e':j=w.heap.size:=e;omega)
 have fr6:Fr Non w (((((w5.setCell ⟨w.heap.size,4,none⟩ (.slice A1 x.past.length c1)).setCell ⟨w.heap.size,14,none⟩ (.slice A2 x.body.length c2)).setCell ⟨w.heap.size,15,none⟩ (.slice A3 x.refs.length c3)).setCell ⟨w.heap.size,19,none⟩ (.slice A4 x.guards.length c4)).setCell ⟨w.heap.size,22,none⟩ (.slice A5 x.boxes.length c5)):=fr5.trans f56 (fun j hj e=>by have e':j=w.heap.size:=e;omega)
 have p1:=((o1.fr (((f2.trans f3 zr).trans f4 zr).trans f5 zr) zr).lower (base':=w.heap.size+2) (by omega)).fr f56 (fun j hj e=>by have h1:=(o1.row j hj).1;have e':j=w.heap.size:=e;omega)
 have p2:=((o2.fr ((f3.trans f4 zr).trans f5 zr) zr).lower (base':=w.heap.size+2) (by omega)).fr f56 (fun j hj e=>by have h1:=(o2.row j hj).1;have e':j=w.heap.size:=e;omega)
 have p3:=((o3.fr (f4.trans f5 zr) zr).lower (base':=w.heap.size+2) (by omega)).fr f56 (fun j hj e=>by have h1:=(o3.row j hj).1;have e':j=w.heap.size:=e;omega)
 have p4:=((o4.fr (f5) zr).lower (base':=w.heap.size+2) (by omega)).fr f56 (fun j hj e=>by have h1:=(o4.row j hj).1;have e':j=w.heap.size:=e;omega)
 have p5:=(o5.lower (base':=w.heap.size+2) (by omega)).fr f56 (fun j hj e=>by have h1:=(o5.row j hj).1;have e':j=w.heap.size:=e;omega)
 clear hCS bx0 bx1 bx2 bx3 bx4 bx5 br0 br1 br2 br3 br4 br5 fr0 fr1 fr2 fr3 fr4 fr5 xd0 xd1 xd2 xd3 xd4 xd5 f1 f2 f3 f4 f5 f56 o1 o2 o3 o4 o5 e4 e14 e15 e19 e22 k4 k14 k15 k19 k22 z4 z14 z15 z19 z22 sz1 sz2 sz3 sz4 sz5 sd hsz
 generalize (((((w5.setCell ⟨w.heap.size,4,none⟩ (.slice A1 x.past.length c1)).setCell ⟨w.heap.size,14,none⟩ (.slice A2 x.body.length c2)).setCell ⟨w.heap.size,15,none⟩ (.slice A3 x.refs.length c3)).setCell ⟨w.heap.size,19,none⟩ (.slice A4 x.guards.length c4)).setCell ⟨w.heap.size,22,none⟩ (.slice A5 x.boxes.length c5))=w6 at*
 clear w5 w4 w3 w2 w1 w0
 have e9:Hid (CS1[9]? =some (.slice x.pathA x.path.length x.pathC)):=by show _=_;rw [← hCS1.out];rfl
 have e24:Hid (CS1[24]? =some (.slice x.histA x.hist.length x.histC)):=by show _=_;rw [← hCS1.out];rfl
 go_wp2_with (fail)
 refine C4 (S:=(fun w'=>Blk w' w.heap.size 44 CS1)) 7 (by kernel_rfl) ?_
 replace bx6:Blk w6.drew w.heap.size 44 CS1:=bx6.drew
 replace br6:=br6.drew
 replace fr6:=fr6.drew
 replace hat6:=hat6.fr ((Fr.refl Non w6).drew) zr
 have sz6:w.heap.size≤w6.drew.heap.size:=fr6.size
 have hN6:w.heap.size+2≤w6.drew.heap.size:=by have h1:=fz6;exact h1
 replace p1:=p1.drew
 replace p2:=p2.drew
 replace p3:=p3.drew
 replace p4:=p4.drew
 replace p5:=p5.drew
 refine tkG 0 bx6 (h:=?_)
 simp only [List.set]
 refine Et (i:=1) (v:=?_) rfl (by kernel_rfl) (by kernel_rfl) (by kernel_rfl) (by kernel_rfl) (fun _ _ _ h=>h) (Or.inl ⟨by kernel_rfl,?_⟩) bx6 ?_
 rotate_left
 focus (intro w' hSw;have hB:=hSw;have q:w'.cell? ⟨w.heap.size,9,none⟩=some _:=(hB.cell 9).trans e9.out;(try dsimp only at hSw);go_simp;(try with_reducible rfl))
 simp only [List.set]
 refine tkG 3 bx6 (h:=?_)
 simp only [List.set]
 refine Et (i:=4) (v:=?_) rfl (by kernel_rfl) (by kernel_rfl) (by kernel_rfl) (by kernel_rfl) (fun _ _ _ h=>h) (Or.inl ⟨by kernel_rfl,?_⟩) bx6 ?_
 rotate_left
 focus (intro w' hSw;have hB:=hSw;have q:w'.cell? ⟨w.heap.size,24,none⟩=some _:=(hB.cell 24).trans e24.out;(try dsimp only at hSw);go_simp;(try with_reducible rfl))
 simp only [List.set]
 refine Bl 2 (by kernel_rfl) rfl (fun K hK=> ?_)
 go_simp
 go_wp2_with (go_at_call 122;(with_reducible refine (Wz _ _ _ _ _ _ hat6.path.rd (Xa _) (by omega)).mono ?_);rintro _ w7 ⟨A7,c7,rfl,o7,f7⟩;have bx7:=bx6.fr f7 zq;have br7:=br6.fr f7 zq;have hat7:=hat6.fr f7 zr;have fr7:=fr6.trans f7 zr;have sz7:=f7.size)
 refine hK.out _ _ bx7 (fun hZ=> ?_)
 clear hZ hK K
 try simp only [put_lit2,List.set]
 refine tkG 6 bx7 (h:=?_)
 simp only [List.set]
 refine Bl 5 (by kernel_rfl) rfl (fun K hK=> ?_)
 go_simp
 go_wp2_with (go_at_call 123;(with_reducible refine (W4 _ _ _ _ _ _ hat7.hist.rd (Xb _) (by omega)).mono ?_);rintro _ w8 ⟨A8,c8,rfl,o8,f8⟩;have bx8:=bx7.fr f8 zq;have br8:=br7.fr f8 zq;have hat8:=hat7.fr f8 zr;have fr8:=fr7.trans f8 zr;have sz8:=f8.size)
 refine hK.out _ _ bx8 (fun hZ=> ?_)
 clear hZ hK K
 try simp only [put_lit2,List.set]
 refine Cv (by kernel_rfl) ?_
 have k9:w8.cell? ⟨w.heap.size,9,none⟩=some (.slice x.pathA x.path.length x.pathC):=(bx8.cell 9).trans e9.out
 have z9:=bx8.frozen 9
 have k24:w8.cell? ⟨w.heap.size,24,none⟩=some (.slice x.histA x.hist.length x.histC):=(bx8.cell 24).trans e24.out
 have z24:=bx8.frozen 24
 refine oG 7 (fun K hK=> ?_)
 go_simp
 refine hK.out _ _ trivial (fun hZ=> ?_)
 clear hZ hK K
 try simp only [put_lit2,List.set]
 refine oG 8 (fun K hK=> ?_)
 go_simp
 refine hK.out _ _ trivial (fun hZ=> ?_)
 clear hZ hK K
 try simp only [put_lit2,List.set]
 refine oG 9 (fun K hK=> ?_)
 go_simp
 refine hK.out _ _ trivial (fun hZ=> ?_)
 clear hZ hK K
 try simp only [put_lit2,List.set]
 refine oD ?_
 go_simp
 obtain ⟨CS2,hCS2⟩:=Aa ({x with pastA:=A1,pastC:=c1,bodyA:=A2,bodyC:=c2,refsA:=A3,refsC:=c3,guardsA:=A4,guardsC:=c4,boxesA:=A5,boxesC:=c5,pathA:=A7,pathC:=c7,histA:=A8,histC:=c8}:OpL).cells
 have bx9:Blk ((w8.setCell ⟨w.heap.size,9,none⟩ (.slice A7 x.path.length c7)).setCell ⟨w.heap.size,24,none⟩ (.slice A8 x.hist.length c8)) w.heap.size 44 CS2:=by
  rw [← hCS2.out]
  rw [← hCS1.out] at bx8
  exact (bx8.set 9 _).set 24 _
 have f89:Fr (One w.heap.size) w8 ((w8.setCell ⟨w.heap.size,9,none⟩ (.slice A7 x.path.length c7)).setCell ⟨w.heap.size,24,none⟩ (.slice A8 x.hist.length c8)):=((Fr.refl (One w.heap.size) w8).setCell (p:=⟨w.heap.size,9,none⟩) (fun _=>rfl) _).setCell (p:=⟨w.heap.size,24,none⟩) (fun _=>rfl) _
 have br9:=br8.fr f89 (fun e=>by have e':w.heap.size+1=w.heap.size:=e;omega)
 have hat9:x.at ((w8.setCell ⟨w.heap.size,9,none⟩ (.slice A7 x.path.length c7)).setCell ⟨w.heap.size,24,none⟩ (.slice A8 x.hist.length c8)) w.heap.size:=hat8.fr f89 (fun j hj e=>by have e':j=w.heap.size:=e;omega)
 have fr9:Fr Non w ((w8.setCell ⟨w.heap.size,9,none⟩ (.slice A7 x.path.length c7)).setCell ⟨w.heap.size,24,none⟩ (.slice A8 x.hist.length c8)):=fr8.trans f89 (fun j hj e=>by have e':j=w.heap.size:=e;omega)
 have f78:=f7.trans f8 zr
 have sz9:w8.heap.size≤((w8.setCell ⟨w.heap.size,9,none⟩ (.slice A7 x.path.length c7)).setCell ⟨w.heap.size,24,none⟩ (.slice A8 x.hist.length c8)).heap.size:=f89.size
 have N6:w.heap.size+2≤w6.drew.heap.size:=hN6
 have b1:∀k,Ab A1=some k→w.heap.size+2≤k∧k<w6.drew.heap.size:=p1.row
 have q1:=(p1.fr f78 zr).fr f89 (fun j hj e=>by have h1:=(b1 j hj).1;have e':j=w.heap.size:=e;omega)
 have b2:∀k,Ab A2=some k→w.heap.size+2≤k∧k<w6.drew.heap.size:=p2.row
 have q2:=(p2.fr f78 zr).fr f89 (fun j hj e=>by have h1:=(b2 j hj).1;have e':j=w.heap.size:=e;omega)
 have b3:∀k,Ab A3=some k→w.heap.size+2≤k∧k<w6.drew.heap.size:=p3.row
 have q3:=(p3.fr f78 zr).fr f89 (fun j hj e=>by have h1:=(b3 j hj).1;have e':j=w.heap.size:=e;omega)
 have b4:∀k,Ab A4=some k→w.heap.size+2≤k∧k<w6.drew.heap.size:=p4.row
 have q4:=(p4.fr f78 zr).fr f89 (fun j hj e=>by have h1:=(b4 j hj).1;have e':j=w.heap.size:=e;omega)
 have b5:∀k,Ab A5=some k→w.heap.size+2≤k∧k<w6.drew.heap.size:=p5.row
 have q5:=(p5.fr f78 zr).fr f89 (fun j hj e=>by have h1:=(b5 j hj).1;have e':j=w.heap.size:=e;omega)
 have b7:=o7.row
 have b8:=o8.row
 have q7:=((o7.lower (base':=w.heap.size+2) N6).fr f8 zr).fr f89 (fun j hj e=>by have h1:=(b7 j hj).1;have e':j=w.heap.size:=e;omega)
 have q8:=(o8.lower (base':=w.heap.size+2) (by omega)).fr f89 (fun j hj e=>by have h1:=(b8 j hj).1;have e':j=w.heap.size:=e;omega)
 clear bx6 bx7 bx8 br6 br7 br8 fr6 fr7 fr8 hat6 hat7 hat8 f7 f8 f78 f89 o7 o8 p1 p2 p3 p4 p5 e9 e24 k9 k24 z9 z24 hCS1
 generalize ((w8.setCell ⟨w.heap.size,9,none⟩ (.slice A7 x.path.length c7)).setCell ⟨w.heap.size,24,none⟩ (.slice A8 x.hist.length c8))=w9 at*
 have e9:Hid (CS2[9]? =some (.slice A7 x.path.length c7)):=by show _=_;rw [← hCS2.out];rfl
 have e24:Hid (CS2[24]? =some (.slice A8 x.hist.length c8)):=by show _=_;rw [← hCS2.out];rfl
 have k9:w9.cell? ⟨w.heap.size,9,none⟩=some (.slice A7 x.path.length c7):=(bx9.cell 9).trans e9.out
 obtain ⟨np,hnp⟩:=Aa x.path.length
 obtain ⟨nh,hnh⟩:=Aa x.hist.length
 rw [hnp.out] at k9 e9 lpath q7
 rw [hnh.out] at e24 lhist q8
 go_wp2_with (fail)
 go_loopw [36] (fun v wr=>∃(k:Nat) (L:List NdL),v=.int .i64 (k:Int)∧k≤np∧Hid (L.map NdL.nd=x.path.map NdL.nd)∧Hid (L.drop k=x.path.drop k)∧Own wr (w.heap.size+2) 103 2 A7 np c7 (L.flatMap NdL.cells)∧Hid (∀y∈L.take k,Own wr w9.heap.size 144 4 y.A y.xs.length y.c (y.xs.flatMap Bx.cells))∧Fr (fun b=>Ab A7=some b) w9 wr) (fun v _=>np-(intOf v).toNat)
 case atStart=>exact ⟨0,x.path,rfl,by omega,rfl,rfl,q7,(fun _ h=>by simp at h),Fr.refl _ _⟩
 case round=>
  obtain ⟨k,L,rfl,hk,hmap,hdrop,hown,hrows,hf⟩:=hrel
  by_cases hlt:k<np
  ·
   have i1:(0:Int)≤k:=by omega
   have i2:(k:Int)<np:=by omega
   have i3:(k:Int).toNat=k:=by omega
   obtain ⟨y,hy⟩:∃y,x.path[k]? =some y:=⟨_,Al9 (by rw [hnp.out];exact hlt)⟩
   have hLy:L[k]? =some y:=(Kr hdrop.out).trans hy
   have hmem:=Am5 hy
   have hyl:=lnodes.out y hmem
   obtain ⟨g,hA,hgb,hgl,hcell,hfz,_⟩:=Own.setAt hown (j:=k*2+1) (by omega) (.int .i64 0)
   have hyat:=(hat9.nodes y hmem).fr hf (fun j hj e=>by have h1:=(b7 j e).1;omega)
   have d0:wr.cell? ⟨g,k*2+1,none⟩=some (.slice y.A y.xs.length y.c):=hcell _ (by rw [Fa (f:=NdL.cells) (fun _=>rfl) L k 1 y hLy (by omega)];rfl)
   have kk:wr.cell? ⟨w.heap.size,9,none⟩=some (.slice A7 np c7):=hf.cell k9 (fun e=>by have h1:w6.drew.heap.size≤w.heap.size:=(b7 _ e).1;omega)
   have hgw:w.heap.size+2≤g:=hgb
   rw [hA] at kk
   have hset:∀(wv:World) (u:Value),Fr Non wr wv→wv.cell? ⟨g,k*2+1,none⟩=some (.slice y.A y.xs.length y.c)∧wv.frozen? ⟨g,k*2+1,none⟩=false∧Own (wv.setCell ⟨g,k*2+1,none⟩ u) (w.heap.size+2) 103 2 A7 np c7 ((L.flatMap NdL.cells).set (k*2+1) u):=by
    intro wv u hfv
    obtain ⟨g2,hA2,_,_,hc2,hz2,ho2⟩:=Own.setAt (hown.fr hfv zr) (j:=k*2+1) (by omega) u
    rw [hA] at hA2
    have hgg:g=g2:=by injection hA2 with e;injection e
    subst hgg
    exact ⟨hfv.cell d0 zq,hz2,ho2⟩
   replace hset:=Lib.hid hset
   replace hA:=Lib.hid hA
   clear hcell hfz
   go_upto_region 6 with (fail)
   refine C4 (S:=(fun w'=>w'.cell? ⟨w.heap.size,9,none⟩=some (.slice (some ⟨g,0,none⟩) np c7)∧w'.cell? ⟨g,k*2+1,none⟩=some (.slice y.A y.xs.length y.c))) 10 (by kernel_rfl) ?_
   have hS:(fun w'=>w'.cell? ⟨w.heap.size,9,none⟩=some (.slice (some ⟨g,0,none⟩) np c7)∧w'.cell? ⟨g,k*2+1,none⟩=some (.slice y.A y.xs.length y.c)) wr.drew:=⟨kk,d0⟩
   have fd:Fr Non wr wr.drew:=(Fr.refl Non wr).drew
   have hrd:Rd wr.drew w.heap.size 4 y.A y.xs.length (y.xs.flatMap Bx.cells):=And.left (hyat.fr fd zr)
   refine tkG 0 hS (h:=tkG 1 hS (h:=tkG 2 hS (h:=tkG 3 hS (h:=tkG 4 hS (h:=tkG 5 hS (h:=tkG 6 hS (h:=tkG 7 hS (h:=tkG 8 hS (h:=?_)))))))))
   simp only [List.set]
   refine Bl 9 (by kernel_rfl) rfl (fun K hK=> ?_)
   go_simp
   go_wp2_with (go_at_call 121;go_loud (with_reducible refine (Pm _ _ _ _ _ _ hrd (Pq _) hyl).mono ?_);rintro _ wv ⟨A',c',rfl,ov,fv⟩)
   have fv':=fd.trans fv zr
   obtain ⟨d1,z1,ho1⟩:=hset.out wv (.slice A' y.xs.length c') fv'
   refine hK.out _ _ ⟨fv'.cell kk zq,d1⟩ (fun hZ=> ?_)
   clear hZ hK K
   try simp only [put_lit2,List.set]
   refine Cv (by kernel_rfl) ?_
   refine oG 10 (fun K hK=> ?_)
   go_simp
   refine hK.out _ _ trivial (fun hZ=> ?_)
   clear hZ hK K
   try simp only [put_lit2,List.set]
   refine oG 11 (fun K hK=> ?_)
   go_simp
   refine hK.out _ _ trivial (fun hZ=> ?_)
   clear hZ hK K
   try simp only [put_lit2,List.set]
   refine oG 12 (fun K hK=> ?_)
   go_simp
   refine hK.out _ _ trivial (fun hZ=> ?_)
   clear hZ hK K
   try simp only [put_lit2,List.set]
   refine oD ?_
   go_simp
   have ex:∃y':NdL,y'={y with A:=A',c:=c'}:=⟨_,rfl⟩
   obtain ⟨y',hy'⟩:=ex
   have own2:Own (wv.setCell ⟨g,k*2+1,none⟩ (.slice A' y.xs.length c')) (w.heap.size+2) 103 2 A7 np c7 ((L.set k y').flatMap NdL.cells):=by
    rw [← Gx (f:=NdL.cells) (size:=2) (fun _=>rfl) (j:=1) (by omega) (.slice A' y.xs.length c') y' L k y hLy (by rw [hy'];rfl)]
    exact ho1
   have fs:Fr (One g) wv (wv.setCell ⟨g,k*2+1,none⟩ (.slice A' y.xs.length c')):=(Fr.refl (One g) wv).setCell (p:=⟨g,k*2+1,none⟩) (fun _=>rfl) _
   have hgr:Ab A7=some g:=by rw [hA.out];rfl
   have szf:=hf.size
   have frow2:Hid (∀z∈(L.set k y').take (k+1),Own (wv.setCell ⟨g,k*2+1,none⟩ (.slice A' y.xs.length c')) w9.heap.size 144 4 z.A z.xs.length z.c (z.xs.flatMap Bx.cells)):=by
    intro z hz
    rw [Kq L k y' hLy] at hz
    have hgs:g<w9.heap.size:=by have h1:=(b7 g hgr).2;omega
    rcases List.mem_append.1 hz with hz|hz
    · exact ((hrows.out z hz).fr fv' zr).fr fs (fun j hj e=>by have h1:=((hrows.out z hz).row j hj).1;have e':j=g:=e;omega)
    ·
     obtain rfl:=List.mem_singleton.1 hz
     subst hy'
     exact (ov.lower szf).fr fs (fun j hj e=>by have h1:=(ov.row j hj).1;have h2:wr.drew.heap.size=wr.heap.size:=rfl;have e':j=g:=e;omega)
   have fr2:Fr (fun b=>Ab A7=some b) w9 (wv.setCell ⟨g,k*2+1,none⟩ (.slice A' y.xs.length c')):=(hf.trans fv' (fun _ _ e=>e.elim)).trans fs (fun j hj e=>by have e':j=g:=e;subst e';exact hgr)
   have map2:Hid ((L.set k y').map NdL.nd=x.path.map NdL.nd):=(Po NdL.nd L k hLy (by rw [hy'];rfl)).trans hmap.out
   have drop2:Hid ((L.set k y').drop (k+1)=x.path.drop (k+1)):=Pp _ _ k y' hdrop.out
   generalize wv.setCell ⟨g,k*2+1,none⟩ (.slice A' y.xs.length c')=ws at*
   generalize L.set k y'=L2 at*
   go_wp2_with (fail)
   go_roundw
   case rel=>exact ⟨k+1,L2,by go_num,by omega,map2,drop2,own2,frow2,fr2⟩
   case measure=>simp [intOf];omega
  ·
   obtain rfl:np=k:=by omega
   have hLl:L.length=x.path.length:=by have h1:=congrArg List.length hmap.out;rwa [Al6,Al6] at h1
   rw [Am3 (by rw [hLl,hnp.out];exact Al7 _)] at hrows
   obtain ⟨w10,hw10⟩:∃u,u=wr:=⟨_,rfl⟩
   subst hw10
   have sz10:=hf.size
   have bx10:=bx9.fr hf (fun e=>by have h1:w6.drew.heap.size≤w.heap.size:=(b7 _ e).1;omega)
   have br10:=br9.fr hf (fun e=>by have h1:w6.drew.heap.size≤w.heap.size+1:=(b7 _ e).1;omega)
   have hat10:=hat9.fr hf (fun j hj e=>by have h1:=(b7 j e).1;omega)
   have fr10:=fr9.trans hf (fun j hj e=>by have h1:=(b7 j e).1;omega)
   have t1:=q1.fr hf (fun j hj e=>by have h1:=(b1 j hj).2;have h2:=(b7 j e).1;omega)
   have t2:=q2.fr hf (fun j hj e=>by have h1:=(b2 j hj).2;have h2:=(b7 j e).1;omega)
   have t3:=q3.fr hf (fun j hj e=>by have h1:=(b3 j hj).2;have h2:=(b7 j e).1;omega)
   have t4:=q4.fr hf (fun j hj e=>by have h1:=(b4 j hj).2;have h2:=(b7 j e).1;omega)
   have t5:=q5.fr hf (fun j hj e=>by have h1:=(b5 j hj).2;have h2:=(b7 j e).1;omega)
   have t8:=q8.fr hf (fun j hj e=>by have h1:=(b8 j hj).1;have h2:=(b7 j e).2;omega)
   have t7:=hown
   have hmap7:=hmap
   have hrows7:=hrows
   have hLl7:=Lib.hid hLl
   clear hmap hrows hdrop hown hlt hk hLl hf bx9 br9 hat9 fr9 q1 q2 q3 q4 q5 q7 q8 k9
   obtain ⟨L7,hL7⟩:∃u,u=L:=⟨_,rfl⟩
   subst hL7
   have k24:w10.cell? ⟨w.heap.size,24,none⟩=some (.slice A8 nh c8):=(bx10.cell 24).trans e24.out
   go_wp2_with (fail)
   go_loopw [55] (fun v wr=>∃(k:Nat) (L:List SlL),v=.int .i64 (k:Int)∧k≤nh∧Hid (L.map SlL.sl=x.hist.map SlL.sl)∧Hid (L.drop k=x.hist.drop k)∧Own wr (w.heap.size+2) 106 4 A8 nh c8 (L.flatMap SlL.cells)∧Hid (∀y∈L.take k,Own wr w10.heap.size 5 1 y.A y.y.length y.c (y.y.map Bv))∧Fr (fun b=>Ab A8=some b) w10 wr) (fun v _=>nh-(intOf v).toNat)
   case atStart=>exact ⟨0,x.hist,rfl,by omega,rfl,rfl,t8,(fun _ h=>by simp at h),Fr.refl _ _⟩
   case round=>
    obtain ⟨k,L,rfl,hk,hmap,hdrop,hown,hrows,hf⟩:=hrel
    by_cases hlt:k<nh
    ·
     have i1:(0:Int)≤k:=by omega
     have i2:(k:Int)<nh:=by omega
     have i3:(k:Int).toNat=k:=by omega
     obtain ⟨y,hy⟩:∃y,x.hist[k]? =some y:=⟨_,Al9 (by rw [hnh.out];exact hlt)⟩
     have hLy:L[k]? =some y:=(Kr hdrop.out).trans hy
     have hmem:=Am5 hy
     have hyl:=lseals.out y hmem
     obtain ⟨g,hA,hgb,hgl,hcell,hfz,_⟩:=Own.setAt hown (j:=k*4+3) (by omega) (.int .i64 0)
     have hyat:=(hat10.seals y hmem).fr hf (fun j hj e=>by have h1:=(b8 j e).1;omega)
     have d0:wr.cell? ⟨g,k*4+3,none⟩=some (.slice y.A y.y.length y.c):=hcell _ (by rw [Fa (f:=SlL.cells) (fun _=>rfl) L k 3 y hLy (by omega)];rfl)
     have kk:wr.cell? ⟨w.heap.size,24,none⟩=some (.slice A8 nh c8):=hf.cell k24 (fun e=>by have h1:w7.heap.size≤w.heap.size:=(b8 _ e).1;omega)
     have hgw:w.heap.size+2≤g:=hgb
     rw [hA] at kk
     have hset:∀(wv:World) (u:Value),Fr Non wr wv→wv.cell? ⟨g,k*4+3,none⟩=some (.slice y.A y.y.length y.c)∧wv.frozen? ⟨g,k*4+3,none⟩=false∧Own (wv.setCell ⟨g,k*4+3,none⟩ u) (w.heap.size+2) 106 4 A8 nh c8 ((L.flatMap SlL.cells).set (k*4+3) u):=by
      intro wv u hfv
      obtain ⟨g2,hA2,_,_,hc2,hz2,ho2⟩:=Own.setAt (hown.fr hfv zr) (j:=k*4+3) (by omega) u
      rw [hA] at hA2
      have hgg:g=g2:=by injection hA2 with e;injection e
      subst hgg
      exact ⟨hfv.cell d0 zq,hz2,ho2⟩
     replace hset:=Lib.hid hset
     replace hA:=Lib.hid hA
     clear hcell hfz
     go_upto_region 11 with (fail)
     refine C4 (S:=(fun w'=>w'.cell? ⟨w.heap.size,24,none⟩=some (.slice (some ⟨g,0,none⟩) nh c8)∧w'.cell? ⟨g,k*4+3,none⟩=some (.slice y.A y.y.length y.c))) 10 (by kernel_rfl) ?_
     have hS:(fun w'=>w'.cell? ⟨w.heap.size,24,none⟩=some (.slice (some ⟨g,0,none⟩) nh c8)∧w'.cell? ⟨g,k*4+3,none⟩=some (.slice y.A y.y.length y.c)) wr.drew:=⟨kk,d0⟩
     have fd:Fr Non wr wr.drew:=(Fr.refl Non wr).drew
     have hrd:Rd wr.drew w.heap.size 1 y.A y.y.length (y.y.map Bv):=And.left (hyat.fr fd zr)
     refine tkG 0 hS (h:=tkG 1 hS (h:=tkG 2 hS (h:=tkG 3 hS (h:=tkG 4 hS (h:=tkG 5 hS (h:=tkG 6 hS (h:=tkG 7 hS (h:=tkG 8 hS (h:=?_)))))))))
     simp only [List.set]
     refine Bl 9 (by kernel_rfl) rfl (fun K hK=> ?_)
     go_simp
     go_wp2_with (go_at_call 118;go_loud (with_reducible refine (Pj _ _ _ _ _ _ hrd (Ig Bv (fun _=>rfl) _) hyl).mono ?_);rintro _ wv ⟨A',c',rfl,ov,fv⟩)
     have fv':=fd.trans fv zr
     obtain ⟨d1,z1,ho1⟩:=hset.out wv (.slice A' y.y.length c') fv'
     refine hK.out _ _ ⟨fv'.cell kk zq,d1⟩ (fun hZ=> ?_)
     clear hZ hK K
     try simp only [put_lit2,List.set]
     refine Cv (by kernel_rfl) ?_
     refine oG 10 (fun K hK=> ?_)
     go_simp
     refine hK.out _ _ trivial (fun hZ=> ?_)
     clear hZ hK K
     try simp only [put_lit2,List.set]
     refine oG 11 (fun K hK=> ?_)
     go_simp
     refine hK.out _ _ trivial (fun hZ=> ?_)
     clear hZ hK K
     try simp only [put_lit2,List.set]
     refine oG 12 (fun K hK=> ?_)
     go_simp
     refine hK.out _ _ trivial (fun hZ=> ?_)
     clear hZ hK K
     try simp only [put_lit2,List.set]
     refine oD ?_
     go_simp
     have ex:∃y':SlL,y'={y with A:=A',c:=c'}:=⟨_,rfl⟩
     obtain ⟨y',hy'⟩:=ex
     have own2:Own (wv.setCell ⟨g,k*4+3,none⟩ (.slice A' y.y.length c')) (w.heap.size+2) 106 4 A8 nh c8 ((L.set k y').flatMap SlL.cells):=by
      rw [← Gx (f:=SlL.cells) (size:=4) (fun _=>rfl) (j:=3) (by omega) (.slice A' y.y.length c') y' L k y hLy (by rw [hy'];rfl)]
      exact ho1
     have fs:Fr (One g) wv (wv.setCell ⟨g,k*4+3,none⟩ (.slice A' y.y.length c')):=(Fr.refl (One g) wv).setCell (p:=⟨g,k*4+3,none⟩) (fun _=>rfl) _
     have hgr:Ab A8=some g:=by rw [hA.out];rfl
     have szf:=hf.size
     have frow2:Hid (∀z∈(L.set k y').take (k+1),Own (wv.setCell ⟨g,k*4+3,none⟩ (.slice A' y.y.length c')) w10.heap.size 5 1 z.A z.y.length z.c (z.y.map Bv)):=by
      intro z hz
      rw [Kq L k y' hLy] at hz
      have hgs:g<w10.heap.size:=by have h1:=(b8 g hgr).2;omega
      rcases List.mem_append.1 hz with hz|hz
      · exact ((hrows.out z hz).fr fv' zr).fr fs (fun j hj e=>by have h1:=((hrows.out z hz).row j hj).1;have e':j=g:=e;omega)
      ·
       obtain rfl:=List.mem_singleton.1 hz
       subst hy'
       exact (ov.lower szf).fr fs (fun j hj e=>by have h1:=(ov.row j hj).1;have h2:wr.drew.heap.size=wr.heap.size:=rfl;have e':j=g:=e;omega)
     have fr2:Fr (fun b=>Ab A8=some b) w10 (wv.setCell ⟨g,k*4+3,none⟩ (.slice A' y.y.length c')):=(hf.trans fv' (fun _ _ e=>e.elim)).trans fs (fun j hj e=>by have e':j=g:=e;subst e';exact hgr)
     have map2:Hid ((L.set k y').map SlL.sl=x.hist.map SlL.sl):=(Po SlL.sl L k hLy (by rw [hy'];rfl)).trans hmap.out
     have drop2:Hid ((L.set k y').drop (k+1)=x.hist.drop (k+1)):=Pp _ _ k y' hdrop.out
     generalize wv.setCell ⟨g,k*4+3,none⟩ (.slice A' y.y.length c')=ws at*
     generalize L.set k y'=L2 at*
     go_wp2_with (fail)
     go_roundw
     case rel=>exact ⟨k+1,L2,by go_num,by omega,map2,drop2,own2,frow2,fr2⟩
     case measure=>simp [intOf];omega
    ·
     obtain rfl:nh=k:=by omega
     have hLl:L.length=x.hist.length:=by have h1:=congrArg List.length hmap.out;rwa [Al6,Al6] at h1
     rw [Am3 (by rw [hLl,hnh.out];exact Al7 _)] at hrows
     obtain ⟨w11,hw11⟩:∃u,u=wr:=⟨_,rfl⟩
     subst hw11
     have bx11:=bx10.fr hf (fun e=>by have h1:w7.heap.size≤w.heap.size:=(b8 _ e).1;omega)
     have br11:=br10.fr hf (fun e=>by have h1:w7.heap.size≤w.heap.size+1:=(b8 _ e).1;omega)
     have fr11:=fr10.trans hf (fun j hj e=>by have h1:=(b8 j e).1;omega)
     have s1:=(t1.fr hf (fun j hj e=>by have h1:=(b1 j hj).2;have h2:=(b8 j e).1;omega)).lower (base':=w.heap.size) (by omega)
     have s2:=(t2.fr hf (fun j hj e=>by have h1:=(b2 j hj).2;have h2:=(b8 j e).1;omega)).lower (base':=w.heap.size) (by omega)
     have s3:=(t3.fr hf (fun j hj e=>by have h1:=(b3 j hj).2;have h2:=(b8 j e).1;omega)).lower (base':=w.heap.size) (by omega)
     have s4:=(t4.fr hf (fun j hj e=>by have h1:=(b4 j hj).2;have h2:=(b8 j e).1;omega)).lower (base':=w.heap.size) (by omega)
     have s5:=(t5.fr hf (fun j hj e=>by have h1:=(b5 j hj).2;have h2:=(b8 j e).1;omega)).lower (base':=w.heap.size) (by omega)
     have s7:=(t7.fr hf (fun j hj e=>by have h1:=(b7 j hj).2;have h2:=(b8 j e).1;omega)).lower (base':=w.heap.size) (by omega)
     have s8:=hown.lower (base':=w.heap.size) (by omega)
     have hb7:∀j,w9.heap.size≤j→¬(Ab A8=some j):=fun j hj e=>by have h2:=(b8 j e).2;omega
     have r7:Hid (∀y∈L7,Own w11 w.heap.size 144 4 y.A y.xs.length y.c (y.xs.flatMap Bx.cells)):=fun y hy=>((hrows7.out y hy).fr hf (fun j hj e=>hb7 j ((hrows7.out y hy).row j hj).1 e)).lower (by omega)
     have r8:Hid (∀y∈L,Own w11 w.heap.size 5 1 y.A y.y.length y.c (y.y.map Bv)):=fun y hy=>(hrows.out y hy).lower (by omega)
     obtain ⟨v,hv⟩:∃v:OpL,v={x with pastA:=A1,pastC:=c1,bodyA:=A2,bodyC:=c2,refsA:=A3,refsC:=c3,guardsA:=A4,guardsC:=c4,boxesA:=A5,boxesC:=c5,pathA:=A7,pathC:=c7,histA:=A8,histC:=c8,path:=L7,hist:=L}:=⟨_,rfl⟩
     have vop:v.op=x.op:=by
      rw [hv]
      unfold OpL.op
      simp only [hmap7.out,hmap.out]
     have vown:v.own w11 w.heap.size:=by
      rw [hnp.out.symm,← hLl7.out] at s7
      rw [hnh.out.symm,← hLl] at s8
      rw [hv]
      exact ⟨RowAt.of_own s1,RowAt.of_own s7,(fun y hy=>RowAt.of_own (r7.out y hy)),RowAt.of_own s2,RowAt.of_own s3,RowAt.of_own s4,RowAt.of_own s5,RowAt.of_own s8,(fun y hy=>RowAt.of_own (r8.out y hy))⟩
     have hbv:Blk w11 w.heap.size 44 v.cells:=by
      have hc:v.cells=CS2:=by
       rw [← hCS2.out,hv]
       unfold OpL.cells
       simp only [hLl7.out,hLl]
      rw [hc]
      exact bx11
     clear hv hmap7 hmap r7 r8 s1 s2 s3 s4 s5 s7 s8 hrows7 hrows t1 t2 t3 t4 t5 t7 t8
     have honev:=Cr v
     have fin:Hid (∀wz,Fr (One (w.heap.size+1)) w11 wz→POST (.returned (.agg v.cells)) wz):=by
      intro wz hz
      exact hpost.out v wz vop (vown.keep hz ((Types.one br11).mono (fun t e=> .inl e))) (fr11.trans hz (fun k hk e=>absurd hk (by have e':k=w.heap.size+1:=e;omega)))
     clear vop vown hpost
     have tok1:True:=trivial
     go_wp2_with (first
      |(have _t:=tok1;refine Nh rfl 44 (.tmp 1) rfl rfl hbv Tryz.underlying44 rfl hi ?_;clear tok1 _t)
      |(refine Fc rfl 44 (.tmp 2) (.tmp 71) rfl rfl rfl rfl br11 hi rfl honev ?_;have hfz:=(Fr.refl (One (w.heap.size+1)) w11).setRow (g:=w.heap.size+1) (fun _=>rfl) v.cells;have hz2:=br11.setRow (cs:=v.cells);generalize w11.setRow (w.heap.size+1) v.cells=wz at hfz hz2 ⊢;(repeat (first|go_values|go_skip|go_guarded|go_step));exact Dq (t:=44) rfl rfl hz2 rfl Tryz.underlying44 (by kernel_rfl) rfl (fin.out wz hfz)))
end Oq
namespace Oq
attribute [local go_sem ↓] Ci Ef
attribute [local go_sem] Bool.not_false Bool.not_true
theorem Ku {P:Program} {t:TypeId} {d:TypeDesc} (cs:Array Value) (b o:Nat) (hu:P.underlying t=some d) (hd:d.isRow=true) (hi:(P.info? t).map (·.size)=some cs.size):
  ∀w',World.rangeAt w' b o cs.toList→(ldS t (.pointer (some ⟨b,o,none⟩))).run P w'=.ok (.agg cs) w':=fun w' h=>by
 have:=run_loadAt_mid (P:=P) w' b o t cs.toList d h hu hd (by rw [hi];simp)
 unfold ldS
 rw [this]
end Oq
namespace Oq
attribute [local go_sem ↓] Ci Ef
def Pr:Prop:=∀(base gv:Nat) (A:Option Addr) (c:Nat) (l:List Id) (p:Id→Bool) (w:World),Own w base 38 3 A l.length c (l.flatMap Id.cells)→l.length≤1000000→
 (∀x∈l,∀w':World,Fr (fun k=>Ab A=some k) w w'→Calls Tryz.prog 81 #[.agg x.V,.pointer (some ⟨gv,0,none⟩)] w' (Af (p x) w'))→
 Calls Tryz.prog 79 #[.slice A l.length c,.func (.func 81) #[] #[.pointer (some ⟨gv,0,none⟩)]] w fun e w'=>
  ∃ys:List Id,ys=l.filter (fun x=> !p x)∧e=.returned (.slice A ys.length c)∧Rd w' w'.heap.size 3 A ys.length (ys.flatMap Id.cells)∧Fr (fun k=>Ab A=some k) w w'
def Ii (l:List Id) (w:World) (e:Ending) (w':World):Prop:=∃A c,e=.returned (.slice A l.length c)∧Rd w' w'.heap.size 3 A l.length (l.flatMap Id.cells)∧Fr Non w w'
theorem Kv (base:Nat) (g:Gph) (x:OpL) (w:World) (hdel:Pr) (hg:GAt w base g) (hat:x.at w w.heap.size) (hok:∀id∈x.past,id.ok) (hn:x.past.length≤1000000):
  Calls Tryz.prog 26 #[.pointer (some ⟨g.gb,0,none⟩),.agg x.cells] w (Ii (x.past.filter (fun id=> !(Ag g.nodes id).isSome)) w):=by
 have e4:Hid (x.cells[4]? =some (.slice x.pastA x.past.length x.pastC)):=rfl
 obtain ⟨CS,hCS⟩:=Aa x.cells
 have f0:Fr Non w ((w.alloc (.cells #[.pointer (some ⟨g.gb,0,none⟩)] 34)).alloc (.cells CS 44)):=((Fr.refl Non w).alloc _).alloc _
 have bg:=(Blk.new w 34 #[.pointer (some ⟨g.gb,0,none⟩)]).alloc (.cells CS 44)
 have bx:=Blk.new (w.alloc (.cells #[.pointer (some ⟨g.gb,0,none⟩)] 34)) 44 CS
 rw [Al1] at bx
 rw [hCS.out] at e4 ⊢
 have hfin:Hid (∀(ys:List Id) A c w',ys=x.past.filter (fun id=> !(Ag g.nodes id).isSome)→Rd w' w'.heap.size 3 A ys.length (ys.flatMap Id.cells)→Fr Non w w'→Ii (x.past.filter (fun id=> !(Ag g.nodes id).isSome)) w (.returned (.slice A ys.length c)) w'):=by
  intro ys A c w' h1 h2 h3
  subst h1
  exact ⟨A,c,rfl,h2,h3⟩
 generalize Ii (x.past.filter (fun id=> !(Ag g.nodes id).isSome)) w=POST at*
 go_enter Tryz.func26,Tryz.ntmps26
 go_upto_region 1 with (fail)
 generalize (w.alloc (.cells #[.pointer (some ⟨g.gb,0,none⟩)] 34)).alloc (.cells CS 44)=w0 at*
 have c4:w0.cell? ⟨w.heap.size+1,4,none⟩=some (.slice x.pastA x.past.length x.pastC):=(bx.cell 4).trans e4.out
 have kc:=Lib.hid (Ph _ _ x.pastC _ _ w0 (OpL.frame hat f0).past.rd (Id.cells_one _) hn)
 go_wp2_with (fail)
 refine (kc.out).mono ?_
 rintro _ w1 ⟨A1,c1,rfl,o1,f1⟩
 have sz0:=f0.size
 have f01:=f0.trans f1 zr
 have bg1:=bg.fr f1 zq
 have hrow:=o1.row
 have kd:=Lib.hid (hdel w0.heap.size w.heap.size A1 c1 x.past (fun id=>(Ag g.nodes id).isSome) w1 o1 hn (fun id hid w' hf=>by
  have hf':Fr Non w w':=f01.trans hf (fun j hj e=>by have h1:=(hrow j e).1;omega)
  refine (Wr base g w.heap.size id w' (hg.fr hf') ?_ (hok id hid))
  exact (bg1.fr hf (fun e=>by have h1:=(hrow _ e).1;have h2:=bg.lt;omega)).cell 0))
 have hff:Hid (∀w',Fr (fun k=>Ab A1=some k) w1 w'→Fr Non w w'):=fun w' hf=>f01.trans hf (fun j hj e=>by have h1:=(hrow j e).1;omega)
 clear kc hdel hg hat hok bg bx bg1 o1 f1 f0 f01
 go_wp2_with (fail)
 refine (kd.out).mono ?_
 rintro _ w2 ⟨ys,hys,rfl,hrd,hf2⟩
 have fin:=Lib.hid (hfin.out ys A1 c1 w2 hys hrd (hff.out w2 hf2))
 clear hfin hff kd hys hrd hf2
 go_wp2_with (fail)
 exact fin.out
end Oq
end
section
open Go.RowKit
theorem Xd {P:Program} (w:World) (t e ty:TypeId) (z:Value) (ht:P.underlying t=some (.slice e)) (hv:∀w,(zeroValue e).run P w=.ok z w) (b o n c:Nat) (hn:0<n)
  (hc:∀j,j<(Builtin.zeroCells z.cells n).toList.length→(w.cell? ⟨b,o+j,none⟩).isSome=true) (hf:∀j,j<(Builtin.zeroCells z.cells n).toList.length→w.frozen? ⟨b,o+j,none⟩=false)
  (h1:∀v∈(Builtin.zeroCells z.cells n).toList,v.oneCell'=true):
  (Builtin.clear_ #[t] ty #[.slice (some ⟨b,o,none⟩) n c]).run P w=.ok (.tuple #[]) (w.setCells b o (Builtin.zeroCells z.cells n).toList):=by
 have hst:=run_storeCells_cells (P:=P) b o (Builtin.zeroCells z.cells n).toList 0 w (by simpa using hc) (by simpa using hf) h1
 simp only [Nat.add_zero] at hst
 obtain ⟨m,rfl⟩:∃m,n=m+1:=⟨n-1,by omega⟩
 simp [Builtin.clear_,run_underlying ht,hv,hst]
end
section
open Go.RowKit
attribute [local go_sem ↓] Go.wp_at_zero Go.wp_at_succ
theorem Ps (g:Nat):∀(vs:List Value) (o:Nat) (w:World),Fr (One g) w (w.setCells g o vs)
 |[],_,_=>Fr.refl _ _
 |v::vs,o,w=>((Fr.refl (One g) w).setCell (p:=⟨g,o,none⟩) (fun _=>rfl) v).trans (Ps g vs (o+1) _) zr
namespace Oq
theorem Pt {α:Type} (l:List α) (p:α→Bool) (h:l.any p=false):l.filter (fun x=> !p x)=l:=by
 rw [List.filter_eq_self]
 intro x hx
 rw [List.any_eq_false] at h
 simpa using h x hx
theorem Pu {α:Type} (l:List α) (p:α→Bool) {k:Nat} {x:α} (h:l[k]? =some x):(l.take (k+1)).filter p=(l.take k).filter p++(if p x then [x] else []):=by
 obtain ⟨hk,rfl⟩:=List.getElem?_eq_some_iff.1 h
 rw [Am9 hk,List.filter_append]
 congr 1
 cases hp:p l[k]<;>simp [hp]
theorem Own.putId {w:World} {base n c g:Nat} {l:List Id} (h:Own w base 38 3 (some ⟨g,0,none⟩) n c (l.flatMap Id.cells)) {i:Nat} {y:Id} (hy:l[i]? =some y) (hi:i<n) (x:Id):
  (∀j,j<3→(w.cell? ⟨g,i*3+j,none⟩).isSome=true∧w.frozen? ⟨g,i*3+j,none⟩=false)∧
  Own (((w.setCell ⟨g,i*3,none⟩ (.int .i64 x.b)).setCell ⟨g,i*3+1,none⟩ (.int .i64 x.s)).setCell ⟨g,i*3+2,none⟩ (.int .u64 (x.u:Int))) base 38 3 (some ⟨g,0,none⟩) n c ((l.set i x).flatMap Id.cells):=by
 constructor
 ·
  intro j hj
  obtain ⟨g2,hA,_,_,hc,hz,_⟩:=Own.setAt h (j:=i*3+j) (by omega) (.int .i64 0)
  have hgg:g=g2:=by injection hA with e;injection e
  subst hgg
  have hl:(l.flatMap Id.cells)[i*3+j]? =y.cells[j]? :=Fa (f:=Id.cells) (fun _=>rfl) l i j y hy hj
  have hyj:∃v,y.cells[j]? =some v:=⟨_,Al9 (by show j<3;exact hj)⟩
  obtain ⟨v,hv⟩:=hyj
  exact ⟨by rw [hc v (hl.trans hv)];rfl,hz⟩
 ·
  have step:∀(w:World) (xs:List Value) (j:Nat) (u:Value),Own w base 38 3 (some ⟨g,0,none⟩) n c xs→j<n*3→Own (w.setCell ⟨g,j,none⟩ u) base 38 3 (some ⟨g,0,none⟩) n c (xs.set j u):=by
   intro w xs j u h hj
   obtain ⟨g2,hA,_,_,_,_,ho⟩:=Own.setAt h (j:=j) hj u
   have hgg:g=g2:=by injection hA with e;injection e
   subst hgg
   exact ho
  have h1:=step _ _ (i*3) (.int .i64 x.b) h (by omega)
  have h2:=step _ _ (i*3+1) (.int .i64 x.s) h1 (by omega)
  have h3:=step _ _ (i*3+2) (.int .u64 (x.u:Int)) h2 (by omega)
  have e1:(l.flatMap Id.cells).set (i*3) (.int .i64 x.b)=(l.set i ⟨x.b,y.s,y.u⟩).flatMap Id.cells:=Gx (f:=Id.cells) (size:=3) (fun _=>rfl) (j:=0) (by omega) _ _ l i y hy rfl
  have hi1:(l.set i ⟨x.b,y.s,y.u⟩)[i]? =some ⟨x.b,y.s,y.u⟩:=by
   rw [An0 (List.getElem?_eq_some_iff.1 hy).1]
  have e2:((l.set i ⟨x.b,y.s,y.u⟩).flatMap Id.cells).set (i*3+1) (.int .i64 x.s)=(l.set i ⟨x.b,x.s,y.u⟩).flatMap Id.cells:=by
   have:=Gx (f:=Id.cells) (size:=3) (fun _=>rfl) (j:=1) (by omega) (.int .i64 x.s) ⟨x.b,x.s,y.u⟩ _ i _ hi1 rfl
   rwa [List.set_set] at this
  have hi2:(l.set i ⟨x.b,x.s,y.u⟩)[i]? =some ⟨x.b,x.s,y.u⟩:=by
   rw [An0 (List.getElem?_eq_some_iff.1 hy).1]
  have e3:((l.set i ⟨x.b,x.s,y.u⟩).flatMap Id.cells).set (i*3+2) (.int .u64 (x.u:Int))=(l.set i x).flatMap Id.cells:=by
   have:=Gx (f:=Id.cells) (size:=3) (fun _=>rfl) (j:=2) (by omega) (.int .u64 (x.u:Int)) x _ i _ hi2 rfl
   rwa [List.set_set] at this
  rw [e1,e2,e3] at h3
  exact h3
theorem Pv (n:Nat):(Builtin.zeroCells (Value.agg #[.int .i64 0,.int .i64 0,.int .u64 0]).cells n).toList.length=n*3:=by
 simp [Builtin.zeroCells,Value.cells]
theorem Xe (n:Nat):∀v∈(Builtin.zeroCells (Value.agg #[.int .i64 0,.int .i64 0,.int .u64 0]).cells n).toList,v.oneCell'=true:=by
 intro v hv
 unfold Builtin.zeroCells at hv
 rw [Array.toList_map] at hv
 obtain ⟨i,_,rfl⟩:=List.mem_map.1 hv
 have h:i%3=0∨i%3=1∨i%3=2:=by omega
 show (#[Value.int .i64 0,.int .i64 0,.int .u64 0][i%3]!).oneCell'=true
 rcases h with e|e|e<;>rw [e]<;>rfl
theorem Kw:Pr:=by
 intro base gv A c l p w hown hlen hdel
 have kix:=Lib.hid (Wu w.heap.size l.length c gv A l p w rfl hown.rd hlen (fun x hx w' hf=>hdel x hx w' (hf.mono (fun _ _ e=>e.elim))))
 obtain ⟨n,hn⟩:=Aa l.length
 have hcap:=hown.cap
 have hrow:=hown.row
 have hgoal:Hid (∀(ys:List Id) (m:Nat) (w':World),m=ys.length→ys=l.filter (fun x=> !p x)→Rd w' w'.heap.size 3 A m (ys.flatMap Id.cells)→Fr (fun k=>Ab A=some k) w w'→(∃ys:List Id,ys=l.filter (fun x=> !p x)∧Ending.returned (.slice A m c)=.returned (.slice A ys.length c)∧Rd w' w'.heap.size 3 A ys.length (ys.flatMap Id.cells)∧Fr (fun k=>Ab A=some k) w w')):=by
  intro ys m w' h1 h2 h3 h4
  subst h1
  exact ⟨ys,h2,rfl,h3,h4⟩
 rw [hn.out] at kix hown hcap hlen ⊢
 go_enter Tryz.func79,Tryz.ntmps79
 go_wp2_with (fail)
 refine (kix.out).mono ?_
 rintro e w1 ⟨h,f1⟩
 clear kix
 have f1':Fr (fun k=>Ab A=some k) w w1:=f1.mono (fun _ _ e=>e.elim)
 replace hown:=hown.fr f1 zr
 rcases h with ⟨k,id,rfl,hk,hpk,hany⟩|⟨rfl,hany⟩
 ·
  have hkn:k<n:=by rw [← hn.out];exact (List.getElem?_eq_some_iff.1 hk).1
  obtain ⟨g,rfl⟩:∃g,A=some ⟨g,0,none⟩:=by
   rcases hown.2 with ⟨_,h0⟩|⟨g,cap,cur,hv,_⟩
   · omega
   ·
    injection hv with hA _ _
    exact ⟨g,hA⟩
  have hneg:((k:Int)== -1)=false:=by rw [beq_eq_false_iff_ne];omega
  have hst0:Hid (l.take k=(l.take (k+1)).filter (fun x=> !p x)):=by
   show _=_
   rw [Pu l _ hk,hpk,Pt _ _ hany]
   simp
  clear hany hpk hk
  go_wp2_with (fail)
  go_loopw [5,6] (fun vi vj wr=>∃(i j:Nat) (cur:List Id),vi=.int .i64 (i:Int)∧vj=.int .i64 (j:Int)∧i<j∧j≤n∧Hid (cur.take i=(l.take j).filter (fun x=> !p x))∧Hid (cur.drop j=l.drop j)∧Own wr base 38 3 (some ⟨g,0,none⟩) n c (cur.flatMap Id.cells)∧Fr (fun k=>Ab (some ⟨g,0,none⟩)=some k) w wr) (fun _ vj _=>n-(intOf vj).toNat)
  case atStart=>exact ⟨k,k+1,l,rfl,by go_num,by omega,by omega,hst0.out,rfl,hown,f1'⟩
  case round=>
   obtain ⟨i,j,cur,rfl,rfl,hij,hjn,htake,hdrop,hcur,hf⟩:=hrel
   have hcl:cur.length=n:=by
    have h1:=hcur.len
    rw [Fb (f:=Id.cells) (size:=3) (fun _=>rfl)] at h1
    omega
   by_cases hlt:j<n
   ·
    have i1:(0:Int)≤j:=by omega
    have i2:(j:Int)<n:=by omega
    have i3:(j:Int).toNat=j:=by omega
    have m1:(0:Int)≤i:=by omega
    have m2:(i:Int)<n:=by omega
    have m3:(i:Int).toNat=i:=by omega
    obtain ⟨x,hx⟩:∃x,l[j]? =some x:=⟨_,Al9 (by rw [hn.out];exact hlt)⟩
    obtain ⟨y,hy⟩:∃y,cur[i]? =some y:=⟨_,Al9 (by rw [hcl];omega)⟩
    have hcx:cur[j]? =some x:=(Kr hdrop.out).trans hx
    obtain ⟨b,off,hA,hbB,k0,k1,k2⟩:=Id.at hcur.rd hcx
    obtain ⟨rfl,rfl⟩:g=b∧0=off:=by injection hA with e;injection e with e1 e2;exact ⟨e1,e2⟩
    rw [Al2] at k0 k1 k2
    have hsn:=Lib.hid (Pu l (fun x=> !p x) hx)
    have hc:=Lib.hid (fun w' (h:Fr (fun k=>Ab (some ⟨g,0,none⟩)=some k) w w')=>hdel x (Am5 hx) w' h)
    have hst:=Lib.hid (fun (wv:World) (hv:Fr Non wr wv)=>Own.putId (hcur.fr hv zr) hy (by omega) x)
    have hfa:=hf.alloc (.cells x.V 38)
    have hbx:=Blk.new wr 38 x.V
    have hna:Fr Non wr (wr.alloc (.cells x.V 38)):=(Fr.refl Non wr).alloc _
    have hgl:g<wr.heap.size:=hbB
    have hcur':=hcur
    have hx':=Lib.hid hx
    have hy':=Lib.hid hy
    have hil:i<l.length:=by rw [hn.out];omega
    clear hx hy hcx hA hbB hcur hown hrow hst0 hcl
    have hdr:=Lib.hid (show (cur.set i x).drop (j+1)=l.drop (j+1) by
     rw [Am8 (by omega)]
     have h2:=congrArg (Am4 1) hdrop.out
     rwa [Al8,Al8] at h2)
    have hdr1:=Lib.hid (show cur.drop (j+1)=l.drop (j+1) by
     have h2:=congrArg (Am4 1) hdrop.out
     rwa [Al8,Al8] at h2)
    rcases zb (p x) with hp|hp
    ·
     have hs1:Hid (cur.take i=(l.take (j+1)).filter (fun x=> !p x)):=by
      show _=_
      rw [hsn.out,hp,htake.out]
      simp
     rw [hp] at hc
     clear hp hsn
     go_wp2_with (go_at_call 81;(with_reducible refine (hc.out _ hfa).mono ?_);rintro _ w2 ⟨rfl,f2⟩)
     go_roundw
     case rel=>exact ⟨i,j+1,cur,rfl,by go_num,by omega,by omega,hs1,hdr1,(hcur'.fr hna zr).fr f2 zr,hfa.trans f2 (fun _ _ e=>e.elim)⟩
     case measure=>simp [intOf];omega
    ·
     have hs1:Hid ((cur.set i x).take (i+1)=(l.take (j+1)).filter (fun x=> !p x)):=by
      show _=_
      rw [hsn.out,hp,Kq cur i x hy'.out,htake.out]
      simp
     rw [hp] at hc
     clear hp hsn
     go_wp2_with (go_at_call 81;(with_reducible refine (hc.out _ hfa).mono ?_);rintro _ w2 ⟨rfl,f2⟩;obtain ⟨hz,ho⟩:=hst.out w2 (hna.trans f2 zr);have hz0:=hz 0 (by omega);have hz1:=hz 1 (by omega);have hz2:=hz 2 (by omega);obtain ⟨v0,y0⟩:=Option.isSome_iff_exists.1 hz0.1;obtain ⟨v1,y1⟩:=Option.isSome_iff_exists.1 hz1.1;obtain ⟨v2,y2⟩:=Option.isSome_iff_exists.1 hz2.1;have z0:=hz0.2;have z1:=hz1.2;have z2:=hz2.2;rw [Nat.add_zero] at y0 z0;clear hz hz0 hz1 hz2 hst;have hbx2:=hbx.fr f2 zq;have b0:=hbx2.cell 0;have b1:=hbx2.cell 1;have b2:=hbx2.cell 2;replace b0:w2.cell? ⟨wr.heap.size,0,none⟩=some (.int .i64 x.b):=b0;replace b1:w2.cell? ⟨wr.heap.size,1,none⟩=some (.int .i64 x.s):=b1;replace b2:w2.cell? ⟨wr.heap.size,2,none⟩=some (.int .u64 (x.u:Int)):=b2)
     go_roundw
     case rel=>
      exact ⟨i+1,j+1,cur.set i x,by go_num,by go_num,by omega,by omega,hs1,hdr,ho,(((hfa.trans f2 (fun _ _ e=>e.elim)).setCell (p:=⟨g,i*3,none⟩) (fun _=>rfl) _).setCell (p:=⟨g,i*3+1,none⟩) (fun _=>rfl) _).setCell (p:=⟨g,i*3+2,none⟩) (fun _=>rfl) _⟩
     case measure=>simp [intOf];omega
   ·
    obtain rfl:j=n:=by omega
    have hi1:(0:Int)≤i:=by omega
    have hi2:(i:Int)<j:=by omega
    have hi3:(i:Int).toNat=i:=by omega
    have hcc:=hcur.cap
    have hi4:(i:Int)<c:=by omega
    have hgl:=hcur.row g rfl
    have hfin:Hid (∀vs:List Value,Rd (wr.setCells g (i*3) vs) (wr.setCells g (i*3) vs).heap.size 3 (some ⟨g,0,none⟩) i ((l.filter (fun x=> !p x)).flatMap Id.cells)∧Fr (fun k=>Ab (some ⟨g,0,none⟩)=some k) w (wr.setCells g (i*3) vs)):=by
     intro vs
     have fz:=Ps g vs (i*3) wr
     have e1:cur.take i=l.filter (fun x=> !p x):=by
      rw [htake.out,Am3 (by rw [hn.out];exact Al7 _)]
     have hlen2:(l.filter (fun x=> !p x)).length=i:=by rw [← e1,An1];omega
     refine ⟨⟨by rw [Fb (f:=Id.cells) (size:=3) (fun _=>rfl),hlen2],.inr ⟨g,0,rfl,Nat.lt_of_lt_of_le hgl.2 fz.size,?_⟩⟩,hf.trans fz (fun k _ e=>by have e':k=g:=e;subst e';rfl)⟩
     intro q u hu
     have hq:q<i*3:=by
      have h1:=(List.getElem?_eq_some_iff.1 hu).1
      rw [Fb (f:=Id.cells) (size:=3) (fun _=>rfl),hlen2] at h1
      exact h1
     rw [Al2,World.cell?_setCells_out g vs (i*3) wr ⟨g,q,none⟩ (fun _ _=> .inl hq)]
     obtain ⟨g2,hA2,_,_,hc2,_,_⟩:=Own.setAt hcur (j:=q) (by omega) (.int .i64 0)
     have hgg:g=g2:=by injection hA2 with e;injection e
     subst hgg
     refine hc2 u ?_
     rw [← e1] at hu
     have hsplit:cur.flatMap Id.cells=(cur.take i).flatMap Id.cells++(cur.drop i).flatMap Id.cells:=by rw [← List.flatMap_append,List.take_append_drop]
     rw [hsplit,List.getElem?_append_left (List.getElem?_eq_some_iff.1 hu).1]
     exact hu
    have hthere:Hid (∀q,q<(j-i)*3→(wr.cell? ⟨g,i*3+q,none⟩).isSome=true∧wr.frozen? ⟨g,i*3+q,none⟩=false):=by
     intro q hq
     have hm:i*3+q<j*3:=by omega
     obtain ⟨g2,hA2,_,_,hc2,hz2,_⟩:=Own.setAt hcur (j:=i*3+q) hm (.int .i64 0)
     have hgg:g=g2:=by injection hA2 with e;injection e
     subst hgg
     have hl:i*3+q<(cur.flatMap Id.cells).length:=by rw [Fb (f:=Id.cells) (size:=3) (fun _=>rfl),hcl];exact hm
     exact ⟨by rw [hc2 _ (Al9 hl)];rfl,hz2⟩
    have hlen3:Hid (i=(l.filter (fun x=> !p x)).length):=by
     show _=_
     have e1:cur.take i=l.filter (fun x=> !p x):=by
      rw [htake.out,Am3 (by rw [hn.out];exact Al7 _)]
     rw [← e1,An1]
     omega
    clear hcur htake hdrop hdel hown hst0 hf
    have hclr:(Builtin.clear_ #[28] 0 #[Value.slice (some ⟨g,i*3,none⟩) (j-i) (c-i)]).run Tryz.prog wr=.ok (.tuple #[]) (wr.setCells g (i*3) (Builtin.zeroCells (Value.agg #[.int .i64 0,.int .i64 0,.int .u64 0]).cells (j-i)).toList):=
     Xd wr 28 38 0 _ Tryz.underlying28 (fun _=>Tryz.zeroValue38 _) g (i*3) (j-i) (c-i) (by omega) (fun q hq=>(hthere.out q (by rw [Pv] at hq;exact hq)).1) (fun q hq=>(hthere.out q (by rw [Pv] at hq;exact hq)).2) (Xe _)
    have hf0:=Lib.hid (fun vs=>hgoal.out (l.filter (fun x=> !p x)) i (wr.setCells g (i*3) vs) hlen3.out rfl (hfin.out vs).1 (hfin.out vs).2)
    clear hthere hfin hlen3 hgoal
    generalize (Builtin.zeroCells (Value.agg #[.int .i64 0,.int .i64 0,.int .u64 0]).cells (j-i)).toList=ZS at hclr
    go_wp2_with (fail)
    go_ret
    exact hf0.out _
 ·
  have hf0:=Lib.hid (hgoal.out l n w1 hn.out.symm (Pt l p hany).symm (by have:=hown.rd;exact this) f1')
  clear hgoal hdel hany
  go_wp2_with (fail)
  go_ret
  exact hf0.out
end Oq
end
section
open Go.RowKit Go.Sort
attribute [local go_sem ↓] Go.wp_at_zero Go.wp_at_succ
namespace Oq
def GrowOf (w w':World):Prop:=∃(q:Nat) (os:Array Obj),w'=grow (w.drewN q) os
theorem GrowOf.refl (w:World):GrowOf w w:=⟨0,#[],by simp [grow,Am0]⟩
theorem GrowOf.trans {a b c:World} (h:GrowOf a b) (k:GrowOf b c):GrowOf a c:=by
 obtain ⟨q,os,rfl⟩:=h
 obtain ⟨q',os',rfl⟩:=k
 exact ⟨q+q',os++os',by simp [grow,Am0,Array.append_assoc,Nat.add_assoc]⟩
theorem GrowOf.alloc {a b:World} (h:GrowOf a b) (o:Obj):GrowOf a (b.alloc o):=h.trans ⟨0,#[o],by unfold grow Am0 World.alloc;simp⟩
theorem GrowOf.drew {a b:World} (h:GrowOf a b):GrowOf a b.drew:=h.trans ⟨1,#[],by rw [grow_empty];rfl⟩
theorem GrowOf.fr {a b:World} (h:GrowOf a b):Fr Non a b:=by
 obtain ⟨q,os,rfl⟩:=h
 refine ⟨rfl,rfl,rfl,?_,?_⟩
 · simp [grow,Am0]
 ·
  intro k hk _
  simp only [grow,Am0]
  rw [Array.getElem?_append_left hk]
theorem Pw (x y:Id) (w:World):
  Calls Tryz.prog 30 #[.agg x.V,.agg y.V] w fun e w'=>e=.returned (.bool (Id.less x y))∧GrowOf w w':=by
 have hf:=((GrowOf.refl w).alloc (.cells x.V 38)).alloc (.cells y.V 38)
 have hx:=(Blk.new w 38 x.V).alloc (.cells y.V 38)
 have hy:=Blk.new (w.alloc (.cells x.V 38)) 38 y.V
 rw [Al1] at hy
 have hl:=Nq x y
 have hl':=Lib.hid hl
 clear hl
 go_enter Tryz.func30,Tryz.ntmps30
 go_upto_region 1 with (fail)
 generalize (w.alloc (.cells x.V 38)).alloc (.cells y.V 38)=w0 at*
 have c0:w0.drew.cell? ⟨w.heap.size,0,none⟩=some (.int .i64 x.b):=hx.cell 0
 have c1:w0.drew.cell? ⟨w.heap.size,1,none⟩=some (.int .i64 x.s):=hx.cell 1
 have c2:w0.drew.cell? ⟨w.heap.size,2,none⟩=some (.int .u64 (x.u:Int)):=hx.cell 2
 have d0:w0.drew.cell? ⟨w.heap.size+1,0,none⟩=some (.int .i64 y.b):=hy.cell 0
 have d1:w0.drew.cell? ⟨w.heap.size+1,1,none⟩=some (.int .i64 y.s):=hy.cell 1
 have d2:w0.drew.cell? ⟨w.heap.size+1,2,none⟩=some (.int .u64 (y.u:Int)):=hy.cell 2
 go_region_held3 (fun w'=>w'.cell? ⟨w.heap.size,0,none⟩=some (.int .i64 x.b)∧w'.cell? ⟨w.heap.size,1,none⟩=some (.int .i64 x.s)∧w'.cell? ⟨w.heap.size,2,none⟩=some (.int .u64 (x.u:Int))∧w'.cell? ⟨w.heap.size+1,0,none⟩=some (.int .i64 y.b)∧w'.cell? ⟨w.heap.size+1,1,none⟩=some (.int .i64 y.s)∧w'.cell? ⟨w.heap.size+1,2,none⟩=some (.int .u64 (y.u:Int))) ((and_intros<;>first|assumption|(refine Jw ?_ _;assumption))) (first
  |(go_at_call 84;(with_reducible refine (Nl _ _ _).mono ?_);rintro _ _ ⟨rfl,rfl⟩)
  |(go_at_call 85;(with_reducible refine (Nn _ _ _).mono ?_);rintro _ _ ⟨rfl,rfl⟩)
  |(go_at_call 83;(refine (Np _ _ _ _ _ (by exact Blk.new _ _ _)).mono ?_);rintro _ _ ⟨rfl,rfl⟩))
 go_wp2
 go_ret
 exact ⟨by rw [← hl'.out];rfl,hf.drew.alloc _⟩
def Ey (x y:Id):Int:=if Id.less x y then-1 else if Id.less y x then 1 else 0
theorem Xf (x y:Id) (w:World):
  Calls Tryz.prog 126 #[.agg x.V,.agg y.V] w fun e w'=>e=.returned (.int .i64 (Ey x y))∧GrowOf w w':=by
 have hf:=((GrowOf.refl w).alloc (.cells x.V 38)).alloc (.cells y.V 38)
 have hx:=(Blk.new w 38 x.V).alloc (.cells y.V 38)
 have hy:=Blk.new (w.alloc (.cells x.V 38)) 38 y.V
 rw [Al1] at hy
 have k1:=Lib.hid (fun w'=>Pw x y w')
 have k2:=Lib.hid (fun w'=>Pw y x w')
 have hv:Hid (Ey x y=if Id.less x y then-1 else if Id.less y x then 1 else 0):=rfl
 generalize Ey x y=v at*
 generalize hw0:(w.alloc (.cells x.V 38)).alloc (.cells y.V 38)=w0 at*
 have c0:w0.cell? ⟨w.heap.size,0,none⟩=some (.int .i64 x.b):=hx.cell 0
 have c1:w0.cell? ⟨w.heap.size,1,none⟩=some (.int .i64 x.s):=hx.cell 1
 have c2:w0.cell? ⟨w.heap.size,2,none⟩=some (.int .u64 (x.u:Int)):=hx.cell 2
 have d0:w0.cell? ⟨w.heap.size+1,0,none⟩=some (.int .i64 y.b):=hy.cell 0
 have d1:w0.cell? ⟨w.heap.size+1,1,none⟩=some (.int .i64 y.s):=hy.cell 1
 have d2:w0.cell? ⟨w.heap.size+1,2,none⟩=some (.int .u64 (y.u:Int)):=hy.cell 2
 generalize Id.less x y=l1 at*
 generalize Id.less y x=l2 at*
 cases l1
 ·
  cases l2
  ·
   have hz:Hid (0=v):=by show _=_;rw [hv.out];rfl
   clear hv
   go_enter Tryz.func126,Tryz.ntmps126
   go_wp2_with (fail)
   try rw [hw0]
   clear hw0
   refine (k1.out _).mono ?_
   rintro _ w1 ⟨rfl,g1⟩
   have f1:=g1.fr
   have h1:=hf.trans g1
   replace c0:=f1.cell c0 zq
   replace c1:=f1.cell c1 zq
   replace c2:=f1.cell c2 zq
   replace d0:=f1.cell d0 zq
   replace d1:=f1.cell d1 zq
   replace d2:=f1.cell d2 zq
   clear g1 f1
   go_wp2_with (fail)
   refine (k2.out _).mono ?_
   rintro _ w2 ⟨rfl,g2⟩
   have h2:=h1.trans g2
   go_wp2_with (fail)
   go_ret
   exact ⟨congrArg (fun z=>Ending.returned (.int .i64 z)) hz.out,h2⟩
  ·
   have hz:Hid (1=v):=by show _=_;rw [hv.out];rfl
   clear hv
   go_enter Tryz.func126,Tryz.ntmps126
   go_wp2_with (fail)
   try rw [hw0]
   clear hw0
   refine (k1.out _).mono ?_
   rintro _ w1 ⟨rfl,g1⟩
   have f1:=g1.fr
   have h1:=hf.trans g1
   replace c0:=f1.cell c0 zq
   replace c1:=f1.cell c1 zq
   replace c2:=f1.cell c2 zq
   replace d0:=f1.cell d0 zq
   replace d1:=f1.cell d1 zq
   replace d2:=f1.cell d2 zq
   clear g1 f1
   go_wp2_with (fail)
   refine (k2.out _).mono ?_
   rintro _ w2 ⟨rfl,g2⟩
   have h2:=h1.trans g2
   go_wp2_with (fail)
   go_ret
   exact ⟨congrArg (fun z=>Ending.returned (.int .i64 z)) hz.out,h2⟩
 ·
  have hz:Hid (-1=v):=by show _=_;rw [hv.out];rfl
  clear hv
  go_enter Tryz.func126,Tryz.ntmps126
  go_wp2_with (fail)
  try rw [hw0]
  clear hw0
  refine (k1.out _).mono ?_
  rintro _ w1 ⟨rfl,g1⟩
  have h1:=hf.trans g1
  go_wp2_with (fail)
  go_ret
  exact ⟨congrArg (fun z=>Ending.returned (.int .i64 z)) hz.out,h1⟩
end Oq
end
end Go.Proofs.YtafonabghnogaaaGreatDoor
