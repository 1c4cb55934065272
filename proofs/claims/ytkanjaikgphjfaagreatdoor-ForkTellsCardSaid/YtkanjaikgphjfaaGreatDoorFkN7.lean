/-
  Contracts of the functions that the claim's statement reaches, walked one by one (part 7).
  Conditions: as each theorem says.
-/
import Derived.Lib.SliceRun
import Derived.Laws.IdiomCopy
import Derived.Test.YtkanjaikgphjfaaGreatDoorFkN1
import Derived.Test.YtkanjaikgphjfaaGreatDoorFkN2
import Derived.Test.YtkanjaikgphjfaaGreatDoorFkN3
import Derived.Test.YtkanjaikgphjfaaGreatDoorFkN4
import Derived.Test.YtkanjaikgphjfaaGreatDoorFkN6
set_option maxRecDepth 100000
set_option maxHeartbeats 16000000
open Array renaming getD→An8
open Bool renaming and_eq_true→Ao2
open List renaming eq_nil_of_length_eq_zero→An1,nil_append→An2,length_map→An3,drop_drop→An5,getElem?_eq_getElem→An6,mem_of_getElem?→An7,flatMap_cons→An9,take_of_length_le→Ao0,drop→Ao1,getElem?_toArray→Ao3,drop_set_of_lt→Ao4,take_succ_eq_append_getElem→Ao5,getElem?_append_left→Ao6,getElem?_set_self→Ao7,length_take→Ao8
open Nat renaming zero_add→Am9,zero_mul→An0,le_refl→An4
open Go.World renaming size_alloc→Am8
namespace Go.Proofs.YtkanjaikgphjfaaGreatDoor
section
open Go.RowKit
attribute [local go_sem ↓] Go.wp_at_zero Go.wp_at_succ
namespace Oq
theorem W9 {P:Program} {t e:TypeId} (hu:P.underlying t=some (.slice e)) (A:Option Addr) (n c:Nat) (w:World):(Go.Op.equal t (.slice A n c) (.slice none 0 0)).run P w=.ok A.isNone w:=by
 show (Go.Op.equalIn (9999+1) t (.slice A n c) (.slice none 0 0)).run P w=_;generalize 9999=d
 cases A<;>simp [Go.Op.equalIn,run_underlying hu]
theorem Fe {P:Program} {t e:TypeId} (hu:P.underlying t=some (.slice e)) (A:Option Addr) (n c:Nat) (w:World):(binOp .eql t (.slice A n c) (.slice none 0 0)).run P w=.ok (.bool A.isNone) w:=by
 have h:binOp .eql t (.slice A n c) (.slice none 0 0)=(do pure (.bool (← Go.Op.equal t (.slice A n c) (.slice none 0 0)))):=by
  unfold binOp;rfl
 rw [h];simp [W9 hu]
theorem Own.empty (w:World) (t:TypeId) (size:Nat):Own (w.alloc (.cells #[] t)) w.heap.size t size (some ⟨w.heap.size,0,none⟩) 0 0 []:=
 ⟨by simp,.inr ⟨w.heap.size,0,#[],rfl,An4 _,heap_alloc_new w _,An4 _,by omega,by simp,by simp⟩⟩
def Aw (e:TypeId) (size n:Nat) (xs:List Value) (w:World) (r:Ending) (w':World):Prop:=∃A' c',r=.returned (.slice A' n c')∧Own w' w.heap.size e size A' n c' xs∧Fr Non w w'
theorem Qa (B n c:Nat) (A:Option Addr) (xs:List Value) (w:World) (hr:Rd w B 3 A n xs) (h1:∀u∈xs,u.oneCell'=true) (hn:n≤1000000):
  Calls Tryz.prog 74 #[.slice A n c] w (Aw 41 3 n xs w):=by
 have heq:=fun w'=>Fe (P:=Tryz.prog) Tryz.underlying25 A n c w'
 cases A with
 |none=>
  replace heq:∀w',(binOp .eql 25 (.slice none n c) (.slice none 0 0)).run Tryz.prog w'=.ok (.bool true) w':=heq
  have h0:n=0:=by
   rcases hr.2 with h|⟨_,_,h,_⟩
   · exact h
   · cases h
  have hx:xs=[]:=An1 (by rw [hr.1,h0,An0]);subst h0;subst hx;have fin:Aw 41 3 0 [] w (.returned (.slice none 0 0)) w:=⟨none,0,rfl,Own.nil _ _ _ _,Fr.refl _ _⟩;generalize Aw 41 3 0 [] w=POST at*;replace fin:=Lib.hid fin;go_enter Tryz.func74,Tryz.ntmps74;go_wp2_with (fail);exact fin.out
 |some ad=>
  replace heq:∀w',(binOp .eql 25 (.slice (some ad) n c) (.slice none 0 0)).run Tryz.prog w'=.ok (.bool false) w':=heq;have hem:=Own.empty w 41 3;have hr1:=hr.fr ((Fr.refl Non w).alloc (.cells #[] 41)) zr
  have fin:∀A' c' w',Own w' w.heap.size 41 3 A' (0+n) c' ([]++xs)→Fr (fun k=>Ac (some (⟨w.heap.size,0,none⟩:Addr))=some k) (w.alloc (.cells #[] 41)) w'→Aw 41 3 n xs w (.returned (.slice A' n c')) w':=by
   intro A' c' w' h2 h3;rw [Am9,An2] at h2;refine ⟨A',c',rfl,h2,((Fr.refl Non w).alloc (.cells #[] 41)).trans h3 (fun k hk e=> ?_)⟩;have e':w.heap.size=k:=Option.some.inj e;omega
  replace fin:=Lib.hid fin;generalize Aw 41 3 n xs w=POST at*;go_enter Tryz.func74,Tryz.ntmps74;go_upto_region 3 with (fail)
  go_wp2_with (at_builtin;go_loud (refine Az (base:=w.heap.size) (.tmp 5) (.tmp 6) 25 rfl rfl rfl rfl Cp hem hr1 h1 (by omega) (by omega) (by rw [Am8];omega) ?_);intro A1 c1 w2 own1 fr1 hat1;have hdone:=Lib.hid (fin.out _ _ _ own1 fr1);clear own1 fr1 hat1 fin);exact hdone.out
theorem Qc (B n c:Nat) (A:Option Addr) (xs:List Value) (w:World) (hr:Rd w B 1 A n xs) (h1:∀u∈xs,u.oneCell'=true) (hn:n≤1000000):
  Calls Tryz.prog 75 #[.slice A n c] w (Aw 5 1 n xs w):=by
 have heq:=fun w'=>Fe (P:=Tryz.prog) Tryz.underlying60 A n c w'
 cases A with
 |none=>
  replace heq:∀w',(binOp .eql 60 (.slice none n c) (.slice none 0 0)).run Tryz.prog w'=.ok (.bool true) w':=heq
  have h0:n=0:=by
   rcases hr.2 with h|⟨_,_,h,_⟩
   · exact h
   · cases h
  have hx:xs=[]:=An1 (by rw [hr.1,h0,An0]);subst h0;subst hx;have fin:Aw 5 1 0 [] w (.returned (.slice none 0 0)) w:=⟨none,0,rfl,Own.nil _ _ _ _,Fr.refl _ _⟩;generalize Aw 5 1 0 [] w=POST at*;replace fin:=Lib.hid fin;go_enter Tryz.func75,Tryz.ntmps75;go_wp2_with (fail);exact fin.out
 |some ad=>
  replace heq:∀w',(binOp .eql 60 (.slice (some ad) n c) (.slice none 0 0)).run Tryz.prog w'=.ok (.bool false) w':=heq;have hem:=Own.empty w 5 1;have hr1:=hr.fr ((Fr.refl Non w).alloc (.cells #[] 5)) zr
  have fin:∀A' c' w',Own w' w.heap.size 5 1 A' (0+n) c' ([]++xs)→Fr (fun k=>Ac (some (⟨w.heap.size,0,none⟩:Addr))=some k) (w.alloc (.cells #[] 5)) w'→Aw 5 1 n xs w (.returned (.slice A' n c')) w':=by
   intro A' c' w' h2 h3;rw [Am9,An2] at h2;refine ⟨A',c',rfl,h2,((Fr.refl Non w).alloc (.cells #[] 5)).trans h3 (fun k hk e=> ?_)⟩;have e':w.heap.size=k:=Option.some.inj e;omega
  replace fin:=Lib.hid fin;generalize Aw 5 1 n xs w=POST at*;go_enter Tryz.func75,Tryz.ntmps75;go_upto_region 3 with (fail)
  go_wp2_with (at_builtin;go_loud (refine Az (base:=w.heap.size) (.tmp 5) (.tmp 6) 60 rfl rfl rfl rfl slB hem hr1 h1 (by omega) (by omega) (by rw [Am8];omega) ?_);intro A1 c1 w2 own1 fr1 hat1;have hdone:=Lib.hid (fin.out _ _ _ own1 fr1);clear own1 fr1 hat1 fin);exact hdone.out
theorem Xa (B n c:Nat) (A:Option Addr) (xs:List Value) (w:World) (hr:Rd w B 1 A n xs) (h1:∀u∈xs,u.oneCell'=true) (hn:n≤1000000):
  Calls Tryz.prog 76 #[.slice A n c] w (Aw 39 1 n xs w):=by
 have heq:=fun w'=>Fe (P:=Tryz.prog) Tryz.underlying61 A n c w'
 cases A with
 |none=>
  replace heq:∀w',(binOp .eql 61 (.slice none n c) (.slice none 0 0)).run Tryz.prog w'=.ok (.bool true) w':=heq
  have h0:n=0:=by
   rcases hr.2 with h|⟨_,_,h,_⟩
   · exact h
   · cases h
  have hx:xs=[]:=An1 (by rw [hr.1,h0,An0]);subst h0;subst hx;have fin:Aw 39 1 0 [] w (.returned (.slice none 0 0)) w:=⟨none,0,rfl,Own.nil _ _ _ _,Fr.refl _ _⟩;generalize Aw 39 1 0 [] w=POST at*;replace fin:=Lib.hid fin;go_enter Tryz.func76,Tryz.ntmps76;go_wp2_with (fail);exact fin.out
 |some ad=>
  replace heq:∀w',(binOp .eql 61 (.slice (some ad) n c) (.slice none 0 0)).run Tryz.prog w'=.ok (.bool false) w':=heq;have hem:=Own.empty w 39 1;have hr1:=hr.fr ((Fr.refl Non w).alloc (.cells #[] 39)) zr
  have fin:∀A' c' w',Own w' w.heap.size 39 1 A' (0+n) c' ([]++xs)→Fr (fun k=>Ac (some (⟨w.heap.size,0,none⟩:Addr))=some k) (w.alloc (.cells #[] 39)) w'→Aw 39 1 n xs w (.returned (.slice A' n c')) w':=by
   intro A' c' w' h2 h3;rw [Am9,An2] at h2;refine ⟨A',c',rfl,h2,((Fr.refl Non w).alloc (.cells #[] 39)).trans h3 (fun k hk e=> ?_)⟩;have e':w.heap.size=k:=Option.some.inj e;omega
  replace fin:=Lib.hid fin;generalize Aw 39 1 n xs w=POST at*;go_enter Tryz.func76,Tryz.ntmps76;go_upto_region 3 with (fail)
  go_wp2_with (at_builtin;go_loud (refine Az (base:=w.heap.size) (.tmp 5) (.tmp 6) 61 rfl rfl rfl rfl Nz hem hr1 h1 (by omega) (by omega) (by rw [Am8];omega) ?_);intro A1 c1 w2 own1 fr1 hat1;have hdone:=Lib.hid (fin.out _ _ _ own1 fr1);clear own1 fr1 hat1 fin);exact hdone.out
theorem Xb (B n c:Nat) (A:Option Addr) (xs:List Value) (w:World) (hr:Rd w B 1 A n xs) (h1:∀u∈xs,u.oneCell'=true) (hn:n≤1000000):
  Calls Tryz.prog 77 #[.slice A n c] w (Aw 3 1 n xs w):=by
 have heq:=fun w'=>Fe (P:=Tryz.prog) Tryz.underlying22 A n c w'
 cases A with
 |none=>
  replace heq:∀w',(binOp .eql 22 (.slice none n c) (.slice none 0 0)).run Tryz.prog w'=.ok (.bool true) w':=heq
  have h0:n=0:=by
   rcases hr.2 with h|⟨_,_,h,_⟩
   · exact h
   · cases h
  have hx:xs=[]:=An1 (by rw [hr.1,h0,An0]);subst h0;subst hx;have fin:Aw 3 1 0 [] w (.returned (.slice none 0 0)) w:=⟨none,0,rfl,Own.nil _ _ _ _,Fr.refl _ _⟩;generalize Aw 3 1 0 [] w=POST at*;replace fin:=Lib.hid fin;go_enter Tryz.func77,Tryz.ntmps77;go_wp2_with (fail);exact fin.out
 |some ad=>
  replace heq:∀w',(binOp .eql 22 (.slice (some ad) n c) (.slice none 0 0)).run Tryz.prog w'=.ok (.bool false) w':=heq;have hem:=Own.empty w 3 1;have hr1:=hr.fr ((Fr.refl Non w).alloc (.cells #[] 3)) zr
  have fin:∀A' c' w',Own w' w.heap.size 3 1 A' (0+n) c' ([]++xs)→Fr (fun k=>Ac (some (⟨w.heap.size,0,none⟩:Addr))=some k) (w.alloc (.cells #[] 3)) w'→Aw 3 1 n xs w (.returned (.slice A' n c')) w':=by
   intro A' c' w' h2 h3;rw [Am9,An2] at h2;refine ⟨A',c',rfl,h2,((Fr.refl Non w).alloc (.cells #[] 3)).trans h3 (fun k hk e=> ?_)⟩;have e':w.heap.size=k:=Option.some.inj e;omega
  replace fin:=Lib.hid fin;generalize Aw 3 1 n xs w=POST at*;go_enter Tryz.func77,Tryz.ntmps77;go_upto_region 3 with (fail)
  go_wp2_with (at_builtin;go_loud (refine Az (base:=w.heap.size) (.tmp 5) (.tmp 6) 22 rfl rfl rfl rfl Fq hem hr1 h1 (by omega) (by omega) (by rw [Am8];omega) ?_);intro A1 c1 w2 own1 fr1 hat1;have hdone:=Lib.hid (fin.out _ _ _ own1 fr1);clear own1 fr1 hat1 fin);exact hdone.out
theorem Qd (B n c:Nat) (A:Option Addr) (xs:List Value) (w:World) (hr:Rd w B 4 A n xs) (h1:∀u∈xs,u.oneCell'=true) (hn:n≤1000000):
  Calls Tryz.prog 78 #[.slice A n c] w (Aw 134 4 n xs w):=by
 have heq:=fun w'=>Fe (P:=Tryz.prog) Tryz.underlying62 A n c w'
 cases A with
 |none=>
  replace heq:∀w',(binOp .eql 62 (.slice none n c) (.slice none 0 0)).run Tryz.prog w'=.ok (.bool true) w':=heq
  have h0:n=0:=by
   rcases hr.2 with h|⟨_,_,h,_⟩
   · exact h
   · cases h
  have hx:xs=[]:=An1 (by rw [hr.1,h0,An0]);subst h0;subst hx;have fin:Aw 134 4 0 [] w (.returned (.slice none 0 0)) w:=⟨none,0,rfl,Own.nil _ _ _ _,Fr.refl _ _⟩;generalize Aw 134 4 0 [] w=POST at*;replace fin:=Lib.hid fin;go_enter Tryz.func78,Tryz.ntmps78;go_wp2_with (fail);exact fin.out
 |some ad=>
  replace heq:∀w',(binOp .eql 62 (.slice (some ad) n c) (.slice none 0 0)).run Tryz.prog w'=.ok (.bool false) w':=heq;have hem:=Own.empty w 134 4;have hr1:=hr.fr ((Fr.refl Non w).alloc (.cells #[] 134)) zr
  have fin:∀A' c' w',Own w' w.heap.size 134 4 A' (0+n) c' ([]++xs)→Fr (fun k=>Ac (some (⟨w.heap.size,0,none⟩:Addr))=some k) (w.alloc (.cells #[] 134)) w'→Aw 134 4 n xs w (.returned (.slice A' n c')) w':=by
   intro A' c' w' h2 h3;rw [Am9,An2] at h2;refine ⟨A',c',rfl,h2,((Fr.refl Non w).alloc (.cells #[] 134)).trans h3 (fun k hk e=> ?_)⟩;have e':w.heap.size=k:=Option.some.inj e;omega
  replace fin:=Lib.hid fin;generalize Aw 134 4 n xs w=POST at*;go_enter Tryz.func78,Tryz.ntmps78;go_upto_region 3 with (fail)
  go_wp2_with (at_builtin;go_loud (refine Az (base:=w.heap.size) (.tmp 5) (.tmp 6) 62 rfl rfl rfl rfl slBx hem hr1 h1 (by omega) (by omega) (by rw [Am8];omega) ?_);intro A1 c1 w2 own1 fr1 hat1;have hdone:=Lib.hid (fin.out _ _ _ own1 fr1);clear own1 fr1 hat1 fin);exact hdone.out
theorem Xc (B n c:Nat) (A:Option Addr) (xs:List Value) (w:World) (hr:Rd w B 2 A n xs) (h1:∀u∈xs,u.oneCell'=true) (hn:n≤1000000):
  Calls Tryz.prog 79 #[.slice A n c] w (Aw 137 2 n xs w):=by
 have heq:=fun w'=>Fe (P:=Tryz.prog) Tryz.underlying59 A n c w'
 cases A with
 |none=>
  replace heq:∀w',(binOp .eql 59 (.slice none n c) (.slice none 0 0)).run Tryz.prog w'=.ok (.bool true) w':=heq
  have h0:n=0:=by
   rcases hr.2 with h|⟨_,_,h,_⟩
   · exact h
   · cases h
  have hx:xs=[]:=An1 (by rw [hr.1,h0,An0]);subst h0;subst hx;have fin:Aw 137 2 0 [] w (.returned (.slice none 0 0)) w:=⟨none,0,rfl,Own.nil _ _ _ _,Fr.refl _ _⟩;generalize Aw 137 2 0 [] w=POST at*;replace fin:=Lib.hid fin;go_enter Tryz.func79,Tryz.ntmps79;go_wp2_with (fail);exact fin.out
 |some ad=>
  replace heq:∀w',(binOp .eql 59 (.slice (some ad) n c) (.slice none 0 0)).run Tryz.prog w'=.ok (.bool false) w':=heq;have hem:=Own.empty w 137 2;have hr1:=hr.fr ((Fr.refl Non w).alloc (.cells #[] 137)) zr
  have fin:∀A' c' w',Own w' w.heap.size 137 2 A' (0+n) c' ([]++xs)→Fr (fun k=>Ac (some (⟨w.heap.size,0,none⟩:Addr))=some k) (w.alloc (.cells #[] 137)) w'→Aw 137 2 n xs w (.returned (.slice A' n c')) w':=by
   intro A' c' w' h2 h3;rw [Am9,An2] at h2;refine ⟨A',c',rfl,h2,((Fr.refl Non w).alloc (.cells #[] 137)).trans h3 (fun k hk e=> ?_)⟩;have e':w.heap.size=k:=Option.some.inj e;omega
  replace fin:=Lib.hid fin;generalize Aw 137 2 n xs w=POST at*;go_enter Tryz.func79,Tryz.ntmps79;go_upto_region 3 with (fail)
  go_wp2_with (at_builtin;go_loud (refine Az (base:=w.heap.size) (.tmp 5) (.tmp 6) 59 rfl rfl rfl rfl slNd hem hr1 h1 (by omega) (by omega) (by rw [Am8];omega) ?_);intro A1 c1 w2 own1 fr1 hat1;have hdone:=Lib.hid (fin.out _ _ _ own1 fr1);clear own1 fr1 hat1 fin);exact hdone.out
theorem Xd (B n c:Nat) (A:Option Addr) (xs:List Value) (w:World) (hr:Rd w B 4 A n xs) (h1:∀u∈xs,u.oneCell'=true) (hn:n≤1000000):
  Calls Tryz.prog 80 #[.slice A n c] w (Aw 140 4 n xs w):=by
 have heq:=fun w'=>Fe (P:=Tryz.prog) Tryz.underlying63 A n c w'
 cases A with
 |none=>
  replace heq:∀w',(binOp .eql 63 (.slice none n c) (.slice none 0 0)).run Tryz.prog w'=.ok (.bool true) w':=heq
  have h0:n=0:=by
   rcases hr.2 with h|⟨_,_,h,_⟩
   · exact h
   · cases h
  have hx:xs=[]:=An1 (by rw [hr.1,h0,An0]);subst h0;subst hx;have fin:Aw 140 4 0 [] w (.returned (.slice none 0 0)) w:=⟨none,0,rfl,Own.nil _ _ _ _,Fr.refl _ _⟩;generalize Aw 140 4 0 [] w=POST at*;replace fin:=Lib.hid fin;go_enter Tryz.func80,Tryz.ntmps80;go_wp2_with (fail);exact fin.out
 |some ad=>
  replace heq:∀w',(binOp .eql 63 (.slice (some ad) n c) (.slice none 0 0)).run Tryz.prog w'=.ok (.bool false) w':=heq;have hem:=Own.empty w 140 4;have hr1:=hr.fr ((Fr.refl Non w).alloc (.cells #[] 140)) zr
  have fin:∀A' c' w',Own w' w.heap.size 140 4 A' (0+n) c' ([]++xs)→Fr (fun k=>Ac (some (⟨w.heap.size,0,none⟩:Addr))=some k) (w.alloc (.cells #[] 140)) w'→Aw 140 4 n xs w (.returned (.slice A' n c')) w':=by
   intro A' c' w' h2 h3;rw [Am9,An2] at h2;refine ⟨A',c',rfl,h2,((Fr.refl Non w).alloc (.cells #[] 140)).trans h3 (fun k hk e=> ?_)⟩;have e':w.heap.size=k:=Option.some.inj e;omega
  replace fin:=Lib.hid fin;generalize Aw 140 4 n xs w=POST at*;go_enter Tryz.func80,Tryz.ntmps80;go_upto_region 3 with (fail)
  go_wp2_with (at_builtin;go_loud (refine Az (base:=w.heap.size) (.tmp 5) (.tmp 6) 63 rfl rfl rfl rfl slSl hem hr1 h1 (by omega) (by omega) (by rw [Am8];omega) ?_);intro A1 c1 w2 own1 fr1 hat1;have hdone:=Lib.hid (fin.out _ _ _ own1 fr1);clear own1 fr1 hat1 fin);exact hdone.out
theorem Xe (B n c:Nat) (A:Option Addr) (xs:List Value) (w:World) (hr:Rd w B 5 A n xs) (h1:∀u∈xs,u.oneCell'=true) (hn:n≤1000000):
  Calls Tryz.prog 58 #[.slice A n c] w (Aw 71 5 n xs w):=by
 have heq:=fun w'=>Fe (P:=Tryz.prog) Tryz.underlying23 A n c w'
 cases A with
 |none=>
  replace heq:∀w',(binOp .eql 23 (.slice none n c) (.slice none 0 0)).run Tryz.prog w'=.ok (.bool true) w':=heq
  have h0:n=0:=by
   rcases hr.2 with h|⟨_,_,h,_⟩
   · exact h
   · cases h
  have hx:xs=[]:=An1 (by rw [hr.1,h0,An0]);subst h0;subst hx;have fin:Aw 71 5 0 [] w (.returned (.slice none 0 0)) w:=⟨none,0,rfl,Own.nil _ _ _ _,Fr.refl _ _⟩;generalize Aw 71 5 0 [] w=POST at*;replace fin:=Lib.hid fin;go_enter Tryz.func58,Tryz.ntmps58;go_wp2_with (fail);exact fin.out
 |some ad=>
  replace heq:∀w',(binOp .eql 23 (.slice (some ad) n c) (.slice none 0 0)).run Tryz.prog w'=.ok (.bool false) w':=heq;have hem:=Own.empty w 71 5;have hr1:=hr.fr ((Fr.refl Non w).alloc (.cells #[] 71)) zr
  have fin:∀A' c' w',Own w' w.heap.size 71 5 A' (0+n) c' ([]++xs)→Fr (fun k=>Ac (some (⟨w.heap.size,0,none⟩:Addr))=some k) (w.alloc (.cells #[] 71)) w'→Aw 71 5 n xs w (.returned (.slice A' n c')) w':=by
   intro A' c' w' h2 h3;rw [Am9,An2] at h2;refine ⟨A',c',rfl,h2,((Fr.refl Non w).alloc (.cells #[] 71)).trans h3 (fun k hk e=> ?_)⟩;have e':w.heap.size=k:=Option.some.inj e;omega
  replace fin:=Lib.hid fin;generalize Aw 71 5 n xs w=POST at*;go_enter Tryz.func58,Tryz.ntmps58;go_upto_region 3 with (fail)
  go_wp2_with (at_builtin;go_loud (refine Az (base:=w.heap.size) (.tmp 5) (.tmp 6) 23 rfl rfl rfl rfl slCd hem hr1 h1 (by omega) (by omega) (by rw [Am8];omega) ?_);intro A1 c1 w2 own1 fr1 hat1;have hdone:=Lib.hid (fin.out _ _ _ own1 fr1);clear own1 fr1 hat1 fin);exact hdone.out
end Oq
end
section
open Go.RowKit
section
variable {P : Program} {ops : Array Oper} {Q : Exit → Act → World → Prop} {md : Region.Mode} {S : World → Prop} {g : Nat}
def C5 (P:Program) (md:Region.Mode) (ops:Array Oper) (Q:Exit→Act→World→Prop) (S:World→Prop) (g:Nat) (fuel:Nat) (listed:Array Bool) (a:Act) (w:World):Prop:=
 match fuel with
 |0=>Region.ready md ops listed=[]∧Q .normal a w
 |k+1=>(Region.ready md ops listed=[]→Q .normal a w)∧
   ∀i∈Region.ready md ops listed,wpOp P ops Q i (fun a' w'=>((listed.setIfInBounds i true).getD g true=false→S w')∧C5 P md ops Q S g k (listed.setIfInBounds i true) a' w') a w
theorem Xf:∀(fuel:Nat) (listed:Array Bool) (a:Act) (w:World),C5 P md ops Q S g fuel listed a w→wpAny P md ops Q fuel listed a w:=by
 intro fuel
 induction fuel with
 |zero=>intro _ _ _ h;exact h
 |succ k ih=>intro l a w h;exact ⟨h.1,fun i hi=>wpOp_mono (fun a' w' h'=>ih _ a' w' h'.2) (h.2 i hi)⟩
theorem Xg:∀(fuel:Nat) (listed:Array Bool) (a:Act) (w:World),listed.getD g true=true→wpAny P md ops Q fuel listed a w→C5 P md ops Q S g fuel listed a w:=by
 intro fuel
 induction fuel with
 |zero=>intro _ _ _ _ h;exact h
 |succ k ih=>
  intro l a w hg h;refine ⟨h.1,fun i hi=>wpOp_mono (fun a' w' h'=> ?_) (h.2 i hi)⟩
  have hg':(l.setIfInBounds i true).getD g true=true:=by
   by_cases hgi:i=g
   ·
    subst hgi
    by_cases hb:i<l.size
    · simp [An8,hb]
    · simp [An8,hb]
   ·
    rw [getD_set_ne true hgi];exact hg
  exact ⟨fun h0=>(by rw [hg'] at h0;cases h0),ih _ a' w' hg' h'⟩
theorem Xh {i:Nat} {oi og:Oper} {v:Value} (hi:ops[i]? =some oi) (hog:ops[g]? =some og) (hgi:g≠i) (hwait:∃e∈og.after,Region.binds md e=true∧e.on=i)
  (hsel:∀(j:Nat) (o:Oper) cs b,ops[j]? =some o→o.op≠ .select cs b) (hQ:∀c a w,Q (.panic c) (a.put oi.dst v) w→Q (.panic c) a w):
  ∀(fuel:Nat) (listed:Array Bool) (a:Act) (w:World),listed.getD g true=false→
   (∀j oj,ops[j]? =some oj→j≠i→listed.getD j true=false→(∀e∈oj.after,Region.binds md e=true→e.on≠i)→oi.apart ops oj=true)→
   i∈Region.ready md ops listed→YieldsIf P ops S oi v a→S w→
   C5 P md ops Q S g fuel (listed.setIfInBounds i true) (a.put oi.dst v) w→C5 P md ops Q S g (fuel+1) listed a w:=by
 intro fuel
 induction fuel with
 |zero=>
  intro listed a w hg _ hr hy hS H;refine ⟨fun h=>(by rw [h] at hr;cases hr),fun j hj=> ?_⟩
  by_cases hji:j=i
  · subst hji;exact hy.wpOp hi hS ⟨fun _=>hS,H⟩
  ·
   have h0:=ready_mono hj hji;rw [H.1] at h0
   cases h0
 |succ k ih=>
  intro listed a w hg hfree hr hy hS H;refine ⟨fun h=>(by rw [h] at hr;cases hr),fun j hj=> ?_⟩
  by_cases hji:j=i
  · subst hji;exact hy.wpOp hi hS ⟨fun _=>hS,H⟩
  ·
   have hpend:=(mem_ready.1 hr).1;obtain ⟨hjun,oj,hoj,hall⟩:=mem_ready.1 hj
   have hbl:∀e∈oj.after,Region.binds md e=true→e.on≠i:=fun e he hb heq=>by
    have h1:=hall e he hb;rw [heq] at h1
    rcases Nat.lt_or_ge i listed.size with h'|h'
    · simp [h'] at hpend h1;rw [hpend] at h1;cases h1
    · simp [Array.getElem?_eq_none h'] at h1
   have hjg:j≠g:=by
    rintro rfl;obtain ⟨e,he,hb,heq⟩:=hwait;rw [hog] at hoj
    cases hoj
    exact hbl e he hb heq
   have h1:=H.2 j (ready_mono hj hji);have h2:=wpOp_putIf hoj (hfree j oj hoj hji hjun hbl) (fun cs b=>hsel i oi cs b hi) (fun cs b=>hsel j oj cs b hoj) hQ hy h1;have hg':(listed.setIfInBounds j true).getD g true=false:=by rw [getD_set_ne true hjg];exact hg
   have hgij:((listed.setIfInBounds i true).setIfInBounds j true).getD g true=false:=by rw [getD_set_ne true hjg,getD_set_ne true (Ne.symm hgi)];exact hg
   have hfree':∀m om,ops[m]? =some om→m≠i→(listed.setIfInBounds j true).getD m true=false→
     (∀e∈om.after,Region.binds md e=true→e.on≠i)→oi.apart ops om=true:=fun m om hm hmi hun hno=>by
    refine hfree m om hm hmi ?_ hno
    by_cases hjm:j=m
    · subst hjm;exact hjun
    · rw [getD_set_ne true hjm] at hun;exact hun
   refine wpOp_mono (fun a' w' h3=> ?_) h2;have hS':=h3.2.1 hgij;refine ⟨fun _=>hS',ih _ a' w' hg' hfree' (ready_mono hr (Ne.symm hji)) h3.1 hS' ?_⟩;rw [Array.setIfInBounds_comm _ _ hji];exact h3.2.2
def Iw (md:Region.Mode) (ops:Array Oper) (g i:Nat):Bool:=match ops[g]? with|some og=>og.after.any (fun e=>Region.binds md e&&e.on==i)|none=>false
theorem Xi {i:Nat} (h:Iw md ops g i=true):∃og,ops[g]? =some og∧∃e∈og.after,Region.binds md e=true∧e.on=i:=by
 unfold Iw at h
 split at h
 ·
  rename_i og hog;obtain ⟨e,he,hb⟩:=Array.any_eq_true'.1 h;simp only [Ao2,beq_iff_eq] at hb;exact ⟨og,hog,e,he,hb.1,hb.2⟩
 · cases h
end
theorem Ff {P:Program} {Q:Exit→Act→World→Prop} {md:Region.Mode} {S:World→Prop} {g:Nat} {l:List Oper} {i:Nat} {d:Tmp} {op:Op} {ty:TypeId} {pos:String} {after:Array Edge} {gd:Option (Nat × Bool)} {v:Value} {fuel:Nat} {listed:Array Bool} {tl:List Value} {ds:List Deferred} {w:World} (hi:l[i]? =some ⟨some d,op,ty,pos,after,gd⟩)
  (hgate:(listed.getD g true==false&&g !=i&&Iw md l.toArray g i)=true)
  (hs:Region.noSelect l.toArray=true) (hf:Region.free md l.toArray listed i=true) (hr:(Region.ready md l.toArray listed).contains i=true)
  (hQ:∀c a w,Q (.panic c) (a.put (some d) v) w→Q (.panic c) a w) (hy:YieldsIf P l.toArray S ⟨some d,op,ty,pos,after,gd⟩ v ⟨tl.toArray,ds⟩) (hS:S w)
  (h:C5 P md l.toArray Q S g fuel (listed.setIfInBounds i true) ⟨(tl.set d v).toArray,ds⟩ w):C5 P md l.toArray Q S g (fuel+1) listed ⟨tl.toArray,ds⟩ w:=by
 simp only [Ao2,beq_iff_eq,bne_iff_ne] at hgate;obtain ⟨og,hog,hwait⟩:=Xi hgate.2;have hi':l.toArray[i]? =some ⟨some d,op,ty,pos,after,gd⟩:=by rw [Ao3];exact hi
 exact Xh hi' hog hgate.1.2 hwait (Region.noSelect_spec hs) hQ fuel listed _ w hgate.1.1 (Region.free_spec hi' hf) (by simpa using hr) hy hS (by rw [Aj];exact h)
theorem Bn {P:Program} {Q:Exit→Act→World→Prop} {l:List Oper} {md:Region.Mode} {S:World→Prop} {g fuel:Nat} {listed:Array Bool} {a:Act} {w:World} (i:Nat) {d:Option Tmp} {op:Op} {ty:TypeId} {pos:String} {after:Array Edge} (hr:Region.ready md l.toArray listed=[i]) (ho:l[i]? =some ⟨d,op,ty,pos,after,none⟩)
  (h:∀K':Act→World→Prop,Shut (∀a w,S w→(S w→C5 P md l.toArray Q S g fuel (listed.setIfInBounds i true) a w)→K' a w)→Oper.wp P ⟨d,op,ty,pos,after,none⟩ a w K' Q):
  C5 P md l.toArray Q S g (fuel+1) listed a w:=by
 refine ⟨fun h0=>(by rw [hr] at h0;cases h0),fun j hj=> ?_⟩;rw [hr] at hj;obtain rfl:=List.mem_singleton.1 hj;refine wpOp_step (o:=⟨d,op,ty,pos,after,none⟩) (by rw [Ao3];exact ho) (fun K' hK=> ?_);rw [if_pos (show Region.wanted _ _=true from rfl)];exact h K' (fun a w hS hW=>hK a w ⟨fun _=>hS,hW hS⟩)
theorem Cy {P:Program} {Q:Exit→Act→World→Prop} {l:List Oper} {md:Region.Mode} {S:World→Prop} {g fuel:Nat} {listed:Array Bool} {a:Act} {w:World} (hr:Region.ready md l.toArray listed=[g])
  (h:wpAnyH P md l.toArray Q (fun _=>True) (fuel+1) listed a w):C5 P md l.toArray Q S g (fuel+1) listed a w:=by
 refine ⟨h.1,fun j hj=>wpOp_mono (fun a' w' h'=> ?_) (h.2 j hj)⟩;rw [hr] at hj;obtain rfl:=List.mem_singleton.1 hj
 have hg':(listed.setIfInBounds j true).getD j true=true:=by
  by_cases hb:j<listed.size
  · simp [An8,hb]
  · simp [An8,hb]
 exact ⟨fun h0=>(by rw [hg'] at h0;cases h0),Xg _ _ _ _ hg' (wpAny_of_held _ _ _ _ h'.2)⟩
theorem C6 {P:Program} {Q:Exit→Act→World→Prop} {S:World→Prop} (g:Nat) {id:Nat} {l:List Oper} {a:Act} {w:World} (hm:P.follows .mixedOrders=true)
  (h:C5 P .any l.toArray Q S g l.toArray.size (Array.replicate l.toArray.size false) a w.drew):(Code.region id l.toArray true).wp P Q a w:=
 wp_region_any hm (Xf _ _ _ _ h)
theorem tkG (i:Nat) {P:Program} {Q:Exit→Act→World→Prop} {md:Region.Mode} {S:World→Prop} {gt:Nat} {l:List Oper} {d:Tmp} {op:Op} {ty:TypeId} {pos:String} {after:Array Edge} {g:Option (Nat × Bool)} {v:Value} {fuel:Nat} {listed:Array Bool} {tl:List Value} {ds:List Deferred} {w:World} (hS:S w) (hi:l[i]? =some ⟨some d,op,ty,pos,after,g⟩:=by rfl)
  (hgate:(listed.getD gt true==false&&gt !=i&&Iw md l.toArray gt i)=true:=by kernel_rfl)
  (hs:Region.noSelect l.toArray=true:=by kernel_rfl) (hf:Region.free md l.toArray listed i=true:=by kernel_rfl) (hr:(Region.ready md l.toArray listed).contains i=true:=by kernel_rfl)
  (hQ:∀c a w,Q (.panic c) (a.put (some d) v) w→Q (.panic c) a w:=by exact fun _ _ _ h=>h) (hy:YieldsIf P l.toArray S ⟨some d,op,ty,pos,after,g⟩ v ⟨tl.toArray,ds⟩:=by (refine Or.inl ⟨by kernel_rfl,?_⟩;intro w' hSw;(try dsimp only at hSw);(try simp only [List.set]);go_simp;(try with_reducible rfl)))
  (h:C5 P md l.toArray Q S gt fuel (listed.setIfInBounds i true) ⟨(tl.set d v).toArray,ds⟩ w):
  C5 P md l.toArray Q S gt (fuel+1) listed ⟨tl.toArray,ds⟩ w:=Ff hi hgate hs hf hr hQ hy hS h
theorem Own.setAt {w:World} {base n c size:Nat} {t:TypeId} {A:Option Addr} {xs:List Value} (h:Own w base t size A n c xs) {j:Nat} (hj:j<n*size) (u:Value):
  ∃g,A=some ⟨g,0,none⟩∧base≤g∧g<w.heap.size∧(∀v,xs[j]? =some v→w.cell? ⟨g,j,none⟩=some v)∧w.frozen? ⟨g,j,none⟩=false∧Own (w.setCell ⟨g,j,none⟩ u) base t size A n c (xs.set j u):=by
 rcases h.2 with ⟨_,h0⟩|⟨g,cap,cur,hv,hb,hg,h1,h2,h3,h4⟩
 ·
  subst h0;omega
 ·
  injection hv with hA hn hc
  have hblk:Blk w g t cur:=hg;have hset:=hblk.set j u;refine ⟨g,hA,hb,hblk.lt,?_,hblk.frozen j,?_⟩
  ·
   intro v hv';rw [hblk.cell j];rw [← h4,List.getElem?_take_of_lt hj] at hv';simpa using hv'
  ·
   refine ⟨by rw [List.length_set];exact h.1,.inr ⟨g,cap,cur.setIfInBounds j u,?_,hb,hset,h1,h2,by simpa using h3,?_⟩⟩
   · subst hA hc;rfl
   · rw [Array.toList_setIfInBounds,List.take_set,h4]
theorem Hg {α:Type} {f:α→List Value} {size:Nat} (hf:∀x,(f x).length=size) {j:Nat} (hj:j<size) (v:Value) (y:α):∀(l:List α) (k:Nat) (x:α),l[k]? =some x→(f x).set j v=f y→
  (l.flatMap f).set (k*size+j) v=(l.set k y).flatMap f:=by
 intro l
 induction l with
 |nil=>intro k x hx _;simp at hx
 |cons a r ih=>
  intro k x hx hy
  cases k with
  |zero=>
   simp only [List.getElem?_cons_zero,Option.some.injEq] at hx;subst hx;rw [An9,List.set_cons_zero,An9,An0,Am9,List.set_append_left _ _ (by rw [hf];exact hj),hy]
  |succ m=>
   rw [List.getElem?_cons_succ] at hx;rw [An9,List.set_cons_succ,An9,List.set_append_right _ _ (by rw [hf,Nat.add_mul];omega),hf,show (m+1)*size+j-size=m*size+j by rw [Nat.add_mul];omega,ih m x hx hy]
theorem Qe {α β:Type} (nd:α→β) (l:List α) (k:Nat) {y y':α} (h:l[k]? =some y) (e:nd y'=nd y):(l.set k y').map nd=l.map nd:=by
 rw [List.map_set,e];apply List.ext_getElem?;intro i;rw [List.getElem?_set]
 by_cases hi:k=i
 ·
  subst hi;rw [List.getElem?_map,h];have hk:k<(l.map nd).length:=by rw [An3];exact (List.getElem?_eq_some_iff.1 h).1
  simp [(List.getElem?_eq_some_iff.1 h).1]
 · rw [if_neg hi]
theorem Qf {α:Type} (l m:List α) (k:Nat) (y':α) (h:l.drop k=m.drop k):(l.set k y').drop (k+1)=m.drop (k+1):=by
 rw [Ao4 (by omega)];have h2:=congrArg (Ao1 1) h;rwa [An5,An5] at h2
theorem Ll {α:Type} (l:List α) (k:Nat) {y:α} (y':α) (h:l[k]? =some y):(l.set k y').take (k+1)=l.take k++[y']:=by
 have hk:=(List.getElem?_eq_some_iff.1 h).1;rw [Ao5 (by rw [List.length_set];exact hk),List.take_set_of_le (by omega)];simp
theorem Lm {α:Type} {l m:List α} {k:Nat} (h:l.drop k=m.drop k):l[k]? =m[k]? :=by
 have h2:=congrArg (fun t=>t[0]?) h;simpa [List.getElem?_drop] using h2
end
section
open Go.RowKit
attribute [local go_sem ↓] Go.wp_at_zero Go.wp_at_succ
namespace Oq
attribute [local go_sem ↓] Cg
theorem Ix {α:Type} (f:α→Value) (hf:∀a,(f a).oneCell'=true) (l:List α):∀v∈l.map f,v.oneCell'=true:=by
 intro v hv;obtain ⟨y,_,rfl⟩:=List.mem_map.1 hv;exact hf y
theorem Iy {α:Type} (f:α→List Value) (hf:∀a,∀v∈f a,v.oneCell'=true) (l:List α):∀v∈l.flatMap f,v.oneCell'=true:=by
 intro v hv;obtain ⟨y,_,hy⟩:=List.mem_flatMap.1 hv;exact hf y v hy
theorem Qg (l:List Bx):∀v∈l.flatMap Bx.cells,v.oneCell'=true:=Iy _ (fun a v hv=>by simp [Bx.cells] at hv;rcases hv with rfl|rfl|rfl|rfl<;>rfl) l
theorem Xj (l:List NdL):∀v∈l.flatMap NdL.cells,v.oneCell'=true:=Iy _ (fun a v hv=>by simp [NdL.cells] at hv;rcases hv with rfl|rfl<;>rfl) l
theorem Xk (l:List SlL):∀v∈l.flatMap SlL.cells,v.oneCell'=true:=Iy _ (fun a v hv=>by simp [SlL.cells] at hv;rcases hv with rfl|rfl|rfl|rfl<;>rfl) l
def Ln (o:Op) (w:World) (r:Ending) (w':World):Prop:=
 ∃y:OpL,r=.returned (.agg y.cells)∧y.op=o∧y.own w' w.heap.size∧Fr Non w w'
theorem Qh (x:OpL) (w:World) (hat:x.at w w.heap.size) (hok:x.op.ok):Calls Tryz.prog 47 #[.agg x.cells] w (Ln x.op w):=by
 have hi:(Tryz.prog.info? 67).map (·.size)=some 27:=by kernel_rfl
 have ag:Blk ((w.alloc (.cells x.cells 67)).alloc (.cells zO 67)) w.heap.size 67 x.cells:=(Blk.new w 67 x.cells).alloc _
 have cc:Blk ((w.alloc (.cells x.cells 67)).alloc (.cells zO 67)) (w.heap.size+1) 67 zO:=by
  have:=Blk.new (w.alloc (.cells x.cells 67)) 67 zO;rwa [Am8] at this
 have dn:((w.alloc (.cells x.cells 67)).alloc (.cells zO 67)).heap.size=w.heap.size+2:=by rw [Am8,Am8]
 have bq:Fr Non w ((w.alloc (.cells x.cells 67)).alloc (.cells zO 67)):=((Fr.refl Non w).alloc _).alloc _;have bm:=OpL.frame hat bq;have cd:x.guards.length≤1000000:=by have h:=hok.guards.1;rw [show x.op.guards=x.guards from rfl] at h;omega
 have dy:x.refs.length≤1000000:=by have h:=hok.refs.1;rw [show x.op.refs=x.refs from rfl] at h;omega
 have da:x.boxes.length≤1000000:=by have h:=hok.boxes.1;rw [show x.op.boxes=x.boxes from rfl] at h;omega
 have du:x.past.length≤1000000:=by have h:=hok.past.1;rw [show x.op.past=x.past from rfl] at h;omega
 have bz:x.path.length≤1000000:=by have h:=hok.path.1;rw [show x.op.path=x.path.map NdL.nd from rfl,An3] at h;omega
 have bx:x.hist.length≤1000000:=by have h:=hok.hist.1;rw [show x.op.hist=x.hist.map SlL.sl from rfl,An3] at h;omega
 have dh:x.body.length≤1000000:=by have h:=hok.body;rw [show x.op.body=x.body from rfl] at h;omega
 have a5:Hid (∀y∈x.path,y.xs.length≤1000000):=fun y hy=>by have h:=(hok.path.2 y.nd (List.mem_map.2 ⟨y,hy,rfl⟩)).2.1;rw [show y.nd.xs=y.xs from rfl] at h;omega
 have bd:Hid (∀y∈x.hist,y.y.length≤1000000):=fun y hy=>by have h:=(hok.hist.2 y.sl (List.mem_map.2 ⟨y,hy,rfl⟩)).2;rw [show y.sl.y=y.y from rfl] at h;omega
 have az:Hid (∀(y:OpL) (w':World),y.op=x.op→y.own w' w.heap.size→Fr Non w w'→Ln x.op w (.returned (.agg y.cells)) w'):=fun y w' h1 h2 h3=>⟨y,rfl,h1,h2,h3⟩;generalize Ln x.op w=POST at*;go_enter Tryz.func47,Tryz.ntmps47;go_upto_region 1 with (fail)
 generalize ((w.alloc (.cells x.cells 67)).alloc (.cells zO 67))=w0 at*;obtain ⟨CS,ay⟩:=Ab x.cells;rw [ay.out] at ag;have e4:Hid (CS[4]? =some (.slice x.pastA x.past.length x.pastC)):=by show _=_;rw [← ay.out];rfl
 have ci:Hid (CS[14]? =some (.slice x.bodyA x.body.length x.bodyC)):=by show _=_;rw [← ay.out];rfl
 have dd:Hid (CS[15]? =some (.slice x.refsA x.refs.length x.refsC)):=by show _=_;rw [← ay.out];rfl
 have cx:Hid (CS[19]? =some (.slice x.guardsA x.guards.length x.guardsC)):=by show _=_;rw [← ay.out];rfl
 have cz:Hid (CS[22]? =some (.slice x.boxesA x.boxes.length x.boxesC)):=by show _=_;rw [← ay.out];rfl
 refine C6 (S:=(fun w'=>Blk w' w.heap.size 67 CS)) 16 (by kernel_rfl) ?_;replace ag:Blk w0.drew w.heap.size 67 CS:=ag.drew;replace cc:=cc.drew;replace bq:=bq.drew;replace bm:=OpL.frame bm ((Fr.refl Non w0).drew);refine tkG 0 ag (h:=?_);simp only [List.set];refine Ff (i:=1) (v:=?_) rfl (by kernel_rfl) (by kernel_rfl) (by kernel_rfl) (by kernel_rfl) (fun _ _ _ h=>h) (Or.inl ⟨by kernel_rfl,?_⟩) ag ?_;rotate_left
 focus (intro w' ab;have hB:=ab;have q:w'.cell? ⟨w.heap.size,4,none⟩=some _:=(hB.cell 4).trans e4.out;(try dsimp only at ab);go_simp;(try with_reducible rfl))
 simp only [List.set];refine tkG 3 ag (h:=?_);simp only [List.set];refine Ff (i:=4) (v:=?_) rfl (by kernel_rfl) (by kernel_rfl) (by kernel_rfl) (by kernel_rfl) (fun _ _ _ h=>h) (Or.inl ⟨by kernel_rfl,?_⟩) ag ?_;rotate_left
 focus (intro w' ab;have hB:=ab;have q:w'.cell? ⟨w.heap.size,14,none⟩=some _:=(hB.cell 14).trans ci.out;(try dsimp only at ab);go_simp;(try with_reducible rfl))
 simp only [List.set];refine tkG 6 ag (h:=?_);simp only [List.set];refine Ff (i:=7) (v:=?_) rfl (by kernel_rfl) (by kernel_rfl) (by kernel_rfl) (by kernel_rfl) (fun _ _ _ h=>h) (Or.inl ⟨by kernel_rfl,?_⟩) ag ?_;rotate_left
 focus (intro w' ab;have hB:=ab;have q:w'.cell? ⟨w.heap.size,15,none⟩=some _:=(hB.cell 15).trans dd.out;(try dsimp only at ab);go_simp;(try with_reducible rfl))
 simp only [List.set];refine tkG 9 ag (h:=?_);simp only [List.set];refine Ff (i:=10) (v:=?_) rfl (by kernel_rfl) (by kernel_rfl) (by kernel_rfl) (by kernel_rfl) (fun _ _ _ h=>h) (Or.inl ⟨by kernel_rfl,?_⟩) ag ?_;rotate_left
 focus (intro w' ab;have hB:=ab;have q:w'.cell? ⟨w.heap.size,19,none⟩=some _:=(hB.cell 19).trans cx.out;(try dsimp only at ab);go_simp;(try with_reducible rfl))
 simp only [List.set];refine tkG 12 ag (h:=?_);simp only [List.set];refine Ff (i:=13) (v:=?_) rfl (by kernel_rfl) (by kernel_rfl) (by kernel_rfl) (by kernel_rfl) (fun _ _ _ h=>h) (Or.inl ⟨by kernel_rfl,?_⟩) ag ?_;rotate_left
 focus (intro w' ab;have hB:=ab;have q:w'.cell? ⟨w.heap.size,22,none⟩=some _:=(hB.cell 22).trans cz.out;(try dsimp only at ab);go_simp;(try with_reducible rfl))
 simp only [List.set];refine Bn 2 (by kernel_rfl) rfl (fun K hK=> ?_);go_simp;go_wp2_with (go_at_call 74;(with_reducible refine (Qa _ _ _ _ _ _ bm.past.rd (Id.cells_one _) (by omega)).mono ?_);rintro _ w1 ⟨A1,c1,rfl,o1,f1⟩;have b9:=ag.fr f1 zq;have dg:=cc.fr f1 zq;have cp:=OpL.frame bm f1;have ds:=bq.trans f1 zr;have en:=f1.size);refine hK.out _ _ b9 (fun hZ=> ?_);clear hZ hK K;try simp only [Ae,List.set]
 refine tkG 15 b9 (h:=?_);simp only [List.set];refine Bn 5 (by kernel_rfl) rfl (fun K hK=> ?_);go_simp;go_wp2_with (go_at_call 75;(with_reducible refine (Qc _ _ _ _ _ _ cp.body.rd (Ix Bv (fun _=>rfl) _) (by omega)).mono ?_);rintro _ w2 ⟨A2,c2,rfl,o2,f2⟩;have c9:=b9.fr f2 zq;have dt:=dg.fr f2 zq;have cg:=OpL.frame cp f2;have bj:=ds.trans f2 zr;have d5:=f2.size);refine hK.out _ _ c9 (fun hZ=> ?_);clear hZ hK K;try simp only [Ae,List.set]
 refine Bn 8 (by kernel_rfl) rfl (fun K hK=> ?_);go_simp;go_wp2_with (go_at_call 76;(with_reducible refine (Xa _ _ _ _ _ _ cg.refs.rd (Ix Uv (fun _=>rfl) _) (by omega)).mono ?_);rintro _ w3 ⟨A3,c3,rfl,o3,f3⟩;have cr:=c9.fr f3 zq;have dx:=dt.fr f3 zq;have cq:=OpL.frame cg f3;have dv:=bj.trans f3 zr;have ej:=f3.size);refine hK.out _ _ cr (fun hZ=> ?_);clear hZ hK K;try simp only [Ae,List.set]
 refine Bn 11 (by kernel_rfl) rfl (fun K hK=> ?_);go_simp;go_wp2_with (go_at_call 77;(with_reducible refine (Xb _ _ _ _ _ _ cq.guards.rd (Ix Iv (fun _=>rfl) _) (by omega)).mono ?_);rintro _ w4 ⟨A4,c4,rfl,o4,f4⟩;have co:=cr.fr f4 zq;have dr:=dx.fr f4 zq;have cw:=OpL.frame cq f4;have dw:=dv.trans f4 zr;have eh:=f4.size);refine hK.out _ _ co (fun hZ=> ?_);clear hZ hK K;try simp only [Ae,List.set]
 refine Bn 14 (by kernel_rfl) rfl (fun K hK=> ?_);go_simp;go_wp2_with (go_at_call 78;(with_reducible refine (Qd _ _ _ _ _ _ cw.boxes.rd (Qg _) (by omega)).mono ?_);rintro _ w5 ⟨A5,c5,rfl,o5,f5⟩;have aj:=co.fr f5 zq;have dm:=dr.fr f5 zq;have ec:=OpL.frame cw f5;have db:=dw.trans f5 zr;have er:=f5.size);refine hK.out _ _ aj (fun hZ=> ?_);clear hZ hK K;try simp only [Ae,List.set]
 refine Cy (by kernel_rfl) ?_;have k4:w5.cell? ⟨w.heap.size,4,none⟩=some (.slice x.pastA x.past.length x.pastC):=(aj.cell 4).trans e4.out;have z4:=aj.frozen 4;have ed:w5.cell? ⟨w.heap.size,14,none⟩=some (.slice x.bodyA x.body.length x.bodyC):=(aj.cell 14).trans ci.out;have ef:=aj.frozen 14;have es:w5.cell? ⟨w.heap.size,15,none⟩=some (.slice x.refsA x.refs.length x.refsC):=(aj.cell 15).trans dd.out;have ei:=aj.frozen 15;have eo:w5.cell? ⟨w.heap.size,19,none⟩=some (.slice x.guardsA x.guards.length x.guardsC):=(aj.cell 19).trans cx.out;have el:=aj.frozen 19;have em:w5.cell? ⟨w.heap.size,22,none⟩=some (.slice x.boxesA x.boxes.length x.boxesC):=(aj.cell 22).trans cz.out;have d6:=aj.frozen 22;refine oG 16 (fun K hK=> ?_);go_simp;refine hK.out _ _ trivial (fun hZ=> ?_);clear hZ hK K;try simp only [Ae,List.set]
 refine oG 17 (fun K hK=> ?_);go_simp;refine hK.out _ _ trivial (fun hZ=> ?_);clear hZ hK K;try simp only [Ae,List.set]
 refine oG 18 (fun K hK=> ?_);go_simp;refine hK.out _ _ trivial (fun hZ=> ?_);clear hZ hK K;try simp only [Ae,List.set]
 refine oG 19 (fun K hK=> ?_);go_simp;refine hK.out _ _ trivial (fun hZ=> ?_);clear hZ hK K;try simp only [Ae,List.set]
 refine oG 20 (fun K hK=> ?_);go_simp;refine hK.out _ _ trivial (fun hZ=> ?_);clear hZ hK K;try simp only [Ae,List.set]
 refine oG 21 (fun K hK=> ?_);go_simp;refine hK.out _ _ trivial (fun hZ=> ?_);clear hZ hK K;try simp only [Ae,List.set]
 refine oG 22 (fun K hK=> ?_);go_simp;refine hK.out _ _ trivial (fun hZ=> ?_);clear hZ hK K;try simp only [Ae,List.set]
 refine oG 23 (fun K hK=> ?_);go_simp;refine hK.out _ _ trivial (fun hZ=> ?_);clear hZ hK K;try simp only [Ae,List.set]
 refine oG 24 (fun K hK=> ?_);go_simp;refine hK.out _ _ trivial (fun hZ=> ?_);clear hZ hK K;try simp only [Ae,List.set]
 refine oD ?_;go_simp;obtain ⟨bn,aq⟩:=Ab ({x with pastA:=A1,pastC:=c1,bodyA:=A2,bodyC:=c2,refsA:=A3,refsC:=c3,guardsA:=A4,guardsC:=c4,boxesA:=A5,boxesC:=c5}:OpL).cells
 have a1:Blk (((((w5.setCell ⟨w.heap.size,4,none⟩ (.slice A1 x.past.length c1)).setCell ⟨w.heap.size,14,none⟩ (.slice A2 x.body.length c2)).setCell ⟨w.heap.size,15,none⟩ (.slice A3 x.refs.length c3)).setCell ⟨w.heap.size,19,none⟩ (.slice A4 x.guards.length c4)).setCell ⟨w.heap.size,22,none⟩ (.slice A5 x.boxes.length c5)) w.heap.size 67 bn:=by
  rw [← aq.out];rw [← ay.out] at aj;exact ((((aj.set 4 _).set 14 _).set 15 _).set 19 _).set 22 _
 have au:Fr (One w.heap.size) w5 (((((w5.setCell ⟨w.heap.size,4,none⟩ (.slice A1 x.past.length c1)).setCell ⟨w.heap.size,14,none⟩ (.slice A2 x.body.length c2)).setCell ⟨w.heap.size,15,none⟩ (.slice A3 x.refs.length c3)).setCell ⟨w.heap.size,19,none⟩ (.slice A4 x.guards.length c4)).setCell ⟨w.heap.size,22,none⟩ (.slice A5 x.boxes.length c5)):=(((((Fr.refl (One w.heap.size) w5).setCell (p:=⟨w.heap.size,4,none⟩) (fun _=>rfl) _).setCell (p:=⟨w.heap.size,14,none⟩) (fun _=>rfl) _).setCell (p:=⟨w.heap.size,15,none⟩) (fun _=>rfl) _).setCell (p:=⟨w.heap.size,19,none⟩) (fun _=>rfl) _).setCell (p:=⟨w.heap.size,22,none⟩) (fun _=>rfl) _;have sd:w0.drew.heap.size=w.heap.size+2:=dn;have d9:w.heap.size+2≤(((((w5.setCell ⟨w.heap.size,4,none⟩ (.slice A1 x.past.length c1)).setCell ⟨w.heap.size,14,none⟩ (.slice A2 x.body.length c2)).setCell ⟨w.heap.size,15,none⟩ (.slice A3 x.refs.length c3)).setCell ⟨w.heap.size,19,none⟩ (.slice A4 x.guards.length c4)).setCell ⟨w.heap.size,22,none⟩ (.slice A5 x.boxes.length c5)).heap.size:=by have h1:=au.size;omega
 have cf:=dm.fr au (fun e=>by have e':w.heap.size+1=w.heap.size:=e;omega);have ar:x.at (((((w5.setCell ⟨w.heap.size,4,none⟩ (.slice A1 x.past.length c1)).setCell ⟨w.heap.size,14,none⟩ (.slice A2 x.body.length c2)).setCell ⟨w.heap.size,15,none⟩ (.slice A3 x.refs.length c3)).setCell ⟨w.heap.size,19,none⟩ (.slice A4 x.guards.length c4)).setCell ⟨w.heap.size,22,none⟩ (.slice A5 x.boxes.length c5)) w.heap.size:=(hat.fr db zr).fr au (fun j hj e=>by have e':j=w.heap.size:=e;omega);have bv:Fr Non w (((((w5.setCell ⟨w.heap.size,4,none⟩ (.slice A1 x.past.length c1)).setCell ⟨w.heap.size,14,none⟩ (.slice A2 x.body.length c2)).setCell ⟨w.heap.size,15,none⟩ (.slice A3 x.refs.length c3)).setCell ⟨w.heap.size,19,none⟩ (.slice A4 x.guards.length c4)).setCell ⟨w.heap.size,22,none⟩ (.slice A5 x.boxes.length c5)):=db.trans au (fun j hj e=>by have e':j=w.heap.size:=e;omega);have p1:=((o1.fr (((f2.trans f3 zr).trans f4 zr).trans f5 zr) zr).lower (base':=w.heap.size+2) (by omega)).fr au (fun j hj e=>by have h1:=(o1.row j hj).1;have e':j=w.heap.size:=e;omega);have p2:=((o2.fr ((f3.trans f4 zr).trans f5 zr) zr).lower (base':=w.heap.size+2) (by omega)).fr au (fun j hj e=>by have h1:=(o2.row j hj).1;have e':j=w.heap.size:=e;omega);have p3:=((o3.fr (f4.trans f5 zr) zr).lower (base':=w.heap.size+2) (by omega)).fr au (fun j hj e=>by have h1:=(o3.row j hj).1;have e':j=w.heap.size:=e;omega);have p4:=((o4.fr (f5) zr).lower (base':=w.heap.size+2) (by omega)).fr au (fun j hj e=>by have h1:=(o4.row j hj).1;have e':j=w.heap.size:=e;omega);have p5:=(o5.lower (base':=w.heap.size+2) (by omega)).fr au (fun j hj e=>by have h1:=(o5.row j hj).1;have e':j=w.heap.size:=e;omega);clear ay ag b9 c9 cr co aj cc dg dt dx dr dm bq ds bj dv dw db bm cp cg cq cw ec f1 f2 f3 f4 f5 au o1 o2 o3 o4 o5 e4 ci dd cx cz k4 ed es eo em z4 ef ei el d6 en d5 ej eh er sd dn;generalize (((((w5.setCell ⟨w.heap.size,4,none⟩ (.slice A1 x.past.length c1)).setCell ⟨w.heap.size,14,none⟩ (.slice A2 x.body.length c2)).setCell ⟨w.heap.size,15,none⟩ (.slice A3 x.refs.length c3)).setCell ⟨w.heap.size,19,none⟩ (.slice A4 x.guards.length c4)).setCell ⟨w.heap.size,22,none⟩ (.slice A5 x.boxes.length c5))=w6 at*;clear w5 w4 w3 w2 w1 w0;have e9:Hid (bn[9]? =some (.slice x.pathA x.path.length x.pathC)):=by show _=_;rw [← aq.out];rfl
 have bg:Hid (bn[24]? =some (.slice x.histA x.hist.length x.histC)):=by show _=_;rw [← aq.out];rfl
 go_wp2_with (fail);refine C6 (S:=(fun w'=>Blk w' w.heap.size 67 bn)) 7 (by kernel_rfl) ?_;replace a1:Blk w6.drew w.heap.size 67 bn:=a1.drew;replace cf:=cf.drew;replace bv:=bv.drew;replace ar:=ar.fr ((Fr.refl Non w6).drew) zr;have ev:w.heap.size≤w6.drew.heap.size:=bv.size;have d4:w.heap.size+2≤w6.drew.heap.size:=by have h1:=d9;exact h1
 replace p1:=p1.drew;replace p2:=p2.drew;replace p3:=p3.drew;replace p4:=p4.drew;replace p5:=p5.drew;refine tkG 0 a1 (h:=?_);simp only [List.set];refine Ff (i:=1) (v:=?_) rfl (by kernel_rfl) (by kernel_rfl) (by kernel_rfl) (by kernel_rfl) (fun _ _ _ h=>h) (Or.inl ⟨by kernel_rfl,?_⟩) a1 ?_;rotate_left
 focus (intro w' ab;have hB:=ab;have q:w'.cell? ⟨w.heap.size,9,none⟩=some _:=(hB.cell 9).trans e9.out;(try dsimp only at ab);go_simp;(try with_reducible rfl))
 simp only [List.set];refine tkG 3 a1 (h:=?_);simp only [List.set];refine Ff (i:=4) (v:=?_) rfl (by kernel_rfl) (by kernel_rfl) (by kernel_rfl) (by kernel_rfl) (fun _ _ _ h=>h) (Or.inl ⟨by kernel_rfl,?_⟩) a1 ?_;rotate_left
 focus (intro w' ab;have hB:=ab;have q:w'.cell? ⟨w.heap.size,24,none⟩=some _:=(hB.cell 24).trans bg.out;(try dsimp only at ab);go_simp;(try with_reducible rfl))
 simp only [List.set];refine Bn 2 (by kernel_rfl) rfl (fun K hK=> ?_);go_simp;go_wp2_with (go_at_call 79;(with_reducible refine (Xc _ _ _ _ _ _ ar.path.rd (Xj _) (by omega)).mono ?_);rintro _ w7 ⟨A7,c7,rfl,o7,f7⟩;have b6:=a1.fr f7 zq;have dj:=cf.fr f7 zq;have bc:=ar.fr f7 zr;have dl:=bv.trans f7 zr;have ew:=f7.size);refine hK.out _ _ b6 (fun hZ=> ?_);clear hZ hK K;try simp only [Ae,List.set]
 refine tkG 6 b6 (h:=?_);simp only [List.set];refine Bn 5 (by kernel_rfl) rfl (fun K hK=> ?_);go_simp;go_wp2_with (go_at_call 80;(with_reducible refine (Xd _ _ _ _ _ _ bc.hist.rd (Xk _) (by omega)).mono ?_);rintro _ w8 ⟨A8,c8,rfl,o8,f8⟩;have a2:=b6.fr f8 zq;have dk:=dj.fr f8 zq;have b0:=bc.fr f8 zr;have dp:=dl.trans f8 zr;have et:=f8.size);refine hK.out _ _ a2 (fun hZ=> ?_);clear hZ hK K;try simp only [Ae,List.set]
 refine Cy (by kernel_rfl) ?_;have k9:w8.cell? ⟨w.heap.size,9,none⟩=some (.slice x.pathA x.path.length x.pathC):=(a2.cell 9).trans e9.out;have z9:=a2.frozen 9;have cm:w8.cell? ⟨w.heap.size,24,none⟩=some (.slice x.histA x.hist.length x.histC):=(a2.cell 24).trans bg.out;have ee:=a2.frozen 24;refine oG 7 (fun K hK=> ?_);go_simp;refine hK.out _ _ trivial (fun hZ=> ?_);clear hZ hK K;try simp only [Ae,List.set]
 refine oG 8 (fun K hK=> ?_);go_simp;refine hK.out _ _ trivial (fun hZ=> ?_);clear hZ hK K;try simp only [Ae,List.set]
 refine oG 9 (fun K hK=> ?_);go_simp;refine hK.out _ _ trivial (fun hZ=> ?_);clear hZ hK K;try simp only [Ae,List.set]
 refine oD ?_;go_simp;obtain ⟨ce,aw⟩:=Ab ({x with pastA:=A1,pastC:=c1,bodyA:=A2,bodyC:=c2,refsA:=A3,refsC:=c3,guardsA:=A4,guardsC:=c4,boxesA:=A5,boxesC:=c5,pathA:=A7,pathC:=c7,histA:=A8,histC:=c8}:OpL).cells
 have ct:Blk ((w8.setCell ⟨w.heap.size,9,none⟩ (.slice A7 x.path.length c7)).setCell ⟨w.heap.size,24,none⟩ (.slice A8 x.hist.length c8)) w.heap.size 67 ce:=by
  rw [← aw.out];rw [← aq.out] at a2;exact (a2.set 9 _).set 24 _
 have ak:Fr (One w.heap.size) w8 ((w8.setCell ⟨w.heap.size,9,none⟩ (.slice A7 x.path.length c7)).setCell ⟨w.heap.size,24,none⟩ (.slice A8 x.hist.length c8)):=((Fr.refl (One w.heap.size) w8).setCell (p:=⟨w.heap.size,9,none⟩) (fun _=>rfl) _).setCell (p:=⟨w.heap.size,24,none⟩) (fun _=>rfl) _;have di:=dk.fr ak (fun e=>by have e':w.heap.size+1=w.heap.size:=e;omega);have a4:x.at ((w8.setCell ⟨w.heap.size,9,none⟩ (.slice A7 x.path.length c7)).setCell ⟨w.heap.size,24,none⟩ (.slice A8 x.hist.length c8)) w.heap.size:=b0.fr ak (fun j hj e=>by have e':j=w.heap.size:=e;omega);have dz:Fr Non w ((w8.setCell ⟨w.heap.size,9,none⟩ (.slice A7 x.path.length c7)).setCell ⟨w.heap.size,24,none⟩ (.slice A8 x.hist.length c8)):=dp.trans ak (fun j hj e=>by have e':j=w.heap.size:=e;omega);have bf:=f7.trans f8 zr;have eu:w8.heap.size≤((w8.setCell ⟨w.heap.size,9,none⟩ (.slice A7 x.path.length c7)).setCell ⟨w.heap.size,24,none⟩ (.slice A8 x.hist.length c8)).heap.size:=ak.size;have N6:w.heap.size+2≤w6.drew.heap.size:=d4;have b1:∀k,Ac A1=some k→w.heap.size+2≤k∧k<w6.drew.heap.size:=p1.row;have q1:=(p1.fr bf zr).fr ak (fun j hj e=>by have h1:=(b1 j hj).1;have e':j=w.heap.size:=e;omega);have b2:∀k,Ac A2=some k→w.heap.size+2≤k∧k<w6.drew.heap.size:=p2.row;have q2:=(p2.fr bf zr).fr ak (fun j hj e=>by have h1:=(b2 j hj).1;have e':j=w.heap.size:=e;omega);have b3:∀k,Ac A3=some k→w.heap.size+2≤k∧k<w6.drew.heap.size:=p3.row;have q3:=(p3.fr bf zr).fr ak (fun j hj e=>by have h1:=(b3 j hj).1;have e':j=w.heap.size:=e;omega);have b4:∀k,Ac A4=some k→w.heap.size+2≤k∧k<w6.drew.heap.size:=p4.row;have q4:=(p4.fr bf zr).fr ak (fun j hj e=>by have h1:=(b4 j hj).1;have e':j=w.heap.size:=e;omega);have b5:∀k,Ac A5=some k→w.heap.size+2≤k∧k<w6.drew.heap.size:=p5.row;have q5:=(p5.fr bf zr).fr ak (fun j hj e=>by have h1:=(b5 j hj).1;have e':j=w.heap.size:=e;omega);have b7:=o7.row;have b8:=o8.row;have q7:=((o7.lower (base':=w.heap.size+2) N6).fr f8 zr).fr ak (fun j hj e=>by have h1:=(b7 j hj).1;have e':j=w.heap.size:=e;omega);have q8:=(o8.lower (base':=w.heap.size+2) (by omega)).fr ak (fun j hj e=>by have h1:=(b8 j hj).1;have e':j=w.heap.size:=e;omega);clear a1 b6 a2 cf dj dk bv dl dp ar bc b0 f7 f8 bf ak o7 o8 p1 p2 p3 p4 p5 e9 bg k9 cm z9 ee aq;generalize ((w8.setCell ⟨w.heap.size,9,none⟩ (.slice A7 x.path.length c7)).setCell ⟨w.heap.size,24,none⟩ (.slice A8 x.hist.length c8))=w9 at*;have e9:Hid (ce[9]? =some (.slice A7 x.path.length c7)):=by show _=_;rw [← aw.out];rfl
 have bg:Hid (ce[24]? =some (.slice A8 x.hist.length c8)):=by show _=_;rw [← aw.out];rfl
 have k9:w9.cell? ⟨w.heap.size,9,none⟩=some (.slice A7 x.path.length c7):=(ct.cell 9).trans e9.out;obtain ⟨np,cb⟩:=Ab x.path.length;obtain ⟨nh,ca⟩:=Ab x.hist.length;rw [cb.out] at k9 e9 bz q7;rw [ca.out] at bg bx q8;go_wp2_with (fail)
 go_loopw [36] (fun v wr=>∃(k:Nat) (L:List NdL),v=.int .i64 (k:Int)∧k≤np∧Hid (L.map NdL.nd=x.path.map NdL.nd)∧Hid (L.drop k=x.path.drop k)∧Own wr (w.heap.size+2) 137 2 A7 np c7 (L.flatMap NdL.cells)∧Hid (∀y∈L.take k,Own wr w9.heap.size 134 4 y.A y.xs.length y.c (y.xs.flatMap Bx.cells))∧Fr (fun b=>Ac A7=some b) w9 wr) (fun v _=>np-(intOf v).toNat)
 case atStart=>exact ⟨0,x.path,rfl,by omega,rfl,rfl,q7,(fun _ h=>by simp at h),Fr.refl _ _⟩
 case round=>
  obtain ⟨k,L,rfl,hk,ad,ac,ae,aa,hf⟩:=hrel
  by_cases hlt:k<np
  ·
   have i1:(0:Int)≤k:=by omega
   have i2:(k:Int)<np:=by omega
   have i3:(k:Int).toNat=k:=by omega
   obtain ⟨y,hy⟩:∃y,x.path[k]? =some y:=⟨_,An6 (by rw [cb.out];exact hlt)⟩;have ax:L[k]? =some y:=(Lm ac.out).trans hy;have al:=An7 hy;have dc:=a5.out y al;obtain ⟨g,hA,ck,d2,af,bh,_⟩:=Own.setAt ae (j:=k*2+1) (by omega) (.int .i64 0);have ba:=(a4.nodes y al).fr hf (fun j hj e=>by have h1:=(b7 j e).1;omega);have d0:wr.cell? ⟨g,k*2+1,none⟩=some (.slice y.A y.xs.length y.c):=af _ (by rw [Fo (f:=NdL.cells) (fun _=>rfl) L k 1 y ax (by omega)];rfl);have kk:wr.cell? ⟨w.heap.size,9,none⟩=some (.slice A7 np c7):=hf.cell k9 (fun e=>by have h1:w6.drew.heap.size≤w.heap.size:=(b7 _ e).1;omega);have eb:w.heap.size+2≤g:=ck;rw [hA] at kk
   have ah:∀(wv:World) (u:Value),Fr Non wr wv→wv.cell? ⟨g,k*2+1,none⟩=some (.slice y.A y.xs.length y.c)∧wv.frozen? ⟨g,k*2+1,none⟩=false∧Own (wv.setCell ⟨g,k*2+1,none⟩ u) (w.heap.size+2) 137 2 A7 np c7 ((L.flatMap NdL.cells).set (k*2+1) u):=by
    intro wv u bk;obtain ⟨g2,br,_,_,d8,be,cl⟩:=Own.setAt (ae.fr bk zr) (j:=k*2+1) (by omega) u;rw [hA] at br;have df:g=g2:=by injection br with e;injection e
    subst df;exact ⟨bk.cell d0 zq,be,cl⟩
   replace ah:=Lib.hid ah;replace hA:=Lib.hid hA;clear af bh;go_upto_region 6 with (fail)
   refine C6 (S:=(fun w'=>w'.cell? ⟨w.heap.size,9,none⟩=some (.slice (some ⟨g,0,none⟩) np c7)∧w'.cell? ⟨g,k*2+1,none⟩=some (.slice y.A y.xs.length y.c))) 10 (by kernel_rfl) ?_;have hS:(fun w'=>w'.cell? ⟨w.heap.size,9,none⟩=some (.slice (some ⟨g,0,none⟩) np c7)∧w'.cell? ⟨g,k*2+1,none⟩=some (.slice y.A y.xs.length y.c)) wr.drew:=⟨kk,d0⟩;have fd:Fr Non wr wr.drew:=(Fr.refl Non wr).drew;have de:Rd wr.drew w.heap.size 4 y.A y.xs.length (y.xs.flatMap Bx.cells):=And.left (ba.fr fd zr);refine tkG 0 hS (h:=tkG 1 hS (h:=tkG 2 hS (h:=tkG 3 hS (h:=tkG 4 hS (h:=tkG 5 hS (h:=tkG 6 hS (h:=tkG 7 hS (h:=tkG 8 hS (h:=?_)))))))));simp only [List.set];refine Bn 9 (by kernel_rfl) rfl (fun K hK=> ?_);go_simp;go_wp2_with (go_at_call 78;go_loud (with_reducible refine (Qd _ _ _ _ _ _ de (Qg _) dc).mono ?_);rintro _ wv ⟨A',c',rfl,ov,fv⟩);have av:=fd.trans fv zr;obtain ⟨d1,z1,cy⟩:=ah.out wv (.slice A' y.xs.length c') av;refine hK.out _ _ ⟨av.cell kk zq,d1⟩ (fun hZ=> ?_);clear hZ hK K;try simp only [Ae,List.set]
   refine Cy (by kernel_rfl) ?_;refine oG 10 (fun K hK=> ?_);go_simp;refine hK.out _ _ trivial (fun hZ=> ?_);clear hZ hK K;try simp only [Ae,List.set]
   refine oG 11 (fun K hK=> ?_);go_simp;refine hK.out _ _ trivial (fun hZ=> ?_);clear hZ hK K;try simp only [Ae,List.set]
   refine oG 12 (fun K hK=> ?_);go_simp;refine hK.out _ _ trivial (fun hZ=> ?_);clear hZ hK K;try simp only [Ae,List.set]
   refine oD ?_;go_simp;have ex:∃y':NdL,y'={y with A:=A',c:=c'}:=⟨_,rfl⟩;obtain ⟨y',bb⟩:=ex
   have a7:Own (wv.setCell ⟨g,k*2+1,none⟩ (.slice A' y.xs.length c')) (w.heap.size+2) 137 2 A7 np c7 ((L.set k y').flatMap NdL.cells):=by
    rw [← Hg (f:=NdL.cells) (size:=2) (fun _=>rfl) (j:=1) (by omega) (.slice A' y.xs.length c') y' L k y ax (by rw [bb];rfl)];exact cy
   have fs:Fr (One g) wv (wv.setCell ⟨g,k*2+1,none⟩ (.slice A' y.xs.length c')):=(Fr.refl (One g) wv).setCell (p:=⟨g,k*2+1,none⟩) (fun _=>rfl) _;have bt:Ac A7=some g:=by rw [hA.out];rfl
   have ch:=hf.size
   have ao:Hid (∀z∈(L.set k y').take (k+1),Own (wv.setCell ⟨g,k*2+1,none⟩ (.slice A' y.xs.length c')) w9.heap.size 134 4 z.A z.xs.length z.c (z.xs.flatMap Bx.cells)):=by
    intro z hz;rw [Ll L k y' ax] at hz;have ea:g<w9.heap.size:=by have h1:=(b7 g bt).2;omega
    rcases List.mem_append.1 hz with hz|hz
    · exact ((aa.out z hz).fr av zr).fr fs (fun j hj e=>by have h1:=((aa.out z hz).row j hj).1;have e':j=g:=e;omega)
    ·
     obtain rfl:=List.mem_singleton.1 hz;subst bb;exact (ov.lower ch).fr fs (fun j hj e=>by have h1:=(ov.row j hj).1;have h2:wr.drew.heap.size=wr.heap.size:=rfl;have e':j=g:=e;omega)
   have bj:Fr (fun b=>Ac A7=some b) w9 (wv.setCell ⟨g,k*2+1,none⟩ (.slice A' y.xs.length c')):=(hf.trans av (fun _ _ e=>e.elim)).trans fs (fun j hj e=>by have e':j=g:=e;subst e';exact bt);have a9:Hid ((L.set k y').map NdL.nd=x.path.map NdL.nd):=(Qe NdL.nd L k ax (by rw [bb];rfl)).trans ad.out;have ap:Hid ((L.set k y').drop (k+1)=x.path.drop (k+1)):=Qf _ _ k y' ac.out;generalize wv.setCell ⟨g,k*2+1,none⟩ (.slice A' y.xs.length c')=ws at*;generalize L.set k y'=L2 at*;go_wp2_with (fail);go_roundw
   case rel=>exact ⟨k+1,L2,by go_num,by omega,a9,ap,a7,ao,bj⟩
   case measure=>simp [intOf];omega
  ·
   obtain rfl:np=k:=by omega
   have a3:L.length=x.path.length:=by have h1:=congrArg List.length ad.out;rwa [An3,An3] at h1
   rw [Ao0 (by rw [a3,cb.out];exact An4 _)] at aa;obtain ⟨bi,cj⟩:∃u,u=wr:=⟨_,rfl⟩;subst cj;have d3:=hf.size;have bo:=ct.fr hf (fun e=>by have h1:w6.drew.heap.size≤w.heap.size:=(b7 _ e).1;omega);have cn:=di.fr hf (fun e=>by have h1:w6.drew.heap.size≤w.heap.size+1:=(b7 _ e).1;omega);have bs:=a4.fr hf (fun j hj e=>by have h1:=(b7 j e).1;omega);have cv:=dz.trans hf (fun j hj e=>by have h1:=(b7 j e).1;omega);have t1:=q1.fr hf (fun j hj e=>by have h1:=(b1 j hj).2;have h2:=(b7 j e).1;omega);have t2:=q2.fr hf (fun j hj e=>by have h1:=(b2 j hj).2;have h2:=(b7 j e).1;omega);have t3:=q3.fr hf (fun j hj e=>by have h1:=(b3 j hj).2;have h2:=(b7 j e).1;omega);have t4:=q4.fr hf (fun j hj e=>by have h1:=(b4 j hj).2;have h2:=(b7 j e).1;omega);have t5:=q5.fr hf (fun j hj e=>by have h1:=(b5 j hj).2;have h2:=(b7 j e).1;omega);have t8:=q8.fr hf (fun j hj e=>by have h1:=(b8 j hj).1;have h2:=(b7 j e).2;omega);have t7:=ae;have a0:=ad;have ai:=aa;have bl:=Lib.hid a3;clear ad aa ac ae hlt hk a3 hf ct di a4 dz q1 q2 q3 q4 q5 q7 q8 k9;obtain ⟨L7,ep⟩:∃u,u=L:=⟨_,rfl⟩;subst ep;have cm:bi.cell? ⟨w.heap.size,24,none⟩=some (.slice A8 nh c8):=(bo.cell 24).trans bg.out;go_wp2_with (fail)
   go_loopw [55] (fun v wr=>∃(k:Nat) (L:List SlL),v=.int .i64 (k:Int)∧k≤nh∧Hid (L.map SlL.sl=x.hist.map SlL.sl)∧Hid (L.drop k=x.hist.drop k)∧Own wr (w.heap.size+2) 140 4 A8 nh c8 (L.flatMap SlL.cells)∧Hid (∀y∈L.take k,Own wr bi.heap.size 5 1 y.A y.y.length y.c (y.y.map Bv))∧Fr (fun b=>Ac A8=some b) bi wr) (fun v _=>nh-(intOf v).toNat)
   case atStart=>exact ⟨0,x.hist,rfl,by omega,rfl,rfl,t8,(fun _ h=>by simp at h),Fr.refl _ _⟩
   case round=>
    obtain ⟨k,L,rfl,hk,ad,ac,ae,aa,hf⟩:=hrel
    by_cases hlt:k<nh
    ·
     have i1:(0:Int)≤k:=by omega
     have i2:(k:Int)<nh:=by omega
     have i3:(k:Int).toNat=k:=by omega
     obtain ⟨y,hy⟩:∃y,x.hist[k]? =some y:=⟨_,An6 (by rw [ca.out];exact hlt)⟩;have ax:L[k]? =some y:=(Lm ac.out).trans hy;have al:=An7 hy;have dc:=bd.out y al;obtain ⟨g,hA,ck,d2,af,bh,_⟩:=Own.setAt ae (j:=k*4+3) (by omega) (.int .i64 0);have ba:=(bs.seals y al).fr hf (fun j hj e=>by have h1:=(b8 j e).1;omega);have d0:wr.cell? ⟨g,k*4+3,none⟩=some (.slice y.A y.y.length y.c):=af _ (by rw [Fo (f:=SlL.cells) (fun _=>rfl) L k 3 y ax (by omega)];rfl);have kk:wr.cell? ⟨w.heap.size,24,none⟩=some (.slice A8 nh c8):=hf.cell cm (fun e=>by have h1:w7.heap.size≤w.heap.size:=(b8 _ e).1;omega);have eb:w.heap.size+2≤g:=ck;rw [hA] at kk
     have ah:∀(wv:World) (u:Value),Fr Non wr wv→wv.cell? ⟨g,k*4+3,none⟩=some (.slice y.A y.y.length y.c)∧wv.frozen? ⟨g,k*4+3,none⟩=false∧Own (wv.setCell ⟨g,k*4+3,none⟩ u) (w.heap.size+2) 140 4 A8 nh c8 ((L.flatMap SlL.cells).set (k*4+3) u):=by
      intro wv u bk;obtain ⟨g2,br,_,_,d8,be,cl⟩:=Own.setAt (ae.fr bk zr) (j:=k*4+3) (by omega) u;rw [hA] at br;have df:g=g2:=by injection br with e;injection e
      subst df;exact ⟨bk.cell d0 zq,be,cl⟩
     replace ah:=Lib.hid ah;replace hA:=Lib.hid hA;clear af bh;go_upto_region 11 with (fail)
     refine C6 (S:=(fun w'=>w'.cell? ⟨w.heap.size,24,none⟩=some (.slice (some ⟨g,0,none⟩) nh c8)∧w'.cell? ⟨g,k*4+3,none⟩=some (.slice y.A y.y.length y.c))) 10 (by kernel_rfl) ?_;have hS:(fun w'=>w'.cell? ⟨w.heap.size,24,none⟩=some (.slice (some ⟨g,0,none⟩) nh c8)∧w'.cell? ⟨g,k*4+3,none⟩=some (.slice y.A y.y.length y.c)) wr.drew:=⟨kk,d0⟩;have fd:Fr Non wr wr.drew:=(Fr.refl Non wr).drew;have de:Rd wr.drew w.heap.size 1 y.A y.y.length (y.y.map Bv):=And.left (ba.fr fd zr);refine tkG 0 hS (h:=tkG 1 hS (h:=tkG 2 hS (h:=tkG 3 hS (h:=tkG 4 hS (h:=tkG 5 hS (h:=tkG 6 hS (h:=tkG 7 hS (h:=tkG 8 hS (h:=?_)))))))));simp only [List.set];refine Bn 9 (by kernel_rfl) rfl (fun K hK=> ?_);go_simp;go_wp2_with (go_at_call 75;go_loud (with_reducible refine (Qc _ _ _ _ _ _ de (Ix Bv (fun _=>rfl) _) dc).mono ?_);rintro _ wv ⟨A',c',rfl,ov,fv⟩);have av:=fd.trans fv zr;obtain ⟨d1,z1,cy⟩:=ah.out wv (.slice A' y.y.length c') av;refine hK.out _ _ ⟨av.cell kk zq,d1⟩ (fun hZ=> ?_);clear hZ hK K;try simp only [Ae,List.set]
     refine Cy (by kernel_rfl) ?_;refine oG 10 (fun K hK=> ?_);go_simp;refine hK.out _ _ trivial (fun hZ=> ?_);clear hZ hK K;try simp only [Ae,List.set]
     refine oG 11 (fun K hK=> ?_);go_simp;refine hK.out _ _ trivial (fun hZ=> ?_);clear hZ hK K;try simp only [Ae,List.set]
     refine oG 12 (fun K hK=> ?_);go_simp;refine hK.out _ _ trivial (fun hZ=> ?_);clear hZ hK K;try simp only [Ae,List.set]
     refine oD ?_;go_simp;have ex:∃y':SlL,y'={y with A:=A',c:=c'}:=⟨_,rfl⟩;obtain ⟨y',bb⟩:=ex
     have a7:Own (wv.setCell ⟨g,k*4+3,none⟩ (.slice A' y.y.length c')) (w.heap.size+2) 140 4 A8 nh c8 ((L.set k y').flatMap SlL.cells):=by
      rw [← Hg (f:=SlL.cells) (size:=4) (fun _=>rfl) (j:=3) (by omega) (.slice A' y.y.length c') y' L k y ax (by rw [bb];rfl)];exact cy
     have fs:Fr (One g) wv (wv.setCell ⟨g,k*4+3,none⟩ (.slice A' y.y.length c')):=(Fr.refl (One g) wv).setCell (p:=⟨g,k*4+3,none⟩) (fun _=>rfl) _;have bt:Ac A8=some g:=by rw [hA.out];rfl
     have ch:=hf.size
     have ao:Hid (∀z∈(L.set k y').take (k+1),Own (wv.setCell ⟨g,k*4+3,none⟩ (.slice A' y.y.length c')) bi.heap.size 5 1 z.A z.y.length z.c (z.y.map Bv)):=by
      intro z hz;rw [Ll L k y' ax] at hz;have ea:g<bi.heap.size:=by have h1:=(b8 g bt).2;omega
      rcases List.mem_append.1 hz with hz|hz
      · exact ((aa.out z hz).fr av zr).fr fs (fun j hj e=>by have h1:=((aa.out z hz).row j hj).1;have e':j=g:=e;omega)
      ·
       obtain rfl:=List.mem_singleton.1 hz;subst bb;exact (ov.lower ch).fr fs (fun j hj e=>by have h1:=(ov.row j hj).1;have h2:wr.drew.heap.size=wr.heap.size:=rfl;have e':j=g:=e;omega)
     have bj:Fr (fun b=>Ac A8=some b) bi (wv.setCell ⟨g,k*4+3,none⟩ (.slice A' y.y.length c')):=(hf.trans av (fun _ _ e=>e.elim)).trans fs (fun j hj e=>by have e':j=g:=e;subst e';exact bt);have a9:Hid ((L.set k y').map SlL.sl=x.hist.map SlL.sl):=(Qe SlL.sl L k ax (by rw [bb];rfl)).trans ad.out;have ap:Hid ((L.set k y').drop (k+1)=x.hist.drop (k+1)):=Qf _ _ k y' ac.out;generalize wv.setCell ⟨g,k*4+3,none⟩ (.slice A' y.y.length c')=ws at*;generalize L.set k y'=L2 at*;go_wp2_with (fail);go_roundw
     case rel=>exact ⟨k+1,L2,by go_num,by omega,a9,ap,a7,ao,bj⟩
     case measure=>simp [intOf];omega
    ·
     obtain rfl:nh=k:=by omega
     have a3:L.length=x.hist.length:=by have h1:=congrArg List.length ad.out;rwa [An3,An3] at h1
     rw [Ao0 (by rw [a3,ca.out];exact An4 _)] at aa;obtain ⟨a6,c0⟩:∃u,u=wr:=⟨_,rfl⟩;subst c0;have cu:=bo.fr hf (fun e=>by have h1:w7.heap.size≤w.heap.size:=(b8 _ e).1;omega);have a8:=cn.fr hf (fun e=>by have h1:w7.heap.size≤w.heap.size+1:=(b8 _ e).1;omega);have c6:=cv.trans hf (fun j hj e=>by have h1:=(b8 j e).1;omega);have s1:=(t1.fr hf (fun j hj e=>by have h1:=(b1 j hj).2;have h2:=(b8 j e).1;omega)).lower (base':=w.heap.size) (by omega);have s2:=(t2.fr hf (fun j hj e=>by have h1:=(b2 j hj).2;have h2:=(b8 j e).1;omega)).lower (base':=w.heap.size) (by omega);have s3:=(t3.fr hf (fun j hj e=>by have h1:=(b3 j hj).2;have h2:=(b8 j e).1;omega)).lower (base':=w.heap.size) (by omega);have s4:=(t4.fr hf (fun j hj e=>by have h1:=(b4 j hj).2;have h2:=(b8 j e).1;omega)).lower (base':=w.heap.size) (by omega);have s5:=(t5.fr hf (fun j hj e=>by have h1:=(b5 j hj).2;have h2:=(b8 j e).1;omega)).lower (base':=w.heap.size) (by omega);have s7:=(t7.fr hf (fun j hj e=>by have h1:=(b7 j hj).2;have h2:=(b8 j e).1;omega)).lower (base':=w.heap.size) (by omega);have s8:=ae.lower (base':=w.heap.size) (by omega);have d7:∀j,w9.heap.size≤j→¬(Ac A8=some j):=fun j hj e=>by have h2:=(b8 j e).2;omega
     have r7:Hid (∀y∈L7,Own a6 w.heap.size 134 4 y.A y.xs.length y.c (y.xs.flatMap Bx.cells)):=fun y hy=>((ai.out y hy).fr hf (fun j hj e=>d7 j ((ai.out y hy).row j hj).1 e)).lower (by omega);have r8:Hid (∀y∈L,Own a6 w.heap.size 5 1 y.A y.y.length y.c (y.y.map Bv)):=fun y hy=>(aa.out y hy).lower (by omega);obtain ⟨v,hv⟩:∃v:OpL,v={x with pastA:=A1,pastC:=c1,bodyA:=A2,bodyC:=c2,refsA:=A3,refsC:=c3,guardsA:=A4,guardsC:=c4,boxesA:=A5,boxesC:=c5,pathA:=A7,pathC:=c7,histA:=A8,histC:=c8,path:=L7,hist:=L}:=⟨_,rfl⟩
     have dq:v.op=x.op:=by
      rw [hv];unfold OpL.op;simp only [a0.out,ad.out]
     have bp:v.own a6 w.heap.size:=by
      rw [cb.out.symm,← bl.out] at s7;rw [ca.out.symm,← a3] at s8;rw [hv];exact ⟨RowAt.of_own s1,RowAt.of_own s7,(fun y hy=>RowAt.of_own (r7.out y hy)),RowAt.of_own s2,RowAt.of_own s3,RowAt.of_own s4,RowAt.of_own s5,RowAt.of_own s8,(fun y hy=>RowAt.of_own (r8.out y hy))⟩
     have eg:Blk a6 w.heap.size 67 v.cells:=by
      have hc:v.cells=ce:=by
       rw [← aw.out,hv];unfold OpL.cells;simp only [bl.out,a3]
      rw [hc];exact cu
     clear hv a0 ad r7 r8 s1 s2 s3 s4 s5 s7 s8 ai aa t1 t2 t3 t4 t5 t7 t8;have bw:=Fb v
     have ek:Hid (∀wz,Fr (One (w.heap.size+1)) a6 wz→POST (.returned (.agg v.cells)) wz):=by
      intro wz hz;exact az.out v wz dq (bp.keepP hz (Types.one a8) (by decide) (by decide) (by decide) (by decide) (by decide) (by decide) (by decide)) (c6.trans hz (fun k hk e=>absurd hk (by have e':k=w.heap.size+1:=e;omega)))
     clear dq bp az;have bu:True:=trivial
     go_wp2_with (first
      |(have _t:=bu;refine Kf rfl 67 (.tmp 1) rfl rfl eg Tryz.underlying67 rfl hi ?_;clear bu _t)
      |(refine Kg rfl 67 (.tmp 2) (.tmp 71) rfl rfl rfl rfl a8 hi rfl bw ?_;have bh:=(Fr.refl (One (w.heap.size+1)) a6).setRow (g:=w.heap.size+1) (fun _=>rfl) v.cells;have be:=a8.setRow (cs:=v.cells);generalize a6.setRow (w.heap.size+1) v.cells=wz at bh be ⊢;(repeat (first|go_values|go_skip|go_guarded|go_step));exact Eh (t:=67) rfl rfl be rfl Tryz.underlying67 (by kernel_rfl) rfl (ek.out wz bh)))
end Oq
namespace Oq
attribute [local go_sem ↓] Cg Es
attribute [local go_sem] Bool.not_false Bool.not_true
theorem Qi {P:Program} {t:TypeId} {d:TypeDesc} (cs:Array Value) (b o:Nat) (hu:P.underlying t=some d) (hd:d.isRow=true) (hi:(P.info? t).map (·.size)=some cs.size):
  ∀w',World.rangeAt w' b o cs.toList→(ldS t (.pointer (some ⟨b,o,none⟩))).run P w'=.ok (.agg cs) w':=fun w' h=>by
 have:=run_loadAt_mid (P:=P) w' b o t cs.toList d h hu hd (by rw [hi];simp);unfold ldS;rw [this]
def Hh (r:Option OpL) (w:World) (e:Ending) (w':World):Prop:=
 match r with
 |none=>e=.returned (.tuple #[.agg OpL.zero.cells,.bool false])∧Fr Non w w'
 |some x=>∃y:OpL,e=.returned (.tuple #[.agg y.cells,.bool true])∧y.op=x.op∧y.own w' w.heap.size∧Fr Non w w'
def Gph.opOf (g:Gph) (id:Id):Option OpL:=match Ag g.nodes id with|some i=>g.nodes[i]?.map Ah.x|none=>none
theorem Xl (base:Nat) (g:Gph) (id:Id) (w:World) (hg:GAt w base g) (hid:id.ok):Calls Tryz.prog 24 #[.pointer (some ⟨g.gb,0,none⟩),.agg id.V] w (Hh (g.opOf id) w):=by
 have hi:(Tryz.prog.info? 67).map (·.size)=some 27:=by kernel_rfl
 have f1:Fr Non w (w.alloc (.cells id.V 41)):=(Fr.refl Non w).alloc _;have f0:=f1.alloc (.cells zO 67);have ad:=(Blk.new w 41 id.V).alloc (.cells zO 67);have br:=Blk.new (w.alloc (.cells id.V 41)) 67 zO;rw [Am8] at br;have a0:((w.alloc (.cells id.V 41)).alloc (.cells zO 67)).heap.size=w.heap.size+2:=by rw [Am8,Am8]
 have ab:=hg.fr f0;generalize hw0:((w.alloc (.cells id.V 41)).alloc (.cells zO 67))=w0 at*;have i0:w0.cell? ⟨w.heap.size,0,none⟩=some (.int .i64 id.b):=ad.cell 0;have i1:w0.cell? ⟨w.heap.size,1,none⟩=some (.int .i64 id.s):=ad.cell 1;have i2:w0.cell? ⟨w.heap.size,2,none⟩=some (.int .u64 (id.u:Int)):=ad.cell 2;have c1:w0.cell? ⟨g.gb,1,none⟩=some (.map (some g.mb)):=ab.blk.cell 1;have c2:w0.cell? ⟨g.gb,2,none⟩=some (.slice g.nA g.nodes.length g.nC):=ab.blk.cell 2;have aa:=ab.map;have ac:=fun (w':World) (h:MapAt w' g.mb g.mm (Ag g.nodes))=>MapAt.look h id hid;have ah:Hid (g.opOf id=match Ag g.nodes id with|some i=>g.nodes[i]?.map Ah.x|none=>none):=rfl;generalize g.opOf id=R at*
 cases hp:Ag g.nodes id
 ·
  have hR:R=none:=by rw [ah.out,hp]
  have ai:Hid (∀wz,Fr (One (w.heap.size+1)) w0 wz→Hh R w (.returned (.tuple #[.agg OpL.zero.cells,.bool false])) wz):=by
   intro wz hz;rw [hR];exact ⟨rfl,f0.trans hz (fun k hk e=>absurd hk (by have e':k=w.heap.size+1:=e;omega))⟩
  clear hR ah;generalize Hh R w=POST at*;rw [hp] at ac;clear hg ab ad hp;go_enter Tryz.func24,Tryz.ntmps24;go_wp2_with (fail);clear hw0;refine wp_region_held_drew (S:=(fun w'=>w'.cell? ⟨w.heap.size,0,none⟩=some (.int .i64 id.b)∧w'.cell? ⟨w.heap.size,1,none⟩=some (.int .i64 id.s)∧w'.cell? ⟨w.heap.size,2,none⟩=some (.int .u64 (id.u:Int))∧w'.cell? ⟨g.gb,1,none⟩=some (.map (some g.mb))∧MapAt w' g.mb g.mm (Ag g.nodes))) (by kernel_rfl) ⟨i0,i1,i2,c1,aa⟩ (fun hHeld=> ?_);clear hHeld;have hS:(fun w'=>w'.cell? ⟨w.heap.size,0,none⟩=some (.int .i64 id.b)∧w'.cell? ⟨w.heap.size,1,none⟩=some (.int .i64 id.s)∧w'.cell? ⟨w.heap.size,2,none⟩=some (.int .u64 (id.u:Int))∧w'.cell? ⟨g.gb,1,none⟩=some (.map (some g.mb))∧MapAt w' g.mb g.mm (Ag g.nodes)) w0.drew:=⟨i0,i1,i2,c1,aa⟩;replace f0:=f0.drew;replace br:=br.drew;refine tkH 0 hS (h:=tkH 1 hS (h:=tkH 2 hS (h:=tkH 3 hS (h:=tkH 4 hS (h:=tkH 5 hS (h:=tkH 6 hS (h:=tkH 7 hS (h:=tkH 8 hS (h:=tkH 9 hS (h:=tkH 10 hS (h:=?_)))))))))));simp only [List.set];refine oD ?_;go_simp;have fz:=((Fr.refl (One (w.heap.size+1)) w0).drew).setRow (g:=w.heap.size+1) (fun _=>rfl) zO;have ag:=br.setRow (cs:=zO);have a3:=Bb (P:=Tryz.prog) (t:=67) (old:=zO) (cs:=zO) (w.heap.size+1) 67 hi rfl (Fb OpL.zero);go_wp2_with (fail)
  (try simp only [Exit.inBlock,Exit.then])
  refine Fa (t:=67) rfl rfl ag rfl Tryz.underlying67 (by kernel_rfl) rfl ?_;exact ai.out _ fz
 ·
  rename_i i;obtain ⟨n,hn,_⟩:=Ie hp;have hR:R=some n.x:=by rw [ah.out,hp];simp [hn]
  have az:=hg.few;have au:i<g.nodes.length:=(List.getElem?_eq_some_iff.1 hn).1;have ak:=(ab.node n (An7 hn)).at_;have ap:=(ab.node n (An7 hn)).ok;obtain ⟨b,ao,hA,ax,hc⟩:=ab.cell hn
  have ay:World.rangeAt w0.drew b (ao+i*35) n.x.cells.toList:=by
   intro j v hv;have hj:j<27:=(List.getElem?_eq_some_iff.1 hv).1;exact hc j (by omega) v (by unfold Ah.cells;rw [Ao6 (by show j<27;exact hj)];exact hv)
  have a1:=Qi (P:=Tryz.prog) n.x.cells b (ao+i*35) Tryz.underlying67 rfl hi;rw [hA] at c2;have j1:(0:Int)≤i:=by omega
  have j2:(i:Int)<g.nodes.length:=by omega
  have j3:(i:Int).toNat=i:=by omega
  have j4:IntKind.i64.wrap (i:Int)=i:=IntWalk.i64_in _ (by omega);rw [hp] at ac
  have ai:Hid (∀(y:OpL) wz,y.op=n.x.op→y.own wz w.heap.size→Fr Non w wz→Hh R w (.returned (.tuple #[.agg y.cells,.bool true])) wz):=by
   intro y wz h1 h2 h3;rw [hR];exact ⟨y,rfl,h1,h2,h3⟩
  clear hR ah hg ab ad hp hn au hc hA ax;generalize Hh R w=POST at*;generalize g.nodes.length=nn at*;generalize n.x=x at*;have kc:=Lib.hid (fun w' (h:x.at w' w'.heap.size)=>Qh x w' h ap);obtain ⟨CX,av⟩:=Ab x.cells;rw [av.out] at ay a1 kc;go_enter Tryz.func24,Tryz.ntmps24;go_wp2_with (fail);clear hw0;have aq:=c2;refine wp_region_held_drew (S:=(fun w'=>w'.cell? ⟨w.heap.size,0,none⟩=some (.int .i64 id.b)∧w'.cell? ⟨w.heap.size,1,none⟩=some (.int .i64 id.s)∧w'.cell? ⟨w.heap.size,2,none⟩=some (.int .u64 (id.u:Int))∧w'.cell? ⟨g.gb,1,none⟩=some (.map (some g.mb))∧MapAt w' g.mb g.mm (Ag g.nodes))) (by kernel_rfl) ⟨i0,i1,i2,c1,aa⟩ (fun hHeld=> ?_);clear hHeld;have hS:(fun w'=>w'.cell? ⟨w.heap.size,0,none⟩=some (.int .i64 id.b)∧w'.cell? ⟨w.heap.size,1,none⟩=some (.int .i64 id.s)∧w'.cell? ⟨w.heap.size,2,none⟩=some (.int .u64 (id.u:Int))∧w'.cell? ⟨g.gb,1,none⟩=some (.map (some g.mb))∧MapAt w' g.mb g.mm (Ag g.nodes)) w0.drew:=⟨i0,i1,i2,c1,aa⟩;replace f0:=f0.drew;replace br:=br.drew;refine tkH 0 hS (h:=tkH 1 hS (h:=tkH 2 hS (h:=tkH 3 hS (h:=tkH 4 hS (h:=tkH 5 hS (h:=tkH 6 hS (h:=tkH 7 hS (h:=tkH 8 hS (h:=tkH 9 hS (h:=tkH 10 hS (h:=?_)))))))))));simp only [List.set];refine oD ?_;go_simp;replace aq:w0.drew.cell? ⟨g.gb,2,none⟩=some (.slice (some ⟨b,ao,none⟩) nn g.nC):=aq;have af:=OpL.frame ak ((Fr.refl Non w0).drew)
  go_wp2_with (first
   |(go_at_call 47;(with_reducible refine (kc.out _ af).mono ?_);rintro _ w1 ⟨y,rfl,ar,al,fy⟩;have aj:=br.fr fy zq;have ae:=Fb y;have aw:=f0.trans fy zr;have a2:w0.drew.heap.size=w.heap.size+2:=a0)
   |(refine Kg rfl 67 (.tmp 4) (.tmp 28) rfl rfl rfl rfl aj hi rfl ae ?_;have fz:=((Fr.refl (One (w.heap.size+1)) w1)).setRow (g:=w.heap.size+1) (fun _=>rfl) y.cells;have ag:=aj.setRow (cs:=y.cells);generalize w1.setRow (w.heap.size+1) y.cells=wz at fz ag ⊢))
  (try simp only [Exit.inBlock,Exit.then])
  refine Fa (t:=67) rfl rfl ag rfl Tryz.underlying67 (by kernel_rfl) rfl ?_;exact ai.out y _ ar ((al.keep fz ((Types.one aj).mono (fun t e=> .inl e))).lower (by omega)) (aw.trans fz (fun k hk e=>absurd hk (by have e':k=w.heap.size+1:=e;omega)))
end Oq
namespace Oq
attribute [local go_sem ↓] Cg Es
def Qj:Prop:=∀(base gv:Nat) (A:Option Addr) (c:Nat) (l:List Id) (p:Id→Bool) (w:World),Own w base 41 3 A l.length c (l.flatMap Id.cells)→l.length≤1000000→
 (∀x∈l,∀w':World,Fr (fun k=>Ac A=some k) w w'→Calls Tryz.prog 110 #[.agg x.V,.pointer (some ⟨gv,0,none⟩)] w' (Ad (p x) w'))→
 Calls Tryz.prog 109 #[.slice A l.length c,.func (.func 110) #[] #[.pointer (some ⟨gv,0,none⟩)]] w fun e w'=>
  ∃ys:List Id,ys=l.filter (fun x=> !p x)∧e=.returned (.slice A ys.length c)∧Rd w' w'.heap.size 3 A ys.length (ys.flatMap Id.cells)∧Fr (fun k=>Ac A=some k) w w'
def Iz (l:List Id) (w:World) (e:Ending) (w':World):Prop:=∃A c,e=.returned (.slice A l.length c)∧Rd w' w'.heap.size 3 A l.length (l.flatMap Id.cells)∧Fr Non w w'
theorem Qk (base:Nat) (g:Gph) (x:OpL) (w:World) (hdel:Qj) (hg:GAt w base g) (hat:x.at w w.heap.size) (hok:∀id∈x.past,id.ok) (hn:x.past.length≤1000000):
  Calls Tryz.prog 63 #[.pointer (some ⟨g.gb,0,none⟩),.agg x.cells] w (Iz (x.past.filter (fun id=> !(Ag g.nodes id).isSome)) w):=by
 have e4:Hid (x.cells[4]? =some (.slice x.pastA x.past.length x.pastC)):=rfl;obtain ⟨CS,hCS⟩:=Ab x.cells;have f0:Fr Non w ((w.alloc (.cells #[.pointer (some ⟨g.gb,0,none⟩)] 30)).alloc (.cells CS 67)):=((Fr.refl Non w).alloc _).alloc _;have bg:=(Blk.new w 30 #[.pointer (some ⟨g.gb,0,none⟩)]).alloc (.cells CS 67);have bx:=Blk.new (w.alloc (.cells #[.pointer (some ⟨g.gb,0,none⟩)] 30)) 67 CS;rw [Am8] at bx;rw [hCS.out] at e4 ⊢
 have hfin:Hid (∀(ys:List Id) A c w',ys=x.past.filter (fun id=> !(Ag g.nodes id).isSome)→Rd w' w'.heap.size 3 A ys.length (ys.flatMap Id.cells)→Fr Non w w'→Iz (x.past.filter (fun id=> !(Ag g.nodes id).isSome)) w (.returned (.slice A ys.length c)) w'):=by
  intro ys A c w' h1 h2 h3;subst h1;exact ⟨A,c,rfl,h2,h3⟩
 generalize Iz (x.past.filter (fun id=> !(Ag g.nodes id).isSome)) w=POST at*;go_enter Tryz.func63,Tryz.ntmps63;go_upto_region 1 with (fail)
 generalize (w.alloc (.cells #[.pointer (some ⟨g.gb,0,none⟩)] 30)).alloc (.cells CS 67)=w0 at*;have c4:w0.cell? ⟨w.heap.size+1,4,none⟩=some (.slice x.pastA x.past.length x.pastC):=(bx.cell 4).trans e4.out;have kc:=Lib.hid (Qa _ _ x.pastC _ _ w0 (OpL.frame hat f0).past.rd (Id.cells_one _) hn);go_wp2_with (fail);refine (kc.out).mono ?_;rintro _ w1 ⟨A1,c1,rfl,o1,f1⟩;have sz0:=f0.size;have f01:=f0.trans f1 zr;have bg1:=bg.fr f1 zq;have hrow:=o1.row
 have kd:=Lib.hid (hdel w0.heap.size w.heap.size A1 c1 x.past (fun id=>(Ag g.nodes id).isSome) w1 o1 hn (fun id hid w' hf=>by
  have hf':Fr Non w w':=f01.trans hf (fun j hj e=>by have h1:=(hrow j e).1;omega);refine (W5 base g w.heap.size id w' (hg.fr hf') ?_ (hok id hid));exact (bg1.fr hf (fun e=>by have h1:=(hrow _ e).1;have h2:=bg.lt;omega)).cell 0))
 have hff:Hid (∀w',Fr (fun k=>Ac A1=some k) w1 w'→Fr Non w w'):=fun w' hf=>f01.trans hf (fun j hj e=>by have h1:=(hrow j e).1;omega);clear kc hdel hg hat hok bg bx bg1 o1 f1 f0 f01;go_wp2_with (fail);refine (kd.out).mono ?_;rintro _ w2 ⟨ys,hys,rfl,hrd,hf2⟩;have fin:=Lib.hid (hfin.out ys A1 c1 w2 hys hrd (hff.out w2 hf2));clear hfin hff kd hys hrd hf2;go_wp2_with (fail);exact fin.out
end Oq
end
section
open Go.RowKit
theorem Xm {P:Program} (w:World) (t e ty:TypeId) (z:Value) (ht:P.underlying t=some (.slice e)) (hv:∀w,(zeroValue e).run P w=.ok z w) (b o n c:Nat) (hn:0<n)
  (hc:∀j,j<(Builtin.zeroCells z.cells n).toList.length→(w.cell? ⟨b,o+j,none⟩).isSome=true) (hf:∀j,j<(Builtin.zeroCells z.cells n).toList.length→w.frozen? ⟨b,o+j,none⟩=false)
  (h1:∀v∈(Builtin.zeroCells z.cells n).toList,v.oneCell'=true):
  (Builtin.clear_ #[t] ty #[.slice (some ⟨b,o,none⟩) n c]).run P w=.ok (.tuple #[]) (w.setCells b o (Builtin.zeroCells z.cells n).toList):=by
 have hst:=run_storeCells_cells (P:=P) b o (Builtin.zeroCells z.cells n).toList 0 w (by simpa using hc) (by simpa using hf) h1;simp only [Nat.add_zero] at hst;obtain ⟨m,rfl⟩:∃m,n=m+1:=⟨n-1,by omega⟩;simp [Builtin.clear_,run_underlying ht,hv,hst]
end
section
open Go.RowKit
attribute [local go_sem ↓] Go.wp_at_zero Go.wp_at_succ
theorem Ql (g:Nat):∀(vs:List Value) (o:Nat) (w:World),Fr (One g) w (w.setCells g o vs)
 |[],_,_=>Fr.refl _ _
 |v::vs,o,w=>((Fr.refl (One g) w).setCell (p:=⟨g,o,none⟩) (fun _=>rfl) v).trans (Ql g vs (o+1) _) zr
namespace Oq
theorem Qm {α:Type} (l:List α) (p:α→Bool) (h:l.any p=false):l.filter (fun x=> !p x)=l:=by
 rw [List.filter_eq_self];intro x hx;rw [List.any_eq_false] at h;simpa using h x hx
theorem Qn {α:Type} (l:List α) (p:α→Bool) {k:Nat} {x:α} (h:l[k]? =some x):(l.take (k+1)).filter p=(l.take k).filter p++(if p x then [x] else []):=by
 obtain ⟨hk,rfl⟩:=List.getElem?_eq_some_iff.1 h;rw [Ao5 hk,List.filter_append];congr 1
 cases hp:p l[k]<;>simp [hp]
theorem Own.putId {w:World} {base n c g:Nat} {l:List Id} (h:Own w base 41 3 (some ⟨g,0,none⟩) n c (l.flatMap Id.cells)) {i:Nat} {y:Id} (hy:l[i]? =some y) (hi:i<n) (x:Id):
  (∀j,j<3→(w.cell? ⟨g,i*3+j,none⟩).isSome=true∧w.frozen? ⟨g,i*3+j,none⟩=false)∧
  Own (((w.setCell ⟨g,i*3,none⟩ (.int .i64 x.b)).setCell ⟨g,i*3+1,none⟩ (.int .i64 x.s)).setCell ⟨g,i*3+2,none⟩ (.int .u64 (x.u:Int))) base 41 3 (some ⟨g,0,none⟩) n c ((l.set i x).flatMap Id.cells):=by
 constructor
 ·
  intro j hj;obtain ⟨g2,hA,_,_,hc,hz,_⟩:=Own.setAt h (j:=i*3+j) (by omega) (.int .i64 0);have hgg:g=g2:=by injection hA with e;injection e
  subst hgg;have hl:(l.flatMap Id.cells)[i*3+j]? =y.cells[j]? :=Fo (f:=Id.cells) (fun _=>rfl) l i j y hy hj;have hyj:∃v,y.cells[j]? =some v:=⟨_,An6 (by show j<3;exact hj)⟩;obtain ⟨v,hv⟩:=hyj;exact ⟨by rw [hc v (hl.trans hv)];rfl,hz⟩
 ·
  have step:∀(w:World) (xs:List Value) (j:Nat) (u:Value),Own w base 41 3 (some ⟨g,0,none⟩) n c xs→j<n*3→Own (w.setCell ⟨g,j,none⟩ u) base 41 3 (some ⟨g,0,none⟩) n c (xs.set j u):=by
   intro w xs j u h hj;obtain ⟨g2,hA,_,_,_,_,ho⟩:=Own.setAt h (j:=j) hj u;have hgg:g=g2:=by injection hA with e;injection e
   subst hgg;exact ho
  have h1:=step _ _ (i*3) (.int .i64 x.b) h (by omega);have h2:=step _ _ (i*3+1) (.int .i64 x.s) h1 (by omega);have h3:=step _ _ (i*3+2) (.int .u64 (x.u:Int)) h2 (by omega);have e1:(l.flatMap Id.cells).set (i*3) (.int .i64 x.b)=(l.set i ⟨x.b,y.s,y.u⟩).flatMap Id.cells:=Hg (f:=Id.cells) (size:=3) (fun _=>rfl) (j:=0) (by omega) _ _ l i y hy rfl
  have hi1:(l.set i ⟨x.b,y.s,y.u⟩)[i]? =some ⟨x.b,y.s,y.u⟩:=by
   rw [Ao7 (List.getElem?_eq_some_iff.1 hy).1]
  have e2:((l.set i ⟨x.b,y.s,y.u⟩).flatMap Id.cells).set (i*3+1) (.int .i64 x.s)=(l.set i ⟨x.b,x.s,y.u⟩).flatMap Id.cells:=by
   have:=Hg (f:=Id.cells) (size:=3) (fun _=>rfl) (j:=1) (by omega) (.int .i64 x.s) ⟨x.b,x.s,y.u⟩ _ i _ hi1 rfl;rwa [List.set_set] at this
  have hi2:(l.set i ⟨x.b,x.s,y.u⟩)[i]? =some ⟨x.b,x.s,y.u⟩:=by
   rw [Ao7 (List.getElem?_eq_some_iff.1 hy).1]
  have e3:((l.set i ⟨x.b,x.s,y.u⟩).flatMap Id.cells).set (i*3+2) (.int .u64 (x.u:Int))=(l.set i x).flatMap Id.cells:=by
   have:=Hg (f:=Id.cells) (size:=3) (fun _=>rfl) (j:=2) (by omega) (.int .u64 (x.u:Int)) x _ i _ hi2 rfl;rwa [List.set_set] at this
  rw [e1,e2,e3] at h3;exact h3
theorem Qo (n:Nat):(Builtin.zeroCells (Value.agg #[.int .i64 0,.int .i64 0,.int .u64 0]).cells n).toList.length=n*3:=by
 simp [Builtin.zeroCells,Value.cells]
theorem Xn (n:Nat):∀v∈(Builtin.zeroCells (Value.agg #[.int .i64 0,.int .i64 0,.int .u64 0]).cells n).toList,v.oneCell'=true:=by
 intro v hv;unfold Builtin.zeroCells at hv;rw [Array.toList_map] at hv;obtain ⟨i,_,rfl⟩:=List.mem_map.1 hv;have h:i%3=0∨i%3=1∨i%3=2:=by omega
 show (#[Value.int .i64 0,.int .i64 0,.int .u64 0][i%3]!).oneCell'=true
 rcases h with e|e|e<;>rw [e]<;>rfl
theorem Qp:Qj:=by
 intro az gv A c l p w aa ar ah;have a8:=Lib.hid (W8 w.heap.size l.length c gv A l p w rfl aa.rd ar (fun x hx w' hf=>ah x hx w' (hf.mono (fun _ _ e=>e.elim))));obtain ⟨n,hn⟩:=Ab l.length;have ax:=aa.cap;have ay:=aa.row
 have af:Hid (∀(ys:List Id) (m:Nat) (w':World),m=ys.length→ys=l.filter (fun x=> !p x)→Rd w' w'.heap.size 3 A m (ys.flatMap Id.cells)→Fr (fun k=>Ac A=some k) w w'→(∃ys:List Id,ys=l.filter (fun x=> !p x)∧Ending.returned (.slice A m c)=.returned (.slice A ys.length c)∧Rd w' w'.heap.size 3 A ys.length (ys.flatMap Id.cells)∧Fr (fun k=>Ac A=some k) w w')):=by
  intro ys m w' h1 h2 h3 h4;subst h1;exact ⟨ys,h2,rfl,h3,h4⟩
 rw [hn.out] at a8 aa ax ar ⊢;go_enter Tryz.func109,Tryz.ntmps109;go_wp2_with (fail);refine (a8.out).mono ?_;rintro e w1 ⟨h,f1⟩;clear a8;have bg:Fr (fun k=>Ac A=some k) w w1:=f1.mono (fun _ _ e=>e.elim);replace aa:=aa.fr f1 zr
 rcases h with ⟨k,id,rfl,hk,hpk,hany⟩|⟨rfl,hany⟩
 ·
  have bt:k<n:=by rw [← hn.out];exact (List.getElem?_eq_some_iff.1 hk).1
  obtain ⟨g,rfl⟩:∃g,A=some ⟨g,0,none⟩:=by
   rcases aa.2 with ⟨_,h0⟩|⟨g,cap,ab,hv,_⟩
   · omega
   ·
    injection hv with hA _ _
    exact ⟨g,hA⟩
  have bj:((k:Int)== -1)=false:=by rw [beq_eq_false_iff_ne];omega
  have al:Hid (l.take k=(l.take (k+1)).filter (fun x=> !p x)):=by
   show _=_;rw [Qn l _ hk,hpk,Qm _ _ hany];simp
  clear hany hpk hk;go_wp2_with (fail)
  go_loopw [5,6] (fun vi vj wr=>∃(i j:Nat) (ab:List Id),vi=.int .i64 (i:Int)∧vj=.int .i64 (j:Int)∧i<j∧j≤n∧Hid (ab.take i=(l.take j).filter (fun x=> !p x))∧Hid (ab.drop j=l.drop j)∧Own wr az 41 3 (some ⟨g,0,none⟩) n c (ab.flatMap Id.cells)∧Fr (fun k=>Ac (some ⟨g,0,none⟩)=some k) w wr) (fun _ vj _=>n-(intOf vj).toNat)
  case atStart=>exact ⟨k,k+1,l,rfl,by go_num,by omega,by omega,al.out,rfl,aa,bg⟩
  case round=>
   obtain ⟨i,j,ab,rfl,rfl,bs,br,ad,ag,ac,hf⟩:=hrel
   have a0:ab.length=n:=by
    have h1:=ac.len;rw [Fp (f:=Id.cells) (size:=3) (fun _=>rfl)] at h1;omega
   by_cases hlt:j<n
   ·
    have i1:(0:Int)≤j:=by omega
    have i2:(j:Int)<n:=by omega
    have i3:(j:Int).toNat=j:=by omega
    have m1:(0:Int)≤i:=by omega
    have m2:(i:Int)<n:=by omega
    have m3:(i:Int).toNat=i:=by omega
    obtain ⟨x,hx⟩:∃x,l[j]? =some x:=⟨_,An6 (by rw [hn.out];exact hlt)⟩;obtain ⟨y,hy⟩:∃y,ab[i]? =some y:=⟨_,An6 (by rw [a0];omega)⟩;have be:ab[j]? =some x:=(Lm ag.out).trans hx;obtain ⟨b,bk,hA,bf,k0,k1,k2⟩:=Id.at ac.rd be;obtain ⟨rfl,rfl⟩:g=b∧0=bk:=by injection hA with e;injection e with e1 e2;exact ⟨e1,e2⟩
    rw [Am9] at k0 k1 k2;have av:=Lib.hid (Qn l (fun x=> !p x) hx);have hc:=Lib.hid (fun w' (h:Fr (fun k=>Ac (some ⟨g,0,none⟩)=some k) w w')=>ah x (An7 hx) w' h);have bd:=Lib.hid (fun (wv:World) (hv:Fr Non wr wv)=>Own.putId (ac.fr hv zr) hy (by omega) x);have aw:=hf.alloc (.cells x.V 41);have bh:=Blk.new wr 41 x.V;have bc:Fr Non wr (wr.alloc (.cells x.V 41)):=(Fr.refl Non wr).alloc _;have bb:g<wr.heap.size:=bf;have au:=ac;have bn:=Lib.hid hx;have bi:=Lib.hid hy;have bv:i<l.length:=by rw [hn.out];omega
    clear hx hy be hA bf ac aa ay al a0
    have bl:=Lib.hid (show (ab.set i x).drop (j+1)=l.drop (j+1) by
     rw [Ao4 (by omega)];have h2:=congrArg (Ao1 1) ag.out;rwa [An5,An5] at h2)
    have a1:=Lib.hid (show ab.drop (j+1)=l.drop (j+1) by
     have h2:=congrArg (Ao1 1) ag.out;rwa [An5,An5] at h2)
    rcases zb (p x) with hp|hp
    ·
     have a3:Hid (ab.take i=(l.take (j+1)).filter (fun x=> !p x)):=by
      show _=_;rw [av.out,hp,ad.out];simp
     rw [hp] at hc;clear hp av;go_wp2_with (go_at_call 110;(with_reducible refine (hc.out _ aw).mono ?_);rintro _ w2 ⟨rfl,f2⟩);go_roundw
     case rel=>exact ⟨i,j+1,ab,rfl,by go_num,by omega,by omega,a3,a1,(au.fr bc zr).fr f2 zr,aw.trans f2 (fun _ _ e=>e.elim)⟩
     case measure=>simp [intOf];omega
    ·
     have a3:Hid ((ab.set i x).take (i+1)=(l.take (j+1)).filter (fun x=> !p x)):=by
      show _=_;rw [av.out,hp,Ll ab i x bi.out,ad.out];simp
     rw [hp] at hc;clear hp av;go_wp2_with (go_at_call 110;(with_reducible refine (hc.out _ aw).mono ?_);rintro _ w2 ⟨rfl,f2⟩;obtain ⟨hz,ho⟩:=bd.out w2 (bc.trans f2 zr);have a9:=hz 0 (by omega);have a7:=hz 1 (by omega);have aq:=hz 2 (by omega);obtain ⟨v0,y0⟩:=Option.isSome_iff_exists.1 a9.1;obtain ⟨v1,y1⟩:=Option.isSome_iff_exists.1 a7.1;obtain ⟨v2,y2⟩:=Option.isSome_iff_exists.1 aq.1;have z0:=a9.2;have z1:=a7.2;have z2:=aq.2;rw [Nat.add_zero] at y0 z0;clear hz a9 a7 aq bd;have ak:=bh.fr f2 zq;have b0:=ak.cell 0;have b1:=ak.cell 1;have b2:=ak.cell 2;replace b0:w2.cell? ⟨wr.heap.size,0,none⟩=some (.int .i64 x.b):=b0;replace b1:w2.cell? ⟨wr.heap.size,1,none⟩=some (.int .i64 x.s):=b1;replace b2:w2.cell? ⟨wr.heap.size,2,none⟩=some (.int .u64 (x.u:Int)):=b2);go_roundw
     case rel=>
      exact ⟨i+1,j+1,ab.set i x,by go_num,by go_num,by omega,by omega,a3,bl,ho,(((aw.trans f2 (fun _ _ e=>e.elim)).setCell (p:=⟨g,i*3,none⟩) (fun _=>rfl) _).setCell (p:=⟨g,i*3+1,none⟩) (fun _=>rfl) _).setCell (p:=⟨g,i*3+2,none⟩) (fun _=>rfl) _⟩
     case measure=>simp [intOf];omega
   ·
    obtain rfl:j=n:=by omega
    have bq:(0:Int)≤i:=by omega
    have bp:(i:Int)<j:=by omega
    have bm:(i:Int).toNat=i:=by omega
    have bu:=ac.cap;have bo:(i:Int)<c:=by omega
    have bb:=ac.row g rfl
    have ao:Hid (∀vs:List Value,Rd (wr.setCells g (i*3) vs) (wr.setCells g (i*3) vs).heap.size 3 (some ⟨g,0,none⟩) i ((l.filter (fun x=> !p x)).flatMap Id.cells)∧Fr (fun k=>Ac (some ⟨g,0,none⟩)=some k) w (wr.setCells g (i*3) vs)):=by
     intro vs;have fz:=Ql g vs (i*3) wr
     have e1:ab.take i=l.filter (fun x=> !p x):=by
      rw [ad.out,Ao0 (by rw [hn.out];exact An4 _)]
     have aj:(l.filter (fun x=> !p x)).length=i:=by rw [← e1,Ao8];omega
     refine ⟨⟨by rw [Fp (f:=Id.cells) (size:=3) (fun _=>rfl),aj],.inr ⟨g,0,rfl,Nat.lt_of_lt_of_le bb.2 fz.size,?_⟩⟩,hf.trans fz (fun k _ e=>by have e':k=g:=e;subst e';rfl)⟩;intro q u hu
     have hq:q<i*3:=by
      have h1:=(List.getElem?_eq_some_iff.1 hu).1;rw [Fp (f:=Id.cells) (size:=3) (fun _=>rfl),aj] at h1;exact h1
     rw [Am9,World.cell?_setCells_out g vs (i*3) wr ⟨g,q,none⟩ (fun _ _=> .inl hq)];obtain ⟨g2,a5,_,_,a6,_,_⟩:=Own.setAt ac (j:=q) (by omega) (.int .i64 0);have ba:g=g2:=by injection a5 with e;injection e
     subst ba;refine a6 u ?_;rw [← e1] at hu;have ap:ab.flatMap Id.cells=(ab.take i).flatMap Id.cells++(ab.drop i).flatMap Id.cells:=by rw [← List.flatMap_append,List.take_append_drop]
     rw [ap,Ao6 (List.getElem?_eq_some_iff.1 hu).1];exact hu
    have ae:Hid (∀q,q<(j-i)*3→(wr.cell? ⟨g,i*3+q,none⟩).isSome=true∧wr.frozen? ⟨g,i*3+q,none⟩=false):=by
     intro q hq;have hm:i*3+q<j*3:=by omega
     obtain ⟨g2,a5,_,_,a6,aq,_⟩:=Own.setAt ac (j:=i*3+q) hm (.int .i64 0);have ba:g=g2:=by injection a5 with e;injection e
     subst ba;have hl:i*3+q<(ab.flatMap Id.cells).length:=by rw [Fp (f:=Id.cells) (size:=3) (fun _=>rfl),a0];exact hm
     exact ⟨by rw [a6 _ (An6 hl)];rfl,aq⟩
    have ai:Hid (i=(l.filter (fun x=> !p x)).length):=by
     show _=_
     have e1:ab.take i=l.filter (fun x=> !p x):=by
      rw [ad.out,Ao0 (by rw [hn.out];exact An4 _)]
     rw [← e1,Ao8];omega
    clear ac ad ag ah aa al hf
    have a4:(Builtin.clear_ #[25] 0 #[Value.slice (some ⟨g,i*3,none⟩) (j-i) (c-i)]).run Tryz.prog wr=.ok (.tuple #[]) (wr.setCells g (i*3) (Builtin.zeroCells (Value.agg #[.int .i64 0,.int .i64 0,.int .u64 0]).cells (j-i)).toList):=
     Xm wr 25 41 0 _ Tryz.underlying25 (fun _=>Tryz.zeroValue41 _) g (i*3) (j-i) (c-i) (by omega) (fun q hq=>(ae.out q (by rw [Qo] at hq;exact hq)).1) (fun q hq=>(ae.out q (by rw [Qo] at hq;exact hq)).2) (Xn _)
    have a2:=Lib.hid (fun vs=>af.out (l.filter (fun x=> !p x)) i (wr.setCells g (i*3) vs) ai.out rfl (ao.out vs).1 (ao.out vs).2);clear ae ao ai af;generalize (Builtin.zeroCells (Value.agg #[.int .i64 0,.int .i64 0,.int .u64 0]).cells (j-i)).toList=ZS at a4;go_wp2_with (fail)
    go_ret
    exact a2.out _
 ·
  have a2:=Lib.hid (af.out l n w1 hn.out.symm (Qm l p hany).symm (by have:=aa.rd;exact this) bg);clear af ah hany;go_wp2_with (fail)
  go_ret
  exact a2.out
end Oq
end
section
open Go.RowKit Go.Sort
attribute [local go_sem ↓] Go.wp_at_zero Go.wp_at_succ
namespace Oq
theorem I4 (v:Value):Instr.loadAt 98 v=ldS 98 v:=rfl
theorem I5 (p v:Value):Instr.storeAt 98 p v=stS 98 p v:=rfl
attribute [local go_sem ↓] I4 I5
def picks (l:List Ah) (p:Nat→Bool) (k:Nat):List Id:=(List.range k).filterMap (fun i=>if p i then l[i]?.map Ah.id else none)
theorem I6 (n:Ah):n.cells.toArray.all (·.oneCell')=true:=by
 unfold Ah.cells OpL.cells;simp [Value.oneCell']
def Picked (g:Gph) (p:Nat→Bool) (w:World) (e:Ending) (w':World):Prop:=
 ∃A c,∃ids:List Id,e=.returned (.slice A ids.length c)∧ids.Perm (picks g.nodes p g.nodes.length)∧ids.Pairwise (fun x y=>Id.less y x=false)∧Own w' w.heap.size 41 3 A ids.length c (ids.flatMap Id.cells)∧Fr Non w w'
end Oq
end
end Go.Proofs.YtkanjaikgphjfaaGreatDoor
