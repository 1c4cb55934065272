/-
  Contracts of the functions that the claim's statement reaches, walked one by one (part 6).
  Conditions: as each theorem says.
-/
import Derived.Lib.SliceRun
import Derived.Laws.IdiomCopy
import Derived.Test.YtkanjaikgphjfaaGreatDoorFkM1
import Derived.Test.YtkanjaikgphjfaaGreatDoorFkM2
import Derived.Test.YtkanjaikgphjfaaGreatDoorFkM3
import Derived.Test.YtkanjaikgphjfaaGreatDoorFkM5
set_option maxRecDepth 100000
set_option maxHeartbeats 16000000
open Array renaming getD→Ag7
open Bool renaming and_eq_true→Ah2
open List renaming eq_nil_of_length_eq_zero→Ag1,nil_append→Ag2,length_map→Ag3,drop_drop→Ag5,getElem?_eq_getElem→Ag6,flatMap_cons→Ag8,take_of_length_le→Ag9,drop→Ah0,mem_of_getElem?→Ah1,getElem?_toArray→Ah3,drop_set_of_lt→Ah4,take_succ_eq_append_getElem→Ah5,getElem?_set_self→Ah6,length_take→Ah7
open Nat renaming zero_add→Af9,zero_mul→Ag0,le_refl→Ag4
open Go.World renaming size_alloc→Af8
namespace Go.Proofs.YtkanjaikgphjfaaGreatDoor
section
open Go.RowKit
attribute [local go_sem ↓] Go.wp_at_zero Go.wp_at_succ
namespace Oq
theorem Vi {P:Program} {t e:TypeId} (hu:P.underlying t=some (.slice e)) (A:Option Addr) (n c:Nat) (w:World):(Go.Op.equal t (.slice A n c) (.slice none 0 0)).run P w=.ok A.isNone w:=by
 show (Go.Op.equalIn (9999+1) t (.slice A n c) (.slice none 0 0)).run P w=_;generalize 9999=d
 cases A<;>simp [Go.Op.equalIn,run_underlying hu]
theorem Ev {P:Program} {t e:TypeId} (hu:P.underlying t=some (.slice e)) (A:Option Addr) (n c:Nat) (w:World):(binOp .eql t (.slice A n c) (.slice none 0 0)).run P w=.ok (.bool A.isNone) w:=by
 have h:binOp .eql t (.slice A n c) (.slice none 0 0)=(do pure (.bool (← Go.Op.equal t (.slice A n c) (.slice none 0 0)))):=by
  unfold binOp;rfl
 rw [h];simp [Vi hu]
theorem Own.empty (w:World) (t:TypeId) (size:Nat):Own (w.alloc (.cells #[] t)) w.heap.size t size (some ⟨w.heap.size,0,none⟩) 0 0 []:=
 ⟨by simp,.inr ⟨w.heap.size,0,#[],rfl,Ag4 _,heap_alloc_new w _,Ag4 _,by omega,by simp,by simp⟩⟩
def Ar (e:TypeId) (size n:Nat) (xs:List Value) (w:World) (r:Ending) (w':World):Prop:=∃A' c',r=.returned (.slice A' n c')∧Own w' w.heap.size e size A' n c' xs∧Fr Non w w'
theorem Oj (B n c:Nat) (A:Option Addr) (xs:List Value) (w:World) (hr:Rd w B 3 A n xs) (h1:∀u∈xs,u.oneCell'=true) (hn:n≤1000000):
  Calls Tryz.prog 74 #[.slice A n c] w (Ar 41 3 n xs w):=by
 have heq:=fun w'=>Ev (P:=Tryz.prog) Tryz.underlying25 A n c w'
 cases A with
 |none=>
  replace heq:∀w',(binOp .eql 25 (.slice none n c) (.slice none 0 0)).run Tryz.prog w'=.ok (.bool true) w':=heq
  have h0:n=0:=by
   rcases hr.2 with h|⟨_,_,h,_⟩
   · exact h
   · cases h
  have hx:xs=[]:=Ag1 (by rw [hr.1,h0,Ag0]);subst h0;subst hx;have fin:Ar 41 3 0 [] w (.returned (.slice none 0 0)) w:=⟨none,0,rfl,Own.nil _ _ _ _,Fr.refl _ _⟩;generalize Ar 41 3 0 [] w=POST at*;replace fin:=Lib.hid fin;go_enter Tryz.func74,Tryz.ntmps74;go_wp2_with (fail);exact fin.out
 |some ad=>
  replace heq:∀w',(binOp .eql 25 (.slice (some ad) n c) (.slice none 0 0)).run Tryz.prog w'=.ok (.bool false) w':=heq;have hem:=Own.empty w 41 3;have hr1:=hr.fr ((Fr.refl Non w).alloc (.cells #[] 41)) zr
  have fin:∀A' c' w',Own w' w.heap.size 41 3 A' (0+n) c' ([]++xs)→Fr (fun k=>Ab (some (⟨w.heap.size,0,none⟩:Addr))=some k) (w.alloc (.cells #[] 41)) w'→Ar 41 3 n xs w (.returned (.slice A' n c')) w':=by
   intro A' c' w' h2 h3;rw [Af9,Ag2] at h2;refine ⟨A',c',rfl,h2,((Fr.refl Non w).alloc (.cells #[] 41)).trans h3 (fun k hk e=> ?_)⟩;have e':w.heap.size=k:=Option.some.inj e;omega
  replace fin:=Lib.hid fin;generalize Ar 41 3 n xs w=POST at*;go_enter Tryz.func74,Tryz.ntmps74;go_upto_region 3 with (fail)
  go_wp2_with (at_builtin;go_loud (refine Au (base:=w.heap.size) (.tmp 5) (.tmp 6) 25 rfl rfl rfl rfl Ct hem hr1 h1 (by omega) (by omega) (by rw [Af8];omega) ?_);intro A1 c1 w2 own1 fr1 hat1;have hdone:=Lib.hid (fin.out _ _ _ own1 fr1);clear own1 fr1 hat1 fin);exact hdone.out
theorem Ol (B n c:Nat) (A:Option Addr) (xs:List Value) (w:World) (hr:Rd w B 1 A n xs) (h1:∀u∈xs,u.oneCell'=true) (hn:n≤1000000):
  Calls Tryz.prog 75 #[.slice A n c] w (Ar 5 1 n xs w):=by
 have heq:=fun w'=>Ev (P:=Tryz.prog) Tryz.underlying60 A n c w'
 cases A with
 |none=>
  replace heq:∀w',(binOp .eql 60 (.slice none n c) (.slice none 0 0)).run Tryz.prog w'=.ok (.bool true) w':=heq
  have h0:n=0:=by
   rcases hr.2 with h|⟨_,_,h,_⟩
   · exact h
   · cases h
  have hx:xs=[]:=Ag1 (by rw [hr.1,h0,Ag0]);subst h0;subst hx;have fin:Ar 5 1 0 [] w (.returned (.slice none 0 0)) w:=⟨none,0,rfl,Own.nil _ _ _ _,Fr.refl _ _⟩;generalize Ar 5 1 0 [] w=POST at*;replace fin:=Lib.hid fin;go_enter Tryz.func75,Tryz.ntmps75;go_wp2_with (fail);exact fin.out
 |some ad=>
  replace heq:∀w',(binOp .eql 60 (.slice (some ad) n c) (.slice none 0 0)).run Tryz.prog w'=.ok (.bool false) w':=heq;have hem:=Own.empty w 5 1;have hr1:=hr.fr ((Fr.refl Non w).alloc (.cells #[] 5)) zr
  have fin:∀A' c' w',Own w' w.heap.size 5 1 A' (0+n) c' ([]++xs)→Fr (fun k=>Ab (some (⟨w.heap.size,0,none⟩:Addr))=some k) (w.alloc (.cells #[] 5)) w'→Ar 5 1 n xs w (.returned (.slice A' n c')) w':=by
   intro A' c' w' h2 h3;rw [Af9,Ag2] at h2;refine ⟨A',c',rfl,h2,((Fr.refl Non w).alloc (.cells #[] 5)).trans h3 (fun k hk e=> ?_)⟩;have e':w.heap.size=k:=Option.some.inj e;omega
  replace fin:=Lib.hid fin;generalize Ar 5 1 n xs w=POST at*;go_enter Tryz.func75,Tryz.ntmps75;go_upto_region 3 with (fail)
  go_wp2_with (at_builtin;go_loud (refine Au (base:=w.heap.size) (.tmp 5) (.tmp 6) 60 rfl rfl rfl rfl slB hem hr1 h1 (by omega) (by omega) (by rw [Af8];omega) ?_);intro A1 c1 w2 own1 fr1 hat1;have hdone:=Lib.hid (fin.out _ _ _ own1 fr1);clear own1 fr1 hat1 fin);exact hdone.out
theorem Vj (B n c:Nat) (A:Option Addr) (xs:List Value) (w:World) (hr:Rd w B 1 A n xs) (h1:∀u∈xs,u.oneCell'=true) (hn:n≤1000000):
  Calls Tryz.prog 76 #[.slice A n c] w (Ar 39 1 n xs w):=by
 have heq:=fun w'=>Ev (P:=Tryz.prog) Tryz.underlying61 A n c w'
 cases A with
 |none=>
  replace heq:∀w',(binOp .eql 61 (.slice none n c) (.slice none 0 0)).run Tryz.prog w'=.ok (.bool true) w':=heq
  have h0:n=0:=by
   rcases hr.2 with h|⟨_,_,h,_⟩
   · exact h
   · cases h
  have hx:xs=[]:=Ag1 (by rw [hr.1,h0,Ag0]);subst h0;subst hx;have fin:Ar 39 1 0 [] w (.returned (.slice none 0 0)) w:=⟨none,0,rfl,Own.nil _ _ _ _,Fr.refl _ _⟩;generalize Ar 39 1 0 [] w=POST at*;replace fin:=Lib.hid fin;go_enter Tryz.func76,Tryz.ntmps76;go_wp2_with (fail);exact fin.out
 |some ad=>
  replace heq:∀w',(binOp .eql 61 (.slice (some ad) n c) (.slice none 0 0)).run Tryz.prog w'=.ok (.bool false) w':=heq;have hem:=Own.empty w 39 1;have hr1:=hr.fr ((Fr.refl Non w).alloc (.cells #[] 39)) zr
  have fin:∀A' c' w',Own w' w.heap.size 39 1 A' (0+n) c' ([]++xs)→Fr (fun k=>Ab (some (⟨w.heap.size,0,none⟩:Addr))=some k) (w.alloc (.cells #[] 39)) w'→Ar 39 1 n xs w (.returned (.slice A' n c')) w':=by
   intro A' c' w' h2 h3;rw [Af9,Ag2] at h2;refine ⟨A',c',rfl,h2,((Fr.refl Non w).alloc (.cells #[] 39)).trans h3 (fun k hk e=> ?_)⟩;have e':w.heap.size=k:=Option.some.inj e;omega
  replace fin:=Lib.hid fin;generalize Ar 39 1 n xs w=POST at*;go_enter Tryz.func76,Tryz.ntmps76;go_upto_region 3 with (fail)
  go_wp2_with (at_builtin;go_loud (refine Au (base:=w.heap.size) (.tmp 5) (.tmp 6) 61 rfl rfl rfl rfl Mb hem hr1 h1 (by omega) (by omega) (by rw [Af8];omega) ?_);intro A1 c1 w2 own1 fr1 hat1;have hdone:=Lib.hid (fin.out _ _ _ own1 fr1);clear own1 fr1 hat1 fin);exact hdone.out
theorem Vk (B n c:Nat) (A:Option Addr) (xs:List Value) (w:World) (hr:Rd w B 1 A n xs) (h1:∀u∈xs,u.oneCell'=true) (hn:n≤1000000):
  Calls Tryz.prog 77 #[.slice A n c] w (Ar 3 1 n xs w):=by
 have heq:=fun w'=>Ev (P:=Tryz.prog) Tryz.underlying22 A n c w'
 cases A with
 |none=>
  replace heq:∀w',(binOp .eql 22 (.slice none n c) (.slice none 0 0)).run Tryz.prog w'=.ok (.bool true) w':=heq
  have h0:n=0:=by
   rcases hr.2 with h|⟨_,_,h,_⟩
   · exact h
   · cases h
  have hx:xs=[]:=Ag1 (by rw [hr.1,h0,Ag0]);subst h0;subst hx;have fin:Ar 3 1 0 [] w (.returned (.slice none 0 0)) w:=⟨none,0,rfl,Own.nil _ _ _ _,Fr.refl _ _⟩;generalize Ar 3 1 0 [] w=POST at*;replace fin:=Lib.hid fin;go_enter Tryz.func77,Tryz.ntmps77;go_wp2_with (fail);exact fin.out
 |some ad=>
  replace heq:∀w',(binOp .eql 22 (.slice (some ad) n c) (.slice none 0 0)).run Tryz.prog w'=.ok (.bool false) w':=heq;have hem:=Own.empty w 3 1;have hr1:=hr.fr ((Fr.refl Non w).alloc (.cells #[] 3)) zr
  have fin:∀A' c' w',Own w' w.heap.size 3 1 A' (0+n) c' ([]++xs)→Fr (fun k=>Ab (some (⟨w.heap.size,0,none⟩:Addr))=some k) (w.alloc (.cells #[] 3)) w'→Ar 3 1 n xs w (.returned (.slice A' n c')) w':=by
   intro A' c' w' h2 h3;rw [Af9,Ag2] at h2;refine ⟨A',c',rfl,h2,((Fr.refl Non w).alloc (.cells #[] 3)).trans h3 (fun k hk e=> ?_)⟩;have e':w.heap.size=k:=Option.some.inj e;omega
  replace fin:=Lib.hid fin;generalize Ar 3 1 n xs w=POST at*;go_enter Tryz.func77,Tryz.ntmps77;go_upto_region 3 with (fail)
  go_wp2_with (at_builtin;go_loud (refine Au (base:=w.heap.size) (.tmp 5) (.tmp 6) 22 rfl rfl rfl rfl E7 hem hr1 h1 (by omega) (by omega) (by rw [Af8];omega) ?_);intro A1 c1 w2 own1 fr1 hat1;have hdone:=Lib.hid (fin.out _ _ _ own1 fr1);clear own1 fr1 hat1 fin);exact hdone.out
theorem Om (B n c:Nat) (A:Option Addr) (xs:List Value) (w:World) (hr:Rd w B 4 A n xs) (h1:∀u∈xs,u.oneCell'=true) (hn:n≤1000000):
  Calls Tryz.prog 78 #[.slice A n c] w (Ar 134 4 n xs w):=by
 have heq:=fun w'=>Ev (P:=Tryz.prog) Tryz.underlying62 A n c w'
 cases A with
 |none=>
  replace heq:∀w',(binOp .eql 62 (.slice none n c) (.slice none 0 0)).run Tryz.prog w'=.ok (.bool true) w':=heq
  have h0:n=0:=by
   rcases hr.2 with h|⟨_,_,h,_⟩
   · exact h
   · cases h
  have hx:xs=[]:=Ag1 (by rw [hr.1,h0,Ag0]);subst h0;subst hx;have fin:Ar 134 4 0 [] w (.returned (.slice none 0 0)) w:=⟨none,0,rfl,Own.nil _ _ _ _,Fr.refl _ _⟩;generalize Ar 134 4 0 [] w=POST at*;replace fin:=Lib.hid fin;go_enter Tryz.func78,Tryz.ntmps78;go_wp2_with (fail);exact fin.out
 |some ad=>
  replace heq:∀w',(binOp .eql 62 (.slice (some ad) n c) (.slice none 0 0)).run Tryz.prog w'=.ok (.bool false) w':=heq;have hem:=Own.empty w 134 4;have hr1:=hr.fr ((Fr.refl Non w).alloc (.cells #[] 134)) zr
  have fin:∀A' c' w',Own w' w.heap.size 134 4 A' (0+n) c' ([]++xs)→Fr (fun k=>Ab (some (⟨w.heap.size,0,none⟩:Addr))=some k) (w.alloc (.cells #[] 134)) w'→Ar 134 4 n xs w (.returned (.slice A' n c')) w':=by
   intro A' c' w' h2 h3;rw [Af9,Ag2] at h2;refine ⟨A',c',rfl,h2,((Fr.refl Non w).alloc (.cells #[] 134)).trans h3 (fun k hk e=> ?_)⟩;have e':w.heap.size=k:=Option.some.inj e;omega
  replace fin:=Lib.hid fin;generalize Ar 134 4 n xs w=POST at*;go_enter Tryz.func78,Tryz.ntmps78;go_upto_region 3 with (fail)
  go_wp2_with (at_builtin;go_loud (refine Au (base:=w.heap.size) (.tmp 5) (.tmp 6) 62 rfl rfl rfl rfl slBx hem hr1 h1 (by omega) (by omega) (by rw [Af8];omega) ?_);intro A1 c1 w2 own1 fr1 hat1;have hdone:=Lib.hid (fin.out _ _ _ own1 fr1);clear own1 fr1 hat1 fin);exact hdone.out
theorem Vl (B n c:Nat) (A:Option Addr) (xs:List Value) (w:World) (hr:Rd w B 2 A n xs) (h1:∀u∈xs,u.oneCell'=true) (hn:n≤1000000):
  Calls Tryz.prog 79 #[.slice A n c] w (Ar 137 2 n xs w):=by
 have heq:=fun w'=>Ev (P:=Tryz.prog) Tryz.underlying59 A n c w'
 cases A with
 |none=>
  replace heq:∀w',(binOp .eql 59 (.slice none n c) (.slice none 0 0)).run Tryz.prog w'=.ok (.bool true) w':=heq
  have h0:n=0:=by
   rcases hr.2 with h|⟨_,_,h,_⟩
   · exact h
   · cases h
  have hx:xs=[]:=Ag1 (by rw [hr.1,h0,Ag0]);subst h0;subst hx;have fin:Ar 137 2 0 [] w (.returned (.slice none 0 0)) w:=⟨none,0,rfl,Own.nil _ _ _ _,Fr.refl _ _⟩;generalize Ar 137 2 0 [] w=POST at*;replace fin:=Lib.hid fin;go_enter Tryz.func79,Tryz.ntmps79;go_wp2_with (fail);exact fin.out
 |some ad=>
  replace heq:∀w',(binOp .eql 59 (.slice (some ad) n c) (.slice none 0 0)).run Tryz.prog w'=.ok (.bool false) w':=heq;have hem:=Own.empty w 137 2;have hr1:=hr.fr ((Fr.refl Non w).alloc (.cells #[] 137)) zr
  have fin:∀A' c' w',Own w' w.heap.size 137 2 A' (0+n) c' ([]++xs)→Fr (fun k=>Ab (some (⟨w.heap.size,0,none⟩:Addr))=some k) (w.alloc (.cells #[] 137)) w'→Ar 137 2 n xs w (.returned (.slice A' n c')) w':=by
   intro A' c' w' h2 h3;rw [Af9,Ag2] at h2;refine ⟨A',c',rfl,h2,((Fr.refl Non w).alloc (.cells #[] 137)).trans h3 (fun k hk e=> ?_)⟩;have e':w.heap.size=k:=Option.some.inj e;omega
  replace fin:=Lib.hid fin;generalize Ar 137 2 n xs w=POST at*;go_enter Tryz.func79,Tryz.ntmps79;go_upto_region 3 with (fail)
  go_wp2_with (at_builtin;go_loud (refine Au (base:=w.heap.size) (.tmp 5) (.tmp 6) 59 rfl rfl rfl rfl slNd hem hr1 h1 (by omega) (by omega) (by rw [Af8];omega) ?_);intro A1 c1 w2 own1 fr1 hat1;have hdone:=Lib.hid (fin.out _ _ _ own1 fr1);clear own1 fr1 hat1 fin);exact hdone.out
theorem Vm (B n c:Nat) (A:Option Addr) (xs:List Value) (w:World) (hr:Rd w B 4 A n xs) (h1:∀u∈xs,u.oneCell'=true) (hn:n≤1000000):
  Calls Tryz.prog 80 #[.slice A n c] w (Ar 140 4 n xs w):=by
 have heq:=fun w'=>Ev (P:=Tryz.prog) Tryz.underlying63 A n c w'
 cases A with
 |none=>
  replace heq:∀w',(binOp .eql 63 (.slice none n c) (.slice none 0 0)).run Tryz.prog w'=.ok (.bool true) w':=heq
  have h0:n=0:=by
   rcases hr.2 with h|⟨_,_,h,_⟩
   · exact h
   · cases h
  have hx:xs=[]:=Ag1 (by rw [hr.1,h0,Ag0]);subst h0;subst hx;have fin:Ar 140 4 0 [] w (.returned (.slice none 0 0)) w:=⟨none,0,rfl,Own.nil _ _ _ _,Fr.refl _ _⟩;generalize Ar 140 4 0 [] w=POST at*;replace fin:=Lib.hid fin;go_enter Tryz.func80,Tryz.ntmps80;go_wp2_with (fail);exact fin.out
 |some ad=>
  replace heq:∀w',(binOp .eql 63 (.slice (some ad) n c) (.slice none 0 0)).run Tryz.prog w'=.ok (.bool false) w':=heq;have hem:=Own.empty w 140 4;have hr1:=hr.fr ((Fr.refl Non w).alloc (.cells #[] 140)) zr
  have fin:∀A' c' w',Own w' w.heap.size 140 4 A' (0+n) c' ([]++xs)→Fr (fun k=>Ab (some (⟨w.heap.size,0,none⟩:Addr))=some k) (w.alloc (.cells #[] 140)) w'→Ar 140 4 n xs w (.returned (.slice A' n c')) w':=by
   intro A' c' w' h2 h3;rw [Af9,Ag2] at h2;refine ⟨A',c',rfl,h2,((Fr.refl Non w).alloc (.cells #[] 140)).trans h3 (fun k hk e=> ?_)⟩;have e':w.heap.size=k:=Option.some.inj e;omega
  replace fin:=Lib.hid fin;generalize Ar 140 4 n xs w=POST at*;go_enter Tryz.func80,Tryz.ntmps80;go_upto_region 3 with (fail)
  go_wp2_with (at_builtin;go_loud (refine Au (base:=w.heap.size) (.tmp 5) (.tmp 6) 63 rfl rfl rfl rfl slSl hem hr1 h1 (by omega) (by omega) (by rw [Af8];omega) ?_);intro A1 c1 w2 own1 fr1 hat1;have hdone:=Lib.hid (fin.out _ _ _ own1 fr1);clear own1 fr1 hat1 fin);exact hdone.out
theorem Vn (B n c:Nat) (A:Option Addr) (xs:List Value) (w:World) (hr:Rd w B 5 A n xs) (h1:∀u∈xs,u.oneCell'=true) (hn:n≤1000000):
  Calls Tryz.prog 58 #[.slice A n c] w (Ar 71 5 n xs w):=by
 have heq:=fun w'=>Ev (P:=Tryz.prog) Tryz.underlying23 A n c w'
 cases A with
 |none=>
  replace heq:∀w',(binOp .eql 23 (.slice none n c) (.slice none 0 0)).run Tryz.prog w'=.ok (.bool true) w':=heq
  have h0:n=0:=by
   rcases hr.2 with h|⟨_,_,h,_⟩
   · exact h
   · cases h
  have hx:xs=[]:=Ag1 (by rw [hr.1,h0,Ag0]);subst h0;subst hx;have fin:Ar 71 5 0 [] w (.returned (.slice none 0 0)) w:=⟨none,0,rfl,Own.nil _ _ _ _,Fr.refl _ _⟩;generalize Ar 71 5 0 [] w=POST at*;replace fin:=Lib.hid fin;go_enter Tryz.func58,Tryz.ntmps58;go_wp2_with (fail);exact fin.out
 |some ad=>
  replace heq:∀w',(binOp .eql 23 (.slice (some ad) n c) (.slice none 0 0)).run Tryz.prog w'=.ok (.bool false) w':=heq;have hem:=Own.empty w 71 5;have hr1:=hr.fr ((Fr.refl Non w).alloc (.cells #[] 71)) zr
  have fin:∀A' c' w',Own w' w.heap.size 71 5 A' (0+n) c' ([]++xs)→Fr (fun k=>Ab (some (⟨w.heap.size,0,none⟩:Addr))=some k) (w.alloc (.cells #[] 71)) w'→Ar 71 5 n xs w (.returned (.slice A' n c')) w':=by
   intro A' c' w' h2 h3;rw [Af9,Ag2] at h2;refine ⟨A',c',rfl,h2,((Fr.refl Non w).alloc (.cells #[] 71)).trans h3 (fun k hk e=> ?_)⟩;have e':w.heap.size=k:=Option.some.inj e;omega
  replace fin:=Lib.hid fin;generalize Ar 71 5 n xs w=POST at*;go_enter Tryz.func58,Tryz.ntmps58;go_upto_region 3 with (fail)
  go_wp2_with (at_builtin;go_loud (refine Au (base:=w.heap.size) (.tmp 5) (.tmp 6) 23 rfl rfl rfl rfl slCd hem hr1 h1 (by omega) (by omega) (by rw [Af8];omega) ?_);intro A1 c1 w2 own1 fr1 hat1;have hdone:=Lib.hid (fin.out _ _ _ own1 fr1);clear own1 fr1 hat1 fin);exact hdone.out
end Oq
end
section
open Go.RowKit
section
variable {P : Program} {ops : Array Oper} {Q : Exit → Act → World → Prop} {md : Region.Mode} {S : World → Prop} {g : Nat}
def Cq (P:Program) (md:Region.Mode) (ops:Array Oper) (Q:Exit→Act→World→Prop) (S:World→Prop) (g:Nat) (fuel:Nat) (listed:Array Bool) (a:Act) (w:World):Prop:=
 match fuel with
 |0=>Region.ready md ops listed=[]∧Q .normal a w
 |k+1=>(Region.ready md ops listed=[]→Q .normal a w)∧
   ∀i∈Region.ready md ops listed,wpOp P ops Q i (fun a' w'=>((listed.setIfInBounds i true).getD g true=false→S w')∧Cq P md ops Q S g k (listed.setIfInBounds i true) a' w') a w
theorem Vo:∀(fuel:Nat) (listed:Array Bool) (a:Act) (w:World),Cq P md ops Q S g fuel listed a w→wpAny P md ops Q fuel listed a w:=by
 intro fuel
 induction fuel with
 |zero=>intro _ _ _ h;exact h
 |succ k ih=>intro l a w h;exact ⟨h.1,fun i hi=>wpOp_mono (fun a' w' h'=>ih _ a' w' h'.2) (h.2 i hi)⟩
theorem Vp:∀(fuel:Nat) (listed:Array Bool) (a:Act) (w:World),listed.getD g true=true→wpAny P md ops Q fuel listed a w→Cq P md ops Q S g fuel listed a w:=by
 intro fuel
 induction fuel with
 |zero=>intro _ _ _ _ h;exact h
 |succ k ih=>
  intro l a w hg h;refine ⟨h.1,fun i hi=>wpOp_mono (fun a' w' h'=> ?_) (h.2 i hi)⟩
  have hg':(l.setIfInBounds i true).getD g true=true:=by
   by_cases hgi:i=g
   ·
    subst hgi
    by_cases hb:i<l.size
    · simp [Ag7,hb]
    · simp [Ag7,hb]
   ·
    rw [getD_set_ne true hgi];exact hg
  exact ⟨fun h0=>(by rw [hg'] at h0;cases h0),ih _ a' w' hg' h'⟩
theorem Vq {i:Nat} {oi og:Oper} {v:Value} (hi:ops[i]? =some oi) (hog:ops[g]? =some og) (hgi:g≠i) (hwait:∃e∈og.after,Region.binds md e=true∧e.on=i)
  (hsel:∀(j:Nat) (o:Oper) cs b,ops[j]? =some o→o.op≠ .select cs b) (hQ:∀c a w,Q (.panic c) (a.put oi.dst v) w→Q (.panic c) a w):
  ∀(fuel:Nat) (listed:Array Bool) (a:Act) (w:World),listed.getD g true=false→
   (∀j oj,ops[j]? =some oj→j≠i→listed.getD j true=false→(∀e∈oj.after,Region.binds md e=true→e.on≠i)→oi.apart ops oj=true)→
   i∈Region.ready md ops listed→YieldsIf P ops S oi v a→S w→
   Cq P md ops Q S g fuel (listed.setIfInBounds i true) (a.put oi.dst v) w→Cq P md ops Q S g (fuel+1) listed a w:=by
 intro fuel
 induction fuel with
 |zero=>
  intro listed a w hg _ hr hy hS H;refine ⟨fun h=>(by rw [h] at hr;cases hr),fun j hj=> ?_⟩
  by_cases hji:j=i
  · subst hji;exact hy.wpOp hi hS ⟨fun _=>hS,H⟩
  ·
   have h0:=ready_mono hj hji;rw [H.1] at h0
   cases h0
 |succ k ih=>
  intro listed a w hg hfree hr hy hS H;refine ⟨fun h=>(by rw [h] at hr;cases hr),fun j hj=> ?_⟩
  by_cases hji:j=i
  · subst hji;exact hy.wpOp hi hS ⟨fun _=>hS,H⟩
  ·
   have hpend:=(mem_ready.1 hr).1;obtain ⟨hjun,oj,hoj,hall⟩:=mem_ready.1 hj
   have hbl:∀e∈oj.after,Region.binds md e=true→e.on≠i:=fun e he hb heq=>by
    have h1:=hall e he hb;rw [heq] at h1
    rcases Nat.lt_or_ge i listed.size with h'|h'
    · simp [h'] at hpend h1;rw [hpend] at h1;cases h1
    · simp [Array.getElem?_eq_none h'] at h1
   have hjg:j≠g:=by
    rintro rfl;obtain ⟨e,he,hb,heq⟩:=hwait;rw [hog] at hoj
    cases hoj
    exact hbl e he hb heq
   have h1:=H.2 j (ready_mono hj hji);have h2:=wpOp_putIf hoj (hfree j oj hoj hji hjun hbl) (fun cs b=>hsel i oi cs b hi) (fun cs b=>hsel j oj cs b hoj) hQ hy h1;have hg':(listed.setIfInBounds j true).getD g true=false:=by rw [getD_set_ne true hjg];exact hg
   have hgij:((listed.setIfInBounds i true).setIfInBounds j true).getD g true=false:=by rw [getD_set_ne true hjg,getD_set_ne true (Ne.symm hgi)];exact hg
   have hfree':∀m om,ops[m]? =some om→m≠i→(listed.setIfInBounds j true).getD m true=false→
     (∀e∈om.after,Region.binds md e=true→e.on≠i)→oi.apart ops om=true:=fun m om hm hmi hun hno=>by
    refine hfree m om hm hmi ?_ hno
    by_cases hjm:j=m
    · subst hjm;exact hjun
    · rw [getD_set_ne true hjm] at hun;exact hun
   refine wpOp_mono (fun a' w' h3=> ?_) h2;have hS':=h3.2.1 hgij;refine ⟨fun _=>hS',ih _ a' w' hg' hfree' (ready_mono hr (Ne.symm hji)) h3.1 hS' ?_⟩;rw [Array.setIfInBounds_comm _ _ hji];exact h3.2.2
def H5 (md:Region.Mode) (ops:Array Oper) (g i:Nat):Bool:=match ops[g]? with|some og=>og.after.any (fun e=>Region.binds md e&&e.on==i)|none=>false
theorem Vr {i:Nat} (h:H5 md ops g i=true):∃og,ops[g]? =some og∧∃e∈og.after,Region.binds md e=true∧e.on=i:=by
 unfold H5 at h
 split at h
 ·
  rename_i og hog;obtain ⟨e,he,hb⟩:=Array.any_eq_true'.1 h;simp only [Ah2,beq_iff_eq] at hb;exact ⟨og,hog,e,he,hb.1,hb.2⟩
 · cases h
end
theorem Ew {P:Program} {Q:Exit→Act→World→Prop} {md:Region.Mode} {S:World→Prop} {g:Nat} {l:List Oper} {i:Nat} {d:Tmp} {op:Op} {ty:TypeId} {pos:String} {after:Array Edge} {gd:Option (Nat × Bool)} {v:Value} {fuel:Nat} {listed:Array Bool} {tl:List Value} {ds:List Deferred} {w:World} (hi:l[i]? =some ⟨some d,op,ty,pos,after,gd⟩)
  (hgate:(listed.getD g true==false&&g !=i&&H5 md l.toArray g i)=true)
  (hs:Region.noSelect l.toArray=true) (hf:Region.free md l.toArray listed i=true) (hr:(Region.ready md l.toArray listed).contains i=true)
  (hQ:∀c a w,Q (.panic c) (a.put (some d) v) w→Q (.panic c) a w) (hy:YieldsIf P l.toArray S ⟨some d,op,ty,pos,after,gd⟩ v ⟨tl.toArray,ds⟩) (hS:S w)
  (h:Cq P md l.toArray Q S g fuel (listed.setIfInBounds i true) ⟨(tl.set d v).toArray,ds⟩ w):Cq P md l.toArray Q S g (fuel+1) listed ⟨tl.toArray,ds⟩ w:=by
 simp only [Ah2,beq_iff_eq,bne_iff_ne] at hgate;obtain ⟨og,hog,hwait⟩:=Vr hgate.2;have hi':l.toArray[i]? =some ⟨some d,op,ty,pos,after,gd⟩:=by rw [Ah3];exact hi
 exact Vq hi' hog hgate.1.2 hwait (Region.noSelect_spec hs) hQ fuel listed _ w hgate.1.1 (Region.free_spec hi' hf) (by simpa using hr) hy hS (by rw [Ag];exact h)
theorem Bj {P:Program} {Q:Exit→Act→World→Prop} {l:List Oper} {md:Region.Mode} {S:World→Prop} {g fuel:Nat} {listed:Array Bool} {a:Act} {w:World} (i:Nat) {d:Option Tmp} {op:Op} {ty:TypeId} {pos:String} {after:Array Edge} (hr:Region.ready md l.toArray listed=[i]) (ho:l[i]? =some ⟨d,op,ty,pos,after,none⟩)
  (h:∀K':Act→World→Prop,Shut (∀a w,S w→(S w→Cq P md l.toArray Q S g fuel (listed.setIfInBounds i true) a w)→K' a w)→Oper.wp P ⟨d,op,ty,pos,after,none⟩ a w K' Q):
  Cq P md l.toArray Q S g (fuel+1) listed a w:=by
 refine ⟨fun h0=>(by rw [hr] at h0;cases h0),fun j hj=> ?_⟩;rw [hr] at hj;obtain rfl:=List.mem_singleton.1 hj;refine wpOp_step (o:=⟨d,op,ty,pos,after,none⟩) (by rw [Ah3];exact ho) (fun K' hK=> ?_);rw [if_pos (show Region.wanted _ _=true from rfl)];exact h K' (fun a w hS hW=>hK a w ⟨fun _=>hS,hW hS⟩)
theorem Cr {P:Program} {Q:Exit→Act→World→Prop} {l:List Oper} {md:Region.Mode} {S:World→Prop} {g fuel:Nat} {listed:Array Bool} {a:Act} {w:World} (hr:Region.ready md l.toArray listed=[g])
  (h:wpAnyH P md l.toArray Q (fun _=>True) (fuel+1) listed a w):Cq P md l.toArray Q S g (fuel+1) listed a w:=by
 refine ⟨h.1,fun j hj=>wpOp_mono (fun a' w' h'=> ?_) (h.2 j hj)⟩;rw [hr] at hj;obtain rfl:=List.mem_singleton.1 hj
 have hg':(listed.setIfInBounds j true).getD j true=true:=by
  by_cases hb:j<listed.size
  · simp [Ag7,hb]
  · simp [Ag7,hb]
 exact ⟨fun h0=>(by rw [hg'] at h0;cases h0),Vp _ _ _ _ hg' (wpAny_of_held _ _ _ _ h'.2)⟩
theorem Cw {P:Program} {Q:Exit→Act→World→Prop} {S:World→Prop} (g:Nat) {id:Nat} {l:List Oper} {a:Act} {w:World} (hm:P.follows .mixedOrders=true)
  (h:Cq P .any l.toArray Q S g l.toArray.size (Array.replicate l.toArray.size false) a w.drew):(Code.region id l.toArray true).wp P Q a w:=
 wp_region_any hm (Vo _ _ _ _ h)
theorem tkG (i:Nat) {P:Program} {Q:Exit→Act→World→Prop} {md:Region.Mode} {S:World→Prop} {gt:Nat} {l:List Oper} {d:Tmp} {op:Op} {ty:TypeId} {pos:String} {after:Array Edge} {g:Option (Nat × Bool)} {v:Value} {fuel:Nat} {listed:Array Bool} {tl:List Value} {ds:List Deferred} {w:World} (hS:S w) (hi:l[i]? =some ⟨some d,op,ty,pos,after,g⟩:=by rfl)
  (hgate:(listed.getD gt true==false&&gt !=i&&H5 md l.toArray gt i)=true:=by kernel_rfl)
  (hs:Region.noSelect l.toArray=true:=by kernel_rfl) (hf:Region.free md l.toArray listed i=true:=by kernel_rfl) (hr:(Region.ready md l.toArray listed).contains i=true:=by kernel_rfl)
  (hQ:∀c a w,Q (.panic c) (a.put (some d) v) w→Q (.panic c) a w:=by exact fun _ _ _ h=>h) (hy:YieldsIf P l.toArray S ⟨some d,op,ty,pos,after,g⟩ v ⟨tl.toArray,ds⟩:=by (refine Or.inl ⟨by kernel_rfl,?_⟩;intro w' hSw;(try dsimp only at hSw);(try simp only [List.set]);go_simp;(try with_reducible rfl)))
  (h:Cq P md l.toArray Q S gt fuel (listed.setIfInBounds i true) ⟨(tl.set d v).toArray,ds⟩ w):
  Cq P md l.toArray Q S gt (fuel+1) listed ⟨tl.toArray,ds⟩ w:=Ew hi hgate hs hf hr hQ hy hS h
theorem Own.setAt {w:World} {base n c size:Nat} {t:TypeId} {A:Option Addr} {xs:List Value} (h:Own w base t size A n c xs) {j:Nat} (hj:j<n*size) (u:Value):
  ∃g,A=some ⟨g,0,none⟩∧base≤g∧g<w.heap.size∧(∀v,xs[j]? =some v→w.cell? ⟨g,j,none⟩=some v)∧w.frozen? ⟨g,j,none⟩=false∧Own (w.setCell ⟨g,j,none⟩ u) base t size A n c (xs.set j u):=by
 rcases h.2 with ⟨_,h0⟩|⟨g,cap,cur,hv,hb,hg,h1,h2,h3,h4⟩
 ·
  subst h0;omega
 ·
  injection hv with hA hn hc
  have hblk:Blk w g t cur:=hg;have hset:=hblk.set j u;refine ⟨g,hA,hb,hblk.lt,?_,hblk.frozen j,?_⟩
  ·
   intro v hv';rw [hblk.cell j];rw [← h4,List.getElem?_take_of_lt hj] at hv';simpa using hv'
  ·
   refine ⟨by rw [List.length_set];exact h.1,.inr ⟨g,cap,cur.setIfInBounds j u,?_,hb,hset,h1,h2,by simpa using h3,?_⟩⟩
   · subst hA hc;rfl
   · rw [Array.toList_setIfInBounds,List.take_set,h4]
theorem Gn {α:Type} {f:α→List Value} {size:Nat} (hf:∀x,(f x).length=size) {j:Nat} (hj:j<size) (v:Value) (y:α):∀(l:List α) (k:Nat) (x:α),l[k]? =some x→(f x).set j v=f y→
  (l.flatMap f).set (k*size+j) v=(l.set k y).flatMap f:=by
 intro l
 induction l with
 |nil=>intro k x hx _;simp at hx
 |cons a r ih=>
  intro k x hx hy
  cases k with
  |zero=>
   simp only [List.getElem?_cons_zero,Option.some.injEq] at hx;subst hx;rw [Ag8,List.set_cons_zero,Ag8,Ag0,Af9,List.set_append_left _ _ (by rw [hf];exact hj),hy]
  |succ m=>
   rw [List.getElem?_cons_succ] at hx;rw [Ag8,List.set_cons_succ,Ag8,List.set_append_right _ _ (by rw [hf,Nat.add_mul];omega),hf,show (m+1)*size+j-size=m*size+j by rw [Nat.add_mul];omega,ih m x hx hy]
theorem On {α β:Type} (nd:α→β) (l:List α) (k:Nat) {y y':α} (h:l[k]? =some y) (e:nd y'=nd y):(l.set k y').map nd=l.map nd:=by
 rw [List.map_set,e];apply List.ext_getElem?;intro i;rw [List.getElem?_set]
 by_cases hi:k=i
 ·
  subst hi;rw [List.getElem?_map,h];have hk:k<(l.map nd).length:=by rw [Ag3];exact (List.getElem?_eq_some_iff.1 h).1
  simp [(List.getElem?_eq_some_iff.1 h).1]
 · rw [if_neg hi]
theorem Oo {α:Type} (l m:List α) (k:Nat) (y':α) (h:l.drop k=m.drop k):(l.set k y').drop (k+1)=m.drop (k+1):=by
 rw [Ah4 (by omega)];have h2:=congrArg (Ah0 1) h;rwa [Ag5,Ag5] at h2
theorem Ke {α:Type} (l:List α) (k:Nat) {y:α} (y':α) (h:l[k]? =some y):(l.set k y').take (k+1)=l.take k++[y']:=by
 have hk:=(List.getElem?_eq_some_iff.1 h).1;rw [Ah5 (by rw [List.length_set];exact hk),List.take_set_of_le (by omega)];simp
theorem Kf {α:Type} {l m:List α} {k:Nat} (h:l.drop k=m.drop k):l[k]? =m[k]? :=by
 have h2:=congrArg (fun t=>t[0]?) h;simpa [List.getElem?_drop] using h2
end
section
open Go.RowKit
attribute [local go_sem ↓] Go.wp_at_zero Go.wp_at_succ
namespace Oq
attribute [local go_sem ↓] Ce
theorem H6 {α:Type} (f:α→Value) (hf:∀a,(f a).oneCell'=true) (l:List α):∀v∈l.map f,v.oneCell'=true:=by
 intro v hv;obtain ⟨y,_,rfl⟩:=List.mem_map.1 hv;exact hf y
theorem H7 {α:Type} (f:α→List Value) (hf:∀a,∀v∈f a,v.oneCell'=true) (l:List α):∀v∈l.flatMap f,v.oneCell'=true:=by
 intro v hv;obtain ⟨y,_,hy⟩:=List.mem_flatMap.1 hv;exact hf y v hy
theorem Ot (l:List Bx):∀v∈l.flatMap Bx.cells,v.oneCell'=true:=H7 _ (fun a v hv=>by simp [Bx.cells] at hv;rcases hv with rfl|rfl|rfl|rfl<;>rfl) l
theorem Vs (l:List NdL):∀v∈l.flatMap NdL.cells,v.oneCell'=true:=H7 _ (fun a v hv=>by simp [NdL.cells] at hv;rcases hv with rfl|rfl<;>rfl) l
theorem Vt (l:List SlL):∀v∈l.flatMap SlL.cells,v.oneCell'=true:=H7 _ (fun a v hv=>by simp [SlL.cells] at hv;rcases hv with rfl|rfl|rfl|rfl<;>rfl) l
def Kg (o:Op) (w:World) (r:Ending) (w':World):Prop:=
 ∃y:OpL,r=.returned (.agg y.cells)∧y.op=o∧y.own w' w.heap.size∧Fr Non w w'
theorem Vu (x:OpL) (w:World) (hat:x.at w w.heap.size) (hok:x.op.ok):Calls Tryz.prog 47 #[.agg x.cells] w (Kg x.op w):=by
 have hi:(Tryz.prog.info? 67).map (·.size)=some 27:=by kernel_rfl
 have ag:Blk ((w.alloc (.cells x.cells 67)).alloc (.cells zO 67)) w.heap.size 67 x.cells:=(Blk.new w 67 x.cells).alloc _
 have cf:Blk ((w.alloc (.cells x.cells 67)).alloc (.cells zO 67)) (w.heap.size+1) 67 zO:=by
  have:=Blk.new (w.alloc (.cells x.cells 67)) 67 zO;rwa [Af8] at this
 have dl:((w.alloc (.cells x.cells 67)).alloc (.cells zO 67)).heap.size=w.heap.size+2:=by rw [Af8,Af8]
 have bm:Fr Non w ((w.alloc (.cells x.cells 67)).alloc (.cells zO 67)):=((Fr.refl Non w).alloc _).alloc _;have bx:=OpL.frame hat bm;have cb:x.guards.length≤1000000:=by have h:=hok.guards.1;rw [show x.op.guards=x.guards from rfl] at h;omega
 have dz:x.refs.length≤1000000:=by have h:=hok.refs.1;rw [show x.op.refs=x.refs from rfl] at h;omega
 have cq:x.boxes.length≤1000000:=by have h:=hok.boxes.1;rw [show x.op.boxes=x.boxes from rfl] at h;omega
 have dm:x.past.length≤1000000:=by have h:=hok.past.1;rw [show x.op.past=x.past from rfl] at h;omega
 have bz:x.path.length≤1000000:=by have h:=hok.path.1;rw [show x.op.path=x.path.map NdL.nd from rfl,Ag3] at h;omega
 have bp:x.hist.length≤1000000:=by have h:=hok.hist.1;rw [show x.op.hist=x.hist.map SlL.sl from rfl,Ag3] at h;omega
 have ds:x.body.length≤1000000:=by have h:=hok.body;rw [show x.op.body=x.body from rfl] at h;omega
 have a7:Hid (∀y∈x.path,y.xs.length≤1000000):=fun y hy=>by have h:=(hok.path.2 y.nd (List.mem_map.2 ⟨y,hy,rfl⟩)).2.1;rw [show y.nd.xs=y.xs from rfl] at h;omega
 have a3:Hid (∀y∈x.hist,y.y.length≤1000000):=fun y hy=>by have h:=(hok.hist.2 y.sl (List.mem_map.2 ⟨y,hy,rfl⟩)).2;rw [show y.sl.y=y.y from rfl] at h;omega
 have a0:Hid (∀(y:OpL) (w':World),y.op=x.op→y.own w' w.heap.size→Fr Non w w'→Kg x.op w (.returned (.agg y.cells)) w'):=fun y w' h1 h2 h3=>⟨y,rfl,h1,h2,h3⟩;generalize Kg x.op w=POST at*;go_enter Tryz.func47,Tryz.ntmps47;go_upto_region 1 with (fail)
 generalize ((w.alloc (.cells x.cells 67)).alloc (.cells zO 67))=w0 at*;obtain ⟨CS,az⟩:=Aa x.cells;rw [az.out] at ag;have e4:Hid (CS[4]? =some (.slice x.pastA x.past.length x.pastC)):=by show _=_;rw [← az.out];rfl
 have ci:Hid (CS[14]? =some (.slice x.bodyA x.body.length x.bodyC)):=by show _=_;rw [← az.out];rfl
 have da:Hid (CS[15]? =some (.slice x.refsA x.refs.length x.refsC)):=by show _=_;rw [← az.out];rfl
 have cz:Hid (CS[19]? =some (.slice x.guardsA x.guards.length x.guardsC)):=by show _=_;rw [← az.out];rfl
 have cl:Hid (CS[22]? =some (.slice x.boxesA x.boxes.length x.boxesC)):=by show _=_;rw [← az.out];rfl
 refine Cw (S:=(fun w'=>Blk w' w.heap.size 67 CS)) 16 (by kernel_rfl) ?_;replace ag:Blk w0.drew w.heap.size 67 CS:=ag.drew;replace cf:=cf.drew;replace bm:=bm.drew;replace bx:=OpL.frame bx ((Fr.refl Non w0).drew);refine tkG 0 ag (h:=?_);simp only [List.set];refine Ew (i:=1) (v:=?_) rfl (by kernel_rfl) (by kernel_rfl) (by kernel_rfl) (by kernel_rfl) (fun _ _ _ h=>h) (Or.inl ⟨by kernel_rfl,?_⟩) ag ?_;rotate_left
 focus (intro w' ac;have hB:=ac;have q:w'.cell? ⟨w.heap.size,4,none⟩=some _:=(hB.cell 4).trans e4.out;(try dsimp only at ac);go_simp;(try with_reducible rfl))
 simp only [List.set];refine tkG 3 ag (h:=?_);simp only [List.set];refine Ew (i:=4) (v:=?_) rfl (by kernel_rfl) (by kernel_rfl) (by kernel_rfl) (by kernel_rfl) (fun _ _ _ h=>h) (Or.inl ⟨by kernel_rfl,?_⟩) ag ?_;rotate_left
 focus (intro w' ac;have hB:=ac;have q:w'.cell? ⟨w.heap.size,14,none⟩=some _:=(hB.cell 14).trans ci.out;(try dsimp only at ac);go_simp;(try with_reducible rfl))
 simp only [List.set];refine tkG 6 ag (h:=?_);simp only [List.set];refine Ew (i:=7) (v:=?_) rfl (by kernel_rfl) (by kernel_rfl) (by kernel_rfl) (by kernel_rfl) (fun _ _ _ h=>h) (Or.inl ⟨by kernel_rfl,?_⟩) ag ?_;rotate_left
 focus (intro w' ac;have hB:=ac;have q:w'.cell? ⟨w.heap.size,15,none⟩=some _:=(hB.cell 15).trans da.out;(try dsimp only at ac);go_simp;(try with_reducible rfl))
 simp only [List.set];refine tkG 9 ag (h:=?_);simp only [List.set];refine Ew (i:=10) (v:=?_) rfl (by kernel_rfl) (by kernel_rfl) (by kernel_rfl) (by kernel_rfl) (fun _ _ _ h=>h) (Or.inl ⟨by kernel_rfl,?_⟩) ag ?_;rotate_left
 focus (intro w' ac;have hB:=ac;have q:w'.cell? ⟨w.heap.size,19,none⟩=some _:=(hB.cell 19).trans cz.out;(try dsimp only at ac);go_simp;(try with_reducible rfl))
 simp only [List.set];refine tkG 12 ag (h:=?_);simp only [List.set];refine Ew (i:=13) (v:=?_) rfl (by kernel_rfl) (by kernel_rfl) (by kernel_rfl) (by kernel_rfl) (fun _ _ _ h=>h) (Or.inl ⟨by kernel_rfl,?_⟩) ag ?_;rotate_left
 focus (intro w' ac;have hB:=ac;have q:w'.cell? ⟨w.heap.size,22,none⟩=some _:=(hB.cell 22).trans cl.out;(try dsimp only at ac);go_simp;(try with_reducible rfl))
 simp only [List.set];refine Bj 2 (by kernel_rfl) rfl (fun K hK=> ?_);go_simp;go_wp2_with (go_at_call 74;(with_reducible refine (Oj _ _ _ _ _ _ bx.past.rd (Id.cells_one _) (by omega)).mono ?_);rintro _ w1 ⟨A1,c1,rfl,o1,f1⟩;have b9:=ag.fr f1 zq;have dy:=cf.fr f1 zq;have cy:=OpL.frame bx f1;have dk:=bm.trans f1 zr;have eo:=f1.size);refine hK.out _ _ b9 (fun hZ=> ?_);clear hZ hK K;try simp only [put_lit2,List.set]
 refine tkG 15 b9 (h:=?_);simp only [List.set];refine Bj 5 (by kernel_rfl) rfl (fun K hK=> ?_);go_simp;go_wp2_with (go_at_call 75;(with_reducible refine (Ol _ _ _ _ _ _ cy.body.rd (H6 Bv (fun _=>rfl) _) (by omega)).mono ?_);rintro _ w2 ⟨A2,c2,rfl,o2,f2⟩;have dd:=b9.fr f2 zq;have dg:=dy.fr f2 zq;have de:=OpL.frame cy f2;have bh:=dk.trans f2 zr;have ed:=f2.size);refine hK.out _ _ dd (fun hZ=> ?_);clear hZ hK K;try simp only [put_lit2,List.set]
 refine Bj 8 (by kernel_rfl) rfl (fun K hK=> ?_);go_simp;go_wp2_with (go_at_call 76;(with_reducible refine (Vj _ _ _ _ _ _ de.refs.rd (H6 Uv (fun _=>rfl) _) (by omega)).mono ?_);rintro _ w3 ⟨A3,c3,rfl,o3,f3⟩;have c6:=dd.fr f3 zq;have dj:=dg.fr f3 zq;have ch:=OpL.frame de f3;have dn:=bh.trans f3 zr;have d2:=f3.size);refine hK.out _ _ c6 (fun hZ=> ?_);clear hZ hK K;try simp only [put_lit2,List.set]
 refine Bj 11 (by kernel_rfl) rfl (fun K hK=> ?_);go_simp;go_wp2_with (go_at_call 77;(with_reducible refine (Vk _ _ _ _ _ _ ch.guards.rd (H6 Iv (fun _=>rfl) _) (by omega)).mono ?_);rintro _ w4 ⟨A4,c4,rfl,o4,f4⟩;have c0:=c6.fr f4 zq;have dt:=dj.fr f4 zq;have cm:=OpL.frame ch f4;have dw:=dn.trans f4 zr;have ec:=f4.size);refine hK.out _ _ c0 (fun hZ=> ?_);clear hZ hK K;try simp only [put_lit2,List.set]
 refine Bj 14 (by kernel_rfl) rfl (fun K hK=> ?_);go_simp;go_wp2_with (go_at_call 78;(with_reducible refine (Om _ _ _ _ _ _ cm.boxes.rd (Ot _) (by omega)).mono ?_);rintro _ w5 ⟨A5,c5,rfl,o5,f5⟩;have aj:=c0.fr f5 zq;have dv:=dt.fr f5 zq;have es:=OpL.frame cm f5;have cr:=dw.trans f5 zr;have d8:=f5.size);refine hK.out _ _ aj (fun hZ=> ?_);clear hZ hK K;try simp only [put_lit2,List.set]
 refine Cr (by kernel_rfl) ?_;have k4:w5.cell? ⟨w.heap.size,4,none⟩=some (.slice x.pastA x.past.length x.pastC):=(aj.cell 4).trans e4.out;have z4:=aj.frozen 4;have eh:w5.cell? ⟨w.heap.size,14,none⟩=some (.slice x.bodyA x.body.length x.bodyC):=(aj.cell 14).trans ci.out;have d7:=aj.frozen 14;have d3:w5.cell? ⟨w.heap.size,15,none⟩=some (.slice x.refsA x.refs.length x.refsC):=(aj.cell 15).trans da.out;have d9:=aj.frozen 15;have el:w5.cell? ⟨w.heap.size,19,none⟩=some (.slice x.guardsA x.guards.length x.guardsC):=(aj.cell 19).trans cz.out;have er:=aj.frozen 19;have em:w5.cell? ⟨w.heap.size,22,none⟩=some (.slice x.boxesA x.boxes.length x.boxesC):=(aj.cell 22).trans cl.out;have d5:=aj.frozen 22;refine oG 16 (fun K hK=> ?_);go_simp;refine hK.out _ _ trivial (fun hZ=> ?_);clear hZ hK K;try simp only [put_lit2,List.set]
 refine oG 17 (fun K hK=> ?_);go_simp;refine hK.out _ _ trivial (fun hZ=> ?_);clear hZ hK K;try simp only [put_lit2,List.set]
 refine oG 18 (fun K hK=> ?_);go_simp;refine hK.out _ _ trivial (fun hZ=> ?_);clear hZ hK K;try simp only [put_lit2,List.set]
 refine oG 19 (fun K hK=> ?_);go_simp;refine hK.out _ _ trivial (fun hZ=> ?_);clear hZ hK K;try simp only [put_lit2,List.set]
 refine oG 20 (fun K hK=> ?_);go_simp;refine hK.out _ _ trivial (fun hZ=> ?_);clear hZ hK K;try simp only [put_lit2,List.set]
 refine oG 21 (fun K hK=> ?_);go_simp;refine hK.out _ _ trivial (fun hZ=> ?_);clear hZ hK K;try simp only [put_lit2,List.set]
 refine oG 22 (fun K hK=> ?_);go_simp;refine hK.out _ _ trivial (fun hZ=> ?_);clear hZ hK K;try simp only [put_lit2,List.set]
 refine oG 23 (fun K hK=> ?_);go_simp;refine hK.out _ _ trivial (fun hZ=> ?_);clear hZ hK K;try simp only [put_lit2,List.set]
 refine oG 24 (fun K hK=> ?_);go_simp;refine hK.out _ _ trivial (fun hZ=> ?_);clear hZ hK K;try simp only [put_lit2,List.set]
 refine oD ?_;go_simp;obtain ⟨bt,al⟩:=Aa ({x with pastA:=A1,pastC:=c1,bodyA:=A2,bodyC:=c2,refsA:=A3,refsC:=c3,guardsA:=A4,guardsC:=c4,boxesA:=A5,boxesC:=c5}:OpL).cells
 have a2:Blk (((((w5.setCell ⟨w.heap.size,4,none⟩ (.slice A1 x.past.length c1)).setCell ⟨w.heap.size,14,none⟩ (.slice A2 x.body.length c2)).setCell ⟨w.heap.size,15,none⟩ (.slice A3 x.refs.length c3)).setCell ⟨w.heap.size,19,none⟩ (.slice A4 x.guards.length c4)).setCell ⟨w.heap.size,22,none⟩ (.slice A5 x.boxes.length c5)) w.heap.size 67 bt:=by
  rw [← al.out];rw [← az.out] at aj;exact ((((aj.set 4 _).set 14 _).set 15 _).set 19 _).set 22 _
 have au:Fr (One w.heap.size) w5 (((((w5.setCell ⟨w.heap.size,4,none⟩ (.slice A1 x.past.length c1)).setCell ⟨w.heap.size,14,none⟩ (.slice A2 x.body.length c2)).setCell ⟨w.heap.size,15,none⟩ (.slice A3 x.refs.length c3)).setCell ⟨w.heap.size,19,none⟩ (.slice A4 x.guards.length c4)).setCell ⟨w.heap.size,22,none⟩ (.slice A5 x.boxes.length c5)):=(((((Fr.refl (One w.heap.size) w5).setCell (p:=⟨w.heap.size,4,none⟩) (fun _=>rfl) _).setCell (p:=⟨w.heap.size,14,none⟩) (fun _=>rfl) _).setCell (p:=⟨w.heap.size,15,none⟩) (fun _=>rfl) _).setCell (p:=⟨w.heap.size,19,none⟩) (fun _=>rfl) _).setCell (p:=⟨w.heap.size,22,none⟩) (fun _=>rfl) _;have sd:w0.drew.heap.size=w.heap.size+2:=dl;have ep:w.heap.size+2≤(((((w5.setCell ⟨w.heap.size,4,none⟩ (.slice A1 x.past.length c1)).setCell ⟨w.heap.size,14,none⟩ (.slice A2 x.body.length c2)).setCell ⟨w.heap.size,15,none⟩ (.slice A3 x.refs.length c3)).setCell ⟨w.heap.size,19,none⟩ (.slice A4 x.guards.length c4)).setCell ⟨w.heap.size,22,none⟩ (.slice A5 x.boxes.length c5)).heap.size:=by have h1:=au.size;omega
 have cd:=dv.fr au (fun e=>by have e':w.heap.size+1=w.heap.size:=e;omega);have ap:x.at (((((w5.setCell ⟨w.heap.size,4,none⟩ (.slice A1 x.past.length c1)).setCell ⟨w.heap.size,14,none⟩ (.slice A2 x.body.length c2)).setCell ⟨w.heap.size,15,none⟩ (.slice A3 x.refs.length c3)).setCell ⟨w.heap.size,19,none⟩ (.slice A4 x.guards.length c4)).setCell ⟨w.heap.size,22,none⟩ (.slice A5 x.boxes.length c5)) w.heap.size:=(hat.fr cr zr).fr au (fun j hj e=>by have e':j=w.heap.size:=e;omega);have b0:Fr Non w (((((w5.setCell ⟨w.heap.size,4,none⟩ (.slice A1 x.past.length c1)).setCell ⟨w.heap.size,14,none⟩ (.slice A2 x.body.length c2)).setCell ⟨w.heap.size,15,none⟩ (.slice A3 x.refs.length c3)).setCell ⟨w.heap.size,19,none⟩ (.slice A4 x.guards.length c4)).setCell ⟨w.heap.size,22,none⟩ (.slice A5 x.boxes.length c5)):=cr.trans au (fun j hj e=>by have e':j=w.heap.size:=e;omega);have p1:=((o1.fr (((f2.trans f3 zr).trans f4 zr).trans f5 zr) zr).lower (base':=w.heap.size+2) (by omega)).fr au (fun j hj e=>by have h1:=(o1.row j hj).1;have e':j=w.heap.size:=e;omega);have p2:=((o2.fr ((f3.trans f4 zr).trans f5 zr) zr).lower (base':=w.heap.size+2) (by omega)).fr au (fun j hj e=>by have h1:=(o2.row j hj).1;have e':j=w.heap.size:=e;omega);have p3:=((o3.fr (f4.trans f5 zr) zr).lower (base':=w.heap.size+2) (by omega)).fr au (fun j hj e=>by have h1:=(o3.row j hj).1;have e':j=w.heap.size:=e;omega);have p4:=((o4.fr (f5) zr).lower (base':=w.heap.size+2) (by omega)).fr au (fun j hj e=>by have h1:=(o4.row j hj).1;have e':j=w.heap.size:=e;omega);have p5:=(o5.lower (base':=w.heap.size+2) (by omega)).fr au (fun j hj e=>by have h1:=(o5.row j hj).1;have e':j=w.heap.size:=e;omega);clear az ag b9 dd c6 c0 aj cf dy dg dj dt dv bm dk bh dn dw cr bx cy de ch cm es f1 f2 f3 f4 f5 au o1 o2 o3 o4 o5 e4 ci da cz cl k4 eh d3 el em z4 d7 d9 er d5 eo ed d2 ec d8 sd dl;generalize (((((w5.setCell ⟨w.heap.size,4,none⟩ (.slice A1 x.past.length c1)).setCell ⟨w.heap.size,14,none⟩ (.slice A2 x.body.length c2)).setCell ⟨w.heap.size,15,none⟩ (.slice A3 x.refs.length c3)).setCell ⟨w.heap.size,19,none⟩ (.slice A4 x.guards.length c4)).setCell ⟨w.heap.size,22,none⟩ (.slice A5 x.boxes.length c5))=w6 at*;clear w5 w4 w3 w2 w1 w0;have e9:Hid (bt[9]? =some (.slice x.pathA x.path.length x.pathC)):=by show _=_;rw [← al.out];rfl
 have bi:Hid (bt[24]? =some (.slice x.histA x.hist.length x.histC)):=by show _=_;rw [← al.out];rfl
 go_wp2_with (fail);refine Cw (S:=(fun w'=>Blk w' w.heap.size 67 bt)) 7 (by kernel_rfl) ?_;replace a2:Blk w6.drew w.heap.size 67 bt:=a2.drew;replace cd:=cd.drew;replace b0:=b0.drew;replace ap:=ap.fr ((Fr.refl Non w6).drew) zr;have et:w.heap.size≤w6.drew.heap.size:=b0.size;have eg:w.heap.size+2≤w6.drew.heap.size:=by have h1:=ep;exact h1
 replace p1:=p1.drew;replace p2:=p2.drew;replace p3:=p3.drew;replace p4:=p4.drew;replace p5:=p5.drew;refine tkG 0 a2 (h:=?_);simp only [List.set];refine Ew (i:=1) (v:=?_) rfl (by kernel_rfl) (by kernel_rfl) (by kernel_rfl) (by kernel_rfl) (fun _ _ _ h=>h) (Or.inl ⟨by kernel_rfl,?_⟩) a2 ?_;rotate_left
 focus (intro w' ac;have hB:=ac;have q:w'.cell? ⟨w.heap.size,9,none⟩=some _:=(hB.cell 9).trans e9.out;(try dsimp only at ac);go_simp;(try with_reducible rfl))
 simp only [List.set];refine tkG 3 a2 (h:=?_);simp only [List.set];refine Ew (i:=4) (v:=?_) rfl (by kernel_rfl) (by kernel_rfl) (by kernel_rfl) (by kernel_rfl) (fun _ _ _ h=>h) (Or.inl ⟨by kernel_rfl,?_⟩) a2 ?_;rotate_left
 focus (intro w' ac;have hB:=ac;have q:w'.cell? ⟨w.heap.size,24,none⟩=some _:=(hB.cell 24).trans bi.out;(try dsimp only at ac);go_simp;(try with_reducible rfl))
 simp only [List.set];refine Bj 2 (by kernel_rfl) rfl (fun K hK=> ?_);go_simp;go_wp2_with (go_at_call 79;(with_reducible refine (Vl _ _ _ _ _ _ ap.path.rd (Vs _) (by omega)).mono ?_);rintro _ w7 ⟨A7,c7,rfl,o7,f7⟩;have cc:=a2.fr f7 zq;have di:=cd.fr f7 zq;have a8:=ap.fr f7 zr;have dr:=b0.trans f7 zr;have ev:=f7.size);refine hK.out _ _ cc (fun hZ=> ?_);clear hZ hK K;try simp only [put_lit2,List.set]
 refine tkG 6 cc (h:=?_);simp only [List.set];refine Bj 5 (by kernel_rfl) rfl (fun K hK=> ?_);go_simp;go_wp2_with (go_at_call 80;(with_reducible refine (Vm _ _ _ _ _ _ a8.hist.rd (Vt _) (by omega)).mono ?_);rintro _ w8 ⟨A8,c8,rfl,o8,f8⟩;have a1:=cc.fr f8 zq;have du:=di.fr f8 zq;have bw:=a8.fr f8 zr;have dq:=dr.trans f8 zr;have ew:=f8.size);refine hK.out _ _ a1 (fun hZ=> ?_);clear hZ hK K;try simp only [put_lit2,List.set]
 refine Cr (by kernel_rfl) ?_;have k9:w8.cell? ⟨w.heap.size,9,none⟩=some (.slice x.pathA x.path.length x.pathC):=(a1.cell 9).trans e9.out;have z9:=a1.frozen 9;have cj:w8.cell? ⟨w.heap.size,24,none⟩=some (.slice x.histA x.hist.length x.histC):=(a1.cell 24).trans bi.out;have ef:=a1.frozen 24;refine oG 7 (fun K hK=> ?_);go_simp;refine hK.out _ _ trivial (fun hZ=> ?_);clear hZ hK K;try simp only [put_lit2,List.set]
 refine oG 8 (fun K hK=> ?_);go_simp;refine hK.out _ _ trivial (fun hZ=> ?_);clear hZ hK K;try simp only [put_lit2,List.set]
 refine oG 9 (fun K hK=> ?_);go_simp;refine hK.out _ _ trivial (fun hZ=> ?_);clear hZ hK K;try simp only [put_lit2,List.set]
 refine oD ?_;go_simp;obtain ⟨b6,av⟩:=Aa ({x with pastA:=A1,pastC:=c1,bodyA:=A2,bodyC:=c2,refsA:=A3,refsC:=c3,guardsA:=A4,guardsC:=c4,boxesA:=A5,boxesC:=c5,pathA:=A7,pathC:=c7,histA:=A8,histC:=c8}:OpL).cells
 have cn:Blk ((w8.setCell ⟨w.heap.size,9,none⟩ (.slice A7 x.path.length c7)).setCell ⟨w.heap.size,24,none⟩ (.slice A8 x.hist.length c8)) w.heap.size 67 b6:=by
  rw [← av.out];rw [← al.out] at a1;exact (a1.set 9 _).set 24 _
 have ak:Fr (One w.heap.size) w8 ((w8.setCell ⟨w.heap.size,9,none⟩ (.slice A7 x.path.length c7)).setCell ⟨w.heap.size,24,none⟩ (.slice A8 x.hist.length c8)):=((Fr.refl (One w.heap.size) w8).setCell (p:=⟨w.heap.size,9,none⟩) (fun _=>rfl) _).setCell (p:=⟨w.heap.size,24,none⟩) (fun _=>rfl) _;have dx:=du.fr ak (fun e=>by have e':w.heap.size+1=w.heap.size:=e;omega);have a5:x.at ((w8.setCell ⟨w.heap.size,9,none⟩ (.slice A7 x.path.length c7)).setCell ⟨w.heap.size,24,none⟩ (.slice A8 x.hist.length c8)) w.heap.size:=bw.fr ak (fun j hj e=>by have e':j=w.heap.size:=e;omega);have dp:Fr Non w ((w8.setCell ⟨w.heap.size,9,none⟩ (.slice A7 x.path.length c7)).setCell ⟨w.heap.size,24,none⟩ (.slice A8 x.hist.length c8)):=dq.trans ak (fun j hj e=>by have e':j=w.heap.size:=e;omega);have bf:=f7.trans f8 zr;have eu:w8.heap.size≤((w8.setCell ⟨w.heap.size,9,none⟩ (.slice A7 x.path.length c7)).setCell ⟨w.heap.size,24,none⟩ (.slice A8 x.hist.length c8)).heap.size:=ak.size;have N6:w.heap.size+2≤w6.drew.heap.size:=eg;have b1:∀k,Ab A1=some k→w.heap.size+2≤k∧k<w6.drew.heap.size:=p1.row;have q1:=(p1.fr bf zr).fr ak (fun j hj e=>by have h1:=(b1 j hj).1;have e':j=w.heap.size:=e;omega);have b2:∀k,Ab A2=some k→w.heap.size+2≤k∧k<w6.drew.heap.size:=p2.row;have q2:=(p2.fr bf zr).fr ak (fun j hj e=>by have h1:=(b2 j hj).1;have e':j=w.heap.size:=e;omega);have b3:∀k,Ab A3=some k→w.heap.size+2≤k∧k<w6.drew.heap.size:=p3.row;have q3:=(p3.fr bf zr).fr ak (fun j hj e=>by have h1:=(b3 j hj).1;have e':j=w.heap.size:=e;omega);have b4:∀k,Ab A4=some k→w.heap.size+2≤k∧k<w6.drew.heap.size:=p4.row;have q4:=(p4.fr bf zr).fr ak (fun j hj e=>by have h1:=(b4 j hj).1;have e':j=w.heap.size:=e;omega);have b5:∀k,Ab A5=some k→w.heap.size+2≤k∧k<w6.drew.heap.size:=p5.row;have q5:=(p5.fr bf zr).fr ak (fun j hj e=>by have h1:=(b5 j hj).1;have e':j=w.heap.size:=e;omega);have b7:=o7.row;have b8:=o8.row;have q7:=((o7.lower (base':=w.heap.size+2) N6).fr f8 zr).fr ak (fun j hj e=>by have h1:=(b7 j hj).1;have e':j=w.heap.size:=e;omega);have q8:=(o8.lower (base':=w.heap.size+2) (by omega)).fr ak (fun j hj e=>by have h1:=(b8 j hj).1;have e':j=w.heap.size:=e;omega);clear a2 cc a1 cd di du b0 dr dq ap a8 bw f7 f8 bf ak o7 o8 p1 p2 p3 p4 p5 e9 bi k9 cj z9 ef al;generalize ((w8.setCell ⟨w.heap.size,9,none⟩ (.slice A7 x.path.length c7)).setCell ⟨w.heap.size,24,none⟩ (.slice A8 x.hist.length c8))=w9 at*;have e9:Hid (b6[9]? =some (.slice A7 x.path.length c7)):=by show _=_;rw [← av.out];rfl
 have bi:Hid (b6[24]? =some (.slice A8 x.hist.length c8)):=by show _=_;rw [← av.out];rfl
 have k9:w9.cell? ⟨w.heap.size,9,none⟩=some (.slice A7 x.path.length c7):=(cn.cell 9).trans e9.out;obtain ⟨np,ca⟩:=Aa x.path.length;obtain ⟨nh,ce⟩:=Aa x.hist.length;rw [ca.out] at k9 e9 bz q7;rw [ce.out] at bi bp q8;go_wp2_with (fail)
 go_loopw [36] (fun v wr=>∃(k:Nat) (L:List NdL),v=.int .i64 (k:Int)∧k≤np∧Hid (L.map NdL.nd=x.path.map NdL.nd)∧Hid (L.drop k=x.path.drop k)∧Own wr (w.heap.size+2) 137 2 A7 np c7 (L.flatMap NdL.cells)∧Hid (∀y∈L.take k,Own wr w9.heap.size 134 4 y.A y.xs.length y.c (y.xs.flatMap Bx.cells))∧Fr (fun b=>Ab A7=some b) w9 wr) (fun v _=>np-(intOf v).toNat)
 case atStart=>exact ⟨0,x.path,rfl,by omega,rfl,rfl,q7,(fun _ h=>by simp at h),Fr.refl _ _⟩
 case round=>
  obtain ⟨k,L,rfl,hk,ad,ab,ae,aa,hf⟩:=hrel
  by_cases hlt:k<np
  ·
   have i1:(0:Int)≤k:=by omega
   have i2:(k:Int)<np:=by omega
   have i3:(k:Int).toNat=k:=by omega
   obtain ⟨y,hy⟩:∃y,x.path[k]? =some y:=⟨_,Ag6 (by rw [ca.out];exact hlt)⟩;have ax:L[k]? =some y:=(Kf ab.out).trans hy;have aq:=Ah1 hy;have ct:=a7.out y aq;obtain ⟨g,hA,co,ea,af,bg,_⟩:=Own.setAt ae (j:=k*2+1) (by omega) (.int .i64 0);have bb:=(a5.nodes y aq).fr hf (fun j hj e=>by have h1:=(b7 j e).1;omega);have d0:wr.cell? ⟨g,k*2+1,none⟩=some (.slice y.A y.xs.length y.c):=af _ (by rw [E5 (f:=NdL.cells) (fun _=>rfl) L k 1 y ax (by omega)];rfl);have kk:wr.cell? ⟨w.heap.size,9,none⟩=some (.slice A7 np c7):=hf.cell k9 (fun e=>by have h1:w6.drew.heap.size≤w.heap.size:=(b7 _ e).1;omega);have en:w.heap.size+2≤g:=co;rw [hA] at kk
   have ai:∀(wv:World) (u:Value),Fr Non wr wv→wv.cell? ⟨g,k*2+1,none⟩=some (.slice y.A y.xs.length y.c)∧wv.frozen? ⟨g,k*2+1,none⟩=false∧Own (wv.setCell ⟨g,k*2+1,none⟩ u) (w.heap.size+2) 137 2 A7 np c7 ((L.flatMap NdL.cells).set (k*2+1) u):=by
    intro wv u bs;obtain ⟨g2,bo,_,_,ek,bj,df⟩:=Own.setAt (ae.fr bs zr) (j:=k*2+1) (by omega) u;rw [hA] at bo;have ck:g=g2:=by injection bo with e;injection e
    subst ck;exact ⟨bs.cell d0 zq,bj,df⟩
   replace ai:=Lib.hid ai;replace hA:=Lib.hid hA;clear af bg;go_upto_region 6 with (fail)
   refine Cw (S:=(fun w'=>w'.cell? ⟨w.heap.size,9,none⟩=some (.slice (some ⟨g,0,none⟩) np c7)∧w'.cell? ⟨g,k*2+1,none⟩=some (.slice y.A y.xs.length y.c))) 10 (by kernel_rfl) ?_;have hS:(fun w'=>w'.cell? ⟨w.heap.size,9,none⟩=some (.slice (some ⟨g,0,none⟩) np c7)∧w'.cell? ⟨g,k*2+1,none⟩=some (.slice y.A y.xs.length y.c)) wr.drew:=⟨kk,d0⟩;have fd:Fr Non wr wr.drew:=(Fr.refl Non wr).drew;have cw:Rd wr.drew w.heap.size 4 y.A y.xs.length (y.xs.flatMap Bx.cells):=And.left (bb.fr fd zr);refine tkG 0 hS (h:=tkG 1 hS (h:=tkG 2 hS (h:=tkG 3 hS (h:=tkG 4 hS (h:=tkG 5 hS (h:=tkG 6 hS (h:=tkG 7 hS (h:=tkG 8 hS (h:=?_)))))))));simp only [List.set];refine Bj 9 (by kernel_rfl) rfl (fun K hK=> ?_);go_simp;go_wp2_with (go_at_call 78;go_loud (with_reducible refine (Om _ _ _ _ _ _ cw (Ot _) ct).mono ?_);rintro _ wv ⟨A',c',rfl,ov,fv⟩);have aw:=fd.trans fv zr;obtain ⟨d1,z1,c9⟩:=ai.out wv (.slice A' y.xs.length c') aw;refine hK.out _ _ ⟨aw.cell kk zq,d1⟩ (fun hZ=> ?_);clear hZ hK K;try simp only [put_lit2,List.set]
   refine Cr (by kernel_rfl) ?_;refine oG 10 (fun K hK=> ?_);go_simp;refine hK.out _ _ trivial (fun hZ=> ?_);clear hZ hK K;try simp only [put_lit2,List.set]
   refine oG 11 (fun K hK=> ?_);go_simp;refine hK.out _ _ trivial (fun hZ=> ?_);clear hZ hK K;try simp only [put_lit2,List.set]
   refine oG 12 (fun K hK=> ?_);go_simp;refine hK.out _ _ trivial (fun hZ=> ?_);clear hZ hK K;try simp only [put_lit2,List.set]
   refine oD ?_;go_simp;have ex:∃y':NdL,y'={y with A:=A',c:=c'}:=⟨_,rfl⟩;obtain ⟨y',bc⟩:=ex
   have a6:Own (wv.setCell ⟨g,k*2+1,none⟩ (.slice A' y.xs.length c')) (w.heap.size+2) 137 2 A7 np c7 ((L.set k y').flatMap NdL.cells):=by
    rw [← Gn (f:=NdL.cells) (size:=2) (fun _=>rfl) (j:=1) (by omega) (.slice A' y.xs.length c') y' L k y ax (by rw [bc];rfl)];exact c9
   have fs:Fr (One g) wv (wv.setCell ⟨g,k*2+1,none⟩ (.slice A' y.xs.length c')):=(Fr.refl (One g) wv).setCell (p:=⟨g,k*2+1,none⟩) (fun _=>rfl) _;have bn:Ab A7=some g:=by rw [hA.out];rfl
   have cg:=hf.size
   have ao:Hid (∀z∈(L.set k y').take (k+1),Own (wv.setCell ⟨g,k*2+1,none⟩ (.slice A' y.xs.length c')) w9.heap.size 134 4 z.A z.xs.length z.c (z.xs.flatMap Bx.cells)):=by
    intro z hz;rw [Ke L k y' ax] at hz;have ej:g<w9.heap.size:=by have h1:=(b7 g bn).2;omega
    rcases List.mem_append.1 hz with hz|hz
    · exact ((aa.out z hz).fr aw zr).fr fs (fun j hj e=>by have h1:=((aa.out z hz).row j hj).1;have e':j=g:=e;omega)
    ·
     obtain rfl:=List.mem_singleton.1 hz;subst bc;exact (ov.lower cg).fr fs (fun j hj e=>by have h1:=(ov.row j hj).1;have h2:wr.drew.heap.size=wr.heap.size:=rfl;have e':j=g:=e;omega)
   have bh:Fr (fun b=>Ab A7=some b) w9 (wv.setCell ⟨g,k*2+1,none⟩ (.slice A' y.xs.length c')):=(hf.trans aw (fun _ _ e=>e.elim)).trans fs (fun j hj e=>by have e':j=g:=e;subst e';exact bn);have a4:Hid ((L.set k y').map NdL.nd=x.path.map NdL.nd):=(On NdL.nd L k ax (by rw [bc];rfl)).trans ad.out;have ar:Hid ((L.set k y').drop (k+1)=x.path.drop (k+1)):=Oo _ _ k y' ab.out;generalize wv.setCell ⟨g,k*2+1,none⟩ (.slice A' y.xs.length c')=ws at*;generalize L.set k y'=L2 at*;go_wp2_with (fail);go_roundw
   case rel=>exact ⟨k+1,L2,by go_num,by omega,a4,ar,a6,ao,bh⟩
   case measure=>simp [intOf];omega
  ·
   obtain rfl:np=k:=by omega
   have ba:L.length=x.path.length:=by have h1:=congrArg List.length ad.out;rwa [Ag3,Ag3] at h1
   rw [Ag9 (by rw [ba,ca.out];exact Ag4 _)] at aa;obtain ⟨be,cv⟩:∃u,u=wr:=⟨_,rfl⟩;subst cv;have d4:=hf.size;have bl:=cn.fr hf (fun e=>by have h1:w6.drew.heap.size≤w.heap.size:=(b7 _ e).1;omega);have dc:=dx.fr hf (fun e=>by have h1:w6.drew.heap.size≤w.heap.size+1:=(b7 _ e).1;omega);have bq:=a5.fr hf (fun j hj e=>by have h1:=(b7 j e).1;omega);have cx:=dp.trans hf (fun j hj e=>by have h1:=(b7 j e).1;omega);have t1:=q1.fr hf (fun j hj e=>by have h1:=(b1 j hj).2;have h2:=(b7 j e).1;omega);have t2:=q2.fr hf (fun j hj e=>by have h1:=(b2 j hj).2;have h2:=(b7 j e).1;omega);have t3:=q3.fr hf (fun j hj e=>by have h1:=(b3 j hj).2;have h2:=(b7 j e).1;omega);have t4:=q4.fr hf (fun j hj e=>by have h1:=(b4 j hj).2;have h2:=(b7 j e).1;omega);have t5:=q5.fr hf (fun j hj e=>by have h1:=(b5 j hj).2;have h2:=(b7 j e).1;omega);have t8:=q8.fr hf (fun j hj e=>by have h1:=(b8 j hj).1;have h2:=(b7 j e).2;omega);have t7:=ae;have ay:=ad;have ah:=aa;have br:=Lib.hid ba;clear ad aa ab ae hlt hk ba hf cn dx a5 dp q1 q2 q3 q4 q5 q7 q8 k9;obtain ⟨L7,d6⟩:∃u,u=L:=⟨_,rfl⟩;subst d6;have cj:be.cell? ⟨w.heap.size,24,none⟩=some (.slice A8 nh c8):=(bl.cell 24).trans bi.out;go_wp2_with (fail)
   go_loopw [55] (fun v wr=>∃(k:Nat) (L:List SlL),v=.int .i64 (k:Int)∧k≤nh∧Hid (L.map SlL.sl=x.hist.map SlL.sl)∧Hid (L.drop k=x.hist.drop k)∧Own wr (w.heap.size+2) 140 4 A8 nh c8 (L.flatMap SlL.cells)∧Hid (∀y∈L.take k,Own wr be.heap.size 5 1 y.A y.y.length y.c (y.y.map Bv))∧Fr (fun b=>Ab A8=some b) be wr) (fun v _=>nh-(intOf v).toNat)
   case atStart=>exact ⟨0,x.hist,rfl,by omega,rfl,rfl,t8,(fun _ h=>by simp at h),Fr.refl _ _⟩
   case round=>
    obtain ⟨k,L,rfl,hk,ad,ab,ae,aa,hf⟩:=hrel
    by_cases hlt:k<nh
    ·
     have i1:(0:Int)≤k:=by omega
     have i2:(k:Int)<nh:=by omega
     have i3:(k:Int).toNat=k:=by omega
     obtain ⟨y,hy⟩:∃y,x.hist[k]? =some y:=⟨_,Ag6 (by rw [ce.out];exact hlt)⟩;have ax:L[k]? =some y:=(Kf ab.out).trans hy;have aq:=Ah1 hy;have ct:=a3.out y aq;obtain ⟨g,hA,co,ea,af,bg,_⟩:=Own.setAt ae (j:=k*4+3) (by omega) (.int .i64 0);have bb:=(bq.seals y aq).fr hf (fun j hj e=>by have h1:=(b8 j e).1;omega);have d0:wr.cell? ⟨g,k*4+3,none⟩=some (.slice y.A y.y.length y.c):=af _ (by rw [E5 (f:=SlL.cells) (fun _=>rfl) L k 3 y ax (by omega)];rfl);have kk:wr.cell? ⟨w.heap.size,24,none⟩=some (.slice A8 nh c8):=hf.cell cj (fun e=>by have h1:w7.heap.size≤w.heap.size:=(b8 _ e).1;omega);have en:w.heap.size+2≤g:=co;rw [hA] at kk
     have ai:∀(wv:World) (u:Value),Fr Non wr wv→wv.cell? ⟨g,k*4+3,none⟩=some (.slice y.A y.y.length y.c)∧wv.frozen? ⟨g,k*4+3,none⟩=false∧Own (wv.setCell ⟨g,k*4+3,none⟩ u) (w.heap.size+2) 140 4 A8 nh c8 ((L.flatMap SlL.cells).set (k*4+3) u):=by
      intro wv u bs;obtain ⟨g2,bo,_,_,ek,bj,df⟩:=Own.setAt (ae.fr bs zr) (j:=k*4+3) (by omega) u;rw [hA] at bo;have ck:g=g2:=by injection bo with e;injection e
      subst ck;exact ⟨bs.cell d0 zq,bj,df⟩
     replace ai:=Lib.hid ai;replace hA:=Lib.hid hA;clear af bg;go_upto_region 11 with (fail)
     refine Cw (S:=(fun w'=>w'.cell? ⟨w.heap.size,24,none⟩=some (.slice (some ⟨g,0,none⟩) nh c8)∧w'.cell? ⟨g,k*4+3,none⟩=some (.slice y.A y.y.length y.c))) 10 (by kernel_rfl) ?_;have hS:(fun w'=>w'.cell? ⟨w.heap.size,24,none⟩=some (.slice (some ⟨g,0,none⟩) nh c8)∧w'.cell? ⟨g,k*4+3,none⟩=some (.slice y.A y.y.length y.c)) wr.drew:=⟨kk,d0⟩;have fd:Fr Non wr wr.drew:=(Fr.refl Non wr).drew;have cw:Rd wr.drew w.heap.size 1 y.A y.y.length (y.y.map Bv):=And.left (bb.fr fd zr);refine tkG 0 hS (h:=tkG 1 hS (h:=tkG 2 hS (h:=tkG 3 hS (h:=tkG 4 hS (h:=tkG 5 hS (h:=tkG 6 hS (h:=tkG 7 hS (h:=tkG 8 hS (h:=?_)))))))));simp only [List.set];refine Bj 9 (by kernel_rfl) rfl (fun K hK=> ?_);go_simp;go_wp2_with (go_at_call 75;go_loud (with_reducible refine (Ol _ _ _ _ _ _ cw (H6 Bv (fun _=>rfl) _) ct).mono ?_);rintro _ wv ⟨A',c',rfl,ov,fv⟩);have aw:=fd.trans fv zr;obtain ⟨d1,z1,c9⟩:=ai.out wv (.slice A' y.y.length c') aw;refine hK.out _ _ ⟨aw.cell kk zq,d1⟩ (fun hZ=> ?_);clear hZ hK K;try simp only [put_lit2,List.set]
     refine Cr (by kernel_rfl) ?_;refine oG 10 (fun K hK=> ?_);go_simp;refine hK.out _ _ trivial (fun hZ=> ?_);clear hZ hK K;try simp only [put_lit2,List.set]
     refine oG 11 (fun K hK=> ?_);go_simp;refine hK.out _ _ trivial (fun hZ=> ?_);clear hZ hK K;try simp only [put_lit2,List.set]
     refine oG 12 (fun K hK=> ?_);go_simp;refine hK.out _ _ trivial (fun hZ=> ?_);clear hZ hK K;try simp only [put_lit2,List.set]
     refine oD ?_;go_simp;have ex:∃y':SlL,y'={y with A:=A',c:=c'}:=⟨_,rfl⟩;obtain ⟨y',bc⟩:=ex
     have a6:Own (wv.setCell ⟨g,k*4+3,none⟩ (.slice A' y.y.length c')) (w.heap.size+2) 140 4 A8 nh c8 ((L.set k y').flatMap SlL.cells):=by
      rw [← Gn (f:=SlL.cells) (size:=4) (fun _=>rfl) (j:=3) (by omega) (.slice A' y.y.length c') y' L k y ax (by rw [bc];rfl)];exact c9
     have fs:Fr (One g) wv (wv.setCell ⟨g,k*4+3,none⟩ (.slice A' y.y.length c')):=(Fr.refl (One g) wv).setCell (p:=⟨g,k*4+3,none⟩) (fun _=>rfl) _;have bn:Ab A8=some g:=by rw [hA.out];rfl
     have cg:=hf.size
     have ao:Hid (∀z∈(L.set k y').take (k+1),Own (wv.setCell ⟨g,k*4+3,none⟩ (.slice A' y.y.length c')) be.heap.size 5 1 z.A z.y.length z.c (z.y.map Bv)):=by
      intro z hz;rw [Ke L k y' ax] at hz;have ej:g<be.heap.size:=by have h1:=(b8 g bn).2;omega
      rcases List.mem_append.1 hz with hz|hz
      · exact ((aa.out z hz).fr aw zr).fr fs (fun j hj e=>by have h1:=((aa.out z hz).row j hj).1;have e':j=g:=e;omega)
      ·
       obtain rfl:=List.mem_singleton.1 hz;subst bc;exact (ov.lower cg).fr fs (fun j hj e=>by have h1:=(ov.row j hj).1;have h2:wr.drew.heap.size=wr.heap.size:=rfl;have e':j=g:=e;omega)
     have bh:Fr (fun b=>Ab A8=some b) be (wv.setCell ⟨g,k*4+3,none⟩ (.slice A' y.y.length c')):=(hf.trans aw (fun _ _ e=>e.elim)).trans fs (fun j hj e=>by have e':j=g:=e;subst e';exact bn);have a4:Hid ((L.set k y').map SlL.sl=x.hist.map SlL.sl):=(On SlL.sl L k ax (by rw [bc];rfl)).trans ad.out;have ar:Hid ((L.set k y').drop (k+1)=x.hist.drop (k+1)):=Oo _ _ k y' ab.out;generalize wv.setCell ⟨g,k*4+3,none⟩ (.slice A' y.y.length c')=ws at*;generalize L.set k y'=L2 at*;go_wp2_with (fail);go_roundw
     case rel=>exact ⟨k+1,L2,by go_num,by omega,a4,ar,a6,ao,bh⟩
     case measure=>simp [intOf];omega
    ·
     obtain rfl:nh=k:=by omega
     have ba:L.length=x.hist.length:=by have h1:=congrArg List.length ad.out;rwa [Ag3,Ag3] at h1
     rw [Ag9 (by rw [ba,ce.out];exact Ag4 _)] at aa;obtain ⟨bd,cp⟩:∃u,u=wr:=⟨_,rfl⟩;subst cp;have cu:=bl.fr hf (fun e=>by have h1:w7.heap.size≤w.heap.size:=(b8 _ e).1;omega);have a9:=dc.fr hf (fun e=>by have h1:w7.heap.size≤w.heap.size+1:=(b8 _ e).1;omega);have db:=cx.trans hf (fun j hj e=>by have h1:=(b8 j e).1;omega);have s1:=(t1.fr hf (fun j hj e=>by have h1:=(b1 j hj).2;have h2:=(b8 j e).1;omega)).lower (base':=w.heap.size) (by omega);have s2:=(t2.fr hf (fun j hj e=>by have h1:=(b2 j hj).2;have h2:=(b8 j e).1;omega)).lower (base':=w.heap.size) (by omega);have s3:=(t3.fr hf (fun j hj e=>by have h1:=(b3 j hj).2;have h2:=(b8 j e).1;omega)).lower (base':=w.heap.size) (by omega);have s4:=(t4.fr hf (fun j hj e=>by have h1:=(b4 j hj).2;have h2:=(b8 j e).1;omega)).lower (base':=w.heap.size) (by omega);have s5:=(t5.fr hf (fun j hj e=>by have h1:=(b5 j hj).2;have h2:=(b8 j e).1;omega)).lower (base':=w.heap.size) (by omega);have s7:=(t7.fr hf (fun j hj e=>by have h1:=(b7 j hj).2;have h2:=(b8 j e).1;omega)).lower (base':=w.heap.size) (by omega);have s8:=ae.lower (base':=w.heap.size) (by omega);have ei:∀j,w9.heap.size≤j→¬(Ab A8=some j):=fun j hj e=>by have h2:=(b8 j e).2;omega
     have r7:Hid (∀y∈L7,Own bd w.heap.size 134 4 y.A y.xs.length y.c (y.xs.flatMap Bx.cells)):=fun y hy=>((ah.out y hy).fr hf (fun j hj e=>ei j ((ah.out y hy).row j hj).1 e)).lower (by omega);have r8:Hid (∀y∈L,Own bd w.heap.size 5 1 y.A y.y.length y.c (y.y.map Bv)):=fun y hy=>(aa.out y hy).lower (by omega);obtain ⟨v,hv⟩:∃v:OpL,v={x with pastA:=A1,pastC:=c1,bodyA:=A2,bodyC:=c2,refsA:=A3,refsC:=c3,guardsA:=A4,guardsC:=c4,boxesA:=A5,boxesC:=c5,pathA:=A7,pathC:=c7,histA:=A8,histC:=c8,path:=L7,hist:=L}:=⟨_,rfl⟩
     have dh:v.op=x.op:=by
      rw [hv];unfold OpL.op;simp only [ay.out,ad.out]
     have bk:v.own bd w.heap.size:=by
      rw [ca.out.symm,← br.out] at s7;rw [ce.out.symm,← ba] at s8;rw [hv];exact ⟨RowAt.of_own s1,RowAt.of_own s7,(fun y hy=>RowAt.of_own (r7.out y hy)),RowAt.of_own s2,RowAt.of_own s3,RowAt.of_own s4,RowAt.of_own s5,RowAt.of_own s8,(fun y hy=>RowAt.of_own (r8.out y hy))⟩
     have ee:Blk bd w.heap.size 67 v.cells:=by
      have hc:v.cells=b6:=by
       rw [← av.out,hv];unfold OpL.cells;simp only [br.out,ba]
      rw [hc];exact cu
     clear hv ay ad r7 r8 s1 s2 s3 s4 s5 s7 s8 ah aa t1 t2 t3 t4 t5 t7 t8;have bu:=Hp v
     have eb:Hid (∀wz,Fr (One (w.heap.size+1)) bd wz→POST (.returned (.agg v.cells)) wz):=by
      intro wz hz;exact a0.out v wz dh (bk.keepP hz (Types.one a9) (by decide) (by decide) (by decide) (by decide) (by decide) (by decide) (by decide)) (db.trans hz (fun k hk e=>absurd hk (by have e':k=w.heap.size+1:=e;omega)))
     clear dh bk a0;have bv:True:=trivial
     go_wp2_with (first
      |(have _t:=bv;refine Lz rfl 67 (.tmp 1) rfl rfl ee Tryz.underlying67 rfl hi ?_;clear bv _t)
      |(refine Ma rfl 67 (.tmp 2) (.tmp 71) rfl rfl rfl rfl a9 hi rfl bu ?_;have bg:=(Fr.refl (One (w.heap.size+1)) bd).setRow (g:=w.heap.size+1) (fun _=>rfl) v.cells;have bj:=a9.setRow (cs:=v.cells);generalize bd.setRow (w.heap.size+1) v.cells=wz at bg bj ⊢;(repeat (first|go_values|go_skip|go_guarded|go_step));exact Dr (t:=67) rfl rfl bj rfl Tryz.underlying67 (by kernel_rfl) rfl (eb.out wz bg)))
end Oq
namespace Oq
attribute [local go_sem ↓] Ce Ep
attribute [local go_sem] Bool.not_false Bool.not_true
theorem Vv {P:Program} {t:TypeId} {d:TypeDesc} (cs:Array Value) (b o:Nat) (hu:P.underlying t=some d) (hd:d.isRow=true) (hi:(P.info? t).map (·.size)=some cs.size):
  ∀w',World.rangeAt w' b o cs.toList→(ldS t (.pointer (some ⟨b,o,none⟩))).run P w'=.ok (.agg cs) w':=fun w' h=>by
 have:=run_loadAt_mid (P:=P) w' b o t cs.toList d h hu hd (by rw [hi];simp);unfold ldS;rw [this]
end Oq
namespace Oq
attribute [local go_sem ↓] Ce Ep
def Ou:Prop:=∀(base gv:Nat) (A:Option Addr) (c:Nat) (l:List Id) (p:Id→Bool) (w:World),Own w base 41 3 A l.length c (l.flatMap Id.cells)→l.length≤1000000→
 (∀x∈l,∀w':World,Fr (fun k=>Ab A=some k) w w'→Calls Tryz.prog 110 #[.agg x.V,.pointer (some ⟨gv,0,none⟩)] w' (Ac (p x) w'))→
 Calls Tryz.prog 109 #[.slice A l.length c,.func (.func 110) #[] #[.pointer (some ⟨gv,0,none⟩)]] w fun e w'=>
  ∃ys:List Id,ys=l.filter (fun x=> !p x)∧e=.returned (.slice A ys.length c)∧Rd w' w'.heap.size 3 A ys.length (ys.flatMap Id.cells)∧Fr (fun k=>Ab A=some k) w w'
def H8 (l:List Id) (w:World) (e:Ending) (w':World):Prop:=∃A c,e=.returned (.slice A l.length c)∧Rd w' w'.heap.size 3 A l.length (l.flatMap Id.cells)∧Fr Non w w'
theorem Ov (base:Nat) (g:Gph) (x:OpL) (w:World) (hdel:Ou) (hg:GAt w base g) (hat:x.at w w.heap.size) (hok:∀id∈x.past,id.ok) (hn:x.past.length≤1000000):
  Calls Tryz.prog 63 #[.pointer (some ⟨g.gb,0,none⟩),.agg x.cells] w (H8 (x.past.filter (fun id=> !(Ae g.nodes id).isSome)) w):=by
 have e4:Hid (x.cells[4]? =some (.slice x.pastA x.past.length x.pastC)):=rfl;obtain ⟨CS,hCS⟩:=Aa x.cells;have f0:Fr Non w ((w.alloc (.cells #[.pointer (some ⟨g.gb,0,none⟩)] 30)).alloc (.cells CS 67)):=((Fr.refl Non w).alloc _).alloc _;have bg:=(Blk.new w 30 #[.pointer (some ⟨g.gb,0,none⟩)]).alloc (.cells CS 67);have bx:=Blk.new (w.alloc (.cells #[.pointer (some ⟨g.gb,0,none⟩)] 30)) 67 CS;rw [Af8] at bx;rw [hCS.out] at e4 ⊢
 have hfin:Hid (∀(ys:List Id) A c w',ys=x.past.filter (fun id=> !(Ae g.nodes id).isSome)→Rd w' w'.heap.size 3 A ys.length (ys.flatMap Id.cells)→Fr Non w w'→H8 (x.past.filter (fun id=> !(Ae g.nodes id).isSome)) w (.returned (.slice A ys.length c)) w'):=by
  intro ys A c w' h1 h2 h3;subst h1;exact ⟨A,c,rfl,h2,h3⟩
 generalize H8 (x.past.filter (fun id=> !(Ae g.nodes id).isSome)) w=POST at*;go_enter Tryz.func63,Tryz.ntmps63;go_upto_region 1 with (fail)
 generalize (w.alloc (.cells #[.pointer (some ⟨g.gb,0,none⟩)] 30)).alloc (.cells CS 67)=w0 at*;have c4:w0.cell? ⟨w.heap.size+1,4,none⟩=some (.slice x.pastA x.past.length x.pastC):=(bx.cell 4).trans e4.out;have kc:=Lib.hid (Oj _ _ x.pastC _ _ w0 (OpL.frame hat f0).past.rd (Id.cells_one _) hn);go_wp2_with (fail);refine (kc.out).mono ?_;rintro _ w1 ⟨A1,c1,rfl,o1,f1⟩;have sz0:=f0.size;have f01:=f0.trans f1 zr;have bg1:=bg.fr f1 zq;have hrow:=o1.row
 have kd:=Lib.hid (hdel w0.heap.size w.heap.size A1 c1 x.past (fun id=>(Ae g.nodes id).isSome) w1 o1 hn (fun id hid w' hf=>by
  have hf':Fr Non w w':=f01.trans hf (fun j hj e=>by have h1:=(hrow j e).1;omega);refine (Ve base g w.heap.size id w' (hg.fr hf') ?_ (hok id hid));exact (bg1.fr hf (fun e=>by have h1:=(hrow _ e).1;have h2:=bg.lt;omega)).cell 0))
 have hff:Hid (∀w',Fr (fun k=>Ab A1=some k) w1 w'→Fr Non w w'):=fun w' hf=>f01.trans hf (fun j hj e=>by have h1:=(hrow j e).1;omega);clear kc hdel hg hat hok bg bx bg1 o1 f1 f0 f01;go_wp2_with (fail);refine (kd.out).mono ?_;rintro _ w2 ⟨ys,hys,rfl,hrd,hf2⟩;have fin:=Lib.hid (hfin.out ys A1 c1 w2 hys hrd (hff.out w2 hf2));clear hfin hff kd hys hrd hf2;go_wp2_with (fail);exact fin.out
end Oq
end
section
open Go.RowKit
theorem Vw {P:Program} (w:World) (t e ty:TypeId) (z:Value) (ht:P.underlying t=some (.slice e)) (hv:∀w,(zeroValue e).run P w=.ok z w) (b o n c:Nat) (hn:0<n)
  (hc:∀j,j<(Builtin.zeroCells z.cells n).toList.length→(w.cell? ⟨b,o+j,none⟩).isSome=true) (hf:∀j,j<(Builtin.zeroCells z.cells n).toList.length→w.frozen? ⟨b,o+j,none⟩=false)
  (h1:∀v∈(Builtin.zeroCells z.cells n).toList,v.oneCell'=true):
  (Builtin.clear_ #[t] ty #[.slice (some ⟨b,o,none⟩) n c]).run P w=.ok (.tuple #[]) (w.setCells b o (Builtin.zeroCells z.cells n).toList):=by
 have hst:=run_storeCells_cells (P:=P) b o (Builtin.zeroCells z.cells n).toList 0 w (by simpa using hc) (by simpa using hf) h1;simp only [Nat.add_zero] at hst;obtain ⟨m,rfl⟩:∃m,n=m+1:=⟨n-1,by omega⟩;simp [Builtin.clear_,run_underlying ht,hv,hst]
end
section
open Go.RowKit
attribute [local go_sem ↓] Go.wp_at_zero Go.wp_at_succ
theorem Ow (g:Nat):∀(vs:List Value) (o:Nat) (w:World),Fr (One g) w (w.setCells g o vs)
 |[],_,_=>Fr.refl _ _
 |v::vs,o,w=>((Fr.refl (One g) w).setCell (p:=⟨g,o,none⟩) (fun _=>rfl) v).trans (Ow g vs (o+1) _) zr
namespace Oq
theorem Ox {α:Type} (l:List α) (p:α→Bool) (h:l.any p=false):l.filter (fun x=> !p x)=l:=by
 rw [List.filter_eq_self];intro x hx;rw [List.any_eq_false] at h;simpa using h x hx
theorem Oy {α:Type} (l:List α) (p:α→Bool) {k:Nat} {x:α} (h:l[k]? =some x):(l.take (k+1)).filter p=(l.take k).filter p++(if p x then [x] else []):=by
 obtain ⟨hk,rfl⟩:=List.getElem?_eq_some_iff.1 h;rw [Ah5 hk,List.filter_append];congr 1
 cases hp:p l[k]<;>simp [hp]
theorem Own.putId {w:World} {base n c g:Nat} {l:List Id} (h:Own w base 41 3 (some ⟨g,0,none⟩) n c (l.flatMap Id.cells)) {i:Nat} {y:Id} (hy:l[i]? =some y) (hi:i<n) (x:Id):
  (∀j,j<3→(w.cell? ⟨g,i*3+j,none⟩).isSome=true∧w.frozen? ⟨g,i*3+j,none⟩=false)∧
  Own (((w.setCell ⟨g,i*3,none⟩ (.int .i64 x.b)).setCell ⟨g,i*3+1,none⟩ (.int .i64 x.s)).setCell ⟨g,i*3+2,none⟩ (.int .u64 (x.u:Int))) base 41 3 (some ⟨g,0,none⟩) n c ((l.set i x).flatMap Id.cells):=by
 constructor
 ·
  intro j hj;obtain ⟨g2,hA,_,_,hc,hz,_⟩:=Own.setAt h (j:=i*3+j) (by omega) (.int .i64 0);have hgg:g=g2:=by injection hA with e;injection e
  subst hgg;have hl:(l.flatMap Id.cells)[i*3+j]? =y.cells[j]? :=E5 (f:=Id.cells) (fun _=>rfl) l i j y hy hj;have hyj:∃v,y.cells[j]? =some v:=⟨_,Ag6 (by show j<3;exact hj)⟩;obtain ⟨v,hv⟩:=hyj;exact ⟨by rw [hc v (hl.trans hv)];rfl,hz⟩
 ·
  have step:∀(w:World) (xs:List Value) (j:Nat) (u:Value),Own w base 41 3 (some ⟨g,0,none⟩) n c xs→j<n*3→Own (w.setCell ⟨g,j,none⟩ u) base 41 3 (some ⟨g,0,none⟩) n c (xs.set j u):=by
   intro w xs j u h hj;obtain ⟨g2,hA,_,_,_,_,ho⟩:=Own.setAt h (j:=j) hj u;have hgg:g=g2:=by injection hA with e;injection e
   subst hgg;exact ho
  have h1:=step _ _ (i*3) (.int .i64 x.b) h (by omega);have h2:=step _ _ (i*3+1) (.int .i64 x.s) h1 (by omega);have h3:=step _ _ (i*3+2) (.int .u64 (x.u:Int)) h2 (by omega);have e1:(l.flatMap Id.cells).set (i*3) (.int .i64 x.b)=(l.set i ⟨x.b,y.s,y.u⟩).flatMap Id.cells:=Gn (f:=Id.cells) (size:=3) (fun _=>rfl) (j:=0) (by omega) _ _ l i y hy rfl
  have hi1:(l.set i ⟨x.b,y.s,y.u⟩)[i]? =some ⟨x.b,y.s,y.u⟩:=by
   rw [Ah6 (List.getElem?_eq_some_iff.1 hy).1]
  have e2:((l.set i ⟨x.b,y.s,y.u⟩).flatMap Id.cells).set (i*3+1) (.int .i64 x.s)=(l.set i ⟨x.b,x.s,y.u⟩).flatMap Id.cells:=by
   have:=Gn (f:=Id.cells) (size:=3) (fun _=>rfl) (j:=1) (by omega) (.int .i64 x.s) ⟨x.b,x.s,y.u⟩ _ i _ hi1 rfl;rwa [List.set_set] at this
  have hi2:(l.set i ⟨x.b,x.s,y.u⟩)[i]? =some ⟨x.b,x.s,y.u⟩:=by
   rw [Ah6 (List.getElem?_eq_some_iff.1 hy).1]
  have e3:((l.set i ⟨x.b,x.s,y.u⟩).flatMap Id.cells).set (i*3+2) (.int .u64 (x.u:Int))=(l.set i x).flatMap Id.cells:=by
   have:=Gn (f:=Id.cells) (size:=3) (fun _=>rfl) (j:=2) (by omega) (.int .u64 (x.u:Int)) x _ i _ hi2 rfl;rwa [List.set_set] at this
  rw [e1,e2,e3] at h3;exact h3
theorem Oz (n:Nat):(Builtin.zeroCells (Value.agg #[.int .i64 0,.int .i64 0,.int .u64 0]).cells n).toList.length=n*3:=by
 simp [Builtin.zeroCells,Value.cells]
theorem Vx (n:Nat):∀v∈(Builtin.zeroCells (Value.agg #[.int .i64 0,.int .i64 0,.int .u64 0]).cells n).toList,v.oneCell'=true:=by
 intro v hv;unfold Builtin.zeroCells at hv;rw [Array.toList_map] at hv;obtain ⟨i,_,rfl⟩:=List.mem_map.1 hv;have h:i%3=0∨i%3=1∨i%3=2:=by omega
 show (#[Value.int .i64 0,.int .i64 0,.int .u64 0][i%3]!).oneCell'=true
 rcases h with e|e|e<;>rw [e]<;>rfl
theorem O0:Ou:=by
 intro a8 gv A c l p w aa aq ah;have a3:=Lib.hid (Vh w.heap.size l.length c gv A l p w rfl aa.rd aq (fun x hx w' hf=>ah x hx w' (hf.mono (fun _ _ e=>e.elim))));obtain ⟨n,hn⟩:=Aa l.length;have a6:=aa.cap;have a7:=aa.row
 have af:Hid (∀(ys:List Id) (m:Nat) (w':World),m=ys.length→ys=l.filter (fun x=> !p x)→Rd w' w'.heap.size 3 A m (ys.flatMap Id.cells)→Fr (fun k=>Ab A=some k) w w'→(∃ys:List Id,ys=l.filter (fun x=> !p x)∧Ending.returned (.slice A m c)=.returned (.slice A ys.length c)∧Rd w' w'.heap.size 3 A ys.length (ys.flatMap Id.cells)∧Fr (fun k=>Ab A=some k) w w')):=by
  intro ys m w' h1 h2 h3 h4;subst h1;exact ⟨ys,h2,rfl,h3,h4⟩
 rw [hn.out] at a3 aa a6 aq ⊢;go_enter Tryz.func109,Tryz.ntmps109;go_wp2_with (fail);refine (a3.out).mono ?_;rintro e w1 ⟨h,f1⟩;clear a3;have bb:Fr (fun k=>Ab A=some k) w w1:=f1.mono (fun _ _ e=>e.elim);replace aa:=aa.fr f1 zr
 rcases h with ⟨k,id,rfl,hk,hpk,hany⟩|⟨rfl,hany⟩
 ·
  have bu:k<n:=by rw [← hn.out];exact (List.getElem?_eq_some_iff.1 hk).1
  obtain ⟨g,rfl⟩:∃g,A=some ⟨g,0,none⟩:=by
   rcases aa.2 with ⟨_,h0⟩|⟨g,cap,ac,hv,_⟩
   · omega
   ·
    injection hv with hA _ _
    exact ⟨g,hA⟩
  have bl:((k:Int)== -1)=false:=by rw [beq_eq_false_iff_ne];omega
  have ap:Hid (l.take k=(l.take (k+1)).filter (fun x=> !p x)):=by
   show _=_;rw [Oy l _ hk,hpk,Ox _ _ hany];simp
  clear hany hpk hk;go_wp2_with (fail)
  go_loopw [5,6] (fun vi vj wr=>∃(i j:Nat) (ac:List Id),vi=.int .i64 (i:Int)∧vj=.int .i64 (j:Int)∧i<j∧j≤n∧Hid (ac.take i=(l.take j).filter (fun x=> !p x))∧Hid (ac.drop j=l.drop j)∧Own wr a8 41 3 (some ⟨g,0,none⟩) n c (ac.flatMap Id.cells)∧Fr (fun k=>Ab (some ⟨g,0,none⟩)=some k) w wr) (fun _ vj _=>n-(intOf vj).toNat)
  case atStart=>exact ⟨k,k+1,l,rfl,by go_num,by omega,by omega,ap.out,rfl,aa,bb⟩
  case round=>
   obtain ⟨i,j,ac,rfl,rfl,bt,bs,ad,ag,ab,hf⟩:=hrel
   have ax:ac.length=n:=by
    have h1:=ab.len;rw [E6 (f:=Id.cells) (size:=3) (fun _=>rfl)] at h1;omega
   by_cases hlt:j<n
   ·
    have i1:(0:Int)≤j:=by omega
    have i2:(j:Int)<n:=by omega
    have i3:(j:Int).toNat=j:=by omega
    have m1:(0:Int)≤i:=by omega
    have m2:(i:Int)<n:=by omega
    have m3:(i:Int).toNat=i:=by omega
    obtain ⟨x,hx⟩:∃x,l[j]? =some x:=⟨_,Ag6 (by rw [hn.out];exact hlt)⟩;obtain ⟨y,hy⟩:∃y,ac[i]? =some y:=⟨_,Ag6 (by rw [ax];omega)⟩;have bd:ac[j]? =some x:=(Kf ag.out).trans hx;obtain ⟨b,bk,hA,be,k0,k1,k2⟩:=Id.at ab.rd bd;obtain ⟨rfl,rfl⟩:g=b∧0=bk:=by injection hA with e;injection e with e1 e2;exact ⟨e1,e2⟩
    rw [Af9] at k0 k1 k2;have av:=Lib.hid (Oy l (fun x=> !p x) hx);have hc:=Lib.hid (fun w' (h:Fr (fun k=>Ab (some ⟨g,0,none⟩)=some k) w w')=>ah x (Ah1 hx) w' h);have bf:=Lib.hid (fun (wv:World) (hv:Fr Non wr wv)=>Own.putId (ab.fr hv zr) hy (by omega) x);have aw:=hf.alloc (.cells x.V 41);have bh:=Blk.new wr 41 x.V;have bc:Fr Non wr (wr.alloc (.cells x.V 41)):=(Fr.refl Non wr).alloc _;have bg:g<wr.heap.size:=be;have ar:=ab;have bp:=Lib.hid hx;have bi:=Lib.hid hy;have bq:i<l.length:=by rw [hn.out];omega
    clear hx hy bd hA be ab aa a7 ap ax
    have bj:=Lib.hid (show (ac.set i x).drop (j+1)=l.drop (j+1) by
     rw [Ah4 (by omega)];have h2:=congrArg (Ah0 1) ag.out;rwa [Ag5,Ag5] at h2)
    have az:=Lib.hid (show ac.drop (j+1)=l.drop (j+1) by
     have h2:=congrArg (Ah0 1) ag.out;rwa [Ag5,Ag5] at h2)
    rcases zb (p x) with hp|hp
    ·
     have a0:Hid (ac.take i=(l.take (j+1)).filter (fun x=> !p x)):=by
      show _=_;rw [av.out,hp,ad.out];simp
     rw [hp] at hc;clear hp av;go_wp2_with (go_at_call 110;(with_reducible refine (hc.out _ aw).mono ?_);rintro _ w2 ⟨rfl,f2⟩);go_roundw
     case rel=>exact ⟨i,j+1,ac,rfl,by go_num,by omega,by omega,a0,az,(ar.fr bc zr).fr f2 zr,aw.trans f2 (fun _ _ e=>e.elim)⟩
     case measure=>simp [intOf];omega
    ·
     have a0:Hid ((ac.set i x).take (i+1)=(l.take (j+1)).filter (fun x=> !p x)):=by
      show _=_;rw [av.out,hp,Ke ac i x bi.out,ad.out];simp
     rw [hp] at hc;clear hp av;go_wp2_with (go_at_call 110;(with_reducible refine (hc.out _ aw).mono ?_);rintro _ w2 ⟨rfl,f2⟩;obtain ⟨hz,ho⟩:=bf.out w2 (bc.trans f2 zr);have a1:=hz 0 (by omega);have ba:=hz 1 (by omega);have au:=hz 2 (by omega);obtain ⟨v0,y0⟩:=Option.isSome_iff_exists.1 a1.1;obtain ⟨v1,y1⟩:=Option.isSome_iff_exists.1 ba.1;obtain ⟨v2,y2⟩:=Option.isSome_iff_exists.1 au.1;have z0:=a1.2;have z1:=ba.2;have z2:=au.2;rw [Nat.add_zero] at y0 z0;clear hz a1 ba au bf;have al:=bh.fr f2 zq;have b0:=al.cell 0;have b1:=al.cell 1;have b2:=al.cell 2;replace b0:w2.cell? ⟨wr.heap.size,0,none⟩=some (.int .i64 x.b):=b0;replace b1:w2.cell? ⟨wr.heap.size,1,none⟩=some (.int .i64 x.s):=b1;replace b2:w2.cell? ⟨wr.heap.size,2,none⟩=some (.int .u64 (x.u:Int)):=b2);go_roundw
     case rel=>
      exact ⟨i+1,j+1,ac.set i x,by go_num,by go_num,by omega,by omega,a0,bj,ho,(((aw.trans f2 (fun _ _ e=>e.elim)).setCell (p:=⟨g,i*3,none⟩) (fun _=>rfl) _).setCell (p:=⟨g,i*3+1,none⟩) (fun _=>rfl) _).setCell (p:=⟨g,i*3+2,none⟩) (fun _=>rfl) _⟩
     case measure=>simp [intOf];omega
   ·
    obtain rfl:j=n:=by omega
    have bo:(0:Int)≤i:=by omega
    have bn:(i:Int)<j:=by omega
    have br:(i:Int).toNat=i:=by omega
    have bm:=ab.cap;have bv:(i:Int)<c:=by omega
    have bg:=ab.row g rfl
    have ak:Hid (∀vs:List Value,Rd (wr.setCells g (i*3) vs) (wr.setCells g (i*3) vs).heap.size 3 (some ⟨g,0,none⟩) i ((l.filter (fun x=> !p x)).flatMap Id.cells)∧Fr (fun k=>Ab (some ⟨g,0,none⟩)=some k) w (wr.setCells g (i*3) vs)):=by
     intro vs;have fz:=Ow g vs (i*3) wr
     have e1:ac.take i=l.filter (fun x=> !p x):=by
      rw [ad.out,Ag9 (by rw [hn.out];exact Ag4 _)]
     have ai:(l.filter (fun x=> !p x)).length=i:=by rw [← e1,Ah7];omega
     refine ⟨⟨by rw [E6 (f:=Id.cells) (size:=3) (fun _=>rfl),ai],.inr ⟨g,0,rfl,Nat.lt_of_lt_of_le bg.2 fz.size,?_⟩⟩,hf.trans fz (fun k _ e=>by have e':k=g:=e;subst e';rfl)⟩;intro q u hu
     have hq:q<i*3:=by
      have h1:=(List.getElem?_eq_some_iff.1 hu).1;rw [E6 (f:=Id.cells) (size:=3) (fun _=>rfl),ai] at h1;exact h1
     rw [Af9,World.cell?_setCells_out g vs (i*3) wr ⟨g,q,none⟩ (fun _ _=> .inl hq)];obtain ⟨g2,a9,_,_,a5,_,_⟩:=Own.setAt ab (j:=q) (by omega) (.int .i64 0);have a2:g=g2:=by injection a9 with e;injection e
     subst a2;refine a5 u ?_;rw [← e1] at hu;have ao:ac.flatMap Id.cells=(ac.take i).flatMap Id.cells++(ac.drop i).flatMap Id.cells:=by rw [← List.flatMap_append,List.take_append_drop]
     rw [ao,List.getElem?_append_left (List.getElem?_eq_some_iff.1 hu).1];exact hu
    have ae:Hid (∀q,q<(j-i)*3→(wr.cell? ⟨g,i*3+q,none⟩).isSome=true∧wr.frozen? ⟨g,i*3+q,none⟩=false):=by
     intro q hq;have hm:i*3+q<j*3:=by omega
     obtain ⟨g2,a9,_,_,a5,au,_⟩:=Own.setAt ab (j:=i*3+q) hm (.int .i64 0);have a2:g=g2:=by injection a9 with e;injection e
     subst a2;have hl:i*3+q<(ac.flatMap Id.cells).length:=by rw [E6 (f:=Id.cells) (size:=3) (fun _=>rfl),ax];exact hm
     exact ⟨by rw [a5 _ (Ag6 hl)];rfl,au⟩
    have aj:Hid (i=(l.filter (fun x=> !p x)).length):=by
     show _=_
     have e1:ac.take i=l.filter (fun x=> !p x):=by
      rw [ad.out,Ag9 (by rw [hn.out];exact Ag4 _)]
     rw [← e1,Ah7];omega
    clear ab ad ag ah aa ap hf
    have ay:(Builtin.clear_ #[25] 0 #[Value.slice (some ⟨g,i*3,none⟩) (j-i) (c-i)]).run Tryz.prog wr=.ok (.tuple #[]) (wr.setCells g (i*3) (Builtin.zeroCells (Value.agg #[.int .i64 0,.int .i64 0,.int .u64 0]).cells (j-i)).toList):=
     Vw wr 25 41 0 _ Tryz.underlying25 (fun _=>Tryz.zeroValue41 _) g (i*3) (j-i) (c-i) (by omega) (fun q hq=>(ae.out q (by rw [Oz] at hq;exact hq)).1) (fun q hq=>(ae.out q (by rw [Oz] at hq;exact hq)).2) (Vx _)
    have a4:=Lib.hid (fun vs=>af.out (l.filter (fun x=> !p x)) i (wr.setCells g (i*3) vs) aj.out rfl (ak.out vs).1 (ak.out vs).2);clear ae ak aj af;generalize (Builtin.zeroCells (Value.agg #[.int .i64 0,.int .i64 0,.int .u64 0]).cells (j-i)).toList=ZS at ay;go_wp2_with (fail)
    go_ret
    exact a4.out _
 ·
  have a4:=Lib.hid (af.out l n w1 hn.out.symm (Ox l p hany).symm (by have:=aa.rd;exact this) bb);clear af ah hany;go_wp2_with (fail)
  go_ret
  exact a4.out
end Oq
end
section
open Go.RowKit Go.Sort
attribute [local go_sem ↓] Go.wp_at_zero Go.wp_at_succ
namespace Oq
theorem H9 (v:Value):Instr.loadAt 98 v=ldS 98 v:=rfl
theorem Ia (p v:Value):Instr.storeAt 98 p v=stS 98 p v:=rfl
attribute [local go_sem ↓] H9 Ia
def picks (l:List Af) (p:Nat→Bool) (k:Nat):List Id:=(List.range k).filterMap (fun i=>if p i then l[i]?.map Af.id else none)
theorem Ic (n:Af):n.cells.toArray.all (·.oneCell')=true:=by
 unfold Af.cells OpL.cells;simp [Value.oneCell']
def Picked (g:Gph) (p:Nat→Bool) (w:World) (e:Ending) (w':World):Prop:=
 ∃A c,∃ids:List Id,e=.returned (.slice A ids.length c)∧ids.Perm (picks g.nodes p g.nodes.length)∧ids.Pairwise (fun x y=>Id.less y x=false)∧Own w' w.heap.size 41 3 A ids.length c (ids.flatMap Id.cells)∧Fr Non w w'
end Oq
end
end Go.Proofs.YtkanjaikgphjfaaGreatDoor
