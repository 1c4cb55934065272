/-
  Contracts of the functions that the claim's statement reaches, walked one by one (part 7).
  Conditions: as each theorem says.
-/
import Derived.Lib.SliceRun
import Derived.Laws.IdiomCopy
import Derived.Test.YtihfebhfgliojaaGreatDoorGrW6
set_option maxRecDepth 100000
set_option maxHeartbeats 16000000
open Array renaming getD->Ao2
open Bool renaming and_eq_true->Ao7
open List renaming eq_nil_of_length_eq_zero->An6,nil_append->An7,length_map->An8,getElem?_eq_getElem->An9,drop_drop->Ao1,flatMap_cons->Ao3,take_of_length_le->Ao4,drop->Ao5,mem_of_getElem?->Ao6,getElem?_toArray->Ao8,drop_set_of_lt->Ao9,take_succ_eq_append_getElem->Ap0,getElem?_set_self->Ap1,length_take->Ap2,flatMap_append->Ap3,length_append->Ap4
open Nat renaming zero_add->An4,zero_mul->An5,le_refl->Ao0
open Go.World renaming size_alloc->An3
open Go.Proofs.Tryz
open Go.Proofs.Tryz renaming prog->zp
open Go.Lib renaming hid->lh
open List renaming set->zl
open Go.Ending renaming returned->ze
namespace Go.Proofs.YtihfebhfgliojaaGreatDoor
open Go.RowKit
attribute [local go_sem ↓] Go.wp_at_zero Go.wp_at_succ
namespace Oq
theorem Xn {P:Program} {t e:TypeId} (hu:P.underlying t=some (.slice e)) (A:Option Addr) (n c:Nat) (w:World):(Go.Op.equal t (.slice A n c) (.slice none 0 0)).run P w=.ok A.isNone w:=by
 show (Go.Op.equalIn (9999+1) t (.slice A n c) (.slice none 0 0)).run P w=_;generalize 9999=d
 cases A<;>simp [Go.Op.equalIn,run_underlying hu]
theorem Ew {P:Program} {t e:TypeId} (hu:P.underlying t=some (.slice e)) (A:Option Addr) (n c:Nat) (w:World):(binOp .eql t (.slice A n c) (.slice none 0 0)).run P w=.ok (.bool A.isNone) w:=by
 have h:binOp .eql t (.slice A n c) (.slice none 0 0)=(do pure (.bool (<- Go.Op.equal t (.slice A n c) (.slice none 0 0)))):=by
  unfold binOp;rfl
 rw [h];simp [Xn hu]
theorem Own.empty (w:World) (t:TypeId) (size:Nat):Own (w.alloc (.cells #[] t)) w.heap.size t size (some ⟨w.heap.size,0,none⟩) 0 0 []:=
 ⟨by simp,.inr ⟨w.heap.size,0,#[],rfl,Ao0 _,heap_alloc_new w _,Ao0 _,by omega,by simp,by simp⟩⟩
def Az (e:TypeId) (size n:Nat) (xs:List Value) (w:World) (r:Ending) (w':World):Prop:=∃A' c',r=.returned (.slice A' n c')/\Own w' w.heap.size e size A' n c' xs/\Fr Non w w'
theorem O9 (B n c:Nat) (A:Option Addr) (xs:List Value) (w:World) (hr:Rd w B 3 A n xs) (h1:∀u∈xs,u.oneCell'=true) (hn:n<=1000000):
  Calls zp 81 #[.slice A n c] w (Az 38 3 n xs w):=by
 have heq:=fun w'=>Ew (P:=zp) underlying28 A n c w'
 cases A with
 |none=>
  replace heq:∀w',(binOp .eql 28 (.slice none n c) (.slice none 0 0)).run zp w'=.ok (.bool true) w':=heq
  have h0:n=0:=by
   rcases hr.2 with h|⟨_,_,h,_⟩
   · exact h
   · cases h
  have hx:xs=[]:=An6 (by rw [hr.1,h0,An5]);subst h0;subst hx;have fin:Az 38 3 0 [] w (.returned (.slice none 0 0)) w:=⟨none,0,rfl,Own.nil _ _ _ _,Fr.refl _ _⟩;generalize Az 38 3 0 [] w=POST at*;replace fin:=lh fin;go_enter func81,ntmps81;go_wp2_with fail;exact fin.out
 |some ad=>
  replace heq:∀w',(binOp .eql 28 (.slice (some ad) n c) (.slice none 0 0)).run zp w'=.ok (.bool false) w':=heq;have hem:=Own.empty w 38 3;have hr1:=hr.fr ((Fr.refl Non w).alloc (.cells #[] 38)) zr
  have fin:∀A' c' w',Own w' w.heap.size 38 3 A' (0+n) c' ([]++xs)->Fr (fun k=>Ab (some (⟨w.heap.size,0,none⟩:Addr))=some k) (w.alloc (.cells #[] 38)) w'->Az 38 3 n xs w (.returned (.slice A' n c')) w':=by
   intro A' c' w' h2 h3;rw [An4,An7] at h2;refine ⟨A',c',rfl,h2,((Fr.refl Non w).alloc (.cells #[] 38)).trans h3 (fun k hk e=> ?_)⟩;have e':w.heap.size=k:=Option.some.inj e;omega
  replace fin:=lh fin;generalize Az 38 3 n xs w=POST at*;go_enter func81,ntmps81;go_upto_region 3 with (fail)
  go_wp2_with (at_builtin;go_loud (refine Aw (base:=w.heap.size) (.tmp 5) (.tmp 6) 28 rfl rfl rfl rfl C1 hem hr1 h1 (by omega) (by omega) (by rw [An3];omega) ?_);intro A1 c1 w2 own1 fr1 hat1;have hdone:=lh (fin.out _ _ _ own1 fr1);clear own1 fr1 hat1 fin);exact hdone.out
theorem Pa (B n c:Nat) (A:Option Addr) (xs:List Value) (w:World) (hr:Rd w B 1 A n xs) (h1:∀u∈xs,u.oneCell'=true) (hn:n<=1000000):
  Calls zp 119 #[.slice A n c] w (Az 5 1 n xs w):=by
 have heq:=fun w'=>Ew (P:=zp) underlying39 A n c w'
 cases A with
 |none=>
  replace heq:∀w',(binOp .eql 39 (.slice none n c) (.slice none 0 0)).run zp w'=.ok (.bool true) w':=heq
  have h0:n=0:=by
   rcases hr.2 with h|⟨_,_,h,_⟩
   · exact h
   · cases h
  have hx:xs=[]:=An6 (by rw [hr.1,h0,An5]);subst h0;subst hx;have fin:Az 5 1 0 [] w (.returned (.slice none 0 0)) w:=⟨none,0,rfl,Own.nil _ _ _ _,Fr.refl _ _⟩;generalize Az 5 1 0 [] w=POST at*;replace fin:=lh fin;go_enter func119,ntmps119;go_wp2_with fail;exact fin.out
 |some ad=>
  replace heq:∀w',(binOp .eql 39 (.slice (some ad) n c) (.slice none 0 0)).run zp w'=.ok (.bool false) w':=heq;have hem:=Own.empty w 5 1;have hr1:=hr.fr ((Fr.refl Non w).alloc (.cells #[] 5)) zr
  have fin:∀A' c' w',Own w' w.heap.size 5 1 A' (0+n) c' ([]++xs)->Fr (fun k=>Ab (some (⟨w.heap.size,0,none⟩:Addr))=some k) (w.alloc (.cells #[] 5)) w'->Az 5 1 n xs w (.returned (.slice A' n c')) w':=by
   intro A' c' w' h2 h3;rw [An4,An7] at h2;refine ⟨A',c',rfl,h2,((Fr.refl Non w).alloc (.cells #[] 5)).trans h3 (fun k hk e=> ?_)⟩;have e':w.heap.size=k:=Option.some.inj e;omega
  replace fin:=lh fin;generalize Az 5 1 n xs w=POST at*;go_enter func119,ntmps119;go_upto_region 3 with (fail)
  go_wp2_with (at_builtin;go_loud (refine Aw (base:=w.heap.size) (.tmp 5) (.tmp 6) 39 rfl rfl rfl rfl slB hem hr1 h1 (by omega) (by omega) (by rw [An3];omega) ?_);intro A1 c1 w2 own1 fr1 hat1;have hdone:=lh (fin.out _ _ _ own1 fr1);clear own1 fr1 hat1 fin);exact hdone.out
theorem Xo (B n c:Nat) (A:Option Addr) (xs:List Value) (w:World) (hr:Rd w B 1 A n xs) (h1:∀u∈xs,u.oneCell'=true) (hn:n<=1000000):
  Calls zp 120 #[.slice A n c] w (Az 23 1 n xs w):=by
 have heq:=fun w'=>Ew (P:=zp) underlying40 A n c w'
 cases A with
 |none=>
  replace heq:∀w',(binOp .eql 40 (.slice none n c) (.slice none 0 0)).run zp w'=.ok (.bool true) w':=heq
  have h0:n=0:=by
   rcases hr.2 with h|⟨_,_,h,_⟩
   · exact h
   · cases h
  have hx:xs=[]:=An6 (by rw [hr.1,h0,An5]);subst h0;subst hx;have fin:Az 23 1 0 [] w (.returned (.slice none 0 0)) w:=⟨none,0,rfl,Own.nil _ _ _ _,Fr.refl _ _⟩;generalize Az 23 1 0 [] w=POST at*;replace fin:=lh fin;go_enter func120,ntmps120;go_wp2_with fail;exact fin.out
 |some ad=>
  replace heq:∀w',(binOp .eql 40 (.slice (some ad) n c) (.slice none 0 0)).run zp w'=.ok (.bool false) w':=heq;have hem:=Own.empty w 23 1;have hr1:=hr.fr ((Fr.refl Non w).alloc (.cells #[] 23)) zr
  have fin:∀A' c' w',Own w' w.heap.size 23 1 A' (0+n) c' ([]++xs)->Fr (fun k=>Ab (some (⟨w.heap.size,0,none⟩:Addr))=some k) (w.alloc (.cells #[] 23)) w'->Az 23 1 n xs w (.returned (.slice A' n c')) w':=by
   intro A' c' w' h2 h3;rw [An4,An7] at h2;refine ⟨A',c',rfl,h2,((Fr.refl Non w).alloc (.cells #[] 23)).trans h3 (fun k hk e=> ?_)⟩;have e':w.heap.size=k:=Option.some.inj e;omega
  replace fin:=lh fin;generalize Az 23 1 n xs w=POST at*;go_enter func120,ntmps120;go_upto_region 3 with (fail)
  go_wp2_with (at_builtin;go_loud (refine Aw (base:=w.heap.size) (.tmp 5) (.tmp 6) 40 rfl rfl rfl rfl Jr hem hr1 h1 (by omega) (by omega) (by rw [An3];omega) ?_);intro A1 c1 w2 own1 fr1 hat1;have hdone:=lh (fin.out _ _ _ own1 fr1);clear own1 fr1 hat1 fin);exact hdone.out
theorem Xp (B n c:Nat) (A:Option Addr) (xs:List Value) (w:World) (hr:Rd w B 1 A n xs) (h1:∀u∈xs,u.oneCell'=true) (hn:n<=1000000):
  Calls zp 121 #[.slice A n c] w (Az 3 1 n xs w):=by
 have heq:=fun w'=>Ew (P:=zp) underlying22 A n c w'
 cases A with
 |none=>
  replace heq:∀w',(binOp .eql 22 (.slice none n c) (.slice none 0 0)).run zp w'=.ok (.bool true) w':=heq
  have h0:n=0:=by
   rcases hr.2 with h|⟨_,_,h,_⟩
   · exact h
   · cases h
  have hx:xs=[]:=An6 (by rw [hr.1,h0,An5]);subst h0;subst hx;have fin:Az 3 1 0 [] w (.returned (.slice none 0 0)) w:=⟨none,0,rfl,Own.nil _ _ _ _,Fr.refl _ _⟩;generalize Az 3 1 0 [] w=POST at*;replace fin:=lh fin;go_enter func121,ntmps121;go_wp2_with fail;exact fin.out
 |some ad=>
  replace heq:∀w',(binOp .eql 22 (.slice (some ad) n c) (.slice none 0 0)).run zp w'=.ok (.bool false) w':=heq;have hem:=Own.empty w 3 1;have hr1:=hr.fr ((Fr.refl Non w).alloc (.cells #[] 3)) zr
  have fin:∀A' c' w',Own w' w.heap.size 3 1 A' (0+n) c' ([]++xs)->Fr (fun k=>Ab (some (⟨w.heap.size,0,none⟩:Addr))=some k) (w.alloc (.cells #[] 3)) w'->Az 3 1 n xs w (.returned (.slice A' n c')) w':=by
   intro A' c' w' h2 h3;rw [An4,An7] at h2;refine ⟨A',c',rfl,h2,((Fr.refl Non w).alloc (.cells #[] 3)).trans h3 (fun k hk e=> ?_)⟩;have e':w.heap.size=k:=Option.some.inj e;omega
  replace fin:=lh fin;generalize Az 3 1 n xs w=POST at*;go_enter func121,ntmps121;go_upto_region 3 with (fail)
  go_wp2_with (at_builtin;go_loud (refine Aw (base:=w.heap.size) (.tmp 5) (.tmp 6) 22 rfl rfl rfl rfl Fi hem hr1 h1 (by omega) (by omega) (by rw [An3];omega) ?_);intro A1 c1 w2 own1 fr1 hat1;have hdone:=lh (fin.out _ _ _ own1 fr1);clear own1 fr1 hat1 fin);exact hdone.out
theorem Pb (B n c:Nat) (A:Option Addr) (xs:List Value) (w:World) (hr:Rd w B 4 A n xs) (h1:∀u∈xs,u.oneCell'=true) (hn:n<=1000000):
  Calls zp 122 #[.slice A n c] w (Az 148 4 n xs w):=by
 have heq:=fun w'=>Ew (P:=zp) underlying41 A n c w'
 cases A with
 |none=>
  replace heq:∀w',(binOp .eql 41 (.slice none n c) (.slice none 0 0)).run zp w'=.ok (.bool true) w':=heq
  have h0:n=0:=by
   rcases hr.2 with h|⟨_,_,h,_⟩
   · exact h
   · cases h
  have hx:xs=[]:=An6 (by rw [hr.1,h0,An5]);subst h0;subst hx;have fin:Az 148 4 0 [] w (.returned (.slice none 0 0)) w:=⟨none,0,rfl,Own.nil _ _ _ _,Fr.refl _ _⟩;generalize Az 148 4 0 [] w=POST at*;replace fin:=lh fin;go_enter func122,ntmps122;go_wp2_with fail;exact fin.out
 |some ad=>
  replace heq:∀w',(binOp .eql 41 (.slice (some ad) n c) (.slice none 0 0)).run zp w'=.ok (.bool false) w':=heq;have hem:=Own.empty w 148 4;have hr1:=hr.fr ((Fr.refl Non w).alloc (.cells #[] 148)) zr
  have fin:∀A' c' w',Own w' w.heap.size 148 4 A' (0+n) c' ([]++xs)->Fr (fun k=>Ab (some (⟨w.heap.size,0,none⟩:Addr))=some k) (w.alloc (.cells #[] 148)) w'->Az 148 4 n xs w (.returned (.slice A' n c')) w':=by
   intro A' c' w' h2 h3;rw [An4,An7] at h2;refine ⟨A',c',rfl,h2,((Fr.refl Non w).alloc (.cells #[] 148)).trans h3 (fun k hk e=> ?_)⟩;have e':w.heap.size=k:=Option.some.inj e;omega
  replace fin:=lh fin;generalize Az 148 4 n xs w=POST at*;go_enter func122,ntmps122;go_upto_region 3 with (fail)
  go_wp2_with (at_builtin;go_loud (refine Aw (base:=w.heap.size) (.tmp 5) (.tmp 6) 41 rfl rfl rfl rfl slBx hem hr1 h1 (by omega) (by omega) (by rw [An3];omega) ?_);intro A1 c1 w2 own1 fr1 hat1;have hdone:=lh (fin.out _ _ _ own1 fr1);clear own1 fr1 hat1 fin);exact hdone.out
theorem Xq (B n c:Nat) (A:Option Addr) (xs:List Value) (w:World) (hr:Rd w B 2 A n xs) (h1:∀u∈xs,u.oneCell'=true) (hn:n<=1000000):
  Calls zp 123 #[.slice A n c] w (Az 94 2 n xs w):=by
 have heq:=fun w'=>Ew (P:=zp) underlying36 A n c w'
 cases A with
 |none=>
  replace heq:∀w',(binOp .eql 36 (.slice none n c) (.slice none 0 0)).run zp w'=.ok (.bool true) w':=heq
  have h0:n=0:=by
   rcases hr.2 with h|⟨_,_,h,_⟩
   · exact h
   · cases h
  have hx:xs=[]:=An6 (by rw [hr.1,h0,An5]);subst h0;subst hx;have fin:Az 94 2 0 [] w (.returned (.slice none 0 0)) w:=⟨none,0,rfl,Own.nil _ _ _ _,Fr.refl _ _⟩;generalize Az 94 2 0 [] w=POST at*;replace fin:=lh fin;go_enter func123,ntmps123;go_wp2_with fail;exact fin.out
 |some ad=>
  replace heq:∀w',(binOp .eql 36 (.slice (some ad) n c) (.slice none 0 0)).run zp w'=.ok (.bool false) w':=heq;have hem:=Own.empty w 94 2;have hr1:=hr.fr ((Fr.refl Non w).alloc (.cells #[] 94)) zr
  have fin:∀A' c' w',Own w' w.heap.size 94 2 A' (0+n) c' ([]++xs)->Fr (fun k=>Ab (some (⟨w.heap.size,0,none⟩:Addr))=some k) (w.alloc (.cells #[] 94)) w'->Az 94 2 n xs w (.returned (.slice A' n c')) w':=by
   intro A' c' w' h2 h3;rw [An4,An7] at h2;refine ⟨A',c',rfl,h2,((Fr.refl Non w).alloc (.cells #[] 94)).trans h3 (fun k hk e=> ?_)⟩;have e':w.heap.size=k:=Option.some.inj e;omega
  replace fin:=lh fin;generalize Az 94 2 n xs w=POST at*;go_enter func123,ntmps123;go_upto_region 3 with (fail)
  go_wp2_with (at_builtin;go_loud (refine Aw (base:=w.heap.size) (.tmp 5) (.tmp 6) 36 rfl rfl rfl rfl slNd hem hr1 h1 (by omega) (by omega) (by rw [An3];omega) ?_);intro A1 c1 w2 own1 fr1 hat1;have hdone:=lh (fin.out _ _ _ own1 fr1);clear own1 fr1 hat1 fin);exact hdone.out
theorem Xt (B n c:Nat) (A:Option Addr) (xs:List Value) (w:World) (hr:Rd w B 4 A n xs) (h1:∀u∈xs,u.oneCell'=true) (hn:n<=1000000):
  Calls zp 124 #[.slice A n c] w (Az 97 4 n xs w):=by
 have heq:=fun w'=>Ew (P:=zp) underlying42 A n c w'
 cases A with
 |none=>
  replace heq:∀w',(binOp .eql 42 (.slice none n c) (.slice none 0 0)).run zp w'=.ok (.bool true) w':=heq
  have h0:n=0:=by
   rcases hr.2 with h|⟨_,_,h,_⟩
   · exact h
   · cases h
  have hx:xs=[]:=An6 (by rw [hr.1,h0,An5]);subst h0;subst hx;have fin:Az 97 4 0 [] w (.returned (.slice none 0 0)) w:=⟨none,0,rfl,Own.nil _ _ _ _,Fr.refl _ _⟩;generalize Az 97 4 0 [] w=POST at*;replace fin:=lh fin;go_enter func124,ntmps124;go_wp2_with fail;exact fin.out
 |some ad=>
  replace heq:∀w',(binOp .eql 42 (.slice (some ad) n c) (.slice none 0 0)).run zp w'=.ok (.bool false) w':=heq;have hem:=Own.empty w 97 4;have hr1:=hr.fr ((Fr.refl Non w).alloc (.cells #[] 97)) zr
  have fin:∀A' c' w',Own w' w.heap.size 97 4 A' (0+n) c' ([]++xs)->Fr (fun k=>Ab (some (⟨w.heap.size,0,none⟩:Addr))=some k) (w.alloc (.cells #[] 97)) w'->Az 97 4 n xs w (.returned (.slice A' n c')) w':=by
   intro A' c' w' h2 h3;rw [An4,An7] at h2;refine ⟨A',c',rfl,h2,((Fr.refl Non w).alloc (.cells #[] 97)).trans h3 (fun k hk e=> ?_)⟩;have e':w.heap.size=k:=Option.some.inj e;omega
  replace fin:=lh fin;generalize Az 97 4 n xs w=POST at*;go_enter func124,ntmps124;go_upto_region 3 with (fail)
  go_wp2_with (at_builtin;go_loud (refine Aw (base:=w.heap.size) (.tmp 5) (.tmp 6) 42 rfl rfl rfl rfl slSl hem hr1 h1 (by omega) (by omega) (by rw [An3];omega) ?_);intro A1 c1 w2 own1 fr1 hat1;have hdone:=lh (fin.out _ _ _ own1 fr1);clear own1 fr1 hat1 fin);exact hdone.out
theorem Xu (B n c:Nat) (A:Option Addr) (xs:List Value) (w:World) (hr:Rd w B 5 A n xs) (h1:∀u∈xs,u.oneCell'=true) (hn:n<=1000000):
  Calls zp 77 #[.slice A n c] w (Az 104 5 n xs w):=by
 have heq:=fun w'=>Ew (P:=zp) underlying26 A n c w'
 cases A with
 |none=>
  replace heq:∀w',(binOp .eql 26 (.slice none n c) (.slice none 0 0)).run zp w'=.ok (.bool true) w':=heq
  have h0:n=0:=by
   rcases hr.2 with h|⟨_,_,h,_⟩
   · exact h
   · cases h
  have hx:xs=[]:=An6 (by rw [hr.1,h0,An5]);subst h0;subst hx;have fin:Az 104 5 0 [] w (.returned (.slice none 0 0)) w:=⟨none,0,rfl,Own.nil _ _ _ _,Fr.refl _ _⟩;generalize Az 104 5 0 [] w=POST at*;replace fin:=lh fin;go_enter func77,ntmps77;go_wp2_with fail;exact fin.out
 |some ad=>
  replace heq:∀w',(binOp .eql 26 (.slice (some ad) n c) (.slice none 0 0)).run zp w'=.ok (.bool false) w':=heq;have hem:=Own.empty w 104 5;have hr1:=hr.fr ((Fr.refl Non w).alloc (.cells #[] 104)) zr
  have fin:∀A' c' w',Own w' w.heap.size 104 5 A' (0+n) c' ([]++xs)->Fr (fun k=>Ab (some (⟨w.heap.size,0,none⟩:Addr))=some k) (w.alloc (.cells #[] 104)) w'->Az 104 5 n xs w (.returned (.slice A' n c')) w':=by
   intro A' c' w' h2 h3;rw [An4,An7] at h2;refine ⟨A',c',rfl,h2,((Fr.refl Non w).alloc (.cells #[] 104)).trans h3 (fun k hk e=> ?_)⟩;have e':w.heap.size=k:=Option.some.inj e;omega
  replace fin:=lh fin;generalize Az 104 5 n xs w=POST at*;go_enter func77,ntmps77;go_upto_region 3 with (fail)
  go_wp2_with (at_builtin;go_loud (refine Aw (base:=w.heap.size) (.tmp 5) (.tmp 6) 26 rfl rfl rfl rfl slCd hem hr1 h1 (by omega) (by omega) (by rw [An3];omega) ?_);intro A1 c1 w2 own1 fr1 hat1;have hdone:=lh (fin.out _ _ _ own1 fr1);clear own1 fr1 hat1 fin);exact hdone.out
end Oq
section
variable {P : Program} {ops : Array Oper} {Q : Exit -> Act -> World -> Prop} {md : Region.Mode} {S : World -> Prop} {g : Nat}
def Cx (P:Program) (md:Region.Mode) (ops:Array Oper) (Q:Exit->Act->World->Prop) (S:World->Prop) (g:Nat) (fuel:Nat) (listed:Array Bool) (a:Act) (w:World):Prop:=
 match fuel with
 |0=>Region.ready md ops listed=[]/\Q .normal a w
 |k+1=>(Region.ready md ops listed=[]->Q .normal a w)/\
   ∀i∈Region.ready md ops listed,wpOp P ops Q i (fun a' w'=>((listed.setIfInBounds i true).getD g true=false->S w')/\Cx P md ops Q S g k (listed.setIfInBounds i true) a' w') a w
theorem Xv:∀(fuel:Nat) (listed:Array Bool) (a:Act) (w:World),Cx P md ops Q S g fuel listed a w->wpAny P md ops Q fuel listed a w:=by
 intro fuel
 induction fuel with
 |zero=>intro _ _ _ h;exact h
 |succ k ih=>intro l a w h;exact ⟨h.1,fun i hi=>wpOp_mono (fun a' w' h'=>ih _ a' w' h'.2) (h.2 i hi)⟩
theorem Xw:∀(fuel:Nat) (listed:Array Bool) (a:Act) (w:World),listed.getD g true=true->wpAny P md ops Q fuel listed a w->Cx P md ops Q S g fuel listed a w:=by
 intro fuel
 induction fuel with
 |zero=>intro _ _ _ _ h;exact h
 |succ k ih=>
  intro l a w hg h;refine ⟨h.1,fun i hi=>wpOp_mono (fun a' w' h'=> ?_) (h.2 i hi)⟩
  have hg':(l.setIfInBounds i true).getD g true=true:=by
   by_cases hgi:i=g
   ·
    subst hgi
    by_cases hb:i<l.size
    · simp [Ao2,hb]
    · simp [Ao2,hb]
   ·
    rw [getD_set_ne true hgi];exact hg
  exact ⟨fun h0=>(by rw [hg'] at h0;cases h0),ih _ a' w' hg' h'⟩
theorem Xx {i:Nat} {oi og:Oper} {v:Value} (hi:ops[i]? =some oi) (hog:ops[g]? =some og) (hgi:g≠i) (hwait:∃e∈og.after,Region.binds md e=true/\e.on=i)
  (hsel:∀(j:Nat) (o:Oper) cs b,ops[j]? =some o->o.op≠ .select cs b) (hQ:∀c a w,Q (.panic c) (a.put oi.dst v) w->Q (.panic c) a w):
  ∀(fuel:Nat) (listed:Array Bool) (a:Act) (w:World),listed.getD g true=false->
   (∀j oj,ops[j]? =some oj->j≠i->listed.getD j true=false->(∀e∈oj.after,Region.binds md e=true->e.on≠i)->oi.apart ops oj=true)->
   i∈Region.ready md ops listed->YieldsIf P ops S oi v a->S w->
   Cx P md ops Q S g fuel (listed.setIfInBounds i true) (a.put oi.dst v) w->Cx P md ops Q S g (fuel+1) listed a w:=by
 intro fuel
 induction fuel with
 |zero=>
  intro listed a w hg _ hr hy hS H;refine ⟨fun h=>(by rw [h] at hr;cases hr),fun j hj=> ?_⟩
  by_cases hji:j=i
  · subst hji;exact hy.wpOp hi hS ⟨fun _=>hS,H⟩
  ·
   have h0:=ready_mono hj hji;rw [H.1] at h0
   cases h0
 |succ k ih=>
  intro listed a w hg hfree hr hy hS H;refine ⟨fun h=>(by rw [h] at hr;cases hr),fun j hj=> ?_⟩
  by_cases hji:j=i
  · subst hji;exact hy.wpOp hi hS ⟨fun _=>hS,H⟩
  ·
   have hpend:=(mem_ready.1 hr).1;obtain ⟨hjun,oj,hoj,hall⟩:=mem_ready.1 hj
   have hbl:∀e∈oj.after,Region.binds md e=true->e.on≠i:=fun e he hb heq=>by
    have h1:=hall e he hb;rw [heq] at h1
    rcases Nat.lt_or_ge i listed.size with h'|h'
    · simp [h'] at hpend h1;rw [hpend] at h1;cases h1
    · simp [Array.getElem?_eq_none h'] at h1
   have hjg:j≠g:=by
    rintro rfl;obtain ⟨e,he,hb,heq⟩:=hwait;rw [hog] at hoj
    cases hoj
    exact hbl e he hb heq
   have h1:=H.2 j (ready_mono hj hji);have h2:=wpOp_putIf hoj (hfree j oj hoj hji hjun hbl) (fun cs b=>hsel i oi cs b hi) (fun cs b=>hsel j oj cs b hoj) hQ hy h1;have hg':(listed.setIfInBounds j true).getD g true=false:=by rw [getD_set_ne true hjg];exact hg
   have hgij:((listed.setIfInBounds i true).setIfInBounds j true).getD g true=false:=by rw [getD_set_ne true hjg,getD_set_ne true (Ne.symm hgi)];exact hg
   have hfree':∀m om,ops[m]? =some om->m≠i->(listed.setIfInBounds j true).getD m true=false->
     (∀e∈om.after,Region.binds md e=true->e.on≠i)->oi.apart ops om=true:=fun m om hm hmi hun hno=>by
    refine hfree m om hm hmi ?_ hno
    by_cases hjm:j=m
    · subst hjm;exact hjun
    · rw [getD_set_ne true hjm] at hun;exact hun
   refine wpOp_mono (fun a' w' h3=> ?_) h2;have hS':=h3.2.1 hgij;refine ⟨fun _=>hS',ih _ a' w' hg' hfree' (ready_mono hr (Ne.symm hji)) h3.1 hS' ?_⟩;rw [Array.setIfInBounds_comm _ _ hji];exact h3.2.2
def Ih (md:Region.Mode) (ops:Array Oper) (g i:Nat):Bool:=match ops[g]? with|some og=>og.after.any (fun e=>Region.binds md e&&e.on==i)|none=>false
theorem Xy {i:Nat} (h:Ih md ops g i=true):∃og,ops[g]? =some og/\∃e∈og.after,Region.binds md e=true/\e.on=i:=by
 unfold Ih at h
 split at h
 ·
  rename_i og hog;obtain ⟨e,he,hb⟩:=Array.any_eq_true'.1 h;simp only [Ao7,beq_iff_eq] at hb;exact ⟨og,hog,e,he,hb.1,hb.2⟩
 · cases h
end
theorem Ep {P:Program} {Q:Exit->Act->World->Prop} {md:Region.Mode} {S:World->Prop} {g:Nat} {l:List Oper} {i:Nat} {d:Tmp} {op:Op} {ty:TypeId} {pos:String} {after:Array Edge} {gd:Option (Nat × Bool)} {v:Value} {fuel:Nat} {listed:Array Bool} {tl:List Value} {ds:List Deferred} {w:World} (hi:l[i]? =some ⟨some d,op,ty,pos,after,gd⟩)
  (hgate:(listed.getD g true==false&&g !=i&&Ih md l.toArray g i)=true)
  (hs:Region.noSelect l.toArray=true) (hf:Region.free md l.toArray listed i=true) (hr:(Region.ready md l.toArray listed).contains i=true)
  (hQ:∀c a w,Q (.panic c) (a.put (some d) v) w->Q (.panic c) a w) (hy:YieldsIf P l.toArray S ⟨some d,op,ty,pos,after,gd⟩ v ⟨tl.toArray,ds⟩) (hS:S w)
  (h:Cx P md l.toArray Q S g fuel (listed.setIfInBounds i true) ⟨(tl.set d v).toArray,ds⟩ w):Cx P md l.toArray Q S g (fuel+1) listed ⟨tl.toArray,ds⟩ w:=by
 simp only [Ao7,beq_iff_eq,bne_iff_ne] at hgate;obtain ⟨og,hog,hwait⟩:=Xy hgate.2;have hi':l.toArray[i]? =some ⟨some d,op,ty,pos,after,gd⟩:=by rw [Ao8];exact hi
 exact Xx hi' hog hgate.1.2 hwait (Region.noSelect_spec hs) hQ fuel listed _ w hgate.1.1 (Region.free_spec hi' hf) (by simpa using hr) hy hS (by rw [Ac];exact h)
theorem Bf {P:Program} {Q:Exit->Act->World->Prop} {l:List Oper} {md:Region.Mode} {S:World->Prop} {g fuel:Nat} {listed:Array Bool} {a:Act} {w:World} (i:Nat) {d:Option Tmp} {op:Op} {ty:TypeId} {pos:String} {after:Array Edge} (hr:Region.ready md l.toArray listed=[i]) (ho:l[i]? =some ⟨d,op,ty,pos,after,none⟩)
  (h:∀K':Act->World->Prop,Shut (∀a w,S w->(S w->Cx P md l.toArray Q S g fuel (listed.setIfInBounds i true) a w)->K' a w)->Oper.wp P ⟨d,op,ty,pos,after,none⟩ a w K' Q):
  Cx P md l.toArray Q S g (fuel+1) listed a w:=by
 refine ⟨fun h0=>(by rw [hr] at h0;cases h0),fun j hj=> ?_⟩;rw [hr] at hj;obtain rfl:=List.mem_singleton.1 hj;refine wpOp_step (o:=⟨d,op,ty,pos,after,none⟩) (by rw [Ao8];exact ho) (fun K' hK=> ?_);rw [if_pos (show Region.wanted _ _=true from rfl)];exact h K' (fun a w hS hW=>hK a w ⟨fun _=>hS,hW hS⟩)
theorem Cs {P:Program} {Q:Exit->Act->World->Prop} {l:List Oper} {md:Region.Mode} {S:World->Prop} {g fuel:Nat} {listed:Array Bool} {a:Act} {w:World} (hr:Region.ready md l.toArray listed=[g])
  (h:wpAnyH P md l.toArray Q (fun _=>True) (fuel+1) listed a w):Cx P md l.toArray Q S g (fuel+1) listed a w:=by
 refine ⟨h.1,fun j hj=>wpOp_mono (fun a' w' h'=> ?_) (h.2 j hj)⟩;rw [hr] at hj;obtain rfl:=List.mem_singleton.1 hj
 have hg':(listed.setIfInBounds j true).getD j true=true:=by
  by_cases hb:j<listed.size
  · simp [Ao2,hb]
  · simp [Ao2,hb]
 exact ⟨fun h0=>(by rw [hg'] at h0;cases h0),Xw _ _ _ _ hg' (wpAny_of_held _ _ _ _ h'.2)⟩
theorem Cy {P:Program} {Q:Exit->Act->World->Prop} {S:World->Prop} (g:Nat) {id:Nat} {l:List Oper} {a:Act} {w:World} (hm:P.follows .mixedOrders=true)
  (h:Cx P .any l.toArray Q S g l.toArray.size (Array.replicate l.toArray.size false) a w.drew):(Code.region id l.toArray true).wp P Q a w:=
 wp_region_any hm (Xv _ _ _ _ h)
theorem tkG (i:Nat) {P:Program} {Q:Exit->Act->World->Prop} {md:Region.Mode} {S:World->Prop} {gt:Nat} {l:List Oper} {d:Tmp} {op:Op} {ty:TypeId} {pos:String} {after:Array Edge} {g:Option (Nat × Bool)} {v:Value} {fuel:Nat} {listed:Array Bool} {tl:List Value} {ds:List Deferred} {w:World} (hS:S w) (hi:l[i]? =some ⟨some d,op,ty,pos,after,g⟩:=by rfl)
  (hgate:(listed.getD gt true==false&&gt !=i&&Ih md l.toArray gt i)=true:=by kernel_rfl)
  (hs:Region.noSelect l.toArray=true:=by kernel_rfl) (hf:Region.free md l.toArray listed i=true:=by kernel_rfl) (hr:(Region.ready md l.toArray listed).contains i=true:=by kernel_rfl)
  (hQ:∀c a w,Q (.panic c) (a.put (some d) v) w->Q (.panic c) a w:=by exact fun _ _ _ h=>h) (hy:YieldsIf P l.toArray S ⟨some d,op,ty,pos,after,g⟩ v ⟨tl.toArray,ds⟩:=by (refine Or.inl ⟨by kernel_rfl,?_⟩;intro w' hSw;(try dsimp only at hSw);(try simp only [zl]);go_simp;(try with_reducible rfl)))
  (h:Cx P md l.toArray Q S gt fuel (listed.setIfInBounds i true) ⟨(tl.set d v).toArray,ds⟩ w):
  Cx P md l.toArray Q S gt (fuel+1) listed ⟨tl.toArray,ds⟩ w:=Ep hi hgate hs hf hr hQ hy hS h
theorem Own.setAt {w:World} {base n c size:Nat} {t:TypeId} {A:Option Addr} {xs:List Value} (h:Own w base t size A n c xs) {j:Nat} (hj:j<n*size) (u:Value):
  ∃g,A=some ⟨g,0,none⟩/\base<=g/\g<w.heap.size/\(∀v,xs[j]? =some v->w.cell? ⟨g,j,none⟩=some v)/\w.frozen? ⟨g,j,none⟩=false/\Own (w.setCell ⟨g,j,none⟩ u) base t size A n c (xs.set j u):=by
 rcases h.2 with ⟨_,h0⟩|⟨g,cap,cur,hv,hb,hg,h1,h2,h3,h4⟩
 ·
  subst h0;omega
 ·
  injection hv with hA hn hc
  have hblk:Blk w g t cur:=hg;have hset:=hblk.set j u;refine ⟨g,hA,hb,hblk.lt,?_,hblk.frozen j,?_⟩
  ·
   intro v hv';rw [hblk.cell j];rw [<- h4,List.getElem?_take_of_lt hj] at hv';simpa using hv'
  ·
   refine ⟨by rw [List.length_set];exact h.1,.inr ⟨g,cap,cur.setIfInBounds j u,?_,hb,hset,h1,h2,by simpa using h3,?_⟩⟩
   · subst hA hc;rfl
   · rw [Array.toList_setIfInBounds,List.take_set,h4]
theorem Gy {α:Type} {f:α->List Value} {size:Nat} (hf:∀x,(f x).length=size) {j:Nat} (hj:j<size) (v:Value) (y:α):∀(l:List α) (k:Nat) (x:α),l[k]? =some x->(f x).set j v=f y->
  (l.flatMap f).set (k*size+j) v=(l.set k y).flatMap f:=by
 intro l
 induction l with
 |nil=>intro k x hx _;simp at hx
 |cons a r ih=>
  intro k x hx hy
  cases k with
  |zero=>
   simp only [List.getElem?_cons_zero,Option.some.injEq] at hx;subst hx;rw [Ao3,List.set_cons_zero,Ao3,An5,An4,List.set_append_left _ _ (by rw [hf];exact hj),hy]
  |succ m=>
   rw [List.getElem?_cons_succ] at hx;rw [Ao3,List.set_cons_succ,Ao3,List.set_append_right _ _ (by rw [hf,Nat.add_mul];omega),hf,show (m+1)*size+j-size=m*size+j by rw [Nat.add_mul];omega,ih m x hx hy]
theorem Pc {α β:Type} (nd:α->β) (l:List α) (k:Nat) {y y':α} (h:l[k]? =some y) (e:nd y'=nd y):(l.set k y').map nd=l.map nd:=by
 rw [List.map_set,e];apply List.ext_getElem?;intro i;rw [List.getElem?_set]
 by_cases hi:k=i
 ·
  subst hi;rw [List.getElem?_map,h];have hk:k<(l.map nd).length:=by rw [An8];exact (List.getElem?_eq_some_iff.1 h).1
  simp [(List.getElem?_eq_some_iff.1 h).1]
 · rw [if_neg hi]
theorem Pd {α:Type} (l m:List α) (k:Nat) (y':α) (h:l.drop k=m.drop k):(l.set k y').drop (k+1)=m.drop (k+1):=by
 rw [Ao9 (by omega)];have h2:=congrArg (Ao5 1) h;rwa [Ao1,Ao1] at h2
theorem Kr {α:Type} (l:List α) (k:Nat) {y:α} (y':α) (h:l[k]? =some y):(l.set k y').take (k+1)=l.take k++[y']:=by
 have hk:=(List.getElem?_eq_some_iff.1 h).1;rw [Ap0 (by rw [List.length_set];exact hk),List.take_set_of_le (by omega)];simp
theorem Ks {α:Type} {l m:List α} {k:Nat} (h:l.drop k=m.drop k):l[k]? =m[k]? :=by
 have h2:=congrArg (fun t=>t[0]?) h;simpa [List.getElem?_drop] using h2
namespace Oq
attribute [local go_sem ↓] Cg
theorem Ii {α:Type} (f:α->Value) (hf:∀a,(f a).oneCell'=true) (l:List α):∀v∈l.map f,v.oneCell'=true:=by
 intro v hv;obtain ⟨y,_,rfl⟩:=List.mem_map.1 hv;exact hf y
theorem Ij {α:Type} (f:α->List Value) (hf:∀a,∀v∈f a,v.oneCell'=true) (l:List α):∀v∈l.flatMap f,v.oneCell'=true:=by
 intro v hv;obtain ⟨y,_,hy⟩:=List.mem_flatMap.1 hv;exact hf y v hy
theorem Pe (l:List Bx):∀v∈l.flatMap Bx.cells,v.oneCell'=true:=Ij _ (fun a v hv=>by simp [Bx.cells] at hv;rcases hv with rfl|rfl|rfl|rfl<;>rfl) l
theorem Xz (l:List NdL):∀v∈l.flatMap NdL.cells,v.oneCell'=true:=Ij _ (fun a v hv=>by simp [NdL.cells] at hv;rcases hv with rfl|rfl<;>rfl) l
theorem Ya (l:List SlL):∀v∈l.flatMap SlL.cells,v.oneCell'=true:=Ij _ (fun a v hv=>by simp [SlL.cells] at hv;rcases hv with rfl|rfl|rfl|rfl<;>rfl) l
def Ku (o:Op) (w:World) (r:Ending) (w':World):Prop:=
 ∃y:OpL,r=.returned (.agg y.cells)/\y.op=o/\y.own w' w.heap.size/\Fr Non w w'
theorem Yb (x:OpL) (w:World) (hat:x.at w w.heap.size) (hok:x.op.ok):Calls zp 63 #[.agg x.cells] w (Ku x.op w):=by
 have hi:(zp.info? 44).map (·.size)=some 27:=by kernel_rfl
 have ah:Blk ((w.alloc (.cells x.cells 44)).alloc (.cells zO 44)) w.heap.size 44 x.cells:=(Blk.new w 44 x.cells).alloc _
 have cb:Blk ((w.alloc (.cells x.cells 44)).alloc (.cells zO 44)) (w.heap.size+1) 44 zO:=by
  have:=Blk.new (w.alloc (.cells x.cells 44)) 44 zO;rwa [An3] at this
 have dm:((w.alloc (.cells x.cells 44)).alloc (.cells zO 44)).heap.size=w.heap.size+2:=by rw [An3,An3]
 have bu:Fr Non w ((w.alloc (.cells x.cells 44)).alloc (.cells zO 44)):=((Fr.refl Non w).alloc _).alloc _;have bp:=OpL.frame hat bu;have cd:x.guards.length<=1000000:=by have h:=hok.guards.1;rw [show x.op.guards=x.guards from rfl] at h;omega
 have dr:x.refs.length<=1000000:=by have h:=hok.refs.1;rw [show x.op.refs=x.refs from rfl] at h;omega
 have cq:x.boxes.length<=1000000:=by have h:=hok.boxes.1;rw [show x.op.boxes=x.boxes from rfl] at h;omega
 have dx:x.past.length<=1000000:=by have h:=hok.past.1;rw [show x.op.past=x.past from rfl] at h;omega
 have bv:x.path.length<=1000000:=by have h:=hok.path.1;rw [show x.op.path=x.path.map NdL.nd from rfl,An8] at h;omega
 have b0:x.hist.length<=1000000:=by have h:=hok.hist.1;rw [show x.op.hist=x.hist.map SlL.sl from rfl,An8] at h;omega
 have dg:x.body.length<=1000000:=by have h:=hok.body;rw [show x.op.body=x.body from rfl] at h;omega
 have a4:Hid (∀y∈x.path,y.xs.length<=1000000):=fun y hy=>by have h:=(hok.path.2 y.nd (List.mem_map.2 ⟨y,hy,rfl⟩)).2.1;rw [show y.nd.xs=y.xs from rfl] at h;omega
 have bd:Hid (∀y∈x.hist,y.y.length<=1000000):=fun y hy=>by have h:=(hok.hist.2 y.sl (List.mem_map.2 ⟨y,hy,rfl⟩)).2;rw [show y.sl.y=y.y from rfl] at h;omega
 have az:Hid (∀(y:OpL) (w':World),y.op=x.op->y.own w' w.heap.size->Fr Non w w'->Ku x.op w (.returned (.agg y.cells)) w'):=fun y w' h1 h2 h3=>⟨y,rfl,h1,h2,h3⟩;generalize Ku x.op w=POST at*;go_enter func63,ntmps63;go_upto_region 1 with (fail)
 generalize ((w.alloc (.cells x.cells 44)).alloc (.cells zO 44))=w0 at*;obtain ⟨CS,ay⟩:=Aa x.cells;rw [ay.out] at ah;have e4:Hid (CS[4]? =some (.slice x.pastA x.past.length x.pastC)):=by show _=_;rw [<- ay.out];rfl
 have cv:Hid (CS[14]? =some (.slice x.bodyA x.body.length x.bodyC)):=by show _=_;rw [<- ay.out];rfl
 have de:Hid (CS[15]? =some (.slice x.refsA x.refs.length x.refsC)):=by show _=_;rw [<- ay.out];rfl
 have da:Hid (CS[19]? =some (.slice x.guardsA x.guards.length x.guardsC)):=by show _=_;rw [<- ay.out];rfl
 have cg:Hid (CS[22]? =some (.slice x.boxesA x.boxes.length x.boxesC)):=by show _=_;rw [<- ay.out];rfl
 refine Cy (S:=(fun w'=>Blk w' w.heap.size 44 CS)) 16 (by kernel_rfl) ?_;replace ah:Blk w0.drew w.heap.size 44 CS:=ah.drew;replace cb:=cb.drew;replace bu:=bu.drew;replace bp:=OpL.frame bp ((Fr.refl Non w0).drew);refine tkG 0 ah (h:=?_);simp only [zl];refine Ep (i:=1) (v:=?_) rfl (by kernel_rfl) (by kernel_rfl) (by kernel_rfl) (by kernel_rfl) (fun _ _ _ h=>h) (Or.inl ⟨by kernel_rfl,?_⟩) ah ?_;rotate_left
 focus (intro w' ac;have hB:=ac;have q:w'.cell? ⟨w.heap.size,4,none⟩=some _:=(hB.cell 4).trans e4.out;(try dsimp only at ac);go_simp;(try with_reducible rfl))
 simp only [zl];refine tkG 3 ah (h:=?_);simp only [zl];refine Ep (i:=4) (v:=?_) rfl (by kernel_rfl) (by kernel_rfl) (by kernel_rfl) (by kernel_rfl) (fun _ _ _ h=>h) (Or.inl ⟨by kernel_rfl,?_⟩) ah ?_;rotate_left
 focus (intro w' ac;have hB:=ac;have q:w'.cell? ⟨w.heap.size,14,none⟩=some _:=(hB.cell 14).trans cv.out;(try dsimp only at ac);go_simp;(try with_reducible rfl))
 simp only [zl];refine tkG 6 ah (h:=?_);simp only [zl];refine Ep (i:=7) (v:=?_) rfl (by kernel_rfl) (by kernel_rfl) (by kernel_rfl) (by kernel_rfl) (fun _ _ _ h=>h) (Or.inl ⟨by kernel_rfl,?_⟩) ah ?_;rotate_left
 focus (intro w' ac;have hB:=ac;have q:w'.cell? ⟨w.heap.size,15,none⟩=some _:=(hB.cell 15).trans de.out;(try dsimp only at ac);go_simp;(try with_reducible rfl))
 simp only [zl];refine tkG 9 ah (h:=?_);simp only [zl];refine Ep (i:=10) (v:=?_) rfl (by kernel_rfl) (by kernel_rfl) (by kernel_rfl) (by kernel_rfl) (fun _ _ _ h=>h) (Or.inl ⟨by kernel_rfl,?_⟩) ah ?_;rotate_left
 focus (intro w' ac;have hB:=ac;have q:w'.cell? ⟨w.heap.size,19,none⟩=some _:=(hB.cell 19).trans da.out;(try dsimp only at ac);go_simp;(try with_reducible rfl))
 simp only [zl];refine tkG 12 ah (h:=?_);simp only [zl];refine Ep (i:=13) (v:=?_) rfl (by kernel_rfl) (by kernel_rfl) (by kernel_rfl) (by kernel_rfl) (fun _ _ _ h=>h) (Or.inl ⟨by kernel_rfl,?_⟩) ah ?_;rotate_left
 focus (intro w' ac;have hB:=ac;have q:w'.cell? ⟨w.heap.size,22,none⟩=some _:=(hB.cell 22).trans cg.out;(try dsimp only at ac);go_simp;(try with_reducible rfl))
 simp only [zl];refine Bf 2 (by kernel_rfl) rfl (fun K hK=> ?_);go_simp;go_wp2_with (go_at_call 81;(with_reducible refine (O9 _ _ _ _ _ _ bp.past.rd (Id.cells_one _) (by omega)).mono ?_);rintro _ w1 ⟨A1,c1,rfl,o1,f1⟩;have b6:=ah.fr f1 zq;have dn:=cb.fr f1 zq;have c0:=OpL.frame bp f1;have dh:=bu.trans f1 zr;have d2:=f1.size);refine hK.out _ _ b6 (fun hZ=> ?_);clear hZ hK K;try simp only [Ad,zl]
 refine tkG 15 b6 (h:=?_);simp only [zl];refine Bf 5 (by kernel_rfl) rfl (fun K hK=> ?_);go_simp;go_wp2_with (go_at_call 119;(with_reducible refine (Pa _ _ _ _ _ _ c0.body.rd (Ii Bv (fun _=>rfl) _) (by omega)).mono ?_);rintro _ w2 ⟨A2,c2,rfl,o2,f2⟩;have cm:=b6.fr f2 zq;have dk:=dn.fr f2 zq;have db:=OpL.frame c0 f2;have bg:=dh.trans f2 zr;have d9:=f2.size);refine hK.out _ _ cm (fun hZ=> ?_);clear hZ hK K;try simp only [Ad,zl]
 refine Bf 8 (by kernel_rfl) rfl (fun K hK=> ?_);go_simp;go_wp2_with (go_at_call 120;(with_reducible refine (Xo _ _ _ _ _ _ db.refs.rd (Ii Uv (fun _=>rfl) _) (by omega)).mono ?_);rintro _ w3 ⟨A3,c3,rfl,o3,f3⟩;have c6:=cm.fr f3 zq;have dq:=dk.fr f3 zq;have c9:=OpL.frame db f3;have ds:=bg.trans f3 zr;have d6:=f3.size);refine hK.out _ _ c6 (fun hZ=> ?_);clear hZ hK K;try simp only [Ad,zl]
 refine Bf 11 (by kernel_rfl) rfl (fun K hK=> ?_);go_simp;go_wp2_with (go_at_call 121;(with_reducible refine (Xp _ _ _ _ _ _ c9.guards.rd (Ii Iv (fun _=>rfl) _) (by omega)).mono ?_);rintro _ w4 ⟨A4,c4,rfl,o4,f4⟩;have cw:=c6.fr f4 zq;have dt:=dq.fr f4 zq;have cu:=OpL.frame c9 f4;have dp:=ds.trans f4 zr;have ef:=f4.size);refine hK.out _ _ cw (fun hZ=> ?_);clear hZ hK K;try simp only [Ad,zl]
 refine Bf 14 (by kernel_rfl) rfl (fun K hK=> ?_);go_simp;go_wp2_with (go_at_call 122;(with_reducible refine (Pb _ _ _ _ _ _ cu.boxes.rd (Pe _) (by omega)).mono ?_);rintro _ w5 ⟨A5,c5,rfl,o5,f5⟩;have aj:=cw.fr f5 zq;have dv:=dt.fr f5 zq;have er:=OpL.frame cu f5;have cx:=dp.trans f5 zr;have ej:=f5.size);refine hK.out _ _ aj (fun hZ=> ?_);clear hZ hK K;try simp only [Ad,zl]
 refine Cs (by kernel_rfl) ?_;have k4:cS w5 w.heap.size 4 x.pastA x.past.length x.pastC:=(aj.cell 4).trans e4.out;have z4:=aj.frozen 4;have d3:cS w5 w.heap.size 14 x.bodyA x.body.length x.bodyC:=(aj.cell 14).trans cv.out;have ep:=aj.frozen 14;have ei:cS w5 w.heap.size 15 x.refsA x.refs.length x.refsC:=(aj.cell 15).trans de.out;have en:=aj.frozen 15;have d7:cS w5 w.heap.size 19 x.guardsA x.guards.length x.guardsC:=(aj.cell 19).trans da.out;have ea:=aj.frozen 19;have eh:cS w5 w.heap.size 22 x.boxesA x.boxes.length x.boxesC:=(aj.cell 22).trans cg.out;have em:=aj.frozen 22;refine oG 16 (fun K hK=> ?_);go_simp;refine hK.out _ _ trivial (fun hZ=> ?_);clear hZ hK K;try simp only [Ad,zl]
 refine oG 17 (fun K hK=> ?_);go_simp;refine hK.out _ _ trivial (fun hZ=> ?_);clear hZ hK K;try simp only [Ad,zl]
 refine oG 18 (fun K hK=> ?_);go_simp;refine hK.out _ _ trivial (fun hZ=> ?_);clear hZ hK K;try simp only [Ad,zl]
 refine oG 19 (fun K hK=> ?_);go_simp;refine hK.out _ _ trivial (fun hZ=> ?_);clear hZ hK K;try simp only [Ad,zl]
 refine oG 20 (fun K hK=> ?_);go_simp;refine hK.out _ _ trivial (fun hZ=> ?_);clear hZ hK K;try simp only [Ad,zl]
 refine oG 21 (fun K hK=> ?_);go_simp;refine hK.out _ _ trivial (fun hZ=> ?_);clear hZ hK K;try simp only [Ad,zl]
 refine oG 22 (fun K hK=> ?_);go_simp;refine hK.out _ _ trivial (fun hZ=> ?_);clear hZ hK K;try simp only [Ad,zl]
 refine oG 23 (fun K hK=> ?_);go_simp;refine hK.out _ _ trivial (fun hZ=> ?_);clear hZ hK K;try simp only [Ad,zl]
 refine oG 24 (fun K hK=> ?_);go_simp;refine hK.out _ _ trivial (fun hZ=> ?_);clear hZ hK K;try simp only [Ad,zl]
 refine oD ?_;go_simp;obtain ⟨bm,ap⟩:=Aa ({x with pastA:=A1,pastC:=c1,bodyA:=A2,bodyC:=c2,refsA:=A3,refsC:=c3,guardsA:=A4,guardsC:=c4,boxesA:=A5,boxesC:=c5}:OpL).cells
 have a0:Blk (((((w5.setCell ⟨w.heap.size,4,none⟩ (.slice A1 x.past.length c1)).setCell ⟨w.heap.size,14,none⟩ (.slice A2 x.body.length c2)).setCell ⟨w.heap.size,15,none⟩ (.slice A3 x.refs.length c3)).setCell ⟨w.heap.size,19,none⟩ (.slice A4 x.guards.length c4)).setCell ⟨w.heap.size,22,none⟩ (.slice A5 x.boxes.length c5)) w.heap.size 44 bm:=by
  rw [<- ap.out];rw [<- ay.out] at aj;exact ((((aj.set 4 _).set 14 _).set 15 _).set 19 _).set 22 _
 have au:Fr (One w.heap.size) w5 (((((w5.setCell ⟨w.heap.size,4,none⟩ (.slice A1 x.past.length c1)).setCell ⟨w.heap.size,14,none⟩ (.slice A2 x.body.length c2)).setCell ⟨w.heap.size,15,none⟩ (.slice A3 x.refs.length c3)).setCell ⟨w.heap.size,19,none⟩ (.slice A4 x.guards.length c4)).setCell ⟨w.heap.size,22,none⟩ (.slice A5 x.boxes.length c5)):=(((((Fr.refl (One w.heap.size) w5).setCell (p:=⟨w.heap.size,4,none⟩) (fun _=>rfl) _).setCell (p:=⟨w.heap.size,14,none⟩) (fun _=>rfl) _).setCell (p:=⟨w.heap.size,15,none⟩) (fun _=>rfl) _).setCell (p:=⟨w.heap.size,19,none⟩) (fun _=>rfl) _).setCell (p:=⟨w.heap.size,22,none⟩) (fun _=>rfl) _;have sd:w0.drew.heap.size=w.heap.size+2:=dm;have eo:w.heap.size+2<=(((((w5.setCell ⟨w.heap.size,4,none⟩ (.slice A1 x.past.length c1)).setCell ⟨w.heap.size,14,none⟩ (.slice A2 x.body.length c2)).setCell ⟨w.heap.size,15,none⟩ (.slice A3 x.refs.length c3)).setCell ⟨w.heap.size,19,none⟩ (.slice A4 x.guards.length c4)).setCell ⟨w.heap.size,22,none⟩ (.slice A5 x.boxes.length c5)).heap.size:=by have h1:=au.size;omega
 have cc:=dv.fr au (fun e=>by have e':w.heap.size+1=w.heap.size:=e;omega);have ao:x.at (((((w5.setCell ⟨w.heap.size,4,none⟩ (.slice A1 x.past.length c1)).setCell ⟨w.heap.size,14,none⟩ (.slice A2 x.body.length c2)).setCell ⟨w.heap.size,15,none⟩ (.slice A3 x.refs.length c3)).setCell ⟨w.heap.size,19,none⟩ (.slice A4 x.guards.length c4)).setCell ⟨w.heap.size,22,none⟩ (.slice A5 x.boxes.length c5)) w.heap.size:=(hat.fr cx zr).fr au (fun j hj e=>by have e':j=w.heap.size:=e;omega);have bw:Fr Non w (((((w5.setCell ⟨w.heap.size,4,none⟩ (.slice A1 x.past.length c1)).setCell ⟨w.heap.size,14,none⟩ (.slice A2 x.body.length c2)).setCell ⟨w.heap.size,15,none⟩ (.slice A3 x.refs.length c3)).setCell ⟨w.heap.size,19,none⟩ (.slice A4 x.guards.length c4)).setCell ⟨w.heap.size,22,none⟩ (.slice A5 x.boxes.length c5)):=cx.trans au (fun j hj e=>by have e':j=w.heap.size:=e;omega);have p1:=((o1.fr (((f2.trans f3 zr).trans f4 zr).trans f5 zr) zr).lower (base':=w.heap.size+2) (by omega)).fr au (fun j hj e=>by have h1:=(o1.row j hj).1;have e':j=w.heap.size:=e;omega);have p2:=((o2.fr ((f3.trans f4 zr).trans f5 zr) zr).lower (base':=w.heap.size+2) (by omega)).fr au (fun j hj e=>by have h1:=(o2.row j hj).1;have e':j=w.heap.size:=e;omega);have p3:=((o3.fr (f4.trans f5 zr) zr).lower (base':=w.heap.size+2) (by omega)).fr au (fun j hj e=>by have h1:=(o3.row j hj).1;have e':j=w.heap.size:=e;omega);have p4:=((o4.fr (f5) zr).lower (base':=w.heap.size+2) (by omega)).fr au (fun j hj e=>by have h1:=(o4.row j hj).1;have e':j=w.heap.size:=e;omega);have p5:=(o5.lower (base':=w.heap.size+2) (by omega)).fr au (fun j hj e=>by have h1:=(o5.row j hj).1;have e':j=w.heap.size:=e;omega);clear ay ah b6 cm c6 cw aj cb dn dk dq dt dv bu dh bg ds dp cx bp c0 db c9 cu er f1 f2 f3 f4 f5 au o1 o2 o3 o4 o5 e4 cv de da cg k4 d3 ei d7 eh z4 ep en ea em d2 d9 d6 ef ej sd dm;generalize (((((w5.setCell ⟨w.heap.size,4,none⟩ (.slice A1 x.past.length c1)).setCell ⟨w.heap.size,14,none⟩ (.slice A2 x.body.length c2)).setCell ⟨w.heap.size,15,none⟩ (.slice A3 x.refs.length c3)).setCell ⟨w.heap.size,19,none⟩ (.slice A4 x.guards.length c4)).setCell ⟨w.heap.size,22,none⟩ (.slice A5 x.boxes.length c5))=w6 at*;clear w5 w4 w3 w2 w1 w0;have e9:Hid (bm[9]? =some (.slice x.pathA x.path.length x.pathC)):=by show _=_;rw [<- ap.out];rfl
 have bf:Hid (bm[24]? =some (.slice x.histA x.hist.length x.histC)):=by show _=_;rw [<- ap.out];rfl
 go_wp2_with fail;refine Cy (S:=(fun w'=>Blk w' w.heap.size 44 bm)) 7 (by kernel_rfl) ?_;replace a0:Blk w6.drew w.heap.size 44 bm:=a0.drew;replace cc:=cc.drew;replace bw:=bw.drew;replace ao:=ao.fr ((Fr.refl Non w6).drew) zr;have eu:w.heap.size<=w6.drew.heap.size:=bw.size;have ed:w.heap.size+2<=w6.drew.heap.size:=by have h1:=eo;exact h1
 replace p1:=p1.drew;replace p2:=p2.drew;replace p3:=p3.drew;replace p4:=p4.drew;replace p5:=p5.drew;refine tkG 0 a0 (h:=?_);simp only [zl];refine Ep (i:=1) (v:=?_) rfl (by kernel_rfl) (by kernel_rfl) (by kernel_rfl) (by kernel_rfl) (fun _ _ _ h=>h) (Or.inl ⟨by kernel_rfl,?_⟩) a0 ?_;rotate_left
 focus (intro w' ac;have hB:=ac;have q:w'.cell? ⟨w.heap.size,9,none⟩=some _:=(hB.cell 9).trans e9.out;(try dsimp only at ac);go_simp;(try with_reducible rfl))
 simp only [zl];refine tkG 3 a0 (h:=?_);simp only [zl];refine Ep (i:=4) (v:=?_) rfl (by kernel_rfl) (by kernel_rfl) (by kernel_rfl) (by kernel_rfl) (fun _ _ _ h=>h) (Or.inl ⟨by kernel_rfl,?_⟩) a0 ?_;rotate_left
 focus (intro w' ac;have hB:=ac;have q:w'.cell? ⟨w.heap.size,24,none⟩=some _:=(hB.cell 24).trans bf.out;(try dsimp only at ac);go_simp;(try with_reducible rfl))
 simp only [zl];refine Bf 2 (by kernel_rfl) rfl (fun K hK=> ?_);go_simp;go_wp2_with (go_at_call 123;(with_reducible refine (Xq _ _ _ _ _ _ ao.path.rd (Xz _) (by omega)).mono ?_);rintro _ w7 ⟨A7,c7,rfl,o7,f7⟩;have b9:=a0.fr f7 zq;have du:=cc.fr f7 zq;have ba:=ao.fr f7 zr;have dw:=bw.trans f7 zr;have et:=f7.size);refine hK.out _ _ b9 (fun hZ=> ?_);clear hZ hK K;try simp only [Ad,zl]
 refine tkG 6 b9 (h:=?_);simp only [zl];refine Bf 5 (by kernel_rfl) rfl (fun K hK=> ?_);go_simp;go_wp2_with (go_at_call 124;(with_reducible refine (Xt _ _ _ _ _ _ ba.hist.rd (Ya _) (by omega)).mono ?_);rintro _ w8 ⟨A8,c8,rfl,o8,f8⟩;have a2:=b9.fr f8 zq;have dz:=du.fr f8 zq;have bq:=ba.fr f8 zr;have dy:=dw.trans f8 zr;have ev:=f8.size);refine hK.out _ _ a2 (fun hZ=> ?_);clear hZ hK K;try simp only [Ad,zl]
 refine Cs (by kernel_rfl) ?_;have k9:cS w8 w.heap.size 9 x.pathA x.path.length x.pathC:=(a2.cell 9).trans e9.out;have z9:=a2.frozen 9;have cn:cS w8 w.heap.size 24 x.histA x.hist.length x.histC:=(a2.cell 24).trans bf.out;have ee:=a2.frozen 24;refine oG 7 (fun K hK=> ?_);go_simp;refine hK.out _ _ trivial (fun hZ=> ?_);clear hZ hK K;try simp only [Ad,zl]
 refine oG 8 (fun K hK=> ?_);go_simp;refine hK.out _ _ trivial (fun hZ=> ?_);clear hZ hK K;try simp only [Ad,zl]
 refine oG 9 (fun K hK=> ?_);go_simp;refine hK.out _ _ trivial (fun hZ=> ?_);clear hZ hK K;try simp only [Ad,zl]
 refine oD ?_;go_simp;obtain ⟨ca,ax⟩:=Aa ({x with pastA:=A1,pastC:=c1,bodyA:=A2,bodyC:=c2,refsA:=A3,refsC:=c3,guardsA:=A4,guardsC:=c4,boxesA:=A5,boxesC:=c5,pathA:=A7,pathC:=c7,histA:=A8,histC:=c8}:OpL).cells
 have ck:Blk ((w8.setCell ⟨w.heap.size,9,none⟩ (.slice A7 x.path.length c7)).setCell ⟨w.heap.size,24,none⟩ (.slice A8 x.hist.length c8)) w.heap.size 44 ca:=by
  rw [<- ax.out];rw [<- ap.out] at a2;exact (a2.set 9 _).set 24 _
 have ak:Fr (One w.heap.size) w8 ((w8.setCell ⟨w.heap.size,9,none⟩ (.slice A7 x.path.length c7)).setCell ⟨w.heap.size,24,none⟩ (.slice A8 x.hist.length c8)):=((Fr.refl (One w.heap.size) w8).setCell (p:=⟨w.heap.size,9,none⟩) (fun _=>rfl) _).setCell (p:=⟨w.heap.size,24,none⟩) (fun _=>rfl) _;have dj:=dz.fr ak (fun e=>by have e':w.heap.size+1=w.heap.size:=e;omega);have a5:x.at ((w8.setCell ⟨w.heap.size,9,none⟩ (.slice A7 x.path.length c7)).setCell ⟨w.heap.size,24,none⟩ (.slice A8 x.hist.length c8)) w.heap.size:=bq.fr ak (fun j hj e=>by have e':j=w.heap.size:=e;omega);have di:Fr Non w ((w8.setCell ⟨w.heap.size,9,none⟩ (.slice A7 x.path.length c7)).setCell ⟨w.heap.size,24,none⟩ (.slice A8 x.hist.length c8)):=dy.trans ak (fun j hj e=>by have e':j=w.heap.size:=e;omega);have be:=f7.trans f8 zr;have ew:w8.heap.size<=((w8.setCell ⟨w.heap.size,9,none⟩ (.slice A7 x.path.length c7)).setCell ⟨w.heap.size,24,none⟩ (.slice A8 x.hist.length c8)).heap.size:=ak.size;have N6:w.heap.size+2<=w6.drew.heap.size:=ed;have b1:∀k,Ab A1=some k->w.heap.size+2<=k/\k<w6.drew.heap.size:=p1.row;have q1:=(p1.fr be zr).fr ak (fun j hj e=>by have h1:=(b1 j hj).1;have e':j=w.heap.size:=e;omega);have b2:∀k,Ab A2=some k->w.heap.size+2<=k/\k<w6.drew.heap.size:=p2.row;have q2:=(p2.fr be zr).fr ak (fun j hj e=>by have h1:=(b2 j hj).1;have e':j=w.heap.size:=e;omega);have b3:∀k,Ab A3=some k->w.heap.size+2<=k/\k<w6.drew.heap.size:=p3.row;have q3:=(p3.fr be zr).fr ak (fun j hj e=>by have h1:=(b3 j hj).1;have e':j=w.heap.size:=e;omega);have b4:∀k,Ab A4=some k->w.heap.size+2<=k/\k<w6.drew.heap.size:=p4.row;have q4:=(p4.fr be zr).fr ak (fun j hj e=>by have h1:=(b4 j hj).1;have e':j=w.heap.size:=e;omega);have b5:∀k,Ab A5=some k->w.heap.size+2<=k/\k<w6.drew.heap.size:=p5.row;have q5:=(p5.fr be zr).fr ak (fun j hj e=>by have h1:=(b5 j hj).1;have e':j=w.heap.size:=e;omega);have b7:=o7.row;have b8:=o8.row;have q7:=((o7.lower (base':=w.heap.size+2) N6).fr f8 zr).fr ak (fun j hj e=>by have h1:=(b7 j hj).1;have e':j=w.heap.size:=e;omega);have q8:=(o8.lower (base':=w.heap.size+2) (by omega)).fr ak (fun j hj e=>by have h1:=(b8 j hj).1;have e':j=w.heap.size:=e;omega);clear a0 b9 a2 cc du dz bw dw dy ao ba bq f7 f8 be ak o7 o8 p1 p2 p3 p4 p5 e9 bf k9 cn z9 ee ap;generalize ((w8.setCell ⟨w.heap.size,9,none⟩ (.slice A7 x.path.length c7)).setCell ⟨w.heap.size,24,none⟩ (.slice A8 x.hist.length c8))=w9 at*;have e9:Hid (ca[9]? =some (.slice A7 x.path.length c7)):=by show _=_;rw [<- ax.out];rfl
 have bf:Hid (ca[24]? =some (.slice A8 x.hist.length c8)):=by show _=_;rw [<- ax.out];rfl
 have k9:cS w9 w.heap.size 9 A7 x.path.length c7:=(ck.cell 9).trans e9.out;obtain ⟨np,ce⟩:=Aa x.path.length;obtain ⟨nh,cf⟩:=Aa x.hist.length;rw [ce.out] at k9 e9 bv q7;rw [cf.out] at bf b0 q8;go_wp2_with fail
 go_loopw [36] (fun v wr=>∃(k:Nat) (L:List NdL),v=.int .i64 (k:Int)/\k<=np/\Hid (L.map NdL.nd=x.path.map NdL.nd)/\Hid (L.drop k=x.path.drop k)/\Own wr (w.heap.size+2) 94 2 A7 np c7 (L.flatMap NdL.cells)/\Hid (∀y∈L.take k,Own wr w9.heap.size 148 4 y.A y.xs.length y.c (y.xs.flatMap Bx.cells))/\Fr (fun b=>Ab A7=some b) w9 wr) (fun v _=>np-(intOf v).toNat)
 case atStart=>exact ⟨0,x.path,rfl,by omega,rfl,rfl,q7,(fun _ h=>by simp at h),Fr.refl _ _⟩
 case round=>
  obtain ⟨k,L,rfl,hk,ad,ab,ae,aa,hf⟩:=hrel
  by_cases hlt:k<np
  ·
   obtain ⟨i1,i2,i3⟩:=ix k np
   obtain ⟨y,hy⟩:∃y,x.path[k]? =some y:=⟨_,An9 (by rw [ce.out];exact hlt)⟩;have aw:L[k]? =some y:=(Ks ab.out).trans hy;have ar:=Ao6 hy;have dc:=a4.out y ar;obtain ⟨g,hA,cp,eg,af,bh,_⟩:=Own.setAt ae (j:=k*2+1) (by omega) (.int .i64 0);have a3:=(a5.nodes y ar).fr hf (fun j hj e=>by have h1:=(b7 j e).1;omega);have d0:cS wr g (k*2+1) y.A y.xs.length y.c:=af _ (by rw [E6 (f:=NdL.cells) (fun _=>rfl) L k 1 y aw (by omega)];rfl);have kk:cS wr w.heap.size 9 A7 np c7:=hf.cell k9 (fun e=>by have h1:w6.drew.heap.size<=w.heap.size:=(b7 _ e).1;omega);have d4:w.heap.size+2<=g:=cp;rw [hA] at kk
   have ag:∀(wv:World) (u:Value),Fr Non wr wv->cS wv g (k*2+1) y.A y.xs.length y.c/\wv.frozen? ⟨g,k*2+1,none⟩=false/\Own (wv.setCell ⟨g,k*2+1,none⟩ u) (w.heap.size+2) 94 2 A7 np c7 ((L.flatMap NdL.cells).set (k*2+1) u):=by
    intro wv u br;obtain ⟨g2,bt,_,_,d8,bj,cr⟩:=Own.setAt (ae.fr br zr) (j:=k*2+1) (by omega) u;rw [hA] at bt;have cz:g=g2:=by injection bt with e;injection e
    subst cz;exact ⟨br.cell d0 zq,bj,cr⟩
   replace ag:=lh ag;replace hA:=lh hA;clear af bh;go_upto_region 6 with (fail)
   refine Cy (S:=(fun w'=>cS w' w.heap.size 9 (some ⟨g,0,none⟩) np c7/\cS w' g (k*2+1) y.A y.xs.length y.c)) 10 (by kernel_rfl) ?_;have hS:(fun w'=>cS w' w.heap.size 9 (some ⟨g,0,none⟩) np c7/\cS w' g (k*2+1) y.A y.xs.length y.c) wr.drew:=⟨kk,d0⟩;have fd:Fr Non wr wr.drew:=(Fr.refl Non wr).drew;have ci:Rd wr.drew w.heap.size 4 y.A y.xs.length (y.xs.flatMap Bx.cells):=And.left (a3.fr fd zr);refine tkG 0 hS (h:=tkG 1 hS (h:=tkG 2 hS (h:=tkG 3 hS (h:=tkG 4 hS (h:=tkG 5 hS (h:=tkG 6 hS (h:=tkG 7 hS (h:=tkG 8 hS (h:=?_)))))))));simp only [zl];refine Bf 9 (by kernel_rfl) rfl (fun K hK=> ?_);go_simp;go_wp2_with (go_at_call 122;go_loud (with_reducible refine (Pb _ _ _ _ _ _ ci (Pe _) dc).mono ?_);rintro _ wv ⟨A',c',rfl,ov,fv⟩);have av:=fd.trans fv zr;obtain ⟨d1,z1,dd⟩:=ag.out wv (.slice A' y.xs.length c') av;refine hK.out _ _ ⟨av.cell kk zq,d1⟩ (fun hZ=> ?_);clear hZ hK K;try simp only [Ad,zl]
   refine Cs (by kernel_rfl) ?_;refine oG 10 (fun K hK=> ?_);go_simp;refine hK.out _ _ trivial (fun hZ=> ?_);clear hZ hK K;try simp only [Ad,zl]
   refine oG 11 (fun K hK=> ?_);go_simp;refine hK.out _ _ trivial (fun hZ=> ?_);clear hZ hK K;try simp only [Ad,zl]
   refine oG 12 (fun K hK=> ?_);go_simp;refine hK.out _ _ trivial (fun hZ=> ?_);clear hZ hK K;try simp only [Ad,zl]
   refine oD ?_;go_simp;have ex:∃y':NdL,y'={y with A:=A',c:=c'}:=⟨_,rfl⟩;obtain ⟨y',a9⟩:=ex
   have bb:Own (wv.setCell ⟨g,k*2+1,none⟩ (.slice A' y.xs.length c')) (w.heap.size+2) 94 2 A7 np c7 ((L.set k y').flatMap NdL.cells):=by
    rw [<- Gy (f:=NdL.cells) (size:=2) (fun _=>rfl) (j:=1) (by omega) (.slice A' y.xs.length c') y' L k y aw (by rw [a9];rfl)];exact dd
   have fs:Fr (One g) wv (wv.setCell ⟨g,k*2+1,none⟩ (.slice A' y.xs.length c')):=(Fr.refl (One g) wv).setCell (p:=⟨g,k*2+1,none⟩) (fun _=>rfl) _;have bo:Ab A7=some g:=by rw [hA.out];rfl
   have cj:=hf.size
   have al:Hid (∀z∈(L.set k y').take (k+1),Own (wv.setCell ⟨g,k*2+1,none⟩ (.slice A' y.xs.length c')) w9.heap.size 148 4 z.A z.xs.length z.c (z.xs.flatMap Bx.cells)):=by
    intro z hz;rw [Kr L k y' aw] at hz;have el:g<w9.heap.size:=by have h1:=(b7 g bo).2;omega
    rcases List.mem_append.1 hz with hz|hz
    · exact ((aa.out z hz).fr av zr).fr fs (fun j hj e=>by have h1:=((aa.out z hz).row j hj).1;have e':j=g:=e;omega)
    ·
     obtain rfl:=List.mem_singleton.1 hz;subst a9;exact (ov.lower cj).fr fs (fun j hj e=>by have h1:=(ov.row j hj).1;have h2:wr.drew.heap.size=wr.heap.size:=rfl;have e':j=g:=e;omega)
   have bg:Fr (fun b=>Ab A7=some b) w9 (wv.setCell ⟨g,k*2+1,none⟩ (.slice A' y.xs.length c')):=(hf.trans av (fun _ _ e=>e.elim)).trans fs (fun j hj e=>by have e':j=g:=e;subst e';exact bo);have a6:Hid ((L.set k y').map NdL.nd=x.path.map NdL.nd):=(Pc NdL.nd L k aw (by rw [a9];rfl)).trans ad.out;have aq:Hid ((L.set k y').drop (k+1)=x.path.drop (k+1)):=Pd _ _ k y' ab.out;generalize wv.setCell ⟨g,k*2+1,none⟩ (.slice A' y.xs.length c')=ws at*;generalize L.set k y'=L2 at*;go_wp2_with fail;go_roundw
   case rel=>exact ⟨k+1,L2,by go_num,by omega,a6,aq,bb,al,bg⟩
   case measure=>simp [intOf];omega
  ·
   obtain rfl:np=k:=by omega
   have a7:L.length=x.path.length:=by have h1:=congrArg List.length ad.out;rwa [An8,An8] at h1
   rw [Ao4 (by rw [a7,ce.out];exact Ao0 _)] at aa;obtain ⟨bi,ct⟩:∃u,u=wr:=⟨_,rfl⟩;subst ct;have d5:=hf.size;have bx:=ck.fr hf (fun e=>by have h1:w6.drew.heap.size<=w.heap.size:=(b7 _ e).1;omega);have ch:=dj.fr hf (fun e=>by have h1:w6.drew.heap.size<=w.heap.size+1:=(b7 _ e).1;omega);have bz:=a5.fr hf (fun j hj e=>by have h1:=(b7 j e).1;omega);have cl:=di.trans hf (fun j hj e=>by have h1:=(b7 j e).1;omega);have t1:=q1.fr hf (fun j hj e=>by have h1:=(b1 j hj).2;have h2:=(b7 j e).1;omega);have t2:=q2.fr hf (fun j hj e=>by have h1:=(b2 j hj).2;have h2:=(b7 j e).1;omega);have t3:=q3.fr hf (fun j hj e=>by have h1:=(b3 j hj).2;have h2:=(b7 j e).1;omega);have t4:=q4.fr hf (fun j hj e=>by have h1:=(b4 j hj).2;have h2:=(b7 j e).1;omega);have t5:=q5.fr hf (fun j hj e=>by have h1:=(b5 j hj).2;have h2:=(b7 j e).1;omega);have t8:=q8.fr hf (fun j hj e=>by have h1:=(b8 j hj).1;have h2:=(b7 j e).2;omega);have t7:=ae;have a1:=ad;have ai:=aa;have bs:=lh a7;clear ad aa ab ae hlt hk a7 hf ck dj a5 di q1 q2 q3 q4 q5 q7 q8 k9;obtain ⟨L7,ek⟩:∃u,u=L:=⟨_,rfl⟩;subst ek;have cn:cS bi w.heap.size 24 A8 nh c8:=(bx.cell 24).trans bf.out;go_wp2_with fail
   go_loopw [55] (fun v wr=>∃(k:Nat) (L:List SlL),v=.int .i64 (k:Int)/\k<=nh/\Hid (L.map SlL.sl=x.hist.map SlL.sl)/\Hid (L.drop k=x.hist.drop k)/\Own wr (w.heap.size+2) 97 4 A8 nh c8 (L.flatMap SlL.cells)/\Hid (∀y∈L.take k,Own wr bi.heap.size 5 1 y.A y.y.length y.c (y.y.map Bv))/\Fr (fun b=>Ab A8=some b) bi wr) (fun v _=>nh-(intOf v).toNat)
   case atStart=>exact ⟨0,x.hist,rfl,by omega,rfl,rfl,t8,(fun _ h=>by simp at h),Fr.refl _ _⟩
   case round=>
    obtain ⟨k,L,rfl,hk,ad,ab,ae,aa,hf⟩:=hrel
    by_cases hlt:k<nh
    ·
     obtain ⟨i1,i2,i3⟩:=ix k nh
     obtain ⟨y,hy⟩:∃y,x.hist[k]? =some y:=⟨_,An9 (by rw [cf.out];exact hlt)⟩;have aw:L[k]? =some y:=(Ks ab.out).trans hy;have ar:=Ao6 hy;have dc:=bd.out y ar;obtain ⟨g,hA,cp,eg,af,bh,_⟩:=Own.setAt ae (j:=k*4+3) (by omega) (.int .i64 0);have a3:=(bz.seals y ar).fr hf (fun j hj e=>by have h1:=(b8 j e).1;omega);have d0:cS wr g (k*4+3) y.A y.y.length y.c:=af _ (by rw [E6 (f:=SlL.cells) (fun _=>rfl) L k 3 y aw (by omega)];rfl);have kk:cS wr w.heap.size 24 A8 nh c8:=hf.cell cn (fun e=>by have h1:w7.heap.size<=w.heap.size:=(b8 _ e).1;omega);have d4:w.heap.size+2<=g:=cp;rw [hA] at kk
     have ag:∀(wv:World) (u:Value),Fr Non wr wv->cS wv g (k*4+3) y.A y.y.length y.c/\wv.frozen? ⟨g,k*4+3,none⟩=false/\Own (wv.setCell ⟨g,k*4+3,none⟩ u) (w.heap.size+2) 97 4 A8 nh c8 ((L.flatMap SlL.cells).set (k*4+3) u):=by
      intro wv u br;obtain ⟨g2,bt,_,_,d8,bj,cr⟩:=Own.setAt (ae.fr br zr) (j:=k*4+3) (by omega) u;rw [hA] at bt;have cz:g=g2:=by injection bt with e;injection e
      subst cz;exact ⟨br.cell d0 zq,bj,cr⟩
     replace ag:=lh ag;replace hA:=lh hA;clear af bh;go_upto_region 11 with (fail)
     refine Cy (S:=(fun w'=>cS w' w.heap.size 24 (some ⟨g,0,none⟩) nh c8/\cS w' g (k*4+3) y.A y.y.length y.c)) 10 (by kernel_rfl) ?_;have hS:(fun w'=>cS w' w.heap.size 24 (some ⟨g,0,none⟩) nh c8/\cS w' g (k*4+3) y.A y.y.length y.c) wr.drew:=⟨kk,d0⟩;have fd:Fr Non wr wr.drew:=(Fr.refl Non wr).drew;have ci:Rd wr.drew w.heap.size 1 y.A y.y.length (y.y.map Bv):=And.left (a3.fr fd zr);refine tkG 0 hS (h:=tkG 1 hS (h:=tkG 2 hS (h:=tkG 3 hS (h:=tkG 4 hS (h:=tkG 5 hS (h:=tkG 6 hS (h:=tkG 7 hS (h:=tkG 8 hS (h:=?_)))))))));simp only [zl];refine Bf 9 (by kernel_rfl) rfl (fun K hK=> ?_);go_simp;go_wp2_with (go_at_call 119;go_loud (with_reducible refine (Pa _ _ _ _ _ _ ci (Ii Bv (fun _=>rfl) _) dc).mono ?_);rintro _ wv ⟨A',c',rfl,ov,fv⟩);have av:=fd.trans fv zr;obtain ⟨d1,z1,dd⟩:=ag.out wv (.slice A' y.y.length c') av;refine hK.out _ _ ⟨av.cell kk zq,d1⟩ (fun hZ=> ?_);clear hZ hK K;try simp only [Ad,zl]
     refine Cs (by kernel_rfl) ?_;refine oG 10 (fun K hK=> ?_);go_simp;refine hK.out _ _ trivial (fun hZ=> ?_);clear hZ hK K;try simp only [Ad,zl]
     refine oG 11 (fun K hK=> ?_);go_simp;refine hK.out _ _ trivial (fun hZ=> ?_);clear hZ hK K;try simp only [Ad,zl]
     refine oG 12 (fun K hK=> ?_);go_simp;refine hK.out _ _ trivial (fun hZ=> ?_);clear hZ hK K;try simp only [Ad,zl]
     refine oD ?_;go_simp;have ex:∃y':SlL,y'={y with A:=A',c:=c'}:=⟨_,rfl⟩;obtain ⟨y',a9⟩:=ex
     have bb:Own (wv.setCell ⟨g,k*4+3,none⟩ (.slice A' y.y.length c')) (w.heap.size+2) 97 4 A8 nh c8 ((L.set k y').flatMap SlL.cells):=by
      rw [<- Gy (f:=SlL.cells) (size:=4) (fun _=>rfl) (j:=3) (by omega) (.slice A' y.y.length c') y' L k y aw (by rw [a9];rfl)];exact dd
     have fs:Fr (One g) wv (wv.setCell ⟨g,k*4+3,none⟩ (.slice A' y.y.length c')):=(Fr.refl (One g) wv).setCell (p:=⟨g,k*4+3,none⟩) (fun _=>rfl) _;have bo:Ab A8=some g:=by rw [hA.out];rfl
     have cj:=hf.size
     have al:Hid (∀z∈(L.set k y').take (k+1),Own (wv.setCell ⟨g,k*4+3,none⟩ (.slice A' y.y.length c')) bi.heap.size 5 1 z.A z.y.length z.c (z.y.map Bv)):=by
      intro z hz;rw [Kr L k y' aw] at hz;have el:g<bi.heap.size:=by have h1:=(b8 g bo).2;omega
      rcases List.mem_append.1 hz with hz|hz
      · exact ((aa.out z hz).fr av zr).fr fs (fun j hj e=>by have h1:=((aa.out z hz).row j hj).1;have e':j=g:=e;omega)
      ·
       obtain rfl:=List.mem_singleton.1 hz;subst a9;exact (ov.lower cj).fr fs (fun j hj e=>by have h1:=(ov.row j hj).1;have h2:wr.drew.heap.size=wr.heap.size:=rfl;have e':j=g:=e;omega)
     have bg:Fr (fun b=>Ab A8=some b) bi (wv.setCell ⟨g,k*4+3,none⟩ (.slice A' y.y.length c')):=(hf.trans av (fun _ _ e=>e.elim)).trans fs (fun j hj e=>by have e':j=g:=e;subst e';exact bo);have a6:Hid ((L.set k y').map SlL.sl=x.hist.map SlL.sl):=(Pc SlL.sl L k aw (by rw [a9];rfl)).trans ad.out;have aq:Hid ((L.set k y').drop (k+1)=x.hist.drop (k+1)):=Pd _ _ k y' ab.out;generalize wv.setCell ⟨g,k*4+3,none⟩ (.slice A' y.y.length c')=ws at*;generalize L.set k y'=L2 at*;go_wp2_with fail;go_roundw
     case rel=>exact ⟨k+1,L2,by go_num,by omega,a6,aq,bb,al,bg⟩
     case measure=>simp [intOf];omega
    ·
     obtain rfl:nh=k:=by omega
     have a7:L.length=x.hist.length:=by have h1:=congrArg List.length ad.out;rwa [An8,An8] at h1
     rw [Ao4 (by rw [a7,cf.out];exact Ao0 _)] at aa;obtain ⟨a8,co⟩:∃u,u=wr:=⟨_,rfl⟩;subst co;have df:=bx.fr hf (fun e=>by have h1:w7.heap.size<=w.heap.size:=(b8 _ e).1;omega);have bc:=ch.fr hf (fun e=>by have h1:w7.heap.size<=w.heap.size+1:=(b8 _ e).1;omega);have cy:=cl.trans hf (fun j hj e=>by have h1:=(b8 j e).1;omega);have s1:=(t1.fr hf (fun j hj e=>by have h1:=(b1 j hj).2;have h2:=(b8 j e).1;omega)).lower (base':=w.heap.size) (by omega);have s2:=(t2.fr hf (fun j hj e=>by have h1:=(b2 j hj).2;have h2:=(b8 j e).1;omega)).lower (base':=w.heap.size) (by omega);have s3:=(t3.fr hf (fun j hj e=>by have h1:=(b3 j hj).2;have h2:=(b8 j e).1;omega)).lower (base':=w.heap.size) (by omega);have s4:=(t4.fr hf (fun j hj e=>by have h1:=(b4 j hj).2;have h2:=(b8 j e).1;omega)).lower (base':=w.heap.size) (by omega);have s5:=(t5.fr hf (fun j hj e=>by have h1:=(b5 j hj).2;have h2:=(b8 j e).1;omega)).lower (base':=w.heap.size) (by omega);have s7:=(t7.fr hf (fun j hj e=>by have h1:=(b7 j hj).2;have h2:=(b8 j e).1;omega)).lower (base':=w.heap.size) (by omega);have s8:=ae.lower (base':=w.heap.size) (by omega);have eb:∀j,w9.heap.size<=j->¬(Ab A8=some j):=fun j hj e=>by have h2:=(b8 j e).2;omega
     have r7:Hid (∀y∈L7,Own a8 w.heap.size 148 4 y.A y.xs.length y.c (y.xs.flatMap Bx.cells)):=fun y hy=>((ai.out y hy).fr hf (fun j hj e=>eb j ((ai.out y hy).row j hj).1 e)).lower (by omega);have r8:Hid (∀y∈L,Own a8 w.heap.size 5 1 y.A y.y.length y.c (y.y.map Bv)):=fun y hy=>(aa.out y hy).lower (by omega);obtain ⟨v,hv⟩:∃v:OpL,v={x with pastA:=A1,pastC:=c1,bodyA:=A2,bodyC:=c2,refsA:=A3,refsC:=c3,guardsA:=A4,guardsC:=c4,boxesA:=A5,boxesC:=c5,pathA:=A7,pathC:=c7,histA:=A8,histC:=c8,path:=L7,hist:=L}:=⟨_,rfl⟩
     have dl:v.op=x.op:=by
      rw [hv];unfold OpL.op;simp only [a1.out,ad.out]
     have bk:v.own a8 w.heap.size:=by
      rw [ce.out.symm,<- bs.out] at s7;rw [cf.out.symm,<- a7] at s8;rw [hv];exact ⟨RowAt.of_own s1,RowAt.of_own s7,(fun y hy=>RowAt.of_own (r7.out y hy)),RowAt.of_own s2,RowAt.of_own s3,RowAt.of_own s4,RowAt.of_own s5,RowAt.of_own s8,(fun y hy=>RowAt.of_own (r8.out y hy))⟩
     have ec:Blk a8 w.heap.size 44 v.cells:=by
      have hc:v.cells=ca:=by
       rw [<- ax.out,hv];unfold OpL.cells;simp only [bs.out,a7]
      rw [hc];exact df
     clear hv a1 ad r7 r8 s1 s2 s3 s4 s5 s7 s8 ai aa t1 t2 t3 t4 t5 t7 t8;have bn:=Cn v
     have es:Hid (∀wz,Fr (One (w.heap.size+1)) a8 wz->POST (.returned (.agg v.cells)) wz):=by
      intro wz hz;exact az.out v wz dl (bk.keepP hz (Types.one bc) (by decide) (by decide) (by decide) (by decide) (by decide) (by decide) (by decide)) (cy.trans hz (fun k hk e=>absurd hk (by have e':k=w.heap.size+1:=e;omega)))
     clear dl bk az;have bl:True:=trivial
     go_wp2_with (first
      |(have _t:=bl;refine Jq rfl 44 (.tmp 1) rfl rfl ec underlying44 rfl hi ?_;clear bl _t)
      |(refine Ei rfl 44 (.tmp 2) (.tmp 71) rfl rfl rfl rfl bc hi rfl bn ?_;have bh:=(Fr.refl (One (w.heap.size+1)) a8).setRow (g:=w.heap.size+1) (fun _=>rfl) v.cells;have bj:=bc.setRow (cs:=v.cells);generalize a8.setRow (w.heap.size+1) v.cells=wz at bh bj ⊢;(repeat (first|go_values|go_skip|go_guarded|go_step));exact C8 (t:=44) rfl rfl bj rfl underlying44 (by kernel_rfl) rfl (es.out wz bh)))
end Oq
namespace Oq
attribute [local go_sem ↓] Cg Ej
attribute [local go_sem] Bool.not_false Bool.not_true
theorem Kv {P:Program} {t:TypeId} {d:TypeDesc} (cs:Array Value) (b o:Nat) (hu:P.underlying t=some d) (hd:d.isRow=true) (hi:(P.info? t).map (·.size)=some cs.size):
  ∀w',World.rangeAt w' b o cs.toList->(ldS t (.pointer (some ⟨b,o,none⟩))).run P w'=.ok (.agg cs) w':=fun w' h=>by
 have:=run_loadAt_mid (P:=P) w' b o t cs.toList d h hu hd (by rw [hi];simp);unfold ldS;rw [this]
end Oq
namespace Oq
attribute [local go_sem ↓] Cg Ej
def Pf:Prop:=∀(base gv:Nat) (A:Option Addr) (c:Nat) (l:List Id) (p:Id->Bool) (w:World),Own w base 38 3 A l.length c (l.flatMap Id.cells)->l.length<=1000000->
 (∀x∈l,∀w':World,Fr (fun k=>Ab A=some k) w w'->Calls zp 130 #[.agg x.V,.pointer (some ⟨gv,0,none⟩)] w' (Ae (p x) w'))->
 Calls zp 129 #[.slice A l.length c,.func (.func 130) #[] #[.pointer (some ⟨gv,0,none⟩)]] w fun e w'=>
  ∃ys:List Id,ys=l.filter (fun x=> !p x)/\e=.returned (.slice A ys.length c)/\Rd w' w'.heap.size 3 A ys.length (ys.flatMap Id.cells)/\Fr (fun k=>Ab A=some k) w w'
def Ik (l:List Id) (w:World) (e:Ending) (w':World):Prop:=∃A c,e=.returned (.slice A l.length c)/\Rd w' w'.heap.size 3 A l.length (l.flatMap Id.cells)/\Fr Non w w'
theorem Pg (base:Nat) (g:Gph) (x:OpL) (w:World) (hdel:Pf) (hg:GAt w base g) (hat:x.at w w.heap.size) (hok:∀id∈x.past,id.ok) (hn:x.past.length<=1000000):
  Calls zp 67 #[.pointer (some ⟨g.gb,0,none⟩),.agg x.cells] w (Ik (x.past.filter (fun id=> !(Af g.nodes id).isSome)) w):=by
 have e4:Hid (x.cells[4]? =some (.slice x.pastA x.past.length x.pastC)):=rfl;obtain ⟨CS,hCS⟩:=Aa x.cells;have f0:Fr Non w ((w.alloc (.cells #[.pointer (some ⟨g.gb,0,none⟩)] 34)).alloc (.cells CS 44)):=((Fr.refl Non w).alloc _).alloc _;have bg:=(Blk.new w 34 #[.pointer (some ⟨g.gb,0,none⟩)]).alloc (.cells CS 44);have bx:=Blk.new (w.alloc (.cells #[.pointer (some ⟨g.gb,0,none⟩)] 34)) 44 CS;rw [An3] at bx;rw [hCS.out] at e4 ⊢
 have hfin:Hid (∀(ys:List Id) A c w',ys=x.past.filter (fun id=> !(Af g.nodes id).isSome)->Rd w' w'.heap.size 3 A ys.length (ys.flatMap Id.cells)->Fr Non w w'->Ik (x.past.filter (fun id=> !(Af g.nodes id).isSome)) w (.returned (.slice A ys.length c)) w'):=by
  intro ys A c w' h1 h2 h3;subst h1;exact ⟨A,c,rfl,h2,h3⟩
 generalize Ik (x.past.filter (fun id=> !(Af g.nodes id).isSome)) w=POST at*;go_enter func67,ntmps67;go_upto_region 1 with (fail)
 generalize (w.alloc (.cells #[.pointer (some ⟨g.gb,0,none⟩)] 34)).alloc (.cells CS 44)=w0 at*;have c4:cS w0 (w.heap.size+1) 4 x.pastA x.past.length x.pastC:=(bx.cell 4).trans e4.out;have kc:=lh (O9 _ _ x.pastC _ _ w0 (OpL.frame hat f0).past.rd (Id.cells_one _) hn);go_wp2_with fail;refine (kc.out).mono ?_;rintro _ w1 ⟨A1,c1,rfl,o1,f1⟩;have sz0:=f0.size;have f01:=f0.trans f1 zr;have bg1:=bg.fr f1 zq;have hrow:=o1.row
 have kd:=lh (hdel w0.heap.size w.heap.size A1 c1 x.past (fun id=>(Af g.nodes id).isSome) w1 o1 hn (fun id hid w' hf=>by
  have hf':Fr Non w w':=f01.trans hf (fun j hj e=>by have h1:=(hrow j e).1;omega);refine (Xj base g w.heap.size id w' (hg.fr hf') ?_ (hok id hid));exact (bg1.fr hf (fun e=>by have h1:=(hrow _ e).1;have h2:=bg.lt;omega)).cell 0))
 have hff:Hid (∀w',Fr (fun k=>Ab A1=some k) w1 w'->Fr Non w w'):=fun w' hf=>f01.trans hf (fun j hj e=>by have h1:=(hrow j e).1;omega);clear kc hdel hg hat hok bg bx bg1 o1 f1 f0 f01;go_wp2_with fail;refine (kd.out).mono ?_;rintro _ w2 ⟨ys,hys,rfl,hrd,hf2⟩;have fin:=lh (hfin.out ys A1 c1 w2 hys hrd (hff.out w2 hf2));clear hfin hff kd hys hrd hf2;go_wp2_with fail;exact fin.out
end Oq
theorem Yc {P:Program} (w:World) (t e ty:TypeId) (z:Value) (ht:P.underlying t=some (.slice e)) (hv:∀w,(zeroValue e).run P w=.ok z w) (b o n c:Nat) (hn:0<n)
  (hc:∀j,j<(Builtin.zeroCells z.cells n).toList.length->(w.cell? ⟨b,o+j,none⟩).isSome=true) (hf:∀j,j<(Builtin.zeroCells z.cells n).toList.length->w.frozen? ⟨b,o+j,none⟩=false)
  (h1:∀v∈(Builtin.zeroCells z.cells n).toList,v.oneCell'=true):
  (Builtin.clear_ #[t] ty #[.slice (some ⟨b,o,none⟩) n c]).run P w=.ok (.tuple #[]) (w.setCells b o (Builtin.zeroCells z.cells n).toList):=by
 have hst:=run_storeCells_cells (P:=P) b o (Builtin.zeroCells z.cells n).toList 0 w (by simpa using hc) (by simpa using hf) h1;simp only [Nat.add_zero] at hst;obtain ⟨m,rfl⟩:∃m,n=m+1:=⟨n-1,by omega⟩;simp [Builtin.clear_,run_underlying ht,hv,hst]
theorem Ph (g:Nat):∀(vs:List Value) (o:Nat) (w:World),Fr (One g) w (w.setCells g o vs)
 |[],_,_=>Fr.refl _ _
 |v::vs,o,w=>((Fr.refl (One g) w).setCell (p:=⟨g,o,none⟩) (fun _=>rfl) v).trans (Ph g vs (o+1) _) zr
namespace Oq
theorem Pj {α:Type} (l:List α) (p:α->Bool) (h:l.any p=false):l.filter (fun x=> !p x)=l:=by
 rw [List.filter_eq_self];intro x hx;rw [List.any_eq_false] at h;simpa using h x hx
theorem Pm {α:Type} (l:List α) (p:α->Bool) {k:Nat} {x:α} (h:l[k]? =some x):(l.take (k+1)).filter p=(l.take k).filter p++(if p x then [x] else []):=by
 obtain ⟨hk,rfl⟩:=List.getElem?_eq_some_iff.1 h;rw [Ap0 hk,List.filter_append];congr 1
 cases hp:p l[k]<;>simp [hp]
theorem Own.putId {w:World} {base n c g:Nat} {l:List Id} (h:Own w base 38 3 (some ⟨g,0,none⟩) n c (l.flatMap Id.cells)) {i:Nat} {y:Id} (hy:l[i]? =some y) (hi:i<n) (x:Id):
  (∀j,j<3->(w.cell? ⟨g,i*3+j,none⟩).isSome=true/\w.frozen? ⟨g,i*3+j,none⟩=false)/\
  Own (((w.setCell ⟨g,i*3,none⟩ (.int .i64 x.b)).setCell ⟨g,i*3+1,none⟩ (.int .i64 x.s)).setCell ⟨g,i*3+2,none⟩ (.int .u64 (x.u:Int))) base 38 3 (some ⟨g,0,none⟩) n c ((l.set i x).flatMap Id.cells):=by
 constructor
 ·
  intro j hj;obtain ⟨g2,hA,_,_,hc,hz,_⟩:=Own.setAt h (j:=i*3+j) (by omega) (.int .i64 0);have hgg:g=g2:=by injection hA with e;injection e
  subst hgg;have hl:(l.flatMap Id.cells)[i*3+j]? =y.cells[j]? :=E6 (f:=Id.cells) (fun _=>rfl) l i j y hy hj;have hyj:∃v,y.cells[j]? =some v:=⟨_,An9 (by show j<3;exact hj)⟩;obtain ⟨v,hv⟩:=hyj;exact ⟨by rw [hc v (hl.trans hv)];rfl,hz⟩
 ·
  have step:∀(w:World) (xs:List Value) (j:Nat) (u:Value),Own w base 38 3 (some ⟨g,0,none⟩) n c xs->j<n*3->Own (w.setCell ⟨g,j,none⟩ u) base 38 3 (some ⟨g,0,none⟩) n c (xs.set j u):=by
   intro w xs j u h hj;obtain ⟨g2,hA,_,_,_,_,ho⟩:=Own.setAt h (j:=j) hj u;have hgg:g=g2:=by injection hA with e;injection e
   subst hgg;exact ho
  have h1:=step _ _ (i*3) (.int .i64 x.b) h (by omega);have h2:=step _ _ (i*3+1) (.int .i64 x.s) h1 (by omega);have h3:=step _ _ (i*3+2) (.int .u64 (x.u:Int)) h2 (by omega);have e1:(l.flatMap Id.cells).set (i*3) (.int .i64 x.b)=(l.set i ⟨x.b,y.s,y.u⟩).flatMap Id.cells:=Gy (f:=Id.cells) (size:=3) (fun _=>rfl) (j:=0) (by omega) _ _ l i y hy rfl
  have hi1:(l.set i ⟨x.b,y.s,y.u⟩)[i]? =some ⟨x.b,y.s,y.u⟩:=by
   rw [Ap1 (List.getElem?_eq_some_iff.1 hy).1]
  have e2:((l.set i ⟨x.b,y.s,y.u⟩).flatMap Id.cells).set (i*3+1) (.int .i64 x.s)=(l.set i ⟨x.b,x.s,y.u⟩).flatMap Id.cells:=by
   have:=Gy (f:=Id.cells) (size:=3) (fun _=>rfl) (j:=1) (by omega) (.int .i64 x.s) ⟨x.b,x.s,y.u⟩ _ i _ hi1 rfl;rwa [List.set_set] at this
  have hi2:(l.set i ⟨x.b,x.s,y.u⟩)[i]? =some ⟨x.b,x.s,y.u⟩:=by
   rw [Ap1 (List.getElem?_eq_some_iff.1 hy).1]
  have e3:((l.set i ⟨x.b,x.s,y.u⟩).flatMap Id.cells).set (i*3+2) (.int .u64 (x.u:Int))=(l.set i x).flatMap Id.cells:=by
   have:=Gy (f:=Id.cells) (size:=3) (fun _=>rfl) (j:=2) (by omega) (.int .u64 (x.u:Int)) x _ i _ hi2 rfl;rwa [List.set_set] at this
  rw [e1,e2,e3] at h3;exact h3
theorem Po (n:Nat):(Builtin.zeroCells (Value.agg #[.int .i64 0,.int .i64 0,.int .u64 0]).cells n).toList.length=n*3:=by
 simp [Builtin.zeroCells,Value.cells]
theorem Yd (n:Nat):∀v∈(Builtin.zeroCells (Value.agg #[.int .i64 0,.int .i64 0,.int .u64 0]).cells n).toList,v.oneCell'=true:=by
 intro v hv;unfold Builtin.zeroCells at hv;rw [Array.toList_map] at hv;obtain ⟨i,_,rfl⟩:=List.mem_map.1 hv;have h:i%3=0\/i%3=1\/i%3=2:=by omega
 show (#[Value.int .i64 0,.int .i64 0,.int .u64 0][i%3]!).oneCell'=true
 rcases h with e|e|e<;>rw [e]<;>rfl
theorem Pp:Pf:=by
 intro ax gv A c l p w aa au ah;have a7:=lh (Xm w.heap.size l.length c gv A l p w rfl aa.rd au (fun x hx w' hf=>ah x hx w' (hf.mono (fun _ _ e=>e.elim))));obtain ⟨n,hn⟩:=Aa l.length;have a6:=aa.cap;have a9:=aa.row
 have ag:Hid (∀(ys:List Id) (m:Nat) (w':World),m=ys.length->ys=l.filter (fun x=> !p x)->Rd w' w'.heap.size 3 A m (ys.flatMap Id.cells)->Fr (fun k=>Ab A=some k) w w'->(∃ys:List Id,ys=l.filter (fun x=> !p x)/\ze (.slice A m c)=.returned (.slice A ys.length c)/\Rd w' w'.heap.size 3 A ys.length (ys.flatMap Id.cells)/\Fr (fun k=>Ab A=some k) w w')):=by
  intro ys m w' h1 h2 h3 h4;subst h1;exact ⟨ys,h2,rfl,h3,h4⟩
 rw [hn.out] at a7 aa a6 au ⊢;go_enter func129,ntmps129;go_wp2_with fail;refine (a7.out).mono ?_;rintro e w1 ⟨h,f1⟩;clear a7;have be:Fr (fun k=>Ab A=some k) w w1:=f1.mono (fun _ _ e=>e.elim);replace aa:=aa.fr f1 zr
 rcases h with ⟨k,id,rfl,hk,hpk,hany⟩|⟨rfl,hany⟩
 ·
  have bm:k<n:=by rw [<- hn.out];exact (List.getElem?_eq_some_iff.1 hk).1
  obtain ⟨g,rfl⟩:∃g,A=some ⟨g,0,none⟩:=by
   rcases aa.2 with ⟨_,h0⟩|⟨g,cap,ac,hv,_⟩
   · omega
   ·
    injection hv with hA _ _
    exact ⟨g,hA⟩
  have bh:((k:Int)== -1)=false:=by rw [beq_eq_false_iff_ne];omega
  have ao:Hid (l.take k=(l.take (k+1)).filter (fun x=> !p x)):=by
   show _=_;rw [Pm l _ hk,hpk,Pj _ _ hany];simp
  clear hany hpk hk;go_wp2_with fail
  go_loopw [5,6] (fun vi vj wr=>∃(i j:Nat) (ac:List Id),vi=.int .i64 (i:Int)/\vj=.int .i64 (j:Int)/\i<j/\j<=n/\Hid (ac.take i=(l.take j).filter (fun x=> !p x))/\Hid (ac.drop j=l.drop j)/\Own wr ax 38 3 (some ⟨g,0,none⟩) n c (ac.flatMap Id.cells)/\Fr (fun k=>Ab (some ⟨g,0,none⟩)=some k) w wr) (fun _ vj _=>n-(intOf vj).toNat)
  case atStart=>exact ⟨k,k+1,l,rfl,by go_num,by omega,by omega,ao.out,rfl,aa,be⟩
  case round=>
   obtain ⟨i,j,ac,rfl,rfl,bp,bs,ad,af,ab,hf⟩:=hrel
   have a0:ac.length=n:=by
    have h1:=ab.len;rw [E7 (f:=Id.cells) (size:=3) (fun _=>rfl)] at h1;omega
   by_cases hlt:j<n
   ·
    obtain ⟨i1,i2,i3⟩:=ix j n
    obtain ⟨m1,m2,m3⟩:=ix i n
    obtain ⟨x,hx⟩:∃x,l[j]? =some x:=⟨_,An9 (by rw [hn.out];exact hlt)⟩;obtain ⟨y,hy⟩:∃y,ac[i]? =some y:=⟨_,An9 (by rw [a0];omega)⟩;have bg:ac[j]? =some x:=(Ks af.out).trans hx;obtain ⟨b,bi,hA,bc,k0,k1,k2⟩:=Id.at ab.rd bg;obtain ⟨rfl,rfl⟩:g=b/\0=bi:=by injection hA with e;injection e with e1 e2;exact ⟨e1,e2⟩
    rw [An4] at k0 k1 k2;have av:=lh (Pm l (fun x=> !p x) hx);have hc:=lh (fun w' (h:Fr (fun k=>Ab (some ⟨g,0,none⟩)=some k) w w')=>ah x (Ao6 hx) w' h);have bf:=lh (fun (wv:World) (hv:Fr Non wr wv)=>Own.putId (ab.fr hv zr) hy (by omega) x);have aw:=hf.alloc (.cells x.V 38);have bl:=Blk.new wr 38 x.V;have bd:Fr Non wr (wr.alloc (.cells x.V 38)):=(Fr.refl Non wr).alloc _;have bb:g<wr.heap.size:=bc;have ar:=ab;have bt:=lh hx;have bj:=lh hy;have bq:i<l.length:=by rw [hn.out];omega
    clear hx hy bg hA bc ab aa a9 ao a0
    have bk:=lh (show (ac.set i x).drop (j+1)=l.drop (j+1) by
     rw [Ao9 (by omega)];have h2:=congrArg (Ao5 1) af.out;rwa [Ao1,Ao1] at h2)
    have az:=lh (show ac.drop (j+1)=l.drop (j+1) by
     have h2:=congrArg (Ao5 1) af.out;rwa [Ao1,Ao1] at h2)
    rcases zb (p x) with hp|hp
    ·
     have ay:Hid (ac.take i=(l.take (j+1)).filter (fun x=> !p x)):=by
      show _=_;rw [av.out,hp,ad.out];simp
     rw [hp] at hc;clear hp av;go_wp2_with (go_at_call 130;(with_reducible refine (hc.out _ aw).mono ?_);rintro _ w2 ⟨rfl,f2⟩);go_roundw
     case rel=>exact ⟨i,j+1,ac,rfl,by go_num,by omega,by omega,ay,az,(ar.fr bd zr).fr f2 zr,aw.trans f2 (fun _ _ e=>e.elim)⟩
     case measure=>simp [intOf];omega
    ·
     have ay:Hid ((ac.set i x).take (i+1)=(l.take (j+1)).filter (fun x=> !p x)):=by
      show _=_;rw [av.out,hp,Kr ac i x bj.out,ad.out];simp
     rw [hp] at hc;clear hp av;go_wp2_with (go_at_call 130;(with_reducible refine (hc.out _ aw).mono ?_);rintro _ w2 ⟨rfl,f2⟩;obtain ⟨hz,ho⟩:=bf.out w2 (bd.trans f2 zr);have a1:=hz 0 (by omega);have ba:=hz 1 (by omega);have aq:=hz 2 (by omega);obtain ⟨v0,y0⟩:=Option.isSome_iff_exists.1 a1.1;obtain ⟨v1,y1⟩:=Option.isSome_iff_exists.1 ba.1;obtain ⟨v2,y2⟩:=Option.isSome_iff_exists.1 aq.1;have z0:=a1.2;have z1:=ba.2;have z2:=aq.2;rw [Nat.add_zero] at y0 z0;clear hz a1 ba aq bf;have al:=bl.fr f2 zq;have b0:=al.cell 0;have b1:=al.cell 1;have b2:=al.cell 2;replace b0:w2.cell? ⟨wr.heap.size,0,none⟩=some (.int .i64 x.b):=b0;replace b1:w2.cell? ⟨wr.heap.size,1,none⟩=some (.int .i64 x.s):=b1;replace b2:w2.cell? ⟨wr.heap.size,2,none⟩=some (.int .u64 (x.u:Int)):=b2);go_roundw
     case rel=>
      exact ⟨i+1,j+1,ac.set i x,by go_num,by go_num,by omega,by omega,ay,bk,ho,(((aw.trans f2 (fun _ _ e=>e.elim)).setCell (p:=⟨g,i*3,none⟩) (fun _=>rfl) _).setCell (p:=⟨g,i*3+1,none⟩) (fun _=>rfl) _).setCell (p:=⟨g,i*3+2,none⟩) (fun _=>rfl) _⟩
     case measure=>simp [intOf];omega
   ·
    obtain rfl:j=n:=by omega
    obtain ⟨bu,br,bn⟩:=ix i j
    have bv:=ab.cap;have bo:(i:Int)<c:=by omega
    have bb:=ab.row g rfl
    have ap:Hid (∀vs:List Value,Rd (wr.setCells g (i*3) vs) (wr.setCells g (i*3) vs).heap.size 3 (some ⟨g,0,none⟩) i ((l.filter (fun x=> !p x)).flatMap Id.cells)/\Fr (fun k=>Ab (some ⟨g,0,none⟩)=some k) w (wr.setCells g (i*3) vs)):=by
     intro vs;have fz:=Ph g vs (i*3) wr
     have e1:ac.take i=l.filter (fun x=> !p x):=by
      rw [ad.out,Ao4 (by rw [hn.out];exact Ao0 _)]
     have ai:(l.filter (fun x=> !p x)).length=i:=by rw [<- e1,Ap2];omega
     refine ⟨⟨by rw [E7 (f:=Id.cells) (size:=3) (fun _=>rfl),ai],.inr ⟨g,0,rfl,Nat.lt_of_lt_of_le bb.2 fz.size,?_⟩⟩,hf.trans fz (fun k _ e=>by have e':k=g:=e;subst e';rfl)⟩;intro q u hu
     have hq:q<i*3:=by
      have h1:=(List.getElem?_eq_some_iff.1 hu).1;rw [E7 (f:=Id.cells) (size:=3) (fun _=>rfl),ai] at h1;exact h1
     rw [An4,World.cell?_setCells_out g vs (i*3) wr ⟨g,q,none⟩ (fun _ _=> .inl hq)];obtain ⟨g2,a2,_,_,a4,_,_⟩:=Own.setAt ab (j:=q) (by omega) (.int .i64 0);have a3:g=g2:=by injection a2 with e;injection e
     subst a3;refine a4 u ?_;rw [<- e1] at hu;have ak:ac.flatMap Id.cells=(ac.take i).flatMap Id.cells++(ac.drop i).flatMap Id.cells:=by rw [<- Ap3,List.take_append_drop]
     rw [ak,List.getElem?_append_left (List.getElem?_eq_some_iff.1 hu).1];exact hu
    have ae:Hid (∀q,q<(j-i)*3->(wr.cell? ⟨g,i*3+q,none⟩).isSome=true/\wr.frozen? ⟨g,i*3+q,none⟩=false):=by
     intro q hq;have hm:i*3+q<j*3:=by omega
     obtain ⟨g2,a2,_,_,a4,aq,_⟩:=Own.setAt ab (j:=i*3+q) hm (.int .i64 0);have a3:g=g2:=by injection a2 with e;injection e
     subst a3;have hl:i*3+q<(ac.flatMap Id.cells).length:=by rw [E7 (f:=Id.cells) (size:=3) (fun _=>rfl),a0];exact hm
     exact ⟨by rw [a4 _ (An9 hl)];rfl,aq⟩
    have aj:Hid (i=(l.filter (fun x=> !p x)).length):=by
     show _=_
     have e1:ac.take i=l.filter (fun x=> !p x):=by
      rw [ad.out,Ao4 (by rw [hn.out];exact Ao0 _)]
     rw [<- e1,Ap2];omega
    clear ab ad af ah aa ao hf
    have a8:(Builtin.clear_ #[28] 0 #[Value.slice (some ⟨g,i*3,none⟩) (j-i) (c-i)]).run zp wr=.ok (.tuple #[]) (wr.setCells g (i*3) (Builtin.zeroCells (Value.agg #[.int .i64 0,.int .i64 0,.int .u64 0]).cells (j-i)).toList):=
     Yc wr 28 38 0 _ underlying28 (fun _=>zeroValue38 _) g (i*3) (j-i) (c-i) (by omega) (fun q hq=>(ae.out q (by rw [Po] at hq;exact hq)).1) (fun q hq=>(ae.out q (by rw [Po] at hq;exact hq)).2) (Yd _)
    have a5:=lh (fun vs=>ag.out (l.filter (fun x=> !p x)) i (wr.setCells g (i*3) vs) aj.out rfl (ap.out vs).1 (ap.out vs).2);clear ae ap aj ag;generalize (Builtin.zeroCells (Value.agg #[.int .i64 0,.int .i64 0,.int .u64 0]).cells (j-i)).toList=ZS at a8;go_wp2_with fail
    go_ret
    exact a5.out _
 ·
  have a5:=lh (ag.out l n w1 hn.out.symm (Pj l p hany).symm (by have:=aa.rd;exact this) be);clear ag ah hany;go_wp2_with fail
  go_ret
  exact a5.out
end Oq
section
open Go.RowKit Go.Sort
namespace Oq
theorem Il (v:Value):Instr.loadAt 114 v=ldS 114 v:=rfl
theorem Im (p v:Value):Instr.storeAt 114 p v=stS 114 p v:=rfl
attribute [local go_sem ↓] Il Im
def Dq (l:List Ag) (p:Nat->Bool) (k:Nat):List Id:=(List.range k).filterMap (fun i=>if p i then l[i]?.map Ag.id else none)
theorem Fy (l:List Ag) (p:Nat->Bool) (k:Nat) {n:Ag} (h:l[k]? =some n):Dq l p (k+1)=Dq l p k++(if p k then [n.id] else []):=by
 unfold Dq;rw [List.range_succ,List.filterMap_append];congr 1
 cases hp:p k<;>simp [hp,h]
theorem Pq (l:List Ag) (p:Nat->Bool) (k:Nat):(Dq l p k).length<=k:=by
 unfold Dq;have h:=List.length_filterMap_le (fun i=>if p i then l[i]?.map Ag.id else none) (List.range k);simpa using h
theorem Gz (n:Ag):n.cells.toArray.all (·.oneCell')=true:=by
 unfold Ag.cells OpL.cells;simp [Value.oneCell']
def Io:Prop:=∀(base:Nat) (A:Option Addr) (c:Nat) (xs:List Id) (w:World),Own w base 38 3 A xs.length c (xs.flatMap Id.cells)->xs.length<=1000000->
 Calls zp 82 #[.slice A xs.length c,.func (.func 132) #[] #[]] w fun e w'=>e=.returned (.tuple #[])/\
  ∃ys:List Id,ys.Perm xs/\ys.Pairwise (fun x y=>Id.less y x=false)/\Own w' base 38 3 A ys.length c (ys.flatMap Id.cells)/\Fr (fun k=>Ab A=some k) w w'
def Picked (g:Gph) (p:Nat->Bool) (w:World) (e:Ending) (w':World):Prop:=
 ∃A c,∃ids:List Id,e=.returned (.slice A ids.length c)/\ids.Perm (Dq g.nodes p g.nodes.length)/\ids.Pairwise (fun x y=>Id.less y x=false)/\Own w' w.heap.size 38 3 A ids.length c (ids.flatMap Id.cells)/\Fr Non w w'
theorem Pr (base:Nat) (g:Gph) (fid:Nat) (pre post:Array Value) (p:Nat->Bool) (w:World) (hsort:Io) (hg:GAt w base g)
  (heg:∀args w,(callFunc fid args).run zp w=.ok (.enter fid args) w)
  (hp:∀(w':World) (i:Nat),Fr Non w w'->i<g.nodes.length->Calls zp fid (pre.push (.int .i64 (i:Int))++post) w' (Ae (p i) w')):
  Calls zp 74 #[.pointer (some ⟨g.gb,0,none⟩),.func (.func fid) pre post] w (Picked g p w):=by
 have hi:(zp.info? 114).map (·.size)=some 35:=by kernel_rfl
 have ao:=hg.few;have c2:cS w g.gb 2 g.nA g.nodes.length g.nC:=hg.blk.cell 2;obtain ⟨n,hn⟩:=Aa g.nodes.length;rw [hn.out] at c2 ao;replace hp:=lh hp;go_enter func74,ntmps74;go_wp2_with fail
 go_loopw [5,13] (fun s v wr=>∃(k:Nat) (A:Option Addr) (c:Nat) (xs:List Id),v=.int .i64 (k:Int)/\s=.slice A xs.length c/\k<=n/\Hid (xs=Dq g.nodes p k)/\Own wr w.heap.size 38 3 A xs.length c (xs.flatMap Id.cells)/\Fr Non w wr) (fun _ v _=>n-(intOf v).toNat)
 case atStart=>exact ⟨0,none,0,[],rfl,rfl,by omega,rfl,Own.nil _ _ _ _,Fr.refl _ _⟩
 case round=>
  obtain ⟨k,A,c,xs,rfl,rfl,hk,af,aa,hf⟩:=hrel
  by_cases hlt:k<n
  ·
   obtain ⟨i1,i2,i3⟩:=ix k n
   obtain ⟨nd,ar⟩:∃x,g.nodes[k]? =some x:=⟨_,An9 (by rw [hn.out];exact hlt)⟩;have av:=lh (Fy g.nodes p k ar);have a5:xs.length<=k:=by rw [af.out];exact Pq _ _ _
   have aw:=hg.fr hf;obtain ⟨b,aq,hA,a9,hc⟩:=aw.cell ar
   have ax:World.rangeAt wr b (aq+k*35) nd.cells.toArray.toList:=by
    intro j v hv;have hj:j<35:=(List.getElem?_eq_some_iff.1 hv).1;exact hc j hj v hv
   have a1:=Kv (P:=zp) nd.cells.toArray b (aq+k*35) underlying114 rfl hi;have a7:=Ch (P:=zp) (t:=114) (old:=zN) (cs:=nd.cells.toArray) wr.heap.size 114 hi rfl (Gz nd);have ap:=Blk.new wr 114 zN;have a3:Hid (nd.cells.toArray[27]? =some (.int .i64 nd.id.b)):=rfl;have a8:Hid (nd.cells.toArray[28]? =some (.int .i64 nd.id.s)):=rfl;have a4:Hid (nd.cells.toArray[29]? =some (.int .u64 (nd.id.u:Int))):=rfl;have bz:=ap.setRow (cs:=nd.cells.toArray);have fz:=(hf.alloc (.cells zN 114)).setRow (g:=wr.heap.size) (fun h=>by have h1:=hf.size;omega) nd.cells.toArray;have oz:=(aa.alloc (.cells zN 114)).fr ((Fr.refl (One wr.heap.size) _).setRow (g:=wr.heap.size) (fun _=>rfl) nd.cells.toArray) (fun j hj e=>by have h1:=(aa.row j hj).2;have e':j=wr.heap.size:=e;omega);have ae:=aa.row;rw [hA];replace hA:=lh hA;generalize nd.cells.toArray=CN at*;go_upto_region 5 with (fail)
   generalize (wr.alloc (.cells zN 114)).setRow wr.heap.size CN=w1 at*;have ah:=lh (hp.out w1 k fz (by rw [hn.out];exact hlt));clear a1 a7 ap ax hc aw;generalize p k=pk at*
   cases pk
   ·
    have ad:Hid (xs=Dq g.nodes p (k+1)):=by show _=_;rw [av.out,af.out];simp
    go_wp2_with fail;refine (ah.out).mono ?_;rintro _ w2 ⟨rfl,f2⟩;have ac:=oz.fr f2 zr;have ag:=fz.trans f2 zr;clear oz fz f2 ah;go_wp2_with fail;go_roundw
    case rel=>exact ⟨k+1,A,c,xs,by go_num,rfl,by omega,ad,ac,ag⟩
    case measure=>simp [intOf];omega
   ·
    have ad:Hid (xs++[nd.id]=Dq g.nodes p (k+1)):=by show _=_;rw [av.out,af.out];simp
    go_wp2_with fail;refine (ah.out).mono ?_;rintro _ w2 ⟨rfl,f2⟩;have ac:=oz.fr f2 zr;have ag:=fz.trans f2 zr;have b2:=bz.fr f2 zq;have g0:cI w2 wr.heap.size 27 nd.id.b:=(b2.cell 27).trans a3.out;have g1:cI w2 wr.heap.size 28 nd.id.s:=(b2.cell 28).trans a8.out;have g2:cU w2 wr.heap.size 29 nd.id.u:=(b2.cell 29).trans a4.out;have aj:=ac.alloc (.cells nd.id.V 38);have a2:=ag.alloc (.cells nd.id.V 38);have a0:=Blk.new w2 38 nd.id.V;have ba:=ag.size;clear oz fz f2 ah bz b2 ac;go_wp2_with (at_builtin;go_loud (refine Aw (base:=w.heap.size) (.tmp 21) (.tmp 24) 28 rfl rfl rfl rfl C1 aj (Rd.blk (n:=1) (size:=3) a0 rfl) (by simp [Value.oneCell']) (by omega) (by omega) (by rw [An3];omega) ?_);intro A2 au w4 ak ay a6)
    have al:Own w4 w.heap.size 38 3 A2 (xs++[nd.id]).length au ((xs++[nd.id]).flatMap Id.cells):=by
     rw [Ap4,Ap3];exact ak
    have az:Fr Non w w4:=a2.trans ay (fun j hj e=>by have h5:=(ae j e).1;omega);go_roundw
    case rel=>exact ⟨k+1,A2,au,xs++[nd.id],by go_num,by rw [Ap4];rfl,by omega,ad,al,az⟩
    case measure=>simp [intOf];omega
  ·
   obtain rfl:n=k:=by omega
   have ab:=af.out;rw [<- hn.out] at ab;have a5:xs.length<=200:=by have h1:=Pq g.nodes p g.nodes.length;rw [<- ab,hn.out] at h1;omega
   have kc:=lh (hsort w.heap.size A c xs wr aa (by omega));have ae:=aa.row
   have ai:Hid (∀(ys:List Id) (wz:World),ys.Perm xs->ys.Pairwise (fun x y=>Id.less y x=false)->Own wz w.heap.size 38 3 A ys.length c (ys.flatMap Id.cells)->Fr (fun k=>Ab A=some k) wr wz->Picked g p w (.returned (.slice A xs.length c)) wz):=by
    intro ys wz h1 h2 h3 h4;rw [<- h1.length_eq];exact ⟨A,c,ys,rfl,by rw [<- ab];exact h1,h2,h3,hf.trans h4 (fun j hj e=>by have h5:=(ae j e).1;omega)⟩
   generalize Picked g p w=POST at*;clear af ab aa hp heg hg hsort;go_wp2_with (go_at_call 82;go_loud (with_reducible refine (kc.out).mono ?_);rintro _ wz ⟨rfl,ys,h1,h2,h3,h4⟩);exact ai.out ys wz h1 h2 h3 h4
end Oq
end
end Go.Proofs.YtihfebhfgliojaaGreatDoor
