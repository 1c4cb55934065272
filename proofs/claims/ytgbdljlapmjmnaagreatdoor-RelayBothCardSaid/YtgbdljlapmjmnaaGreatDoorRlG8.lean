/-
  Contracts of the functions that the claim's statement reaches, walked one by one (part 8).
  Conditions: as each theorem says.
-/
import Derived.Lib.SliceRun
import Derived.Laws.IdiomCopy
import Derived.Test.YtgbdljlapmjmnaaGreatDoorRlG7
set_option maxRecDepth 100000
set_option maxHeartbeats 16000000
open Array renaming getD->A11
open Bool renaming and_eq_true->A15
open List renaming eq_nil_of_length_eq_zero->A04,nil_append->A05,length_map->A06,drop_drop->A08,getElem?_eq_getElem->A09,mem_of_getElem?->A10,flatMap_cons->A12,take_of_length_le->A13,drop->A14,getElem?_toArray->A16,drop_set_of_lt->A17,take_succ_eq_append_getElem->A18,getElem?_append_left->A19,getElem?_set_self->A20,length_take->A21
open Nat renaming zero_add->A02,zero_mul->A03,le_refl->A07
open Go.World renaming size_alloc->A01
open Go.Proofs.Tryz
open Go.Proofs.Tryz renaming prog->zp
open Go.Lib renaming hid->lh
open List renaming set->zl
open Go.Ending renaming returned->ze
namespace Go.Proofs.YtgbdljlapmjmnaaGreatDoor
open Go.RowKit
attribute [local go_sem ↓] Go.wp_at_zero Go.wp_at_succ
namespace Oq
theorem Ac5 {P:Program} {t e:TypeId} (hu:P.underlying t=some (.slice e)) (A:Option Addr) (n c:Nat) (w:World):(Go.Op.equal t (.slice A n c) (.slice none 0 0)).run P w=.ok A.isNone w:=by
 show (Go.Op.equalIn (9999+1) t (.slice A n c) (.slice none 0 0)).run P w=_;generalize 9999=d
 cases A<;>simp [Go.Op.equalIn,run_underlying hu]
theorem Gg {P:Program} {t e:TypeId} (hu:P.underlying t=some (.slice e)) (A:Option Addr) (n c:Nat) (w:World):(binOp .eql t (.slice A n c) (.slice none 0 0)).run P w=.ok (.bool A.isNone) w:=by
 have h:binOp .eql t (.slice A n c) (.slice none 0 0)=(do pure (.bool (<- Go.Op.equal t (.slice A n c) (.slice none 0 0)))):=by
  unfold binOp;rfl
 rw [h];simp [Ac5 hu]
theorem Own.empty (w:World) (t:TypeId) (size:Nat):Own (w.alloc (.cells #[] t)) w.heap.size t size (some ⟨w.heap.size,0,none⟩) 0 0 []:=
 ⟨by simp,.inr ⟨w.heap.size,0,#[],rfl,A07 _,heap_alloc_new w _,A07 _,by omega,by simp,by simp⟩⟩
def Bf (e:TypeId) (size n:Nat) (xs:List Value) (w:World) (r:Ending) (w':World):Prop:=∃A' c',r=.returned (.slice A' n c')/\Own w' w.heap.size e size A' n c' xs/\Fr Non w w'
theorem M6 (B n c:Nat) (A:Option Addr) (xs:List Value) (w:World) (hr:Rd w B 3 A n xs) (h1:∀u∈xs,u.oneCell'=true) (hn:n<=1000000):
  Calls zp 84 #[.slice A n c] w (Bf 48 3 n xs w):=by
 have heq:=fun w'=>Gg (P:=zp) underlying25 A n c w'
 cases A with
 |none=>
  replace heq:∀w',(binOp .eql 25 (.slice none n c) (.slice none 0 0)).run zp w'=.ok (.bool true) w':=heq
  have h0:n=0:=by
   rcases hr.2 with h|⟨_,_,h,_⟩
   · exact h
   · cases h
  have hx:xs=[]:=A04 (by rw [hr.1,h0,A03]);subst h0;subst hx;have fin:Bf 48 3 0 [] w (.returned (.slice none 0 0)) w:=⟨none,0,rfl,Own.nil _ _ _ _,Fr.refl _ _⟩;generalize Bf 48 3 0 [] w=POST at*;replace fin:=lh fin;go_enter func84,ntmps84;go_wp2_with fail;exact fin.out
 |some ad=>
  replace heq:∀w',(binOp .eql 25 (.slice (some ad) n c) (.slice none 0 0)).run zp w'=.ok (.bool false) w':=heq;have hem:=Own.empty w 48 3;have hr1:=hr.fr ((Fr.refl Non w).alloc (.cells #[] 48)) zr
  have fin:∀A' c' w',Own w' w.heap.size 48 3 A' (0+n) c' ([]++xs)->Fr (fun k=>Ac (some (⟨w.heap.size,0,none⟩:Addr))=some k) (w.alloc (.cells #[] 48)) w'->Bf 48 3 n xs w (.returned (.slice A' n c')) w':=by
   intro A' c' w' h2 h3;rw [A02,A05] at h2;refine ⟨A',c',rfl,h2,((Fr.refl Non w).alloc (.cells #[] 48)).trans h3 (fun k hk e=> ?_)⟩;have e':w.heap.size=k:=Option.some.inj e;omega
  replace fin:=lh fin;generalize Bf 48 3 n xs w=POST at*;go_enter func84,ntmps84;go_upto_region 3 with (fail)
  go_wp2_with (at_builtin;go_loud (refine Ba (base:=w.heap.size) (.tmp 5) (.tmp 6) 25 rfl rfl rfl rfl Dr hem hr1 h1 (by omega) (by omega) (by rw [A01];omega) ?_);intro A1 c1 w2 own1 fr1 hat1;have hdone:=lh (fin.out _ _ _ own1 fr1);clear own1 fr1 hat1 fin);exact hdone.out
theorem Rq (B n c:Nat) (A:Option Addr) (xs:List Value) (w:World) (hr:Rd w B 1 A n xs) (h1:∀u∈xs,u.oneCell'=true) (hn:n<=1000000):
  Calls zp 118 #[.slice A n c] w (Bf 5 1 n xs w):=by
 have heq:=fun w'=>Gg (P:=zp) underlying39 A n c w'
 cases A with
 |none=>
  replace heq:∀w',(binOp .eql 39 (.slice none n c) (.slice none 0 0)).run zp w'=.ok (.bool true) w':=heq
  have h0:n=0:=by
   rcases hr.2 with h|⟨_,_,h,_⟩
   · exact h
   · cases h
  have hx:xs=[]:=A04 (by rw [hr.1,h0,A03]);subst h0;subst hx;have fin:Bf 5 1 0 [] w (.returned (.slice none 0 0)) w:=⟨none,0,rfl,Own.nil _ _ _ _,Fr.refl _ _⟩;generalize Bf 5 1 0 [] w=POST at*;replace fin:=lh fin;go_enter func118,ntmps118;go_wp2_with fail;exact fin.out
 |some ad=>
  replace heq:∀w',(binOp .eql 39 (.slice (some ad) n c) (.slice none 0 0)).run zp w'=.ok (.bool false) w':=heq;have hem:=Own.empty w 5 1;have hr1:=hr.fr ((Fr.refl Non w).alloc (.cells #[] 5)) zr
  have fin:∀A' c' w',Own w' w.heap.size 5 1 A' (0+n) c' ([]++xs)->Fr (fun k=>Ac (some (⟨w.heap.size,0,none⟩:Addr))=some k) (w.alloc (.cells #[] 5)) w'->Bf 5 1 n xs w (.returned (.slice A' n c')) w':=by
   intro A' c' w' h2 h3;rw [A02,A05] at h2;refine ⟨A',c',rfl,h2,((Fr.refl Non w).alloc (.cells #[] 5)).trans h3 (fun k hk e=> ?_)⟩;have e':w.heap.size=k:=Option.some.inj e;omega
  replace fin:=lh fin;generalize Bf 5 1 n xs w=POST at*;go_enter func118,ntmps118;go_upto_region 3 with (fail)
  go_wp2_with (at_builtin;go_loud (refine Ba (base:=w.heap.size) (.tmp 5) (.tmp 6) 39 rfl rfl rfl rfl slB hem hr1 h1 (by omega) (by omega) (by rw [A01];omega) ?_);intro A1 c1 w2 own1 fr1 hat1;have hdone:=lh (fin.out _ _ _ own1 fr1);clear own1 fr1 hat1 fin);exact hdone.out
theorem Ac6 (B n c:Nat) (A:Option Addr) (xs:List Value) (w:World) (hr:Rd w B 1 A n xs) (h1:∀u∈xs,u.oneCell'=true) (hn:n<=1000000):
  Calls zp 119 #[.slice A n c] w (Bf 46 1 n xs w):=by
 have heq:=fun w'=>Gg (P:=zp) underlying49 A n c w'
 cases A with
 |none=>
  replace heq:∀w',(binOp .eql 49 (.slice none n c) (.slice none 0 0)).run zp w'=.ok (.bool true) w':=heq
  have h0:n=0:=by
   rcases hr.2 with h|⟨_,_,h,_⟩
   · exact h
   · cases h
  have hx:xs=[]:=A04 (by rw [hr.1,h0,A03]);subst h0;subst hx;have fin:Bf 46 1 0 [] w (.returned (.slice none 0 0)) w:=⟨none,0,rfl,Own.nil _ _ _ _,Fr.refl _ _⟩;generalize Bf 46 1 0 [] w=POST at*;replace fin:=lh fin;go_enter func119,ntmps119;go_wp2_with fail;exact fin.out
 |some ad=>
  replace heq:∀w',(binOp .eql 49 (.slice (some ad) n c) (.slice none 0 0)).run zp w'=.ok (.bool false) w':=heq;have hem:=Own.empty w 46 1;have hr1:=hr.fr ((Fr.refl Non w).alloc (.cells #[] 46)) zr
  have fin:∀A' c' w',Own w' w.heap.size 46 1 A' (0+n) c' ([]++xs)->Fr (fun k=>Ac (some (⟨w.heap.size,0,none⟩:Addr))=some k) (w.alloc (.cells #[] 46)) w'->Bf 46 1 n xs w (.returned (.slice A' n c')) w':=by
   intro A' c' w' h2 h3;rw [A02,A05] at h2;refine ⟨A',c',rfl,h2,((Fr.refl Non w).alloc (.cells #[] 46)).trans h3 (fun k hk e=> ?_)⟩;have e':w.heap.size=k:=Option.some.inj e;omega
  replace fin:=lh fin;generalize Bf 46 1 n xs w=POST at*;go_enter func119,ntmps119;go_upto_region 3 with (fail)
  go_wp2_with (at_builtin;go_loud (refine Ba (base:=w.heap.size) (.tmp 5) (.tmp 6) 49 rfl rfl rfl rfl Lu hem hr1 h1 (by omega) (by omega) (by rw [A01];omega) ?_);intro A1 c1 w2 own1 fr1 hat1;have hdone:=lh (fin.out _ _ _ own1 fr1);clear own1 fr1 hat1 fin);exact hdone.out
theorem Ac7 (B n c:Nat) (A:Option Addr) (xs:List Value) (w:World) (hr:Rd w B 1 A n xs) (h1:∀u∈xs,u.oneCell'=true) (hn:n<=1000000):
  Calls zp 120 #[.slice A n c] w (Bf 3 1 n xs w):=by
 have heq:=fun w'=>Gg (P:=zp) underlying22 A n c w'
 cases A with
 |none=>
  replace heq:∀w',(binOp .eql 22 (.slice none n c) (.slice none 0 0)).run zp w'=.ok (.bool true) w':=heq
  have h0:n=0:=by
   rcases hr.2 with h|⟨_,_,h,_⟩
   · exact h
   · cases h
  have hx:xs=[]:=A04 (by rw [hr.1,h0,A03]);subst h0;subst hx;have fin:Bf 3 1 0 [] w (.returned (.slice none 0 0)) w:=⟨none,0,rfl,Own.nil _ _ _ _,Fr.refl _ _⟩;generalize Bf 3 1 0 [] w=POST at*;replace fin:=lh fin;go_enter func120,ntmps120;go_wp2_with fail;exact fin.out
 |some ad=>
  replace heq:∀w',(binOp .eql 22 (.slice (some ad) n c) (.slice none 0 0)).run zp w'=.ok (.bool false) w':=heq;have hem:=Own.empty w 3 1;have hr1:=hr.fr ((Fr.refl Non w).alloc (.cells #[] 3)) zr
  have fin:∀A' c' w',Own w' w.heap.size 3 1 A' (0+n) c' ([]++xs)->Fr (fun k=>Ac (some (⟨w.heap.size,0,none⟩:Addr))=some k) (w.alloc (.cells #[] 3)) w'->Bf 3 1 n xs w (.returned (.slice A' n c')) w':=by
   intro A' c' w' h2 h3;rw [A02,A05] at h2;refine ⟨A',c',rfl,h2,((Fr.refl Non w).alloc (.cells #[] 3)).trans h3 (fun k hk e=> ?_)⟩;have e':w.heap.size=k:=Option.some.inj e;omega
  replace fin:=lh fin;generalize Bf 3 1 n xs w=POST at*;go_enter func120,ntmps120;go_upto_region 3 with (fail)
  go_wp2_with (at_builtin;go_loud (refine Ba (base:=w.heap.size) (.tmp 5) (.tmp 6) 22 rfl rfl rfl rfl Ds hem hr1 h1 (by omega) (by omega) (by rw [A01];omega) ?_);intro A1 c1 w2 own1 fr1 hat1;have hdone:=lh (fin.out _ _ _ own1 fr1);clear own1 fr1 hat1 fin);exact hdone.out
theorem Rr (B n c:Nat) (A:Option Addr) (xs:List Value) (w:World) (hr:Rd w B 4 A n xs) (h1:∀u∈xs,u.oneCell'=true) (hn:n<=1000000):
  Calls zp 121 #[.slice A n c] w (Bf 125 4 n xs w):=by
 have heq:=fun w'=>Gg (P:=zp) underlying50 A n c w'
 cases A with
 |none=>
  replace heq:∀w',(binOp .eql 50 (.slice none n c) (.slice none 0 0)).run zp w'=.ok (.bool true) w':=heq
  have h0:n=0:=by
   rcases hr.2 with h|⟨_,_,h,_⟩
   · exact h
   · cases h
  have hx:xs=[]:=A04 (by rw [hr.1,h0,A03]);subst h0;subst hx;have fin:Bf 125 4 0 [] w (.returned (.slice none 0 0)) w:=⟨none,0,rfl,Own.nil _ _ _ _,Fr.refl _ _⟩;generalize Bf 125 4 0 [] w=POST at*;replace fin:=lh fin;go_enter func121,ntmps121;go_wp2_with fail;exact fin.out
 |some ad=>
  replace heq:∀w',(binOp .eql 50 (.slice (some ad) n c) (.slice none 0 0)).run zp w'=.ok (.bool false) w':=heq;have hem:=Own.empty w 125 4;have hr1:=hr.fr ((Fr.refl Non w).alloc (.cells #[] 125)) zr
  have fin:∀A' c' w',Own w' w.heap.size 125 4 A' (0+n) c' ([]++xs)->Fr (fun k=>Ac (some (⟨w.heap.size,0,none⟩:Addr))=some k) (w.alloc (.cells #[] 125)) w'->Bf 125 4 n xs w (.returned (.slice A' n c')) w':=by
   intro A' c' w' h2 h3;rw [A02,A05] at h2;refine ⟨A',c',rfl,h2,((Fr.refl Non w).alloc (.cells #[] 125)).trans h3 (fun k hk e=> ?_)⟩;have e':w.heap.size=k:=Option.some.inj e;omega
  replace fin:=lh fin;generalize Bf 125 4 n xs w=POST at*;go_enter func121,ntmps121;go_upto_region 3 with (fail)
  go_wp2_with (at_builtin;go_loud (refine Ba (base:=w.heap.size) (.tmp 5) (.tmp 6) 50 rfl rfl rfl rfl slBx hem hr1 h1 (by omega) (by omega) (by rw [A01];omega) ?_);intro A1 c1 w2 own1 fr1 hat1;have hdone:=lh (fin.out _ _ _ own1 fr1);clear own1 fr1 hat1 fin);exact hdone.out
theorem Ac8 (B n c:Nat) (A:Option Addr) (xs:List Value) (w:World) (hr:Rd w B 2 A n xs) (h1:∀u∈xs,u.oneCell'=true) (hn:n<=1000000):
  Calls zp 122 #[.slice A n c] w (Bf 134 2 n xs w):=by
 have heq:=fun w'=>Gg (P:=zp) underlying45 A n c w'
 cases A with
 |none=>
  replace heq:∀w',(binOp .eql 45 (.slice none n c) (.slice none 0 0)).run zp w'=.ok (.bool true) w':=heq
  have h0:n=0:=by
   rcases hr.2 with h|⟨_,_,h,_⟩
   · exact h
   · cases h
  have hx:xs=[]:=A04 (by rw [hr.1,h0,A03]);subst h0;subst hx;have fin:Bf 134 2 0 [] w (.returned (.slice none 0 0)) w:=⟨none,0,rfl,Own.nil _ _ _ _,Fr.refl _ _⟩;generalize Bf 134 2 0 [] w=POST at*;replace fin:=lh fin;go_enter func122,ntmps122;go_wp2_with fail;exact fin.out
 |some ad=>
  replace heq:∀w',(binOp .eql 45 (.slice (some ad) n c) (.slice none 0 0)).run zp w'=.ok (.bool false) w':=heq;have hem:=Own.empty w 134 2;have hr1:=hr.fr ((Fr.refl Non w).alloc (.cells #[] 134)) zr
  have fin:∀A' c' w',Own w' w.heap.size 134 2 A' (0+n) c' ([]++xs)->Fr (fun k=>Ac (some (⟨w.heap.size,0,none⟩:Addr))=some k) (w.alloc (.cells #[] 134)) w'->Bf 134 2 n xs w (.returned (.slice A' n c')) w':=by
   intro A' c' w' h2 h3;rw [A02,A05] at h2;refine ⟨A',c',rfl,h2,((Fr.refl Non w).alloc (.cells #[] 134)).trans h3 (fun k hk e=> ?_)⟩;have e':w.heap.size=k:=Option.some.inj e;omega
  replace fin:=lh fin;generalize Bf 134 2 n xs w=POST at*;go_enter func122,ntmps122;go_upto_region 3 with (fail)
  go_wp2_with (at_builtin;go_loud (refine Ba (base:=w.heap.size) (.tmp 5) (.tmp 6) 45 rfl rfl rfl rfl slNd hem hr1 h1 (by omega) (by omega) (by rw [A01];omega) ?_);intro A1 c1 w2 own1 fr1 hat1;have hdone:=lh (fin.out _ _ _ own1 fr1);clear own1 fr1 hat1 fin);exact hdone.out
theorem Ac9 (B n c:Nat) (A:Option Addr) (xs:List Value) (w:World) (hr:Rd w B 4 A n xs) (h1:∀u∈xs,u.oneCell'=true) (hn:n<=1000000):
  Calls zp 123 #[.slice A n c] w (Bf 141 4 n xs w):=by
 have heq:=fun w'=>Gg (P:=zp) underlying51 A n c w'
 cases A with
 |none=>
  replace heq:∀w',(binOp .eql 51 (.slice none n c) (.slice none 0 0)).run zp w'=.ok (.bool true) w':=heq
  have h0:n=0:=by
   rcases hr.2 with h|⟨_,_,h,_⟩
   · exact h
   · cases h
  have hx:xs=[]:=A04 (by rw [hr.1,h0,A03]);subst h0;subst hx;have fin:Bf 141 4 0 [] w (.returned (.slice none 0 0)) w:=⟨none,0,rfl,Own.nil _ _ _ _,Fr.refl _ _⟩;generalize Bf 141 4 0 [] w=POST at*;replace fin:=lh fin;go_enter func123,ntmps123;go_wp2_with fail;exact fin.out
 |some ad=>
  replace heq:∀w',(binOp .eql 51 (.slice (some ad) n c) (.slice none 0 0)).run zp w'=.ok (.bool false) w':=heq;have hem:=Own.empty w 141 4;have hr1:=hr.fr ((Fr.refl Non w).alloc (.cells #[] 141)) zr
  have fin:∀A' c' w',Own w' w.heap.size 141 4 A' (0+n) c' ([]++xs)->Fr (fun k=>Ac (some (⟨w.heap.size,0,none⟩:Addr))=some k) (w.alloc (.cells #[] 141)) w'->Bf 141 4 n xs w (.returned (.slice A' n c')) w':=by
   intro A' c' w' h2 h3;rw [A02,A05] at h2;refine ⟨A',c',rfl,h2,((Fr.refl Non w).alloc (.cells #[] 141)).trans h3 (fun k hk e=> ?_)⟩;have e':w.heap.size=k:=Option.some.inj e;omega
  replace fin:=lh fin;generalize Bf 141 4 n xs w=POST at*;go_enter func123,ntmps123;go_upto_region 3 with (fail)
  go_wp2_with (at_builtin;go_loud (refine Ba (base:=w.heap.size) (.tmp 5) (.tmp 6) 51 rfl rfl rfl rfl slSl hem hr1 h1 (by omega) (by omega) (by rw [A01];omega) ?_);intro A1 c1 w2 own1 fr1 hat1;have hdone:=lh (fin.out _ _ _ own1 fr1);clear own1 fr1 hat1 fin);exact hdone.out
theorem Ad0 (B n c:Nat) (A:Option Addr) (xs:List Value) (w:World) (hr:Rd w B 5 A n xs) (h1:∀u∈xs,u.oneCell'=true) (hn:n<=1000000):
  Calls zp 50 #[.slice A n c] w (Bf 96 5 n xs w):=by
 have heq:=fun w'=>Gg (P:=zp) underlying23 A n c w'
 cases A with
 |none=>
  replace heq:∀w',(binOp .eql 23 (.slice none n c) (.slice none 0 0)).run zp w'=.ok (.bool true) w':=heq
  have h0:n=0:=by
   rcases hr.2 with h|⟨_,_,h,_⟩
   · exact h
   · cases h
  have hx:xs=[]:=A04 (by rw [hr.1,h0,A03]);subst h0;subst hx;have fin:Bf 96 5 0 [] w (.returned (.slice none 0 0)) w:=⟨none,0,rfl,Own.nil _ _ _ _,Fr.refl _ _⟩;generalize Bf 96 5 0 [] w=POST at*;replace fin:=lh fin;go_enter func50,ntmps50;go_wp2_with fail;exact fin.out
 |some ad=>
  replace heq:∀w',(binOp .eql 23 (.slice (some ad) n c) (.slice none 0 0)).run zp w'=.ok (.bool false) w':=heq;have hem:=Own.empty w 96 5;have hr1:=hr.fr ((Fr.refl Non w).alloc (.cells #[] 96)) zr
  have fin:∀A' c' w',Own w' w.heap.size 96 5 A' (0+n) c' ([]++xs)->Fr (fun k=>Ac (some (⟨w.heap.size,0,none⟩:Addr))=some k) (w.alloc (.cells #[] 96)) w'->Bf 96 5 n xs w (.returned (.slice A' n c')) w':=by
   intro A' c' w' h2 h3;rw [A02,A05] at h2;refine ⟨A',c',rfl,h2,((Fr.refl Non w).alloc (.cells #[] 96)).trans h3 (fun k hk e=> ?_)⟩;have e':w.heap.size=k:=Option.some.inj e;omega
  replace fin:=lh fin;generalize Bf 96 5 n xs w=POST at*;go_enter func50,ntmps50;go_upto_region 3 with (fail)
  go_wp2_with (at_builtin;go_loud (refine Ba (base:=w.heap.size) (.tmp 5) (.tmp 6) 23 rfl rfl rfl rfl slCd hem hr1 h1 (by omega) (by omega) (by rw [A01];omega) ?_);intro A1 c1 w2 own1 fr1 hat1;have hdone:=lh (fin.out _ _ _ own1 fr1);clear own1 fr1 hat1 fin);exact hdone.out
end Oq
section
variable {P : Program} {ops : Array Oper} {Q : Exit -> Act -> World -> Prop} {md : Region.Mode} {S : World -> Prop} {g : Nat}
def C8 (P:Program) (md:Region.Mode) (ops:Array Oper) (Q:Exit->Act->World->Prop) (S:World->Prop) (g:Nat) (fuel:Nat) (listed:Array Bool) (a:Act) (w:World):Prop:=
 match fuel with
 |0=>Region.ready md ops listed=[]/\Q .normal a w
 |k+1=>(Region.ready md ops listed=[]->Q .normal a w)/\
   ∀i∈Region.ready md ops listed,wpOp P ops Q i (fun a' w'=>((listed.setIfInBounds i true).getD g true=false->S w')/\C8 P md ops Q S g k (listed.setIfInBounds i true) a' w') a w
theorem Ad1:∀(fuel:Nat) (listed:Array Bool) (a:Act) (w:World),C8 P md ops Q S g fuel listed a w->wpAny P md ops Q fuel listed a w:=by
 intro fuel
 induction fuel with
 |zero=>intro _ _ _ h;exact h
 |succ k ih=>intro l a w h;exact ⟨h.1,fun i hi=>wpOp_mono (fun a' w' h'=>ih _ a' w' h'.2) (h.2 i hi)⟩
theorem Ad2:∀(fuel:Nat) (listed:Array Bool) (a:Act) (w:World),listed.getD g true=true->wpAny P md ops Q fuel listed a w->C8 P md ops Q S g fuel listed a w:=by
 intro fuel
 induction fuel with
 |zero=>intro _ _ _ _ h;exact h
 |succ k ih=>
  intro l a w hg h;refine ⟨h.1,fun i hi=>wpOp_mono (fun a' w' h'=> ?_) (h.2 i hi)⟩
  have hg':(l.setIfInBounds i true).getD g true=true:=by
   by_cases hgi:i=g
   ·
    subst hgi
    by_cases hb:i<l.size
    · simp [A11,hb]
    · simp [A11,hb]
   ·
    rw [getD_set_ne true hgi];exact hg
  exact ⟨fun h0=>(by rw [hg'] at h0;cases h0),ih _ a' w' hg' h'⟩
theorem Ad3 {i:Nat} {oi og:Oper} {v:Value} (hi:ops[i]? =some oi) (hog:ops[g]? =some og) (hgi:g≠i) (hwait:∃e∈og.after,Region.binds md e=true/\e.on=i)
  (hsel:∀(j:Nat) (o:Oper) cs b,ops[j]? =some o->o.op≠ .select cs b) (hQ:∀c a w,Q (.panic c) (a.put oi.dst v) w->Q (.panic c) a w):
  ∀(fuel:Nat) (listed:Array Bool) (a:Act) (w:World),listed.getD g true=false->
   (∀j oj,ops[j]? =some oj->j≠i->listed.getD j true=false->(∀e∈oj.after,Region.binds md e=true->e.on≠i)->oi.apart ops oj=true)->
   i∈Region.ready md ops listed->YieldsIf P ops S oi v a->S w->
   C8 P md ops Q S g fuel (listed.setIfInBounds i true) (a.put oi.dst v) w->C8 P md ops Q S g (fuel+1) listed a w:=by
 intro fuel
 induction fuel with
 |zero=>
  intro listed a w hg _ hr hy hS H;refine ⟨fun h=>(by rw [h] at hr;cases hr),fun j hj=> ?_⟩
  by_cases hji:j=i
  · subst hji;exact hy.wpOp hi hS ⟨fun _=>hS,H⟩
  ·
   have h0:=ready_mono hj hji;rw [H.1] at h0
   cases h0
 |succ k ih=>
  intro listed a w hg hfree hr hy hS H;refine ⟨fun h=>(by rw [h] at hr;cases hr),fun j hj=> ?_⟩
  by_cases hji:j=i
  · subst hji;exact hy.wpOp hi hS ⟨fun _=>hS,H⟩
  ·
   have hpend:=(mem_ready.1 hr).1;obtain ⟨hjun,oj,hoj,hall⟩:=mem_ready.1 hj
   have hbl:∀e∈oj.after,Region.binds md e=true->e.on≠i:=fun e he hb heq=>by
    have h1:=hall e he hb;rw [heq] at h1
    rcases Nat.lt_or_ge i listed.size with h'|h'
    · simp [h'] at hpend h1;rw [hpend] at h1;cases h1
    · simp [Array.getElem?_eq_none h'] at h1
   have hjg:j≠g:=by
    rintro rfl;obtain ⟨e,he,hb,heq⟩:=hwait;rw [hog] at hoj
    cases hoj
    exact hbl e he hb heq
   have h1:=H.2 j (ready_mono hj hji);have h2:=wpOp_putIf hoj (hfree j oj hoj hji hjun hbl) (fun cs b=>hsel i oi cs b hi) (fun cs b=>hsel j oj cs b hoj) hQ hy h1;have hg':(listed.setIfInBounds j true).getD g true=false:=by rw [getD_set_ne true hjg];exact hg
   have hgij:((listed.setIfInBounds i true).setIfInBounds j true).getD g true=false:=by rw [getD_set_ne true hjg,getD_set_ne true (Ne.symm hgi)];exact hg
   have hfree':∀m om,ops[m]? =some om->m≠i->(listed.setIfInBounds j true).getD m true=false->
     (∀e∈om.after,Region.binds md e=true->e.on≠i)->oi.apart ops om=true:=fun m om hm hmi hun hno=>by
    refine hfree m om hm hmi ?_ hno
    by_cases hjm:j=m
    · subst hjm;exact hjun
    · rw [getD_set_ne true hjm] at hun;exact hun
   refine wpOp_mono (fun a' w' h3=> ?_) h2;have hS':=h3.2.1 hgij;refine ⟨fun _=>hS',ih _ a' w' hg' hfree' (ready_mono hr (Ne.symm hji)) h3.1 hS' ?_⟩;rw [Array.setIfInBounds_comm _ _ hji];exact h3.2.2
def Ke (md:Region.Mode) (ops:Array Oper) (g i:Nat):Bool:=match ops[g]? with|some og=>og.after.any (fun e=>Region.binds md e&&e.on==i)|none=>false
theorem Ad4 {i:Nat} (h:Ke md ops g i=true):∃og,ops[g]? =some og/\∃e∈og.after,Region.binds md e=true/\e.on=i:=by
 unfold Ke at h
 split at h
 ·
  rename_i og hog;obtain ⟨e,he,hb⟩:=Array.any_eq_true'.1 h;simp only [A15,beq_iff_eq] at hb;exact ⟨og,hog,e,he,hb.1,hb.2⟩
 · cases h
end
theorem Gh {P:Program} {Q:Exit->Act->World->Prop} {md:Region.Mode} {S:World->Prop} {g:Nat} {l:List Oper} {i:Nat} {d:Tmp} {op:Op} {ty:TypeId} {pos:String} {after:Array Edge} {gd:Option (Nat × Bool)} {v:Value} {fuel:Nat} {listed:Array Bool} {tl:List Value} {ds:List Deferred} {w:World} (hi:l[i]? =some ⟨some d,op,ty,pos,after,gd⟩)
  (hgate:(listed.getD g true==false&&g !=i&&Ke md l.toArray g i)=true)
  (hs:Region.noSelect l.toArray=true) (hf:Region.free md l.toArray listed i=true) (hr:(Region.ready md l.toArray listed).contains i=true)
  (hQ:∀c a w,Q (.panic c) (a.put (some d) v) w->Q (.panic c) a w) (hy:YieldsIf P l.toArray S ⟨some d,op,ty,pos,after,gd⟩ v ⟨tl.toArray,ds⟩) (hS:S w)
  (h:C8 P md l.toArray Q S g fuel (listed.setIfInBounds i true) ⟨(tl.set d v).toArray,ds⟩ w):C8 P md l.toArray Q S g (fuel+1) listed ⟨tl.toArray,ds⟩ w:=by
 simp only [A15,beq_iff_eq,bne_iff_ne] at hgate;obtain ⟨og,hog,hwait⟩:=Ad4 hgate.2;have hi':l.toArray[i]? =some ⟨some d,op,ty,pos,after,gd⟩:=by rw [A16];exact hi
 exact Ad3 hi' hog hgate.1.2 hwait (Region.noSelect_spec hs) hQ fuel listed _ w hgate.1.1 (Region.free_spec hi' hf) (by simpa using hr) hy hS (by rw [Ae];exact h)
theorem Cc {P:Program} {Q:Exit->Act->World->Prop} {l:List Oper} {md:Region.Mode} {S:World->Prop} {g fuel:Nat} {listed:Array Bool} {a:Act} {w:World} (i:Nat) {d:Option Tmp} {op:Op} {ty:TypeId} {pos:String} {after:Array Edge} (hr:Region.ready md l.toArray listed=[i]) (ho:l[i]? =some ⟨d,op,ty,pos,after,none⟩)
  (h:∀K':Act->World->Prop,Shut (∀a w,S w->(S w->C8 P md l.toArray Q S g fuel (listed.setIfInBounds i true) a w)->K' a w)->Oper.wp P ⟨d,op,ty,pos,after,none⟩ a w K' Q):
  C8 P md l.toArray Q S g (fuel+1) listed a w:=by
 refine ⟨fun h0=>(by rw [hr] at h0;cases h0),fun j hj=> ?_⟩;rw [hr] at hj;obtain rfl:=List.mem_singleton.1 hj;refine wpOp_step (o:=⟨d,op,ty,pos,after,none⟩) (by rw [A16];exact ho) (fun K' hK=> ?_);rw [if_pos (show Region.wanted _ _=true from rfl)];exact h K' (fun a w hS hW=>hK a w ⟨fun _=>hS,hW hS⟩)
theorem C5 {P:Program} {Q:Exit->Act->World->Prop} {l:List Oper} {md:Region.Mode} {S:World->Prop} {g fuel:Nat} {listed:Array Bool} {a:Act} {w:World} (hr:Region.ready md l.toArray listed=[g])
  (h:wpAnyH P md l.toArray Q (fun _=>True) (fuel+1) listed a w):C8 P md l.toArray Q S g (fuel+1) listed a w:=by
 refine ⟨h.1,fun j hj=>wpOp_mono (fun a' w' h'=> ?_) (h.2 j hj)⟩;rw [hr] at hj;obtain rfl:=List.mem_singleton.1 hj
 have hg':(listed.setIfInBounds j true).getD j true=true:=by
  by_cases hb:j<listed.size
  · simp [A11,hb]
  · simp [A11,hb]
 exact ⟨fun h0=>(by rw [hg'] at h0;cases h0),Ad2 _ _ _ _ hg' (wpAny_of_held _ _ _ _ h'.2)⟩
theorem C9 {P:Program} {Q:Exit->Act->World->Prop} {S:World->Prop} (g:Nat) {id:Nat} {l:List Oper} {a:Act} {w:World} (hm:P.follows .mixedOrders=true)
  (h:C8 P .any l.toArray Q S g l.toArray.size (Array.replicate l.toArray.size false) a w.drew):(Code.region id l.toArray true).wp P Q a w:=
 wp_region_any hm (Ad1 _ _ _ _ h)
theorem tkG (i:Nat) {P:Program} {Q:Exit->Act->World->Prop} {md:Region.Mode} {S:World->Prop} {gt:Nat} {l:List Oper} {d:Tmp} {op:Op} {ty:TypeId} {pos:String} {after:Array Edge} {g:Option (Nat × Bool)} {v:Value} {fuel:Nat} {listed:Array Bool} {tl:List Value} {ds:List Deferred} {w:World} (hS:S w) (hi:l[i]? =some ⟨some d,op,ty,pos,after,g⟩:=by rfl)
  (hgate:(listed.getD gt true==false&&gt !=i&&Ke md l.toArray gt i)=true:=by kernel_rfl)
  (hs:Region.noSelect l.toArray=true:=by kernel_rfl) (hf:Region.free md l.toArray listed i=true:=by kernel_rfl) (hr:(Region.ready md l.toArray listed).contains i=true:=by kernel_rfl)
  (hQ:∀c a w,Q (.panic c) (a.put (some d) v) w->Q (.panic c) a w:=by exact fun _ _ _ h=>h) (hy:YieldsIf P l.toArray S ⟨some d,op,ty,pos,after,g⟩ v ⟨tl.toArray,ds⟩:=by (refine Or.inl ⟨by kernel_rfl,?_⟩;intro w' hSw;(try dsimp only at hSw);(try simp only [zl]);go_simp;(try with_reducible rfl)))
  (h:C8 P md l.toArray Q S gt fuel (listed.setIfInBounds i true) ⟨(tl.set d v).toArray,ds⟩ w):
  C8 P md l.toArray Q S gt (fuel+1) listed ⟨tl.toArray,ds⟩ w:=Gh hi hgate hs hf hr hQ hy hS h
theorem Own.setAt {w:World} {base n c size:Nat} {t:TypeId} {A:Option Addr} {xs:List Value} (h:Own w base t size A n c xs) {j:Nat} (hj:j<n*size) (u:Value):
  ∃g,A=some ⟨g,0,none⟩/\base<=g/\g<w.heap.size/\(∀v,xs[j]? =some v->w.cell? ⟨g,j,none⟩=some v)/\w.frozen? ⟨g,j,none⟩=false/\Own (w.setCell ⟨g,j,none⟩ u) base t size A n c (xs.set j u):=by
 rcases h.2 with ⟨_,h0⟩|⟨g,cap,cur,hv,hb,hg,h1,h2,h3,h4⟩
 ·
  subst h0;omega
 ·
  injection hv with hA hn hc
  have hblk:Blk w g t cur:=hg;have hset:=hblk.set j u;refine ⟨g,hA,hb,hblk.lt,?_,hblk.frozen j,?_⟩
  ·
   intro v hv';rw [hblk.cell j];rw [<- h4,List.getElem?_take_of_lt hj] at hv';simpa using hv'
  ·
   refine ⟨by rw [List.length_set];exact h.1,.inr ⟨g,cap,cur.setIfInBounds j u,?_,hb,hset,h1,h2,by simpa using h3,?_⟩⟩
   · subst hA hc;rfl
   · rw [Array.toList_setIfInBounds,List.take_set,h4]
theorem Il {α:Type} {f:α->List Value} {size:Nat} (hf:∀x,(f x).length=size) {j:Nat} (hj:j<size) (v:Value) (y:α):∀(l:List α) (k:Nat) (x:α),l[k]? =some x->(f x).set j v=f y->
  (l.flatMap f).set (k*size+j) v=(l.set k y).flatMap f:=by
 intro l
 induction l with
 |nil=>intro k x hx _;simp at hx
 |cons a r ih=>
  intro k x hx hy
  cases k with
  |zero=>
   simp only [List.getElem?_cons_zero,Option.some.injEq] at hx;subst hx;rw [A12,List.set_cons_zero,A12,A03,A02,List.set_append_left _ _ (by rw [hf];exact hj),hy]
  |succ m=>
   rw [List.getElem?_cons_succ] at hx;rw [A12,List.set_cons_succ,A12,List.set_append_right _ _ (by rw [hf,Nat.add_mul];omega),hf,show (m+1)*size+j-size=m*size+j by rw [Nat.add_mul];omega,ih m x hx hy]
theorem Rs {α β:Type} (nd:α->β) (l:List α) (k:Nat) {y y':α} (h:l[k]? =some y) (e:nd y'=nd y):(l.set k y').map nd=l.map nd:=by
 rw [List.map_set,e];apply List.ext_getElem?;intro i;rw [List.getElem?_set]
 by_cases hi:k=i
 ·
  subst hi;rw [List.getElem?_map,h];have hk:k<(l.map nd).length:=by rw [A06];exact (List.getElem?_eq_some_iff.1 h).1
  simp [(List.getElem?_eq_some_iff.1 h).1]
 · rw [if_neg hi]
theorem Rt {α:Type} (l m:List α) (k:Nat) (y':α) (h:l.drop k=m.drop k):(l.set k y').drop (k+1)=m.drop (k+1):=by
 rw [A17 (by omega)];have h2:=congrArg (A14 1) h;rwa [A08,A08] at h2
theorem M7 {α:Type} (l:List α) (k:Nat) {y:α} (y':α) (h:l[k]? =some y):(l.set k y').take (k+1)=l.take k++[y']:=by
 have hk:=(List.getElem?_eq_some_iff.1 h).1;rw [A18 (by rw [List.length_set];exact hk),List.take_set_of_le (by omega)];simp
theorem M8 {α:Type} {l m:List α} {k:Nat} (h:l.drop k=m.drop k):l[k]? =m[k]? :=by
 have h2:=congrArg (fun t=>t[0]?) h;simpa [List.getElem?_drop] using h2
namespace Oq
attribute [local go_sem ↓] Bo
theorem Kf {α:Type} (f:α->Value) (hf:∀a,(f a).oneCell'=true) (l:List α):∀v∈l.map f,v.oneCell'=true:=by
 intro v hv;obtain ⟨y,_,rfl⟩:=List.mem_map.1 hv;exact hf y
theorem Kg {α:Type} (f:α->List Value) (hf:∀a,∀v∈f a,v.oneCell'=true) (l:List α):∀v∈l.flatMap f,v.oneCell'=true:=by
 intro v hv;obtain ⟨y,_,hy⟩:=List.mem_flatMap.1 hv;exact hf y v hy
theorem Ru (l:List Bx):∀v∈l.flatMap Bx.cells,v.oneCell'=true:=Kg _ (fun a v hv=>by simp [Bx.cells] at hv;rcases hv with rfl|rfl|rfl|rfl<;>rfl) l
theorem Ad5 (l:List NdL):∀v∈l.flatMap NdL.cells,v.oneCell'=true:=Kg _ (fun a v hv=>by simp [NdL.cells] at hv;rcases hv with rfl|rfl<;>rfl) l
theorem Ad6 (l:List SlL):∀v∈l.flatMap SlL.cells,v.oneCell'=true:=Kg _ (fun a v hv=>by simp [SlL.cells] at hv;rcases hv with rfl|rfl|rfl|rfl<;>rfl) l
def M9 (o:Op) (w:World) (r:Ending) (w':World):Prop:=
 ∃y:OpL,r=.returned (.agg y.cells)/\y.op=o/\y.own w' w.heap.size/\Fr Non w w'
theorem Rv (x:OpL) (w:World) (hat:x.at w w.heap.size) (hok:x.op.ok):Calls zp 59 #[.agg x.cells] w (M9 x.op w):=by
 have hi:(zp.info? 55).map (·.size)=some 27:=by kernel_rfl
 have ag:Blk ((w.alloc (.cells x.cells 55)).alloc (.cells zO 55)) w.heap.size 55 x.cells:=(Blk.new w 55 x.cells).alloc _
 have b6:Blk ((w.alloc (.cells x.cells 55)).alloc (.cells zO 55)) (w.heap.size+1) 55 zO:=by
  have:=Blk.new (w.alloc (.cells x.cells 55)) 55 zO;rwa [A01] at this
 have dw:((w.alloc (.cells x.cells 55)).alloc (.cells zO 55)).heap.size=w.heap.size+2:=by rw [A01,A01]
 have br:Fr Non w ((w.alloc (.cells x.cells 55)).alloc (.cells zO 55)):=((Fr.refl Non w).alloc _).alloc _;have bq:=OpL.frame hat br;have cf:x.guards.length<=1000000:=by have h:=hok.guards.1;rw [show x.op.guards=x.guards from rfl] at h;omega
 have dl:x.refs.length<=1000000:=by have h:=hok.refs.1;rw [show x.op.refs=x.refs from rfl] at h;omega
 have c9:x.boxes.length<=1000000:=by have h:=hok.boxes.1;rw [show x.op.boxes=x.boxes from rfl] at h;omega
 have dh:x.past.length<=1000000:=by have h:=hok.past.1;rw [show x.op.past=x.past from rfl] at h;omega
 have bo:x.path.length<=1000000:=by have h:=hok.path.1;rw [show x.op.path=x.path.map NdL.nd from rfl,A06] at h;omega
 have bv:x.hist.length<=1000000:=by have h:=hok.hist.1;rw [show x.op.hist=x.hist.map SlL.sl from rfl,A06] at h;omega
 have dp:x.body.length<=1000000:=by have h:=hok.body;rw [show x.op.body=x.body from rfl] at h;omega
 have a4:Hid (∀y∈x.path,y.xs.length<=1000000):=fun y hy=>by have h:=(hok.path.2 y.nd (List.mem_map.2 ⟨y,hy,rfl⟩)).2.1;rw [show y.nd.xs=y.xs from rfl] at h;omega
 have bd:Hid (∀y∈x.hist,y.y.length<=1000000):=fun y hy=>by have h:=(hok.hist.2 y.sl (List.mem_map.2 ⟨y,hy,rfl⟩)).2;rw [show y.sl.y=y.y from rfl] at h;omega
 have a1:Hid (∀(y:OpL) (w':World),y.op=x.op->y.own w' w.heap.size->Fr Non w w'->M9 x.op w (.returned (.agg y.cells)) w'):=fun y w' h1 h2 h3=>⟨y,rfl,h1,h2,h3⟩;generalize M9 x.op w=POST at*;go_enter func59,ntmps59;go_upto_region 1 with (fail)
 generalize ((w.alloc (.cells x.cells 55)).alloc (.cells zO 55))=w0 at*;obtain ⟨CS,a2⟩:=Aa x.cells;rw [a2.out] at ag;have e4:Hid (CS[4]? =some (.slice x.pastA x.past.length x.pastC)):=by show _=_;rw [<- a2.out];rfl
 have cv:Hid (CS[14]? =some (.slice x.bodyA x.body.length x.bodyC)):=by show _=_;rw [<- a2.out];rfl
 have cm:Hid (CS[15]? =some (.slice x.refsA x.refs.length x.refsC)):=by show _=_;rw [<- a2.out];rfl
 have db:Hid (CS[19]? =some (.slice x.guardsA x.guards.length x.guardsC)):=by show _=_;rw [<- a2.out];rfl
 have ch:Hid (CS[22]? =some (.slice x.boxesA x.boxes.length x.boxesC)):=by show _=_;rw [<- a2.out];rfl
 refine C9 (S:=(fun w'=>Blk w' w.heap.size 55 CS)) 16 (by kernel_rfl) ?_;replace ag:Blk w0.drew w.heap.size 55 CS:=ag.drew;replace b6:=b6.drew;replace br:=br.drew;replace bq:=OpL.frame bq ((Fr.refl Non w0).drew);refine tkG 0 ag (h:=?_);simp only [zl];refine Gh (i:=1) (v:=?_) rfl (by kernel_rfl) (by kernel_rfl) (by kernel_rfl) (by kernel_rfl) (fun _ _ _ h=>h) (Or.inl ⟨by kernel_rfl,?_⟩) ag ?_;rotate_left
 focus (intro w' ac;have hB:=ac;have q:w'.cell? ⟨w.heap.size,4,none⟩=some _:=(hB.cell 4).trans e4.out;(try dsimp only at ac);go_simp;(try with_reducible rfl))
 simp only [zl];refine tkG 3 ag (h:=?_);simp only [zl];refine Gh (i:=4) (v:=?_) rfl (by kernel_rfl) (by kernel_rfl) (by kernel_rfl) (by kernel_rfl) (fun _ _ _ h=>h) (Or.inl ⟨by kernel_rfl,?_⟩) ag ?_;rotate_left
 focus (intro w' ac;have hB:=ac;have q:w'.cell? ⟨w.heap.size,14,none⟩=some _:=(hB.cell 14).trans cv.out;(try dsimp only at ac);go_simp;(try with_reducible rfl))
 simp only [zl];refine tkG 6 ag (h:=?_);simp only [zl];refine Gh (i:=7) (v:=?_) rfl (by kernel_rfl) (by kernel_rfl) (by kernel_rfl) (by kernel_rfl) (fun _ _ _ h=>h) (Or.inl ⟨by kernel_rfl,?_⟩) ag ?_;rotate_left
 focus (intro w' ac;have hB:=ac;have q:w'.cell? ⟨w.heap.size,15,none⟩=some _:=(hB.cell 15).trans cm.out;(try dsimp only at ac);go_simp;(try with_reducible rfl))
 simp only [zl];refine tkG 9 ag (h:=?_);simp only [zl];refine Gh (i:=10) (v:=?_) rfl (by kernel_rfl) (by kernel_rfl) (by kernel_rfl) (by kernel_rfl) (fun _ _ _ h=>h) (Or.inl ⟨by kernel_rfl,?_⟩) ag ?_;rotate_left
 focus (intro w' ac;have hB:=ac;have q:w'.cell? ⟨w.heap.size,19,none⟩=some _:=(hB.cell 19).trans db.out;(try dsimp only at ac);go_simp;(try with_reducible rfl))
 simp only [zl];refine tkG 12 ag (h:=?_);simp only [zl];refine Gh (i:=13) (v:=?_) rfl (by kernel_rfl) (by kernel_rfl) (by kernel_rfl) (by kernel_rfl) (fun _ _ _ h=>h) (Or.inl ⟨by kernel_rfl,?_⟩) ag ?_;rotate_left
 focus (intro w' ac;have hB:=ac;have q:w'.cell? ⟨w.heap.size,22,none⟩=some _:=(hB.cell 22).trans ch.out;(try dsimp only at ac);go_simp;(try with_reducible rfl))
 simp only [zl];refine Cc 2 (by kernel_rfl) rfl (fun K hK=> ?_);go_simp;go_wp2_with (go_at_call 84;(with_reducible refine (M6 _ _ _ _ _ _ bq.past.rd (Id.cells_one _) (by omega)).mono ?_);rintro _ w1 ⟨A1,c1,rfl,o1,f1⟩;have cb:=ag.fr f1 zq;have dv:=b6.fr f1 zq;have cq:=OpL.frame bq f1;have ds:=br.trans f1 zr;have d5:=f1.size);refine hK.out _ _ cb (fun hZ=> ?_);clear hZ hK K;try simp only [Aj,zl]
 refine tkG 15 cb (h:=?_);simp only [zl];refine Cc 5 (by kernel_rfl) rfl (fun K hK=> ?_);go_simp;go_wp2_with (go_at_call 118;(with_reducible refine (Rq _ _ _ _ _ _ cq.body.rd (Kf Bv (fun _=>rfl) _) (by omega)).mono ?_);rintro _ w2 ⟨A2,c2,rfl,o2,f2⟩;have cg:=cb.fr f2 zq;have dn:=dv.fr f2 zq;have cu:=OpL.frame cq f2;have bf:=ds.trans f2 zr;have es:=f2.size);refine hK.out _ _ cg (fun hZ=> ?_);clear hZ hK K;try simp only [Aj,zl]
 refine Cc 8 (by kernel_rfl) rfl (fun K hK=> ?_);go_simp;go_wp2_with (go_at_call 119;(with_reducible refine (Ac6 _ _ _ _ _ _ cu.refs.rd (Kf Uv (fun _=>rfl) _) (by omega)).mono ?_);rintro _ w3 ⟨A3,c3,rfl,o3,f3⟩;have cy:=cg.fr f3 zq;have dm:=dn.fr f3 zq;have c0:=OpL.frame cu f3;have dy:=bf.trans f3 zr;have d6:=f3.size);refine hK.out _ _ cy (fun hZ=> ?_);clear hZ hK K;try simp only [Aj,zl]
 refine Cc 11 (by kernel_rfl) rfl (fun K hK=> ?_);go_simp;go_wp2_with (go_at_call 120;(with_reducible refine (Ac7 _ _ _ _ _ _ c0.guards.rd (Kf Iv (fun _=>rfl) _) (by omega)).mono ?_);rintro _ w4 ⟨A4,c4,rfl,o4,f4⟩;have df:=cy.fr f4 zq;have dt:=dm.fr f4 zq;have cp:=OpL.frame c0 f4;have dg:=dy.trans f4 zr;have em:=f4.size);refine hK.out _ _ df (fun hZ=> ?_);clear hZ hK K;try simp only [Aj,zl]
 refine Cc 14 (by kernel_rfl) rfl (fun K hK=> ?_);go_simp;go_wp2_with (go_at_call 121;(with_reducible refine (Rr _ _ _ _ _ _ cp.boxes.rd (Ru _) (by omega)).mono ?_);rintro _ w5 ⟨A5,c5,rfl,o5,f5⟩;have aj:=df.fr f5 zq;have di:=dt.fr f5 zq;have ec:=OpL.frame cp f5;have co:=dg.trans f5 zr;have ee:=f5.size);refine hK.out _ _ aj (fun hZ=> ?_);clear hZ hK K;try simp only [Aj,zl]
 refine C5 (by kernel_rfl) ?_;have k4:cS w5 w.heap.size 4 x.pastA x.past.length x.pastC:=(aj.cell 4).trans e4.out;have z4:=aj.frozen 4;have er:cS w5 w.heap.size 14 x.bodyA x.body.length x.bodyC:=(aj.cell 14).trans cv.out;have ef:=aj.frozen 14;have eh:cS w5 w.heap.size 15 x.refsA x.refs.length x.refsC:=(aj.cell 15).trans cm.out;have eb:=aj.frozen 15;have en:cS w5 w.heap.size 19 x.guardsA x.guards.length x.guardsC:=(aj.cell 19).trans db.out;have ei:=aj.frozen 19;have el:cS w5 w.heap.size 22 x.boxesA x.boxes.length x.boxesC:=(aj.cell 22).trans ch.out;have d7:=aj.frozen 22;refine oG 16 (fun K hK=> ?_);go_simp;refine hK.out _ _ trivial (fun hZ=> ?_);clear hZ hK K;try simp only [Aj,zl]
 refine oG 17 (fun K hK=> ?_);go_simp;refine hK.out _ _ trivial (fun hZ=> ?_);clear hZ hK K;try simp only [Aj,zl]
 refine oG 18 (fun K hK=> ?_);go_simp;refine hK.out _ _ trivial (fun hZ=> ?_);clear hZ hK K;try simp only [Aj,zl]
 refine oG 19 (fun K hK=> ?_);go_simp;refine hK.out _ _ trivial (fun hZ=> ?_);clear hZ hK K;try simp only [Aj,zl]
 refine oG 20 (fun K hK=> ?_);go_simp;refine hK.out _ _ trivial (fun hZ=> ?_);clear hZ hK K;try simp only [Aj,zl]
 refine oG 21 (fun K hK=> ?_);go_simp;refine hK.out _ _ trivial (fun hZ=> ?_);clear hZ hK K;try simp only [Aj,zl]
 refine oG 22 (fun K hK=> ?_);go_simp;refine hK.out _ _ trivial (fun hZ=> ?_);clear hZ hK K;try simp only [Aj,zl]
 refine oG 23 (fun K hK=> ?_);go_simp;refine hK.out _ _ trivial (fun hZ=> ?_);clear hZ hK K;try simp only [Aj,zl]
 refine oG 24 (fun K hK=> ?_);go_simp;refine hK.out _ _ trivial (fun hZ=> ?_);clear hZ hK K;try simp only [Aj,zl]
 refine oD ?_;go_simp;obtain ⟨bt,ao⟩:=Aa ({x with pastA:=A1,pastC:=c1,bodyA:=A2,bodyC:=c2,refsA:=A3,refsC:=c3,guardsA:=A4,guardsC:=c4,boxesA:=A5,boxesC:=c5}:OpL).cells
 have ay:Blk (((((w5.setCell ⟨w.heap.size,4,none⟩ (.slice A1 x.past.length c1)).setCell ⟨w.heap.size,14,none⟩ (.slice A2 x.body.length c2)).setCell ⟨w.heap.size,15,none⟩ (.slice A3 x.refs.length c3)).setCell ⟨w.heap.size,19,none⟩ (.slice A4 x.guards.length c4)).setCell ⟨w.heap.size,22,none⟩ (.slice A5 x.boxes.length c5)) w.heap.size 55 bt:=by
  rw [<- ao.out];rw [<- a2.out] at aj;exact ((((aj.set 4 _).set 14 _).set 15 _).set 19 _).set 22 _
 have au:Fr (One w.heap.size) w5 (((((w5.setCell ⟨w.heap.size,4,none⟩ (.slice A1 x.past.length c1)).setCell ⟨w.heap.size,14,none⟩ (.slice A2 x.body.length c2)).setCell ⟨w.heap.size,15,none⟩ (.slice A3 x.refs.length c3)).setCell ⟨w.heap.size,19,none⟩ (.slice A4 x.guards.length c4)).setCell ⟨w.heap.size,22,none⟩ (.slice A5 x.boxes.length c5)):=(((((Fr.refl (One w.heap.size) w5).setCell (p:=⟨w.heap.size,4,none⟩) (fun _=>rfl) _).setCell (p:=⟨w.heap.size,14,none⟩) (fun _=>rfl) _).setCell (p:=⟨w.heap.size,15,none⟩) (fun _=>rfl) _).setCell (p:=⟨w.heap.size,19,none⟩) (fun _=>rfl) _).setCell (p:=⟨w.heap.size,22,none⟩) (fun _=>rfl) _;have sd:w0.drew.heap.size=w.heap.size+2:=dw;have ed:w.heap.size+2<=(((((w5.setCell ⟨w.heap.size,4,none⟩ (.slice A1 x.past.length c1)).setCell ⟨w.heap.size,14,none⟩ (.slice A2 x.body.length c2)).setCell ⟨w.heap.size,15,none⟩ (.slice A3 x.refs.length c3)).setCell ⟨w.heap.size,19,none⟩ (.slice A4 x.guards.length c4)).setCell ⟨w.heap.size,22,none⟩ (.slice A5 x.boxes.length c5)).heap.size:=by have h1:=au.size;omega
 have cd:=di.fr au (fun e=>by have e':w.heap.size+1=w.heap.size:=e;omega);have ap:x.at (((((w5.setCell ⟨w.heap.size,4,none⟩ (.slice A1 x.past.length c1)).setCell ⟨w.heap.size,14,none⟩ (.slice A2 x.body.length c2)).setCell ⟨w.heap.size,15,none⟩ (.slice A3 x.refs.length c3)).setCell ⟨w.heap.size,19,none⟩ (.slice A4 x.guards.length c4)).setCell ⟨w.heap.size,22,none⟩ (.slice A5 x.boxes.length c5)) w.heap.size:=(hat.fr co zr).fr au (fun j hj e=>by have e':j=w.heap.size:=e;omega);have bk:Fr Non w (((((w5.setCell ⟨w.heap.size,4,none⟩ (.slice A1 x.past.length c1)).setCell ⟨w.heap.size,14,none⟩ (.slice A2 x.body.length c2)).setCell ⟨w.heap.size,15,none⟩ (.slice A3 x.refs.length c3)).setCell ⟨w.heap.size,19,none⟩ (.slice A4 x.guards.length c4)).setCell ⟨w.heap.size,22,none⟩ (.slice A5 x.boxes.length c5)):=co.trans au (fun j hj e=>by have e':j=w.heap.size:=e;omega);have p1:=((o1.fr (((f2.trans f3 zr).trans f4 zr).trans f5 zr) zr).lower (base':=w.heap.size+2) (by omega)).fr au (fun j hj e=>by have h1:=(o1.row j hj).1;have e':j=w.heap.size:=e;omega);have p2:=((o2.fr ((f3.trans f4 zr).trans f5 zr) zr).lower (base':=w.heap.size+2) (by omega)).fr au (fun j hj e=>by have h1:=(o2.row j hj).1;have e':j=w.heap.size:=e;omega);have p3:=((o3.fr (f4.trans f5 zr) zr).lower (base':=w.heap.size+2) (by omega)).fr au (fun j hj e=>by have h1:=(o3.row j hj).1;have e':j=w.heap.size:=e;omega);have p4:=((o4.fr (f5) zr).lower (base':=w.heap.size+2) (by omega)).fr au (fun j hj e=>by have h1:=(o4.row j hj).1;have e':j=w.heap.size:=e;omega);have p5:=(o5.lower (base':=w.heap.size+2) (by omega)).fr au (fun j hj e=>by have h1:=(o5.row j hj).1;have e':j=w.heap.size:=e;omega);clear a2 ag cb cg cy df aj b6 dv dn dm dt di br ds bf dy dg co bq cq cu c0 cp ec f1 f2 f3 f4 f5 au o1 o2 o3 o4 o5 e4 cv cm db ch k4 er eh en el z4 ef eb ei d7 d5 es d6 em ee sd dw;generalize (((((w5.setCell ⟨w.heap.size,4,none⟩ (.slice A1 x.past.length c1)).setCell ⟨w.heap.size,14,none⟩ (.slice A2 x.body.length c2)).setCell ⟨w.heap.size,15,none⟩ (.slice A3 x.refs.length c3)).setCell ⟨w.heap.size,19,none⟩ (.slice A4 x.guards.length c4)).setCell ⟨w.heap.size,22,none⟩ (.slice A5 x.boxes.length c5))=w6 at*;clear w5 w4 w3 w2 w1 w0;have e9:Hid (bt[9]? =some (.slice x.pathA x.path.length x.pathC)):=by show _=_;rw [<- ao.out];rfl
 have bg:Hid (bt[24]? =some (.slice x.histA x.hist.length x.histC)):=by show _=_;rw [<- ao.out];rfl
 go_wp2_with fail;refine C9 (S:=(fun w'=>Blk w' w.heap.size 55 bt)) 7 (by kernel_rfl) ?_;replace ay:Blk w6.drew w.heap.size 55 bt:=ay.drew;replace cd:=cd.drew;replace bk:=bk.drew;replace ap:=ap.fr ((Fr.refl Non w6).drew) zr;have ew:w.heap.size<=w6.drew.heap.size:=bk.size;have ej:w.heap.size+2<=w6.drew.heap.size:=by have h1:=ed;exact h1
 replace p1:=p1.drew;replace p2:=p2.drew;replace p3:=p3.drew;replace p4:=p4.drew;replace p5:=p5.drew;refine tkG 0 ay (h:=?_);simp only [zl];refine Gh (i:=1) (v:=?_) rfl (by kernel_rfl) (by kernel_rfl) (by kernel_rfl) (by kernel_rfl) (fun _ _ _ h=>h) (Or.inl ⟨by kernel_rfl,?_⟩) ay ?_;rotate_left
 focus (intro w' ac;have hB:=ac;have q:w'.cell? ⟨w.heap.size,9,none⟩=some _:=(hB.cell 9).trans e9.out;(try dsimp only at ac);go_simp;(try with_reducible rfl))
 simp only [zl];refine tkG 3 ay (h:=?_);simp only [zl];refine Gh (i:=4) (v:=?_) rfl (by kernel_rfl) (by kernel_rfl) (by kernel_rfl) (by kernel_rfl) (fun _ _ _ h=>h) (Or.inl ⟨by kernel_rfl,?_⟩) ay ?_;rotate_left
 focus (intro w' ac;have hB:=ac;have q:w'.cell? ⟨w.heap.size,24,none⟩=some _:=(hB.cell 24).trans bg.out;(try dsimp only at ac);go_simp;(try with_reducible rfl))
 simp only [zl];refine Cc 2 (by kernel_rfl) rfl (fun K hK=> ?_);go_simp;go_wp2_with (go_at_call 122;(with_reducible refine (Ac8 _ _ _ _ _ _ ap.path.rd (Ad5 _) (by omega)).mono ?_);rintro _ w7 ⟨A7,c7,rfl,o7,f7⟩;have ce:=ay.fr f7 zq;have dr:=cd.fr f7 zq;have a6:=ap.fr f7 zr;have dz:=bk.trans f7 zr;have ev:=f7.size);refine hK.out _ _ ce (fun hZ=> ?_);clear hZ hK K;try simp only [Aj,zl]
 refine tkG 6 ce (h:=?_);simp only [zl];refine Cc 5 (by kernel_rfl) rfl (fun K hK=> ?_);go_simp;go_wp2_with (go_at_call 123;(with_reducible refine (Ac9 _ _ _ _ _ _ a6.hist.rd (Ad6 _) (by omega)).mono ?_);rintro _ w8 ⟨A8,c8,rfl,o8,f8⟩;have az:=ce.fr f8 zq;have dj:=dr.fr f8 zq;have bz:=a6.fr f8 zr;have du:=dz.trans f8 zr;have eu:=f8.size);refine hK.out _ _ az (fun hZ=> ?_);clear hZ hK K;try simp only [Aj,zl]
 refine C5 (by kernel_rfl) ?_;have k9:cS w8 w.heap.size 9 x.pathA x.path.length x.pathC:=(az.cell 9).trans e9.out;have z9:=az.frozen 9;have cl:cS w8 w.heap.size 24 x.histA x.hist.length x.histC:=(az.cell 24).trans bg.out;have ep:=az.frozen 24;refine oG 7 (fun K hK=> ?_);go_simp;refine hK.out _ _ trivial (fun hZ=> ?_);clear hZ hK K;try simp only [Aj,zl]
 refine oG 8 (fun K hK=> ?_);go_simp;refine hK.out _ _ trivial (fun hZ=> ?_);clear hZ hK K;try simp only [Aj,zl]
 refine oG 9 (fun K hK=> ?_);go_simp;refine hK.out _ _ trivial (fun hZ=> ?_);clear hZ hK K;try simp only [Aj,zl]
 refine oD ?_;go_simp;obtain ⟨cc,av⟩:=Aa ({x with pastA:=A1,pastC:=c1,bodyA:=A2,bodyC:=c2,refsA:=A3,refsC:=c3,guardsA:=A4,guardsC:=c4,boxesA:=A5,boxesC:=c5,pathA:=A7,pathC:=c7,histA:=A8,histC:=c8}:OpL).cells
 have cz:Blk ((w8.setCell ⟨w.heap.size,9,none⟩ (.slice A7 x.path.length c7)).setCell ⟨w.heap.size,24,none⟩ (.slice A8 x.hist.length c8)) w.heap.size 55 cc:=by
  rw [<- av.out];rw [<- ao.out] at az;exact (az.set 9 _).set 24 _
 have ak:Fr (One w.heap.size) w8 ((w8.setCell ⟨w.heap.size,9,none⟩ (.slice A7 x.path.length c7)).setCell ⟨w.heap.size,24,none⟩ (.slice A8 x.hist.length c8)):=((Fr.refl (One w.heap.size) w8).setCell (p:=⟨w.heap.size,9,none⟩) (fun _=>rfl) _).setCell (p:=⟨w.heap.size,24,none⟩) (fun _=>rfl) _;have dx:=dj.fr ak (fun e=>by have e':w.heap.size+1=w.heap.size:=e;omega);have a9:x.at ((w8.setCell ⟨w.heap.size,9,none⟩ (.slice A7 x.path.length c7)).setCell ⟨w.heap.size,24,none⟩ (.slice A8 x.hist.length c8)) w.heap.size:=bz.fr ak (fun j hj e=>by have e':j=w.heap.size:=e;omega);have dq:Fr Non w ((w8.setCell ⟨w.heap.size,9,none⟩ (.slice A7 x.path.length c7)).setCell ⟨w.heap.size,24,none⟩ (.slice A8 x.hist.length c8)):=du.trans ak (fun j hj e=>by have e':j=w.heap.size:=e;omega);have bh:=f7.trans f8 zr;have et:w8.heap.size<=((w8.setCell ⟨w.heap.size,9,none⟩ (.slice A7 x.path.length c7)).setCell ⟨w.heap.size,24,none⟩ (.slice A8 x.hist.length c8)).heap.size:=ak.size;have N6:w.heap.size+2<=w6.drew.heap.size:=ej;have b1:∀k,Ac A1=some k->w.heap.size+2<=k/\k<w6.drew.heap.size:=p1.row;have q1:=(p1.fr bh zr).fr ak (fun j hj e=>by have h1:=(b1 j hj).1;have e':j=w.heap.size:=e;omega);have b2:∀k,Ac A2=some k->w.heap.size+2<=k/\k<w6.drew.heap.size:=p2.row;have q2:=(p2.fr bh zr).fr ak (fun j hj e=>by have h1:=(b2 j hj).1;have e':j=w.heap.size:=e;omega);have b3:∀k,Ac A3=some k->w.heap.size+2<=k/\k<w6.drew.heap.size:=p3.row;have q3:=(p3.fr bh zr).fr ak (fun j hj e=>by have h1:=(b3 j hj).1;have e':j=w.heap.size:=e;omega);have b4:∀k,Ac A4=some k->w.heap.size+2<=k/\k<w6.drew.heap.size:=p4.row;have q4:=(p4.fr bh zr).fr ak (fun j hj e=>by have h1:=(b4 j hj).1;have e':j=w.heap.size:=e;omega);have b5:∀k,Ac A5=some k->w.heap.size+2<=k/\k<w6.drew.heap.size:=p5.row;have q5:=(p5.fr bh zr).fr ak (fun j hj e=>by have h1:=(b5 j hj).1;have e':j=w.heap.size:=e;omega);have b7:=o7.row;have b8:=o8.row;have q7:=((o7.lower (base':=w.heap.size+2) N6).fr f8 zr).fr ak (fun j hj e=>by have h1:=(b7 j hj).1;have e':j=w.heap.size:=e;omega);have q8:=(o8.lower (base':=w.heap.size+2) (by omega)).fr ak (fun j hj e=>by have h1:=(b8 j hj).1;have e':j=w.heap.size:=e;omega);clear ay ce az cd dr dj bk dz du ap a6 bz f7 f8 bh ak o7 o8 p1 p2 p3 p4 p5 e9 bg k9 cl z9 ep ao;generalize ((w8.setCell ⟨w.heap.size,9,none⟩ (.slice A7 x.path.length c7)).setCell ⟨w.heap.size,24,none⟩ (.slice A8 x.hist.length c8))=w9 at*;have e9:Hid (cc[9]? =some (.slice A7 x.path.length c7)):=by show _=_;rw [<- av.out];rfl
 have bg:Hid (cc[24]? =some (.slice A8 x.hist.length c8)):=by show _=_;rw [<- av.out];rfl
 have k9:cS w9 w.heap.size 9 A7 x.path.length c7:=(cz.cell 9).trans e9.out;obtain ⟨np,b9⟩:=Aa x.path.length;obtain ⟨nh,ca⟩:=Aa x.hist.length;rw [b9.out] at k9 e9 bo q7;rw [ca.out] at bg bv q8;go_wp2_with fail
 go_loopw [36] (fun v wr=>∃(k:Nat) (L:List NdL),v=.int .i64 (k:Int)/\k<=np/\Hid (L.map NdL.nd=x.path.map NdL.nd)/\Hid (L.drop k=x.path.drop k)/\Own wr (w.heap.size+2) 134 2 A7 np c7 (L.flatMap NdL.cells)/\Hid (∀y∈L.take k,Own wr w9.heap.size 125 4 y.A y.xs.length y.c (y.xs.flatMap Bx.cells))/\Fr (fun b=>Ac A7=some b) w9 wr) (fun v _=>np-(intOf v).toNat)
 case atStart=>exact ⟨0,x.path,rfl,by omega,rfl,rfl,q7,(fun _ h=>by simp at h),Fr.refl _ _⟩
 case round=>
  obtain ⟨k,L,rfl,hk,ad,ab,ae,aa,hf⟩:=hrel
  by_cases hlt:k<np
  ·
   obtain ⟨i1,i2,i3⟩:=ix k np
   obtain ⟨y,hy⟩:∃y,x.path[k]? =some y:=⟨_,A09 (by rw [b9.out];exact hlt)⟩;have aw:L[k]? =some y:=(M8 ab.out).trans hy;have aq:=A10 hy;have dd:=a4.out y aq;obtain ⟨g,hA,cr,ek,af,bi,_⟩:=Own.setAt ae (j:=k*2+1) (by omega) (.int .i64 0);have bc:=(a9.nodes y aq).fr hf (fun j hj e=>by have h1:=(b7 j e).1;omega);have d0:cS wr g (k*2+1) y.A y.xs.length y.c:=af _ (by rw [Gm (f:=NdL.cells) (fun _=>rfl) L k 1 y aw (by omega)];rfl);have kk:cS wr w.heap.size 9 A7 np c7:=hf.cell k9 (fun e=>by have h1:w6.drew.heap.size<=w.heap.size:=(b7 _ e).1;omega);have d2:w.heap.size+2<=g:=cr;rw [hA] at kk
   have ai:∀(wv:World) (u:Value),Fr Non wr wv->cS wv g (k*2+1) y.A y.xs.length y.c/\wv.frozen? ⟨g,k*2+1,none⟩=false/\Own (wv.setCell ⟨g,k*2+1,none⟩ u) (w.heap.size+2) 134 2 A7 np c7 ((L.flatMap NdL.cells).set (k*2+1) u):=by
    intro wv u bp;obtain ⟨g2,b0,_,_,d4,be,cj⟩:=Own.setAt (ae.fr bp zr) (j:=k*2+1) (by omega) u;rw [hA] at b0;have cn:g=g2:=by injection b0 with e;injection e
    subst cn;exact ⟨bp.cell d0 zq,be,cj⟩
   replace ai:=lh ai;replace hA:=lh hA;clear af bi;go_upto_region 6 with (fail)
   refine C9 (S:=(fun w'=>cS w' w.heap.size 9 (some ⟨g,0,none⟩) np c7/\cS w' g (k*2+1) y.A y.xs.length y.c)) 10 (by kernel_rfl) ?_;have hS:(fun w'=>cS w' w.heap.size 9 (some ⟨g,0,none⟩) np c7/\cS w' g (k*2+1) y.A y.xs.length y.c) wr.drew:=⟨kk,d0⟩;have fd:Fr Non wr wr.drew:=(Fr.refl Non wr).drew;have c6:Rd wr.drew w.heap.size 4 y.A y.xs.length (y.xs.flatMap Bx.cells):=And.left (bc.fr fd zr);refine tkG 0 hS (h:=tkG 1 hS (h:=tkG 2 hS (h:=tkG 3 hS (h:=tkG 4 hS (h:=tkG 5 hS (h:=tkG 6 hS (h:=tkG 7 hS (h:=tkG 8 hS (h:=?_)))))))));simp only [zl];refine Cc 9 (by kernel_rfl) rfl (fun K hK=> ?_);go_simp;go_wp2_with (go_at_call 121;go_loud (with_reducible refine (Rr _ _ _ _ _ _ c6 (Ru _) dd).mono ?_);rintro _ wv ⟨A',c',rfl,ov,fv⟩);have ax:=fd.trans fv zr;obtain ⟨d1,z1,da⟩:=ai.out wv (.slice A' y.xs.length c') ax;refine hK.out _ _ ⟨ax.cell kk zq,d1⟩ (fun hZ=> ?_);clear hZ hK K;try simp only [Aj,zl]
   refine C5 (by kernel_rfl) ?_;refine oG 10 (fun K hK=> ?_);go_simp;refine hK.out _ _ trivial (fun hZ=> ?_);clear hZ hK K;try simp only [Aj,zl]
   refine oG 11 (fun K hK=> ?_);go_simp;refine hK.out _ _ trivial (fun hZ=> ?_);clear hZ hK K;try simp only [Aj,zl]
   refine oG 12 (fun K hK=> ?_);go_simp;refine hK.out _ _ trivial (fun hZ=> ?_);clear hZ hK K;try simp only [Aj,zl]
   refine oD ?_;go_simp;have ex:∃y':NdL,y'={y with A:=A',c:=c'}:=⟨_,rfl⟩;obtain ⟨y',a5⟩:=ex
   have bb:Own (wv.setCell ⟨g,k*2+1,none⟩ (.slice A' y.xs.length c')) (w.heap.size+2) 134 2 A7 np c7 ((L.set k y').flatMap NdL.cells):=by
    rw [<- Il (f:=NdL.cells) (size:=2) (fun _=>rfl) (j:=1) (by omega) (.slice A' y.xs.length c') y' L k y aw (by rw [a5];rfl)];exact da
   have fs:Fr (One g) wv (wv.setCell ⟨g,k*2+1,none⟩ (.slice A' y.xs.length c')):=(Fr.refl (One g) wv).setCell (p:=⟨g,k*2+1,none⟩) (fun _=>rfl) _;have bl:Ac A7=some g:=by rw [hA.out];rfl
   have ci:=hf.size
   have ar:Hid (∀z∈(L.set k y').take (k+1),Own (wv.setCell ⟨g,k*2+1,none⟩ (.slice A' y.xs.length c')) w9.heap.size 125 4 z.A z.xs.length z.c (z.xs.flatMap Bx.cells)):=by
    intro z hz;rw [M7 L k y' aw] at hz;have eg:g<w9.heap.size:=by have h1:=(b7 g bl).2;omega
    rcases List.mem_append.1 hz with hz|hz
    · exact ((aa.out z hz).fr ax zr).fr fs (fun j hj e=>by have h1:=((aa.out z hz).row j hj).1;have e':j=g:=e;omega)
    ·
     obtain rfl:=List.mem_singleton.1 hz;subst a5;exact (ov.lower ci).fr fs (fun j hj e=>by have h1:=(ov.row j hj).1;have h2:wr.drew.heap.size=wr.heap.size:=rfl;have e':j=g:=e;omega)
   have bf:Fr (fun b=>Ac A7=some b) w9 (wv.setCell ⟨g,k*2+1,none⟩ (.slice A' y.xs.length c')):=(hf.trans ax (fun _ _ e=>e.elim)).trans fs (fun j hj e=>by have e':j=g:=e;subst e';exact bl);have ba:Hid ((L.set k y').map NdL.nd=x.path.map NdL.nd):=(Rs NdL.nd L k aw (by rw [a5];rfl)).trans ad.out;have al:Hid ((L.set k y').drop (k+1)=x.path.drop (k+1)):=Rt _ _ k y' ab.out;generalize wv.setCell ⟨g,k*2+1,none⟩ (.slice A' y.xs.length c')=ws at*;generalize L.set k y'=L2 at*;go_wp2_with fail;go_roundw
   case rel=>exact ⟨k+1,L2,by go_num,by omega,ba,al,bb,ar,bf⟩
   case measure=>simp [intOf];omega
  ·
   obtain rfl:np=k:=by omega
   have a7:L.length=x.path.length:=by have h1:=congrArg List.length ad.out;rwa [A06,A06] at h1
   rw [A13 (by rw [a7,b9.out];exact A07 _)] at aa;obtain ⟨bj,cw⟩:∃u,u=wr:=⟨_,rfl⟩;subst cw;have ea:=hf.size;have bx:=cz.fr hf (fun e=>by have h1:w6.drew.heap.size<=w.heap.size:=(b7 _ e).1;omega);have ck:=dx.fr hf (fun e=>by have h1:w6.drew.heap.size<=w.heap.size+1:=(b7 _ e).1;omega);have bm:=a9.fr hf (fun j hj e=>by have h1:=(b7 j e).1;omega);have cx:=dq.trans hf (fun j hj e=>by have h1:=(b7 j e).1;omega);have t1:=q1.fr hf (fun j hj e=>by have h1:=(b1 j hj).2;have h2:=(b7 j e).1;omega);have t2:=q2.fr hf (fun j hj e=>by have h1:=(b2 j hj).2;have h2:=(b7 j e).1;omega);have t3:=q3.fr hf (fun j hj e=>by have h1:=(b3 j hj).2;have h2:=(b7 j e).1;omega);have t4:=q4.fr hf (fun j hj e=>by have h1:=(b4 j hj).2;have h2:=(b7 j e).1;omega);have t5:=q5.fr hf (fun j hj e=>by have h1:=(b5 j hj).2;have h2:=(b7 j e).1;omega);have t8:=q8.fr hf (fun j hj e=>by have h1:=(b8 j hj).1;have h2:=(b7 j e).2;omega);have t7:=ae;have a0:=ad;have ah:=aa;have bs:=lh a7;clear ad aa ab ae hlt hk a7 hf cz dx a9 dq q1 q2 q3 q4 q5 q7 q8 k9;obtain ⟨L7,eo⟩:∃u,u=L:=⟨_,rfl⟩;subst eo;have cl:cS bj w.heap.size 24 A8 nh c8:=(bx.cell 24).trans bg.out;go_wp2_with fail
   go_loopw [55] (fun v wr=>∃(k:Nat) (L:List SlL),v=.int .i64 (k:Int)/\k<=nh/\Hid (L.map SlL.sl=x.hist.map SlL.sl)/\Hid (L.drop k=x.hist.drop k)/\Own wr (w.heap.size+2) 141 4 A8 nh c8 (L.flatMap SlL.cells)/\Hid (∀y∈L.take k,Own wr bj.heap.size 5 1 y.A y.y.length y.c (y.y.map Bv))/\Fr (fun b=>Ac A8=some b) bj wr) (fun v _=>nh-(intOf v).toNat)
   case atStart=>exact ⟨0,x.hist,rfl,by omega,rfl,rfl,t8,(fun _ h=>by simp at h),Fr.refl _ _⟩
   case round=>
    obtain ⟨k,L,rfl,hk,ad,ab,ae,aa,hf⟩:=hrel
    by_cases hlt:k<nh
    ·
     obtain ⟨i1,i2,i3⟩:=ix k nh
     obtain ⟨y,hy⟩:∃y,x.hist[k]? =some y:=⟨_,A09 (by rw [ca.out];exact hlt)⟩;have aw:L[k]? =some y:=(M8 ab.out).trans hy;have aq:=A10 hy;have dd:=bd.out y aq;obtain ⟨g,hA,cr,ek,af,bi,_⟩:=Own.setAt ae (j:=k*4+3) (by omega) (.int .i64 0);have bc:=(bm.seals y aq).fr hf (fun j hj e=>by have h1:=(b8 j e).1;omega);have d0:cS wr g (k*4+3) y.A y.y.length y.c:=af _ (by rw [Gm (f:=SlL.cells) (fun _=>rfl) L k 3 y aw (by omega)];rfl);have kk:cS wr w.heap.size 24 A8 nh c8:=hf.cell cl (fun e=>by have h1:w7.heap.size<=w.heap.size:=(b8 _ e).1;omega);have d2:w.heap.size+2<=g:=cr;rw [hA] at kk
     have ai:∀(wv:World) (u:Value),Fr Non wr wv->cS wv g (k*4+3) y.A y.y.length y.c/\wv.frozen? ⟨g,k*4+3,none⟩=false/\Own (wv.setCell ⟨g,k*4+3,none⟩ u) (w.heap.size+2) 141 4 A8 nh c8 ((L.flatMap SlL.cells).set (k*4+3) u):=by
      intro wv u bp;obtain ⟨g2,b0,_,_,d4,be,cj⟩:=Own.setAt (ae.fr bp zr) (j:=k*4+3) (by omega) u;rw [hA] at b0;have cn:g=g2:=by injection b0 with e;injection e
      subst cn;exact ⟨bp.cell d0 zq,be,cj⟩
     replace ai:=lh ai;replace hA:=lh hA;clear af bi;go_upto_region 11 with (fail)
     refine C9 (S:=(fun w'=>cS w' w.heap.size 24 (some ⟨g,0,none⟩) nh c8/\cS w' g (k*4+3) y.A y.y.length y.c)) 10 (by kernel_rfl) ?_;have hS:(fun w'=>cS w' w.heap.size 24 (some ⟨g,0,none⟩) nh c8/\cS w' g (k*4+3) y.A y.y.length y.c) wr.drew:=⟨kk,d0⟩;have fd:Fr Non wr wr.drew:=(Fr.refl Non wr).drew;have c6:Rd wr.drew w.heap.size 1 y.A y.y.length (y.y.map Bv):=And.left (bc.fr fd zr);refine tkG 0 hS (h:=tkG 1 hS (h:=tkG 2 hS (h:=tkG 3 hS (h:=tkG 4 hS (h:=tkG 5 hS (h:=tkG 6 hS (h:=tkG 7 hS (h:=tkG 8 hS (h:=?_)))))))));simp only [zl];refine Cc 9 (by kernel_rfl) rfl (fun K hK=> ?_);go_simp;go_wp2_with (go_at_call 118;go_loud (with_reducible refine (Rq _ _ _ _ _ _ c6 (Kf Bv (fun _=>rfl) _) dd).mono ?_);rintro _ wv ⟨A',c',rfl,ov,fv⟩);have ax:=fd.trans fv zr;obtain ⟨d1,z1,da⟩:=ai.out wv (.slice A' y.y.length c') ax;refine hK.out _ _ ⟨ax.cell kk zq,d1⟩ (fun hZ=> ?_);clear hZ hK K;try simp only [Aj,zl]
     refine C5 (by kernel_rfl) ?_;refine oG 10 (fun K hK=> ?_);go_simp;refine hK.out _ _ trivial (fun hZ=> ?_);clear hZ hK K;try simp only [Aj,zl]
     refine oG 11 (fun K hK=> ?_);go_simp;refine hK.out _ _ trivial (fun hZ=> ?_);clear hZ hK K;try simp only [Aj,zl]
     refine oG 12 (fun K hK=> ?_);go_simp;refine hK.out _ _ trivial (fun hZ=> ?_);clear hZ hK K;try simp only [Aj,zl]
     refine oD ?_;go_simp;have ex:∃y':SlL,y'={y with A:=A',c:=c'}:=⟨_,rfl⟩;obtain ⟨y',a5⟩:=ex
     have bb:Own (wv.setCell ⟨g,k*4+3,none⟩ (.slice A' y.y.length c')) (w.heap.size+2) 141 4 A8 nh c8 ((L.set k y').flatMap SlL.cells):=by
      rw [<- Il (f:=SlL.cells) (size:=4) (fun _=>rfl) (j:=3) (by omega) (.slice A' y.y.length c') y' L k y aw (by rw [a5];rfl)];exact da
     have fs:Fr (One g) wv (wv.setCell ⟨g,k*4+3,none⟩ (.slice A' y.y.length c')):=(Fr.refl (One g) wv).setCell (p:=⟨g,k*4+3,none⟩) (fun _=>rfl) _;have bl:Ac A8=some g:=by rw [hA.out];rfl
     have ci:=hf.size
     have ar:Hid (∀z∈(L.set k y').take (k+1),Own (wv.setCell ⟨g,k*4+3,none⟩ (.slice A' y.y.length c')) bj.heap.size 5 1 z.A z.y.length z.c (z.y.map Bv)):=by
      intro z hz;rw [M7 L k y' aw] at hz;have eg:g<bj.heap.size:=by have h1:=(b8 g bl).2;omega
      rcases List.mem_append.1 hz with hz|hz
      · exact ((aa.out z hz).fr ax zr).fr fs (fun j hj e=>by have h1:=((aa.out z hz).row j hj).1;have e':j=g:=e;omega)
      ·
       obtain rfl:=List.mem_singleton.1 hz;subst a5;exact (ov.lower ci).fr fs (fun j hj e=>by have h1:=(ov.row j hj).1;have h2:wr.drew.heap.size=wr.heap.size:=rfl;have e':j=g:=e;omega)
     have bf:Fr (fun b=>Ac A8=some b) bj (wv.setCell ⟨g,k*4+3,none⟩ (.slice A' y.y.length c')):=(hf.trans ax (fun _ _ e=>e.elim)).trans fs (fun j hj e=>by have e':j=g:=e;subst e';exact bl);have ba:Hid ((L.set k y').map SlL.sl=x.hist.map SlL.sl):=(Rs SlL.sl L k aw (by rw [a5];rfl)).trans ad.out;have al:Hid ((L.set k y').drop (k+1)=x.hist.drop (k+1)):=Rt _ _ k y' ab.out;generalize wv.setCell ⟨g,k*4+3,none⟩ (.slice A' y.y.length c')=ws at*;generalize L.set k y'=L2 at*;go_wp2_with fail;go_roundw
     case rel=>exact ⟨k+1,L2,by go_num,by omega,ba,al,bb,ar,bf⟩
     case measure=>simp [intOf];omega
    ·
     obtain rfl:nh=k:=by omega
     have a7:L.length=x.hist.length:=by have h1:=congrArg List.length ad.out;rwa [A06,A06] at h1
     rw [A13 (by rw [a7,ca.out];exact A07 _)] at aa;obtain ⟨a3,de⟩:∃u,u=wr:=⟨_,rfl⟩;subst de;have ct:=bx.fr hf (fun e=>by have h1:w7.heap.size<=w.heap.size:=(b8 _ e).1;omega);have a8:=ck.fr hf (fun e=>by have h1:w7.heap.size<=w.heap.size+1:=(b8 _ e).1;omega);have dc:=cx.trans hf (fun j hj e=>by have h1:=(b8 j e).1;omega);have s1:=(t1.fr hf (fun j hj e=>by have h1:=(b1 j hj).2;have h2:=(b8 j e).1;omega)).lower (base':=w.heap.size) (by omega);have s2:=(t2.fr hf (fun j hj e=>by have h1:=(b2 j hj).2;have h2:=(b8 j e).1;omega)).lower (base':=w.heap.size) (by omega);have s3:=(t3.fr hf (fun j hj e=>by have h1:=(b3 j hj).2;have h2:=(b8 j e).1;omega)).lower (base':=w.heap.size) (by omega);have s4:=(t4.fr hf (fun j hj e=>by have h1:=(b4 j hj).2;have h2:=(b8 j e).1;omega)).lower (base':=w.heap.size) (by omega);have s5:=(t5.fr hf (fun j hj e=>by have h1:=(b5 j hj).2;have h2:=(b8 j e).1;omega)).lower (base':=w.heap.size) (by omega);have s7:=(t7.fr hf (fun j hj e=>by have h1:=(b7 j hj).2;have h2:=(b8 j e).1;omega)).lower (base':=w.heap.size) (by omega);have s8:=ae.lower (base':=w.heap.size) (by omega);have d8:∀j,w9.heap.size<=j->¬(Ac A8=some j):=fun j hj e=>by have h2:=(b8 j e).2;omega
     have r7:Hid (∀y∈L7,Own a3 w.heap.size 125 4 y.A y.xs.length y.c (y.xs.flatMap Bx.cells)):=fun y hy=>((ah.out y hy).fr hf (fun j hj e=>d8 j ((ah.out y hy).row j hj).1 e)).lower (by omega);have r8:Hid (∀y∈L,Own a3 w.heap.size 5 1 y.A y.y.length y.c (y.y.map Bv)):=fun y hy=>(aa.out y hy).lower (by omega);obtain ⟨v,hv⟩:∃v:OpL,v={x with pastA:=A1,pastC:=c1,bodyA:=A2,bodyC:=c2,refsA:=A3,refsC:=c3,guardsA:=A4,guardsC:=c4,boxesA:=A5,boxesC:=c5,pathA:=A7,pathC:=c7,histA:=A8,histC:=c8,path:=L7,hist:=L}:=⟨_,rfl⟩
     have dk:v.op=x.op:=by
      rw [hv];unfold OpL.op;simp only [a0.out,ad.out]
     have bn:v.own a3 w.heap.size:=by
      rw [b9.out.symm,<- bs.out] at s7;rw [ca.out.symm,<- a7] at s8;rw [hv];exact ⟨RowAt.of_own s1,RowAt.of_own s7,(fun y hy=>RowAt.of_own (r7.out y hy)),RowAt.of_own s2,RowAt.of_own s3,RowAt.of_own s4,RowAt.of_own s5,RowAt.of_own s8,(fun y hy=>RowAt.of_own (r8.out y hy))⟩
     have d3:Blk a3 w.heap.size 55 v.cells:=by
      have hc:v.cells=cc:=by
       rw [<- av.out,hv];unfold OpL.cells;simp only [bs.out,a7]
      rw [hc];exact ct
     clear hv a0 ad r7 r8 s1 s2 s3 s4 s5 s7 s8 ah aa t1 t2 t3 t4 t5 t7 t8;have bw:=Ex v
     have d9:Hid (∀wz,Fr (One (w.heap.size+1)) a3 wz->POST (.returned (.agg v.cells)) wz):=by
      intro wz hz;exact a1.out v wz dk (bn.keepP hz (Types.one a8) (by decide) (by decide) (by decide) (by decide) (by decide) (by decide) (by decide)) (dc.trans hz (fun k hk e=>absurd hk (by have e':k=w.heap.size+1:=e;omega)))
     clear dk bn a1;have bu:True:=trivial
     go_wp2_with (first
      |(have _t:=bu;refine Jm rfl 55 (.tmp 1) rfl rfl d3 underlying55 rfl hi ?_;clear bu _t)
      |(refine Ia rfl 55 (.tmp 2) (.tmp 71) rfl rfl rfl rfl a8 hi rfl bw ?_;have bi:=(Fr.refl (One (w.heap.size+1)) a3).setRow (g:=w.heap.size+1) (fun _=>rfl) v.cells;have be:=a8.setRow (cs:=v.cells);generalize a3.setRow (w.heap.size+1) v.cells=wz at bi be ⊢;(repeat (first|go_values|go_skip|go_guarded|go_step));exact Dy (t:=55) rfl rfl be rfl underlying55 (by kernel_rfl) rfl (d9.out wz bi)))
end Oq
namespace Oq
attribute [local go_sem ↓] Bo Dn
attribute [local go_sem] Bool.not_false Bool.not_true
theorem Gt {P:Program} {t:TypeId} {d:TypeDesc} (cs:Array Value) (b o:Nat) (hu:P.underlying t=some d) (hd:d.isRow=true) (hi:(P.info? t).map (·.size)=some cs.size):
  ∀w',World.rangeAt w' b o cs.toList->(ldS t (.pointer (some ⟨b,o,none⟩))).run P w'=.ok (.agg cs) w':=fun w' h=>by
 have:=run_loadAt_mid (P:=P) w' b o t cs.toList d h hu hd (by rw [hi];simp);unfold ldS;rw [this]
def Hm (r:Option OpL) (w:World) (e:Ending) (w':World):Prop:=
 match r with
 |none=>e=.returned (.tuple #[.agg OpL.zero.cells,.bool false])/\Fr Non w w'
 |some x=>∃y:OpL,e=.returned (.tuple #[.agg y.cells,.bool true])/\y.op=x.op/\y.own w' w.heap.size/\Fr Non w w'
def Gph.opOf (g:Gph) (id:Id):Option OpL:=match place g.nodes id with|some i=>g.nodes[i]?.map Am.x|none=>none
theorem Ad7 (base:Nat) (g:Gph) (id:Id) (w:World) (hg:GAt w base g) (hid:id.ok):Calls zp 41 #[.pointer (some ⟨g.gb,0,none⟩),.agg id.V] w (Hm (g.opOf id) w):=by
 have hi:(zp.info? 55).map (·.size)=some 27:=by kernel_rfl
 have f1:Fr Non w (w.alloc (.cells id.V 48)):=(Fr.refl Non w).alloc _;have f0:=f1.alloc (.cells zO 55);have ad:=(Blk.new w 48 id.V).alloc (.cells zO 55);have br:=Blk.new (w.alloc (.cells id.V 48)) 55 zO;rw [A01] at br;have ay:((w.alloc (.cells id.V 48)).alloc (.cells zO 55)).heap.size=w.heap.size+2:=by rw [A01,A01]
 have ab:=hg.fr f0;generalize hw0:((w.alloc (.cells id.V 48)).alloc (.cells zO 55))=w0 at*;have i0:cI w0 w.heap.size 0 id.b:=ad.cell 0;have i1:cI w0 w.heap.size 1 id.s:=ad.cell 1;have i2:cU w0 w.heap.size 2 id.u:=ad.cell 2;have c1:w0.cell? ⟨g.gb,1,none⟩=some (.map (some g.mb)):=ab.blk.cell 1;have c2:cS w0 g.gb 2 g.nA g.nodes.length g.nC:=ab.blk.cell 2;have aa:=ab.map;have ac:=fun (w':World) (h:MapAt w' g.mb g.mm (place g.nodes))=>MapAt.look h id hid;have ah:Hid (g.opOf id=match place g.nodes id with|some i=>g.nodes[i]?.map Am.x|none=>none):=rfl;generalize g.opOf id=R at*
 cases hp:place g.nodes id
 ·
  have hR:R=none:=by rw [ah.out,hp]
  have ap:Hid (∀wz,Fr (One (w.heap.size+1)) w0 wz->Hm R w (.returned (.tuple #[.agg OpL.zero.cells,.bool false])) wz):=by
   intro wz hz;rw [hR];exact ⟨rfl,f0.trans hz (fun k hk e=>absurd hk (by have e':k=w.heap.size+1:=e;omega))⟩
  clear hR ah;generalize Hm R w=POST at*;rw [hp] at ac;clear hg ab ad hp;go_enter func41,ntmps41;go_wp2_with fail;clear hw0;refine wp_region_held_drew (S:=(fun w'=>cI w' w.heap.size 0 id.b/\cI w' w.heap.size 1 id.s/\cU w' w.heap.size 2 id.u/\w'.cell? ⟨g.gb,1,none⟩=some (.map (some g.mb))/\MapAt w' g.mb g.mm (place g.nodes))) (by kernel_rfl) ⟨i0,i1,i2,c1,aa⟩ (fun hS=> ?_);replace f0:=f0.drew;replace br:=br.drew;refine tkH 0 hS (h:=tkH 1 hS (h:=tkH 2 hS (h:=tkH 3 hS (h:=tkH 4 hS (h:=tkH 5 hS (h:=tkH 6 hS (h:=tkH 7 hS (h:=tkH 8 hS (h:=tkH 9 hS (h:=tkH 10 hS (h:=?_)))))))))));simp only [zl];refine oD ?_;go_simp;have fz:=((Fr.refl (One (w.heap.size+1)) w0).drew).setRow (g:=w.heap.size+1) (fun _=>rfl) zO;have ag:=br.setRow (cs:=zO);have a2:=Cy (P:=zp) (t:=55) (old:=zO) (cs:=zO) (w.heap.size+1) 55 hi rfl (Ex OpL.zero);go_wp2_with fail
  (try simp only [Exit.inBlock,Exit.then])
  refine Hh (t:=55) rfl rfl ag rfl underlying55 (by kernel_rfl) rfl ?_;exact ap.out _ fz
 ·
  rename_i i;obtain ⟨n,hn,_⟩:=Ig hp;have hR:R=some n.x:=by rw [ah.out,hp];simp [hn]
  have av:=hg.few;have ar:i<g.nodes.length:=(List.getElem?_eq_some_iff.1 hn).1;have ak:=(ab.node n (A10 hn)).at_;have ao:=(ab.node n (A10 hn)).ok;obtain ⟨b,aj,hA,aw,hc⟩:=ab.cell hn
  have a1:World.rangeAt w0.drew b (aj+i*35) n.x.cells.toList:=by
   intro j v hv;have hj:j<27:=(List.getElem?_eq_some_iff.1 hv).1;exact hc j (by omega) v (by unfold Am.cells;rw [A19 (by show j<27;exact hj)];exact hv)
  have az:=Gt (P:=zp) n.x.cells b (aj+i*35) underlying55 rfl hi;rw [hA] at c2;obtain ⟨j1,j2,j3⟩:=ix i g.nodes.length
  have j4:=iw (i:Int);rw [hp] at ac
  have ap:Hid (∀(y:OpL) wz,y.op=n.x.op->y.own wz w.heap.size->Fr Non w wz->Hm R w (.returned (.tuple #[.agg y.cells,.bool true])) wz):=by
   intro y wz h1 h2 h3;rw [hR];exact ⟨y,rfl,h1,h2,h3⟩
  clear hR ah hg ab ad hp hn ar hc hA aw;generalize Hm R w=POST at*;generalize g.nodes.length=nn at*;generalize n.x=x at*;have kc:=lh (fun w' (h:x.at w' w'.heap.size)=>Rv x w' h ao);obtain ⟨CX,au⟩:=Aa x.cells;rw [au.out] at a1 az kc;go_enter func41,ntmps41;go_wp2_with fail;clear hw0;have aq:=c2;refine wp_region_held_drew (S:=(fun w'=>cI w' w.heap.size 0 id.b/\cI w' w.heap.size 1 id.s/\cU w' w.heap.size 2 id.u/\w'.cell? ⟨g.gb,1,none⟩=some (.map (some g.mb))/\MapAt w' g.mb g.mm (place g.nodes))) (by kernel_rfl) ⟨i0,i1,i2,c1,aa⟩ (fun hS=> ?_);replace f0:=f0.drew;replace br:=br.drew;refine tkH 0 hS (h:=tkH 1 hS (h:=tkH 2 hS (h:=tkH 3 hS (h:=tkH 4 hS (h:=tkH 5 hS (h:=tkH 6 hS (h:=tkH 7 hS (h:=tkH 8 hS (h:=tkH 9 hS (h:=tkH 10 hS (h:=?_)))))))))));simp only [zl];refine oD ?_;go_simp;replace aq:cS w0.drew g.gb 2 (some ⟨b,aj,none⟩) nn g.nC:=aq;have ae:=OpL.frame ak ((Fr.refl Non w0).drew)
  go_wp2_with (first
   |(go_at_call 59;(with_reducible refine (kc.out _ ae).mono ?_);rintro _ w1 ⟨y,rfl,ax,al,fy⟩;have ai:=br.fr fy zq;have af:=Ex y;have a0:=f0.trans fy zr;have a3:w0.drew.heap.size=w.heap.size+2:=ay)
   |(refine Ia rfl 55 (.tmp 4) (.tmp 28) rfl rfl rfl rfl ai hi rfl af ?_;have fz:=((Fr.refl (One (w.heap.size+1)) w1)).setRow (g:=w.heap.size+1) (fun _=>rfl) y.cells;have ag:=ai.setRow (cs:=y.cells);generalize w1.setRow (w.heap.size+1) y.cells=wz at fz ag ⊢))
  (try simp only [Exit.inBlock,Exit.then])
  refine Hh (t:=55) rfl rfl ag rfl underlying55 (by kernel_rfl) rfl ?_;exact ap.out y _ ax ((al.keep fz ((Types.one ai).mono (fun t e=> .inl e))).lower (by omega)) (a0.trans fz (fun k hk e=>absurd hk (by have e':k=w.heap.size+1:=e;omega)))
end Oq
namespace Oq
attribute [local go_sem ↓] Bo Dn
def Rw:Prop:=∀(base gv:Nat) (A:Option Addr) (c:Nat) (l:List Id) (p:Id->Bool) (w:World),Own w base 48 3 A l.length c (l.flatMap Id.cells)->l.length<=1000000->
 (∀x∈l,∀w':World,Fr (fun k=>Ac A=some k) w w'->Calls zp 85 #[.agg x.V,.pointer (some ⟨gv,0,none⟩)] w' (Ag (p x) w'))->
 Calls zp 83 #[.slice A l.length c,.func (.func 85) #[] #[.pointer (some ⟨gv,0,none⟩)]] w fun e w'=>
  ∃ys:List Id,ys=l.filter (fun x=> !p x)/\e=.returned (.slice A ys.length c)/\Rd w' w'.heap.size 3 A ys.length (ys.flatMap Id.cells)/\Fr (fun k=>Ac A=some k) w w'
def Hn (l:List Id) (w:World) (e:Ending) (w':World):Prop:=∃A c,e=.returned (.slice A l.length c)/\Rd w' w'.heap.size 3 A l.length (l.flatMap Id.cells)/\Fr Non w w'
theorem Kh (base:Nat) (g:Gph) (x:OpL) (w:World) (hdel:Rw) (hg:GAt w base g) (hat:x.at w w.heap.size) (hok:∀id∈x.past,id.ok) (hn:x.past.length<=1000000):
  Calls zp 31 #[.pointer (some ⟨g.gb,0,none⟩),.agg x.cells] w (Hn (x.past.filter (fun id=> !(place g.nodes id).isSome)) w):=by
 have e4:Hid (x.cells[4]? =some (.slice x.pastA x.past.length x.pastC)):=rfl;obtain ⟨CS,hCS⟩:=Aa x.cells;have f0:Fr Non w ((w.alloc (.cells #[.pointer (some ⟨g.gb,0,none⟩)] 42)).alloc (.cells CS 55)):=((Fr.refl Non w).alloc _).alloc _;have bg:=(Blk.new w 42 #[.pointer (some ⟨g.gb,0,none⟩)]).alloc (.cells CS 55);have bx:=Blk.new (w.alloc (.cells #[.pointer (some ⟨g.gb,0,none⟩)] 42)) 55 CS;rw [A01] at bx;rw [hCS.out] at e4 ⊢
 have hfin:Hid (∀(ys:List Id) A c w',ys=x.past.filter (fun id=> !(place g.nodes id).isSome)->Rd w' w'.heap.size 3 A ys.length (ys.flatMap Id.cells)->Fr Non w w'->Hn (x.past.filter (fun id=> !(place g.nodes id).isSome)) w (.returned (.slice A ys.length c)) w'):=by
  intro ys A c w' h1 h2 h3;subst h1;exact ⟨A,c,rfl,h2,h3⟩
 generalize Hn (x.past.filter (fun id=> !(place g.nodes id).isSome)) w=POST at*;go_enter func31,ntmps31;go_upto_region 1 with (fail)
 generalize (w.alloc (.cells #[.pointer (some ⟨g.gb,0,none⟩)] 42)).alloc (.cells CS 55)=w0 at*;have c4:cS w0 (w.heap.size+1) 4 x.pastA x.past.length x.pastC:=(bx.cell 4).trans e4.out;have kc:=lh (M6 _ _ x.pastC _ _ w0 (OpL.frame hat f0).past.rd (Id.cells_one _) hn);go_wp2_with fail;refine (kc.out).mono ?_;rintro _ w1 ⟨A1,c1,rfl,o1,f1⟩;have sz0:=f0.size;have f01:=f0.trans f1 zr;have bg1:=bg.fr f1 zq;have hrow:=o1.row
 have kd:=lh (hdel w0.heap.size w.heap.size A1 c1 x.past (fun id=>(place g.nodes id).isSome) w1 o1 hn (fun id hid w' hf=>by
  have hf':Fr Non w w':=f01.trans hf (fun j hj e=>by have h1:=(hrow j e).1;omega);refine (Ac2 base g w.heap.size id w' (hg.fr hf') ?_ (hok id hid));exact (bg1.fr hf (fun e=>by have h1:=(hrow _ e).1;have h2:=bg.lt;omega)).cell 0))
 have hff:Hid (∀w',Fr (fun k=>Ac A1=some k) w1 w'->Fr Non w w'):=fun w' hf=>f01.trans hf (fun j hj e=>by have h1:=(hrow j e).1;omega);clear kc hdel hg hat hok bg bx bg1 o1 f1 f0 f01;go_wp2_with fail;refine (kd.out).mono ?_;rintro _ w2 ⟨ys,hys,rfl,hrd,hf2⟩;have fin:=lh (hfin.out ys A1 c1 w2 hys hrd (hff.out w2 hf2));clear hfin hff kd hys hrd hf2;go_wp2_with fail;exact fin.out
end Oq
theorem Rx {P:Program} (w:World) (t e ty:TypeId) (z:Value) (ht:P.underlying t=some (.slice e)) (hv:∀w,(zeroValue e).run P w=.ok z w) (b o n c:Nat) (hn:0<n)
  (hc:∀j,j<(Builtin.zeroCells z.cells n).toList.length->(w.cell? ⟨b,o+j,none⟩).isSome=true) (hf:∀j,j<(Builtin.zeroCells z.cells n).toList.length->w.frozen? ⟨b,o+j,none⟩=false)
  (h1:∀v∈(Builtin.zeroCells z.cells n).toList,v.oneCell'=true):
  (Builtin.clear_ #[t] ty #[.slice (some ⟨b,o,none⟩) n c]).run P w=.ok (.tuple #[]) (w.setCells b o (Builtin.zeroCells z.cells n).toList):=by
 have hst:=run_storeCells_cells (P:=P) b o (Builtin.zeroCells z.cells n).toList 0 w (by simpa using hc) (by simpa using hf) h1;simp only [Nat.add_zero] at hst;obtain ⟨m,rfl⟩:∃m,n=m+1:=⟨n-1,by omega⟩;simp [Builtin.clear_,run_underlying ht,hv,hst]
theorem Ki (g:Nat):∀(vs:List Value) (o:Nat) (w:World),Fr (One g) w (w.setCells g o vs)
 |[],_,_=>Fr.refl _ _
 |v::vs,o,w=>((Fr.refl (One g) w).setCell (p:=⟨g,o,none⟩) (fun _=>rfl) v).trans (Ki g vs (o+1) _) zr
namespace Oq
theorem Ry {α:Type} (l:List α) (p:α->Bool) (h:l.any p=false):l.filter (fun x=> !p x)=l:=by
 rw [List.filter_eq_self];intro x hx;rw [List.any_eq_false] at h;simpa using h x hx
theorem Rz {α:Type} (l:List α) (p:α->Bool) {k:Nat} {x:α} (h:l[k]? =some x):(l.take (k+1)).filter p=(l.take k).filter p++(if p x then [x] else []):=by
 obtain ⟨hk,rfl⟩:=List.getElem?_eq_some_iff.1 h;rw [A18 hk,List.filter_append];congr 1
 cases hp:p l[k]<;>simp [hp]
theorem Own.putId {w:World} {base n c g:Nat} {l:List Id} (h:Own w base 48 3 (some ⟨g,0,none⟩) n c (l.flatMap Id.cells)) {i:Nat} {y:Id} (hy:l[i]? =some y) (hi:i<n) (x:Id):
  (∀j,j<3->(w.cell? ⟨g,i*3+j,none⟩).isSome=true/\w.frozen? ⟨g,i*3+j,none⟩=false)/\
  Own (((w.setCell ⟨g,i*3,none⟩ (.int .i64 x.b)).setCell ⟨g,i*3+1,none⟩ (.int .i64 x.s)).setCell ⟨g,i*3+2,none⟩ (.int .u64 (x.u:Int))) base 48 3 (some ⟨g,0,none⟩) n c ((l.set i x).flatMap Id.cells):=by
 constructor
 ·
  intro j hj;obtain ⟨g2,hA,_,_,hc,hz,_⟩:=Own.setAt h (j:=i*3+j) (by omega) (.int .i64 0);have hgg:g=g2:=by injection hA with e;injection e
  subst hgg;have hl:(l.flatMap Id.cells)[i*3+j]? =y.cells[j]? :=Gm (f:=Id.cells) (fun _=>rfl) l i j y hy hj;have hyj:∃v,y.cells[j]? =some v:=⟨_,A09 (by show j<3;exact hj)⟩;obtain ⟨v,hv⟩:=hyj;exact ⟨by rw [hc v (hl.trans hv)];rfl,hz⟩
 ·
  have step:∀(w:World) (xs:List Value) (j:Nat) (u:Value),Own w base 48 3 (some ⟨g,0,none⟩) n c xs->j<n*3->Own (w.setCell ⟨g,j,none⟩ u) base 48 3 (some ⟨g,0,none⟩) n c (xs.set j u):=by
   intro w xs j u h hj;obtain ⟨g2,hA,_,_,_,_,ho⟩:=Own.setAt h (j:=j) hj u;have hgg:g=g2:=by injection hA with e;injection e
   subst hgg;exact ho
  have h1:=step _ _ (i*3) (.int .i64 x.b) h (by omega);have h2:=step _ _ (i*3+1) (.int .i64 x.s) h1 (by omega);have h3:=step _ _ (i*3+2) (.int .u64 (x.u:Int)) h2 (by omega);have e1:(l.flatMap Id.cells).set (i*3) (.int .i64 x.b)=(l.set i ⟨x.b,y.s,y.u⟩).flatMap Id.cells:=Il (f:=Id.cells) (size:=3) (fun _=>rfl) (j:=0) (by omega) _ _ l i y hy rfl
  have hi1:(l.set i ⟨x.b,y.s,y.u⟩)[i]? =some ⟨x.b,y.s,y.u⟩:=by
   rw [A20 (List.getElem?_eq_some_iff.1 hy).1]
  have e2:((l.set i ⟨x.b,y.s,y.u⟩).flatMap Id.cells).set (i*3+1) (.int .i64 x.s)=(l.set i ⟨x.b,x.s,y.u⟩).flatMap Id.cells:=by
   have:=Il (f:=Id.cells) (size:=3) (fun _=>rfl) (j:=1) (by omega) (.int .i64 x.s) ⟨x.b,x.s,y.u⟩ _ i _ hi1 rfl;rwa [List.set_set] at this
  have hi2:(l.set i ⟨x.b,x.s,y.u⟩)[i]? =some ⟨x.b,x.s,y.u⟩:=by
   rw [A20 (List.getElem?_eq_some_iff.1 hy).1]
  have e3:((l.set i ⟨x.b,x.s,y.u⟩).flatMap Id.cells).set (i*3+2) (.int .u64 (x.u:Int))=(l.set i x).flatMap Id.cells:=by
   have:=Il (f:=Id.cells) (size:=3) (fun _=>rfl) (j:=2) (by omega) (.int .u64 (x.u:Int)) x _ i _ hi2 rfl;rwa [List.set_set] at this
  rw [e1,e2,e3] at h3;exact h3
theorem R3 (n:Nat):(Builtin.zeroCells (Value.agg #[.int .i64 0,.int .i64 0,.int .u64 0]).cells n).toList.length=n*3:=by
 simp [Builtin.zeroCells,Value.cells]
theorem Ad8 (n:Nat):∀v∈(Builtin.zeroCells (Value.agg #[.int .i64 0,.int .i64 0,.int .u64 0]).cells n).toList,v.oneCell'=true:=by
 intro v hv;unfold Builtin.zeroCells at hv;rw [Array.toList_map] at hv;obtain ⟨i,_,rfl⟩:=List.mem_map.1 hv;have h:i%3=0\/i%3=1\/i%3=2:=by omega
 show (#[Value.int .i64 0,.int .i64 0,.int .u64 0][i%3]!).oneCell'=true
 rcases h with e|e|e<;>rw [e]<;>rfl
theorem Kj:Rw:=by
 intro a5 gv A c l p w aa ar ah;have a6:=lh (Ac4 w.heap.size l.length c gv A l p w rfl aa.rd ar (fun x hx w' hf=>ah x hx w' (hf.mono (fun _ _ e=>e.elim))));obtain ⟨n,hn⟩:=Aa l.length;have ay:=aa.cap;have a0:=aa.row
 have af:Hid (∀(ys:List Id) (m:Nat) (w':World),m=ys.length->ys=l.filter (fun x=> !p x)->Rd w' w'.heap.size 3 A m (ys.flatMap Id.cells)->Fr (fun k=>Ac A=some k) w w'->(∃ys:List Id,ys=l.filter (fun x=> !p x)/\ze (.slice A m c)=.returned (.slice A ys.length c)/\Rd w' w'.heap.size 3 A ys.length (ys.flatMap Id.cells)/\Fr (fun k=>Ac A=some k) w w')):=by
  intro ys m w' h1 h2 h3 h4;subst h1;exact ⟨ys,h2,rfl,h3,h4⟩
 rw [hn.out] at a6 aa ay ar ⊢;go_enter func83,ntmps83;go_wp2_with fail;refine (a6.out).mono ?_;rintro e w1 ⟨h,f1⟩;clear a6;have bg:Fr (fun k=>Ac A=some k) w w1:=f1.mono (fun _ _ e=>e.elim);replace aa:=aa.fr f1 zr
 rcases h with ⟨k,id,rfl,hk,hpk,hany⟩|⟨rfl,hany⟩
 ·
  have br:k<n:=by rw [<- hn.out];exact (List.getElem?_eq_some_iff.1 hk).1
  obtain ⟨g,rfl⟩:∃g,A=some ⟨g,0,none⟩:=by
   rcases aa.2 with ⟨_,h0⟩|⟨g,cap,ab,hv,_⟩
   · omega
   ·
    injection hv with hA _ _
    exact ⟨g,hA⟩
  have bl:((k:Int)== -1)=false:=by rw [beq_eq_false_iff_ne];omega
  have ao:Hid (l.take k=(l.take (k+1)).filter (fun x=> !p x)):=by
   show _=_;rw [Rz l _ hk,hpk,Ry _ _ hany];simp
  clear hany hpk hk;go_wp2_with fail
  go_loopw [5,6] (fun vi vj wr=>∃(i j:Nat) (ab:List Id),vi=.int .i64 (i:Int)/\vj=.int .i64 (j:Int)/\i<j/\j<=n/\Hid (ab.take i=(l.take j).filter (fun x=> !p x))/\Hid (ab.drop j=l.drop j)/\Own wr a5 48 3 (some ⟨g,0,none⟩) n c (ab.flatMap Id.cells)/\Fr (fun k=>Ac (some ⟨g,0,none⟩)=some k) w wr) (fun _ vj _=>n-(intOf vj).toNat)
  case atStart=>exact ⟨k,k+1,l,rfl,by go_num,by omega,by omega,ao.out,rfl,aa,bg⟩
  case round=>
   obtain ⟨i,j,ab,rfl,rfl,bs,bo,ad,ag,ac,hf⟩:=hrel
   have a7:ab.length=n:=by
    have h1:=ac.len;rw [Ej (f:=Id.cells) (size:=3) (fun _=>rfl)] at h1;omega
   by_cases hlt:j<n
   ·
    obtain ⟨i1,i2,i3⟩:=ix j n
    obtain ⟨m1,m2,m3⟩:=ix i n
    obtain ⟨x,hx⟩:∃x,l[j]? =some x:=⟨_,A09 (by rw [hn.out];exact hlt)⟩;obtain ⟨y,hy⟩:∃y,ab[i]? =some y:=⟨_,A09 (by rw [a7];omega)⟩;have bb:ab[j]? =some x:=(M8 ag.out).trans hx;obtain ⟨b,bh,hA,bd,k0,k1,k2⟩:=Id.at ac.rd bb;obtain ⟨rfl,rfl⟩:g=b/\0=bh:=by injection hA with e;injection e with e1 e2;exact ⟨e1,e2⟩
    rw [A02] at k0 k1 k2;have av:=lh (Rz l (fun x=> !p x) hx);have hc:=lh (fun w' (h:Fr (fun k=>Ac (some ⟨g,0,none⟩)=some k) w w')=>ah x (A10 hx) w' h);have bc:=lh (fun (wv:World) (hv:Fr Non wr wv)=>Own.putId (ac.fr hv zr) hy (by omega) x);have aw:=hf.alloc (.cells x.V 48);have bk:=Blk.new wr 48 x.V;have bf:Fr Non wr (wr.alloc (.cells x.V 48)):=(Fr.refl Non wr).alloc _;have be:g<wr.heap.size:=bd;have au:=ac;have bv:=lh hx;have bi:=lh hy;have bn:i<l.length:=by rw [hn.out];omega
    clear hx hy bb hA bd ac aa a0 ao a7
    have bj:=lh (show (ab.set i x).drop (j+1)=l.drop (j+1) by
     rw [A17 (by omega)];have h2:=congrArg (A14 1) ag.out;rwa [A08,A08] at h2)
    have a2:=lh (show ab.drop (j+1)=l.drop (j+1) by
     have h2:=congrArg (A14 1) ag.out;rwa [A08,A08] at h2)
    rcases zb (p x) with hp|hp
    ·
     have a8:Hid (ab.take i=(l.take (j+1)).filter (fun x=> !p x)):=by
      show _=_;rw [av.out,hp,ad.out];simp
     rw [hp] at hc;clear hp av;go_wp2_with (go_at_call 85;(with_reducible refine (hc.out _ aw).mono ?_);rintro _ w2 ⟨rfl,f2⟩);go_roundw
     case rel=>exact ⟨i,j+1,ab,rfl,by go_num,by omega,by omega,a8,a2,(au.fr bf zr).fr f2 zr,aw.trans f2 (fun _ _ e=>e.elim)⟩
     case measure=>simp [intOf];omega
    ·
     have a8:Hid ((ab.set i x).take (i+1)=(l.take (j+1)).filter (fun x=> !p x)):=by
      show _=_;rw [av.out,hp,M7 ab i x bi.out,ad.out];simp
     rw [hp] at hc;clear hp av;go_wp2_with (go_at_call 85;(with_reducible refine (hc.out _ aw).mono ?_);rintro _ w2 ⟨rfl,f2⟩;obtain ⟨hz,ho⟩:=bc.out w2 (bf.trans f2 zr);have ax:=hz 0 (by omega);have a4:=hz 1 (by omega);have aq:=hz 2 (by omega);obtain ⟨v0,y0⟩:=Option.isSome_iff_exists.1 ax.1;obtain ⟨v1,y1⟩:=Option.isSome_iff_exists.1 a4.1;obtain ⟨v2,y2⟩:=Option.isSome_iff_exists.1 aq.1;have z0:=ax.2;have z1:=a4.2;have z2:=aq.2;rw [Nat.add_zero] at y0 z0;clear hz ax a4 aq bc;have ak:=bk.fr f2 zq;have b0:=ak.cell 0;have b1:=ak.cell 1;have b2:=ak.cell 2;replace b0:w2.cell? ⟨wr.heap.size,0,none⟩=some (.int .i64 x.b):=b0;replace b1:w2.cell? ⟨wr.heap.size,1,none⟩=some (.int .i64 x.s):=b1;replace b2:w2.cell? ⟨wr.heap.size,2,none⟩=some (.int .u64 (x.u:Int)):=b2);go_roundw
     case rel=>
      exact ⟨i+1,j+1,ab.set i x,by go_num,by go_num,by omega,by omega,a8,bj,ho,(((aw.trans f2 (fun _ _ e=>e.elim)).setCell (p:=⟨g,i*3,none⟩) (fun _=>rfl) _).setCell (p:=⟨g,i*3+1,none⟩) (fun _=>rfl) _).setCell (p:=⟨g,i*3+2,none⟩) (fun _=>rfl) _⟩
     case measure=>simp [intOf];omega
   ·
    obtain rfl:j=n:=by omega
    obtain ⟨bq,bu,bp⟩:=ix i j
    have bm:=ac.cap;have bt:(i:Int)<c:=by omega
    have be:=ac.row g rfl
    have al:Hid (∀vs:List Value,Rd (wr.setCells g (i*3) vs) (wr.setCells g (i*3) vs).heap.size 3 (some ⟨g,0,none⟩) i ((l.filter (fun x=> !p x)).flatMap Id.cells)/\Fr (fun k=>Ac (some ⟨g,0,none⟩)=some k) w (wr.setCells g (i*3) vs)):=by
     intro vs;have fz:=Ki g vs (i*3) wr
     have e1:ab.take i=l.filter (fun x=> !p x):=by
      rw [ad.out,A13 (by rw [hn.out];exact A07 _)]
     have aj:(l.filter (fun x=> !p x)).length=i:=by rw [<- e1,A21];omega
     refine ⟨⟨by rw [Ej (f:=Id.cells) (size:=3) (fun _=>rfl),aj],.inr ⟨g,0,rfl,Nat.lt_of_lt_of_le be.2 fz.size,?_⟩⟩,hf.trans fz (fun k _ e=>by have e':k=g:=e;subst e';rfl)⟩;intro q u hu
     have hq:q<i*3:=by
      have h1:=(List.getElem?_eq_some_iff.1 hu).1;rw [Ej (f:=Id.cells) (size:=3) (fun _=>rfl),aj] at h1;exact h1
     rw [A02,World.cell?_setCells_out g vs (i*3) wr ⟨g,q,none⟩ (fun _ _=> .inl hq)];obtain ⟨g2,a9,_,_,a1,_,_⟩:=Own.setAt ac (j:=q) (by omega) (.int .i64 0);have a3:g=g2:=by injection a9 with e;injection e
     subst a3;refine a1 u ?_;rw [<- e1] at hu;have ap:ab.flatMap Id.cells=(ab.take i).flatMap Id.cells++(ab.drop i).flatMap Id.cells:=by rw [<- List.flatMap_append,List.take_append_drop]
     rw [ap,A19 (List.getElem?_eq_some_iff.1 hu).1];exact hu
    have ae:Hid (∀q,q<(j-i)*3->(wr.cell? ⟨g,i*3+q,none⟩).isSome=true/\wr.frozen? ⟨g,i*3+q,none⟩=false):=by
     intro q hq;have hm:i*3+q<j*3:=by omega
     obtain ⟨g2,a9,_,_,a1,aq,_⟩:=Own.setAt ac (j:=i*3+q) hm (.int .i64 0);have a3:g=g2:=by injection a9 with e;injection e
     subst a3;have hl:i*3+q<(ab.flatMap Id.cells).length:=by rw [Ej (f:=Id.cells) (size:=3) (fun _=>rfl),a7];exact hm
     exact ⟨by rw [a1 _ (A09 hl)];rfl,aq⟩
    have ai:Hid (i=(l.filter (fun x=> !p x)).length):=by
     show _=_
     have e1:ab.take i=l.filter (fun x=> !p x):=by
      rw [ad.out,A13 (by rw [hn.out];exact A07 _)]
     rw [<- e1,A21];omega
    clear ac ad ag ah aa ao hf
    have ba:(Builtin.clear_ #[25] 0 #[Value.slice (some ⟨g,i*3,none⟩) (j-i) (c-i)]).run zp wr=.ok (.tuple #[]) (wr.setCells g (i*3) (Builtin.zeroCells (Value.agg #[.int .i64 0,.int .i64 0,.int .u64 0]).cells (j-i)).toList):=
     Rx wr 25 48 0 _ underlying25 (fun _=>zeroValue48 _) g (i*3) (j-i) (c-i) (by omega) (fun q hq=>(ae.out q (by rw [R3] at hq;exact hq)).1) (fun q hq=>(ae.out q (by rw [R3] at hq;exact hq)).2) (Ad8 _)
    have az:=lh (fun vs=>af.out (l.filter (fun x=> !p x)) i (wr.setCells g (i*3) vs) ai.out rfl (al.out vs).1 (al.out vs).2);clear ae al ai af;generalize (Builtin.zeroCells (Value.agg #[.int .i64 0,.int .i64 0,.int .u64 0]).cells (j-i)).toList=ZS at ba;go_wp2_with fail
    go_ret
    exact az.out _
 ·
  have az:=lh (af.out l n w1 hn.out.symm (Ry l p hany).symm (by have:=aa.rd;exact this) bg);clear af ah hany;go_wp2_with fail
  go_ret
  exact az.out
end Oq
end Go.Proofs.YtgbdljlapmjmnaaGreatDoor
