/- Contracts of functions, walked (part 8).
Conditions: as each theorem says. -/
import Derived.Lib.SliceRun
import Derived.Laws.IdiomCopy
import Derived.Test.YtmcpnjoomlgmlaaGreatDoorRpM7
set_option maxRecDepth 100000
set_option maxHeartbeats 16000000
open Array renaming getD->A69
open Bool renaming and_eq_true->A73
open List renaming eq_nil_of_length_eq_zero->A62,nil_append->A63,length_map->A64,drop_drop->A66,getElem?_eq_getElem->A67,mem_of_getElem?->A68,flatMap_cons->A70,take_of_length_le->A71,drop->A72,getElem?_toArray->A74,drop_set_of_lt->A75,take_succ_eq_append_getElem->A76,getElem?_append_left->A77,getElem?_set_self->A78,length_take->A79
open Nat renaming zero_add->A60,zero_mul->A61,le_refl->A65
open Go.World renaming size_alloc->A59
open Go.Proofs.Tryz
open Go.Proofs.Tryz renaming prog->zp
open Go.Lib renaming hid->lh
open List renaming set->zl
open Go.Ending renaming returned->ze
namespace Go.Proofs.YtmcpnjoomlgmlaaGreatDoor
open Go.RowKit
attribute [local go_sem ↓] Go.wp_at_zero Go.wp_at_succ
namespace Oq
theorem Af6 {P:Program} {t e:TypeId} (hu:P.underlying t=some (.slice e)) (A:Option Addr) (n c:Nat) (w:World):(Go.Op.equal t (.slice A n c) (.slice none 0 0)).run P w=.ok A.isNone w:=by
 show (Go.Op.equalIn (9999+1) t (.slice A n c) (.slice none 0 0)).run P w=_;generalize 9999=d
 cases A<;>simp [Go.Op.equalIn,run_underlying hu]
theorem Gw {P:Program} {t e:TypeId} (hu:P.underlying t=some (.slice e)) (A:Option Addr) (n c:Nat) (w:World):(binOp .eql t (.slice A n c) (.slice none 0 0)).run P w=.ok (.bool A.isNone) w:=by
 have h:binOp .eql t (.slice A n c) (.slice none 0 0)=(do pure (.bool (<- Go.Op.equal t (.slice A n c) (.slice none 0 0)))):=by
  unfold binOp;rfl
 rw [h];simp [Af6 hu]
theorem Own.empty (w:World) (t:TypeId) (size:Nat):Own (w.alloc (.cells #[] t)) w.heap.size t size (some ⟨w.heap.size,0,none⟩) 0 0 []:=
 ⟨by simp,.inr ⟨w.heap.size,0,#[],rfl,A65 _,heap_alloc_new w _,A65 _,by omega,by simp,by simp⟩⟩
def Bf (e:TypeId) (size n:Nat) (xs:List Value) (w:World) (r:Ending) (w':World):Prop:=∃A' c',r=.returned (.slice A' n c')/\Own w' w.heap.size e size A' n c' xs/\Fr Non w w'
theorem Nu (B n c:Nat) (A:Option Addr) (xs:List Value) (w:World) (hr:Rd w B 3 A n xs) (h1:∀u∈xs,u.oneCell'=true) (hn:n<=1000000):
  Calls zp 86 #[.slice A n c] w (Bf 45 3 n xs w):=by
 have heq:=fun w'=>Gw (P:=zp) underlying25 A n c w'
 cases A with
 |none=>
  replace heq:∀w',(binOp .eql 25 (.slice none n c) (.slice none 0 0)).run zp w'=.ok (.bool true) w':=heq
  have h0:n=0:=by
   rcases hr.2 with h|⟨_,_,h,_⟩
   · exact h
   · cases h
  have hx:xs=[]:=A62 (by rw [hr.1,h0,A61]);subst h0;subst hx;have fin:Bf 45 3 0 [] w (.returned (.slice none 0 0)) w:=⟨none,0,rfl,Own.nil _ _ _ _,Fr.refl _ _⟩;generalize Bf 45 3 0 [] w=POST at*;replace fin:=lh fin;go_enter func86,ntmps86;go_wp2_with fail;exact fin.out
 |some ad=>
  replace heq:∀w',(binOp .eql 25 (.slice (some ad) n c) (.slice none 0 0)).run zp w'=.ok (.bool false) w':=heq;have hem:=Own.empty w 45 3;have hr1:=hr.fr ((Fr.refl Non w).alloc (.cells #[] 45)) zr
  have fin:∀A' c' w',Own w' w.heap.size 45 3 A' (0+n) c' ([]++xs)->Fr (fun k=>Ad (some (⟨w.heap.size,0,none⟩:Addr))=some k) (w.alloc (.cells #[] 45)) w'->Bf 45 3 n xs w (.returned (.slice A' n c')) w':=by
   intro A' c' w' h2 h3;rw [A60,A63] at h2;refine ⟨A',c',rfl,h2,((Fr.refl Non w).alloc (.cells #[] 45)).trans h3 (fun k hk e=> ?_)⟩;have e':w.heap.size=k:=Option.some.inj e;omega
  replace fin:=lh fin;generalize Bf 45 3 n xs w=POST at*;go_enter func86,ntmps86;go_upto_region 3 with (fail)
  go_wp2_with (at_builtin;go_loud (refine Av (base:=w.heap.size) (.tmp 5) (.tmp 6) 25 rfl rfl rfl rfl Ds hem hr1 h1 (by omega) (by omega) (by rw [A59];omega) ?_);intro A1 c1 w2 own1 fr1 hat1;have hdone:=lh (fin.out _ _ _ own1 fr1);clear own1 fr1 hat1 fin);exact hdone.out
theorem Su (B n c:Nat) (A:Option Addr) (xs:List Value) (w:World) (hr:Rd w B 1 A n xs) (h1:∀u∈xs,u.oneCell'=true) (hn:n<=1000000):
  Calls zp 128 #[.slice A n c] w (Bf 5 1 n xs w):=by
 have heq:=fun w'=>Gw (P:=zp) underlying40 A n c w'
 cases A with
 |none=>
  replace heq:∀w',(binOp .eql 40 (.slice none n c) (.slice none 0 0)).run zp w'=.ok (.bool true) w':=heq
  have h0:n=0:=by
   rcases hr.2 with h|⟨_,_,h,_⟩
   · exact h
   · cases h
  have hx:xs=[]:=A62 (by rw [hr.1,h0,A61]);subst h0;subst hx;have fin:Bf 5 1 0 [] w (.returned (.slice none 0 0)) w:=⟨none,0,rfl,Own.nil _ _ _ _,Fr.refl _ _⟩;generalize Bf 5 1 0 [] w=POST at*;replace fin:=lh fin;go_enter func128,ntmps128;go_wp2_with fail;exact fin.out
 |some ad=>
  replace heq:∀w',(binOp .eql 40 (.slice (some ad) n c) (.slice none 0 0)).run zp w'=.ok (.bool false) w':=heq;have hem:=Own.empty w 5 1;have hr1:=hr.fr ((Fr.refl Non w).alloc (.cells #[] 5)) zr
  have fin:∀A' c' w',Own w' w.heap.size 5 1 A' (0+n) c' ([]++xs)->Fr (fun k=>Ad (some (⟨w.heap.size,0,none⟩:Addr))=some k) (w.alloc (.cells #[] 5)) w'->Bf 5 1 n xs w (.returned (.slice A' n c')) w':=by
   intro A' c' w' h2 h3;rw [A60,A63] at h2;refine ⟨A',c',rfl,h2,((Fr.refl Non w).alloc (.cells #[] 5)).trans h3 (fun k hk e=> ?_)⟩;have e':w.heap.size=k:=Option.some.inj e;omega
  replace fin:=lh fin;generalize Bf 5 1 n xs w=POST at*;go_enter func128,ntmps128;go_upto_region 3 with (fail)
  go_wp2_with (at_builtin;go_loud (refine Av (base:=w.heap.size) (.tmp 5) (.tmp 6) 40 rfl rfl rfl rfl slB hem hr1 h1 (by omega) (by omega) (by rw [A59];omega) ?_);intro A1 c1 w2 own1 fr1 hat1;have hdone:=lh (fin.out _ _ _ own1 fr1);clear own1 fr1 hat1 fin);exact hdone.out
theorem Af7 (B n c:Nat) (A:Option Addr) (xs:List Value) (w:World) (hr:Rd w B 1 A n xs) (h1:∀u∈xs,u.oneCell'=true) (hn:n<=1000000):
  Calls zp 129 #[.slice A n c] w (Bf 43 1 n xs w):=by
 have heq:=fun w'=>Gw (P:=zp) underlying46 A n c w'
 cases A with
 |none=>
  replace heq:∀w',(binOp .eql 46 (.slice none n c) (.slice none 0 0)).run zp w'=.ok (.bool true) w':=heq
  have h0:n=0:=by
   rcases hr.2 with h|⟨_,_,h,_⟩
   · exact h
   · cases h
  have hx:xs=[]:=A62 (by rw [hr.1,h0,A61]);subst h0;subst hx;have fin:Bf 43 1 0 [] w (.returned (.slice none 0 0)) w:=⟨none,0,rfl,Own.nil _ _ _ _,Fr.refl _ _⟩;generalize Bf 43 1 0 [] w=POST at*;replace fin:=lh fin;go_enter func129,ntmps129;go_wp2_with fail;exact fin.out
 |some ad=>
  replace heq:∀w',(binOp .eql 46 (.slice (some ad) n c) (.slice none 0 0)).run zp w'=.ok (.bool false) w':=heq;have hem:=Own.empty w 43 1;have hr1:=hr.fr ((Fr.refl Non w).alloc (.cells #[] 43)) zr
  have fin:∀A' c' w',Own w' w.heap.size 43 1 A' (0+n) c' ([]++xs)->Fr (fun k=>Ad (some (⟨w.heap.size,0,none⟩:Addr))=some k) (w.alloc (.cells #[] 43)) w'->Bf 43 1 n xs w (.returned (.slice A' n c')) w':=by
   intro A' c' w' h2 h3;rw [A60,A63] at h2;refine ⟨A',c',rfl,h2,((Fr.refl Non w).alloc (.cells #[] 43)).trans h3 (fun k hk e=> ?_)⟩;have e':w.heap.size=k:=Option.some.inj e;omega
  replace fin:=lh fin;generalize Bf 43 1 n xs w=POST at*;go_enter func129,ntmps129;go_upto_region 3 with (fail)
  go_wp2_with (at_builtin;go_loud (refine Av (base:=w.heap.size) (.tmp 5) (.tmp 6) 46 rfl rfl rfl rfl Mn hem hr1 h1 (by omega) (by omega) (by rw [A59];omega) ?_);intro A1 c1 w2 own1 fr1 hat1;have hdone:=lh (fin.out _ _ _ own1 fr1);clear own1 fr1 hat1 fin);exact hdone.out
theorem Af8 (B n c:Nat) (A:Option Addr) (xs:List Value) (w:World) (hr:Rd w B 1 A n xs) (h1:∀u∈xs,u.oneCell'=true) (hn:n<=1000000):
  Calls zp 130 #[.slice A n c] w (Bf 3 1 n xs w):=by
 have heq:=fun w'=>Gw (P:=zp) underlying22 A n c w'
 cases A with
 |none=>
  replace heq:∀w',(binOp .eql 22 (.slice none n c) (.slice none 0 0)).run zp w'=.ok (.bool true) w':=heq
  have h0:n=0:=by
   rcases hr.2 with h|⟨_,_,h,_⟩
   · exact h
   · cases h
  have hx:xs=[]:=A62 (by rw [hr.1,h0,A61]);subst h0;subst hx;have fin:Bf 3 1 0 [] w (.returned (.slice none 0 0)) w:=⟨none,0,rfl,Own.nil _ _ _ _,Fr.refl _ _⟩;generalize Bf 3 1 0 [] w=POST at*;replace fin:=lh fin;go_enter func130,ntmps130;go_wp2_with fail;exact fin.out
 |some ad=>
  replace heq:∀w',(binOp .eql 22 (.slice (some ad) n c) (.slice none 0 0)).run zp w'=.ok (.bool false) w':=heq;have hem:=Own.empty w 3 1;have hr1:=hr.fr ((Fr.refl Non w).alloc (.cells #[] 3)) zr
  have fin:∀A' c' w',Own w' w.heap.size 3 1 A' (0+n) c' ([]++xs)->Fr (fun k=>Ad (some (⟨w.heap.size,0,none⟩:Addr))=some k) (w.alloc (.cells #[] 3)) w'->Bf 3 1 n xs w (.returned (.slice A' n c')) w':=by
   intro A' c' w' h2 h3;rw [A60,A63] at h2;refine ⟨A',c',rfl,h2,((Fr.refl Non w).alloc (.cells #[] 3)).trans h3 (fun k hk e=> ?_)⟩;have e':w.heap.size=k:=Option.some.inj e;omega
  replace fin:=lh fin;generalize Bf 3 1 n xs w=POST at*;go_enter func130,ntmps130;go_upto_region 3 with (fail)
  go_wp2_with (at_builtin;go_loud (refine Av (base:=w.heap.size) (.tmp 5) (.tmp 6) 22 rfl rfl rfl rfl Da hem hr1 h1 (by omega) (by omega) (by rw [A59];omega) ?_);intro A1 c1 w2 own1 fr1 hat1;have hdone:=lh (fin.out _ _ _ own1 fr1);clear own1 fr1 hat1 fin);exact hdone.out
theorem Sv (B n c:Nat) (A:Option Addr) (xs:List Value) (w:World) (hr:Rd w B 4 A n xs) (h1:∀u∈xs,u.oneCell'=true) (hn:n<=1000000):
  Calls zp 131 #[.slice A n c] w (Bf 103 4 n xs w):=by
 have heq:=fun w'=>Gw (P:=zp) underlying47 A n c w'
 cases A with
 |none=>
  replace heq:∀w',(binOp .eql 47 (.slice none n c) (.slice none 0 0)).run zp w'=.ok (.bool true) w':=heq
  have h0:n=0:=by
   rcases hr.2 with h|⟨_,_,h,_⟩
   · exact h
   · cases h
  have hx:xs=[]:=A62 (by rw [hr.1,h0,A61]);subst h0;subst hx;have fin:Bf 103 4 0 [] w (.returned (.slice none 0 0)) w:=⟨none,0,rfl,Own.nil _ _ _ _,Fr.refl _ _⟩;generalize Bf 103 4 0 [] w=POST at*;replace fin:=lh fin;go_enter func131,ntmps131;go_wp2_with fail;exact fin.out
 |some ad=>
  replace heq:∀w',(binOp .eql 47 (.slice (some ad) n c) (.slice none 0 0)).run zp w'=.ok (.bool false) w':=heq;have hem:=Own.empty w 103 4;have hr1:=hr.fr ((Fr.refl Non w).alloc (.cells #[] 103)) zr
  have fin:∀A' c' w',Own w' w.heap.size 103 4 A' (0+n) c' ([]++xs)->Fr (fun k=>Ad (some (⟨w.heap.size,0,none⟩:Addr))=some k) (w.alloc (.cells #[] 103)) w'->Bf 103 4 n xs w (.returned (.slice A' n c')) w':=by
   intro A' c' w' h2 h3;rw [A60,A63] at h2;refine ⟨A',c',rfl,h2,((Fr.refl Non w).alloc (.cells #[] 103)).trans h3 (fun k hk e=> ?_)⟩;have e':w.heap.size=k:=Option.some.inj e;omega
  replace fin:=lh fin;generalize Bf 103 4 n xs w=POST at*;go_enter func131,ntmps131;go_upto_region 3 with (fail)
  go_wp2_with (at_builtin;go_loud (refine Av (base:=w.heap.size) (.tmp 5) (.tmp 6) 47 rfl rfl rfl rfl slBx hem hr1 h1 (by omega) (by omega) (by rw [A59];omega) ?_);intro A1 c1 w2 own1 fr1 hat1;have hdone:=lh (fin.out _ _ _ own1 fr1);clear own1 fr1 hat1 fin);exact hdone.out
theorem Af9 (B n c:Nat) (A:Option Addr) (xs:List Value) (w:World) (hr:Rd w B 2 A n xs) (h1:∀u∈xs,u.oneCell'=true) (hn:n<=1000000):
  Calls zp 132 #[.slice A n c] w (Bf 112 2 n xs w):=by
 have heq:=fun w'=>Gw (P:=zp) underlying42 A n c w'
 cases A with
 |none=>
  replace heq:∀w',(binOp .eql 42 (.slice none n c) (.slice none 0 0)).run zp w'=.ok (.bool true) w':=heq
  have h0:n=0:=by
   rcases hr.2 with h|⟨_,_,h,_⟩
   · exact h
   · cases h
  have hx:xs=[]:=A62 (by rw [hr.1,h0,A61]);subst h0;subst hx;have fin:Bf 112 2 0 [] w (.returned (.slice none 0 0)) w:=⟨none,0,rfl,Own.nil _ _ _ _,Fr.refl _ _⟩;generalize Bf 112 2 0 [] w=POST at*;replace fin:=lh fin;go_enter func132,ntmps132;go_wp2_with fail;exact fin.out
 |some ad=>
  replace heq:∀w',(binOp .eql 42 (.slice (some ad) n c) (.slice none 0 0)).run zp w'=.ok (.bool false) w':=heq;have hem:=Own.empty w 112 2;have hr1:=hr.fr ((Fr.refl Non w).alloc (.cells #[] 112)) zr
  have fin:∀A' c' w',Own w' w.heap.size 112 2 A' (0+n) c' ([]++xs)->Fr (fun k=>Ad (some (⟨w.heap.size,0,none⟩:Addr))=some k) (w.alloc (.cells #[] 112)) w'->Bf 112 2 n xs w (.returned (.slice A' n c')) w':=by
   intro A' c' w' h2 h3;rw [A60,A63] at h2;refine ⟨A',c',rfl,h2,((Fr.refl Non w).alloc (.cells #[] 112)).trans h3 (fun k hk e=> ?_)⟩;have e':w.heap.size=k:=Option.some.inj e;omega
  replace fin:=lh fin;generalize Bf 112 2 n xs w=POST at*;go_enter func132,ntmps132;go_upto_region 3 with (fail)
  go_wp2_with (at_builtin;go_loud (refine Av (base:=w.heap.size) (.tmp 5) (.tmp 6) 42 rfl rfl rfl rfl slNd hem hr1 h1 (by omega) (by omega) (by rw [A59];omega) ?_);intro A1 c1 w2 own1 fr1 hat1;have hdone:=lh (fin.out _ _ _ own1 fr1);clear own1 fr1 hat1 fin);exact hdone.out
theorem Ag0 (B n c:Nat) (A:Option Addr) (xs:List Value) (w:World) (hr:Rd w B 4 A n xs) (h1:∀u∈xs,u.oneCell'=true) (hn:n<=1000000):
  Calls zp 133 #[.slice A n c] w (Bf 119 4 n xs w):=by
 have heq:=fun w'=>Gw (P:=zp) underlying48 A n c w'
 cases A with
 |none=>
  replace heq:∀w',(binOp .eql 48 (.slice none n c) (.slice none 0 0)).run zp w'=.ok (.bool true) w':=heq
  have h0:n=0:=by
   rcases hr.2 with h|⟨_,_,h,_⟩
   · exact h
   · cases h
  have hx:xs=[]:=A62 (by rw [hr.1,h0,A61]);subst h0;subst hx;have fin:Bf 119 4 0 [] w (.returned (.slice none 0 0)) w:=⟨none,0,rfl,Own.nil _ _ _ _,Fr.refl _ _⟩;generalize Bf 119 4 0 [] w=POST at*;replace fin:=lh fin;go_enter func133,ntmps133;go_wp2_with fail;exact fin.out
 |some ad=>
  replace heq:∀w',(binOp .eql 48 (.slice (some ad) n c) (.slice none 0 0)).run zp w'=.ok (.bool false) w':=heq;have hem:=Own.empty w 119 4;have hr1:=hr.fr ((Fr.refl Non w).alloc (.cells #[] 119)) zr
  have fin:∀A' c' w',Own w' w.heap.size 119 4 A' (0+n) c' ([]++xs)->Fr (fun k=>Ad (some (⟨w.heap.size,0,none⟩:Addr))=some k) (w.alloc (.cells #[] 119)) w'->Bf 119 4 n xs w (.returned (.slice A' n c')) w':=by
   intro A' c' w' h2 h3;rw [A60,A63] at h2;refine ⟨A',c',rfl,h2,((Fr.refl Non w).alloc (.cells #[] 119)).trans h3 (fun k hk e=> ?_)⟩;have e':w.heap.size=k:=Option.some.inj e;omega
  replace fin:=lh fin;generalize Bf 119 4 n xs w=POST at*;go_enter func133,ntmps133;go_upto_region 3 with (fail)
  go_wp2_with (at_builtin;go_loud (refine Av (base:=w.heap.size) (.tmp 5) (.tmp 6) 48 rfl rfl rfl rfl slSl hem hr1 h1 (by omega) (by omega) (by rw [A59];omega) ?_);intro A1 c1 w2 own1 fr1 hat1;have hdone:=lh (fin.out _ _ _ own1 fr1);clear own1 fr1 hat1 fin);exact hdone.out
theorem Ag1 (B n c:Nat) (A:Option Addr) (xs:List Value) (w:World) (hr:Rd w B 5 A n xs) (h1:∀u∈xs,u.oneCell'=true) (hn:n<=1000000):
  Calls zp 81 #[.slice A n c] w (Bf 141 5 n xs w):=by
 have heq:=fun w'=>Gw (P:=zp) underlying23 A n c w'
 cases A with
 |none=>
  replace heq:∀w',(binOp .eql 23 (.slice none n c) (.slice none 0 0)).run zp w'=.ok (.bool true) w':=heq
  have h0:n=0:=by
   rcases hr.2 with h|⟨_,_,h,_⟩
   · exact h
   · cases h
  have hx:xs=[]:=A62 (by rw [hr.1,h0,A61]);subst h0;subst hx;have fin:Bf 141 5 0 [] w (.returned (.slice none 0 0)) w:=⟨none,0,rfl,Own.nil _ _ _ _,Fr.refl _ _⟩;generalize Bf 141 5 0 [] w=POST at*;replace fin:=lh fin;go_enter func81,ntmps81;go_wp2_with fail;exact fin.out
 |some ad=>
  replace heq:∀w',(binOp .eql 23 (.slice (some ad) n c) (.slice none 0 0)).run zp w'=.ok (.bool false) w':=heq;have hem:=Own.empty w 141 5;have hr1:=hr.fr ((Fr.refl Non w).alloc (.cells #[] 141)) zr
  have fin:∀A' c' w',Own w' w.heap.size 141 5 A' (0+n) c' ([]++xs)->Fr (fun k=>Ad (some (⟨w.heap.size,0,none⟩:Addr))=some k) (w.alloc (.cells #[] 141)) w'->Bf 141 5 n xs w (.returned (.slice A' n c')) w':=by
   intro A' c' w' h2 h3;rw [A60,A63] at h2;refine ⟨A',c',rfl,h2,((Fr.refl Non w).alloc (.cells #[] 141)).trans h3 (fun k hk e=> ?_)⟩;have e':w.heap.size=k:=Option.some.inj e;omega
  replace fin:=lh fin;generalize Bf 141 5 n xs w=POST at*;go_enter func81,ntmps81;go_upto_region 3 with (fail)
  go_wp2_with (at_builtin;go_loud (refine Av (base:=w.heap.size) (.tmp 5) (.tmp 6) 23 rfl rfl rfl rfl slCd hem hr1 h1 (by omega) (by omega) (by rw [A59];omega) ?_);intro A1 c1 w2 own1 fr1 hat1;have hdone:=lh (fin.out _ _ _ own1 fr1);clear own1 fr1 hat1 fin);exact hdone.out
end Oq
section
variable {P : Program} {ops : Array Oper} {Q : Exit -> Act -> World -> Prop} {md : Region.Mode} {S : World -> Prop} {g : Nat}
def Co (P:Program) (md:Region.Mode) (ops:Array Oper) (Q:Exit->Act->World->Prop) (S:World->Prop) (g:Nat) (fuel:Nat) (listed:Array Bool) (a:Act) (w:World):Prop:=
 match fuel with
 |0=>Region.ready md ops listed=[]/\Q .normal a w
 |k+1=>(Region.ready md ops listed=[]->Q .normal a w)/\
   ∀i∈Region.ready md ops listed,wpOp P ops Q i (fun a' w'=>((listed.setIfInBounds i true).getD g true=false->S w')/\Co P md ops Q S g k (listed.setIfInBounds i true) a' w') a w
theorem Ag2:∀(fuel:Nat) (listed:Array Bool) (a:Act) (w:World),Co P md ops Q S g fuel listed a w->wpAny P md ops Q fuel listed a w:=by
 intro fuel
 induction fuel with
 |zero=>intro _ _ _ h;exact h
 |succ k ih=>intro l a w h;exact ⟨h.1,fun i hi=>wpOp_mono (fun a' w' h'=>ih _ a' w' h'.2) (h.2 i hi)⟩
theorem Ag3:∀(fuel:Nat) (listed:Array Bool) (a:Act) (w:World),listed.getD g true=true->wpAny P md ops Q fuel listed a w->Co P md ops Q S g fuel listed a w:=by
 intro fuel
 induction fuel with
 |zero=>intro _ _ _ _ h;exact h
 |succ k ih=>
  intro l a w hg h;refine ⟨h.1,fun i hi=>wpOp_mono (fun a' w' h'=> ?_) (h.2 i hi)⟩
  have hg':(l.setIfInBounds i true).getD g true=true:=by
   by_cases hgi:i=g
   ·
    subst hgi
    by_cases hb:i<l.size
    · simp [A69,hb]
    · simp [A69,hb]
   ·
    rw [getD_set_ne true hgi];exact hg
  exact ⟨fun h0=>(by rw [hg'] at h0;cases h0),ih _ a' w' hg' h'⟩
theorem Ag4 {i:Nat} {oi og:Oper} {v:Value} (hi:ops[i]? =some oi) (hog:ops[g]? =some og) (hgi:g≠i) (hwait:∃e∈og.after,Region.binds md e=true/\e.on=i)
  (hsel:∀(j:Nat) (o:Oper) cs b,ops[j]? =some o->o.op≠ .select cs b) (hQ:∀c a w,Q (.panic c) (a.put oi.dst v) w->Q (.panic c) a w):
  ∀(fuel:Nat) (listed:Array Bool) (a:Act) (w:World),listed.getD g true=false->
   (∀j oj,ops[j]? =some oj->j≠i->listed.getD j true=false->(∀e∈oj.after,Region.binds md e=true->e.on≠i)->oi.apart ops oj=true)->
   i∈Region.ready md ops listed->YieldsIf P ops S oi v a->S w->
   Co P md ops Q S g fuel (listed.setIfInBounds i true) (a.put oi.dst v) w->Co P md ops Q S g (fuel+1) listed a w:=by
 intro fuel
 induction fuel with
 |zero=>
  intro listed a w hg _ hr hy hS H;refine ⟨fun h=>(by rw [h] at hr;cases hr),fun j hj=> ?_⟩
  by_cases hji:j=i
  · subst hji;exact hy.wpOp hi hS ⟨fun _=>hS,H⟩
  ·
   have h0:=ready_mono hj hji;rw [H.1] at h0
   cases h0
 |succ k ih=>
  intro listed a w hg hfree hr hy hS H;refine ⟨fun h=>(by rw [h] at hr;cases hr),fun j hj=> ?_⟩
  by_cases hji:j=i
  · subst hji;exact hy.wpOp hi hS ⟨fun _=>hS,H⟩
  ·
   have hpend:=(mem_ready.1 hr).1;obtain ⟨hjun,oj,hoj,hall⟩:=mem_ready.1 hj
   have hbl:∀e∈oj.after,Region.binds md e=true->e.on≠i:=fun e he hb heq=>by
    have h1:=hall e he hb;rw [heq] at h1
    rcases Nat.lt_or_ge i listed.size with h'|h'
    · simp [h'] at hpend h1;rw [hpend] at h1;cases h1
    · simp [Array.getElem?_eq_none h'] at h1
   have hjg:j≠g:=by
    rintro rfl;obtain ⟨e,he,hb,heq⟩:=hwait;rw [hog] at hoj
    cases hoj
    exact hbl e he hb heq
   have h1:=H.2 j (ready_mono hj hji);have h2:=wpOp_putIf hoj (hfree j oj hoj hji hjun hbl) (fun cs b=>hsel i oi cs b hi) (fun cs b=>hsel j oj cs b hoj) hQ hy h1;have hg':(listed.setIfInBounds j true).getD g true=false:=by rw [getD_set_ne true hjg];exact hg
   have hgij:((listed.setIfInBounds i true).setIfInBounds j true).getD g true=false:=by rw [getD_set_ne true hjg,getD_set_ne true (Ne.symm hgi)];exact hg
   have hfree':∀m om,ops[m]? =some om->m≠i->(listed.setIfInBounds j true).getD m true=false->
     (∀e∈om.after,Region.binds md e=true->e.on≠i)->oi.apart ops om=true:=fun m om hm hmi hun hno=>by
    refine hfree m om hm hmi ?_ hno
    by_cases hjm:j=m
    · subst hjm;exact hjun
    · rw [getD_set_ne true hjm] at hun;exact hun
   refine wpOp_mono (fun a' w' h3=> ?_) h2;have hS':=h3.2.1 hgij;refine ⟨fun _=>hS',ih _ a' w' hg' hfree' (ready_mono hr (Ne.symm hji)) h3.1 hS' ?_⟩;rw [Array.setIfInBounds_comm _ _ hji];exact h3.2.2
def Iw (md:Region.Mode) (ops:Array Oper) (g i:Nat):Bool:=match ops[g]? with|some og=>og.after.any (fun e=>Region.binds md e&&e.on==i)|none=>false
theorem Ag5 {i:Nat} (h:Iw md ops g i=true):∃og,ops[g]? =some og/\∃e∈og.after,Region.binds md e=true/\e.on=i:=by
 unfold Iw at h
 split at h
 ·
  rename_i og hog;obtain ⟨e,he,hb⟩:=Array.any_eq_true'.1 h;simp only [A73,beq_iff_eq] at hb;exact ⟨og,hog,e,he,hb.1,hb.2⟩
 · cases h
end
theorem Gd {P:Program} {Q:Exit->Act->World->Prop} {md:Region.Mode} {S:World->Prop} {g:Nat} {l:List Oper} {i:Nat} {d:Tmp} {op:Op} {ty:TypeId} {pos:String} {after:Array Edge} {gd:Option (Nat × Bool)} {v:Value} {fuel:Nat} {listed:Array Bool} {tl:List Value} {ds:List Deferred} {w:World} (hi:l[i]? =some ⟨some d,op,ty,pos,after,gd⟩)
  (hgate:(listed.getD g true==false&&g !=i&&Iw md l.toArray g i)=true)
  (hs:Region.noSelect l.toArray=true) (hf:Region.free md l.toArray listed i=true) (hr:(Region.ready md l.toArray listed).contains i=true)
  (hQ:∀c a w,Q (.panic c) (a.put (some d) v) w->Q (.panic c) a w) (hy:YieldsIf P l.toArray S ⟨some d,op,ty,pos,after,gd⟩ v ⟨tl.toArray,ds⟩) (hS:S w)
  (h:Co P md l.toArray Q S g fuel (listed.setIfInBounds i true) ⟨(tl.set d v).toArray,ds⟩ w):Co P md l.toArray Q S g (fuel+1) listed ⟨tl.toArray,ds⟩ w:=by
 simp only [A73,beq_iff_eq,bne_iff_ne] at hgate;obtain ⟨og,hog,hwait⟩:=Ag5 hgate.2;have hi':l.toArray[i]? =some ⟨some d,op,ty,pos,after,gd⟩:=by rw [A74];exact hi
 exact Ag4 hi' hog hgate.1.2 hwait (Region.noSelect_spec hs) hQ fuel listed _ w hgate.1.1 (Region.free_spec hi' hf) (by simpa using hr) hy hS (by rw [Ah];exact h)
theorem Bo {P:Program} {Q:Exit->Act->World->Prop} {l:List Oper} {md:Region.Mode} {S:World->Prop} {g fuel:Nat} {listed:Array Bool} {a:Act} {w:World} (i:Nat) {d:Option Tmp} {op:Op} {ty:TypeId} {pos:String} {after:Array Edge} (hr:Region.ready md l.toArray listed=[i]) (ho:l[i]? =some ⟨d,op,ty,pos,after,none⟩)
  (h:∀K':Act->World->Prop,Shut (∀a w,S w->(S w->Co P md l.toArray Q S g fuel (listed.setIfInBounds i true) a w)->K' a w)->Oper.wp P ⟨d,op,ty,pos,after,none⟩ a w K' Q):
  Co P md l.toArray Q S g (fuel+1) listed a w:=by
 refine ⟨fun h0=>(by rw [hr] at h0;cases h0),fun j hj=> ?_⟩;rw [hr] at hj;obtain rfl:=List.mem_singleton.1 hj;refine wpOp_step (o:=⟨d,op,ty,pos,after,none⟩) (by rw [A74];exact ho) (fun K' hK=> ?_);rw [if_pos (show Region.wanted _ _=true from rfl)];exact h K' (fun a w hS hW=>hK a w ⟨fun _=>hS,hW hS⟩)
theorem Cp {P:Program} {Q:Exit->Act->World->Prop} {l:List Oper} {md:Region.Mode} {S:World->Prop} {g fuel:Nat} {listed:Array Bool} {a:Act} {w:World} (hr:Region.ready md l.toArray listed=[g])
  (h:wpAnyH P md l.toArray Q (fun _=>True) (fuel+1) listed a w):Co P md l.toArray Q S g (fuel+1) listed a w:=by
 refine ⟨h.1,fun j hj=>wpOp_mono (fun a' w' h'=> ?_) (h.2 j hj)⟩;rw [hr] at hj;obtain rfl:=List.mem_singleton.1 hj
 have hg':(listed.setIfInBounds j true).getD j true=true:=by
  by_cases hb:j<listed.size
  · simp [A69,hb]
  · simp [A69,hb]
 exact ⟨fun h0=>(by rw [hg'] at h0;cases h0),Ag3 _ _ _ _ hg' (wpAny_of_held _ _ _ _ h'.2)⟩
theorem Cv {P:Program} {Q:Exit->Act->World->Prop} {S:World->Prop} (g:Nat) {id:Nat} {l:List Oper} {a:Act} {w:World} (hm:P.follows .mixedOrders=true)
  (h:Co P .any l.toArray Q S g l.toArray.size (Array.replicate l.toArray.size false) a w.drew):(Code.region id l.toArray true).wp P Q a w:=
 wp_region_any hm (Ag2 _ _ _ _ h)
theorem tkG (i:Nat) {P:Program} {Q:Exit->Act->World->Prop} {md:Region.Mode} {S:World->Prop} {gt:Nat} {l:List Oper} {d:Tmp} {op:Op} {ty:TypeId} {pos:String} {after:Array Edge} {g:Option (Nat × Bool)} {v:Value} {fuel:Nat} {listed:Array Bool} {tl:List Value} {ds:List Deferred} {w:World} (hS:S w) (hi:l[i]? =some ⟨some d,op,ty,pos,after,g⟩:=by rfl)
  (hgate:(listed.getD gt true==false&&gt !=i&&Iw md l.toArray gt i)=true:=by kernel_rfl)
  (hs:Region.noSelect l.toArray=true:=by kernel_rfl) (hf:Region.free md l.toArray listed i=true:=by kernel_rfl) (hr:(Region.ready md l.toArray listed).contains i=true:=by kernel_rfl)
  (hQ:∀c a w,Q (.panic c) (a.put (some d) v) w->Q (.panic c) a w:=by exact fun _ _ _ h=>h) (hy:YieldsIf P l.toArray S ⟨some d,op,ty,pos,after,g⟩ v ⟨tl.toArray,ds⟩:=by (refine Or.inl ⟨by kernel_rfl,?_⟩;intro w' hSw;(try dsimp only at hSw);(try simp only [zl]);go_simp;(try with_reducible rfl)))
  (h:Co P md l.toArray Q S gt fuel (listed.setIfInBounds i true) ⟨(tl.set d v).toArray,ds⟩ w):
  Co P md l.toArray Q S gt (fuel+1) listed ⟨tl.toArray,ds⟩ w:=Gd hi hgate hs hf hr hQ hy hS h
inductive TkG (P:Program) (Q:Exit->Act->World->Prop) (md:Region.Mode) (S:World->Prop) (gt:Nat) (l:List Oper) (ds:List Deferred):Nat->Nat->Array Bool->List Value->Array Bool->List Value->Prop
 |nil {i:Nat} {b:Array Bool} {t:List Value}:TkG P Q md S gt l ds i 0 b t b t
 |cons {i n:Nat} {b b':Array Bool} {t t1 t':List Value} {d:Tmp} {op:Op} {ty:TypeId} {pos:String} {after:Array Edge} {g:Option (Nat × Bool)} {v:Value} (hi:l[i]? =some ⟨some d,op,ty,pos,after,g⟩) (hg:(b.getD gt true==false&&gt !=i&&Iw md l.toArray gt i)=true) (hs:Region.noSelect l.toArray=true) (hf:Region.free md l.toArray b i=true) (hr:(Region.ready md l.toArray b).contains i=true)
  (hQ:∀c a w,Q (.panic c) (a.put (some d) v) w->Q (.panic c) a w) (hy:YieldsIf P l.toArray S ⟨some d,op,ty,pos,after,g⟩ v ⟨t.toArray,ds⟩) (ht:t.set d v=t1) (h:TkG P Q md S gt l ds (i+1) n (b.setIfInBounds i true) t1 b' t'):TkG P Q md S gt l ds i (n+1) b t b' t'
theorem TkG.run {P:Program} {Q:Exit->Act->World->Prop} {md:Region.Mode} {S:World->Prop} {gt:Nat} {l:List Oper} {ds:List Deferred} {i n:Nat} {b b':Array Bool} {t t':List Value} (h:TkG P Q md S gt l ds i n b t b' t') {fuel:Nat} {w:World} (hS:S w) (hw:Co P md l.toArray Q S gt fuel b' ⟨t'.toArray,ds⟩ w):Co P md l.toArray Q S gt (fuel+n) b ⟨t.toArray,ds⟩ w:=by
 induction h with
 |nil=>exact hw
 |cons hi hg hs hf hr hQ hy ht _ ih=>
  subst ht;exact Gd hi hg hs hf hr hQ hy hS (ih hw)
theorem tkM (i n:Nat) {P:Program} {Q:Exit->Act->World->Prop} {md:Region.Mode} {S:World->Prop} {gt:Nat} {l:List Oper} {ds:List Deferred} {b b':Array Bool} {t t':List Value} {fuel:Nat} {w:World} (hS:S w)
  (hk:TkG P Q md S gt l ds i n b t b' t':=by ((repeat (apply TkG.cons;rfl;kernel_rfl;kernel_rfl;kernel_rfl;kernel_rfl;exact fun _ _ _ h=>h;(refine Or.inl ⟨by kernel_rfl,?_⟩;intro w' hSw;(try dsimp only at hSw);go_simp;(try with_reducible rfl));((conv=>lhs;simp only [zl])<;>exact rfl)));exact TkG.nil))
  (h:Co P md l.toArray Q S gt fuel b' ⟨t'.toArray,ds⟩ w):Co P md l.toArray Q S gt (fuel+n) b ⟨t.toArray,ds⟩ w:=hk.run hS h
theorem stT (i:Nat) {P:Program} {Q:Exit->Act->World->Prop} {l:List Oper} {md:Region.Mode} {S:World->Prop} {fuel:Nat} {b:Array Bool} {a a':Act} {w w':World} {d:Option Tmp} {op:Op} {ty:TypeId} {pos:String} {after:Array Edge} {g:Option (Nat × Bool)} (hr:Region.ready md l.toArray b=[i]:=by kernel_rfl) (ho:l[i]? =some ⟨d,op,ty,pos,after,g⟩:=by rfl) (hw:Region.wanted ⟨d,op,ty,pos,after,g⟩ (yielded l.toArray a.tmps)=true:=by kernel_rfl)
  (hk:∀K:Act->World->Prop,K a' w'->Oper.wp P ⟨d,op,ty,pos,after,g⟩ a w K Q:=by (intro K hK;go_simp;(try simp only [Ah,zl]);exact hK)) (hS:S w':=by trivial) (h:wpAnyH P md l.toArray Q S fuel (b.setIfInBounds i true) a' w'):wpAnyH P md l.toArray Q S (fuel+1) b a w:=
 Qo i hr ho hw (fun K' hK=>hk K' (hK.out _ _ hS (fun _=>h)))
theorem Own.setAt {w:World} {base n c size:Nat} {t:TypeId} {A:Option Addr} {xs:List Value} (h:Own w base t size A n c xs) {j:Nat} (hj:j<n*size) (u:Value):
  ∃g,A=some ⟨g,0,none⟩/\base<=g/\g<w.heap.size/\(∀v,xs[j]? =some v->w.cell? ⟨g,j,none⟩=some v)/\w.frozen? ⟨g,j,none⟩=false/\Own (w.setCell ⟨g,j,none⟩ u) base t size A n c (xs.set j u):=by
 rcases h.2 with ⟨_,h0⟩|⟨g,cap,cur,hv,hb,hg,h1,h2,h3,h4⟩
 ·
  subst h0;omega
 ·
  injection hv with hA hn hc
  have hblk:Blk w g t cur:=hg;have hset:=hblk.set j u;refine ⟨g,hA,hb,hblk.lt,?_,hblk.frozen j,?_⟩
  ·
   intro v hv';rw [hblk.cell j];rw [<- h4,List.getElem?_take_of_lt hj] at hv';simpa using hv'
  ·
   refine ⟨by rw [List.length_set];exact h.1,.inr ⟨g,cap,cur.setIfInBounds j u,?_,hb,hset,h1,h2,by simpa using h3,?_⟩⟩
   · subst hA hc;rfl
   · rw [Array.toList_setIfInBounds,List.take_set,h4]
theorem Ix {α:Type} {f:α->List Value} {size:Nat} (hf:∀x,(f x).length=size) {j:Nat} (hj:j<size) (v:Value) (y:α):∀(l:List α) (k:Nat) (x:α),l[k]? =some x->(f x).set j v=f y->
  (l.flatMap f).set (k*size+j) v=(l.set k y).flatMap f:=by
 intro l
 induction l with
 |nil=>intro k x hx _;simp at hx
 |cons a r ih=>
  intro k x hx hy
  cases k with
  |zero=>
   simp only [List.getElem?_cons_zero,Option.some.injEq] at hx;subst hx;rw [A70,List.set_cons_zero,A70,A61,A60,List.set_append_left _ _ (by rw [hf];exact hj),hy]
  |succ m=>
   rw [List.getElem?_cons_succ] at hx;rw [A70,List.set_cons_succ,A70,List.set_append_right _ _ (by rw [hf,Nat.add_mul];omega),hf,show (m+1)*size+j-size=m*size+j by rw [Nat.add_mul];omega,ih m x hx hy]
theorem Sw {α β:Type} (nd:α->β) (l:List α) (k:Nat) {y y':α} (h:l[k]? =some y) (e:nd y'=nd y):(l.set k y').map nd=l.map nd:=by
 rw [List.map_set,e];apply List.ext_getElem?;intro i;rw [List.getElem?_set]
 by_cases hi:k=i
 ·
  subst hi;rw [List.getElem?_map,h];have hk:k<(l.map nd).length:=by rw [A64];exact (List.getElem?_eq_some_iff.1 h).1
  simp [(List.getElem?_eq_some_iff.1 h).1]
 · rw [if_neg hi]
theorem Sx {α:Type} (l m:List α) (k:Nat) (y':α) (h:l.drop k=m.drop k):(l.set k y').drop (k+1)=m.drop (k+1):=by
 rw [A75 (by omega)];have h2:=congrArg (A72 1) h;rwa [A66,A66] at h2
theorem Nv {α:Type} (l:List α) (k:Nat) {y:α} (y':α) (h:l[k]? =some y):(l.set k y').take (k+1)=l.take k++[y']:=by
 have hk:=(List.getElem?_eq_some_iff.1 h).1;rw [A76 (by rw [List.length_set];exact hk),List.take_set_of_le (by omega)];simp
theorem Nw {α:Type} {l m:List α} {k:Nat} (h:l.drop k=m.drop k):l[k]? =m[k]? :=by
 have h2:=congrArg (fun t=>t[0]?) h;simpa [List.getElem?_drop] using h2
namespace Oq
attribute [local go_sem ↓] Bq
theorem Km {α:Type} (f:α->Value) (hf:∀a,(f a).oneCell'=true) (l:List α):∀v∈l.map f,v.oneCell'=true:=by
 intro v hv;obtain ⟨y,_,rfl⟩:=List.mem_map.1 hv;exact hf y
theorem Kn {α:Type} (f:α->List Value) (hf:∀a,∀v∈f a,v.oneCell'=true) (l:List α):∀v∈l.flatMap f,v.oneCell'=true:=by
 intro v hv;obtain ⟨y,_,hy⟩:=List.mem_flatMap.1 hv;exact hf y v hy
theorem Sy (l:List Bx):∀v∈l.flatMap Bx.cells,v.oneCell'=true:=Kn _ (fun a v hv=>by simp [Bx.cells] at hv;rcases hv with rfl|rfl|rfl|rfl<;>rfl) l
theorem Ag6 (l:List NdL):∀v∈l.flatMap NdL.cells,v.oneCell'=true:=Kn _ (fun a v hv=>by simp [NdL.cells] at hv;rcases hv with rfl|rfl<;>rfl) l
theorem Ag7 (l:List SlL):∀v∈l.flatMap SlL.cells,v.oneCell'=true:=Kn _ (fun a v hv=>by simp [SlL.cells] at hv;rcases hv with rfl|rfl|rfl|rfl<;>rfl) l
def Nx (o:Op) (w:World) (r:Ending) (w':World):Prop:=
 ∃y:OpL,r=.returned (.agg y.cells)/\y.op=o/\y.own w' w.heap.size/\Fr Non w w'
theorem Sz (x:OpL) (w:World) (hat:x.at w w.heap.size) (hok:x.op.ok):Calls zp 74 #[.agg x.cells] w (Nx x.op w):=by
 have hi:(zp.info? 52).map (·.size)=some 27:=by kernel_rfl
 have ai:Blk ((w.alloc (.cells x.cells 52)).alloc (.cells zO 52)) w.heap.size 52 x.cells:=(Blk.new w 52 x.cells).alloc _
 have cc:Blk ((w.alloc (.cells x.cells 52)).alloc (.cells zO 52)) (w.heap.size+1) 52 zO:=by
  have:=Blk.new (w.alloc (.cells x.cells 52)) 52 zO;rwa [A59] at this
 have dv:((w.alloc (.cells x.cells 52)).alloc (.cells zO 52)).heap.size=w.heap.size+2:=by rw [A59,A59]
 have bs:Fr Non w ((w.alloc (.cells x.cells 52)).alloc (.cells zO 52)):=((Fr.refl Non w).alloc _).alloc _;have bq:=OpL.frame hat bs;have b6:x.guards.length<=1000000:=by have h:=hok.guards.1;rw [show x.op.guards=x.guards from rfl] at h;omega
 have dl:x.refs.length<=1000000:=by have h:=hok.refs.1;rw [show x.op.refs=x.refs from rfl] at h;omega
 have cn:x.boxes.length<=1000000:=by have h:=hok.boxes.1;rw [show x.op.boxes=x.boxes from rfl] at h;omega
 have dm:x.past.length<=1000000:=by have h:=hok.past.1;rw [show x.op.past=x.past from rfl] at h;omega
 have bv:x.path.length<=1000000:=by have h:=hok.path.1;rw [show x.op.path=x.path.map NdL.nd from rfl,A64] at h;omega
 have br:x.hist.length<=1000000:=by have h:=hok.hist.1;rw [show x.op.hist=x.hist.map SlL.sl from rfl,A64] at h;omega
 have dp:x.body.length<=1000000:=by have h:=hok.body;rw [show x.op.body=x.body from rfl] at h;omega
 have bd:Hid (∀y∈x.path,y.xs.length<=1000000):=fun y hy=>by have h:=(hok.path.2 y.nd (List.mem_map.2 ⟨y,hy,rfl⟩)).2.1;rw [show y.nd.xs=y.xs from rfl] at h;omega
 have ba:Hid (∀y∈x.hist,y.y.length<=1000000):=fun y hy=>by have h:=(hok.hist.2 y.sl (List.mem_map.2 ⟨y,hy,rfl⟩)).2;rw [show y.sl.y=y.y from rfl] at h;omega
 have a1:Hid (∀(y:OpL) (w':World),y.op=x.op->y.own w' w.heap.size->Fr Non w w'->Nx x.op w (.returned (.agg y.cells)) w'):=fun y w' h1 h2 h3=>⟨y,rfl,h1,h2,h3⟩;generalize Nx x.op w=POST at*;go_enter func74,ntmps74;go_upto_region 1 with (fail)
 generalize ((w.alloc (.cells x.cells 52)).alloc (.cells zO 52))=w0 at*;obtain ⟨CS,az⟩:=Ab x.cells;rw [az.out] at ai;have e4:Hid (CS[4]? =some (.slice x.pastA x.past.length x.pastC)):=by show _=_;rw [<- az.out];rfl
 have cy:Hid (CS[14]? =some (.slice x.bodyA x.body.length x.bodyC)):=by show _=_;rw [<- az.out];rfl
 have da:Hid (CS[15]? =some (.slice x.refsA x.refs.length x.refsC)):=by show _=_;rw [<- az.out];rfl
 have ck:Hid (CS[19]? =some (.slice x.guardsA x.guards.length x.guardsC)):=by show _=_;rw [<- az.out];rfl
 have ct:Hid (CS[22]? =some (.slice x.boxesA x.boxes.length x.boxesC)):=by show _=_;rw [<- az.out];rfl
 refine Cv (S:=(fun w'=>Blk w' w.heap.size 52 CS)) 16 (by kernel_rfl) ?_;replace ai:Blk w0.drew w.heap.size 52 CS:=ai.drew;replace cc:=cc.drew;replace bs:=bs.drew;replace bq:=OpL.frame bq ((Fr.refl Non w0).drew);refine tkM 0 1 ai (h:=?_);refine Gd (i:=1) (v:=?_) rfl (by kernel_rfl) (by kernel_rfl) (by kernel_rfl) (by kernel_rfl) (fun _ _ _ h=>h) (Or.inl ⟨by kernel_rfl,?_⟩) ai ?_;rotate_left
 focus (intro w' ab;have hB:=ab;have q:w'.cell? ⟨w.heap.size,4,none⟩=some _:=(hB.cell 4).trans e4.out;(try dsimp only at ab);go_simp;(try with_reducible rfl))
 simp only [zl];refine tkM 3 1 ai (h:=?_);refine Gd (i:=4) (v:=?_) rfl (by kernel_rfl) (by kernel_rfl) (by kernel_rfl) (by kernel_rfl) (fun _ _ _ h=>h) (Or.inl ⟨by kernel_rfl,?_⟩) ai ?_;rotate_left
 focus (intro w' ab;have hB:=ab;have q:w'.cell? ⟨w.heap.size,14,none⟩=some _:=(hB.cell 14).trans cy.out;(try dsimp only at ab);go_simp;(try with_reducible rfl))
 simp only [zl];refine tkM 6 1 ai (h:=?_);refine Gd (i:=7) (v:=?_) rfl (by kernel_rfl) (by kernel_rfl) (by kernel_rfl) (by kernel_rfl) (fun _ _ _ h=>h) (Or.inl ⟨by kernel_rfl,?_⟩) ai ?_;rotate_left
 focus (intro w' ab;have hB:=ab;have q:w'.cell? ⟨w.heap.size,15,none⟩=some _:=(hB.cell 15).trans da.out;(try dsimp only at ab);go_simp;(try with_reducible rfl))
 simp only [zl];refine tkM 9 1 ai (h:=?_);refine Gd (i:=10) (v:=?_) rfl (by kernel_rfl) (by kernel_rfl) (by kernel_rfl) (by kernel_rfl) (fun _ _ _ h=>h) (Or.inl ⟨by kernel_rfl,?_⟩) ai ?_;rotate_left
 focus (intro w' ab;have hB:=ab;have q:w'.cell? ⟨w.heap.size,19,none⟩=some _:=(hB.cell 19).trans ck.out;(try dsimp only at ab);go_simp;(try with_reducible rfl))
 simp only [zl];refine tkM 12 1 ai (h:=?_);refine Gd (i:=13) (v:=?_) rfl (by kernel_rfl) (by kernel_rfl) (by kernel_rfl) (by kernel_rfl) (fun _ _ _ h=>h) (Or.inl ⟨by kernel_rfl,?_⟩) ai ?_;rotate_left
 focus (intro w' ab;have hB:=ab;have q:w'.cell? ⟨w.heap.size,22,none⟩=some _:=(hB.cell 22).trans ct.out;(try dsimp only at ab);go_simp;(try with_reducible rfl))
 simp only [zl];refine Bo 2 (by kernel_rfl) rfl (fun K hK=> ?_);go_simp;go_wp2_with (go_at_call 86;(with_reducible refine (Nu _ _ _ _ _ _ bq.past.rd (Id.cells_one _) (by omega)).mono ?_);rintro _ w1 ⟨A1,c1,rfl,o1,f1⟩;have dc:=ai.fr f1 zq;have dx:=cc.fr f1 zq;have c9:=OpL.frame bq f1;have dr:=bs.trans f1 zr;have er:=f1.size);refine hK.out _ _ dc (fun uu=> ?_);clear hK K;try simp only [Am,zl]
 refine tkM 15 1 uu (h:=?_);clear uu;refine Bo 5 (by kernel_rfl) rfl (fun K hK=> ?_);go_simp;go_wp2_with (go_at_call 128;(with_reducible refine (Su _ _ _ _ _ _ c9.body.rd (Km Bv (fun _=>rfl) _) (by omega)).mono ?_);rintro _ w2 ⟨A2,c2,rfl,o2,f2⟩;have cg:=dc.fr f2 zq;have du:=dx.fr f2 zq;have cv:=OpL.frame c9 f2;have bi:=dr.trans f2 zr;have ea:=f2.size);refine hK.out _ _ cg (fun hZ=> ?_);clear hZ hK K;try simp only [Am,zl]
 refine Bo 8 (by kernel_rfl) rfl (fun K hK=> ?_);go_simp;go_wp2_with (go_at_call 129;(with_reducible refine (Af7 _ _ _ _ _ _ cv.refs.rd (Km Uv (fun _=>rfl) _) (by omega)).mono ?_);rintro _ w3 ⟨A3,c3,rfl,o3,f3⟩;have co:=cg.fr f3 zq;have dn:=du.fr f3 zq;have ce:=OpL.frame cv f3;have ds:=bi.trans f3 zr;have ek:=f3.size);refine hK.out _ _ co (fun hZ=> ?_);clear hZ hK K;try simp only [Am,zl]
 refine Bo 11 (by kernel_rfl) rfl (fun K hK=> ?_);go_simp;go_wp2_with (go_at_call 130;(with_reducible refine (Af8 _ _ _ _ _ _ ce.guards.rd (Km Iv (fun _=>rfl) _) (by omega)).mono ?_);rintro _ w4 ⟨A4,c4,rfl,o4,f4⟩;have cp:=co.fr f4 zq;have dh:=dn.fr f4 zq;have c0:=OpL.frame ce f4;have dq:=ds.trans f4 zr;have d2:=f4.size);refine hK.out _ _ cp (fun hZ=> ?_);clear hZ hK K;try simp only [Am,zl]
 refine Bo 14 (by kernel_rfl) rfl (fun K hK=> ?_);go_simp;go_wp2_with (go_at_call 131;(with_reducible refine (Sv _ _ _ _ _ _ c0.boxes.rd (Sy _) (by omega)).mono ?_);rintro _ w5 ⟨A5,c5,rfl,o5,f5⟩;have aj:=cp.fr f5 zq;have dz:=dh.fr f5 zq;have ed:=OpL.frame c0 f5;have ci:=dq.trans f5 zr;have eg:=f5.size);refine hK.out _ _ aj (fun hZ=> ?_);clear hZ hK K;try simp only [Am,zl]
 refine Cp (by kernel_rfl) ?_;have k4:cS w5 w.heap.size 4 x.pastA x.past.length x.pastC:=(aj.cell 4).trans e4.out;have z4:=aj.frozen 4;have el:cS w5 w.heap.size 14 x.bodyA x.body.length x.bodyC:=(aj.cell 14).trans cy.out;have em:=aj.frozen 14;have d5:cS w5 w.heap.size 15 x.refsA x.refs.length x.refsC:=(aj.cell 15).trans da.out;have d7:=aj.frozen 15;have en:cS w5 w.heap.size 19 x.guardsA x.guards.length x.guardsC:=(aj.cell 19).trans ck.out;have d3:=aj.frozen 19;have ej:cS w5 w.heap.size 22 x.boxesA x.boxes.length x.boxesC:=(aj.cell 22).trans ct.out;have es:=aj.frozen 22;refine stT 16 (h:=?_);refine stT 17 (h:=?_);refine stT 18 (h:=?_);refine stT 19 (h:=?_);refine stT 20 (h:=?_);refine stT 21 (h:=?_);refine stT 22 (h:=?_);refine stT 23 (h:=?_);refine stT 24 (h:=?_);refine oD ?_;go_simp;obtain ⟨bm,ar⟩:=Ab ({x with pastA:=A1,pastC:=c1,bodyA:=A2,bodyC:=c2,refsA:=A3,refsC:=c3,guardsA:=A4,guardsC:=c4,boxesA:=A5,boxesC:=c5}:OpL).cells
 have ay:Blk (((((w5.setCell ⟨w.heap.size,4,none⟩ (.slice A1 x.past.length c1)).setCell ⟨w.heap.size,14,none⟩ (.slice A2 x.body.length c2)).setCell ⟨w.heap.size,15,none⟩ (.slice A3 x.refs.length c3)).setCell ⟨w.heap.size,19,none⟩ (.slice A4 x.guards.length c4)).setCell ⟨w.heap.size,22,none⟩ (.slice A5 x.boxes.length c5)) w.heap.size 52 bm:=by
  rw [<- ar.out];rw [<- az.out] at aj;exact ((((aj.set 4 _).set 14 _).set 15 _).set 19 _).set 22 _
 have au:Fr (One w.heap.size) w5 (((((w5.setCell ⟨w.heap.size,4,none⟩ (.slice A1 x.past.length c1)).setCell ⟨w.heap.size,14,none⟩ (.slice A2 x.body.length c2)).setCell ⟨w.heap.size,15,none⟩ (.slice A3 x.refs.length c3)).setCell ⟨w.heap.size,19,none⟩ (.slice A4 x.guards.length c4)).setCell ⟨w.heap.size,22,none⟩ (.slice A5 x.boxes.length c5)):=(((((Fr.refl (One w.heap.size) w5).setCell (p:=⟨w.heap.size,4,none⟩) (fun _=>rfl) _).setCell (p:=⟨w.heap.size,14,none⟩) (fun _=>rfl) _).setCell (p:=⟨w.heap.size,15,none⟩) (fun _=>rfl) _).setCell (p:=⟨w.heap.size,19,none⟩) (fun _=>rfl) _).setCell (p:=⟨w.heap.size,22,none⟩) (fun _=>rfl) _;have sd:w0.drew.heap.size=w.heap.size+2:=dv;have eb:w.heap.size+2<=(((((w5.setCell ⟨w.heap.size,4,none⟩ (.slice A1 x.past.length c1)).setCell ⟨w.heap.size,14,none⟩ (.slice A2 x.body.length c2)).setCell ⟨w.heap.size,15,none⟩ (.slice A3 x.refs.length c3)).setCell ⟨w.heap.size,19,none⟩ (.slice A4 x.guards.length c4)).setCell ⟨w.heap.size,22,none⟩ (.slice A5 x.boxes.length c5)).heap.size:=by have h1:=au.size;omega
 have cd:=dz.fr au (fun e=>by have e':w.heap.size+1=w.heap.size:=e;omega);have ap:x.at (((((w5.setCell ⟨w.heap.size,4,none⟩ (.slice A1 x.past.length c1)).setCell ⟨w.heap.size,14,none⟩ (.slice A2 x.body.length c2)).setCell ⟨w.heap.size,15,none⟩ (.slice A3 x.refs.length c3)).setCell ⟨w.heap.size,19,none⟩ (.slice A4 x.guards.length c4)).setCell ⟨w.heap.size,22,none⟩ (.slice A5 x.boxes.length c5)) w.heap.size:=(hat.fr ci zr).fr au (fun j hj e=>by have e':j=w.heap.size:=e;omega);have bp:Fr Non w (((((w5.setCell ⟨w.heap.size,4,none⟩ (.slice A1 x.past.length c1)).setCell ⟨w.heap.size,14,none⟩ (.slice A2 x.body.length c2)).setCell ⟨w.heap.size,15,none⟩ (.slice A3 x.refs.length c3)).setCell ⟨w.heap.size,19,none⟩ (.slice A4 x.guards.length c4)).setCell ⟨w.heap.size,22,none⟩ (.slice A5 x.boxes.length c5)):=ci.trans au (fun j hj e=>by have e':j=w.heap.size:=e;omega);have p1:=((o1.fr (((f2.trans f3 zr).trans f4 zr).trans f5 zr) zr).lower (base':=w.heap.size+2) (by omega)).fr au (fun j hj e=>by have h1:=(o1.row j hj).1;have e':j=w.heap.size:=e;omega);have p2:=((o2.fr ((f3.trans f4 zr).trans f5 zr) zr).lower (base':=w.heap.size+2) (by omega)).fr au (fun j hj e=>by have h1:=(o2.row j hj).1;have e':j=w.heap.size:=e;omega);have p3:=((o3.fr (f4.trans f5 zr) zr).lower (base':=w.heap.size+2) (by omega)).fr au (fun j hj e=>by have h1:=(o3.row j hj).1;have e':j=w.heap.size:=e;omega);have p4:=((o4.fr (f5) zr).lower (base':=w.heap.size+2) (by omega)).fr au (fun j hj e=>by have h1:=(o4.row j hj).1;have e':j=w.heap.size:=e;omega);have p5:=(o5.lower (base':=w.heap.size+2) (by omega)).fr au (fun j hj e=>by have h1:=(o5.row j hj).1;have e':j=w.heap.size:=e;omega);clear az ai dc cg co cp aj cc dx du dn dh dz bs dr bi ds dq ci bq c9 cv ce c0 ed f1 f2 f3 f4 f5 au o1 o2 o3 o4 o5 e4 cy da ck ct k4 el d5 en ej z4 em d7 d3 es er ea ek d2 eg sd dv;generalize (((((w5.setCell ⟨w.heap.size,4,none⟩ (.slice A1 x.past.length c1)).setCell ⟨w.heap.size,14,none⟩ (.slice A2 x.body.length c2)).setCell ⟨w.heap.size,15,none⟩ (.slice A3 x.refs.length c3)).setCell ⟨w.heap.size,19,none⟩ (.slice A4 x.guards.length c4)).setCell ⟨w.heap.size,22,none⟩ (.slice A5 x.boxes.length c5))=w6 at*;clear w5 w4 w3 w2 w1 w0;have e9:Hid (bm[9]? =some (.slice x.pathA x.path.length x.pathC)):=by show _=_;rw [<- ar.out];rfl
 have bj:Hid (bm[24]? =some (.slice x.histA x.hist.length x.histC)):=by show _=_;rw [<- ar.out];rfl
 go_wp2_with fail;refine Cv (S:=(fun w'=>Blk w' w.heap.size 52 bm)) 7 (by kernel_rfl) ?_;replace ay:Blk w6.drew w.heap.size 52 bm:=ay.drew;replace cd:=cd.drew;replace bp:=bp.drew;replace ap:=ap.fr ((Fr.refl Non w6).drew) zr;have ev:w.heap.size<=w6.drew.heap.size:=bp.size;have d9:w.heap.size+2<=w6.drew.heap.size:=by have h1:=eb;exact h1
 replace p1:=p1.drew;replace p2:=p2.drew;replace p3:=p3.drew;replace p4:=p4.drew;replace p5:=p5.drew;refine tkM 0 1 ay (h:=?_);refine Gd (i:=1) (v:=?_) rfl (by kernel_rfl) (by kernel_rfl) (by kernel_rfl) (by kernel_rfl) (fun _ _ _ h=>h) (Or.inl ⟨by kernel_rfl,?_⟩) ay ?_;rotate_left
 focus (intro w' ab;have hB:=ab;have q:w'.cell? ⟨w.heap.size,9,none⟩=some _:=(hB.cell 9).trans e9.out;(try dsimp only at ab);go_simp;(try with_reducible rfl))
 simp only [zl];refine tkM 3 1 ay (h:=?_);refine Gd (i:=4) (v:=?_) rfl (by kernel_rfl) (by kernel_rfl) (by kernel_rfl) (by kernel_rfl) (fun _ _ _ h=>h) (Or.inl ⟨by kernel_rfl,?_⟩) ay ?_;rotate_left
 focus (intro w' ab;have hB:=ab;have q:w'.cell? ⟨w.heap.size,24,none⟩=some _:=(hB.cell 24).trans bj.out;(try dsimp only at ab);go_simp;(try with_reducible rfl))
 simp only [zl];refine Bo 2 (by kernel_rfl) rfl (fun K hK=> ?_);go_simp;go_wp2_with (go_at_call 132;(with_reducible refine (Af9 _ _ _ _ _ _ ap.path.rd (Ag6 _) (by omega)).mono ?_);rintro _ w7 ⟨A7,c7,rfl,o7,f7⟩;have cw:=ay.fr f7 zq;have dj:=cd.fr f7 zq;have a7:=ap.fr f7 zr;have dy:=bp.trans f7 zr;have ew:=f7.size);refine hK.out _ _ cw (fun uu=> ?_);clear hK K;try simp only [Am,zl]
 refine tkM 6 1 uu (h:=?_);clear uu;refine Bo 5 (by kernel_rfl) rfl (fun K hK=> ?_);go_simp;go_wp2_with (go_at_call 133;(with_reducible refine (Ag0 _ _ _ _ _ _ a7.hist.rd (Ag7 _) (by omega)).mono ?_);rintro _ w8 ⟨A8,c8,rfl,o8,f8⟩;have a0:=cw.fr f8 zq;have dt:=dj.fr f8 zq;have bo:=a7.fr f8 zr;have dk:=dy.trans f8 zr;have eu:=f8.size);refine hK.out _ _ a0 (fun hZ=> ?_);clear hZ hK K;try simp only [Am,zl]
 refine Cp (by kernel_rfl) ?_;have k9:cS w8 w.heap.size 9 x.pathA x.path.length x.pathC:=(a0.cell 9).trans e9.out;have z9:=a0.frozen 9;have db:cS w8 w.heap.size 24 x.histA x.hist.length x.histC:=(a0.cell 24).trans bj.out;have d4:=a0.frozen 24;refine stT 7 (h:=?_);refine stT 8 (h:=?_);refine stT 9 (h:=?_);refine oD ?_;go_simp;obtain ⟨b9,ax⟩:=Ab ({x with pastA:=A1,pastC:=c1,bodyA:=A2,bodyC:=c2,refsA:=A3,refsC:=c3,guardsA:=A4,guardsC:=c4,boxesA:=A5,boxesC:=c5,pathA:=A7,pathC:=c7,histA:=A8,histC:=c8}:OpL).cells
 have cx:Blk ((w8.setCell ⟨w.heap.size,9,none⟩ (.slice A7 x.path.length c7)).setCell ⟨w.heap.size,24,none⟩ (.slice A8 x.hist.length c8)) w.heap.size 52 b9:=by
  rw [<- ax.out];rw [<- ar.out] at a0;exact (a0.set 9 _).set 24 _
 have ak:Fr (One w.heap.size) w8 ((w8.setCell ⟨w.heap.size,9,none⟩ (.slice A7 x.path.length c7)).setCell ⟨w.heap.size,24,none⟩ (.slice A8 x.hist.length c8)):=((Fr.refl (One w.heap.size) w8).setCell (p:=⟨w.heap.size,9,none⟩) (fun _=>rfl) _).setCell (p:=⟨w.heap.size,24,none⟩) (fun _=>rfl) _;have di:=dt.fr ak (fun e=>by have e':w.heap.size+1=w.heap.size:=e;omega);have a5:x.at ((w8.setCell ⟨w.heap.size,9,none⟩ (.slice A7 x.path.length c7)).setCell ⟨w.heap.size,24,none⟩ (.slice A8 x.hist.length c8)) w.heap.size:=bo.fr ak (fun j hj e=>by have e':j=w.heap.size:=e;omega);have dw:Fr Non w ((w8.setCell ⟨w.heap.size,9,none⟩ (.slice A7 x.path.length c7)).setCell ⟨w.heap.size,24,none⟩ (.slice A8 x.hist.length c8)):=dk.trans ak (fun j hj e=>by have e':j=w.heap.size:=e;omega);have bh:=f7.trans f8 zr;have et:w8.heap.size<=((w8.setCell ⟨w.heap.size,9,none⟩ (.slice A7 x.path.length c7)).setCell ⟨w.heap.size,24,none⟩ (.slice A8 x.hist.length c8)).heap.size:=ak.size;have N6:w.heap.size+2<=w6.drew.heap.size:=d9;have b1:∀k,Ad A1=some k->w.heap.size+2<=k/\k<w6.drew.heap.size:=p1.row;have q1:=(p1.fr bh zr).fr ak (fun j hj e=>by have h1:=(b1 j hj).1;have e':j=w.heap.size:=e;omega);have b2:∀k,Ad A2=some k->w.heap.size+2<=k/\k<w6.drew.heap.size:=p2.row;have q2:=(p2.fr bh zr).fr ak (fun j hj e=>by have h1:=(b2 j hj).1;have e':j=w.heap.size:=e;omega);have b3:∀k,Ad A3=some k->w.heap.size+2<=k/\k<w6.drew.heap.size:=p3.row;have q3:=(p3.fr bh zr).fr ak (fun j hj e=>by have h1:=(b3 j hj).1;have e':j=w.heap.size:=e;omega);have b4:∀k,Ad A4=some k->w.heap.size+2<=k/\k<w6.drew.heap.size:=p4.row;have q4:=(p4.fr bh zr).fr ak (fun j hj e=>by have h1:=(b4 j hj).1;have e':j=w.heap.size:=e;omega);have b5:∀k,Ad A5=some k->w.heap.size+2<=k/\k<w6.drew.heap.size:=p5.row;have q5:=(p5.fr bh zr).fr ak (fun j hj e=>by have h1:=(b5 j hj).1;have e':j=w.heap.size:=e;omega);have b7:=o7.row;have b8:=o8.row;have q7:=((o7.lower (base':=w.heap.size+2) N6).fr f8 zr).fr ak (fun j hj e=>by have h1:=(b7 j hj).1;have e':j=w.heap.size:=e;omega);have q8:=(o8.lower (base':=w.heap.size+2) (by omega)).fr ak (fun j hj e=>by have h1:=(b8 j hj).1;have e':j=w.heap.size:=e;omega);clear ay cw a0 cd dj dt bp dy dk ap a7 bo f7 f8 bh ak o7 o8 p1 p2 p3 p4 p5 e9 bj k9 db z9 d4 ar;generalize ((w8.setCell ⟨w.heap.size,9,none⟩ (.slice A7 x.path.length c7)).setCell ⟨w.heap.size,24,none⟩ (.slice A8 x.hist.length c8))=w9 at*;have e9:Hid (b9[9]? =some (.slice A7 x.path.length c7)):=by show _=_;rw [<- ax.out];rfl
 have bj:Hid (b9[24]? =some (.slice A8 x.hist.length c8)):=by show _=_;rw [<- ax.out];rfl
 have k9:cS w9 w.heap.size 9 A7 x.path.length c7:=(cx.cell 9).trans e9.out;obtain ⟨np,ca⟩:=Ab x.path.length;obtain ⟨nh,cb⟩:=Ab x.hist.length;rw [ca.out] at k9 e9 bv q7;rw [cb.out] at bj br q8;go_wp2_with fail
 go_loopw [36] (fun v wr=>∃(k:Nat) (L:List NdL),v=.int .i64 (k:Int)/\k<=np/\Hid (L.map NdL.nd=x.path.map NdL.nd)/\Hid (L.drop k=x.path.drop k)/\Own wr (w.heap.size+2) 112 2 A7 np c7 (L.flatMap NdL.cells)/\Hid (∀y∈L.take k,Own wr w9.heap.size 103 4 y.A y.xs.length y.c (y.xs.flatMap Bx.cells))/\Fr (fun b=>Ad A7=some b) w9 wr) (fun v _=>np-(intOf v).toNat)
 case atStart=>exact ⟨0,x.path,rfl,by omega,rfl,rfl,q7,(fun _ h=>by simp at h),Fr.refl _ _⟩
 case round=>
  obtain ⟨k,L,rfl,hk,ad,ac,ae,aa,hf⟩:=hrel
  by_cases hlt:k<np
  ·
   obtain ⟨i1,i2,i3⟩:=ix k np
   obtain ⟨y,hy⟩:∃y,x.path[k]? =some y:=⟨_,A67 (by rw [ca.out];exact hlt)⟩;have av:L[k]? =some y:=(Nw ac.out).trans hy;have al:=A68 hy;have cf:=bd.out y al;obtain ⟨g,hA,cq,d6,af,bf,_⟩:=Own.setAt ae (j:=k*2+1) (by omega) (.int .i64 0);have a6:=(a5.nodes y al).fr hf (fun j hj e=>by have h1:=(b7 j e).1;omega);have d0:cS wr g (k*2+1) y.A y.xs.length y.c:=af _ (by rw [G7 (f:=NdL.cells) (fun _=>rfl) L k 1 y av (by omega)];rfl);have kk:cS wr w.heap.size 9 A7 np c7:=hf.cell k9 (fun e=>by have h1:w6.drew.heap.size<=w.heap.size:=(b7 _ e).1;omega);have d8:w.heap.size+2<=g:=cq;rw [hA] at kk
   have ag:∀(wv:World) (u:Value),Fr Non wr wv->cS wv g (k*2+1) y.A y.xs.length y.c/\wv.frozen? ⟨g,k*2+1,none⟩=false/\Own (wv.setCell ⟨g,k*2+1,none⟩ u) (w.heap.size+2) 112 2 A7 np c7 ((L.flatMap NdL.cells).set (k*2+1) u):=by
    intro wv u bn;obtain ⟨g2,bw,_,_,ep,be,de⟩:=Own.setAt (ae.fr bn zr) (j:=k*2+1) (by omega) u;rw [hA] at bw;have cm:g=g2:=by injection bw with e;injection e
    subst cm;exact ⟨bn.cell d0 zq,be,de⟩
   replace ag:=lh ag;replace hA:=lh hA;clear af bf;go_upto_region 6 with (fail)
   refine Cv (S:=(fun w'=>cS w' w.heap.size 9 (some ⟨g,0,none⟩) np c7/\cS w' g (k*2+1) y.A y.xs.length y.c)) 10 (by kernel_rfl) ?_;have hS:(fun w'=>cS w' w.heap.size 9 (some ⟨g,0,none⟩) np c7/\cS w' g (k*2+1) y.A y.xs.length y.c) wr.drew:=⟨kk,d0⟩;have fd:Fr Non wr wr.drew:=(Fr.refl Non wr).drew;have cr:Rd wr.drew w.heap.size 4 y.A y.xs.length (y.xs.flatMap Bx.cells):=And.left (a6.fr fd zr);refine tkM 0 9 hS (h:=?_);refine Bo 9 (by kernel_rfl) rfl (fun K hK=> ?_);go_simp;go_wp2_with (go_at_call 131;go_loud (with_reducible refine (Sv _ _ _ _ _ _ cr (Sy _) cf).mono ?_);rintro _ wv ⟨A',c',rfl,ov,fv⟩);have aw:=fd.trans fv zr;obtain ⟨d1,z1,dd⟩:=ag.out wv (.slice A' y.xs.length c') aw;refine hK.out _ _ ⟨aw.cell kk zq,d1⟩ (fun hZ=> ?_);clear hZ hK K;try simp only [Am,zl]
   refine Cp (by kernel_rfl) ?_;refine stT 10 (h:=?_);refine stT 11 (h:=?_);refine stT 12 (h:=?_);refine oD ?_;go_simp;have ex:∃y':NdL,y'={y with A:=A',c:=c'}:=⟨_,rfl⟩;obtain ⟨y',bc⟩:=ex
   have a3:Own (wv.setCell ⟨g,k*2+1,none⟩ (.slice A' y.xs.length c')) (w.heap.size+2) 112 2 A7 np c7 ((L.set k y').flatMap NdL.cells):=by
    rw [<- Ix (f:=NdL.cells) (size:=2) (fun _=>rfl) (j:=1) (by omega) (.slice A' y.xs.length c') y' L k y av (by rw [bc];rfl)];exact dd
   have fs:Fr (One g) wv (wv.setCell ⟨g,k*2+1,none⟩ (.slice A' y.xs.length c')):=(Fr.refl (One g) wv).setCell (p:=⟨g,k*2+1,none⟩) (fun _=>rfl) _;have bt:Ad A7=some g:=by rw [hA.out];rfl
   have df:=hf.size
   have ao:Hid (∀z∈(L.set k y').take (k+1),Own (wv.setCell ⟨g,k*2+1,none⟩ (.slice A' y.xs.length c')) w9.heap.size 103 4 z.A z.xs.length z.c (z.xs.flatMap Bx.cells)):=by
    intro z hz;rw [Nv L k y' av] at hz;have eo:g<w9.heap.size:=by have h1:=(b7 g bt).2;omega
    rcases List.mem_append.1 hz with hz|hz
    · exact ((aa.out z hz).fr aw zr).fr fs (fun j hj e=>by have h1:=((aa.out z hz).row j hj).1;have e':j=g:=e;omega)
    ·
     obtain rfl:=List.mem_singleton.1 hz;subst bc;exact (ov.lower df).fr fs (fun j hj e=>by have h1:=(ov.row j hj).1;have h2:wr.drew.heap.size=wr.heap.size:=rfl;have e':j=g:=e;omega)
   have bi:Fr (fun b=>Ad A7=some b) w9 (wv.setCell ⟨g,k*2+1,none⟩ (.slice A' y.xs.length c')):=(hf.trans aw (fun _ _ e=>e.elim)).trans fs (fun j hj e=>by have e':j=g:=e;subst e';exact bt);have a4:Hid ((L.set k y').map NdL.nd=x.path.map NdL.nd):=(Sw NdL.nd L k av (by rw [bc];rfl)).trans ad.out;have aq:Hid ((L.set k y').drop (k+1)=x.path.drop (k+1)):=Sx _ _ k y' ac.out;generalize wv.setCell ⟨g,k*2+1,none⟩ (.slice A' y.xs.length c')=ws at*;generalize L.set k y'=L2 at*;go_wp2_with fail;go_roundw
   case rel=>exact ⟨k+1,L2,by go_num,by omega,a4,aq,a3,ao,bi⟩
   case measure=>simp [intOf];omega
  ·
   obtain rfl:np=k:=by omega
   have a9:L.length=x.path.length:=by have h1:=congrArg List.length ad.out;rwa [A64,A64] at h1
   rw [A71 (by rw [a9,ca.out];exact A65 _)] at aa;obtain ⟨bg,c6⟩:∃u,u=wr:=⟨_,rfl⟩;subst c6;have eh:=hf.size;have bx:=cx.fr hf (fun e=>by have h1:w6.drew.heap.size<=w.heap.size:=(b7 _ e).1;omega);have cl:=di.fr hf (fun e=>by have h1:w6.drew.heap.size<=w.heap.size+1:=(b7 _ e).1;omega);have bl:=a5.fr hf (fun j hj e=>by have h1:=(b7 j e).1;omega);have cu:=dw.trans hf (fun j hj e=>by have h1:=(b7 j e).1;omega);have t1:=q1.fr hf (fun j hj e=>by have h1:=(b1 j hj).2;have h2:=(b7 j e).1;omega);have t2:=q2.fr hf (fun j hj e=>by have h1:=(b2 j hj).2;have h2:=(b7 j e).1;omega);have t3:=q3.fr hf (fun j hj e=>by have h1:=(b3 j hj).2;have h2:=(b7 j e).1;omega);have t4:=q4.fr hf (fun j hj e=>by have h1:=(b4 j hj).2;have h2:=(b7 j e).1;omega);have t5:=q5.fr hf (fun j hj e=>by have h1:=(b5 j hj).2;have h2:=(b7 j e).1;omega);have t8:=q8.fr hf (fun j hj e=>by have h1:=(b8 j hj).1;have h2:=(b7 j e).2;omega);have t7:=ae;have a2:=ad;have ah:=aa;have bk:=lh a9;clear ad aa ac ae hlt hk a9 hf cx di a5 dw q1 q2 q3 q4 q5 q7 q8 k9;obtain ⟨L7,ei⟩:∃u,u=L:=⟨_,rfl⟩;subst ei;have db:cS bg w.heap.size 24 A8 nh c8:=(bx.cell 24).trans bj.out;go_wp2_with fail
   go_loopw [55] (fun v wr=>∃(k:Nat) (L:List SlL),v=.int .i64 (k:Int)/\k<=nh/\Hid (L.map SlL.sl=x.hist.map SlL.sl)/\Hid (L.drop k=x.hist.drop k)/\Own wr (w.heap.size+2) 119 4 A8 nh c8 (L.flatMap SlL.cells)/\Hid (∀y∈L.take k,Own wr bg.heap.size 5 1 y.A y.y.length y.c (y.y.map Bv))/\Fr (fun b=>Ad A8=some b) bg wr) (fun v _=>nh-(intOf v).toNat)
   case atStart=>exact ⟨0,x.hist,rfl,by omega,rfl,rfl,t8,(fun _ h=>by simp at h),Fr.refl _ _⟩
   case round=>
    obtain ⟨k,L,rfl,hk,ad,ac,ae,aa,hf⟩:=hrel
    by_cases hlt:k<nh
    ·
     obtain ⟨i1,i2,i3⟩:=ix k nh
     obtain ⟨y,hy⟩:∃y,x.hist[k]? =some y:=⟨_,A67 (by rw [cb.out];exact hlt)⟩;have av:L[k]? =some y:=(Nw ac.out).trans hy;have al:=A68 hy;have cf:=ba.out y al;obtain ⟨g,hA,cq,d6,af,bf,_⟩:=Own.setAt ae (j:=k*4+3) (by omega) (.int .i64 0);have a6:=(bl.seals y al).fr hf (fun j hj e=>by have h1:=(b8 j e).1;omega);have d0:cS wr g (k*4+3) y.A y.y.length y.c:=af _ (by rw [G7 (f:=SlL.cells) (fun _=>rfl) L k 3 y av (by omega)];rfl);have kk:cS wr w.heap.size 24 A8 nh c8:=hf.cell db (fun e=>by have h1:w7.heap.size<=w.heap.size:=(b8 _ e).1;omega);have d8:w.heap.size+2<=g:=cq;rw [hA] at kk
     have ag:∀(wv:World) (u:Value),Fr Non wr wv->cS wv g (k*4+3) y.A y.y.length y.c/\wv.frozen? ⟨g,k*4+3,none⟩=false/\Own (wv.setCell ⟨g,k*4+3,none⟩ u) (w.heap.size+2) 119 4 A8 nh c8 ((L.flatMap SlL.cells).set (k*4+3) u):=by
      intro wv u bn;obtain ⟨g2,bw,_,_,ep,be,de⟩:=Own.setAt (ae.fr bn zr) (j:=k*4+3) (by omega) u;rw [hA] at bw;have cm:g=g2:=by injection bw with e;injection e
      subst cm;exact ⟨bn.cell d0 zq,be,de⟩
     replace ag:=lh ag;replace hA:=lh hA;clear af bf;go_upto_region 11 with (fail)
     refine Cv (S:=(fun w'=>cS w' w.heap.size 24 (some ⟨g,0,none⟩) nh c8/\cS w' g (k*4+3) y.A y.y.length y.c)) 10 (by kernel_rfl) ?_;have hS:(fun w'=>cS w' w.heap.size 24 (some ⟨g,0,none⟩) nh c8/\cS w' g (k*4+3) y.A y.y.length y.c) wr.drew:=⟨kk,d0⟩;have fd:Fr Non wr wr.drew:=(Fr.refl Non wr).drew;have cr:Rd wr.drew w.heap.size 1 y.A y.y.length (y.y.map Bv):=And.left (a6.fr fd zr);refine tkM 0 9 hS (h:=?_);refine Bo 9 (by kernel_rfl) rfl (fun K hK=> ?_);go_simp;go_wp2_with (go_at_call 128;go_loud (with_reducible refine (Su _ _ _ _ _ _ cr (Km Bv (fun _=>rfl) _) cf).mono ?_);rintro _ wv ⟨A',c',rfl,ov,fv⟩);have aw:=fd.trans fv zr;obtain ⟨d1,z1,dd⟩:=ag.out wv (.slice A' y.y.length c') aw;refine hK.out _ _ ⟨aw.cell kk zq,d1⟩ (fun hZ=> ?_);clear hZ hK K;try simp only [Am,zl]
     refine Cp (by kernel_rfl) ?_;refine stT 10 (h:=?_);refine stT 11 (h:=?_);refine stT 12 (h:=?_);refine oD ?_;go_simp;have ex:∃y':SlL,y'={y with A:=A',c:=c'}:=⟨_,rfl⟩;obtain ⟨y',bc⟩:=ex
     have a3:Own (wv.setCell ⟨g,k*4+3,none⟩ (.slice A' y.y.length c')) (w.heap.size+2) 119 4 A8 nh c8 ((L.set k y').flatMap SlL.cells):=by
      rw [<- Ix (f:=SlL.cells) (size:=4) (fun _=>rfl) (j:=3) (by omega) (.slice A' y.y.length c') y' L k y av (by rw [bc];rfl)];exact dd
     have fs:Fr (One g) wv (wv.setCell ⟨g,k*4+3,none⟩ (.slice A' y.y.length c')):=(Fr.refl (One g) wv).setCell (p:=⟨g,k*4+3,none⟩) (fun _=>rfl) _;have bt:Ad A8=some g:=by rw [hA.out];rfl
     have df:=hf.size
     have ao:Hid (∀z∈(L.set k y').take (k+1),Own (wv.setCell ⟨g,k*4+3,none⟩ (.slice A' y.y.length c')) bg.heap.size 5 1 z.A z.y.length z.c (z.y.map Bv)):=by
      intro z hz;rw [Nv L k y' av] at hz;have eo:g<bg.heap.size:=by have h1:=(b8 g bt).2;omega
      rcases List.mem_append.1 hz with hz|hz
      · exact ((aa.out z hz).fr aw zr).fr fs (fun j hj e=>by have h1:=((aa.out z hz).row j hj).1;have e':j=g:=e;omega)
      ·
       obtain rfl:=List.mem_singleton.1 hz;subst bc;exact (ov.lower df).fr fs (fun j hj e=>by have h1:=(ov.row j hj).1;have h2:wr.drew.heap.size=wr.heap.size:=rfl;have e':j=g:=e;omega)
     have bi:Fr (fun b=>Ad A8=some b) bg (wv.setCell ⟨g,k*4+3,none⟩ (.slice A' y.y.length c')):=(hf.trans aw (fun _ _ e=>e.elim)).trans fs (fun j hj e=>by have e':j=g:=e;subst e';exact bt);have a4:Hid ((L.set k y').map SlL.sl=x.hist.map SlL.sl):=(Sw SlL.sl L k av (by rw [bc];rfl)).trans ad.out;have aq:Hid ((L.set k y').drop (k+1)=x.hist.drop (k+1)):=Sx _ _ k y' ac.out;generalize wv.setCell ⟨g,k*4+3,none⟩ (.slice A' y.y.length c')=ws at*;generalize L.set k y'=L2 at*;go_wp2_with fail;go_roundw
     case rel=>exact ⟨k+1,L2,by go_num,by omega,a4,aq,a3,ao,bi⟩
     case measure=>simp [intOf];omega
    ·
     obtain rfl:nh=k:=by omega
     have a9:L.length=x.hist.length:=by have h1:=congrArg List.length ad.out;rwa [A64,A64] at h1
     rw [A71 (by rw [a9,cb.out];exact A65 _)] at aa;obtain ⟨a8,cz⟩:∃u,u=wr:=⟨_,rfl⟩;subst cz;have ch:=bx.fr hf (fun e=>by have h1:w7.heap.size<=w.heap.size:=(b8 _ e).1;omega);have bb:=cl.fr hf (fun e=>by have h1:w7.heap.size<=w.heap.size+1:=(b8 _ e).1;omega);have cj:=cu.trans hf (fun j hj e=>by have h1:=(b8 j e).1;omega);have s1:=(t1.fr hf (fun j hj e=>by have h1:=(b1 j hj).2;have h2:=(b8 j e).1;omega)).lower (base':=w.heap.size) (by omega);have s2:=(t2.fr hf (fun j hj e=>by have h1:=(b2 j hj).2;have h2:=(b8 j e).1;omega)).lower (base':=w.heap.size) (by omega);have s3:=(t3.fr hf (fun j hj e=>by have h1:=(b3 j hj).2;have h2:=(b8 j e).1;omega)).lower (base':=w.heap.size) (by omega);have s4:=(t4.fr hf (fun j hj e=>by have h1:=(b4 j hj).2;have h2:=(b8 j e).1;omega)).lower (base':=w.heap.size) (by omega);have s5:=(t5.fr hf (fun j hj e=>by have h1:=(b5 j hj).2;have h2:=(b8 j e).1;omega)).lower (base':=w.heap.size) (by omega);have s7:=(t7.fr hf (fun j hj e=>by have h1:=(b7 j hj).2;have h2:=(b8 j e).1;omega)).lower (base':=w.heap.size) (by omega);have s8:=ae.lower (base':=w.heap.size) (by omega);have ee:∀j,w9.heap.size<=j->¬(Ad A8=some j):=fun j hj e=>by have h2:=(b8 j e).2;omega
     have r7:Hid (∀y∈L7,Own a8 w.heap.size 103 4 y.A y.xs.length y.c (y.xs.flatMap Bx.cells)):=fun y hy=>((ah.out y hy).fr hf (fun j hj e=>ee j ((ah.out y hy).row j hj).1 e)).lower (by omega);have r8:Hid (∀y∈L,Own a8 w.heap.size 5 1 y.A y.y.length y.c (y.y.map Bv)):=fun y hy=>(aa.out y hy).lower (by omega);obtain ⟨v,hv⟩:∃v:OpL,v={x with pastA:=A1,pastC:=c1,bodyA:=A2,bodyC:=c2,refsA:=A3,refsC:=c3,guardsA:=A4,guardsC:=c4,boxesA:=A5,boxesC:=c5,pathA:=A7,pathC:=c7,histA:=A8,histC:=c8,path:=L7,hist:=L}:=⟨_,rfl⟩
     have dg:v.op=x.op:=by
      rw [hv];unfold OpL.op;simp only [a2.out,ad.out]
     have bz:v.own a8 w.heap.size:=by
      rw [ca.out.symm,<- bk.out] at s7;rw [cb.out.symm,<- a9] at s8;rw [hv];exact ⟨RowAt.of_own s1,RowAt.of_own s7,(fun y hy=>RowAt.of_own (r7.out y hy)),RowAt.of_own s2,RowAt.of_own s3,RowAt.of_own s4,RowAt.of_own s5,RowAt.of_own s8,(fun y hy=>RowAt.of_own (r8.out y hy))⟩
     have ec:Blk a8 w.heap.size 52 v.cells:=by
      have hc:v.cells=b9:=by
       rw [<- ax.out,hv];unfold OpL.cells;simp only [bk.out,a9]
      rw [hc];exact ch
     clear hv a2 ad r7 r8 s1 s2 s3 s4 s5 s7 s8 ah aa t1 t2 t3 t4 t5 t7 t8;have b0:=E8 v
     have ef:Hid (∀wz,Fr (One (w.heap.size+1)) a8 wz->POST (.returned (.agg v.cells)) wz):=by
      intro wz hz;exact a1.out v wz dg (bz.keepP hz (Types.one bb) (by decide) (by decide) (by decide) (by decide) (by decide) (by decide) (by decide)) (cj.trans hz (fun k hk e=>absurd hk (by have e':k=w.heap.size+1:=e;omega)))
     clear dg bz a1;have bu:True:=trivial
     go_wp2_with (first
      |(have _t:=bu;refine Jv rfl 52 (.tmp 1) rfl rfl ec underlying52 rfl hi ?_;clear bu _t)
      |(refine Io rfl 52 (.tmp 2) (.tmp 71) rfl rfl rfl rfl bb hi rfl b0 ?_;have bf:=(Fr.refl (One (w.heap.size+1)) a8).setRow (g:=w.heap.size+1) (fun _=>rfl) v.cells;have be:=bb.setRow (cs:=v.cells);generalize a8.setRow (w.heap.size+1) v.cells=wz at bf be ⊢;(repeat (first|go_values|go_skip|go_guarded|go_step));exact Ed (t:=52) rfl rfl be rfl underlying52 (by kernel_rfl) rfl (ef.out wz bf)))
end Oq
namespace Oq
attribute [local go_sem ↓] Bq Dx
attribute [local go_sem] Bool.not_false Bool.not_true
theorem Ge {P:Program} {t:TypeId} {d:TypeDesc} (cs:Array Value) (b o:Nat) (hu:P.underlying t=some d) (hd:d.isRow=true) (hi:(P.info? t).map (·.size)=some cs.size):
  ∀w',World.rangeAt w' b o cs.toList->(ldS t (.pointer (some ⟨b,o,none⟩))).run P w'=.ok (.agg cs) w':=fun w' h=>by
 have:=run_loadAt_mid (P:=P) w' b o t cs.toList d h hu hd (by rw [hi];simp);unfold ldS;rw [this]
def H5 (r:Option OpL) (w:World) (e:Ending) (w':World):Prop:=
 match r with
 |none=>e=.returned (.tuple #[.agg OpL.zero.cells,.bool false])/\Fr Non w w'
 |some x=>∃y:OpL,e=.returned (.tuple #[.agg y.cells,.bool true])/\y.op=x.op/\y.own w' w.heap.size/\Fr Non w w'
def Gph.opOf (g:Gph) (id:Id):Option OpL:=match place g.nodes id with|some i=>g.nodes[i]?.map Aj.x|none=>none
theorem Ag8 (base:Nat) (g:Gph) (id:Id) (w:World) (hg:GAt w base g) (hid:id.ok):Calls zp 27 #[.pointer (some ⟨g.gb,0,none⟩),.agg id.V] w (H5 (g.opOf id) w):=by
 have hi:(zp.info? 52).map (·.size)=some 27:=by kernel_rfl
 have f1:Fr Non w (w.alloc (.cells id.V 45)):=(Fr.refl Non w).alloc _;have f0:=f1.alloc (.cells zO 52);have af:=(Blk.new w 45 id.V).alloc (.cells zO 52);have br:=Blk.new (w.alloc (.cells id.V 45)) 52 zO;rw [A59] at br;have a0:((w.alloc (.cells id.V 45)).alloc (.cells zO 52)).heap.size=w.heap.size+2:=by rw [A59,A59]
 have ac:=hg.fr f0;generalize hw0:((w.alloc (.cells id.V 45)).alloc (.cells zO 52))=w0 at*;have i0:cI w0 w.heap.size 0 id.b:=af.cell 0;have i1:cI w0 w.heap.size 1 id.s:=af.cell 1;have i2:cU w0 w.heap.size 2 id.u:=af.cell 2;have c1:w0.cell? ⟨g.gb,1,none⟩=some (.map (some g.mb)):=ac.blk.cell 1;have c2:cS w0 g.gb 2 g.nA g.nodes.length g.nC:=ac.blk.cell 2;have aa:=ac.map;have ab:=fun (w':World) (h:MapAt w' g.mb g.mm (place g.nodes))=>MapAt.look h id hid;have ag:Hid (g.opOf id=match place g.nodes id with|some i=>g.nodes[i]?.map Aj.x|none=>none):=rfl;generalize g.opOf id=R at*
 cases hp:place g.nodes id
 ·
  have hR:R=none:=by rw [ag.out,hp]
  have ai:Hid (∀wz,Fr (One (w.heap.size+1)) w0 wz->H5 R w (.returned (.tuple #[.agg OpL.zero.cells,.bool false])) wz):=by
   intro wz hz;rw [hR];exact ⟨rfl,f0.trans hz (fun k hk e=>absurd hk (by have e':k=w.heap.size+1:=e;omega))⟩
  clear hR ag;generalize H5 R w=POST at*;rw [hp] at ab;clear hg ac af hp;go_enter func27,ntmps27;go_wp2_with fail;clear hw0;refine wp_region_held_drew (S:=(fun w'=>cI w' w.heap.size 0 id.b/\cI w' w.heap.size 1 id.s/\cU w' w.heap.size 2 id.u/\w'.cell? ⟨g.gb,1,none⟩=some (.map (some g.mb))/\MapAt w' g.mb g.mm (place g.nodes))) (by kernel_rfl) ⟨i0,i1,i2,c1,aa⟩ (fun hS=> ?_);replace f0:=f0.drew;replace br:=br.drew;refine tkN 0 11 hS (h:=?_);refine oD ?_;go_simp;have fz:=((Fr.refl (One (w.heap.size+1)) w0).drew).setRow (g:=w.heap.size+1) (fun _=>rfl) zO;have ah:=br.setRow (cs:=zO);have a2:=Cf (P:=zp) (t:=52) (old:=zO) (cs:=zO) (w.heap.size+1) 52 hi rfl (E8 OpL.zero);go_wp2_with fail
  (try simp only [Exit.inBlock,Exit.then])
  refine Fm (t:=52) rfl rfl ah rfl underlying52 (by kernel_rfl) rfl ?_;exact ai.out _ fz
 ·
  rename_i i;obtain ⟨n,hn,_⟩:=Ip hp;have hR:R=some n.x:=by rw [ag.out,hp];simp [hn]
  have ar:=hg.few;have ay:i<g.nodes.length:=(List.getElem?_eq_some_iff.1 hn).1;have al:=(ac.node n (A68 hn)).at_;have ap:=(ac.node n (A68 hn)).ok;obtain ⟨b,ao,hA,au,hc⟩:=ac.cell hn
  have a1:World.rangeAt w0.drew b (ao+i*35) n.x.cells.toList:=by
   intro j v hv;have hj:j<27:=(List.getElem?_eq_some_iff.1 hv).1;exact hc j (by omega) v (by unfold Aj.cells;rw [A77 (by show j<27;exact hj)];exact hv)
  have az:=Ge (P:=zp) n.x.cells b (ao+i*35) underlying52 rfl hi;rw [hA] at c2;obtain ⟨j1,j2,j3⟩:=ix i g.nodes.length
  have j4:=iw (i:Int);rw [hp] at ab
  have ai:Hid (∀(y:OpL) wz,y.op=n.x.op->y.own wz w.heap.size->Fr Non w wz->H5 R w (.returned (.tuple #[.agg y.cells,.bool true])) wz):=by
   intro y wz h1 h2 h3;rw [hR];exact ⟨y,rfl,h1,h2,h3⟩
  clear hR ag hg ac af hp hn ay hc hA au;generalize H5 R w=POST at*;generalize g.nodes.length=nn at*;generalize n.x=x at*;have kc:=lh (fun w' (h:x.at w' w'.heap.size)=>Sz x w' h ap);obtain ⟨CX,ax⟩:=Ab x.cells;rw [ax.out] at a1 az kc;go_enter func27,ntmps27;go_wp2_with fail;clear hw0;have aq:=c2;refine wp_region_held_drew (S:=(fun w'=>cI w' w.heap.size 0 id.b/\cI w' w.heap.size 1 id.s/\cU w' w.heap.size 2 id.u/\w'.cell? ⟨g.gb,1,none⟩=some (.map (some g.mb))/\MapAt w' g.mb g.mm (place g.nodes))) (by kernel_rfl) ⟨i0,i1,i2,c1,aa⟩ (fun hS=> ?_);replace f0:=f0.drew;replace br:=br.drew;refine tkN 0 11 hS (h:=?_);refine oD ?_;go_simp;replace aq:cS w0.drew g.gb 2 (some ⟨b,ao,none⟩) nn g.nC:=aq;have ad:=OpL.frame al ((Fr.refl Non w0).drew)
  go_wp2_with (first
   |(go_at_call 74;(with_reducible refine (kc.out _ ad).mono ?_);rintro _ w1 ⟨y,rfl,av,aj,fy⟩;have ak:=br.fr fy zq;have ae:=E8 y;have aw:=f0.trans fy zr;have a3:w0.drew.heap.size=w.heap.size+2:=a0)
   |(refine Io rfl 52 (.tmp 4) (.tmp 28) rfl rfl rfl rfl ak hi rfl ae ?_;have fz:=((Fr.refl (One (w.heap.size+1)) w1)).setRow (g:=w.heap.size+1) (fun _=>rfl) y.cells;have ah:=ak.setRow (cs:=y.cells);generalize w1.setRow (w.heap.size+1) y.cells=wz at fz ah ⊢))
  (try simp only [Exit.inBlock,Exit.then])
  refine Fm (t:=52) rfl rfl ah rfl underlying52 (by kernel_rfl) rfl ?_;exact ai.out y _ av ((aj.keep fz ((Types.one ak).mono (fun t e=> .inl e))).lower (by omega)) (aw.trans fz (fun k hk e=>absurd hk (by have e':k=w.heap.size+1:=e;omega)))
end Oq
namespace Oq
attribute [local go_sem ↓] Bq Dx
def S0:Prop:=∀(base gv:Nat) (A:Option Addr) (c:Nat) (l:List Id) (p:Id->Bool) (w:World),Own w base 45 3 A l.length c (l.flatMap Id.cells)->l.length<=1000000->
 (∀x∈l,∀w':World,Fr (fun k=>Ad A=some k) w w'->Calls zp 87 #[.agg x.V,.pointer (some ⟨gv,0,none⟩)] w' (Ae (p x) w'))->
 Calls zp 85 #[.slice A l.length c,.func (.func 87) #[] #[.pointer (some ⟨gv,0,none⟩)]] w fun e w'=>
  ∃ys:List Id,ys=l.filter (fun x=> !p x)/\e=.returned (.slice A ys.length c)/\Rd w' w'.heap.size 3 A ys.length (ys.flatMap Id.cells)/\Fr (fun k=>Ad A=some k) w w'
def H6 (l:List Id) (w:World) (e:Ending) (w':World):Prop:=∃A c,e=.returned (.slice A l.length c)/\Rd w' w'.heap.size 3 A l.length (l.flatMap Id.cells)/\Fr Non w w'
theorem Ko (base:Nat) (g:Gph) (x:OpL) (w:World) (hdel:S0) (hg:GAt w base g) (hat:x.at w w.heap.size) (hok:∀id∈x.past,id.ok) (hn:x.past.length<=1000000):
  Calls zp 42 #[.pointer (some ⟨g.gb,0,none⟩),.agg x.cells] w (H6 (x.past.filter (fun id=> !(place g.nodes id).isSome)) w):=by
 have e4:Hid (x.cells[4]? =some (.slice x.pastA x.past.length x.pastC)):=rfl;obtain ⟨CS,hCS⟩:=Ab x.cells;have f0:Fr Non w ((w.alloc (.cells #[.pointer (some ⟨g.gb,0,none⟩)] 67)).alloc (.cells CS 52)):=((Fr.refl Non w).alloc _).alloc _;have bg:=(Blk.new w 67 #[.pointer (some ⟨g.gb,0,none⟩)]).alloc (.cells CS 52);have bx:=Blk.new (w.alloc (.cells #[.pointer (some ⟨g.gb,0,none⟩)] 67)) 52 CS;rw [A59] at bx;rw [hCS.out] at e4 ⊢
 have hfin:Hid (∀(ys:List Id) A c w',ys=x.past.filter (fun id=> !(place g.nodes id).isSome)->Rd w' w'.heap.size 3 A ys.length (ys.flatMap Id.cells)->Fr Non w w'->H6 (x.past.filter (fun id=> !(place g.nodes id).isSome)) w (.returned (.slice A ys.length c)) w'):=by
  intro ys A c w' h1 h2 h3;subst h1;exact ⟨A,c,rfl,h2,h3⟩
 generalize H6 (x.past.filter (fun id=> !(place g.nodes id).isSome)) w=POST at*;go_enter func42,ntmps42;go_upto_region 1 with (fail)
 generalize (w.alloc (.cells #[.pointer (some ⟨g.gb,0,none⟩)] 67)).alloc (.cells CS 52)=w0 at*;have c4:cS w0 (w.heap.size+1) 4 x.pastA x.past.length x.pastC:=(bx.cell 4).trans e4.out;have kc:=lh (Nu _ _ x.pastC _ _ w0 (OpL.frame hat f0).past.rd (Id.cells_one _) hn);go_wp2_with fail;refine (kc.out).mono ?_;rintro _ w1 ⟨A1,c1,rfl,o1,f1⟩;have sz0:=f0.size;have f01:=f0.trans f1 zr;have bg1:=bg.fr f1 zq;have hrow:=o1.row
 have kd:=lh (hdel w0.heap.size w.heap.size A1 c1 x.past (fun id=>(place g.nodes id).isSome) w1 o1 hn (fun id hid w' hf=>by
  have hf':Fr Non w w':=f01.trans hf (fun j hj e=>by have h1:=(hrow j e).1;omega);refine (Af3 base g w.heap.size id w' (hg.fr hf') ?_ (hok id hid));exact (bg1.fr hf (fun e=>by have h1:=(hrow _ e).1;have h2:=bg.lt;omega)).cell 0))
 have hff:Hid (∀w',Fr (fun k=>Ad A1=some k) w1 w'->Fr Non w w'):=fun w' hf=>f01.trans hf (fun j hj e=>by have h1:=(hrow j e).1;omega);clear kc hdel hg hat hok bg bx bg1 o1 f1 f0 f01;go_wp2_with fail;refine (kd.out).mono ?_;rintro _ w2 ⟨ys,hys,rfl,hrd,hf2⟩;have fin:=lh (hfin.out ys A1 c1 w2 hys hrd (hff.out w2 hf2));clear hfin hff kd hys hrd hf2;go_wp2_with fail;exact fin.out
end Oq
theorem S1 {P:Program} (w:World) (t e ty:TypeId) (z:Value) (ht:P.underlying t=some (.slice e)) (hv:∀w,(zeroValue e).run P w=.ok z w) (b o n c:Nat) (hn:0<n)
  (hc:∀j,j<(Builtin.zeroCells z.cells n).toList.length->(w.cell? ⟨b,o+j,none⟩).isSome=true) (hf:∀j,j<(Builtin.zeroCells z.cells n).toList.length->w.frozen? ⟨b,o+j,none⟩=false)
  (h1:∀v∈(Builtin.zeroCells z.cells n).toList,v.oneCell'=true):
  (Builtin.clear_ #[t] ty #[.slice (some ⟨b,o,none⟩) n c]).run P w=.ok (.tuple #[]) (w.setCells b o (Builtin.zeroCells z.cells n).toList):=by
 have hst:=run_storeCells_cells (P:=P) b o (Builtin.zeroCells z.cells n).toList 0 w (by simpa using hc) (by simpa using hf) h1;simp only [Nat.add_zero] at hst;obtain ⟨m,rfl⟩:∃m,n=m+1:=⟨n-1,by omega⟩;simp [Builtin.clear_,run_underlying ht,hv,hst]
theorem Kp (g:Nat):∀(vs:List Value) (o:Nat) (w:World),Fr (One g) w (w.setCells g o vs)
 |[],_,_=>Fr.refl _ _
 |v::vs,o,w=>((Fr.refl (One g) w).setCell (p:=⟨g,o,none⟩) (fun _=>rfl) v).trans (Kp g vs (o+1) _) zr
namespace Oq
theorem S2 {α:Type} (l:List α) (p:α->Bool) (h:l.any p=false):l.filter (fun x=> !p x)=l:=by
 rw [List.filter_eq_self];intro x hx;rw [List.any_eq_false] at h;simpa using h x hx
theorem S3 {α:Type} (l:List α) (p:α->Bool) {k:Nat} {x:α} (h:l[k]? =some x):(l.take (k+1)).filter p=(l.take k).filter p++(if p x then [x] else []):=by
 obtain ⟨hk,rfl⟩:=List.getElem?_eq_some_iff.1 h;rw [A76 hk,List.filter_append];congr 1
 cases hp:p l[k]<;>simp [hp]
theorem Own.putId {w:World} {base n c g:Nat} {l:List Id} (h:Own w base 45 3 (some ⟨g,0,none⟩) n c (l.flatMap Id.cells)) {i:Nat} {y:Id} (hy:l[i]? =some y) (hi:i<n) (x:Id):
  (∀j,j<3->(w.cell? ⟨g,i*3+j,none⟩).isSome=true/\w.frozen? ⟨g,i*3+j,none⟩=false)/\
  Own (((w.setCell ⟨g,i*3,none⟩ (.int .i64 x.b)).setCell ⟨g,i*3+1,none⟩ (.int .i64 x.s)).setCell ⟨g,i*3+2,none⟩ (.int .u64 (x.u:Int))) base 45 3 (some ⟨g,0,none⟩) n c ((l.set i x).flatMap Id.cells):=by
 constructor
 ·
  intro j hj;obtain ⟨g2,hA,_,_,hc,hz,_⟩:=Own.setAt h (j:=i*3+j) (by omega) (.int .i64 0);have hgg:g=g2:=by injection hA with e;injection e
  subst hgg;have hl:(l.flatMap Id.cells)[i*3+j]? =y.cells[j]? :=G7 (f:=Id.cells) (fun _=>rfl) l i j y hy hj;have hyj:∃v,y.cells[j]? =some v:=⟨_,A67 (by show j<3;exact hj)⟩;obtain ⟨v,hv⟩:=hyj;exact ⟨by rw [hc v (hl.trans hv)];rfl,hz⟩
 ·
  have step:∀(w:World) (xs:List Value) (j:Nat) (u:Value),Own w base 45 3 (some ⟨g,0,none⟩) n c xs->j<n*3->Own (w.setCell ⟨g,j,none⟩ u) base 45 3 (some ⟨g,0,none⟩) n c (xs.set j u):=by
   intro w xs j u h hj;obtain ⟨g2,hA,_,_,_,_,ho⟩:=Own.setAt h (j:=j) hj u;have hgg:g=g2:=by injection hA with e;injection e
   subst hgg;exact ho
  have h1:=step _ _ (i*3) (.int .i64 x.b) h (by omega);have h2:=step _ _ (i*3+1) (.int .i64 x.s) h1 (by omega);have h3:=step _ _ (i*3+2) (.int .u64 (x.u:Int)) h2 (by omega);have e1:(l.flatMap Id.cells).set (i*3) (.int .i64 x.b)=(l.set i ⟨x.b,y.s,y.u⟩).flatMap Id.cells:=Ix (f:=Id.cells) (size:=3) (fun _=>rfl) (j:=0) (by omega) _ _ l i y hy rfl
  have hi1:(l.set i ⟨x.b,y.s,y.u⟩)[i]? =some ⟨x.b,y.s,y.u⟩:=by
   rw [A78 (List.getElem?_eq_some_iff.1 hy).1]
  have e2:((l.set i ⟨x.b,y.s,y.u⟩).flatMap Id.cells).set (i*3+1) (.int .i64 x.s)=(l.set i ⟨x.b,x.s,y.u⟩).flatMap Id.cells:=by
   have:=Ix (f:=Id.cells) (size:=3) (fun _=>rfl) (j:=1) (by omega) (.int .i64 x.s) ⟨x.b,x.s,y.u⟩ _ i _ hi1 rfl;rwa [List.set_set] at this
  have hi2:(l.set i ⟨x.b,x.s,y.u⟩)[i]? =some ⟨x.b,x.s,y.u⟩:=by
   rw [A78 (List.getElem?_eq_some_iff.1 hy).1]
  have e3:((l.set i ⟨x.b,x.s,y.u⟩).flatMap Id.cells).set (i*3+2) (.int .u64 (x.u:Int))=(l.set i x).flatMap Id.cells:=by
   have:=Ix (f:=Id.cells) (size:=3) (fun _=>rfl) (j:=2) (by omega) (.int .u64 (x.u:Int)) x _ i _ hi2 rfl;rwa [List.set_set] at this
  rw [e1,e2,e3] at h3;exact h3
theorem S4 (n:Nat):(Builtin.zeroCells (Value.agg #[.int .i64 0,.int .i64 0,.int .u64 0]).cells n).toList.length=n*3:=by
 simp [Builtin.zeroCells,Value.cells]
theorem Ag9 (n:Nat):∀v∈(Builtin.zeroCells (Value.agg #[.int .i64 0,.int .i64 0,.int .u64 0]).cells n).toList,v.oneCell'=true:=by
 intro v hv;unfold Builtin.zeroCells at hv;rw [Array.toList_map] at hv;obtain ⟨i,_,rfl⟩:=List.mem_map.1 hv;have h:i%3=0\/i%3=1\/i%3=2:=by omega
 show (#[Value.int .i64 0,.int .i64 0,.int .u64 0][i%3]!).oneCell'=true
 rcases h with e|e|e<;>rw [e]<;>rfl
theorem Kq:S0:=by
 intro a9 gv A c l p w aa aq ah;have a3:=lh (Af5 w.heap.size l.length c gv A l p w rfl aa.rd aq (fun x hx w' hf=>ah x hx w' (hf.mono (fun _ _ e=>e.elim))));obtain ⟨n,hn⟩:=Ab l.length;have a1:=aa.cap;have a7:=aa.row
 have af:Hid (∀(ys:List Id) (m:Nat) (w':World),m=ys.length->ys=l.filter (fun x=> !p x)->Rd w' w'.heap.size 3 A m (ys.flatMap Id.cells)->Fr (fun k=>Ad A=some k) w w'->(∃ys:List Id,ys=l.filter (fun x=> !p x)/\ze (.slice A m c)=.returned (.slice A ys.length c)/\Rd w' w'.heap.size 3 A ys.length (ys.flatMap Id.cells)/\Fr (fun k=>Ad A=some k) w w')):=by
  intro ys m w' h1 h2 h3 h4;subst h1;exact ⟨ys,h2,rfl,h3,h4⟩
 rw [hn.out] at a3 aa a1 aq ⊢;go_enter func85,ntmps85;go_wp2_with fail;refine (a3.out).mono ?_;rintro e w1 ⟨h,f1⟩;clear a3;have bg:Fr (fun k=>Ad A=some k) w w1:=f1.mono (fun _ _ e=>e.elim);replace aa:=aa.fr f1 zr
 rcases h with ⟨k,id,rfl,hk,hpk,hany⟩|⟨rfl,hany⟩
 ·
  have bs:k<n:=by rw [<- hn.out];exact (List.getElem?_eq_some_iff.1 hk).1
  obtain ⟨g,rfl⟩:∃g,A=some ⟨g,0,none⟩:=by
   rcases aa.2 with ⟨_,h0⟩|⟨g,cap,ac,hv,_⟩
   · omega
   ·
    injection hv with hA _ _
    exact ⟨g,hA⟩
  have bh:((k:Int)== -1)=false:=by rw [beq_eq_false_iff_ne];omega
  have ao:Hid (l.take k=(l.take (k+1)).filter (fun x=> !p x)):=by
   show _=_;rw [S3 l _ hk,hpk,S2 _ _ hany];simp
  clear hany hpk hk;go_wp2_with fail
  go_loopw [5,6] (fun vi vj wr=>∃(i j:Nat) (ac:List Id),vi=.int .i64 (i:Int)/\vj=.int .i64 (j:Int)/\i<j/\j<=n/\Hid (ac.take i=(l.take j).filter (fun x=> !p x))/\Hid (ac.drop j=l.drop j)/\Own wr a9 45 3 (some ⟨g,0,none⟩) n c (ac.flatMap Id.cells)/\Fr (fun k=>Ad (some ⟨g,0,none⟩)=some k) w wr) (fun _ vj _=>n-(intOf vj).toNat)
  case atStart=>exact ⟨k,k+1,l,rfl,by go_num,by omega,by omega,ao.out,rfl,aa,bg⟩
  case round=>
   obtain ⟨i,j,ac,rfl,rfl,bn,bv,ad,ag,ab,hf⟩:=hrel
   have a4:ac.length=n:=by
    have h1:=ab.len;rw [Er (f:=Id.cells) (size:=3) (fun _=>rfl)] at h1;omega
   by_cases hlt:j<n
   ·
    obtain ⟨i1,i2,i3⟩:=ix j n
    obtain ⟨m1,m2,m3⟩:=ix i n
    obtain ⟨x,hx⟩:∃x,l[j]? =some x:=⟨_,A67 (by rw [hn.out];exact hlt)⟩;obtain ⟨y,hy⟩:∃y,ac[i]? =some y:=⟨_,A67 (by rw [a4];omega)⟩;have be:ac[j]? =some x:=(Nw ag.out).trans hx;obtain ⟨b,bj,hA,bb,k0,k1,k2⟩:=Id.at ab.rd be;obtain ⟨rfl,rfl⟩:g=b/\0=bj:=by injection hA with e;injection e with e1 e2;exact ⟨e1,e2⟩
    rw [A60] at k0 k1 k2;have av:=lh (S3 l (fun x=> !p x) hx);have hc:=lh (fun w' (h:Fr (fun k=>Ad (some ⟨g,0,none⟩)=some k) w w')=>ah x (A68 hx) w' h);have bd:=lh (fun (wv:World) (hv:Fr Non wr wv)=>Own.putId (ab.fr hv zr) hy (by omega) x);have aw:=hf.alloc (.cells x.V 45);have bi:=Blk.new wr 45 x.V;have bf:Fr Non wr (wr.alloc (.cells x.V 45)):=(Fr.refl Non wr).alloc _;have bc:g<wr.heap.size:=bb;have ar:=ab;have br:=lh hx;have bl:=lh hy;have bq:i<l.length:=by rw [hn.out];omega
    clear hx hy be hA bb ab aa a7 ao a4
    have bk:=lh (show (ac.set i x).drop (j+1)=l.drop (j+1) by
     rw [A75 (by omega)];have h2:=congrArg (A72 1) ag.out;rwa [A66,A66] at h2)
    have ax:=lh (show ac.drop (j+1)=l.drop (j+1) by
     have h2:=congrArg (A72 1) ag.out;rwa [A66,A66] at h2)
    rcases zb (p x) with hp|hp
    ·
     have a5:Hid (ac.take i=(l.take (j+1)).filter (fun x=> !p x)):=by
      show _=_;rw [av.out,hp,ad.out];simp
     rw [hp] at hc;clear hp av;go_wp2_with (go_at_call 87;(with_reducible refine (hc.out _ aw).mono ?_);rintro _ w2 ⟨rfl,f2⟩);go_roundw
     case rel=>exact ⟨i,j+1,ac,rfl,by go_num,by omega,by omega,a5,ax,(ar.fr bf zr).fr f2 zr,aw.trans f2 (fun _ _ e=>e.elim)⟩
     case measure=>simp [intOf];omega
    ·
     have a5:Hid ((ac.set i x).take (i+1)=(l.take (j+1)).filter (fun x=> !p x)):=by
      show _=_;rw [av.out,hp,Nv ac i x bl.out,ad.out];simp
     rw [hp] at hc;clear hp av;go_wp2_with (go_at_call 87;(with_reducible refine (hc.out _ aw).mono ?_);rintro _ w2 ⟨rfl,f2⟩;obtain ⟨hz,ho⟩:=bd.out w2 (bf.trans f2 zr);have ay:=hz 0 (by omega);have a8:=hz 1 (by omega);have au:=hz 2 (by omega);obtain ⟨v0,y0⟩:=Option.isSome_iff_exists.1 ay.1;obtain ⟨v1,y1⟩:=Option.isSome_iff_exists.1 a8.1;obtain ⟨v2,y2⟩:=Option.isSome_iff_exists.1 au.1;have z0:=ay.2;have z1:=a8.2;have z2:=au.2;rw [Nat.add_zero] at y0 z0;clear hz ay a8 au bd;have ap:=bi.fr f2 zq;have b0:=ap.cell 0;have b1:=ap.cell 1;have b2:=ap.cell 2;replace b0:w2.cell? ⟨wr.heap.size,0,none⟩=some (.int .i64 x.b):=b0;replace b1:w2.cell? ⟨wr.heap.size,1,none⟩=some (.int .i64 x.s):=b1;replace b2:w2.cell? ⟨wr.heap.size,2,none⟩=some (.int .u64 (x.u:Int)):=b2);go_roundw
     case rel=>
      exact ⟨i+1,j+1,ac.set i x,by go_num,by go_num,by omega,by omega,a5,bk,ho,(((aw.trans f2 (fun _ _ e=>e.elim)).setCell (p:=⟨g,i*3,none⟩) (fun _=>rfl) _).setCell (p:=⟨g,i*3+1,none⟩) (fun _=>rfl) _).setCell (p:=⟨g,i*3+2,none⟩) (fun _=>rfl) _⟩
     case measure=>simp [intOf];omega
   ·
    obtain rfl:j=n:=by omega
    obtain ⟨bu,bp,bt⟩:=ix i j
    have bm:=ab.cap;have bo:(i:Int)<c:=by omega
    have bc:=ab.row g rfl
    have al:Hid (∀vs:List Value,Rd (wr.setCells g (i*3) vs) (wr.setCells g (i*3) vs).heap.size 3 (some ⟨g,0,none⟩) i ((l.filter (fun x=> !p x)).flatMap Id.cells)/\Fr (fun k=>Ad (some ⟨g,0,none⟩)=some k) w (wr.setCells g (i*3) vs)):=by
     intro vs;have fz:=Kp g vs (i*3) wr
     have e1:ac.take i=l.filter (fun x=> !p x):=by
      rw [ad.out,A71 (by rw [hn.out];exact A65 _)]
     have ai:(l.filter (fun x=> !p x)).length=i:=by rw [<- e1,A79];omega
     refine ⟨⟨by rw [Er (f:=Id.cells) (size:=3) (fun _=>rfl),ai],.inr ⟨g,0,rfl,Nat.lt_of_lt_of_le bc.2 fz.size,?_⟩⟩,hf.trans fz (fun k _ e=>by have e':k=g:=e;subst e';rfl)⟩;intro q u hu
     have hq:q<i*3:=by
      have h1:=(List.getElem?_eq_some_iff.1 hu).1;rw [Er (f:=Id.cells) (size:=3) (fun _=>rfl),ai] at h1;exact h1
     rw [A60,World.cell?_setCells_out g vs (i*3) wr ⟨g,q,none⟩ (fun _ _=> .inl hq)];obtain ⟨g2,a6,_,_,ba,_,_⟩:=Own.setAt ab (j:=q) (by omega) (.int .i64 0);have a0:g=g2:=by injection a6 with e;injection e
     subst a0;refine ba u ?_;rw [<- e1] at hu;have ak:ac.flatMap Id.cells=(ac.take i).flatMap Id.cells++(ac.drop i).flatMap Id.cells:=by rw [<- List.flatMap_append,List.take_append_drop]
     rw [ak,A77 (List.getElem?_eq_some_iff.1 hu).1];exact hu
    have ae:Hid (∀q,q<(j-i)*3->(wr.cell? ⟨g,i*3+q,none⟩).isSome=true/\wr.frozen? ⟨g,i*3+q,none⟩=false):=by
     intro q hq;have hm:i*3+q<j*3:=by omega
     obtain ⟨g2,a6,_,_,ba,au,_⟩:=Own.setAt ab (j:=i*3+q) hm (.int .i64 0);have a0:g=g2:=by injection a6 with e;injection e
     subst a0;have hl:i*3+q<(ac.flatMap Id.cells).length:=by rw [Er (f:=Id.cells) (size:=3) (fun _=>rfl),a4];exact hm
     exact ⟨by rw [ba _ (A67 hl)];rfl,au⟩
    have aj:Hid (i=(l.filter (fun x=> !p x)).length):=by
     show _=_
     have e1:ac.take i=l.filter (fun x=> !p x):=by
      rw [ad.out,A71 (by rw [hn.out];exact A65 _)]
     rw [<- e1,A79];omega
    clear ab ad ag ah aa ao hf
    have a2:(Builtin.clear_ #[25] 0 #[Value.slice (some ⟨g,i*3,none⟩) (j-i) (c-i)]).run zp wr=.ok (.tuple #[]) (wr.setCells g (i*3) (Builtin.zeroCells (Value.agg #[.int .i64 0,.int .i64 0,.int .u64 0]).cells (j-i)).toList):=
     S1 wr 25 45 0 _ underlying25 (fun _=>zeroValue45 _) g (i*3) (j-i) (c-i) (by omega) (fun q hq=>(ae.out q (by rw [S4] at hq;exact hq)).1) (fun q hq=>(ae.out q (by rw [S4] at hq;exact hq)).2) (Ag9 _)
    have az:=lh (fun vs=>af.out (l.filter (fun x=> !p x)) i (wr.setCells g (i*3) vs) aj.out rfl (al.out vs).1 (al.out vs).2);clear ae al aj af;generalize (Builtin.zeroCells (Value.agg #[.int .i64 0,.int .i64 0,.int .u64 0]).cells (j-i)).toList=ZS at a2;go_wp2_with fail
    go_ret
    exact az.out _
 ·
  have az:=lh (af.out l n w1 hn.out.symm (S2 l p hany).symm (by have:=aa.rd;exact this) bg);clear af ah hany;go_wp2_with fail
  go_ret
  exact az.out
