/-
  Contracts of the functions that the claim's statement reaches, walked one by one (part 8).
  Conditions: as each theorem says.
-/
import Derived.Lib.SliceRun
import Derived.Laws.IdiomCopy
import Derived.Test.YtmcpnjoomlgmlaaGreatDoorRwM7
set_option maxRecDepth 100000
set_option maxHeartbeats 16000000
open Array renaming getD->Ay3
open Bool renaming and_eq_true->Ay7
open List renaming eq_nil_of_length_eq_zero->Ax6,nil_append->Ax7,length_map->Ax8,drop_drop->Ay0,getElem?_eq_getElem->Ay1,mem_of_getElem?->Ay2,flatMap_cons->Ay4,take_of_length_le->Ay5,drop->Ay6,getElem?_toArray->Ay8,drop_set_of_lt->Ay9,take_succ_eq_append_getElem->Az0,getElem?_append_left->Az1,getElem?_set_self->Az2,length_take->Az3
open Nat renaming zero_add->Ax4,zero_mul->Ax5,le_refl->Ax9
open Go.World renaming size_alloc->Ax3
open Go.Proofs.Tryz
open Go.Proofs.Tryz renaming prog->zp
open Go.Lib renaming hid->lh
open List renaming set->zl
open Go.Ending renaming returned->ze
namespace Go.Proofs.YtmcpnjoomlgmlaaGreatDoor
open Go.RowKit
attribute [local go_sem ↓] Go.wp_at_zero Go.wp_at_succ
namespace Oq
theorem Aa7 {P:Program} {t e:TypeId} (hu:P.underlying t=some (.slice e)) (A:Option Addr) (n c:Nat) (w:World):(Go.Op.equal t (.slice A n c) (.slice none 0 0)).run P w=.ok A.isNone w:=by
 show (Go.Op.equalIn (9999+1) t (.slice A n c) (.slice none 0 0)).run P w=_;generalize 9999=d
 cases A<;>simp [Go.Op.equalIn,run_underlying hu]
theorem Fx {P:Program} {t e:TypeId} (hu:P.underlying t=some (.slice e)) (A:Option Addr) (n c:Nat) (w:World):(binOp .eql t (.slice A n c) (.slice none 0 0)).run P w=.ok (.bool A.isNone) w:=by
 have h:binOp .eql t (.slice A n c) (.slice none 0 0)=(do pure (.bool (<- Go.Op.equal t (.slice A n c) (.slice none 0 0)))):=by
  unfold binOp;rfl
 rw [h];simp [Aa7 hu]
theorem Own.empty (w:World) (t:TypeId) (size:Nat):Own (w.alloc (.cells #[] t)) w.heap.size t size (some ⟨w.heap.size,0,none⟩) 0 0 []:=
 ⟨by simp,.inr ⟨w.heap.size,0,#[],rfl,Ax9 _,heap_alloc_new w _,Ax9 _,by omega,by simp,by simp⟩⟩
def Ba (e:TypeId) (size n:Nat) (xs:List Value) (w:World) (r:Ending) (w':World):Prop:=∃A' c',r=.returned (.slice A' n c')/\Own w' w.heap.size e size A' n c' xs/\Fr Non w w'
theorem Mq (B n c:Nat) (A:Option Addr) (xs:List Value) (w:World) (hr:Rd w B 3 A n xs) (h1:∀u∈xs,u.oneCell'=true) (hn:n<=1000000):
  Calls zp 86 #[.slice A n c] w (Ba 45 3 n xs w):=by
 have heq:=fun w'=>Fx (P:=zp) underlying25 A n c w'
 cases A with
 |none=>
  replace heq:∀w',(binOp .eql 25 (.slice none n c) (.slice none 0 0)).run zp w'=.ok (.bool true) w':=heq
  have h0:n=0:=by
   rcases hr.2 with h|⟨_,_,h,_⟩
   · exact h
   · cases h
  have hx:xs=[]:=Ax6 (by rw [hr.1,h0,Ax5]);subst h0;subst hx;have fin:Ba 45 3 0 [] w (.returned (.slice none 0 0)) w:=⟨none,0,rfl,Own.nil _ _ _ _,Fr.refl _ _⟩;generalize Ba 45 3 0 [] w=POST at*;replace fin:=lh fin;go_enter func86,ntmps86;go_wp2_with fail;exact fin.out
 |some ad=>
  replace heq:∀w',(binOp .eql 25 (.slice (some ad) n c) (.slice none 0 0)).run zp w'=.ok (.bool false) w':=heq;have hem:=Own.empty w 45 3;have hr1:=hr.fr ((Fr.refl Non w).alloc (.cells #[] 45)) zr
  have fin:∀A' c' w',Own w' w.heap.size 45 3 A' (0+n) c' ([]++xs)->Fr (fun k=>Ac (some (⟨w.heap.size,0,none⟩:Addr))=some k) (w.alloc (.cells #[] 45)) w'->Ba 45 3 n xs w (.returned (.slice A' n c')) w':=by
   intro A' c' w' h2 h3;rw [Ax4,Ax7] at h2;refine ⟨A',c',rfl,h2,((Fr.refl Non w).alloc (.cells #[] 45)).trans h3 (fun k hk e=> ?_)⟩;have e':w.heap.size=k:=Option.some.inj e;omega
  replace fin:=lh fin;generalize Ba 45 3 n xs w=POST at*;go_enter func86,ntmps86;go_upto_region 3 with (fail)
  go_wp2_with (at_builtin;go_loud (refine Au (base:=w.heap.size) (.tmp 5) (.tmp 6) 25 rfl rfl rfl rfl C7 hem hr1 h1 (by omega) (by omega) (by rw [Ax3];omega) ?_);intro A1 c1 w2 own1 fr1 hat1;have hdone:=lh (fin.out _ _ _ own1 fr1);clear own1 fr1 hat1 fin);exact hdone.out
theorem Q9 (B n c:Nat) (A:Option Addr) (xs:List Value) (w:World) (hr:Rd w B 1 A n xs) (h1:∀u∈xs,u.oneCell'=true) (hn:n<=1000000):
  Calls zp 128 #[.slice A n c] w (Ba 5 1 n xs w):=by
 have heq:=fun w'=>Fx (P:=zp) underlying40 A n c w'
 cases A with
 |none=>
  replace heq:∀w',(binOp .eql 40 (.slice none n c) (.slice none 0 0)).run zp w'=.ok (.bool true) w':=heq
  have h0:n=0:=by
   rcases hr.2 with h|⟨_,_,h,_⟩
   · exact h
   · cases h
  have hx:xs=[]:=Ax6 (by rw [hr.1,h0,Ax5]);subst h0;subst hx;have fin:Ba 5 1 0 [] w (.returned (.slice none 0 0)) w:=⟨none,0,rfl,Own.nil _ _ _ _,Fr.refl _ _⟩;generalize Ba 5 1 0 [] w=POST at*;replace fin:=lh fin;go_enter func128,ntmps128;go_wp2_with fail;exact fin.out
 |some ad=>
  replace heq:∀w',(binOp .eql 40 (.slice (some ad) n c) (.slice none 0 0)).run zp w'=.ok (.bool false) w':=heq;have hem:=Own.empty w 5 1;have hr1:=hr.fr ((Fr.refl Non w).alloc (.cells #[] 5)) zr
  have fin:∀A' c' w',Own w' w.heap.size 5 1 A' (0+n) c' ([]++xs)->Fr (fun k=>Ac (some (⟨w.heap.size,0,none⟩:Addr))=some k) (w.alloc (.cells #[] 5)) w'->Ba 5 1 n xs w (.returned (.slice A' n c')) w':=by
   intro A' c' w' h2 h3;rw [Ax4,Ax7] at h2;refine ⟨A',c',rfl,h2,((Fr.refl Non w).alloc (.cells #[] 5)).trans h3 (fun k hk e=> ?_)⟩;have e':w.heap.size=k:=Option.some.inj e;omega
  replace fin:=lh fin;generalize Ba 5 1 n xs w=POST at*;go_enter func128,ntmps128;go_upto_region 3 with (fail)
  go_wp2_with (at_builtin;go_loud (refine Au (base:=w.heap.size) (.tmp 5) (.tmp 6) 40 rfl rfl rfl rfl slB hem hr1 h1 (by omega) (by omega) (by rw [Ax3];omega) ?_);intro A1 c1 w2 own1 fr1 hat1;have hdone:=lh (fin.out _ _ _ own1 fr1);clear own1 fr1 hat1 fin);exact hdone.out
theorem Aa8 (B n c:Nat) (A:Option Addr) (xs:List Value) (w:World) (hr:Rd w B 1 A n xs) (h1:∀u∈xs,u.oneCell'=true) (hn:n<=1000000):
  Calls zp 129 #[.slice A n c] w (Ba 43 1 n xs w):=by
 have heq:=fun w'=>Fx (P:=zp) underlying46 A n c w'
 cases A with
 |none=>
  replace heq:∀w',(binOp .eql 46 (.slice none n c) (.slice none 0 0)).run zp w'=.ok (.bool true) w':=heq
  have h0:n=0:=by
   rcases hr.2 with h|⟨_,_,h,_⟩
   · exact h
   · cases h
  have hx:xs=[]:=Ax6 (by rw [hr.1,h0,Ax5]);subst h0;subst hx;have fin:Ba 43 1 0 [] w (.returned (.slice none 0 0)) w:=⟨none,0,rfl,Own.nil _ _ _ _,Fr.refl _ _⟩;generalize Ba 43 1 0 [] w=POST at*;replace fin:=lh fin;go_enter func129,ntmps129;go_wp2_with fail;exact fin.out
 |some ad=>
  replace heq:∀w',(binOp .eql 46 (.slice (some ad) n c) (.slice none 0 0)).run zp w'=.ok (.bool false) w':=heq;have hem:=Own.empty w 43 1;have hr1:=hr.fr ((Fr.refl Non w).alloc (.cells #[] 43)) zr
  have fin:∀A' c' w',Own w' w.heap.size 43 1 A' (0+n) c' ([]++xs)->Fr (fun k=>Ac (some (⟨w.heap.size,0,none⟩:Addr))=some k) (w.alloc (.cells #[] 43)) w'->Ba 43 1 n xs w (.returned (.slice A' n c')) w':=by
   intro A' c' w' h2 h3;rw [Ax4,Ax7] at h2;refine ⟨A',c',rfl,h2,((Fr.refl Non w).alloc (.cells #[] 43)).trans h3 (fun k hk e=> ?_)⟩;have e':w.heap.size=k:=Option.some.inj e;omega
  replace fin:=lh fin;generalize Ba 43 1 n xs w=POST at*;go_enter func129,ntmps129;go_upto_region 3 with (fail)
  go_wp2_with (at_builtin;go_loud (refine Au (base:=w.heap.size) (.tmp 5) (.tmp 6) 46 rfl rfl rfl rfl Lf hem hr1 h1 (by omega) (by omega) (by rw [Ax3];omega) ?_);intro A1 c1 w2 own1 fr1 hat1;have hdone:=lh (fin.out _ _ _ own1 fr1);clear own1 fr1 hat1 fin);exact hdone.out
theorem Aa9 (B n c:Nat) (A:Option Addr) (xs:List Value) (w:World) (hr:Rd w B 1 A n xs) (h1:∀u∈xs,u.oneCell'=true) (hn:n<=1000000):
  Calls zp 130 #[.slice A n c] w (Ba 3 1 n xs w):=by
 have heq:=fun w'=>Fx (P:=zp) underlying22 A n c w'
 cases A with
 |none=>
  replace heq:∀w',(binOp .eql 22 (.slice none n c) (.slice none 0 0)).run zp w'=.ok (.bool true) w':=heq
  have h0:n=0:=by
   rcases hr.2 with h|⟨_,_,h,_⟩
   · exact h
   · cases h
  have hx:xs=[]:=Ax6 (by rw [hr.1,h0,Ax5]);subst h0;subst hx;have fin:Ba 3 1 0 [] w (.returned (.slice none 0 0)) w:=⟨none,0,rfl,Own.nil _ _ _ _,Fr.refl _ _⟩;generalize Ba 3 1 0 [] w=POST at*;replace fin:=lh fin;go_enter func130,ntmps130;go_wp2_with fail;exact fin.out
 |some ad=>
  replace heq:∀w',(binOp .eql 22 (.slice (some ad) n c) (.slice none 0 0)).run zp w'=.ok (.bool false) w':=heq;have hem:=Own.empty w 3 1;have hr1:=hr.fr ((Fr.refl Non w).alloc (.cells #[] 3)) zr
  have fin:∀A' c' w',Own w' w.heap.size 3 1 A' (0+n) c' ([]++xs)->Fr (fun k=>Ac (some (⟨w.heap.size,0,none⟩:Addr))=some k) (w.alloc (.cells #[] 3)) w'->Ba 3 1 n xs w (.returned (.slice A' n c')) w':=by
   intro A' c' w' h2 h3;rw [Ax4,Ax7] at h2;refine ⟨A',c',rfl,h2,((Fr.refl Non w).alloc (.cells #[] 3)).trans h3 (fun k hk e=> ?_)⟩;have e':w.heap.size=k:=Option.some.inj e;omega
  replace fin:=lh fin;generalize Ba 3 1 n xs w=POST at*;go_enter func130,ntmps130;go_upto_region 3 with (fail)
  go_wp2_with (at_builtin;go_loud (refine Au (base:=w.heap.size) (.tmp 5) (.tmp 6) 22 rfl rfl rfl rfl E4 hem hr1 h1 (by omega) (by omega) (by rw [Ax3];omega) ?_);intro A1 c1 w2 own1 fr1 hat1;have hdone:=lh (fin.out _ _ _ own1 fr1);clear own1 fr1 hat1 fin);exact hdone.out
theorem Ra (B n c:Nat) (A:Option Addr) (xs:List Value) (w:World) (hr:Rd w B 4 A n xs) (h1:∀u∈xs,u.oneCell'=true) (hn:n<=1000000):
  Calls zp 131 #[.slice A n c] w (Ba 103 4 n xs w):=by
 have heq:=fun w'=>Fx (P:=zp) underlying47 A n c w'
 cases A with
 |none=>
  replace heq:∀w',(binOp .eql 47 (.slice none n c) (.slice none 0 0)).run zp w'=.ok (.bool true) w':=heq
  have h0:n=0:=by
   rcases hr.2 with h|⟨_,_,h,_⟩
   · exact h
   · cases h
  have hx:xs=[]:=Ax6 (by rw [hr.1,h0,Ax5]);subst h0;subst hx;have fin:Ba 103 4 0 [] w (.returned (.slice none 0 0)) w:=⟨none,0,rfl,Own.nil _ _ _ _,Fr.refl _ _⟩;generalize Ba 103 4 0 [] w=POST at*;replace fin:=lh fin;go_enter func131,ntmps131;go_wp2_with fail;exact fin.out
 |some ad=>
  replace heq:∀w',(binOp .eql 47 (.slice (some ad) n c) (.slice none 0 0)).run zp w'=.ok (.bool false) w':=heq;have hem:=Own.empty w 103 4;have hr1:=hr.fr ((Fr.refl Non w).alloc (.cells #[] 103)) zr
  have fin:∀A' c' w',Own w' w.heap.size 103 4 A' (0+n) c' ([]++xs)->Fr (fun k=>Ac (some (⟨w.heap.size,0,none⟩:Addr))=some k) (w.alloc (.cells #[] 103)) w'->Ba 103 4 n xs w (.returned (.slice A' n c')) w':=by
   intro A' c' w' h2 h3;rw [Ax4,Ax7] at h2;refine ⟨A',c',rfl,h2,((Fr.refl Non w).alloc (.cells #[] 103)).trans h3 (fun k hk e=> ?_)⟩;have e':w.heap.size=k:=Option.some.inj e;omega
  replace fin:=lh fin;generalize Ba 103 4 n xs w=POST at*;go_enter func131,ntmps131;go_upto_region 3 with (fail)
  go_wp2_with (at_builtin;go_loud (refine Au (base:=w.heap.size) (.tmp 5) (.tmp 6) 47 rfl rfl rfl rfl slBx hem hr1 h1 (by omega) (by omega) (by rw [Ax3];omega) ?_);intro A1 c1 w2 own1 fr1 hat1;have hdone:=lh (fin.out _ _ _ own1 fr1);clear own1 fr1 hat1 fin);exact hdone.out
theorem Ab0 (B n c:Nat) (A:Option Addr) (xs:List Value) (w:World) (hr:Rd w B 2 A n xs) (h1:∀u∈xs,u.oneCell'=true) (hn:n<=1000000):
  Calls zp 132 #[.slice A n c] w (Ba 112 2 n xs w):=by
 have heq:=fun w'=>Fx (P:=zp) underlying42 A n c w'
 cases A with
 |none=>
  replace heq:∀w',(binOp .eql 42 (.slice none n c) (.slice none 0 0)).run zp w'=.ok (.bool true) w':=heq
  have h0:n=0:=by
   rcases hr.2 with h|⟨_,_,h,_⟩
   · exact h
   · cases h
  have hx:xs=[]:=Ax6 (by rw [hr.1,h0,Ax5]);subst h0;subst hx;have fin:Ba 112 2 0 [] w (.returned (.slice none 0 0)) w:=⟨none,0,rfl,Own.nil _ _ _ _,Fr.refl _ _⟩;generalize Ba 112 2 0 [] w=POST at*;replace fin:=lh fin;go_enter func132,ntmps132;go_wp2_with fail;exact fin.out
 |some ad=>
  replace heq:∀w',(binOp .eql 42 (.slice (some ad) n c) (.slice none 0 0)).run zp w'=.ok (.bool false) w':=heq;have hem:=Own.empty w 112 2;have hr1:=hr.fr ((Fr.refl Non w).alloc (.cells #[] 112)) zr
  have fin:∀A' c' w',Own w' w.heap.size 112 2 A' (0+n) c' ([]++xs)->Fr (fun k=>Ac (some (⟨w.heap.size,0,none⟩:Addr))=some k) (w.alloc (.cells #[] 112)) w'->Ba 112 2 n xs w (.returned (.slice A' n c')) w':=by
   intro A' c' w' h2 h3;rw [Ax4,Ax7] at h2;refine ⟨A',c',rfl,h2,((Fr.refl Non w).alloc (.cells #[] 112)).trans h3 (fun k hk e=> ?_)⟩;have e':w.heap.size=k:=Option.some.inj e;omega
  replace fin:=lh fin;generalize Ba 112 2 n xs w=POST at*;go_enter func132,ntmps132;go_upto_region 3 with (fail)
  go_wp2_with (at_builtin;go_loud (refine Au (base:=w.heap.size) (.tmp 5) (.tmp 6) 42 rfl rfl rfl rfl slNd hem hr1 h1 (by omega) (by omega) (by rw [Ax3];omega) ?_);intro A1 c1 w2 own1 fr1 hat1;have hdone:=lh (fin.out _ _ _ own1 fr1);clear own1 fr1 hat1 fin);exact hdone.out
theorem Ab1 (B n c:Nat) (A:Option Addr) (xs:List Value) (w:World) (hr:Rd w B 4 A n xs) (h1:∀u∈xs,u.oneCell'=true) (hn:n<=1000000):
  Calls zp 133 #[.slice A n c] w (Ba 119 4 n xs w):=by
 have heq:=fun w'=>Fx (P:=zp) underlying48 A n c w'
 cases A with
 |none=>
  replace heq:∀w',(binOp .eql 48 (.slice none n c) (.slice none 0 0)).run zp w'=.ok (.bool true) w':=heq
  have h0:n=0:=by
   rcases hr.2 with h|⟨_,_,h,_⟩
   · exact h
   · cases h
  have hx:xs=[]:=Ax6 (by rw [hr.1,h0,Ax5]);subst h0;subst hx;have fin:Ba 119 4 0 [] w (.returned (.slice none 0 0)) w:=⟨none,0,rfl,Own.nil _ _ _ _,Fr.refl _ _⟩;generalize Ba 119 4 0 [] w=POST at*;replace fin:=lh fin;go_enter func133,ntmps133;go_wp2_with fail;exact fin.out
 |some ad=>
  replace heq:∀w',(binOp .eql 48 (.slice (some ad) n c) (.slice none 0 0)).run zp w'=.ok (.bool false) w':=heq;have hem:=Own.empty w 119 4;have hr1:=hr.fr ((Fr.refl Non w).alloc (.cells #[] 119)) zr
  have fin:∀A' c' w',Own w' w.heap.size 119 4 A' (0+n) c' ([]++xs)->Fr (fun k=>Ac (some (⟨w.heap.size,0,none⟩:Addr))=some k) (w.alloc (.cells #[] 119)) w'->Ba 119 4 n xs w (.returned (.slice A' n c')) w':=by
   intro A' c' w' h2 h3;rw [Ax4,Ax7] at h2;refine ⟨A',c',rfl,h2,((Fr.refl Non w).alloc (.cells #[] 119)).trans h3 (fun k hk e=> ?_)⟩;have e':w.heap.size=k:=Option.some.inj e;omega
  replace fin:=lh fin;generalize Ba 119 4 n xs w=POST at*;go_enter func133,ntmps133;go_upto_region 3 with (fail)
  go_wp2_with (at_builtin;go_loud (refine Au (base:=w.heap.size) (.tmp 5) (.tmp 6) 48 rfl rfl rfl rfl slSl hem hr1 h1 (by omega) (by omega) (by rw [Ax3];omega) ?_);intro A1 c1 w2 own1 fr1 hat1;have hdone:=lh (fin.out _ _ _ own1 fr1);clear own1 fr1 hat1 fin);exact hdone.out
theorem Ab2 (B n c:Nat) (A:Option Addr) (xs:List Value) (w:World) (hr:Rd w B 5 A n xs) (h1:∀u∈xs,u.oneCell'=true) (hn:n<=1000000):
  Calls zp 81 #[.slice A n c] w (Ba 141 5 n xs w):=by
 have heq:=fun w'=>Fx (P:=zp) underlying23 A n c w'
 cases A with
 |none=>
  replace heq:∀w',(binOp .eql 23 (.slice none n c) (.slice none 0 0)).run zp w'=.ok (.bool true) w':=heq
  have h0:n=0:=by
   rcases hr.2 with h|⟨_,_,h,_⟩
   · exact h
   · cases h
  have hx:xs=[]:=Ax6 (by rw [hr.1,h0,Ax5]);subst h0;subst hx;have fin:Ba 141 5 0 [] w (.returned (.slice none 0 0)) w:=⟨none,0,rfl,Own.nil _ _ _ _,Fr.refl _ _⟩;generalize Ba 141 5 0 [] w=POST at*;replace fin:=lh fin;go_enter func81,ntmps81;go_wp2_with fail;exact fin.out
 |some ad=>
  replace heq:∀w',(binOp .eql 23 (.slice (some ad) n c) (.slice none 0 0)).run zp w'=.ok (.bool false) w':=heq;have hem:=Own.empty w 141 5;have hr1:=hr.fr ((Fr.refl Non w).alloc (.cells #[] 141)) zr
  have fin:∀A' c' w',Own w' w.heap.size 141 5 A' (0+n) c' ([]++xs)->Fr (fun k=>Ac (some (⟨w.heap.size,0,none⟩:Addr))=some k) (w.alloc (.cells #[] 141)) w'->Ba 141 5 n xs w (.returned (.slice A' n c')) w':=by
   intro A' c' w' h2 h3;rw [Ax4,Ax7] at h2;refine ⟨A',c',rfl,h2,((Fr.refl Non w).alloc (.cells #[] 141)).trans h3 (fun k hk e=> ?_)⟩;have e':w.heap.size=k:=Option.some.inj e;omega
  replace fin:=lh fin;generalize Ba 141 5 n xs w=POST at*;go_enter func81,ntmps81;go_upto_region 3 with (fail)
  go_wp2_with (at_builtin;go_loud (refine Au (base:=w.heap.size) (.tmp 5) (.tmp 6) 23 rfl rfl rfl rfl slCd hem hr1 h1 (by omega) (by omega) (by rw [Ax3];omega) ?_);intro A1 c1 w2 own1 fr1 hat1;have hdone:=lh (fin.out _ _ _ own1 fr1);clear own1 fr1 hat1 fin);exact hdone.out
end Oq
section
variable {P : Program} {ops : Array Oper} {Q : Exit -> Act -> World -> Prop} {md : Region.Mode} {S : World -> Prop} {g : Nat}
def Cw (P:Program) (md:Region.Mode) (ops:Array Oper) (Q:Exit->Act->World->Prop) (S:World->Prop) (g:Nat) (fuel:Nat) (listed:Array Bool) (a:Act) (w:World):Prop:=
 match fuel with
 |0=>Region.ready md ops listed=[]/\Q .normal a w
 |k+1=>(Region.ready md ops listed=[]->Q .normal a w)/\
   ∀i∈Region.ready md ops listed,wpOp P ops Q i (fun a' w'=>((listed.setIfInBounds i true).getD g true=false->S w')/\Cw P md ops Q S g k (listed.setIfInBounds i true) a' w') a w
theorem Ab3:∀(fuel:Nat) (listed:Array Bool) (a:Act) (w:World),Cw P md ops Q S g fuel listed a w->wpAny P md ops Q fuel listed a w:=by
 intro fuel
 induction fuel with
 |zero=>intro _ _ _ h;exact h
 |succ k ih=>intro l a w h;exact ⟨h.1,fun i hi=>wpOp_mono (fun a' w' h'=>ih _ a' w' h'.2) (h.2 i hi)⟩
theorem Ab4:∀(fuel:Nat) (listed:Array Bool) (a:Act) (w:World),listed.getD g true=true->wpAny P md ops Q fuel listed a w->Cw P md ops Q S g fuel listed a w:=by
 intro fuel
 induction fuel with
 |zero=>intro _ _ _ _ h;exact h
 |succ k ih=>
  intro l a w hg h;refine ⟨h.1,fun i hi=>wpOp_mono (fun a' w' h'=> ?_) (h.2 i hi)⟩
  have hg':(l.setIfInBounds i true).getD g true=true:=by
   by_cases hgi:i=g
   ·
    subst hgi
    by_cases hb:i<l.size
    · simp [Ay3,hb]
    · simp [Ay3,hb]
   ·
    rw [getD_set_ne true hgi];exact hg
  exact ⟨fun h0=>(by rw [hg'] at h0;cases h0),ih _ a' w' hg' h'⟩
theorem Ab5 {i:Nat} {oi og:Oper} {v:Value} (hi:ops[i]? =some oi) (hog:ops[g]? =some og) (hgi:g≠i) (hwait:∃e∈og.after,Region.binds md e=true/\e.on=i)
  (hsel:∀(j:Nat) (o:Oper) cs b,ops[j]? =some o->o.op≠ .select cs b) (hQ:∀c a w,Q (.panic c) (a.put oi.dst v) w->Q (.panic c) a w):
  ∀(fuel:Nat) (listed:Array Bool) (a:Act) (w:World),listed.getD g true=false->
   (∀j oj,ops[j]? =some oj->j≠i->listed.getD j true=false->(∀e∈oj.after,Region.binds md e=true->e.on≠i)->oi.apart ops oj=true)->
   i∈Region.ready md ops listed->YieldsIf P ops S oi v a->S w->
   Cw P md ops Q S g fuel (listed.setIfInBounds i true) (a.put oi.dst v) w->Cw P md ops Q S g (fuel+1) listed a w:=by
 intro fuel
 induction fuel with
 |zero=>
  intro listed a w hg _ hr hy hS H;refine ⟨fun h=>(by rw [h] at hr;cases hr),fun j hj=> ?_⟩
  by_cases hji:j=i
  · subst hji;exact hy.wpOp hi hS ⟨fun _=>hS,H⟩
  ·
   have h0:=ready_mono hj hji;rw [H.1] at h0
   cases h0
 |succ k ih=>
  intro listed a w hg hfree hr hy hS H;refine ⟨fun h=>(by rw [h] at hr;cases hr),fun j hj=> ?_⟩
  by_cases hji:j=i
  · subst hji;exact hy.wpOp hi hS ⟨fun _=>hS,H⟩
  ·
   have hpend:=(mem_ready.1 hr).1;obtain ⟨hjun,oj,hoj,hall⟩:=mem_ready.1 hj
   have hbl:∀e∈oj.after,Region.binds md e=true->e.on≠i:=fun e he hb heq=>by
    have h1:=hall e he hb;rw [heq] at h1
    rcases Nat.lt_or_ge i listed.size with h'|h'
    · simp [h'] at hpend h1;rw [hpend] at h1;cases h1
    · simp [Array.getElem?_eq_none h'] at h1
   have hjg:j≠g:=by
    rintro rfl;obtain ⟨e,he,hb,heq⟩:=hwait;rw [hog] at hoj
    cases hoj
    exact hbl e he hb heq
   have h1:=H.2 j (ready_mono hj hji);have h2:=wpOp_putIf hoj (hfree j oj hoj hji hjun hbl) (fun cs b=>hsel i oi cs b hi) (fun cs b=>hsel j oj cs b hoj) hQ hy h1;have hg':(listed.setIfInBounds j true).getD g true=false:=by rw [getD_set_ne true hjg];exact hg
   have hgij:((listed.setIfInBounds i true).setIfInBounds j true).getD g true=false:=by rw [getD_set_ne true hjg,getD_set_ne true (Ne.symm hgi)];exact hg
   have hfree':∀m om,ops[m]? =some om->m≠i->(listed.setIfInBounds j true).getD m true=false->
     (∀e∈om.after,Region.binds md e=true->e.on≠i)->oi.apart ops om=true:=fun m om hm hmi hun hno=>by
    refine hfree m om hm hmi ?_ hno
    by_cases hjm:j=m
    · subst hjm;exact hjun
    · rw [getD_set_ne true hjm] at hun;exact hun
   refine wpOp_mono (fun a' w' h3=> ?_) h2;have hS':=h3.2.1 hgij;refine ⟨fun _=>hS',ih _ a' w' hg' hfree' (ready_mono hr (Ne.symm hji)) h3.1 hS' ?_⟩;rw [Array.setIfInBounds_comm _ _ hji];exact h3.2.2
def Js (md:Region.Mode) (ops:Array Oper) (g i:Nat):Bool:=match ops[g]? with|some og=>og.after.any (fun e=>Region.binds md e&&e.on==i)|none=>false
theorem Ab6 {i:Nat} (h:Js md ops g i=true):∃og,ops[g]? =some og/\∃e∈og.after,Region.binds md e=true/\e.on=i:=by
 unfold Js at h
 split at h
 ·
  rename_i og hog;obtain ⟨e,he,hb⟩:=Array.any_eq_true'.1 h;simp only [Ay7,beq_iff_eq] at hb;exact ⟨og,hog,e,he,hb.1,hb.2⟩
 · cases h
end
theorem Fy {P:Program} {Q:Exit->Act->World->Prop} {md:Region.Mode} {S:World->Prop} {g:Nat} {l:List Oper} {i:Nat} {d:Tmp} {op:Op} {ty:TypeId} {pos:String} {after:Array Edge} {gd:Option (Nat × Bool)} {v:Value} {fuel:Nat} {listed:Array Bool} {tl:List Value} {ds:List Deferred} {w:World} (hi:l[i]? =some ⟨some d,op,ty,pos,after,gd⟩)
  (hgate:(listed.getD g true==false&&g !=i&&Js md l.toArray g i)=true)
  (hs:Region.noSelect l.toArray=true) (hf:Region.free md l.toArray listed i=true) (hr:(Region.ready md l.toArray listed).contains i=true)
  (hQ:∀c a w,Q (.panic c) (a.put (some d) v) w->Q (.panic c) a w) (hy:YieldsIf P l.toArray S ⟨some d,op,ty,pos,after,gd⟩ v ⟨tl.toArray,ds⟩) (hS:S w)
  (h:Cw P md l.toArray Q S g fuel (listed.setIfInBounds i true) ⟨(tl.set d v).toArray,ds⟩ w):Cw P md l.toArray Q S g (fuel+1) listed ⟨tl.toArray,ds⟩ w:=by
 simp only [Ay7,beq_iff_eq,bne_iff_ne] at hgate;obtain ⟨og,hog,hwait⟩:=Ab6 hgate.2;have hi':l.toArray[i]? =some ⟨some d,op,ty,pos,after,gd⟩:=by rw [Ay8];exact hi
 exact Ab5 hi' hog hgate.1.2 hwait (Region.noSelect_spec hs) hQ fuel listed _ w hgate.1.1 (Region.free_spec hi' hf) (by simpa using hr) hy hS (by rw [Ad];exact h)
theorem Bt {P:Program} {Q:Exit->Act->World->Prop} {l:List Oper} {md:Region.Mode} {S:World->Prop} {g fuel:Nat} {listed:Array Bool} {a:Act} {w:World} (i:Nat) {d:Option Tmp} {op:Op} {ty:TypeId} {pos:String} {after:Array Edge} (hr:Region.ready md l.toArray listed=[i]) (ho:l[i]? =some ⟨d,op,ty,pos,after,none⟩)
  (h:∀K':Act->World->Prop,Shut (∀a w,S w->(S w->Cw P md l.toArray Q S g fuel (listed.setIfInBounds i true) a w)->K' a w)->Oper.wp P ⟨d,op,ty,pos,after,none⟩ a w K' Q):
  Cw P md l.toArray Q S g (fuel+1) listed a w:=by
 refine ⟨fun h0=>(by rw [hr] at h0;cases h0),fun j hj=> ?_⟩;rw [hr] at hj;obtain rfl:=List.mem_singleton.1 hj;refine wpOp_step (o:=⟨d,op,ty,pos,after,none⟩) (by rw [Ay8];exact ho) (fun K' hK=> ?_);rw [if_pos (show Region.wanted _ _=true from rfl)];exact h K' (fun a w hS hW=>hK a w ⟨fun _=>hS,hW hS⟩)
theorem Cs {P:Program} {Q:Exit->Act->World->Prop} {l:List Oper} {md:Region.Mode} {S:World->Prop} {g fuel:Nat} {listed:Array Bool} {a:Act} {w:World} (hr:Region.ready md l.toArray listed=[g])
  (h:wpAnyH P md l.toArray Q (fun _=>True) (fuel+1) listed a w):Cw P md l.toArray Q S g (fuel+1) listed a w:=by
 refine ⟨h.1,fun j hj=>wpOp_mono (fun a' w' h'=> ?_) (h.2 j hj)⟩;rw [hr] at hj;obtain rfl:=List.mem_singleton.1 hj
 have hg':(listed.setIfInBounds j true).getD j true=true:=by
  by_cases hb:j<listed.size
  · simp [Ay3,hb]
  · simp [Ay3,hb]
 exact ⟨fun h0=>(by rw [hg'] at h0;cases h0),Ab4 _ _ _ _ hg' (wpAny_of_held _ _ _ _ h'.2)⟩
theorem Cx {P:Program} {Q:Exit->Act->World->Prop} {S:World->Prop} (g:Nat) {id:Nat} {l:List Oper} {a:Act} {w:World} (hm:P.follows .mixedOrders=true)
  (h:Cw P .any l.toArray Q S g l.toArray.size (Array.replicate l.toArray.size false) a w.drew):(Code.region id l.toArray true).wp P Q a w:=
 wp_region_any hm (Ab3 _ _ _ _ h)
theorem tkG (i:Nat) {P:Program} {Q:Exit->Act->World->Prop} {md:Region.Mode} {S:World->Prop} {gt:Nat} {l:List Oper} {d:Tmp} {op:Op} {ty:TypeId} {pos:String} {after:Array Edge} {g:Option (Nat × Bool)} {v:Value} {fuel:Nat} {listed:Array Bool} {tl:List Value} {ds:List Deferred} {w:World} (hS:S w) (hi:l[i]? =some ⟨some d,op,ty,pos,after,g⟩:=by rfl)
  (hgate:(listed.getD gt true==false&&gt !=i&&Js md l.toArray gt i)=true:=by kernel_rfl)
  (hs:Region.noSelect l.toArray=true:=by kernel_rfl) (hf:Region.free md l.toArray listed i=true:=by kernel_rfl) (hr:(Region.ready md l.toArray listed).contains i=true:=by kernel_rfl)
  (hQ:∀c a w,Q (.panic c) (a.put (some d) v) w->Q (.panic c) a w:=by exact fun _ _ _ h=>h) (hy:YieldsIf P l.toArray S ⟨some d,op,ty,pos,after,g⟩ v ⟨tl.toArray,ds⟩:=by (refine Or.inl ⟨by kernel_rfl,?_⟩;intro w' hSw;(try dsimp only at hSw);(try simp only [zl]);go_simp;(try with_reducible rfl)))
  (h:Cw P md l.toArray Q S gt fuel (listed.setIfInBounds i true) ⟨(tl.set d v).toArray,ds⟩ w):
  Cw P md l.toArray Q S gt (fuel+1) listed ⟨tl.toArray,ds⟩ w:=Fy hi hgate hs hf hr hQ hy hS h
theorem Own.setAt {w:World} {base n c size:Nat} {t:TypeId} {A:Option Addr} {xs:List Value} (h:Own w base t size A n c xs) {j:Nat} (hj:j<n*size) (u:Value):
  ∃g,A=some ⟨g,0,none⟩/\base<=g/\g<w.heap.size/\(∀v,xs[j]? =some v->w.cell? ⟨g,j,none⟩=some v)/\w.frozen? ⟨g,j,none⟩=false/\Own (w.setCell ⟨g,j,none⟩ u) base t size A n c (xs.set j u):=by
 rcases h.2 with ⟨_,h0⟩|⟨g,cap,cur,hv,hb,hg,h1,h2,h3,h4⟩
 ·
  subst h0;omega
 ·
  injection hv with hA hn hc
  have hblk:Blk w g t cur:=hg;have hset:=hblk.set j u;refine ⟨g,hA,hb,hblk.lt,?_,hblk.frozen j,?_⟩
  ·
   intro v hv';rw [hblk.cell j];rw [<- h4,List.getElem?_take_of_lt hj] at hv';simpa using hv'
  ·
   refine ⟨by rw [List.length_set];exact h.1,.inr ⟨g,cap,cur.setIfInBounds j u,?_,hb,hset,h1,h2,by simpa using h3,?_⟩⟩
   · subst hA hc;rfl
   · rw [Array.toList_setIfInBounds,List.take_set,h4]
theorem H7 {α:Type} {f:α->List Value} {size:Nat} (hf:∀x,(f x).length=size) {j:Nat} (hj:j<size) (v:Value) (y:α):∀(l:List α) (k:Nat) (x:α),l[k]? =some x->(f x).set j v=f y->
  (l.flatMap f).set (k*size+j) v=(l.set k y).flatMap f:=by
 intro l
 induction l with
 |nil=>intro k x hx _;simp at hx
 |cons a r ih=>
  intro k x hx hy
  cases k with
  |zero=>
   simp only [List.getElem?_cons_zero,Option.some.injEq] at hx;subst hx;rw [Ay4,List.set_cons_zero,Ay4,Ax5,Ax4,List.set_append_left _ _ (by rw [hf];exact hj),hy]
  |succ m=>
   rw [List.getElem?_cons_succ] at hx;rw [Ay4,List.set_cons_succ,Ay4,List.set_append_right _ _ (by rw [hf,Nat.add_mul];omega),hf,show (m+1)*size+j-size=m*size+j by rw [Nat.add_mul];omega,ih m x hx hy]
theorem Rb {α β:Type} (nd:α->β) (l:List α) (k:Nat) {y y':α} (h:l[k]? =some y) (e:nd y'=nd y):(l.set k y').map nd=l.map nd:=by
 rw [List.map_set,e];apply List.ext_getElem?;intro i;rw [List.getElem?_set]
 by_cases hi:k=i
 ·
  subst hi;rw [List.getElem?_map,h];have hk:k<(l.map nd).length:=by rw [Ax8];exact (List.getElem?_eq_some_iff.1 h).1
  simp [(List.getElem?_eq_some_iff.1 h).1]
 · rw [if_neg hi]
theorem Rc {α:Type} (l m:List α) (k:Nat) (y':α) (h:l.drop k=m.drop k):(l.set k y').drop (k+1)=m.drop (k+1):=by
 rw [Ay9 (by omega)];have h2:=congrArg (Ay6 1) h;rwa [Ay0,Ay0] at h2
theorem Mr {α:Type} (l:List α) (k:Nat) {y:α} (y':α) (h:l[k]? =some y):(l.set k y').take (k+1)=l.take k++[y']:=by
 have hk:=(List.getElem?_eq_some_iff.1 h).1;rw [Az0 (by rw [List.length_set];exact hk),List.take_set_of_le (by omega)];simp
theorem Ms {α:Type} {l m:List α} {k:Nat} (h:l.drop k=m.drop k):l[k]? =m[k]? :=by
 have h2:=congrArg (fun t=>t[0]?) h;simpa [List.getElem?_drop] using h2
namespace Oq
attribute [local go_sem ↓] Bo
theorem Jt {α:Type} (f:α->Value) (hf:∀a,(f a).oneCell'=true) (l:List α):∀v∈l.map f,v.oneCell'=true:=by
 intro v hv;obtain ⟨y,_,rfl⟩:=List.mem_map.1 hv;exact hf y
theorem Ju {α:Type} (f:α->List Value) (hf:∀a,∀v∈f a,v.oneCell'=true) (l:List α):∀v∈l.flatMap f,v.oneCell'=true:=by
 intro v hv;obtain ⟨y,_,hy⟩:=List.mem_flatMap.1 hv;exact hf y v hy
theorem Re (l:List Bx):∀v∈l.flatMap Bx.cells,v.oneCell'=true:=Ju _ (fun a v hv=>by simp [Bx.cells] at hv;rcases hv with rfl|rfl|rfl|rfl<;>rfl) l
theorem Ab7 (l:List NdL):∀v∈l.flatMap NdL.cells,v.oneCell'=true:=Ju _ (fun a v hv=>by simp [NdL.cells] at hv;rcases hv with rfl|rfl<;>rfl) l
theorem Ab8 (l:List SlL):∀v∈l.flatMap SlL.cells,v.oneCell'=true:=Ju _ (fun a v hv=>by simp [SlL.cells] at hv;rcases hv with rfl|rfl|rfl|rfl<;>rfl) l
def Mt (o:Op) (w:World) (r:Ending) (w':World):Prop:=
 ∃y:OpL,r=.returned (.agg y.cells)/\y.op=o/\y.own w' w.heap.size/\Fr Non w w'
theorem Rf (x:OpL) (w:World) (hat:x.at w w.heap.size) (hok:x.op.ok):Calls zp 74 #[.agg x.cells] w (Mt x.op w):=by
 have hi:(zp.info? 52).map (·.size)=some 27:=by kernel_rfl
 have ah:Blk ((w.alloc (.cells x.cells 52)).alloc (.cells zO 52)) w.heap.size 52 x.cells:=(Blk.new w 52 x.cells).alloc _
 have b9:Blk ((w.alloc (.cells x.cells 52)).alloc (.cells zO 52)) (w.heap.size+1) 52 zO:=by
  have:=Blk.new (w.alloc (.cells x.cells 52)) 52 zO;rwa [Ax3] at this
 have dm:((w.alloc (.cells x.cells 52)).alloc (.cells zO 52)).heap.size=w.heap.size+2:=by rw [Ax3,Ax3]
 have bq:Fr Non w ((w.alloc (.cells x.cells 52)).alloc (.cells zO 52)):=((Fr.refl Non w).alloc _).alloc _;have bk:=OpL.frame hat bq;have ca:x.guards.length<=1000000:=by have h:=hok.guards.1;rw [show x.op.guards=x.guards from rfl] at h;omega
 have dk:x.refs.length<=1000000:=by have h:=hok.refs.1;rw [show x.op.refs=x.refs from rfl] at h;omega
 have cl:x.boxes.length<=1000000:=by have h:=hok.boxes.1;rw [show x.op.boxes=x.boxes from rfl] at h;omega
 have dy:x.past.length<=1000000:=by have h:=hok.past.1;rw [show x.op.past=x.past from rfl] at h;omega
 have bm:x.path.length<=1000000:=by have h:=hok.path.1;rw [show x.op.path=x.path.map NdL.nd from rfl,Ax8] at h;omega
 have bw:x.hist.length<=1000000:=by have h:=hok.hist.1;rw [show x.op.hist=x.hist.map SlL.sl from rfl,Ax8] at h;omega
 have dp:x.body.length<=1000000:=by have h:=hok.body;rw [show x.op.body=x.body from rfl] at h;omega
 have a4:Hid (∀y∈x.path,y.xs.length<=1000000):=fun y hy=>by have h:=(hok.path.2 y.nd (List.mem_map.2 ⟨y,hy,rfl⟩)).2.1;rw [show y.nd.xs=y.xs from rfl] at h;omega
 have a5:Hid (∀y∈x.hist,y.y.length<=1000000):=fun y hy=>by have h:=(hok.hist.2 y.sl (List.mem_map.2 ⟨y,hy,rfl⟩)).2;rw [show y.sl.y=y.y from rfl] at h;omega
 have ay:Hid (∀(y:OpL) (w':World),y.op=x.op->y.own w' w.heap.size->Fr Non w w'->Mt x.op w (.returned (.agg y.cells)) w'):=fun y w' h1 h2 h3=>⟨y,rfl,h1,h2,h3⟩;generalize Mt x.op w=POST at*;go_enter func74,ntmps74;go_upto_region 1 with (fail)
 generalize ((w.alloc (.cells x.cells 52)).alloc (.cells zO 52))=w0 at*;obtain ⟨CS,a1⟩:=Aa x.cells;rw [a1.out] at ah;have e4:Hid (CS[4]? =some (.slice x.pastA x.past.length x.pastC)):=by show _=_;rw [<- a1.out];rfl
 have cp:Hid (CS[14]? =some (.slice x.bodyA x.body.length x.bodyC)):=by show _=_;rw [<- a1.out];rfl
 have c6:Hid (CS[15]? =some (.slice x.refsA x.refs.length x.refsC)):=by show _=_;rw [<- a1.out];rfl
 have cu:Hid (CS[19]? =some (.slice x.guardsA x.guards.length x.guardsC)):=by show _=_;rw [<- a1.out];rfl
 have cz:Hid (CS[22]? =some (.slice x.boxesA x.boxes.length x.boxesC)):=by show _=_;rw [<- a1.out];rfl
 refine Cx (S:=(fun w'=>Blk w' w.heap.size 52 CS)) 16 (by kernel_rfl) ?_;replace ah:Blk w0.drew w.heap.size 52 CS:=ah.drew;replace b9:=b9.drew;replace bq:=bq.drew;replace bk:=OpL.frame bk ((Fr.refl Non w0).drew);refine tkG 0 ah (h:=?_);simp only [zl];refine Fy (i:=1) (v:=?_) rfl (by kernel_rfl) (by kernel_rfl) (by kernel_rfl) (by kernel_rfl) (fun _ _ _ h=>h) (Or.inl ⟨by kernel_rfl,?_⟩) ah ?_;rotate_left
 focus (intro w' ab;have hB:=ab;have q:w'.cell? ⟨w.heap.size,4,none⟩=some _:=(hB.cell 4).trans e4.out;(try dsimp only at ab);go_simp;(try with_reducible rfl))
 simp only [zl];refine tkG 3 ah (h:=?_);simp only [zl];refine Fy (i:=4) (v:=?_) rfl (by kernel_rfl) (by kernel_rfl) (by kernel_rfl) (by kernel_rfl) (fun _ _ _ h=>h) (Or.inl ⟨by kernel_rfl,?_⟩) ah ?_;rotate_left
 focus (intro w' ab;have hB:=ab;have q:w'.cell? ⟨w.heap.size,14,none⟩=some _:=(hB.cell 14).trans cp.out;(try dsimp only at ab);go_simp;(try with_reducible rfl))
 simp only [zl];refine tkG 6 ah (h:=?_);simp only [zl];refine Fy (i:=7) (v:=?_) rfl (by kernel_rfl) (by kernel_rfl) (by kernel_rfl) (by kernel_rfl) (fun _ _ _ h=>h) (Or.inl ⟨by kernel_rfl,?_⟩) ah ?_;rotate_left
 focus (intro w' ab;have hB:=ab;have q:w'.cell? ⟨w.heap.size,15,none⟩=some _:=(hB.cell 15).trans c6.out;(try dsimp only at ab);go_simp;(try with_reducible rfl))
 simp only [zl];refine tkG 9 ah (h:=?_);simp only [zl];refine Fy (i:=10) (v:=?_) rfl (by kernel_rfl) (by kernel_rfl) (by kernel_rfl) (by kernel_rfl) (fun _ _ _ h=>h) (Or.inl ⟨by kernel_rfl,?_⟩) ah ?_;rotate_left
 focus (intro w' ab;have hB:=ab;have q:w'.cell? ⟨w.heap.size,19,none⟩=some _:=(hB.cell 19).trans cu.out;(try dsimp only at ab);go_simp;(try with_reducible rfl))
 simp only [zl];refine tkG 12 ah (h:=?_);simp only [zl];refine Fy (i:=13) (v:=?_) rfl (by kernel_rfl) (by kernel_rfl) (by kernel_rfl) (by kernel_rfl) (fun _ _ _ h=>h) (Or.inl ⟨by kernel_rfl,?_⟩) ah ?_;rotate_left
 focus (intro w' ab;have hB:=ab;have q:w'.cell? ⟨w.heap.size,22,none⟩=some _:=(hB.cell 22).trans cz.out;(try dsimp only at ab);go_simp;(try with_reducible rfl))
 simp only [zl];refine Bt 2 (by kernel_rfl) rfl (fun K hK=> ?_);go_simp;go_wp2_with (go_at_call 86;(with_reducible refine (Mq _ _ _ _ _ _ bk.past.rd (Id.cells_one _) (by omega)).mono ?_);rintro _ w1 ⟨A1,c1,rfl,o1,f1⟩;have cd:=ah.fr f1 zq;have dv:=b9.fr f1 zq;have df:=OpL.frame bk f1;have dg:=bq.trans f1 zr;have em:=f1.size);refine hK.out _ _ cd (fun hZ=> ?_);clear hZ hK K;try simp only [Aj,zl]
 refine tkG 15 cd (h:=?_);simp only [zl];refine Bt 5 (by kernel_rfl) rfl (fun K hK=> ?_);go_simp;go_wp2_with (go_at_call 128;(with_reducible refine (Q9 _ _ _ _ _ _ df.body.rd (Jt Bv (fun _=>rfl) _) (by omega)).mono ?_);rintro _ w2 ⟨A2,c2,rfl,o2,f2⟩;have cq:=cd.fr f2 zq;have dq:=dv.fr f2 zq;have ci:=OpL.frame df f2;have bg:=dg.trans f2 zr;have ef:=f2.size);refine hK.out _ _ cq (fun hZ=> ?_);clear hZ hK K;try simp only [Aj,zl]
 refine Bt 8 (by kernel_rfl) rfl (fun K hK=> ?_);go_simp;go_wp2_with (go_at_call 129;(with_reducible refine (Aa8 _ _ _ _ _ _ ci.refs.rd (Jt Uv (fun _=>rfl) _) (by omega)).mono ?_);rintro _ w3 ⟨A3,c3,rfl,o3,f3⟩;have dd:=cq.fr f3 zq;have dr:=dq.fr f3 zq;have co:=OpL.frame ci f3;have dt:=bg.trans f3 zr;have eh:=f3.size);refine hK.out _ _ dd (fun hZ=> ?_);clear hZ hK K;try simp only [Aj,zl]
 refine Bt 11 (by kernel_rfl) rfl (fun K hK=> ?_);go_simp;go_wp2_with (go_at_call 130;(with_reducible refine (Aa9 _ _ _ _ _ _ co.guards.rd (Jt Iv (fun _=>rfl) _) (by omega)).mono ?_);rintro _ w4 ⟨A4,c4,rfl,o4,f4⟩;have de:=dd.fr f4 zq;have dj:=dr.fr f4 zq;have cw:=OpL.frame co f4;have ds:=dt.trans f4 zr;have d5:=f4.size);refine hK.out _ _ de (fun hZ=> ?_);clear hZ hK K;try simp only [Aj,zl]
 refine Bt 14 (by kernel_rfl) rfl (fun K hK=> ?_);go_simp;go_wp2_with (go_at_call 131;(with_reducible refine (Ra _ _ _ _ _ _ cw.boxes.rd (Re _) (by omega)).mono ?_);rintro _ w5 ⟨A5,c5,rfl,o5,f5⟩;have aj:=de.fr f5 zq;have dn:=dj.fr f5 zq;have ee:=OpL.frame cw f5;have cy:=ds.trans f5 zr;have d8:=f5.size);refine hK.out _ _ aj (fun hZ=> ?_);clear hZ hK K;try simp only [Aj,zl]
 refine Cs (by kernel_rfl) ?_;have k4:cS w5 w.heap.size 4 x.pastA x.past.length x.pastC:=(aj.cell 4).trans e4.out;have z4:=aj.frozen 4;have ed:cS w5 w.heap.size 14 x.bodyA x.body.length x.bodyC:=(aj.cell 14).trans cp.out;have ec:=aj.frozen 14;have ea:cS w5 w.heap.size 15 x.refsA x.refs.length x.refsC:=(aj.cell 15).trans c6.out;have ei:=aj.frozen 15;have d9:cS w5 w.heap.size 19 x.guardsA x.guards.length x.guardsC:=(aj.cell 19).trans cu.out;have eb:=aj.frozen 19;have es:cS w5 w.heap.size 22 x.boxesA x.boxes.length x.boxesC:=(aj.cell 22).trans cz.out;have el:=aj.frozen 22;refine oG 16 (fun K hK=> ?_);go_simp;refine hK.out _ _ trivial (fun hZ=> ?_);clear hZ hK K;try simp only [Aj,zl]
 refine oG 17 (fun K hK=> ?_);go_simp;refine hK.out _ _ trivial (fun hZ=> ?_);clear hZ hK K;try simp only [Aj,zl]
 refine oG 18 (fun K hK=> ?_);go_simp;refine hK.out _ _ trivial (fun hZ=> ?_);clear hZ hK K;try simp only [Aj,zl]
 refine oG 19 (fun K hK=> ?_);go_simp;refine hK.out _ _ trivial (fun hZ=> ?_);clear hZ hK K;try simp only [Aj,zl]
 refine oG 20 (fun K hK=> ?_);go_simp;refine hK.out _ _ trivial (fun hZ=> ?_);clear hZ hK K;try simp only [Aj,zl]
 refine oG 21 (fun K hK=> ?_);go_simp;refine hK.out _ _ trivial (fun hZ=> ?_);clear hZ hK K;try simp only [Aj,zl]
 refine oG 22 (fun K hK=> ?_);go_simp;refine hK.out _ _ trivial (fun hZ=> ?_);clear hZ hK K;try simp only [Aj,zl]
 refine oG 23 (fun K hK=> ?_);go_simp;refine hK.out _ _ trivial (fun hZ=> ?_);clear hZ hK K;try simp only [Aj,zl]
 refine oG 24 (fun K hK=> ?_);go_simp;refine hK.out _ _ trivial (fun hZ=> ?_);clear hZ hK K;try simp only [Aj,zl]
 refine oD ?_;go_simp;obtain ⟨bu,al⟩:=Aa ({x with pastA:=A1,pastC:=c1,bodyA:=A2,bodyC:=c2,refsA:=A3,refsC:=c3,guardsA:=A4,guardsC:=c4,boxesA:=A5,boxesC:=c5}:OpL).cells
 have a0:Blk (((((w5.setCell ⟨w.heap.size,4,none⟩ (.slice A1 x.past.length c1)).setCell ⟨w.heap.size,14,none⟩ (.slice A2 x.body.length c2)).setCell ⟨w.heap.size,15,none⟩ (.slice A3 x.refs.length c3)).setCell ⟨w.heap.size,19,none⟩ (.slice A4 x.guards.length c4)).setCell ⟨w.heap.size,22,none⟩ (.slice A5 x.boxes.length c5)) w.heap.size 52 bu:=by
  rw [<- al.out];rw [<- a1.out] at aj;exact ((((aj.set 4 _).set 14 _).set 15 _).set 19 _).set 22 _
 have au:Fr (One w.heap.size) w5 (((((w5.setCell ⟨w.heap.size,4,none⟩ (.slice A1 x.past.length c1)).setCell ⟨w.heap.size,14,none⟩ (.slice A2 x.body.length c2)).setCell ⟨w.heap.size,15,none⟩ (.slice A3 x.refs.length c3)).setCell ⟨w.heap.size,19,none⟩ (.slice A4 x.guards.length c4)).setCell ⟨w.heap.size,22,none⟩ (.slice A5 x.boxes.length c5)):=(((((Fr.refl (One w.heap.size) w5).setCell (p:=⟨w.heap.size,4,none⟩) (fun _=>rfl) _).setCell (p:=⟨w.heap.size,14,none⟩) (fun _=>rfl) _).setCell (p:=⟨w.heap.size,15,none⟩) (fun _=>rfl) _).setCell (p:=⟨w.heap.size,19,none⟩) (fun _=>rfl) _).setCell (p:=⟨w.heap.size,22,none⟩) (fun _=>rfl) _;have sd:w0.drew.heap.size=w.heap.size+2:=dm;have d4:w.heap.size+2<=(((((w5.setCell ⟨w.heap.size,4,none⟩ (.slice A1 x.past.length c1)).setCell ⟨w.heap.size,14,none⟩ (.slice A2 x.body.length c2)).setCell ⟨w.heap.size,15,none⟩ (.slice A3 x.refs.length c3)).setCell ⟨w.heap.size,19,none⟩ (.slice A4 x.guards.length c4)).setCell ⟨w.heap.size,22,none⟩ (.slice A5 x.boxes.length c5)).heap.size:=by have h1:=au.size;omega
 have cc:=dn.fr au (fun e=>by have e':w.heap.size+1=w.heap.size:=e;omega);have ao:x.at (((((w5.setCell ⟨w.heap.size,4,none⟩ (.slice A1 x.past.length c1)).setCell ⟨w.heap.size,14,none⟩ (.slice A2 x.body.length c2)).setCell ⟨w.heap.size,15,none⟩ (.slice A3 x.refs.length c3)).setCell ⟨w.heap.size,19,none⟩ (.slice A4 x.guards.length c4)).setCell ⟨w.heap.size,22,none⟩ (.slice A5 x.boxes.length c5)) w.heap.size:=(hat.fr cy zr).fr au (fun j hj e=>by have e':j=w.heap.size:=e;omega);have b0:Fr Non w (((((w5.setCell ⟨w.heap.size,4,none⟩ (.slice A1 x.past.length c1)).setCell ⟨w.heap.size,14,none⟩ (.slice A2 x.body.length c2)).setCell ⟨w.heap.size,15,none⟩ (.slice A3 x.refs.length c3)).setCell ⟨w.heap.size,19,none⟩ (.slice A4 x.guards.length c4)).setCell ⟨w.heap.size,22,none⟩ (.slice A5 x.boxes.length c5)):=cy.trans au (fun j hj e=>by have e':j=w.heap.size:=e;omega);have p1:=((o1.fr (((f2.trans f3 zr).trans f4 zr).trans f5 zr) zr).lower (base':=w.heap.size+2) (by omega)).fr au (fun j hj e=>by have h1:=(o1.row j hj).1;have e':j=w.heap.size:=e;omega);have p2:=((o2.fr ((f3.trans f4 zr).trans f5 zr) zr).lower (base':=w.heap.size+2) (by omega)).fr au (fun j hj e=>by have h1:=(o2.row j hj).1;have e':j=w.heap.size:=e;omega);have p3:=((o3.fr (f4.trans f5 zr) zr).lower (base':=w.heap.size+2) (by omega)).fr au (fun j hj e=>by have h1:=(o3.row j hj).1;have e':j=w.heap.size:=e;omega);have p4:=((o4.fr (f5) zr).lower (base':=w.heap.size+2) (by omega)).fr au (fun j hj e=>by have h1:=(o4.row j hj).1;have e':j=w.heap.size:=e;omega);have p5:=(o5.lower (base':=w.heap.size+2) (by omega)).fr au (fun j hj e=>by have h1:=(o5.row j hj).1;have e':j=w.heap.size:=e;omega);clear a1 ah cd cq dd de aj b9 dv dq dr dj dn bq dg bg dt ds cy bk df ci co cw ee f1 f2 f3 f4 f5 au o1 o2 o3 o4 o5 e4 cp c6 cu cz k4 ed ea d9 es z4 ec ei eb el em ef eh d5 d8 sd dm;generalize (((((w5.setCell ⟨w.heap.size,4,none⟩ (.slice A1 x.past.length c1)).setCell ⟨w.heap.size,14,none⟩ (.slice A2 x.body.length c2)).setCell ⟨w.heap.size,15,none⟩ (.slice A3 x.refs.length c3)).setCell ⟨w.heap.size,19,none⟩ (.slice A4 x.guards.length c4)).setCell ⟨w.heap.size,22,none⟩ (.slice A5 x.boxes.length c5))=w6 at*;clear w5 w4 w3 w2 w1 w0;have e9:Hid (bu[9]? =some (.slice x.pathA x.path.length x.pathC)):=by show _=_;rw [<- al.out];rfl
 have bj:Hid (bu[24]? =some (.slice x.histA x.hist.length x.histC)):=by show _=_;rw [<- al.out];rfl
 go_wp2_with fail;refine Cx (S:=(fun w'=>Blk w' w.heap.size 52 bu)) 7 (by kernel_rfl) ?_;replace a0:Blk w6.drew w.heap.size 52 bu:=a0.drew;replace cc:=cc.drew;replace b0:=b0.drew;replace ao:=ao.fr ((Fr.refl Non w6).drew) zr;have ev:w.heap.size<=w6.drew.heap.size:=b0.size;have d2:w.heap.size+2<=w6.drew.heap.size:=by have h1:=d4;exact h1
 replace p1:=p1.drew;replace p2:=p2.drew;replace p3:=p3.drew;replace p4:=p4.drew;replace p5:=p5.drew;refine tkG 0 a0 (h:=?_);simp only [zl];refine Fy (i:=1) (v:=?_) rfl (by kernel_rfl) (by kernel_rfl) (by kernel_rfl) (by kernel_rfl) (fun _ _ _ h=>h) (Or.inl ⟨by kernel_rfl,?_⟩) a0 ?_;rotate_left
 focus (intro w' ab;have hB:=ab;have q:w'.cell? ⟨w.heap.size,9,none⟩=some _:=(hB.cell 9).trans e9.out;(try dsimp only at ab);go_simp;(try with_reducible rfl))
 simp only [zl];refine tkG 3 a0 (h:=?_);simp only [zl];refine Fy (i:=4) (v:=?_) rfl (by kernel_rfl) (by kernel_rfl) (by kernel_rfl) (by kernel_rfl) (fun _ _ _ h=>h) (Or.inl ⟨by kernel_rfl,?_⟩) a0 ?_;rotate_left
 focus (intro w' ab;have hB:=ab;have q:w'.cell? ⟨w.heap.size,24,none⟩=some _:=(hB.cell 24).trans bj.out;(try dsimp only at ab);go_simp;(try with_reducible rfl))
 simp only [zl];refine Bt 2 (by kernel_rfl) rfl (fun K hK=> ?_);go_simp;go_wp2_with (go_at_call 132;(with_reducible refine (Ab0 _ _ _ _ _ _ ao.path.rd (Ab7 _) (by omega)).mono ?_);rintro _ w7 ⟨A7,c7,rfl,o7,f7⟩;have ce:=a0.fr f7 zq;have dh:=cc.fr f7 zq;have bc:=ao.fr f7 zr;have dx:=b0.trans f7 zr;have ew:=f7.size);refine hK.out _ _ ce (fun hZ=> ?_);clear hZ hK K;try simp only [Aj,zl]
 refine tkG 6 ce (h:=?_);simp only [zl];refine Bt 5 (by kernel_rfl) rfl (fun K hK=> ?_);go_simp;go_wp2_with (go_at_call 133;(with_reducible refine (Ab1 _ _ _ _ _ _ bc.hist.rd (Ab8 _) (by omega)).mono ?_);rintro _ w8 ⟨A8,c8,rfl,o8,f8⟩;have az:=ce.fr f8 zq;have dl:=dh.fr f8 zq;have bx:=bc.fr f8 zr;have dz:=dx.trans f8 zr;have eu:=f8.size);refine hK.out _ _ az (fun hZ=> ?_);clear hZ hK K;try simp only [Aj,zl]
 refine Cs (by kernel_rfl) ?_;have k9:cS w8 w.heap.size 9 x.pathA x.path.length x.pathC:=(az.cell 9).trans e9.out;have z9:=az.frozen 9;have cn:cS w8 w.heap.size 24 x.histA x.hist.length x.histC:=(az.cell 24).trans bj.out;have eg:=az.frozen 24;refine oG 7 (fun K hK=> ?_);go_simp;refine hK.out _ _ trivial (fun hZ=> ?_);clear hZ hK K;try simp only [Aj,zl]
 refine oG 8 (fun K hK=> ?_);go_simp;refine hK.out _ _ trivial (fun hZ=> ?_);clear hZ hK K;try simp only [Aj,zl]
 refine oG 9 (fun K hK=> ?_);go_simp;refine hK.out _ _ trivial (fun hZ=> ?_);clear hZ hK K;try simp only [Aj,zl]
 refine oD ?_;go_simp;obtain ⟨cf,ax⟩:=Aa ({x with pastA:=A1,pastC:=c1,bodyA:=A2,bodyC:=c2,refsA:=A3,refsC:=c3,guardsA:=A4,guardsC:=c4,boxesA:=A5,boxesC:=c5,pathA:=A7,pathC:=c7,histA:=A8,histC:=c8}:OpL).cells
 have cr:Blk ((w8.setCell ⟨w.heap.size,9,none⟩ (.slice A7 x.path.length c7)).setCell ⟨w.heap.size,24,none⟩ (.slice A8 x.hist.length c8)) w.heap.size 52 cf:=by
  rw [<- ax.out];rw [<- al.out] at az;exact (az.set 9 _).set 24 _
 have ak:Fr (One w.heap.size) w8 ((w8.setCell ⟨w.heap.size,9,none⟩ (.slice A7 x.path.length c7)).setCell ⟨w.heap.size,24,none⟩ (.slice A8 x.hist.length c8)):=((Fr.refl (One w.heap.size) w8).setCell (p:=⟨w.heap.size,9,none⟩) (fun _=>rfl) _).setCell (p:=⟨w.heap.size,24,none⟩) (fun _=>rfl) _;have du:=dl.fr ak (fun e=>by have e':w.heap.size+1=w.heap.size:=e;omega);have ba:x.at ((w8.setCell ⟨w.heap.size,9,none⟩ (.slice A7 x.path.length c7)).setCell ⟨w.heap.size,24,none⟩ (.slice A8 x.hist.length c8)) w.heap.size:=bx.fr ak (fun j hj e=>by have e':j=w.heap.size:=e;omega);have dw:Fr Non w ((w8.setCell ⟨w.heap.size,9,none⟩ (.slice A7 x.path.length c7)).setCell ⟨w.heap.size,24,none⟩ (.slice A8 x.hist.length c8)):=dz.trans ak (fun j hj e=>by have e':j=w.heap.size:=e;omega);have bi:=f7.trans f8 zr;have et:w8.heap.size<=((w8.setCell ⟨w.heap.size,9,none⟩ (.slice A7 x.path.length c7)).setCell ⟨w.heap.size,24,none⟩ (.slice A8 x.hist.length c8)).heap.size:=ak.size;have N6:w.heap.size+2<=w6.drew.heap.size:=d2;have b1:∀k,Ac A1=some k->w.heap.size+2<=k/\k<w6.drew.heap.size:=p1.row;have q1:=(p1.fr bi zr).fr ak (fun j hj e=>by have h1:=(b1 j hj).1;have e':j=w.heap.size:=e;omega);have b2:∀k,Ac A2=some k->w.heap.size+2<=k/\k<w6.drew.heap.size:=p2.row;have q2:=(p2.fr bi zr).fr ak (fun j hj e=>by have h1:=(b2 j hj).1;have e':j=w.heap.size:=e;omega);have b3:∀k,Ac A3=some k->w.heap.size+2<=k/\k<w6.drew.heap.size:=p3.row;have q3:=(p3.fr bi zr).fr ak (fun j hj e=>by have h1:=(b3 j hj).1;have e':j=w.heap.size:=e;omega);have b4:∀k,Ac A4=some k->w.heap.size+2<=k/\k<w6.drew.heap.size:=p4.row;have q4:=(p4.fr bi zr).fr ak (fun j hj e=>by have h1:=(b4 j hj).1;have e':j=w.heap.size:=e;omega);have b5:∀k,Ac A5=some k->w.heap.size+2<=k/\k<w6.drew.heap.size:=p5.row;have q5:=(p5.fr bi zr).fr ak (fun j hj e=>by have h1:=(b5 j hj).1;have e':j=w.heap.size:=e;omega);have b7:=o7.row;have b8:=o8.row;have q7:=((o7.lower (base':=w.heap.size+2) N6).fr f8 zr).fr ak (fun j hj e=>by have h1:=(b7 j hj).1;have e':j=w.heap.size:=e;omega);have q8:=(o8.lower (base':=w.heap.size+2) (by omega)).fr ak (fun j hj e=>by have h1:=(b8 j hj).1;have e':j=w.heap.size:=e;omega);clear a0 ce az cc dh dl b0 dx dz ao bc bx f7 f8 bi ak o7 o8 p1 p2 p3 p4 p5 e9 bj k9 cn z9 eg al;generalize ((w8.setCell ⟨w.heap.size,9,none⟩ (.slice A7 x.path.length c7)).setCell ⟨w.heap.size,24,none⟩ (.slice A8 x.hist.length c8))=w9 at*;have e9:Hid (cf[9]? =some (.slice A7 x.path.length c7)):=by show _=_;rw [<- ax.out];rfl
 have bj:Hid (cf[24]? =some (.slice A8 x.hist.length c8)):=by show _=_;rw [<- ax.out];rfl
 have k9:cS w9 w.heap.size 9 A7 x.path.length c7:=(cr.cell 9).trans e9.out;obtain ⟨np,cb⟩:=Aa x.path.length;obtain ⟨nh,b6⟩:=Aa x.hist.length;rw [cb.out] at k9 e9 bm q7;rw [b6.out] at bj bw q8;go_wp2_with fail
 go_loopw [36] (fun v wr=>∃(k:Nat) (L:List NdL),v=.int .i64 (k:Int)/\k<=np/\Hid (L.map NdL.nd=x.path.map NdL.nd)/\Hid (L.drop k=x.path.drop k)/\Own wr (w.heap.size+2) 112 2 A7 np c7 (L.flatMap NdL.cells)/\Hid (∀y∈L.take k,Own wr w9.heap.size 103 4 y.A y.xs.length y.c (y.xs.flatMap Bx.cells))/\Fr (fun b=>Ac A7=some b) w9 wr) (fun v _=>np-(intOf v).toNat)
 case atStart=>exact ⟨0,x.path,rfl,by omega,rfl,rfl,q7,(fun _ h=>by simp at h),Fr.refl _ _⟩
 case round=>
  obtain ⟨k,L,rfl,hk,ad,ac,af,aa,hf⟩:=hrel
  by_cases hlt:k<np
  ·
   obtain ⟨i1,i2,i3⟩:=ix k np
   obtain ⟨y,hy⟩:∃y,x.path[k]? =some y:=⟨_,Ay1 (by rw [cb.out];exact hlt)⟩;have av:L[k]? =some y:=(Ms ac.out).trans hy;have ap:=Ay2 hy;have da:=a4.out y ap;obtain ⟨g,hA,cg,ek,ae,bf,_⟩:=Own.setAt af (j:=k*2+1) (by omega) (.int .i64 0);have a6:=(ba.nodes y ap).fr hf (fun j hj e=>by have h1:=(b7 j e).1;omega);have d0:cS wr g (k*2+1) y.A y.xs.length y.c:=ae _ (by rw [Gf (f:=NdL.cells) (fun _=>rfl) L k 1 y av (by omega)];rfl);have kk:cS wr w.heap.size 9 A7 np c7:=hf.cell k9 (fun e=>by have h1:w6.drew.heap.size<=w.heap.size:=(b7 _ e).1;omega);have d6:w.heap.size+2<=g:=cg;rw [hA] at kk
   have ag:∀(wv:World) (u:Value),Fr Non wr wv->cS wv g (k*2+1) y.A y.xs.length y.c/\wv.frozen? ⟨g,k*2+1,none⟩=false/\Own (wv.setCell ⟨g,k*2+1,none⟩ u) (w.heap.size+2) 112 2 A7 np c7 ((L.flatMap NdL.cells).set (k*2+1) u):=by
    intro wv u bl;obtain ⟨g2,bn,_,_,en,be,cx⟩:=Own.setAt (af.fr bl zr) (j:=k*2+1) (by omega) u;rw [hA] at bn;have cv:g=g2:=by injection bn with e;injection e
    subst cv;exact ⟨bl.cell d0 zq,be,cx⟩
   replace ag:=lh ag;replace hA:=lh hA;clear ae bf;go_upto_region 6 with (fail)
   refine Cx (S:=(fun w'=>cS w' w.heap.size 9 (some ⟨g,0,none⟩) np c7/\cS w' g (k*2+1) y.A y.xs.length y.c)) 10 (by kernel_rfl) ?_;have hS:(fun w'=>cS w' w.heap.size 9 (some ⟨g,0,none⟩) np c7/\cS w' g (k*2+1) y.A y.xs.length y.c) wr.drew:=⟨kk,d0⟩;have fd:Fr Non wr wr.drew:=(Fr.refl Non wr).drew;have ct:Rd wr.drew w.heap.size 4 y.A y.xs.length (y.xs.flatMap Bx.cells):=And.left (a6.fr fd zr);refine tkG 0 hS (h:=tkG 1 hS (h:=tkG 2 hS (h:=tkG 3 hS (h:=tkG 4 hS (h:=tkG 5 hS (h:=tkG 6 hS (h:=tkG 7 hS (h:=tkG 8 hS (h:=?_)))))))));simp only [zl];refine Bt 9 (by kernel_rfl) rfl (fun K hK=> ?_);go_simp;go_wp2_with (go_at_call 131;go_loud (with_reducible refine (Ra _ _ _ _ _ _ ct (Re _) da).mono ?_);rintro _ wv ⟨A',c',rfl,ov,fv⟩);have aw:=fd.trans fv zr;obtain ⟨d1,z1,cj⟩:=ag.out wv (.slice A' y.xs.length c') aw;refine hK.out _ _ ⟨aw.cell kk zq,d1⟩ (fun hZ=> ?_);clear hZ hK K;try simp only [Aj,zl]
   refine Cs (by kernel_rfl) ?_;refine oG 10 (fun K hK=> ?_);go_simp;refine hK.out _ _ trivial (fun hZ=> ?_);clear hZ hK K;try simp only [Aj,zl]
   refine oG 11 (fun K hK=> ?_);go_simp;refine hK.out _ _ trivial (fun hZ=> ?_);clear hZ hK K;try simp only [Aj,zl]
   refine oG 12 (fun K hK=> ?_);go_simp;refine hK.out _ _ trivial (fun hZ=> ?_);clear hZ hK K;try simp only [Aj,zl]
   refine oD ?_;go_simp;have ex:∃y':NdL,y'={y with A:=A',c:=c'}:=⟨_,rfl⟩;obtain ⟨y',a8⟩:=ex
   have a3:Own (wv.setCell ⟨g,k*2+1,none⟩ (.slice A' y.xs.length c')) (w.heap.size+2) 112 2 A7 np c7 ((L.set k y').flatMap NdL.cells):=by
    rw [<- H7 (f:=NdL.cells) (size:=2) (fun _=>rfl) (j:=1) (by omega) (.slice A' y.xs.length c') y' L k y av (by rw [a8];rfl)];exact cj
   have fs:Fr (One g) wv (wv.setCell ⟨g,k*2+1,none⟩ (.slice A' y.xs.length c')):=(Fr.refl (One g) wv).setCell (p:=⟨g,k*2+1,none⟩) (fun _=>rfl) _;have bt:Ac A7=some g:=by rw [hA.out];rfl
   have ck:=hf.size
   have aq:Hid (∀z∈(L.set k y').take (k+1),Own (wv.setCell ⟨g,k*2+1,none⟩ (.slice A' y.xs.length c')) w9.heap.size 103 4 z.A z.xs.length z.c (z.xs.flatMap Bx.cells)):=by
    intro z hz;rw [Mr L k y' av] at hz;have ej:g<w9.heap.size:=by have h1:=(b7 g bt).2;omega
    rcases List.mem_append.1 hz with hz|hz
    · exact ((aa.out z hz).fr aw zr).fr fs (fun j hj e=>by have h1:=((aa.out z hz).row j hj).1;have e':j=g:=e;omega)
    ·
     obtain rfl:=List.mem_singleton.1 hz;subst a8;exact (ov.lower ck).fr fs (fun j hj e=>by have h1:=(ov.row j hj).1;have h2:wr.drew.heap.size=wr.heap.size:=rfl;have e':j=g:=e;omega)
   have bg:Fr (fun b=>Ac A7=some b) w9 (wv.setCell ⟨g,k*2+1,none⟩ (.slice A' y.xs.length c')):=(hf.trans aw (fun _ _ e=>e.elim)).trans fs (fun j hj e=>by have e':j=g:=e;subst e';exact bt);have a9:Hid ((L.set k y').map NdL.nd=x.path.map NdL.nd):=(Rb NdL.nd L k av (by rw [a8];rfl)).trans ad.out;have ar:Hid ((L.set k y').drop (k+1)=x.path.drop (k+1)):=Rc _ _ k y' ac.out;generalize wv.setCell ⟨g,k*2+1,none⟩ (.slice A' y.xs.length c')=ws at*;generalize L.set k y'=L2 at*;go_wp2_with fail;go_roundw
   case rel=>exact ⟨k+1,L2,by go_num,by omega,a9,ar,a3,aq,bg⟩
   case measure=>simp [intOf];omega
  ·
   obtain rfl:np=k:=by omega
   have a7:L.length=x.path.length:=by have h1:=congrArg List.length ad.out;rwa [Ax8,Ax8] at h1
   rw [Ay5 (by rw [a7,cb.out];exact Ax9 _)] at aa;obtain ⟨bh,dc⟩:∃u,u=wr:=⟨_,rfl⟩;subst dc;have d3:=hf.size;have bv:=cr.fr hf (fun e=>by have h1:w6.drew.heap.size<=w.heap.size:=(b7 _ e).1;omega);have ch:=du.fr hf (fun e=>by have h1:w6.drew.heap.size<=w.heap.size+1:=(b7 _ e).1;omega);have bz:=ba.fr hf (fun j hj e=>by have h1:=(b7 j e).1;omega);have cm:=dw.trans hf (fun j hj e=>by have h1:=(b7 j e).1;omega);have t1:=q1.fr hf (fun j hj e=>by have h1:=(b1 j hj).2;have h2:=(b7 j e).1;omega);have t2:=q2.fr hf (fun j hj e=>by have h1:=(b2 j hj).2;have h2:=(b7 j e).1;omega);have t3:=q3.fr hf (fun j hj e=>by have h1:=(b3 j hj).2;have h2:=(b7 j e).1;omega);have t4:=q4.fr hf (fun j hj e=>by have h1:=(b4 j hj).2;have h2:=(b7 j e).1;omega);have t5:=q5.fr hf (fun j hj e=>by have h1:=(b5 j hj).2;have h2:=(b7 j e).1;omega);have t8:=q8.fr hf (fun j hj e=>by have h1:=(b8 j hj).1;have h2:=(b7 j e).2;omega);have t7:=af;have a2:=ad;have ai:=aa;have br:=lh a7;clear ad aa ac af hlt hk a7 hf cr du ba dw q1 q2 q3 q4 q5 q7 q8 k9;obtain ⟨L7,ep⟩:∃u,u=L:=⟨_,rfl⟩;subst ep;have cn:cS bh w.heap.size 24 A8 nh c8:=(bv.cell 24).trans bj.out;go_wp2_with fail
   go_loopw [55] (fun v wr=>∃(k:Nat) (L:List SlL),v=.int .i64 (k:Int)/\k<=nh/\Hid (L.map SlL.sl=x.hist.map SlL.sl)/\Hid (L.drop k=x.hist.drop k)/\Own wr (w.heap.size+2) 119 4 A8 nh c8 (L.flatMap SlL.cells)/\Hid (∀y∈L.take k,Own wr bh.heap.size 5 1 y.A y.y.length y.c (y.y.map Bv))/\Fr (fun b=>Ac A8=some b) bh wr) (fun v _=>nh-(intOf v).toNat)
   case atStart=>exact ⟨0,x.hist,rfl,by omega,rfl,rfl,t8,(fun _ h=>by simp at h),Fr.refl _ _⟩
   case round=>
    obtain ⟨k,L,rfl,hk,ad,ac,af,aa,hf⟩:=hrel
    by_cases hlt:k<nh
    ·
     obtain ⟨i1,i2,i3⟩:=ix k nh
     obtain ⟨y,hy⟩:∃y,x.hist[k]? =some y:=⟨_,Ay1 (by rw [b6.out];exact hlt)⟩;have av:L[k]? =some y:=(Ms ac.out).trans hy;have ap:=Ay2 hy;have da:=a5.out y ap;obtain ⟨g,hA,cg,ek,ae,bf,_⟩:=Own.setAt af (j:=k*4+3) (by omega) (.int .i64 0);have a6:=(bz.seals y ap).fr hf (fun j hj e=>by have h1:=(b8 j e).1;omega);have d0:cS wr g (k*4+3) y.A y.y.length y.c:=ae _ (by rw [Gf (f:=SlL.cells) (fun _=>rfl) L k 3 y av (by omega)];rfl);have kk:cS wr w.heap.size 24 A8 nh c8:=hf.cell cn (fun e=>by have h1:w7.heap.size<=w.heap.size:=(b8 _ e).1;omega);have d6:w.heap.size+2<=g:=cg;rw [hA] at kk
     have ag:∀(wv:World) (u:Value),Fr Non wr wv->cS wv g (k*4+3) y.A y.y.length y.c/\wv.frozen? ⟨g,k*4+3,none⟩=false/\Own (wv.setCell ⟨g,k*4+3,none⟩ u) (w.heap.size+2) 119 4 A8 nh c8 ((L.flatMap SlL.cells).set (k*4+3) u):=by
      intro wv u bl;obtain ⟨g2,bn,_,_,en,be,cx⟩:=Own.setAt (af.fr bl zr) (j:=k*4+3) (by omega) u;rw [hA] at bn;have cv:g=g2:=by injection bn with e;injection e
      subst cv;exact ⟨bl.cell d0 zq,be,cx⟩
     replace ag:=lh ag;replace hA:=lh hA;clear ae bf;go_upto_region 11 with (fail)
     refine Cx (S:=(fun w'=>cS w' w.heap.size 24 (some ⟨g,0,none⟩) nh c8/\cS w' g (k*4+3) y.A y.y.length y.c)) 10 (by kernel_rfl) ?_;have hS:(fun w'=>cS w' w.heap.size 24 (some ⟨g,0,none⟩) nh c8/\cS w' g (k*4+3) y.A y.y.length y.c) wr.drew:=⟨kk,d0⟩;have fd:Fr Non wr wr.drew:=(Fr.refl Non wr).drew;have ct:Rd wr.drew w.heap.size 1 y.A y.y.length (y.y.map Bv):=And.left (a6.fr fd zr);refine tkG 0 hS (h:=tkG 1 hS (h:=tkG 2 hS (h:=tkG 3 hS (h:=tkG 4 hS (h:=tkG 5 hS (h:=tkG 6 hS (h:=tkG 7 hS (h:=tkG 8 hS (h:=?_)))))))));simp only [zl];refine Bt 9 (by kernel_rfl) rfl (fun K hK=> ?_);go_simp;go_wp2_with (go_at_call 128;go_loud (with_reducible refine (Q9 _ _ _ _ _ _ ct (Jt Bv (fun _=>rfl) _) da).mono ?_);rintro _ wv ⟨A',c',rfl,ov,fv⟩);have aw:=fd.trans fv zr;obtain ⟨d1,z1,cj⟩:=ag.out wv (.slice A' y.y.length c') aw;refine hK.out _ _ ⟨aw.cell kk zq,d1⟩ (fun hZ=> ?_);clear hZ hK K;try simp only [Aj,zl]
     refine Cs (by kernel_rfl) ?_;refine oG 10 (fun K hK=> ?_);go_simp;refine hK.out _ _ trivial (fun hZ=> ?_);clear hZ hK K;try simp only [Aj,zl]
     refine oG 11 (fun K hK=> ?_);go_simp;refine hK.out _ _ trivial (fun hZ=> ?_);clear hZ hK K;try simp only [Aj,zl]
     refine oG 12 (fun K hK=> ?_);go_simp;refine hK.out _ _ trivial (fun hZ=> ?_);clear hZ hK K;try simp only [Aj,zl]
     refine oD ?_;go_simp;have ex:∃y':SlL,y'={y with A:=A',c:=c'}:=⟨_,rfl⟩;obtain ⟨y',a8⟩:=ex
     have a3:Own (wv.setCell ⟨g,k*4+3,none⟩ (.slice A' y.y.length c')) (w.heap.size+2) 119 4 A8 nh c8 ((L.set k y').flatMap SlL.cells):=by
      rw [<- H7 (f:=SlL.cells) (size:=4) (fun _=>rfl) (j:=3) (by omega) (.slice A' y.y.length c') y' L k y av (by rw [a8];rfl)];exact cj
     have fs:Fr (One g) wv (wv.setCell ⟨g,k*4+3,none⟩ (.slice A' y.y.length c')):=(Fr.refl (One g) wv).setCell (p:=⟨g,k*4+3,none⟩) (fun _=>rfl) _;have bt:Ac A8=some g:=by rw [hA.out];rfl
     have ck:=hf.size
     have aq:Hid (∀z∈(L.set k y').take (k+1),Own (wv.setCell ⟨g,k*4+3,none⟩ (.slice A' y.y.length c')) bh.heap.size 5 1 z.A z.y.length z.c (z.y.map Bv)):=by
      intro z hz;rw [Mr L k y' av] at hz;have ej:g<bh.heap.size:=by have h1:=(b8 g bt).2;omega
      rcases List.mem_append.1 hz with hz|hz
      · exact ((aa.out z hz).fr aw zr).fr fs (fun j hj e=>by have h1:=((aa.out z hz).row j hj).1;have e':j=g:=e;omega)
      ·
       obtain rfl:=List.mem_singleton.1 hz;subst a8;exact (ov.lower ck).fr fs (fun j hj e=>by have h1:=(ov.row j hj).1;have h2:wr.drew.heap.size=wr.heap.size:=rfl;have e':j=g:=e;omega)
     have bg:Fr (fun b=>Ac A8=some b) bh (wv.setCell ⟨g,k*4+3,none⟩ (.slice A' y.y.length c')):=(hf.trans aw (fun _ _ e=>e.elim)).trans fs (fun j hj e=>by have e':j=g:=e;subst e';exact bt);have a9:Hid ((L.set k y').map SlL.sl=x.hist.map SlL.sl):=(Rb SlL.sl L k av (by rw [a8];rfl)).trans ad.out;have ar:Hid ((L.set k y').drop (k+1)=x.hist.drop (k+1)):=Rc _ _ k y' ac.out;generalize wv.setCell ⟨g,k*4+3,none⟩ (.slice A' y.y.length c')=ws at*;generalize L.set k y'=L2 at*;go_wp2_with fail;go_roundw
     case rel=>exact ⟨k+1,L2,by go_num,by omega,a9,ar,a3,aq,bg⟩
     case measure=>simp [intOf];omega
    ·
     obtain rfl:nh=k:=by omega
     have a7:L.length=x.hist.length:=by have h1:=congrArg List.length ad.out;rwa [Ax8,Ax8] at h1
     rw [Ay5 (by rw [a7,b6.out];exact Ax9 _)] at aa;obtain ⟨bd,c9⟩:∃u,u=wr:=⟨_,rfl⟩;subst c9;have c0:=bv.fr hf (fun e=>by have h1:w7.heap.size<=w.heap.size:=(b8 _ e).1;omega);have bb:=ch.fr hf (fun e=>by have h1:w7.heap.size<=w.heap.size+1:=(b8 _ e).1;omega);have db:=cm.trans hf (fun j hj e=>by have h1:=(b8 j e).1;omega);have s1:=(t1.fr hf (fun j hj e=>by have h1:=(b1 j hj).2;have h2:=(b8 j e).1;omega)).lower (base':=w.heap.size) (by omega);have s2:=(t2.fr hf (fun j hj e=>by have h1:=(b2 j hj).2;have h2:=(b8 j e).1;omega)).lower (base':=w.heap.size) (by omega);have s3:=(t3.fr hf (fun j hj e=>by have h1:=(b3 j hj).2;have h2:=(b8 j e).1;omega)).lower (base':=w.heap.size) (by omega);have s4:=(t4.fr hf (fun j hj e=>by have h1:=(b4 j hj).2;have h2:=(b8 j e).1;omega)).lower (base':=w.heap.size) (by omega);have s5:=(t5.fr hf (fun j hj e=>by have h1:=(b5 j hj).2;have h2:=(b8 j e).1;omega)).lower (base':=w.heap.size) (by omega);have s7:=(t7.fr hf (fun j hj e=>by have h1:=(b7 j hj).2;have h2:=(b8 j e).1;omega)).lower (base':=w.heap.size) (by omega);have s8:=af.lower (base':=w.heap.size) (by omega);have d7:∀j,w9.heap.size<=j->¬(Ac A8=some j):=fun j hj e=>by have h2:=(b8 j e).2;omega
     have r7:Hid (∀y∈L7,Own bd w.heap.size 103 4 y.A y.xs.length y.c (y.xs.flatMap Bx.cells)):=fun y hy=>((ai.out y hy).fr hf (fun j hj e=>d7 j ((ai.out y hy).row j hj).1 e)).lower (by omega);have r8:Hid (∀y∈L,Own bd w.heap.size 5 1 y.A y.y.length y.c (y.y.map Bv)):=fun y hy=>(aa.out y hy).lower (by omega);obtain ⟨v,hv⟩:∃v:OpL,v={x with pastA:=A1,pastC:=c1,bodyA:=A2,bodyC:=c2,refsA:=A3,refsC:=c3,guardsA:=A4,guardsC:=c4,boxesA:=A5,boxesC:=c5,pathA:=A7,pathC:=c7,histA:=A8,histC:=c8,path:=L7,hist:=L}:=⟨_,rfl⟩
     have di:v.op=x.op:=by
      rw [hv];unfold OpL.op;simp only [a2.out,ad.out]
     have bs:v.own bd w.heap.size:=by
      rw [cb.out.symm,<- br.out] at s7;rw [b6.out.symm,<- a7] at s8;rw [hv];exact ⟨RowAt.of_own s1,RowAt.of_own s7,(fun y hy=>RowAt.of_own (r7.out y hy)),RowAt.of_own s2,RowAt.of_own s3,RowAt.of_own s4,RowAt.of_own s5,RowAt.of_own s8,(fun y hy=>RowAt.of_own (r8.out y hy))⟩
     have eo:Blk bd w.heap.size 52 v.cells:=by
      have hc:v.cells=cf:=by
       rw [<- ax.out,hv];unfold OpL.cells;simp only [br.out,a7]
      rw [hc];exact c0
     clear hv a2 ad r7 r8 s1 s2 s3 s4 s5 s7 s8 ai aa t1 t2 t3 t4 t5 t7 t8;have bo:=Ds v
     have er:Hid (∀wz,Fr (One (w.heap.size+1)) bd wz->POST (.returned (.agg v.cells)) wz):=by
      intro wz hz;exact ay.out v wz di (bs.keepP hz (Types.one bb) (by decide) (by decide) (by decide) (by decide) (by decide) (by decide) (by decide)) (db.trans hz (fun k hk e=>absurd hk (by have e':k=w.heap.size+1:=e;omega)))
     clear di bs ay;have bp:True:=trivial
     go_wp2_with (first
      |(have _t:=bp;refine I6 rfl 52 (.tmp 1) rfl rfl eo underlying52 rfl hi ?_;clear bp _t)
      |(refine Hy rfl 52 (.tmp 2) (.tmp 71) rfl rfl rfl rfl bb hi rfl bo ?_;have bf:=(Fr.refl (One (w.heap.size+1)) bd).setRow (g:=w.heap.size+1) (fun _=>rfl) v.cells;have be:=bb.setRow (cs:=v.cells);generalize bd.setRow (w.heap.size+1) v.cells=wz at bf be ⊢;(repeat (first|go_values|go_skip|go_guarded|go_step));exact Dn (t:=52) rfl rfl be rfl underlying52 (by kernel_rfl) rfl (er.out wz bf)))
end Oq
namespace Oq
attribute [local go_sem ↓] Bo Di
attribute [local go_sem] Bool.not_false Bool.not_true
theorem Gm {P:Program} {t:TypeId} {d:TypeDesc} (cs:Array Value) (b o:Nat) (hu:P.underlying t=some d) (hd:d.isRow=true) (hi:(P.info? t).map (·.size)=some cs.size):
  ∀w',World.rangeAt w' b o cs.toList->(ldS t (.pointer (some ⟨b,o,none⟩))).run P w'=.ok (.agg cs) w':=fun w' h=>by
 have:=run_loadAt_mid (P:=P) w' b o t cs.toList d h hu hd (by rw [hi];simp);unfold ldS;rw [this]
def Hg (r:Option OpL) (w:World) (e:Ending) (w':World):Prop:=
 match r with
 |none=>e=.returned (.tuple #[.agg OpL.zero.cells,.bool false])/\Fr Non w w'
 |some x=>∃y:OpL,e=.returned (.tuple #[.agg y.cells,.bool true])/\y.op=x.op/\y.own w' w.heap.size/\Fr Non w w'
def Gph.opOf (g:Gph) (id:Id):Option OpL:=match place g.nodes id with|some i=>g.nodes[i]?.map Ak.x|none=>none
theorem Ab9 (base:Nat) (g:Gph) (id:Id) (w:World) (hg:GAt w base g) (hid:id.ok):Calls zp 27 #[.pointer (some ⟨g.gb,0,none⟩),.agg id.V] w (Hg (g.opOf id) w):=by
 have hi:(zp.info? 52).map (·.size)=some 27:=by kernel_rfl
 have f1:Fr Non w (w.alloc (.cells id.V 45)):=(Fr.refl Non w).alloc _;have f0:=f1.alloc (.cells zO 52);have ad:=(Blk.new w 45 id.V).alloc (.cells zO 52);have br:=Blk.new (w.alloc (.cells id.V 45)) 52 zO;rw [Ax3] at br;have au:((w.alloc (.cells id.V 45)).alloc (.cells zO 52)).heap.size=w.heap.size+2:=by rw [Ax3,Ax3]
 have ab:=hg.fr f0;generalize hw0:((w.alloc (.cells id.V 45)).alloc (.cells zO 52))=w0 at*;have i0:cI w0 w.heap.size 0 id.b:=ad.cell 0;have i1:cI w0 w.heap.size 1 id.s:=ad.cell 1;have i2:cU w0 w.heap.size 2 id.u:=ad.cell 2;have c1:w0.cell? ⟨g.gb,1,none⟩=some (.map (some g.mb)):=ab.blk.cell 1;have c2:cS w0 g.gb 2 g.nA g.nodes.length g.nC:=ab.blk.cell 2;have aa:=ab.map;have ac:=fun (w':World) (h:MapAt w' g.mb g.mm (place g.nodes))=>MapAt.look h id hid;have ag:Hid (g.opOf id=match place g.nodes id with|some i=>g.nodes[i]?.map Ak.x|none=>none):=rfl;generalize g.opOf id=R at*
 cases hp:place g.nodes id
 ·
  have hR:R=none:=by rw [ag.out,hp]
  have aj:Hid (∀wz,Fr (One (w.heap.size+1)) w0 wz->Hg R w (.returned (.tuple #[.agg OpL.zero.cells,.bool false])) wz):=by
   intro wz hz;rw [hR];exact ⟨rfl,f0.trans hz (fun k hk e=>absurd hk (by have e':k=w.heap.size+1:=e;omega))⟩
  clear hR ag;generalize Hg R w=POST at*;rw [hp] at ac;clear hg ab ad hp;go_enter func27,ntmps27;go_wp2_with fail;clear hw0;refine wp_region_held_drew (S:=(fun w'=>cI w' w.heap.size 0 id.b/\cI w' w.heap.size 1 id.s/\cU w' w.heap.size 2 id.u/\w'.cell? ⟨g.gb,1,none⟩=some (.map (some g.mb))/\MapAt w' g.mb g.mm (place g.nodes))) (by kernel_rfl) ⟨i0,i1,i2,c1,aa⟩ (fun hS=> ?_);replace f0:=f0.drew;replace br:=br.drew;refine tkH 0 hS (h:=tkH 1 hS (h:=tkH 2 hS (h:=tkH 3 hS (h:=tkH 4 hS (h:=tkH 5 hS (h:=tkH 6 hS (h:=tkH 7 hS (h:=tkH 8 hS (h:=tkH 9 hS (h:=tkH 10 hS (h:=?_)))))))))));simp only [zl];refine oD ?_;go_simp;have fz:=((Fr.refl (One (w.heap.size+1)) w0).drew).setRow (g:=w.heap.size+1) (fun _=>rfl) zO;have ah:=br.setRow (cs:=zO);have a3:=Ch (P:=zp) (t:=52) (old:=zO) (cs:=zO) (w.heap.size+1) 52 hi rfl (Ds OpL.zero);go_wp2_with fail
  (try simp only [Exit.inBlock,Exit.then])
  refine Ha (t:=52) rfl rfl ah rfl underlying52 (by kernel_rfl) rfl ?_;exact aj.out _ fz
 ·
  rename_i i;obtain ⟨n,hn,_⟩:=Hz hp;have hR:R=some n.x:=by rw [ag.out,hp];simp [hn]
  have a1:=hg.few;have ax:i<g.nodes.length:=(List.getElem?_eq_some_iff.1 hn).1;have al:=(ab.node n (Ay2 hn)).at_;have ap:=(ab.node n (Ay2 hn)).ok;obtain ⟨b,ak,hA,ay,hc⟩:=ab.cell hn
  have av:World.rangeAt w0.drew b (ak+i*35) n.x.cells.toList:=by
   intro j v hv;have hj:j<27:=(List.getElem?_eq_some_iff.1 hv).1;exact hc j (by omega) v (by unfold Ak.cells;rw [Az1 (by show j<27;exact hj)];exact hv)
  have aw:=Gm (P:=zp) n.x.cells b (ak+i*35) underlying52 rfl hi;rw [hA] at c2;obtain ⟨j1,j2,j3⟩:=ix i g.nodes.length
  have j4:=iw (i:Int);rw [hp] at ac
  have aj:Hid (∀(y:OpL) wz,y.op=n.x.op->y.own wz w.heap.size->Fr Non w wz->Hg R w (.returned (.tuple #[.agg y.cells,.bool true])) wz):=by
   intro y wz h1 h2 h3;rw [hR];exact ⟨y,rfl,h1,h2,h3⟩
  clear hR ag hg ab ad hp hn ax hc hA ay;generalize Hg R w=POST at*;generalize g.nodes.length=nn at*;generalize n.x=x at*;have kc:=lh (fun w' (h:x.at w' w'.heap.size)=>Rf x w' h ap);obtain ⟨CX,ar⟩:=Aa x.cells;rw [ar.out] at av aw kc;go_enter func27,ntmps27;go_wp2_with fail;clear hw0;have aq:=c2;refine wp_region_held_drew (S:=(fun w'=>cI w' w.heap.size 0 id.b/\cI w' w.heap.size 1 id.s/\cU w' w.heap.size 2 id.u/\w'.cell? ⟨g.gb,1,none⟩=some (.map (some g.mb))/\MapAt w' g.mb g.mm (place g.nodes))) (by kernel_rfl) ⟨i0,i1,i2,c1,aa⟩ (fun hS=> ?_);replace f0:=f0.drew;replace br:=br.drew;refine tkH 0 hS (h:=tkH 1 hS (h:=tkH 2 hS (h:=tkH 3 hS (h:=tkH 4 hS (h:=tkH 5 hS (h:=tkH 6 hS (h:=tkH 7 hS (h:=tkH 8 hS (h:=tkH 9 hS (h:=tkH 10 hS (h:=?_)))))))))));simp only [zl];refine oD ?_;go_simp;replace aq:cS w0.drew g.gb 2 (some ⟨b,ak,none⟩) nn g.nC:=aq;have ae:=OpL.frame al ((Fr.refl Non w0).drew)
  go_wp2_with (first
   |(go_at_call 74;(with_reducible refine (kc.out _ ae).mono ?_);rintro _ w1 ⟨y,rfl,a0,ai,fy⟩;have ao:=br.fr fy zq;have af:=Ds y;have az:=f0.trans fy zr;have a2:w0.drew.heap.size=w.heap.size+2:=au)
   |(refine Hy rfl 52 (.tmp 4) (.tmp 28) rfl rfl rfl rfl ao hi rfl af ?_;have fz:=((Fr.refl (One (w.heap.size+1)) w1)).setRow (g:=w.heap.size+1) (fun _=>rfl) y.cells;have ah:=ao.setRow (cs:=y.cells);generalize w1.setRow (w.heap.size+1) y.cells=wz at fz ah ⊢))
  (try simp only [Exit.inBlock,Exit.then])
  refine Ha (t:=52) rfl rfl ah rfl underlying52 (by kernel_rfl) rfl ?_;exact aj.out y _ a0 ((ai.keep fz ((Types.one ao).mono (fun t e=> .inl e))).lower (by omega)) (az.trans fz (fun k hk e=>absurd hk (by have e':k=w.heap.size+1:=e;omega)))
end Oq
namespace Oq
attribute [local go_sem ↓] Bo Di
def Rg:Prop:=∀(base gv:Nat) (A:Option Addr) (c:Nat) (l:List Id) (p:Id->Bool) (w:World),Own w base 45 3 A l.length c (l.flatMap Id.cells)->l.length<=1000000->
 (∀x∈l,∀w':World,Fr (fun k=>Ac A=some k) w w'->Calls zp 87 #[.agg x.V,.pointer (some ⟨gv,0,none⟩)] w' (Ag (p x) w'))->
 Calls zp 85 #[.slice A l.length c,.func (.func 87) #[] #[.pointer (some ⟨gv,0,none⟩)]] w fun e w'=>
  ∃ys:List Id,ys=l.filter (fun x=> !p x)/\e=.returned (.slice A ys.length c)/\Rd w' w'.heap.size 3 A ys.length (ys.flatMap Id.cells)/\Fr (fun k=>Ac A=some k) w w'
def Hh (l:List Id) (w:World) (e:Ending) (w':World):Prop:=∃A c,e=.returned (.slice A l.length c)/\Rd w' w'.heap.size 3 A l.length (l.flatMap Id.cells)/\Fr Non w w'
theorem Jv (base:Nat) (g:Gph) (x:OpL) (w:World) (hdel:Rg) (hg:GAt w base g) (hat:x.at w w.heap.size) (hok:∀id∈x.past,id.ok) (hn:x.past.length<=1000000):
  Calls zp 42 #[.pointer (some ⟨g.gb,0,none⟩),.agg x.cells] w (Hh (x.past.filter (fun id=> !(place g.nodes id).isSome)) w):=by
 have e4:Hid (x.cells[4]? =some (.slice x.pastA x.past.length x.pastC)):=rfl;obtain ⟨CS,hCS⟩:=Aa x.cells;have f0:Fr Non w ((w.alloc (.cells #[.pointer (some ⟨g.gb,0,none⟩)] 67)).alloc (.cells CS 52)):=((Fr.refl Non w).alloc _).alloc _;have bg:=(Blk.new w 67 #[.pointer (some ⟨g.gb,0,none⟩)]).alloc (.cells CS 52);have bx:=Blk.new (w.alloc (.cells #[.pointer (some ⟨g.gb,0,none⟩)] 67)) 52 CS;rw [Ax3] at bx;rw [hCS.out] at e4 ⊢
 have hfin:Hid (∀(ys:List Id) A c w',ys=x.past.filter (fun id=> !(place g.nodes id).isSome)->Rd w' w'.heap.size 3 A ys.length (ys.flatMap Id.cells)->Fr Non w w'->Hh (x.past.filter (fun id=> !(place g.nodes id).isSome)) w (.returned (.slice A ys.length c)) w'):=by
  intro ys A c w' h1 h2 h3;subst h1;exact ⟨A,c,rfl,h2,h3⟩
 generalize Hh (x.past.filter (fun id=> !(place g.nodes id).isSome)) w=POST at*;go_enter func42,ntmps42;go_upto_region 1 with (fail)
 generalize (w.alloc (.cells #[.pointer (some ⟨g.gb,0,none⟩)] 67)).alloc (.cells CS 52)=w0 at*;have c4:cS w0 (w.heap.size+1) 4 x.pastA x.past.length x.pastC:=(bx.cell 4).trans e4.out;have kc:=lh (Mq _ _ x.pastC _ _ w0 (OpL.frame hat f0).past.rd (Id.cells_one _) hn);go_wp2_with fail;refine (kc.out).mono ?_;rintro _ w1 ⟨A1,c1,rfl,o1,f1⟩;have sz0:=f0.size;have f01:=f0.trans f1 zr;have bg1:=bg.fr f1 zq;have hrow:=o1.row
 have kd:=lh (hdel w0.heap.size w.heap.size A1 c1 x.past (fun id=>(place g.nodes id).isSome) w1 o1 hn (fun id hid w' hf=>by
  have hf':Fr Non w w':=f01.trans hf (fun j hj e=>by have h1:=(hrow j e).1;omega);refine (Aa4 base g w.heap.size id w' (hg.fr hf') ?_ (hok id hid));exact (bg1.fr hf (fun e=>by have h1:=(hrow _ e).1;have h2:=bg.lt;omega)).cell 0))
 have hff:Hid (∀w',Fr (fun k=>Ac A1=some k) w1 w'->Fr Non w w'):=fun w' hf=>f01.trans hf (fun j hj e=>by have h1:=(hrow j e).1;omega);clear kc hdel hg hat hok bg bx bg1 o1 f1 f0 f01;go_wp2_with fail;refine (kd.out).mono ?_;rintro _ w2 ⟨ys,hys,rfl,hrd,hf2⟩;have fin:=lh (hfin.out ys A1 c1 w2 hys hrd (hff.out w2 hf2));clear hfin hff kd hys hrd hf2;go_wp2_with fail;exact fin.out
end Oq
theorem Rh {P:Program} (w:World) (t e ty:TypeId) (z:Value) (ht:P.underlying t=some (.slice e)) (hv:∀w,(zeroValue e).run P w=.ok z w) (b o n c:Nat) (hn:0<n)
  (hc:∀j,j<(Builtin.zeroCells z.cells n).toList.length->(w.cell? ⟨b,o+j,none⟩).isSome=true) (hf:∀j,j<(Builtin.zeroCells z.cells n).toList.length->w.frozen? ⟨b,o+j,none⟩=false)
  (h1:∀v∈(Builtin.zeroCells z.cells n).toList,v.oneCell'=true):
  (Builtin.clear_ #[t] ty #[.slice (some ⟨b,o,none⟩) n c]).run P w=.ok (.tuple #[]) (w.setCells b o (Builtin.zeroCells z.cells n).toList):=by
 have hst:=run_storeCells_cells (P:=P) b o (Builtin.zeroCells z.cells n).toList 0 w (by simpa using hc) (by simpa using hf) h1;simp only [Nat.add_zero] at hst;obtain ⟨m,rfl⟩:∃m,n=m+1:=⟨n-1,by omega⟩;simp [Builtin.clear_,run_underlying ht,hv,hst]
theorem Jw (g:Nat):∀(vs:List Value) (o:Nat) (w:World),Fr (One g) w (w.setCells g o vs)
 |[],_,_=>Fr.refl _ _
 |v::vs,o,w=>((Fr.refl (One g) w).setCell (p:=⟨g,o,none⟩) (fun _=>rfl) v).trans (Jw g vs (o+1) _) zr
namespace Oq
theorem Ri {α:Type} (l:List α) (p:α->Bool) (h:l.any p=false):l.filter (fun x=> !p x)=l:=by
 rw [List.filter_eq_self];intro x hx;rw [List.any_eq_false] at h;simpa using h x hx
theorem Rj {α:Type} (l:List α) (p:α->Bool) {k:Nat} {x:α} (h:l[k]? =some x):(l.take (k+1)).filter p=(l.take k).filter p++(if p x then [x] else []):=by
 obtain ⟨hk,rfl⟩:=List.getElem?_eq_some_iff.1 h;rw [Az0 hk,List.filter_append];congr 1
 cases hp:p l[k]<;>simp [hp]
theorem Own.putId {w:World} {base n c g:Nat} {l:List Id} (h:Own w base 45 3 (some ⟨g,0,none⟩) n c (l.flatMap Id.cells)) {i:Nat} {y:Id} (hy:l[i]? =some y) (hi:i<n) (x:Id):
  (∀j,j<3->(w.cell? ⟨g,i*3+j,none⟩).isSome=true/\w.frozen? ⟨g,i*3+j,none⟩=false)/\
  Own (((w.setCell ⟨g,i*3,none⟩ (.int .i64 x.b)).setCell ⟨g,i*3+1,none⟩ (.int .i64 x.s)).setCell ⟨g,i*3+2,none⟩ (.int .u64 (x.u:Int))) base 45 3 (some ⟨g,0,none⟩) n c ((l.set i x).flatMap Id.cells):=by
 constructor
 ·
  intro j hj;obtain ⟨g2,hA,_,_,hc,hz,_⟩:=Own.setAt h (j:=i*3+j) (by omega) (.int .i64 0);have hgg:g=g2:=by injection hA with e;injection e
  subst hgg;have hl:(l.flatMap Id.cells)[i*3+j]? =y.cells[j]? :=Gf (f:=Id.cells) (fun _=>rfl) l i j y hy hj;have hyj:∃v,y.cells[j]? =some v:=⟨_,Ay1 (by show j<3;exact hj)⟩;obtain ⟨v,hv⟩:=hyj;exact ⟨by rw [hc v (hl.trans hv)];rfl,hz⟩
 ·
  have step:∀(w:World) (xs:List Value) (j:Nat) (u:Value),Own w base 45 3 (some ⟨g,0,none⟩) n c xs->j<n*3->Own (w.setCell ⟨g,j,none⟩ u) base 45 3 (some ⟨g,0,none⟩) n c (xs.set j u):=by
   intro w xs j u h hj;obtain ⟨g2,hA,_,_,_,_,ho⟩:=Own.setAt h (j:=j) hj u;have hgg:g=g2:=by injection hA with e;injection e
   subst hgg;exact ho
  have h1:=step _ _ (i*3) (.int .i64 x.b) h (by omega);have h2:=step _ _ (i*3+1) (.int .i64 x.s) h1 (by omega);have h3:=step _ _ (i*3+2) (.int .u64 (x.u:Int)) h2 (by omega);have e1:(l.flatMap Id.cells).set (i*3) (.int .i64 x.b)=(l.set i ⟨x.b,y.s,y.u⟩).flatMap Id.cells:=H7 (f:=Id.cells) (size:=3) (fun _=>rfl) (j:=0) (by omega) _ _ l i y hy rfl
  have hi1:(l.set i ⟨x.b,y.s,y.u⟩)[i]? =some ⟨x.b,y.s,y.u⟩:=by
   rw [Az2 (List.getElem?_eq_some_iff.1 hy).1]
  have e2:((l.set i ⟨x.b,y.s,y.u⟩).flatMap Id.cells).set (i*3+1) (.int .i64 x.s)=(l.set i ⟨x.b,x.s,y.u⟩).flatMap Id.cells:=by
   have:=H7 (f:=Id.cells) (size:=3) (fun _=>rfl) (j:=1) (by omega) (.int .i64 x.s) ⟨x.b,x.s,y.u⟩ _ i _ hi1 rfl;rwa [List.set_set] at this
  have hi2:(l.set i ⟨x.b,x.s,y.u⟩)[i]? =some ⟨x.b,x.s,y.u⟩:=by
   rw [Az2 (List.getElem?_eq_some_iff.1 hy).1]
  have e3:((l.set i ⟨x.b,x.s,y.u⟩).flatMap Id.cells).set (i*3+2) (.int .u64 (x.u:Int))=(l.set i x).flatMap Id.cells:=by
   have:=H7 (f:=Id.cells) (size:=3) (fun _=>rfl) (j:=2) (by omega) (.int .u64 (x.u:Int)) x _ i _ hi2 rfl;rwa [List.set_set] at this
  rw [e1,e2,e3] at h3;exact h3
theorem Rk (n:Nat):(Builtin.zeroCells (Value.agg #[.int .i64 0,.int .i64 0,.int .u64 0]).cells n).toList.length=n*3:=by
 simp [Builtin.zeroCells,Value.cells]
theorem Ac0 (n:Nat):∀v∈(Builtin.zeroCells (Value.agg #[.int .i64 0,.int .i64 0,.int .u64 0]).cells n).toList,v.oneCell'=true:=by
 intro v hv;unfold Builtin.zeroCells at hv;rw [Array.toList_map] at hv;obtain ⟨i,_,rfl⟩:=List.mem_map.1 hv;have h:i%3=0\/i%3=1\/i%3=2:=by omega
 show (#[Value.int .i64 0,.int .i64 0,.int .u64 0][i%3]!).oneCell'=true
 rcases h with e|e|e<;>rw [e]<;>rfl
theorem Jx:Rg:=by
 intro a0 gv A c l p w aa ar ah;have ba:=lh (Aa6 w.heap.size l.length c gv A l p w rfl aa.rd ar (fun x hx w' hf=>ah x hx w' (hf.mono (fun _ _ e=>e.elim))));obtain ⟨n,hn⟩:=Aa l.length;have ay:=aa.cap;have ax:=aa.row
 have ag:Hid (∀(ys:List Id) (m:Nat) (w':World),m=ys.length->ys=l.filter (fun x=> !p x)->Rd w' w'.heap.size 3 A m (ys.flatMap Id.cells)->Fr (fun k=>Ac A=some k) w w'->(∃ys:List Id,ys=l.filter (fun x=> !p x)/\ze (.slice A m c)=.returned (.slice A ys.length c)/\Rd w' w'.heap.size 3 A ys.length (ys.flatMap Id.cells)/\Fr (fun k=>Ac A=some k) w w')):=by
  intro ys m w' h1 h2 h3 h4;subst h1;exact ⟨ys,h2,rfl,h3,h4⟩
 rw [hn.out] at ba aa ay ar ⊢;go_enter func85,ntmps85;go_wp2_with fail;refine (ba.out).mono ?_;rintro e w1 ⟨h,f1⟩;clear ba;have bb:Fr (fun k=>Ac A=some k) w w1:=f1.mono (fun _ _ e=>e.elim);replace aa:=aa.fr f1 zr
 rcases h with ⟨k,id,rfl,hk,hpk,hany⟩|⟨rfl,hany⟩
 ·
  have bm:k<n:=by rw [<- hn.out];exact (List.getElem?_eq_some_iff.1 hk).1
  obtain ⟨g,rfl⟩:∃g,A=some ⟨g,0,none⟩:=by
   rcases aa.2 with ⟨_,h0⟩|⟨g,cap,ac,hv,_⟩
   · omega
   ·
    injection hv with hA _ _
    exact ⟨g,hA⟩
  have bh:((k:Int)== -1)=false:=by rw [beq_eq_false_iff_ne];omega
  have ap:Hid (l.take k=(l.take (k+1)).filter (fun x=> !p x)):=by
   show _=_;rw [Rj l _ hk,hpk,Ri _ _ hany];simp
  clear hany hpk hk;go_wp2_with fail
  go_loopw [5,6] (fun vi vj wr=>∃(i j:Nat) (ac:List Id),vi=.int .i64 (i:Int)/\vj=.int .i64 (j:Int)/\i<j/\j<=n/\Hid (ac.take i=(l.take j).filter (fun x=> !p x))/\Hid (ac.drop j=l.drop j)/\Own wr a0 45 3 (some ⟨g,0,none⟩) n c (ac.flatMap Id.cells)/\Fr (fun k=>Ac (some ⟨g,0,none⟩)=some k) w wr) (fun _ vj _=>n-(intOf vj).toNat)
  case atStart=>exact ⟨k,k+1,l,rfl,by go_num,by omega,by omega,ap.out,rfl,aa,bb⟩
  case round=>
   obtain ⟨i,j,ac,rfl,rfl,bt,bs,ad,af,ab,hf⟩:=hrel
   have a4:ac.length=n:=by
    have h1:=ab.len;rw [Ec (f:=Id.cells) (size:=3) (fun _=>rfl)] at h1;omega
   by_cases hlt:j<n
   ·
    obtain ⟨i1,i2,i3⟩:=ix j n
    obtain ⟨m1,m2,m3⟩:=ix i n
    obtain ⟨x,hx⟩:∃x,l[j]? =some x:=⟨_,Ay1 (by rw [hn.out];exact hlt)⟩;obtain ⟨y,hy⟩:∃y,ac[i]? =some y:=⟨_,Ay1 (by rw [a4];omega)⟩;have bf:ac[j]? =some x:=(Ms af.out).trans hx;obtain ⟨b,bi,hA,bd,k0,k1,k2⟩:=Id.at ab.rd bf;obtain ⟨rfl,rfl⟩:g=b/\0=bi:=by injection hA with e;injection e with e1 e2;exact ⟨e1,e2⟩
    rw [Ax4] at k0 k1 k2;have aw:=lh (Rj l (fun x=> !p x) hx);have hc:=lh (fun w' (h:Fr (fun k=>Ac (some ⟨g,0,none⟩)=some k) w w')=>ah x (Ay2 hx) w' h);have bg:=lh (fun (wv:World) (hv:Fr Non wr wv)=>Own.putId (ab.fr hv zr) hy (by omega) x);have av:=hf.alloc (.cells x.V 45);have bl:=Blk.new wr 45 x.V;have be:Fr Non wr (wr.alloc (.cells x.V 45)):=(Fr.refl Non wr).alloc _;have bc:g<wr.heap.size:=bd;have au:=ab;have bu:=lh hx;have bj:=lh hy;have bo:i<l.length:=by rw [hn.out];omega
    clear hx hy bf hA bd ab aa ax ap a4
    have bk:=lh (show (ac.set i x).drop (j+1)=l.drop (j+1) by
     rw [Ay9 (by omega)];have h2:=congrArg (Ay6 1) af.out;rwa [Ay0,Ay0] at h2)
    have a9:=lh (show ac.drop (j+1)=l.drop (j+1) by
     have h2:=congrArg (Ay6 1) af.out;rwa [Ay0,Ay0] at h2)
    rcases zb (p x) with hp|hp
    ·
     have a2:Hid (ac.take i=(l.take (j+1)).filter (fun x=> !p x)):=by
      show _=_;rw [aw.out,hp,ad.out];simp
     rw [hp] at hc;clear hp aw;go_wp2_with (go_at_call 87;(with_reducible refine (hc.out _ av).mono ?_);rintro _ w2 ⟨rfl,f2⟩);go_roundw
     case rel=>exact ⟨i,j+1,ac,rfl,by go_num,by omega,by omega,a2,a9,(au.fr be zr).fr f2 zr,av.trans f2 (fun _ _ e=>e.elim)⟩
     case measure=>simp [intOf];omega
    ·
     have a2:Hid ((ac.set i x).take (i+1)=(l.take (j+1)).filter (fun x=> !p x)):=by
      show _=_;rw [aw.out,hp,Mr ac i x bj.out,ad.out];simp
     rw [hp] at hc;clear hp aw;go_wp2_with (go_at_call 87;(with_reducible refine (hc.out _ av).mono ?_);rintro _ w2 ⟨rfl,f2⟩;obtain ⟨hz,ho⟩:=bg.out w2 (be.trans f2 zr);have a6:=hz 0 (by omega);have a7:=hz 1 (by omega);have aq:=hz 2 (by omega);obtain ⟨v0,y0⟩:=Option.isSome_iff_exists.1 a6.1;obtain ⟨v1,y1⟩:=Option.isSome_iff_exists.1 a7.1;obtain ⟨v2,y2⟩:=Option.isSome_iff_exists.1 aq.1;have z0:=a6.2;have z1:=a7.2;have z2:=aq.2;rw [Nat.add_zero] at y0 z0;clear hz a6 a7 aq bg;have al:=bl.fr f2 zq;have b0:=al.cell 0;have b1:=al.cell 1;have b2:=al.cell 2;replace b0:w2.cell? ⟨wr.heap.size,0,none⟩=some (.int .i64 x.b):=b0;replace b1:w2.cell? ⟨wr.heap.size,1,none⟩=some (.int .i64 x.s):=b1;replace b2:w2.cell? ⟨wr.heap.size,2,none⟩=some (.int .u64 (x.u:Int)):=b2);go_roundw
     case rel=>
      exact ⟨i+1,j+1,ac.set i x,by go_num,by go_num,by omega,by omega,a2,bk,ho,(((av.trans f2 (fun _ _ e=>e.elim)).setCell (p:=⟨g,i*3,none⟩) (fun _=>rfl) _).setCell (p:=⟨g,i*3+1,none⟩) (fun _=>rfl) _).setCell (p:=⟨g,i*3+2,none⟩) (fun _=>rfl) _⟩
     case measure=>simp [intOf];omega
   ·
    obtain rfl:j=n:=by omega
    obtain ⟨bp,bq,bv⟩:=ix i j
    have bn:=ab.cap;have br:(i:Int)<c:=by omega
    have bc:=ab.row g rfl
    have ak:Hid (∀vs:List Value,Rd (wr.setCells g (i*3) vs) (wr.setCells g (i*3) vs).heap.size 3 (some ⟨g,0,none⟩) i ((l.filter (fun x=> !p x)).flatMap Id.cells)/\Fr (fun k=>Ac (some ⟨g,0,none⟩)=some k) w (wr.setCells g (i*3) vs)):=by
     intro vs;have fz:=Jw g vs (i*3) wr
     have e1:ac.take i=l.filter (fun x=> !p x):=by
      rw [ad.out,Ay5 (by rw [hn.out];exact Ax9 _)]
     have ai:(l.filter (fun x=> !p x)).length=i:=by rw [<- e1,Az3];omega
     refine ⟨⟨by rw [Ec (f:=Id.cells) (size:=3) (fun _=>rfl),ai],.inr ⟨g,0,rfl,Nat.lt_of_lt_of_le bc.2 fz.size,?_⟩⟩,hf.trans fz (fun k _ e=>by have e':k=g:=e;subst e';rfl)⟩;intro q u hu
     have hq:q<i*3:=by
      have h1:=(List.getElem?_eq_some_iff.1 hu).1;rw [Ec (f:=Id.cells) (size:=3) (fun _=>rfl),ai] at h1;exact h1
     rw [Ax4,World.cell?_setCells_out g vs (i*3) wr ⟨g,q,none⟩ (fun _ _=> .inl hq)];obtain ⟨g2,a3,_,_,a8,_,_⟩:=Own.setAt ab (j:=q) (by omega) (.int .i64 0);have az:g=g2:=by injection a3 with e;injection e
     subst az;refine a8 u ?_;rw [<- e1] at hu;have ao:ac.flatMap Id.cells=(ac.take i).flatMap Id.cells++(ac.drop i).flatMap Id.cells:=by rw [<- List.flatMap_append,List.take_append_drop]
     rw [ao,Az1 (List.getElem?_eq_some_iff.1 hu).1];exact hu
    have ae:Hid (∀q,q<(j-i)*3->(wr.cell? ⟨g,i*3+q,none⟩).isSome=true/\wr.frozen? ⟨g,i*3+q,none⟩=false):=by
     intro q hq;have hm:i*3+q<j*3:=by omega
     obtain ⟨g2,a3,_,_,a8,aq,_⟩:=Own.setAt ab (j:=i*3+q) hm (.int .i64 0);have az:g=g2:=by injection a3 with e;injection e
     subst az;have hl:i*3+q<(ac.flatMap Id.cells).length:=by rw [Ec (f:=Id.cells) (size:=3) (fun _=>rfl),a4];exact hm
     exact ⟨by rw [a8 _ (Ay1 hl)];rfl,aq⟩
    have aj:Hid (i=(l.filter (fun x=> !p x)).length):=by
     show _=_
     have e1:ac.take i=l.filter (fun x=> !p x):=by
      rw [ad.out,Ay5 (by rw [hn.out];exact Ax9 _)]
     rw [<- e1,Az3];omega
    clear ab ad af ah aa ap hf
    have a5:(Builtin.clear_ #[25] 0 #[Value.slice (some ⟨g,i*3,none⟩) (j-i) (c-i)]).run zp wr=.ok (.tuple #[]) (wr.setCells g (i*3) (Builtin.zeroCells (Value.agg #[.int .i64 0,.int .i64 0,.int .u64 0]).cells (j-i)).toList):=
     Rh wr 25 45 0 _ underlying25 (fun _=>zeroValue45 _) g (i*3) (j-i) (c-i) (by omega) (fun q hq=>(ae.out q (by rw [Rk] at hq;exact hq)).1) (fun q hq=>(ae.out q (by rw [Rk] at hq;exact hq)).2) (Ac0 _)
    have a1:=lh (fun vs=>ag.out (l.filter (fun x=> !p x)) i (wr.setCells g (i*3) vs) aj.out rfl (ak.out vs).1 (ak.out vs).2);clear ae ak aj ag;generalize (Builtin.zeroCells (Value.agg #[.int .i64 0,.int .i64 0,.int .u64 0]).cells (j-i)).toList=ZS at a5;go_wp2_with fail
    go_ret
    exact a1.out _
 ·
  have a1:=lh (ag.out l n w1 hn.out.symm (Ri l p hany).symm (by have:=aa.rd;exact this) bb);clear ag ah hany;go_wp2_with fail
  go_ret
  exact a1.out
end Oq
end Go.Proofs.YtmcpnjoomlgmlaaGreatDoor
