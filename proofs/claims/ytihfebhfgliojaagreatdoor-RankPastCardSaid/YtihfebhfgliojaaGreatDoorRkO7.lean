/-
  Contracts of the functions that the claim's statement reaches, walked one by one (part 7).
  Conditions: as each theorem says.
-/
import Derived.Lib.SliceRun
import Derived.Test.YtihfebhfgliojaaGreatDoorRkO6
set_option maxRecDepth 100000
set_option maxHeartbeats 16000000
open Array renaming getD->At5
open Bool renaming and_eq_true->Au0
open List renaming eq_nil_of_length_eq_zero->At0,nil_append->At1,length_map->At2,mem_of_getElem?->At3,flatMap_cons->At6,getElem?_eq_getElem->At7,take_of_length_le->At8,take_succ_eq_append_getElem->At9,getElem?_toArray->Au1
open Nat renaming zero_mul->As8,zero_add->As9,le_refl->At4
open Go.World renaming size_alloc->As7
open Go.Proofs.Tryz
open Go.Proofs.Tryz renaming prog->zp
open Go.Lib renaming hid->lh
open List renaming set->zl
open Go.Ending renaming returned->ze
namespace Go.Proofs.YtihfebhfgliojaaGreatDoor
section
open Go.RowKit
attribute [local go_sem ↓] Go.wp_at_zero Go.wp_at_succ
namespace Oq
attribute [local go_sem] Bool.not_false Bool.not_true
theorem Xp (base:Nat) (g:Gph) (gv:Nat) (id:Id) (w:World) (hg:GAt w base g) (hv:w.cell? ⟨gv,0,none⟩=some (.pointer (some ⟨g.gb,0,none⟩))) (hid:id.ok):
  Calls zp 130 #[.agg id.V,.pointer (some ⟨gv,0,none⟩)] w (Ae (Ah g.nodes id).isSome w):=by
 have f0:Fr Non w (w.alloc (.cells id.V 38)):=(Fr.refl Non w).alloc _;have hb:=Blk.new w 38 id.V;have ac:=hg.fr f0;replace hv:=f0.cell hv zq;generalize hw0:w.alloc (.cells id.V 38)=w0 at*;have i0:cI w0 w.heap.size 0 id.b:=hb.cell 0;have i1:cI w0 w.heap.size 1 id.s:=hb.cell 1;have i2:cU w0 w.heap.size 2 id.u:=hb.cell 2;have c1:w0.cell? ⟨g.gb,1,none⟩=some (.map (some g.mb)):=ac.blk.cell 1;have aa:=ac.map;have ab:=fun (w':World) (h:MapAt w' g.mb g.mm (Ah g.nodes))=>MapAt.look h id hid;clear hg ac hb
 cases hp:Ah g.nodes id
 ·
  rw [hp] at ab;go_enter func130,ntmps130;go_wp2_with fail;try rw [hw0]
  clear hw0 hp;refine wp_region_held_drew (S:=(fun w'=>cI w' w.heap.size 0 id.b/\cI w' w.heap.size 1 id.s/\cU w' w.heap.size 2 id.u/\w'.cell? ⟨g.gb,1,none⟩=some (.map (some g.mb))/\w'.cell? ⟨gv,0,none⟩=some (.pointer (some ⟨g.gb,0,none⟩))/\MapAt w' g.mb g.mm (Ah g.nodes))) (by kernel_rfl) ⟨i0,i1,i2,c1,hv,aa⟩ (fun hS=> ?_);replace f0:=f0.drew;refine tkH 0 hS (h:=tkH 1 hS (h:=tkH 2 hS (h:=tkH 3 hS (h:=tkH 4 hS (h:=tkH 5 hS (h:=tkH 6 hS (h:=tkH 7 hS (h:=tkH 8 hS (h:=tkH 9 hS (h:=tkH 10 hS (h:=?_)))))))))));simp only [zl];refine oD ?_;go_simp;go_wp2_with fail
  go_ret
  exact ⟨rfl,f0⟩
 ·
  rw [hp] at ab;go_enter func130,ntmps130;go_wp2_with fail;try rw [hw0]
  clear hw0 hp;refine wp_region_held_drew (S:=(fun w'=>cI w' w.heap.size 0 id.b/\cI w' w.heap.size 1 id.s/\cU w' w.heap.size 2 id.u/\w'.cell? ⟨g.gb,1,none⟩=some (.map (some g.mb))/\w'.cell? ⟨gv,0,none⟩=some (.pointer (some ⟨g.gb,0,none⟩))/\MapAt w' g.mb g.mm (Ah g.nodes))) (by kernel_rfl) ⟨i0,i1,i2,c1,hv,aa⟩ (fun hS=> ?_);replace f0:=f0.drew;refine tkH 0 hS (h:=tkH 1 hS (h:=tkH 2 hS (h:=tkH 3 hS (h:=tkH 4 hS (h:=tkH 5 hS (h:=tkH 6 hS (h:=tkH 7 hS (h:=tkH 8 hS (h:=tkH 9 hS (h:=tkH 10 hS (h:=?_)))))))))));simp only [zl];refine oD ?_;go_simp;go_wp2_with fail
  go_ret
  exact ⟨rfl,f0⟩
end Oq
namespace Oq
theorem Xq {α:Type} (l:List α) (q:α->Bool) {k:Nat} {x:α} (h:l[k]? =some x):(l.take (k+1)).any q=((l.take k).any q||q x):=by
 obtain ⟨hk,rfl⟩:=List.getElem?_eq_some_iff.1 h;rw [At9 hk,List.any_append];simp
def Xr (l:List Id) (p:Id->Bool) (w:World) (e:Ending) (w':World):Prop:=
 ((∃(k:Nat) (id:Id),e=.returned (.int .i64 (k:Int))/\l[k]? =some id/\p id=true/\(l.take k).any p=false)\/(e=.returned (.int .i64 (-1))/\l.any p=false))/\Fr Non w w'
theorem Xs (B n c gv:Nat) (A:Option Addr) (l:List Id) (p:Id->Bool) (w:World) (hn:Hid (l.length=n)) (hr:Rd w B 3 A n (l.flatMap Id.cells)) (hnm:n<=1000000)
  (hmay:Hid (∀x∈l,∀w':World,Fr Non w w'->Calls zp 130 #[.agg x.V,.pointer (some ⟨gv,0,none⟩)] w' (Ae (p x) w'))):
  Calls zp 187 #[.slice A n c,.func (.func 130) #[] #[.pointer (some ⟨gv,0,none⟩)]] w (Xr l p w):=by
 go_enter func187,ntmps187;go_wp2
 go_loopw [8] (fun v wr=>∃k:Nat,v=.int .i64 (k:Int)/\k<=n/\Hid ((l.take k).any p=false)/\Fr Non w wr) (fun v _=>n-(intOf v).toNat)
 case atStart=>exact ⟨0,rfl,by omega,rfl,Fr.refl _ _⟩
 case round=>
  obtain ⟨k,rfl,hk,hh,hf⟩:=hrel
  by_cases hlt:k<n
  ·
   have i1:(0:Int)<=k:=by omega
   have i2:(k:Int)<n:=by omega
   have i3:(k:Int).toNat=k:=by omega
   obtain ⟨x,hx⟩:∃x,l[k]? =some x:=⟨_,At7 (by rw [hn.out];exact hlt)⟩;obtain ⟨b,off,rfl,hbB,k0,k1,k2⟩:=Id.at (hr.fr hf zr) hx;have hmem:=At3 hx;have hsn:=lh (Xq l p hx);have hc:=lh (fun w' (h:Fr Non wr w')=>hmay.out x hmem w' (hf.trans h zr));have hx':=lh hx;clear hx hmem
   rcases zb (p x) with hp|hp
   ·
    have hp':=lh hp;rw [hp] at hc hsn;clear hp;go_wp2_with (go_at_call 130;(with_reducible refine (hc.out _ (by first|exact Fr.refl _ _|exact (Fr.refl Non wr).alloc _)).mono ?_);rintro _ w1 ⟨rfl,f1⟩)
    go_ret
    exact ⟨.inl ⟨k,x,rfl,hx'.out,hp'.out,hh.out⟩,by first|exact hf.trans f1 zr|exact (hf.alloc _).trans f1 zr⟩
   ·
    rw [hp] at hc hsn;clear hp;go_wp2_with (go_at_call 130;(with_reducible refine (hc.out _ (by first|exact Fr.refl _ _|exact (Fr.refl Non wr).alloc _)).mono ?_);rintro _ w1 ⟨rfl,f1⟩);go_roundw
    case rel=>exact ⟨k+1,by go_num,by omega,by show _=_;rw [hsn.out,hh.out];rfl,by first|exact hf.trans f1 zr|exact (hf.alloc _).trans f1 zr⟩
    case measure=>simp [intOf];omega
  ·
   obtain rfl:k=n:=by omega
   have hfin:l.any p=false:=by have h:=hh.out;rw [At8 (by rw [hn.out];omega)] at h;exact h
   go_wp2
   go_ret
   exact ⟨.inr ⟨rfl,hfin⟩,hf⟩
theorem Xt {P:Program} {t e:TypeId} (hu:P.underlying t=some (.slice e)) (A:Option Addr) (n c:Nat) (w:World):(Go.Op.equal t (.slice A n c) (.slice none 0 0)).run P w=.ok A.isNone w:=by
 show (Go.Op.equalIn (9999+1) t (.slice A n c) (.slice none 0 0)).run P w=_;generalize 9999=d
 cases A<;>simp [Go.Op.equalIn,run_underlying hu]
theorem Fe {P:Program} {t e:TypeId} (hu:P.underlying t=some (.slice e)) (A:Option Addr) (n c:Nat) (w:World):(binOp .eql t (.slice A n c) (.slice none 0 0)).run P w=.ok (.bool A.isNone) w:=by
 have h:binOp .eql t (.slice A n c) (.slice none 0 0)=(do pure (.bool (<- Go.Op.equal t (.slice A n c) (.slice none 0 0)))):=by
  unfold binOp;rfl
 rw [h];simp [Xt hu]
theorem Own.empty (w:World) (t:TypeId) (size:Nat):Own (w.alloc (.cells #[] t)) w.heap.size t size (some ⟨w.heap.size,0,none⟩) 0 0 []:=
 ⟨by simp,.inr ⟨w.heap.size,0,#[],rfl,At4 _,heap_alloc_new w _,At4 _,by omega,by simp,by simp⟩⟩
def Bc (e:TypeId) (size n:Nat) (xs:List Value) (w:World) (r:Ending) (w':World):Prop:=∃A' c',r=.returned (.slice A' n c')/\Own w' w.heap.size e size A' n c' xs/\Fr Non w w'
theorem Ma (B n c:Nat) (A:Option Addr) (xs:List Value) (w:World) (hr:Rd w B 3 A n xs) (h1:∀u∈xs,u.oneCell'=true) (hn:n<=1000000):
  Calls zp 81 #[.slice A n c] w (Bc 38 3 n xs w):=by
 have heq:=fun w'=>Fe (P:=zp) underlying28 A n c w'
 cases A with
 |none=>
  replace heq:∀w',(binOp .eql 28 (.slice none n c) (.slice none 0 0)).run zp w'=.ok (.bool true) w':=heq
  have h0:n=0:=by
   rcases hr.2 with h|⟨_,_,h,_⟩
   · exact h
   · cases h
  have hx:xs=[]:=At0 (by rw [hr.1,h0,As8]);subst h0;subst hx;have fin:Bc 38 3 0 [] w (.returned (.slice none 0 0)) w:=⟨none,0,rfl,Own.nil _ _ _ _,Fr.refl _ _⟩;generalize Bc 38 3 0 [] w=POST at*;replace fin:=lh fin;go_enter func81,ntmps81;go_wp2_with fail;exact fin.out
 |some ad=>
  replace heq:∀w',(binOp .eql 28 (.slice (some ad) n c) (.slice none 0 0)).run zp w'=.ok (.bool false) w':=heq;have hem:=Own.empty w 38 3;have hr1:=hr.fr ((Fr.refl Non w).alloc (.cells #[] 38)) zr
  have fin:∀A' c' w',Own w' w.heap.size 38 3 A' (0+n) c' ([]++xs)->Fr (fun k=>Ac (some (⟨w.heap.size,0,none⟩:Addr))=some k) (w.alloc (.cells #[] 38)) w'->Bc 38 3 n xs w (.returned (.slice A' n c')) w':=by
   intro A' c' w' h2 h3;rw [As9,At1] at h2;refine ⟨A',c',rfl,h2,((Fr.refl Non w).alloc (.cells #[] 38)).trans h3 (fun k hk e=> ?_)⟩;have e':w.heap.size=k:=Option.some.inj e;omega
  replace fin:=lh fin;generalize Bc 38 3 n xs w=POST at*;go_enter func81,ntmps81;go_upto_region 3 with (fail)
  go_wp2_with (at_builtin;go_loud (refine Bg (base:=w.heap.size) (.tmp 5) (.tmp 6) 28 rfl rfl rfl rfl Da hem hr1 h1 (by omega) (by omega) (by rw [As7];omega) ?_);intro A1 c1 w2 own1 fr1 hat1;have hdone:=lh (fin.out _ _ _ own1 fr1);clear own1 fr1 hat1 fin);exact hdone.out
theorem P7 (B n c:Nat) (A:Option Addr) (xs:List Value) (w:World) (hr:Rd w B 1 A n xs) (h1:∀u∈xs,u.oneCell'=true) (hn:n<=1000000):
  Calls zp 119 #[.slice A n c] w (Bc 5 1 n xs w):=by
 have heq:=fun w'=>Fe (P:=zp) underlying39 A n c w'
 cases A with
 |none=>
  replace heq:∀w',(binOp .eql 39 (.slice none n c) (.slice none 0 0)).run zp w'=.ok (.bool true) w':=heq
  have h0:n=0:=by
   rcases hr.2 with h|⟨_,_,h,_⟩
   · exact h
   · cases h
  have hx:xs=[]:=At0 (by rw [hr.1,h0,As8]);subst h0;subst hx;have fin:Bc 5 1 0 [] w (.returned (.slice none 0 0)) w:=⟨none,0,rfl,Own.nil _ _ _ _,Fr.refl _ _⟩;generalize Bc 5 1 0 [] w=POST at*;replace fin:=lh fin;go_enter func119,ntmps119;go_wp2_with fail;exact fin.out
 |some ad=>
  replace heq:∀w',(binOp .eql 39 (.slice (some ad) n c) (.slice none 0 0)).run zp w'=.ok (.bool false) w':=heq;have hem:=Own.empty w 5 1;have hr1:=hr.fr ((Fr.refl Non w).alloc (.cells #[] 5)) zr
  have fin:∀A' c' w',Own w' w.heap.size 5 1 A' (0+n) c' ([]++xs)->Fr (fun k=>Ac (some (⟨w.heap.size,0,none⟩:Addr))=some k) (w.alloc (.cells #[] 5)) w'->Bc 5 1 n xs w (.returned (.slice A' n c')) w':=by
   intro A' c' w' h2 h3;rw [As9,At1] at h2;refine ⟨A',c',rfl,h2,((Fr.refl Non w).alloc (.cells #[] 5)).trans h3 (fun k hk e=> ?_)⟩;have e':w.heap.size=k:=Option.some.inj e;omega
  replace fin:=lh fin;generalize Bc 5 1 n xs w=POST at*;go_enter func119,ntmps119;go_upto_region 3 with (fail)
  go_wp2_with (at_builtin;go_loud (refine Bg (base:=w.heap.size) (.tmp 5) (.tmp 6) 39 rfl rfl rfl rfl slB hem hr1 h1 (by omega) (by omega) (by rw [As7];omega) ?_);intro A1 c1 w2 own1 fr1 hat1;have hdone:=lh (fin.out _ _ _ own1 fr1);clear own1 fr1 hat1 fin);exact hdone.out
theorem Xu (B n c:Nat) (A:Option Addr) (xs:List Value) (w:World) (hr:Rd w B 1 A n xs) (h1:∀u∈xs,u.oneCell'=true) (hn:n<=1000000):
  Calls zp 120 #[.slice A n c] w (Bc 23 1 n xs w):=by
 have heq:=fun w'=>Fe (P:=zp) underlying40 A n c w'
 cases A with
 |none=>
  replace heq:∀w',(binOp .eql 40 (.slice none n c) (.slice none 0 0)).run zp w'=.ok (.bool true) w':=heq
  have h0:n=0:=by
   rcases hr.2 with h|⟨_,_,h,_⟩
   · exact h
   · cases h
  have hx:xs=[]:=At0 (by rw [hr.1,h0,As8]);subst h0;subst hx;have fin:Bc 23 1 0 [] w (.returned (.slice none 0 0)) w:=⟨none,0,rfl,Own.nil _ _ _ _,Fr.refl _ _⟩;generalize Bc 23 1 0 [] w=POST at*;replace fin:=lh fin;go_enter func120,ntmps120;go_wp2_with fail;exact fin.out
 |some ad=>
  replace heq:∀w',(binOp .eql 40 (.slice (some ad) n c) (.slice none 0 0)).run zp w'=.ok (.bool false) w':=heq;have hem:=Own.empty w 23 1;have hr1:=hr.fr ((Fr.refl Non w).alloc (.cells #[] 23)) zr
  have fin:∀A' c' w',Own w' w.heap.size 23 1 A' (0+n) c' ([]++xs)->Fr (fun k=>Ac (some (⟨w.heap.size,0,none⟩:Addr))=some k) (w.alloc (.cells #[] 23)) w'->Bc 23 1 n xs w (.returned (.slice A' n c')) w':=by
   intro A' c' w' h2 h3;rw [As9,At1] at h2;refine ⟨A',c',rfl,h2,((Fr.refl Non w).alloc (.cells #[] 23)).trans h3 (fun k hk e=> ?_)⟩;have e':w.heap.size=k:=Option.some.inj e;omega
  replace fin:=lh fin;generalize Bc 23 1 n xs w=POST at*;go_enter func120,ntmps120;go_upto_region 3 with (fail)
  go_wp2_with (at_builtin;go_loud (refine Bg (base:=w.heap.size) (.tmp 5) (.tmp 6) 40 rfl rfl rfl rfl Ns hem hr1 h1 (by omega) (by omega) (by rw [As7];omega) ?_);intro A1 c1 w2 own1 fr1 hat1;have hdone:=lh (fin.out _ _ _ own1 fr1);clear own1 fr1 hat1 fin);exact hdone.out
theorem Xv (B n c:Nat) (A:Option Addr) (xs:List Value) (w:World) (hr:Rd w B 1 A n xs) (h1:∀u∈xs,u.oneCell'=true) (hn:n<=1000000):
  Calls zp 121 #[.slice A n c] w (Bc 3 1 n xs w):=by
 have heq:=fun w'=>Fe (P:=zp) underlying22 A n c w'
 cases A with
 |none=>
  replace heq:∀w',(binOp .eql 22 (.slice none n c) (.slice none 0 0)).run zp w'=.ok (.bool true) w':=heq
  have h0:n=0:=by
   rcases hr.2 with h|⟨_,_,h,_⟩
   · exact h
   · cases h
  have hx:xs=[]:=At0 (by rw [hr.1,h0,As8]);subst h0;subst hx;have fin:Bc 3 1 0 [] w (.returned (.slice none 0 0)) w:=⟨none,0,rfl,Own.nil _ _ _ _,Fr.refl _ _⟩;generalize Bc 3 1 0 [] w=POST at*;replace fin:=lh fin;go_enter func121,ntmps121;go_wp2_with fail;exact fin.out
 |some ad=>
  replace heq:∀w',(binOp .eql 22 (.slice (some ad) n c) (.slice none 0 0)).run zp w'=.ok (.bool false) w':=heq;have hem:=Own.empty w 3 1;have hr1:=hr.fr ((Fr.refl Non w).alloc (.cells #[] 3)) zr
  have fin:∀A' c' w',Own w' w.heap.size 3 1 A' (0+n) c' ([]++xs)->Fr (fun k=>Ac (some (⟨w.heap.size,0,none⟩:Addr))=some k) (w.alloc (.cells #[] 3)) w'->Bc 3 1 n xs w (.returned (.slice A' n c')) w':=by
   intro A' c' w' h2 h3;rw [As9,At1] at h2;refine ⟨A',c',rfl,h2,((Fr.refl Non w).alloc (.cells #[] 3)).trans h3 (fun k hk e=> ?_)⟩;have e':w.heap.size=k:=Option.some.inj e;omega
  replace fin:=lh fin;generalize Bc 3 1 n xs w=POST at*;go_enter func121,ntmps121;go_upto_region 3 with (fail)
  go_wp2_with (at_builtin;go_loud (refine Bg (base:=w.heap.size) (.tmp 5) (.tmp 6) 22 rfl rfl rfl rfl Hd hem hr1 h1 (by omega) (by omega) (by rw [As7];omega) ?_);intro A1 c1 w2 own1 fr1 hat1;have hdone:=lh (fin.out _ _ _ own1 fr1);clear own1 fr1 hat1 fin);exact hdone.out
theorem P8 (B n c:Nat) (A:Option Addr) (xs:List Value) (w:World) (hr:Rd w B 4 A n xs) (h1:∀u∈xs,u.oneCell'=true) (hn:n<=1000000):
  Calls zp 122 #[.slice A n c] w (Bc 148 4 n xs w):=by
 have heq:=fun w'=>Fe (P:=zp) underlying41 A n c w'
 cases A with
 |none=>
  replace heq:∀w',(binOp .eql 41 (.slice none n c) (.slice none 0 0)).run zp w'=.ok (.bool true) w':=heq
  have h0:n=0:=by
   rcases hr.2 with h|⟨_,_,h,_⟩
   · exact h
   · cases h
  have hx:xs=[]:=At0 (by rw [hr.1,h0,As8]);subst h0;subst hx;have fin:Bc 148 4 0 [] w (.returned (.slice none 0 0)) w:=⟨none,0,rfl,Own.nil _ _ _ _,Fr.refl _ _⟩;generalize Bc 148 4 0 [] w=POST at*;replace fin:=lh fin;go_enter func122,ntmps122;go_wp2_with fail;exact fin.out
 |some ad=>
  replace heq:∀w',(binOp .eql 41 (.slice (some ad) n c) (.slice none 0 0)).run zp w'=.ok (.bool false) w':=heq;have hem:=Own.empty w 148 4;have hr1:=hr.fr ((Fr.refl Non w).alloc (.cells #[] 148)) zr
  have fin:∀A' c' w',Own w' w.heap.size 148 4 A' (0+n) c' ([]++xs)->Fr (fun k=>Ac (some (⟨w.heap.size,0,none⟩:Addr))=some k) (w.alloc (.cells #[] 148)) w'->Bc 148 4 n xs w (.returned (.slice A' n c')) w':=by
   intro A' c' w' h2 h3;rw [As9,At1] at h2;refine ⟨A',c',rfl,h2,((Fr.refl Non w).alloc (.cells #[] 148)).trans h3 (fun k hk e=> ?_)⟩;have e':w.heap.size=k:=Option.some.inj e;omega
  replace fin:=lh fin;generalize Bc 148 4 n xs w=POST at*;go_enter func122,ntmps122;go_upto_region 3 with (fail)
  go_wp2_with (at_builtin;go_loud (refine Bg (base:=w.heap.size) (.tmp 5) (.tmp 6) 41 rfl rfl rfl rfl slBx hem hr1 h1 (by omega) (by omega) (by rw [As7];omega) ?_);intro A1 c1 w2 own1 fr1 hat1;have hdone:=lh (fin.out _ _ _ own1 fr1);clear own1 fr1 hat1 fin);exact hdone.out
theorem Xw (B n c:Nat) (A:Option Addr) (xs:List Value) (w:World) (hr:Rd w B 2 A n xs) (h1:∀u∈xs,u.oneCell'=true) (hn:n<=1000000):
  Calls zp 123 #[.slice A n c] w (Bc 94 2 n xs w):=by
 have heq:=fun w'=>Fe (P:=zp) underlying36 A n c w'
 cases A with
 |none=>
  replace heq:∀w',(binOp .eql 36 (.slice none n c) (.slice none 0 0)).run zp w'=.ok (.bool true) w':=heq
  have h0:n=0:=by
   rcases hr.2 with h|⟨_,_,h,_⟩
   · exact h
   · cases h
  have hx:xs=[]:=At0 (by rw [hr.1,h0,As8]);subst h0;subst hx;have fin:Bc 94 2 0 [] w (.returned (.slice none 0 0)) w:=⟨none,0,rfl,Own.nil _ _ _ _,Fr.refl _ _⟩;generalize Bc 94 2 0 [] w=POST at*;replace fin:=lh fin;go_enter func123,ntmps123;go_wp2_with fail;exact fin.out
 |some ad=>
  replace heq:∀w',(binOp .eql 36 (.slice (some ad) n c) (.slice none 0 0)).run zp w'=.ok (.bool false) w':=heq;have hem:=Own.empty w 94 2;have hr1:=hr.fr ((Fr.refl Non w).alloc (.cells #[] 94)) zr
  have fin:∀A' c' w',Own w' w.heap.size 94 2 A' (0+n) c' ([]++xs)->Fr (fun k=>Ac (some (⟨w.heap.size,0,none⟩:Addr))=some k) (w.alloc (.cells #[] 94)) w'->Bc 94 2 n xs w (.returned (.slice A' n c')) w':=by
   intro A' c' w' h2 h3;rw [As9,At1] at h2;refine ⟨A',c',rfl,h2,((Fr.refl Non w).alloc (.cells #[] 94)).trans h3 (fun k hk e=> ?_)⟩;have e':w.heap.size=k:=Option.some.inj e;omega
  replace fin:=lh fin;generalize Bc 94 2 n xs w=POST at*;go_enter func123,ntmps123;go_upto_region 3 with (fail)
  go_wp2_with (at_builtin;go_loud (refine Bg (base:=w.heap.size) (.tmp 5) (.tmp 6) 36 rfl rfl rfl rfl slNd hem hr1 h1 (by omega) (by omega) (by rw [As7];omega) ?_);intro A1 c1 w2 own1 fr1 hat1;have hdone:=lh (fin.out _ _ _ own1 fr1);clear own1 fr1 hat1 fin);exact hdone.out
theorem Xx (B n c:Nat) (A:Option Addr) (xs:List Value) (w:World) (hr:Rd w B 4 A n xs) (h1:∀u∈xs,u.oneCell'=true) (hn:n<=1000000):
  Calls zp 124 #[.slice A n c] w (Bc 97 4 n xs w):=by
 have heq:=fun w'=>Fe (P:=zp) underlying42 A n c w'
 cases A with
 |none=>
  replace heq:∀w',(binOp .eql 42 (.slice none n c) (.slice none 0 0)).run zp w'=.ok (.bool true) w':=heq
  have h0:n=0:=by
   rcases hr.2 with h|⟨_,_,h,_⟩
   · exact h
   · cases h
  have hx:xs=[]:=At0 (by rw [hr.1,h0,As8]);subst h0;subst hx;have fin:Bc 97 4 0 [] w (.returned (.slice none 0 0)) w:=⟨none,0,rfl,Own.nil _ _ _ _,Fr.refl _ _⟩;generalize Bc 97 4 0 [] w=POST at*;replace fin:=lh fin;go_enter func124,ntmps124;go_wp2_with fail;exact fin.out
 |some ad=>
  replace heq:∀w',(binOp .eql 42 (.slice (some ad) n c) (.slice none 0 0)).run zp w'=.ok (.bool false) w':=heq;have hem:=Own.empty w 97 4;have hr1:=hr.fr ((Fr.refl Non w).alloc (.cells #[] 97)) zr
  have fin:∀A' c' w',Own w' w.heap.size 97 4 A' (0+n) c' ([]++xs)->Fr (fun k=>Ac (some (⟨w.heap.size,0,none⟩:Addr))=some k) (w.alloc (.cells #[] 97)) w'->Bc 97 4 n xs w (.returned (.slice A' n c')) w':=by
   intro A' c' w' h2 h3;rw [As9,At1] at h2;refine ⟨A',c',rfl,h2,((Fr.refl Non w).alloc (.cells #[] 97)).trans h3 (fun k hk e=> ?_)⟩;have e':w.heap.size=k:=Option.some.inj e;omega
  replace fin:=lh fin;generalize Bc 97 4 n xs w=POST at*;go_enter func124,ntmps124;go_upto_region 3 with (fail)
  go_wp2_with (at_builtin;go_loud (refine Bg (base:=w.heap.size) (.tmp 5) (.tmp 6) 42 rfl rfl rfl rfl slSl hem hr1 h1 (by omega) (by omega) (by rw [As7];omega) ?_);intro A1 c1 w2 own1 fr1 hat1;have hdone:=lh (fin.out _ _ _ own1 fr1);clear own1 fr1 hat1 fin);exact hdone.out
theorem Xy (B n c:Nat) (A:Option Addr) (xs:List Value) (w:World) (hr:Rd w B 5 A n xs) (h1:∀u∈xs,u.oneCell'=true) (hn:n<=1000000):
  Calls zp 77 #[.slice A n c] w (Bc 104 5 n xs w):=by
 have heq:=fun w'=>Fe (P:=zp) underlying26 A n c w'
 cases A with
 |none=>
  replace heq:∀w',(binOp .eql 26 (.slice none n c) (.slice none 0 0)).run zp w'=.ok (.bool true) w':=heq
  have h0:n=0:=by
   rcases hr.2 with h|⟨_,_,h,_⟩
   · exact h
   · cases h
  have hx:xs=[]:=At0 (by rw [hr.1,h0,As8]);subst h0;subst hx;have fin:Bc 104 5 0 [] w (.returned (.slice none 0 0)) w:=⟨none,0,rfl,Own.nil _ _ _ _,Fr.refl _ _⟩;generalize Bc 104 5 0 [] w=POST at*;replace fin:=lh fin;go_enter func77,ntmps77;go_wp2_with fail;exact fin.out
 |some ad=>
  replace heq:∀w',(binOp .eql 26 (.slice (some ad) n c) (.slice none 0 0)).run zp w'=.ok (.bool false) w':=heq;have hem:=Own.empty w 104 5;have hr1:=hr.fr ((Fr.refl Non w).alloc (.cells #[] 104)) zr
  have fin:∀A' c' w',Own w' w.heap.size 104 5 A' (0+n) c' ([]++xs)->Fr (fun k=>Ac (some (⟨w.heap.size,0,none⟩:Addr))=some k) (w.alloc (.cells #[] 104)) w'->Bc 104 5 n xs w (.returned (.slice A' n c')) w':=by
   intro A' c' w' h2 h3;rw [As9,At1] at h2;refine ⟨A',c',rfl,h2,((Fr.refl Non w).alloc (.cells #[] 104)).trans h3 (fun k hk e=> ?_)⟩;have e':w.heap.size=k:=Option.some.inj e;omega
  replace fin:=lh fin;generalize Bc 104 5 n xs w=POST at*;go_enter func77,ntmps77;go_upto_region 3 with (fail)
  go_wp2_with (at_builtin;go_loud (refine Bg (base:=w.heap.size) (.tmp 5) (.tmp 6) 26 rfl rfl rfl rfl slCd hem hr1 h1 (by omega) (by omega) (by rw [As7];omega) ?_);intro A1 c1 w2 own1 fr1 hat1;have hdone:=lh (fin.out _ _ _ own1 fr1);clear own1 fr1 hat1 fin);exact hdone.out
end Oq
end
section
open Go.RowKit
section
variable {P : Program} {ops : Array Oper} {Q : Exit -> Act -> World -> Prop} {md : Region.Mode} {S : World -> Prop} {g : Nat}
def Ct (P:Program) (md:Region.Mode) (ops:Array Oper) (Q:Exit->Act->World->Prop) (S:World->Prop) (g:Nat) (fuel:Nat) (listed:Array Bool) (a:Act) (w:World):Prop:=
 match fuel with
 |0=>Region.ready md ops listed=[]/\Q .normal a w
 |k+1=>(Region.ready md ops listed=[]->Q .normal a w)/\
   ∀i∈Region.ready md ops listed,wpOp P ops Q i (fun a' w'=>((listed.setIfInBounds i true).getD g true=false->S w')/\Ct P md ops Q S g k (listed.setIfInBounds i true) a' w') a w
theorem Xz:∀(fuel:Nat) (listed:Array Bool) (a:Act) (w:World),Ct P md ops Q S g fuel listed a w->wpAny P md ops Q fuel listed a w:=by
 intro fuel
 induction fuel with
 |zero=>intro _ _ _ h;exact h
 |succ k ih=>intro l a w h;exact ⟨h.1,fun i hi=>wpOp_mono (fun a' w' h'=>ih _ a' w' h'.2) (h.2 i hi)⟩
theorem Ya:∀(fuel:Nat) (listed:Array Bool) (a:Act) (w:World),listed.getD g true=true->wpAny P md ops Q fuel listed a w->Ct P md ops Q S g fuel listed a w:=by
 intro fuel
 induction fuel with
 |zero=>intro _ _ _ _ h;exact h
 |succ k ih=>
  intro l a w hg h;refine ⟨h.1,fun i hi=>wpOp_mono (fun a' w' h'=> ?_) (h.2 i hi)⟩
  have hg':(l.setIfInBounds i true).getD g true=true:=by
   by_cases hgi:i=g
   ·
    subst hgi
    by_cases hb:i<l.size
    · simp [At5,hb]
    · simp [At5,hb]
   ·
    rw [getD_set_ne true hgi];exact hg
  exact ⟨fun h0=>(by rw [hg'] at h0;cases h0),ih _ a' w' hg' h'⟩
theorem Yb {i:Nat} {oi og:Oper} {v:Value} (hi:ops[i]? =some oi) (hog:ops[g]? =some og) (hgi:g≠i) (hwait:∃e∈og.after,Region.binds md e=true/\e.on=i)
  (hsel:∀(j:Nat) (o:Oper) cs b,ops[j]? =some o->o.op≠ .select cs b) (hQ:∀c a w,Q (.panic c) (a.put oi.dst v) w->Q (.panic c) a w):
  ∀(fuel:Nat) (listed:Array Bool) (a:Act) (w:World),listed.getD g true=false->
   (∀j oj,ops[j]? =some oj->j≠i->listed.getD j true=false->(∀e∈oj.after,Region.binds md e=true->e.on≠i)->oi.apart ops oj=true)->
   i∈Region.ready md ops listed->YieldsIf P ops S oi v a->S w->
   Ct P md ops Q S g fuel (listed.setIfInBounds i true) (a.put oi.dst v) w->Ct P md ops Q S g (fuel+1) listed a w:=by
 intro fuel
 induction fuel with
 |zero=>
  intro listed a w hg _ hr hy hS H;refine ⟨fun h=>(by rw [h] at hr;cases hr),fun j hj=> ?_⟩
  by_cases hji:j=i
  · subst hji;exact hy.wpOp hi hS ⟨fun _=>hS,H⟩
  ·
   have h0:=ready_mono hj hji;rw [H.1] at h0
   cases h0
 |succ k ih=>
  intro listed a w hg hfree hr hy hS H;refine ⟨fun h=>(by rw [h] at hr;cases hr),fun j hj=> ?_⟩
  by_cases hji:j=i
  · subst hji;exact hy.wpOp hi hS ⟨fun _=>hS,H⟩
  ·
   have hpend:=(mem_ready.1 hr).1;obtain ⟨hjun,oj,hoj,hall⟩:=mem_ready.1 hj
   have hbl:∀e∈oj.after,Region.binds md e=true->e.on≠i:=fun e he hb heq=>by
    have h1:=hall e he hb;rw [heq] at h1
    rcases Nat.lt_or_ge i listed.size with h'|h'
    · simp [h'] at hpend h1;rw [hpend] at h1;cases h1
    · simp [Array.getElem?_eq_none h'] at h1
   have hjg:j≠g:=by
    rintro rfl;obtain ⟨e,he,hb,heq⟩:=hwait;rw [hog] at hoj
    cases hoj
    exact hbl e he hb heq
   have h1:=H.2 j (ready_mono hj hji);have h2:=wpOp_putIf hoj (hfree j oj hoj hji hjun hbl) (fun cs b=>hsel i oi cs b hi) (fun cs b=>hsel j oj cs b hoj) hQ hy h1;have hg':(listed.setIfInBounds j true).getD g true=false:=by rw [getD_set_ne true hjg];exact hg
   have hgij:((listed.setIfInBounds i true).setIfInBounds j true).getD g true=false:=by rw [getD_set_ne true hjg,getD_set_ne true (Ne.symm hgi)];exact hg
   have hfree':∀m om,ops[m]? =some om->m≠i->(listed.setIfInBounds j true).getD m true=false->
     (∀e∈om.after,Region.binds md e=true->e.on≠i)->oi.apart ops om=true:=fun m om hm hmi hun hno=>by
    refine hfree m om hm hmi ?_ hno
    by_cases hjm:j=m
    · subst hjm;exact hjun
    · rw [getD_set_ne true hjm] at hun;exact hun
   refine wpOp_mono (fun a' w' h3=> ?_) h2;have hS':=h3.2.1 hgij;refine ⟨fun _=>hS',ih _ a' w' hg' hfree' (ready_mono hr (Ne.symm hji)) h3.1 hS' ?_⟩;rw [Array.setIfInBounds_comm _ _ hji];exact h3.2.2
def Jg (md:Region.Mode) (ops:Array Oper) (g i:Nat):Bool:=match ops[g]? with|some og=>og.after.any (fun e=>Region.binds md e&&e.on==i)|none=>false
theorem Yc {i:Nat} (h:Jg md ops g i=true):∃og,ops[g]? =some og/\∃e∈og.after,Region.binds md e=true/\e.on=i:=by
 unfold Jg at h
 split at h
 ·
  rename_i og hog;obtain ⟨e,he,hb⟩:=Array.any_eq_true'.1 h;simp only [Au0,beq_iff_eq] at hb;exact ⟨og,hog,e,he,hb.1,hb.2⟩
 · cases h
end
theorem E1 {P:Program} {Q:Exit->Act->World->Prop} {md:Region.Mode} {S:World->Prop} {g:Nat} {l:List Oper} {i:Nat} {d:Tmp} {op:Op} {ty:TypeId} {pos:String} {after:Array Edge} {gd:Option (Nat × Bool)} {v:Value} {fuel:Nat} {listed:Array Bool} {tl:List Value} {ds:List Deferred} {w:World} (hi:l[i]? =some ⟨some d,op,ty,pos,after,gd⟩)
  (hgate:(listed.getD g true==false&&g !=i&&Jg md l.toArray g i)=true)
  (hs:Region.noSelect l.toArray=true) (hf:Region.free md l.toArray listed i=true) (hr:(Region.ready md l.toArray listed).contains i=true)
  (hQ:∀c a w,Q (.panic c) (a.put (some d) v) w->Q (.panic c) a w) (hy:YieldsIf P l.toArray S ⟨some d,op,ty,pos,after,gd⟩ v ⟨tl.toArray,ds⟩) (hS:S w)
  (h:Ct P md l.toArray Q S g fuel (listed.setIfInBounds i true) ⟨(tl.set d v).toArray,ds⟩ w):Ct P md l.toArray Q S g (fuel+1) listed ⟨tl.toArray,ds⟩ w:=by
 simp only [Au0,beq_iff_eq,bne_iff_ne] at hgate;obtain ⟨og,hog,hwait⟩:=Yc hgate.2;have hi':l.toArray[i]? =some ⟨some d,op,ty,pos,after,gd⟩:=by rw [Au1];exact hi
 exact Yb hi' hog hgate.1.2 hwait (Region.noSelect_spec hs) hQ fuel listed _ w hgate.1.1 (Region.free_spec hi' hf) (by simpa using hr) hy hS (by rw [Ad];exact h)
theorem Bo {P:Program} {Q:Exit->Act->World->Prop} {l:List Oper} {md:Region.Mode} {S:World->Prop} {g fuel:Nat} {listed:Array Bool} {a:Act} {w:World} (i:Nat) {d:Option Tmp} {op:Op} {ty:TypeId} {pos:String} {after:Array Edge} (hr:Region.ready md l.toArray listed=[i]) (ho:l[i]? =some ⟨d,op,ty,pos,after,none⟩)
  (h:∀K':Act->World->Prop,Shut (∀a w,S w->(S w->Ct P md l.toArray Q S g fuel (listed.setIfInBounds i true) a w)->K' a w)->Oper.wp P ⟨d,op,ty,pos,after,none⟩ a w K' Q):
  Ct P md l.toArray Q S g (fuel+1) listed a w:=by
 refine ⟨fun h0=>(by rw [hr] at h0;cases h0),fun j hj=> ?_⟩;rw [hr] at hj;obtain rfl:=List.mem_singleton.1 hj;refine wpOp_step (o:=⟨d,op,ty,pos,after,none⟩) (by rw [Au1];exact ho) (fun K' hK=> ?_);rw [if_pos (show Region.wanted _ _=true from rfl)];exact h K' (fun a w hS hW=>hK a w ⟨fun _=>hS,hW hS⟩)
theorem Ci {P:Program} {Q:Exit->Act->World->Prop} {l:List Oper} {md:Region.Mode} {S:World->Prop} {g fuel:Nat} {listed:Array Bool} {a:Act} {w:World} (hr:Region.ready md l.toArray listed=[g])
  (h:wpAnyH P md l.toArray Q (fun _=>True) (fuel+1) listed a w):Ct P md l.toArray Q S g (fuel+1) listed a w:=by
 refine ⟨h.1,fun j hj=>wpOp_mono (fun a' w' h'=> ?_) (h.2 j hj)⟩;rw [hr] at hj;obtain rfl:=List.mem_singleton.1 hj
 have hg':(listed.setIfInBounds j true).getD j true=true:=by
  by_cases hb:j<listed.size
  · simp [At5,hb]
  · simp [At5,hb]
 exact ⟨fun h0=>(by rw [hg'] at h0;cases h0),Ya _ _ _ _ hg' (wpAny_of_held _ _ _ _ h'.2)⟩
theorem Cn {P:Program} {Q:Exit->Act->World->Prop} {S:World->Prop} (g:Nat) {id:Nat} {l:List Oper} {a:Act} {w:World} (hm:P.follows .mixedOrders=true)
  (h:Ct P .any l.toArray Q S g l.toArray.size (Array.replicate l.toArray.size false) a w.drew):(Code.region id l.toArray true).wp P Q a w:=
 wp_region_any hm (Xz _ _ _ _ h)
theorem tkG (i:Nat) {P:Program} {Q:Exit->Act->World->Prop} {md:Region.Mode} {S:World->Prop} {gt:Nat} {l:List Oper} {d:Tmp} {op:Op} {ty:TypeId} {pos:String} {after:Array Edge} {g:Option (Nat × Bool)} {v:Value} {fuel:Nat} {listed:Array Bool} {tl:List Value} {ds:List Deferred} {w:World} (hS:S w) (hi:l[i]? =some ⟨some d,op,ty,pos,after,g⟩:=by rfl)
  (hgate:(listed.getD gt true==false&&gt !=i&&Jg md l.toArray gt i)=true:=by kernel_rfl)
  (hs:Region.noSelect l.toArray=true:=by kernel_rfl) (hf:Region.free md l.toArray listed i=true:=by kernel_rfl) (hr:(Region.ready md l.toArray listed).contains i=true:=by kernel_rfl)
  (hQ:∀c a w,Q (.panic c) (a.put (some d) v) w->Q (.panic c) a w:=by exact fun _ _ _ h=>h) (hy:YieldsIf P l.toArray S ⟨some d,op,ty,pos,after,g⟩ v ⟨tl.toArray,ds⟩:=by (refine Or.inl ⟨by kernel_rfl,?_⟩;intro w' hSw;(try dsimp only at hSw);(try simp only [zl]);go_simp;(try with_reducible rfl)))
  (h:Ct P md l.toArray Q S gt fuel (listed.setIfInBounds i true) ⟨(tl.set d v).toArray,ds⟩ w):
  Ct P md l.toArray Q S gt (fuel+1) listed ⟨tl.toArray,ds⟩ w:=E1 hi hgate hs hf hr hQ hy hS h
theorem Own.setAt {w:World} {base n c size:Nat} {t:TypeId} {A:Option Addr} {xs:List Value} (h:Own w base t size A n c xs) {j:Nat} (hj:j<n*size) (u:Value):
  ∃g,A=some ⟨g,0,none⟩/\base<=g/\g<w.heap.size/\(∀v,xs[j]? =some v->w.cell? ⟨g,j,none⟩=some v)/\w.frozen? ⟨g,j,none⟩=false/\Own (w.setCell ⟨g,j,none⟩ u) base t size A n c (xs.set j u):=by
 rcases h.2 with ⟨_,h0⟩|⟨g,cap,cur,hv,hb,hg,h1,h2,h3,h4⟩
 ·
  subst h0;omega
 ·
  injection hv with hA hn hc
  have hblk:Blk w g t cur:=hg;have hset:=hblk.set j u;refine ⟨g,hA,hb,hblk.lt,?_,hblk.frozen j,?_⟩
  ·
   intro v hv';rw [hblk.cell j];rw [<- h4,List.getElem?_take_of_lt hj] at hv';simpa using hv'
  ·
   refine ⟨by rw [List.length_set];exact h.1,.inr ⟨g,cap,cur.setIfInBounds j u,?_,hb,hset,h1,h2,by simpa using h3,?_⟩⟩
   · subst hA hc;rfl
   · rw [Array.toList_setIfInBounds,List.take_set,h4]
theorem Hn {α:Type} {f:α->List Value} {size:Nat} (hf:∀x,(f x).length=size) {j:Nat} (hj:j<size) (v:Value) (y:α):∀(l:List α) (k:Nat) (x:α),l[k]? =some x->(f x).set j v=f y->
  (l.flatMap f).set (k*size+j) v=(l.set k y).flatMap f:=by
 intro l
 induction l with
 |nil=>intro k x hx _;simp at hx
 |cons a r ih=>
  intro k x hx hy
  cases k with
  |zero=>
   simp only [List.getElem?_cons_zero,Option.some.injEq] at hx;subst hx;rw [At6,List.set_cons_zero,At6,As8,As9,List.set_append_left _ _ (by rw [hf];exact hj),hy]
  |succ m=>
   rw [List.getElem?_cons_succ] at hx;rw [At6,List.set_cons_succ,At6,List.set_append_right _ _ (by rw [hf,Nat.add_mul];omega),hf,show (m+1)*size+j-size=m*size+j by rw [Nat.add_mul];omega,ih m x hx hy]
theorem P9 {α β:Type} (nd:α->β) (l:List α) (k:Nat) {y y':α} (h:l[k]? =some y) (e:nd y'=nd y):(l.set k y').map nd=l.map nd:=by
 rw [List.map_set,e];apply List.ext_getElem?;intro i;rw [List.getElem?_set]
 by_cases hi:k=i
 ·
  subst hi;rw [List.getElem?_map,h];have hk:k<(l.map nd).length:=by rw [At2];exact (List.getElem?_eq_some_iff.1 h).1
  simp [(List.getElem?_eq_some_iff.1 h).1]
 · rw [if_neg hi]
theorem Qa {α:Type} (l m:List α) (k:Nat) (y':α) (h:l.drop k=m.drop k):(l.set k y').drop (k+1)=m.drop (k+1):=by
 rw [List.drop_set_of_lt (by omega)];have h2:=congrArg (List.drop 1) h;rwa [List.drop_drop,List.drop_drop] at h2
theorem Mb {α:Type} (l:List α) (k:Nat) {y:α} (y':α) (h:l[k]? =some y):(l.set k y').take (k+1)=l.take k++[y']:=by
 have hk:=(List.getElem?_eq_some_iff.1 h).1;rw [At9 (by rw [List.length_set];exact hk),List.take_set_of_le (by omega)];simp
theorem Mc {α:Type} {l m:List α} {k:Nat} (h:l.drop k=m.drop k):l[k]? =m[k]? :=by
 have h2:=congrArg (fun t=>t[0]?) h;simpa [List.getElem?_drop] using h2
end
section
open Go.RowKit
attribute [local go_sem ↓] Go.wp_at_zero Go.wp_at_succ
namespace Oq
attribute [local go_sem ↓] Cq
theorem Jh {α:Type} (f:α->Value) (hf:∀a,(f a).oneCell'=true) (l:List α):∀v∈l.map f,v.oneCell'=true:=by
 intro v hv;obtain ⟨y,_,rfl⟩:=List.mem_map.1 hv;exact hf y
theorem Ji {α:Type} (f:α->List Value) (hf:∀a,∀v∈f a,v.oneCell'=true) (l:List α):∀v∈l.flatMap f,v.oneCell'=true:=by
 intro v hv;obtain ⟨y,_,hy⟩:=List.mem_flatMap.1 hv;exact hf y v hy
theorem Qb (l:List Bx):∀v∈l.flatMap Bx.cells,v.oneCell'=true:=Ji _ (fun a v hv=>by simp [Bx.cells] at hv;rcases hv with rfl|rfl|rfl|rfl<;>rfl) l
theorem Yd (l:List NdL):∀v∈l.flatMap NdL.cells,v.oneCell'=true:=Ji _ (fun a v hv=>by simp [NdL.cells] at hv;rcases hv with rfl|rfl<;>rfl) l
theorem Ye (l:List SlL):∀v∈l.flatMap SlL.cells,v.oneCell'=true:=Ji _ (fun a v hv=>by simp [SlL.cells] at hv;rcases hv with rfl|rfl|rfl|rfl<;>rfl) l
def Md (o:Op) (w:World) (r:Ending) (w':World):Prop:=
 ∃y:OpL,r=.returned (.agg y.cells)/\y.op=o/\y.own w' w.heap.size/\Fr Non w w'
theorem Qc (x:OpL) (w:World) (hat:x.at w w.heap.size) (hok:x.op.ok):Calls zp 63 #[.agg x.cells] w (Md x.op w):=by
 have hi:(zp.info? 44).map (·.size)=some 27:=by kernel_rfl
 have ah:Blk ((w.alloc (.cells x.cells 44)).alloc (.cells zO 44)) w.heap.size 44 x.cells:=(Blk.new w 44 x.cells).alloc _
 have cf:Blk ((w.alloc (.cells x.cells 44)).alloc (.cells zO 44)) (w.heap.size+1) 44 zO:=by
  have:=Blk.new (w.alloc (.cells x.cells 44)) 44 zO;rwa [As7] at this
 have dv:((w.alloc (.cells x.cells 44)).alloc (.cells zO 44)).heap.size=w.heap.size+2:=by rw [As7,As7]
 have bq:Fr Non w ((w.alloc (.cells x.cells 44)).alloc (.cells zO 44)):=((Fr.refl Non w).alloc _).alloc _;have bw:=OpL.frame hat bq;have b9:x.guards.length<=1000000:=by have h:=hok.guards.1;rw [show x.op.guards=x.guards from rfl] at h;omega
 have dr:x.refs.length<=1000000:=by have h:=hok.refs.1;rw [show x.op.refs=x.refs from rfl] at h;omega
 have ct:x.boxes.length<=1000000:=by have h:=hok.boxes.1;rw [show x.op.boxes=x.boxes from rfl] at h;omega
 have dx:x.past.length<=1000000:=by have h:=hok.past.1;rw [show x.op.past=x.past from rfl] at h;omega
 have bz:x.path.length<=1000000:=by have h:=hok.path.1;rw [show x.op.path=x.path.map NdL.nd from rfl,At2] at h;omega
 have bp:x.hist.length<=1000000:=by have h:=hok.hist.1;rw [show x.op.hist=x.hist.map SlL.sl from rfl,At2] at h;omega
 have di:x.body.length<=1000000:=by have h:=hok.body;rw [show x.op.body=x.body from rfl] at h;omega
 have bb:Hid (∀y∈x.path,y.xs.length<=1000000):=fun y hy=>by have h:=(hok.path.2 y.nd (List.mem_map.2 ⟨y,hy,rfl⟩)).2.1;rw [show y.nd.xs=y.xs from rfl] at h;omega
 have ba:Hid (∀y∈x.hist,y.y.length<=1000000):=fun y hy=>by have h:=(hok.hist.2 y.sl (List.mem_map.2 ⟨y,hy,rfl⟩)).2;rw [show y.sl.y=y.y from rfl] at h;omega
 have a0:Hid (∀(y:OpL) (w':World),y.op=x.op->y.own w' w.heap.size->Fr Non w w'->Md x.op w (.returned (.agg y.cells)) w'):=fun y w' h1 h2 h3=>⟨y,rfl,h1,h2,h3⟩;generalize Md x.op w=POST at*;go_enter func63,ntmps63;go_upto_region 1 with (fail)
 generalize ((w.alloc (.cells x.cells 44)).alloc (.cells zO 44))=w0 at*;obtain ⟨CS,a1⟩:=Aa x.cells;rw [a1.out] at ah;have e4:Hid (CS[4]? =some (.slice x.pastA x.past.length x.pastC)):=by show _=_;rw [<- a1.out];rfl
 have da:Hid (CS[14]? =some (.slice x.bodyA x.body.length x.bodyC)):=by show _=_;rw [<- a1.out];rfl
 have cr:Hid (CS[15]? =some (.slice x.refsA x.refs.length x.refsC)):=by show _=_;rw [<- a1.out];rfl
 have c9:Hid (CS[19]? =some (.slice x.guardsA x.guards.length x.guardsC)):=by show _=_;rw [<- a1.out];rfl
 have cu:Hid (CS[22]? =some (.slice x.boxesA x.boxes.length x.boxesC)):=by show _=_;rw [<- a1.out];rfl
 refine Cn (S:=(fun w'=>Blk w' w.heap.size 44 CS)) 16 (by kernel_rfl) ?_;replace ah:Blk w0.drew w.heap.size 44 CS:=ah.drew;replace cf:=cf.drew;replace bq:=bq.drew;replace bw:=OpL.frame bw ((Fr.refl Non w0).drew);refine tkG 0 ah (h:=?_);simp only [zl];refine E1 (i:=1) (v:=?_) rfl (by kernel_rfl) (by kernel_rfl) (by kernel_rfl) (by kernel_rfl) (fun _ _ _ h=>h) (Or.inl ⟨by kernel_rfl,?_⟩) ah ?_;rotate_left
 focus (intro w' ab;have hB:=ab;have q:w'.cell? ⟨w.heap.size,4,none⟩=some _:=(hB.cell 4).trans e4.out;(try dsimp only at ab);go_simp;(try with_reducible rfl))
 simp only [zl];refine tkG 3 ah (h:=?_);simp only [zl];refine E1 (i:=4) (v:=?_) rfl (by kernel_rfl) (by kernel_rfl) (by kernel_rfl) (by kernel_rfl) (fun _ _ _ h=>h) (Or.inl ⟨by kernel_rfl,?_⟩) ah ?_;rotate_left
 focus (intro w' ab;have hB:=ab;have q:w'.cell? ⟨w.heap.size,14,none⟩=some _:=(hB.cell 14).trans da.out;(try dsimp only at ab);go_simp;(try with_reducible rfl))
 simp only [zl];refine tkG 6 ah (h:=?_);simp only [zl];refine E1 (i:=7) (v:=?_) rfl (by kernel_rfl) (by kernel_rfl) (by kernel_rfl) (by kernel_rfl) (fun _ _ _ h=>h) (Or.inl ⟨by kernel_rfl,?_⟩) ah ?_;rotate_left
 focus (intro w' ab;have hB:=ab;have q:w'.cell? ⟨w.heap.size,15,none⟩=some _:=(hB.cell 15).trans cr.out;(try dsimp only at ab);go_simp;(try with_reducible rfl))
 simp only [zl];refine tkG 9 ah (h:=?_);simp only [zl];refine E1 (i:=10) (v:=?_) rfl (by kernel_rfl) (by kernel_rfl) (by kernel_rfl) (by kernel_rfl) (fun _ _ _ h=>h) (Or.inl ⟨by kernel_rfl,?_⟩) ah ?_;rotate_left
 focus (intro w' ab;have hB:=ab;have q:w'.cell? ⟨w.heap.size,19,none⟩=some _:=(hB.cell 19).trans c9.out;(try dsimp only at ab);go_simp;(try with_reducible rfl))
 simp only [zl];refine tkG 12 ah (h:=?_);simp only [zl];refine E1 (i:=13) (v:=?_) rfl (by kernel_rfl) (by kernel_rfl) (by kernel_rfl) (by kernel_rfl) (fun _ _ _ h=>h) (Or.inl ⟨by kernel_rfl,?_⟩) ah ?_;rotate_left
 focus (intro w' ab;have hB:=ab;have q:w'.cell? ⟨w.heap.size,22,none⟩=some _:=(hB.cell 22).trans cu.out;(try dsimp only at ab);go_simp;(try with_reducible rfl))
 simp only [zl];refine Bo 2 (by kernel_rfl) rfl (fun K hK=> ?_);go_simp;go_wp2_with (go_at_call 81;(with_reducible refine (Ma _ _ _ _ _ _ bw.past.rd (Id.cells_one _) (by omega)).mono ?_);rintro _ w1 ⟨A1,c1,rfl,o1,f1⟩;have cd:=ah.fr f1 zq;have du:=cf.fr f1 zq;have ck:=OpL.frame bw f1;have dy:=bq.trans f1 zr;have er:=f1.size);refine hK.out _ _ cd (fun hZ=> ?_);clear hZ hK K;try simp only [Ag,zl]
 refine tkG 15 cd (h:=?_);simp only [zl];refine Bo 5 (by kernel_rfl) rfl (fun K hK=> ?_);go_simp;go_wp2_with (go_at_call 119;(with_reducible refine (P7 _ _ _ _ _ _ ck.body.rd (Jh Bv (fun _=>rfl) _) (by omega)).mono ?_);rintro _ w2 ⟨A2,c2,rfl,o2,f2⟩;have cz:=cd.fr f2 zq;have dq:=du.fr f2 zq;have db:=OpL.frame ck f2;have bg:=dy.trans f2 zr;have d3:=f2.size);refine hK.out _ _ cz (fun hZ=> ?_);clear hZ hK K;try simp only [Ag,zl]
 refine Bo 8 (by kernel_rfl) rfl (fun K hK=> ?_);go_simp;go_wp2_with (go_at_call 120;(with_reducible refine (Xu _ _ _ _ _ _ db.refs.rd (Jh Uv (fun _=>rfl) _) (by omega)).mono ?_);rintro _ w3 ⟨A3,c3,rfl,o3,f3⟩;have cj:=cz.fr f3 zq;have dn:=dq.fr f3 zq;have co:=OpL.frame db f3;have dw:=bg.trans f3 zr;have ej:=f3.size);refine hK.out _ _ cj (fun hZ=> ?_);clear hZ hK K;try simp only [Ag,zl]
 refine Bo 11 (by kernel_rfl) rfl (fun K hK=> ?_);go_simp;go_wp2_with (go_at_call 121;(with_reducible refine (Xv _ _ _ _ _ _ co.guards.rd (Jh Iv (fun _=>rfl) _) (by omega)).mono ?_);rintro _ w4 ⟨A4,c4,rfl,o4,f4⟩;have cm:=cj.fr f4 zq;have dg:=dn.fr f4 zq;have ch:=OpL.frame co f4;have dl:=dw.trans f4 zr;have d8:=f4.size);refine hK.out _ _ cm (fun hZ=> ?_);clear hZ hK K;try simp only [Ag,zl]
 refine Bo 14 (by kernel_rfl) rfl (fun K hK=> ?_);go_simp;go_wp2_with (go_at_call 122;(with_reducible refine (P8 _ _ _ _ _ _ ch.boxes.rd (Qb _) (by omega)).mono ?_);rintro _ w5 ⟨A5,c5,rfl,o5,f5⟩;have aj:=cm.fr f5 zq;have dp:=dg.fr f5 zq;have en:=OpL.frame ch f5;have df:=dl.trans f5 zr;have el:=f5.size);refine hK.out _ _ aj (fun hZ=> ?_);clear hZ hK K;try simp only [Ag,zl]
 refine Ci (by kernel_rfl) ?_;have k4:cS w5 w.heap.size 4 x.pastA x.past.length x.pastC:=(aj.cell 4).trans e4.out;have z4:=aj.frozen 4;have d9:cS w5 w.heap.size 14 x.bodyA x.body.length x.bodyC:=(aj.cell 14).trans da.out;have ed:=aj.frozen 14;have d2:cS w5 w.heap.size 15 x.refsA x.refs.length x.refsC:=(aj.cell 15).trans cr.out;have es:=aj.frozen 15;have ep:cS w5 w.heap.size 19 x.guardsA x.guards.length x.guardsC:=(aj.cell 19).trans c9.out;have em:=aj.frozen 19;have ec:cS w5 w.heap.size 22 x.boxesA x.boxes.length x.boxesC:=(aj.cell 22).trans cu.out;have ef:=aj.frozen 22;refine oG 16 (fun K hK=> ?_);go_simp;refine hK.out _ _ trivial (fun hZ=> ?_);clear hZ hK K;try simp only [Ag,zl]
 refine oG 17 (fun K hK=> ?_);go_simp;refine hK.out _ _ trivial (fun hZ=> ?_);clear hZ hK K;try simp only [Ag,zl]
 refine oG 18 (fun K hK=> ?_);go_simp;refine hK.out _ _ trivial (fun hZ=> ?_);clear hZ hK K;try simp only [Ag,zl]
 refine oG 19 (fun K hK=> ?_);go_simp;refine hK.out _ _ trivial (fun hZ=> ?_);clear hZ hK K;try simp only [Ag,zl]
 refine oG 20 (fun K hK=> ?_);go_simp;refine hK.out _ _ trivial (fun hZ=> ?_);clear hZ hK K;try simp only [Ag,zl]
 refine oG 21 (fun K hK=> ?_);go_simp;refine hK.out _ _ trivial (fun hZ=> ?_);clear hZ hK K;try simp only [Ag,zl]
 refine oG 22 (fun K hK=> ?_);go_simp;refine hK.out _ _ trivial (fun hZ=> ?_);clear hZ hK K;try simp only [Ag,zl]
 refine oG 23 (fun K hK=> ?_);go_simp;refine hK.out _ _ trivial (fun hZ=> ?_);clear hZ hK K;try simp only [Ag,zl]
 refine oG 24 (fun K hK=> ?_);go_simp;refine hK.out _ _ trivial (fun hZ=> ?_);clear hZ hK K;try simp only [Ag,zl]
 refine oD ?_;go_simp;obtain ⟨bn,aq⟩:=Aa ({x with pastA:=A1,pastC:=c1,bodyA:=A2,bodyC:=c2,refsA:=A3,refsC:=c3,guardsA:=A4,guardsC:=c4,boxesA:=A5,boxesC:=c5}:OpL).cells
 have ay:Blk (((((w5.setCell ⟨w.heap.size,4,none⟩ (.slice A1 x.past.length c1)).setCell ⟨w.heap.size,14,none⟩ (.slice A2 x.body.length c2)).setCell ⟨w.heap.size,15,none⟩ (.slice A3 x.refs.length c3)).setCell ⟨w.heap.size,19,none⟩ (.slice A4 x.guards.length c4)).setCell ⟨w.heap.size,22,none⟩ (.slice A5 x.boxes.length c5)) w.heap.size 44 bn:=by
  rw [<- aq.out];rw [<- a1.out] at aj;exact ((((aj.set 4 _).set 14 _).set 15 _).set 19 _).set 22 _
 have au:Fr (One w.heap.size) w5 (((((w5.setCell ⟨w.heap.size,4,none⟩ (.slice A1 x.past.length c1)).setCell ⟨w.heap.size,14,none⟩ (.slice A2 x.body.length c2)).setCell ⟨w.heap.size,15,none⟩ (.slice A3 x.refs.length c3)).setCell ⟨w.heap.size,19,none⟩ (.slice A4 x.guards.length c4)).setCell ⟨w.heap.size,22,none⟩ (.slice A5 x.boxes.length c5)):=(((((Fr.refl (One w.heap.size) w5).setCell (p:=⟨w.heap.size,4,none⟩) (fun _=>rfl) _).setCell (p:=⟨w.heap.size,14,none⟩) (fun _=>rfl) _).setCell (p:=⟨w.heap.size,15,none⟩) (fun _=>rfl) _).setCell (p:=⟨w.heap.size,19,none⟩) (fun _=>rfl) _).setCell (p:=⟨w.heap.size,22,none⟩) (fun _=>rfl) _;have sd:w0.drew.heap.size=w.heap.size+2:=dv;have ee:w.heap.size+2<=(((((w5.setCell ⟨w.heap.size,4,none⟩ (.slice A1 x.past.length c1)).setCell ⟨w.heap.size,14,none⟩ (.slice A2 x.body.length c2)).setCell ⟨w.heap.size,15,none⟩ (.slice A3 x.refs.length c3)).setCell ⟨w.heap.size,19,none⟩ (.slice A4 x.guards.length c4)).setCell ⟨w.heap.size,22,none⟩ (.slice A5 x.boxes.length c5)).heap.size:=by have h1:=au.size;omega
 have cc:=dp.fr au (fun e=>by have e':w.heap.size+1=w.heap.size:=e;omega);have ap:x.at (((((w5.setCell ⟨w.heap.size,4,none⟩ (.slice A1 x.past.length c1)).setCell ⟨w.heap.size,14,none⟩ (.slice A2 x.body.length c2)).setCell ⟨w.heap.size,15,none⟩ (.slice A3 x.refs.length c3)).setCell ⟨w.heap.size,19,none⟩ (.slice A4 x.guards.length c4)).setCell ⟨w.heap.size,22,none⟩ (.slice A5 x.boxes.length c5)) w.heap.size:=(hat.fr df zr).fr au (fun j hj e=>by have e':j=w.heap.size:=e;omega);have bl:Fr Non w (((((w5.setCell ⟨w.heap.size,4,none⟩ (.slice A1 x.past.length c1)).setCell ⟨w.heap.size,14,none⟩ (.slice A2 x.body.length c2)).setCell ⟨w.heap.size,15,none⟩ (.slice A3 x.refs.length c3)).setCell ⟨w.heap.size,19,none⟩ (.slice A4 x.guards.length c4)).setCell ⟨w.heap.size,22,none⟩ (.slice A5 x.boxes.length c5)):=df.trans au (fun j hj e=>by have e':j=w.heap.size:=e;omega);have p1:=((o1.fr (((f2.trans f3 zr).trans f4 zr).trans f5 zr) zr).lower (base':=w.heap.size+2) (by omega)).fr au (fun j hj e=>by have h1:=(o1.row j hj).1;have e':j=w.heap.size:=e;omega);have p2:=((o2.fr ((f3.trans f4 zr).trans f5 zr) zr).lower (base':=w.heap.size+2) (by omega)).fr au (fun j hj e=>by have h1:=(o2.row j hj).1;have e':j=w.heap.size:=e;omega);have p3:=((o3.fr (f4.trans f5 zr) zr).lower (base':=w.heap.size+2) (by omega)).fr au (fun j hj e=>by have h1:=(o3.row j hj).1;have e':j=w.heap.size:=e;omega);have p4:=((o4.fr (f5) zr).lower (base':=w.heap.size+2) (by omega)).fr au (fun j hj e=>by have h1:=(o4.row j hj).1;have e':j=w.heap.size:=e;omega);have p5:=(o5.lower (base':=w.heap.size+2) (by omega)).fr au (fun j hj e=>by have h1:=(o5.row j hj).1;have e':j=w.heap.size:=e;omega);clear a1 ah cd cz cj cm aj cf du dq dn dg dp bq dy bg dw dl df bw ck db co ch en f1 f2 f3 f4 f5 au o1 o2 o3 o4 o5 e4 da cr c9 cu k4 d9 d2 ep ec z4 ed es em ef er d3 ej d8 el sd dv;generalize (((((w5.setCell ⟨w.heap.size,4,none⟩ (.slice A1 x.past.length c1)).setCell ⟨w.heap.size,14,none⟩ (.slice A2 x.body.length c2)).setCell ⟨w.heap.size,15,none⟩ (.slice A3 x.refs.length c3)).setCell ⟨w.heap.size,19,none⟩ (.slice A4 x.guards.length c4)).setCell ⟨w.heap.size,22,none⟩ (.slice A5 x.boxes.length c5))=w6 at*;clear w5 w4 w3 w2 w1 w0;have e9:Hid (bn[9]? =some (.slice x.pathA x.path.length x.pathC)):=by show _=_;rw [<- aq.out];rfl
 have bj:Hid (bn[24]? =some (.slice x.histA x.hist.length x.histC)):=by show _=_;rw [<- aq.out];rfl
 go_wp2_with fail;refine Cn (S:=(fun w'=>Blk w' w.heap.size 44 bn)) 7 (by kernel_rfl) ?_;replace ay:Blk w6.drew w.heap.size 44 bn:=ay.drew;replace cc:=cc.drew;replace bl:=bl.drew;replace ap:=ap.fr ((Fr.refl Non w6).drew) zr;have ev:w.heap.size<=w6.drew.heap.size:=bl.size;have d7:w.heap.size+2<=w6.drew.heap.size:=by have h1:=ee;exact h1
 replace p1:=p1.drew;replace p2:=p2.drew;replace p3:=p3.drew;replace p4:=p4.drew;replace p5:=p5.drew;refine tkG 0 ay (h:=?_);simp only [zl];refine E1 (i:=1) (v:=?_) rfl (by kernel_rfl) (by kernel_rfl) (by kernel_rfl) (by kernel_rfl) (fun _ _ _ h=>h) (Or.inl ⟨by kernel_rfl,?_⟩) ay ?_;rotate_left
 focus (intro w' ab;have hB:=ab;have q:w'.cell? ⟨w.heap.size,9,none⟩=some _:=(hB.cell 9).trans e9.out;(try dsimp only at ab);go_simp;(try with_reducible rfl))
 simp only [zl];refine tkG 3 ay (h:=?_);simp only [zl];refine E1 (i:=4) (v:=?_) rfl (by kernel_rfl) (by kernel_rfl) (by kernel_rfl) (by kernel_rfl) (fun _ _ _ h=>h) (Or.inl ⟨by kernel_rfl,?_⟩) ay ?_;rotate_left
 focus (intro w' ab;have hB:=ab;have q:w'.cell? ⟨w.heap.size,24,none⟩=some _:=(hB.cell 24).trans bj.out;(try dsimp only at ab);go_simp;(try with_reducible rfl))
 simp only [zl];refine Bo 2 (by kernel_rfl) rfl (fun K hK=> ?_);go_simp;go_wp2_with (go_at_call 123;(with_reducible refine (Xw _ _ _ _ _ _ ap.path.rd (Yd _) (by omega)).mono ?_);rintro _ w7 ⟨A7,c7,rfl,o7,f7⟩;have cb:=ay.fr f7 zq;have dh:=cc.fr f7 zq;have a8:=ap.fr f7 zr;have dt:=bl.trans f7 zr;have eu:=f7.size);refine hK.out _ _ cb (fun hZ=> ?_);clear hZ hK K;try simp only [Ag,zl]
 refine tkG 6 cb (h:=?_);simp only [zl];refine Bo 5 (by kernel_rfl) rfl (fun K hK=> ?_);go_simp;go_wp2_with (go_at_call 124;(with_reducible refine (Xx _ _ _ _ _ _ a8.hist.rd (Ye _) (by omega)).mono ?_);rintro _ w8 ⟨A8,c8,rfl,o8,f8⟩;have a2:=cb.fr f8 zq;have dk:=dh.fr f8 zq;have bv:=a8.fr f8 zr;have dm:=dt.trans f8 zr;have ew:=f8.size);refine hK.out _ _ a2 (fun hZ=> ?_);clear hZ hK K;try simp only [Ag,zl]
 refine Ci (by kernel_rfl) ?_;have k9:cS w8 w.heap.size 9 x.pathA x.path.length x.pathC:=(a2.cell 9).trans e9.out;have z9:=a2.frozen 9;have cx:cS w8 w.heap.size 24 x.histA x.hist.length x.histC:=(a2.cell 24).trans bj.out;have eb:=a2.frozen 24;refine oG 7 (fun K hK=> ?_);go_simp;refine hK.out _ _ trivial (fun hZ=> ?_);clear hZ hK K;try simp only [Ag,zl]
 refine oG 8 (fun K hK=> ?_);go_simp;refine hK.out _ _ trivial (fun hZ=> ?_);clear hZ hK K;try simp only [Ag,zl]
 refine oG 9 (fun K hK=> ?_);go_simp;refine hK.out _ _ trivial (fun hZ=> ?_);clear hZ hK K;try simp only [Ag,zl]
 refine oD ?_;go_simp;obtain ⟨b6,ax⟩:=Aa ({x with pastA:=A1,pastC:=c1,bodyA:=A2,bodyC:=c2,refsA:=A3,refsC:=c3,guardsA:=A4,guardsC:=c4,boxesA:=A5,boxesC:=c5,pathA:=A7,pathC:=c7,histA:=A8,histC:=c8}:OpL).cells
 have dd:Blk ((w8.setCell ⟨w.heap.size,9,none⟩ (.slice A7 x.path.length c7)).setCell ⟨w.heap.size,24,none⟩ (.slice A8 x.hist.length c8)) w.heap.size 44 b6:=by
  rw [<- ax.out];rw [<- aq.out] at a2;exact (a2.set 9 _).set 24 _
 have ak:Fr (One w.heap.size) w8 ((w8.setCell ⟨w.heap.size,9,none⟩ (.slice A7 x.path.length c7)).setCell ⟨w.heap.size,24,none⟩ (.slice A8 x.hist.length c8)):=((Fr.refl (One w.heap.size) w8).setCell (p:=⟨w.heap.size,9,none⟩) (fun _=>rfl) _).setCell (p:=⟨w.heap.size,24,none⟩) (fun _=>rfl) _;have dj:=dk.fr ak (fun e=>by have e':w.heap.size+1=w.heap.size:=e;omega);have bc:x.at ((w8.setCell ⟨w.heap.size,9,none⟩ (.slice A7 x.path.length c7)).setCell ⟨w.heap.size,24,none⟩ (.slice A8 x.hist.length c8)) w.heap.size:=bv.fr ak (fun j hj e=>by have e':j=w.heap.size:=e;omega);have ds:Fr Non w ((w8.setCell ⟨w.heap.size,9,none⟩ (.slice A7 x.path.length c7)).setCell ⟨w.heap.size,24,none⟩ (.slice A8 x.hist.length c8)):=dm.trans ak (fun j hj e=>by have e':j=w.heap.size:=e;omega);have bh:=f7.trans f8 zr;have et:w8.heap.size<=((w8.setCell ⟨w.heap.size,9,none⟩ (.slice A7 x.path.length c7)).setCell ⟨w.heap.size,24,none⟩ (.slice A8 x.hist.length c8)).heap.size:=ak.size;have N6:w.heap.size+2<=w6.drew.heap.size:=d7;have b1:∀k,Ac A1=some k->w.heap.size+2<=k/\k<w6.drew.heap.size:=p1.row;have q1:=(p1.fr bh zr).fr ak (fun j hj e=>by have h1:=(b1 j hj).1;have e':j=w.heap.size:=e;omega);have b2:∀k,Ac A2=some k->w.heap.size+2<=k/\k<w6.drew.heap.size:=p2.row;have q2:=(p2.fr bh zr).fr ak (fun j hj e=>by have h1:=(b2 j hj).1;have e':j=w.heap.size:=e;omega);have b3:∀k,Ac A3=some k->w.heap.size+2<=k/\k<w6.drew.heap.size:=p3.row;have q3:=(p3.fr bh zr).fr ak (fun j hj e=>by have h1:=(b3 j hj).1;have e':j=w.heap.size:=e;omega);have b4:∀k,Ac A4=some k->w.heap.size+2<=k/\k<w6.drew.heap.size:=p4.row;have q4:=(p4.fr bh zr).fr ak (fun j hj e=>by have h1:=(b4 j hj).1;have e':j=w.heap.size:=e;omega);have b5:∀k,Ac A5=some k->w.heap.size+2<=k/\k<w6.drew.heap.size:=p5.row;have q5:=(p5.fr bh zr).fr ak (fun j hj e=>by have h1:=(b5 j hj).1;have e':j=w.heap.size:=e;omega);have b7:=o7.row;have b8:=o8.row;have q7:=((o7.lower (base':=w.heap.size+2) N6).fr f8 zr).fr ak (fun j hj e=>by have h1:=(b7 j hj).1;have e':j=w.heap.size:=e;omega);have q8:=(o8.lower (base':=w.heap.size+2) (by omega)).fr ak (fun j hj e=>by have h1:=(b8 j hj).1;have e':j=w.heap.size:=e;omega);clear ay cb a2 cc dh dk bl dt dm ap a8 bv f7 f8 bh ak o7 o8 p1 p2 p3 p4 p5 e9 bj k9 cx z9 eb aq;generalize ((w8.setCell ⟨w.heap.size,9,none⟩ (.slice A7 x.path.length c7)).setCell ⟨w.heap.size,24,none⟩ (.slice A8 x.hist.length c8))=w9 at*;have e9:Hid (b6[9]? =some (.slice A7 x.path.length c7)):=by show _=_;rw [<- ax.out];rfl
 have bj:Hid (b6[24]? =some (.slice A8 x.hist.length c8)):=by show _=_;rw [<- ax.out];rfl
 have k9:cS w9 w.heap.size 9 A7 x.path.length c7:=(dd.cell 9).trans e9.out;obtain ⟨np,ca⟩:=Aa x.path.length;obtain ⟨nh,ce⟩:=Aa x.hist.length;rw [ca.out] at k9 e9 bz q7;rw [ce.out] at bj bp q8;go_wp2_with fail
 go_loopw [36] (fun v wr=>∃(k:Nat) (L:List NdL),v=.int .i64 (k:Int)/\k<=np/\Hid (L.map NdL.nd=x.path.map NdL.nd)/\Hid (L.drop k=x.path.drop k)/\Own wr (w.heap.size+2) 94 2 A7 np c7 (L.flatMap NdL.cells)/\Hid (∀y∈L.take k,Own wr w9.heap.size 148 4 y.A y.xs.length y.c (y.xs.flatMap Bx.cells))/\Fr (fun b=>Ac A7=some b) w9 wr) (fun v _=>np-(intOf v).toNat)
 case atStart=>exact ⟨0,x.path,rfl,by omega,rfl,rfl,q7,(fun _ h=>by simp at h),Fr.refl _ _⟩
 case round=>
  obtain ⟨k,L,rfl,hk,ad,ac,af,aa,hf⟩:=hrel
  by_cases hlt:k<np
  ·
   have i1:(0:Int)<=k:=by omega
   have i2:(k:Int)<np:=by omega
   have i3:(k:Int).toNat=k:=by omega
   obtain ⟨y,hy⟩:∃y,x.path[k]? =some y:=⟨_,At7 (by rw [ca.out];exact hlt)⟩;have aw:L[k]? =some y:=(Mc ac.out).trans hy;have ar:=At3 hy;have cv:=bb.out y ar;obtain ⟨g,hA,cw,ek,ae,bi,_⟩:=Own.setAt af (j:=k*2+1) (by omega) (.int .i64 0);have a9:=(bc.nodes y ar).fr hf (fun j hj e=>by have h1:=(b7 j e).1;omega);have d0:cS wr g (k*2+1) y.A y.xs.length y.c:=ae _ (by rw [Gf (f:=NdL.cells) (fun _=>rfl) L k 1 y aw (by omega)];rfl);have kk:cS wr w.heap.size 9 A7 np c7:=hf.cell k9 (fun e=>by have h1:w6.drew.heap.size<=w.heap.size:=(b7 _ e).1;omega);have d5:w.heap.size+2<=g:=cw;rw [hA] at kk
   have ag:∀(wv:World) (u:Value),Fr Non wr wv->cS wv g (k*2+1) y.A y.xs.length y.c/\wv.frozen? ⟨g,k*2+1,none⟩=false/\Own (wv.setCell ⟨g,k*2+1,none⟩ u) (w.heap.size+2) 94 2 A7 np c7 ((L.flatMap NdL.cells).set (k*2+1) u):=by
    intro wv u bo;obtain ⟨g2,bx,_,_,d4,be,c6⟩:=Own.setAt (af.fr bo zr) (j:=k*2+1) (by omega) u;rw [hA] at bx;have cg:g=g2:=by injection bx with e;injection e
    subst cg;exact ⟨bo.cell d0 zq,be,c6⟩
   replace ag:=lh ag;replace hA:=lh hA;clear ae bi;go_upto_region 6 with (fail)
   refine Cn (S:=(fun w'=>cS w' w.heap.size 9 (some ⟨g,0,none⟩) np c7/\cS w' g (k*2+1) y.A y.xs.length y.c)) 10 (by kernel_rfl) ?_;have hS:(fun w'=>cS w' w.heap.size 9 (some ⟨g,0,none⟩) np c7/\cS w' g (k*2+1) y.A y.xs.length y.c) wr.drew:=⟨kk,d0⟩;have fd:Fr Non wr wr.drew:=(Fr.refl Non wr).drew;have c0:Rd wr.drew w.heap.size 4 y.A y.xs.length (y.xs.flatMap Bx.cells):=And.left (a9.fr fd zr);refine tkG 0 hS (h:=tkG 1 hS (h:=tkG 2 hS (h:=tkG 3 hS (h:=tkG 4 hS (h:=tkG 5 hS (h:=tkG 6 hS (h:=tkG 7 hS (h:=tkG 8 hS (h:=?_)))))))));simp only [zl];refine Bo 9 (by kernel_rfl) rfl (fun K hK=> ?_);go_simp;go_wp2_with (go_at_call 122;go_loud (with_reducible refine (P8 _ _ _ _ _ _ c0 (Qb _) cv).mono ?_);rintro _ wv ⟨A',c',rfl,ov,fv⟩);have av:=fd.trans fv zr;obtain ⟨d1,z1,cn⟩:=ag.out wv (.slice A' y.xs.length c') av;refine hK.out _ _ ⟨av.cell kk zq,d1⟩ (fun hZ=> ?_);clear hZ hK K;try simp only [Ag,zl]
   refine Ci (by kernel_rfl) ?_;refine oG 10 (fun K hK=> ?_);go_simp;refine hK.out _ _ trivial (fun hZ=> ?_);clear hZ hK K;try simp only [Ag,zl]
   refine oG 11 (fun K hK=> ?_);go_simp;refine hK.out _ _ trivial (fun hZ=> ?_);clear hZ hK K;try simp only [Ag,zl]
   refine oG 12 (fun K hK=> ?_);go_simp;refine hK.out _ _ trivial (fun hZ=> ?_);clear hZ hK K;try simp only [Ag,zl]
   refine oD ?_;go_simp;have ex:∃y':NdL,y'={y with A:=A',c:=c'}:=⟨_,rfl⟩;obtain ⟨y',bd⟩:=ex
   have a4:Own (wv.setCell ⟨g,k*2+1,none⟩ (.slice A' y.xs.length c')) (w.heap.size+2) 94 2 A7 np c7 ((L.set k y').flatMap NdL.cells):=by
    rw [<- Hn (f:=NdL.cells) (size:=2) (fun _=>rfl) (j:=1) (by omega) (.slice A' y.xs.length c') y' L k y aw (by rw [bd];rfl)];exact cn
   have fs:Fr (One g) wv (wv.setCell ⟨g,k*2+1,none⟩ (.slice A' y.xs.length c')):=(Fr.refl (One g) wv).setCell (p:=⟨g,k*2+1,none⟩) (fun _=>rfl) _;have b0:Ac A7=some g:=by rw [hA.out];rfl
   have cp:=hf.size
   have al:Hid (∀z∈(L.set k y').take (k+1),Own (wv.setCell ⟨g,k*2+1,none⟩ (.slice A' y.xs.length c')) w9.heap.size 148 4 z.A z.xs.length z.c (z.xs.flatMap Bx.cells)):=by
    intro z hz;rw [Mb L k y' aw] at hz;have ea:g<w9.heap.size:=by have h1:=(b7 g b0).2;omega
    rcases List.mem_append.1 hz with hz|hz
    · exact ((aa.out z hz).fr av zr).fr fs (fun j hj e=>by have h1:=((aa.out z hz).row j hj).1;have e':j=g:=e;omega)
    ·
     obtain rfl:=List.mem_singleton.1 hz;subst bd;exact (ov.lower cp).fr fs (fun j hj e=>by have h1:=(ov.row j hj).1;have h2:wr.drew.heap.size=wr.heap.size:=rfl;have e':j=g:=e;omega)
   have bg:Fr (fun b=>Ac A7=some b) w9 (wv.setCell ⟨g,k*2+1,none⟩ (.slice A' y.xs.length c')):=(hf.trans av (fun _ _ e=>e.elim)).trans fs (fun j hj e=>by have e':j=g:=e;subst e';exact b0);have a6:Hid ((L.set k y').map NdL.nd=x.path.map NdL.nd):=(P9 NdL.nd L k aw (by rw [bd];rfl)).trans ad.out;have ao:Hid ((L.set k y').drop (k+1)=x.path.drop (k+1)):=Qa _ _ k y' ac.out;generalize wv.setCell ⟨g,k*2+1,none⟩ (.slice A' y.xs.length c')=ws at*;generalize L.set k y'=L2 at*;go_wp2_with fail;go_roundw
   case rel=>exact ⟨k+1,L2,by go_num,by omega,a6,ao,a4,al,bg⟩
   case measure=>simp [intOf];omega
  ·
   obtain rfl:np=k:=by omega
   have a5:L.length=x.path.length:=by have h1:=congrArg List.length ad.out;rwa [At2,At2] at h1
   rw [At8 (by rw [a5,ca.out];exact At4 _)] at aa;obtain ⟨bf,dc⟩:∃u,u=wr:=⟨_,rfl⟩;subst dc;have eh:=hf.size;have bs:=dd.fr hf (fun e=>by have h1:w6.drew.heap.size<=w.heap.size:=(b7 _ e).1;omega);have de:=dj.fr hf (fun e=>by have h1:w6.drew.heap.size<=w.heap.size+1:=(b7 _ e).1;omega);have bu:=bc.fr hf (fun j hj e=>by have h1:=(b7 j e).1;omega);have ci:=ds.trans hf (fun j hj e=>by have h1:=(b7 j e).1;omega);have t1:=q1.fr hf (fun j hj e=>by have h1:=(b1 j hj).2;have h2:=(b7 j e).1;omega);have t2:=q2.fr hf (fun j hj e=>by have h1:=(b2 j hj).2;have h2:=(b7 j e).1;omega);have t3:=q3.fr hf (fun j hj e=>by have h1:=(b3 j hj).2;have h2:=(b7 j e).1;omega);have t4:=q4.fr hf (fun j hj e=>by have h1:=(b4 j hj).2;have h2:=(b7 j e).1;omega);have t5:=q5.fr hf (fun j hj e=>by have h1:=(b5 j hj).2;have h2:=(b7 j e).1;omega);have t8:=q8.fr hf (fun j hj e=>by have h1:=(b8 j hj).1;have h2:=(b7 j e).2;omega);have t7:=af;have az:=ad;have ai:=aa;have br:=lh a5;clear ad aa ac af hlt hk a5 hf dd dj bc ds q1 q2 q3 q4 q5 q7 q8 k9;obtain ⟨L7,d6⟩:∃u,u=L:=⟨_,rfl⟩;subst d6;have cx:cS bf w.heap.size 24 A8 nh c8:=(bs.cell 24).trans bj.out;go_wp2_with fail
   go_loopw [55] (fun v wr=>∃(k:Nat) (L:List SlL),v=.int .i64 (k:Int)/\k<=nh/\Hid (L.map SlL.sl=x.hist.map SlL.sl)/\Hid (L.drop k=x.hist.drop k)/\Own wr (w.heap.size+2) 97 4 A8 nh c8 (L.flatMap SlL.cells)/\Hid (∀y∈L.take k,Own wr bf.heap.size 5 1 y.A y.y.length y.c (y.y.map Bv))/\Fr (fun b=>Ac A8=some b) bf wr) (fun v _=>nh-(intOf v).toNat)
   case atStart=>exact ⟨0,x.hist,rfl,by omega,rfl,rfl,t8,(fun _ h=>by simp at h),Fr.refl _ _⟩
   case round=>
    obtain ⟨k,L,rfl,hk,ad,ac,af,aa,hf⟩:=hrel
    by_cases hlt:k<nh
    ·
     have i1:(0:Int)<=k:=by omega
     have i2:(k:Int)<nh:=by omega
     have i3:(k:Int).toNat=k:=by omega
     obtain ⟨y,hy⟩:∃y,x.hist[k]? =some y:=⟨_,At7 (by rw [ce.out];exact hlt)⟩;have aw:L[k]? =some y:=(Mc ac.out).trans hy;have ar:=At3 hy;have cv:=ba.out y ar;obtain ⟨g,hA,cw,ek,ae,bi,_⟩:=Own.setAt af (j:=k*4+3) (by omega) (.int .i64 0);have a9:=(bu.seals y ar).fr hf (fun j hj e=>by have h1:=(b8 j e).1;omega);have d0:cS wr g (k*4+3) y.A y.y.length y.c:=ae _ (by rw [Gf (f:=SlL.cells) (fun _=>rfl) L k 3 y aw (by omega)];rfl);have kk:cS wr w.heap.size 24 A8 nh c8:=hf.cell cx (fun e=>by have h1:w7.heap.size<=w.heap.size:=(b8 _ e).1;omega);have d5:w.heap.size+2<=g:=cw;rw [hA] at kk
     have ag:∀(wv:World) (u:Value),Fr Non wr wv->cS wv g (k*4+3) y.A y.y.length y.c/\wv.frozen? ⟨g,k*4+3,none⟩=false/\Own (wv.setCell ⟨g,k*4+3,none⟩ u) (w.heap.size+2) 97 4 A8 nh c8 ((L.flatMap SlL.cells).set (k*4+3) u):=by
      intro wv u bo;obtain ⟨g2,bx,_,_,d4,be,c6⟩:=Own.setAt (af.fr bo zr) (j:=k*4+3) (by omega) u;rw [hA] at bx;have cg:g=g2:=by injection bx with e;injection e
      subst cg;exact ⟨bo.cell d0 zq,be,c6⟩
     replace ag:=lh ag;replace hA:=lh hA;clear ae bi;go_upto_region 11 with (fail)
     refine Cn (S:=(fun w'=>cS w' w.heap.size 24 (some ⟨g,0,none⟩) nh c8/\cS w' g (k*4+3) y.A y.y.length y.c)) 10 (by kernel_rfl) ?_;have hS:(fun w'=>cS w' w.heap.size 24 (some ⟨g,0,none⟩) nh c8/\cS w' g (k*4+3) y.A y.y.length y.c) wr.drew:=⟨kk,d0⟩;have fd:Fr Non wr wr.drew:=(Fr.refl Non wr).drew;have c0:Rd wr.drew w.heap.size 1 y.A y.y.length (y.y.map Bv):=And.left (a9.fr fd zr);refine tkG 0 hS (h:=tkG 1 hS (h:=tkG 2 hS (h:=tkG 3 hS (h:=tkG 4 hS (h:=tkG 5 hS (h:=tkG 6 hS (h:=tkG 7 hS (h:=tkG 8 hS (h:=?_)))))))));simp only [zl];refine Bo 9 (by kernel_rfl) rfl (fun K hK=> ?_);go_simp;go_wp2_with (go_at_call 119;go_loud (with_reducible refine (P7 _ _ _ _ _ _ c0 (Jh Bv (fun _=>rfl) _) cv).mono ?_);rintro _ wv ⟨A',c',rfl,ov,fv⟩);have av:=fd.trans fv zr;obtain ⟨d1,z1,cn⟩:=ag.out wv (.slice A' y.y.length c') av;refine hK.out _ _ ⟨av.cell kk zq,d1⟩ (fun hZ=> ?_);clear hZ hK K;try simp only [Ag,zl]
     refine Ci (by kernel_rfl) ?_;refine oG 10 (fun K hK=> ?_);go_simp;refine hK.out _ _ trivial (fun hZ=> ?_);clear hZ hK K;try simp only [Ag,zl]
     refine oG 11 (fun K hK=> ?_);go_simp;refine hK.out _ _ trivial (fun hZ=> ?_);clear hZ hK K;try simp only [Ag,zl]
     refine oG 12 (fun K hK=> ?_);go_simp;refine hK.out _ _ trivial (fun hZ=> ?_);clear hZ hK K;try simp only [Ag,zl]
     refine oD ?_;go_simp;have ex:∃y':SlL,y'={y with A:=A',c:=c'}:=⟨_,rfl⟩;obtain ⟨y',bd⟩:=ex
     have a4:Own (wv.setCell ⟨g,k*4+3,none⟩ (.slice A' y.y.length c')) (w.heap.size+2) 97 4 A8 nh c8 ((L.set k y').flatMap SlL.cells):=by
      rw [<- Hn (f:=SlL.cells) (size:=4) (fun _=>rfl) (j:=3) (by omega) (.slice A' y.y.length c') y' L k y aw (by rw [bd];rfl)];exact cn
     have fs:Fr (One g) wv (wv.setCell ⟨g,k*4+3,none⟩ (.slice A' y.y.length c')):=(Fr.refl (One g) wv).setCell (p:=⟨g,k*4+3,none⟩) (fun _=>rfl) _;have b0:Ac A8=some g:=by rw [hA.out];rfl
     have cp:=hf.size
     have al:Hid (∀z∈(L.set k y').take (k+1),Own (wv.setCell ⟨g,k*4+3,none⟩ (.slice A' y.y.length c')) bf.heap.size 5 1 z.A z.y.length z.c (z.y.map Bv)):=by
      intro z hz;rw [Mb L k y' aw] at hz;have ea:g<bf.heap.size:=by have h1:=(b8 g b0).2;omega
      rcases List.mem_append.1 hz with hz|hz
      · exact ((aa.out z hz).fr av zr).fr fs (fun j hj e=>by have h1:=((aa.out z hz).row j hj).1;have e':j=g:=e;omega)
      ·
       obtain rfl:=List.mem_singleton.1 hz;subst bd;exact (ov.lower cp).fr fs (fun j hj e=>by have h1:=(ov.row j hj).1;have h2:wr.drew.heap.size=wr.heap.size:=rfl;have e':j=g:=e;omega)
     have bg:Fr (fun b=>Ac A8=some b) bf (wv.setCell ⟨g,k*4+3,none⟩ (.slice A' y.y.length c')):=(hf.trans av (fun _ _ e=>e.elim)).trans fs (fun j hj e=>by have e':j=g:=e;subst e';exact b0);have a6:Hid ((L.set k y').map SlL.sl=x.hist.map SlL.sl):=(P9 SlL.sl L k aw (by rw [bd];rfl)).trans ad.out;have ao:Hid ((L.set k y').drop (k+1)=x.hist.drop (k+1)):=Qa _ _ k y' ac.out;generalize wv.setCell ⟨g,k*4+3,none⟩ (.slice A' y.y.length c')=ws at*;generalize L.set k y'=L2 at*;go_wp2_with fail;go_roundw
     case rel=>exact ⟨k+1,L2,by go_num,by omega,a6,ao,a4,al,bg⟩
     case measure=>simp [intOf];omega
    ·
     obtain rfl:nh=k:=by omega
     have a5:L.length=x.hist.length:=by have h1:=congrArg List.length ad.out;rwa [At2,At2] at h1
     rw [At8 (by rw [a5,ce.out];exact At4 _)] at aa;obtain ⟨a3,cy⟩:∃u,u=wr:=⟨_,rfl⟩;subst cy;have cl:=bs.fr hf (fun e=>by have h1:w7.heap.size<=w.heap.size:=(b8 _ e).1;omega);have a7:=de.fr hf (fun e=>by have h1:w7.heap.size<=w.heap.size+1:=(b8 _ e).1;omega);have cq:=ci.trans hf (fun j hj e=>by have h1:=(b8 j e).1;omega);have s1:=(t1.fr hf (fun j hj e=>by have h1:=(b1 j hj).2;have h2:=(b8 j e).1;omega)).lower (base':=w.heap.size) (by omega);have s2:=(t2.fr hf (fun j hj e=>by have h1:=(b2 j hj).2;have h2:=(b8 j e).1;omega)).lower (base':=w.heap.size) (by omega);have s3:=(t3.fr hf (fun j hj e=>by have h1:=(b3 j hj).2;have h2:=(b8 j e).1;omega)).lower (base':=w.heap.size) (by omega);have s4:=(t4.fr hf (fun j hj e=>by have h1:=(b4 j hj).2;have h2:=(b8 j e).1;omega)).lower (base':=w.heap.size) (by omega);have s5:=(t5.fr hf (fun j hj e=>by have h1:=(b5 j hj).2;have h2:=(b8 j e).1;omega)).lower (base':=w.heap.size) (by omega);have s7:=(t7.fr hf (fun j hj e=>by have h1:=(b7 j hj).2;have h2:=(b8 j e).1;omega)).lower (base':=w.heap.size) (by omega);have s8:=af.lower (base':=w.heap.size) (by omega);have ei:∀j,w9.heap.size<=j->¬(Ac A8=some j):=fun j hj e=>by have h2:=(b8 j e).2;omega
     have r7:Hid (∀y∈L7,Own a3 w.heap.size 148 4 y.A y.xs.length y.c (y.xs.flatMap Bx.cells)):=fun y hy=>((ai.out y hy).fr hf (fun j hj e=>ei j ((ai.out y hy).row j hj).1 e)).lower (by omega);have r8:Hid (∀y∈L,Own a3 w.heap.size 5 1 y.A y.y.length y.c (y.y.map Bv)):=fun y hy=>(aa.out y hy).lower (by omega);obtain ⟨v,hv⟩:∃v:OpL,v={x with pastA:=A1,pastC:=c1,bodyA:=A2,bodyC:=c2,refsA:=A3,refsC:=c3,guardsA:=A4,guardsC:=c4,boxesA:=A5,boxesC:=c5,pathA:=A7,pathC:=c7,histA:=A8,histC:=c8,path:=L7,hist:=L}:=⟨_,rfl⟩
     have dz:v.op=x.op:=by
      rw [hv];unfold OpL.op;simp only [az.out,ad.out]
     have bm:v.own a3 w.heap.size:=by
      rw [ca.out.symm,<- br.out] at s7;rw [ce.out.symm,<- a5] at s8;rw [hv];exact ⟨RowAt.of_own s1,RowAt.of_own s7,(fun y hy=>RowAt.of_own (r7.out y hy)),RowAt.of_own s2,RowAt.of_own s3,RowAt.of_own s4,RowAt.of_own s5,RowAt.of_own s8,(fun y hy=>RowAt.of_own (r8.out y hy))⟩
     have eo:Blk a3 w.heap.size 44 v.cells:=by
      have hc:v.cells=b6:=by
       rw [<- ax.out,hv];unfold OpL.cells;simp only [br.out,a5]
      rw [hc];exact cl
     clear hv az ad r7 r8 s1 s2 s3 s4 s5 s7 s8 ai aa t1 t2 t3 t4 t5 t7 t8;have bt:=Df v
     have eg:Hid (∀wz,Fr (One (w.heap.size+1)) a3 wz->POST (.returned (.agg v.cells)) wz):=by
      intro wz hz;exact a0.out v wz dz (bm.keepP hz (Types.one a7) (by decide) (by decide) (by decide) (by decide) (by decide) (by decide) (by decide)) (cq.trans hz (fun k hk e=>absurd hk (by have e':k=w.heap.size+1:=e;omega)))
     clear dz bm a0;have bk:True:=trivial
     go_wp2_with (first
      |(have _t:=bk;refine Nr rfl 44 (.tmp 1) rfl rfl eo underlying44 rfl hi ?_;clear bk _t)
      |(refine Kz rfl 44 (.tmp 2) (.tmp 71) rfl rfl rfl rfl a7 hi rfl bt ?_;have bi:=(Fr.refl (One (w.heap.size+1)) a3).setRow (g:=w.heap.size+1) (fun _=>rfl) v.cells;have be:=a7.setRow (cs:=v.cells);generalize a3.setRow (w.heap.size+1) v.cells=wz at bi be ⊢;(repeat (first|go_values|go_skip|go_guarded|go_step));exact En (t:=44) rfl rfl be rfl underlying44 (by kernel_rfl) rfl (eg.out wz bi)))
end Oq
namespace Oq
attribute [local go_sem ↓] Cq Ew
attribute [local go_sem] Bool.not_false Bool.not_true
theorem Qd {P:Program} {t:TypeId} {d:TypeDesc} (cs:Array Value) (b o:Nat) (hu:P.underlying t=some d) (hd:d.isRow=true) (hi:(P.info? t).map (·.size)=some cs.size):
  ∀w',World.rangeAt w' b o cs.toList->(ldS t (.pointer (some ⟨b,o,none⟩))).run P w'=.ok (.agg cs) w':=fun w' h=>by
 have:=run_loadAt_mid (P:=P) w' b o t cs.toList d h hu hd (by rw [hi];simp);unfold ldS;rw [this]
def Ho (r:Option OpL) (w:World) (e:Ending) (w':World):Prop:=
 match r with
 |none=>e=.returned (.tuple #[.agg OpL.zero.cells,.bool false])/\Fr Non w w'
 |some x=>∃y:OpL,e=.returned (.tuple #[.agg y.cells,.bool true])/\y.op=x.op/\y.own w' w.heap.size/\Fr Non w w'
def Gph.opOf (g:Gph) (id:Id):Option OpL:=match Ah g.nodes id with|some i=>g.nodes[i]?.map Aj.x|none=>none
theorem Yf (base:Nat) (g:Gph) (id:Id) (w:World) (hg:GAt w base g) (hid:id.ok):Calls zp 140 #[.pointer (some ⟨g.gb,0,none⟩),.agg id.V] w (Ho (g.opOf id) w):=by
 have hi:(zp.info? 44).map (·.size)=some 27:=by kernel_rfl
 have f1:Fr Non w (w.alloc (.cells id.V 38)):=(Fr.refl Non w).alloc _;have f0:=f1.alloc (.cells zO 44);have ad:=(Blk.new w 38 id.V).alloc (.cells zO 44);have br:=Blk.new (w.alloc (.cells id.V 38)) 44 zO;rw [As7] at br;have ax:((w.alloc (.cells id.V 38)).alloc (.cells zO 44)).heap.size=w.heap.size+2:=by rw [As7,As7]
 have ac:=hg.fr f0;generalize hw0:((w.alloc (.cells id.V 38)).alloc (.cells zO 44))=w0 at*;have i0:cI w0 w.heap.size 0 id.b:=ad.cell 0;have i1:cI w0 w.heap.size 1 id.s:=ad.cell 1;have i2:cU w0 w.heap.size 2 id.u:=ad.cell 2;have c1:w0.cell? ⟨g.gb,1,none⟩=some (.map (some g.mb)):=ac.blk.cell 1;have c2:cS w0 g.gb 2 g.nA g.nodes.length g.nC:=ac.blk.cell 2;have aa:=ac.map;have ab:=fun (w':World) (h:MapAt w' g.mb g.mm (Ah g.nodes))=>MapAt.look h id hid;have ah:Hid (g.opOf id=match Ah g.nodes id with|some i=>g.nodes[i]?.map Aj.x|none=>none):=rfl;generalize g.opOf id=R at*
 cases hp:Ah g.nodes id
 ·
  have hR:R=none:=by rw [ah.out,hp]
  have ak:Hid (∀wz,Fr (One (w.heap.size+1)) w0 wz->Ho R w (.returned (.tuple #[.agg OpL.zero.cells,.bool false])) wz):=by
   intro wz hz;rw [hR];exact ⟨rfl,f0.trans hz (fun k hk e=>absurd hk (by have e':k=w.heap.size+1:=e;omega))⟩
  clear hR ah;generalize Ho R w=POST at*;rw [hp] at ab;clear hg ac ad hp;go_enter func140,ntmps140;go_wp2_with fail;clear hw0;refine wp_region_held_drew (S:=(fun w'=>cI w' w.heap.size 0 id.b/\cI w' w.heap.size 1 id.s/\cU w' w.heap.size 2 id.u/\w'.cell? ⟨g.gb,1,none⟩=some (.map (some g.mb))/\MapAt w' g.mb g.mm (Ah g.nodes))) (by kernel_rfl) ⟨i0,i1,i2,c1,aa⟩ (fun hS=> ?_);replace f0:=f0.drew;replace br:=br.drew;refine tkH 0 hS (h:=tkH 1 hS (h:=tkH 2 hS (h:=tkH 3 hS (h:=tkH 4 hS (h:=tkH 5 hS (h:=tkH 6 hS (h:=tkH 7 hS (h:=tkH 8 hS (h:=tkH 9 hS (h:=tkH 10 hS (h:=?_)))))))))));simp only [zl];refine oD ?_;go_simp;have fz:=((Fr.refl (One (w.heap.size+1)) w0).drew).setRow (g:=w.heap.size+1) (fun _=>rfl) zO;have ag:=br.setRow (cs:=zO);have a3:=Bp (P:=zp) (t:=44) (old:=zO) (cs:=zO) (w.heap.size+1) 44 hi rfl (Df OpL.zero);go_wp2_with fail
  (try simp only [Exit.inBlock,Exit.then])
  refine Fa (t:=44) rfl rfl ag rfl underlying44 (by kernel_rfl) rfl ?_;exact ak.out _ fz
 ·
  rename_i i;obtain ⟨n,hn,_⟩:=Gk hp;have hR:R=some n.x:=by rw [ah.out,hp];simp [hn]
  have aw:=hg.few;have a0:i<g.nodes.length:=(List.getElem?_eq_some_iff.1 hn).1;have ap:=(ac.node n (At3 hn)).at_;have al:=(ac.node n (At3 hn)).ok;obtain ⟨b,ao,hA,az,hc⟩:=ac.cell hn
  have ar:World.rangeAt w0.drew b (ao+i*35) n.x.cells.toList:=by
   intro j v hv;have hj:j<27:=(List.getElem?_eq_some_iff.1 hv).1;exact hc j (by omega) v (by unfold Aj.cells;rw [List.getElem?_append_left (by show j<27;exact hj)];exact hv)
  have au:=Qd (P:=zp) n.x.cells b (ao+i*35) underlying44 rfl hi;rw [hA] at c2;have j1:(0:Int)<=i:=by omega
  have j2:(i:Int)<g.nodes.length:=by omega
  have j3:(i:Int).toNat=i:=by omega
  have j4:IntKind.i64.wrap (i:Int)=i:=IntWalk.i64_in _ (by omega);rw [hp] at ab
  have ak:Hid (∀(y:OpL) wz,y.op=n.x.op->y.own wz w.heap.size->Fr Non w wz->Ho R w (.returned (.tuple #[.agg y.cells,.bool true])) wz):=by
   intro y wz h1 h2 h3;rw [hR];exact ⟨y,rfl,h1,h2,h3⟩
  clear hR ah hg ac ad hp hn a0 hc hA az;generalize Ho R w=POST at*;generalize g.nodes.length=nn at*;generalize n.x=x at*;have kc:=lh (fun w' (h:x.at w' w'.heap.size)=>Qc x w' h al);obtain ⟨CX,a1⟩:=Aa x.cells;rw [a1.out] at ar au kc;go_enter func140,ntmps140;go_wp2_with fail;clear hw0;have aq:=c2;refine wp_region_held_drew (S:=(fun w'=>cI w' w.heap.size 0 id.b/\cI w' w.heap.size 1 id.s/\cU w' w.heap.size 2 id.u/\w'.cell? ⟨g.gb,1,none⟩=some (.map (some g.mb))/\MapAt w' g.mb g.mm (Ah g.nodes))) (by kernel_rfl) ⟨i0,i1,i2,c1,aa⟩ (fun hS=> ?_);replace f0:=f0.drew;replace br:=br.drew;refine tkH 0 hS (h:=tkH 1 hS (h:=tkH 2 hS (h:=tkH 3 hS (h:=tkH 4 hS (h:=tkH 5 hS (h:=tkH 6 hS (h:=tkH 7 hS (h:=tkH 8 hS (h:=tkH 9 hS (h:=tkH 10 hS (h:=?_)))))))))));simp only [zl];refine oD ?_;go_simp;replace aq:cS w0.drew g.gb 2 (some ⟨b,ao,none⟩) nn g.nC:=aq;have af:=OpL.frame ap ((Fr.refl Non w0).drew)
  go_wp2_with (first
   |(go_at_call 63;(with_reducible refine (kc.out _ af).mono ?_);rintro _ w1 ⟨y,rfl,ay,aj,fy⟩;have ai:=br.fr fy zq;have ae:=Df y;have av:=f0.trans fy zr;have a2:w0.drew.heap.size=w.heap.size+2:=ax)
   |(refine Kz rfl 44 (.tmp 4) (.tmp 28) rfl rfl rfl rfl ai hi rfl ae ?_;have fz:=((Fr.refl (One (w.heap.size+1)) w1)).setRow (g:=w.heap.size+1) (fun _=>rfl) y.cells;have ag:=ai.setRow (cs:=y.cells);generalize w1.setRow (w.heap.size+1) y.cells=wz at fz ag ⊢))
  (try simp only [Exit.inBlock,Exit.then])
  refine Fa (t:=44) rfl rfl ag rfl underlying44 (by kernel_rfl) rfl ?_;exact ak.out y _ ay ((aj.keep fz ((Types.one ai).mono (fun t e=> .inl e))).lower (by omega)) (av.trans fz (fun k hk e=>absurd hk (by have e':k=w.heap.size+1:=e;omega)))
end Oq
namespace Oq
attribute [local go_sem ↓] Cq Ew
def Qe:Prop:=∀(base gv:Nat) (A:Option Addr) (c:Nat) (l:List Id) (p:Id->Bool) (w:World),Own w base 38 3 A l.length c (l.flatMap Id.cells)->l.length<=1000000->
 (∀x∈l,∀w':World,Fr (fun k=>Ac A=some k) w w'->Calls zp 130 #[.agg x.V,.pointer (some ⟨gv,0,none⟩)] w' (Ae (p x) w'))->
 Calls zp 129 #[.slice A l.length c,.func (.func 130) #[] #[.pointer (some ⟨gv,0,none⟩)]] w fun e w'=>
  ∃ys:List Id,ys=l.filter (fun x=> !p x)/\e=.returned (.slice A ys.length c)/\Rd w' w'.heap.size 3 A ys.length (ys.flatMap Id.cells)/\Fr (fun k=>Ac A=some k) w w'
def Jj (l:List Id) (w:World) (e:Ending) (w':World):Prop:=∃A c,e=.returned (.slice A l.length c)/\Rd w' w'.heap.size 3 A l.length (l.flatMap Id.cells)/\Fr Non w w'
theorem Qf (base:Nat) (g:Gph) (x:OpL) (w:World) (hdel:Qe) (hg:GAt w base g) (hat:x.at w w.heap.size) (hok:∀id∈x.past,id.ok) (hn:x.past.length<=1000000):
  Calls zp 67 #[.pointer (some ⟨g.gb,0,none⟩),.agg x.cells] w (Jj (x.past.filter (fun id=> !(Ah g.nodes id).isSome)) w):=by
 have e4:Hid (x.cells[4]? =some (.slice x.pastA x.past.length x.pastC)):=rfl;obtain ⟨CS,hCS⟩:=Aa x.cells;have f0:Fr Non w ((w.alloc (.cells #[.pointer (some ⟨g.gb,0,none⟩)] 34)).alloc (.cells CS 44)):=((Fr.refl Non w).alloc _).alloc _;have bg:=(Blk.new w 34 #[.pointer (some ⟨g.gb,0,none⟩)]).alloc (.cells CS 44);have bx:=Blk.new (w.alloc (.cells #[.pointer (some ⟨g.gb,0,none⟩)] 34)) 44 CS;rw [As7] at bx;rw [hCS.out] at e4 ⊢
 have hfin:Hid (∀(ys:List Id) A c w',ys=x.past.filter (fun id=> !(Ah g.nodes id).isSome)->Rd w' w'.heap.size 3 A ys.length (ys.flatMap Id.cells)->Fr Non w w'->Jj (x.past.filter (fun id=> !(Ah g.nodes id).isSome)) w (.returned (.slice A ys.length c)) w'):=by
  intro ys A c w' h1 h2 h3;subst h1;exact ⟨A,c,rfl,h2,h3⟩
 generalize Jj (x.past.filter (fun id=> !(Ah g.nodes id).isSome)) w=POST at*;go_enter func67,ntmps67;go_upto_region 1 with (fail)
 generalize (w.alloc (.cells #[.pointer (some ⟨g.gb,0,none⟩)] 34)).alloc (.cells CS 44)=w0 at*;have c4:cS w0 (w.heap.size+1) 4 x.pastA x.past.length x.pastC:=(bx.cell 4).trans e4.out;have kc:=lh (Ma _ _ x.pastC _ _ w0 (OpL.frame hat f0).past.rd (Id.cells_one _) hn);go_wp2_with fail;refine (kc.out).mono ?_;rintro _ w1 ⟨A1,c1,rfl,o1,f1⟩;have sz0:=f0.size;have f01:=f0.trans f1 zr;have bg1:=bg.fr f1 zq;have hrow:=o1.row
 have kd:=lh (hdel w0.heap.size w.heap.size A1 c1 x.past (fun id=>(Ah g.nodes id).isSome) w1 o1 hn (fun id hid w' hf=>by
  have hf':Fr Non w w':=f01.trans hf (fun j hj e=>by have h1:=(hrow j e).1;omega);refine (Xp base g w.heap.size id w' (hg.fr hf') ?_ (hok id hid));exact (bg1.fr hf (fun e=>by have h1:=(hrow _ e).1;have h2:=bg.lt;omega)).cell 0))
 have hff:Hid (∀w',Fr (fun k=>Ac A1=some k) w1 w'->Fr Non w w'):=fun w' hf=>f01.trans hf (fun j hj e=>by have h1:=(hrow j e).1;omega);clear kc hdel hg hat hok bg bx bg1 o1 f1 f0 f01;go_wp2_with fail;refine (kd.out).mono ?_;rintro _ w2 ⟨ys,hys,rfl,hrd,hf2⟩;have fin:=lh (hfin.out ys A1 c1 w2 hys hrd (hff.out w2 hf2));clear hfin hff kd hys hrd hf2;go_wp2_with fail;exact fin.out
end Oq
end
section
open Go.RowKit
theorem Yg {P:Program} (w:World) (t e ty:TypeId) (z:Value) (ht:P.underlying t=some (.slice e)) (hv:∀w,(zeroValue e).run P w=.ok z w) (b o n c:Nat) (hn:0<n)
  (hc:∀j,j<(Builtin.zeroCells z.cells n).toList.length->(w.cell? ⟨b,o+j,none⟩).isSome=true) (hf:∀j,j<(Builtin.zeroCells z.cells n).toList.length->w.frozen? ⟨b,o+j,none⟩=false)
  (h1:∀v∈(Builtin.zeroCells z.cells n).toList,v.oneCell'=true):
  (Builtin.clear_ #[t] ty #[.slice (some ⟨b,o,none⟩) n c]).run P w=.ok (.tuple #[]) (w.setCells b o (Builtin.zeroCells z.cells n).toList):=by
 have hst:=run_storeCells_cells (P:=P) b o (Builtin.zeroCells z.cells n).toList 0 w (by simpa using hc) (by simpa using hf) h1;simp only [Nat.add_zero] at hst;obtain ⟨m,rfl⟩:∃m,n=m+1:=⟨n-1,by omega⟩;simp [Builtin.clear_,run_underlying ht,hv,hst]
end
end Go.Proofs.YtihfebhfgliojaaGreatDoor
