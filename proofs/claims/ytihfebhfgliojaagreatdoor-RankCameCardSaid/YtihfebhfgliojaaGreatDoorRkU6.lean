/-
  Contracts of the functions that the claim's statement reaches, walked one by one (part 6).
  Conditions: as each theorem says.
-/
import Derived.Lib.SliceRun
import Derived.Test.YtihfebhfgliojaaGreatDoorRkU5
set_option maxRecDepth 100000
set_option maxHeartbeats 16000000
open Array renaming getD->Ay1
open Bool renaming and_eq_true->Ay6
open List renaming eq_nil_of_length_eq_zero->Ax6,nil_append->Ax7,length_map->Ax8,mem_of_getElem?->Ax9,flatMap_cons->Ay2,getElem?_eq_getElem->Ay3,take_of_length_le->Ay4,take_succ_eq_append_getElem->Ay5,getElem?_toArray->Ay7
open Nat renaming zero_mul->Ax4,zero_add->Ax5,le_refl->Ay0
open Go.World renaming size_alloc->Ax3
open Go.Proofs.Tryz
open Go.Proofs.Tryz renaming prog->zp
open Go.Lib renaming hid->lh
open List renaming set->zl
open Go.Ending renaming returned->ze
namespace Go.Proofs.YtihfebhfgliojaaGreatDoor
open Go.RowKit
attribute [local go_sem ↓] Go.wp_at_zero Go.wp_at_succ
namespace Oq
attribute [local go_sem] Bool.not_false Bool.not_true
theorem Ys (base:Nat) (g:Gph) (gv:Nat) (id:Id) (w:World) (hg:GAt w base g) (hv:w.cell? ⟨gv,0,none⟩=some (.pointer (some ⟨g.gb,0,none⟩))) (hid:id.ok):
  Calls zp 130 #[.agg id.V,.pointer (some ⟨gv,0,none⟩)] w (Ag (Ak g.nodes id).isSome w):=by
 have f0:Fr Non w (w.alloc (.cells id.V 38)):=(Fr.refl Non w).alloc _;have hb:=Blk.new w 38 id.V;have ac:=hg.fr f0;replace hv:=f0.cell hv zq;generalize hw0:w.alloc (.cells id.V 38)=w0 at*;have i0:cI w0 w.heap.size 0 id.b:=hb.cell 0;have i1:cI w0 w.heap.size 1 id.s:=hb.cell 1;have i2:cU w0 w.heap.size 2 id.u:=hb.cell 2;have c1:w0.cell? ⟨g.gb,1,none⟩=some (.map (some g.mb)):=ac.blk.cell 1;have aa:=ac.map;have ab:=fun (w':World) (h:MapAt w' g.mb g.mm (Ak g.nodes))=>MapAt.look h id hid;clear hg ac hb
 cases hp:Ak g.nodes id
 ·
  rw [hp] at ab;go_enter func130,ntmps130;go_wp2_with fail;try rw [hw0]
  clear hw0 hp;refine wp_region_held_drew (S:=(fun w'=>cI w' w.heap.size 0 id.b/\cI w' w.heap.size 1 id.s/\cU w' w.heap.size 2 id.u/\w'.cell? ⟨g.gb,1,none⟩=some (.map (some g.mb))/\w'.cell? ⟨gv,0,none⟩=some (.pointer (some ⟨g.gb,0,none⟩))/\MapAt w' g.mb g.mm (Ak g.nodes))) (by kernel_rfl) ⟨i0,i1,i2,c1,hv,aa⟩ (fun hS=> ?_);replace f0:=f0.drew;refine tkH 0 hS (h:=tkH 1 hS (h:=tkH 2 hS (h:=tkH 3 hS (h:=tkH 4 hS (h:=tkH 5 hS (h:=tkH 6 hS (h:=tkH 7 hS (h:=tkH 8 hS (h:=tkH 9 hS (h:=tkH 10 hS (h:=?_)))))))))));simp only [zl];refine oD ?_;go_simp;go_wp2_with fail
  go_ret
  exact ⟨rfl,f0⟩
 ·
  rw [hp] at ab;go_enter func130,ntmps130;go_wp2_with fail;try rw [hw0]
  clear hw0 hp;refine wp_region_held_drew (S:=(fun w'=>cI w' w.heap.size 0 id.b/\cI w' w.heap.size 1 id.s/\cU w' w.heap.size 2 id.u/\w'.cell? ⟨g.gb,1,none⟩=some (.map (some g.mb))/\w'.cell? ⟨gv,0,none⟩=some (.pointer (some ⟨g.gb,0,none⟩))/\MapAt w' g.mb g.mm (Ak g.nodes))) (by kernel_rfl) ⟨i0,i1,i2,c1,hv,aa⟩ (fun hS=> ?_);replace f0:=f0.drew;refine tkH 0 hS (h:=tkH 1 hS (h:=tkH 2 hS (h:=tkH 3 hS (h:=tkH 4 hS (h:=tkH 5 hS (h:=tkH 6 hS (h:=tkH 7 hS (h:=tkH 8 hS (h:=tkH 9 hS (h:=tkH 10 hS (h:=?_)))))))))));simp only [zl];refine oD ?_;go_simp;go_wp2_with fail
  go_ret
  exact ⟨rfl,f0⟩
end Oq
namespace Oq
theorem Yt {α:Type} (l:List α) (q:α->Bool) {k:Nat} {x:α} (h:l[k]? =some x):(l.take (k+1)).any q=((l.take k).any q||q x):=by
 obtain ⟨hk,rfl⟩:=List.getElem?_eq_some_iff.1 h;rw [Ay5 hk,List.any_append];simp
def Yu (l:List Id) (p:Id->Bool) (w:World) (e:Ending) (w':World):Prop:=
 ((∃(k:Nat) (id:Id),e=.returned (.int .i64 (k:Int))/\l[k]? =some id/\p id=true/\(l.take k).any p=false)\/(e=.returned (.int .i64 (-1))/\l.any p=false))/\Fr Non w w'
theorem Yv (B n c gv:Nat) (A:Option Addr) (l:List Id) (p:Id->Bool) (w:World) (hn:Hid (l.length=n)) (hr:Rd w B 3 A n (l.flatMap Id.cells)) (hnm:n<=1000000)
  (hmay:Hid (∀x∈l,∀w':World,Fr Non w w'->Calls zp 130 #[.agg x.V,.pointer (some ⟨gv,0,none⟩)] w' (Ag (p x) w'))):
  Calls zp 187 #[.slice A n c,.func (.func 130) #[] #[.pointer (some ⟨gv,0,none⟩)]] w (Yu l p w):=by
 go_enter func187,ntmps187;go_wp2
 go_loopw [8] (fun v wr=>∃k:Nat,v=.int .i64 (k:Int)/\k<=n/\Hid ((l.take k).any p=false)/\Fr Non w wr) (fun v _=>n-(intOf v).toNat)
 case atStart=>exact ⟨0,rfl,by omega,rfl,Fr.refl _ _⟩
 case round=>
  obtain ⟨k,rfl,hk,hh,hf⟩:=hrel
  by_cases hlt:k<n
  ·
   obtain ⟨i1,i2,i3⟩:=ix k n
   obtain ⟨x,hx⟩:∃x,l[k]? =some x:=⟨_,Ay3 (by rw [hn.out];exact hlt)⟩;obtain ⟨b,off,rfl,hbB,k0,k1,k2⟩:=Id.at (hr.fr hf zr) hx;have hmem:=Ax9 hx;have hsn:=lh (Yt l p hx);have hc:=lh (fun w' (h:Fr Non wr w')=>hmay.out x hmem w' (hf.trans h zr));have hx':=lh hx;clear hx hmem
   rcases zb (p x) with hp|hp
   ·
    have hp':=lh hp;rw [hp] at hc hsn;clear hp;go_wp2_with (go_at_call 130;(with_reducible refine (hc.out _ (by first|exact Fr.refl _ _|exact (Fr.refl Non wr).alloc _)).mono ?_);rintro _ w1 ⟨rfl,f1⟩)
    go_ret
    exact ⟨.inl ⟨k,x,rfl,hx'.out,hp'.out,hh.out⟩,by first|exact hf.trans f1 zr|exact (hf.alloc _).trans f1 zr⟩
   ·
    rw [hp] at hc hsn;clear hp;go_wp2_with (go_at_call 130;(with_reducible refine (hc.out _ (by first|exact Fr.refl _ _|exact (Fr.refl Non wr).alloc _)).mono ?_);rintro _ w1 ⟨rfl,f1⟩);go_roundw
    case rel=>exact ⟨k+1,by go_num,by omega,by show _=_;rw [hsn.out,hh.out];rfl,by first|exact hf.trans f1 zr|exact (hf.alloc _).trans f1 zr⟩
    case measure=>simp [intOf];omega
  ·
   obtain rfl:k=n:=by omega
   have hfin:l.any p=false:=by have h:=hh.out;rw [Ay4 (by rw [hn.out];omega)] at h;exact h
   go_wp2
   go_ret
   exact ⟨.inr ⟨rfl,hfin⟩,hf⟩
theorem Yw {P:Program} {t e:TypeId} (hu:P.underlying t=some (.slice e)) (A:Option Addr) (n c:Nat) (w:World):(Go.Op.equal t (.slice A n c) (.slice none 0 0)).run P w=.ok A.isNone w:=by
 show (Go.Op.equalIn (9999+1) t (.slice A n c) (.slice none 0 0)).run P w=_;generalize 9999=d
 cases A<;>simp [Go.Op.equalIn,run_underlying hu]
theorem Fs {P:Program} {t e:TypeId} (hu:P.underlying t=some (.slice e)) (A:Option Addr) (n c:Nat) (w:World):(binOp .eql t (.slice A n c) (.slice none 0 0)).run P w=.ok (.bool A.isNone) w:=by
 have h:binOp .eql t (.slice A n c) (.slice none 0 0)=(do pure (.bool (<- Go.Op.equal t (.slice A n c) (.slice none 0 0)))):=by
  unfold binOp;rfl
 rw [h];simp [Yw hu]
theorem Own.empty (w:World) (t:TypeId) (size:Nat):Own (w.alloc (.cells #[] t)) w.heap.size t size (some ⟨w.heap.size,0,none⟩) 0 0 []:=
 ⟨by simp,.inr ⟨w.heap.size,0,#[],rfl,Ay0 _,heap_alloc_new w _,Ay0 _,by omega,by simp,by simp⟩⟩
def Bf (e:TypeId) (size n:Nat) (xs:List Value) (w:World) (r:Ending) (w':World):Prop:=∃A' c',r=.returned (.slice A' n c')/\Own w' w.heap.size e size A' n c' xs/\Fr Non w w'
theorem Mw (B n c:Nat) (A:Option Addr) (xs:List Value) (w:World) (hr:Rd w B 3 A n xs) (h1:∀u∈xs,u.oneCell'=true) (hn:n<=1000000):
  Calls zp 81 #[.slice A n c] w (Bf 38 3 n xs w):=by
 have heq:=fun w'=>Fs (P:=zp) underlying28 A n c w'
 cases A with
 |none=>
  replace heq:∀w',(binOp .eql 28 (.slice none n c) (.slice none 0 0)).run zp w'=.ok (.bool true) w':=heq
  have h0:n=0:=by
   rcases hr.2 with h|⟨_,_,h,_⟩
   · exact h
   · cases h
  have hx:xs=[]:=Ax6 (by rw [hr.1,h0,Ax4]);subst h0;subst hx;have fin:Bf 38 3 0 [] w (.returned (.slice none 0 0)) w:=⟨none,0,rfl,Own.nil _ _ _ _,Fr.refl _ _⟩;generalize Bf 38 3 0 [] w=POST at*;replace fin:=lh fin;go_enter func81,ntmps81;go_wp2_with fail;exact fin.out
 |some ad=>
  replace heq:∀w',(binOp .eql 28 (.slice (some ad) n c) (.slice none 0 0)).run zp w'=.ok (.bool false) w':=heq;have hem:=Own.empty w 38 3;have hr1:=hr.fr ((Fr.refl Non w).alloc (.cells #[] 38)) zr
  have fin:∀A' c' w',Own w' w.heap.size 38 3 A' (0+n) c' ([]++xs)->Fr (fun k=>Ae (some (⟨w.heap.size,0,none⟩:Addr))=some k) (w.alloc (.cells #[] 38)) w'->Bf 38 3 n xs w (.returned (.slice A' n c')) w':=by
   intro A' c' w' h2 h3;rw [Ax5,Ax7] at h2;refine ⟨A',c',rfl,h2,((Fr.refl Non w).alloc (.cells #[] 38)).trans h3 (fun k hk e=> ?_)⟩;have e':w.heap.size=k:=Option.some.inj e;omega
  replace fin:=lh fin;generalize Bf 38 3 n xs w=POST at*;go_enter func81,ntmps81;go_upto_region 3 with (fail)
  go_wp2_with (at_builtin;go_loud (refine Bc (base:=w.heap.size) (.tmp 5) (.tmp 6) 28 rfl rfl rfl rfl Dp hem hr1 h1 (by omega) (by omega) (by rw [Ax3];omega) ?_);intro A1 c1 w2 own1 fr1 hat1;have hdone:=lh (fin.out _ _ _ own1 fr1);clear own1 fr1 hat1 fin);exact hdone.out
theorem Q4 (B n c:Nat) (A:Option Addr) (xs:List Value) (w:World) (hr:Rd w B 1 A n xs) (h1:∀u∈xs,u.oneCell'=true) (hn:n<=1000000):
  Calls zp 119 #[.slice A n c] w (Bf 5 1 n xs w):=by
 have heq:=fun w'=>Fs (P:=zp) underlying39 A n c w'
 cases A with
 |none=>
  replace heq:∀w',(binOp .eql 39 (.slice none n c) (.slice none 0 0)).run zp w'=.ok (.bool true) w':=heq
  have h0:n=0:=by
   rcases hr.2 with h|⟨_,_,h,_⟩
   · exact h
   · cases h
  have hx:xs=[]:=Ax6 (by rw [hr.1,h0,Ax4]);subst h0;subst hx;have fin:Bf 5 1 0 [] w (.returned (.slice none 0 0)) w:=⟨none,0,rfl,Own.nil _ _ _ _,Fr.refl _ _⟩;generalize Bf 5 1 0 [] w=POST at*;replace fin:=lh fin;go_enter func119,ntmps119;go_wp2_with fail;exact fin.out
 |some ad=>
  replace heq:∀w',(binOp .eql 39 (.slice (some ad) n c) (.slice none 0 0)).run zp w'=.ok (.bool false) w':=heq;have hem:=Own.empty w 5 1;have hr1:=hr.fr ((Fr.refl Non w).alloc (.cells #[] 5)) zr
  have fin:∀A' c' w',Own w' w.heap.size 5 1 A' (0+n) c' ([]++xs)->Fr (fun k=>Ae (some (⟨w.heap.size,0,none⟩:Addr))=some k) (w.alloc (.cells #[] 5)) w'->Bf 5 1 n xs w (.returned (.slice A' n c')) w':=by
   intro A' c' w' h2 h3;rw [Ax5,Ax7] at h2;refine ⟨A',c',rfl,h2,((Fr.refl Non w).alloc (.cells #[] 5)).trans h3 (fun k hk e=> ?_)⟩;have e':w.heap.size=k:=Option.some.inj e;omega
  replace fin:=lh fin;generalize Bf 5 1 n xs w=POST at*;go_enter func119,ntmps119;go_upto_region 3 with (fail)
  go_wp2_with (at_builtin;go_loud (refine Bc (base:=w.heap.size) (.tmp 5) (.tmp 6) 39 rfl rfl rfl rfl slB hem hr1 h1 (by omega) (by omega) (by rw [Ax3];omega) ?_);intro A1 c1 w2 own1 fr1 hat1;have hdone:=lh (fin.out _ _ _ own1 fr1);clear own1 fr1 hat1 fin);exact hdone.out
theorem Yx (B n c:Nat) (A:Option Addr) (xs:List Value) (w:World) (hr:Rd w B 1 A n xs) (h1:∀u∈xs,u.oneCell'=true) (hn:n<=1000000):
  Calls zp 120 #[.slice A n c] w (Bf 23 1 n xs w):=by
 have heq:=fun w'=>Fs (P:=zp) underlying40 A n c w'
 cases A with
 |none=>
  replace heq:∀w',(binOp .eql 40 (.slice none n c) (.slice none 0 0)).run zp w'=.ok (.bool true) w':=heq
  have h0:n=0:=by
   rcases hr.2 with h|⟨_,_,h,_⟩
   · exact h
   · cases h
  have hx:xs=[]:=Ax6 (by rw [hr.1,h0,Ax4]);subst h0;subst hx;have fin:Bf 23 1 0 [] w (.returned (.slice none 0 0)) w:=⟨none,0,rfl,Own.nil _ _ _ _,Fr.refl _ _⟩;generalize Bf 23 1 0 [] w=POST at*;replace fin:=lh fin;go_enter func120,ntmps120;go_wp2_with fail;exact fin.out
 |some ad=>
  replace heq:∀w',(binOp .eql 40 (.slice (some ad) n c) (.slice none 0 0)).run zp w'=.ok (.bool false) w':=heq;have hem:=Own.empty w 23 1;have hr1:=hr.fr ((Fr.refl Non w).alloc (.cells #[] 23)) zr
  have fin:∀A' c' w',Own w' w.heap.size 23 1 A' (0+n) c' ([]++xs)->Fr (fun k=>Ae (some (⟨w.heap.size,0,none⟩:Addr))=some k) (w.alloc (.cells #[] 23)) w'->Bf 23 1 n xs w (.returned (.slice A' n c')) w':=by
   intro A' c' w' h2 h3;rw [Ax5,Ax7] at h2;refine ⟨A',c',rfl,h2,((Fr.refl Non w).alloc (.cells #[] 23)).trans h3 (fun k hk e=> ?_)⟩;have e':w.heap.size=k:=Option.some.inj e;omega
  replace fin:=lh fin;generalize Bf 23 1 n xs w=POST at*;go_enter func120,ntmps120;go_upto_region 3 with (fail)
  go_wp2_with (at_builtin;go_loud (refine Bc (base:=w.heap.size) (.tmp 5) (.tmp 6) 40 rfl rfl rfl rfl Ot hem hr1 h1 (by omega) (by omega) (by rw [Ax3];omega) ?_);intro A1 c1 w2 own1 fr1 hat1;have hdone:=lh (fin.out _ _ _ own1 fr1);clear own1 fr1 hat1 fin);exact hdone.out
theorem Yy (B n c:Nat) (A:Option Addr) (xs:List Value) (w:World) (hr:Rd w B 1 A n xs) (h1:∀u∈xs,u.oneCell'=true) (hn:n<=1000000):
  Calls zp 121 #[.slice A n c] w (Bf 3 1 n xs w):=by
 have heq:=fun w'=>Fs (P:=zp) underlying22 A n c w'
 cases A with
 |none=>
  replace heq:∀w',(binOp .eql 22 (.slice none n c) (.slice none 0 0)).run zp w'=.ok (.bool true) w':=heq
  have h0:n=0:=by
   rcases hr.2 with h|⟨_,_,h,_⟩
   · exact h
   · cases h
  have hx:xs=[]:=Ax6 (by rw [hr.1,h0,Ax4]);subst h0;subst hx;have fin:Bf 3 1 0 [] w (.returned (.slice none 0 0)) w:=⟨none,0,rfl,Own.nil _ _ _ _,Fr.refl _ _⟩;generalize Bf 3 1 0 [] w=POST at*;replace fin:=lh fin;go_enter func121,ntmps121;go_wp2_with fail;exact fin.out
 |some ad=>
  replace heq:∀w',(binOp .eql 22 (.slice (some ad) n c) (.slice none 0 0)).run zp w'=.ok (.bool false) w':=heq;have hem:=Own.empty w 3 1;have hr1:=hr.fr ((Fr.refl Non w).alloc (.cells #[] 3)) zr
  have fin:∀A' c' w',Own w' w.heap.size 3 1 A' (0+n) c' ([]++xs)->Fr (fun k=>Ae (some (⟨w.heap.size,0,none⟩:Addr))=some k) (w.alloc (.cells #[] 3)) w'->Bf 3 1 n xs w (.returned (.slice A' n c')) w':=by
   intro A' c' w' h2 h3;rw [Ax5,Ax7] at h2;refine ⟨A',c',rfl,h2,((Fr.refl Non w).alloc (.cells #[] 3)).trans h3 (fun k hk e=> ?_)⟩;have e':w.heap.size=k:=Option.some.inj e;omega
  replace fin:=lh fin;generalize Bf 3 1 n xs w=POST at*;go_enter func121,ntmps121;go_upto_region 3 with (fail)
  go_wp2_with (at_builtin;go_loud (refine Bc (base:=w.heap.size) (.tmp 5) (.tmp 6) 22 rfl rfl rfl rfl Es hem hr1 h1 (by omega) (by omega) (by rw [Ax3];omega) ?_);intro A1 c1 w2 own1 fr1 hat1;have hdone:=lh (fin.out _ _ _ own1 fr1);clear own1 fr1 hat1 fin);exact hdone.out
theorem Q5 (B n c:Nat) (A:Option Addr) (xs:List Value) (w:World) (hr:Rd w B 4 A n xs) (h1:∀u∈xs,u.oneCell'=true) (hn:n<=1000000):
  Calls zp 122 #[.slice A n c] w (Bf 148 4 n xs w):=by
 have heq:=fun w'=>Fs (P:=zp) underlying41 A n c w'
 cases A with
 |none=>
  replace heq:∀w',(binOp .eql 41 (.slice none n c) (.slice none 0 0)).run zp w'=.ok (.bool true) w':=heq
  have h0:n=0:=by
   rcases hr.2 with h|⟨_,_,h,_⟩
   · exact h
   · cases h
  have hx:xs=[]:=Ax6 (by rw [hr.1,h0,Ax4]);subst h0;subst hx;have fin:Bf 148 4 0 [] w (.returned (.slice none 0 0)) w:=⟨none,0,rfl,Own.nil _ _ _ _,Fr.refl _ _⟩;generalize Bf 148 4 0 [] w=POST at*;replace fin:=lh fin;go_enter func122,ntmps122;go_wp2_with fail;exact fin.out
 |some ad=>
  replace heq:∀w',(binOp .eql 41 (.slice (some ad) n c) (.slice none 0 0)).run zp w'=.ok (.bool false) w':=heq;have hem:=Own.empty w 148 4;have hr1:=hr.fr ((Fr.refl Non w).alloc (.cells #[] 148)) zr
  have fin:∀A' c' w',Own w' w.heap.size 148 4 A' (0+n) c' ([]++xs)->Fr (fun k=>Ae (some (⟨w.heap.size,0,none⟩:Addr))=some k) (w.alloc (.cells #[] 148)) w'->Bf 148 4 n xs w (.returned (.slice A' n c')) w':=by
   intro A' c' w' h2 h3;rw [Ax5,Ax7] at h2;refine ⟨A',c',rfl,h2,((Fr.refl Non w).alloc (.cells #[] 148)).trans h3 (fun k hk e=> ?_)⟩;have e':w.heap.size=k:=Option.some.inj e;omega
  replace fin:=lh fin;generalize Bf 148 4 n xs w=POST at*;go_enter func122,ntmps122;go_upto_region 3 with (fail)
  go_wp2_with (at_builtin;go_loud (refine Bc (base:=w.heap.size) (.tmp 5) (.tmp 6) 41 rfl rfl rfl rfl slBx hem hr1 h1 (by omega) (by omega) (by rw [Ax3];omega) ?_);intro A1 c1 w2 own1 fr1 hat1;have hdone:=lh (fin.out _ _ _ own1 fr1);clear own1 fr1 hat1 fin);exact hdone.out
theorem Yz (B n c:Nat) (A:Option Addr) (xs:List Value) (w:World) (hr:Rd w B 2 A n xs) (h1:∀u∈xs,u.oneCell'=true) (hn:n<=1000000):
  Calls zp 123 #[.slice A n c] w (Bf 94 2 n xs w):=by
 have heq:=fun w'=>Fs (P:=zp) underlying36 A n c w'
 cases A with
 |none=>
  replace heq:∀w',(binOp .eql 36 (.slice none n c) (.slice none 0 0)).run zp w'=.ok (.bool true) w':=heq
  have h0:n=0:=by
   rcases hr.2 with h|⟨_,_,h,_⟩
   · exact h
   · cases h
  have hx:xs=[]:=Ax6 (by rw [hr.1,h0,Ax4]);subst h0;subst hx;have fin:Bf 94 2 0 [] w (.returned (.slice none 0 0)) w:=⟨none,0,rfl,Own.nil _ _ _ _,Fr.refl _ _⟩;generalize Bf 94 2 0 [] w=POST at*;replace fin:=lh fin;go_enter func123,ntmps123;go_wp2_with fail;exact fin.out
 |some ad=>
  replace heq:∀w',(binOp .eql 36 (.slice (some ad) n c) (.slice none 0 0)).run zp w'=.ok (.bool false) w':=heq;have hem:=Own.empty w 94 2;have hr1:=hr.fr ((Fr.refl Non w).alloc (.cells #[] 94)) zr
  have fin:∀A' c' w',Own w' w.heap.size 94 2 A' (0+n) c' ([]++xs)->Fr (fun k=>Ae (some (⟨w.heap.size,0,none⟩:Addr))=some k) (w.alloc (.cells #[] 94)) w'->Bf 94 2 n xs w (.returned (.slice A' n c')) w':=by
   intro A' c' w' h2 h3;rw [Ax5,Ax7] at h2;refine ⟨A',c',rfl,h2,((Fr.refl Non w).alloc (.cells #[] 94)).trans h3 (fun k hk e=> ?_)⟩;have e':w.heap.size=k:=Option.some.inj e;omega
  replace fin:=lh fin;generalize Bf 94 2 n xs w=POST at*;go_enter func123,ntmps123;go_upto_region 3 with (fail)
  go_wp2_with (at_builtin;go_loud (refine Bc (base:=w.heap.size) (.tmp 5) (.tmp 6) 36 rfl rfl rfl rfl slNd hem hr1 h1 (by omega) (by omega) (by rw [Ax3];omega) ?_);intro A1 c1 w2 own1 fr1 hat1;have hdone:=lh (fin.out _ _ _ own1 fr1);clear own1 fr1 hat1 fin);exact hdone.out
theorem Y2 (B n c:Nat) (A:Option Addr) (xs:List Value) (w:World) (hr:Rd w B 4 A n xs) (h1:∀u∈xs,u.oneCell'=true) (hn:n<=1000000):
  Calls zp 124 #[.slice A n c] w (Bf 97 4 n xs w):=by
 have heq:=fun w'=>Fs (P:=zp) underlying42 A n c w'
 cases A with
 |none=>
  replace heq:∀w',(binOp .eql 42 (.slice none n c) (.slice none 0 0)).run zp w'=.ok (.bool true) w':=heq
  have h0:n=0:=by
   rcases hr.2 with h|⟨_,_,h,_⟩
   · exact h
   · cases h
  have hx:xs=[]:=Ax6 (by rw [hr.1,h0,Ax4]);subst h0;subst hx;have fin:Bf 97 4 0 [] w (.returned (.slice none 0 0)) w:=⟨none,0,rfl,Own.nil _ _ _ _,Fr.refl _ _⟩;generalize Bf 97 4 0 [] w=POST at*;replace fin:=lh fin;go_enter func124,ntmps124;go_wp2_with fail;exact fin.out
 |some ad=>
  replace heq:∀w',(binOp .eql 42 (.slice (some ad) n c) (.slice none 0 0)).run zp w'=.ok (.bool false) w':=heq;have hem:=Own.empty w 97 4;have hr1:=hr.fr ((Fr.refl Non w).alloc (.cells #[] 97)) zr
  have fin:∀A' c' w',Own w' w.heap.size 97 4 A' (0+n) c' ([]++xs)->Fr (fun k=>Ae (some (⟨w.heap.size,0,none⟩:Addr))=some k) (w.alloc (.cells #[] 97)) w'->Bf 97 4 n xs w (.returned (.slice A' n c')) w':=by
   intro A' c' w' h2 h3;rw [Ax5,Ax7] at h2;refine ⟨A',c',rfl,h2,((Fr.refl Non w).alloc (.cells #[] 97)).trans h3 (fun k hk e=> ?_)⟩;have e':w.heap.size=k:=Option.some.inj e;omega
  replace fin:=lh fin;generalize Bf 97 4 n xs w=POST at*;go_enter func124,ntmps124;go_upto_region 3 with (fail)
  go_wp2_with (at_builtin;go_loud (refine Bc (base:=w.heap.size) (.tmp 5) (.tmp 6) 42 rfl rfl rfl rfl slSl hem hr1 h1 (by omega) (by omega) (by rw [Ax3];omega) ?_);intro A1 c1 w2 own1 fr1 hat1;have hdone:=lh (fin.out _ _ _ own1 fr1);clear own1 fr1 hat1 fin);exact hdone.out
theorem Y3 (B n c:Nat) (A:Option Addr) (xs:List Value) (w:World) (hr:Rd w B 5 A n xs) (h1:∀u∈xs,u.oneCell'=true) (hn:n<=1000000):
  Calls zp 77 #[.slice A n c] w (Bf 104 5 n xs w):=by
 have heq:=fun w'=>Fs (P:=zp) underlying26 A n c w'
 cases A with
 |none=>
  replace heq:∀w',(binOp .eql 26 (.slice none n c) (.slice none 0 0)).run zp w'=.ok (.bool true) w':=heq
  have h0:n=0:=by
   rcases hr.2 with h|⟨_,_,h,_⟩
   · exact h
   · cases h
  have hx:xs=[]:=Ax6 (by rw [hr.1,h0,Ax4]);subst h0;subst hx;have fin:Bf 104 5 0 [] w (.returned (.slice none 0 0)) w:=⟨none,0,rfl,Own.nil _ _ _ _,Fr.refl _ _⟩;generalize Bf 104 5 0 [] w=POST at*;replace fin:=lh fin;go_enter func77,ntmps77;go_wp2_with fail;exact fin.out
 |some ad=>
  replace heq:∀w',(binOp .eql 26 (.slice (some ad) n c) (.slice none 0 0)).run zp w'=.ok (.bool false) w':=heq;have hem:=Own.empty w 104 5;have hr1:=hr.fr ((Fr.refl Non w).alloc (.cells #[] 104)) zr
  have fin:∀A' c' w',Own w' w.heap.size 104 5 A' (0+n) c' ([]++xs)->Fr (fun k=>Ae (some (⟨w.heap.size,0,none⟩:Addr))=some k) (w.alloc (.cells #[] 104)) w'->Bf 104 5 n xs w (.returned (.slice A' n c')) w':=by
   intro A' c' w' h2 h3;rw [Ax5,Ax7] at h2;refine ⟨A',c',rfl,h2,((Fr.refl Non w).alloc (.cells #[] 104)).trans h3 (fun k hk e=> ?_)⟩;have e':w.heap.size=k:=Option.some.inj e;omega
  replace fin:=lh fin;generalize Bf 104 5 n xs w=POST at*;go_enter func77,ntmps77;go_upto_region 3 with (fail)
  go_wp2_with (at_builtin;go_loud (refine Bc (base:=w.heap.size) (.tmp 5) (.tmp 6) 26 rfl rfl rfl rfl slCd hem hr1 h1 (by omega) (by omega) (by rw [Ax3];omega) ?_);intro A1 c1 w2 own1 fr1 hat1;have hdone:=lh (fin.out _ _ _ own1 fr1);clear own1 fr1 hat1 fin);exact hdone.out
end Oq
section
variable {P : Program} {ops : Array Oper} {Q : Exit -> Act -> World -> Prop} {md : Region.Mode} {S : World -> Prop} {g : Nat}
def C4 (P:Program) (md:Region.Mode) (ops:Array Oper) (Q:Exit->Act->World->Prop) (S:World->Prop) (g:Nat) (fuel:Nat) (listed:Array Bool) (a:Act) (w:World):Prop:=
 match fuel with
 |0=>Region.ready md ops listed=[]/\Q .normal a w
 |k+1=>(Region.ready md ops listed=[]->Q .normal a w)/\
   ∀i∈Region.ready md ops listed,wpOp P ops Q i (fun a' w'=>((listed.setIfInBounds i true).getD g true=false->S w')/\C4 P md ops Q S g k (listed.setIfInBounds i true) a' w') a w
theorem Y5:∀(fuel:Nat) (listed:Array Bool) (a:Act) (w:World),C4 P md ops Q S g fuel listed a w->wpAny P md ops Q fuel listed a w:=by
 intro fuel
 induction fuel with
 |zero=>intro _ _ _ h;exact h
 |succ k ih=>intro l a w h;exact ⟨h.1,fun i hi=>wpOp_mono (fun a' w' h'=>ih _ a' w' h'.2) (h.2 i hi)⟩
theorem Y6:∀(fuel:Nat) (listed:Array Bool) (a:Act) (w:World),listed.getD g true=true->wpAny P md ops Q fuel listed a w->C4 P md ops Q S g fuel listed a w:=by
 intro fuel
 induction fuel with
 |zero=>intro _ _ _ _ h;exact h
 |succ k ih=>
  intro l a w hg h;refine ⟨h.1,fun i hi=>wpOp_mono (fun a' w' h'=> ?_) (h.2 i hi)⟩
  have hg':(l.setIfInBounds i true).getD g true=true:=by
   by_cases hgi:i=g
   ·
    subst hgi
    by_cases hb:i<l.size
    · simp [Ay1,hb]
    · simp [Ay1,hb]
   ·
    rw [getD_set_ne true hgi];exact hg
  exact ⟨fun h0=>(by rw [hg'] at h0;cases h0),ih _ a' w' hg' h'⟩
theorem Y7 {i:Nat} {oi og:Oper} {v:Value} (hi:ops[i]? =some oi) (hog:ops[g]? =some og) (hgi:g≠i) (hwait:∃e∈og.after,Region.binds md e=true/\e.on=i)
  (hsel:∀(j:Nat) (o:Oper) cs b,ops[j]? =some o->o.op≠ .select cs b) (hQ:∀c a w,Q (.panic c) (a.put oi.dst v) w->Q (.panic c) a w):
  ∀(fuel:Nat) (listed:Array Bool) (a:Act) (w:World),listed.getD g true=false->
   (∀j oj,ops[j]? =some oj->j≠i->listed.getD j true=false->(∀e∈oj.after,Region.binds md e=true->e.on≠i)->oi.apart ops oj=true)->
   i∈Region.ready md ops listed->YieldsIf P ops S oi v a->S w->
   C4 P md ops Q S g fuel (listed.setIfInBounds i true) (a.put oi.dst v) w->C4 P md ops Q S g (fuel+1) listed a w:=by
 intro fuel
 induction fuel with
 |zero=>
  intro listed a w hg _ hr hy hS H;refine ⟨fun h=>(by rw [h] at hr;cases hr),fun j hj=> ?_⟩
  by_cases hji:j=i
  · subst hji;exact hy.wpOp hi hS ⟨fun _=>hS,H⟩
  ·
   have h0:=ready_mono hj hji;rw [H.1] at h0
   cases h0
 |succ k ih=>
  intro listed a w hg hfree hr hy hS H;refine ⟨fun h=>(by rw [h] at hr;cases hr),fun j hj=> ?_⟩
  by_cases hji:j=i
  · subst hji;exact hy.wpOp hi hS ⟨fun _=>hS,H⟩
  ·
   have hpend:=(mem_ready.1 hr).1;obtain ⟨hjun,oj,hoj,hall⟩:=mem_ready.1 hj
   have hbl:∀e∈oj.after,Region.binds md e=true->e.on≠i:=fun e he hb heq=>by
    have h1:=hall e he hb;rw [heq] at h1
    rcases Nat.lt_or_ge i listed.size with h'|h'
    · simp [h'] at hpend h1;rw [hpend] at h1;cases h1
    · simp [Array.getElem?_eq_none h'] at h1
   have hjg:j≠g:=by
    rintro rfl;obtain ⟨e,he,hb,heq⟩:=hwait;rw [hog] at hoj
    cases hoj
    exact hbl e he hb heq
   have h1:=H.2 j (ready_mono hj hji);have h2:=wpOp_putIf hoj (hfree j oj hoj hji hjun hbl) (fun cs b=>hsel i oi cs b hi) (fun cs b=>hsel j oj cs b hoj) hQ hy h1;have hg':(listed.setIfInBounds j true).getD g true=false:=by rw [getD_set_ne true hjg];exact hg
   have hgij:((listed.setIfInBounds i true).setIfInBounds j true).getD g true=false:=by rw [getD_set_ne true hjg,getD_set_ne true (Ne.symm hgi)];exact hg
   have hfree':∀m om,ops[m]? =some om->m≠i->(listed.setIfInBounds j true).getD m true=false->
     (∀e∈om.after,Region.binds md e=true->e.on≠i)->oi.apart ops om=true:=fun m om hm hmi hun hno=>by
    refine hfree m om hm hmi ?_ hno
    by_cases hjm:j=m
    · subst hjm;exact hjun
    · rw [getD_set_ne true hjm] at hun;exact hun
   refine wpOp_mono (fun a' w' h3=> ?_) h2;have hS':=h3.2.1 hgij;refine ⟨fun _=>hS',ih _ a' w' hg' hfree' (ready_mono hr (Ne.symm hji)) h3.1 hS' ?_⟩;rw [Array.setIfInBounds_comm _ _ hji];exact h3.2.2
def Jq (md:Region.Mode) (ops:Array Oper) (g i:Nat):Bool:=match ops[g]? with|some og=>og.after.any (fun e=>Region.binds md e&&e.on==i)|none=>false
theorem Y8 {i:Nat} (h:Jq md ops g i=true):∃og,ops[g]? =some og/\∃e∈og.after,Region.binds md e=true/\e.on=i:=by
 unfold Jq at h
 split at h
 ·
  rename_i og hog;obtain ⟨e,he,hb⟩:=Array.any_eq_true'.1 h;simp only [Ay6,beq_iff_eq] at hb;exact ⟨og,hog,e,he,hb.1,hb.2⟩
 · cases h
end
theorem Fi {P:Program} {Q:Exit->Act->World->Prop} {md:Region.Mode} {S:World->Prop} {g:Nat} {l:List Oper} {i:Nat} {d:Tmp} {op:Op} {ty:TypeId} {pos:String} {after:Array Edge} {gd:Option (Nat × Bool)} {v:Value} {fuel:Nat} {listed:Array Bool} {tl:List Value} {ds:List Deferred} {w:World} (hi:l[i]? =some ⟨some d,op,ty,pos,after,gd⟩)
  (hgate:(listed.getD g true==false&&g !=i&&Jq md l.toArray g i)=true)
  (hs:Region.noSelect l.toArray=true) (hf:Region.free md l.toArray listed i=true) (hr:(Region.ready md l.toArray listed).contains i=true)
  (hQ:∀c a w,Q (.panic c) (a.put (some d) v) w->Q (.panic c) a w) (hy:YieldsIf P l.toArray S ⟨some d,op,ty,pos,after,gd⟩ v ⟨tl.toArray,ds⟩) (hS:S w)
  (h:C4 P md l.toArray Q S g fuel (listed.setIfInBounds i true) ⟨(tl.set d v).toArray,ds⟩ w):C4 P md l.toArray Q S g (fuel+1) listed ⟨tl.toArray,ds⟩ w:=by
 simp only [Ay6,beq_iff_eq,bne_iff_ne] at hgate;obtain ⟨og,hog,hwait⟩:=Y8 hgate.2;have hi':l.toArray[i]? =some ⟨some d,op,ty,pos,after,gd⟩:=by rw [Ay7];exact hi
 exact Y7 hi' hog hgate.1.2 hwait (Region.noSelect_spec hs) hQ fuel listed _ w hgate.1.1 (Region.free_spec hi' hf) (by simpa using hr) hy hS (by rw [Ac];exact h)
theorem Bl {P:Program} {Q:Exit->Act->World->Prop} {l:List Oper} {md:Region.Mode} {S:World->Prop} {g fuel:Nat} {listed:Array Bool} {a:Act} {w:World} (i:Nat) {d:Option Tmp} {op:Op} {ty:TypeId} {pos:String} {after:Array Edge} (hr:Region.ready md l.toArray listed=[i]) (ho:l[i]? =some ⟨d,op,ty,pos,after,none⟩)
  (h:∀K':Act->World->Prop,Shut (∀a w,S w->(S w->C4 P md l.toArray Q S g fuel (listed.setIfInBounds i true) a w)->K' a w)->Oper.wp P ⟨d,op,ty,pos,after,none⟩ a w K' Q):
  C4 P md l.toArray Q S g (fuel+1) listed a w:=by
 refine ⟨fun h0=>(by rw [hr] at h0;cases h0),fun j hj=> ?_⟩;rw [hr] at hj;obtain rfl:=List.mem_singleton.1 hj;refine wpOp_step (o:=⟨d,op,ty,pos,after,none⟩) (by rw [Ay7];exact ho) (fun K' hK=> ?_);rw [if_pos (show Region.wanted _ _=true from rfl)];exact h K' (fun a w hS hW=>hK a w ⟨fun _=>hS,hW hS⟩)
theorem Ck {P:Program} {Q:Exit->Act->World->Prop} {l:List Oper} {md:Region.Mode} {S:World->Prop} {g fuel:Nat} {listed:Array Bool} {a:Act} {w:World} (hr:Region.ready md l.toArray listed=[g])
  (h:wpAnyH P md l.toArray Q (fun _=>True) (fuel+1) listed a w):C4 P md l.toArray Q S g (fuel+1) listed a w:=by
 refine ⟨h.1,fun j hj=>wpOp_mono (fun a' w' h'=> ?_) (h.2 j hj)⟩;rw [hr] at hj;obtain rfl:=List.mem_singleton.1 hj
 have hg':(listed.setIfInBounds j true).getD j true=true:=by
  by_cases hb:j<listed.size
  · simp [Ay1,hb]
  · simp [Ay1,hb]
 exact ⟨fun h0=>(by rw [hg'] at h0;cases h0),Y6 _ _ _ _ hg' (wpAny_of_held _ _ _ _ h'.2)⟩
theorem Cr {P:Program} {Q:Exit->Act->World->Prop} {S:World->Prop} (g:Nat) {id:Nat} {l:List Oper} {a:Act} {w:World} (hm:P.follows .mixedOrders=true)
  (h:C4 P .any l.toArray Q S g l.toArray.size (Array.replicate l.toArray.size false) a w.drew):(Code.region id l.toArray true).wp P Q a w:=
 wp_region_any hm (Y5 _ _ _ _ h)
theorem tkG (i:Nat) {P:Program} {Q:Exit->Act->World->Prop} {md:Region.Mode} {S:World->Prop} {gt:Nat} {l:List Oper} {d:Tmp} {op:Op} {ty:TypeId} {pos:String} {after:Array Edge} {g:Option (Nat × Bool)} {v:Value} {fuel:Nat} {listed:Array Bool} {tl:List Value} {ds:List Deferred} {w:World} (hS:S w) (hi:l[i]? =some ⟨some d,op,ty,pos,after,g⟩:=by rfl)
  (hgate:(listed.getD gt true==false&&gt !=i&&Jq md l.toArray gt i)=true:=by kernel_rfl)
  (hs:Region.noSelect l.toArray=true:=by kernel_rfl) (hf:Region.free md l.toArray listed i=true:=by kernel_rfl) (hr:(Region.ready md l.toArray listed).contains i=true:=by kernel_rfl)
  (hQ:∀c a w,Q (.panic c) (a.put (some d) v) w->Q (.panic c) a w:=by exact fun _ _ _ h=>h) (hy:YieldsIf P l.toArray S ⟨some d,op,ty,pos,after,g⟩ v ⟨tl.toArray,ds⟩:=by (refine Or.inl ⟨by kernel_rfl,?_⟩;intro w' hSw;(try dsimp only at hSw);(try simp only [zl]);go_simp;(try with_reducible rfl)))
  (h:C4 P md l.toArray Q S gt fuel (listed.setIfInBounds i true) ⟨(tl.set d v).toArray,ds⟩ w):
  C4 P md l.toArray Q S gt (fuel+1) listed ⟨tl.toArray,ds⟩ w:=Fi hi hgate hs hf hr hQ hy hS h
theorem Own.setAt {w:World} {base n c size:Nat} {t:TypeId} {A:Option Addr} {xs:List Value} (h:Own w base t size A n c xs) {j:Nat} (hj:j<n*size) (u:Value):
  ∃g,A=some ⟨g,0,none⟩/\base<=g/\g<w.heap.size/\(∀v,xs[j]? =some v->w.cell? ⟨g,j,none⟩=some v)/\w.frozen? ⟨g,j,none⟩=false/\Own (w.setCell ⟨g,j,none⟩ u) base t size A n c (xs.set j u):=by
 rcases h.2 with ⟨_,h0⟩|⟨g,cap,cur,hv,hb,hg,h1,h2,h3,h4⟩
 ·
  subst h0;omega
 ·
  injection hv with hA hn hc
  have hblk:Blk w g t cur:=hg;have hset:=hblk.set j u;refine ⟨g,hA,hb,hblk.lt,?_,hblk.frozen j,?_⟩
  ·
   intro v hv';rw [hblk.cell j];rw [<- h4,List.getElem?_take_of_lt hj] at hv';simpa using hv'
  ·
   refine ⟨by rw [List.length_set];exact h.1,.inr ⟨g,cap,cur.setIfInBounds j u,?_,hb,hset,h1,h2,by simpa using h3,?_⟩⟩
   · subst hA hc;rfl
   · rw [Array.toList_setIfInBounds,List.take_set,h4]
theorem H5 {α:Type} {f:α->List Value} {size:Nat} (hf:∀x,(f x).length=size) {j:Nat} (hj:j<size) (v:Value) (y:α):∀(l:List α) (k:Nat) (x:α),l[k]? =some x->(f x).set j v=f y->
  (l.flatMap f).set (k*size+j) v=(l.set k y).flatMap f:=by
 intro l
 induction l with
 |nil=>intro k x hx _;simp at hx
 |cons a r ih=>
  intro k x hx hy
  cases k with
  |zero=>
   simp only [List.getElem?_cons_zero,Option.some.injEq] at hx;subst hx;rw [Ay2,List.set_cons_zero,Ay2,Ax4,Ax5,List.set_append_left _ _ (by rw [hf];exact hj),hy]
  |succ m=>
   rw [List.getElem?_cons_succ] at hx;rw [Ay2,List.set_cons_succ,Ay2,List.set_append_right _ _ (by rw [hf,Nat.add_mul];omega),hf,show (m+1)*size+j-size=m*size+j by rw [Nat.add_mul];omega,ih m x hx hy]
theorem Q6 {α β:Type} (nd:α->β) (l:List α) (k:Nat) {y y':α} (h:l[k]? =some y) (e:nd y'=nd y):(l.set k y').map nd=l.map nd:=by
 rw [List.map_set,e];apply List.ext_getElem?;intro i;rw [List.getElem?_set]
 by_cases hi:k=i
 ·
  subst hi;rw [List.getElem?_map,h];have hk:k<(l.map nd).length:=by rw [Ax8];exact (List.getElem?_eq_some_iff.1 h).1
  simp [(List.getElem?_eq_some_iff.1 h).1]
 · rw [if_neg hi]
theorem Q7 {α:Type} (l m:List α) (k:Nat) (y':α) (h:l.drop k=m.drop k):(l.set k y').drop (k+1)=m.drop (k+1):=by
 rw [List.drop_set_of_lt (by omega)];have h2:=congrArg (List.drop 1) h;rwa [List.drop_drop,List.drop_drop] at h2
theorem Mx {α:Type} (l:List α) (k:Nat) {y:α} (y':α) (h:l[k]? =some y):(l.set k y').take (k+1)=l.take k++[y']:=by
 have hk:=(List.getElem?_eq_some_iff.1 h).1;rw [Ay5 (by rw [List.length_set];exact hk),List.take_set_of_le (by omega)];simp
theorem My {α:Type} {l m:List α} {k:Nat} (h:l.drop k=m.drop k):l[k]? =m[k]? :=by
 have h2:=congrArg (fun t=>t[0]?) h;simpa [List.getElem?_drop] using h2
namespace Oq
attribute [local go_sem ↓] Cj
theorem Jr {α:Type} (f:α->Value) (hf:∀a,(f a).oneCell'=true) (l:List α):∀v∈l.map f,v.oneCell'=true:=by
 intro v hv;obtain ⟨y,_,rfl⟩:=List.mem_map.1 hv;exact hf y
theorem Js {α:Type} (f:α->List Value) (hf:∀a,∀v∈f a,v.oneCell'=true) (l:List α):∀v∈l.flatMap f,v.oneCell'=true:=by
 intro v hv;obtain ⟨y,_,hy⟩:=List.mem_flatMap.1 hv;exact hf y v hy
theorem Q8 (l:List Bx):∀v∈l.flatMap Bx.cells,v.oneCell'=true:=Js _ (fun a v hv=>by simp [Bx.cells] at hv;rcases hv with rfl|rfl|rfl|rfl<;>rfl) l
theorem Y9 (l:List NdL):∀v∈l.flatMap NdL.cells,v.oneCell'=true:=Js _ (fun a v hv=>by simp [NdL.cells] at hv;rcases hv with rfl|rfl<;>rfl) l
theorem Za (l:List SlL):∀v∈l.flatMap SlL.cells,v.oneCell'=true:=Js _ (fun a v hv=>by simp [SlL.cells] at hv;rcases hv with rfl|rfl|rfl|rfl<;>rfl) l
def Mz (o:Op) (w:World) (r:Ending) (w':World):Prop:=
 ∃y:OpL,r=.returned (.agg y.cells)/\y.op=o/\y.own w' w.heap.size/\Fr Non w w'
theorem Q9 (x:OpL) (w:World) (hat:x.at w w.heap.size) (hok:x.op.ok):Calls zp 63 #[.agg x.cells] w (Mz x.op w):=by
 have hi:(zp.info? 44).map (·.size)=some 27:=by kernel_rfl
 have ag:Blk ((w.alloc (.cells x.cells 44)).alloc (.cells zO 44)) w.heap.size 44 x.cells:=(Blk.new w 44 x.cells).alloc _
 have cf:Blk ((w.alloc (.cells x.cells 44)).alloc (.cells zO 44)) (w.heap.size+1) 44 zO:=by
  have:=Blk.new (w.alloc (.cells x.cells 44)) 44 zO;rwa [Ax3] at this
 have dg:((w.alloc (.cells x.cells 44)).alloc (.cells zO 44)).heap.size=w.heap.size+2:=by rw [Ax3,Ax3]
 have bm:Fr Non w ((w.alloc (.cells x.cells 44)).alloc (.cells zO 44)):=((Fr.refl Non w).alloc _).alloc _;have br:=OpL.frame hat bm;have ca:x.guards.length<=1000000:=by have h:=hok.guards.1;rw [show x.op.guards=x.guards from rfl] at h;omega
 have dj:x.refs.length<=1000000:=by have h:=hok.refs.1;rw [show x.op.refs=x.refs from rfl] at h;omega
 have cu:x.boxes.length<=1000000:=by have h:=hok.boxes.1;rw [show x.op.boxes=x.boxes from rfl] at h;omega
 have dz:x.past.length<=1000000:=by have h:=hok.past.1;rw [show x.op.past=x.past from rfl] at h;omega
 have bu:x.path.length<=1000000:=by have h:=hok.path.1;rw [show x.op.path=x.path.map NdL.nd from rfl,Ax8] at h;omega
 have bl:x.hist.length<=1000000:=by have h:=hok.hist.1;rw [show x.op.hist=x.hist.map SlL.sl from rfl,Ax8] at h;omega
 have dm:x.body.length<=1000000:=by have h:=hok.body;rw [show x.op.body=x.body from rfl] at h;omega
 have bd:Hid (∀y∈x.path,y.xs.length<=1000000):=fun y hy=>by have h:=(hok.path.2 y.nd (List.mem_map.2 ⟨y,hy,rfl⟩)).2.1;rw [show y.nd.xs=y.xs from rfl] at h;omega
 have a5:Hid (∀y∈x.hist,y.y.length<=1000000):=fun y hy=>by have h:=(hok.hist.2 y.sl (List.mem_map.2 ⟨y,hy,rfl⟩)).2;rw [show y.sl.y=y.y from rfl] at h;omega
 have a1:Hid (∀(y:OpL) (w':World),y.op=x.op->y.own w' w.heap.size->Fr Non w w'->Mz x.op w (.returned (.agg y.cells)) w'):=fun y w' h1 h2 h3=>⟨y,rfl,h1,h2,h3⟩;generalize Mz x.op w=POST at*;go_enter func63,ntmps63;go_upto_region 1 with (fail)
 generalize ((w.alloc (.cells x.cells 44)).alloc (.cells zO 44))=w0 at*;obtain ⟨CS,a0⟩:=Aa x.cells;rw [a0.out] at ag;have e4:Hid (CS[4]? =some (.slice x.pastA x.past.length x.pastC)):=by show _=_;rw [<- a0.out];rfl
 have cp:Hid (CS[14]? =some (.slice x.bodyA x.body.length x.bodyC)):=by show _=_;rw [<- a0.out];rfl
 have ck:Hid (CS[15]? =some (.slice x.refsA x.refs.length x.refsC)):=by show _=_;rw [<- a0.out];rfl
 have cw:Hid (CS[19]? =some (.slice x.guardsA x.guards.length x.guardsC)):=by show _=_;rw [<- a0.out];rfl
 have dd:Hid (CS[22]? =some (.slice x.boxesA x.boxes.length x.boxesC)):=by show _=_;rw [<- a0.out];rfl
 refine Cr (S:=(fun w'=>Blk w' w.heap.size 44 CS)) 16 (by kernel_rfl) ?_;replace ag:Blk w0.drew w.heap.size 44 CS:=ag.drew;replace cf:=cf.drew;replace bm:=bm.drew;replace br:=OpL.frame br ((Fr.refl Non w0).drew);refine tkG 0 ag (h:=?_);simp only [zl];refine Fi (i:=1) (v:=?_) rfl (by kernel_rfl) (by kernel_rfl) (by kernel_rfl) (by kernel_rfl) (fun _ _ _ h=>h) (Or.inl ⟨by kernel_rfl,?_⟩) ag ?_;rotate_left
 focus (intro w' ac;have hB:=ac;have q:w'.cell? ⟨w.heap.size,4,none⟩=some _:=(hB.cell 4).trans e4.out;(try dsimp only at ac);go_simp;(try with_reducible rfl))
 simp only [zl];refine tkG 3 ag (h:=?_);simp only [zl];refine Fi (i:=4) (v:=?_) rfl (by kernel_rfl) (by kernel_rfl) (by kernel_rfl) (by kernel_rfl) (fun _ _ _ h=>h) (Or.inl ⟨by kernel_rfl,?_⟩) ag ?_;rotate_left
 focus (intro w' ac;have hB:=ac;have q:w'.cell? ⟨w.heap.size,14,none⟩=some _:=(hB.cell 14).trans cp.out;(try dsimp only at ac);go_simp;(try with_reducible rfl))
 simp only [zl];refine tkG 6 ag (h:=?_);simp only [zl];refine Fi (i:=7) (v:=?_) rfl (by kernel_rfl) (by kernel_rfl) (by kernel_rfl) (by kernel_rfl) (fun _ _ _ h=>h) (Or.inl ⟨by kernel_rfl,?_⟩) ag ?_;rotate_left
 focus (intro w' ac;have hB:=ac;have q:w'.cell? ⟨w.heap.size,15,none⟩=some _:=(hB.cell 15).trans ck.out;(try dsimp only at ac);go_simp;(try with_reducible rfl))
 simp only [zl];refine tkG 9 ag (h:=?_);simp only [zl];refine Fi (i:=10) (v:=?_) rfl (by kernel_rfl) (by kernel_rfl) (by kernel_rfl) (by kernel_rfl) (fun _ _ _ h=>h) (Or.inl ⟨by kernel_rfl,?_⟩) ag ?_;rotate_left
 focus (intro w' ac;have hB:=ac;have q:w'.cell? ⟨w.heap.size,19,none⟩=some _:=(hB.cell 19).trans cw.out;(try dsimp only at ac);go_simp;(try with_reducible rfl))
 simp only [zl];refine tkG 12 ag (h:=?_);simp only [zl];refine Fi (i:=13) (v:=?_) rfl (by kernel_rfl) (by kernel_rfl) (by kernel_rfl) (by kernel_rfl) (fun _ _ _ h=>h) (Or.inl ⟨by kernel_rfl,?_⟩) ag ?_;rotate_left
 focus (intro w' ac;have hB:=ac;have q:w'.cell? ⟨w.heap.size,22,none⟩=some _:=(hB.cell 22).trans dd.out;(try dsimp only at ac);go_simp;(try with_reducible rfl))
 simp only [zl];refine Bl 2 (by kernel_rfl) rfl (fun K hK=> ?_);go_simp;go_wp2_with (go_at_call 81;(with_reducible refine (Mw _ _ _ _ _ _ br.past.rd (Id.cells_one _) (by omega)).mono ?_);rintro _ w1 ⟨A1,c1,rfl,o1,f1⟩;have b6:=ag.fr f1 zq;have dw:=cf.fr f1 zq;have cx:=OpL.frame br f1;have dq:=bm.trans f1 zr;have d8:=f1.size);refine hK.out _ _ b6 (fun hZ=> ?_);clear hZ hK K;try simp only [Ah,zl]
 refine tkG 15 b6 (h:=?_);simp only [zl];refine Bl 5 (by kernel_rfl) rfl (fun K hK=> ?_);go_simp;go_wp2_with (go_at_call 119;(with_reducible refine (Q4 _ _ _ _ _ _ cx.body.rd (Jr Bv (fun _=>rfl) _) (by omega)).mono ?_);rintro _ w2 ⟨A2,c2,rfl,o2,f2⟩;have cm:=b6.fr f2 zq;have dl:=dw.fr f2 zq;have cl:=OpL.frame cx f2;have bi:=dq.trans f2 zr;have eg:=f2.size);refine hK.out _ _ cm (fun hZ=> ?_);clear hZ hK K;try simp only [Ah,zl]
 refine Bl 8 (by kernel_rfl) rfl (fun K hK=> ?_);go_simp;go_wp2_with (go_at_call 120;(with_reducible refine (Yx _ _ _ _ _ _ cl.refs.rd (Jr Uv (fun _=>rfl) _) (by omega)).mono ?_);rintro _ w3 ⟨A3,c3,rfl,o3,f3⟩;have cj:=cm.fr f3 zq;have dy:=dl.fr f3 zq;have dc:=OpL.frame cl f3;have dx:=bi.trans f3 zr;have ej:=f3.size);refine hK.out _ _ cj (fun hZ=> ?_);clear hZ hK K;try simp only [Ah,zl]
 refine Bl 11 (by kernel_rfl) rfl (fun K hK=> ?_);go_simp;go_wp2_with (go_at_call 121;(with_reducible refine (Yy _ _ _ _ _ _ dc.guards.rd (Jr Iv (fun _=>rfl) _) (by omega)).mono ?_);rintro _ w4 ⟨A4,c4,rfl,o4,f4⟩;have ct:=cj.fr f4 zq;have dv:=dy.fr f4 zq;have cg:=OpL.frame dc f4;have dn:=dx.trans f4 zr;have ee:=f4.size);refine hK.out _ _ ct (fun hZ=> ?_);clear hZ hK K;try simp only [Ah,zl]
 refine Bl 14 (by kernel_rfl) rfl (fun K hK=> ?_);go_simp;go_wp2_with (go_at_call 122;(with_reducible refine (Q5 _ _ _ _ _ _ cg.boxes.rd (Q8 _) (by omega)).mono ?_);rintro _ w5 ⟨A5,c5,rfl,o5,f5⟩;have aj:=ct.fr f5 zq;have du:=dv.fr f5 zq;have eh:=OpL.frame cg f5;have co:=dn.trans f5 zr;have d7:=f5.size);refine hK.out _ _ aj (fun hZ=> ?_);clear hZ hK K;try simp only [Ah,zl]
 refine Ck (by kernel_rfl) ?_;have k4:cS w5 w.heap.size 4 x.pastA x.past.length x.pastC:=(aj.cell 4).trans e4.out;have z4:=aj.frozen 4;have d3:cS w5 w.heap.size 14 x.bodyA x.body.length x.bodyC:=(aj.cell 14).trans cp.out;have eo:=aj.frozen 14;have ei:cS w5 w.heap.size 15 x.refsA x.refs.length x.refsC:=(aj.cell 15).trans ck.out;have ec:=aj.frozen 15;have ef:cS w5 w.heap.size 19 x.guardsA x.guards.length x.guardsC:=(aj.cell 19).trans cw.out;have d4:=aj.frozen 19;have d5:cS w5 w.heap.size 22 x.boxesA x.boxes.length x.boxesC:=(aj.cell 22).trans dd.out;have ep:=aj.frozen 22;refine oG 16 (fun K hK=> ?_);go_simp;refine hK.out _ _ trivial (fun hZ=> ?_);clear hZ hK K;try simp only [Ah,zl]
 refine oG 17 (fun K hK=> ?_);go_simp;refine hK.out _ _ trivial (fun hZ=> ?_);clear hZ hK K;try simp only [Ah,zl]
 refine oG 18 (fun K hK=> ?_);go_simp;refine hK.out _ _ trivial (fun hZ=> ?_);clear hZ hK K;try simp only [Ah,zl]
 refine oG 19 (fun K hK=> ?_);go_simp;refine hK.out _ _ trivial (fun hZ=> ?_);clear hZ hK K;try simp only [Ah,zl]
 refine oG 20 (fun K hK=> ?_);go_simp;refine hK.out _ _ trivial (fun hZ=> ?_);clear hZ hK K;try simp only [Ah,zl]
 refine oG 21 (fun K hK=> ?_);go_simp;refine hK.out _ _ trivial (fun hZ=> ?_);clear hZ hK K;try simp only [Ah,zl]
 refine oG 22 (fun K hK=> ?_);go_simp;refine hK.out _ _ trivial (fun hZ=> ?_);clear hZ hK K;try simp only [Ah,zl]
 refine oG 23 (fun K hK=> ?_);go_simp;refine hK.out _ _ trivial (fun hZ=> ?_);clear hZ hK K;try simp only [Ah,zl]
 refine oG 24 (fun K hK=> ?_);go_simp;refine hK.out _ _ trivial (fun hZ=> ?_);clear hZ hK K;try simp only [Ah,zl]
 refine oD ?_;go_simp;obtain ⟨bz,ao⟩:=Aa ({x with pastA:=A1,pastC:=c1,bodyA:=A2,bodyC:=c2,refsA:=A3,refsC:=c3,guardsA:=A4,guardsC:=c4,boxesA:=A5,boxesC:=c5}:OpL).cells
 have ay:Blk (((((w5.setCell ⟨w.heap.size,4,none⟩ (.slice A1 x.past.length c1)).setCell ⟨w.heap.size,14,none⟩ (.slice A2 x.body.length c2)).setCell ⟨w.heap.size,15,none⟩ (.slice A3 x.refs.length c3)).setCell ⟨w.heap.size,19,none⟩ (.slice A4 x.guards.length c4)).setCell ⟨w.heap.size,22,none⟩ (.slice A5 x.boxes.length c5)) w.heap.size 44 bz:=by
  rw [<- ao.out];rw [<- a0.out] at aj;exact ((((aj.set 4 _).set 14 _).set 15 _).set 19 _).set 22 _
 have au:Fr (One w.heap.size) w5 (((((w5.setCell ⟨w.heap.size,4,none⟩ (.slice A1 x.past.length c1)).setCell ⟨w.heap.size,14,none⟩ (.slice A2 x.body.length c2)).setCell ⟨w.heap.size,15,none⟩ (.slice A3 x.refs.length c3)).setCell ⟨w.heap.size,19,none⟩ (.slice A4 x.guards.length c4)).setCell ⟨w.heap.size,22,none⟩ (.slice A5 x.boxes.length c5)):=(((((Fr.refl (One w.heap.size) w5).setCell (p:=⟨w.heap.size,4,none⟩) (fun _=>rfl) _).setCell (p:=⟨w.heap.size,14,none⟩) (fun _=>rfl) _).setCell (p:=⟨w.heap.size,15,none⟩) (fun _=>rfl) _).setCell (p:=⟨w.heap.size,19,none⟩) (fun _=>rfl) _).setCell (p:=⟨w.heap.size,22,none⟩) (fun _=>rfl) _;have sd:w0.drew.heap.size=w.heap.size+2:=dg;have ea:w.heap.size+2<=(((((w5.setCell ⟨w.heap.size,4,none⟩ (.slice A1 x.past.length c1)).setCell ⟨w.heap.size,14,none⟩ (.slice A2 x.body.length c2)).setCell ⟨w.heap.size,15,none⟩ (.slice A3 x.refs.length c3)).setCell ⟨w.heap.size,19,none⟩ (.slice A4 x.guards.length c4)).setCell ⟨w.heap.size,22,none⟩ (.slice A5 x.boxes.length c5)).heap.size:=by have h1:=au.size;omega
 have ce:=du.fr au (fun e=>by have e':w.heap.size+1=w.heap.size:=e;omega);have aq:x.at (((((w5.setCell ⟨w.heap.size,4,none⟩ (.slice A1 x.past.length c1)).setCell ⟨w.heap.size,14,none⟩ (.slice A2 x.body.length c2)).setCell ⟨w.heap.size,15,none⟩ (.slice A3 x.refs.length c3)).setCell ⟨w.heap.size,19,none⟩ (.slice A4 x.guards.length c4)).setCell ⟨w.heap.size,22,none⟩ (.slice A5 x.boxes.length c5)) w.heap.size:=(hat.fr co zr).fr au (fun j hj e=>by have e':j=w.heap.size:=e;omega);have bv:Fr Non w (((((w5.setCell ⟨w.heap.size,4,none⟩ (.slice A1 x.past.length c1)).setCell ⟨w.heap.size,14,none⟩ (.slice A2 x.body.length c2)).setCell ⟨w.heap.size,15,none⟩ (.slice A3 x.refs.length c3)).setCell ⟨w.heap.size,19,none⟩ (.slice A4 x.guards.length c4)).setCell ⟨w.heap.size,22,none⟩ (.slice A5 x.boxes.length c5)):=co.trans au (fun j hj e=>by have e':j=w.heap.size:=e;omega);have p1:=((o1.fr (((f2.trans f3 zr).trans f4 zr).trans f5 zr) zr).lower (base':=w.heap.size+2) (by omega)).fr au (fun j hj e=>by have h1:=(o1.row j hj).1;have e':j=w.heap.size:=e;omega);have p2:=((o2.fr ((f3.trans f4 zr).trans f5 zr) zr).lower (base':=w.heap.size+2) (by omega)).fr au (fun j hj e=>by have h1:=(o2.row j hj).1;have e':j=w.heap.size:=e;omega);have p3:=((o3.fr (f4.trans f5 zr) zr).lower (base':=w.heap.size+2) (by omega)).fr au (fun j hj e=>by have h1:=(o3.row j hj).1;have e':j=w.heap.size:=e;omega);have p4:=((o4.fr (f5) zr).lower (base':=w.heap.size+2) (by omega)).fr au (fun j hj e=>by have h1:=(o4.row j hj).1;have e':j=w.heap.size:=e;omega);have p5:=(o5.lower (base':=w.heap.size+2) (by omega)).fr au (fun j hj e=>by have h1:=(o5.row j hj).1;have e':j=w.heap.size:=e;omega);clear a0 ag b6 cm cj ct aj cf dw dl dy dv du bm dq bi dx dn co br cx cl dc cg eh f1 f2 f3 f4 f5 au o1 o2 o3 o4 o5 e4 cp ck cw dd k4 d3 ei ef d5 z4 eo ec d4 ep d8 eg ej ee d7 sd dg;generalize (((((w5.setCell ⟨w.heap.size,4,none⟩ (.slice A1 x.past.length c1)).setCell ⟨w.heap.size,14,none⟩ (.slice A2 x.body.length c2)).setCell ⟨w.heap.size,15,none⟩ (.slice A3 x.refs.length c3)).setCell ⟨w.heap.size,19,none⟩ (.slice A4 x.guards.length c4)).setCell ⟨w.heap.size,22,none⟩ (.slice A5 x.boxes.length c5))=w6 at*;clear w5 w4 w3 w2 w1 w0;have e9:Hid (bz[9]? =some (.slice x.pathA x.path.length x.pathC)):=by show _=_;rw [<- ao.out];rfl
 have bj:Hid (bz[24]? =some (.slice x.histA x.hist.length x.histC)):=by show _=_;rw [<- ao.out];rfl
 go_wp2_with fail;refine Cr (S:=(fun w'=>Blk w' w.heap.size 44 bz)) 7 (by kernel_rfl) ?_;replace ay:Blk w6.drew w.heap.size 44 bz:=ay.drew;replace ce:=ce.drew;replace bv:=bv.drew;replace aq:=aq.fr ((Fr.refl Non w6).drew) zr;have eu:w.heap.size<=w6.drew.heap.size:=bv.size;have el:w.heap.size+2<=w6.drew.heap.size:=by have h1:=ea;exact h1
 replace p1:=p1.drew;replace p2:=p2.drew;replace p3:=p3.drew;replace p4:=p4.drew;replace p5:=p5.drew;refine tkG 0 ay (h:=?_);simp only [zl];refine Fi (i:=1) (v:=?_) rfl (by kernel_rfl) (by kernel_rfl) (by kernel_rfl) (by kernel_rfl) (fun _ _ _ h=>h) (Or.inl ⟨by kernel_rfl,?_⟩) ay ?_;rotate_left
 focus (intro w' ac;have hB:=ac;have q:w'.cell? ⟨w.heap.size,9,none⟩=some _:=(hB.cell 9).trans e9.out;(try dsimp only at ac);go_simp;(try with_reducible rfl))
 simp only [zl];refine tkG 3 ay (h:=?_);simp only [zl];refine Fi (i:=4) (v:=?_) rfl (by kernel_rfl) (by kernel_rfl) (by kernel_rfl) (by kernel_rfl) (fun _ _ _ h=>h) (Or.inl ⟨by kernel_rfl,?_⟩) ay ?_;rotate_left
 focus (intro w' ac;have hB:=ac;have q:w'.cell? ⟨w.heap.size,24,none⟩=some _:=(hB.cell 24).trans bj.out;(try dsimp only at ac);go_simp;(try with_reducible rfl))
 simp only [zl];refine Bl 2 (by kernel_rfl) rfl (fun K hK=> ?_);go_simp;go_wp2_with (go_at_call 123;(with_reducible refine (Yz _ _ _ _ _ _ aq.path.rd (Y9 _) (by omega)).mono ?_);rintro _ w7 ⟨A7,c7,rfl,o7,f7⟩;have cd:=ay.fr f7 zq;have dh:=ce.fr f7 zq;have a9:=aq.fr f7 zr;have dt:=bv.trans f7 zr;have et:=f7.size);refine hK.out _ _ cd (fun hZ=> ?_);clear hZ hK K;try simp only [Ah,zl]
 refine tkG 6 cd (h:=?_);simp only [zl];refine Bl 5 (by kernel_rfl) rfl (fun K hK=> ?_);go_simp;go_wp2_with (go_at_call 124;(with_reducible refine (Y2 _ _ _ _ _ _ a9.hist.rd (Za _) (by omega)).mono ?_);rintro _ w8 ⟨A8,c8,rfl,o8,f8⟩;have az:=cd.fr f8 zq;have dp:=dh.fr f8 zq;have bk:=a9.fr f8 zr;have ds:=dt.trans f8 zr;have ev:=f8.size);refine hK.out _ _ az (fun hZ=> ?_);clear hZ hK K;try simp only [Ah,zl]
 refine Ck (by kernel_rfl) ?_;have k9:cS w8 w.heap.size 9 x.pathA x.path.length x.pathC:=(az.cell 9).trans e9.out;have z9:=az.frozen 9;have cr:cS w8 w.heap.size 24 x.histA x.hist.length x.histC:=(az.cell 24).trans bj.out;have em:=az.frozen 24;refine oG 7 (fun K hK=> ?_);go_simp;refine hK.out _ _ trivial (fun hZ=> ?_);clear hZ hK K;try simp only [Ah,zl]
 refine oG 8 (fun K hK=> ?_);go_simp;refine hK.out _ _ trivial (fun hZ=> ?_);clear hZ hK K;try simp only [Ah,zl]
 refine oG 9 (fun K hK=> ?_);go_simp;refine hK.out _ _ trivial (fun hZ=> ?_);clear hZ hK K;try simp only [Ah,zl]
 refine oD ?_;go_simp;obtain ⟨cc,av⟩:=Aa ({x with pastA:=A1,pastC:=c1,bodyA:=A2,bodyC:=c2,refsA:=A3,refsC:=c3,guardsA:=A4,guardsC:=c4,boxesA:=A5,boxesC:=c5,pathA:=A7,pathC:=c7,histA:=A8,histC:=c8}:OpL).cells
 have cn:Blk ((w8.setCell ⟨w.heap.size,9,none⟩ (.slice A7 x.path.length c7)).setCell ⟨w.heap.size,24,none⟩ (.slice A8 x.hist.length c8)) w.heap.size 44 cc:=by
  rw [<- av.out];rw [<- ao.out] at az;exact (az.set 9 _).set 24 _
 have ak:Fr (One w.heap.size) w8 ((w8.setCell ⟨w.heap.size,9,none⟩ (.slice A7 x.path.length c7)).setCell ⟨w.heap.size,24,none⟩ (.slice A8 x.hist.length c8)):=((Fr.refl (One w.heap.size) w8).setCell (p:=⟨w.heap.size,9,none⟩) (fun _=>rfl) _).setCell (p:=⟨w.heap.size,24,none⟩) (fun _=>rfl) _;have dk:=dp.fr ak (fun e=>by have e':w.heap.size+1=w.heap.size:=e;omega);have a3:x.at ((w8.setCell ⟨w.heap.size,9,none⟩ (.slice A7 x.path.length c7)).setCell ⟨w.heap.size,24,none⟩ (.slice A8 x.hist.length c8)) w.heap.size:=bk.fr ak (fun j hj e=>by have e':j=w.heap.size:=e;omega);have dr:Fr Non w ((w8.setCell ⟨w.heap.size,9,none⟩ (.slice A7 x.path.length c7)).setCell ⟨w.heap.size,24,none⟩ (.slice A8 x.hist.length c8)):=ds.trans ak (fun j hj e=>by have e':j=w.heap.size:=e;omega);have bh:=f7.trans f8 zr;have ew:w8.heap.size<=((w8.setCell ⟨w.heap.size,9,none⟩ (.slice A7 x.path.length c7)).setCell ⟨w.heap.size,24,none⟩ (.slice A8 x.hist.length c8)).heap.size:=ak.size;have N6:w.heap.size+2<=w6.drew.heap.size:=el;have b1:∀k,Ae A1=some k->w.heap.size+2<=k/\k<w6.drew.heap.size:=p1.row;have q1:=(p1.fr bh zr).fr ak (fun j hj e=>by have h1:=(b1 j hj).1;have e':j=w.heap.size:=e;omega);have b2:∀k,Ae A2=some k->w.heap.size+2<=k/\k<w6.drew.heap.size:=p2.row;have q2:=(p2.fr bh zr).fr ak (fun j hj e=>by have h1:=(b2 j hj).1;have e':j=w.heap.size:=e;omega);have b3:∀k,Ae A3=some k->w.heap.size+2<=k/\k<w6.drew.heap.size:=p3.row;have q3:=(p3.fr bh zr).fr ak (fun j hj e=>by have h1:=(b3 j hj).1;have e':j=w.heap.size:=e;omega);have b4:∀k,Ae A4=some k->w.heap.size+2<=k/\k<w6.drew.heap.size:=p4.row;have q4:=(p4.fr bh zr).fr ak (fun j hj e=>by have h1:=(b4 j hj).1;have e':j=w.heap.size:=e;omega);have b5:∀k,Ae A5=some k->w.heap.size+2<=k/\k<w6.drew.heap.size:=p5.row;have q5:=(p5.fr bh zr).fr ak (fun j hj e=>by have h1:=(b5 j hj).1;have e':j=w.heap.size:=e;omega);have b7:=o7.row;have b8:=o8.row;have q7:=((o7.lower (base':=w.heap.size+2) N6).fr f8 zr).fr ak (fun j hj e=>by have h1:=(b7 j hj).1;have e':j=w.heap.size:=e;omega);have q8:=(o8.lower (base':=w.heap.size+2) (by omega)).fr ak (fun j hj e=>by have h1:=(b8 j hj).1;have e':j=w.heap.size:=e;omega);clear ay cd az ce dh dp bv dt ds aq a9 bk f7 f8 bh ak o7 o8 p1 p2 p3 p4 p5 e9 bj k9 cr z9 em ao;generalize ((w8.setCell ⟨w.heap.size,9,none⟩ (.slice A7 x.path.length c7)).setCell ⟨w.heap.size,24,none⟩ (.slice A8 x.hist.length c8))=w9 at*;have e9:Hid (cc[9]? =some (.slice A7 x.path.length c7)):=by show _=_;rw [<- av.out];rfl
 have bj:Hid (cc[24]? =some (.slice A8 x.hist.length c8)):=by show _=_;rw [<- av.out];rfl
 have k9:cS w9 w.heap.size 9 A7 x.path.length c7:=(cn.cell 9).trans e9.out;obtain ⟨np,b9⟩:=Aa x.path.length;obtain ⟨nh,cb⟩:=Aa x.hist.length;rw [b9.out] at k9 e9 bu q7;rw [cb.out] at bj bl q8;go_wp2_with fail
 go_loopw [36] (fun v wr=>∃(k:Nat) (L:List NdL),v=.int .i64 (k:Int)/\k<=np/\Hid (L.map NdL.nd=x.path.map NdL.nd)/\Hid (L.drop k=x.path.drop k)/\Own wr (w.heap.size+2) 94 2 A7 np c7 (L.flatMap NdL.cells)/\Hid (∀y∈L.take k,Own wr w9.heap.size 148 4 y.A y.xs.length y.c (y.xs.flatMap Bx.cells))/\Fr (fun b=>Ae A7=some b) w9 wr) (fun v _=>np-(intOf v).toNat)
 case atStart=>exact ⟨0,x.path,rfl,by omega,rfl,rfl,q7,(fun _ h=>by simp at h),Fr.refl _ _⟩
 case round=>
  obtain ⟨k,L,rfl,hk,ad,ab,ae,aa,hf⟩:=hrel
  by_cases hlt:k<np
  ·
   obtain ⟨i1,i2,i3⟩:=ix k np
   obtain ⟨y,hy⟩:∃y,x.path[k]? =some y:=⟨_,Ay3 (by rw [b9.out];exact hlt)⟩;have aw:L[k]? =some y:=(My ab.out).trans hy;have ar:=Ax9 hy;have de:=bd.out y ar;obtain ⟨g,hA,ch,d9,af,bf,_⟩:=Own.setAt ae (j:=k*2+1) (by omega) (.int .i64 0);have ba:=(a3.nodes y ar).fr hf (fun j hj e=>by have h1:=(b7 j e).1;omega);have d0:cS wr g (k*2+1) y.A y.xs.length y.c:=af _ (by rw [Gv (f:=NdL.cells) (fun _=>rfl) L k 1 y aw (by omega)];rfl);have kk:cS wr w.heap.size 9 A7 np c7:=hf.cell k9 (fun e=>by have h1:w6.drew.heap.size<=w.heap.size:=(b7 _ e).1;omega);have d2:w.heap.size+2<=g:=ch;rw [hA] at kk
   have ai:∀(wv:World) (u:Value),Fr Non wr wv->cS wv g (k*2+1) y.A y.xs.length y.c/\wv.frozen? ⟨g,k*2+1,none⟩=false/\Own (wv.setCell ⟨g,k*2+1,none⟩ u) (w.heap.size+2) 94 2 A7 np c7 ((L.flatMap NdL.cells).set (k*2+1) u):=by
    intro wv u bp;obtain ⟨g2,b0,_,_,d6,bg,da⟩:=Own.setAt (ae.fr bp zr) (j:=k*2+1) (by omega) u;rw [hA] at b0;have cy:g=g2:=by injection b0 with e;injection e
    subst cy;exact ⟨bp.cell d0 zq,bg,da⟩
   replace ai:=lh ai;replace hA:=lh hA;clear af bf;go_upto_region 6 with (fail)
   refine Cr (S:=(fun w'=>cS w' w.heap.size 9 (some ⟨g,0,none⟩) np c7/\cS w' g (k*2+1) y.A y.xs.length y.c)) 10 (by kernel_rfl) ?_;have hS:(fun w'=>cS w' w.heap.size 9 (some ⟨g,0,none⟩) np c7/\cS w' g (k*2+1) y.A y.xs.length y.c) wr.drew:=⟨kk,d0⟩;have fd:Fr Non wr wr.drew:=(Fr.refl Non wr).drew;have cq:Rd wr.drew w.heap.size 4 y.A y.xs.length (y.xs.flatMap Bx.cells):=And.left (ba.fr fd zr);refine tkG 0 hS (h:=tkG 1 hS (h:=tkG 2 hS (h:=tkG 3 hS (h:=tkG 4 hS (h:=tkG 5 hS (h:=tkG 6 hS (h:=tkG 7 hS (h:=tkG 8 hS (h:=?_)))))))));simp only [zl];refine Bl 9 (by kernel_rfl) rfl (fun K hK=> ?_);go_simp;go_wp2_with (go_at_call 122;go_loud (with_reducible refine (Q5 _ _ _ _ _ _ cq (Q8 _) de).mono ?_);rintro _ wv ⟨A',c',rfl,ov,fv⟩);have ax:=fd.trans fv zr;obtain ⟨d1,z1,df⟩:=ai.out wv (.slice A' y.xs.length c') ax;refine hK.out _ _ ⟨ax.cell kk zq,d1⟩ (fun hZ=> ?_);clear hZ hK K;try simp only [Ah,zl]
   refine Ck (by kernel_rfl) ?_;refine oG 10 (fun K hK=> ?_);go_simp;refine hK.out _ _ trivial (fun hZ=> ?_);clear hZ hK K;try simp only [Ah,zl]
   refine oG 11 (fun K hK=> ?_);go_simp;refine hK.out _ _ trivial (fun hZ=> ?_);clear hZ hK K;try simp only [Ah,zl]
   refine oG 12 (fun K hK=> ?_);go_simp;refine hK.out _ _ trivial (fun hZ=> ?_);clear hZ hK K;try simp only [Ah,zl]
   refine oD ?_;go_simp;have ex:∃y':NdL,y'={y with A:=A',c:=c'}:=⟨_,rfl⟩;obtain ⟨y',bb⟩:=ex
   have a6:Own (wv.setCell ⟨g,k*2+1,none⟩ (.slice A' y.xs.length c')) (w.heap.size+2) 94 2 A7 np c7 ((L.set k y').flatMap NdL.cells):=by
    rw [<- H5 (f:=NdL.cells) (size:=2) (fun _=>rfl) (j:=1) (by omega) (.slice A' y.xs.length c') y' L k y aw (by rw [bb];rfl)];exact df
   have fs:Fr (One g) wv (wv.setCell ⟨g,k*2+1,none⟩ (.slice A' y.xs.length c')):=(Fr.refl (One g) wv).setCell (p:=⟨g,k*2+1,none⟩) (fun _=>rfl) _;have bn:Ae A7=some g:=by rw [hA.out];rfl
   have db:=hf.size
   have al:Hid (∀z∈(L.set k y').take (k+1),Own (wv.setCell ⟨g,k*2+1,none⟩ (.slice A' y.xs.length c')) w9.heap.size 148 4 z.A z.xs.length z.c (z.xs.flatMap Bx.cells)):=by
    intro z hz;rw [Mx L k y' aw] at hz;have en:g<w9.heap.size:=by have h1:=(b7 g bn).2;omega
    rcases List.mem_append.1 hz with hz|hz
    · exact ((aa.out z hz).fr ax zr).fr fs (fun j hj e=>by have h1:=((aa.out z hz).row j hj).1;have e':j=g:=e;omega)
    ·
     obtain rfl:=List.mem_singleton.1 hz;subst bb;exact (ov.lower db).fr fs (fun j hj e=>by have h1:=(ov.row j hj).1;have h2:wr.drew.heap.size=wr.heap.size:=rfl;have e':j=g:=e;omega)
   have bi:Fr (fun b=>Ae A7=some b) w9 (wv.setCell ⟨g,k*2+1,none⟩ (.slice A' y.xs.length c')):=(hf.trans ax (fun _ _ e=>e.elim)).trans fs (fun j hj e=>by have e':j=g:=e;subst e';exact bn);have a7:Hid ((L.set k y').map NdL.nd=x.path.map NdL.nd):=(Q6 NdL.nd L k aw (by rw [bb];rfl)).trans ad.out;have ap:Hid ((L.set k y').drop (k+1)=x.path.drop (k+1)):=Q7 _ _ k y' ab.out;generalize wv.setCell ⟨g,k*2+1,none⟩ (.slice A' y.xs.length c')=ws at*;generalize L.set k y'=L2 at*;go_wp2_with fail;go_roundw
   case rel=>exact ⟨k+1,L2,by go_num,by omega,a7,ap,a6,al,bi⟩
   case measure=>simp [intOf];omega
  ·
   obtain rfl:np=k:=by omega
   have bc:L.length=x.path.length:=by have h1:=congrArg List.length ad.out;rwa [Ax8,Ax8] at h1
   rw [Ay4 (by rw [bc,b9.out];exact Ay0 _)] at aa;obtain ⟨be,cz⟩:∃u,u=wr:=⟨_,rfl⟩;subst cz;have eb:=hf.size;have bo:=cn.fr hf (fun e=>by have h1:w6.drew.heap.size<=w.heap.size:=(b7 _ e).1;omega);have cv:=dk.fr hf (fun e=>by have h1:w6.drew.heap.size<=w.heap.size+1:=(b7 _ e).1;omega);have bw:=a3.fr hf (fun j hj e=>by have h1:=(b7 j e).1;omega);have ci:=dr.trans hf (fun j hj e=>by have h1:=(b7 j e).1;omega);have t1:=q1.fr hf (fun j hj e=>by have h1:=(b1 j hj).2;have h2:=(b7 j e).1;omega);have t2:=q2.fr hf (fun j hj e=>by have h1:=(b2 j hj).2;have h2:=(b7 j e).1;omega);have t3:=q3.fr hf (fun j hj e=>by have h1:=(b3 j hj).2;have h2:=(b7 j e).1;omega);have t4:=q4.fr hf (fun j hj e=>by have h1:=(b4 j hj).2;have h2:=(b7 j e).1;omega);have t5:=q5.fr hf (fun j hj e=>by have h1:=(b5 j hj).2;have h2:=(b7 j e).1;omega);have t8:=q8.fr hf (fun j hj e=>by have h1:=(b8 j hj).1;have h2:=(b7 j e).2;omega);have t7:=ae;have a2:=ad;have ah:=aa;have bt:=lh bc;clear ad aa ab ae hlt hk bc hf cn dk a3 dr q1 q2 q3 q4 q5 q7 q8 k9;obtain ⟨L7,ed⟩:∃u,u=L:=⟨_,rfl⟩;subst ed;have cr:cS be w.heap.size 24 A8 nh c8:=(bo.cell 24).trans bj.out;go_wp2_with fail
   go_loopw [55] (fun v wr=>∃(k:Nat) (L:List SlL),v=.int .i64 (k:Int)/\k<=nh/\Hid (L.map SlL.sl=x.hist.map SlL.sl)/\Hid (L.drop k=x.hist.drop k)/\Own wr (w.heap.size+2) 97 4 A8 nh c8 (L.flatMap SlL.cells)/\Hid (∀y∈L.take k,Own wr be.heap.size 5 1 y.A y.y.length y.c (y.y.map Bv))/\Fr (fun b=>Ae A8=some b) be wr) (fun v _=>nh-(intOf v).toNat)
   case atStart=>exact ⟨0,x.hist,rfl,by omega,rfl,rfl,t8,(fun _ h=>by simp at h),Fr.refl _ _⟩
   case round=>
    obtain ⟨k,L,rfl,hk,ad,ab,ae,aa,hf⟩:=hrel
    by_cases hlt:k<nh
    ·
     obtain ⟨i1,i2,i3⟩:=ix k nh
     obtain ⟨y,hy⟩:∃y,x.hist[k]? =some y:=⟨_,Ay3 (by rw [cb.out];exact hlt)⟩;have aw:L[k]? =some y:=(My ab.out).trans hy;have ar:=Ax9 hy;have de:=a5.out y ar;obtain ⟨g,hA,ch,d9,af,bf,_⟩:=Own.setAt ae (j:=k*4+3) (by omega) (.int .i64 0);have ba:=(bw.seals y ar).fr hf (fun j hj e=>by have h1:=(b8 j e).1;omega);have d0:cS wr g (k*4+3) y.A y.y.length y.c:=af _ (by rw [Gv (f:=SlL.cells) (fun _=>rfl) L k 3 y aw (by omega)];rfl);have kk:cS wr w.heap.size 24 A8 nh c8:=hf.cell cr (fun e=>by have h1:w7.heap.size<=w.heap.size:=(b8 _ e).1;omega);have d2:w.heap.size+2<=g:=ch;rw [hA] at kk
     have ai:∀(wv:World) (u:Value),Fr Non wr wv->cS wv g (k*4+3) y.A y.y.length y.c/\wv.frozen? ⟨g,k*4+3,none⟩=false/\Own (wv.setCell ⟨g,k*4+3,none⟩ u) (w.heap.size+2) 97 4 A8 nh c8 ((L.flatMap SlL.cells).set (k*4+3) u):=by
      intro wv u bp;obtain ⟨g2,b0,_,_,d6,bg,da⟩:=Own.setAt (ae.fr bp zr) (j:=k*4+3) (by omega) u;rw [hA] at b0;have cy:g=g2:=by injection b0 with e;injection e
      subst cy;exact ⟨bp.cell d0 zq,bg,da⟩
     replace ai:=lh ai;replace hA:=lh hA;clear af bf;go_upto_region 11 with (fail)
     refine Cr (S:=(fun w'=>cS w' w.heap.size 24 (some ⟨g,0,none⟩) nh c8/\cS w' g (k*4+3) y.A y.y.length y.c)) 10 (by kernel_rfl) ?_;have hS:(fun w'=>cS w' w.heap.size 24 (some ⟨g,0,none⟩) nh c8/\cS w' g (k*4+3) y.A y.y.length y.c) wr.drew:=⟨kk,d0⟩;have fd:Fr Non wr wr.drew:=(Fr.refl Non wr).drew;have cq:Rd wr.drew w.heap.size 1 y.A y.y.length (y.y.map Bv):=And.left (ba.fr fd zr);refine tkG 0 hS (h:=tkG 1 hS (h:=tkG 2 hS (h:=tkG 3 hS (h:=tkG 4 hS (h:=tkG 5 hS (h:=tkG 6 hS (h:=tkG 7 hS (h:=tkG 8 hS (h:=?_)))))))));simp only [zl];refine Bl 9 (by kernel_rfl) rfl (fun K hK=> ?_);go_simp;go_wp2_with (go_at_call 119;go_loud (with_reducible refine (Q4 _ _ _ _ _ _ cq (Jr Bv (fun _=>rfl) _) de).mono ?_);rintro _ wv ⟨A',c',rfl,ov,fv⟩);have ax:=fd.trans fv zr;obtain ⟨d1,z1,df⟩:=ai.out wv (.slice A' y.y.length c') ax;refine hK.out _ _ ⟨ax.cell kk zq,d1⟩ (fun hZ=> ?_);clear hZ hK K;try simp only [Ah,zl]
     refine Ck (by kernel_rfl) ?_;refine oG 10 (fun K hK=> ?_);go_simp;refine hK.out _ _ trivial (fun hZ=> ?_);clear hZ hK K;try simp only [Ah,zl]
     refine oG 11 (fun K hK=> ?_);go_simp;refine hK.out _ _ trivial (fun hZ=> ?_);clear hZ hK K;try simp only [Ah,zl]
     refine oG 12 (fun K hK=> ?_);go_simp;refine hK.out _ _ trivial (fun hZ=> ?_);clear hZ hK K;try simp only [Ah,zl]
     refine oD ?_;go_simp;have ex:∃y':SlL,y'={y with A:=A',c:=c'}:=⟨_,rfl⟩;obtain ⟨y',bb⟩:=ex
     have a6:Own (wv.setCell ⟨g,k*4+3,none⟩ (.slice A' y.y.length c')) (w.heap.size+2) 97 4 A8 nh c8 ((L.set k y').flatMap SlL.cells):=by
      rw [<- H5 (f:=SlL.cells) (size:=4) (fun _=>rfl) (j:=3) (by omega) (.slice A' y.y.length c') y' L k y aw (by rw [bb];rfl)];exact df
     have fs:Fr (One g) wv (wv.setCell ⟨g,k*4+3,none⟩ (.slice A' y.y.length c')):=(Fr.refl (One g) wv).setCell (p:=⟨g,k*4+3,none⟩) (fun _=>rfl) _;have bn:Ae A8=some g:=by rw [hA.out];rfl
     have db:=hf.size
     have al:Hid (∀z∈(L.set k y').take (k+1),Own (wv.setCell ⟨g,k*4+3,none⟩ (.slice A' y.y.length c')) be.heap.size 5 1 z.A z.y.length z.c (z.y.map Bv)):=by
      intro z hz;rw [Mx L k y' aw] at hz;have en:g<be.heap.size:=by have h1:=(b8 g bn).2;omega
      rcases List.mem_append.1 hz with hz|hz
      · exact ((aa.out z hz).fr ax zr).fr fs (fun j hj e=>by have h1:=((aa.out z hz).row j hj).1;have e':j=g:=e;omega)
      ·
       obtain rfl:=List.mem_singleton.1 hz;subst bb;exact (ov.lower db).fr fs (fun j hj e=>by have h1:=(ov.row j hj).1;have h2:wr.drew.heap.size=wr.heap.size:=rfl;have e':j=g:=e;omega)
     have bi:Fr (fun b=>Ae A8=some b) be (wv.setCell ⟨g,k*4+3,none⟩ (.slice A' y.y.length c')):=(hf.trans ax (fun _ _ e=>e.elim)).trans fs (fun j hj e=>by have e':j=g:=e;subst e';exact bn);have a7:Hid ((L.set k y').map SlL.sl=x.hist.map SlL.sl):=(Q6 SlL.sl L k aw (by rw [bb];rfl)).trans ad.out;have ap:Hid ((L.set k y').drop (k+1)=x.hist.drop (k+1)):=Q7 _ _ k y' ab.out;generalize wv.setCell ⟨g,k*4+3,none⟩ (.slice A' y.y.length c')=ws at*;generalize L.set k y'=L2 at*;go_wp2_with fail;go_roundw
     case rel=>exact ⟨k+1,L2,by go_num,by omega,a7,ap,a6,al,bi⟩
     case measure=>simp [intOf];omega
    ·
     obtain rfl:nh=k:=by omega
     have bc:L.length=x.hist.length:=by have h1:=congrArg List.length ad.out;rwa [Ax8,Ax8] at h1
     rw [Ay4 (by rw [bc,cb.out];exact Ay0 _)] at aa;obtain ⟨a8,c9⟩:∃u,u=wr:=⟨_,rfl⟩;subst c9;have c0:=bo.fr hf (fun e=>by have h1:w7.heap.size<=w.heap.size:=(b8 _ e).1;omega);have a4:=cv.fr hf (fun e=>by have h1:w7.heap.size<=w.heap.size+1:=(b8 _ e).1;omega);have c6:=ci.trans hf (fun j hj e=>by have h1:=(b8 j e).1;omega);have s1:=(t1.fr hf (fun j hj e=>by have h1:=(b1 j hj).2;have h2:=(b8 j e).1;omega)).lower (base':=w.heap.size) (by omega);have s2:=(t2.fr hf (fun j hj e=>by have h1:=(b2 j hj).2;have h2:=(b8 j e).1;omega)).lower (base':=w.heap.size) (by omega);have s3:=(t3.fr hf (fun j hj e=>by have h1:=(b3 j hj).2;have h2:=(b8 j e).1;omega)).lower (base':=w.heap.size) (by omega);have s4:=(t4.fr hf (fun j hj e=>by have h1:=(b4 j hj).2;have h2:=(b8 j e).1;omega)).lower (base':=w.heap.size) (by omega);have s5:=(t5.fr hf (fun j hj e=>by have h1:=(b5 j hj).2;have h2:=(b8 j e).1;omega)).lower (base':=w.heap.size) (by omega);have s7:=(t7.fr hf (fun j hj e=>by have h1:=(b7 j hj).2;have h2:=(b8 j e).1;omega)).lower (base':=w.heap.size) (by omega);have s8:=ae.lower (base':=w.heap.size) (by omega);have er:∀j,w9.heap.size<=j->¬(Ae A8=some j):=fun j hj e=>by have h2:=(b8 j e).2;omega
     have r7:Hid (∀y∈L7,Own a8 w.heap.size 148 4 y.A y.xs.length y.c (y.xs.flatMap Bx.cells)):=fun y hy=>((ah.out y hy).fr hf (fun j hj e=>er j ((ah.out y hy).row j hj).1 e)).lower (by omega);have r8:Hid (∀y∈L,Own a8 w.heap.size 5 1 y.A y.y.length y.c (y.y.map Bv)):=fun y hy=>(aa.out y hy).lower (by omega);obtain ⟨v,hv⟩:∃v:OpL,v={x with pastA:=A1,pastC:=c1,bodyA:=A2,bodyC:=c2,refsA:=A3,refsC:=c3,guardsA:=A4,guardsC:=c4,boxesA:=A5,boxesC:=c5,pathA:=A7,pathC:=c7,histA:=A8,histC:=c8,path:=L7,hist:=L}:=⟨_,rfl⟩
     have di:v.op=x.op:=by
      rw [hv];unfold OpL.op;simp only [a2.out,ad.out]
     have bq:v.own a8 w.heap.size:=by
      rw [b9.out.symm,<- bt.out] at s7;rw [cb.out.symm,<- bc] at s8;rw [hv];exact ⟨RowAt.of_own s1,RowAt.of_own s7,(fun y hy=>RowAt.of_own (r7.out y hy)),RowAt.of_own s2,RowAt.of_own s3,RowAt.of_own s4,RowAt.of_own s5,RowAt.of_own s8,(fun y hy=>RowAt.of_own (r8.out y hy))⟩
     have es:Blk a8 w.heap.size 44 v.cells:=by
      have hc:v.cells=cc:=by
       rw [<- av.out,hv];unfold OpL.cells;simp only [bt.out,bc]
      rw [hc];exact c0
     clear hv a2 ad r7 r8 s1 s2 s3 s4 s5 s7 s8 ah aa t1 t2 t3 t4 t5 t7 t8;have bs:=Dr v
     have ek:Hid (∀wz,Fr (One (w.heap.size+1)) a8 wz->POST (.returned (.agg v.cells)) wz):=by
      intro wz hz;exact a1.out v wz di (bq.keepP hz (Types.one a4) (by decide) (by decide) (by decide) (by decide) (by decide) (by decide) (by decide)) (c6.trans hz (fun k hk e=>absurd hk (by have e':k=w.heap.size+1:=e;omega)))
     clear di bq a1;have bx:True:=trivial
     go_wp2_with (first
      |(have _t:=bx;refine Oo rfl 44 (.tmp 1) rfl rfl es underlying44 rfl hi ?_;clear bx _t)
      |(refine Lr rfl 44 (.tmp 2) (.tmp 71) rfl rfl rfl rfl a4 hi rfl bs ?_;have bf:=(Fr.refl (One (w.heap.size+1)) a8).setRow (g:=w.heap.size+1) (fun _=>rfl) v.cells;have bg:=a4.setRow (cs:=v.cells);generalize a8.setRow (w.heap.size+1) v.cells=wz at bf bg ⊢;(repeat (first|go_values|go_skip|go_guarded|go_step));exact Ez (t:=44) rfl rfl bg rfl underlying44 (by kernel_rfl) rfl (ek.out wz bf)))
end Oq
namespace Oq
attribute [local go_sem ↓] Cj Fc
attribute [local go_sem] Bool.not_false Bool.not_true
theorem Hc {P:Program} {t:TypeId} {d:TypeDesc} (cs:Array Value) (b o:Nat) (hu:P.underlying t=some d) (hd:d.isRow=true) (hi:(P.info? t).map (·.size)=some cs.size):
  ∀w',World.rangeAt w' b o cs.toList->(ldS t (.pointer (some ⟨b,o,none⟩))).run P w'=.ok (.agg cs) w':=fun w' h=>by
 have:=run_loadAt_mid (P:=P) w' b o t cs.toList d h hu hd (by rw [hi];simp);unfold ldS;rw [this]
def H6 (r:Option OpL) (w:World) (e:Ending) (w':World):Prop:=
 match r with
 |none=>e=.returned (.tuple #[.agg OpL.zero.cells,.bool false])/\Fr Non w w'
 |some x=>∃y:OpL,e=.returned (.tuple #[.agg y.cells,.bool true])/\y.op=x.op/\y.own w' w.heap.size/\Fr Non w w'
def Gph.opOf (g:Gph) (id:Id):Option OpL:=match Ak g.nodes id with|some i=>g.nodes[i]?.map Ai.x|none=>none
theorem Zb (base:Nat) (g:Gph) (id:Id) (w:World) (hg:GAt w base g) (hid:id.ok):Calls zp 140 #[.pointer (some ⟨g.gb,0,none⟩),.agg id.V] w (H6 (g.opOf id) w):=by
 have hi:(zp.info? 44).map (·.size)=some 27:=by kernel_rfl
 have f1:Fr Non w (w.alloc (.cells id.V 38)):=(Fr.refl Non w).alloc _;have f0:=f1.alloc (.cells zO 44);have af:=(Blk.new w 38 id.V).alloc (.cells zO 44);have br:=Blk.new (w.alloc (.cells id.V 38)) 44 zO;rw [Ax3] at br;have av:((w.alloc (.cells id.V 38)).alloc (.cells zO 44)).heap.size=w.heap.size+2:=by rw [Ax3,Ax3]
 have ac:=hg.fr f0;generalize hw0:((w.alloc (.cells id.V 38)).alloc (.cells zO 44))=w0 at*;have i0:cI w0 w.heap.size 0 id.b:=af.cell 0;have i1:cI w0 w.heap.size 1 id.s:=af.cell 1;have i2:cU w0 w.heap.size 2 id.u:=af.cell 2;have c1:w0.cell? ⟨g.gb,1,none⟩=some (.map (some g.mb)):=ac.blk.cell 1;have c2:cS w0 g.gb 2 g.nA g.nodes.length g.nC:=ac.blk.cell 2;have aa:=ac.map;have ab:=fun (w':World) (h:MapAt w' g.mb g.mm (Ak g.nodes))=>MapAt.look h id hid;have ag:Hid (g.opOf id=match Ak g.nodes id with|some i=>g.nodes[i]?.map Ai.x|none=>none):=rfl;generalize g.opOf id=R at*
 cases hp:Ak g.nodes id
 ·
  have hR:R=none:=by rw [ag.out,hp]
  have ap:Hid (∀wz,Fr (One (w.heap.size+1)) w0 wz->H6 R w (.returned (.tuple #[.agg OpL.zero.cells,.bool false])) wz):=by
   intro wz hz;rw [hR];exact ⟨rfl,f0.trans hz (fun k hk e=>absurd hk (by have e':k=w.heap.size+1:=e;omega))⟩
  clear hR ag;generalize H6 R w=POST at*;rw [hp] at ab;clear hg ac af hp;go_enter func140,ntmps140;go_wp2_with fail;clear hw0;refine wp_region_held_drew (S:=(fun w'=>cI w' w.heap.size 0 id.b/\cI w' w.heap.size 1 id.s/\cU w' w.heap.size 2 id.u/\w'.cell? ⟨g.gb,1,none⟩=some (.map (some g.mb))/\MapAt w' g.mb g.mm (Ak g.nodes))) (by kernel_rfl) ⟨i0,i1,i2,c1,aa⟩ (fun hS=> ?_);replace f0:=f0.drew;replace br:=br.drew;refine tkH 0 hS (h:=tkH 1 hS (h:=tkH 2 hS (h:=tkH 3 hS (h:=tkH 4 hS (h:=tkH 5 hS (h:=tkH 6 hS (h:=tkH 7 hS (h:=tkH 8 hS (h:=tkH 9 hS (h:=tkH 10 hS (h:=?_)))))))))));simp only [zl];refine oD ?_;go_simp;have fz:=((Fr.refl (One (w.heap.size+1)) w0).drew).setRow (g:=w.heap.size+1) (fun _=>rfl) zO;have ah:=br.setRow (cs:=zO);have a3:=Br (P:=zp) (t:=44) (old:=zO) (cs:=zO) (w.heap.size+1) 44 hi rfl (Dr OpL.zero);go_wp2_with fail
  (try simp only [Exit.inBlock,Exit.then])
  refine E2 (t:=44) rfl rfl ah rfl underlying44 (by kernel_rfl) rfl ?_;exact ap.out _ fz
 ·
  rename_i i;obtain ⟨n,hn,_⟩:=Iy hp;have hR:R=some n.x:=by rw [ag.out,hp];simp [hn]
  have ay:=hg.few;have aw:i<g.nodes.length:=(List.getElem?_eq_some_iff.1 hn).1;have ai:=(ac.node n (Ax9 hn)).at_;have aj:=(ac.node n (Ax9 hn)).ok;obtain ⟨b,ak,hA,a1,hc⟩:=ac.cell hn
  have ax:World.rangeAt w0.drew b (ak+i*35) n.x.cells.toList:=by
   intro j v hv;have hj:j<27:=(List.getElem?_eq_some_iff.1 hv).1;exact hc j (by omega) v (by unfold Ai.cells;rw [List.getElem?_append_left (by show j<27;exact hj)];exact hv)
  have au:=Hc (P:=zp) n.x.cells b (ak+i*35) underlying44 rfl hi;rw [hA] at c2;obtain ⟨j1,j2,j3⟩:=ix i g.nodes.length
  have j4:=iw (i:Int);rw [hp] at ab
  have ap:Hid (∀(y:OpL) wz,y.op=n.x.op->y.own wz w.heap.size->Fr Non w wz->H6 R w (.returned (.tuple #[.agg y.cells,.bool true])) wz):=by
   intro y wz h1 h2 h3;rw [hR];exact ⟨y,rfl,h1,h2,h3⟩
  clear hR ag hg ac af hp hn aw hc hA a1;generalize H6 R w=POST at*;generalize g.nodes.length=nn at*;generalize n.x=x at*;have kc:=lh (fun w' (h:x.at w' w'.heap.size)=>Q9 x w' h aj);obtain ⟨CX,a0⟩:=Aa x.cells;rw [a0.out] at ax au kc;go_enter func140,ntmps140;go_wp2_with fail;clear hw0;have aq:=c2;refine wp_region_held_drew (S:=(fun w'=>cI w' w.heap.size 0 id.b/\cI w' w.heap.size 1 id.s/\cU w' w.heap.size 2 id.u/\w'.cell? ⟨g.gb,1,none⟩=some (.map (some g.mb))/\MapAt w' g.mb g.mm (Ak g.nodes))) (by kernel_rfl) ⟨i0,i1,i2,c1,aa⟩ (fun hS=> ?_);replace f0:=f0.drew;replace br:=br.drew;refine tkH 0 hS (h:=tkH 1 hS (h:=tkH 2 hS (h:=tkH 3 hS (h:=tkH 4 hS (h:=tkH 5 hS (h:=tkH 6 hS (h:=tkH 7 hS (h:=tkH 8 hS (h:=tkH 9 hS (h:=tkH 10 hS (h:=?_)))))))))));simp only [zl];refine oD ?_;go_simp;replace aq:cS w0.drew g.gb 2 (some ⟨b,ak,none⟩) nn g.nC:=aq;have ae:=OpL.frame ai ((Fr.refl Non w0).drew)
  go_wp2_with (first
   |(go_at_call 63;(with_reducible refine (kc.out _ ae).mono ?_);rintro _ w1 ⟨y,rfl,ar,al,fy⟩;have ao:=br.fr fy zq;have ad:=Dr y;have az:=f0.trans fy zr;have a2:w0.drew.heap.size=w.heap.size+2:=av)
   |(refine Lr rfl 44 (.tmp 4) (.tmp 28) rfl rfl rfl rfl ao hi rfl ad ?_;have fz:=((Fr.refl (One (w.heap.size+1)) w1)).setRow (g:=w.heap.size+1) (fun _=>rfl) y.cells;have ah:=ao.setRow (cs:=y.cells);generalize w1.setRow (w.heap.size+1) y.cells=wz at fz ah ⊢))
  (try simp only [Exit.inBlock,Exit.then])
  refine E2 (t:=44) rfl rfl ah rfl underlying44 (by kernel_rfl) rfl ?_;exact ap.out y _ ar ((al.keep fz ((Types.one ao).mono (fun t e=> .inl e))).lower (by omega)) (az.trans fz (fun k hk e=>absurd hk (by have e':k=w.heap.size+1:=e;omega)))
end Oq
namespace Oq
attribute [local go_sem ↓] Cj Fc
def Ra:Prop:=∀(base gv:Nat) (A:Option Addr) (c:Nat) (l:List Id) (p:Id->Bool) (w:World),Own w base 38 3 A l.length c (l.flatMap Id.cells)->l.length<=1000000->
 (∀x∈l,∀w':World,Fr (fun k=>Ae A=some k) w w'->Calls zp 130 #[.agg x.V,.pointer (some ⟨gv,0,none⟩)] w' (Ag (p x) w'))->
 Calls zp 129 #[.slice A l.length c,.func (.func 130) #[] #[.pointer (some ⟨gv,0,none⟩)]] w fun e w'=>
  ∃ys:List Id,ys=l.filter (fun x=> !p x)/\e=.returned (.slice A ys.length c)/\Rd w' w'.heap.size 3 A ys.length (ys.flatMap Id.cells)/\Fr (fun k=>Ae A=some k) w w'
def Jt (l:List Id) (w:World) (e:Ending) (w':World):Prop:=∃A c,e=.returned (.slice A l.length c)/\Rd w' w'.heap.size 3 A l.length (l.flatMap Id.cells)/\Fr Non w w'
theorem Rb (base:Nat) (g:Gph) (x:OpL) (w:World) (hdel:Ra) (hg:GAt w base g) (hat:x.at w w.heap.size) (hok:∀id∈x.past,id.ok) (hn:x.past.length<=1000000):
  Calls zp 67 #[.pointer (some ⟨g.gb,0,none⟩),.agg x.cells] w (Jt (x.past.filter (fun id=> !(Ak g.nodes id).isSome)) w):=by
 have e4:Hid (x.cells[4]? =some (.slice x.pastA x.past.length x.pastC)):=rfl;obtain ⟨CS,hCS⟩:=Aa x.cells;have f0:Fr Non w ((w.alloc (.cells #[.pointer (some ⟨g.gb,0,none⟩)] 34)).alloc (.cells CS 44)):=((Fr.refl Non w).alloc _).alloc _;have bg:=(Blk.new w 34 #[.pointer (some ⟨g.gb,0,none⟩)]).alloc (.cells CS 44);have bx:=Blk.new (w.alloc (.cells #[.pointer (some ⟨g.gb,0,none⟩)] 34)) 44 CS;rw [Ax3] at bx;rw [hCS.out] at e4 ⊢
 have hfin:Hid (∀(ys:List Id) A c w',ys=x.past.filter (fun id=> !(Ak g.nodes id).isSome)->Rd w' w'.heap.size 3 A ys.length (ys.flatMap Id.cells)->Fr Non w w'->Jt (x.past.filter (fun id=> !(Ak g.nodes id).isSome)) w (.returned (.slice A ys.length c)) w'):=by
  intro ys A c w' h1 h2 h3;subst h1;exact ⟨A,c,rfl,h2,h3⟩
 generalize Jt (x.past.filter (fun id=> !(Ak g.nodes id).isSome)) w=POST at*;go_enter func67,ntmps67;go_upto_region 1 with (fail)
 generalize (w.alloc (.cells #[.pointer (some ⟨g.gb,0,none⟩)] 34)).alloc (.cells CS 44)=w0 at*;have c4:cS w0 (w.heap.size+1) 4 x.pastA x.past.length x.pastC:=(bx.cell 4).trans e4.out;have kc:=lh (Mw _ _ x.pastC _ _ w0 (OpL.frame hat f0).past.rd (Id.cells_one _) hn);go_wp2_with fail;refine (kc.out).mono ?_;rintro _ w1 ⟨A1,c1,rfl,o1,f1⟩;have sz0:=f0.size;have f01:=f0.trans f1 zr;have bg1:=bg.fr f1 zq;have hrow:=o1.row
 have kd:=lh (hdel w0.heap.size w.heap.size A1 c1 x.past (fun id=>(Ak g.nodes id).isSome) w1 o1 hn (fun id hid w' hf=>by
  have hf':Fr Non w w':=f01.trans hf (fun j hj e=>by have h1:=(hrow j e).1;omega);refine (Ys base g w.heap.size id w' (hg.fr hf') ?_ (hok id hid));exact (bg1.fr hf (fun e=>by have h1:=(hrow _ e).1;have h2:=bg.lt;omega)).cell 0))
 have hff:Hid (∀w',Fr (fun k=>Ae A1=some k) w1 w'->Fr Non w w'):=fun w' hf=>f01.trans hf (fun j hj e=>by have h1:=(hrow j e).1;omega);clear kc hdel hg hat hok bg bx bg1 o1 f1 f0 f01;go_wp2_with fail;refine (kd.out).mono ?_;rintro _ w2 ⟨ys,hys,rfl,hrd,hf2⟩;have fin:=lh (hfin.out ys A1 c1 w2 hys hrd (hff.out w2 hf2));clear hfin hff kd hys hrd hf2;go_wp2_with fail;exact fin.out
end Oq
theorem Zc {P:Program} (w:World) (t e ty:TypeId) (z:Value) (ht:P.underlying t=some (.slice e)) (hv:∀w,(zeroValue e).run P w=.ok z w) (b o n c:Nat) (hn:0<n)
  (hc:∀j,j<(Builtin.zeroCells z.cells n).toList.length->(w.cell? ⟨b,o+j,none⟩).isSome=true) (hf:∀j,j<(Builtin.zeroCells z.cells n).toList.length->w.frozen? ⟨b,o+j,none⟩=false)
  (h1:∀v∈(Builtin.zeroCells z.cells n).toList,v.oneCell'=true):
  (Builtin.clear_ #[t] ty #[.slice (some ⟨b,o,none⟩) n c]).run P w=.ok (.tuple #[]) (w.setCells b o (Builtin.zeroCells z.cells n).toList):=by
 have hst:=run_storeCells_cells (P:=P) b o (Builtin.zeroCells z.cells n).toList 0 w (by simpa using hc) (by simpa using hf) h1;simp only [Nat.add_zero] at hst;obtain ⟨m,rfl⟩:∃m,n=m+1:=⟨n-1,by omega⟩;simp [Builtin.clear_,run_underlying ht,hv,hst]
end Go.Proofs.YtihfebhfgliojaaGreatDoor
