/-
  Contracts of the functions that the claim's statement reaches, walked one by one (part 20).
  Conditions: as each theorem says.
-/
import Derived.Test.YtmcpnjoomlgmlaaGreatDoorRwM19
set_option maxRecDepth 100000
set_option maxHeartbeats 16000000
open List renaming getElem?_eq_getElem->Ax4,map_append->Ax6,mem_map_of_mem->Ax7,not_mem_nil->Ax8,mem_of_getElem?->Ax9,getElem?_of_mem->Ay0
open Nat renaming le_refl->Ax5
open Go.World renaming size_alloc->Ax3
open Go.Proofs.Tryz
open Go.Proofs.Tryz renaming prog->zp
open Go.Lib renaming hid->lh
open List renaming set->zl
open Go.Ending renaming returned->ze
namespace Go.Proofs.YtmcpnjoomlgmlaaGreatDoor
open Go.RowKit
attribute [local go_sem ↓] Go.wp_at_zero Go.wp_at_succ
section
open Go.RowKit Go.Sort
namespace Oq
attribute [local go_sem] Bool.not_false Bool.not_true
theorem Uj (base:Nat) (g:Gph) (x y:Id) (w:World) (hg:GAt w base g) (hx:x.ok) (hy:y.ok):
  Calls zp 76 #[.agg #[.pointer (some ⟨g.gb,0,none⟩)],.agg x.V,.agg y.V] w fun e w'=>e=.returned (.int .i64 (Ej g.pns x y))/\Fr Non w w':=by
 have kx:Hid (∀w',Fr Non w w'->Calls zp 137 #[.pointer (some ⟨g.gb,0,none⟩),.agg x.V] w' fun e w''=>e=.returned (.int .i64 (An g.pns x:Int))/\Fr Non w' w''):=fun w' hf=>by
  have:=Pt base g x w' (hg.fr hf) hx;rwa [g.level_eq] at this
 have ky:Hid (∀w',Fr Non w w'->Calls zp 137 #[.pointer (some ⟨g.gb,0,none⟩),.agg y.V] w' fun e w''=>e=.returned (.int .i64 (An g.pns y:Int))/\Fr Non w' w''):=fun w' hf=>by
  have:=Pt base g y w' (hg.fr hf) hy;rwa [g.level_eq] at this
 have ag:=lh (Aw1 g.pns x y);have k1:=lh (fun w'=>Lk x y w');have k2:=lh (fun w'=>Lk y x w');unfold Ag at k1 k2;obtain ⟨GB,ak⟩:=Aa g.gb;rw [ak.out] at kx ky ⊢;clear hg ak hx hy;generalize An g.pns x=LX at*;generalize An g.pns y=LY at*;generalize Ej g.pns x y=R at*;generalize Id.less x y=BX at*;generalize Id.less y x=BY at*;have kc:Hid (∀w',Calls zp 136 #[.int .i64 (LX:Int),.int .i64 (LY:Int)] w' fun e w''=>e=.returned (.int .i64 (Bj (LX:Int) (LY:Int)))/\Fr Non w' w''):=fun w'=>(Lj _ _ w').mono fun _ _ h=>⟨h.1,h.2▸Fr.refl _ _⟩;have ko:Hid (∀(a b:Int) (k:Nat) w',Blk w' k 3 #[.int .i64 a,.int .i64 b]->Calls zp 135 #[.slice (some ⟨k,0,none⟩) 2 2] w' fun e w''=>e=.returned (.int .i64 (E9 a b))/\Fr Non w' w''):=fun a b k w' hk=>(Aw0 a b k w' hk).mono fun _ _ h=>⟨h.1,h.2▸Fr.refl _ _⟩;generalize Bj (LX:Int) (LY:Int)=CC at*;have bg:=((Blk.new w 136 #[.pointer (some ⟨GB,0,none⟩)]).alloc (.cells x.V 45)).alloc (.cells y.V 45);have ba:=(Blk.new (w.alloc (.cells #[.pointer (some ⟨GB,0,none⟩)] 136)) 45 x.V).alloc (.cells y.V 45);have bb:=Blk.new ((w.alloc (.cells #[.pointer (some ⟨GB,0,none⟩)] 136)).alloc (.cells x.V 45)) 45 y.V;rw [Ax3] at ba;rw [Ax3,Ax3] at bb;have f0:Fr Non w (((w.alloc (.cells #[.pointer (some ⟨GB,0,none⟩)] 136)).alloc (.cells x.V 45)).alloc (.cells y.V 45)):=(((Fr.refl Non w).alloc _).alloc _).alloc _;have r0:=bg.cell 0;have a0:=ba.cell 0;have a1:=ba.cell 1;have a2:=ba.cell 2;have b0:=bb.cell 0;have b1:=bb.cell 1;have b2:=bb.cell 2;clear bg ba bb;go_enter func76,ntmps76;go_upto_region 1 with (fail)
 generalize ((w.alloc (.cells #[.pointer (some ⟨GB,0,none⟩)] 136)).alloc (.cells x.V 45)).alloc (.cells y.V 45)=w0 at*;change w0.cell? ⟨w.heap.size,0,none⟩=some (.pointer (some ⟨GB,0,none⟩)) at r0;change w0.cell? ⟨w.heap.size+1,0,none⟩=some (.int .i64 x.b) at a0;change w0.cell? ⟨w.heap.size+1,1,none⟩=some (.int .i64 x.s) at a1;change w0.cell? ⟨w.heap.size+1,2,none⟩=some (.int .u64 (x.u:Int)) at a2;change w0.cell? ⟨w.heap.size+1+1,0,none⟩=some (.int .i64 y.b) at b0;change w0.cell? ⟨w.heap.size+1+1,1,none⟩=some (.int .i64 y.s) at b1;change w0.cell? ⟨w.heap.size+1+1,2,none⟩=some (.int .u64 (y.u:Int)) at b2;obtain ⟨V,hV⟩:=Aa (if BX=true then (-1:Int) else if BY=true then 1 else 0);rw [hV.out] at ag
 go_upto_block 0 with (fail)
 go_cut [7] from 8 to 15 (fun s wc=>s=.int .i64 V/\Fr Non w0 wc)
 case first=>
  cases BX
  case true=>
   go_wp2_with (go_at_call 134;(with_reducible refine (k1.out _).mono ?_);rintro _ w1 ⟨rfl,f1⟩);go_meet;exact ⟨congrArg _ hV.out,f1⟩
  case false=>
   have ah:Hid (∀v,Fr Non w0 v->cI v (w.heap.size+1) 0 x.b/\cI v (w.heap.size+1) 1 x.s/\cU v (w.heap.size+1) 2 x.u/\cI v (w.heap.size+1+1) 0 y.b/\cI v (w.heap.size+1+1) 1 y.s/\cU v (w.heap.size+1+1) 2 y.u):=fun v hf=>⟨hf.cell a0 zq,hf.cell a1 zq,hf.cell a2 zq,hf.cell b0 zq,hf.cell b1 zq,hf.cell b2 zq⟩
   cases BY
   all_goals
    go_wp2_with (first
     |(go_at_call 134;(with_reducible refine (k1.out _).mono ?_);rintro _ w1 ⟨rfl,f1⟩;obtain ⟨a0,a1,a2,b0,b1,b2⟩:=ah.out _ f1)
     |(go_at_call 134;(with_reducible refine (k2.out _).mono ?_);rintro _ w2 ⟨rfl,f2⟩))
    go_meet;exact ⟨congrArg _ hV.out,f1.trans f2 zr⟩
 case rest=>
 obtain ⟨rfl,fc⟩:=hcut;clear hV k1 k2;have fw:=f0.trans fc zr;obtain ⟨B0,af,aa,ac,ae,ad,ab⟩:=zk7 fc r0 a0 a1 a2 b0 b1 b2;clear r0 a0 a1 a2 b0 b1 b2;go_upto_region 6 with (fail)
 have F0:Fr Non wc wc.drew:=(Fr.refl Non wc).drew;have G0:Fr Non w wc.drew:=fw.drew;refine wp_region_held_drew (S:=fun w'=>w'.cell? ⟨w.heap.size,0,none⟩=some (.pointer (some ⟨GB,0,none⟩))/\cI w' (w.heap.size+1) 0 x.b/\cI w' (w.heap.size+1) 1 x.s/\cU w' (w.heap.size+1) 2 x.u/\cI w' (w.heap.size+1+1) 0 y.b/\cI w' (w.heap.size+1+1) 1 y.s/\cU w' (w.heap.size+1+1) 2 y.u) (by kernel_rfl) ⟨B0,af,aa,ac,ae,ad,ab⟩ (fun hHeld=> ?_);clear hHeld;have uu:=aI B0 (aI af (aI aa (aI ac (aI ae (aI ad ab)))));refine tkH 0 uu (h:=tkH 1 uu (h:=tkH 2 uu (h:=tkH 4 uu (h:=tkH 5 uu (h:=tkH 6 uu (h:=tkH 9 uu (h:=?_)))))));clear uu;simp only [zl];refine oG 3 (fun K hK=> ?_);go_simp;go_wp2_with (go_at_call 137;(with_reducible refine (kx.out _ G0).mono ?_);rintro _ v1 ⟨rfl,ax⟩;have F1:=F0.trans ax zr;obtain ⟨B1,av,be,bl,bp,br,a6⟩:=zk7 F1 B0 af aa ac ae ad ab;have G1:=fw.trans F1 zr);refine hK.out _ _ ⟨B1,av,be,bl,bp,br,a6⟩ (fun hZ=> ?_);clear hZ hK K;try simp only [Ad,zl]
 refine oG 7 (fun K hK=> ?_);go_simp;go_wp2_with (go_at_call 137;(with_reducible refine (ky.out _ G1).mono ?_);rintro _ v2 ⟨rfl,a8⟩;have F2:=F1.trans a8 zr;obtain ⟨B2,a3,bk,az,bi,bn,a4⟩:=zk7 F2 B0 af aa ac ae ad ab;have G2:=fw.trans F2 zr);refine hK.out _ _ ⟨B2,a3,bk,az,bi,bn,a4⟩ (fun hZ=> ?_);clear hZ hK K;try simp only [Ad,zl]
 refine oG 8 (fun K hK=> ?_);go_simp;go_wp2_with (go_at_call 136;(with_reducible refine (kc.out _).mono ?_);rintro _ v3 ⟨rfl,bc⟩;have F3:=F2.trans bc zr;obtain ⟨B3,aw,bd,ar,bj,a7,bh⟩:=zk7 F3 B0 af aa ac ae ad ab;have G3:=fw.trans F3 zr);refine hK.out _ _ ⟨B3,aw,bd,ar,bj,a7,bh⟩ (fun hZ=> ?_);clear hZ hK K;try simp only [Ad,zl]
 refine oG 10 (fun K hK=> ?_);go_simp;have au:=Blk.new v3 3 #[.int .i64 CC,.int .i64 V];have ay:Fr Non v3 (v3.alloc (.cells #[.int .i64 CC,.int .i64 V] 3)):=(Fr.refl _ _).alloc _;have F4:=F3.trans ay zr;obtain ⟨B4,a9,bq,bm,bs,bf,bo⟩:=zk7 F4 B0 af aa ac ae ad ab;have G4:=fw.trans F4 zr;refine hK.out _ _ ⟨B4,a9,bq,bm,bs,bf,bo⟩ (fun hZ=> ?_);clear hZ hK K;try simp only [Ad,zl]
 generalize v3.alloc (.cells #[.int .i64 CC,.int .i64 V] 3)=v4 at*;refine oG 11 (fun K hK=> ?_);go_simp;go_wp2_with (go_at_call 135;(with_reducible refine (ko.out _ _ _ _ au).mono ?_);rintro _ v5 ⟨rfl,a5⟩;have F5:=F4.trans a5 zr;obtain ⟨B5,aj,aq,ao,ai,al,ap⟩:=zk7 F5 B0 af aa ac ae ad ab;have G5:=fw.trans F5 zr);refine hK.out _ _ ⟨B5,aj,aq,ao,ai,al,ap⟩ (fun hZ=> ?_);clear hZ hK K;try simp only [Ad,zl]
 refine tkH 12 ⟨B5,aj,aq,ao,ai,al,ap⟩ (h:=?_);simp only [zl];refine oD ?_;go_simp;go_wp2_with fail
 go_ret
 exact ⟨by rw [<- ag.out];rfl,G5⟩
theorem Aw2 (base:Nat) (g:Gph) (x y:Id) (w:World) (hg:GAt w base g) (hx:x.ok) (hy:y.ok):
  Calls zp 29 #[.pointer (some ⟨g.gb,0,none⟩),.agg x.V,.agg y.V] w (Ag (Ct g.pns x y) w):=by
 have ba:=(Blk.new w 45 x.V).alloc (.cells y.V 45);have bb:=Blk.new (w.alloc (.cells x.V 45)) 45 y.V;rw [Ax3] at bb;have f0:Fr Non w ((w.alloc (.cells x.V 45)).alloc (.cells y.V 45)):=((Fr.refl Non w).alloc _).alloc _;have kc:=lh (fun (w':World) (hf:Fr Non w w')=>Uj base g x y w' (hg.fr hf) hx hy);have hlt:=lh (Gw g.pns x y);unfold Ab at hlt;obtain ⟨GB,hGB⟩:=Aa g.gb;rw [hGB.out] at kc ⊢;clear hg hGB hx hy;generalize Ej g.pns x y=CC at*;generalize Ct g.pns x y=R at*;unfold Ag;have a0:=ba.cell 0;have a1:=ba.cell 1;have a2:=ba.cell 2;have b0:=bb.cell 0;have b1:=bb.cell 1;have b2:=bb.cell 2;clear ba bb;go_enter func29,ntmps29;go_upto_region 1 with (fail)
 generalize (w.alloc (.cells x.V 45)).alloc (.cells y.V 45)=w0 at*;change w0.cell? ⟨w.heap.size,0,none⟩=some (.int .i64 x.b) at a0;change w0.cell? ⟨w.heap.size,1,none⟩=some (.int .i64 x.s) at a1;change w0.cell? ⟨w.heap.size,2,none⟩=some (.int .u64 (x.u:Int)) at a2;change w0.cell? ⟨w.heap.size+1,0,none⟩=some (.int .i64 y.b) at b0;change w0.cell? ⟨w.heap.size+1,1,none⟩=some (.int .i64 y.s) at b1;change w0.cell? ⟨w.heap.size+1,2,none⟩=some (.int .u64 (y.u:Int)) at b2;go_wp2_with (go_at_call 76;(with_reducible refine (kc.out _ f0).mono ?_);rintro _ w1 ⟨rfl,f1⟩)
 go_ret
 exact ⟨by rw [<- hlt.out];rfl,f0.trans f1 zr⟩
theorem Aw3 (base:Nat) (g:Gph) (w:World) (hg:GAt w base g):E8 w 76 #[.agg #[.pointer (some ⟨g.gb,0,none⟩)]] #[] (Ej g.pns) where
 enters:=enters_of func76 (by kernel_rfl) rfl
 tells x y v hf hx hy:=Uj base g x y v (hg.fr hf) hx hy
theorem Aw4 (base:Nat) (g:Gph) (B n c:Nat) (A:Option Addr) (ids:List Id) (w:World) (hg:GAt w base g) (hn:Hid (ids.length=n)) (hr:Rd w B 3 A n (ids.flatMap Id.cells)) (h14:n<=14) (hok:∀x∈ids,x.ok) (hnd:ids.Nodup):
  Calls zp 48 #[.pointer (some ⟨g.gb,0,none⟩),.slice A n c] w (E3 (Dy g.pns ids) w):=by
 have kl:=lh (Mq B n c A _ w hr (Id.cells_one ids) (by omega))
 have ks:Hid (∀(A':Option Addr) (c':Nat) (w':World),Own w' w.heap.size 45 3 A' n c' (ids.flatMap Id.cells)->Fr Non w w'->Calls zp 97 #[.slice A' n c',.func (.func 76) #[.agg #[.pointer (some ⟨g.gb,0,none⟩)]] #[]] w' fun e w''=>e=.returned (.tuple #[])/\Own w'' w.heap.size 45 3 A' n c' ((Dy g.pns ids).flatMap Id.cells)/\Fr Non w w''):=by
  intro A' c' w' ho hf;have hsz:ids.toArray.size=n:=by rw [List.size_toArray];exact hn.out
  have hS:Srt w w' w.heap.size A' c' ids.toArray:=⟨by rw [hsz];exact ho,hf,hok,Ax5 _⟩;refine (Av6 w w.heap.size c' A' ids.toArray n _ _ _ (Ej g.pns) w' (Aw3 base g w hg) hS hsz (by omega) h14 (Av7 g.pns) (fun i j hi hj hne=>Av8 g.pns hnd i j (by rw [hsz];exact hi) (by rw [hsz];exact hj) hne)).mono ?_;rintro e w'' ⟨h1,d',h2,h3,h4,h5⟩;have h6:=Av9 h4 h3 h5;refine ⟨h1,?_,h2.fr⟩;have h7:=h2.own;rw [h6,h3,hsz] at h7;exact h7
 have hlen:Hid ((Dy g.pns ids).length=n):=by show _=_;rw [Ap0,hn.out]
 unfold Ba at kl;unfold E3;rw [hlen.out];obtain ⟨GB,hGB⟩:=Aa g.gb;rw [hGB.out] at ks ⊢;clear hg hGB hr hok hnd hn hlen;generalize Dy g.pns ids=RS at*;go_enter func48,ntmps48
 go_wp2_with (first
  |(go_at_call 86;(with_reducible refine (kl.out).mono ?_);rintro _ w1 ⟨A1,c1,rfl,o1,f1⟩)
  |(go_at_call 97;(with_reducible refine (ks.out _ _ _ o1 f1).mono ?_);rintro _ w2 ⟨rfl,o2,f2⟩))
 go_ret
 exact ⟨A1,c1,rfl,o2,f2⟩
end Oq
end
namespace Oq
attribute [local go_sem] Bool.not_false Bool.not_true
attribute [local go_sem ↓] Bo Di
structure BsL where
 A:Option Addr
 c:Nat
 bs:List UInt8
def BsL.cell (x:BsL):Value:=.slice x.A x.bs.length x.c
theorem slBs:SlT zp 58 40 (.slice none 0 0) 1 24:=⟨underlying58,by kernel_rfl,rfl,by decide⟩
def Eu (l:List Pn) (x:Id):Op:=match plc l x with|some i=>(match l[i]? with|some n=>n.o|none=>Op.zero)|none=>Op.zero
theorem Uk {l:List Pn} {x:Id} {i:Nat} {n:Pn} (h:plc l x=some i) (hn:l[i]? =some n):Eu l x=n.o:=by unfold Eu;rw [h];dsimp only;rw [hn]
def BsOwn (w:World) (base:Nat) (l:List BsL):Prop:=∀s∈l,RowLies w base 5 1 s.A s.bs.length s.c (s.bs.map Bv)
theorem BsOwn.keepT {S:Nat->Prop} {P:TypeId->Prop} {w w':World} {base:Nat} {l:List BsL} (h:BsOwn w base l) (hf:Fr S w w') (hS:Types S w P) (ht:¬P 5):BsOwn w' base l:=fun s hs=>(h s hs).keepT hf (hS.not ht)
theorem BsOwn.non {w w':World} {base:Nat} {l:List BsL} (h:BsOwn w base l) (hf:Fr Non w w'):BsOwn w' base l:=fun s hs=>(h s hs).non hf
def Kw (l:List Pn) (has:List Id) (w:World) (e:Ending) (w':World):Prop:=
 ∃(sl:List BsL) (A:Option Addr) (n c:Nat),e=.returned (.slice A n c)/\Hid (sl.length=n)/\Own w' w.heap.size 40 1 A n c (sl.map BsL.cell)/\Hid (BsOwn w' w.heap.size sl)/\Hid (sl.map BsL.bs=(Bz l has).map (fun x=>(Eu l x).put))/\Fr Non w w'
theorem Ul {w:World} {b:Nat} {g:Gph} (hg:GAt w b g):∀x∈g.pns.map Pn.id,x.ok:=by
 intro x hx;unfold Gph.pns at hx;rw [List.map_map] at hx;obtain ⟨n,hn,rfl⟩:=List.mem_map.1 hx;exact (hg.node n hn).id
theorem Um {w:World} {b:Nat} {g:Gph} (hg:GAt w b g):∀m∈g.pns,m.o.ok:=by
 intro x hx;unfold Gph.pns at hx;obtain ⟨n,hn,rfl⟩:=List.mem_map.1 hx;exact (hg.node n hn).ok
theorem Aw5 {α:Type} (p:α->Bool) (l:List α) {k:Nat} {x:α} (h:l[k]? =some x):(l.take (k+1)).filter p=(l.take k).filter p++(if p x=true then [x] else []):=by
 rw [Dd h,List.filter_append];congr 1
 cases hp:p x<;>simp [hp]
theorem Aw6 (base B n c:Nat) (A:Option Addr) (r:Ai) (has:List Id) (w:World) (h:r.okAt w base) (hrows:Rows r.g.cards r.g.pns) (h14:r.g.pns.length<=14) (hn:Hid (has.length=n)) (hr:Rd w B 3 A n (has.flatMap Id.cells)) (hnm:n<=1000000):
  Calls zp 17 #[.pointer (some ⟨r.rb,0,none⟩),.slice A n c] w (Kw r.g.pns has w):=by
 have ar:(zp.info? 52).map (·.size)=some 27:=by kernel_rfl
 have cp:(zp.info? 45).map (·.size)=some 3:=by kernel_rfl
 have bt:w.cell? ⟨r.rb,0,none⟩=some (.pointer (some ⟨r.g.gb,0,none⟩)):=h.blk.cell 0;have ka:=lh (fun (w':World) (hf:Fr Non w w')=>Se base r.g w' Sm (h.graph.fr hf));have al:=Ul h.graph;have bv:(Az (r.g.pns.map Pn.id)).Nodup:=(Df _).nodup_iff.2 hrows.nodup;have bp:(Az (r.g.pns.map Pn.id)).length<=14:=by rw [Kf,List.length_map];exact h14
 have ao:∀x∈Az (r.g.pns.map Pn.id),x.ok:=fun x hx=>al x ((Df _).mem_iff.1 hx)
 have ay:Hid (∀w',Fr Non w w'->Calls zp 45 #[.pointer (some ⟨r.g.gb,0,none⟩)] w' (E3 (Az (r.g.pns.map Pn.id)) w')):=by
  intro w' ca;refine (ka.out w' ca).mono ?_;rintro e ct ⟨A5,c5,out,rfl,hp,hs,o5,f5⟩;obtain rfl:=Pq hs (Sw rfl hp);exact ⟨A5,c5,rfl,o5,f5⟩
 obtain ⟨IS,bj⟩:=Aa (Az (r.g.pns.map Pn.id));rw [bj.out] at ay bv bp ao;obtain ⟨NI,be⟩:=Aa IS.length;rw [be.out] at bp;have ko:=lh (fun (A':Option Addr) (c':Nat) (w':World) (hf:Fr Non w w') (hrd:Rd w' w'.heap.size 3 A' NI (IS.flatMap Id.cells))=>Aw4 base r.g w'.heap.size NI c' A' IS w' (h.graph.fr hf) be hrd bp ao bv);have b3:Hid (∀x∈Dy r.g.pns IS,x∈r.g.pns.map Pn.id):=fun x hx=>(Df _).mem_iff.1 (by rw [bj.out];exact (Gq _ _).mem_iff.1 hx);have bd:(Dy r.g.pns IS).length=NI:=by rw [(Gq _ _).length_eq];exact be.out
 have b1:Hid (Bz r.g.pns has=(Dy r.g.pns IS).filter (fun x=> !Bf has x)):=by show _=_;unfold Bz;rw [bj.out]
 have kO:=lh (fun (x:Id) (w':World) (hf:Fr Non w w') (hx:x.ok)=>Ny (l:=r.g.pns) x (h.graph.fr hf) rfl rfl hx);unfold Io at kO;have kC:=lh (fun (x:Id) (w':World) (hf:Fr Non w w')=>Au0 B n c A has x w' hn (hr.fr hf zr) hnm);unfold Ag at kC;have cb:=lh (fun (x:Id) (hx:x∈r.g.pns.map Pn.id)=>hrows.placed hx);have br:Hid (∀m∈r.g.pns,m.o.ok):=Um h.graph;have a7:Hid (∀(sl:List BsL) (A:Option Addr) (n c:Nat) (w':World),Hid (sl.length=n)->Own w' w.heap.size 40 1 A n c (sl.map BsL.cell)->Hid (BsOwn w' w.heap.size sl)->Hid (sl.map BsL.bs=(Bz r.g.pns has).map (fun x=>(Eu r.g.pns x).put))->Fr Non w w'->Kw r.g.pns has w (.returned (.slice A n c)) w'):=fun sl A n c w' h1 h2 h3 h4 h5=>⟨sl,A,n,c,rfl,h1,h2,h3,h4,h5⟩;generalize Kw r.g.pns has w=POST at*;unfold E3 at ay ko;rw [be.out] at ay;obtain ⟨RS,bm⟩:=Aa (Dy r.g.pns IS);rw [bm.out] at ko b3 bd b1;rw [bd] at ko;obtain ⟨rb,b8⟩:=Aa r.rb;obtain ⟨gb,b6⟩:=Aa r.g.gb;rw [b8.out,b6.out] at bt;rw [b6.out] at ay ko kO;rw [b8.out];have a6:Hid (∀x∈r.g.pns.map Pn.id,x.ok):=al;generalize r.g.pns=l at*;clear h hr hn hnm ka al bv ao hrows h14;go_enter func17,ntmps17;go_upto_region 2 with (fail)
 have P0:=bt;have F0:Fr Non w w.drew:=(Fr.refl Non w).drew;refine wp_region_held_drew (S:=fun w'=>w'.cell? ⟨rb,0,none⟩=some (.pointer (some ⟨gb,0,none⟩))) (by kernel_rfl) P0 (fun hHeld=> ?_);clear hHeld;refine tkH 0 P0 (h:=tkH 1 P0 (h:=tkH 2 P0 (h:=tkH 3 P0 (h:=tkH 4 P0 (h:=tkH 5 P0 (h:=tkH 6 P0 (h:=tkH 7 P0 (h:=tkH 11 P0 (h:=?_)))))))));simp only [zl];refine oG 8 (fun K hK=> ?_);go_simp;go_wp2_with (go_at_call 45;(with_reducible refine (ay.out _ F0).mono ?_);rintro _ v1 ⟨A5,c5,rfl,b7,ax⟩;have F1:=F0.trans ax zr;have P1:=F1.cell P0 zq;have G1:=(Fr.refl Non w).trans F1 zr);refine hK.out _ _ P1 (fun hZ=> ?_);clear hZ hK K;try simp only [Ad,zl]
 refine oG 9 (fun K hK=> ?_);go_simp;go_wp2_with (go_at_call 48;(with_reducible refine (ko.out _ _ _ F1 b7.rd).mono ?_);rintro _ v2 ⟨A6,c6,rfl,b5,aj⟩;have F2:=F1.trans aj zr;have P2:=F2.cell P0 zq;have G2:=(Fr.refl Non w).trans F2 zr);refine hK.out _ _ P2 (fun hZ=> ?_);clear hZ hK K;try simp only [Ad,zl]
 refine tkH 10 P2 (h:=?_);simp only [zl];refine oD ?_;go_simp;have f2:=F2;have o6:=b5;generalize v2=w2 at*;clear P0 P1 P2 F0 F1 F2 ax aj b7 b5 ay ko;have ce:w.heap.size<=w2.heap.size:=f2.size;go_wp2_with fail
 go_loopw [5,21] (fun s v wr=>∃(i M cq:Nat) (Aq:Option Addr) (sl:List BsL),s=.slice Aq M cq/\v=.int .i64 (i:Int)/\i<=NI/\M<=i/\Hid (sl.length=M)/\Own wr w2.heap.size 40 1 Aq M cq (sl.map BsL.cell)/\Hid (BsOwn wr w.heap.size sl)/\Hid (sl.map BsL.bs=((RS.take i).filter (fun x=> !Bf has x)).map (fun x=>(Eu l x).put))/\Fr Non w2 wr) (fun s v _=>NI-(intOf v).toNat)
 case atStart=>exact ⟨0,0,0,none,[],rfl,rfl,by omega,by omega,rfl,Own.nil _ _ _ _,fun s hs=>absurd hs Ax8,rfl,Fr.refl _ _⟩
 case round=>
 obtain ⟨i,M,cq,Aq,sl,rfl,rfl,hi,hM,ap,a9,a8,ac,hf⟩:=hrel
 by_cases hin:i<NI
 case neg=>
  obtain rfl:i=NI:=by omega
  have hd:=lh (a7.out sl Aq M cq wr ap (a9.lower ce) a8 (by show _=_;rw [ac.out,b1.out,List.take_of_length_le (by rw [bd];exact Ax5 _)]) (f2.trans hf zr));clear a7 a8 ac a9;go_wp2_with fail;exact hd.out
 case pos=>
 obtain ⟨x,hx⟩:∃x,RS[i]? =some x:=⟨_,Ax4 (by rw [bd];exact hin)⟩;have bn:=b3.out x (Ax9 hx);obtain ⟨p,hp⟩:=Option.isSome_iff_exists.1 (cb.out x bn);obtain ⟨m,hm,cn⟩:=Bp hp;have bx:=Uk hp hm;obtain ⟨ba,oa,ci,_,k0,k1,k2⟩:=Id.at (o6.rd.fr hf zr) hx;have b9:x.ok:=a6.out x bn;obtain ⟨i1,i2,i3⟩:=ix i NI
 have e6:=iw ((i:Int)+1);have a0:=lh (Aw5 (fun x=> !Bf has x) RS hx);subst ci;have bh:=lh (fun (w':World) (h:Fr Non w2 w')=>kO.out x w' (f2.trans h zr) b9);have bi:=Blk.new wr 45 x.V;have fi:Fr Non wr (wr.alloc (.cells x.V 45)):=(Fr.refl Non wr).alloc _;have cl:w2.heap.size<=wr.heap.size:=hf.size
 have aq:Hid (∀(y2:OpL) (is:Bool),((plc l x).isSome=is)->(∀i p,plc l x=some i->l[i]? =some p->y2.op=p.o)->is=true/\y2.op=Eu l x/\y2.op.ok):=by
  intro y2 is h1 h2;have h3:=h2 p m hp hm;refine ⟨by rw [<- h1,hp];rfl,by rw [h3,bx],by rw [h3];exact br.out m (Ax9 hm)⟩
 obtain ⟨ib,b0⟩:=Aa wr.heap.size;clear hx bn hp hm cn bx b9;go_upto_region 5 with (fail)
 rw [b0.out] at bi;try rw [b0.out]
 generalize wr.alloc (.cells x.V 45)=w4 at*;have ad:=hf.trans fi zr;have P4:=(f2.trans ad zr).cell bt zq;have i0:cI w4 ib 0 x.b:=bi.cell 0;have j0:cI w4 ib 1 x.s:=bi.cell 1;have l0:cU w4 ib 2 x.u:=bi.cell 2;clear k0 k1 k2
 go_cut [8,9] from 25 to 33 (fun s1 s2 wc=>∃(qb:Nat) (y2:OpL),s1=.pointer (some ⟨qb,0,none⟩)/\s2=.bool true/\Blk wc qb 52 y2.cells/\Hid (y2.op=Eu l x/\y2.op.ok)/\Hid (y2.lies wc w2.heap.size)/\Fr Non w4 wc)
 case first=>
  have P0:=P4;have I0:=i0;have J0:=j0;have K0:=l0;have F0:Fr Non w4 w4.drew:=(Fr.refl Non w4).drew;have G0:Fr Non w2 w4.drew:=ad.drew;refine wp_region_held_drew (S:=fun w'=>w'.cell? ⟨rb,0,none⟩=some (.pointer (some ⟨gb,0,none⟩))/\cI w' ib 0 x.b/\cI w' ib 1 x.s/\cU w' ib 2 x.u) (by kernel_rfl) ⟨P0,I0,J0,K0⟩ (fun hHeld=> ?_);clear hHeld;have uu:=aI P0 (aI I0 (aI J0 K0));refine tkH 0 uu (h:=tkH 1 uu (h:=tkH 2 uu (h:=tkH 3 uu (h:=tkH 4 uu (h:=?_)))));clear uu;simp only [zl];refine Tu 5 9 (by kernel_rfl) rfl rfl (by kernel_rfl) (by kernel_rfl) (fun K hK=> ?_) (fun K hK=> ?_)
  ·
   skip
   go_simp;go_wp2_with (go_at_call 27;(with_reducible refine (bh.out _ G0).mono ?_);rintro _ v1 ⟨y2,is,rfl,bq,ai,au,ax⟩;have F1:=F0.trans ax zr;obtain ⟨P1,I1,J1,K1⟩:=zk4 F1 P0 I0 J0 K0;have G1:=ad.trans F1 zr;have bk:=lh (au.out.lower G0.size);obtain ⟨rfl,ak⟩:=aq.out y2 is bq.out ai.out;clear au ai);refine hK.out _ _ ⟨P1,I1,J1,K1⟩ (fun hZ=> ?_);clear hZ hK K;try simp only [Ad,zl]
   refine tkH 6 ⟨P1,I1,J1,K1⟩ (h:=tkH 7 ⟨P1,I1,J1,K1⟩ (h:=tkH 8 ⟨P1,I1,J1,K1⟩ (h:=?_)));simp only [zl];refine oG 9 (fun K hK=> ?_);go_simp;have aj:Fr Non v1 (v1.alloc (.cells zO 52)):=(Fr.refl _ _).alloc _;have ab:=Blk.new v1 52 zO;have av:=lh (bk.out.non aj);have F2:=F1.trans aj zr;obtain ⟨P2,I2,J2,K2⟩:=zk4 F2 P0 I0 J0 K0;have G2:=ad.trans F2 zr;obtain ⟨qb,az⟩:=Aa v1.heap.size;rw [az.out] at ab ⊢;have cj:w4.heap.size<=qb:=by rw [<- az.out];exact F1.size
   refine hK.out _ _ ⟨P2,I2,J2,K2⟩ (fun hZ=> ?_);clear hZ hK K;try simp only [Ad,zl]
   generalize v1.alloc (.cells zO 52)=v2 at*;have co:=Ch (P:=zp) qb 52 (cs:=y2.cells) ar (old:=zO) rfl (Ds y2);refine oG 10 (fun K hK=> ?_);go_simp;have bz:=ab.setRow (cs:=y2.cells);have hz:=lh (av.out.keepP (Tt y2.cells) (Types.one ab) (by decide) (by decide) (by decide) (by decide) (by decide) (by decide) (by decide));have F3:Fr Non w4 (v2.setRow qb y2.cells):=F2.setRow (fun hh=>absurd hh (by omega)) _;obtain ⟨P3,I3,J3,K3⟩:=zk4 F3 P0 I0 J0 K0;have G3:=ad.trans F3 zr;refine hK.out _ _ ⟨P3,I3,J3,K3⟩ (fun hZ=> ?_);clear hZ hK K;try simp only [Ad,zl]
   refine tkH 11 ⟨P3,I3,J3,K3⟩ (h:=?_);simp only [zl];refine oD ?_;go_simp;go_wp2_with fail;go_meet;exact ⟨qb,y2,rfl,rfl,bz,ak,hz,F3⟩
  ·
   have F0:Fr Non w4 w4:=Fr.refl Non w4;have G0:=ad;go_simp;have ax:Fr Non w4 ((w4.alloc (.cells zO 52)).drew):=(((Fr.refl Non w4).alloc (.cells zO 52)).drew:Fr Non w4 _);have a2:=(Blk.new w4 52 zO).drew;have F1:=F0.trans ax zr;obtain ⟨P1,I1,J1,K1⟩:=zk4 F1 P0 I0 J0 K0;have G1:=ad.trans F1 zr;obtain ⟨qb,az⟩:=Aa w4.heap.size;rw [az.out] at a2 ⊢;have cj:w4.heap.size<=qb:=by rw [<- az.out];exact Ax5 _
   refine hK.out _ _ ⟨P1,I1,J1,K1⟩ (fun hZ=> ?_);clear hZ hK K;try simp only [Ad,zl]
   generalize (w4.alloc (.cells zO 52)).drew=v1 at*;refine oG 5 (fun K hK=> ?_);go_simp;go_wp2_with (go_at_call 27;(with_reducible refine (bh.out _ G1).mono ?_);rintro _ v2 ⟨y2,is,rfl,bq,ai,au,aj⟩;have F2:=F1.trans aj zr;obtain ⟨P2,I2,J2,K2⟩:=zk4 F2 P0 I0 J0 K0;have G2:=ad.trans F2 zr;have ab:=a2.fr aj zq;have av:=lh (au.out.lower G1.size);obtain ⟨rfl,ak⟩:=aq.out y2 is bq.out ai.out;clear au ai);refine hK.out _ _ ⟨P2,I2,J2,K2⟩ (fun hZ=> ?_);clear hZ hK K;try simp only [Ad,zl]
   refine tkH 6 ⟨P2,I2,J2,K2⟩ (h:=tkH 7 ⟨P2,I2,J2,K2⟩ (h:=tkH 8 ⟨P2,I2,J2,K2⟩ (h:=?_)));simp only [zl];have co:=Ch (P:=zp) qb 52 (cs:=y2.cells) ar (old:=zO) rfl (Ds y2);refine oG 10 (fun K hK=> ?_);go_simp;have bz:=ab.setRow (cs:=y2.cells);have hz:=lh (av.out.keepP (Tt y2.cells) (Types.one ab) (by decide) (by decide) (by decide) (by decide) (by decide) (by decide) (by decide));have F3:Fr Non w4 (v2.setRow qb y2.cells):=F2.setRow (fun hh=>absurd hh (by omega)) _;obtain ⟨P3,I3,J3,K3⟩:=zk4 F3 P0 I0 J0 K0;have G3:=ad.trans F3 zr;refine hK.out _ _ ⟨P3,I3,J3,K3⟩ (fun hZ=> ?_);clear hZ hK K;try simp only [Ad,zl]
   refine tkH 11 ⟨P3,I3,J3,K3⟩ (h:=?_);simp only [zl];refine oD ?_;go_simp;go_wp2_with fail;go_meet;exact ⟨qb,y2,rfl,rfl,bz,ak,hz,F3⟩
 case rest=>
 obtain ⟨qb,y,rfl,rfl,b2,ai,au,f5⟩:=hcut;generalize wc=w5 at*;have bo:=ad.trans f5 zr;obtain ⟨x0,x1,x2⟩:=zk3 f5 i0 j0 l0;have bw:=lh (kC.out x w5 (f2.trans bo zr));have ah:=(a9.fr fi zr).fr f5 zr;have aw:=lh ((a8.out.non fi).non f5);have b4:=Bs (P:=zp) qb 52 underlying52 rfl (cs:=y.cells) ar;have kp:=lh (fun (w':World) (h:Fr Non w5 w')=>Lt y w' (au.out.non h).at ai.out.2);unfold NewB at kp;obtain ⟨n5,bb⟩:=Aa y.op.put.length;rw [bb.out] at kp;have a3:Hid (y.op.put=(Eu l x).put):=by show _=_;rw [ai.out.1]
 obtain ⟨PB,ch⟩:=Aa y.op.put;rw [ch.out] at kp a3 bb;obtain ⟨YC,cf⟩:=Aa y.cells;rw [cf.out] at b2 b4 kp;obtain ⟨HB,cd⟩:=Aa (Bf has x);rw [cd.out] at bw a0;clear kO kC bh P4 i0 j0 l0 bi fi ad f5 a9 a8 aq
 cases HB
 case true=>
  have aa:Hid (sl.map BsL.bs=((RS.take (i+1)).filter (fun x=> !Bf has x)).map (fun x=>(Eu l x).put)):=by
   show _=_;rw [a0.out,ac.out];simp
  clear a0 ac;go_wp2_with (go_at_call 49;(with_reducible refine (bw.out).mono ?_);rintro _ w6 ⟨rfl,f6⟩);have a4:=bo.trans f6 zr;have ag:=ah.fr f6 zr;have af:=lh (aw.out.non f6);go_roundw
  case rel=>exact ⟨i+1,M,cq,Aq,sl,rfl,by go_num,by omega,by omega,ap,ag,af,aa,a4⟩
  case measure=>simp [intOf];omega
 case false=>
 have aa:Hid (∀z:BsL,z.bs=PB->(sl++[z]).map BsL.bs=((RS.take (i+1)).filter (fun x=> !Bf has x)).map (fun x=>(Eu l x).put)):=by
  intro z hz;rw [a0.out,Ax6,Ax6,ac.out];simp [hz,a3.out]
 clear a0 ac;go_upto_region 7 with (go_at_call 49;(with_reducible refine (bw.out).mono ?_);rintro _ w6 ⟨rfl,f6⟩)
 have cg:=b2.fr f6 zq;have cu:=b4 w6 cg;have cc:=ah.cap;have ag:=ah.fr f6 zr;have af:=lh (aw.out.non f6);have a4:=bo.trans f6 zr
 go_wp2_with (first
  |(go_at_call 50;(with_reducible refine (kp.out _ f6).mono ?_);rintro _ w7 ⟨A7,c7,rfl,o7,f7⟩;have ae:=ag.fr f7 zr;have bF:=Blk.new w7 40 #[.slice A7 n5 c7];have cr:=(a4.trans f7 zr).size)
  |(at_builtin;go_loud (refine Au (base:=w2.heap.size) (.tmp 41) (.tmp 44) 58 rfl rfl rfl rfl slBs (ae.alloc (.cells #[.slice A7 n5 c7] 40)) (Rd.blk (n:=1) (size:=1) bF rfl) (by simp [Value.oneCell']) (by omega) (by omega) (by rw [Ax3];omega) ?_);intro A8 c8 w8 a1 bc bu))
 have fa:Fr Non w7 (w7.alloc (.cells #[.slice A7 n5 c7] 40)):=(Fr.refl Non w7).alloc _;have cm:=(a4.trans f7 zr).trans fa zr;have ck:Fr Non w2 w8:=cm.trans bc (fun k hk e=>by have:=(ae.row k e).1;omega);have bg:Types (fun k=>Ac Aq=some k) (w7.alloc (.cells #[.slice A7 n5 c7] 40)) (fun t=>t=40):=fun k cs t fr hk e=>Own.typed (ae.alloc (.cells #[.slice A7 n5 c7] 40)) hk e
 have bf:Hid (BsOwn w8 w.heap.size (sl++[⟨A7,c7,PB⟩])):=by
  intro s hs
  rcases List.mem_append.1 hs with h|h
  · exact (((af.out s h).non f7).non fa).keepT bc (bg.not (by decide))
  ·
   rw [List.mem_singleton.1 h];have h9:=((RowAt.of_own o7).lies.non fa).keepT bc (bg.not (by decide));rw [<- bb.out] at h9;exact h9.lower (f2.trans a4 zr).size
 have h1:Hid ((sl++[(⟨A7,c7,PB⟩:BsL)]).length=M+1):=by show _=_;rw [List.length_append,ap.out];rfl
 have bl:Own w8 w2.heap.size 40 1 A8 (M+1) c8 ((sl++[(⟨A7,c7,PB⟩:BsL)]).map BsL.cell):=by
  rw [Ax6,List.map_cons,List.map_nil];show Own _ _ _ _ _ _ _ (_++[Value.slice A7 PB.length c7]);rw [bb.out];exact a1
 have a5:=lh (aa.out ⟨A7,c7,PB⟩ rfl);clear a1 bc bu o7 ae ag ah af aw aa bg kp;go_roundw
 case rel=>exact ⟨i+1,M+1,c8,A8,_,rfl,by go_num,by omega,by omega,h1,bl,bf,a5,ck⟩
 case measure=>simp [intOf];omega
end Oq
namespace Oq
def Gd (l:List Pn) (ns:List Id) (k:Nat):List Nat:=(List.range k).filter (fun i=>Bf ns (nmP l i))
theorem Aw7 {cards:List Cd} {l:List Pn} {on ys:List Nat} {ns:List Id} (h:Rows cards l) (hlen:l.length<200) (hb:Fi l on ys) (hy:∀q∈ys,q<l.length) (hp:ns.Perm (ys.map (nmP l))):
  ∃(C:List Op) (m:List Pn),Cy cards l (Gd l ns l.length) ([],[])=(m,[])/\Bd cards l C m []/\(∀x,x∈m.map Pn.id<->x∈ns)/\m.length=ns.length/\∀p∈Gd l ns l.length,p<l.length:=by
 have ag:∀p∈Gd l ns l.length,p<l.length:=fun p hp=>List.mem_range.1 (List.mem_filter.1 hp).1
 have ad:∀(p:Nat) (n:Pn),l[p]? =some n->(p∈Gd l ns l.length<->p∈ys):=by
  intro p n hn;unfold Gd;rw [List.mem_filter,List.mem_range,Fb,Dg hn,hp.mem_iff];constructor
  ·
   rintro ⟨_,h2⟩;obtain ⟨q,hq,e⟩:=List.mem_map.1 h2;have aa:=Ax4 (hy q hq);rw [Dg aa] at e;have k1:=(h.ok q _ aa).plc;rw [e,(h.ok p n hn).plc] at k1;injection k1 with k1
   rw [k1];exact hq
  ·
   intro h2;exact ⟨(List.getElem?_eq_some_iff.1 hn).1,by rw [<- Dg hn];exact Ax7 h2⟩
 obtain ⟨C,h1,h2,h3⟩:=M9 hlen (Gd l ns l.length) ([],[]) [] (Bd.start h) (fun o ho=>absurd ho Ax8) ag
 have ao:(Cy cards l (Gd l ns l.length) ([],[])).2=[]:=by
  refine h1.closed h2 (fun o ho id hid=> ?_)
  rcases (h3 o).1 ho with h4|⟨p,hpp,n,hn,rfl⟩
  · cases h4
  ·
   obtain ⟨r,hr,ai⟩:=(h.ok p n hn).par id hid;obtain ⟨n2,ac,e2⟩:=Bp ai;have af:n.ps r=true:=((h.ok p n hn).ps r).2 ⟨id,hid,r,n2,ai,ac,.inl rfl⟩
   have al:r∈ys:=by
    refine (hb.2 r).2 (.inr ?_)
    rcases (hb.2 p).1 ((ad p n hn).1 hpp) with h5|⟨q,hq,h5⟩
    · exact ⟨p,h5,by unfold inP;rw [hn];exact af⟩
    ·
     refine ⟨q,hq,?_⟩;unfold inP at h5 ⊢
     cases aa:l[q]? with
     |none=>rw [aa] at h5;cases h5
     |some nq=>
      rw [aa] at h5;exact h.trans q aa h5 hn af
   exact ⟨n2.o,(h3 n2.o).2 (.inr ⟨r,(ad r n2 ac).2 al,n2,ac,rfl⟩),by rw [<- (h.ok r n2 ac).id,e2]⟩
 generalize Cy cards l (Gd l ns l.length) ([],[])=s at*;obtain ⟨m,ws⟩:=s;dsimp only at*;subst ao
 have ab:∀x,x∈m.map Pn.id<->x∈ns:=by
  intro x
  have e1:x∈m.map Pn.id<->∃o∈C,o.name=x:=by
   constructor
   ·
    intro hx;obtain ⟨n,hn,rfl⟩:=List.mem_map.1 hx;obtain ⟨i,hi⟩:=Ay0 hn;exact ⟨n.o,h1.perm.mem_iff.1 (List.mem_append_left _ (Ax7 hn)),(h1.rm.ok i n hi).id.symm⟩
   ·
    rintro ⟨o,ho,rfl⟩
    rcases List.mem_append.1 (h1.perm.mem_iff.2 ho) with h4|h4
    ·
     obtain ⟨n,hn,rfl⟩:=List.mem_map.1 h4;obtain ⟨i,hi⟩:=Ay0 hn;rw [<- (h1.rm.ok i n hi).id];exact Ax7 hn
    · cases h4
  rw [e1,hp.mem_iff,List.mem_map];constructor
  ·
   rintro ⟨o,ho,rfl⟩
   rcases (h3 o).1 ho with h4|⟨p,hpp,n,hn,rfl⟩
   · cases h4
   · exact ⟨p,(ad p n hn).1 hpp,by rw [Dg hn,(h.ok p n hn).id]⟩
  ·
   rintro ⟨q,hq,rfl⟩;have aa:=Ax4 (hy q hq);exact ⟨_,(h3 _).2 (.inr ⟨q,(ad q _ aa).2 hq,_,aa,rfl⟩),by rw [Dg aa,(h.ok q _ aa).id]⟩
 have ak:ns.Nodup:=by
  refine hp.nodup_iff.2 ?_;rw [List.Nodup,List.pairwise_map];refine hb.1.imp_of_mem (fun {a b} ha hb' hab e=>hab ?_);have ae:=Ax4 (hy a ha);have ah:=Ax4 (hy b hb');rw [Dg ae,Dg ah] at e;have k1:=(h.ok a _ ae).plc;have k2:=(h.ok b _ ah).plc;rw [e,k2] at k1;injection k1 with k1
  exact k1.symm
 refine ⟨C,m,rfl,h1,ab,?_,ag⟩;have aj:(m.map Pn.id).Perm ns:=(List.perm_ext_iff_of_nodup h1.rm.nodup ak).2 ab;have:=aj.length_eq;rwa [List.length_map] at this
end Oq
end Go.Proofs.YtmcpnjoomlgmlaaGreatDoor
