/-
  Contracts of the functions that the claim's statement reaches, walked one by one (part 20).
  Conditions: as each theorem says.
-/
import Derived.Test.YtgbdljlapmjmnaaGreatDoorRlG19
set_option maxRecDepth 100000
set_option maxHeartbeats 16000000
open Bool renaming not_false->A07,not_true->A08
open List renaming getElem?_of_mem->A01,getElem?_eq_getElem->A02,mem_map_of_mem->A03,mem_of_getElem?->A05,getElem?_map->A06,length_map->A10,map_append->A11,filter_append->A12,not_mem_nil->A13,pairwise_map->A14,mem_append_left->A15
open Nat renaming le_refl->A09
open Go.World renaming size_alloc->A04
open Go.Proofs.Tryz
open Go.Proofs.Tryz renaming prog->zp
open Go.Lib renaming hid->lh
open List renaming set->zl
open Go.Ending renaming returned->ze
namespace Go.Proofs.YtgbdljlapmjmnaaGreatDoor
open Go.RowKit
attribute [local go_sem ↓] Go.wp_at_zero Go.wp_at_succ
section
open Go.RowKit Go.Sort
namespace Oq
attribute [local go_sem] A07 A08
theorem Ax4 (base:Nat) (g:Gph) (x y:Id) (w:World) (hg:GAt w base g) (hx:x.ok) (hy:y.ok):
  Calls zp 99 #[.agg #[.pointer (some ⟨g.gb,0,none⟩)],.agg x.V,.agg y.V] w fun e w'=>e=.returned (.int .i64 (E3 g.pns x y))/\Fr Non w w':=by
 have kx:Hid (∀w',Fr Non w w'->Calls zp 154 #[.pointer (some ⟨g.gb,0,none⟩),.agg x.V] w' fun e w''=>e=.returned (.int .i64 (Ar g.pns x:Int))/\Fr Non w' w''):=fun w' hf=>by
  have:=Qg base g x w' (hg.fr hf) hx;rwa [g.level_eq] at this
 have ky:Hid (∀w',Fr Non w w'->Calls zp 154 #[.pointer (some ⟨g.gb,0,none⟩),.agg y.V] w' fun e w''=>e=.returned (.int .i64 (Ar g.pns y:Int))/\Fr Non w' w''):=fun w' hf=>by
  have:=Qg base g y w' (hg.fr hf) hy;rwa [g.level_eq] at this
 have ag:=lh (Ax3 g.pns x y);have k1:=lh (fun w'=>Lz x y w');have k2:=lh (fun w'=>Lz y x w');unfold Ag at k1 k2;obtain ⟨GB,ai⟩:=Aa g.gb;rw [ai.out] at kx ky ⊢;clear hg ai hx hy;generalize Ar g.pns x=LX at*;generalize Ar g.pns y=LY at*;generalize E3 g.pns x y=R at*;generalize Id.less x y=BX at*;generalize Id.less y x=BY at*;have kc:Hid (∀w',Calls zp 153 #[.int .i64 (LX:Int),.int .i64 (LY:Int)] w' fun e w''=>e=.returned (.int .i64 (Br (LX:Int) (LY:Int)))/\Fr Non w' w''):=fun w'=>(Ly _ _ w').mono fun _ _ h=>⟨h.1,h.2▸Fr.refl _ _⟩;have ko:Hid (∀(a b:Int) (k:Nat) w',Blk w' k 3 #[.int .i64 a,.int .i64 b]->Calls zp 152 #[.slice (some ⟨k,0,none⟩) 2 2] w' fun e w''=>e=.returned (.int .i64 (Fj a b))/\Fr Non w' w''):=fun a b k w' hk=>(Ax2 a b k w' hk).mono fun _ _ h=>⟨h.1,h.2▸Fr.refl _ _⟩;generalize Br (LX:Int) (LY:Int)=CC at*;have bg:=((Blk.new w 156 #[.pointer (some ⟨GB,0,none⟩)]).alloc (.cells x.V 48)).alloc (.cells y.V 48);have ba:=(Blk.new (w.alloc (.cells #[.pointer (some ⟨GB,0,none⟩)] 156)) 48 x.V).alloc (.cells y.V 48);have bb:=Blk.new ((w.alloc (.cells #[.pointer (some ⟨GB,0,none⟩)] 156)).alloc (.cells x.V 48)) 48 y.V;rw [A04] at ba;rw [A04,A04] at bb;have f0:Fr Non w (((w.alloc (.cells #[.pointer (some ⟨GB,0,none⟩)] 156)).alloc (.cells x.V 48)).alloc (.cells y.V 48)):=(((Fr.refl Non w).alloc _).alloc _).alloc _;have r0:=bg.cell 0;have a0:=ba.cell 0;have a1:=ba.cell 1;have a2:=ba.cell 2;have b0:=bb.cell 0;have b1:=bb.cell 1;have b2:=bb.cell 2;clear bg ba bb;go_enter func99,ntmps99;go_upto_region 1 with (fail)
 generalize ((w.alloc (.cells #[.pointer (some ⟨GB,0,none⟩)] 156)).alloc (.cells x.V 48)).alloc (.cells y.V 48)=w0 at*;change w0.cell? ⟨w.heap.size,0,none⟩=some (.pointer (some ⟨GB,0,none⟩)) at r0;change w0.cell? ⟨w.heap.size+1,0,none⟩=some (.int .i64 x.b) at a0;change w0.cell? ⟨w.heap.size+1,1,none⟩=some (.int .i64 x.s) at a1;change w0.cell? ⟨w.heap.size+1,2,none⟩=some (.int .u64 (x.u:Int)) at a2;change w0.cell? ⟨w.heap.size+1+1,0,none⟩=some (.int .i64 y.b) at b0;change w0.cell? ⟨w.heap.size+1+1,1,none⟩=some (.int .i64 y.s) at b1;change w0.cell? ⟨w.heap.size+1+1,2,none⟩=some (.int .u64 (y.u:Int)) at b2;obtain ⟨V,hV⟩:=Aa (if BX=true then (-1:Int) else if BY=true then 1 else 0);rw [hV.out] at ag
 go_upto_block 0 with (fail)
 go_cut [7] from 8 to 15 (fun s wc=>s=.int .i64 V/\Fr Non w0 wc)
 case first=>
  cases BX
  case true=>
   go_wp2_with (go_at_call 115;(with_reducible refine (k1.out _).mono ?_);rintro _ w1 ⟨rfl,f1⟩);go_meet;exact ⟨congrArg _ hV.out,f1⟩
  case false=>
   have ah:Hid (∀v,Fr Non w0 v->cI v (w.heap.size+1) 0 x.b/\cI v (w.heap.size+1) 1 x.s/\cU v (w.heap.size+1) 2 x.u/\cI v (w.heap.size+1+1) 0 y.b/\cI v (w.heap.size+1+1) 1 y.s/\cU v (w.heap.size+1+1) 2 y.u):=fun v hf=>⟨hf.cell a0 zq,hf.cell a1 zq,hf.cell a2 zq,hf.cell b0 zq,hf.cell b1 zq,hf.cell b2 zq⟩
   cases BY
   all_goals
    go_wp2_with (first
     |(go_at_call 115;(with_reducible refine (k1.out _).mono ?_);rintro _ w1 ⟨rfl,f1⟩;obtain ⟨a0,a1,a2,b0,b1,b2⟩:=ah.out _ f1)
     |(go_at_call 115;(with_reducible refine (k2.out _).mono ?_);rintro _ w2 ⟨rfl,f2⟩))
    go_meet;exact ⟨congrArg _ hV.out,f1.trans f2 zr⟩
 case rest=>
 obtain ⟨rfl,fc⟩:=hcut;clear hV k1 k2;have fw:=f0.trans fc zr;obtain ⟨B0,ac,ae,ad,ab,af,aa⟩:=zk7 fc r0 a0 a1 a2 b0 b1 b2;clear r0 a0 a1 a2 b0 b1 b2;go_upto_region 6 with (fail)
 have F0:Fr Non wc wc.drew:=(Fr.refl Non wc).drew;have G0:Fr Non w wc.drew:=fw.drew;refine wp_region_held_drew (S:=fun w'=>w'.cell? ⟨w.heap.size,0,none⟩=some (.pointer (some ⟨GB,0,none⟩))/\cI w' (w.heap.size+1) 0 x.b/\cI w' (w.heap.size+1) 1 x.s/\cU w' (w.heap.size+1) 2 x.u/\cI w' (w.heap.size+1+1) 0 y.b/\cI w' (w.heap.size+1+1) 1 y.s/\cU w' (w.heap.size+1+1) 2 y.u) (by kernel_rfl) ⟨B0,ac,ae,ad,ab,af,aa⟩ (fun hHeld=> ?_);clear hHeld;have uu:=aI B0 (aI ac (aI ae (aI ad (aI ab (aI af aa)))));refine tkH 0 uu (h:=tkH 1 uu (h:=tkH 2 uu (h:=tkH 4 uu (h:=tkH 5 uu (h:=tkH 6 uu (h:=tkH 9 uu (h:=?_)))))));clear uu;simp only [zl];refine oG 3 (fun K hK=> ?_);go_simp;go_wp2_with (go_at_call 154;(with_reducible refine (kx.out _ G0).mono ?_);rintro _ v1 ⟨rfl,az⟩;have F1:=F0.trans az zr;obtain ⟨B1,bn,a9,a4,a7,bl,a6⟩:=zk7 F1 B0 ac ae ad ab af aa;have G1:=fw.trans F1 zr);refine hK.out _ _ ⟨B1,bn,a9,a4,a7,bl,a6⟩ (fun hZ=> ?_);clear hZ hK K;try simp only [Ae,zl]
 refine oG 7 (fun K hK=> ?_);go_simp;go_wp2_with (go_at_call 154;(with_reducible refine (ky.out _ G1).mono ?_);rintro _ v2 ⟨rfl,bk⟩;have F2:=F1.trans bk zr;obtain ⟨B2,ar,bm,a8,a3,bf,au⟩:=zk7 F2 B0 ac ae ad ab af aa;have G2:=fw.trans F2 zr);refine hK.out _ _ ⟨B2,ar,bm,a8,a3,bf,au⟩ (fun hZ=> ?_);clear hZ hK K;try simp only [Ae,zl]
 refine oG 8 (fun K hK=> ?_);go_simp;go_wp2_with (go_at_call 153;(with_reducible refine (kc.out _).mono ?_);rintro _ v3 ⟨rfl,bi⟩;have F3:=F2.trans bi zr;obtain ⟨B3,av,aw,ay,bo,bh,br⟩:=zk7 F3 B0 ac ae ad ab af aa;have G3:=fw.trans F3 zr);refine hK.out _ _ ⟨B3,av,aw,ay,bo,bh,br⟩ (fun hZ=> ?_);clear hZ hK K;try simp only [Ae,zl]
 refine oG 10 (fun K hK=> ?_);go_simp;have bs:=Blk.new v3 3 #[.int .i64 CC,.int .i64 V];have bq:Fr Non v3 (v3.alloc (.cells #[.int .i64 CC,.int .i64 V] 3)):=(Fr.refl _ _).alloc _;have F4:=F3.trans bq zr;obtain ⟨B4,bc,bj,be,ax,bp,bd⟩:=zk7 F4 B0 ac ae ad ab af aa;have G4:=fw.trans F4 zr;refine hK.out _ _ ⟨B4,bc,bj,be,ax,bp,bd⟩ (fun hZ=> ?_);clear hZ hK K;try simp only [Ae,zl]
 generalize v3.alloc (.cells #[.int .i64 CC,.int .i64 V] 3)=v4 at*;refine oG 11 (fun K hK=> ?_);go_simp;go_wp2_with (go_at_call 152;(with_reducible refine (ko.out _ _ _ _ bs).mono ?_);rintro _ v5 ⟨rfl,a5⟩;have F5:=F4.trans a5 zr;obtain ⟨B5,ak,aq,al,ap,ao,aj⟩:=zk7 F5 B0 ac ae ad ab af aa;have G5:=fw.trans F5 zr);refine hK.out _ _ ⟨B5,ak,aq,al,ap,ao,aj⟩ (fun hZ=> ?_);clear hZ hK K;try simp only [Ae,zl]
 refine tkH 12 ⟨B5,ak,aq,al,ap,ao,aj⟩ (h:=?_);simp only [zl];refine oD ?_;go_simp;go_wp2_with fail
 go_ret
 exact ⟨by rw [<- ag.out];rfl,G5⟩
theorem Ax5 (base:Nat) (g:Gph) (w:World) (hg:GAt w base g):Fi w 99 #[.agg #[.pointer (some ⟨g.gb,0,none⟩)]] #[] (E3 g.pns) where
 enters:=enters_of func99 (by kernel_rfl) rfl
 tells x y v hf hx hy:=Ax4 base g x y v (hg.fr hf) hx hy
theorem Ax6 (base:Nat) (g:Gph) (B n c:Nat) (A:Option Addr) (ids:List Id) (w:World) (hg:GAt w base g) (hn:Hid (ids.length=n)) (hr:Rd w B 3 A n (ids.flatMap Id.cells)) (h14:n<=14) (hok:∀x∈ids,x.ok) (hnd:ids.Nodup):
  Calls zp 90 #[.pointer (some ⟨g.gb,0,none⟩),.slice A n c] w (Eo (Dp g.pns ids) w):=by
 have kl:=lh (M6 B n c A _ w hr (Id.cells_one ids) (by omega))
 have ks:Hid (∀(A':Option Addr) (c':Nat) (w':World),Own w' w.heap.size 48 3 A' n c' (ids.flatMap Id.cells)->Fr Non w w'->Calls zp 125 #[.slice A' n c',.func (.func 99) #[.agg #[.pointer (some ⟨g.gb,0,none⟩)]] #[]] w' fun e w''=>e=.returned (.tuple #[])/\Own w'' w.heap.size 48 3 A' n c' ((Dp g.pns ids).flatMap Id.cells)/\Fr Non w w''):=by
  intro A' c' w' ho hf;have hsz:ids.toArray.size=n:=by rw [List.size_toArray];exact hn.out
  have hS:Srt w w' w.heap.size A' c' ids.toArray:=⟨by rw [hsz];exact ho,hf,hok,A09 _⟩;refine (Aw8 w w.heap.size c' A' ids.toArray n _ _ _ (E3 g.pns) w' (Ax5 base g w hg) hS hsz (by omega) h14 (Aw9 g.pns) (fun i j hi hj hne=>Ax0 g.pns hnd i j (by rw [hsz];exact hi) (by rw [hsz];exact hj) hne)).mono ?_;rintro e w'' ⟨h1,d',h2,h3,h4,h5⟩;have h6:=Ax1 h4 h3 h5;refine ⟨h1,?_,h2.fr⟩;have h7:=h2.own;rw [h6,h3,hsz] at h7;exact h7
 have hlen:Hid ((Dp g.pns ids).length=n):=by show _=_;rw [Aq7,hn.out]
 unfold Bf at kl;unfold Eo;rw [hlen.out];obtain ⟨GB,hGB⟩:=Aa g.gb;rw [hGB.out] at ks ⊢;clear hg hGB hr hok hnd hn hlen;generalize Dp g.pns ids=RS at*;go_enter func90,ntmps90
 go_wp2_with (first
  |(go_at_call 84;(with_reducible refine (kl.out).mono ?_);rintro _ w1 ⟨A1,c1,rfl,o1,f1⟩)
  |(go_at_call 125;(with_reducible refine (ks.out _ _ _ o1 f1).mono ?_);rintro _ w2 ⟨rfl,o2,f2⟩))
 go_ret
 exact ⟨A1,c1,rfl,o2,f2⟩
end Oq
end
namespace Oq
attribute [local go_sem] A07 A08
attribute [local go_sem ↓] Bo Dn
structure BsL where
 A:Option Addr
 c:Nat
 bs:List UInt8
def BsL.cell (x:BsL):Value:=.slice x.A x.bs.length x.c
theorem slBs:SlT zp 76 39 (.slice none 0 0) 1 24:=⟨underlying76,by kernel_rfl,rfl,by decide⟩
def Co (l:List Pn) (x:Id):Op:=match plc l x with|some i=>(match l[i]? with|some n=>n.o|none=>Op.zero)|none=>Op.zero
theorem Hx {l:List Pn} {x:Id} {i:Nat} {n:Pn} (h:plc l x=some i) (hn:l[i]? =some n):Co l x=n.o:=by unfold Co;rw [h];dsimp only;rw [hn]
def BsOwn (w:World) (base:Nat) (l:List BsL):Prop:=∀s∈l,RowLies w base 5 1 s.A s.bs.length s.c (s.bs.map Bv)
theorem BsOwn.keepT {S:Nat->Prop} {P:TypeId->Prop} {w w':World} {base:Nat} {l:List BsL} (h:BsOwn w base l) (hf:Fr S w w') (hS:Types S w P) (ht:¬P 5):BsOwn w' base l:=fun s hs=>(h s hs).keepT hf (hS.not ht)
theorem BsOwn.non {w w':World} {base:Nat} {l:List BsL} (h:BsOwn w base l) (hf:Fr Non w w'):BsOwn w' base l:=fun s hs=>(h s hs).non hf
def Ol (l:List Pn) (has:List Id) (w:World) (e:Ending) (w':World):Prop:=
 ∃(sl:List BsL) (A:Option Addr) (n c:Nat),e=.returned (.slice A n c)/\Hid (sl.length=n)/\Own w' w.heap.size 39 1 A n c (sl.map BsL.cell)/\Hid (BsOwn w' w.heap.size sl)/\Hid (sl.map BsL.bs=(Ao l has).map (fun x=>(Co l x).put))/\Fr Non w w'
theorem Ax7 {w:World} {b:Nat} {g:Gph} (hg:GAt w b g):∀x∈g.pns.map Pn.id,x.ok:=by
 intro x hx;unfold Gph.pns at hx;rw [List.map_map] at hx;obtain ⟨n,hn,rfl⟩:=List.mem_map.1 hx;exact (hg.node n hn).id
theorem Om {w:World} {b:Nat} {g:Gph} (hg:GAt w b g):∀m∈g.pns,m.o.ok:=by
 intro x hx;unfold Gph.pns at hx;obtain ⟨n,hn,rfl⟩:=List.mem_map.1 hx;exact (hg.node n hn).ok
theorem Ax8 {α:Type} (p:α->Bool) (l:List α) {k:Nat} {x:α} (h:l[k]? =some x):(l.take (k+1)).filter p=(l.take k).filter p++(if p x=true then [x] else []):=by
 rw [Dm h,A12];congr 1
 cases hp:p x<;>simp [hp]
theorem U1 (base B n c:Nat) (A:Option Addr) (r:Ad) (has:List Id) (w:World) (h:r.okAt w base) (hrows:Rows r.g.cards r.g.pns) (h14:r.g.pns.length<=14) (hn:Hid (has.length=n)) (hr:Rd w B 3 A n (has.flatMap Id.cells)) (hnm:n<=1000000):
  Calls zp 37 #[.pointer (some ⟨r.rb,0,none⟩),.slice A n c] w (Ol r.g.pns has w):=by
 have aq:(zp.info? 55).map (·.size)=some 27:=by kernel_rfl
 have ct:(zp.info? 48).map (·.size)=some 3:=by kernel_rfl
 have bq:w.cell? ⟨r.rb,0,none⟩=some (.pointer (some ⟨r.g.gb,0,none⟩)):=h.blk.cell 0;have ka:=lh (fun (w':World) (hf:Fr Non w w')=>Sx base r.g w' S3 (h.graph.fr hf));have al:=Ax7 h.graph;have bt:(Ak (r.g.pns.map Pn.id)).Nodup:=(Cf _).nodup_iff.2 hrows.nodup;have bv:(Ak (r.g.pns.map Pn.id)).length<=14:=by rw [Fc,A10];exact h14
 have aw:∀x∈Ak (r.g.pns.map Pn.id),x.ok:=fun x hx=>al x ((Cf _).mem_iff.1 hx)
 have ay:Hid (∀w',Fr Non w w'->Calls zp 25 #[.pointer (some ⟨r.g.gb,0,none⟩)] w' (Eo (Ak (r.g.pns.map Pn.id)) w')):=by
  intro w' cn;refine (ka.out w' cn).mono ?_;rintro e cp ⟨A5,c5,out,rfl,hp,hs,o5,f5⟩;obtain rfl:=Ie hs (Td rfl hp);exact ⟨A5,c5,rfl,o5,f5⟩
 obtain ⟨IS,bn⟩:=Aa (Ak (r.g.pns.map Pn.id));rw [bn.out] at ay bt bv aw;obtain ⟨NI,a8⟩:=Aa IS.length;rw [a8.out] at bv;have ko:=lh (fun (A':Option Addr) (c':Nat) (w':World) (hf:Fr Non w w') (hrd:Rd w' w'.heap.size 3 A' NI (IS.flatMap Id.cells))=>Ax6 base r.g w'.heap.size NI c' A' IS w' (h.graph.fr hf) a8 hrd bv aw bt);have bx:Hid (∀x∈Dp r.g.pns IS,x∈r.g.pns.map Pn.id):=fun x hx=>(Cf _).mem_iff.1 (by rw [bn.out];exact (Fe _ _).mem_iff.1 hx);have bd:(Dp r.g.pns IS).length=NI:=by rw [(Fe _ _).length_eq];exact a8.out
 have b8:Hid (Ao r.g.pns has=(Dp r.g.pns IS).filter (fun x=> !Bd has x)):=by show _=_;unfold Ao;rw [bn.out]
 have kO:=lh (fun (x:Id) (w':World) (hf:Fr Non w w') (hx:x.ok)=>Uc (l:=r.g.pns) x (h.graph.fr hf) rfl rfl hx);unfold K8 at kO;have kC:=lh (fun (x:Id) (w':World) (hf:Fr Non w w')=>Av2 B n c A has x w' hn (hr.fr hf zr) hnm);unfold Ag at kC;have ci:=lh (fun (x:Id) (hx:x∈r.g.pns.map Pn.id)=>hrows.placed hx);have bp:Hid (∀m∈r.g.pns,m.o.ok):=Om h.graph;have a7:Hid (∀(sl:List BsL) (A:Option Addr) (n c:Nat) (w':World),Hid (sl.length=n)->Own w' w.heap.size 39 1 A n c (sl.map BsL.cell)->Hid (BsOwn w' w.heap.size sl)->Hid (sl.map BsL.bs=(Ao r.g.pns has).map (fun x=>(Co r.g.pns x).put))->Fr Non w w'->Ol r.g.pns has w (.returned (.slice A n c)) w'):=fun sl A n c w' h1 h2 h3 h4 h5=>⟨sl,A,n,c,rfl,h1,h2,h3,h4,h5⟩;generalize Ol r.g.pns has w=POST at*;unfold Eo at ay ko;rw [a8.out] at ay;obtain ⟨RS,bh⟩:=Aa (Dp r.g.pns IS);rw [bh.out] at ko bx bd b8;rw [bd] at ko;obtain ⟨rb,b5⟩:=Aa r.rb;obtain ⟨gb,b7⟩:=Aa r.g.gb;rw [b5.out,b7.out] at bq;rw [b7.out] at ay ko kO;rw [b5.out];have a4:Hid (∀x∈r.g.pns.map Pn.id,x.ok):=al;generalize r.g.pns=l at*;clear h hr hn hnm ka al bt aw hrows h14;go_enter func37,ntmps37;go_upto_region 2 with (fail)
 have P0:=bq;have F0:Fr Non w w.drew:=(Fr.refl Non w).drew;refine wp_region_held_drew (S:=fun w'=>w'.cell? ⟨rb,0,none⟩=some (.pointer (some ⟨gb,0,none⟩))) (by kernel_rfl) P0 (fun hHeld=> ?_);clear hHeld;refine tkH 0 P0 (h:=tkH 1 P0 (h:=tkH 2 P0 (h:=tkH 3 P0 (h:=tkH 4 P0 (h:=tkH 5 P0 (h:=tkH 6 P0 (h:=tkH 7 P0 (h:=tkH 11 P0 (h:=?_)))))))));simp only [zl];refine oG 8 (fun K hK=> ?_);go_simp;go_wp2_with (go_at_call 25;(with_reducible refine (ay.out _ F0).mono ?_);rintro _ v1 ⟨A5,c5,rfl,b2,ax⟩;have F1:=F0.trans ax zr;have P1:=F1.cell P0 zq;have G1:=(Fr.refl Non w).trans F1 zr);refine hK.out _ _ P1 (fun hZ=> ?_);clear hZ hK K;try simp only [Ae,zl]
 refine oG 9 (fun K hK=> ?_);go_simp;go_wp2_with (go_at_call 90;(with_reducible refine (ko.out _ _ _ F1 b2.rd).mono ?_);rintro _ v2 ⟨A6,c6,rfl,b1,ai⟩;have F2:=F1.trans ai zr;have P2:=F2.cell P0 zq;have G2:=(Fr.refl Non w).trans F2 zr);refine hK.out _ _ P2 (fun hZ=> ?_);clear hZ hK K;try simp only [Ae,zl]
 refine tkH 10 P2 (h:=?_);simp only [zl];refine oD ?_;go_simp;have f2:=F2;have o6:=b1;generalize v2=w2 at*;clear P0 P1 P2 F0 F1 F2 ax ai b2 b1 ay ko;have ce:w.heap.size<=w2.heap.size:=f2.size;go_wp2_with fail
 go_loopw [5,21] (fun s v wr=>∃(i M cq:Nat) (Aq:Option Addr) (sl:List BsL),s=.slice Aq M cq/\v=.int .i64 (i:Int)/\i<=NI/\M<=i/\Hid (sl.length=M)/\Own wr w2.heap.size 39 1 Aq M cq (sl.map BsL.cell)/\Hid (BsOwn wr w.heap.size sl)/\Hid (sl.map BsL.bs=((RS.take i).filter (fun x=> !Bd has x)).map (fun x=>(Co l x).put))/\Fr Non w2 wr) (fun s v _=>NI-(intOf v).toNat)
 case atStart=>exact ⟨0,0,0,none,[],rfl,rfl,by omega,by omega,rfl,Own.nil _ _ _ _,fun s hs=>absurd hs A13,rfl,Fr.refl _ _⟩
 case round=>
 obtain ⟨i,M,cq,Aq,sl,rfl,rfl,hi,hM,ao,bc,be,ab,hf⟩:=hrel
 by_cases hin:i<NI
 case neg=>
  obtain rfl:i=NI:=by omega
  have hd:=lh (a7.out sl Aq M cq wr ao (bc.lower ce) be (by show _=_;rw [ab.out,b8.out,List.take_of_length_le (by rw [bd];exact A09 _)]) (f2.trans hf zr));clear a7 be ab bc;go_wp2_with fail;exact hd.out
 case pos=>
 obtain ⟨x,hx⟩:∃x,RS[i]? =some x:=⟨_,A02 (by rw [bd];exact hin)⟩;have bw:=bx.out x (A05 hx);obtain ⟨p,hp⟩:=Option.isSome_iff_exists.1 (ci.out x bw);obtain ⟨m,hm,cm⟩:=Bp hp;have b3:=Hx hp hm;obtain ⟨ba,oa,cj,_,k0,k1,k2⟩:=Id.at (o6.rd.fr hf zr) hx;have b4:x.ok:=a4.out x bw;obtain ⟨i1,i2,i3⟩:=ix i NI
 have e6:=iw ((i:Int)+1);have a5:=lh (Ax8 (fun x=> !Bd has x) RS hx);subst cj;have bl:=lh (fun (w':World) (h:Fr Non w2 w')=>kO.out x w' (f2.trans h zr) b4);have bi:=Blk.new wr 48 x.V;have fi:Fr Non wr (wr.alloc (.cells x.V 48)):=(Fr.refl Non wr).alloc _;have ck:w2.heap.size<=wr.heap.size:=hf.size
 have au:Hid (∀(y2:OpL) (is:Bool),((plc l x).isSome=is)->(∀i p,plc l x=some i->l[i]? =some p->y2.op=p.o)->is=true/\y2.op=Co l x/\y2.op.ok):=by
  intro y2 is h1 h2;have h3:=h2 p m hp hm;refine ⟨by rw [<- h1,hp];rfl,by rw [h3,b3],by rw [h3];exact bp.out m (A05 hm)⟩
 obtain ⟨ib,b9⟩:=Aa wr.heap.size;clear hx bw hp hm cm b3 b4;go_upto_region 5 with (fail)
 rw [b9.out] at bi;try rw [b9.out]
 generalize wr.alloc (.cells x.V 48)=w4 at*;have ad:=hf.trans fi zr;have P4:=(f2.trans ad zr).cell bq zq;have i0:cI w4 ib 0 x.b:=bi.cell 0;have j0:cI w4 ib 1 x.s:=bi.cell 1;have l0:cU w4 ib 2 x.u:=bi.cell 2;clear k0 k1 k2
 go_cut [8,9] from 25 to 33 (fun s1 s2 wc=>∃(qb:Nat) (y2:OpL),s1=.pointer (some ⟨qb,0,none⟩)/\s2=.bool true/\Blk wc qb 55 y2.cells/\Hid (y2.op=Co l x/\y2.op.ok)/\Hid (y2.lies wc w2.heap.size)/\Fr Non w4 wc)
 case first=>
  have P0:=P4;have I0:=i0;have J0:=j0;have K0:=l0;have F0:Fr Non w4 w4.drew:=(Fr.refl Non w4).drew;have G0:Fr Non w2 w4.drew:=ad.drew;refine wp_region_held_drew (S:=fun w'=>w'.cell? ⟨rb,0,none⟩=some (.pointer (some ⟨gb,0,none⟩))/\cI w' ib 0 x.b/\cI w' ib 1 x.s/\cU w' ib 2 x.u) (by kernel_rfl) ⟨P0,I0,J0,K0⟩ (fun hHeld=> ?_);clear hHeld;have uu:=aI P0 (aI I0 (aI J0 K0));refine tkH 0 uu (h:=tkH 1 uu (h:=tkH 2 uu (h:=tkH 3 uu (h:=tkH 4 uu (h:=?_)))));clear uu;simp only [zl];refine Ud 5 9 (by kernel_rfl) rfl rfl (by kernel_rfl) (by kernel_rfl) (fun K hK=> ?_) (fun K hK=> ?_)
  ·
   skip
   go_simp;go_wp2_with (go_at_call 41;(with_reducible refine (bl.out _ G0).mono ?_);rintro _ v1 ⟨y2,is,rfl,br,aj,ar,ax⟩;have F1:=F0.trans ax zr;obtain ⟨P1,I1,J1,K1⟩:=zk4 F1 P0 I0 J0 K0;have G1:=ad.trans F1 zr;have bf:=lh (ar.out.lower G0.size);obtain ⟨rfl,ap⟩:=au.out y2 is br.out aj.out;clear ar aj);refine hK.out _ _ ⟨P1,I1,J1,K1⟩ (fun hZ=> ?_);clear hZ hK K;try simp only [Ae,zl]
   refine tkH 6 ⟨P1,I1,J1,K1⟩ (h:=tkH 7 ⟨P1,I1,J1,K1⟩ (h:=tkH 8 ⟨P1,I1,J1,K1⟩ (h:=?_)));simp only [zl];refine oG 9 (fun K hK=> ?_);go_simp;have ai:Fr Non v1 (v1.alloc (.cells zO 55)):=(Fr.refl _ _).alloc _;have ac:=Blk.new v1 55 zO;have av:=lh (bf.out.non ai);have F2:=F1.trans ai zr;obtain ⟨P2,I2,J2,K2⟩:=zk4 F2 P0 I0 J0 K0;have G2:=ad.trans F2 zr;obtain ⟨qb,a2⟩:=Aa v1.heap.size;rw [a2.out] at ac ⊢;have ca:w4.heap.size<=qb:=by rw [<- a2.out];exact F1.size
   refine hK.out _ _ ⟨P2,I2,J2,K2⟩ (fun hZ=> ?_);clear hZ hK K;try simp only [Ae,zl]
   generalize v1.alloc (.cells zO 55)=v2 at*;have cd:=Cy (P:=zp) qb 55 (cs:=y2.cells) aq (old:=zO) rfl (Ex y2);refine oG 10 (fun K hK=> ?_);go_simp;have bz:=ac.setRow (cs:=y2.cells);have hz:=lh (av.out.keepP (Ub y2.cells) (Types.one ac) (by decide) (by decide) (by decide) (by decide) (by decide) (by decide) (by decide));have F3:Fr Non w4 (v2.setRow qb y2.cells):=F2.setRow (fun hh=>absurd hh (by omega)) _;obtain ⟨P3,I3,J3,K3⟩:=zk4 F3 P0 I0 J0 K0;have G3:=ad.trans F3 zr;refine hK.out _ _ ⟨P3,I3,J3,K3⟩ (fun hZ=> ?_);clear hZ hK K;try simp only [Ae,zl]
   refine tkH 11 ⟨P3,I3,J3,K3⟩ (h:=?_);simp only [zl];refine oD ?_;go_simp;go_wp2_with fail;go_meet;exact ⟨qb,y2,rfl,rfl,bz,ap,hz,F3⟩
  ·
   have F0:Fr Non w4 w4:=Fr.refl Non w4;have G0:=ad;go_simp;have ax:Fr Non w4 ((w4.alloc (.cells zO 55)).drew):=(((Fr.refl Non w4).alloc (.cells zO 55)).drew:Fr Non w4 _);have az:=(Blk.new w4 55 zO).drew;have F1:=F0.trans ax zr;obtain ⟨P1,I1,J1,K1⟩:=zk4 F1 P0 I0 J0 K0;have G1:=ad.trans F1 zr;obtain ⟨qb,a2⟩:=Aa w4.heap.size;rw [a2.out] at az ⊢;have ca:w4.heap.size<=qb:=by rw [<- a2.out];exact A09 _
   refine hK.out _ _ ⟨P1,I1,J1,K1⟩ (fun hZ=> ?_);clear hZ hK K;try simp only [Ae,zl]
   generalize (w4.alloc (.cells zO 55)).drew=v1 at*;refine oG 5 (fun K hK=> ?_);go_simp;go_wp2_with (go_at_call 41;(with_reducible refine (bl.out _ G1).mono ?_);rintro _ v2 ⟨y2,is,rfl,br,aj,ar,ai⟩;have F2:=F1.trans ai zr;obtain ⟨P2,I2,J2,K2⟩:=zk4 F2 P0 I0 J0 K0;have G2:=ad.trans F2 zr;have ac:=az.fr ai zq;have av:=lh (ar.out.lower G1.size);obtain ⟨rfl,ap⟩:=au.out y2 is br.out aj.out;clear ar aj);refine hK.out _ _ ⟨P2,I2,J2,K2⟩ (fun hZ=> ?_);clear hZ hK K;try simp only [Ae,zl]
   refine tkH 6 ⟨P2,I2,J2,K2⟩ (h:=tkH 7 ⟨P2,I2,J2,K2⟩ (h:=tkH 8 ⟨P2,I2,J2,K2⟩ (h:=?_)));simp only [zl];have cd:=Cy (P:=zp) qb 55 (cs:=y2.cells) aq (old:=zO) rfl (Ex y2);refine oG 10 (fun K hK=> ?_);go_simp;have bz:=ac.setRow (cs:=y2.cells);have hz:=lh (av.out.keepP (Ub y2.cells) (Types.one ac) (by decide) (by decide) (by decide) (by decide) (by decide) (by decide) (by decide));have F3:Fr Non w4 (v2.setRow qb y2.cells):=F2.setRow (fun hh=>absurd hh (by omega)) _;obtain ⟨P3,I3,J3,K3⟩:=zk4 F3 P0 I0 J0 K0;have G3:=ad.trans F3 zr;refine hK.out _ _ ⟨P3,I3,J3,K3⟩ (fun hZ=> ?_);clear hZ hK K;try simp only [Ae,zl]
   refine tkH 11 ⟨P3,I3,J3,K3⟩ (h:=?_);simp only [zl];refine oD ?_;go_simp;go_wp2_with fail;go_meet;exact ⟨qb,y2,rfl,rfl,bz,ap,hz,F3⟩
 case rest=>
 obtain ⟨qb,y,rfl,rfl,b0,aj,ar,f5⟩:=hcut;generalize wc=w5 at*;have bo:=ad.trans f5 zr;obtain ⟨x0,x1,x2⟩:=zk3 f5 i0 j0 l0;have bm:=lh (kC.out x w5 (f2.trans bo zr));have ah:=(bc.fr fi zr).fr f5 zr;have ak:=lh ((be.out.non fi).non f5);have b6:=Ci (P:=zp) qb 55 underlying55 rfl (cs:=y.cells) aq;have kp:=lh (fun (w':World) (h:Fr Non w5 w')=>Y9 y w' (ar.out.non h).at aj.out.2);unfold NewB at kp;obtain ⟨n5,a9⟩:=Aa y.op.put.length;rw [a9.out] at kp;have a6:Hid (y.op.put=(Co l x).put):=by show _=_;rw [aj.out.1]
 obtain ⟨PB,cg⟩:=Aa y.op.put;rw [cg.out] at kp a6 a9;obtain ⟨YC,cf⟩:=Aa y.cells;rw [cf.out] at b0 b6 kp;obtain ⟨HB,ch⟩:=Aa (Bd has x);rw [ch.out] at bm a5;clear kO kC bl P4 i0 j0 l0 bi fi ad f5 bc be au
 cases HB
 case true=>
  have aa:Hid (sl.map BsL.bs=((RS.take (i+1)).filter (fun x=> !Bd has x)).map (fun x=>(Co l x).put)):=by
   show _=_;rw [a5.out,ab.out];simp
  clear a5 ab;go_wp2_with (go_at_call 91;(with_reducible refine (bm.out).mono ?_);rintro _ w6 ⟨rfl,f6⟩);have a0:=bo.trans f6 zr;have af:=ah.fr f6 zr;have ae:=lh (ak.out.non f6);go_roundw
  case rel=>exact ⟨i+1,M,cq,Aq,sl,rfl,by go_num,by omega,by omega,ao,af,ae,aa,a0⟩
  case measure=>simp [intOf];omega
 case false=>
 have aa:Hid (∀z:BsL,z.bs=PB->(sl++[z]).map BsL.bs=((RS.take (i+1)).filter (fun x=> !Bd has x)).map (fun x=>(Co l x).put)):=by
  intro z hz;rw [a5.out,A11,A11,ab.out];simp [hz,a6.out]
 clear a5 ab;go_upto_region 7 with (go_at_call 91;(with_reducible refine (bm.out).mono ?_);rintro _ w6 ⟨rfl,f6⟩)
 have cb:=b0.fr f6 zq;have cr:=b6 w6 cb;have cc:=ah.cap;have af:=ah.fr f6 zr;have ae:=lh (ak.out.non f6);have a0:=bo.trans f6 zr
 go_wp2_with (first
  |(go_at_call 92;(with_reducible refine (kp.out _ f6).mono ?_);rintro _ w7 ⟨A7,c7,rfl,o7,f7⟩;have ag:=af.fr f7 zr;have bF:=Blk.new w7 39 #[.slice A7 n5 c7];have cu:=(a0.trans f7 zr).size)
  |(at_builtin;go_loud (refine Ba (base:=w2.heap.size) (.tmp 41) (.tmp 44) 76 rfl rfl rfl rfl slBs (ag.alloc (.cells #[.slice A7 n5 c7] 39)) (Rd.blk (n:=1) (size:=1) bF rfl) (by simp [Value.oneCell']) (by omega) (by omega) (by rw [A04];omega) ?_);intro A8 c8 w8 a1 bb bj))
 have fa:Fr Non w7 (w7.alloc (.cells #[.slice A7 n5 c7] 39)):=(Fr.refl Non w7).alloc _;have co:=(a0.trans f7 zr).trans fa zr;have cl:Fr Non w2 w8:=co.trans bb (fun k hk e=>by have:=(ag.row k e).1;omega);have bg:Types (fun k=>Ac Aq=some k) (w7.alloc (.cells #[.slice A7 n5 c7] 39)) (fun t=>t=39):=fun k cs t fr hk e=>Own.typed (ag.alloc (.cells #[.slice A7 n5 c7] 39)) hk e
 have bu:Hid (BsOwn w8 w.heap.size (sl++[⟨A7,c7,PB⟩])):=by
  intro s hs
  rcases List.mem_append.1 hs with h|h
  · exact (((ae.out s h).non f7).non fa).keepT bb (bg.not (by decide))
  ·
   rw [List.mem_singleton.1 h];have h9:=((RowAt.of_own o7).lies.non fa).keepT bb (bg.not (by decide));rw [<- a9.out] at h9;exact h9.lower (f2.trans a0 zr).size
 have h1:Hid ((sl++[(⟨A7,c7,PB⟩:BsL)]).length=M+1):=by show _=_;rw [List.length_append,ao.out];rfl
 have bk:Own w8 w2.heap.size 39 1 A8 (M+1) c8 ((sl++[(⟨A7,c7,PB⟩:BsL)]).map BsL.cell):=by
  rw [A11,List.map_cons,List.map_nil];show Own _ _ _ _ _ _ _ (_++[Value.slice A7 PB.length c7]);rw [a9.out];exact a1
 have a3:=lh (aa.out ⟨A7,c7,PB⟩ rfl);clear a1 bb bj o7 ag af ah ae ak aa bg kp;go_roundw
 case rel=>exact ⟨i+1,M+1,c8,A8,_,rfl,by go_num,by omega,by omega,h1,bk,bu,a3,cl⟩
 case measure=>simp [intOf];omega
end Oq
namespace Oq
theorem Le {cards:List Cd} {l mr:List Pn} (hl:Rows cards l) (hr:Rows cards mr) (ham:Dh l mr) {x:Id} (hx:x∈mr.map Pn.id):∃(p:Nat) (n:Pn),plc l x=some p/\l[p]? =some n/\n.id=x/\Co mr x=n.o:=by
 obtain ⟨n',hn',rfl⟩:=List.mem_map.1 hx;obtain ⟨i,hi⟩:=A01 hn';obtain ⟨n,hn,e⟩:=ham n' hn';obtain ⟨p,hp⟩:=A01 hn;have k1:=(hl.ok p n hp).plc;have e2:n.id=n'.id:=by rw [(hl.ok p n hp).id,(hr.ok i n' hi).id,e]
 rw [e2] at k1;exact ⟨p,n,k1,hp,e2,by rw [Hx (hr.ok i n' hi).plc hi,e]⟩
def Be (l:List Pn) (x:Id):Nat:=(plc l x).getD 0
theorem Lf {cards:List Cd} {l mr m:List Pn} {C:List Op} (hl:Rows cards l) (hlen:l.length<200) (hr:Rows cards mr) (ham:Dh l mr) (hI:Av cards l C m []) {has:List Id} (hhas:∀x,x∈has<->x∈m.map Pn.id):
  (∀(k:Nat) (x:Id),(Ao mr has)[k]? =some x->∃n,l[Be l x]? =some n/\n.id=x/\Co mr x=n.o)/\
  ∀k,k<=(Ao mr has).length->∃(mk:List Pn) (Ck:List Op),Av cards l Ck mk []/\mk.length=m.length+k/\(∀o,o∈Ck<->o∈C\/∃(j:Nat) (x:Id),j<k/\(Ao mr has)[j]? =some x/\o=Co mr x)/\
   (Bj cards l (((Ao mr has).map (Be l)).take k) (m,[])=(mk,[]))/\∀x,(Ao mr has)[k]? =some x->Bl cards (mk,[]) (Co mr x)=(0,(mk++[Aw mk (Co mr x)],[])):=by
 have aa:∀(k:Nat) (x:Id),(Ao mr has)[k]? =some x->∃n,plc l x=some (Be l x)/\l[Be l x]? =some n/\n.id=x/\Co mr x=n.o:=by
  intro k x hk;obtain ⟨p,n,h1,h2,h3,h4⟩:=Le hl hr ham (forIds_mem.1 (A05 hk)).1;have e:Be l x=p:=by unfold Be;rw [h1];rfl
  exact ⟨n,by rw [e];exact h1,by rw [e];exact h2,h3,h4⟩
 have ab:∀(k p:Nat),((Ao mr has).map (Be l))[k]? =some p->∃x,(Ao mr has)[k]? =some x/\Be l x=p:=by
  intro k p hk;rw [A06] at hk;exact Option.map_eq_some_iff.1 hk
 have af:∀p∈(Ao mr has).map (Be l),p<l.length:=by
  intro p hp;obtain ⟨x,hx,rfl⟩:=List.mem_map.1 hp;obtain ⟨k,hk⟩:=A01 hx;obtain ⟨n,_,h2,_⟩:=aa k x hk;exact (List.getElem?_eq_some_iff.1 h2).1
 have ak:((Ao mr has).map (Be l)).Nodup:=by
  rw [List.Nodup,A14];refine (Ur hr has).imp_of_mem (fun {a b} ha hb hab e=>hab ?_);obtain ⟨i,hi⟩:=A01 ha;obtain ⟨j,hj⟩:=A01 hb;obtain ⟨n,_,h2,h3,_⟩:=aa i a hi;obtain ⟨n',_,ag,aj,_⟩:=aa j b hj;rw [e,ag] at h2;injection h2 with h2
  rw [<- h3,<- aj,h2]
 have ae:∀o∈C,o.name∈has:=by
  intro o ho;rw [hhas]
  rcases List.mem_append.1 (hI.perm.mem_iff.2 ho) with h1|h1
  ·
   obtain ⟨n,hn,rfl⟩:=List.mem_map.1 h1;obtain ⟨i,hi⟩:=A01 hn;rw [<- (hI.rm.ok i n hi).id];exact A03 hn
  · cases h1
 have ac:∀x∈has,∃o∈C,o.name=x:=by
  intro x hx;obtain ⟨n,hn,rfl⟩:=List.mem_map.1 ((hhas x).1 hx);obtain ⟨i,hi⟩:=A01 hn;exact ⟨n.o,hI.perm.mem_iff.1 (A15 _ (A03 hn)),(hI.rm.ok i n hi).id.symm⟩
 have al:=Au7 (ps:=(Ao mr has).map (Be l)) hI hlen af ak (by
  intro p hp n hn hc;obtain ⟨x,hx,rfl⟩:=List.mem_map.1 hp;obtain ⟨k,hk⟩:=A01 hx;obtain ⟨n',_,h2,h3,_⟩:=aa k x hk;rw [hn] at h2;injection h2 with h2
  subst h2;have h4:=ae _ hc;rw [<- (hl.ok _ n hn).id,h3] at h4;exact (forIds_mem.1 hx).2 h4) (by
  intro k p n hk hn id ah;obtain ⟨x,hx,rfl⟩:=ab k p hk;obtain ⟨n',_,h2,h3,h4⟩:=aa k x hx;rw [hn] at h2;injection h2 with h2
  subst h2;obtain ⟨i,hi⟩:=Option.isSome_iff_exists.1 (hr.placed (forIds_mem.1 (A05 hx)).1);obtain ⟨ai,ad,ao⟩:=Bp hi;have e3:ai.o=n.o:=by rw [<- h4,Hx hi ad]
  rcases Au9 hr hx hi ad (id:=id) (by rw [e3];exact ah) with h5|⟨j,hj,h5⟩
  · exact .inl (ac id h5)
  ·
   obtain ⟨n3,_,g2,g3,_⟩:=aa j id h5;exact .inr ⟨j,Be l id,n3,hj,by rw [A06,h5];rfl,g2,g3⟩)
 refine ⟨fun k x hk=>by obtain ⟨n,_,h2,h3,h4⟩:=aa k x hk;exact ⟨n,h2,h3,h4⟩,fun k hk=> ?_⟩;obtain ⟨mk,Ck,g1,g2,g3,g4,g5⟩:=al k (by rw [A10];exact hk);refine ⟨mk,Ck,g2,g3,fun o=> ?_,g1,fun x hx=> ?_⟩
 ·
  rw [g4];refine or_congr_right ⟨fun ⟨j,q,n',hj,h1,h2,e⟩=> ?_,fun ⟨j,x,hj,h1,e⟩=> ?_⟩
  ·
   obtain ⟨x,hx,rfl⟩:=ab j q h1;obtain ⟨n2,_,h3,_,h4⟩:=aa j x hx;rw [h2] at h3;injection h3 with h3
   exact ⟨j,x,hj,hx,by rw [e,h4,h3]⟩
  ·
   obtain ⟨n2,_,h3,_,h4⟩:=aa j x h1;exact ⟨j,Be l x,n2,hj,by rw [A06,h1];rfl,h3,by rw [e,h4]⟩
 ·
  obtain ⟨n2,_,h3,_,h4⟩:=aa k x hx;rw [h4];exact g5 (Be l x) n2 (by rw [A06,hx];rfl) h3
def As (l:List Pn) (ns:List Id) (k:Nat):List Nat:=(List.range k).filter (fun i=>Bd ns (nmP l i))
theorem On (l:List Pn) (ns:List Id) (k:Nat):As l ns (k+1)=As l ns k++(if Bd ns (nmP l k)=true then [k] else []):=by
 unfold As;rw [List.range_succ,A12];congr 1
 cases h:Bd ns (nmP l k)<;>simp [h]
theorem Oo {cards:List Cd} {l:List Pn} {on ys:List Nat} {ns:List Id} (h:Rows cards l) (hlen:l.length<200) (hb:Ft l on ys) (hy:∀q∈ys,q<l.length) (hp:ns.Perm (ys.map (nmP l))):
  ∃(C:List Op) (m:List Pn),Bj cards l (As l ns l.length) ([],[])=(m,[])/\Av cards l C m []/\(∀x,x∈m.map Pn.id<->x∈ns)/\m.length=ns.length/\∀p∈As l ns l.length,p<l.length:=by
 have ae:∀p∈As l ns l.length,p<l.length:=fun p hp=>List.mem_range.1 (List.mem_filter.1 hp).1
 have ad:∀(p:Nat) (n:Pn),l[p]? =some n->(p∈As l ns l.length<->p∈ys):=by
  intro p n hn;unfold As;rw [List.mem_filter,List.mem_range,E9,Cv hn,hp.mem_iff];constructor
  ·
   rintro ⟨_,h2⟩;obtain ⟨q,hq,e⟩:=List.mem_map.1 h2;have aa:=A02 (hy q hq);rw [Cv aa] at e;have k1:=(h.ok q _ aa).plc;rw [e,(h.ok p n hn).plc] at k1;injection k1 with k1
   rw [k1];exact hq
  ·
   intro h2;exact ⟨(List.getElem?_eq_some_iff.1 hn).1,by rw [<- Cv hn];exact A03 h2⟩
 obtain ⟨C,h1,h2,h3⟩:=Nq hlen (As l ns l.length) ([],[]) [] (Av.start h) (fun o ho=>absurd ho A13) ae
 have ak:(Bj cards l (As l ns l.length) ([],[])).2=[]:=by
  refine h1.closed h2 (fun o ho id hid=> ?_)
  rcases (h3 o).1 ho with h4|⟨p,hpp,n,hn,rfl⟩
  · cases h4
  ·
   obtain ⟨r,hr,ai⟩:=(h.ok p n hn).par id hid;obtain ⟨n2,ac,e2⟩:=Bp ai;have ah:n.ps r=true:=((h.ok p n hn).ps r).2 ⟨id,hid,r,n2,ai,ac,.inl rfl⟩
   have ao:r∈ys:=by
    refine (hb.2 r).2 (.inr ?_)
    rcases (hb.2 p).1 ((ad p n hn).1 hpp) with h5|⟨q,hq,h5⟩
    · exact ⟨p,h5,by unfold inP;rw [hn];exact ah⟩
    ·
     refine ⟨q,hq,?_⟩;unfold inP at h5 ⊢
     cases aa:l[q]? with
     |none=>rw [aa] at h5;cases h5
     |some nq=>
      rw [aa] at h5;exact h.trans q aa h5 hn ah
   exact ⟨n2.o,(h3 n2.o).2 (.inr ⟨r,(ad r n2 ac).2 ao,n2,ac,rfl⟩),by rw [<- (h.ok r n2 ac).id,e2]⟩
 generalize Bj cards l (As l ns l.length) ([],[])=s at*;obtain ⟨m,ws⟩:=s;dsimp only at*;subst ak
 have ab:∀x,x∈m.map Pn.id<->x∈ns:=by
  intro x
  have e1:x∈m.map Pn.id<->∃o∈C,o.name=x:=by
   constructor
   ·
    intro hx;obtain ⟨n,hn,rfl⟩:=List.mem_map.1 hx;obtain ⟨i,hi⟩:=A01 hn;exact ⟨n.o,h1.perm.mem_iff.1 (A15 _ (A03 hn)),(h1.rm.ok i n hi).id.symm⟩
   ·
    rintro ⟨o,ho,rfl⟩
    rcases List.mem_append.1 (h1.perm.mem_iff.2 ho) with h4|h4
    ·
     obtain ⟨n,hn,rfl⟩:=List.mem_map.1 h4;obtain ⟨i,hi⟩:=A01 hn;rw [<- (h1.rm.ok i n hi).id];exact A03 hn
    · cases h4
  rw [e1,hp.mem_iff,List.mem_map];constructor
  ·
   rintro ⟨o,ho,rfl⟩
   rcases (h3 o).1 ho with h4|⟨p,hpp,n,hn,rfl⟩
   · cases h4
   · exact ⟨p,(ad p n hn).1 hpp,by rw [Cv hn,(h.ok p n hn).id]⟩
  ·
   rintro ⟨q,hq,rfl⟩;have aa:=A02 (hy q hq);exact ⟨_,(h3 _).2 (.inr ⟨q,(ad q _ aa).2 hq,_,aa,rfl⟩),by rw [Cv aa,(h.ok q _ aa).id]⟩
 have al:ns.Nodup:=by
  refine hp.nodup_iff.2 ?_;rw [List.Nodup,A14];refine hb.1.imp_of_mem (fun {a b} ha hb' hab e=>hab ?_);have af:=A02 (hy a ha);have ag:=A02 (hy b hb');rw [Cv af,Cv ag] at e;have k1:=(h.ok a _ af).plc;have k2:=(h.ok b _ ag).plc;rw [e,k2] at k1;injection k1 with k1
  exact k1.symm
 refine ⟨C,m,rfl,h1,ab,?_,ae⟩;have aj:(m.map Pn.id).Perm ns:=(List.perm_ext_iff_of_nodup h1.rm.nodup al).2 ab;have:=aj.length_eq;rwa [A10] at this
end Oq
namespace Sg
end Sg
namespace Oq
end Oq
namespace Oq
attribute [local go_sem] A07 A08
attribute [local go_sem ↓] Bo Dn
end Oq
namespace Oq
end Oq
end Go.Proofs.YtgbdljlapmjmnaaGreatDoor
