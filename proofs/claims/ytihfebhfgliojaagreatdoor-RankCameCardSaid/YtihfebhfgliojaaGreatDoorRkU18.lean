/-
  Contracts of the functions that the claim's statement reaches, walked one by one (part 18).
  Conditions: as each theorem says.
-/
import Derived.ControlIn
import Derived.Test.YtihfebhfgliojaaGreatDoorRkU17
set_option maxRecDepth 100000
set_option maxHeartbeats 16000000
open Bool renaming not_false->Ay1,not_true->Ay2,and_eq_true->Ay3,false_ne_true->Ay4
open List renaming getElem?_eq_getElem->Ax3,mem_of_getElem?->Ax5,getElem?_map->Ax6,length_append->Ax8,take_of_length_le->Ay5,take_length->Ay7,map_append->Ay8,filter_append->Ay9,filter_nil->Az0,length_map->Az1,foldl_append->Az2,length_singleton->Az3,getElem?_eq_none->Az5,mem_of_mem_take->Az6,contains_iff_mem->Az7,size_toArray->Az8,mem_cons_self->Az9,filter_cons_of_pos->A00,filter_cons_of_neg->A01,getElem?_of_mem->A02,append_assoc->A03,getElem?_cons_succ->A05,mem_of_mem_drop->A06,length_drop->A07,length_take->A08
open Nat renaming le_refl->Ax4,zero_le->Ax9,le_trans->Ay0
open Go.World renaming size_alloc->Ax7,putObj_heap_other->Ay6,putObj_heap_same->Az4,alloc_heap_new->A04
open Go.Proofs.Tryz
open Go.Proofs.Tryz renaming prog->zp
open Go.Lib renaming hid->lh
open List renaming set->zl
open Go.Ending renaming returned->ze
namespace Go.Proofs.YtihfebhfgliojaaGreatDoor
open Go.RowKit
attribute [local go_sem ↓] Go.wp_at_zero Go.wp_at_succ
section
open Go.RowKit Go.Sort
namespace Oq
attribute [local go_sem] Ay1 Ay2
theorem Tx (base:Nat) (g:Gph) (x y:Id) (w:World) (hg:GAt w base g) (hx:x.ok) (hy:y.ok):
  Calls zp 83 #[.agg #[.pointer (some ⟨g.gb,0,none⟩)],.agg x.V,.agg y.V] w fun e w'=>e=.returned (.int .i64 (Em g.pns x y))/\Fr Non w w':=by
 have kx:Hid (∀w',Fr Non w w'->Calls zp 72 #[.pointer (some ⟨g.gb,0,none⟩),.agg x.V] w' fun e w''=>e=.returned (.int .i64 (Aj g.pns x:Int))/\Fr Non w' w''):=fun w' hf=>by
  have:=Pp base g x w' (hg.fr hf) hx;rwa [g.level_eq] at this
 have ky:Hid (∀w',Fr Non w w'->Calls zp 72 #[.pointer (some ⟨g.gb,0,none⟩),.agg y.V] w' fun e w''=>e=.returned (.int .i64 (Aj g.pns y:Int))/\Fr Non w' w''):=fun w' hf=>by
  have:=Pp base g y w' (hg.fr hf) hy;rwa [g.level_eq] at this
 have ag:=lh (Ap6 g.pns x y);have k1:=lh (fun w'=>Lt x y w');have k2:=lh (fun w'=>Lt y x w');unfold Ag at k1 k2;obtain ⟨GB,ao⟩:=Aa g.gb;rw [ao.out] at kx ky ⊢;clear hg ao hx hy;generalize Aj g.pns x=LX at*;generalize Aj g.pns y=LY at*;generalize Em g.pns x y=R at*;generalize Id.less x y=BX at*;generalize Id.less y x=BY at*;have kc:Hid (∀w',Calls zp 138 #[.int .i64 (LX:Int),.int .i64 (LY:Int)] w' fun e w''=>e=.returned (.int .i64 (Bs (LX:Int) (LY:Int)))/\Fr Non w' w''):=fun w'=>(O4 _ _ w').mono fun _ _ h=>⟨h.1,h.2▸Fr.refl _ _⟩;have ko:Hid (∀(a b:Int) (k:Nat) w',Blk w' k 3 #[.int .i64 a,.int .i64 b]->Calls zp 137 #[.slice (some ⟨k,0,none⟩) 2 2] w' fun e w''=>e=.returned (.int .i64 (E9 a b))/\Fr Non w' w''):=fun a b k w' hk=>(Ap5 a b k w' hk).mono fun _ _ h=>⟨h.1,h.2▸Fr.refl _ _⟩;generalize Bs (LX:Int) (LY:Int)=CC at*;have bg:=((Blk.new w 136 #[.pointer (some ⟨GB,0,none⟩)]).alloc (.cells x.V 38)).alloc (.cells y.V 38);have ba:=(Blk.new (w.alloc (.cells #[.pointer (some ⟨GB,0,none⟩)] 136)) 38 x.V).alloc (.cells y.V 38);have bb:=Blk.new ((w.alloc (.cells #[.pointer (some ⟨GB,0,none⟩)] 136)).alloc (.cells x.V 38)) 38 y.V;rw [Ax7] at ba;rw [Ax7,Ax7] at bb;have f0:Fr Non w (((w.alloc (.cells #[.pointer (some ⟨GB,0,none⟩)] 136)).alloc (.cells x.V 38)).alloc (.cells y.V 38)):=(((Fr.refl Non w).alloc _).alloc _).alloc _;have r0:=bg.cell 0;have a0:=ba.cell 0;have a1:=ba.cell 1;have a2:=ba.cell 2;have b0:=bb.cell 0;have b1:=bb.cell 1;have b2:=bb.cell 2;clear bg ba bb;go_enter func83,ntmps83;go_upto_region 1 with (fail)
 generalize ((w.alloc (.cells #[.pointer (some ⟨GB,0,none⟩)] 136)).alloc (.cells x.V 38)).alloc (.cells y.V 38)=w0 at*;change w0.cell? ⟨w.heap.size,0,none⟩=some (.pointer (some ⟨GB,0,none⟩)) at r0;change w0.cell? ⟨w.heap.size+1,0,none⟩=some (.int .i64 x.b) at a0;change w0.cell? ⟨w.heap.size+1,1,none⟩=some (.int .i64 x.s) at a1;change w0.cell? ⟨w.heap.size+1,2,none⟩=some (.int .u64 (x.u:Int)) at a2;change w0.cell? ⟨w.heap.size+1+1,0,none⟩=some (.int .i64 y.b) at b0;change w0.cell? ⟨w.heap.size+1+1,1,none⟩=some (.int .i64 y.s) at b1;change w0.cell? ⟨w.heap.size+1+1,2,none⟩=some (.int .u64 (y.u:Int)) at b2;obtain ⟨V,hV⟩:=Aa (if BX=true then (-1:Int) else if BY=true then 1 else 0);rw [hV.out] at ag
 go_upto_block 0 with (fail)
 go_cut [7] from 8 to 15 (fun s wc=>s=.int .i64 V/\Fr Non w0 wc)
 case first=>
  cases BX
  case true=>
   go_wp2_with (go_at_call 116;(with_reducible refine (k1.out _).mono ?_);rintro _ w1 ⟨rfl,f1⟩);go_meet;exact ⟨congrArg _ hV.out,f1⟩
  case false=>
   have ah:Hid (∀v,Fr Non w0 v->cI v (w.heap.size+1) 0 x.b/\cI v (w.heap.size+1) 1 x.s/\cU v (w.heap.size+1) 2 x.u/\cI v (w.heap.size+1+1) 0 y.b/\cI v (w.heap.size+1+1) 1 y.s/\cU v (w.heap.size+1+1) 2 y.u):=fun v hf=>⟨hf.cell a0 zq,hf.cell a1 zq,hf.cell a2 zq,hf.cell b0 zq,hf.cell b1 zq,hf.cell b2 zq⟩
   cases BY
   all_goals
    go_wp2_with (first
     |(go_at_call 116;(with_reducible refine (k1.out _).mono ?_);rintro _ w1 ⟨rfl,f1⟩;obtain ⟨a0,a1,a2,b0,b1,b2⟩:=ah.out _ f1)
     |(go_at_call 116;(with_reducible refine (k2.out _).mono ?_);rintro _ w2 ⟨rfl,f2⟩))
    go_meet;exact ⟨congrArg _ hV.out,f1.trans f2 zr⟩
 case rest=>
 obtain ⟨rfl,fc⟩:=hcut;clear hV k1 k2;have fw:=f0.trans fc zr;obtain ⟨B0,ab,ad,ae,aa,af,ac⟩:=zk7 fc r0 a0 a1 a2 b0 b1 b2;clear r0 a0 a1 a2 b0 b1 b2;go_upto_region 6 with (fail)
 have F0:Fr Non wc wc.drew:=(Fr.refl Non wc).drew;have G0:Fr Non w wc.drew:=fw.drew;refine wp_region_held_drew (S:=fun w'=>w'.cell? ⟨w.heap.size,0,none⟩=some (.pointer (some ⟨GB,0,none⟩))/\cI w' (w.heap.size+1) 0 x.b/\cI w' (w.heap.size+1) 1 x.s/\cU w' (w.heap.size+1) 2 x.u/\cI w' (w.heap.size+1+1) 0 y.b/\cI w' (w.heap.size+1+1) 1 y.s/\cU w' (w.heap.size+1+1) 2 y.u) (by kernel_rfl) ⟨B0,ab,ad,ae,aa,af,ac⟩ (fun hHeld=> ?_);clear hHeld;have uu:=aI B0 (aI ab (aI ad (aI ae (aI aa (aI af ac)))));refine tkH 0 uu (h:=tkH 1 uu (h:=tkH 2 uu (h:=tkH 4 uu (h:=tkH 5 uu (h:=tkH 6 uu (h:=tkH 9 uu (h:=?_)))))));clear uu;simp only [zl];refine oG 3 (fun K hK=> ?_);go_simp;go_wp2_with (go_at_call 72;(with_reducible refine (kx.out _ G0).mono ?_);rintro _ v1 ⟨rfl,bj⟩;have F1:=F0.trans bj zr;obtain ⟨B1,ar,bq,bm,a4,bs,az⟩:=zk7 F1 B0 ab ad ae aa af ac;have G1:=fw.trans F1 zr);refine hK.out _ _ ⟨B1,ar,bq,bm,a4,bs,az⟩ (fun hZ=> ?_);clear hZ hK K;try simp only [Ac,zl]
 refine oG 7 (fun K hK=> ?_);go_simp;go_wp2_with (go_at_call 72;(with_reducible refine (ky.out _ G1).mono ?_);rintro _ v2 ⟨rfl,bn⟩;have F2:=F1.trans bn zr;obtain ⟨B2,aw,bl,bd,a3,bc,bp⟩:=zk7 F2 B0 ab ad ae aa af ac;have G2:=fw.trans F2 zr);refine hK.out _ _ ⟨B2,aw,bl,bd,a3,bc,bp⟩ (fun hZ=> ?_);clear hZ hK K;try simp only [Ac,zl]
 refine oG 8 (fun K hK=> ?_);go_simp;go_wp2_with (go_at_call 138;(with_reducible refine (kc.out _).mono ?_);rintro _ v3 ⟨rfl,be⟩;have F3:=F2.trans be zr;obtain ⟨B3,br,av,a6,ax,au,a8⟩:=zk7 F3 B0 ab ad ae aa af ac;have G3:=fw.trans F3 zr);refine hK.out _ _ ⟨B3,br,av,a6,ax,au,a8⟩ (fun hZ=> ?_);clear hZ hK K;try simp only [Ac,zl]
 refine oG 10 (fun K hK=> ?_);go_simp;have bi:=Blk.new v3 3 #[.int .i64 CC,.int .i64 V];have a7:Fr Non v3 (v3.alloc (.cells #[.int .i64 CC,.int .i64 V] 3)):=(Fr.refl _ _).alloc _;have F4:=F3.trans a7 zr;obtain ⟨B4,bf,bh,a5,bo,a9,bk⟩:=zk7 F4 B0 ab ad ae aa af ac;have G4:=fw.trans F4 zr;refine hK.out _ _ ⟨B4,bf,bh,a5,bo,a9,bk⟩ (fun hZ=> ?_);clear hZ hK K;try simp only [Ac,zl]
 generalize v3.alloc (.cells #[.int .i64 CC,.int .i64 V] 3)=v4 at*;refine oG 11 (fun K hK=> ?_);go_simp;go_wp2_with (go_at_call 137;(with_reducible refine (ko.out _ _ _ _ bi).mono ?_);rintro _ v5 ⟨rfl,ay⟩;have F5:=F4.trans ay zr;obtain ⟨B5,ap,al,ai,ak,aq,aj⟩:=zk7 F5 B0 ab ad ae aa af ac;have G5:=fw.trans F5 zr);refine hK.out _ _ ⟨B5,ap,al,ai,ak,aq,aj⟩ (fun hZ=> ?_);clear hZ hK K;try simp only [Ac,zl]
 refine tkH 12 ⟨B5,ap,al,ai,ak,aq,aj⟩ (h:=?_);simp only [zl];refine oD ?_;go_simp;go_wp2_with fail
 go_ret
 exact ⟨by rw [<- ag.out];rfl,G5⟩
theorem Ap7 (base:Nat) (g:Gph) (x y:Id) (w:World) (hg:GAt w base g) (hx:x.ok) (hy:y.ok):
  Calls zp 33 #[.pointer (some ⟨g.gb,0,none⟩),.agg x.V,.agg y.V] w (Ag (Bg g.pns x y) w):=by
 have ba:=(Blk.new w 38 x.V).alloc (.cells y.V 38);have bb:=Blk.new (w.alloc (.cells x.V 38)) 38 y.V;rw [Ax7] at bb;have f0:Fr Non w ((w.alloc (.cells x.V 38)).alloc (.cells y.V 38)):=((Fr.refl Non w).alloc _).alloc _;have kc:=lh (fun (w':World) (hf:Fr Non w w')=>Tx base g x y w' (hg.fr hf) hx hy);have hlt:=lh (Gn g.pns x y);unfold Ab at hlt;obtain ⟨GB,hGB⟩:=Aa g.gb;rw [hGB.out] at kc ⊢;clear hg hGB hx hy;generalize Em g.pns x y=CC at*;generalize Bg g.pns x y=R at*;unfold Ag;have a0:=ba.cell 0;have a1:=ba.cell 1;have a2:=ba.cell 2;have b0:=bb.cell 0;have b1:=bb.cell 1;have b2:=bb.cell 2;clear ba bb;go_enter func33,ntmps33;go_upto_region 1 with (fail)
 generalize (w.alloc (.cells x.V 38)).alloc (.cells y.V 38)=w0 at*;change w0.cell? ⟨w.heap.size,0,none⟩=some (.int .i64 x.b) at a0;change w0.cell? ⟨w.heap.size,1,none⟩=some (.int .i64 x.s) at a1;change w0.cell? ⟨w.heap.size,2,none⟩=some (.int .u64 (x.u:Int)) at a2;change w0.cell? ⟨w.heap.size+1,0,none⟩=some (.int .i64 y.b) at b0;change w0.cell? ⟨w.heap.size+1,1,none⟩=some (.int .i64 y.s) at b1;change w0.cell? ⟨w.heap.size+1,2,none⟩=some (.int .u64 (y.u:Int)) at b2;go_wp2_with (go_at_call 83;(with_reducible refine (kc.out _ f0).mono ?_);rintro _ w1 ⟨rfl,f1⟩)
 go_ret
 exact ⟨by rw [<- hlt.out];rfl,f0.trans f1 zr⟩
theorem Ap8 (base:Nat) (g:Gph) (w:World) (hg:GAt w base g):E8 w 83 #[.agg #[.pointer (some ⟨g.gb,0,none⟩)]] #[] (Em g.pns) where
 enters:=enters_of func83 (by kernel_rfl) rfl
 tells x y v hf hx hy:=Tx base g x y v (hg.fr hf) hx hy
theorem N5 (base:Nat) (g:Gph) (B n c:Nat) (A:Option Addr) (ids:List Id) (w:World) (hg:GAt w base g) (hn:Hid (ids.length=n)) (hr:Rd w B 3 A n (ids.flatMap Id.cells)) (h14:n<=14) (hok:∀x∈ids,x.ok) (hnd:ids.Nodup):
  Calls zp 27 #[.pointer (some ⟨g.gb,0,none⟩),.slice A n c] w (Bp (Af g.pns ids) w):=by
 have kl:=lh (Mw B n c A _ w hr (Id.cells_one ids) (by omega))
 have ks:Hid (∀(A':Option Addr) (c':Nat) (w':World),Own w' w.heap.size 38 3 A' n c' (ids.flatMap Id.cells)->Fr Non w w'->Calls zp 82 #[.slice A' n c',.func (.func 83) #[.agg #[.pointer (some ⟨g.gb,0,none⟩)]] #[]] w' fun e w''=>e=.returned (.tuple #[])/\Own w'' w.heap.size 38 3 A' n c' ((Af g.pns ids).flatMap Id.cells)/\Fr Non w w''):=by
  intro A' c' w' ho hf;have hsz:ids.toArray.size=n:=by rw [Az8];exact hn.out
  have hS:Srt w w' w.heap.size A' c' ids.toArray:=⟨by rw [hsz];exact ho,hf,hok,Ax4 _⟩;refine (Ap1 w w.heap.size c' A' ids.toArray n _ _ _ (Em g.pns) w' (Ap8 base g w hg) hS hsz (by omega) h14 (Ap2 g.pns) (fun i j hi hj hne=>Ap3 g.pns hnd i j (by rw [hsz];exact hi) (by rw [hsz];exact hj) hne)).mono ?_;rintro e w'' ⟨h1,d',h2,h3,h4,h5⟩;have h6:=Ap4 h4 h3 h5;refine ⟨h1,?_,h2.fr⟩;have h7:=h2.own;rw [h6,h3,hsz] at h7;exact h7
 have hlen:Hid ((Af g.pns ids).length=n):=by show _=_;rw [E7,hn.out]
 unfold Bf at kl;unfold Bp;rw [hlen.out];obtain ⟨GB,hGB⟩:=Aa g.gb;rw [hGB.out] at ks ⊢;clear hg hGB hr hok hnd hn hlen;generalize Af g.pns ids=RS at*;go_enter func27,ntmps27
 go_wp2_with (first
  |(go_at_call 81;(with_reducible refine (kl.out).mono ?_);rintro _ w1 ⟨A1,c1,rfl,o1,f1⟩)
  |(go_at_call 82;(with_reducible refine (ks.out _ _ _ o1 f1).mono ?_);rintro _ w2 ⟨rfl,o2,f2⟩))
 go_ret
 exact ⟨A1,c1,rfl,o2,f2⟩
end Oq
end
namespace Oq
theorem Ap9 {cards:List Cd} {o:Op} (h:An cards [] o=0):o.kind=1:=by
 have T:=G9 h;refine (Kq T.chk).1 ?_
 cases hp:o.past with
 |nil=>rfl
 |cons x r=>
  obtain ⟨i,hi⟩:=T.past x (by rw [hp];exact Az9);simp [plc] at hi
theorem inR_iff {n lo hi:Int}:inR n lo hi=true<->lo<=n/\n<=hi:=by
 unfold inR;rw [Ay3,decide_eq_true_iff,decide_eq_true_iff]
theorem Ty {o:Op} (h:o.chk=0):1<=o.by_/\(o.kind=2->1<=o.dev)/\(o.kind=13->1<=o.dev):=by
 have hn:=(chk_ok.1 h).2.2.1;unfold Op.numsB at hn;rw [Ay3,Ay3,Ay3] at hn;obtain ⟨⟨⟨h1,_⟩,_⟩,h4⟩:=hn;refine ⟨(inR_iff.1 h1).1,fun hk=> ?_,fun hk=> ?_⟩
 ·
  rw [hk,if_neg (by decide),if_pos rfl,Ay3] at h4;exact (inR_iff.1 h4.1).1
 ·
  rw [hk] at h4;simp only [Int.reduceEq,if_false,if_true,Ay3] at h4;exact (inR_iff.1 h4.1.2).1
def Ky (k:Int):Bool:=(k==1)||((k==2)||(k==13))
theorem Aq0 {o:Op} (h:o.chk=0):decide (0<Ec o)=Ky o.kind:=by
 obtain ⟨h1,h2,h3⟩:=Ty h;unfold Ec Ky
 by_cases k1:o.kind=1
 ·
  rw [if_pos k1,k1];exact decide_eq_true (by omega)
 ·
  rw [if_neg k1]
  by_cases k2:o.kind=2\/o.kind=13
  ·
   rw [if_pos k2]
   rcases k2 with k2|k2
   · rw [k2];exact decide_eq_true (by have:=h2 k2;omega)
   · rw [k2];exact decide_eq_true (by have:=h3 k2;omega)
  ·
   rw [if_neg k2,beq_eq_false_iff_ne.2 k1,beq_eq_false_iff_ne.2 (fun e=>k2 (.inl e)),beq_eq_false_iff_ne.2 (fun e=>k2 (.inr e))];rfl
def Ba (l:List Pn) (row:List Id):List Id:=row.filter (fun x=>decide (0<Aw l x))
def Fz (l:List Pn) (out:List Int) (x:Id):List Int:=if out.contains (Aw l x)=true then out else out++[Aw l x]
theorem Tz (l:List Pn) (row:List Id):∀k,k<=row.length->Ch l row k=(Ba l (row.take k)).foldl (Fz l) []
 |0,_=>rfl
 |k+1,h=>by
  have hk:k<row.length:=by omega
  have hx:row[k]? =some row[k]:=Ax3 hk;unfold Ch;rw [hx,Tz l row k (by omega),Db hx];dsimp only;unfold Ba;rw [Ay9,Az2];generalize ((row.take k).filter (fun x=>decide (0<Aw l x))).foldl (Fz l) []=out;generalize row[k]=y
  by_cases h0:0<Aw l y
  ·
   rw [decide_eq_true h0,A00 (by rw [decide_eq_true h0]),Az0,Bool.true_and];show _=Fz l out y;unfold Fz
   cases out.contains (Aw l y)<;>rfl
  ·
   rw [decide_eq_false h0,A01 (by rw [decide_eq_false h0];exact Ay4),Az0,Bool.false_and,if_neg Ay4];rfl
theorem Aq1 (l:List Pn) (row:List Id):Ce l row=(Ba l row).foldl (Fz l) []:=by
 unfold Ce;rw [Tz l row _ (Ax4 _),Ay7]
def Dn (l:List Pn) (xs:List Id) (k:Nat):List Int:=(xs.take k).foldl (Fz l) []
theorem T3 (l:List Pn) {xs:List Id} {k:Nat} {x:Id} (h:xs[k]? =some x):Dn l xs (k+1)=Fz l (Dn l xs k) x:=by
 unfold Dn;rw [Db h,Az2];rfl
theorem Aq2 (l:List Pn) (row:List Id):Dn l (Ba l row) (Ba l row).length=Ce l row:=by
 unfold Dn;rw [Ay7,Aq1]
theorem T4 (l:List Pn) (xs:List Id):∀k,(Dn l xs k).length<=k
 |0=>Ax4 _
 |k+1=>by
  have ih:=T4 l xs k
  cases hx:xs[k]? with
  |none=>
   have hk:xs.length<=k:=List.getElem?_eq_none_iff.1 hx
   have e:Dn l xs (k+1)=Dn l xs k:=by
    unfold Dn;rw [Ay5 hk,Ay5 (by omega)]
   rw [e];omega
  |some x=>
   rw [T3 l hx];unfold Fz
   split
   · omega
   ·
    rw [Ax8,Az3];omega
theorem Aq3 (l:List Pn) (ids:List Id):1<=lvl l ids:=by
 unfold lvl
 suffices H:∀t:Nat,1<=t->1<=ids.foldl (fun t id=>max t (Aj l id+1)) t from H 1 (Ax4 _)
 induction ids with
 |nil=>intro t h;exact h
 |cons x r ih=>intro t h;exact ih _ (by dsimp only;omega)
theorem Aq4 {l:List Pn} {ids:List Id} {x:Id} (h:x∈ids) (hl:1<=Aj l x):2<=lvl l ids:=by
 have:=Qu (l:=l) h;omega
theorem Rows.lev_one {cards:List Cd} {l:List Pn} (h:Rows cards l) {i:Nat} {n:Pn} (hi:l[i]? =some n):(i=0->n.lev=1)/\(i≠0->2<=n.lev):=by
 have hn:=h.ok i n hi;refine ⟨fun h0=> ?_,fun h0=> ?_⟩
 ·
  have hp:=(Kq hn.chk).2 ((h.first hi).2 h0);rw [hn.lev,hp];rfl
 ·
  have hp:n.o.past≠[]:=fun e=>h0 ((h.first hi).1 ((Kq hn.chk).1 e))
  cases hq:n.o.past with
  |nil=>exact absurd hq hp
  |cons x r=>
   have hm:x∈n.o.past:=by rw [hq];exact Az9
   obtain ⟨p,_,hpl⟩:=hn.par x hm;obtain ⟨m,hpm,_⟩:=Bk hpl;rw [hn.lev];refine Aq4 hm ?_;rw [Ew hpl hpm,(h.ok p m hpm).lev];exact Aq3 _ _
theorem Aq5 {cards:List Cd} {l:List Pn} (h:Rows cards l) {n:Pn} (h0:l[0]? =some n) {ids:List Id} (hp:ids.Perm (l.map Pn.id)):(Af l ids)[0]? =some n.id:=by
 have hlen:0<(Af l ids).length:=by
  rw [E7,hp.length_eq,Az1];exact (List.getElem?_eq_some_iff.1 h0).1
 have hx:(Af l ids)[0]? =some (Af l ids)[0]:=Ax3 hlen;have hmem:n.id∈Af l ids:=((Ek l ids).trans hp).mem_iff.2 (List.mem_map.2 ⟨n,Ax5 h0,rfl⟩);obtain ⟨j,hj⟩:=A02 hmem
 rcases Nat.eq_zero_or_pos j with e|hj0
 · rw [e] at hj;exact hj
 ·
  exfalso;have hnd:(Af l ids).Nodup:=((Ek l ids).trans hp).nodup_iff.2 h.nodup;obtain ⟨hne,_,hlt⟩:=An5 h (Kr l ids) hnd hj0 hx hj;have hxm:(Af l ids)[0]∈l.map Pn.id:=((Ek l ids).trans hp).mem_iff.1 (List.getElem_mem hlen);obtain ⟨m,hm,em⟩:=List.mem_map.1 hxm;obtain ⟨i,hi⟩:=A02 hm;have e1:Aj l n.id=1:=by rw [Ew (h.ok 0 n h0).plc h0];exact (h.lev_one h0).1 rfl
  have hi0:i≠0:=fun e=>by
   rw [e,h0] at hi;injection hi with hi
   rw [hi] at hne;exact hne em.symm
  have e2:2<=Aj l (Af l ids)[0]:=by rw [<- em,Ew (h.ok i m hi).plc hi];exact (h.lev_one hi).2 hi0
  rcases rkLess_iff.1 hlt with h5|⟨h5,_⟩
  · omega
  · omega
theorem Aq6 {cards:List Cd} {l:List Pn} (h:Rows cards l) {n:Pn} (h0:l[0]? =some n) {row:List Id} (hr:row[0]? =some n.id):(Ce l row)[0]? =some n.o.by_:=by
 have hk:=(h.first h0).2 rfl;have hn:=h.ok 0 n h0
 have hb:Aw l n.id=n.o.by_:=by
  rw [Ib hn.plc h0];unfold Ec;rw [if_pos hk]
 have h1:=(Ty hn.chk).1;have hlen:=(List.getElem?_eq_some_iff.1 hr).1
 have e1:Ch l row 1=[n.o.by_]:=by
  unfold Ch;rw [hr];dsimp only;rw [hb];show (if (decide (0<n.o.by_)&& !([]:List Int).contains n.o.by_)=true then _ else _)=_;rw [if_pos (by rw [decide_eq_true (by omega:0<n.o.by_)];rfl)];rfl
 have hpre:=Tn l row 1 row.length hlen;rw [e1] at hpre;obtain ⟨t,ht⟩:=hpre;unfold Ce;rw [<- ht];rfl
theorem Aq7 {l:List Pn} {row:List Id} {i:Nat} {x:Id} (h:row[i]? =some x):
  (0<Aw l x->(Ba l row)[(Ba l (row.take i)).length]? =some x/\(Ba l (row.take (i+1))).length=(Ba l (row.take i)).length+1)/\(¬0<Aw l x->(Ba l (row.take (i+1))).length=(Ba l (row.take i)).length):=by
 have hsn:=Db h;have hrow:row=row.take (i+1)++row.drop (i+1):=(List.take_append_drop _ _).symm;constructor
 ·
  intro h0
  have e1:Ba l (row.take (i+1))=Ba l (row.take i)++[x]:=by
   unfold Ba;rw [hsn,Ay9,A00 (by rw [decide_eq_true h0]),Az0]
  refine ⟨?_,by rw [e1,Ax8,Az3]⟩
  have e2:Ba l row=Ba l (row.take i)++([x]++Ba l (row.drop (i+1))):=by
   conv=>lhs;rw [hrow]
   show List.filter _ (_++_)=_;rw [Ay9];show Ba l (row.take (i+1))++Ba l (row.drop (i+1))=_;rw [e1,A03]
  rw [e2,List.getElem?_append_right (Ax4 _),Nat.sub_self];rfl
 ·
  intro h0;unfold Ba;rw [hsn,Ay9,A01 (by rw [decide_eq_false h0];exact Ay4),Az0,List.append_nil]
def OpBy (D:Int) (k b d:Int):Prop:=decide (0<D)=Ky k/\(k=1->D=b)/\(k=2\/k=13->D=d)
theorem Aq8 {o:Op} (h:o.chk=0):OpBy (Ec o) o.kind o.by_ o.dev:=by
 refine ⟨Aq0 h,fun k=> ?_,fun k=> ?_⟩
 ·
  unfold Ec;rw [if_pos k]
 ·
  unfold Ec;rw [if_neg (by omega),if_pos k]
end Oq
section
open Go.RowKit Go.Shelf
def SeqE {α:Type} (P:Program) (gf:Nat) (lb:Array Value) (encs:α->Array Value) (xs:List α) (X:World->Nat->Prop) (N0:Nat) (W0:World):Prop:=
 ∀(l:Nat) (J Z:Nat->World->Prop),N0<=l->(∃r,W0.heap[l]? =some (.loop r))->(∀i A B,J i A->Fr Non A B->J i B)->(∀i A B,Z i A->Fr Non A B->Z i B)->J 0 W0->
  (∀i x W,xs[i]? =some x->J i W->YieldAt Fence.wide 0 P l (encs x) W fun e W'=>(e=.returned (.bool true)/\J (i+1) W'/\Fr (fun k=>X W k\/k=l) W W')\/(e=.returned (.bool false)/\Z i W'))->
  Calls P gf (#[.func (.yield l) #[] #[]]++lb) W0 fun e W'=>(∃v,e=.returned v)/\(J xs.length W'\/∃i,Z i W')
def Aq9 (I Z:World->Prop) (X:World->Nat->Prop) (Tr:Nat->Prop) (W:World):Exit->Act->World->Prop
 | .normal,_,W'=>I W'/\Fr (X W) W W'
 | .ret,_,W'=>Z W'/\Fr Tr W W'
 |_,_,_=>False
theorem T5 {α:Type} {P:Program} {n:Nat} {g:Operand} {ps:Array Tmp} {assign body:Code} {Q:Exit->Act->World->Prop} {a:Act} {w:World} {gf:Nat} {lb:Array Value}
  (hg:a.eval g=.func (.func gf) #[] lb) (eg:∀args w,(callFunc gf args).run P w=.ok (.enter gf args) w)
  {encs:α->Array Value} {xs:List α} {X:World->Nat->Prop} {Tr:Nat->Prop} {N0:Nat} (hps:∀x,(encs x).size=ps.size) (hN0:N0<=w.heap.size)
  (hXc:∀W k,X W k->∃cs t fr,W.heap[k]? =some (.cells cs t fr)) (hXm:∀A B k,A.heap[k]? =B.heap[k]? ->X A k->X B k)
  (hseq:∀W1,Fr Non w W1->W1.heap.size=w.heap.size+2->SeqE P gf lb encs xs X N0 W1)
  (hT:¬Tr w.heap.size/\¬Tr (w.heap.size+1))
  (I Z:Nat->World->Prop) (hI:∀i A B,I i A->Fr (fun k=>k=w.heap.size\/k=w.heap.size+1) A B->I i B) (hZ:∀i A B,Z i A->Fr (fun k=>k=w.heap.size\/k=w.heap.size+1) A B->Z i B) (h0:I 0 w)
  (hround:∀(i:Nat) (x:α) (W:World),xs[i]? =some x->I i W->w.heap.size+2<=W.heap.size->
   assign.wpIn (Fence.wide.inRound (w.heap.size+1)) 0 P (Exit.then (fun a' W'=>Fr Non W W'/\∀W2,Fr (fun k=>k=w.heap.size\/k=w.heap.size+1) W' W2->body.wpIn (Fence.wide.inRound (w.heap.size+1)) 0 P (Aq9 (I (i+1)) (Z i) X Tr W2) a' W2) (fun _ _ _=>False))
    {tmps:=(ps.zip (encs x)).foldl (fun t (p,v)=>t.setIfInBounds p v) a.tmps,defers:=[]} W)
  (hdone:∀(W:World),I xs.length W->W.heap[w.heap.size]? =some (.deferred (some []))->Q .normal {a with defers:={target:=.collected w.heap.size,args:=#[]}::a.defers} W)
  (hstop:∀(i:Nat) (W:World),Z i W->W.heap[w.heap.size]? =some (.deferred (some []))->Q .ret {a with defers:={target:=.collected w.heap.size,args:=#[]}::a.defers} W):
  (Code.rangeFunc g ps assign body).wp P Q a w:=by
 refine (wpIn_wide (n:=n)).1 (wpIn_rangeFunc ?_);intro fn ay;obtain ⟨ab,aa⟩:∃ab:LoopState->Option Code->Loop,ab=fun st jp=>{state:=st,pending:=jp,fn,tmps:=a.tmps,params:=ps,assign,body,defers:=w.heap.size}:=⟨_,rfl⟩;obtain ⟨W1,ag⟩:∃W1,(w.alloc (.deferred (some []))).alloc (.loop (ab .ready none))=W1:=⟨_,rfl⟩
 have au:W1.heap[w.heap.size+1]? =some (.loop (ab .ready none)):=by
  rw [<- ag];have:=A04 (w.alloc (.deferred (some []))) (.loop (ab .ready none));rwa [Ax7] at this
 have aw:W1.heap[w.heap.size]? =some (.deferred (some [])):=by
  rw [<- ag];exact (Below.heap_alloc _ _ _ (by simp)).trans (A04 w _)
 have aq:Fr Non w W1:=by rw [<- ag];exact ((Fr.refl _ _).alloc _).alloc _
 have ax:W1.heap.size=w.heap.size+2:=by rw [<- ag];simp
 refine ⟨w.heap.size+1,[{target:=.collected w.heap.size,args:=#[]}],W1,{target:=.fn (.func gf) lb,args:=#[.func (.yield (w.heap.size+1)) #[] #[]]},W1,gf,
  #[.func (.yield (w.heap.size+1)) #[] #[]]++lb,W1,?_,?_,fun _ _=>trivial,?_,fun h=>by simp [Fence.wide] at h,?_⟩
 · rw [<- ag,aa];exact run_enterLoop_outer _ _ _ _ _
 ·
  simp only [resolve,hg];simp [go_sem]
 · simp [invoke,go_sem,eg]
 ·
  refine callsIn_wide.2 ((hseq W1 aq ax (w.heap.size+1)
   (fun i W=>I i W/\W.heap[w.heap.size+1]? =some (.loop (ab .ready none))/\W.heap[w.heap.size]? =some (.deferred (some [])))
   (fun i W=>Z i W/\W.heap[w.heap.size+1]? =some (.loop (ab .done (some .ret)))/\W.heap[w.heap.size]? =some (.deferred (some [])))
   (by omega) ⟨_,au⟩
   (fun i A B h hf=>⟨hI i A B h.1 (hf.of_non _),hf.obj h.2.1 zq,hf.obj h.2.2 zq⟩)
   (fun i A B h hf=>⟨hZ i A B h.1 (hf.of_non _),hf.obj h.2.1 zq,hf.obj h.2.2 zq⟩)
   ⟨hI 0 w W1 h0 (aq.of_non _),au,aw⟩ ?_).mono ?_)
  ·
   rintro i x W hx ⟨hi,hl,hk⟩;have av:w.heap.size+1<W.heap.size:=(Array.getElem?_eq_some_iff.1 hl).1;have hy:=run_yield (P:=P) (args:=encs x) hl (by rw [aa];exact hps x);rw [aa] at hy;refine ⟨fn,_,assign,body,hy,roundIn_of_wpIn ay (wpIn_mono (hround i x W hx hi av) ?_)⟩;rintro e a' W' hp
   cases e with
   |normal=> ?_
   |ret=>exact hp.elim
   |exit id=>exact hp.elim
   |goto t=>exact hp.elim
   |panic ch=>exact hp.elim
   |outgrown=>exact hp.elim
   obtain ⟨hW,ae⟩:=hp;have ar:=hW.obj hl zq;have az:=hW.obj hk zq;have ak:w.heap.size+1<W'.heap.size:=(Array.getElem?_eq_some_iff.1 ar).1;refine ⟨_,run_beginRound ar (by rw [aa]),?_⟩;have ai:(W'.putObj (w.heap.size+1) (.loop {ab .ready none with state:=.busy})).heap[w.heap.size+1]? =some (.loop {ab .ready none with state:=.busy}):=Az4 ak;have aj:(W'.putObj (w.heap.size+1) (.loop {ab .ready none with state:=.busy})).heap[w.heap.size]? =some (.deferred (some [])):=(Ay6 (by omega)).trans az;have al:Fr (fun k=>k=w.heap.size+1) W' (W'.putObj (w.heap.size+1) (.loop {ab .ready none with state:=.busy})):=Fr.putOne _ _ _;refine wpIn_mono (ae _ (al.mono fun _ _ e=> .inr e)) ?_
   have ap:∀k,k<W.heap.size->X (W'.putObj (w.heap.size+1) (.loop {ab .ready none with state:=.busy})) k->X W k\/k=w.heap.size+1:=fun k ah hX=>by
    by_cases e:k=w.heap.size+1
    · exact .inr e
    · exact .inl (hXm _ _ k ((Ay6 e).trans (hW.block k ah zq)) hX)
   have nx:∀k o,(W'.putObj (w.heap.size+1) (.loop {ab .ready none with state:=.busy})).heap[k]? =some o->(∀cs t fr,o≠ .cells cs t fr)->¬X (W'.putObj (w.heap.size+1) (.loop {ab .ready none with state:=.busy})) k:=fun k o h1 h2 h3=>by
    obtain ⟨cs,t,fr,h4⟩:=hXc _ _ h3;rw [h1] at h4;injection h4 with h4
    exact h2 _ _ _ h4
   rintro e a3 W3 hp
   cases e with
   |normal=>
    obtain ⟨ao,ac⟩:=hp;have af:=ac.obj ai (nx _ _ ai (fun _ _ _ h=>by cases h));have ah:=ac.obj aj (nx _ _ aj (fun _ _ _ h=>by cases h));have hr:=run_endRound (P:=P) none af;rw [aa] at hr;have ad:Fr (fun k=>k=w.heap.size+1) W3 (W3.putObj (w.heap.size+1) (.loop (ab .ready none))):=Fr.putOne _ _ _;refine ⟨_,_,hr,.inl ⟨rfl,⟨?_,?_,?_⟩,?_⟩⟩
    · rw [aa] at ad;exact hI _ _ _ ao (ad.mono fun _ _ e=> .inr e)
    · rw [aa];exact Az4 (Array.getElem?_eq_some_iff.1 af).1
    · exact (Ay6 (by omega)).trans ah
    ·
     rw [aa] at ad al ac ap;exact (((hW.of_non (fun k=>X W k\/k=w.heap.size+1)).trans al fun _ _ e=> .inr e).trans ac ap).trans ad fun _ _ e=> .inr e
   |ret=>
    obtain ⟨ao,ac⟩:=hp;have af:=ac.obj ai hT.2;have ah:=ac.obj aj hT.1;have hr:=run_endRound (P:=P) (some .ret) af;rw [aa] at hr;have ad:Fr (fun k=>k=w.heap.size+1) W3 (W3.putObj (w.heap.size+1) (.loop (ab .done (some .ret)))):=Fr.putOne _ _ _;refine ⟨_,_,hr,.inr ⟨rfl,?_,?_,?_⟩⟩
    · rw [aa] at ad;exact hZ _ _ _ ao (ad.mono fun _ _ e=> .inr e)
    · rw [aa];exact Az4 (Array.getElem?_eq_some_iff.1 af).1
    · exact (Ay6 (by omega)).trans ah
   |exit id=>exact hp.elim
   |goto t=>exact hp.elim
   |panic ch=>exact hp.elim
   |outgrown=>exact hp.elim
  ·
   rintro e W2 ⟨⟨v,rfl⟩,⟨hi,hl,hk⟩|⟨i,hi,hl,hk⟩⟩
   ·
    refine ⟨none,W2.putObj (w.heap.size+1) (.loop {ab .ready none with state:=.exhausted}),?_,hdone _ (hI _ _ _ hi ((Fr.putOne W2 (w.heap.size+1) _).mono fun _ _ e=> .inr e)) ((Ay6 (by omega)).trans hk)⟩;have h:=run_endLoop (P:=P) hl (by rw [aa];simp);rw [aa] at h ⊢;exact h
   ·
    refine ⟨some .ret,W2.putObj (w.heap.size+1) (.loop {ab .done (some .ret) with state:=.exhausted}),?_,wpIn_ret (hstop i _ (hZ _ _ _ hi ((Fr.putOne W2 (w.heap.size+1) _).mono fun _ _ e=> .inr e)) ((Ay6 (by omega)).trans hk))⟩;have h:=run_endLoop (P:=P) hl (by rw [aa];simp);rw [aa] at h ⊢;exact h
end
section
open Go.RowKit Go.Shelf
namespace Oq
attribute [local go_sem] Ay1 Ay2
attribute [local go_sem ↓] Fc Gl
theorem Fm:(zp.info? 38).map (·.size)=some 3:=by kernel_rfl
theorem Gp (a b:Int) (u:Nat):(#[.int .i64 a,.int .i64 b,.int .u64 (u:Int)]:Array Value).all (·.oneCell')=true:=by simp [Value.oneCell']
def Gq (l:List Pn) (x:Id):Array Value:=#[.agg x.V,.int .i64 (Aw l x)]
def Xof (N0:Nat) (W:World) (k:Nat):Prop:=N0<=k/\∃cs t fr,W.heap[k]? =some (.cells cs t fr)/\(t=3\/t=22)
theorem Xof.not {N0:Nat} {W:World} {k:Nat} {cs:Array Value} {t:TypeId} {fr:_} (hk:W.heap[k]? =some (.cells cs t fr)) (h1:t≠3) (h2:t≠22):¬Xof N0 W k:=by
 rintro ⟨_,cs',t',fr',h3,h4⟩;rw [hk] at h3;injection h3 with h3
 injection h3 with _ h5 _
 rw [<- h5] at h4;exact h4.elim h1 h2
def T6 (D:Int) (w:World) (e:Ending) (w':World):Prop:=∃y:OpL,e=.returned (.tuple #[.agg y.cells,.bool true])/\OpBy D y.kind y.by_ y.dev/\Fr Non w w'
theorem Ar0 (base:Nat) (g:Gph) (x:Id) (w:World) (hg:GAt w base g) (hx:x.ok) (hp:(plc g.pns x).isSome=true) (hchk:∀n∈g.pns,n.o.chk=0):
  Calls zp 140 #[.pointer (some ⟨g.gb,0,none⟩),.agg x.V] w (T6 (Aw g.pns x) w):=by
 obtain ⟨p,hp⟩:=Option.isSome_iff_exists.1 hp;obtain ⟨m,hm,_⟩:=Bk hp;obtain ⟨z,h1,h2⟩:=Ah1 (g:=g) rfl hp hm;have h3:=Zb base g x w hg hx;rw [h1] at h3;refine h3.mono ?_;rintro e w' ⟨y,rfl,h4,_,h5⟩;refine ⟨y,rfl,?_,h5⟩;have h6:=Aq8 (hchk m (Ax5 hm));rw [Ib hp hm,<- h2,<- h4];rw [<- h2,<- h4] at h6;exact h6
theorem T7 (base:Nat) (g:Gph) (gB iB B n c:Nat) (A:Option Addr) (ids:List Id) (w W0:World) (hg:GAt w base g) (hn:Hid (ids.length=n)) (hr:Rd w B 3 A n (ids.flatMap Id.cells)) (h14:n<=14) (hok:∀x∈ids,x.ok) (hnd:ids.Nodup)
  (hin:∀x∈ids,(plc g.pns x).isSome=true) (hchk:∀m∈g.pns,m.o.chk=0) (hf0:Fr Non w W0) (bg:Blk W0 gB 34 #[.pointer (some ⟨g.gb,0,none⟩)]) (bi:Blk W0 iB 28 #[.slice A n c]):
  SeqE zp 139 #[.pointer (some ⟨gB,0,none⟩),.pointer (some ⟨iB,0,none⟩)] (Gq g.pns) (Ba g.pns (Af g.pns ids)) (Xof w.heap.size) w.heap.size W0:=by
 intro l J Z hN bh hJ hZ h0 hY
 have b6:l<W0.heap.size:=by
  obtain ⟨r,hr⟩:=bh;exact (Array.getElem?_eq_some_iff.1 hr).1
 have bm:gB≠l:=by
  rintro rfl;obtain ⟨r,hr⟩:=bh;unfold Blk at bg;rw [hr] at bg
  cases bg
 show Calls _ _ #[.func (.yield l) #[] #[],.pointer (some ⟨gB,0,none⟩),.pointer (some ⟨iB,0,none⟩)] W0 _;have ko:=N5 base g B n c A ids W0 (hg.fr hf0) hn (hr.fr hf0 zr) h14 hok hnd;unfold Bp at ko;replace ko:=lh ko;have ag:∀x∈Af g.pns ids,x∈ids:=fun x hx=>(Ek g.pns ids).mem_iff.1 hx;have ar:=lh (fun (x:Id) (hx:x∈Af g.pns ids) (w':World) (hf:Fr Non w w')=>Ar0 base g x w' (hg.fr hf) (hok x (ag x hx)) (hin x (ag x hx)) hchk);unfold T6 at ar;have aa:Hid (∀i x,(Af g.pns ids)[i]? =some x->_):=fun i x h=>Aq7 (l:=g.pns) (row:=Af g.pns ids) h;have be:Hid ((Ba g.pns ((Af g.pns ids).take 0)).length=0):=rfl;have az:Hid ((Ba g.pns ((Af g.pns ids).take (Af g.pns ids).length)).length=(Ba g.pns (Af g.pns ids)).length):=by show _=_;rw [Ay7]
 have bw:(Af g.pns ids).length<=14:=by rw [E7,hn.out];exact h14
 obtain ⟨ad,ak⟩:∃ad:Nat->Nat,(fun i=>(Ba g.pns ((Af g.pns ids).take i)).length)=ad:=⟨_,rfl⟩;have a6:∀i,(Ba g.pns ((Af g.pns ids).take i)).length=ad i:=fun i=>congrFun ak i;simp only [a6] at aa be az;have bf:Hid (∀i x W,(Ba g.pns (Af g.pns ids))[i]? =some x->J i W->YieldAt Fence.wide 0 zp l #[.agg x.V,.int .i64 (Aw g.pns x)] W fun e W'=>(e=.returned (.bool true)/\J (i+1) W'/\Fr (fun k=>Xof w.heap.size W k\/k=l) W W')\/(e=.returned (.bool false)/\Z i W')):=hY;clear hY ak a6 ag hin hok hnd hchk hr hn;obtain ⟨GB,bd⟩:=Aa g.gb;rw [bd.out] at ar ko bg;generalize Ba g.pns (Af g.pns ids)=CL at*;generalize Af g.pns ids=RS at*;generalize Aw g.pns=BO at*;clear bd hg g;obtain ⟨M,hM⟩:=Aa RS.length;rw [hM.out] at ko bw az;have g0:W0.cell? ⟨gB,0,none⟩=some (.pointer (some ⟨GB,0,none⟩)):=bg.cell 0;have i0:cS W0 iB 0 A n c:=bi.cell 0;have ac:Hid (∀W',(J CL.length W'\/∃i,Z i W')->((∃v,ze (.tuple #[])=.returned v)/\(J CL.length W'\/∃i,Z i W'))):=fun W' h=>⟨⟨_,rfl⟩,h⟩;have ax:(zp.info? 44).map (·.size)=some 27:=by kernel_rfl
 go_enter func139,ntmps139;go_wp2_with (go_at_call 27;(with_reducible refine (ko.out).mono ?_);rintro _ w1 ⟨A1,c1,rfl,bl,f1⟩);have ba:=hJ _ _ _ h0 f1;have a8:=bg.fr f1 zq;have bc:=hf0.trans f1 zr;have bj:=f1.size;have aj:=RowAt.of_own bl;clear ko bi i0 g0 bg bl h0 hf0 f1
 go_loopw [13] (fun v wr=>∃i:Nat,v=.int .i64 (i:Int)/\i<=M/\J (ad i) wr/\Fr Non w wr/\RowAt wr W0.heap.size 38 3 A1 M c1 (RS.flatMap Id.cells)/\Blk wr gB 34 #[.pointer (some ⟨GB,0,none⟩)]/\W0.heap.size<=wr.heap.size) (fun v _=>M-(intOf v).toNat)
 case atStart=>exact ⟨0,rfl,Ax9 _,by rw [be.out];exact ba,bc,aj,a8,bj⟩
 case round=>
  clear ba bc aj a8 bj;obtain ⟨i,rfl,hi,hj,hf,ae,bg,bt⟩:=hrel
  by_cases hlt:i<M
  ·
   obtain ⟨x,hx⟩:∃x,RS[i]? =some x:=⟨_,Ax3 (by rw [hM.out];exact hlt)⟩;obtain ⟨b,b8,rfl,_,k0,k1,k2⟩:=Id.at ae.sl.rd hx;have a0:=lh (ar.out x (Ax5 hx));have af:=aa.out i x hx;replace af:=lh af;obtain ⟨i1,i2,i3⟩:=ix i M
   obtain ⟨D,hD⟩:=Aa (BO x);rw [hD.out] at a0 af;have ao:=lh (fun (W:World) (h1:CL[ad i]? =some x) (h2:J (ad i) W)=>bf.out (ad i) x W h1 h2);rw [hD.out] at ao;have a1:=Br (P:=zp) wr.heap.size 38 (cs:=x.V) Fm (old:=#[.int .i64 0,.int .i64 0,.int .u64 0]) rfl (Gp _ _ _);have bn:=Blk.new wr 38 #[.int .i64 0,.int .i64 0,.int .u64 0];clear aa hD bf ar hx;go_upto_region 3 with (fail)
   have bx:=bn.setRow (cs:=x.V);have fz:Fr Non wr ((wr.alloc (.cells #[.int .i64 0,.int .i64 0,.int .u64 0] 38)).setRow wr.heap.size x.V):=((Fr.refl Non wr).alloc _).setRow (fun hh=>absurd hh (by omega)) _;obtain ⟨xB,bk⟩:=Aa wr.heap.size;rw [bk.out] at bx fz ⊢;clear a1 bn k0 k1 k2;generalize (wr.alloc (.cells #[.int .i64 0,.int .i64 0,.int .u64 0] 38)).setRow xB x.V=w2 at*;have x0:cI w2 xB 0 x.b:=bx.cell 0;have x1:cI w2 xB 1 x.s:=bx.cell 1;have x2:cU w2 xB 2 x.u:=bx.cell 2;have g0:w2.cell? ⟨gB,0,none⟩=some (.pointer (some ⟨GB,0,none⟩)):=(bg.fr fz zq).cell 0;have av:=hf.trans fz zr;go_upto_region 4 with (go_at_call 140;(with_reducible refine (a0.out _ av).mono ?_);rintro _ w3 ⟨y,rfl,br,f3⟩;(have bz:=Blk.new w3 44 zO);(have b2:=Br (P:=zp) w3.heap.size 44 (cs:=y.cells) ax (old:=zO) rfl (Dr y)))
   have bo:=bz.setRow (cs:=y.cells);have f4:Fr Non w3 ((w3.alloc (.cells zO 44)).setRow w3.heap.size y.cells):=((Fr.refl Non w3).alloc _).setRow (fun hh=>absurd hh (by omega)) _;obtain ⟨oB,a9⟩:=Aa w3.heap.size;rw [a9.out] at bo f4 ⊢;clear b2 bz a0;generalize (w3.alloc (.cells zO 44)).setRow oB y.cells=w4 at*;have o0:cI w4 oB 0 y.by_:=bo.cell 0;have o2:cI w4 oB 2 y.kind:=bo.cell 2;have o5:cI w4 oB 5 y.dev:=bo.cell 5;have ah:=f3.trans f4 zr;have al:=fz.trans ah zr;have bb:=av.trans ah zr;obtain ⟨b4,b3,b5⟩:=zk3 ah x0 x1 x2;have a3:=hJ _ _ _ hj al;have ab:=ae.fr al (fun _ _ _ e=>e);have au:=bg.fr al zq;have bq:=al.size;clear x0 x1 x2 g0 bo hj ae bg ah al f3 f4 fz av hf bx a9 bk w2 w3;generalize y.by_=YB at*;generalize y.kind=K at*;generalize y.dev=YD at*;generalize y.cells=YC at*;obtain ⟨ai,a5,aq⟩:=br
   rcases (show (K=1/\D=YB/\0<D)\/(K=2/\D=YD/\0<D)\/(K=13/\D=YD/\0<D)\/((K==1)=false/\(K==2)=false/\(K==13)=false/\¬0<D) from by
    by_cases e1:K=1
    · exact .inl ⟨e1,a5 e1,of_decide_eq_true (by rw [ai,e1];rfl)⟩
    ·
     by_cases e2:K=2
     · exact .inr (.inl ⟨e2,aq (.inl e2),of_decide_eq_true (by rw [ai,e2];rfl)⟩)
     ·
      by_cases e3:K=13
      · exact .inr (.inr (.inl ⟨e3,aq (.inr e3),of_decide_eq_true (by rw [ai,e3];rfl)⟩))
      ·
       have q1:=beq_eq_false_iff_ne.2 e1;have q2:=beq_eq_false_iff_ne.2 e2;have q3:=beq_eq_false_iff_ne.2 e3;exact .inr (.inr (.inr ⟨q1,q2,q3,of_decide_eq_false (by rw [ai];unfold Ky;rw [q1,q2,q3];rfl)⟩))) with ⟨rfl,rfl,hpos⟩|⟨rfl,rfl,hpos⟩|⟨rfl,rfl,hpos⟩|⟨q1,q2,q3,hpos⟩
   rotate_left 3
   ·
    have bu:=lh (af.out.2 (by first|exact hpos|omega));clear ai a5 aq af ao;go_wp2_with fail;go_roundw
    case rel=>exact ⟨i+1,by go_num,by omega,by rw [bu.out];exact a3,bb,ab,au,Ay0 bt bq⟩
    case measure=>simp [intOf];omega
   all_goals
    obtain ⟨a7,aw⟩:=af.out.1 hpos;replace aw:=lh aw;obtain ⟨fn,b0,a2,bp,hy,hR⟩:=I8 (m:=2) (ao.out w4 a7 a3);clear ai a5 aq af ao a7 hpos a3;go_upto_region 11 with (fail)
    refine (wpIn_wide (n:=3)).1 ?_
    gi_wp2_with (first|fail)
    refine hR.mono ?_;clear hR hy;rintro _ W5 (⟨rfl,b1,ap⟩|⟨rfl,hz5⟩)
    ·
     have ay:Fr Non w W5:=bb.trans ap (fun k hk e=>by
      rcases e with e|e
      · exact absurd e.1 (by omega)
      · omega)
     have a4:=ab.fr ap (fun hn k hk e=>by
      rcases ab.2 with h1|⟨k',cs,fr,e1,e2,e3,_⟩
      · exact hn h1
      ·
       rw [e1] at hk;have bv:k'=k:=by injection hk
       rw [bv] at e2 e3
       rcases e with e|e
       · exact Xof.not e3 (by decide) (by decide) e
       · omega)
     have bs:=au.fr ap (fun e=>by
      rcases e with e|e
      · exact Xof.not au (by decide) (by decide) e
      · exact bm e)
     have b7:=ap.size
     gi_wp2_with (first|fail)
     go_wp2_with fail;go_roundw
     case rel=>exact ⟨i+1,by go_num,by omega,by rw [aw.out];exact b1,ay,a4,bs,by omega⟩
     case measure=>simp [intOf];omega
    ·
     gi_wp2_with (first|fail)
     go_wp2_with fail
     (try simp only [Exit.inBlock,Exit.then])
     refine bodyPost_ret (results_none rfl _ _ _) rfl ?_;exact ac.out _ (.inr ⟨_,hz5⟩)
  ·
   obtain rfl:M=i:=by omega
   go_wp2_with fail
   go_end0
   exact ac.out _ (.inl (by rw [<- az.out];exact hj))
def Ar1 (GB:Nat) (A:Option Addr) (n c:Nat) (w:World) (r:Ending) (w':World):Prop:=
 r=.returned (.func (.func 139) #[] #[.pointer (some ⟨w.heap.size,0,none⟩),.pointer (some ⟨w.heap.size+1,0,none⟩)])/\Blk w' w.heap.size 34 #[.pointer (some ⟨GB,0,none⟩)]/\Blk w' (w.heap.size+1) 28 #[.slice A n c]/\Fr Non w w'/\w'.heap.size=w.heap.size+2
theorem T9 (GB n c:Nat) (A:Option Addr) (w:World):Calls zp 84 #[.pointer (some ⟨GB,0,none⟩),.slice A n c] w (Ar1 GB A n c w):=by
 have hb:=Blk.new w 34 #[.pointer (some ⟨GB,0,none⟩)];have hb2:=hb.alloc (.cells #[.slice A n c] 28);have hn2:=Blk.new (w.alloc (.cells #[.pointer (some ⟨GB,0,none⟩)] 34)) 28 #[.slice A n c];rw [Ax7] at hn2;go_enter func84,ntmps84;go_wp2
 go_ret
 exact ⟨rfl,hb2,hn2,((Fr.refl _ _).alloc _).alloc _,by simp⟩
end Oq
end
namespace Oq
attribute [local go_sem] Ay1 Ay2
attribute [local go_sem ↓] Cx
theorem Rows.levs {cards:List Cd} {l:List Pn} (h:Rows cards l):∀n∈l,n.lev<=l.length:=by
 induction h with
 |nil=>intro n hn;cases hn
 |snoc l o _ _ ih=>
  intro n hn;rw [Ax8,Az3]
  rcases List.mem_append.1 hn with h|h
  ·
   have:=ih n h;omega
  ·
   obtain rfl:=List.mem_singleton.1 h;exact Qs l l.length ih o.past
def Cy (l:List Pn) (q:Nat):Nat:=(l[q]?.map Pn.lev).getD 0
theorem Kz {l:List Pn} {q:Nat} {n:Pn} (h:l[q]? =some n):Cy l q=n.lev:=by unfold Cy;rw [h];rfl
def Cz (n:Nat) (f:Nat->Nat):List Value:=(List.range n).map (fun q=>Value.int .i64 (f q:Int))
theorem Ho {n i:Nat} (f:Nat->Nat) (h:i<n):(Cz n f)[i]? =some (.int .i64 (f i:Int)):=by simp [Cz,h]
theorem Ar2 {n i:Nat} (f:Nat->Nat) (v:Nat):(Cz n f).set i (.int .i64 (v:Int))=Cz n (fun q=>if q=i then v else f q):=by
 apply List.ext_getElem?;intro j
 by_cases hj:j<n
 ·
  rw [Ho _ hj,List.getElem?_set]
  split
  ·
   rename_i e;subst e;rw [if_pos (by simp [Cz];exact hj),if_pos rfl]
  ·
   rename_i e;rw [Ho _ hj,if_neg (fun h=>e h.symm)]
 · rw [Az5 (by simp [Cz];omega),Az5 (by simp [Cz];omega)]
structure N7 (w wr:World) (CS:Array Value) (g n:Nat) (f:Nat->Nat):Prop where
 bg:Blk wr w.heap.size 32 CS
 own:Own wr (w.heap.size+1) 3 1 (some ⟨g,0,none⟩) n n (Cz n f)
 fr:Fr Non w wr
theorem N7.set {w wr:World} {CS:Array Value} {g n:Nat} {f:Nat->Nat} (h:N7 w wr CS g n f) {i:Nat} (hi:i<n) (v:Nat):
  w.heap.size+1<=g/\g<wr.heap.size/\wr.cell? ⟨g,i,none⟩=some (.int .i64 (f i:Int))/\wr.frozen? ⟨g,i,none⟩=false/\N7 w (wr.setCell ⟨g,i,none⟩ (.int .i64 (v:Int))) CS g n (fun q=>if q=i then v else f q):=by
 obtain ⟨g',e,h1,h2,h3,h4,h5⟩:=h.own.setAt (j:=i) (by omega) (.int .i64 (v:Int));injection e with e
 injection e with e
 subst e;exact ⟨h1,h2,h3 _ (Ho f hi),h4,h.bg.far (p:=⟨_,_,_⟩) (fun e=>by have e':w.heap.size=g:=e;omega) _,by rw [Ar2] at h5;exact h5,h.fr.setNew (by omega) _ _⟩
theorem RG.own.levBd {w:World} {base:Nat} {r:RG} (h:r.own w base):∀q,Cy r.l q<=200:=by
 have hfew:=h.few;intro q;unfold Cy
 cases hq:r.l[q]? with
 |none=>exact Ax9 _
 |some n=>
  have:=h.rows.levs n (Ax5 hq);show n.lev<=200;omega
theorem RG.own.levRow {w:World} {base:Nat} {r:RG} (h:r.own w base):∀i,i<r.l.length->∃(us:List Nat) (A2:Option Addr) (c2 b off:Nat) (V:Nat->Nat),r.uA=some ⟨b,off,none⟩/\w.cell? ⟨b,off+i,none⟩=some (.slice A2 us.length c2)/\us.length<=1000/\Rd w w.heap.size 1 A2 us.length (us.map Qv)/\
  V 0=1/\V us.length=Cy r.l i/\∀k p,us[k]? =some p->p<i/\V (k+1)=max (V k) (1+Cy r.l p):=by
 intro i hi;obtain ⟨x,b,off,h1,h2,h3,_,h4⟩:=h.uAt (Ax3 hi);have hok:=h.rows.ok i _ (Ax3 hi);have hn:=Ax3 hi;generalize r.l[i]=n at*;have hxl:x.xs.length=n.o.past.length:=by rw [h1,Gh]
 refine ⟨x.xs,x.A,x.c,b,off,fun k=>lvl r.l (n.o.past.take k),h3,h4,?_,h2.sl.rd,rfl,?_,?_⟩
 ·
  rw [hxl];exact (h.ok n (Ax5 hn)).1.past.1
 ·
  dsimp only;rw [hxl,Ay7,Kz hn,hok.lev]
 ·
  intro k p hk;rw [h1] at hk;unfold Ap at hk;rw [Ax6] at hk;obtain ⟨y,hy,hp⟩:=Option.map_eq_some_iff.1 hk;obtain ⟨p2,hp2,hq⟩:=hok.par y (Ax5 hy);rw [hq] at hp;have e:p2=p:=hp;subst e;obtain ⟨m,hm,_⟩:=Bk hq;refine ⟨hp2,?_⟩;dsimp only;rw [Qr r.l n.o.past k hy,Ew hq hm,Kz hm,Nat.add_comm 1]
theorem Ar3 (n:Nat) (f:Nat->Nat):Cz (n+1) f=Cz n f++[.int .i64 (f n:Int)]:=by
 unfold Cz;rw [List.range_succ,Ay8];rfl
def K9 (l:List Pn) (w:World) (e:Ending) (w':World):Prop:=∃A c,e=.returned (.slice A l.length c)/\Own w' w.heap.size 3 1 A l.length c (Cz l.length (Cy l))/\Fr Non w w'
theorem Ih (base:Nat) (r:RG) (id:Id) (w:World) (h:r.own w base):
  Calls zp 87 #[.agg r.cells,.agg id.V] w fun e w'=>e=.returned (.int .i64 (Ar r.l id))/\Fr Non w w':=by
 have bg:=(Blk.new w 32 r.cells).alloc (.cells id.V 38);have bi:=Blk.new (w.alloc (.cells r.cells 32)) 38 id.V;rw [Ax7] at bi;have f0:Fr Non w ((w.alloc (.cells r.cells 32)).alloc (.cells id.V 38)):=((Fr.refl Non w).alloc _).alloc _;have hl:=Bi (P:=zp) w.heap.size 32 underlying32 rfl (cs:=r.cells) Co;have kp:=lh (fun (w':World) (hf:Fr Non w w')=>Hf base r id w' (h.non hf));clear h;generalize Ar r.l id=P at*;generalize r.cells=CS at*;go_enter func87,ntmps87;go_upto_region 1 with (fail)
 have i0:=bi.cell 0;have i1:=bi.cell 1;have i2:=bi.cell 2;clear bi;generalize (w.alloc (.cells CS 32)).alloc (.cells id.V 38)=w0 at*;go_wp2_with (go_at_call 56;(with_reducible refine (kp.out _ f0).mono ?_);rintro _ w1 ⟨rfl,f1⟩)
 go_ret
 exact ⟨rfl,f0.trans f1 zr⟩
theorem Ua (base:Nat) (r:RG) (w:World) (h:r.own w base):
  Calls zp 86 #[.agg r.cells] w (K9 r.l w):=by
 have a3:=h.few;have bg:=Blk.new w 32 r.cells;have f0:Fr Non w (w.alloc (.cells r.cells 32)):=(Fr.refl Non w).alloc _;have g1:Hid (r.cells[1]? =some (.slice r.lA r.l.length r.lC)):=rfl;have g3:Hid (r.cells[3]? =some (.slice r.uA r.l.length r.uC)):=rfl;have aq:=lh h.levBd;have ab:=lh h.levRow;clear h;unfold K9;generalize Cy r.l=lv at*;generalize r.l.length=N at*;generalize r.uA=UA at*;generalize r.uC=UC at*;generalize r.lA=LA at*;generalize r.lC=LC at*;generalize r.cells=CS at*;go_enter func86,ntmps86;go_upto_region 1 with (fail)
 generalize w.alloc (.cells CS 32)=w0 at*;go_wp2_with fail
 go_loopw [3,4] (fun s v wr=>∃(i:Nat) (A:Option Addr) (c:Nat),v=.int .i64 (i:Int)/\s=.slice A i c/\i<=N/\Own wr w0.heap.size 3 1 A i c (Cz i lv)/\Fr Non w0 wr) (fun _ v _=>N-(intOf v).toNat)
 case atStart=>exact ⟨0,none,0,rfl,rfl,Ax9 _,Own.nil _ _ _ _,Fr.refl _ _⟩
 case round=>
  obtain ⟨i,A,c,rfl,rfl,hi,aa,hf⟩:=hrel;have c1:cS wr w.heap.size 1 LA N LC:=((bg.fr hf zq).cell 1).trans g1.out
  by_cases hlt:i<N
  ·
   obtain ⟨us,A2,c2,b,a4,V,rfl,cu,a2,au,ax,ao,aw⟩:=ab.out i hlt;obtain ⟨M,hM⟩:=Aa us.length;rw [hM.out] at au cu a2 ao;obtain ⟨i1,i2,i3⟩:=ix i N
   have af:=aa.row;have ac:=lh aw;have ad:=lh ao;have ae:Hid ((1:Int)=(V 0:Int)):=by show _=_;rw [ax];rfl
   clear aw ao ax;generalize wr=wo at*;clear wr;go_wp2_with fail
   go_loopw [5,6] (fun nv v wi=>∃k:Nat,v=.int .i64 (k:Int)/\nv=.int .i64 (V k:Int)/\k<=M/\Fr Non wo wi) (fun _ v _=>M-(intOf v).toNat)
   case atStart=>exact ⟨0,rfl,by rw [ae.out],Ax9 _,Fr.refl _ _⟩
   case round=>
    obtain ⟨k,rfl,rfl,hk,ag⟩:=hrel;have ah:Fr Non w0 wr:=hf.trans ag zr;have ar:Fr Non w wr:=f0.trans ah zr;have c3:cS wr w.heap.size 3 (some ⟨b,a4,none⟩) N UC:=((bg.fr ah zq).cell 3).trans g3.out;have a5:=ar.cell cu zq
    by_cases hkm:k<M
    ·
     obtain ⟨p,hp⟩:∃p,us[k]? =some p:=⟨_,Ax3 (by rw [hM.out];exact hkm)⟩;obtain ⟨av,ay⟩:=ac.out k p hp;have a7:=aq.out p;obtain ⟨b2,o2,u,rfl,_,hu,d0⟩:=(au.fr ar zr).at hkm;rw [Ax6,hp] at hu;injection hu with hu
     subst hu;replace d0:cI wr b2 (o2+k) (p:Int):=d0;obtain ⟨b3,o3,u3,rfl,_,ai,d1⟩:=(aa.fr ag zr).rd.at av;rw [Ho _ av] at ai;injection ai with ai
     subst ai;obtain ⟨j1,j2,j3⟩:=ix k M
     obtain ⟨p1,p2,p3⟩:=ix p i
     have e1:=iw (1+(lv p:Int));have al:Hid ((V (k+1):Int)=max (V k:Int) (1+(lv p:Int))):=by show _=_;rw [ay];omega
     clear ay hp ac ab aq c1 cu;go_wp2_with fail
     all_goals
      go_roundw
      case rel=>exact ⟨k+1,by go_num,(by rw [al.out];first|done|rfl|(congr 1;omega)),by omega,ag⟩
      case measure=>simp [intOf];omega
    ·
     obtain rfl:k=M:=by omega
     have aj:=aa.fr ag zr;have bV:=Blk.new wr 3 #[.int .i64 (V k:Int)];have a0:Hid (Cz i lv++[.int .i64 (V k:Int)]=Cz (i+1) lv):=by show _=_;rw [Ar3,ad.out]
     have a6:w0.heap.size<=wr.heap.size:=ah.size;clear ac ab aq c1 cu ad ae;go_wp2_with (first|(at_builtin;go_loud (refine Bc (base:=w0.heap.size) (.tmp 38) (.tmp 40) 22 rfl rfl rfl rfl Es (aj.alloc (.cells #[.int .i64 (V k:Int)] 3)) (Rd.blk (n:=1) (size:=1) bV rfl) (by simp [Value.oneCell']) (by omega) (by omega) (by rw [Ax7];omega) ?_);intro A8 c8 w8 ap az a1));have f8:Fr Non w0 w8:=(ah.alloc (.cells #[.int .i64 (V k:Int)] 3)).trans az (fun j hj e=>by have:=af j e;omega);have ak:Own w8 w0.heap.size 3 1 A8 (i+1) c8 (Cz (i+1) lv):=by rw [<- a0.out];exact ap
     go_roundw
     case rel=>exact ⟨i+1,A8,c8,by go_num,rfl,by omega,ak,f8⟩
     case measure=>simp [intOf];omega
  ·
   obtain rfl:i=N:=by omega
   go_wp2_with fail
   go_ret
   have hb:=f0.size;exact ⟨A,c,rfl,aa.lower hb,f0.trans hf zr⟩
theorem Ub (base B c:Nat) (r:RG) (A:Option Addr) (i k:Nat) (n m:Pn) (w:World) (h:r.own w base) (hrd:Rd w B 1 A r.l.length (Cz r.l.length (Cy r.l))) (hn:r.l[i]? =some n) (hm:r.l[k]? =some m):
  Calls zp 88 #[.agg r.cells,.slice A r.l.length c,.int .i64 (i:Int),.int .i64 (k:Int)] w (Ag (Bg r.l n.id m.id) w):=by
 have bg:=Blk.new w 32 r.cells;have f0:Fr Non w (w.alloc (.cells r.cells 32)):=(Fr.refl Non w).alloc _;have g2:Hid (r.cells[2]? =some (.slice r.iA r.l.length r.iC)):=rfl;have hi:=(List.getElem?_eq_some_iff.1 hn).1;have hk:=(List.getElem?_eq_some_iff.1 hm).1;have hN:=h.few;obtain ⟨n',ba,oa,ah,hA,a9,a6,a8⟩:=h.idAt hi;obtain ⟨m',bh,bc,ai,aj,a2,a4,a1⟩:=h.idAt hk;rw [hn] at ah;injection ah with ah
 subst ah;rw [hm] at ai;injection ai with ai
 subst ai;rw [hA] at aj;injection aj with aj
 injection aj with e1 e2
 subst e1 e2;rw [hA] at g2;have la:=h.levBd i;have lb:=h.levBd k;have aq:Aj r.l n.id=Cy r.l i:=by rw [Ew (h.rows.ok i n hn).plc hn,Kz hn]
 have au:Aj r.l m.id=Cy r.l k:=by rw [Ew (h.rows.ok k m hm).plc hm,Kz hm]
 have hq:Hid (Bg r.l n.id m.id=(decide (Cy r.l i<Cy r.l k)||(Cy r.l i==Cy r.l k&&Id.less n.id m.id))):=by show _=_;unfold Bg;rw [aq,au]
 obtain ⟨b3,o3,u3,rfl,_,ak,d1⟩:=hrd.at hi;rw [Ho _ hi] at ak;injection ak with ak
 subst ak;obtain ⟨b4,o4,u4,e4,_,ag,d2⟩:=hrd.at hk;rw [Ho _ hk] at ag;injection ag with ag
 subst ag;injection e4 with e4
 injection e4 with e3 e4
 subst e3 e4;have al:=lh (fun (w':World)=>Iu n.id m.id w');unfold Ag at al ⊢;clear h hrd hA aq au hn hm;generalize Bg r.l n.id m.id=R at*;generalize Cy r.l i=L1 at*;generalize Cy r.l k=L2 at*;generalize r.iC=IC at*;generalize r.l.length=N at*;generalize r.cells=CS at*;generalize n.id=x at*;generalize m.id=y at*;obtain ⟨LX,a5⟩:=Aa (Id.less x y);rw [a5.out] at al hq;obtain ⟨i1,i2,i3⟩:=ix i N
 obtain ⟨j1,j2,j3⟩:=ix k N
 by_cases he:L1=L2
 ·
  subst he;have hR:R=LX:=by rw [hq.out];simp
  subst hR;have t1:((L1:Int) !=(L1:Int))=false:=by simp
  go_enter func88,ntmps88;go_upto_region 1 with (fail)
  generalize w.alloc (.cells CS 32)=w0 at*;obtain ⟨ap,ao⟩:=zk2 f0 d1 d2;clear d1 d2
  go_quiet (fail)
  go_upto_region 3 with (fail)
  have fN:Fr Non w0 (w0.drewN nq):=(Fr.refl Non w0).drewN nq;have B0:=((bg.fr fN zq).cell 2).trans g2.out;have fw:=f0.trans fN zr;obtain ⟨ab,ad,ae,aa,af,ac⟩:=zk6 fw a9 a6 a8 a2 a4 a1;generalize w0.drewN nq=w1 at*;have F0:Fr Non w1 w1.drew:=(Fr.refl Non w1).drew;refine wp_region_held_drew (S:=fun w'=>cS w' w.heap.size 2 (some ⟨ba,oa,none⟩) N IC/\cI w' ba (oa+i*3) x.b/\cI w' ba (oa+i*3+1) x.s/\cU w' ba (oa+i*3+2) x.u/\cI w' ba (oa+k*3) y.b/\cI w' ba (oa+k*3+1) y.s/\cU w' ba (oa+k*3+2) y.u) (by kernel_rfl) ⟨B0,ab,ad,ae,aa,af,ac⟩ (fun hHeld=> ?_);clear hHeld;have uu:=aI B0 (aI ab (aI ad (aI ae (aI aa (aI af ac)))));refine tkH 0 uu (h:=tkH 1 uu (h:=tkH 2 uu (h:=tkH 3 uu (h:=tkH 4 uu (h:=tkH 5 uu (h:=tkH 6 uu (h:=tkH 7 uu (h:=tkH 8 uu (h:=tkH 9 uu (h:=?_))))))))));clear uu;simp only [zl];refine oG 10 (fun K hK=> ?_);go_simp;go_wp2_with (go_at_call 95;(with_reducible refine (al.out _).mono ?_);rintro _ v1 ⟨rfl,a7⟩;have F1:=F0.trans a7 zr;obtain ⟨B1,ar,az,ay,aw,a0,av⟩:=zk7 F1 B0 ab ad ae aa af ac;have G1:=fw.trans F1 zr);refine hK.out _ _ ⟨B1,ar,az,ay,aw,a0,av⟩ (fun hZ=> ?_);clear hZ hK K;try simp only [Ac,zl]
  refine tkH 11 ⟨B1,ar,az,ay,aw,a0,av⟩ (h:=?_);simp only [zl];refine oD ?_;go_simp;go_wp2_with fail
  go_ret
  exact ⟨rfl,G1⟩
 ·
  have bb:(L1==L2)=false:=beq_eq_false_iff_ne.2 he;have hR:R=decide (L1<L2):=by rw [hq.out,bb];simp
  subst hR;have t1:((L1:Int) !=(L2:Int))=true:=by simp;omega
  obtain ⟨BB,ax⟩:=Aa (decide (L1<L2));have bf:decide ((L1:Int)<(L2:Int))=BB:=by rw [<- ax.out];exact decide_eq_decide.2 (by omega)
  have a3:decide (L1<L2)=BB:=ax.out;rw [a3];go_enter func88,ntmps88;go_upto_region 1 with (fail)
  generalize w.alloc (.cells CS 32)=w0 at*;obtain ⟨ap,ao⟩:=zk2 f0 d1 d2;clear d1 d2
  go_quiet (fail)
  go_upto_region 2 with (fail)
  have fN:Fr Non w0 (w0.drewN nq):=(Fr.refl Non w0).drewN nq;obtain ⟨be,bd⟩:=zk2 fN ap ao;have fw:=f0.trans fN zr;clear ap ao;generalize w0.drewN nq=w1 at*
  go_quiet (fail)
  go_wp2_with fail
  go_ret
  exact ⟨rfl,fw.drewN _⟩
theorem Uc (l:List Pn) (x:Id):∀(ys:List Id) (K:Nat),K<=ys.length->(∀j y,j<K->ys[j]? =some y->Bg l y x=true)->(∀y,ys[K]? =some y->Bg l y x=false)->De l x ys=ys.take K++x::ys.drop K
 |[],K,hK,_,_=>by
  obtain rfl:K=0:=by simpa using hK
  rfl
 |y::r,0,_,_,h2=>by
  unfold De;rw [if_neg (by rw [h2 y rfl];exact Ay4)];rfl
 |y::r,K+1,hK,h1,h2=>by
  unfold De;rw [if_pos (h1 0 y (Nat.succ_pos _) rfl),Uc l x r K (by simpa using hK) (fun j z hj hz=>h1 (j+1) z (by omega) (by rw [A05];exact hz)) (fun z hz=>h2 z (by rw [A05];exact hz))];rfl
def Fa (l:List Pn) (ids:List Id) (i:Nat):List Id:=(ids.take i).foldl (fun out x=>De l x out) []
theorem Ar4 (l:List Pn) {ids:List Id} {i:Nat} {x:Id} (h:ids[i]? =some x):Fa l ids (i+1)=De l x (Fa l ids i):=by
 unfold Fa;rw [Db h,Az2];rfl
theorem Ar5 (l:List Pn) (ids:List Id):Fa l ids ids.length=Af l ids:=by
 unfold Fa Af;rw [Ay7]
def C6 (l:List Pn) (p:Nat):Id:=(l[p]?.map Pn.id).getD ⟨0,0,0⟩
theorem La {l:List Pn} {p:Nat} {n:Pn} (h:l[p]? =some n):C6 l p=n.id:=by unfold C6;rw [h];rfl
theorem Ar6 {l:List Pn} {ps:List Nat} {rs:List Id} {x:Id} {p K:Nat} (hp:ps.map (C6 l)=rs) (hx:C6 l p=x) (hK:K<=ps.length)
  (h1:∀j q,j<K->ps[j]? =some q->Bg l (C6 l q) x=true) (h2:∀q,ps[K]? =some q->Bg l (C6 l q) x=false):(ps.take K++[p]++ps.drop K).map (C6 l)=De l x rs:=by
 subst hp;rw [Uc l x (ps.map (C6 l)) K (by rw [Az1];exact hK),Ay8,Ay8,List.map_take,List.map_drop,List.map_singleton,hx,A03]
 · rfl
 ·
  intro j y hj hy;rw [Ax6] at hy;obtain ⟨q,hq,rfl⟩:=Option.map_eq_some_iff.1 hy;exact h1 j q hj hq
 ·
  intro y hy;rw [Ax6] at hy;obtain ⟨q,hq,rfl⟩:=Option.map_eq_some_iff.1 hy;exact h2 q hq
theorem Ud (ps:List Nat):∀u∈ps.map Qv,u.oneCell'=true:=by
 intro u hu;obtain ⟨q,_,rfl⟩:=List.mem_map.1 hu;rfl
theorem N8 (base B n c:Nat) (r:RG) (A:Option Addr) (ids:List Id) (w:World) (h:r.own w base) (hn:Hid (ids.length=n)) (hr:Rd w B 3 A n (ids.flatMap Id.cells)) (hnm:n<=1000) (hin:∀x∈ids,(plc r.l x).isSome=true):
  Calls zp 32 #[.agg r.cells,.slice A n c] w (Bp (Af r.l ids) w):=by
 have df:=h.few;have bg:=Blk.new w 32 r.cells;have f0:Fr Non w (w.alloc (.cells r.cells 32)):=(Fr.refl Non w).alloc _;have g2:Hid (r.cells[2]? =some (.slice r.iA r.l.length r.iC)):=rfl;have hl:=Bi (P:=zp) w.heap.size 32 underlying32 rfl (cs:=r.cells) Co;have kl:=lh (fun (w':World) (hf:Fr Non w w')=>Ua base r w' (h.non hf));have kp:=lh (fun (id:Id) (w':World) (hf:Fr Non w w')=>Ih base r id w' (h.non hf))
 have a1:Hid (∀(A:Option Addr) (c i k:Nat) (w':World),Fr Non w w'->Rd w' w'.heap.size 1 A r.l.length (Cz r.l.length (Cy r.l))->i<r.l.length->k<r.l.length->Calls zp 88 #[.agg r.cells,.slice A r.l.length c,.int .i64 (i:Int),.int .i64 (k:Int)] w' (Ag (Bg r.l (C6 r.l i) (C6 r.l k)) w')):=by
  intro A c i k w' hf db hi hk;have h1:=Ax3 hi;have h2:=Ax3 hk;rw [La h1,La h2];exact Ub base w'.heap.size c r A i k _ _ w' (h.non hf) db h1 h2
 have hid:Hid (∀p,p<r.l.length->∃(b a4:Nat),r.iA=some ⟨b,a4,none⟩/\cI w b (a4+p*3) ((C6 r.l p).b)/\cI w b (a4+p*3+1) ((C6 r.l p).s)/\cU w b (a4+p*3+2) ((C6 r.l p).u)):=by
  intro p hp;obtain ⟨m,b,a4,h1,h2,h3,h4,h5⟩:=h.idAt hp;rw [La h1];exact ⟨b,a4,h2,h3,h4,h5⟩
 have aa:Hid (∀x∈ids,∃p:Nat,p<r.l.length/\Ar r.l x=(p:Int)/\C6 r.l p=x):=by
  intro x hx;obtain ⟨p,hp⟩:=Option.isSome_iff_exists.1 (hin x hx);obtain ⟨m,hm,em⟩:=Bk hp;exact ⟨p,Dj hp,H4 hp,by rw [La hm,em]⟩
 have ce:Hid (∀i x,ids[i]? =some x->Fa r.l ids (i+1)=De r.l x (Fa r.l ids i)):=fun i x hx=>Ar4 r.l hx;have ci:Hid (Fa r.l ids n=Af r.l ids):=by show _=_;rw [<- hn.out];exact Ar5 _ _
 clear h hin;unfold K9 at kl;unfold Ag at a1;unfold Bp;have a8:Hid (∀(ps:List Nat) (rs:List Id) (x:Id) (p K:Nat),ps.map (C6 r.l)=rs->C6 r.l p=x->K<=ps.length->(∀j q,j<K->ps[j]? =some q->Bg r.l (C6 r.l q) x=true)->(∀q,ps[K]? =some q->Bg r.l (C6 r.l q) x=false)->(ps.take K++[p]++ps.drop K).map (C6 r.l)=De r.l x rs):=fun _ _ _ _ _ h1 h2 h3 h4 h5=>Ar6 h1 h2 h3 h4 h5;have bl:Hid (Fa r.l ids 0=[]):=rfl;generalize Cz r.l.length (Cy r.l)=NC at*;generalize Af r.l ids=RS at*;generalize Fa r.l ids=RT at*;generalize hIX:De r.l=IX at*;clear hIX;generalize C6 r.l=nm at*;generalize Bg r.l=LS at*;generalize Ar r.l=PI at*;generalize r.l.length=N at*;generalize r.iA=IA at*;generalize r.iC=IC at*;generalize r.cells=CS at*;have bo:Hid (RT 0=[]):=by show _=_;exact bl.out
 go_enter func32,ntmps32;go_upto_region 1 with (fail)
 have dg:=f0.size;generalize w.alloc (.cells CS 32)=w0 at*;go_upto_region 2 with (go_at_call 86;(with_reducible refine (kl.out _ f0).mono ?_);rintro _ w1 ⟨A7,c7,rfl,b7,f1⟩)
 have cu:=f0.trans f1 zr;have br:=bg.fr f1 zq;clear kl bg;go_wp2_with fail
 go_loopw [6,7] (fun s v wr=>∃(i:Nat) (Ax:Option Addr) (cx M:Nat) (ps:List Nat),v=.int .i64 (i:Int)/\s=.slice Ax M cx/\i<=n/\M<=i/\Hid (ps.length=M)/\Hid (ps.map nm=RT i)/\Hid (∀p∈ps,p<N)/\Own wr w1.heap.size 3 1 Ax M cx (ps.map Qv)/\Fr Non w1 wr) (fun _ v _=>n-(intOf v).toNat)
 case atStart=>exact ⟨0,none,0,0,[],rfl,rfl,Ax9 _,Ax4 _,rfl,bo.out.symm,fun p hp=>absurd hp List.not_mem_nil,Own.nil _ _ _ _,Fr.refl _ _⟩
 case round=>
  obtain ⟨i,Ax,cx,M,ps,rfl,rfl,hi,di,a2,cg,bb,ah,hf⟩:=hrel;have ak:Fr Non w wr:=cu.trans hf zr;have cn:=ah.row
  by_cases hlt:i<n
  ·
   obtain ⟨x,hx⟩:∃x,ids[i]? =some x:=⟨_,Ax3 (by rw [hn.out];exact hlt)⟩;obtain ⟨p,b5,ct,cf⟩:=aa.out x (Ax5 hx);obtain ⟨ba,oa,rfl,_,x0,x1,x2⟩:=Id.at (hr.fr ak zr) hx;have da:=lh (ce.out i x hx);obtain ⟨i1,i2,i3⟩:=ix i n
   have cj:Hid (∀w',Fr Non w w'->Calls zp 87 #[.agg CS,.agg x.V] w' fun e w''=>e=.returned (.int .i64 (p:Int))/\Fr Non w' w''):=by
    intro w' cv;have:=kp.out x w' cv;rwa [ct] at this
   have t1:decide ((p:Int)<0)=false:=decide_eq_false (by omega);go_upto_region 6 with (fail)
   have B0:=br.fr hf zq;have ar:=x0;have ap:=x1;have aq:=x2;have F0:Fr Non wr wr.drew:=(Fr.refl Non wr).drew;have G0:Fr Non w wr.drew:=ak.drew;clear x0 x1 x2;refine wp_region_held_drew (S:=fun w'=>Blk w' w.heap.size 32 CS/\cI w' ba (oa+i*3) x.b/\cI w' ba (oa+i*3+1) x.s/\cU w' ba (oa+i*3+2) x.u) (by kernel_rfl) ⟨B0,ar,ap,aq⟩ (fun hHeld=> ?_);clear hHeld;have uu:=aI B0 (aI ar (aI ap aq));refine tkH 0 uu (h:=tkH 1 uu (h:=tkH 2 uu (h:=tkH 3 uu (h:=tkH 4 uu (h:=?_)))));clear uu;simp only [zl];refine oG 5 (fun K hK=> ?_);go_simp;go_wp2_with (go_at_call 87;(with_reducible refine (cj.out _ G0).mono ?_);rintro _ v1 ⟨rfl,b1⟩;have F1:=F0.trans b1 zr;have B1:=B0.fr F1 zq;obtain ⟨bc,bn,bk⟩:=zk3 F1 ar ap aq;have G1:=ak.trans F1 zr);refine hK.out _ _ ⟨B1,bc,bn,bk⟩ (fun hZ=> ?_);clear hZ hK K;try simp only [Ac,zl]
   refine tkH 6 ⟨B1,bc,bn,bk⟩ (h:=?_);simp only [zl];refine oD ?_;go_simp;have ao:=ah.fr F1 zr;have dh:=B1;have a3:Fr Non w1 v1:=hf.trans F1 zr;clear cj kp ah hf ak F0 F1 B0 ar ap aq bc bn bk G0 B1;generalize v1=wo at*;go_wp2_with fail
   go_loopw [9] (fun v wi=>∃k:Nat,v=.int .i64 (k:Int)/\k<=M/\Hid (∀j q,j<k->ps[j]? =some q->LS (nm q) x=true)/\Fr Non wo wi) (fun v _=>M-(intOf v).toNat)
   case atStart=>exact ⟨0,rfl,Ax9 _,fun j q hj _=>absurd hj (Nat.not_lt_zero j),Fr.refl _ _⟩
   case round=>
    obtain ⟨k,rfl,a5,ca,ai⟩:=hrel;have a0:Fr Non w wr:=G1.trans ai zr;go_upto_region 9 with (fail)
    go_cut [42] from 29 to 42 (fun s wc=>∃b:Bool,s=.bool b/\(b=true->k<M/\Hid (∀j q,j<k+1->ps[j]? =some q->LS (nm q) x=true))/\(b=false->Hid (∀q,ps[k]? =some q->LS (nm q) x=false))/\Fr Non wr wc)
    case first=>
     have B0:=dh.fr ai zq;have F0:Fr Non wr wr.drew:=(Fr.refl Non wr).drew;have G0:Fr Non w wr.drew:=a0.drew
     by_cases av:k<M
     ·
      obtain ⟨qk,au⟩:∃qk,ps[k]? =some qk:=⟨_,Ax3 (by rw [a2.out];exact av)⟩;have bt:=bb.out qk (Ax5 au);obtain ⟨b4,o4,u4,rfl,_,ag,d0⟩:=(ao.fr ai zr).rd.at av;rw [Ax6,au] at ag;injection ag with ag
      subst ag;have Q0:cI wr.drew b4 (o4+k) (qk:Int):=d0;have t2:decide ((k:Int)<(M:Int))=true:=decide_eq_true (by omega);have cm:decide (k<M)=true:=decide_eq_true av;obtain ⟨j1,j2,j3⟩:=ix k M
      have L0:Own wr w0.heap.size 3 1 A7 N c7 NC:=b7.fr (a3.trans ai zr) zr;have Ld:Own wr.drew w0.heap.size 3 1 A7 N c7 NC:=L0.drew
      have b6:Hid (∀w',Fr Non w w'->Rd w' w'.heap.size 1 A7 N NC->Calls zp 88 #[.agg CS,.slice A7 N c7,.int .i64 (qk:Int),.int .i64 (p:Int)] w' (fun e w''=>e=.returned (.bool (LS (nm qk) x))/\Fr Non w' w'')):=by
       intro w' h1 h2;have:=a1.out A7 c7 qk p w' h1 h2 bt b5;rwa [cf] at this
      obtain ⟨BL,bz⟩:=Aa (LS (nm qk) x);rw [bz.out] at b6;clear a1 hid aa d0;refine wp_region_held_drew (S:=fun w'=>Blk w' w.heap.size 32 CS/\cI w' b4 (o4+k) (qk:Int)/\Own w' w0.heap.size 3 1 A7 N c7 NC) (by kernel_rfl) ⟨B0,Q0,L0⟩ (fun hHeld=> ?_);clear hHeld;have uu:=aI B0 (aI Q0 L0);refine tkH 0 uu (h:=tkH 1 uu (h:=tkH 2 uu (h:=tkH 3 uu (h:=tkH 4 uu (h:=tkH 5 uu (h:=tkH 6 uu (h:=tkH 7 uu (h:=tkH 8 uu (h:=tkH 9 uu (h:=tkH 10 uu (h:=tkH 11 uu (h:=?_))))))))))));clear uu;simp only [zl];refine oG 12 (fun K hK=> ?_);go_simp;go_wp2_with (go_at_call 88;(with_reducible refine (b6.out _ G0 Ld.rd).mono ?_);rintro _ v1 ⟨rfl,b1⟩;have F1:=F0.trans b1 zr;have B1:=B0.fr F1 zq;have Q1:=F1.cell Q0 zq;have L1:=L0.fr F1 zr;have G1:=a0.trans F1 zr);refine hK.out _ _ ⟨B1,Q1,L1⟩ (fun hZ=> ?_);clear hZ hK K;try simp only [Ac,zl]
      refine tkH 13 ⟨B1,Q1,L1⟩ (h:=?_);simp only [zl];refine oD ?_;go_simp;go_wp2_with fail;go_meet;refine ⟨BL,rfl,fun e=>⟨av,fun j q hj hq=> ?_⟩,fun e q hq=> ?_,F1⟩
      ·
       rcases Nat.lt_or_ge j k with h1|h1
       · exact ca.out j q h1 hq
       ·
        obtain rfl:j=k:=by omega
        rw [au] at hq;injection hq with hq
        subst hq;rw [bz.out];exact e
      ·
       rw [au] at hq;injection hq with hq
       subst hq;rw [bz.out];exact e
     ·
      obtain rfl:k=M:=by omega
      have t2:decide ((k:Int)<(k:Int))=false:=decide_eq_false (by omega);have cm:decide (k<k)=false:=decide_eq_false (by omega);clear a1 hid aa;refine wp_region_held_drew (S:=fun w'=>Blk w' w.heap.size 32 CS) (by kernel_rfl) B0 (fun hHeld=> ?_);clear hHeld;refine tkH 0 B0 (h:=tkH 1 B0 (h:=tkH 2 B0 (h:=tkH 3 B0 (h:=tkH 4 B0 (h:=skH 5 B0 (h:=skH 6 B0 (h:=skH 7 B0 (h:=skH 8 B0 (h:=skH 9 B0 (h:=skH 10 B0 (h:=skH 11 B0 (h:=?_))))))))))));simp only [zl];refine skH 12 B0 (h:=tkH 13 B0 (h:=?_));simp only [zl];refine oD ?_;go_simp;go_wp2_with fail;go_meet;refine ⟨false,rfl,fun e=>absurd e Ay4,fun _ q hq=> ?_,F0⟩;rw [Az5 (by rw [a2.out];exact Ax4 _)] at hq
      cases hq
    case rest=>
    obtain ⟨b,rfl,bq,b0,fc⟩:=hcut;have aj:=ai.trans fc zr
    cases b
    case true=>
     obtain ⟨av,ay⟩:=bq rfl;clear bq b0 a1 hid aa;go_wp2_with fail;go_roundw
     case rel=>exact ⟨k+1,by go_num,by omega,ay,aj⟩
     case measure=>simp [intOf];omega
    case false=>
    have ay:=b0 rfl;clear bq b0 a1;have al:=ao.fr aj zr;obtain ⟨dk,dj⟩:=al.cap;have s1:(0:Int)<=(k:Int):=by omega
    have s2:(k:Int)<=(cx:Int):=by omega
    have s3:(k:Int)<=(M:Int):=by omega
    have s4:k<=cx:=by omega
    have s5:(k:Int).toNat=k:=by omega
    have a6:=Own.nil wc wc.heap.size 3 1;go_upto_region 13 with (first|(at_builtin;go_loud (refine Bc (base:=wc.heap.size) (.tmp 45) (.tmp 48) 22 rfl rfl rfl rfl Es a6 (al.rd.takeN (m:=k) a5) (fun u hu=>Ud ps u (Az6 hu)) (by omega) (by omega) (Ax4 _) ?_);intro A2 c2 w2 af cb b3))
    (try rw [Nat.zero_add,List.nil_append] at af)
    have F2:Fr Non wc w2:=(Fr.refl Non wc).trans cb (fun j hj e=>by cases e);have bf:=af.row;have bp:=Blk.new w2 3 #[.int .i64 (p:Int)];clear cb b3 a6;go_upto_region 14 with (first|(at_builtin;go_loud (refine Bc (base:=wc.heap.size) (.tmp 50) (.tmp 52) 22 rfl rfl rfl rfl Es (af.alloc (.cells #[.int .i64 (p:Int)] 3)) (Rd.blk (n:=1) (size:=1) bp rfl) (by simp [Value.oneCell']) (by omega) (by omega) (by rw [Ax7];have:=F2.size;omega) ?_);intro A3 c3 w3 az ck bv))
    have F3:Fr Non wc w3:=(F2.alloc (.cells #[.int .i64 (p:Int)] 3)).trans ck (fun j hj e=>by have:=(bf j e).1;omega);have bd:=az.row;have aw:=al.fr F3 zr;clear ck bv af;go_wp2_with (first|(at_builtin;go_loud (refine Bc (base:=wc.heap.size) (.tmp 54) (.tmp 57) 22 rfl rfl rfl rfl Es az (Rd.part aw.rd (lo:=k) (hi:=M) a5 (Ax4 _) _ (fun hh=>if_neg (by omega))) (fun u hu=>Ud ps u (A06 (Az6 hu))) (by omega) (by omega) (by have:=F3.size;omega) ?_);intro A4 c4 w4 a7 c9 cr));have F4:Fr Non wc w4:=F3.trans c9 (fun j hj e=>by have:=(bd j e).1;omega)
    have ch:(ps.map Qv).take (k*1)++[Value.int .i64 (p:Int)]++((ps.map Qv).drop k).take (M-k)=(ps.take k++[p]++ps.drop k).map Qv:=by
     rw [Nat.mul_one,Ay5 (l:=(ps.map Qv).drop k) (by rw [A07,Az1,a2.out];exact Ax4 _)];simp only [Ay8,List.map_take,List.map_drop];rfl
    have a9:Own w4 wc.heap.size 3 1 A4 (k+1+(M-k)) c4 ((ps.take k++[p]++ps.drop k).map Qv):=by
     rw [<- ch];exact a7
    have c5:Fr Non wo w4:=aj.trans F4 zr;have cl:w1.heap.size<=wc.heap.size:=Ay0 a3.size aj.size;have b2:Hid ((ps.take k++[p]++ps.drop k).length=k+1+(M-k)):=by show _=_;rw [Ax8,Ax8,A08,A07,a2.out,Nat.min_eq_left a5];rfl
    have bs:Hid ((ps.take k++[p]++ps.drop k).map nm=RT (i+1)):=by
     show _=_;rw [da.out];exact a8.out ps _ x p k cg.out cf (by rw [a2.out];exact a5) ca.out ay.out
    have bh:Hid (∀q∈ps.take k++[p]++ps.drop k,q<N):=by
     intro q hq
     rcases List.mem_append.1 hq with hq|hq
     ·
      rcases List.mem_append.1 hq with hq|hq
      · exact bb.out q (Az6 hq)
      · rw [List.mem_singleton.1 hq];exact b5
     · exact bb.out q (A06 hq)
    have fz:=a3.trans c5 zr;have ax:=a9.lower cl;clear a9 a7 az al aw ch;go_roundw
    case rel=>exact ⟨i+1,A4,c4,k+1+(M-k),_,by go_num,rfl,by omega,by omega,b2.out,bs.out,bh.out,ax,fz⟩
    case measure=>simp [intOf];omega
  ·
   obtain rfl:i=n:=by omega
   have t1:decide ((i:Int)<(i:Int))=false:=decide_eq_false (by omega);have c8:=br.fr hf zq;have cd:Hid (ps.map nm=RS):=by show _=_;rw [cg.out,ci.out]
   have de:Hid (RS.length=M):=by show _=_;rw [<- cd.out,Az1,a2.out]
   clear a1 aa ce a8 ci hr kp br b7;generalize wr=wo at*;clear wr;go_wp2_with fail
   go_loopw [11,12] (fun s v wi=>∃(k:Nat) (Ay:Option Addr) (cy:Nat) (xs:List Id),v=.int .i64 (k:Int)/\s=.slice Ay xs.length cy/\k<=M/\Hid (xs=RS.take k)/\Own wi wo.heap.size 38 3 Ay xs.length cy (xs.flatMap Id.cells)/\Fr Non wo wi) (fun _ v _=>M-(intOf v).toNat)
   case atStart=>exact ⟨0,none,0,[],rfl,rfl,Ax9 _,rfl,Own.nil _ _ _ _,Fr.refl _ _⟩
   case round=>
    obtain ⟨k,Ay,cy,xs,rfl,rfl,a5,bm,ab,ai⟩:=hrel;have a0:Fr Non w wr:=ak.trans ai zr;have bu:=ab.row;have dl:xs.length<=k:=by rw [bm.out,A08];omega
    by_cases av:k<M
    ·
     obtain ⟨qk,au⟩:∃qk,ps[k]? =some qk:=⟨_,Ax3 (by rw [a2.out];exact av)⟩;have bt:=bb.out qk (Ax5 au);obtain ⟨b4,o4,u4,rfl,_,ag,d0⟩:=ah.rd.at av;rw [Ax6,au] at ag;injection ag with ag
     subst ag;obtain ⟨bi,oi,rfl,y0,y1,y2⟩:=hid.out qk bt
     have dc:Hid (RS.take (k+1)=xs++[nm qk]):=by
      show _=_;have:RS[k]? =some (nm qk):=by rw [<- cd.out,Ax6,au];rfl
      rw [Db this,bm.out]
     generalize nm qk=z at*;obtain ⟨j1,j2,j3⟩:=ix k M
     obtain ⟨m1,m2,m3⟩:=ix qk N
     have Hb:cS wo w.heap.size 2 (some ⟨bi,oi,none⟩) N IC:=(c8.cell 2).trans g2.out;have Qb:cI wo b4 (o4+k) (qk:Int):=d0;obtain ⟨be,bx,bj⟩:=zk3 ak y0 y1 y2;have F0:Fr Non wo wr.drew:=ai.drew;obtain ⟨H0,Q0,ac,ae,ad⟩:=zk5 F0 Hb Qb be bx bj;have O0:Own wr.drew wo.heap.size 38 3 Ay xs.length cy (xs.flatMap Id.cells):=ab.drew;clear hid d0 y0 y1 y2 ab;go_upto_region 19 with (fail)
     refine wp_region_held_drew (S:=fun w'=>cS w' w.heap.size 2 (some ⟨bi,oi,none⟩) N IC/\cI w' b4 (o4+k) (qk:Int)/\cI w' bi (oi+qk*3) z.b/\cI w' bi (oi+qk*3+1) z.s/\cU w' bi (oi+qk*3+2) z.u) (by kernel_rfl) ⟨H0,Q0,ac,ae,ad⟩ (fun hHeld=> ?_);clear hHeld;have uu:=aI H0 (aI Q0 (aI ac (aI ae ad)));refine tkH 0 uu (h:=tkH 1 uu (h:=tkH 2 uu (h:=tkH 3 uu (h:=tkH 4 uu (h:=tkH 5 uu (h:=tkH 6 uu (h:=tkH 7 uu (h:=tkH 8 uu (h:=?_)))))))));clear uu;simp only [zl];refine oG 9 (fun K hK=> ?_);go_simp;have cq:Blk ((wr.alloc (.cells z.V 38)).drew) wr.heap.size 38 z.V:=Blk.new wr.drew 38 z.V;have O1:Own ((wr.alloc (.cells z.V 38)).drew) wo.heap.size 38 3 Ay xs.length cy (xs.flatMap Id.cells):=O0.alloc _;have F1:Fr Non wo ((wr.alloc (.cells z.V 38)).drew):=F0.alloc _;obtain ⟨H1,Q1,co,cp,c1⟩:=zk5 F1 Hb Qb be bx bj;refine hK.out _ _ ⟨H1,Q1,co,cp,c1⟩ (fun hZ=> ?_);clear hZ hK K;try simp only [Ac,zl]
     generalize (wr.alloc (.cells z.V 38)).drew=v1 at*;have c0:wo.heap.size<=v1.heap.size:=F1.size;refine oG 10 (fun K hK=> ?_);refine Ej (base:=wo.heap.size) (.tmp 65) (.tmp 74) 28 rfl rfl rfl Dp O1 (Rd.blk (n:=1) (size:=3) cq rfl) (by simp [Value.oneCell']) (by omega) (by omega) c0 ?_;intro A6 c6 v2 ax cz dd;have F2:Fr Non wo v2:=F1.trans cz (fun j hj e=>by have:=(bu j e).1;omega);obtain ⟨H2,Q2,cc,b8,b9⟩:=zk5 F2 Hb Qb be bx bj;refine hK.out _ _ ⟨H2,Q2,cc,b8,b9⟩ (fun hZ=> ?_);clear hZ hK K;try simp only [Ac,zl]
     refine tkH 11 ⟨H2,Q2,cc,b8,b9⟩ (h:=?_);simp only [zl];refine oD ?_;go_simp
     have bw:Own v2 wo.heap.size 38 3 A6 (xs++[z]).length c6 ((xs++[z]).flatMap Id.cells):=by
      rw [Ax8,List.flatMap_append];exact ax
     go_wp2_with fail;go_roundw
     case rel=>exact ⟨k+1,A6,c6,xs++[z],by go_num,by rw [Ax8];rfl,by omega,dc.out.symm,bw,F2⟩
     case measure=>simp [intOf];omega
    ·
     obtain rfl:k=M:=by omega
     have t2:decide ((k:Int)<(k:Int))=false:=decide_eq_false (by omega);have cw:xs=RS:=by rw [bm.out,Ay5 (by rw [de.out];exact Ax4 _)]
     subst cw;have fz:=ak.trans ai zr;have hd:=lh (show ∃(A:Option Addr) (c:Nat),ze (.slice Ay xs.length cy)=.returned (.slice A xs.length c)/\Own wr w.heap.size 38 3 A xs.length c (xs.flatMap Id.cells)/\Fr Non w wr from ⟨Ay,cy,rfl,ab.lower (Ay0 dg (Ay0 f1.size hf.size)),fz⟩);clear ab;go_wp2_with fail
     go_ret
     exact hd.out
end Oq
namespace Oq
theorem RowAt.lt {w:World} {base size n c:Nat} {t:TypeId} {A:Option Addr} {xs:List Value} (h:RowAt w base t size A n c xs) (h0:n≠0) {k:Nat} (hk:Ae A=some k):base<=k/\k<w.heap.size:=by
 rcases h.2 with h1|⟨k',cs,fr,e,hb,hh,_⟩
 · exact absurd h1 h0
 ·
  subst e;have e':k'=k:=by have h2:some k'=some k:=hk;exact Option.some.inj h2
  subst e';exact ⟨hb,(Array.getElem?_eq_some_iff.1 hh).1⟩
theorem RowAt.over {S:Nat->Prop} {w w':World} {base size n c:Nat} {t:TypeId} {A:Option Addr} {xs:List Value} (h:RowAt w base t size A n c xs) (hf:Fr S w w') (hS:∀k,base<=k->¬S k):RowAt w' base t size A n c xs:=
 h.fr hf (fun h0 k hk=>hS k (h.lt h0 hk).1)
theorem OpL.own.over {S:Nat->Prop} {w w':World} {base:Nat} {x:OpL} (h:x.own w base) (hf:Fr S w w') (hS:∀k,base<=k->¬S k):x.own w' base where
 past:=h.past.over hf hS
 path:=h.path.over hf hS
 nodes y hy:=(h.nodes y hy).over hf hS
 body:=h.body.over hf hS
 refs:=h.refs.over hf hS
 guards:=h.guards.over hf hS
 boxes:=h.boxes.over hf hS
 hist:=h.hist.over hf hS
 seals y hy:=(h.seals y hy).over hf hS
theorem GAt.over {S:Nat->Prop} {w w':World} {base:Nat} {g:Gph} (h:GAt w base g) (hf:Fr S w w') (hS:∀k,base<=k->¬S k):GAt w' base g where
 blk:=h.blk.fr hf (hS _ h.gbase)
 pos:=h.pos
 gbase:=h.gbase
 mbase:=h.mbase
 crow:=h.crow.fr hf (fun k hk=>hS k (h.crow.row k hk).1)
 own:=h.own.fr hf (fun k hk=>hS k (h.own.row k hk).1)
 few:=h.few
 mfew:=h.mfew
 levs:=h.levs
 cfew:=h.cfew
 cok:=h.cok
 map:=h.map.fr hf (hS _ h.mbase)
 node:=fun n hn=>by
  have k:=h.node n hn;exact ⟨k.own.over hf hS,k.ok,k.id,k.set⟩
def RgAt (w:World) (b o:Nat) (l:List Value):Prop:=World.rangeAt w b o l
theorem RgAt.fr {S:Nat->Prop} {w w':World} {b o:Nat} {l:List Value} (h:RgAt w b o l) (hf:Fr S w w') (hb:¬S b):RgAt w' b o l:=fun k v hv=>hf.cell (h k v hv) hb
end Oq
namespace Oq
attribute [local go_sem] Ay1 Ay2
theorem Ue {l:List Int} {k:Nat} {q x:Int} (h:l[k]? =some x):(l.take (k+1)).contains q=((l.take k).contains q||decide (q=x)):=by
 rw [Db h,Bool.eq_iff_iff,Bool.or_eq_true,Az7,Az7,List.mem_append,List.mem_singleton,decide_eq_true_eq]
theorem Uf (B n c:Nat) (A:Option Addr) (l:List Int) (x:Int) (w:World) (hn:Hid (l.length=n)) (hr:Rd w B 1 A n (l.map Iv)) (hnm:n<=1000000):
  Calls zp 40 #[.slice A n c,.int .i64 x] w fun e w'=>e=.returned (.bool (l.contains x))/\Fr Non w w':=by
 go_enter func40,ntmps40;go_wp2
 go_loopw [5] (fun v wr=>∃k:Nat,v=.int .i64 (k:Int)/\k<=n/\Hid ((l.take k).contains x=false)/\w=wr) (fun v _=>n-(intOf v).toNat)
 case atStart=>exact ⟨0,rfl,by omega,rfl,rfl⟩
 case round=>
  obtain ⟨k,rfl,hk,hh,rfl⟩:=hrel
  by_cases hlt:k<n
  ·
   obtain ⟨y,hy⟩:∃y,l[k]? =some y:=⟨_,Ax3 (by rw [hn.out];exact hlt)⟩;obtain ⟨b,off,u,rfl,hbB,hu,c0⟩:=hr.at hlt;rw [Ax6,hy] at hu;injection hu with hu
   subst hu;have c0':cI w b (off+k) y:=c0;clear c0;have hsn:=lh (Ue (q:=x) hy);obtain ⟨i1,i2,i3⟩:=ix k n
   by_cases he:y=x
   ·
    have hb:(y==x)=true:=beq_iff_eq.2 he
    have hfin:Hid (l.contains x=true):=by
     show _=_;rw [Az7];exact he▸Ax5 hy
    clear hy he;go_wp2
    go_ret
    exact ⟨by rw [hfin.out];rfl,Fr.refl _ _⟩
   ·
    have hb:(y==x)=false:=beq_eq_false_iff_ne.2 he
    have hfin:Hid ((l.take (k+1)).contains x=false):=by
     show _=_;rw [hsn.out,hh.out,decide_eq_false (fun e=>he e.symm)];rfl
    clear hy he;go_wp2;go_roundw
    case rel=>exact ⟨k+1,by go_num,by omega,hfin,by first|rfl|trivial⟩
    case measure=>first|(simp [intOf];done)|(simp [intOf];omega)
  ·
   obtain rfl:k=n:=by omega
   have hfin:Hid (l.contains x=false):=by have h:=hh.out;rw [Ay5 (by rw [hn.out];omega)] at h;exact h
   go_wp2
   go_ret
   exact ⟨by rw [hfin.out];rfl,Fr.refl _ _⟩
theorem Ar7 (B n c:Nat) (A:Option Addr) (l:List Int) (x:Int) (w:World) (hn:Hid (l.length=n)) (hr:Rd w B 1 A n (l.map Iv)) (hnm:n<=1000000):
  Calls zp 141 #[.slice A n c,.int .i64 x] w fun e w'=>(∃q:Int,e=.returned (.int .i64 q)/\Hid (decide (q>=0)=l.contains x))/\w=w':=by
 go_enter func141,ntmps141;go_wp2
 go_loopw [8] (fun v wr=>∃k:Nat,v=.int .i64 (k:Int)/\k<=n/\Hid ((l.take k).contains x=false)/\w=wr) (fun v _=>n-(intOf v).toNat)
 case atStart=>exact ⟨0,rfl,by omega,rfl,rfl⟩
 case round=>
  obtain ⟨k,rfl,hk,hh,rfl⟩:=hrel
  by_cases hlt:k<n
  ·
   obtain ⟨y,hy⟩:∃y,l[k]? =some y:=⟨_,Ax3 (by rw [hn.out];exact hlt)⟩;obtain ⟨b,off,u,rfl,hbB,hu,c0⟩:=hr.at hlt;rw [Ax6,hy] at hu;injection hu with hu
   subst hu;have c0':cI w b (off+k) y:=c0;clear c0;have hsn:=lh (Ue (q:=x) hy);obtain ⟨i1,i2,i3⟩:=ix k n
   by_cases he:y=x
   ·
    have hb:(y==x)=true:=beq_iff_eq.2 he;have hb':(x==y)=true:=beq_iff_eq.2 he.symm
    have hfin:Hid (decide ((k:Int)>=0)=l.contains x):=by
     show _=_;rw [List.contains_iff_mem.2 (he▸Ax5 hy)];exact decide_eq_true (by omega)
    clear hy he;go_wp2
    go_ret
    exact ⟨⟨_,rfl,hfin⟩,rfl⟩
   ·
    have hb:(y==x)=false:=beq_eq_false_iff_ne.2 he;have hb':(x==y)=false:=beq_eq_false_iff_ne.2 (fun e=>he e.symm)
    have hfin:Hid ((l.take (k+1)).contains x=false):=by
     show _=_;rw [hsn.out,hh.out,decide_eq_false (fun e=>he e.symm)];rfl
    clear hy he;go_wp2;go_roundw
    case rel=>exact ⟨k+1,by go_num,by omega,hfin,by first|rfl|trivial⟩
    case measure=>first|(simp [intOf];done)|(simp [intOf];omega)
  ·
   obtain rfl:k=n:=by omega
   have hfin:Hid (decide ((-1:Int)>=0)=l.contains x):=by have h:=hh.out;rw [Ay5 (by rw [hn.out];omega)] at h;show _=_;rw [h];rfl
   go_wp2
   go_ret
   exact ⟨⟨_,rfl,hfin⟩,rfl⟩
theorem Ar8 (B n c:Nat) (A:Option Addr) (l:List Int) (x:Int) (w:World) (hn:Hid (l.length=n)) (hr:Rd w B 1 A n (l.map Iv)) (hnm:n<=1000000):
  Calls zp 85 #[.slice A n c,.int .i64 x] w fun e w'=>e=.returned (.bool (l.contains x))/\Fr Non w w':=by
 have ki:=lh (Ar7 B n c A l x w hn hr hnm);go_enter func85,ntmps85;go_wp2_with (go_at_call 141;(with_reducible refine (ki.out).mono ?_);rintro _ w1 ⟨⟨q,rfl,hq⟩,rfl⟩;(have hq1:decide (q>=0)=l.contains x:=hq.out);(have hq2:decide (0<=q)=l.contains x:=hq.out);obtain ⟨LC,hLC⟩:=Aa (l.contains x);rw [hLC.out] at hq1 hq2)
 go_ret
 rw [hLC.out];exact ⟨rfl,Fr.refl _ _⟩
theorem Ug (n c c':Nat) (A A':Option Addr) (l:List Int) (w:World) (hn:Hid (l.length=n)) (hr:Rd w w.heap.size 1 A n (l.map Iv)) (hr':Rd w w.heap.size 1 A' n (l.map Iv)) (hnm:n<=1000000):
  Calls zp 28 #[.slice A n c,.slice A' n c'] w fun e w'=>e=.returned (.bool true)/\Fr Non w w':=by
 have t:((n:Int) !=(n:Int))=false:=by simp
 go_enter func28,ntmps28;go_wp2
 go_loopw [5] (fun v wr=>∃k:Nat,v=.int .i64 (k:Int)/\k<=n/\Fr Non w wr) (fun v _=>n-(intOf v).toNat)
 case atStart=>exact ⟨0,rfl,by omega,Fr.refl _ _⟩
 case round=>
  obtain ⟨k,rfl,hk,hf⟩:=hrel
  by_cases hlt:k<n
  ·
   obtain ⟨y,hy⟩:∃y,l[k]? =some y:=⟨_,Ax3 (by rw [hn.out];exact hlt)⟩;obtain ⟨b,off,u,rfl,hbB,hu,c0⟩:=(hr.fr hf zr).at hlt;rw [Ax6,hy] at hu;injection hu with hu
   subst hu;obtain ⟨b',off',u',rfl,hbB',hu',d0⟩:=(hr'.fr hf zr).at hlt;rw [Ax6,hy] at hu';injection hu' with hu'
   subst hu';have c0':cI wr b (off+k) y:=c0;have d0':cI wr b' (off'+k) y:=d0;clear c0 d0 hy;obtain ⟨i1,i2,i3⟩:=ix k n
   have e0:(y !=y)=false:=by simp
   go_upto_region 6 with (fail)
   go_quiet (fail)
   go_wp2;go_roundw
   case rel=>exact ⟨k+1,by go_num,by omega,hf.drewN _⟩
   case measure=>simp [intOf];omega
  ·
   obtain rfl:k=n:=by omega
   go_wp2
   go_ret
   exact ⟨rfl,hf⟩
end Oq
namespace Oq
attribute [local go_sem] Ay1 Ay2
attribute [local go_sem ↓] Cx Cj
def Ex (l:List Int) (w:World) (e:Ending) (w':World):Prop:=∃A c,e=.returned (.slice A l.length c)/\Own w' w.heap.size 3 1 A l.length c (l.map Iv)/\Fr Non w w'
end Oq
section
open Go.RowKit Go.Shelf
attribute [local go_sem] Oper.semAt_some
namespace Oq
attribute [local go_sem] Ay1 Ay2
attribute [local go_sem ↓] Gl
theorem Uh {N0:Nat} (W:World) (k:Nat) (h:Xof N0 W k):∃cs t fr,W.heap[k]? =some (.cells cs t fr):=by
 obtain ⟨_,cs,t,fr,h,_⟩:=h;exact ⟨cs,t,fr,h⟩
theorem Ui {N0:Nat} (A B:World) (k:Nat) (h:A.heap[k]? =B.heap[k]?) (hx:Xof N0 A k):Xof N0 B k:=by
 obtain ⟨h0,cs,t,fr,h1,h2⟩:=hx;exact ⟨h0,cs,t,fr,by rw [<- h];exact h1,h2⟩
theorem Ar9 {N0 base n c:Nat} {W:World} {A:Option Addr} {xs:List Value} (h:Own W base 3 1 A n c xs) (hb:N0<=base) {k:Nat} (hk:Ae A=some k):Xof N0 W k:=by
 have h0:=(h.row k hk).1
 rcases h.2 with ⟨hv,_⟩|⟨g,cap,cur,hv,_,hg,_⟩
 ·
  injection hv with hA _ _
  subst hA
  cases hk
 ·
  injection hv with hA _ _
  subst hA;injection hk with hk
  subst hk;exact ⟨Ay0 hb h0,_,_,_,hg,.inl rfl⟩
theorem As0 (l:List Pn) (row:List Id):(Ba l row).length<=row.length:=List.length_filter_le _ _
theorem Uj (base:Nat) (g:Gph) (B n c:Nat) (A:Option Addr) (ids:List Id) (w:World) (hg:GAt w base g) (hn:Hid (ids.length=n)) (hr:Rd w B 3 A n (ids.flatMap Id.cells)) (h14:n<=14) (hok:∀x∈ids,x.ok) (hnd:ids.Nodup)
  (hin:∀x∈ids,(plc g.pns x).isSome=true) (hchk:∀m∈g.pns,m.o.chk=0):
  Calls zp 29 #[.pointer (some ⟨g.gb,0,none⟩),.slice A n c] w (Ex (Ce g.pns (Af g.pns ids)) w):=by
 have a0:=Blk.new w 22 #[.slice none 0 0];have bd:Fr Non w (w.alloc (.cells #[.slice none 0 0] 22)):=(Fr.refl _ _).alloc _;have bo:(Ba g.pns (Af g.pns ids)).length<=14:=Ay0 (As0 _ _) (by rw [E7,hn.out];exact h14);have ar:=lh (fun (gB iB:Nat) (W0:World) h1 h2 h3=>T7 base g gB iB B n c A ids w W0 hg hn hr h14 hok hnd hin hchk h1 h2 h3);have ag:=lh (Aq2 g.pns (Af g.pns ids));have a1:Hid (∀(i:Nat) (x:Id),(Ba g.pns (Af g.pns ids))[i]? =some x->Dn g.pns (Ba g.pns (Af g.pns ids)) (i+1)=if (Dn g.pns (Ba g.pns (Af g.pns ids)) i).contains (Aw g.pns x)=true then Dn g.pns (Ba g.pns (Af g.pns ids)) i else Dn g.pns (Ba g.pns (Af g.pns ids)) i++[Aw g.pns x]):=fun i x h=>T3 g.pns h;have aw:Hid (∀i,(Dn g.pns (Ba g.pns (Af g.pns ids)) i).length<=i):=T4 g.pns _;have a4:Hid (Dn g.pns (Ba g.pns (Af g.pns ids)) 0=[]):=rfl;have ax:Hid (∀x,Gq g.pns x=#[.agg x.V,.int .i64 (Aw g.pns x)]):=fun _=>rfl;have bb:∀x,(Gq g.pns x).size=2:=fun _=>rfl;unfold Ex;obtain ⟨GB,ba⟩:=Aa g.gb;rw [ba.out] at ar ⊢;clear hg hr hin hchk hok hnd ba;generalize Ce g.pns (Af g.pns ids)=SL at*;generalize Ba g.pns (Af g.pns ids)=XS at*;generalize Gq g.pns=EN at*;generalize Aw g.pns=BO at*;generalize Dn g.pns XS=ST at*;refine callsIn_wide.1 (callsIn_of_wp_marks (n:=3) func29 rfl trivial ?_ rfl);simp only [ntmps29,Az8,List.length_cons,List.length_nil,Nat.reduceAdd,Nat.reduceSub,Array.replicate_succ,Array.replicate_zero,List.push_toArray,List.append_toArray,List.nil_append,List.cons_append];refine wpIn_wide.2 ?_;go_wp2_with fail;refine (T9 GB n c A _).mono ?_;rintro _ w1 ⟨rfl,a7,a2,aq,be⟩;have bn:=a0.fr aq zq;rw [Ax7] at a7 a2 be;go_wp2_with fail;have a5:Fr Non w w1:=bd.trans aq zr;have hz:w1.heap.size=w.heap.size+3:=by omega
 refine T5 (n:=3) (gf:=139) (lb:=#[.pointer (some ⟨w.heap.size+1,0,none⟩),.pointer (some ⟨w.heap.size+1+1,0,none⟩)]) rfl (enters_of func139 (by kernel_rfl) rfl) (encs:=EN) (xs:=XS)
  (X:=Xof w.heap.size) (Tr:=fun _=>False) (N0:=w.heap.size) bb (by omega) Uh Ui ?_ ⟨fun e=>e,fun e=>e⟩
  (fun i W=>∃A' c',Blk W w.heap.size 22 #[.slice A' (ST i).length c']/\Own W (w.heap.size+5) 3 1 A' (ST i).length c' ((ST i).map Iv)/\Fr Non w W) (fun _ _=>False) ?_ (fun _ _ _ h _=>h) ?_ ?_ ?_ (fun _ _ h _=>h.elim)
 ·
  intro W1 hf _;exact ar.out _ _ W1 (a5.trans hf zr) (a7.fr hf zq) (a2.fr hf zq)
 ·
  rintro i X Y ⟨A',c',hb,ho,hf⟩ au;have ab:=ho.row;refine ⟨A',c',hb.fr au (by omega),ho.fr au (fun k hk=> ?_),hf.trans au (fun k hk e=> ?_)⟩
  ·
   have:=ab k hk;omega
  · unfold Non;omega
 ·
  refine ⟨none,0,?_,?_,a5⟩
  · rw [a4.out];exact bn
  · rw [a4.out];exact Own.nil _ _ _ _
 ·
  rintro i x W hx ⟨A',c',hb,ho,hf⟩ bq;have aa:=a1.out i x hx;have al:(ST i).length<=14:=Ay0 (aw.out i) (by have:=(List.getElem?_eq_some_iff.1 hx).1;omega);rw [ax.out];simp only [];obtain ⟨D,hD⟩:=Aa (BO x);rw [hD.out] at aa ⊢
  gi_wp2
  refine ⟨Fr.refl _ _,?_⟩;intro W2 af;have ai:Blk W2 w.heap.size 22 #[.slice A' (ST i).length c']:=hb.fr af (by omega);have ae:=ho.row;have ao:Own W2 (w.heap.size+5) 3 1 A' (ST i).length c' ((ST i).map Iv):=ho.fr af (fun k hk=>by have:=ae k hk;omega);have a6:Fr Non w W2:=hf.trans af (fun k hk e=>by unfold Non;omega);have br:=af.size;clear hb ho hf af ae hD ax a1 aw ar ag;obtain ⟨xs,bl⟩:=Aa (ST i);rw [bl.out] at ai ao aa al;have bf:=ai.cell 0;have az:=lh (Ar8 W2.heap.size xs.length c' A' xs D W2 rfl ao.rd (by omega));obtain ⟨BC,bg⟩:=Aa (xs.contains D);rw [bg.out] at az aa
  cases BC with
  |true=>
   rw [if_pos rfl] at aa
   gi_wp2_with (first|(refine ⟨trivial,rfl,?_⟩;gi_at_call 85;refine (I9 (az.out)).mono ?_;rintro _ W3 ⟨rfl,ac⟩))
   refine ⟨⟨A',c',?_,?_,a6.trans ac zr⟩,ac.of_non _⟩
   · rw [aa];exact ai.fr ac zq
   · rw [aa];exact ao.fr ac zr
  |false=>
   rw [if_neg Ay4] at aa;have aj:=lh aa;clear aa
   gi_wp2_with (first
    |(refine ⟨trivial,rfl,?_⟩;gi_at_call 85;refine (I9 (az.out)).mono ?_;rintro _ W3 ⟨rfl,ac⟩;have ap:=ai.fr ac zq;have ay:=ao.fr ac zr;have bc:=ap.cell 0;have bi:=ay.ne ap (by decide);have ab:=ay.row;have bp:=ap.lt;have bk:=ac.size)
    |(gi_at_builtin;go_loud (refine Qa (.tmp 17) (.tmp 19) 22 rfl rfl rfl rfl Es (ay.alloc _) (Rd.one _ _ _) (by simp [Value.oneCell']) (by omega) (by omega) (by simp;omega) ?_);intro A1 c1 w4 ad a9 bh;have av:=(ap.alloc _).fr a9 (fun e=>bi e);have bj:=av.cell 0;have bm:=av.frozen 0))
   have ak:=ad.row
   have ah:Own (w4.setCell ⟨w.heap.size,0,none⟩ (.slice A1 (xs.length+1) c1)) (w.heap.size+5) 3 1 A1 (xs++[D]).length c1 ((xs++[D]).map Iv):=by
    rw [Ay8,Ax8];exact ad.fr ((Fr.refl (One w.heap.size) w4).setOne 0 _) (fun k hk e=>by have:=(ak k hk).1;unfold One at e;omega)
   have a3:Fr (Xof w.heap.size W2) W2 (w4.setCell ⟨w.heap.size,0,none⟩ (.slice A1 (xs.length+1) c1)):=
    ((((ac.of_non (Xof w.heap.size W2)).alloc _).trans a9 (fun k _ e=>Ar9 ao (by omega) e))).setCell (fun _=>(show Xof w.heap.size W2 w.heap.size from ⟨Ax4 _,_,_,_,ai,.inr rfl⟩)) _
   refine ⟨⟨A1,c1,?_,?_,a6.trans a3 (fun k hk e=>by have:=e.1;unfold Non;omega)⟩,a3⟩
   · rw [aj.out,Ax8];exact av.set 0 _
   · rw [aj.out];exact ah
 ·
  rintro W ⟨A',c',hb,ho,hf⟩ hD;rw [ag.out] at hb ho;have bf:=hb.cell 0;have ab:=ho.row;have a8:Fr (fun k=>k=w1.heap.size) W (W.putObj w1.heap.size (.deferred none)):=Fr.putOne _ _ _;have aq:=lh ((ho.fr a8 (fun k hk e=>by have:=(ab k hk).1;omega)).lower (base':=w.heap.size) (by omega));have af:=lh (hf.trans a8 (fun k hk e=>by omega));clear ag a1 aw ar ax;go_wp2;refine ⟨by simp,.inl ⟨_,_,rfl,run_takeDeferred hD,?_⟩⟩;exact ⟨_,results_tmp rfl _ _ _,A',c',rfl,aq.out,af.out⟩
end Oq
end
end Go.Proofs.YtihfebhfgliojaaGreatDoor
