/-
  Contracts of the functions that the claim's statement reaches, walked one by one (part 19).
  Conditions: as each theorem says.
-/
import Derived.ControlIn
import Derived.Test.YtihfebhfgliojaaGreatDoorRkO18
set_option maxRecDepth 100000
set_option maxHeartbeats 16000000
open Array renaming replicate_succ->Av7,replicate_zero->Av8
open Bool renaming not_false->As9,not_true->At0,and_eq_true->At2,false_ne_true->At6
open List renaming getElem?_eq_getElem->At3,not_mem_nil->At5,length_append->At7,mem_of_getElem?->At8,filter_append->At9,filter_nil->Au0,take_of_length_le->Au1,getElem?_map->Au3,size_toArray->Au4,take_length->Au5,length_singleton->Au6,getElem?_of_mem->Au7,contains_iff_mem->Au9,mem_cons_self->Av0,foldl_append->Av1,filter_cons_of_pos->Av2,filter_cons_of_neg->Av3,getElem?_eq_none->Av5,length_cons->Av6,push_toArray->Av9,append_toArray->Aw0,cons_append->Aw1
open Nat renaming zero_le->As8,le_refl->At1,le_trans->Au2
open Go.World renaming size_alloc->As7,putObj_heap_other->At4,putObj_heap_same->Au8,alloc_heap_new->Av4
open Go.Proofs.Tryz
open Go.Proofs.Tryz renaming prog->zp
open Go.Lib renaming hid->lh
open List renaming set->zl
open Go.Ending renaming returned->ze
namespace Go.Proofs.YtihfebhfgliojaaGreatDoor
section
open Go.RowKit Go.Sort
attribute [local go_sem ↓] Go.wp_at_zero Go.wp_at_succ
namespace Oq
attribute [local go_sem] As9 At0
theorem S7 (base:Nat) (g:Gph) (x y:Id) (w:World) (hg:GAt w base g) (hx:x.ok) (hy:y.ok):
  Calls zp 83 #[.agg #[.pointer (some ⟨g.gb,0,none⟩)],.agg x.V,.agg y.V] w fun e w'=>e=.returned (.int .i64 (Ec g.pns x y))/\Fr Non w w':=by
 have kx:Hid (∀w',Fr Non w w'->Calls zp 72 #[.pointer (some ⟨g.gb,0,none⟩),.agg x.V] w' fun e w''=>e=.returned (.int .i64 (Ak g.pns x:Int))/\Fr Non w' w''):=fun w' hf=>by
  have:=Om base g x w' (hg.fr hf) hx;rwa [g.level_eq] at this
 have ky:Hid (∀w',Fr Non w w'->Calls zp 72 #[.pointer (some ⟨g.gb,0,none⟩),.agg y.V] w' fun e w''=>e=.returned (.int .i64 (Ak g.pns y:Int))/\Fr Non w' w''):=fun w' hf=>by
  have:=Om base g y w' (hg.fr hf) hy;rwa [g.level_eq] at this
 have ag:=lh (An2 g.pns x y);have k1:=lh (fun w'=>Lb x y w');have k2:=lh (fun w'=>Lb y x w');unfold Ae at k1 k2;obtain ⟨GB,ak⟩:=Aa g.gb;rw [ak.out] at kx ky ⊢;clear hg ak hx hy;generalize Ak g.pns x=LX at*;generalize Ak g.pns y=LY at*;generalize Ec g.pns x y=R at*;generalize Id.less x y=BX at*;generalize Id.less y x=BY at*;have kc:Hid (∀w',Calls zp 138 #[.int .i64 (LX:Int),.int .i64 (LY:Int)] w' fun e w''=>e=.returned (.int .i64 (Bq (LX:Int) (LY:Int)))/\Fr Non w' w''):=fun w'=>(Nz _ _ w').mono fun _ _ h=>⟨h.1,h.2▸Fr.refl _ _⟩;have ko:Hid (∀(a b:Int) (k:Nat) w',Blk w' k 3 #[.int .i64 a,.int .i64 b]->Calls zp 137 #[.slice (some ⟨k,0,none⟩) 2 2] w' fun e w''=>e=.returned (.int .i64 (Ev a b))/\Fr Non w' w''):=fun a b k w' hk=>(An1 a b k w' hk).mono fun _ _ h=>⟨h.1,h.2▸Fr.refl _ _⟩;generalize Bq (LX:Int) (LY:Int)=CC at*;have bg:=((Blk.new w 136 #[.pointer (some ⟨GB,0,none⟩)]).alloc (.cells x.V 38)).alloc (.cells y.V 38);have ba:=(Blk.new (w.alloc (.cells #[.pointer (some ⟨GB,0,none⟩)] 136)) 38 x.V).alloc (.cells y.V 38);have bb:=Blk.new ((w.alloc (.cells #[.pointer (some ⟨GB,0,none⟩)] 136)).alloc (.cells x.V 38)) 38 y.V;rw [As7] at ba;rw [As7,As7] at bb;have f0:Fr Non w (((w.alloc (.cells #[.pointer (some ⟨GB,0,none⟩)] 136)).alloc (.cells x.V 38)).alloc (.cells y.V 38)):=(((Fr.refl Non w).alloc _).alloc _).alloc _;have r0:=bg.cell 0;have a0:=ba.cell 0;have a1:=ba.cell 1;have a2:=ba.cell 2;have b0:=bb.cell 0;have b1:=bb.cell 1;have b2:=bb.cell 2;clear bg ba bb;go_enter func83,ntmps83;go_upto_region 1 with (fail)
 generalize ((w.alloc (.cells #[.pointer (some ⟨GB,0,none⟩)] 136)).alloc (.cells x.V 38)).alloc (.cells y.V 38)=w0 at*;change w0.cell? ⟨w.heap.size,0,none⟩=some (.pointer (some ⟨GB,0,none⟩)) at r0;change w0.cell? ⟨w.heap.size+1,0,none⟩=some (.int .i64 x.b) at a0;change w0.cell? ⟨w.heap.size+1,1,none⟩=some (.int .i64 x.s) at a1;change w0.cell? ⟨w.heap.size+1,2,none⟩=some (.int .u64 (x.u:Int)) at a2;change w0.cell? ⟨w.heap.size+1+1,0,none⟩=some (.int .i64 y.b) at b0;change w0.cell? ⟨w.heap.size+1+1,1,none⟩=some (.int .i64 y.s) at b1;change w0.cell? ⟨w.heap.size+1+1,2,none⟩=some (.int .u64 (y.u:Int)) at b2;obtain ⟨V,hV⟩:=Aa (if BX=true then (-1:Int) else if BY=true then 1 else 0);rw [hV.out] at ag
 go_upto_block 0 with (fail)
 go_cut [7] from 8 to 15 (fun s wc=>s=.int .i64 V/\Fr Non w0 wc)
 case first=>
  cases BX
  case true=>
   go_wp2_with (go_at_call 116;(with_reducible refine (k1.out _).mono ?_);rintro _ w1 ⟨rfl,f1⟩);go_meet;exact ⟨congrArg _ hV.out,f1⟩
  case false=>
   have ah:Hid (∀v,Fr Non w0 v->cI v (w.heap.size+1) 0 x.b/\cI v (w.heap.size+1) 1 x.s/\cU v (w.heap.size+1) 2 x.u/\cI v (w.heap.size+1+1) 0 y.b/\cI v (w.heap.size+1+1) 1 y.s/\cU v (w.heap.size+1+1) 2 y.u):=fun v hf=>⟨hf.cell a0 zq,hf.cell a1 zq,hf.cell a2 zq,hf.cell b0 zq,hf.cell b1 zq,hf.cell b2 zq⟩
   cases BY
   all_goals
    go_wp2_with (first
     |(go_at_call 116;(with_reducible refine (k1.out _).mono ?_);rintro _ w1 ⟨rfl,f1⟩;obtain ⟨a0,a1,a2,b0,b1,b2⟩:=ah.out _ f1)
     |(go_at_call 116;(with_reducible refine (k2.out _).mono ?_);rintro _ w2 ⟨rfl,f2⟩))
    go_meet;exact ⟨congrArg _ hV.out,f1.trans f2 zr⟩
 case rest=>
 obtain ⟨rfl,fc⟩:=hcut;clear hV k1 k2;have fw:=f0.trans fc zr;have B0:=fc.cell r0 zq;have ac:=fc.cell a0 zq;have aa:=fc.cell a1 zq;have ab:=fc.cell a2 zq;have af:=fc.cell b0 zq;have ad:=fc.cell b1 zq;have ae:=fc.cell b2 zq;clear r0 a0 a1 a2 b0 b1 b2;go_upto_region 6 with (fail)
 have F0:Fr Non wc wc.drew:=(Fr.refl Non wc).drew;have G0:Fr Non w wc.drew:=fw.drew;refine wp_region_held_drew (S:=fun w'=>w'.cell? ⟨w.heap.size,0,none⟩=some (.pointer (some ⟨GB,0,none⟩))/\cI w' (w.heap.size+1) 0 x.b/\cI w' (w.heap.size+1) 1 x.s/\cU w' (w.heap.size+1) 2 x.u/\cI w' (w.heap.size+1+1) 0 y.b/\cI w' (w.heap.size+1+1) 1 y.s/\cU w' (w.heap.size+1+1) 2 y.u) (by kernel_rfl) ⟨B0,ac,aa,ab,af,ad,ae⟩ (fun hHeld=> ?_);clear hHeld;have uu:=aI B0 (aI ac (aI aa (aI ab (aI af (aI ad ae)))));refine tkH 0 uu (h:=tkH 1 uu (h:=tkH 2 uu (h:=tkH 4 uu (h:=tkH 5 uu (h:=tkH 6 uu (h:=tkH 9 uu (h:=?_)))))));clear uu;simp only [zl];refine oG 3 (fun K hK=> ?_);go_simp;go_wp2_with (go_at_call 72;(with_reducible refine (kx.out _ G0).mono ?_);rintro _ v1 ⟨rfl,bo⟩;have F1:=F0.trans bo zr;have B1:=F1.cell B0 zq;have bl:=F1.cell ac zq;have bq:=F1.cell aa zq;have bs:=F1.cell ab zq;have a8:=F1.cell af zq;have bd:=F1.cell ad zq;have bk:=F1.cell ae zq;have G1:=fw.trans F1 zr);refine hK.out _ _ ⟨B1,bl,bq,bs,a8,bd,bk⟩ (fun hZ=> ?_);clear hZ hK K;try simp only [Ad,zl]
 refine oG 7 (fun K hK=> ?_);go_simp;go_wp2_with (go_at_call 72;(with_reducible refine (ky.out _ G1).mono ?_);rintro _ v2 ⟨rfl,a4⟩;have F2:=F1.trans a4 zr;have B2:=F2.cell B0 zq;have au:=F2.cell ac zq;have a9:=F2.cell aa zq;have az:=F2.cell ab zq;have bn:=F2.cell af zq;have bj:=F2.cell ad zq;have bm:=F2.cell ae zq;have G2:=fw.trans F2 zr);refine hK.out _ _ ⟨B2,au,a9,az,bn,bj,bm⟩ (fun hZ=> ?_);clear hZ hK K;try simp only [Ad,zl]
 refine oG 8 (fun K hK=> ?_);go_simp;go_wp2_with (go_at_call 138;(with_reducible refine (kc.out _).mono ?_);rintro _ v3 ⟨rfl,br⟩;have F3:=F2.trans br zr;have B3:=F3.cell B0 zq;have ax:=F3.cell ac zq;have a3:=F3.cell aa zq;have a6:=F3.cell ab zq;have av:=F3.cell af zq;have bp:=F3.cell ad zq;have bc:=F3.cell ae zq;have G3:=fw.trans F3 zr);refine hK.out _ _ ⟨B3,ax,a3,a6,av,bp,bc⟩ (fun hZ=> ?_);clear hZ hK K;try simp only [Ad,zl]
 refine oG 10 (fun K hK=> ?_);go_simp;have aw:=Blk.new v3 3 #[.int .i64 CC,.int .i64 V];have ar:Fr Non v3 (v3.alloc (.cells #[.int .i64 CC,.int .i64 V] 3)):=(Fr.refl _ _).alloc _;have F4:=F3.trans ar zr;have B4:=F4.cell B0 zq;have bi:=F4.cell ac zq;have be:=F4.cell aa zq;have ay:=F4.cell ab zq;have bf:=F4.cell af zq;have a5:=F4.cell ad zq;have a7:=F4.cell ae zq;have G4:=fw.trans F4 zr;refine hK.out _ _ ⟨B4,bi,be,ay,bf,a5,a7⟩ (fun hZ=> ?_);clear hZ hK K;try simp only [Ad,zl]
 generalize v3.alloc (.cells #[.int .i64 CC,.int .i64 V] 3)=v4 at*;refine oG 11 (fun K hK=> ?_);go_simp;go_wp2_with (go_at_call 137;(with_reducible refine (ko.out _ _ _ _ aw).mono ?_);rintro _ v5 ⟨rfl,bh⟩;have F5:=F4.trans bh zr;have B5:=F5.cell B0 zq;have ao:=F5.cell ac zq;have ai:=F5.cell aa zq;have ap:=F5.cell ab zq;have aj:=F5.cell af zq;have al:=F5.cell ad zq;have aq:=F5.cell ae zq;have G5:=fw.trans F5 zr);refine hK.out _ _ ⟨B5,ao,ai,ap,aj,al,aq⟩ (fun hZ=> ?_);clear hZ hK K;try simp only [Ad,zl]
 refine tkH 12 ⟨B5,ao,ai,ap,aj,al,aq⟩ (h:=?_);simp only [zl];refine oD ?_;go_simp;go_wp2_with fail
 go_ret
 exact ⟨by rw [<- ag.out];rfl,G5⟩
theorem An3 (base:Nat) (g:Gph) (x y:Id) (w:World) (hg:GAt w base g) (hx:x.ok) (hy:y.ok):
  Calls zp 33 #[.pointer (some ⟨g.gb,0,none⟩),.agg x.V,.agg y.V] w (Ae (Bj g.pns x y) w):=by
 have ba:=(Blk.new w 38 x.V).alloc (.cells y.V 38);have bb:=Blk.new (w.alloc (.cells x.V 38)) 38 y.V;rw [As7] at bb;have f0:Fr Non w ((w.alloc (.cells x.V 38)).alloc (.cells y.V 38)):=((Fr.refl Non w).alloc _).alloc _;have kc:=lh (fun (w':World) (hf:Fr Non w w')=>S7 base g x y w' (hg.fr hf) hx hy);have hlt:=lh (Fz g.pns x y);unfold Ab at hlt;obtain ⟨GB,hGB⟩:=Aa g.gb;rw [hGB.out] at kc ⊢;clear hg hGB hx hy;generalize Ec g.pns x y=CC at*;generalize Bj g.pns x y=R at*;unfold Ae;have a0:=ba.cell 0;have a1:=ba.cell 1;have a2:=ba.cell 2;have b0:=bb.cell 0;have b1:=bb.cell 1;have b2:=bb.cell 2;clear ba bb;go_enter func33,ntmps33;go_upto_region 1 with (fail)
 generalize (w.alloc (.cells x.V 38)).alloc (.cells y.V 38)=w0 at*;change w0.cell? ⟨w.heap.size,0,none⟩=some (.int .i64 x.b) at a0;change w0.cell? ⟨w.heap.size,1,none⟩=some (.int .i64 x.s) at a1;change w0.cell? ⟨w.heap.size,2,none⟩=some (.int .u64 (x.u:Int)) at a2;change w0.cell? ⟨w.heap.size+1,0,none⟩=some (.int .i64 y.b) at b0;change w0.cell? ⟨w.heap.size+1,1,none⟩=some (.int .i64 y.s) at b1;change w0.cell? ⟨w.heap.size+1,2,none⟩=some (.int .u64 (y.u:Int)) at b2;go_wp2_with (go_at_call 83;(with_reducible refine (kc.out _ f0).mono ?_);rintro _ w1 ⟨rfl,f1⟩)
 go_ret
 exact ⟨by rw [<- hlt.out];rfl,f0.trans f1 zr⟩
theorem An4 (base:Nat) (g:Gph) (w:World) (hg:GAt w base g):Eu w 83 #[.agg #[.pointer (some ⟨g.gb,0,none⟩)]] #[] (Ec g.pns) where
 enters:=enters_of func83 (by kernel_rfl) rfl
 tells x y v hf hx hy:=S7 base g x y v (hg.fr hf) hx hy
theorem S8 (base:Nat) (g:Gph) (B n c:Nat) (A:Option Addr) (ids:List Id) (w:World) (hg:GAt w base g) (hn:Hid (ids.length=n)) (hr:Rd w B 3 A n (ids.flatMap Id.cells)) (h14:n<=14) (hok:∀x∈ids,x.ok) (hnd:ids.Nodup):
  Calls zp 27 #[.pointer (some ⟨g.gb,0,none⟩),.slice A n c] w (Ca (Af g.pns ids) w):=by
 have kl:=lh (Ma B n c A _ w hr (Id.cells_one ids) (by omega))
 have ks:Hid (∀(A':Option Addr) (c':Nat) (w':World),Own w' w.heap.size 38 3 A' n c' (ids.flatMap Id.cells)->Fr Non w w'->Calls zp 82 #[.slice A' n c',.func (.func 83) #[.agg #[.pointer (some ⟨g.gb,0,none⟩)]] #[]] w' fun e w''=>e=.returned (.tuple #[])/\Own w'' w.heap.size 38 3 A' n c' ((Af g.pns ids).flatMap Id.cells)/\Fr Non w w''):=by
  intro A' c' w' ho hf;have hsz:ids.toArray.size=n:=by rw [Au4];exact hn.out
  have hS:Srt w w' w.heap.size A' c' ids.toArray:=⟨by rw [hsz];exact ho,hf,hok,At1 _⟩;refine (Am7 w w.heap.size c' A' ids.toArray n _ _ _ (Ec g.pns) w' (An4 base g w hg) hS hsz (by omega) h14 (Am8 g.pns) (fun i j hi hj hne=>Am9 g.pns hnd i j (by rw [hsz];exact hi) (by rw [hsz];exact hj) hne)).mono ?_;rintro e w'' ⟨h1,d',h2,h3,h4,h5⟩;have h6:=An0 h4 h3 h5;refine ⟨h1,?_,h2.fr⟩;have h7:=h2.own;rw [h6,h3,hsz] at h7;exact h7
 have hlen:Hid ((Af g.pns ids).length=n):=by show _=_;rw [Et,hn.out]
 unfold Bc at kl;unfold Ca;rw [hlen.out];obtain ⟨GB,hGB⟩:=Aa g.gb;rw [hGB.out] at ks ⊢;clear hg hGB hr hok hnd hn hlen;generalize Af g.pns ids=RS at*;go_enter func27,ntmps27
 go_wp2_with (first
  |(go_at_call 81;(with_reducible refine (kl.out).mono ?_);rintro _ w1 ⟨A1,c1,rfl,o1,f1⟩)
  |(go_at_call 82;(with_reducible refine (ks.out _ _ _ o1 f1).mono ?_);rintro _ w2 ⟨rfl,o2,f2⟩))
 go_ret
 exact ⟨A1,c1,rfl,o2,f2⟩
end Oq
end
section
open Go.RowKit
namespace Oq
theorem An5 {cards:List Cd} {o:Op} (h:An cards [] o=0):o.kind=1:=by
 have T:=Gp h;refine (Kf T.chk).1 ?_
 cases hp:o.past with
 |nil=>rfl
 |cons x r=>
  obtain ⟨i,hi⟩:=T.past x (by rw [hp];exact Av0);simp [plc] at hi
theorem inR_iff {n lo hi:Int}:inR n lo hi=true<->lo<=n/\n<=hi:=by
 unfold inR;rw [At2,decide_eq_true_iff,decide_eq_true_iff]
theorem S9 {o:Op} (h:o.chk=0):1<=o.by_/\(o.kind=2->1<=o.dev)/\(o.kind=13->1<=o.dev):=by
 have hn:=(chk_ok.1 h).2.2.1;unfold Op.numsB at hn;rw [At2,At2,At2] at hn;obtain ⟨⟨⟨h1,_⟩,_⟩,h4⟩:=hn;refine ⟨(inR_iff.1 h1).1,fun hk=> ?_,fun hk=> ?_⟩
 ·
  rw [hk,if_neg (by decide),if_pos rfl,At2] at h4;exact (inR_iff.1 h4.1).1
 ·
  rw [hk] at h4;simp only [Int.reduceEq,if_false,if_true,At2] at h4;exact (inR_iff.1 h4.1.2).1
def Kl (k:Int):Bool:=(k==1)||((k==2)||(k==13))
theorem An6 {o:Op} (h:o.chk=0):decide (0<Fl o)=Kl o.kind:=by
 obtain ⟨h1,h2,h3⟩:=S9 h;unfold Fl Kl
 by_cases k1:o.kind=1
 ·
  rw [if_pos k1,k1];exact decide_eq_true (by omega)
 ·
  rw [if_neg k1]
  by_cases k2:o.kind=2\/o.kind=13
  ·
   rw [if_pos k2]
   rcases k2 with k2|k2
   · rw [k2];exact decide_eq_true (by have:=h2 k2;omega)
   · rw [k2];exact decide_eq_true (by have:=h3 k2;omega)
  ·
   rw [if_neg k2,beq_eq_false_iff_ne.2 k1,beq_eq_false_iff_ne.2 (fun e=>k2 (.inl e)),beq_eq_false_iff_ne.2 (fun e=>k2 (.inr e))];rfl
def Av (l:List Pn) (row:List Id):List Id:=row.filter (fun x=>decide (0<As l x))
theorem Ta (l:List Pn) (row:List Id) (d:Int):Ea l row d=(Av l row).find? (fun x=>As l x==d):=by
 unfold Ea Av;rw [List.find?_filter];refine congrArg (fun f=>List.find? f row) (funext fun x=> ?_);generalize decide (0<As l x)=p;generalize (As l x==d)=q
 cases p<;>cases q<;>rfl
def Fm (l:List Pn) (out:List Int) (x:Id):List Int:=if out.contains (As l x)=true then out else out++[As l x]
theorem Tc (l:List Pn) (row:List Id):∀k,k<=row.length->Bb l row k=(Av l (row.take k)).foldl (Fm l) []
 |0,_=>rfl
 |k+1,h=>by
  have hk:k<row.length:=by omega
  have hx:row[k]? =some row[k]:=At3 hk;unfold Bb;rw [hx,Tc l row k (by omega),Dh hx];dsimp only;unfold Av;rw [At9,Av1];generalize ((row.take k).filter (fun x=>decide (0<As l x))).foldl (Fm l) []=out;generalize row[k]=y
  by_cases h0:0<As l y
  ·
   rw [decide_eq_true h0,Av2 (by rw [decide_eq_true h0]),Au0,Bool.true_and];show _=Fm l out y;unfold Fm
   cases out.contains (As l y)<;>rfl
  ·
   rw [decide_eq_false h0,Av3 (by rw [decide_eq_false h0];exact At6),Au0,Bool.false_and,if_neg At6];rfl
theorem An7 (l:List Pn) (row:List Id):Cc l row=(Av l row).foldl (Fm l) []:=by
 unfold Cc;rw [Tc l row _ (At1 _),Au5]
def Dd (l:List Pn) (xs:List Id) (k:Nat):List Int:=(xs.take k).foldl (Fm l) []
theorem Td (l:List Pn) {xs:List Id} {k:Nat} {x:Id} (h:xs[k]? =some x):Dd l xs (k+1)=Fm l (Dd l xs k) x:=by
 unfold Dd;rw [Dh h,Av1];rfl
theorem An8 (l:List Pn) (row:List Id):Dd l (Av l row) (Av l row).length=Cc l row:=by
 unfold Dd;rw [Au5,An7]
theorem Te (l:List Pn) (xs:List Id):∀k,(Dd l xs k).length<=k
 |0=>At1 _
 |k+1=>by
  have ih:=Te l xs k
  cases hx:xs[k]? with
  |none=>
   have hk:xs.length<=k:=List.getElem?_eq_none_iff.1 hx
   have e:Dd l xs (k+1)=Dd l xs k:=by
    unfold Dd;rw [Au1 hk,Au1 (by omega)]
   rw [e];omega
  |some x=>
   rw [Td l hx];unfold Fm
   split
   · omega
   ·
    rw [At7,Au6];omega
theorem An9 (l:List Pn) (ids:List Id):1<=lvl l ids:=by
 unfold lvl
 suffices H:∀t:Nat,1<=t->1<=ids.foldl (fun t id=>max t (Ak l id+1)) t from H 1 (At1 _)
 induction ids with
 |nil=>intro t h;exact h
 |cons x r ih=>intro t h;exact ih _ (by dsimp only;omega)
theorem Ao0 {l:List Pn} {ids:List Id} {x:Id} (h:x∈ids) (hl:1<=Ak l x):2<=lvl l ids:=by
 have:=Px (l:=l) h;omega
theorem Rows.lev_one {cards:List Cd} {l:List Pn} (h:Rows cards l) {i:Nat} {n:Pn} (hi:l[i]? =some n):(i=0->n.lev=1)/\(i≠0->2<=n.lev):=by
 have hn:=h.ok i n hi;refine ⟨fun h0=> ?_,fun h0=> ?_⟩
 ·
  have hp:=(Kf hn.chk).2 ((h.first hi).2 h0);rw [hn.lev,hp];rfl
 ·
  have hp:n.o.past≠[]:=fun e=>h0 ((h.first hi).1 ((Kf hn.chk).1 e))
  cases hq:n.o.past with
  |nil=>exact absurd hq hp
  |cons x r=>
   have hm:x∈n.o.past:=by rw [hq];exact Av0
   obtain ⟨p,_,hpl⟩:=hn.par x hm;obtain ⟨m,hpm,_⟩:=Bt hpl;rw [hn.lev];refine Ao0 hm ?_;rw [Fc hpl hpm,(h.ok p m hpm).lev];exact An9 _ _
theorem Tf {cards:List Cd} {l:List Pn} (h:Rows cards l) {n:Pn} (h0:l[0]? =some n) {ids:List Id} (hp:ids.Perm (l.map Pn.id)):(Af l ids)[0]? =some n.id:=by
 have hlen:0<(Af l ids).length:=by
  rw [Et,hp.length_eq,List.length_map];exact (List.getElem?_eq_some_iff.1 h0).1
 have hx:(Af l ids)[0]? =some (Af l ids)[0]:=At3 hlen;have hmem:n.id∈Af l ids:=((El l ids).trans hp).mem_iff.2 (List.mem_map.2 ⟨n,At8 h0,rfl⟩);obtain ⟨j,hj⟩:=Au7 hmem
 rcases Nat.eq_zero_or_pos j with e|hj0
 · rw [e] at hj;exact hj
 ·
  exfalso;have hnd:(Af l ids).Nodup:=((El l ids).trans hp).nodup_iff.2 h.nodup;obtain ⟨hne,_,hlt⟩:=Sq h (Hz l ids) hnd hj0 hx hj;have hxm:(Af l ids)[0]∈l.map Pn.id:=((El l ids).trans hp).mem_iff.1 (List.getElem_mem hlen);obtain ⟨m,hm,em⟩:=List.mem_map.1 hxm;obtain ⟨i,hi⟩:=Au7 hm;have e1:Ak l n.id=1:=by rw [Fc (h.ok 0 n h0).plc h0];exact (h.lev_one h0).1 rfl
  have hi0:i≠0:=fun e=>by
   rw [e,h0] at hi;injection hi with hi
   rw [hi] at hne;exact hne em.symm
  have e2:2<=Ak l (Af l ids)[0]:=by rw [<- em,Fc (h.ok i m hi).plc hi];exact (h.lev_one hi).2 hi0
  rcases rkLess_iff.1 hlt with h5|⟨h5,_⟩
  · omega
  · omega
theorem Tg {cards:List Cd} {l:List Pn} (h:Rows cards l) {n:Pn} (h0:l[0]? =some n) {row:List Id} (hr:row[0]? =some n.id):(Cc l row)[0]? =some n.o.by_:=by
 have hk:=(h.first h0).2 rfl;have hn:=h.ok 0 n h0
 have hb:As l n.id=n.o.by_:=by
  rw [Sr hn.plc h0];unfold Fl;rw [if_pos hk]
 have h1:=(S9 hn.chk).1;have hlen:=(List.getElem?_eq_some_iff.1 hr).1
 have e1:Bb l row 1=[n.o.by_]:=by
  unfold Bb;rw [hr];dsimp only;rw [hb];show (if (decide (0<n.o.by_)&& !([]:List Int).contains n.o.by_)=true then _ else _)=_;rw [if_pos (by rw [decide_eq_true (by omega:0<n.o.by_)];rfl)];rfl
 have hpre:=Kh l row 1 row.length hlen;rw [e1] at hpre;obtain ⟨t,ht⟩:=hpre;unfold Cc;rw [<- ht];rfl
theorem Ao1 {l:List Pn} {row:List Id} {i:Nat} {x:Id} (h:row[i]? =some x):
  (0<As l x->(Av l row)[(Av l (row.take i)).length]? =some x/\(Av l (row.take (i+1))).length=(Av l (row.take i)).length+1)/\(¬0<As l x->(Av l (row.take (i+1))).length=(Av l (row.take i)).length):=by
 have hsn:=Dh h;have hrow:row=row.take (i+1)++row.drop (i+1):=(List.take_append_drop _ _).symm;constructor
 ·
  intro h0
  have e1:Av l (row.take (i+1))=Av l (row.take i)++[x]:=by
   unfold Av;rw [hsn,At9,Av2 (by rw [decide_eq_true h0]),Au0]
  refine ⟨?_,by rw [e1,At7,Au6]⟩
  have e2:Av l row=Av l (row.take i)++([x]++Av l (row.drop (i+1))):=by
   conv=>lhs;rw [hrow]
   show List.filter _ (_++_)=_;rw [At9];show Av l (row.take (i+1))++Av l (row.drop (i+1))=_;rw [e1,List.append_assoc]
  rw [e2,List.getElem?_append_right (At1 _),Nat.sub_self];rfl
 ·
  intro h0;unfold Av;rw [hsn,At9,Av3 (by rw [decide_eq_false h0];exact At6),Au0,List.append_nil]
def OpBy (D:Int) (k b d:Int):Prop:=decide (0<D)=Kl k/\(k=1->D=b)/\(k=2\/k=13->D=d)
theorem Ao2 {o:Op} (h:o.chk=0):OpBy (Fl o) o.kind o.by_ o.dev:=by
 refine ⟨An6 h,fun k=> ?_,fun k=> ?_⟩
 ·
  unfold Fl;rw [if_pos k]
 ·
  unfold Fl;rw [if_neg (by omega),if_pos k]
end Oq
end
section
open Go.RowKit Go.Shelf
def SeqE {α:Type} (P:Program) (gf:Nat) (lb:Array Value) (encs:α->Array Value) (xs:List α) (X:World->Nat->Prop) (N0:Nat) (W0:World):Prop:=
 ∀(l:Nat) (J Z:Nat->World->Prop),N0<=l->(∃r,W0.heap[l]? =some (.loop r))->(∀i A B,J i A->Fr Non A B->J i B)->(∀i A B,Z i A->Fr Non A B->Z i B)->J 0 W0->
  (∀i x W,xs[i]? =some x->J i W->YieldAt Fence.wide 0 P l (encs x) W fun e W'=>(e=.returned (.bool true)/\J (i+1) W'/\Fr (fun k=>X W k\/k=l) W W')\/(e=.returned (.bool false)/\Z i W'))->
  Calls P gf (#[.func (.yield l) #[] #[]]++lb) W0 fun e W'=>(∃v,e=.returned v)/\(J xs.length W'\/∃i,Z i W')
def Ao3 (I Z:World->Prop) (X:World->Nat->Prop) (Tr:Nat->Prop) (W:World):Exit->Act->World->Prop
 | .normal,_,W'=>I W'/\Fr (X W) W W'
 | .ret,_,W'=>Z W'/\Fr Tr W W'
 |_,_,_=>False
theorem Th {α:Type} {P:Program} {n:Nat} {g:Operand} {ps:Array Tmp} {assign body:Code} {Q:Exit->Act->World->Prop} {a:Act} {w:World} {gf:Nat} {lb:Array Value}
  (hg:a.eval g=.func (.func gf) #[] lb) (eg:∀args w,(callFunc gf args).run P w=.ok (.enter gf args) w)
  {encs:α->Array Value} {xs:List α} {X:World->Nat->Prop} {Tr:Nat->Prop} {N0:Nat} (hps:∀x,(encs x).size=ps.size) (hN0:N0<=w.heap.size)
  (hXc:∀W k,X W k->∃cs t fr,W.heap[k]? =some (.cells cs t fr)) (hXm:∀A B k,A.heap[k]? =B.heap[k]? ->X A k->X B k)
  (hseq:∀W1,Fr Non w W1->W1.heap.size=w.heap.size+2->SeqE P gf lb encs xs X N0 W1)
  (hT:¬Tr w.heap.size/\¬Tr (w.heap.size+1))
  (I Z:Nat->World->Prop) (hI:∀i A B,I i A->Fr (fun k=>k=w.heap.size\/k=w.heap.size+1) A B->I i B) (hZ:∀i A B,Z i A->Fr (fun k=>k=w.heap.size\/k=w.heap.size+1) A B->Z i B) (h0:I 0 w)
  (hround:∀(i:Nat) (x:α) (W:World),xs[i]? =some x->I i W->w.heap.size+2<=W.heap.size->
   assign.wpIn (Fence.wide.inRound (w.heap.size+1)) 0 P (Exit.then (fun a' W'=>Fr Non W W'/\∀W2,Fr (fun k=>k=w.heap.size\/k=w.heap.size+1) W' W2->body.wpIn (Fence.wide.inRound (w.heap.size+1)) 0 P (Ao3 (I (i+1)) (Z i) X Tr W2) a' W2) (fun _ _ _=>False))
    {tmps:=(ps.zip (encs x)).foldl (fun t (p,v)=>t.setIfInBounds p v) a.tmps,defers:=[]} W)
  (hdone:∀(W:World),I xs.length W->W.heap[w.heap.size]? =some (.deferred (some []))->Q .normal {a with defers:={target:=.collected w.heap.size,args:=#[]}::a.defers} W)
  (hstop:∀(i:Nat) (W:World),Z i W->W.heap[w.heap.size]? =some (.deferred (some []))->Q .ret {a with defers:={target:=.collected w.heap.size,args:=#[]}::a.defers} W):
  (Code.rangeFunc g ps assign body).wp P Q a w:=by
 refine (wpIn_wide (n:=n)).1 (wpIn_rangeFunc ?_);intro fn ay;obtain ⟨ab,aa⟩:∃ab:LoopState->Option Code->Loop,ab=fun st jp=>{state:=st,pending:=jp,fn,tmps:=a.tmps,params:=ps,assign,body,defers:=w.heap.size}:=⟨_,rfl⟩;obtain ⟨W1,ah⟩:∃W1,(w.alloc (.deferred (some []))).alloc (.loop (ab .ready none))=W1:=⟨_,rfl⟩
 have aq:W1.heap[w.heap.size+1]? =some (.loop (ab .ready none)):=by
  rw [<- ah];have:=Av4 (w.alloc (.deferred (some []))) (.loop (ab .ready none));rwa [As7] at this
 have aw:W1.heap[w.heap.size]? =some (.deferred (some [])):=by
  rw [<- ah];exact (Below.heap_alloc _ _ _ (by simp)).trans (Av4 w _)
 have ap:Fr Non w W1:=by rw [<- ah];exact ((Fr.refl _ _).alloc _).alloc _
 have az:W1.heap.size=w.heap.size+2:=by rw [<- ah];simp
 refine ⟨w.heap.size+1,[{target:=.collected w.heap.size,args:=#[]}],W1,{target:=.fn (.func gf) lb,args:=#[.func (.yield (w.heap.size+1)) #[] #[]]},W1,gf,
  #[.func (.yield (w.heap.size+1)) #[] #[]]++lb,W1,?_,?_,fun _ _=>trivial,?_,fun h=>by simp [Fence.wide] at h,?_⟩
 · rw [<- ah,aa];exact run_enterLoop_outer _ _ _ _ _
 ·
  simp only [resolve,hg];simp [go_sem]
 · simp [invoke,go_sem,eg]
 ·
  refine callsIn_wide.2 ((hseq W1 ap az (w.heap.size+1)
   (fun i W=>I i W/\W.heap[w.heap.size+1]? =some (.loop (ab .ready none))/\W.heap[w.heap.size]? =some (.deferred (some [])))
   (fun i W=>Z i W/\W.heap[w.heap.size+1]? =some (.loop (ab .done (some .ret)))/\W.heap[w.heap.size]? =some (.deferred (some [])))
   (by omega) ⟨_,aq⟩
   (fun i A B h hf=>⟨hI i A B h.1 (hf.of_non _),hf.obj h.2.1 zq,hf.obj h.2.2 zq⟩)
   (fun i A B h hf=>⟨hZ i A B h.1 (hf.of_non _),hf.obj h.2.1 zq,hf.obj h.2.2 zq⟩)
   ⟨hI 0 w W1 h0 (ap.of_non _),aq,aw⟩ ?_).mono ?_)
  ·
   rintro i x W hx ⟨hi,hl,hk⟩;have av:w.heap.size+1<W.heap.size:=(Array.getElem?_eq_some_iff.1 hl).1;have hy:=run_yield (P:=P) (args:=encs x) hl (by rw [aa];exact hps x);rw [aa] at hy;refine ⟨fn,_,assign,body,hy,roundIn_of_wpIn ay (wpIn_mono (hround i x W hx hi av) ?_)⟩;rintro e a' W' hp
   cases e with
   |normal=> ?_
   |ret=>exact hp.elim
   |exit id=>exact hp.elim
   |goto t=>exact hp.elim
   |panic ch=>exact hp.elim
   |outgrown=>exact hp.elim
   obtain ⟨hW,ae⟩:=hp;have au:=hW.obj hl zq;have ax:=hW.obj hk zq;have ai:w.heap.size+1<W'.heap.size:=(Array.getElem?_eq_some_iff.1 au).1;refine ⟨_,run_beginRound au (by rw [aa]),?_⟩;have ao:(W'.putObj (w.heap.size+1) (.loop {ab .ready none with state:=.busy})).heap[w.heap.size+1]? =some (.loop {ab .ready none with state:=.busy}):=Au8 ai;have al:(W'.putObj (w.heap.size+1) (.loop {ab .ready none with state:=.busy})).heap[w.heap.size]? =some (.deferred (some [])):=(At4 (by omega)).trans ax;have aj:Fr (fun k=>k=w.heap.size+1) W' (W'.putObj (w.heap.size+1) (.loop {ab .ready none with state:=.busy})):=Fr.putOne _ _ _;refine wpIn_mono (ae _ (aj.mono fun _ _ e=> .inr e)) ?_
   have ar:∀k,k<W.heap.size->X (W'.putObj (w.heap.size+1) (.loop {ab .ready none with state:=.busy})) k->X W k\/k=w.heap.size+1:=fun k ag hX=>by
    by_cases e:k=w.heap.size+1
    · exact .inr e
    · exact .inl (hXm _ _ k ((At4 e).trans (hW.block k ag zq)) hX)
   have nx:∀k o,(W'.putObj (w.heap.size+1) (.loop {ab .ready none with state:=.busy})).heap[k]? =some o->(∀cs t fr,o≠ .cells cs t fr)->¬X (W'.putObj (w.heap.size+1) (.loop {ab .ready none with state:=.busy})) k:=fun k o h1 h2 h3=>by
    obtain ⟨cs,t,fr,h4⟩:=hXc _ _ h3;rw [h1] at h4;injection h4 with h4
    exact h2 _ _ _ h4
   rintro e a3 W3 hp
   cases e with
   |normal=>
    obtain ⟨ak,ad⟩:=hp;have af:=ad.obj ao (nx _ _ ao (fun _ _ _ h=>by cases h));have ag:=ad.obj al (nx _ _ al (fun _ _ _ h=>by cases h));have hr:=run_endRound (P:=P) none af;rw [aa] at hr;have ac:Fr (fun k=>k=w.heap.size+1) W3 (W3.putObj (w.heap.size+1) (.loop (ab .ready none))):=Fr.putOne _ _ _;refine ⟨_,_,hr,.inl ⟨rfl,⟨?_,?_,?_⟩,?_⟩⟩
    · rw [aa] at ac;exact hI _ _ _ ak (ac.mono fun _ _ e=> .inr e)
    · rw [aa];exact Au8 (Array.getElem?_eq_some_iff.1 af).1
    · exact (At4 (by omega)).trans ag
    ·
     rw [aa] at ac aj ad ar;exact (((hW.of_non (fun k=>X W k\/k=w.heap.size+1)).trans aj fun _ _ e=> .inr e).trans ad ar).trans ac fun _ _ e=> .inr e
   |ret=>
    obtain ⟨ak,ad⟩:=hp;have af:=ad.obj ao hT.2;have ag:=ad.obj al hT.1;have hr:=run_endRound (P:=P) (some .ret) af;rw [aa] at hr;have ac:Fr (fun k=>k=w.heap.size+1) W3 (W3.putObj (w.heap.size+1) (.loop (ab .done (some .ret)))):=Fr.putOne _ _ _;refine ⟨_,_,hr,.inr ⟨rfl,?_,?_,?_⟩⟩
    · rw [aa] at ac;exact hZ _ _ _ ak (ac.mono fun _ _ e=> .inr e)
    · rw [aa];exact Au8 (Array.getElem?_eq_some_iff.1 af).1
    · exact (At4 (by omega)).trans ag
   |exit id=>exact hp.elim
   |goto t=>exact hp.elim
   |panic ch=>exact hp.elim
   |outgrown=>exact hp.elim
  ·
   rintro e W2 ⟨⟨v,rfl⟩,⟨hi,hl,hk⟩|⟨i,hi,hl,hk⟩⟩
   ·
    refine ⟨none,W2.putObj (w.heap.size+1) (.loop {ab .ready none with state:=.exhausted}),?_,hdone _ (hI _ _ _ hi ((Fr.putOne W2 (w.heap.size+1) _).mono fun _ _ e=> .inr e)) ((At4 (by omega)).trans hk)⟩;have h:=run_endLoop (P:=P) hl (by rw [aa];simp);rw [aa] at h ⊢;exact h
   ·
    refine ⟨some .ret,W2.putObj (w.heap.size+1) (.loop {ab .done (some .ret) with state:=.exhausted}),?_,wpIn_ret (hstop i _ (hZ _ _ _ hi ((Fr.putOne W2 (w.heap.size+1) _).mono fun _ _ e=> .inr e)) ((At4 (by omega)).trans hk))⟩;have h:=run_endLoop (P:=P) hl (by rw [aa];simp);rw [aa] at h ⊢;exact h
end
section
open Go.RowKit Go.Shelf
attribute [local go_sem ↓] Go.wp_at_zero Go.wp_at_succ
namespace Oq
attribute [local go_sem] As9 At0
attribute [local go_sem ↓] Ew G6
theorem F9:(zp.info? 38).map (·.size)=some 3:=by kernel_rfl
theorem H7 (a b:Int) (u:Nat):(#[.int .i64 a,.int .i64 b,.int .u64 (u:Int)]:Array Value).all (·.oneCell')=true:=by simp [Value.oneCell']
def Ga (l:List Pn) (x:Id):Array Value:=#[.agg x.V,.int .i64 (As l x)]
def Xof (N0:Nat) (W:World) (k:Nat):Prop:=N0<=k/\∃cs t fr,W.heap[k]? =some (.cells cs t fr)/\(t=3\/t=22)
theorem Xof.not {N0:Nat} {W:World} {k:Nat} {cs:Array Value} {t:TypeId} {fr:_} (hk:W.heap[k]? =some (.cells cs t fr)) (h1:t≠3) (h2:t≠22):¬Xof N0 W k:=by
 rintro ⟨_,cs',t',fr',h3,h4⟩;rw [hk] at h3;injection h3 with h3
 injection h3 with _ h5 _
 rw [<- h5] at h4;exact h4.elim h1 h2
def Ti (D:Int) (w:World) (e:Ending) (w':World):Prop:=∃y:OpL,e=.returned (.tuple #[.agg y.cells,.bool true])/\OpBy D y.kind y.by_ y.dev/\Fr Non w w'
theorem Ao4 (base:Nat) (g:Gph) (x:Id) (w:World) (hg:GAt w base g) (hx:x.ok) (hp:(plc g.pns x).isSome=true) (hchk:∀n∈g.pns,n.o.chk=0):
  Calls zp 140 #[.pointer (some ⟨g.gb,0,none⟩),.agg x.V] w (Ti (As g.pns x) w):=by
 obtain ⟨p,hp⟩:=Option.isSome_iff_exists.1 hp;obtain ⟨m,hm,_⟩:=Bt hp;obtain ⟨z,h1,h2⟩:=Ae4 (g:=g) rfl hp hm;have h3:=Yf base g x w hg hx;rw [h1] at h3;refine h3.mono ?_;rintro e w' ⟨y,rfl,h4,_,h5⟩;refine ⟨y,rfl,?_,h5⟩;have h6:=Ao2 (hchk m (At8 hm));rw [Sr hp hm,<- h2,<- h4];rw [<- h2,<- h4] at h6;exact h6
theorem Tj (base:Nat) (g:Gph) (gB iB B n c:Nat) (A:Option Addr) (ids:List Id) (w W0:World) (hg:GAt w base g) (hn:Hid (ids.length=n)) (hr:Rd w B 3 A n (ids.flatMap Id.cells)) (h14:n<=14) (hok:∀x∈ids,x.ok) (hnd:ids.Nodup)
  (hin:∀x∈ids,(plc g.pns x).isSome=true) (hchk:∀m∈g.pns,m.o.chk=0) (hf0:Fr Non w W0) (bg:Blk W0 gB 34 #[.pointer (some ⟨g.gb,0,none⟩)]) (bi:Blk W0 iB 28 #[.slice A n c]):
  SeqE zp 139 #[.pointer (some ⟨gB,0,none⟩),.pointer (some ⟨iB,0,none⟩)] (Ga g.pns) (Av g.pns (Af g.pns ids)) (Xof w.heap.size) w.heap.size W0:=by
 intro l J Z hN ba hJ hZ h0 hY
 have b6:l<W0.heap.size:=by
  obtain ⟨r,hr⟩:=ba;exact (Array.getElem?_eq_some_iff.1 hr).1
 have bq:gB≠l:=by
  rintro rfl;obtain ⟨r,hr⟩:=ba;unfold Blk at bg;rw [hr] at bg
  cases bg
 show Calls _ _ #[.func (.yield l) #[] #[],.pointer (some ⟨gB,0,none⟩),.pointer (some ⟨iB,0,none⟩)] W0 _;have ko:=S8 base g B n c A ids W0 (hg.fr hf0) hn (hr.fr hf0 zr) h14 hok hnd;unfold Ca at ko;replace ko:=lh ko;have af:∀x∈Af g.pns ids,x∈ids:=fun x hx=>(El g.pns ids).mem_iff.1 hx;have ar:=lh (fun (x:Id) (hx:x∈Af g.pns ids) (w':World) (hf:Fr Non w w')=>Ao4 base g x w' (hg.fr hf) (hok x (af x hx)) (hin x (af x hx)) hchk);unfold Ti at ar;have aa:Hid (∀i x,(Af g.pns ids)[i]? =some x->_):=fun i x h=>Ao1 (l:=g.pns) (row:=Af g.pns ids) h;have bj:Hid ((Av g.pns ((Af g.pns ids).take 0)).length=0):=rfl;have ax:Hid ((Av g.pns ((Af g.pns ids).take (Af g.pns ids).length)).length=(Av g.pns (Af g.pns ids)).length):=by show _=_;rw [Au5]
 have b2:(Af g.pns ids).length<=14:=by rw [Et,hn.out];exact h14
 obtain ⟨ad,al⟩:∃ad:Nat->Nat,(fun i=>(Av g.pns ((Af g.pns ids).take i)).length)=ad:=⟨_,rfl⟩;have a6:∀i,(Av g.pns ((Af g.pns ids).take i)).length=ad i:=fun i=>congrFun al i;simp only [a6] at aa bj ax;have bb:Hid (∀i x W,(Av g.pns (Af g.pns ids))[i]? =some x->J i W->YieldAt Fence.wide 0 zp l #[.agg x.V,.int .i64 (As g.pns x)] W fun e W'=>(e=.returned (.bool true)/\J (i+1) W'/\Fr (fun k=>Xof w.heap.size W k\/k=l) W W')\/(e=.returned (.bool false)/\Z i W')):=hY;clear hY al a6 af hin hok hnd hchk hr hn;obtain ⟨GB,a8⟩:=Aa g.gb;rw [a8.out] at ar ko bg;generalize Av g.pns (Af g.pns ids)=CL at*;generalize Af g.pns ids=RS at*;generalize As g.pns=BO at*;clear a8 hg g;obtain ⟨M,hM⟩:=Aa RS.length;rw [hM.out] at ko b2 ax;have g0:W0.cell? ⟨gB,0,none⟩=some (.pointer (some ⟨GB,0,none⟩)):=bg.cell 0;have i0:cS W0 iB 0 A n c:=bi.cell 0;have ac:Hid (∀W',(J CL.length W'\/∃i,Z i W')->((∃v,ze (.tuple #[])=.returned v)/\(J CL.length W'\/∃i,Z i W'))):=fun W' h=>⟨⟨_,rfl⟩,h⟩;have av:(zp.info? 44).map (·.size)=some 27:=by kernel_rfl
 go_enter func139,ntmps139;go_wp2_with (go_at_call 27;(with_reducible refine (ko.out).mono ?_);rintro _ w1 ⟨A1,c1,rfl,a7,f1⟩);have bc:=hJ _ _ _ h0 f1;have be:=bg.fr f1 zq;have bh:=hf0.trans f1 zr;have bd:=f1.size;have aj:=RowAt.of_own a7;clear ko bi i0 g0 bg a7 h0 hf0 f1
 go_loopw [13] (fun v wr=>∃i:Nat,v=.int .i64 (i:Int)/\i<=M/\J (ad i) wr/\Fr Non w wr/\RowAt wr W0.heap.size 38 3 A1 M c1 (RS.flatMap Id.cells)/\Blk wr gB 34 #[.pointer (some ⟨GB,0,none⟩)]/\W0.heap.size<=wr.heap.size) (fun v _=>M-(intOf v).toNat)
 case atStart=>exact ⟨0,rfl,As8 _,by rw [bj.out];exact bc,bh,aj,be,bd⟩
 case round=>
  clear bc bh aj be bd;obtain ⟨i,rfl,hi,hj,hf,ae,bg,b0⟩:=hrel
  by_cases hlt:i<M
  ·
   obtain ⟨x,hx⟩:∃x,RS[i]? =some x:=⟨_,At3 (by rw [hM.out];exact hlt)⟩;obtain ⟨b,b3,rfl,_,k0,k1,k2⟩:=Id.at ae.sl.rd hx;have a3:=lh (ar.out x (At8 hx));have ag:=aa.out i x hx;replace ag:=lh ag;have i1:(0:Int)<=i:=by omega
   have i2:(i:Int)<M:=by omega
   have i3:(i:Int).toNat=i:=by omega
   obtain ⟨D,hD⟩:=Aa (BO x);rw [hD.out] at a3 ag;have ap:=lh (fun (W:World) (h1:CL[ad i]? =some x) (h2:J (ad i) W)=>bb.out (ad i) x W h1 h2);rw [hD.out] at ap;have a4:=Bp (P:=zp) wr.heap.size 38 (cs:=x.V) F9 (old:=#[.int .i64 0,.int .i64 0,.int .u64 0]) rfl (H7 _ _ _);have bn:=Blk.new wr 38 #[.int .i64 0,.int .i64 0,.int .u64 0];clear aa hD bb ar hx;go_upto_region 3 with (fail)
   have bx:=bn.setRow (cs:=x.V);have fz:Fr Non wr ((wr.alloc (.cells #[.int .i64 0,.int .i64 0,.int .u64 0] 38)).setRow wr.heap.size x.V):=((Fr.refl Non wr).alloc _).setRow (fun hh=>absurd hh (by omega)) _;obtain ⟨xB,bk⟩:=Aa wr.heap.size;rw [bk.out] at bx fz ⊢;clear a4 bn k0 k1 k2;generalize (wr.alloc (.cells #[.int .i64 0,.int .i64 0,.int .u64 0] 38)).setRow xB x.V=w2 at*;have x0:cI w2 xB 0 x.b:=bx.cell 0;have x1:cI w2 xB 1 x.s:=bx.cell 1;have x2:cU w2 xB 2 x.u:=bx.cell 2;have g0:w2.cell? ⟨gB,0,none⟩=some (.pointer (some ⟨GB,0,none⟩)):=(bg.fr fz zq).cell 0;have aw:=hf.trans fz zr;go_upto_region 4 with (go_at_call 140;(with_reducible refine (a3.out _ aw).mono ?_);rintro _ w3 ⟨y,rfl,bp,f3⟩;(have bz:=Blk.new w3 44 zO);(have bw:=Bp (P:=zp) w3.heap.size 44 (cs:=y.cells) av (old:=zO) rfl (Df y)))
   have bo:=bz.setRow (cs:=y.cells);have f4:Fr Non w3 ((w3.alloc (.cells zO 44)).setRow w3.heap.size y.cells):=((Fr.refl Non w3).alloc _).setRow (fun hh=>absurd hh (by omega)) _;obtain ⟨oB,bl⟩:=Aa w3.heap.size;rw [bl.out] at bo f4 ⊢;clear bw bz a3;generalize (w3.alloc (.cells zO 44)).setRow oB y.cells=w4 at*;have o0:cI w4 oB 0 y.by_:=bo.cell 0;have o2:cI w4 oB 2 y.kind:=bo.cell 2;have o5:cI w4 oB 5 y.dev:=bo.cell 5;have ai:=f3.trans f4 zr;have ak:=fz.trans ai zr;have a9:=aw.trans ai zr;have b8:=ai.cell x0 zq;have b5:=ai.cell x1 zq;have b4:=ai.cell x2 zq;have a0:=hJ _ _ _ hj ak;have ab:=ae.fr ak (fun _ _ _ e=>e);have a2:=bg.fr ak zq;have bu:=ak.size;clear x0 x1 x2 g0 bo hj ae bg ai ak f3 f4 fz aw hf bx bl bk w2 w3;generalize y.by_=YB at*;generalize y.kind=K at*;generalize y.dev=YD at*;generalize y.cells=YC at*;obtain ⟨ah,az,ao⟩:=bp
   rcases (show (K=1/\D=YB/\0<D)\/(K=2/\D=YD/\0<D)\/(K=13/\D=YD/\0<D)\/((K==1)=false/\(K==2)=false/\(K==13)=false/\¬0<D) from by
    by_cases e1:K=1
    · exact .inl ⟨e1,az e1,of_decide_eq_true (by rw [ah,e1];rfl)⟩
    ·
     by_cases e2:K=2
     · exact .inr (.inl ⟨e2,ao (.inl e2),of_decide_eq_true (by rw [ah,e2];rfl)⟩)
     ·
      by_cases e3:K=13
      · exact .inr (.inr (.inl ⟨e3,ao (.inr e3),of_decide_eq_true (by rw [ah,e3];rfl)⟩))
      ·
       have q1:=beq_eq_false_iff_ne.2 e1;have q2:=beq_eq_false_iff_ne.2 e2;have q3:=beq_eq_false_iff_ne.2 e3;exact .inr (.inr (.inr ⟨q1,q2,q3,of_decide_eq_false (by rw [ah];unfold Kl;rw [q1,q2,q3];rfl)⟩))) with ⟨rfl,rfl,hpos⟩|⟨rfl,rfl,hpos⟩|⟨rfl,rfl,hpos⟩|⟨q1,q2,q3,hpos⟩
   rotate_left 3
   ·
    have bs:=lh (ag.out.2 (by first|exact hpos|omega));clear ah az ao ag ap;go_wp2_with fail;go_roundw
    case rel=>exact ⟨i+1,by go_num,by omega,by rw [bs.out];exact a0,a9,ab,a2,Au2 b0 bu⟩
    case measure=>simp [intOf];omega
   all_goals
    obtain ⟨bf,ay⟩:=ag.out.1 hpos;replace ay:=lh ay;obtain ⟨fn,b1,au,br,hy,hR⟩:=Iu (m:=2) (ap.out w4 bf a0);clear ah az ao ag ap bf hpos a0;go_upto_region 11 with (fail)
    refine (wpIn_wide (n:=3)).1 ?_
    gi_wp2_with (first|fail)
    refine hR.mono ?_;clear hR hy;rintro _ W5 (⟨rfl,bt,aq⟩|⟨rfl,hz5⟩)
    ·
     have a1:Fr Non w W5:=a9.trans aq (fun k hk e=>by
      rcases e with e|e
      · exact absurd e.1 (by omega)
      · omega)
     have a5:=ab.fr aq (fun hn k hk e=>by
      rcases ab.2 with h1|⟨k',cs,fr,e1,e2,e3,_⟩
      · exact hn h1
      ·
       rw [e1] at hk;have bv:k'=k:=by injection hk
       rw [bv] at e2 e3
       rcases e with e|e
       · exact Xof.not e3 (by decide) (by decide) e
       · omega)
     have bm:=a2.fr aq (fun e=>by
      rcases e with e|e
      · exact Xof.not a2 (by decide) (by decide) e
      · exact bq e)
     have b7:=aq.size
     gi_wp2_with (first|fail)
     go_wp2_with fail;go_roundw
     case rel=>exact ⟨i+1,by go_num,by omega,by rw [ay.out];exact bt,a1,a5,bm,by omega⟩
     case measure=>simp [intOf];omega
    ·
     gi_wp2_with (first|fail)
     go_wp2_with fail
     (try simp only [Exit.inBlock,Exit.then])
     refine bodyPost_ret (results_none rfl _ _ _) rfl ?_;exact ac.out _ (.inr ⟨_,hz5⟩)
  ·
   obtain rfl:M=i:=by omega
   go_wp2_with fail
   go_end0
   exact ac.out _ (.inl (by rw [<- ax.out];exact hj))
def Ao5 (GB:Nat) (A:Option Addr) (n c:Nat) (w:World) (r:Ending) (w':World):Prop:=
 r=.returned (.func (.func 139) #[] #[.pointer (some ⟨w.heap.size,0,none⟩),.pointer (some ⟨w.heap.size+1,0,none⟩)])/\Blk w' w.heap.size 34 #[.pointer (some ⟨GB,0,none⟩)]/\Blk w' (w.heap.size+1) 28 #[.slice A n c]/\Fr Non w w'/\w'.heap.size=w.heap.size+2
theorem Tl (GB n c:Nat) (A:Option Addr) (w:World):Calls zp 84 #[.pointer (some ⟨GB,0,none⟩),.slice A n c] w (Ao5 GB A n c w):=by
 have hb:=Blk.new w 34 #[.pointer (some ⟨GB,0,none⟩)];have hb2:=hb.alloc (.cells #[.slice A n c] 28);have hn2:=Blk.new (w.alloc (.cells #[.pointer (some ⟨GB,0,none⟩)] 34)) 28 #[.slice A n c];rw [As7] at hn2;go_enter func84,ntmps84;go_wp2
 go_ret
 exact ⟨rfl,hb2,hn2,((Fr.refl _ _).alloc _).alloc _,by simp⟩
end Oq
end
section
open Go.RowKit
attribute [local go_sem ↓] Go.wp_at_zero Go.wp_at_succ
namespace Oq
attribute [local go_sem] As9 At0
attribute [local go_sem ↓] Cz
theorem Rows.levs {cards:List Cd} {l:List Pn} (h:Rows cards l):∀n∈l,n.lev<=l.length:=by
 induction h with
 |nil=>intro n hn;cases hn
 |snoc l o _ _ ih=>
  intro n hn;rw [At7,Au6]
  rcases List.mem_append.1 hn with h|h
  ·
   have:=ih n h;omega
  ·
   obtain rfl:=List.mem_singleton.1 h;exact Pv l l.length ih o.past
def Fo (n:Nat) (f:Nat->Nat):List Value:=(List.range n).map (fun q=>Value.int .i64 (f q:Int))
theorem Nb {n i:Nat} (f:Nat->Nat) (h:i<n):(Fo n f)[i]? =some (.int .i64 (f i:Int)):=by simp [Fo,h]
theorem Ao6 {n i:Nat} (f:Nat->Nat) (v:Nat):(Fo n f).set i (.int .i64 (v:Int))=Fo n (fun q=>if q=i then v else f q):=by
 apply List.ext_getElem?;intro j
 by_cases hj:j<n
 ·
  rw [Nb _ hj,List.getElem?_set]
  split
  ·
   rename_i e;subst e;rw [if_pos (by simp [Fo];exact hj),if_pos rfl]
  ·
   rename_i e;rw [Nb _ hj,if_neg (fun h=>e h.symm)]
 · rw [Av5 (by simp [Fo];omega),Av5 (by simp [Fo];omega)]
structure Nc (w wr:World) (CS:Array Value) (g n:Nat) (f:Nat->Nat):Prop where
 bg:Blk wr w.heap.size 32 CS
 own:Own wr (w.heap.size+1) 3 1 (some ⟨g,0,none⟩) n n (Fo n f)
 fr:Fr Non w wr
theorem Nc.set {w wr:World} {CS:Array Value} {g n:Nat} {f:Nat->Nat} (h:Nc w wr CS g n f) {i:Nat} (hi:i<n) (v:Nat):
  w.heap.size+1<=g/\g<wr.heap.size/\wr.cell? ⟨g,i,none⟩=some (.int .i64 (f i:Int))/\wr.frozen? ⟨g,i,none⟩=false/\Nc w (wr.setCell ⟨g,i,none⟩ (.int .i64 (v:Int))) CS g n (fun q=>if q=i then v else f q):=by
 obtain ⟨g',e,h1,h2,h3,h4,h5⟩:=h.own.setAt (j:=i) (by omega) (.int .i64 (v:Int));injection e with e
 injection e with e
 subst e;exact ⟨h1,h2,h3 _ (Nb f hi),h4,h.bg.far (p:=⟨_,_,_⟩) (fun e=>by have e':w.heap.size=g:=e;omega) _,by rw [Ao6] at h5;exact h5,h.fr.setNew (by omega) _ _⟩
def Bi (l:List Pn) (p:Nat):Id:=(l[p]?.map Pn.id).getD ⟨0,0,0⟩
theorem Km {l:List Pn} {p:Nat} {n:Pn} (h:l[p]? =some n):Bi l p=n.id:=by unfold Bi;rw [h];rfl
end Oq
end
section
open Go.RowKit
namespace Oq
theorem RowAt.lt {w:World} {base size n c:Nat} {t:TypeId} {A:Option Addr} {xs:List Value} (h:RowAt w base t size A n c xs) (h0:n≠0) {k:Nat} (hk:Ac A=some k):base<=k/\k<w.heap.size:=by
 rcases h.2 with h1|⟨k',cs,fr,e,hb,hh,_⟩
 · exact absurd h1 h0
 ·
  subst e;have e':k'=k:=by have h2:some k'=some k:=hk;exact Option.some.inj h2
  subst e';exact ⟨hb,(Array.getElem?_eq_some_iff.1 hh).1⟩
theorem RowAt.over {S:Nat->Prop} {w w':World} {base size n c:Nat} {t:TypeId} {A:Option Addr} {xs:List Value} (h:RowAt w base t size A n c xs) (hf:Fr S w w') (hS:∀k,base<=k->¬S k):RowAt w' base t size A n c xs:=
 h.fr hf (fun h0 k hk=>hS k (h.lt h0 hk).1)
theorem OpL.own.over {S:Nat->Prop} {w w':World} {base:Nat} {x:OpL} (h:x.own w base) (hf:Fr S w w') (hS:∀k,base<=k->¬S k):x.own w' base where
 past:=h.past.over hf hS
 path:=h.path.over hf hS
 nodes y hy:=(h.nodes y hy).over hf hS
 body:=h.body.over hf hS
 refs:=h.refs.over hf hS
 guards:=h.guards.over hf hS
 boxes:=h.boxes.over hf hS
 hist:=h.hist.over hf hS
 seals y hy:=(h.seals y hy).over hf hS
theorem GAt.over {S:Nat->Prop} {w w':World} {base:Nat} {g:Gph} (h:GAt w base g) (hf:Fr S w w') (hS:∀k,base<=k->¬S k):GAt w' base g where
 blk:=h.blk.fr hf (hS _ h.gbase)
 pos:=h.pos
 gbase:=h.gbase
 mbase:=h.mbase
 crow:=h.crow.fr hf (fun k hk=>hS k (h.crow.row k hk).1)
 own:=h.own.fr hf (fun k hk=>hS k (h.own.row k hk).1)
 few:=h.few
 mfew:=h.mfew
 levs:=h.levs
 cfew:=h.cfew
 cok:=h.cok
 map:=h.map.fr hf (hS _ h.mbase)
 node:=fun n hn=>by
  have k:=h.node n hn;exact ⟨k.own.over hf hS,k.ok,k.id,k.set⟩
def RgAt (w:World) (b o:Nat) (l:List Value):Prop:=World.rangeAt w b o l
theorem RgAt.fr {S:Nat->Prop} {w w':World} {b o:Nat} {l:List Value} (h:RgAt w b o l) (hf:Fr S w w') (hb:¬S b):RgAt w' b o l:=fun k v hv=>hf.cell (h k v hv) hb
end Oq
end
section
open Go.RowKit
attribute [local go_sem ↓] Go.wp_at_zero Go.wp_at_succ
namespace Oq
attribute [local go_sem] As9 At0
theorem Tm {l:List Int} {k:Nat} {q x:Int} (h:l[k]? =some x):(l.take (k+1)).contains q=((l.take k).contains q||decide (q=x)):=by
 rw [Dh h,Bool.eq_iff_iff,Bool.or_eq_true,Au9,Au9,List.mem_append,List.mem_singleton,decide_eq_true_eq]
theorem Ao7 (B n c:Nat) (A:Option Addr) (l:List Int) (x:Int) (w:World) (hn:Hid (l.length=n)) (hr:Rd w B 1 A n (l.map Iv)) (hnm:n<=1000000):
  Calls zp 40 #[.slice A n c,.int .i64 x] w fun e w'=>e=.returned (.bool (l.contains x))/\Fr Non w w':=by
 go_enter func40,ntmps40;go_wp2
 go_loopw [5] (fun v wr=>∃k:Nat,v=.int .i64 (k:Int)/\k<=n/\Hid ((l.take k).contains x=false)/\w=wr) (fun v _=>n-(intOf v).toNat)
 case atStart=>exact ⟨0,rfl,by omega,rfl,rfl⟩
 case round=>
  obtain ⟨k,rfl,hk,hh,rfl⟩:=hrel
  by_cases hlt:k<n
  ·
   obtain ⟨y,hy⟩:∃y,l[k]? =some y:=⟨_,At3 (by rw [hn.out];exact hlt)⟩;obtain ⟨b,off,u,rfl,hbB,hu,c0⟩:=hr.at hlt;rw [Au3,hy] at hu;injection hu with hu
   subst hu;have c0':cI w b (off+k) y:=c0;clear c0;have hsn:=lh (Tm (q:=x) hy);have i1:(0:Int)<=k:=by omega
   have i2:(k:Int)<n:=by omega
   have i3:(k:Int).toNat=k:=by omega
   by_cases he:y=x
   ·
    have hb:(y==x)=true:=beq_iff_eq.2 he
    have hfin:Hid (l.contains x=true):=by
     show _=_;rw [Au9];exact he▸At8 hy
    clear hy he;go_wp2
    go_ret
    exact ⟨by rw [hfin.out];rfl,Fr.refl _ _⟩
   ·
    have hb:(y==x)=false:=beq_eq_false_iff_ne.2 he
    have hfin:Hid ((l.take (k+1)).contains x=false):=by
     show _=_;rw [hsn.out,hh.out,decide_eq_false (fun e=>he e.symm)];rfl
    clear hy he;go_wp2;go_roundw
    case rel=>exact ⟨k+1,by go_num,by omega,hfin,by first|rfl|trivial⟩
    case measure=>first|(simp [intOf];done)|(simp [intOf];omega)
  ·
   obtain rfl:k=n:=by omega
   have hfin:Hid (l.contains x=false):=by have h:=hh.out;rw [Au1 (by rw [hn.out];omega)] at h;exact h
   go_wp2
   go_ret
   exact ⟨by rw [hfin.out];rfl,Fr.refl _ _⟩
theorem Ao8 (B n c:Nat) (A:Option Addr) (l:List Int) (x:Int) (w:World) (hn:Hid (l.length=n)) (hr:Rd w B 1 A n (l.map Iv)) (hnm:n<=1000000):
  Calls zp 141 #[.slice A n c,.int .i64 x] w fun e w'=>(∃q:Int,e=.returned (.int .i64 q)/\Hid (decide (q>=0)=l.contains x))/\w=w':=by
 go_enter func141,ntmps141;go_wp2
 go_loopw [8] (fun v wr=>∃k:Nat,v=.int .i64 (k:Int)/\k<=n/\Hid ((l.take k).contains x=false)/\w=wr) (fun v _=>n-(intOf v).toNat)
 case atStart=>exact ⟨0,rfl,by omega,rfl,rfl⟩
 case round=>
  obtain ⟨k,rfl,hk,hh,rfl⟩:=hrel
  by_cases hlt:k<n
  ·
   obtain ⟨y,hy⟩:∃y,l[k]? =some y:=⟨_,At3 (by rw [hn.out];exact hlt)⟩;obtain ⟨b,off,u,rfl,hbB,hu,c0⟩:=hr.at hlt;rw [Au3,hy] at hu;injection hu with hu
   subst hu;have c0':cI w b (off+k) y:=c0;clear c0;have hsn:=lh (Tm (q:=x) hy);have i1:(0:Int)<=k:=by omega
   have i2:(k:Int)<n:=by omega
   have i3:(k:Int).toNat=k:=by omega
   by_cases he:y=x
   ·
    have hb:(y==x)=true:=beq_iff_eq.2 he;have hb':(x==y)=true:=beq_iff_eq.2 he.symm
    have hfin:Hid (decide ((k:Int)>=0)=l.contains x):=by
     show _=_;rw [List.contains_iff_mem.2 (he▸At8 hy)];exact decide_eq_true (by omega)
    clear hy he;go_wp2
    go_ret
    exact ⟨⟨_,rfl,hfin⟩,rfl⟩
   ·
    have hb:(y==x)=false:=beq_eq_false_iff_ne.2 he;have hb':(x==y)=false:=beq_eq_false_iff_ne.2 (fun e=>he e.symm)
    have hfin:Hid ((l.take (k+1)).contains x=false):=by
     show _=_;rw [hsn.out,hh.out,decide_eq_false (fun e=>he e.symm)];rfl
    clear hy he;go_wp2;go_roundw
    case rel=>exact ⟨k+1,by go_num,by omega,hfin,by first|rfl|trivial⟩
    case measure=>first|(simp [intOf];done)|(simp [intOf];omega)
  ·
   obtain rfl:k=n:=by omega
   have hfin:Hid (decide ((-1:Int)>=0)=l.contains x):=by have h:=hh.out;rw [Au1 (by rw [hn.out];omega)] at h;show _=_;rw [h];rfl
   go_wp2
   go_ret
   exact ⟨⟨_,rfl,hfin⟩,rfl⟩
theorem Ao9 (B n c:Nat) (A:Option Addr) (l:List Int) (x:Int) (w:World) (hn:Hid (l.length=n)) (hr:Rd w B 1 A n (l.map Iv)) (hnm:n<=1000000):
  Calls zp 85 #[.slice A n c,.int .i64 x] w fun e w'=>e=.returned (.bool (l.contains x))/\Fr Non w w':=by
 have ki:=lh (Ao8 B n c A l x w hn hr hnm);go_enter func85,ntmps85;go_wp2_with (go_at_call 141;(with_reducible refine (ki.out).mono ?_);rintro _ w1 ⟨⟨q,rfl,hq⟩,rfl⟩;(have hq1:decide (q>=0)=l.contains x:=hq.out);(have hq2:decide (0<=q)=l.contains x:=hq.out);obtain ⟨LC,hLC⟩:=Aa (l.contains x);rw [hLC.out] at hq1 hq2)
 go_ret
 rw [hLC.out]
 exact ⟨rfl,Fr.refl _ _⟩
theorem Tn (n c c':Nat) (A A':Option Addr) (l:List Int) (w:World) (hn:Hid (l.length=n)) (hr:Rd w w.heap.size 1 A n (l.map Iv)) (hr':Rd w w.heap.size 1 A' n (l.map Iv)) (hnm:n<=1000000):
  Calls zp 28 #[.slice A n c,.slice A' n c'] w fun e w'=>e=.returned (.bool true)/\Fr Non w w':=by
 have t:((n:Int) !=(n:Int))=false:=by simp
 go_enter func28,ntmps28;go_wp2
 go_loopw [5] (fun v wr=>∃k:Nat,v=.int .i64 (k:Int)/\k<=n/\Fr Non w wr) (fun v _=>n-(intOf v).toNat)
 case atStart=>exact ⟨0,rfl,by omega,Fr.refl _ _⟩
 case round=>
  obtain ⟨k,rfl,hk,hf⟩:=hrel
  by_cases hlt:k<n
  ·
   obtain ⟨y,hy⟩:∃y,l[k]? =some y:=⟨_,At3 (by rw [hn.out];exact hlt)⟩;obtain ⟨b,off,u,rfl,hbB,hu,c0⟩:=(hr.fr hf zr).at hlt;rw [Au3,hy] at hu;injection hu with hu
   subst hu;obtain ⟨b',off',u',rfl,hbB',hu',d0⟩:=(hr'.fr hf zr).at hlt;rw [Au3,hy] at hu';injection hu' with hu'
   subst hu';have c0':cI wr b (off+k) y:=c0;have d0':cI wr b' (off'+k) y:=d0;clear c0 d0 hy;have i1:(0:Int)<=k:=by omega
   have i2:(k:Int)<n:=by omega
   have i3:(k:Int).toNat=k:=by omega
   have e0:(y !=y)=false:=by simp
   go_upto_region 6 with (fail)
   go_quiet (fail)
   go_wp2;go_roundw
   case rel=>exact ⟨k+1,by go_num,by omega,hf.drewN _⟩
   case measure=>simp [intOf];omega
  ·
   obtain rfl:k=n:=by omega
   go_wp2
   go_ret
   exact ⟨rfl,hf⟩
end Oq
namespace Oq
attribute [local go_sem] As9 At0
attribute [local go_sem ↓] Cz Cq
def H8 (o:Option Id) (w:World) (e:Ending) (w':World):Prop:=e=.returned (.tuple #[.agg #[.int .i64 (o.getD ⟨0,0,0⟩).b,.int .i64 (o.getD ⟨0,0,0⟩).s,.int .u64 ((o.getD ⟨0,0,0⟩).u:Int)],.bool o.isSome])/\Fr Non w w'
def Gb (l:List Int) (w:World) (e:Ending) (w':World):Prop:=∃A c,e=.returned (.slice A l.length c)/\Own w' w.heap.size 3 1 A l.length c (l.map Iv)/\Fr Non w w'
theorem Ap0 (ps:List Int):∀u∈ps.map Iv,u.oneCell'=true:=by
 intro u hu;obtain ⟨q,_,rfl⟩:=List.mem_map.1 hu;rfl
end Oq
end
section
open Go.RowKit Go.Shelf
attribute [local go_sem ↓] Go.wp_at_zero Go.wp_at_succ
attribute [local go_sem] Oper.semAt_some
theorem Ap1 {P:Program} {ty:TypeId} {d:TypeDesc} {g:Nat} {v:Value} {w:World} (hd:(match d with| .struct _| .array _ _=>true|_=>false)=false) (hu:P.underlying ty=some d) (hc:w.cell? ⟨g,0,none⟩=some v):(loadVar ty ⟨g,0,none⟩).run P w=.ok v w:=by
 have hagg:(isAgg ty).run P w=.ok false w:=by
  unfold isAgg;rw [Sem.run_bind,run_underlying hu w]
  cases d<;>simp_all
 simp [loadVar,Sem.run_bind,hagg,go_sem,hc]
theorem To {P:Program} {fn:Func} {p q:Tmp} {ty t ty2:TypeId} {d d2:TypeDesc} {cs:Array Value} {g g2:Nat} {v2:Value} {tmps:Array Value} {w:World} (h:fn.results=#[.cell p ty,.cell q ty2])
  (ha:tmps.getD p undef=.pointer (some ⟨g,0,none⟩)) (hb:Blk w g t cs) (hd:(match d with| .struct _| .array _ _=>true|_=>false)=true) (hu:P.underlying ty=some d)
  (hi:(P.info? ty).map (·.size)=some cs.size) (ha2:tmps.getD q undef=.pointer (some ⟨g2,0,none⟩)) (hc2:w.cell? ⟨g2,0,none⟩=some v2) (hd2:(match d2 with| .struct _| .array _ _=>true|_=>false)=false) (hu2:P.underlying ty2=some d2):
  (results fn tmps).run P w=.ok (.tuple #[.agg cs,v2]) w:=by
 have hl:(loadVar ty ⟨g,0,none⟩).run P w=.ok (.agg cs) w:=run_loadVar_row (P:=P) w g t ty cs (0,0) d hb hu (by cases d<;>first|rfl|exact hd) hi
 have hl2:(loadVar ty2 ⟨g2,0,none⟩).run P w=.ok v2 w:=Ap1 hd2 hu2 hc2;unfold results;rw [h];have ha':tmps[p]?.getD undef=.pointer (some ⟨g,0,none⟩):=by simpa using ha
 have ha2':tmps[q]?.getD undef=.pointer (some ⟨g2,0,none⟩):=by simpa using ha2
 simp [asAddr,ha',ha2',hl,hl2]
namespace Oq
attribute [local go_sem] As9 At0
attribute [local go_sem ↓] G6
theorem Tp {N0:Nat} (W:World) (k:Nat) (h:Xof N0 W k):∃cs t fr,W.heap[k]? =some (.cells cs t fr):=by
 obtain ⟨_,cs,t,fr,h,_⟩:=h;exact ⟨cs,t,fr,h⟩
theorem Tq {N0:Nat} (A B:World) (k:Nat) (h:A.heap[k]? =B.heap[k]?) (hx:Xof N0 A k):Xof N0 B k:=by
 obtain ⟨h0,cs,t,fr,h1,h2⟩:=hx;exact ⟨h0,cs,t,fr,by rw [<- h];exact h1,h2⟩
theorem Ap2 {N0 base n c:Nat} {W:World} {A:Option Addr} {xs:List Value} (h:Own W base 3 1 A n c xs) (hb:N0<=base) {k:Nat} (hk:Ac A=some k):Xof N0 W k:=by
 have h0:=(h.row k hk).1
 rcases h.2 with ⟨hv,_⟩|⟨g,cap,cur,hv,_,hg,_⟩
 ·
  injection hv with hA _ _
  subst hA
  cases hk
 ·
  injection hv with hA _ _
  subst hA;injection hk with hk
  subst hk;exact ⟨Au2 hb h0,_,_,_,hg,.inl rfl⟩
theorem Ap3 (l:List Pn) (row:List Id):(Av l row).length<=row.length:=List.length_filter_le _ _
theorem Ap4 (base:Nat) (g:Gph) (B n c:Nat) (A:Option Addr) (ids:List Id) (w:World) (hg:GAt w base g) (hn:Hid (ids.length=n)) (hr:Rd w B 3 A n (ids.flatMap Id.cells)) (h14:n<=14) (hok:∀x∈ids,x.ok) (hnd:ids.Nodup)
  (hin:∀x∈ids,(plc g.pns x).isSome=true) (hchk:∀m∈g.pns,m.o.chk=0):
  Calls zp 29 #[.pointer (some ⟨g.gb,0,none⟩),.slice A n c] w (Gb (Cc g.pns (Af g.pns ids)) w):=by
 have ax:=Blk.new w 22 #[.slice none 0 0];have bk:Fr Non w (w.alloc (.cells #[.slice none 0 0] 22)):=(Fr.refl _ _).alloc _;have bh:(Av g.pns (Af g.pns ids)).length<=14:=Au2 (Ap3 _ _) (by rw [Et,hn.out];exact h14);have ar:=lh (fun (gB iB:Nat) (W0:World) h1 h2 h3=>Tj base g gB iB B n c A ids w W0 hg hn hr h14 hok hnd hin hchk h1 h2 h3);have ag:=lh (An8 g.pns (Af g.pns ids));have a1:Hid (∀(i:Nat) (x:Id),(Av g.pns (Af g.pns ids))[i]? =some x->Dd g.pns (Av g.pns (Af g.pns ids)) (i+1)=if (Dd g.pns (Av g.pns (Af g.pns ids)) i).contains (As g.pns x)=true then Dd g.pns (Av g.pns (Af g.pns ids)) i else Dd g.pns (Av g.pns (Af g.pns ids)) i++[As g.pns x]):=fun i x h=>Td g.pns h;have a0:Hid (∀i,(Dd g.pns (Av g.pns (Af g.pns ids)) i).length<=i):=Te g.pns _;have a2:Hid (Dd g.pns (Av g.pns (Af g.pns ids)) 0=[]):=rfl;have aw:Hid (∀x,Ga g.pns x=#[.agg x.V,.int .i64 (As g.pns x)]):=fun _=>rfl;have bj:∀x,(Ga g.pns x).size=2:=fun _=>rfl;unfold Gb;obtain ⟨GB,a8⟩:=Aa g.gb;rw [a8.out] at ar ⊢;clear hg hr hin hchk hok hnd a8;generalize Cc g.pns (Af g.pns ids)=SL at*;generalize Av g.pns (Af g.pns ids)=XS at*;generalize Ga g.pns=EN at*;generalize As g.pns=BO at*;generalize Dd g.pns XS=ST at*;refine callsIn_wide.1 (callsIn_of_wp_marks (n:=3) func29 rfl trivial ?_ rfl);simp only [ntmps29,Au4,Av6,List.length_nil,Nat.reduceAdd,Nat.reduceSub,Av7,Av8,Av9,Aw0,List.nil_append,Aw1];refine wpIn_wide.2 ?_;go_wp2_with fail;refine (Tl GB n c A _).mono ?_;rintro _ w1 ⟨rfl,a7,a3,ap,bn⟩;have bl:=ax.fr ap zq;rw [As7] at a7 a3 bn;go_wp2_with fail;have a5:Fr Non w w1:=bk.trans ap zr;have hz:w1.heap.size=w.heap.size+3:=by omega
 refine Th (n:=3) (gf:=139) (lb:=#[.pointer (some ⟨w.heap.size+1,0,none⟩),.pointer (some ⟨w.heap.size+1+1,0,none⟩)]) rfl (enters_of func139 (by kernel_rfl) rfl) (encs:=EN) (xs:=XS)
  (X:=Xof w.heap.size) (Tr:=fun _=>False) (N0:=w.heap.size) bj (by omega) Tp Tq ?_ ⟨fun e=>e,fun e=>e⟩
  (fun i W=>∃A' c',Blk W w.heap.size 22 #[.slice A' (ST i).length c']/\Own W (w.heap.size+5) 3 1 A' (ST i).length c' ((ST i).map Iv)/\Fr Non w W) (fun _ _=>False) ?_ (fun _ _ _ h _=>h) ?_ ?_ ?_ (fun _ _ h _=>h.elim)
 ·
  intro W1 hf _;exact ar.out _ _ W1 (a5.trans hf zr) (a7.fr hf zq) (a3.fr hf zq)
 ·
  rintro i X Y ⟨A',c',hb,ho,hf⟩ az;have aa:=ho.row;refine ⟨A',c',hb.fr az (by omega),ho.fr az (fun k hk=> ?_),hf.trans az (fun k hk e=> ?_)⟩
  ·
   have:=aa k hk;omega
  · unfold Non;omega
 ·
  refine ⟨none,0,?_,?_,a5⟩
  · rw [a2.out];exact bl
  · rw [a2.out];exact Own.nil _ _ _ _
 ·
  rintro i x W hx ⟨A',c',hb,ho,hf⟩ br;have ab:=a1.out i x hx;have al:(ST i).length<=14:=Au2 (a0.out i) (by have:=(List.getElem?_eq_some_iff.1 hx).1;omega);rw [aw.out];simp only [];obtain ⟨D,hD⟩:=Aa (BO x);rw [hD.out] at ab ⊢
  gi_wp2
  refine ⟨Fr.refl _ _,?_⟩;intro W2 af;have ah:Blk W2 w.heap.size 22 #[.slice A' (ST i).length c']:=hb.fr af (by omega);have ad:=ho.row;have ak:Own W2 (w.heap.size+5) 3 1 A' (ST i).length c' ((ST i).map Iv):=ho.fr af (fun k hk=>by have:=ad k hk;omega);have a6:Fr Non w W2:=hf.trans af (fun k hk e=>by unfold Non;omega);have bq:=af.size;clear hb ho hf af ad hD aw a1 a0 ar ag;obtain ⟨xs,bf⟩:=Aa (ST i);rw [bf.out] at ah ak ab al;have bc:=ah.cell 0;have av:=lh (Ao9 W2.heap.size xs.length c' A' xs D W2 rfl ak.rd (by omega));obtain ⟨BC,bm⟩:=Aa (xs.contains D);rw [bm.out] at av ab
  cases BC with
  |true=>
   rw [if_pos rfl] at ab
   gi_wp2_with (first|(refine ⟨trivial,rfl,?_⟩;gi_at_call 85;refine (Iw (av.out)).mono ?_;rintro _ W3 ⟨rfl,ac⟩))
   refine ⟨⟨A',c',?_,?_,a6.trans ac zr⟩,ac.of_non _⟩
   · rw [ab];exact ah.fr ac zq
   · rw [ab];exact ak.fr ac zr
  |false=>
   rw [if_neg At6] at ab;have aj:=lh ab;clear ab
   gi_wp2_with (first
    |(refine ⟨trivial,rfl,?_⟩;gi_at_call 85;refine (Iw (av.out)).mono ?_;rintro _ W3 ⟨rfl,ac⟩;have aq:=ah.fr ac zq;have ay:=ak.fr ac zr;have bd:=aq.cell 0;have bo:=ay.ne aq (by decide);have aa:=ay.row;have bp:=aq.lt;have bb:=ac.size)
    |(gi_at_builtin;go_loud (refine Pa (.tmp 17) (.tmp 19) 22 rfl rfl rfl rfl Hd (ay.alloc _) (Rd.one _ _ _) (by simp [Value.oneCell']) (by omega) (by omega) (by simp;omega) ?_);intro A1 c1 w4 ae a9 bg;have au:=(aq.alloc _).fr a9 (fun e=>bo e);have be:=au.cell 0;have bi:=au.frozen 0))
   have ai:=ae.row
   have ao:Own (w4.setCell ⟨w.heap.size,0,none⟩ (.slice A1 (xs.length+1) c1)) (w.heap.size+5) 3 1 A1 (xs++[D]).length c1 ((xs++[D]).map Iv):=by
    rw [List.map_append,At7];exact ae.fr ((Fr.refl (One w.heap.size) w4).setOne 0 _) (fun k hk e=>by have:=(ai k hk).1;unfold One at e;omega)
   have ba:Fr (Xof w.heap.size W2) W2 (w4.setCell ⟨w.heap.size,0,none⟩ (.slice A1 (xs.length+1) c1)):=
    ((((ac.of_non (Xof w.heap.size W2)).alloc _).trans a9 (fun k _ e=>Ap2 ak (by omega) e))).setCell (fun _=>(show Xof w.heap.size W2 w.heap.size from ⟨At1 _,_,_,_,ah,.inr rfl⟩)) _
   refine ⟨⟨A1,c1,?_,?_,a6.trans ba (fun k hk e=>by have:=e.1;unfold Non;omega)⟩,ba⟩
   · rw [aj.out,At7];exact au.set 0 _
   · rw [aj.out];exact ao
 ·
  rintro W ⟨A',c',hb,ho,hf⟩ hD;rw [ag.out] at hb ho;have bc:=hb.cell 0;have aa:=ho.row;have a4:Fr (fun k=>k=w1.heap.size) W (W.putObj w1.heap.size (.deferred none)):=Fr.putOne _ _ _;have ap:=lh ((ho.fr a4 (fun k hk e=>by have:=(aa k hk).1;omega)).lower (base':=w.heap.size) (by omega));have af:=lh (hf.trans a4 (fun k hk e=>by omega));clear ag a1 a0 ar aw;go_wp2;refine ⟨by simp,.inl ⟨_,_,rfl,run_takeDeferred hD,?_⟩⟩;exact ⟨_,results_tmp rfl _ _ _,A',c',rfl,ap.out,af.out⟩
theorem Ap5 {l:List Pn} {row:List Id} {d:Int} (h:∀(j:Nat) (y:Id),(Av l row)[j]? =some y->As l y≠d):Ea l row d=none:=by
 rw [Ta,List.find?_eq_none];intro x hx;obtain ⟨j,hj⟩:=Au7 hx;rw [beq_eq_false_iff_ne.2 (h j x hj)];exact At6
theorem Ap6 {l:List Pn} {row:List Id} {d:Int} {i:Nat} {x:Id} (hx:(Av l row)[i]? =some x) (hh:As l x=d) (h:∀(j:Nat) (y:Id),j<i->(Av l row)[j]? =some y->As l y≠d):Ea l row d=some x:=by
 rw [Ta];exact Na hx (by rw [hh,beq_self_eq_true]) (fun j y hj hy=>beq_eq_false_iff_ne.2 (h j y hj hy))
theorem Ap7 (base:Nat) (g:Gph) (B n c:Nat) (A:Option Addr) (ids:List Id) (d:Int) (w:World) (hg:GAt w base g) (hn:Hid (ids.length=n)) (hr:Rd w B 3 A n (ids.flatMap Id.cells)) (h14:n<=14) (hok:∀x∈ids,x.ok) (hnd:ids.Nodup)
  (hin:∀x∈ids,(plc g.pns x).isSome=true) (hchk:∀m∈g.pns,m.o.chk=0):
  Calls zp 36 #[.pointer (some ⟨g.gb,0,none⟩),.slice A n c,.int .i64 d] w (H8 (Ea g.pns (Af g.pns ids) d) w):=by
 have bd:=((Blk.new w 3 #[.int .i64 d]).alloc (.cells #[.int .i64 0,.int .i64 0,.int .u64 0] 38)).alloc (.cells #[.bool false] 4);have bx:=(Blk.new (w.alloc (.cells #[.int .i64 d] 3)) 38 #[.int .i64 0,.int .i64 0,.int .u64 0]).alloc (.cells #[.bool false] 4);have bb:=Blk.new ((w.alloc (.cells #[.int .i64 d] 3)).alloc (.cells #[.int .i64 0,.int .i64 0,.int .u64 0] 38)) 4 #[.bool false];rw [As7] at bx;rw [As7,As7] at bb;have bf:Fr Non w (((w.alloc (.cells #[.int .i64 d] 3)).alloc (.cells #[.int .i64 0,.int .i64 0,.int .u64 0] 38)).alloc (.cells #[.bool false] 4)):=(((Fr.refl _ _).alloc _).alloc _).alloc _;have av:=lh (fun (gB iB:Nat) (W0:World) h1 h2 h3=>Tj base g gB iB B n c A ids w W0 hg hn hr h14 hok hnd hin hchk h1 h2 h3);have a1:Hid ((∀(j:Nat) (y:Id),(Av g.pns (Af g.pns ids))[j]? =some y->As g.pns y≠d)->Ea g.pns (Af g.pns ids) d=none):=fun h=>Ap5 h;have ae:Hid (∀(i:Nat) (x:Id),(Av g.pns (Af g.pns ids))[i]? =some x->As g.pns x=d->(∀(j:Nat) (y:Id),j<i->(Av g.pns (Af g.pns ids))[j]? =some y->As g.pns y≠d)->Ea g.pns (Af g.pns ids) d=some x):=fun i x h1 h2 h3=>Ap6 h1 h2 h3;have az:Hid (∀x,Ga g.pns x=#[.agg x.V,.int .i64 (As g.pns x)]):=fun _=>rfl;have be:∀x,(Ga g.pns x).size=2:=fun _=>rfl;unfold H8;obtain ⟨GB,a4⟩:=Aa g.gb;rw [a4.out] at av ⊢;clear hg hr hin hchk hok hnd a4;generalize Ea g.pns (Af g.pns ids) d=CO at*;generalize Av g.pns (Af g.pns ids)=XS at*;generalize Ga g.pns=EN at*;generalize As g.pns=BO at*;refine callsIn_wide.1 (callsIn_of_wp_marks (n:=3) func36 rfl trivial ?_ rfl);simp only [ntmps36,Au4,Av6,List.length_nil,Nat.reduceAdd,Nat.reduceSub,Av7,Av8,Av9,Aw0,List.nil_append,Aw1];refine wpIn_wide.2 ?_;go_wp2_with fail;refine (Tl GB n c A _).mono ?_;rintro _ w1 ⟨rfl,a8,a3,ar,ao⟩;have bg:=bd.fr ar zq;have bh:=bx.fr ar zq;have a9:=bb.fr ar zq;rw [As7,As7,As7] at a8 a3 ao;go_wp2_with fail;have a6:Fr Non w w1:=bf.trans ar zr;have hz:w1.heap.size=w.heap.size+5:=by omega
 refine Th (n:=3) (gf:=139) (lb:=#[.pointer (some ⟨w.heap.size+1+1+1,0,none⟩),.pointer (some ⟨w.heap.size+1+1+1+1,0,none⟩)]) rfl (enters_of func139 (by kernel_rfl) rfl) (encs:=EN) (xs:=XS)
  (X:=Xof w.heap.size) (Tr:=fun k=>k=w.heap.size+1\/k=w.heap.size+1+1) (N0:=w.heap.size) be (by omega) Tp Tq ?_ ⟨by omega,by omega⟩
  (fun i W=>(∀j y,j<i->XS[j]? =some y->BO y≠d)/\Blk W w.heap.size 3 #[.int .i64 d]/\Blk W (w.heap.size+1) 38 #[.int .i64 0,.int .i64 0,.int .u64 0]/\Blk W (w.heap.size+1+1) 4 #[.bool false]/\Fr Non w W)
  (fun _ W=>∃x:Id,Hid (CO=some x)/\Blk W (w.heap.size+1) 38 x.V/\Blk W (w.heap.size+1+1) 4 #[.bool true]/\Fr Non w W) ?_ ?_ ?_ ?_ ?_ ?_
 ·
  intro W1 hf _;exact av.out _ _ W1 (a6.trans hf zr) (a8.fr hf zq) (a3.fr hf zq)
 ·
  rintro i X Y ⟨h1,h2,h3,h4,h5⟩ ad;exact ⟨h1,h2.fr ad (by omega),h3.fr ad (by omega),h4.fr ad (by omega),h5.trans ad (fun k hk e=>by unfold Non;omega)⟩
 ·
  rintro i X Y ⟨x,h1,h3,h4,h5⟩ ad;exact ⟨x,h1,h3.fr ad (by omega),h4.fr ad (by omega),h5.trans ad (fun k hk e=>by unfold Non;omega)⟩
 · exact ⟨fun j y hj=>absurd hj (Nat.not_lt_zero j),bg,bh,a9,a6⟩
 ·
  rintro i x W hx ⟨ag,ax,ai,ah,hf⟩ bi;have a5:=ae.out i x hx
  have ab:Hid (BO x≠d->∀j y,j<i+1->XS[j]? =some y->BO y≠d):=fun hne j y hj hy=>by
   rcases Nat.lt_or_ge j i with h|h
   · exact ag j y h hy
   ·
    have e:j=i:=by omega
    rw [e,hx] at hy;injection hy with hy
    rw [<- hy];exact hne
  have ak:Hid (BO x=d->CO=some x):=fun h=>a5 h ag;rw [az.out];simp only [];obtain ⟨D,hD⟩:=Aa (BO x);rw [hD.out] at ak ab ⊢;have a2:=Bp (P:=zp) W.heap.size 38 (cs:=x.V) F9 (old:=#[.int .i64 0,.int .i64 0,.int .u64 0]) rfl (H7 _ _ _);have bn:=Blk.new W 38 #[.int .i64 0,.int .i64 0,.int .u64 0];clear a5 ag hD az ae a1 av hx
  gi_wp2
  refine ⟨((Fr.refl Non W).alloc _).setRow (fun hh=>absurd hh (by omega)) _,?_⟩;intro W2 af;have fz:Fr Non W ((W.alloc (.cells #[.int .i64 0,.int .i64 0,.int .u64 0] 38)).setRow W.heap.size x.V):=((Fr.refl Non W).alloc _).setRow (fun hh=>absurd hh (by omega)) _;have au:=(bn.setRow (cs:=x.V)).fr af (by omega);have al:=(ax.fr fz zq).fr af (by omega);have ac:=(ai.fr fz zq).fr af (by omega);have aa:=(ah.fr fz zq).fr af (by omega);have a7:Fr Non w W2:=(hf.trans fz zr).trans af (fun k hk e=>by unfold Non;omega);have v0:cI W2 W.heap.size 0 x.b:=au.cell 0;have v1:cI W2 W.heap.size 1 x.s:=au.cell 1;have v2:cU W2 W.heap.size 2 x.u:=au.cell 2;have c0:cI W2 w.heap.size 0 d:=al.cell 0;have aj:Blk (W2.setRow (w.heap.size+1) x.V) (w.heap.size+1+1) 4 #[.bool false]:=aa.setRow_far (by omega);have z0:(W2.setRow (w.heap.size+1) x.V).cell? ⟨w.heap.size+1+1,0,none⟩=some (.bool false):=aj.cell 0;have y0:=aj.frozen 0;have bc:=Bp (P:=zp) (w.heap.size+1) 38 (cs:=x.V) F9 (old:=#[.int .i64 0,.int .i64 0,.int .u64 0]) rfl (H7 _ _ _);clear a2 bn ax ai ah hf af fz au;replace hz:=lh hz;replace ao:=lh ao
  by_cases hh:D=d
  ·
   have tt:(D==d)=true:=by rw [hh];exact beq_self_eq_true d
   have aw:=lh (ak.out hh);clear ak ab hh
   gi_wp2
   have f1:Fr (fun k=>k=w.heap.size+1\/k=w.heap.size+1+1) W2 (W2.setRow (w.heap.size+1) x.V):=(Fr.refl _ W2).setRow (fun _=> .inl rfl) _;have f2:=f1.setCell (p:=⟨w.heap.size+1+1,0,none⟩) (fun _=> .inr rfl) (.bool true);refine ⟨⟨x,aw.out,?_,?_,a7.trans f2 (fun k hk e=>by unfold Non;omega)⟩,f2⟩
   · exact (ac.setRow (cs:=x.V)).fr ((Fr.refl (One (w.heap.size+1+1)) _).setOne 0 _) (by unfold One;omega)
   · exact (aa.setRow_far (g':=w.heap.size+1) (by omega) (cs:=x.V)).set 0 (.bool true)
  ·
   have tt:(D==d)=false:=beq_eq_false_iff_ne.2 hh;have ap:=ab.out hh;have aq:=lh ap;clear ak ab hh ap
   gi_wp2
   exact ⟨⟨aq.out,al,ac,aa,a7⟩,Fr.refl _ _⟩
 ·
  rintro W ⟨ag,ax,ai,ah,hf⟩ hD;have ay:CO=none:=a1.out (fun j y hy=>ag j y (List.getElem?_eq_some_iff.1 hy).1 hy);subst ay;have aj:Blk (W.setRow (w.heap.size+1) #[.int .i64 0,.int .i64 0,.int .u64 0]) (w.heap.size+1+1) 4 #[.bool false]:=ah.setRow_far (by omega);have z0:(W.setRow (w.heap.size+1) #[.int .i64 0,.int .i64 0,.int .u64 0]).cell? ⟨w.heap.size+1+1,0,none⟩=some (.bool false):=aj.cell 0;have y0:=aj.frozen 0;have bc:=Bp (P:=zp) (w.heap.size+1) 38 (cs:=#[.int .i64 0,.int .i64 0,.int .u64 0]) F9 (old:=#[.int .i64 0,.int .i64 0,.int .u64 0]) rfl (H7 0 0 0);have f1:Fr (fun k=>k=w.heap.size+1\/k=w.heap.size+1+1) W (W.setRow (w.heap.size+1) #[.int .i64 0,.int .i64 0,.int .u64 0]):=(Fr.refl _ W).setRow (fun _=> .inl rfl) _;have f2:=f1.setCell (p:=⟨w.heap.size+1+1,0,none⟩) (fun _=> .inr rfl) (.bool false);have ba:=f2.obj hD (by omega);have ac:=((ai.setRow (cs:=#[.int .i64 0,.int .i64 0,.int .u64 0])).fr ((Fr.refl (One (w.heap.size+1+1)) _).setOne 0 (.bool false)) (by unfold One;omega)).fr (Fr.putOne _ w1.heap.size (.deferred none)) (by omega);have aa:=(aj.set 0 (.bool false)).fr (Fr.putOne _ w1.heap.size (.deferred none)) (by omega);have a0:=lh ((hf.trans f2 (fun k hk e=>by unfold Non;omega)).trans (Fr.putOne _ w1.heap.size (.deferred none)) (fun k hk e=>by unfold Non;omega));replace hz:=lh hz;replace ao:=lh ao;clear ag a1 ae av az;go_wp2;refine ⟨by simp,.inl ⟨_,_,rfl,run_takeDeferred ba,?_⟩⟩;exact ⟨_,To rfl rfl ac rfl underlying38 F9 rfl (aa.cell 0) rfl underlying4,rfl,a0.out⟩
 ·
  rintro i W ⟨x,ak,ai,ah,hf⟩ hD;have ay:CO=some x:=ak.out;subst ay;have ac:=ai.fr (Fr.putOne W w1.heap.size (.deferred none)) (by omega);have aa:=ah.fr (Fr.putOne W w1.heap.size (.deferred none)) (by omega);have a0:=lh (hf.trans (Fr.putOne W w1.heap.size (.deferred none)) (fun k hk e=>by unfold Non;omega))
  (try simp only [Exit.inBlock,Exit.then])
  refine ⟨by simp,.inl ⟨_,_,rfl,run_takeDeferred hD,?_⟩⟩;exact ⟨_,To rfl rfl ac rfl underlying38 F9 rfl (aa.cell 0) rfl underlying4,rfl,a0.out⟩
end Oq
end
section
open Go.RowKit
namespace Oq
def nxL (y:OpL) (A:Option Addr) (c:Nat) (ids:List Id) (s a:Int):OpL:={y with pastA:=A,pastC:=c,past:=ids,sq:=s,at_:=a}
theorem Ap8 {y:OpL} {A:Option Addr} {c:Nat} {ids:List Id} {s a:Int} (h:y.op.ok) (hi:ids.length<=1000/\∀x∈ids,x.ok) (hs:I64 s) (ha:I64 a):(nxL y A c ids s a).op.ok where
 by_:=h.by_
 sq:=hs
 kind:=h.kind
 at_:=ha
 past:=hi
 dev:=h.dev
 old:=h.old
 mem:=h.mem
 role:=h.role
 path:=h.path
 epoch:=h.epoch
 n:=h.n
 body:=h.body
 refs:=h.refs
 of:=h.of
 guards:=h.guards
 need:=h.need
 wait:=h.wait
 boxes:=h.boxes
 pub:=h.pub
 hist:=h.hist
 r:=h.r
 s:=h.s
theorem Ap9 {y:OpL} {A:Option Addr} {c:Nat} {ids:List Id} {s a:Int} {w:World} {base:Nat} (h:y.own w base) (hi:RowAt w base 38 3 A ids.length c (ids.flatMap Id.cells)):(nxL y A c ids s a).own w base:=
 ⟨hi,h.path,h.nodes,h.body,h.refs,h.guards,h.boxes,h.hist,h.seals⟩
def fsL (d a v:Int) (A:Option Addr):OpL:={OpL.zero with by_:=d,sq:=1,kind:=1,at_:=a,pathA:=A,pathC:=1,path:=[⟨5,none,0,[]⟩],need:=v}
theorem Aq0 {d a v:Int} {A:Option Addr} (hd:I64 d) (ha:I64 a) (hv:I64 v):(fsL d a v A).op.ok:=
 ⟨hd,(show I64 1 from ⟨by decide,by decide⟩),(show I64 1 from ⟨by decide,by decide⟩),ha,⟨As8 _,fun _ h=>absurd h At5⟩,z64,z64,z64,z64,⟨by show (1:Nat)<=1000;decide,fun x hx=>by obtain rfl:=List.mem_singleton.1 hx;exact Gy 5 (by decide)⟩,⟨z64,z64,Fj⟩,z64,As8 _,⟨As8 _,fun _ h=>absurd h At5⟩,⟨z64,z64,Fj⟩,
  ⟨As8 _,fun _ h=>absurd h At5⟩,hv,z64,⟨As8 _,fun _ h=>absurd h At5⟩,Fj,⟨As8 _,fun _ h=>absurd h At5⟩,Fj,Fj⟩
theorem Aq1 {d a v:Int} {A:Option Addr} {w:World} {base:Nat} (h:RowAt w base 94 2 A 1 1 (([⟨5,none,0,[]⟩]:List NdL).flatMap NdL.cells)):(fsL d a v A).own w base:=
 ⟨RowAt.nil _ _ _ _,h,(fun y hy=>by obtain rfl:=List.mem_singleton.1 hy;exact RowAt.nil _ _ _ _),RowAt.nil _ _ _ _,RowAt.nil _ _ _ _,RowAt.nil _ _ _ _,RowAt.nil _ _ _ _,RowAt.nil _ _ _ _,(fun _ h=>absurd h At5)⟩
theorem OpL.own.opBlk {x:OpL} {w w':World} {base g:Nat} {cs:Array Value} (h:x.own w base) (hb:Blk w g 44 cs) (hf:Fr (One g) w w'):x.own w' base:=
 h.keepP hf (Types.one hb) (by decide) (by decide) (by decide) (by decide) (by decide) (by decide) (by decide)
theorem Nf {w:World} {g i:Nat} (u:Value):Fr (One g) w (w.setCell ⟨g,i,none⟩ u):=(Fr.refl (One g) w).setCell (p:=⟨g,i,none⟩) (fun _=>rfl) u
theorem Gc {w:World} {g:Nat} (cs:Array Value):Fr (One g) w (w.setRow g cs):=(Fr.refl (One g) w).setRow (fun _=>rfl) cs
def Gd (o:Op) (base:Nat) (w:World) (e:Ending) (w':World):Prop:=∃y:OpL,e=.returned (.agg y.cells)/\y.op=sgn o/\y.own w' base/\Fr Non w w'
theorem Kn (x:OpL) (d base:Nat) (w:World) (hd:x.by_=(d:Int)) (hd':d<=1000) (ho:x.own w base) (hok:x.op.ok):
  Calls zp 15 #[.agg x.cells] w (Gd x.op base w):=by
 have h:=Ww x d w (by rw [hd,IntKind.wrap_u64];omega) (by omega) ho.at hok;refine Calls.mono h ?_;rintro r w' ⟨h1,h2⟩;exact ⟨_,h1,Ac9 x x.op rfl d (by show x.by_.toNat=d;omega) _ rfl,Ad0 (ho.non h2) _ _,h2⟩
theorem Aq2 {cards:List Cd} (hc:cards=Bl 0 [1,2,3,1]) {d:Int} (hd:1<=d/\d<=4):∃c,Cm cards d=some c/\c.s=Sg.pub (sec Bu d.toNat):=by
 subst hc;have h4:d=1\/d=2\/d=3\/d=4:=by omega
 rcases h4 with rfl|rfl|rfl|rfl
 · exact ⟨Cy 0 1,rfl,rfl⟩
 · exact ⟨Cy 1 2,rfl,rfl⟩
 · exact ⟨Cy 2 3,rfl,rfl⟩
 · exact ⟨Cy 3 1,rfl,rfl⟩
theorem Aq3 {cards:List Cd} (hc:cards=Bl 0 [1,2,3,1]) {d a v:Int} (hd:1<=d/\d<=4) (ha:0<=a/\a<=4) (hv:0<=v/\v<=4):An cards [] (sgn (Kd d a v))=0:=by
 obtain ⟨c,h1,h2⟩:=Aq2 hc hd;exact Aj6 ⟨by omega,by omega⟩ ⟨by omega,by omega⟩ ⟨by omega,by omega⟩ h1 h2
def FewN (o:Op):Prop:=o.past.length<=500/\1<=o.by_/\o.by_<=4
theorem FewN.sgn {o:Op} (h:FewN o):FewN (sgn o):=by
 unfold FewN at*;rw [Ac7,Ac6];exact h
def Ko (cards:List Cd) (l:List Pn) (w:World) (e:Ending) (w':World):Prop:=
 ∃y:OpL,e=.returned (.agg y.cells)/\y.op.ok/\y.own w' w.heap.size/\Fr Non w w'/\(l=[]->An cards [] y.op=0)/\FewN y.op
end Oq
end
end Go.Proofs.YtihfebhfgliojaaGreatDoor
