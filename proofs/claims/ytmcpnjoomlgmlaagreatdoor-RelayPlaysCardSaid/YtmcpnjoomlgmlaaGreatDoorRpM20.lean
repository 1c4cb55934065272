/- Contracts of functions, walked (part 20).
Conditions: as each theorem says. -/
import Derived.Test.YtmcpnjoomlgmlaaGreatDoorRpM19
set_option maxRecDepth 100000
set_option maxHeartbeats 16000000
open Bool renaming eq_iff_iff->A65,not_false->A71,not_true->A72,false_ne_true->A75,not_eq_true'->A86
open List renaming getElem?_eq_getElem->A59,map_append->A60,mem_of_getElem?->A61,any_eq_true->A62,map_cons->A64,getElem?_map->A66,length_map->A68,mem_map_of_mem->A69,getElem?_of_mem->A70,not_mem_nil->A73,all_eq_true->A74,range->A76,append_assoc->A77,eraseIdx_eq_take_drop_succ->A79,eraseIdx_sublist->A80,mem_cons_self->A81,mem_cons_of_mem->A82,length_append->A84,getElem_mem->A85,length_range->A87,perm_middle->A88,getElem?_cons_succ->A89,take_length->A90
open Nat renaming le_refl->A67,zero_le->A78,le_trans->A83
open Go.World renaming size_alloc->A63
open Go.Proofs.Tryz
open Go.Proofs.Tryz renaming prog->zp
open Go.Lib renaming hid->lh
open List renaming set->zl
open Go.Ending renaming returned->ze
namespace Go.Proofs.YtmcpnjoomlgmlaaGreatDoor
open Go.RowKit
attribute [local go_sem ↓] Go.wp_at_zero Go.wp_at_succ
section
open Go.RowKit Go.Sort
namespace Oq
attribute [local go_sem] A71 A72
theorem A11 (base:Nat) (g:Gph) (x y:Id) (w:World) (hg:GAt w base g) (hx:x.ok) (hy:y.ok):
  Calls zp 76 #[.agg #[.pointer (some ⟨g.gb,0,none⟩)],.agg x.V,.agg y.V] w fun e w'=>e=.returned (.int .i64 (Ff g.pns x y))/\Fr Non w w':=by
 have kx:Hid (∀w',Fr Non w w'->Calls zp 137 #[.pointer (some ⟨g.gb,0,none⟩),.agg x.V] w' fun e w''=>e=.returned (.int .i64 (Ao g.pns x:Int))/\Fr Non w' w''):=fun w' hf=>by
  have:=Ra base g x w' (hg.fr hf) hx;rwa [g.level_eq] at this
 have ky:Hid (∀w',Fr Non w w'->Calls zp 137 #[.pointer (some ⟨g.gb,0,none⟩),.agg y.V] w' fun e w''=>e=.returned (.int .i64 (Ao g.pns y:Int))/\Fr Non w' w''):=fun w' hf=>by
  have:=Ra base g y w' (hg.fr hf) hy;rwa [g.level_eq] at this
 have ag:=lh (A10 g.pns x y);have k1:=lh (fun w'=>Mt x y w');have k2:=lh (fun w'=>Mt y x w');unfold Ae at k1 k2;obtain ⟨GB,ai⟩:=Ab g.gb;rw [ai.out] at kx ky ⊢;clear hg ai hx hy;generalize Ao g.pns x=LX at*;generalize Ao g.pns y=LY at*;generalize Ff g.pns x y=R at*;generalize Id.less x y=BX at*;generalize Id.less y x=BY at*;have kc:Hid (∀w',Calls zp 136 #[.int .i64 (LX:Int),.int .i64 (LY:Int)] w' fun e w''=>e=.returned (.int .i64 (Bn (LX:Int) (LY:Int)))/\Fr Non w' w''):=fun w'=>(Ms _ _ w').mono fun _ _ h=>⟨h.1,h.2▸Fr.refl _ _⟩;have ko:Hid (∀(a b:Int) (k:Nat) w',Blk w' k 3 #[.int .i64 a,.int .i64 b]->Calls zp 135 #[.slice (some ⟨k,0,none⟩) 2 2] w' fun e w''=>e=.returned (.int .i64 (Fv a b))/\Fr Non w' w''):=fun a b k w' hk=>(A09 a b k w' hk).mono fun _ _ h=>⟨h.1,h.2▸Fr.refl _ _⟩;generalize Bn (LX:Int) (LY:Int)=CC at*;have bg:=((Blk.new w 136 #[.pointer (some ⟨GB,0,none⟩)]).alloc (.cells x.V 45)).alloc (.cells y.V 45);have ba:=(Blk.new (w.alloc (.cells #[.pointer (some ⟨GB,0,none⟩)] 136)) 45 x.V).alloc (.cells y.V 45);have bb:=Blk.new ((w.alloc (.cells #[.pointer (some ⟨GB,0,none⟩)] 136)).alloc (.cells x.V 45)) 45 y.V;rw [A63] at ba;rw [A63,A63] at bb;have f0:Fr Non w (((w.alloc (.cells #[.pointer (some ⟨GB,0,none⟩)] 136)).alloc (.cells x.V 45)).alloc (.cells y.V 45)):=(((Fr.refl Non w).alloc _).alloc _).alloc _;have r0:=bg.cell 0;have a0:=ba.cell 0;have a1:=ba.cell 1;have a2:=ba.cell 2;have b0:=bb.cell 0;have b1:=bb.cell 1;have b2:=bb.cell 2;clear bg ba bb;go_enter func76,ntmps76;go_upto_region 1 with (fail)
 generalize ((w.alloc (.cells #[.pointer (some ⟨GB,0,none⟩)] 136)).alloc (.cells x.V 45)).alloc (.cells y.V 45)=w0 at*;change w0.cell? ⟨w.heap.size,0,none⟩=some (.pointer (some ⟨GB,0,none⟩)) at r0;change w0.cell? ⟨w.heap.size+1,0,none⟩=some (.int .i64 x.b) at a0;change w0.cell? ⟨w.heap.size+1,1,none⟩=some (.int .i64 x.s) at a1;change w0.cell? ⟨w.heap.size+1,2,none⟩=some (.int .u64 (x.u:Int)) at a2;change w0.cell? ⟨w.heap.size+1+1,0,none⟩=some (.int .i64 y.b) at b0;change w0.cell? ⟨w.heap.size+1+1,1,none⟩=some (.int .i64 y.s) at b1;change w0.cell? ⟨w.heap.size+1+1,2,none⟩=some (.int .u64 (y.u:Int)) at b2;obtain ⟨V,hV⟩:=Ab (if BX=true then (-1:Int) else if BY=true then 1 else 0);rw [hV.out] at ag
 go_upto_block 0 with (fail)
 go_cut [7] from 8 to 15 (fun s wc=>s=.int .i64 V/\Fr Non w0 wc)
 case first=>
  cases BX
  case true=>
   go_wp2_with (go_at_call 134;(with_reducible refine (k1.out _).mono ?_);rintro _ w1 ⟨rfl,f1⟩);go_meet;exact ⟨congrArg _ hV.out,f1⟩
  case false=>
   have ah:Hid (∀v,Fr Non w0 v->cI v (w.heap.size+1) 0 x.b/\cI v (w.heap.size+1) 1 x.s/\cU v (w.heap.size+1) 2 x.u/\cI v (w.heap.size+1+1) 0 y.b/\cI v (w.heap.size+1+1) 1 y.s/\cU v (w.heap.size+1+1) 2 y.u):=fun v hf=>⟨hf.cell a0 zq,hf.cell a1 zq,hf.cell a2 zq,hf.cell b0 zq,hf.cell b1 zq,hf.cell b2 zq⟩
   cases BY
   all_goals
    go_wp2_with (first
     |(go_at_call 134;(with_reducible refine (k1.out _).mono ?_);rintro _ w1 ⟨rfl,f1⟩;obtain ⟨a0,a1,a2,b0,b1,b2⟩:=ah.out _ f1)
     |(go_at_call 134;(with_reducible refine (k2.out _).mono ?_);rintro _ w2 ⟨rfl,f2⟩))
    go_meet;exact ⟨congrArg _ hV.out,f1.trans f2 zr⟩
 case rest=>
 obtain ⟨rfl,fc⟩:=hcut;clear hV k1 k2;have fw:=f0.trans fc zr;obtain ⟨B0,ab,af,aa,ad,ac,ae⟩:=zk7 fc r0 a0 a1 a2 b0 b1 b2;clear r0 a0 a1 a2 b0 b1 b2;go_upto_region 6 with (fail)
 have F0:Fr Non wc wc.drew:=(Fr.refl Non wc).drew;have G0:Fr Non w wc.drew:=fw.drew;refine wp_region_held_drew (S:=fun w'=>w'.cell? ⟨w.heap.size,0,none⟩=some (.pointer (some ⟨GB,0,none⟩))/\cI w' (w.heap.size+1) 0 x.b/\cI w' (w.heap.size+1) 1 x.s/\cU w' (w.heap.size+1) 2 x.u/\cI w' (w.heap.size+1+1) 0 y.b/\cI w' (w.heap.size+1+1) 1 y.s/\cU w' (w.heap.size+1+1) 2 y.u) (by kernel_rfl) ⟨B0,ab,af,aa,ad,ac,ae⟩ (fun uu=> ?_);refine tkN 0 3 uu (h:=tkN 4 3 uu (h:=tkN 9 1 uu (h:=?_)));clear uu;refine oG 3 (fun K hK=> ?_);go_simp;go_wp2_with (go_at_call 137;(with_reducible refine (kx.out _ G0).mono ?_);rintro _ v1 ⟨rfl,aq⟩;have F1:=F0.trans aq zr;obtain ⟨B1,bc,al,bn,a7,bl,au⟩:=zk7 F1 B0 ab af aa ad ac ae;have G1:=fw.trans F1 zr);refine hK.out _ _ ⟨B1,bc,al,bn,a7,bl,au⟩ (fun hZ=> ?_);clear hZ hK K;try simp only [Ah,zl]
 refine oG 7 (fun K hK=> ?_);go_simp;go_wp2_with (go_at_call 137;(with_reducible refine (ky.out _ G1).mono ?_);rintro _ v2 ⟨rfl,az⟩;have F2:=F1.trans az zr;obtain ⟨B2,ap,bf,aj,bi,bd,a3⟩:=zk7 F2 B0 ab af aa ad ac ae;have G2:=fw.trans F2 zr);refine hK.out _ _ ⟨B2,ap,bf,aj,bi,bd,a3⟩ (fun hZ=> ?_);clear hZ hK K;try simp only [Ah,zl]
 refine oG 8 (fun K hK=> ?_);go_simp;go_wp2_with (go_at_call 136;(with_reducible refine (kc.out _).mono ?_);rintro _ v3 ⟨rfl,ak⟩;have F3:=F2.trans ak zr;obtain ⟨B3,bp,bs,a8,a4,be,aw⟩:=zk7 F3 B0 ab af aa ad ac ae;have G3:=fw.trans F3 zr);refine hK.out _ _ ⟨B3,bp,bs,a8,a4,be,aw⟩ (fun hZ=> ?_);clear hZ hK K;try simp only [Ah,zl]
 refine oG 10 (fun K hK=> ?_);go_simp;have bm:=Blk.new v3 3 #[.int .i64 CC,.int .i64 V];have av:Fr Non v3 (v3.alloc (.cells #[.int .i64 CC,.int .i64 V] 3)):=(Fr.refl _ _).alloc _;have F4:=F3.trans av zr;obtain ⟨B4,bq,bo,bk,br,bh,a6⟩:=zk7 F4 B0 ab af aa ad ac ae;have G4:=fw.trans F4 zr;refine hK.out _ _ ⟨B4,bq,bo,bk,br,bh,a6⟩ (fun hZ=> ?_);clear hZ hK K;try simp only [Ah,zl]
 generalize v3.alloc (.cells #[.int .i64 CC,.int .i64 V] 3)=v4 at*;refine oG 11 (fun K hK=> ?_);go_simp;go_wp2_with (go_at_call 135;(with_reducible refine (ko.out _ _ _ _ bm).mono ?_);rintro _ v5 ⟨rfl,ay⟩;have F5:=F4.trans ay zr;obtain ⟨B5,bj,ax,ao,ar,a5,a9⟩:=zk7 F5 B0 ab af aa ad ac ae;have G5:=fw.trans F5 zr);refine hK.out _ _ ⟨B5,bj,ax,ao,ar,a5,a9⟩ (fun uu=> ?_);clear hK K;try simp only [Ah,zl]
 refine tkN 12 1 uu (h:=?_);clear uu;refine oD ?_;go_simp;go_wp2_with fail
 go_ret
 exact ⟨by rw [<- ag.out];rfl,G5⟩
theorem A12 (base:Nat) (g:Gph) (w:World) (hg:GAt w base g):Fu w 76 #[.agg #[.pointer (some ⟨g.gb,0,none⟩)]] #[] (Ff g.pns) where
 enters:=enters_of func76 (by kernel_rfl) rfl
 tells x y v hf hx hy:=A11 base g x y v (hg.fr hf) hx hy
theorem A13 (base:Nat) (g:Gph) (B n c:Nat) (A:Option Addr) (ids:List Id) (w:World) (hg:GAt w base g) (hn:Hid (ids.length=n)) (hr:Rd w B 3 A n (ids.flatMap Id.cells)) (h14:n<=14) (hok:∀x∈ids,x.ok) (hnd:ids.Nodup):
  Calls zp 48 #[.pointer (some ⟨g.gb,0,none⟩),.slice A n c] w (Ek (Ck g.pns ids) w):=by
 have kl:=lh (Nu B n c A _ w hr (Id.cells_one ids) (by omega))
 have ks:Hid (∀(A':Option Addr) (c':Nat) (w':World),Own w' w.heap.size 45 3 A' n c' (ids.flatMap Id.cells)->Fr Non w w'->Calls zp 97 #[.slice A' n c',.func (.func 76) #[.agg #[.pointer (some ⟨g.gb,0,none⟩)]] #[]] w' fun e w''=>e=.returned (.tuple #[])/\Own w'' w.heap.size 45 3 A' n c' ((Ck g.pns ids).flatMap Id.cells)/\Fr Non w w''):=by
  intro A' c' w' ho hf;have hsz:ids.toArray.size=n:=by rw [List.size_toArray];exact hn.out
  have hS:Srt w w' w.heap.size A' c' ids.toArray:=⟨by rw [hsz];exact ho,hf,hok,A67 _⟩;refine (A05 w w.heap.size c' A' ids.toArray n _ _ _ (Ff g.pns) w' (A12 base g w hg) hS hsz (by omega) h14 (A06 g.pns) (fun i j hi hj hne=>A07 g.pns hnd i j (by rw [hsz];exact hi) (by rw [hsz];exact hj) hne)).mono ?_;rintro e w'' ⟨h1,d',h2,h3,h4,h5⟩;have h6:=A08 h4 h3 h5;refine ⟨h1,?_,h2.fr⟩;have h7:=h2.own;rw [h6,h3,hsz] at h7;exact h7
 have hlen:Hid ((Ck g.pns ids).length=n):=by show _=_;rw [Au2,hn.out]
 unfold Bf at kl;unfold Ek;rw [hlen.out];obtain ⟨GB,hGB⟩:=Ab g.gb;rw [hGB.out] at ks ⊢;clear hg hGB hr hok hnd hn hlen;generalize Ck g.pns ids=RS at*;go_enter func48,ntmps48
 go_wp2_with (first
  |(go_at_call 86;(with_reducible refine (kl.out).mono ?_);rintro _ w1 ⟨A1,c1,rfl,o1,f1⟩)
  |(go_at_call 97;(with_reducible refine (ks.out _ _ _ o1 f1).mono ?_);rintro _ w2 ⟨rfl,o2,f2⟩))
 go_ret
 exact ⟨A1,c1,rfl,o2,f2⟩
end Oq
end
namespace Oq
attribute [local go_sem] A71 A72
attribute [local go_sem ↓] Bq Dx
structure BsL where
 A:Option Addr
 c:Nat
 bs:List UInt8
def BsL.cell (x:BsL):Value:=.slice x.A x.bs.length x.c
theorem slBs:SlT zp 58 40 (.slice none 0 0) 1 24:=⟨underlying58,by kernel_rfl,rfl,by decide⟩
def Ec (l:List Pn) (x:Id):Op:=match plc l x with|some i=>(match l[i]? with|some n=>n.o|none=>Op.zero)|none=>Op.zero
theorem Vs {l:List Pn} {x:Id} {i:Nat} {n:Pn} (h:plc l x=some i) (hn:l[i]? =some n):Ec l x=n.o:=by unfold Ec;rw [h];dsimp only;rw [hn]
def BsOwn (w:World) (base:Nat) (l:List BsL):Prop:=∀s∈l,RowLies w base 5 1 s.A s.bs.length s.c (s.bs.map Bv)
theorem BsOwn.non {w w':World} {base:Nat} {l:List BsL} (h:BsOwn w base l) (hf:Fr Non w w'):BsOwn w' base l:=fun s hs=>(h s hs).non hf
def Lw (l:List Pn) (has:List Id) (w:World) (e:Ending) (w':World):Prop:=
 ∃(sl:List BsL) (A:Option Addr) (n c:Nat),e=.returned (.slice A n c)/\Hid (sl.length=n)/\Own w' w.heap.size 40 1 A n c (sl.map BsL.cell)/\Hid (BsOwn w' w.heap.size sl)/\Hid (sl.map BsL.bs=(Fe l has).map (fun x=>(Ec l x).put))/\Fr Non w w'
theorem A14 {w:World} {b:Nat} {g:Gph} (hg:GAt w b g):∀x∈g.pns.map Pn.id,x.ok:=by
 intro x hx;unfold Gph.pns at hx;rw [List.map_map] at hx;obtain ⟨n,hn,rfl⟩:=List.mem_map.1 hx;exact (hg.node n hn).id
theorem A15 {w:World} {b:Nat} {g:Gph} (hg:GAt w b g):∀m∈g.pns,m.o.ok:=by
 intro x hx;unfold Gph.pns at hx;obtain ⟨n,hn,rfl⟩:=List.mem_map.1 hx;exact (hg.node n hn).ok
theorem A16 {α:Type} (p:α->Bool) (l:List α) {k:Nat} {x:α} (h:l[k]? =some x):(l.take (k+1)).filter p=(l.take k).filter p++(if p x=true then [x] else []):=by
 rw [Df h,List.filter_append];congr 1
 cases hp:p x<;>simp [hp]
theorem A17 (base B n c:Nat) (A:Option Addr) (r:Ag) (has:List Id) (w:World) (h:r.okAt w base) (hrows:Rows r.g.cards r.g.pns) (h14:r.g.pns.length<=14) (hn:Hid (has.length=n)) (hr:Rd w B 3 A n (has.flatMap Id.cells)) (hnm:n<=1000000):
  Calls zp 17 #[.pointer (some ⟨r.rb,0,none⟩),.slice A n c] w (Lw r.g.pns has w):=by
 have ak:(zp.info? 52).map (·.size)=some 27:=by kernel_rfl
 have ct:(zp.info? 45).map (·.size)=some 3:=by kernel_rfl
 have bu:w.cell? ⟨r.rb,0,none⟩=some (.pointer (some ⟨r.g.gb,0,none⟩)):=h.blk.cell 0;have ka:=lh (fun (w':World) (hf:Fr Non w w')=>Tw base r.g w' T3 (h.graph.fr hf));have al:=A14 h.graph;have bh:(Ba (r.g.pns.map Pn.id)).Nodup:=(Dt _).nodup_iff.2 hrows.nodup;have bp:(Ba (r.g.pns.map Pn.id)).length<=14:=by rw [I7,A68];exact h14
 have aq:∀x∈Ba (r.g.pns.map Pn.id),x.ok:=fun x hx=>al x ((Dt _).mem_iff.1 hx)
 have ay:Hid (∀w',Fr Non w w'->Calls zp 45 #[.pointer (some ⟨r.g.gb,0,none⟩)] w' (Ek (Ba (r.g.pns.map Pn.id)) w')):=by
  intro w' ca;refine (ka.out w' ca).mono ?_;rintro e cp ⟨A5,c5,out,rfl,hp,hs,o5,f5⟩;obtain rfl:=Q9 hs (Ua rfl hp);exact ⟨A5,c5,rfl,o5,f5⟩
 obtain ⟨IS,bg⟩:=Ab (Ba (r.g.pns.map Pn.id));rw [bg.out] at ay bh bp aq;obtain ⟨NI,bc⟩:=Ab IS.length;rw [bc.out] at bp;have ko:=lh (fun (A':Option Addr) (c':Nat) (w':World) (hf:Fr Non w w') (hrd:Rd w' w'.heap.size 3 A' NI (IS.flatMap Id.cells))=>A13 base r.g w'.heap.size NI c' A' IS w' (h.graph.fr hf) bc hrd bp aq bh);have b7:Hid (∀x∈Ck r.g.pns IS,x∈r.g.pns.map Pn.id):=fun x hx=>(Dt _).mem_iff.1 (by rw [bg.out];exact (Gj _ _).mem_iff.1 hx);have a9:(Ck r.g.pns IS).length=NI:=by rw [(Gj _ _).length_eq];exact bc.out
 have b9:Hid (Fe r.g.pns has=(Ck r.g.pns IS).filter (fun x=> !Bd has x)):=by show _=_;unfold Fe;rw [bg.out]
 have kO:=lh (fun (x:Id) (w':World) (hf:Fr Non w w') (hx:x.ok)=>U6 (l:=r.g.pns) x (h.graph.fr hf) rfl rfl hx);unfold Lo at kO;have kC:=lh (fun (x:Id) (w':World) (hf:Fr Non w w')=>Ay9 B n c A has x w' hn (hr.fr hf zr) hnm);unfold Ae at kC;have co:=lh (fun (x:Id) (hx:x∈r.g.pns.map Pn.id)=>hrows.placed hx);have bm:Hid (∀m∈r.g.pns,m.o.ok):=A15 h.graph;have a0:Hid (∀(sl:List BsL) (A:Option Addr) (n c:Nat) (w':World),Hid (sl.length=n)->Own w' w.heap.size 40 1 A n c (sl.map BsL.cell)->Hid (BsOwn w' w.heap.size sl)->Hid (sl.map BsL.bs=(Fe r.g.pns has).map (fun x=>(Ec r.g.pns x).put))->Fr Non w w'->Lw r.g.pns has w (.returned (.slice A n c)) w'):=fun sl A n c w' h1 h2 h3 h4 h5=>⟨sl,A,n,c,rfl,h1,h2,h3,h4,h5⟩;generalize Lw r.g.pns has w=POST at*;unfold Ek at ay ko;rw [bc.out] at ay;obtain ⟨RS,bv⟩:=Ab (Ck r.g.pns IS);rw [bv.out] at ko b7 a9 b9;rw [a9] at ko;obtain ⟨rb,bx⟩:=Ab r.rb;obtain ⟨gb,b2⟩:=Ab r.g.gb;rw [bx.out,b2.out] at bu;rw [b2.out] at ay ko kO;rw [bx.out];have a6:Hid (∀x∈r.g.pns.map Pn.id,x.ok):=al;generalize r.g.pns=l at*;clear h hr hn hnm ka al bh aq hrows h14;go_enter func17,ntmps17;go_upto_region 2 with (fail)
 have P0:=bu;have F0:Fr Non w w.drew:=(Fr.refl Non w).drew;refine wp_region_held_drew (S:=fun w'=>w'.cell? ⟨rb,0,none⟩=some (.pointer (some ⟨gb,0,none⟩))) (by kernel_rfl) P0 (fun hHeld=> ?_);clear hHeld;refine tkN 0 8 P0 (h:=tkN 11 1 P0 (h:=?_));refine oG 8 (fun K hK=> ?_);go_simp;go_wp2_with (go_at_call 45;(with_reducible refine (ay.out _ F0).mono ?_);rintro _ v1 ⟨A5,c5,rfl,b8,ax⟩;have F1:=F0.trans ax zr;have P1:=F1.cell P0 zq;have G1:=(Fr.refl Non w).trans F1 zr);refine hK.out _ _ P1 (fun hZ=> ?_);clear hZ hK K;try simp only [Ah,zl]
 refine oG 9 (fun K hK=> ?_);go_simp;go_wp2_with (go_at_call 48;(with_reducible refine (ko.out _ _ _ F1 b8.rd).mono ?_);rintro _ v2 ⟨A6,c6,rfl,b4,ai⟩;have F2:=F1.trans ai zr;have P2:=F2.cell P0 zq;have G2:=(Fr.refl Non w).trans F2 zr);refine hK.out _ _ P2 (fun hZ=> ?_);clear hZ hK K;try simp only [Ah,zl]
 refine tkN 10 1 P2 (h:=?_);refine oD ?_;go_simp;have f2:=F2;have o6:=b4;generalize v2=w2 at*;clear P0 P1 P2 F0 F1 F2 ax ai b8 b4 ay ko;have cd:w.heap.size<=w2.heap.size:=f2.size;go_wp2_with fail
 go_loopw [5,21] (fun s v wr=>∃(i M cq:Nat) (Aq:Option Addr) (sl:List BsL),s=.slice Aq M cq/\v=.int .i64 (i:Int)/\i<=NI/\M<=i/\Hid (sl.length=M)/\Own wr w2.heap.size 40 1 Aq M cq (sl.map BsL.cell)/\Hid (BsOwn wr w.heap.size sl)/\Hid (sl.map BsL.bs=((RS.take i).filter (fun x=> !Bd has x)).map (fun x=>(Ec l x).put))/\Fr Non w2 wr) (fun s v _=>NI-(intOf v).toNat)
 case atStart=>exact ⟨0,0,0,none,[],rfl,rfl,by omega,by omega,rfl,Own.nil _ _ _ _,fun s hs=>absurd hs A73,rfl,Fr.refl _ _⟩
 case round=>
 obtain ⟨i,M,cq,Aq,sl,rfl,rfl,hi,hM,ar,bb,be,ab,hf⟩:=hrel
 by_cases hin:i<NI
 case neg=>
  obtain rfl:i=NI:=by omega
  have hd:=lh (a0.out sl Aq M cq wr ar (bb.lower cd) be (by show _=_;rw [ab.out,b9.out,List.take_of_length_le (by rw [a9];exact A67 _)]) (f2.trans hf zr));clear a0 be ab bb;go_wp2_with fail;exact hd.out
 case pos=>
 obtain ⟨x,hx⟩:∃x,RS[i]? =some x:=⟨_,A59 (by rw [a9];exact hin)⟩;have bq:=b7.out x (A61 hx);obtain ⟨p,hp⟩:=Option.isSome_iff_exists.1 (co.out x bq);obtain ⟨m,hm,ck⟩:=Cg hp;have b6:=Vs hp hm;obtain ⟨ba,oa,cm,_,k0,k1,k2⟩:=Id.at (o6.rd.fr hf zr) hx;have b3:x.ok:=a6.out x bq;obtain ⟨i1,i2,i3⟩:=ix i NI
 have e6:=iw ((i:Int)+1);have a4:=lh (A16 (fun x=> !Bd has x) RS hx);subst cm;have bf:=lh (fun (w':World) (h:Fr Non w2 w')=>kO.out x w' (f2.trans h zr) b3);have bi:=Blk.new wr 45 x.V;have fi:Fr Non wr (wr.alloc (.cells x.V 45)):=(Fr.refl Non wr).alloc _;have cf:w2.heap.size<=wr.heap.size:=hf.size
 have ap:Hid (∀(y2:OpL) (is:Bool),((plc l x).isSome=is)->(∀i p,plc l x=some i->l[i]? =some p->y2.op=p.o)->is=true/\y2.op=Ec l x/\y2.op.ok):=by
  intro y2 is h1 h2;have h3:=h2 p m hp hm;refine ⟨by rw [<- h1,hp];rfl,by rw [h3,b6],by rw [h3];exact bm.out m (A61 hm)⟩
 obtain ⟨ib,b5⟩:=Ab wr.heap.size;clear hx bq hp hm ck b6 b3;go_upto_region 5 with (fail)
 rw [b5.out] at bi;try rw [b5.out]
 generalize wr.alloc (.cells x.V 45)=w4 at*;have ad:=hf.trans fi zr;have P4:=(f2.trans ad zr).cell bu zq;have i0:cI w4 ib 0 x.b:=bi.cell 0;have j0:cI w4 ib 1 x.s:=bi.cell 1;have l0:cU w4 ib 2 x.u:=bi.cell 2;clear k0 k1 k2
 go_cut [8,9] from 25 to 33 (fun s1 s2 wc=>∃(qb:Nat) (y2:OpL),s1=.pointer (some ⟨qb,0,none⟩)/\s2=.bool true/\Blk wc qb 52 y2.cells/\Hid (y2.op=Ec l x/\y2.op.ok)/\Hid (y2.lies wc w2.heap.size)/\Fr Non w4 wc)
 case first=>
  have P0:=P4;have I0:=i0;have J0:=j0;have K0:=l0;have F0:Fr Non w4 w4.drew:=(Fr.refl Non w4).drew;have G0:Fr Non w2 w4.drew:=ad.drew;refine wp_region_held_drew (S:=fun w'=>w'.cell? ⟨rb,0,none⟩=some (.pointer (some ⟨gb,0,none⟩))/\cI w' ib 0 x.b/\cI w' ib 1 x.s/\cU w' ib 2 x.u) (by kernel_rfl) ⟨P0,I0,J0,K0⟩ (fun uu=> ?_);refine tkN 0 5 uu (h:=?_);clear uu;refine U7 5 9 (by kernel_rfl) rfl rfl (by kernel_rfl) (by kernel_rfl) (fun K hK=> ?_) (fun K hK=> ?_)
  ·
   skip
   go_simp;go_wp2_with (go_at_call 27;(with_reducible refine (bf.out _ G0).mono ?_);rintro _ v1 ⟨y2,is,rfl,bo,aj,aw,ax⟩;have F1:=F0.trans ax zr;obtain ⟨P1,I1,J1,K1⟩:=zk4 F1 P0 I0 J0 K0;have G1:=ad.trans F1 zr;have br:=lh (aw.out.lower G0.size);obtain ⟨rfl,ao⟩:=ap.out y2 is bo.out aj.out;clear aw aj);refine hK.out _ _ ⟨P1,I1,J1,K1⟩ (fun uu=> ?_);clear hK K;try simp only [Ah,zl]
   refine tkN 6 3 uu (h:=?_);clear uu;refine oG 9 (fun K hK=> ?_);go_simp;have ai:Fr Non v1 (v1.alloc (.cells zO 52)):=(Fr.refl _ _).alloc _;have ac:=Blk.new v1 52 zO;have av:=lh (br.out.non ai);have F2:=F1.trans ai zr;obtain ⟨P2,I2,J2,K2⟩:=zk4 F2 P0 I0 J0 K0;have G2:=ad.trans F2 zr;obtain ⟨qb,az⟩:=Ab v1.heap.size;rw [az.out] at ac ⊢;have cc:w4.heap.size<=qb:=by rw [<- az.out];exact F1.size
   refine hK.out _ _ ⟨P2,I2,J2,K2⟩ (fun hZ=> ?_);clear hZ hK K;try simp only [Ah,zl]
   generalize v1.alloc (.cells zO 52)=v2 at*;have cb:=Cf (P:=zp) qb 52 (cs:=y2.cells) ak (old:=zO) rfl (E8 y2);refine oG 10 (fun K hK=> ?_);go_simp;have bz:=ac.setRow (cs:=y2.cells);have hz:=lh (av.out.keepP (U5 y2.cells) (Types.one ac) (by decide) (by decide) (by decide) (by decide) (by decide) (by decide) (by decide));have F3:Fr Non w4 (v2.setRow qb y2.cells):=F2.setRow (fun hh=>absurd hh (by omega)) _;obtain ⟨P3,I3,J3,K3⟩:=zk4 F3 P0 I0 J0 K0;have G3:=ad.trans F3 zr;refine hK.out _ _ ⟨P3,I3,J3,K3⟩ (fun uu=> ?_);clear hK K;try simp only [Ah,zl]
   refine tkN 11 1 uu (h:=?_);clear uu;refine oD ?_;go_simp;go_wp2_with fail;go_meet;exact ⟨qb,y2,rfl,rfl,bz,ao,hz,F3⟩
  ·
   have F0:Fr Non w4 w4:=Fr.refl Non w4;have G0:=ad;go_simp;have ax:Fr Non w4 ((w4.alloc (.cells zO 52)).drew):=(((Fr.refl Non w4).alloc (.cells zO 52)).drew:Fr Non w4 _);have a1:=(Blk.new w4 52 zO).drew;have F1:=F0.trans ax zr;obtain ⟨P1,I1,J1,K1⟩:=zk4 F1 P0 I0 J0 K0;have G1:=ad.trans F1 zr;obtain ⟨qb,az⟩:=Ab w4.heap.size;rw [az.out] at a1 ⊢;have cc:w4.heap.size<=qb:=by rw [<- az.out];exact A67 _
   refine hK.out _ _ ⟨P1,I1,J1,K1⟩ (fun hZ=> ?_);clear hZ hK K;try simp only [Ah,zl]
   generalize (w4.alloc (.cells zO 52)).drew=v1 at*;refine oG 5 (fun K hK=> ?_);go_simp;go_wp2_with (go_at_call 27;(with_reducible refine (bf.out _ G1).mono ?_);rintro _ v2 ⟨y2,is,rfl,bo,aj,aw,ai⟩;have F2:=F1.trans ai zr;obtain ⟨P2,I2,J2,K2⟩:=zk4 F2 P0 I0 J0 K0;have G2:=ad.trans F2 zr;have ac:=a1.fr ai zq;have av:=lh (aw.out.lower G1.size);obtain ⟨rfl,ao⟩:=ap.out y2 is bo.out aj.out;clear aw aj);refine hK.out _ _ ⟨P2,I2,J2,K2⟩ (fun uu=> ?_);clear hK K;try simp only [Ah,zl]
   refine tkN 6 3 uu (h:=?_);clear uu;have cb:=Cf (P:=zp) qb 52 (cs:=y2.cells) ak (old:=zO) rfl (E8 y2);refine oG 10 (fun K hK=> ?_);go_simp;have bz:=ac.setRow (cs:=y2.cells);have hz:=lh (av.out.keepP (U5 y2.cells) (Types.one ac) (by decide) (by decide) (by decide) (by decide) (by decide) (by decide) (by decide));have F3:Fr Non w4 (v2.setRow qb y2.cells):=F2.setRow (fun hh=>absurd hh (by omega)) _;obtain ⟨P3,I3,J3,K3⟩:=zk4 F3 P0 I0 J0 K0;have G3:=ad.trans F3 zr;refine hK.out _ _ ⟨P3,I3,J3,K3⟩ (fun uu=> ?_);clear hK K;try simp only [Ah,zl]
   refine tkN 11 1 uu (h:=?_);clear uu;refine oD ?_;go_simp;go_wp2_with fail;go_meet;exact ⟨qb,y2,rfl,rfl,bz,ao,hz,F3⟩
 case rest=>
 obtain ⟨qb,y,rfl,rfl,b0,aj,aw,f5⟩:=hcut;generalize wc=w5 at*;have bw:=ad.trans f5 zr;obtain ⟨x0,x1,x2⟩:=zk3 f5 i0 j0 l0;have bl:=lh (kC.out x w5 (f2.trans bw zr));have ag:=(bb.fr fi zr).fr f5 zr;have au:=lh ((be.out.non fi).non f5);have b1:=Be (P:=zp) qb 52 underlying52 rfl (cs:=y.cells) ak;have kp:=lh (fun (w':World) (h:Fr Non w5 w')=>Z8 y w' (aw.out.non h).at aj.out.2);unfold NewB at kp;obtain ⟨n5,bd⟩:=Ab y.op.put.length;rw [bd.out] at kp;have a5:Hid (y.op.put=(Ec l x).put):=by show _=_;rw [aj.out.1]
 obtain ⟨PB,ce⟩:=Ab y.op.put;rw [ce.out] at kp a5 bd;obtain ⟨YC,cl⟩:=Ab y.cells;rw [cl.out] at b0 b1 kp;obtain ⟨HB,cn⟩:=Ab (Bd has x);rw [cn.out] at bl a4;clear kO kC bf P4 i0 j0 l0 bi fi ad f5 bb be ap
 cases HB
 case true=>
  have aa:Hid (sl.map BsL.bs=((RS.take (i+1)).filter (fun x=> !Bd has x)).map (fun x=>(Ec l x).put)):=by
   show _=_;rw [a4.out,ab.out];simp
  clear a4 ab;go_wp2_with (go_at_call 49;(with_reducible refine (bl.out).mono ?_);rintro _ w6 ⟨rfl,f6⟩);have a3:=bw.trans f6 zr;have ae:=ag.fr f6 zr;have af:=lh (au.out.non f6);go_roundw
  case rel=>exact ⟨i+1,M,cq,Aq,sl,rfl,by go_num,by omega,by omega,ar,ae,af,aa,a3⟩
  case measure=>simp [intOf];omega
 case false=>
 have aa:Hid (∀z:BsL,z.bs=PB->(sl++[z]).map BsL.bs=((RS.take (i+1)).filter (fun x=> !Bd has x)).map (fun x=>(Ec l x).put)):=by
  intro z hz;rw [a4.out,A60,A60,ab.out];simp [hz,a5.out]
 clear a4 ab;go_upto_region 7 with (go_at_call 49;(with_reducible refine (bl.out).mono ?_);rintro _ w6 ⟨rfl,f6⟩)
 have ci:=b0.fr f6 zq;have cr:=b1 w6 ci;have cg:=ag.cap;have ae:=ag.fr f6 zr;have af:=lh (au.out.non f6);have a3:=bw.trans f6 zr
 go_wp2_with (first
  |(go_at_call 50;(with_reducible refine (kp.out _ f6).mono ?_);rintro _ w7 ⟨A7,c7,rfl,o7,f7⟩;have ah:=ae.fr f7 zr;have bF:=Blk.new w7 40 #[.slice A7 n5 c7];have cu:=(a3.trans f7 zr).size)
  |(at_builtin;go_loud (refine Av (base:=w2.heap.size) (.tmp 41) (.tmp 44) 58 rfl rfl rfl rfl slBs (ah.alloc (.cells #[.slice A7 n5 c7] 40)) (Rd.blk (n:=1) (size:=1) bF rfl) (by simp [Value.oneCell']) (by omega) (by omega) (by rw [A63];omega) ?_);intro A8 c8 w8 a7 a8 bn))
 have fa:Fr Non w7 (w7.alloc (.cells #[.slice A7 n5 c7] 40)):=(Fr.refl Non w7).alloc _;have ch:=(a3.trans f7 zr).trans fa zr;have cj:Fr Non w2 w8:=ch.trans a8 (fun k hk e=>by have:=(ah.row k e).1;omega);have bj:Types (fun k=>Ad Aq=some k) (w7.alloc (.cells #[.slice A7 n5 c7] 40)) (fun t=>t=40):=fun k cs t fr hk e=>Own.typed (ah.alloc (.cells #[.slice A7 n5 c7] 40)) hk e
 have bk:Hid (BsOwn w8 w.heap.size (sl++[⟨A7,c7,PB⟩])):=by
  intro s hs
  rcases List.mem_append.1 hs with h|h
  · exact (((af.out s h).non f7).non fa).keepT a8 (bj.not (by decide))
  ·
   rw [List.mem_singleton.1 h];have h9:=((RowAt.of_own o7).lies.non fa).keepT a8 (bj.not (by decide));rw [<- bd.out] at h9;exact h9.lower (f2.trans a3 zr).size
 have h1:Hid ((sl++[(⟨A7,c7,PB⟩:BsL)]).length=M+1):=by show _=_;rw [A84,ar.out];rfl
 have bt:Own w8 w2.heap.size 40 1 A8 (M+1) c8 ((sl++[(⟨A7,c7,PB⟩:BsL)]).map BsL.cell):=by
  rw [A60,A64,List.map_nil];show Own _ _ _ _ _ _ _ (_++[Value.slice A7 PB.length c7]);rw [bd.out];exact a7
 have a2:=lh (aa.out ⟨A7,c7,PB⟩ rfl);clear a7 a8 bn o7 ah ae ag af au aa bj kp;go_roundw
 case rel=>exact ⟨i+1,M+1,c8,A8,_,rfl,by go_num,by omega,by omega,h1,bt,bk,a2,cj⟩
 case measure=>simp [intOf];omega
end Oq
namespace Sg
theorem y37g (P m inv y k:Nat) (hP:1+P*m=inv*36) (h:P*k+y=y*37) (hy:y<P):y=0:=by
 have h1:P*k=36*y:=by omega
 have h2:y+P*(m*y)=P*(inv*k):=by
  have h3:(1+P*m)*y=inv*(P*k):=by rw [hP,h1,Nat.mul_assoc]
  rw [Nat.add_mul,Nat.one_mul,Nat.mul_assoc] at h3;rw [h3,Nat.mul_left_comm]
 have h3:(y+P*(m*y))%P=(P*(inv*k))%P:=congrArg (· %P) h2;rw [Nat.add_mul_mod_self_left,Nat.mul_mod_right,Nat.mod_eq_of_lt hy] at h3;exact h3
theorem y37p (P m inv y:Nat) (hP:1+P*m=inv*36) (hy:y<P) (h0:y≠0):y*37%P≠y:=by
 intro h;have e:=Nat.div_add_mod (y*37) P;rw [h] at e;exact h0 (y37g P m inv y _ hP e hy)
theorem y37 (y:Nat) (hy:y<2305843009213693951) (h0:y≠0):y*37%2305843009213693951≠y:=y37p 2305843009213693951 17 1088870309906466588 y (by decide) hy h0
theorem A18 (S:Nat):37^(S+1)%2305843009213693951=37^S%2305843009213693951*37%2305843009213693951:=by
 rw [Nat.pow_succ,Nat.mul_mod (37^S),Nat.mul_mod (37^S%2305843009213693951),Nat.mod_mod]
theorem A19 {S:Nat} (hS:S<2305843009213693950):Fd.pow 37 ((S+1)%2305843009213693950)≠Fd.pow 37 S:=by
 have hlt:(S+1)%2305843009213693950<18446744073709551616:=by have:=Nat.mod_lt (S+1) (show 0<2305843009213693950 by omega);omega
 rw [Fd.pow_eq _ _ hlt,Fd.pow_eq _ _ (show S<18446744073709551616 by omega),Sc,A18];exact y37 _ (Nat.mod_lt _ (by omega)) (Sd S)
theorem Vt {p R S:Nat} {L:List UInt8} (h:check p L R S=true):Fd.pow 37 S=Fd.mul R (Fd.pow p (e R p L)):=by
 unfold check at h;simp only [Bool.and_eq_true,beq_iff_eq] at h;exact h.2
theorem check_next {p R S:Nat} {L:List UInt8} (hS:S<2305843009213693950) (h:check p L R S=true):check p L R ((S+1)%2305843009213693950)=false:=by
 cases hc:check p L R ((S+1)%2305843009213693950) with
 |false=>rfl
 |true=>exact absurd ((Vt hc).trans (Vt h).symm) (A19 hS)
end Sg
namespace Oq
def Dr (o:Op):Op:={o with s:=(o.s+1)%2305843009213693950}
theorem A20 (o:Op):(Dr o).name=o.name:=rfl
theorem A21 {p:Nat} {o:Op} (hs:o.s<2305843009213693950) (h:Sg.check p o.bare o.r o.s=true):Sg.check p (Dr o).bare (Dr o).r (Dr o).s=false:=by
 have h1:=Sg.check_next hs h;have e1:(Dr o).bare=o.bare:=rfl;have e2:(Dr o).r=o.r:=rfl;have e3:(Dr o).s=(o.s+1)%2305843009213693950:=rfl;rw [e1,e2,e3];exact h1
theorem A22 {cards:List Cd} {m:List Pn} {o:Op} {c:Cd} (hchk:(Dr o).chk=0) (hnew:plc m o.name=none) (hroom:m.length<200) (hc:Ev cards o.by_=some c) (hs:o.s<2305843009213693950) (hsg:Sg.check c.s o.bare o.r o.s=true):Au cards m (Dr o)=12:=by
 have hck:=A21 hs hsg;unfold Au;rw [if_neg (fun h=>h hchk),if_neg (by rw [A20,hnew];simp),if_neg (by omega)];rw [show Ev cards (Dr o).by_=some c from hc];dsimp only;rw [if_pos hck]
def Bz (l:List Pn) (q:Nat):Op:=match l[q]? with|some n=>n.o|none=>Op.zero
def opB (l:List Pn) (q:Nat × Bool):Op:=if q.2=true then Dr (Bz l q.1) else Bz l q.1
theorem E1 {l:List Pn} {q:Nat} {n:Pn} (h:l[q]? =some n):Bz l q=n.o:=by unfold Bz;rw [h]
theorem Jl (l:List Pn) (q:Nat × Bool):(opB l q).name=(Bz l q.1).name:=by unfold opB;split<;>rfl
theorem Vu (l m:List Pn) (q:Nat × Bool):ready m (opB l q)=ready m (Bz l q.1):=by unfold opB;split<;>rfl
def Bt (l:List Pn) (K:List Nat) (p:Nat):Bool:=(Bz l p).past.all (fun id=>K.any (fun q=>Id.eq (Bz l q).name id))
def Fg (l:List Pn):Nat->List Nat->List (Nat × Bool)->List Nat × List (Nat × Bool)
 |0,K,W=>(K,W)
 |f+1,K,W=>match W.findIdx? (fun q=>Bt l K q.1) with
  |none=>(K,W)
  |some i=>match W[i]? with
   |none=>(K,W)
   |some q=>Fg l f (if q.2=true then K else K++[q.1]) (W.eraseIdx i)
structure Bi (cards:List Cd) (l:List Pn) (K:List Nat) (W:List (Nat × Bool)) (m:List Pn) (ws:List Op):Prop where
 rl:Rows cards l
 rm:Rows cards m
 km:m.map Pn.o=K.map (Bz l)
 ww:ws=W.map (opB l)
 kl:∀q∈K,q<l.length
 wl:∀q∈W,q.1<l.length
 nodup:(K++W.map Prod.fst).Nodup
variable {cards:List Cd} {l m:List Pn} {K:List Nat} {W:List (Nat × Bool)} {ws:List Op}
theorem Bi.among (h:Bi cards l K W m ws):Ft l m:=by
 intro n' hn;have h1:n'.o∈K.map (Bz l):=by rw [<- h.km];exact A69 hn
 obtain ⟨q,hq,e⟩:=List.mem_map.1 h1;have hlt:=h.kl q hq;exact ⟨l[q],A85 _,by rw [<- e,E1 (A59 hlt)]⟩
theorem Bi.has (h:Bi cards l K W m ws) (id:Id):(plc m id).isSome=K.any (fun q=>Id.eq (Bz l q).name id):=by
 rw [A65,A62];constructor
 ·
  intro hs
  cases hp:plc m id with
  |none=>rw [hp] at hs;cases hs
  |some j=>
   obtain ⟨n',hn',e⟩:=Cg hp;have h1:n'.o∈K.map (Bz l):=by rw [<- h.km];exact A69 (A61 hn')
   obtain ⟨q,hq,e2⟩:=List.mem_map.1 h1;exact ⟨q,hq,(Id.eq_iff _ _).2 (by rw [e2,<- (h.rm.ok j n' hn').id,e])⟩
 ·
  rintro ⟨q,hq,e⟩;have e':=(Id.eq_iff _ _).1 e;have h1:Bz l q∈m.map Pn.o:=by rw [h.km];exact A69 hq
  obtain ⟨n',hn',e2⟩:=List.mem_map.1 h1;obtain ⟨j,hj⟩:=A70 hn';have:=(h.rm.ok j n' hj).plc;rw [(h.rm.ok j n' hj).id,e2,e'] at this;rw [this];rfl
theorem Bi.free (h:Bi cards l K W m ws) (q:Nat × Bool):ready m (opB l q)=Bt l K q.1:=by
 rw [Vu];unfold ready Bt;rw [A65,A86,List.any_eq_false,A74];refine forall_congr' (fun id=>forall_congr' (fun _=> ?_));rw [<- h.has id]
 cases plc m id with
 |none=>exact ⟨fun h=>absurd rfl h,fun h=>by cases h⟩
 |some i=>exact ⟨fun _=>rfl,fun _=>A75⟩
theorem O7 {cards:List Cd} {l:List Pn} (h:Rows cards l) {p q:Nat} (hp:p<l.length) (hq:q<l.length) (e:(Bz l p).name=(Bz l q).name):p=q:=by
 have h1:l[p]? =some l[p]:=A59 hp;have h2:l[q]? =some l[q]:=A59 hq;rw [E1 h1,E1 h2,<- (h.ok p _ h1).id,<- (h.ok q _ h2).id] at e;have k1:=(h.ok p _ h1).plc;rw [e,(h.ok q _ h2).plc] at k1;injection k1 with k1
 exact k1.symm
theorem Bi.err (h:Bi cards l K W m ws) (hB:∀n∈l,n.o.s<2305843009213693950/\(Dr n.o).chk=0) (hlen:l.length<200) {q:Nat × Bool} (hq:q.1<l.length) (hn:q.1∉K) (hr:Bt l K q.1=true):Au cards m (opB l q)=if q.2=true then 12 else 0:=by
 have h1:l[q.1]? =some l[q.1]:=A59 hq
 have hnew:plc m l[q.1].o.name=none:=by
  cases hp:plc m l[q.1].o.name with
  |none=>rfl
  |some j=>
   exfalso;have h2:(plc m l[q.1].o.name).isSome=true:=by rw [hp];rfl
   rw [h.has,A62] at h2;obtain ⟨p,hp2,e⟩:=h2;have e':=(Id.eq_iff _ _).1 e;rw [<- E1 h1] at e';exact hn (O7 h.rl (h.kl p hp2) hq e'▸hp2)
 have hroom:m.length<200:=by
  have hk:K.Nodup:=(List.nodup_append.1 h.nodup).1;have e1:m.length=K.length:=by have:=congrArg List.length h.km;simpa using this
  have e2:K.length<=(A76 l.length).length:=Fp hk (fun x hx=>List.mem_range.2 (h.kl x hx));rw [A87] at e2;omega
 have hid:=(h.rl.ok _ _ h1).id;have hrd:ready m l[q.1].o=true:=by rw [<- E1 h1,<- Vu l m q,h.free];exact hr
 have he:Au cards m l[q.1].o=0:=by
  rw [N9 h.rl h.rm h.among h1 (by rw [hid];exact hnew) hroom,if_neg];unfold ready at hrd;rw [A86] at hrd;rw [hrd];exact A75
 unfold opB;rw [E1 h1]
 by_cases hb:q.2=true
 ·
  rw [if_pos hb,if_pos hb];obtain ⟨⟨c,hc,hsg⟩,_⟩:=Lg he;obtain ⟨b1,b2⟩:=hB _ (A61 h1);exact A22 b2 hnew hroom hc b1 hsg
 ·
  rw [if_neg hb,if_neg hb];exact he
theorem A23 {α β:Type} (f:α->β) (l:List α) (i:Nat):(l.map f).eraseIdx i=(l.eraseIdx i).map f:=by
 rw [A79,A79,A60,List.map_take,List.map_drop]
theorem A24 {K:List Nat} {W:List (Nat × Bool)} {i:Nat} {q:Nat × Bool} (hi:W[i]? =some q):(K++[q.1]++(W.eraseIdx i).map Prod.fst).Perm (K++W.map Prod.fst):=by
 rw [A77];refine List.Perm.append_left _ ?_;obtain ⟨hlt,e⟩:=List.getElem?_eq_some_iff.1 hi;rw [A79];conv=>rhs;rw [<- List.take_append_drop i W,List.drop_eq_getElem_cons hlt]
 rw [e,A60,A60,A64];exact (A88 (a:=q.1) (l₁:=(W.take i).map Prod.fst) (l₂:=(W.drop (i+1)).map Prod.fst)).symm
theorem Bi.kept (h:Bi cards l K W m ws) {W':List (Nat × Bool)} {p:Nat} (hp:p<l.length) (he:Au cards m (Bz l p)=0) (hw:∀q∈W',q.1<l.length) (hn:(K++[p]++W'.map Prod.fst).Nodup):Bi cards l (K++[p]) W' (m++[Az m (Bz l p)]) (W'.map (opB l)) where
 rl:=h.rl
 rm:=.snoc m _ h.rm he
 km:=by rw [A60,A60,h.km];rfl
 ww:=rfl
 kl q hq:=by
  rcases List.mem_append.1 hq with h1|h1
  · exact h.kl q h1
  · rw [List.mem_singleton.1 h1];exact hp
 wl:=hw
 nodup:=hn
theorem Bi.goOn {cards:List Cd} {l:List Pn} (hB:∀n∈l,n.o.s<2305843009213693950/\(Dr n.o).chk=0) (hlen:l.length<200):∀(f:Nat) (K:List Nat) (W:List (Nat × Bool)) (m:List Pn) (ws:List Op),Bi cards l K W m ws->
  Bi cards l (Fg l f K W).1 (Fg l f K W).2 (Ci cards f m ws).1 (Ci cards f m ws).2
 |0,K,W,m,ws,h=>h
 |f+1,K,W,m,ws,h=>by
  have hww:=h.ww;subst hww
  have hfi:(W.map (opB l)).findIdx? (fun o=>ready m o)=W.findIdx? (fun q=>Bt l K q.1):=by
   rw [List.findIdx?_map];congr 1;funext q;exact h.free q
  unfold Fg Ci;rw [hfi]
  cases hx:W.findIdx? (fun q=>Bt l K q.1) with
  |none=>exact h
  |some i=>
   dsimp only;obtain ⟨hlt,hr,_⟩:=List.findIdx?_eq_some_iff_getElem.1 hx;have hk:W[i]? =some W[i]:=A59 hlt;rw [A66,hk];dsimp only [Option.map_some];generalize W[i]=q at hk hr;have hqm:=A61 hk;have hqn:q.1∉K:=fun hq=>(List.nodup_append.1 h.nodup).2.2 q.1 hq q.1 (A69 hqm) rfl;have he:=h.err hB hlen (h.wl q hqm) hqn hr;rw [A23]
   by_cases hb:q.2=true
   ·
    rw [if_pos hb] at he;rw [if_pos hb,if_neg (by rw [he];decide)];refine Bi.goOn hB hlen f _ _ _ _ ⟨h.rl,h.rm,h.km,rfl,h.kl,fun x hx=>h.wl x ((A80 _ _).mem hx),?_⟩;exact (List.Sublist.append_left ((A80 W i).map Prod.fst) K).nodup h.nodup
   ·
    rw [if_neg hb] at he;rw [if_neg hb,if_pos he];have hoq:opB l q=Bz l q.1:=by unfold opB;rw [if_neg hb]
    rw [hoq] at he ⊢;exact Bi.goOn hB hlen f _ _ _ _ (h.kept (h.wl q hqm) he (fun x hx=>h.wl x ((A80 _ _).mem hx)) ((A24 hk).nodup_iff.2 h.nodup))
def C9 (l:List Pn) (s:List Nat × List (Nat × Bool)) (q:Nat × Bool):Int × (List Nat × List (Nat × Bool)):=
 if s.1.contains q.1=true\/s.2.any (fun x=>x.1==q.1)=true then (5,s)
 else if Bt l s.1 q.1=false then (0,(s.1,s.2++[q]))
 else if q.2=true then (12,s)
 else (0,Fg l s.2.length (s.1++[q.1]) s.2)
theorem Bi.take (h:Bi cards l K W m ws) (hB:∀n∈l,n.o.s<2305843009213693950/\(Dr n.o).chk=0) (hlen:l.length<200) {q:Nat × Bool} (hq:q.1<l.length):
  (Bp cards (m,ws) (opB l q)).1=(C9 l (K,W) q).1/\Bi cards l (C9 l (K,W) q).2.1 (C9 l (K,W) q).2.2 (Bp cards (m,ws) (opB l q)).2.1 (Bp cards (m,ws) (opB l q)).2.2:=by
 have ad:=h.ww;subst ad
 have e1:(plc m (opB l q).name).isSome=K.contains q.1:=by
  rw [Jl,h.has,A65,A62,List.contains_iff_mem];constructor
  ·
   rintro ⟨p,hp,e⟩;rw [<- O7 h.rl (h.kl p hp) hq ((Id.eq_iff _ _).1 e)];exact hp
  · exact fun hk=>⟨q.1,hk,(Id.eq_iff _ _).2 rfl⟩
 have e2:(W.map (opB l)).any (fun x=>Id.eq x.name (opB l q).name)=W.any (fun x=>x.1==q.1):=by
  rw [List.any_map,A65,A62,A62];constructor
  ·
   rintro ⟨x,hx,e⟩;have e':=(Id.eq_iff _ _).1 e;rw [Jl,Jl] at e';exact ⟨x,hx,beq_iff_eq.2 (O7 h.rl (h.wl x hx) hq e')⟩
  ·
   rintro ⟨x,hx,e⟩;exact ⟨x,hx,(Id.eq_iff _ _).2 (by rw [Jl,Jl,beq_iff_eq.1 e])⟩
 unfold Bp C9;dsimp only;rw [e1,e2,h.free q]
 by_cases h1:K.contains q.1=true\/W.any (fun x=>x.1==q.1)=true
 ·
  rw [if_pos h1,if_pos h1];exact ⟨rfl,h⟩
 rw [if_neg h1,if_neg h1];have aa:q.1∉K:=fun hk=>h1 (.inl (List.contains_iff_mem.2 hk))
 have ab:q.1∉W.map Prod.fst:=fun hw=>by
  obtain ⟨x,hx,e⟩:=List.mem_map.1 hw;exact h1 (.inr (List.any_eq_true.2 ⟨x,hx,beq_iff_eq.2 e⟩))
 have ae:W.length<200:=by
  have e3:(W.map Prod.fst).length<=(A76 l.length).length:=Fp (List.nodup_append.1 h.nodup).2.1 (fun x hx=>by
   obtain ⟨y,hy,rfl⟩:=List.mem_map.1 hx;exact List.mem_range.2 (h.wl y hy))
  rw [A87,A68] at e3;omega
 by_cases h2:Bt l K q.1=false
 ·
  rw [if_pos h2,if_pos h2,if_neg (by rw [A68];omega)];refine ⟨rfl,h.rl,h.rm,h.km,by rw [A60];rfl,h.kl,fun x hx=> ?_,?_⟩
  ·
   rcases List.mem_append.1 hx with h3|h3
   · exact h.wl x h3
   · rw [List.mem_singleton.1 h3];exact hq
  ·
   rw [A60,<- A77,List.nodup_append];refine ⟨h.nodup,by simp,fun a ha b hb e=> ?_⟩;rw [A64,List.map_nil,List.mem_singleton] at hb;rw [e,hb] at ha;exact (List.mem_append.1 ha).elim aa ab
 ·
  rw [if_neg h2,if_neg h2];have ac:Bt l K q.1=true:=(Bool.not_eq_false _).mp h2;have he:=h.err hB hlen hq aa ac
  by_cases hb:q.2=true
  ·
   rw [if_pos hb] at he;rw [if_pos (by rw [he];decide),if_pos hb,he];exact ⟨rfl,h⟩
  ·
   rw [if_neg hb] at he;have af:opB l q=Bz l q.1:=by unfold opB;rw [if_neg hb]
   rw [if_neg (by rw [he];exact fun hh=>hh rfl),if_neg hb];rw [af] at he ⊢;refine ⟨rfl,?_⟩;rw [A68];refine Bi.goOn hB hlen _ _ _ _ _ (h.kept hq he h.wl ?_)
   have hp:(K++[q.1]++W.map Prod.fst).Perm (q.1::(K++W.map Prod.fst)):=by
    rw [A77];exact A88
   refine hp.nodup_iff.2 (List.nodup_cons.2 ⟨fun hin=>(List.mem_append.1 hin).elim aa ab,h.nodup⟩)
theorem A25 {cards:List Cd} {l mr:List Pn} (hl:Rows cards l) (hr:Rows cards mr) (ham:Ft l mr) {x:Id} (hx:x∈mr.map Pn.id):∃(p:Nat) (n:Pn),plc l x=some p/\l[p]? =some n/\n.id=x/\Ec mr x=n.o:=by
 obtain ⟨n',hn',rfl⟩:=List.mem_map.1 hx;obtain ⟨i,hi⟩:=A70 hn';obtain ⟨n,hn,e⟩:=ham n' hn';obtain ⟨p,hp⟩:=A70 hn;have k1:=(hl.ok p n hp).plc;have e2:n.id=n'.id:=by rw [(hl.ok p n hp).id,(hr.ok i n' hi).id,e]
 rw [e2] at k1;exact ⟨p,n,k1,hp,e2,by rw [Vs (hr.ok i n' hi).plc hi,e]⟩
end Oq
namespace Oq
attribute [local go_sem] A71 A72
theorem Rows.levs {cards:List Cd} {l:List Pn} (h:Rows cards l):∀n∈l,n.lev<=l.length:=by
 induction h with
 |nil=>intro n hn;cases hn
 |snoc l o _ _ ih=>
  intro n hn;rw [A84,List.length_singleton]
  rcases List.mem_append.1 hn with h|h
  ·
   have:=ih n h;omega
  ·
   obtain rfl:=List.mem_singleton.1 h;exact Sq l l.length ih o.past
def Ce (l:List Pn) (q:Nat):Nat:=(l[q]?.map Pn.lev).getD 0
theorem Jm {l:List Pn} {q:Nat} {n:Pn} (h:l[q]? =some n):Ce l q=n.lev:=by unfold Ce;rw [h];rfl
def E2 (n:Nat) (f:Nat->Nat):List Value:=(A76 n).map (fun q=>Value.int .i64 (f q:Int))
theorem O8 {n i:Nat} (f:Nat->Nat) (h:i<n):(E2 n f)[i]? =some (.int .i64 (f i:Int)):=by simp [E2,h]
theorem A26 (n:Nat) (f:Nat->Nat):E2 (n+1) f=E2 n f++[.int .i64 (f n:Int)]:=by
 unfold E2;rw [List.range_succ,A60];rfl
def O9 (l:List Pn) (w:World) (e:Ending) (w':World):Prop:=∃A c,e=.returned (.slice A l.length c)/\Own w' w.heap.size 3 1 A l.length c (E2 l.length (Ce l))/\Fr Non w w'
theorem Vv (l:List Pn) (x:Id):∀(ys:List Id) (K:Nat),K<=ys.length->(∀j y,j<K->ys[j]? =some y->Br l y x=true)->(∀y,ys[K]? =some y->Br l y x=false)->Dw l x ys=ys.take K++x::ys.drop K
 |[],K,hK,_,_=>by
  obtain rfl:K=0:=by simpa using hK
  rfl
 |y::r,0,_,_,h2=>by
  unfold Dw;rw [if_neg (by rw [h2 y rfl];exact A75)];rfl
 |y::r,K+1,hK,h1,h2=>by
  unfold Dw;rw [if_pos (h1 0 y (Nat.succ_pos _) rfl),Vv l x r K (by simpa using hK) (fun j z hj hz=>h1 (j+1) z (by omega) (by rw [A89];exact hz)) (fun z hz=>h2 z (by rw [A89];exact hz))];rfl
def Ar (l:List Pn) (p:Nat):Id:=(l[p]?.map Pn.id).getD ⟨0,0,0⟩
theorem Jn {l:List Pn} {p:Nat} {n:Pn} (h:l[p]? =some n):Ar l p=n.id:=by unfold Ar;rw [h];rfl
theorem A27 {l:List Pn} {ps:List Nat} {rs:List Id} {x:Id} {p K:Nat} (hp:ps.map (Ar l)=rs) (hx:Ar l p=x) (hK:K<=ps.length)
  (h1:∀j q,j<K->ps[j]? =some q->Br l (Ar l q) x=true) (h2:∀q,ps[K]? =some q->Br l (Ar l q) x=false):(ps.take K++[p]++ps.drop K).map (Ar l)=Dw l x rs:=by
 subst hp;rw [Vv l x (ps.map (Ar l)) K (by rw [A68];exact hK),A60,A60,List.map_take,List.map_drop,List.map_singleton,hx,A77]
 · rfl
 ·
  intro j y hj hy;rw [A66] at hy;obtain ⟨q,hq,rfl⟩:=Option.map_eq_some_iff.1 hy;exact h1 j q hj hq
 ·
  intro y hy;rw [A66] at hy;obtain ⟨q,hq,rfl⟩:=Option.map_eq_some_iff.1 hy;exact h2 q hq
theorem Lx (ps:List Nat):∀u∈ps.map Qv,u.oneCell'=true:=by
 intro u hu;obtain ⟨q,_,rfl⟩:=List.mem_map.1 hu;rfl
end Oq
namespace Oq
theorem Vw {cards:List Cd} {l:List Pn} (h:Rows cards l) {q:Nat} (hq:q<l.length):Ar l q=(Bz l q).name:=by
 have h1:l[q]? =some l[q]:=A59 hq;rw [Jn h1,E1 h1];exact (h.ok q _ h1).id
variable {cards:List Cd} {l m:List Pn} {K:List Nat} {W:List (Nat × Bool)} {ws:List Op}
theorem Bi.ids (h:Bi cards l K W m ws):m.map Pn.id=K.map (Ar l):=by
 rw [<- h.rm.names,h.km,List.map_map];exact List.map_congr_left (fun q hq=>(Vw h.rl (h.kl q hq)).symm)
theorem Bi.fors (h:Bi cards l K W m ws) (has:List Id):Fe m has=Ck l ((K.map (Ar l)).filter (fun x=> !Bd has x)):=by
 have e1:Ck m (Ba (m.map Pn.id))=Ck l (Ba (m.map Pn.id)):=Au3 (fun x hx=>by
  obtain ⟨j,hj⟩:=Option.isSome_iff_exists.1 (h.rm.placed ((Dt _).mem_iff.1 hx));exact At0 h.rl h.rm h.among j x hj)
 unfold Fe;rw [e1];refine Oj ?_ ?_
 ·
  unfold RowK;exact List.Pairwise.filter _ (Oi _ _)
 ·
  rw [<- h.ids];exact ((Gj _ _).trans (Dt _)).filter _
theorem Bi.opEq (h:Bi cards l K W m ws) {p:Nat} (hl:p<l.length) (hx:Ar l p∈m.map Pn.id):Ec m (Ar l p)=Bz l p:=by
 obtain ⟨q,n,g1,g2,_,g4⟩:=A25 h.rl h.rm h.among hx;have hpl:=A59 hl;have e:plc l (Ar l p)=some p:=by rw [Jn hpl];exact (h.rl.ok p _ hpl).plc
 rw [e] at g1;injection g1 with g1
 subst g1;rw [g4,E1 g2]
theorem Bi.op (h:Bi cards l K W m ws) {has:List Id} {ps:List Nat} (hp:ps.map (Ar l)=Fe m has) (hl:∀p∈ps,p<l.length):(Fe m has).map (fun x=>(Ec m x).put)=ps.map (fun p=>(Bz l p).put):=by
 have hx:∀p∈ps,Ec m (Ar l p)=Bz l p:=fun p hpm=>h.opEq (hl p hpm) (forIds_mem.1 (by rw [<- hp];exact A69 hpm)).1;rw [<- hp];clear hp hl
 induction ps with
 |nil=>rfl
 |cons p r ih=>
  rw [A64,A64,A64,hx p A81,ih (fun q hq=>hx q (A82 _ hq))]
theorem Bi.start {cards:List Cd} {l:List Pn} (h:Rows cards l):Bi cards l [] [] [] [] where
 rl:=h
 rm:=.nil
 km:=rfl
 ww:=rfl
 kl _ hq:=absurd hq A73
 wl _ hq:=absurd hq A73
 nodup:=List.nodup_nil
theorem Bi.few (h:Bi cards l K W m ws):K.length+W.length<=l.length:=by
 have e:(K++W.map Prod.fst).length<=(A76 l.length).length:=Fp h.nodup (fun x hx=>by
  rcases List.mem_append.1 hx with hx|hx
  · exact List.mem_range.2 (h.kl x hx)
  ·
   obtain ⟨y,hy,rfl⟩:=List.mem_map.1 hx;exact List.mem_range.2 (h.wl y hy))
 simpa using e
theorem Vx (l:List Pn):∀(ids:List Id) (t:Nat),1<=t->1<=ids.foldl (fun t id=>max t (Ao l id+1)) t
 |[],_,h=>h
 |_::r,_,h=>Vx l r _ (A83 h (Nat.le_max_left _ _))
theorem A28 {l:List Pn} {ids:List Id} {B:Nat} (hB:1<=B) (h:∀id∈ids,Ao l id+1<=B):lvl l ids<=B:=by
 unfold lvl
 suffices H:∀t:Nat,t<=B->ids.foldl (fun t id=>max t (Ao l id+1)) t<=B from H 1 hB
 induction ids with
 |nil=>intro t h;exact h
 |cons x r ih=>
  intro t ht;have:=h x A81;exact ih (fun y hy=>h y (A82 _ hy)) _ (by dsimp only;omega)
def lvM (l:List Pn) (qs:List Nat):Nat:=qs.foldl (fun t p=>max t (Ce l p+1)) 1
theorem A29 (l:List Pn) {qs:List Nat} {k p:Nat} (h:qs[k]? =some p):lvM l (qs.take (k+1))=max (lvM l (qs.take k)) (Ce l p+1):=by
 unfold lvM;rw [Df h,List.foldl_append];rfl
theorem Pa (l:List Pn):∀(qs:List Nat) (t:Nat),t<=qs.foldl (fun t p=>max t (Ce l p+1)) t/\∀p∈qs,Ce l p+1<=qs.foldl (fun t p=>max t (Ce l p+1)) t
 |[],t=>⟨A67 _,fun p hp=>absurd hp A73⟩
 |q::r,t=>by
  obtain ⟨h1,h2⟩:=Pa l r (max t (Ce l q+1));refine ⟨A83 (Nat.le_max_left _ _) h1,fun p hp=> ?_⟩
  rcases List.mem_cons.1 hp with rfl|hp
  · exact A83 (Nat.le_max_right _ _) h1
  · exact h2 p hp
theorem Vy (l:List Pn) (B:Nat):∀(qs:List Nat) (t:Nat),t<=B->(∀p∈qs,Ce l p+1<=B)->qs.foldl (fun t p=>max t (Ce l p+1)) t<=B
 |[],_,h,_=>h
 |q::r,_,h,hq=>Vy l B r _ (Nat.max_le.2 ⟨h,hq q A81⟩) (fun p hp=>hq p (A82 _ hp))
theorem A30 {cards:List Cd} {l:List Pn} (h:Rows cards l) {i:Nat} {n:Pn} (hi:l[i]? =some n) {qs:List Nat} (hq:Ll n qs):lvM l qs=Ce l i:=by
 have hn:=h.ok i n hi;rw [Jm hi];refine Nat.le_antisymm ?_ ?_
 ·
  refine Vy l _ qs 1 ?_ (fun p hp=> ?_)
  · rw [hn.lev];exact Vx _ _ 1 (A67 _)
  ·
   have hp':=(hq.2 p).1 hp;have hlt:p<l.length:=Nat.lt_trans (hn.lt p hp') (List.getElem?_eq_some_iff.1 hi).1;have hpl:=A59 hlt;rw [Jm hpl];exact h.lev_lt i hi hp' hpl
 ·
  rw [hn.lev];refine A28 (Pa l qs 1).1 (fun id hid=> ?_);obtain ⟨p,_,hp⟩:=hn.par id hid;obtain ⟨m,hm,_⟩:=Cg hp;rw [H4 hp hm,<- Jm hm];exact (Pa l qs 1).2 p ((hq.2 p).2 ((hn.ps p).2 ⟨id,hid,p,m,hp,hm,.inl rfl⟩))
theorem FG.own.levBq {w:World} {base:Nat} {r:FG} (h:r.own w base):∀q,Ce r.l q<=200:=by
 have hfew:=h.num.few;intro q;unfold Ce
 cases hq:r.l[q]? with
 |none=>exact A78 _
 |some n=>
  have:=h.rows.levs n (A61 hq);show n.lev<=200;omega
theorem FG.own.levRo {w:World} {base:Nat} {r:FG} (h:r.own w base):∀i,i<r.l.length->∃(us:List Nat) (A2:Option Addr) (c2 b off:Nat) (V:Nat->Nat),r.pA=some ⟨b,off,none⟩/\w.cell? ⟨b,off+i,none⟩=some (.slice A2 us.length c2)/\us.length<=1000/\Rd w w.heap.size 1 A2 us.length (us.map Qv)/\
  V 0=1/\V us.length=Ce r.l i/\∀k p,us[k]? =some p->p<i/\V (k+1)=max (V k) (Ce r.l p+1):=by
 intro i hi;have hn:=A59 hi;obtain ⟨x,b,off,h1,h2,h3,_,h4,h5,h6⟩:=h.pAt hn;have hfew:=h.num.few;refine ⟨x.xs,x.A,x.c,b,off,fun k=>lvM r.l (x.xs.take k),h3,h4,by omega,h2.sl.rd,rfl,?_,?_⟩
 ·
  dsimp only;rw [A90];exact A30 h.rows hn h1
 ·
  intro k p hk;exact ⟨h6 p (A61 hk),A29 r.l hk⟩
structure RT where
 kA:Option Addr
 kC:Nat
 K:List Nat
 wA:Option Addr
 wC:Nat
 bA:Option Addr
 bC:Nat
 W:List (Nat × Bool)
def Tv (q:Nat × Bool):Value:=.bool q.2
def RT.cells (r:RT):Array Value:=#[.slice r.kA r.K.length r.kC,.slice r.wA r.W.length r.wC,.slice r.bA r.W.length r.bC]
def RT.st (r:RT):List Nat × List (Nat × Bool):=(r.K,r.W)
structure RT.own (w:World) (base:Nat) (r:RT):Prop where
 kept:RowAt w base 3 1 r.kA r.K.length r.kC (r.K.map Qv)
 wait:RowAt w base 3 1 r.wA r.W.length r.wC (r.W.map (fun q=>Qv q.1))
 bad:RowAt w base 4 1 r.bA r.W.length r.bC (r.W.map Tv)
theorem RT.own.non {w w':World} {base:Nat} {r:RT} (h:r.own w base) (hf:Fr Non w w'):r.own w' base:=⟨h.kept.non hf,h.wait.non hf,h.bad.non hf⟩
theorem RT.own.keepP {S:Nat->Prop} {P:TypeId->Prop} {w w':World} {base:Nat} {r:RT} (h:r.own w base) (hf:Fr S w w') (hS:Types S w P) (h1:¬P 3) (h2:¬P 4):r.own w' base:=⟨h.kept.keepT hf (hS.not h1),h.wait.keepT hf (hS.not h1),h.bad.keepT hf (hS.not h2)⟩
def RT.zero:RT:=⟨none,0,[],none,0,none,0,[]⟩
theorem RT.zero_own (w:World) (base:Nat):RT.zero.own w base:=⟨RowAt.nil _ _ _ _,RowAt.nil _ _ _ _,RowAt.nil _ _ _ _⟩
theorem Cl:(zp.info? 34).map (·.size)=some 3:=by kernel_rfl
theorem Ly (v:Value):Instr.loadAt 34 v=ldS 34 v:=rfl
theorem Vz (p v:Value):Instr.storeAt 34 p v=stS 34 p v:=rfl
theorem Hi (r:RT):r.cells.all (·.oneCell')=true:=by unfold RT.cells;simp [Value.oneCell']
end Oq
namespace Oq
attribute [local go_sem] A71 A72
attribute [local go_sem ↓] Gi Ly Fz
theorem A31 {α:Type} {l:List α} {k:Nat} {x:α} (f:α->Bool) (h:l[k]? =some x):(l.take (k+1)).any f=((l.take k).any f||f x):=by
 rw [Df h,List.any_append,List.any_cons,List.any_nil,Bool.or_false]
theorem A32 {cards:List Cd} {l:List Pn} (h:Rows cards l) {K:List Nat} (hK:∀q∈K,q<l.length) (p:Nat):Bt l K p=(Bz l p).past.all (fun id=>K.any (fun q=>Id.eq (Ar l q) id)):=by
 have e:∀id,K.any (fun q=>Id.eq (Bz l q).name id)=K.any (fun q=>Id.eq (Ar l q) id):=fun id=>by
  rw [A65,A62,A62];exact exists_congr (fun q=>and_congr_right (fun hq=>by rw [Vw h (hK q hq)]))
 unfold Bt;rw [A65,A74,A74];exact forall_congr' (fun id=>forall_congr' (fun _=>by rw [e id]))
theorem FG.own.nm {w:World} {base:Nat} {r:FG} (h:r.own w base) {p:Nat} (hp:p<r.l.length):∃(b off:Nat),r.iA=some ⟨b,off,none⟩/\w.cell? ⟨b,off+p*3,none⟩=some (.int .i64 (Ar r.l p).b)/\w.cell? ⟨b,off+p*3+1,none⟩=some (.int .i64 (Ar r.l p).s)/\w.cell? ⟨b,off+p*3+2,none⟩=some (.int .u64 ((Ar r.l p).u:Int)):=by
 obtain ⟨m,b,off,h1,h2,h3,h4,h5⟩:=h.idAt hp;rw [Jn h1];exact ⟨b,off,h2,h3,h4,h5⟩
theorem Qv.at {w:World} {B n:Nat} {A:Option Addr} {l:List Nat} (h:Rd w B 1 A n (l.map Qv)) {k q:Nat} (hk:l[k]? =some q) (hkn:k<n):∃b off,A=some ⟨b,off,none⟩/\w.cell? ⟨b,off+k,none⟩=some (.int .i64 (q:Int)):=by
 obtain ⟨b,off,u,h1,_,h3,h4⟩:=h.at hkn;rw [A66,hk] at h3;injection h3 with h3
 subst h3;exact ⟨b,off,h1,h4⟩
theorem V8 (base b2:Nat) (g:FG) (r:RT) (p:Nat) (w:World) (hg:g.own w base) (hr:r.own w b2) (hK:∀q∈r.K,q<g.l.length) (hKl:r.K.length<=1000) (hp:p<g.l.length):
  Calls zp 38 #[.agg g.cells,.agg r.cells,.int .i64 (p:Int)] w (Ae (Bt g.l r.K p) w):=by
 have a0:=hg.num.few;have bg:=(Blk.new w 28 g.cells).alloc (.cells r.cells 34);have br:=Blk.new (w.alloc (.cells g.cells 28)) 34 r.cells;rw [A63] at br;have f0:Fr Non w ((w.alloc (.cells g.cells 28)).alloc (.cells r.cells 34)):=((Fr.refl Non w).alloc _).alloc _;have g1:Hid (g.cells[1]? =some (.slice g.lA g.l.length g.lC)):=rfl;have g2:Hid (g.cells[2]? =some (.slice g.iA g.l.length g.iC)):=rfl;have r0:Hid (r.cells[0]? =some (.slice r.kA r.K.length r.kC)):=rfl;obtain ⟨x,ob,oo,_,ao,ar,hA,_,hc⟩:=hg.xAt (A59 hp);have cP:cS w ob (oo+p*27+4) x.pastA x.past.length x.pastC:=hc 4 (by omega) _ rfl;have rP:=ar.at.past.1
 have a6:x.past.length<=1000:=by
  have h1:=(hg.ok _ (A85 hp)).1.past.1;rw [<- ao] at h1;exact h1
 have ae:Hid (Bt g.l r.K p=x.past.all (fun id=>r.K.any (fun q=>Id.eq (Ar g.l q) id))):=by
  show _=_;rw [A32 hg.rows hK p,E1 (A59 hp),<- ao];rfl
 have hid:Hid (∀q,q<g.l.length->∃(b off:Nat),g.iA=some ⟨b,off,none⟩/\cI w b (off+q*3) ((Ar g.l q).b)/\cI w b (off+q*3+1) ((Ar g.l q).s)/\cU w b (off+q*3+2) ((Ar g.l q).u)):=fun q hq=>hg.nm hq;have rK:=hr.kept.sl.rd;rw [hA] at g1;unfold Ae;clear hg hr ao ar hA hc;generalize Bt g.l r.K p=FREE at*;generalize Ar g.l=nm at*;generalize g.l.length=N at*;generalize g.iA=IA at*;generalize g.iC=IC at*;generalize g.lC=LC at*;generalize g.cells=CG at*;generalize r.cells=CR at*;generalize r.kA=Ka0 at*;generalize r.kC=Kc0 at*;obtain ⟨M,hM⟩:=Ab r.K.length;rw [hM.out] at r0 rK hKl;obtain ⟨KS,aq⟩:=Ab r.K;rw [aq.out] at ae rK hK hM;obtain ⟨MP,ak⟩:=Ab x.past.length;rw [ak.out] at cP rP a6;obtain ⟨PS,ag⟩:=Ab x.past;rw [ag.out] at ae rP ak;generalize x.pastA=PA at*;generalize x.pastC=PC at*;clear aq ag;obtain ⟨i1,i2,i3⟩:=ix p N
 go_enter func38,ntmps38;go_upto_region 1 with (fail)
 obtain ⟨gb,a8⟩:=Ab w.heap.size;rw [a8.out] at bg br ⊢;generalize (w.alloc (.cells CG 28)).alloc (.cells CR 34)=w0 at*;have aw:=f0.cell cP zq;have ay:=rP.fr f0 zr;have ax:=rK.fr f0 zr;have av:cS w0 gb 1 (some ⟨ob,oo,none⟩) N LC:=(bg.cell 1).trans g1.out;have a5:cS w0 gb 2 IA N IC:=(bg.cell 2).trans g2.out;have a3:cS w0 (gb+1) 0 Ka0 M Kc0:=(br.cell 0).trans r0.out;clear cP rP rK bg br g1 g2 r0;go_wp2_with fail
 go_loopw [7] (fun v wr=>∃i:Nat,v=.int .i64 (i:Int)/\i<=MP/\Hid (∀j z,j<i->PS[j]? =some z->KS.any (fun q=>Id.eq (nm q) z)=true)/\Fr Non w0 wr) (fun v _=>MP-(intOf v).toNat)
 case atStart=>exact ⟨0,rfl,A78 _,fun j z hj _=>absurd hj (Nat.not_lt_zero j),Fr.refl _ _⟩
 case round=>
 obtain ⟨i,rfl,hi,ab,hf⟩:=hrel;obtain ⟨ap,az⟩:=zk2 hf av aw
 by_cases hin:i<MP
 case neg=>
  obtain rfl:i=MP:=by omega
  have t0:decide ((i:Int)<(i:Int))=false:=decide_eq_false (by omega);have a1:decide (i<i)=false:=decide_eq_false (by omega)
  have hd:Hid (FREE=true):=by
   show _=_;rw [ae.out,A74];intro z hz;obtain ⟨j,hj⟩:=A70 hz;exact ab.out j z (by rw [<- ak.out];exact (List.getElem?_eq_some_iff.1 hj).1) hj
  clear ae hid ab hK;go_wp2_with fail
  go_ret
  exact ⟨zeB hd.out.symm,f0.trans hf zr⟩
 case pos=>
 have t0:decide ((i:Int)<(MP:Int))=true:=decide_eq_true (by omega);have a1:decide (i<MP)=true:=decide_eq_true hin;obtain ⟨z,hz⟩:∃z,PS[i]? =some z:=⟨_,A59 (by rw [ak.out];exact hin)⟩;obtain ⟨pb,po,rfl,_,z0,z1,z2⟩:=Id.at ay hz;obtain ⟨j1,j2,j3⟩:=ix i MP
 have e6:=iw ((i:Int)+1);have af:Hid (∀k q,KS[k]? =some q->(KS.take (k+1)).any (fun q=>Id.eq (nm q) z)=((KS.take k).any (fun q=>Id.eq (nm q) z)||Id.eq (nm q) z)):=fun k q hk=>A31 _ hk;have ad:Hid ((KS.take M).any (fun q=>Id.eq (nm q) z)=KS.any (fun q=>Id.eq (nm q) z)):=by show _=_;rw [<- hM.out,A90]
 have ac:Hid ((KS.take 0).any (fun q=>Id.eq (nm q) z)=false):=rfl;obtain ⟨AN,aj⟩:∃AN:Nat->Bool,Hid (∀k,(KS.take k).any (fun q=>Id.eq (nm q) z)=AN k):=⟨_,fun k=>rfl⟩;rw [aj.out] at ad ac;replace af:Hid (∀k q,KS[k]? =some q->AN (k+1)=(AN k||Id.eq (nm q) z)):=fun k q hk=>by rw [<- aj.out,<- aj.out];exact af.out k q hk
 clear aj;generalize wr=wo at*;clear wr;go_wp2_with fail
 go_loopw [8,9] (fun s v wr=>∃k:Nat,v=.int .i64 (k:Int)/\s=.bool (AN k)/\k<=M/\Fr Non wo wr) (fun _ v _=>M-(intOf v).toNat)
 case atStart=>exact ⟨0,rfl,by rw [ac.out],A78 _,Fr.refl _ _⟩
 case round=>
 obtain ⟨k,rfl,rfl,hk,al⟩:=hrel;have aa:=hf.trans al zr;have a4:=aa.cell a3 zq
 by_cases hkn:k<M
 case neg=>
  obtain rfl:k=M:=by omega
  have u0:decide ((k:Int)<(k:Int))=false:=decide_eq_false (by omega);have a7:decide (k<k)=false:=decide_eq_false (by omega);rw [ad.out];clear af
  by_cases hany:KS.any (fun q=>Id.eq (nm q) z)=true
  ·
   rw [hany]
   have ah:Hid (∀j y,j<i+1->PS[j]? =some y->KS.any (fun q=>Id.eq (nm q) y)=true):=fun j y hj hy=>by
    rcases Nat.lt_or_ge j i with h1|h1
    · exact ab.out j y h1 hy
    ·
     obtain rfl:j=i:=by omega
     rw [hz] at hy;injection hy with hy
     rw [<- hy];exact hany
   clear ab ae hid hany ad ac hK;go_wp2_with fail;go_roundw
   case rel=>exact ⟨i+1,by go_num,by omega,ah,aa⟩
   case measure=>simp [intOf];omega
  ·
   have hd:Hid (FREE=false):=by
    show _=_;rw [ae.out,List.all_eq_false];exact ⟨z,A61 hz,hany⟩
   rw [Bool.eq_false_iff.2 hany];clear ab ae hid hany ad ac hK;go_wp2_with fail
   go_ret
   exact ⟨zeB hd.out.symm,f0.trans aa zr⟩
 case pos=>
 have u0:decide ((k:Int)<(M:Int))=true:=decide_eq_true (by omega);have a7:decide (k<M)=true:=decide_eq_true hkn;obtain ⟨q,hq⟩:∃q,KS[k]? =some q:=⟨_,A59 (by rw [hM.out];exact hkn)⟩;have a2:=hK q (A61 hq);obtain ⟨kb,ko,rfl,k0⟩:=Qv.at ax hq hkn;obtain ⟨ib,io,rfl,y0,y1,y2⟩:=hid.out q a2;have hs:=lh (af.out k q hq);obtain ⟨EQ,au⟩:=Ab (Id.eq (nm q) z);rw [au.out] at hs;generalize nm q=y at*;obtain ⟨l1,l2,l3⟩:=ix k M
 obtain ⟨m1,m2,m3⟩:=ix q N
 have e7:=iw ((k:Int)+1);have Y0:=(f0.trans aa zr).cell y0 zq;have Y1:=(f0.trans aa zr).cell y1 zq;have Y2:=(f0.trans aa zr).cell y2 zq;obtain ⟨Z0,Z1,Z2,K0,C1,C2,CP⟩:=zk7 aa z0 z1 z2 k0 av a5 aw;clear hid af ab ae hK ad ac y0 y1 y2 z0 z1 z2 k0 ap az
 rcases hb:AN k with _|_
 ·
  rw [hb] at hs;have ai:Hid (AN (k+1)=EQ):=by show _=_;rw [hs.out,Bool.false_or]
  have hr:=ai.out;clear hb hs;go_upto_region 8 with (fail)
  go_quiet (fail)
  go_wp2_with fail;go_roundw
  case rel=>exact ⟨k+1,by go_num,by rw [ai.out,<- au.out],by omega,al.drewN _⟩
  case measure=>simp [intOf];omega
 ·
  rw [hb] at hs;have ai:Hid (AN (k+1)=true):=by show _=_;rw [hs.out,Bool.true_or]
  clear hb hs;go_upto_region 8 with (fail)
  go_quiet (fail)
  go_wp2_with fail;go_roundw
  case rel=>exact ⟨k+1,by go_num,by rw [ai.out],by omega,al.drewN _⟩
  case measure=>simp [intOf];omega
def nxI (l:List Pn) (K:List Nat) (W:List (Nat × Bool)):Int:=match W.findIdx? (fun q=>Bt l K q.1) with|some i=>(i:Int)|none=> -1
theorem A33 {l:List Pn} {K:List Nat} {W:List (Nat × Bool)} {i:Nat} {q:Nat × Bool} (hq:W[i]? =some q) (h1:Bt l K q.1=true) (h0:∀j x,j<i->W[j]? =some x->Bt l K x.1=false):nxI l K W=(i:Int):=by
 have e:W.findIdx? (fun q=>Bt l K q.1)=some i:=by
  obtain ⟨hi,e⟩:=List.getElem?_eq_some_iff.1 hq;refine List.findIdx?_eq_some_iff_getElem.2 ⟨hi,by rw [e];exact h1,fun j hj=> ?_⟩;have:=h0 j _ hj (A59 (by omega));rw [this];exact A75
 unfold nxI;rw [e]
theorem A34 {l:List Pn} {K:List Nat} {W:List (Nat × Bool)} (h0:∀j x,j<W.length->W[j]? =some x->Bt l K x.1=false):nxI l K W= -1:=by
 have e:W.findIdx? (fun q=>Bt l K q.1)=none:=by
  refine List.findIdx?_eq_none_iff.2 (fun x hx=> ?_);obtain ⟨j,hj⟩:=A70 hx;exact h0 j x (List.getElem?_eq_some_iff.1 hj).1 hj
 unfold nxI;rw [e]
theorem RT.own.wAt {w:World} {base:Nat} {r:RT} (h:r.own w base) {k:Nat} {q:Nat × Bool} (hk:r.W[k]? =some q):(∃b off,r.wA=some ⟨b,off,none⟩/\w.cell? ⟨b,off+k,none⟩=some (.int .i64 (q.1:Int)))/\∃b off,r.bA=some ⟨b,off,none⟩/\w.cell? ⟨b,off+k,none⟩=some (.bool q.2):=by
 have hkn:=(List.getElem?_eq_some_iff.1 hk).1;refine ⟨?_,?_⟩
 ·
  obtain ⟨b,off,u,h1,_,h3,h4⟩:=h.wait.sl.rd.at hkn;rw [A66,hk] at h3;injection h3 with h3
  subst h3;exact ⟨b,off,h1,h4⟩
 ·
  obtain ⟨b,off,u,h1,_,h3,h4⟩:=h.bad.sl.rd.at hkn;rw [A66,hk] at h3;injection h3 with h3
  subst h3;exact ⟨b,off,h1,h4⟩
theorem A35 (base b2:Nat) (g:FG) (r:RT) (w:World) (hg:g.own w base) (hr:r.own w b2) (hK:∀q∈r.K,q<g.l.length) (hW:∀q∈r.W,q.1<g.l.length) (hKl:r.K.length<=1000) (hWl:r.W.length<=1000):
  Calls zp 39 #[.agg g.cells,.agg r.cells] w fun e w'=>e=.returned (.int .i64 (nxI g.l r.K r.W))/\Fr Non w w':=by
 have bg:=(Blk.new w 28 g.cells).alloc (.cells r.cells 34);have br:=Blk.new (w.alloc (.cells g.cells 28)) 34 r.cells;rw [A63] at br;have f0:Fr Non w ((w.alloc (.cells g.cells 28)).alloc (.cells r.cells 34)):=((Fr.refl Non w).alloc _).alloc _;have r1:Hid (r.cells[1]? =some (.slice r.wA r.W.length r.wC)):=rfl;have kf:=lh (fun (p:Nat) (v:World) (hv:Fr Non w v) (hp:p<g.l.length)=>V8 base b2 g r p v (hg.non hv) (hr.non hv) hK hKl hp);unfold Ae at kf;have ai:=lh (fun (k:Nat) (q:Nat × Bool) (hk:r.W[k]? =some q)=>(hr.wAt hk).1);have ac:=lh (fun (i:Nat) (q:Nat × Bool) (h1:r.W[i]? =some q) (h2:Bt g.l r.K q.1=true) (h3:∀j x,j<i->r.W[j]? =some x->Bt g.l r.K x.1=false)=>A33 h1 h2 h3);have ab:=lh (fun (h3:∀j x,j<r.W.length->r.W[j]? =some x->Bt g.l r.K x.1=false)=>A34 (l:=g.l) (K:=r.K) h3);have ao:=Be (P:=zp) w.heap.size 28 underlying28 rfl (cs:=g.cells) Dg;have au:=Be (P:=zp) (w.heap.size+1) 34 underlying34 rfl (cs:=r.cells) Cl;have ah:Hid (∀(k:Nat) (q:Nat × Bool),r.W[k]? =some q->q.1<g.l.length):=fun k q hk=>hW q (A61 hk);clear hg hr hK hKl hW;generalize nxI g.l r.K r.W=NX at*;generalize Bt g.l r.K=FR at*;generalize g.l.length=N at*;generalize g.cells=CG at*;generalize r.cells=CR at*;generalize r.wA=WA at*;generalize r.wC=WC at*;generalize hWS:r.W=WS at*;clear hWS;obtain ⟨M,hM⟩:=Ab WS.length;rw [hM.out] at r1 hWl ab;go_enter func39,ntmps39;go_upto_region 1 with (fail)
 obtain ⟨gb,ar⟩:=Ab w.heap.size;rw [ar.out] at bg br ao au ⊢;generalize (w.alloc (.cells CG 28)).alloc (.cells CR 34)=w0 at*;go_wp2_with fail
 go_loopw [5] (fun v wr=>∃i:Nat,v=.int .i64 (i:Int)/\i<=M/\Hid (∀j x,j<i->WS[j]? =some x->FR x.1=false)/\Fr Non w0 wr) (fun v _=>M-(intOf v).toNat)
 case atStart=>exact ⟨0,rfl,A78 _,fun j x hj _=>absurd hj (Nat.not_lt_zero j),Fr.refl _ _⟩
 case round=>
 obtain ⟨i,rfl,hi,aa,hf⟩:=hrel;have c1:cS wr (gb+1) 1 WA M WC:=hf.cell ((br.cell 1).trans r1.out) zq
 by_cases hin:i<M
 case neg=>
  obtain rfl:i=M:=by omega
  have t0:decide ((i:Int)<(i:Int))=false:=decide_eq_false (by omega);have av:decide (i<i)=false:=decide_eq_false (by omega);have hd:Hid (NX= -1):=ab.out (fun j x hj hx=>aa.out j x hj hx);clear ac ab aa;go_wp2_with fail
  go_ret
  exact ⟨zeI hd.out.symm,f0.trans hf zr⟩
 case pos=>
 have t0:decide ((i:Int)<(M:Int))=true:=decide_eq_true (by omega);have av:decide (i<M)=true:=decide_eq_true hin;obtain ⟨x,hx⟩:∃x,WS[i]? =some x:=⟨_,A59 (by rw [hM.out];exact hin)⟩;obtain ⟨wb,al,rfl,q0⟩:=ai.out i x hx;have aw:=ah.out i x hx;have ak:=bg.fr hf zq;have aj:=br.fr hf zq;have Q0:=(f0.trans hf zr).cell q0 zq;have C0:=c1;have F0:Fr Non wr wr.drew:=(Fr.refl Non wr).drew;have G0:Fr Non w0 wr.drew:=hf.drew;have ag:=lh (fun (v:World) (hv:Fr Non w0 v)=>kf.out x.1 v (f0.trans hv zr) aw);obtain ⟨i1,i2,i3⟩:=ix i M
 have e6:=iw ((i:Int)+1);obtain ⟨FX,af⟩:=Ab (FR x.1);rw [af.out] at ag;have ae:Hid (FX=true->NX=(i:Int)):=fun e=>ac.out i x hx (by rw [af.out];exact e) aa.out
 have ad:Hid (FX=false->∀j y,j<i+1->WS[j]? =some y->FR y.1=false):=fun e j y hj hy=>by
  rcases Nat.lt_or_ge j i with h1|h1
  · exact aa.out j y h1 hy
  ·
   obtain rfl:j=i:=by omega
   rw [hx] at hy;injection hy with hy
   rw [<- hy,af.out];exact e
 clear aa ac ab ai ah kf hx q0;go_upto_region 4 with (fail)
 refine wp_region_held_drew (S:=fun w'=>Blk w' gb 28 CG/\Blk w' (gb+1) 34 CR/\cS w' (gb+1) 1 (some ⟨wb,al,none⟩) M WC/\cI w' wb (al+i) (x.1:Int)) (by kernel_rfl) ⟨ak,aj,C0,Q0⟩ (fun uu=> ?_);refine tkN 0 7 uu (h:=?_);clear uu;refine oG 7 (fun K hK=> ?_);go_simp;go_wp2_with (go_at_call 38;(with_reducible refine (ag.out _ G0).mono ?_);rintro _ v1 ⟨rfl,aq⟩;have F1:=F0.trans aq zr;have ap:=ak.fr F1 zq;have ay:=aj.fr F1 zq;obtain ⟨C1,Q1⟩:=zk2 F1 C0 Q0;have G1:=hf.trans F1 zr);refine hK.out _ _ ⟨ap,ay,C1,Q1⟩ (fun uu=> ?_);clear hK K;try simp only [Ah,zl]
 refine tkN 8 1 uu (h:=?_);clear uu;refine oD ?_;go_simp
 cases FX
 case true=>
  have hd:=ae.out rfl;clear ae ad;go_wp2_with fail
  go_ret
  exact ⟨zeI hd.symm,f0.trans G1 zr⟩
 case false=>
 have ax:Hid (∀j y,j<i+1->WS[j]? =some y->FR y.1=false):=ad.out rfl;clear ae ad;go_wp2_with fail;go_roundw
 case rel=>exact ⟨i+1,by go_num,by omega,ax,G1⟩
 case measure=>simp [intOf];omega
