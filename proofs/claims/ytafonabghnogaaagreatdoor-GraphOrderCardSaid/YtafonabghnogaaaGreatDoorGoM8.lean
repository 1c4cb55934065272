/-
  Contracts of the functions that the claim's statement reaches, walked one by one (part 8).
  Conditions: as each theorem says.
-/
import Derived.Sort.Grow
import Derived.Test.YtafonabghnogaaaGreatDoorGoM2
import Derived.Test.YtafonabghnogaaaGreatDoorGoM3
import Derived.Test.YtafonabghnogaaaGreatDoorGoM7
set_option maxRecDepth 100000
set_option maxHeartbeats 16000000
namespace Go.Proofs.YtafonabghnogaaaGreatDoor
section
open Go.RowKit Go.Sort
attribute [local go_sem ↓] Go.wp_at_zero Go.wp_at_succ
namespace Oq
def GrowOf (w w':World):Prop:=∃(q:Nat) (os:Array Obj),w'=grow (w.drewN q) os
theorem GrowOf.refl (w:World):GrowOf w w:=⟨0,#[],by simp [grow,World.drewN]⟩
theorem GrowOf.trans {a b c:World} (h:GrowOf a b) (k:GrowOf b c):GrowOf a c:=by
 obtain ⟨q,os,rfl⟩:=h
 obtain ⟨q',os',rfl⟩:=k
 exact ⟨q+q',os++os',by simp [grow,World.drewN,Array.append_assoc,Nat.add_assoc]⟩
theorem GrowOf.alloc {a b:World} (h:GrowOf a b) (o:Obj):GrowOf a (b.alloc o):=h.trans ⟨0,#[o],by unfold grow World.drewN World.alloc;simp⟩
theorem GrowOf.drew {a b:World} (h:GrowOf a b):GrowOf a b.drew:=h.trans ⟨1,#[],by rw [grow_empty];rfl⟩
theorem GrowOf.fr {a b:World} (h:GrowOf a b):Fr Non a b:=by
 obtain ⟨q,os,rfl⟩:=h
 refine ⟨rfl,rfl,rfl,?_,?_⟩
 · simp [grow,World.drewN]
 ·
  intro k hk _
  simp only [grow,World.drewN]
  rw [Array.getElem?_append_left hk]
theorem opless_grow (x y:Id) (w:World):
  Calls Tryz.prog 30 #[.agg x.V,.agg y.V] w fun e w'=>e=.returned (.bool (Id.less x y))∧GrowOf w w':=by
 have hf:=((GrowOf.refl w).alloc (.cells x.V 38)).alloc (.cells y.V 38)
 have hx:=(Blk.new w 38 x.V).alloc (.cells y.V 38)
 have hy:=Blk.new (w.alloc (.cells x.V 38)) 38 y.V
 rw [World.size_alloc] at hy
 have hl:=less_or x y
 have hl':=Lib.hid hl
 clear hl
 go_enter Tryz.func30,Tryz.ntmps30
 go_upto_region 1 with (fail)
 generalize (w.alloc (.cells x.V 38)).alloc (.cells y.V 38)=w0 at*
 have c0:w0.drew.cell? ⟨w.heap.size,0,none⟩=some (.int .i64 x.b):=hx.cell 0
 have c1:w0.drew.cell? ⟨w.heap.size,1,none⟩=some (.int .i64 x.s):=hx.cell 1
 have c2:w0.drew.cell? ⟨w.heap.size,2,none⟩=some (.int .u64 (x.u:Int)):=hx.cell 2
 have d0:w0.drew.cell? ⟨w.heap.size+1,0,none⟩=some (.int .i64 y.b):=hy.cell 0
 have d1:w0.drew.cell? ⟨w.heap.size+1,1,none⟩=some (.int .i64 y.s):=hy.cell 1
 have d2:w0.drew.cell? ⟨w.heap.size+1,2,none⟩=some (.int .u64 (y.u:Int)):=hy.cell 2
 go_region_held3 (fun w'=>w'.cell? ⟨w.heap.size,0,none⟩=some (.int .i64 x.b)∧w'.cell? ⟨w.heap.size,1,none⟩=some (.int .i64 x.s)∧w'.cell? ⟨w.heap.size,2,none⟩=some (.int .u64 (x.u:Int))∧w'.cell? ⟨w.heap.size+1,0,none⟩=some (.int .i64 y.b)∧w'.cell? ⟨w.heap.size+1,1,none⟩=some (.int .i64 y.s)∧w'.cell? ⟨w.heap.size+1,2,none⟩=some (.int .u64 (y.u:Int))) ((and_intros<;>first|assumption|(refine cell_alloc ?_ _;assumption))) (first
  |(go_at_call 84;(with_reducible refine (cmpi_any _ _ _).mono ?_);rintro _ _ ⟨rfl,rfl⟩)
  |(go_at_call 85;(with_reducible refine (cmpu_any _ _ _).mono ?_);rintro _ _ ⟨rfl,rfl⟩)
  |(go_at_call 83;(refine (or3_any _ _ _ _ _ (by exact Blk.new _ _ _)).mono ?_);rintro _ _ ⟨rfl,rfl⟩))
 go_wp2
 go_ret
 exact ⟨by rw [← hl'.out];rfl,hf.drew.alloc _⟩
def cmpId (x y:Id):Int:=if Id.less x y then-1 else if Id.less y x then 1 else 0
theorem cmpid_any (x y:Id) (w:World):
  Calls Tryz.prog 126 #[.agg x.V,.agg y.V] w fun e w'=>e=.returned (.int .i64 (cmpId x y))∧GrowOf w w':=by
 have hf:=((GrowOf.refl w).alloc (.cells x.V 38)).alloc (.cells y.V 38)
 have hx:=(Blk.new w 38 x.V).alloc (.cells y.V 38)
 have hy:=Blk.new (w.alloc (.cells x.V 38)) 38 y.V
 rw [World.size_alloc] at hy
 have k1:=Lib.hid (fun w'=>opless_grow x y w')
 have k2:=Lib.hid (fun w'=>opless_grow y x w')
 have hv:Hid (cmpId x y=if Id.less x y then-1 else if Id.less y x then 1 else 0):=rfl
 generalize cmpId x y=v at*
 generalize hw0:(w.alloc (.cells x.V 38)).alloc (.cells y.V 38)=w0 at*
 have c0:w0.cell? ⟨w.heap.size,0,none⟩=some (.int .i64 x.b):=hx.cell 0
 have c1:w0.cell? ⟨w.heap.size,1,none⟩=some (.int .i64 x.s):=hx.cell 1
 have c2:w0.cell? ⟨w.heap.size,2,none⟩=some (.int .u64 (x.u:Int)):=hx.cell 2
 have d0:w0.cell? ⟨w.heap.size+1,0,none⟩=some (.int .i64 y.b):=hy.cell 0
 have d1:w0.cell? ⟨w.heap.size+1,1,none⟩=some (.int .i64 y.s):=hy.cell 1
 have d2:w0.cell? ⟨w.heap.size+1,2,none⟩=some (.int .u64 (y.u:Int)):=hy.cell 2
 generalize Id.less x y=l1 at*
 generalize Id.less y x=l2 at*
 cases l1
 ·
  cases l2
  ·
   have hz:Hid (0=v):=by show _=_;rw [hv.out];rfl
   clear hv
   go_enter Tryz.func126,Tryz.ntmps126
   go_wp2_with (fail)
   try rw [hw0]
   clear hw0
   refine (k1.out _).mono ?_
   rintro _ w1 ⟨rfl,g1⟩
   have f1:=g1.fr
   have h1:=hf.trans g1
   replace c0:=f1.cell c0 zq
   replace c1:=f1.cell c1 zq
   replace c2:=f1.cell c2 zq
   replace d0:=f1.cell d0 zq
   replace d1:=f1.cell d1 zq
   replace d2:=f1.cell d2 zq
   clear g1 f1
   go_wp2_with (fail)
   refine (k2.out _).mono ?_
   rintro _ w2 ⟨rfl,g2⟩
   have h2:=h1.trans g2
   go_wp2_with (fail)
   go_ret
   exact ⟨congrArg (fun z=>Ending.returned (.int .i64 z)) hz.out,h2⟩
  ·
   have hz:Hid (1=v):=by show _=_;rw [hv.out];rfl
   clear hv
   go_enter Tryz.func126,Tryz.ntmps126
   go_wp2_with (fail)
   try rw [hw0]
   clear hw0
   refine (k1.out _).mono ?_
   rintro _ w1 ⟨rfl,g1⟩
   have f1:=g1.fr
   have h1:=hf.trans g1
   replace c0:=f1.cell c0 zq
   replace c1:=f1.cell c1 zq
   replace c2:=f1.cell c2 zq
   replace d0:=f1.cell d0 zq
   replace d1:=f1.cell d1 zq
   replace d2:=f1.cell d2 zq
   clear g1 f1
   go_wp2_with (fail)
   refine (k2.out _).mono ?_
   rintro _ w2 ⟨rfl,g2⟩
   have h2:=h1.trans g2
   go_wp2_with (fail)
   go_ret
   exact ⟨congrArg (fun z=>Ending.returned (.int .i64 z)) hz.out,h2⟩
 ·
  have hz:Hid (-1=v):=by show _=_;rw [hv.out];rfl
  clear hv
  go_enter Tryz.func126,Tryz.ntmps126
  go_wp2_with (fail)
  try rw [hw0]
  clear hw0
  refine (k1.out _).mono ?_
  rintro _ w1 ⟨rfl,g1⟩
  have h1:=hf.trans g1
  go_wp2_with (fail)
  go_ret
  exact ⟨congrArg (fun z=>Ending.returned (.int .i64 z)) hz.out,h1⟩
theorem loadAt_node (v:Value):Instr.loadAt 118 v=ldS 118 v:=rfl
theorem storeAt_node (p v:Value):Instr.storeAt 118 p v=stS 118 p v:=rfl
attribute [local go_sem ↓] loadAt_node storeAt_node
def picks (l:List NodeG) (p:Nat→Bool) (k:Nat):List Id:=(List.range k).filterMap (fun i=>if p i then l[i]?.map NodeG.id else none)
theorem picks_snoc (l:List NodeG) (p:Nat→Bool) (k:Nat) {n:NodeG} (h:l[k]? =some n):picks l p (k+1)=picks l p k++(if p k then [n.id] else []):=by
 unfold picks
 rw [List.range_succ,List.filterMap_append]
 congr 1
 cases hp:p k<;>simp [hp,h]
theorem picks_len (l:List NodeG) (p:Nat→Bool) (k:Nat):(picks l p k).length≤k:=by
 unfold picks
 have h:=List.length_filterMap_le (fun i=>if p i then l[i]?.map NodeG.id else none) (List.range k)
 simpa using h
theorem one_node (n:NodeG):n.cells.toArray.all (·.oneCell')=true:=by
 unfold NodeG.cells OpL.cells
 simp [Value.oneCell']
def SortsIds:Prop:=∀(base:Nat) (A:Option Addr) (c:Nat) (xs:List Id) (w:World),Own w base 38 3 A xs.length c (xs.flatMap Id.cells)→xs.length≤1000000→
 Calls Tryz.prog 125 #[.slice A xs.length c,.func (.func 126) #[] #[]] w fun e w'=>e=.returned (.tuple #[])∧
  ∃ys:List Id,ys.Perm xs∧ys.Pairwise (fun x y=>Id.less y x=false)∧Own w' base 38 3 A ys.length c (ys.flatMap Id.cells)∧Fr (fun k=>rowOf A=some k) w w'
def Picked (g:Gph) (p:Nat→Bool) (w:World) (e:Ending) (w':World):Prop:=
 ∃A c,∃ids:List Id,e=.returned (.slice A ids.length c)∧ids.Perm (picks g.nodes p g.nodes.length)∧ids.Pairwise (fun x y=>Id.less y x=false)∧Own w' w.heap.size 38 3 A ids.length c (ids.flatMap Id.cells)∧Fr Non w w'
theorem gnamed_any (base:Nat) (g:Gph) (fid:Nat) (pre post:Array Value) (p:Nat→Bool) (w:World) (hsort:SortsIds) (hg:GAt w base g)
  (heg:∀args w,(callFunc fid args).run Tryz.prog w=.ok (.enter fid args) w)
  (hp:∀(w':World) (i:Nat),Fr Non w w'→i<g.nodes.length→Calls Tryz.prog fid (pre.push (.int .i64 (i:Int))++post) w' (BoolPost (p i) w')):
  Calls Tryz.prog 74 #[.pointer (some ⟨g.gb,0,none⟩),.func (.func fid) pre post] w (Picked g p w):=by
 have hi:(Tryz.prog.info? 118).map (·.size)=some 35:=by kernel_rfl
 have hlen:=hg.few
 have c2:w.cell? ⟨g.gb,2,none⟩=some (.slice g.nA g.nodes.length g.nC):=hg.blk.cell 2
 obtain ⟨n,hn⟩:=hid_ex g.nodes.length
 rw [hn.out] at c2 hlen
 replace hp:=Lib.hid hp
 go_enter Tryz.func74,Tryz.ntmps74
 go_wp2_with (fail)
 go_loopw [5,13] (fun s v wr=>∃(k:Nat) (A:Option Addr) (c:Nat) (xs:List Id),v=.int .i64 (k:Int)∧s=.slice A xs.length c∧k≤n∧Hid (xs=picks g.nodes p k)∧Own wr w.heap.size 38 3 A xs.length c (xs.flatMap Id.cells)∧Fr Non w wr) (fun _ v _=>n-(intOf v).toNat)
 case atStart=>exact ⟨0,none,0,[],rfl,rfl,by omega,rfl,Own.nil _ _ _ _,Fr.refl _ _⟩
 case round=>
  obtain ⟨k,A,c,xs,rfl,rfl,hk,hxs,hown,hf⟩:=hrel
  by_cases hlt:k<n
  ·
   have i1:(0:Int)≤k:=by omega
   have i2:(k:Int)<n:=by omega
   have i3:(k:Int).toNat=k:=by omega
   obtain ⟨nd,hnd⟩:∃x,g.nodes[k]? =some x:=⟨_,List.getElem?_eq_getElem (by rw [hn.out];exact hlt)⟩
   have hsn:=Lib.hid (picks_snoc g.nodes p k hnd)
   have hxl:xs.length≤k:=by rw [hxs.out];exact picks_len _ _ _
   have hgr:=hg.fr hf
   obtain ⟨b,off,hA,hbB,hc⟩:=hgr.cell hnd
   have hrg:World.rangeAt wr b (off+k*35) nd.cells.toArray.toList:=by
    intro j v hv
    have hj:j<35:=(List.getElem?_eq_some_iff.1 hv).1
    exact hc j hj v hv
   have hlm:=ldS_inner (P:=Tryz.prog) nd.cells.toArray b (off+k*35) Tryz.underlying118 rfl hi
   have hst:=stS_blk (P:=Tryz.prog) (t:=118) (old:=zN) (cs:=nd.cells.toArray) wr.heap.size 118 hi rfl (one_node nd)
   have hbz:=Blk.new wr 118 zN
   have e27:Hid (nd.cells.toArray[27]? =some (.int .i64 nd.id.b)):=rfl
   have e28:Hid (nd.cells.toArray[28]? =some (.int .i64 nd.id.s)):=rfl
   have e29:Hid (nd.cells.toArray[29]? =some (.int .u64 (nd.id.u:Int))):=rfl
   have bz:=hbz.setRow (cs:=nd.cells.toArray)
   have fz:=(hf.alloc (.cells zN 118)).setRow (g:=wr.heap.size) (fun h=>by have h1:=hf.size;omega) nd.cells.toArray
   have oz:=(hown.alloc (.cells zN 118)).fr ((Fr.refl (One wr.heap.size) _).setRow (g:=wr.heap.size) (fun _=>rfl) nd.cells.toArray) (fun j hj e=>by have h1:=(hown.row j hj).2;have e':j=wr.heap.size:=e;omega)
   have hrow:=hown.row
   rw [hA]
   replace hA:=Lib.hid hA
   generalize nd.cells.toArray=CN at*
   go_upto_region 5 with (fail)
   generalize (wr.alloc (.cells zN 118)).setRow wr.heap.size CN=w1 at*
   have hpk:=Lib.hid (hp.out w1 k fz (by rw [hn.out];exact hlt))
   clear hlm hst hbz hrg hc hgr
   generalize p k=pk at*
   cases pk
   ·
    have hsn':Hid (xs=picks g.nodes p (k+1)):=by show _=_;rw [hsn.out,hxs.out];simp
    go_wp2_with (fail)
    refine (hpk.out).mono ?_
    rintro _ w2 ⟨rfl,f2⟩
    have own2:=oz.fr f2 zr
    have fr2:=fz.trans f2 zr
    clear oz fz f2 hpk
    go_wp2_with (fail)
    go_roundw
    case rel=>exact ⟨k+1,A,c,xs,by go_num,rfl,by omega,hsn',own2,fr2⟩
    case measure=>simp [intOf];omega
   ·
    have hsn':Hid (xs++[nd.id]=picks g.nodes p (k+1)):=by show _=_;rw [hsn.out,hxs.out];simp
    go_wp2_with (fail)
    refine (hpk.out).mono ?_
    rintro _ w2 ⟨rfl,f2⟩
    have own2:=oz.fr f2 zr
    have fr2:=fz.trans f2 zr
    have b2:=bz.fr f2 zq
    have g0:w2.cell? ⟨wr.heap.size,27,none⟩=some (.int .i64 nd.id.b):=(b2.cell 27).trans e27.out
    have g1:w2.cell? ⟨wr.heap.size,28,none⟩=some (.int .i64 nd.id.s):=(b2.cell 28).trans e28.out
    have g2:w2.cell? ⟨wr.heap.size,29,none⟩=some (.int .u64 (nd.id.u:Int)):=(b2.cell 29).trans e29.out
    have own3:=own2.alloc (.cells nd.id.V 38)
    have fr3:=fr2.alloc (.cells nd.id.V 38)
    have hnb:=Blk.new w2 38 nd.id.V
    have hs2:=fr2.size
    clear oz fz f2 hpk bz b2 own2
    go_wp2_with (at_builtin;go_loud (refine wpList_app (base:=w.heap.size) (.tmp 21) (.tmp 24) 28 rfl rfl rfl rfl slId own3 (Rd.blk (n:=1) (size:=3) hnb rfl) (by simp [Value.oneCell']) (by omega) (by omega) (by rw [World.size_alloc];omega) ?_);intro A2 c2' w4 own4 fr4 hat4)
    have own5:Own w4 w.heap.size 38 3 A2 (xs++[nd.id]).length c2' ((xs++[nd.id]).flatMap Id.cells):=by
     rw [List.length_append,List.flatMap_append]
     exact own4
    have fr5:Fr Non w w4:=fr3.trans fr4 (fun j hj e=>by have h5:=(hrow j e).1;omega)
    go_roundw
    case rel=>exact ⟨k+1,A2,c2',xs++[nd.id],by go_num,by rw [List.length_append];rfl,by omega,hsn',own5,fr5⟩
    case measure=>simp [intOf];omega
  ·
   obtain rfl:n=k:=by omega
   have hxs':=hxs.out
   rw [← hn.out] at hxs'
   have hxl:xs.length≤200:=by have h1:=picks_len g.nodes p g.nodes.length;rw [← hxs',hn.out] at h1;omega
   have kc:=Lib.hid (hsort w.heap.size A c xs wr hown (by omega))
   have hrow:=hown.row
   have hfin:Hid (∀(ys:List Id) (wz:World),ys.Perm xs→ys.Pairwise (fun x y=>Id.less y x=false)→Own wz w.heap.size 38 3 A ys.length c (ys.flatMap Id.cells)→Fr (fun k=>rowOf A=some k) wr wz→Picked g p w (.returned (.slice A xs.length c)) wz):=by
    intro ys wz h1 h2 h3 h4
    rw [← h1.length_eq]
    exact ⟨A,c,ys,rfl,by rw [← hxs'];exact h1,h2,h3,hf.trans h4 (fun j hj e=>by have h5:=(hrow j e).1;omega)⟩
   generalize Picked g p w=POST at*
   clear hxs hxs' hown hp heg hg hsort
   go_wp2_with (go_at_call 125;go_loud (with_reducible refine (kc.out).mono ?_);rintro _ wz ⟨rfl,ys,h1,h2,h3,h4⟩)
   exact hfin.out ys wz h1 h2 h3 h4
end Oq
end
end Go.Proofs.YtafonabghnogaaaGreatDoor
