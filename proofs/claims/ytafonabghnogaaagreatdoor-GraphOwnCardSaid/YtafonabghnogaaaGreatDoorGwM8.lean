/-
  Contracts of the functions that the claim's statement reaches, walked one by one (part 8).
  Conditions: as each theorem says.
-/
import Derived.Test.YtafonabghnogaaaGreatDoorGwM7
set_option maxRecDepth 100000
set_option maxHeartbeats 16000000
open List renaming length_append→Ak6
namespace Go.Proofs.YtafonabghnogaaaGreatDoor
section
open Go.RowKit Go.Sort
attribute [local go_sem ↓] Go.wp_at_zero Go.wp_at_succ
namespace Oq
theorem Ig (v:Value):Instr.loadAt 118 v=ldS 118 v:=rfl
theorem Ih (p v:Value):Instr.storeAt 118 p v=stS 118 p v:=rfl
attribute [local go_sem ↓] Ig Ih
def Ek (l:List Ah) (p:Nat→Bool) (k:Nat):List Id:=(List.range k).filterMap (fun i=>if p i then l[i]?.map Ah.id else none)
theorem Gw (l:List Ah) (p:Nat→Bool) (k:Nat) {n:Ah} (h:l[k]? =some n):Ek l p (k+1)=Ek l p k++(if p k then [n.id] else []):=by
 unfold Ek;rw [List.range_succ,List.filterMap_append];congr 1
 cases hp:p k<;>simp [hp,h]
theorem Pm (l:List Ah) (p:Nat→Bool) (k:Nat):(Ek l p k).length≤k:=by
 unfold Ek;have h:=List.length_filterMap_le (fun i=>if p i then l[i]?.map Ah.id else none) (List.range k);simpa using h
theorem Gx (n:Ah):n.cells.toArray.all (·.oneCell')=true:=by
 unfold Ah.cells OpL.cells;simp [Value.oneCell']
def Kk:Prop:=∀(base:Nat) (A:Option Addr) (c:Nat) (xs:List Id) (w:World),Own w base 38 3 A xs.length c (xs.flatMap Id.cells)→xs.length≤1000000→
 Calls Tryz.prog 125 #[.slice A xs.length c,.func (.func 126) #[] #[]] w fun e w'=>e=.returned (.tuple #[])∧
  ∃ys:List Id,ys.Perm xs∧ys.Pairwise (fun x y=>Id.less y x=false)∧Own w' base 38 3 A ys.length c (ys.flatMap Id.cells)∧Fr (fun k=>Ab A=some k) w w'
def Picked (g:Gph) (p:Nat→Bool) (w:World) (e:Ending) (w':World):Prop:=
 ∃A c,∃ids:List Id,e=.returned (.slice A ids.length c)∧ids.Perm (Ek g.nodes p g.nodes.length)∧ids.Pairwise (fun x y=>Id.less y x=false)∧Own w' w.heap.size 38 3 A ids.length c (ids.flatMap Id.cells)∧Fr Non w w'
theorem Wt (base:Nat) (g:Gph) (fid:Nat) (pre post:Array Value) (p:Nat→Bool) (w:World) (hsort:Kk) (hg:GAt w base g)
  (heg:∀args w,(callFunc fid args).run Tryz.prog w=.ok (.enter fid args) w)
  (hp:∀(w':World) (i:Nat),Fr Non w w'→i<g.nodes.length→Calls Tryz.prog fid (pre.push (.int .i64 (i:Int))++post) w' (Ae (p i) w')):
  Calls Tryz.prog 74 #[.pointer (some ⟨g.gb,0,none⟩),.func (.func fid) pre post] w (Picked g p w):=by
 have hi:(Tryz.prog.info? 118).map (·.size)=some 35:=by kernel_rfl
 have al:=hg.few;have c2:w.cell? ⟨g.gb,2,none⟩=some (.slice g.nA g.nodes.length g.nC):=hg.blk.cell 2;obtain ⟨n,hn⟩:=Aa g.nodes.length;rw [hn.out] at c2 al;replace hp:=Lib.hid hp;go_enter Tryz.func74,Tryz.ntmps74;go_wp2_with (fail)
 go_loopw [5,13] (fun s v wr=>∃(k:Nat) (A:Option Addr) (c:Nat) (xs:List Id),v=.int .i64 (k:Int)∧s=.slice A xs.length c∧k≤n∧Hid (xs=Ek g.nodes p k)∧Own wr w.heap.size 38 3 A xs.length c (xs.flatMap Id.cells)∧Fr Non w wr) (fun _ v _=>n-(intOf v).toNat)
 case atStart=>exact ⟨0,none,0,[],rfl,rfl,by omega,rfl,Own.nil _ _ _ _,Fr.refl _ _⟩
 case round=>
  obtain ⟨k,A,c,xs,rfl,rfl,hk,af,aa,hf⟩:=hrel
  by_cases hlt:k<n
  ·
   have i1:(0:Int)≤k:=by omega
   have i2:(k:Int)<n:=by omega
   have i3:(k:Int).toNat=k:=by omega
   obtain ⟨nd,av⟩:∃x,g.nodes[k]? =some x:=⟨_,List.getElem?_eq_getElem (by rw [hn.out];exact hlt)⟩;have ar:=Lib.hid (Gw g.nodes p k av);have a1:xs.length≤k:=by rw [af.out];exact Pm _ _ _
   have ap:=hg.fr hf;obtain ⟨b,aq,hA,ba,hc⟩:=ap.cell av
   have a6:World.rangeAt wr b (aq+k*35) nd.cells.toArray.toList:=by
    intro j v hv;have hj:j<35:=(List.getElem?_eq_some_iff.1 hv).1;exact hc j hj v hv
   have az:=Gu (P:=Tryz.prog) nd.cells.toArray b (aq+k*35) Tryz.underlying118 rfl hi;have a7:=Cf (P:=Tryz.prog) (t:=118) (old:=zN) (cs:=nd.cells.toArray) wr.heap.size 118 hi rfl (Gx nd);have au:=Blk.new wr 118 zN;have a8:Hid (nd.cells.toArray[27]? =some (.int .i64 nd.id.b)):=rfl;have ax:Hid (nd.cells.toArray[28]? =some (.int .i64 nd.id.s)):=rfl;have a3:Hid (nd.cells.toArray[29]? =some (.int .u64 (nd.id.u:Int))):=rfl;have bz:=au.setRow (cs:=nd.cells.toArray);have fz:=(hf.alloc (.cells zN 118)).setRow (g:=wr.heap.size) (fun h=>by have h1:=hf.size;omega) nd.cells.toArray;have oz:=(aa.alloc (.cells zN 118)).fr ((Fr.refl (One wr.heap.size) _).setRow (g:=wr.heap.size) (fun _=>rfl) nd.cells.toArray) (fun j hj e=>by have h1:=(aa.row j hj).2;have e':j=wr.heap.size:=e;omega);have ae:=aa.row;rw [hA];replace hA:=Lib.hid hA;generalize nd.cells.toArray=CN at*;go_upto_region 5 with (fail)
   generalize (wr.alloc (.cells zN 118)).setRow wr.heap.size CN=w1 at*;have ag:=Lib.hid (hp.out w1 k fz (by rw [hn.out];exact hlt));clear az a7 au a6 hc ap;generalize p k=pk at*
   cases pk
   ·
    have ad:Hid (xs=Ek g.nodes p (k+1)):=by show _=_;rw [ar.out,af.out];simp
    go_wp2_with (fail);refine (ag.out).mono ?_;rintro _ w2 ⟨rfl,f2⟩;have ab:=oz.fr f2 zr;have ah:=fz.trans f2 zr;clear oz fz f2 ag;go_wp2_with (fail);go_roundw
    case rel=>exact ⟨k+1,A,c,xs,by go_num,rfl,by omega,ad,ab,ah⟩
    case measure=>simp [intOf];omega
   ·
    have ad:Hid (xs++[nd.id]=Ek g.nodes p (k+1)):=by show _=_;rw [ar.out,af.out];simp
    go_wp2_with (fail);refine (ag.out).mono ?_;rintro _ w2 ⟨rfl,f2⟩;have ab:=oz.fr f2 zr;have ah:=fz.trans f2 zr;have b2:=bz.fr f2 zq;have g0:w2.cell? ⟨wr.heap.size,27,none⟩=some (.int .i64 nd.id.b):=(b2.cell 27).trans a8.out;have g1:w2.cell? ⟨wr.heap.size,28,none⟩=some (.int .i64 nd.id.s):=(b2.cell 28).trans ax.out;have g2:w2.cell? ⟨wr.heap.size,29,none⟩=some (.int .u64 (nd.id.u:Int)):=(b2.cell 29).trans a3.out;have ak:=ab.alloc (.cells nd.id.V 38);have a4:=ah.alloc (.cells nd.id.V 38);have a5:=Blk.new w2 38 nd.id.V;have a9:=ah.size;clear oz fz f2 ag bz b2 ab;go_wp2_with (at_builtin;go_loud (refine Ay (base:=w.heap.size) (.tmp 21) (.tmp 24) 28 rfl rfl rfl rfl Cz ak (Rd.blk (n:=1) (size:=3) a5 rfl) (by simp [Value.oneCell']) (by omega) (by omega) (by rw [World.size_alloc];omega) ?_);intro A2 aw w4 ao a0 ay)
    have aj:Own w4 w.heap.size 38 3 A2 (xs++[nd.id]).length aw ((xs++[nd.id]).flatMap Id.cells):=by
     rw [Ak6,List.flatMap_append];exact ao
    have a2:Fr Non w w4:=a4.trans a0 (fun j hj e=>by have h5:=(ae j e).1;omega);go_roundw
    case rel=>exact ⟨k+1,A2,aw,xs++[nd.id],by go_num,by rw [Ak6];rfl,by omega,ad,aj,a2⟩
    case measure=>simp [intOf];omega
  ·
   obtain rfl:n=k:=by omega
   have ac:=af.out;rw [← hn.out] at ac;have a1:xs.length≤200:=by have h1:=Pm g.nodes p g.nodes.length;rw [← ac,hn.out] at h1;omega
   have kc:=Lib.hid (hsort w.heap.size A c xs wr aa (by omega));have ae:=aa.row
   have ai:Hid (∀(ys:List Id) (wz:World),ys.Perm xs→ys.Pairwise (fun x y=>Id.less y x=false)→Own wz w.heap.size 38 3 A ys.length c (ys.flatMap Id.cells)→Fr (fun k=>Ab A=some k) wr wz→Picked g p w (.returned (.slice A xs.length c)) wz):=by
    intro ys wz h1 h2 h3 h4;rw [← h1.length_eq];exact ⟨A,c,ys,rfl,by rw [← ac];exact h1,h2,h3,hf.trans h4 (fun j hj e=>by have h5:=(ae j e).1;omega)⟩
   generalize Picked g p w=POST at*;clear af ac aa hp heg hg hsort;go_wp2_with (go_at_call 125;go_loud (with_reducible refine (kc.out).mono ?_);rintro _ wz ⟨rfl,ys,h1,h2,h3,h4⟩);exact ai.out ys wz h1 h2 h3 h4
end Oq
end
end Go.Proofs.YtafonabghnogaaaGreatDoor
