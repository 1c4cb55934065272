/-
  Contracts of the functions that the claim's statement reaches, walked one by one (part 8).
  Conditions: as each theorem says.
-/
import Derived.Test.YtafonabghnogaaaGreatDoorGrM3
import Derived.Test.YtafonabghnogaaaGreatDoorGrM7
set_option maxRecDepth 100000
set_option maxHeartbeats 16000000
open List renaming length_append→Al1
namespace Go.Proofs.YtafonabghnogaaaGreatDoor
section
open Go.RowKit Go.Sort
attribute [local go_sem ↓] Go.wp_at_zero Go.wp_at_succ
namespace Oq
theorem Ij (v:Value):Instr.loadAt 118 v=ldS 118 v:=rfl
theorem Ik (p v:Value):Instr.storeAt 118 p v=stS 118 p v:=rfl
attribute [local go_sem ↓] Ij Ik
def C5 (l:List Ai) (p:Nat→Bool) (k:Nat):List Id:=(List.range k).filterMap (fun i=>if p i then l[i]?.map Ai.id else none)
theorem Fy (l:List Ai) (p:Nat→Bool) (k:Nat) {n:Ai} (h:l[k]? =some n):C5 l p (k+1)=C5 l p k++(if p k then [n.id] else []):=by
 unfold C5
 rw [List.range_succ,List.filterMap_append]
 congr 1
 cases hp:p k<;>simp [hp,h]
theorem Px (l:List Ai) (p:Nat→Bool) (k:Nat):(C5 l p k).length≤k:=by
 unfold C5
 have h:=List.length_filterMap_le (fun i=>if p i then l[i]?.map Ai.id else none) (List.range k)
 simpa using h
theorem Gy (n:Ai):n.cells.toArray.all (·.oneCell')=true:=by
 unfold Ai.cells OpL.cells
 simp [Value.oneCell']
def Il:Prop:=∀(base:Nat) (A:Option Addr) (c:Nat) (xs:List Id) (w:World),Own w base 38 3 A xs.length c (xs.flatMap Id.cells)→xs.length≤1000000→
 Calls Tryz.prog 125 #[.slice A xs.length c,.func (.func 126) #[] #[]] w fun e w'=>e=.returned (.tuple #[])∧
  ∃ys:List Id,ys.Perm xs∧ys.Pairwise (fun x y=>Id.less y x=false)∧Own w' base 38 3 A ys.length c (ys.flatMap Id.cells)∧Fr (fun k=>Ab A=some k) w w'
def Picked (g:Gph) (p:Nat→Bool) (w:World) (e:Ending) (w':World):Prop:=
 ∃A c,∃ids:List Id,e=.returned (.slice A ids.length c)∧ids.Perm (C5 g.nodes p g.nodes.length)∧ids.Pairwise (fun x y=>Id.less y x=false)∧Own w' w.heap.size 38 3 A ids.length c (ids.flatMap Id.cells)∧Fr Non w w'
theorem Py (base:Nat) (g:Gph) (fid:Nat) (pre post:Array Value) (p:Nat→Bool) (w:World) (hsort:Il) (hg:GAt w base g)
  (heg:∀args w,(callFunc fid args).run Tryz.prog w=.ok (.enter fid args) w)
  (hp:∀(w':World) (i:Nat),Fr Non w w'→i<g.nodes.length→Calls Tryz.prog fid (pre.push (.int .i64 (i:Int))++post) w' (Af (p i) w')):
  Calls Tryz.prog 74 #[.pointer (some ⟨g.gb,0,none⟩),.func (.func fid) pre post] w (Picked g p w):=by
 have hi:(Tryz.prog.info? 118).map (·.size)=some 35:=by kernel_rfl
 have hlen:=hg.few
 have c2:w.cell? ⟨g.gb,2,none⟩=some (.slice g.nA g.nodes.length g.nC):=hg.blk.cell 2
 obtain ⟨n,hn⟩:=Aa g.nodes.length
 rw [hn.out] at c2 hlen
 replace hp:=Lib.hid hp
 go_enter Tryz.func74,Tryz.ntmps74
 go_wp2_with (fail)
 go_loopw [5,13] (fun s v wr=>∃(k:Nat) (A:Option Addr) (c:Nat) (xs:List Id),v=.int .i64 (k:Int)∧s=.slice A xs.length c∧k≤n∧Hid (xs=C5 g.nodes p k)∧Own wr w.heap.size 38 3 A xs.length c (xs.flatMap Id.cells)∧Fr Non w wr) (fun _ v _=>n-(intOf v).toNat)
 case atStart=>exact ⟨0,none,0,[],rfl,rfl,by omega,rfl,Own.nil _ _ _ _,Fr.refl _ _⟩
 case round=>
  obtain ⟨k,A,c,xs,rfl,rfl,hk,hxs,hown,hf⟩:=hrel
  by_cases hlt:k<n
  ·
   have i1:(0:Int)≤k:=by omega
   have i2:(k:Int)<n:=by omega
   have i3:(k:Int).toNat=k:=by omega
   obtain ⟨nd,hnd⟩:∃x,g.nodes[k]? =some x:=⟨_,List.getElem?_eq_getElem (by rw [hn.out];exact hlt)⟩
   have hsn:=Lib.hid (Fy g.nodes p k hnd)
   have hxl:xs.length≤k:=by rw [hxs.out];exact Px _ _ _
   have hgr:=hg.fr hf
   obtain ⟨b,off,hA,hbB,hc⟩:=hgr.cell hnd
   have hrg:World.rangeAt wr b (off+k*35) nd.cells.toArray.toList:=by
    intro j v hv
    have hj:j<35:=(List.getElem?_eq_some_iff.1 hv).1
    exact hc j hj v hv
   have hlm:=Ku (P:=Tryz.prog) nd.cells.toArray b (off+k*35) Tryz.underlying118 rfl hi
   have hst:=Ck (P:=Tryz.prog) (t:=118) (old:=zN) (cs:=nd.cells.toArray) wr.heap.size 118 hi rfl (Gy nd)
   have hbz:=Blk.new wr 118 zN
   have e27:Hid (nd.cells.toArray[27]? =some (.int .i64 nd.id.b)):=rfl
   have e28:Hid (nd.cells.toArray[28]? =some (.int .i64 nd.id.s)):=rfl
   have e29:Hid (nd.cells.toArray[29]? =some (.int .u64 (nd.id.u:Int))):=rfl
   have bz:=hbz.setRow (cs:=nd.cells.toArray)
   have fz:=(hf.alloc (.cells zN 118)).setRow (g:=wr.heap.size) (fun h=>by have h1:=hf.size;omega) nd.cells.toArray
   have oz:=(hown.alloc (.cells zN 118)).fr ((Fr.refl (One wr.heap.size) _).setRow (g:=wr.heap.size) (fun _=>rfl) nd.cells.toArray) (fun j hj e=>by have h1:=(hown.row j hj).2;have e':j=wr.heap.size:=e;omega)
   have hrow:=hown.row
   rw [hA]
   replace hA:=Lib.hid hA
   generalize nd.cells.toArray=CN at*
   go_upto_region 5 with (fail)
   generalize (wr.alloc (.cells zN 118)).setRow wr.heap.size CN=w1 at*
   have hpk:=Lib.hid (hp.out w1 k fz (by rw [hn.out];exact hlt))
   clear hlm hst hbz hrg hc hgr
   generalize p k=pk at*
   cases pk
   ·
    have hsn':Hid (xs=C5 g.nodes p (k+1)):=by show _=_;rw [hsn.out,hxs.out];simp
    go_wp2_with (fail)
    refine (hpk.out).mono ?_
    rintro _ w2 ⟨rfl,f2⟩
    have own2:=oz.fr f2 zr
    have fr2:=fz.trans f2 zr
    clear oz fz f2 hpk
    go_wp2_with (fail)
    go_roundw
    case rel=>exact ⟨k+1,A,c,xs,by go_num,rfl,by omega,hsn',own2,fr2⟩
    case measure=>simp [intOf];omega
   ·
    have hsn':Hid (xs++[nd.id]=C5 g.nodes p (k+1)):=by show _=_;rw [hsn.out,hxs.out];simp
    go_wp2_with (fail)
    refine (hpk.out).mono ?_
    rintro _ w2 ⟨rfl,f2⟩
    have own2:=oz.fr f2 zr
    have fr2:=fz.trans f2 zr
    have b2:=bz.fr f2 zq
    have g0:w2.cell? ⟨wr.heap.size,27,none⟩=some (.int .i64 nd.id.b):=(b2.cell 27).trans e27.out
    have g1:w2.cell? ⟨wr.heap.size,28,none⟩=some (.int .i64 nd.id.s):=(b2.cell 28).trans e28.out
    have g2:w2.cell? ⟨wr.heap.size,29,none⟩=some (.int .u64 (nd.id.u:Int)):=(b2.cell 29).trans e29.out
    have own3:=own2.alloc (.cells nd.id.V 38)
    have fr3:=fr2.alloc (.cells nd.id.V 38)
    have hnb:=Blk.new w2 38 nd.id.V
    have hs2:=fr2.size
    clear oz fz f2 hpk bz b2 own2
    go_wp2_with (at_builtin;go_loud (refine Bb (base:=w.heap.size) (.tmp 21) (.tmp 24) 28 rfl rfl rfl rfl C9 own3 (Rd.blk (n:=1) (size:=3) hnb rfl) (by simp [Value.oneCell']) (by omega) (by omega) (by rw [World.size_alloc];omega) ?_);intro A2 c2' w4 own4 fr4 hat4)
    have own5:Own w4 w.heap.size 38 3 A2 (xs++[nd.id]).length c2' ((xs++[nd.id]).flatMap Id.cells):=by
     rw [Al1,List.flatMap_append]
     exact own4
    have fr5:Fr Non w w4:=fr3.trans fr4 (fun j hj e=>by have h5:=(hrow j e).1;omega)
    go_roundw
    case rel=>exact ⟨k+1,A2,c2',xs++[nd.id],by go_num,by rw [Al1];rfl,by omega,hsn',own5,fr5⟩
    case measure=>simp [intOf];omega
  ·
   obtain rfl:n=k:=by omega
   have hxs':=hxs.out
   rw [← hn.out] at hxs'
   have hxl:xs.length≤200:=by have h1:=Px g.nodes p g.nodes.length;rw [← hxs',hn.out] at h1;omega
   have kc:=Lib.hid (hsort w.heap.size A c xs wr hown (by omega))
   have hrow:=hown.row
   have hfin:Hid (∀(ys:List Id) (wz:World),ys.Perm xs→ys.Pairwise (fun x y=>Id.less y x=false)→Own wz w.heap.size 38 3 A ys.length c (ys.flatMap Id.cells)→Fr (fun k=>Ab A=some k) wr wz→Picked g p w (.returned (.slice A xs.length c)) wz):=by
    intro ys wz h1 h2 h3 h4
    rw [← h1.length_eq]
    exact ⟨A,c,ys,rfl,by rw [← hxs'];exact h1,h2,h3,hf.trans h4 (fun j hj e=>by have h5:=(hrow j e).1;omega)⟩
   generalize Picked g p w=POST at*
   clear hxs hxs' hown hp heg hg hsort
   go_wp2_with (go_at_call 125;go_loud (with_reducible refine (kc.out).mono ?_);rintro _ wz ⟨rfl,ys,h1,h2,h3,h4⟩)
   exact hfin.out ys wz h1 h2 h3 h4
end Oq
end
end Go.Proofs.YtafonabghnogaaaGreatDoor
