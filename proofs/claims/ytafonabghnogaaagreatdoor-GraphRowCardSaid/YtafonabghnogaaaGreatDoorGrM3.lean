/-
  Contracts of the functions that the claim's statement reaches, walked one by one (part 3).
  Conditions: as each theorem says.
-/
import Derived.Deep.Cut
import Derived.Deep.RegionHeld3
import Derived.Deep.DrawnRows
import Derived.Test.YtafonabghnogaaaGreatDoorGrM1
import Derived.Test.YtafonabghnogaaaGreatDoorGrM2
set_option maxRecDepth 100000
set_option maxHeartbeats 16000000
open List renaming length_append→Al1,getElem?_eq_getElem→Al3,mem_of_getElem?→Al6,take_of_length_le→Al7,length_map→Am0,find?_append→Am1,append_assoc→Am2,mem_map_of_mem→Am3,flatMap_cons→Am4,getElem?_toArray→Am5
open Nat renaming le_refl→Al2,le_trans→Al5,mul_add→Al8
open Go.World renaming size_alloc→Al4,new_ne→Al9
namespace Go.Proofs.YtafonabghnogaaaGreatDoor
section
open Go.RowKit
namespace Oq
structure Ai where
 x:OpL
 id:Id
 a0:Nat
 a1:Nat
 a2:Nat
 a3:Nat
 lev:Nat
def Ai.ws (n:Ai):List Nat:=[n.a0,n.a1,n.a2,n.a3]
def Ai.cells (n:Ai):List Value:=n.x.cells.toList++[.int .i64 n.id.b,.int .i64 n.id.s,.int .u64 (n.id.u:Int),.int .u64 (n.a0:Int),.int .u64 (n.a1:Int),.int .u64 (n.a2:Int),.int .u64 (n.a3:Int),.int .i64 (n.lev:Int)]
def Ai.past (n:Ai) (k:Nat):Bool:=(n.ws.getD (k/64) 0).testBit (k%64)
structure Gph where
 gb:Nat
 mb:Nat
 mm:Nat
 cA:Option Addr
 cC:Nat
 cards:List Cd
 nA:Option Addr
 nC:Nat
 nodes:List Ai
def Ag (l:List Ai) (id:Id):Option Nat:=l.findIdx? (fun n=>decide (n.id=id))
theorem Fq {l:List Ai} {id:Id} {i:Nat} (h:Ag l id=some i):∃n,l[i]? =some n∧n.id=id:=by
 obtain ⟨hi,h1,_⟩:=List.findIdx?_eq_some_iff_getElem.1 h
 exact ⟨l[i],Al3 hi,by simpa using h1⟩
structure Ai.okAt (w:World) (base:Nat) (n:Ai):Prop where
 own:n.x.own w base
 ok:n.x.op.ok
 id:n.id.ok
 set:Au n.ws n.past
theorem Ai.okAt.at_ {w:World} {base:Nat} {n:Ai} (h:n.okAt w base):n.x.at w w.heap.size:=h.own.at
theorem RowAt.non {w w':World} {base size n c:Nat} {t:TypeId} {A:Option Addr} {xs:List Value} (h:RowAt w base t size A n c xs) (hf:Fr Non w w'):RowAt w' base t size A n c xs:=h.fr hf (fun _ _ _ e=>e)
theorem OpL.own.keepP {S:Nat→Prop} {P:TypeId→Prop} {w w':World} {base:Nat} {x:OpL} (h:x.own w base) (hf:Fr S w w') (hS:Types S w P) (h1:¬P 38) (h2:¬P 103) (h3:¬P 144) (h4:¬P 5) (h5:¬P 23) (h6:¬P 3) (h7:¬P 106):x.own w' base where
 past:=h.past.keepT hf (hS.not h1)
 path:=h.path.keepT hf (hS.not h2)
 nodes y hy:=(h.nodes y hy).keepT hf (hS.not h3)
 body:=h.body.keepT hf (hS.not h4)
 refs:=h.refs.keepT hf (hS.not h5)
 guards:=h.guards.keepT hf (hS.not h6)
 boxes:=h.boxes.keepT hf (hS.not h3)
 hist:=h.hist.keepT hf (hS.not h7)
 seals y hy:=(h.seals y hy).keepT hf (hS.not h4)
theorem OpL.own.non {w w':World} {base:Nat} {x:OpL} (h:x.own w base) (hf:Fr Non w w'):x.own w' base:=
 h.keepP (P:=fun _=>False) hf (fun _ _ _ _ _ e=>e.elim) zq zq zq zq zq zq zq
structure GAt (w:World) (base:Nat) (g:Gph):Prop where
 blk:Blk w g.gb 123 #[.slice g.cA g.cards.length g.cC,.map (some g.mb),.slice g.nA g.nodes.length g.nC]
 pos:0<base
 gbase:base≤g.gb
 mbase:base≤g.mb
 crow:Own w base 81 5 g.cA g.cards.length g.cC (g.cards.flatMap Cd.cells)
 own:Own w base 118 35 g.nA g.nodes.length g.nC (g.nodes.flatMap Ai.cells)
 few:g.nodes.length≤200
 mfew:g.mm≤g.nodes.length
 levs:∀n∈g.nodes,n.lev≤g.nodes.length
 cfew:g.cards.length≤1000000
 cok:∀c∈g.cards,c.s<18446744073709551616
 map:MapAt w g.mb g.mm (Ag g.nodes)
 node:∀n∈g.nodes,n.okAt w base
def Gph.own (g:Gph):Nat→Prop:=fun k=>k=g.gb∨k=g.mb∨Ab g.nA=some k
theorem GAt.fr {w w':World} {base:Nat} {g:Gph} (h:GAt w base g) (hf:Fr Non w w'):GAt w' base g where
 blk:=h.blk.fr hf zq
 pos:=h.pos
 gbase:=h.gbase
 mbase:=h.mbase
 crow:=h.crow.fr hf zr
 own:=h.own.fr hf zr
 few:=h.few
 mfew:=h.mfew
 levs:=h.levs
 cfew:=h.cfew
 cok:=h.cok
 map:=h.map.fr hf zq
 node:=fun n hn=>by
  have k:=h.node n hn
  exact ⟨k.own.non hf,k.ok,k.id,k.set⟩
theorem GAt.cards {w:World} {base:Nat} {g:Gph} (h:GAt w base g):Rd w w.heap.size 5 g.cA g.cards.length (g.cards.flatMap Cd.cells):=h.crow.rd
theorem GAt.later {S:Nat→Prop} {w w':World} {base:Nat} {g:Gph} (h:GAt w base g) (hf:Fr S w w') (hS:∀k,k<w.heap.size→¬S k):GAt w' base g:=h.fr (hf.mono (fun k hk e=>hS k hk e))
theorem GAt.cell {w:World} {base:Nat} {g:Gph} (h:GAt w base g) {i:Nat} {n:Ai} (hi:g.nodes[i]? =some n):
  ∃b off,g.nA=some ⟨b,off,none⟩∧b<w.heap.size∧∀j,j<35→∀u,n.cells[j]? =some u→w.cell? ⟨b,off+i*35+j,none⟩=some u:=
 El (f:=Ai.cells) (fun _=>rfl) (by omega) h.own.rd hi
end Oq
end
section
open Go.RowKit
attribute [local go_sem ↓] Go.wp_at_zero Go.wp_at_succ
namespace Oq
attribute [local go_sem] Bool.not_false Bool.not_true
theorem Uo (base:Nat) (g:Gph) (w:World) (hg:GAt w base g):Calls Tryz.prog 18 #[.pointer (some ⟨g.gb,0,none⟩)] w fun e w'=>e=.returned (.int .i64 (g.nodes.length:Int))∧w=w':=by
 have c2:w.cell? ⟨g.gb,2,none⟩=some (.slice g.nA g.nodes.length g.nC):=hg.blk.cell 2
 generalize g.nodes.length=n at*
 clear hg
 go_enter Tryz.func18,Tryz.ntmps18
 go_wp2
 go_ret
 exact ⟨rfl,rfl⟩
def Gph.level (g:Gph) (id:Id):Nat:=match Ag g.nodes id with|some i=>(g.nodes[i]?.map Ai.lev).getD 0|none=>0
theorem J2 (base:Nat) (g:Gph) (id:Id) (w:World) (hg:GAt w base g) (hid:id.ok):Calls Tryz.prog 27 #[.pointer (some ⟨g.gb,0,none⟩),.agg id.V] w fun e w'=>e=.returned (.int .i64 (g.level id:Int))∧Fr Non w w':=by
 have f0:Fr Non w (w.alloc (.cells id.V 38)):=(Fr.refl Non w).alloc _
 have hb:=Blk.new w 38 id.V
 have i0:(w.alloc (.cells id.V 38)).cell? ⟨w.heap.size,0,none⟩=some (.int .i64 id.b):=hb.cell 0
 have i1:(w.alloc (.cells id.V 38)).cell? ⟨w.heap.size,1,none⟩=some (.int .i64 id.s):=hb.cell 1
 have i2:(w.alloc (.cells id.V 38)).cell? ⟨w.heap.size,2,none⟩=some (.int .u64 (id.u:Int)):=hb.cell 2
 have hg1:=hg.fr f0
 have c1:(w.alloc (.cells id.V 38)).cell? ⟨g.gb,1,none⟩=some (.map (some g.mb)):=hg1.blk.cell 1
 have c2:(w.alloc (.cells id.V 38)).cell? ⟨g.gb,2,none⟩=some (.slice g.nA g.nodes.length g.nC):=hg1.blk.cell 2
 have hmap:=hg1.map
 have hlook:=fun (w':World) (h:MapAt w' g.mb g.mm (Ag g.nodes))=>MapAt.look h id hid
 have hlv:Hid (g.level id=match Ag g.nodes id with|some i=>(g.nodes[i]?.map Ai.lev).getD 0|none=>0):=rfl
 have hpl:Hid (∀i,Ag g.nodes id=some i→∃n,g.nodes[i]? =some n):=fun i hi=>by obtain ⟨n,h1,_⟩:=Fq hi;exact ⟨n,h1⟩
 have hcell:=Lib.hid (fun (i:Nat) (n:Ai) (hi:g.nodes[i]? =some n)=>hg1.cell hi)
 generalize g.level id=lv at*
 cases hp:Ag g.nodes id
 focus
  have hv:Hid (0=lv):=by show _=_;rw [hlv.out,hp]
  rw [hp] at hlook
  clear hg hg1 hb hlv hp
  go_enter Tryz.func27,Tryz.ntmps27
  go_wp2_with (fail)
  generalize hw0:w.alloc (.cells id.V 38)=w0 at*
  clear hw0
  refine wp_region_held_drew (S:=(fun w'=>w'.cell? ⟨w.heap.size,0,none⟩=some (.int .i64 id.b)∧w'.cell? ⟨w.heap.size,1,none⟩=some (.int .i64 id.s)∧w'.cell? ⟨w.heap.size,2,none⟩=some (.int .u64 (id.u:Int))∧w'.cell? ⟨g.gb,1,none⟩=some (.map (some g.mb))∧MapAt w' g.mb g.mm (Ag g.nodes))) (by kernel_rfl) ⟨i0,i1,i2,c1,hmap⟩ (fun hHeld=> ?_)
  clear hHeld
  have hS:(fun w'=>w'.cell? ⟨w.heap.size,0,none⟩=some (.int .i64 id.b)∧w'.cell? ⟨w.heap.size,1,none⟩=some (.int .i64 id.s)∧w'.cell? ⟨w.heap.size,2,none⟩=some (.int .u64 (id.u:Int))∧w'.cell? ⟨g.gb,1,none⟩=some (.map (some g.mb))∧MapAt w' g.mb g.mm (Ag g.nodes)) w0.drew:=⟨i0,i1,i2,c1,hmap⟩
  replace f0:=f0.drew
 rotate_left
 focus
  rename_i i
  obtain ⟨n,hn,_⟩:=Fq hp
  have hv:Hid (n.lev=lv):=by show _=_;rw [hlv.out,hp];simp [hn]
  have hlen:=hg.few
  have hin:i<g.nodes.length:=(List.getElem?_eq_some_iff.1 hn).1
  obtain ⟨b,off,hA,hbB,hc⟩:=hg1.cell hn
  have cl:(w.alloc (.cells id.V 38)).cell? ⟨b,off+i*35+34,none⟩=some (.int .i64 (n.lev:Int)):=hc 34 (by omega) _ rfl
  rw [hA] at c2
  have j1:(0:Int)≤i:=by omega
  have j2:(i:Int)<g.nodes.length:=by omega
  have j3:(i:Int).toNat=i:=by omega
  have j4:IntKind.i64.wrap (i:Int)=i:=IntWalk.i64_in _ (by omega)
  rw [hp] at hlook
  clear hg hg1 hb hlv hp hn hin hc hA hbB
  generalize g.nodes.length=nn at*
  go_enter Tryz.func27,Tryz.ntmps27
  go_wp2_with (fail)
  generalize hw0:w.alloc (.cells id.V 38)=w0 at*
  clear hw0
  have c2':=c2
  have cl':=cl
  refine wp_region_held_drew (S:=(fun w'=>w'.cell? ⟨w.heap.size,0,none⟩=some (.int .i64 id.b)∧w'.cell? ⟨w.heap.size,1,none⟩=some (.int .i64 id.s)∧w'.cell? ⟨w.heap.size,2,none⟩=some (.int .u64 (id.u:Int))∧w'.cell? ⟨g.gb,1,none⟩=some (.map (some g.mb))∧MapAt w' g.mb g.mm (Ag g.nodes))) (by kernel_rfl) ⟨i0,i1,i2,c1,hmap⟩ (fun hHeld=> ?_)
  clear hHeld
  have hS:(fun w'=>w'.cell? ⟨w.heap.size,0,none⟩=some (.int .i64 id.b)∧w'.cell? ⟨w.heap.size,1,none⟩=some (.int .i64 id.s)∧w'.cell? ⟨w.heap.size,2,none⟩=some (.int .u64 (id.u:Int))∧w'.cell? ⟨g.gb,1,none⟩=some (.map (some g.mb))∧MapAt w' g.mb g.mm (Ag g.nodes)) w0.drew:=⟨i0,i1,i2,c1,hmap⟩
  replace f0:=f0.drew
  replace c2':w0.drew.cell? ⟨g.gb,2,none⟩=some (.slice (some ⟨b,off,none⟩) nn g.nC):=c2'
  replace cl':w0.drew.cell? ⟨b,off+i*35+34,none⟩=some (.int .i64 (n.lev:Int)):=cl'
 all_goals
  refine tkH 0 hS (h:=tkH 1 hS (h:=tkH 2 hS (h:=tkH 3 hS (h:=tkH 4 hS (h:=tkH 5 hS (h:=tkH 6 hS (h:=tkH 7 hS (h:=tkH 8 hS (h:=tkH 9 hS (h:=tkH 10 hS (h:=?_)))))))))))
  simp only [List.set]
  refine oD ?_
  go_simp
  go_wp2_with (fail)
  go_ret
  exact ⟨congrArg (fun z:Nat=>Ending.returned (.int .i64 (z:Int))) hv.out,f0⟩
def Gph.before (g:Gph) (a b:Id):Bool:=match Ag g.nodes a,Ag g.nodes b with|some i,some j=>(g.nodes[j]?.map (fun n=>n.past i)).getD false|_,_=>false
theorem GAt.setAt {w:World} {base:Nat} {g:Gph} (h:GAt w base g) {i:Nat} {n:Ai} (hi:g.nodes[i]? =some n):
  ∃b off,g.nA=some ⟨b,off,none⟩∧Ej w b (off+i*35+30) n.ws:=by
 obtain ⟨b,off,hA,hbB,hc⟩:=h.cell hi
 refine ⟨b,off,hA,?_⟩
 intro k hk
 match k,hk with
 |0,_=>exact hc 30 (by omega) _ rfl
 |1,_=>exact hc 31 (by omega) _ rfl
 |2,_=>exact hc 32 (by omega) _ rfl
 |3,_=>exact hc 33 (by omega) _ rfl
theorem N2 (base:Nat) (g:Gph) (a b:Id) (w:World) (hg:GAt w base g) (ha:a.ok) (hb:b.ok):Calls Tryz.prog 29 #[.pointer (some ⟨g.gb,0,none⟩),.agg a.V,.agg b.V] w fun e w'=>e=.returned (.bool (g.before a b))∧Fr Non w w':=by
 have f1:Fr Non w (w.alloc (.cells a.V 38)):=(Fr.refl Non w).alloc _
 have f0:=f1.alloc (.cells b.V 38)
 have hba:=Blk.new w 38 a.V
 have hbb:=Blk.new (w.alloc (.cells a.V 38)) 38 b.V
 rw [Al4] at hbb
 replace hba:=hba.alloc (.cells b.V 38)
 have hg1:=hg.fr f0
 generalize hw0:(w.alloc (.cells a.V 38)).alloc (.cells b.V 38)=w0 at*
 have i0:w0.cell? ⟨w.heap.size,0,none⟩=some (.int .i64 a.b):=hba.cell 0
 have i1:w0.cell? ⟨w.heap.size,1,none⟩=some (.int .i64 a.s):=hba.cell 1
 have i2:w0.cell? ⟨w.heap.size,2,none⟩=some (.int .u64 (a.u:Int)):=hba.cell 2
 have k0:w0.cell? ⟨w.heap.size+1,0,none⟩=some (.int .i64 b.b):=hbb.cell 0
 have k1:w0.cell? ⟨w.heap.size+1,1,none⟩=some (.int .i64 b.s):=hbb.cell 1
 have k2:w0.cell? ⟨w.heap.size+1,2,none⟩=some (.int .u64 (b.u:Int)):=hbb.cell 2
 have c1:w0.cell? ⟨g.gb,1,none⟩=some (.map (some g.mb)):=hg1.blk.cell 1
 have c2:w0.cell? ⟨g.gb,2,none⟩=some (.slice g.nA g.nodes.length g.nC):=hg1.blk.cell 2
 have hmap:=hg1.map
 have hlooka:=fun (w':World) (h:MapAt w' g.mb g.mm (Ag g.nodes))=>MapAt.look h a ha
 have hlookb:=fun (w':World) (h:MapAt w' g.mb g.mm (Ag g.nodes))=>MapAt.look h b hb
 have hlv:Hid (g.before a b=match Ag g.nodes a,Ag g.nodes b with|some i,some j=>(g.nodes[j]?.map (fun n=>n.past i)).getD false|_,_=>false):=rfl
 generalize g.before a b=lv at*
 cases hpa:Ag g.nodes a
 ·
  cases hpb:Ag g.nodes b
  focus
   have hv:Hid (false=lv):=by show _=_;rw [hlv.out,hpa]
   rw [hpa] at hlooka
   rw [hpb] at hlookb
   clear hg hg1 hba hbb hlv hpa hpb
  rotate_left
  focus
   have hv:Hid (false=lv):=by show _=_;rw [hlv.out,hpa]
   rw [hpa] at hlooka
   rw [hpb] at hlookb
   clear hg hg1 hba hbb hlv hpa hpb
   rename_i j
  all_goals
   go_enter Tryz.func29,Tryz.ntmps29
   go_wp2_with (fail)
   clear hw0
   refine wp_region_held_drew (S:=(fun w'=>w'.cell? ⟨w.heap.size,0,none⟩=some (.int .i64 a.b)∧w'.cell? ⟨w.heap.size,1,none⟩=some (.int .i64 a.s)∧w'.cell? ⟨w.heap.size,2,none⟩=some (.int .u64 (a.u:Int))∧w'.cell? ⟨(w.heap.size+1),0,none⟩=some (.int .i64 b.b)∧w'.cell? ⟨(w.heap.size+1),1,none⟩=some (.int .i64 b.s)∧w'.cell? ⟨(w.heap.size+1),2,none⟩=some (.int .u64 (b.u:Int))∧w'.cell? ⟨g.gb,1,none⟩=some (.map (some g.mb))∧MapAt w' g.mb g.mm (Ag g.nodes))) (by kernel_rfl) ⟨i0,i1,i2,k0,k1,k2,c1,hmap⟩ (fun hHeld=> ?_)
   clear hHeld
   have hS1:(fun w'=>w'.cell? ⟨w.heap.size,0,none⟩=some (.int .i64 a.b)∧w'.cell? ⟨w.heap.size,1,none⟩=some (.int .i64 a.s)∧w'.cell? ⟨w.heap.size,2,none⟩=some (.int .u64 (a.u:Int))∧w'.cell? ⟨(w.heap.size+1),0,none⟩=some (.int .i64 b.b)∧w'.cell? ⟨(w.heap.size+1),1,none⟩=some (.int .i64 b.s)∧w'.cell? ⟨(w.heap.size+1),2,none⟩=some (.int .u64 (b.u:Int))∧w'.cell? ⟨g.gb,1,none⟩=some (.map (some g.mb))∧MapAt w' g.mb g.mm (Ag g.nodes)) w0.drew:=⟨i0,i1,i2,k0,k1,k2,c1,hmap⟩
   replace f0:=f0.drew
   refine tkH 0 hS1 (h:=tkH 1 hS1 (h:=tkH 2 hS1 (h:=tkH 3 hS1 (h:=tkH 4 hS1 (h:=tkH 5 hS1 (h:=tkH 6 hS1 (h:=tkH 7 hS1 (h:=tkH 8 hS1 (h:=tkH 9 hS1 (h:=tkH 10 hS1 (h:=?_)))))))))))
   simp only [List.set]
   refine oD ?_
   go_simp
   go_wp2_with (fail)
   refine wp_region_held_drew (S:=(fun w'=>w'.cell? ⟨w.heap.size,0,none⟩=some (.int .i64 a.b)∧w'.cell? ⟨w.heap.size,1,none⟩=some (.int .i64 a.s)∧w'.cell? ⟨w.heap.size,2,none⟩=some (.int .u64 (a.u:Int))∧w'.cell? ⟨(w.heap.size+1),0,none⟩=some (.int .i64 b.b)∧w'.cell? ⟨(w.heap.size+1),1,none⟩=some (.int .i64 b.s)∧w'.cell? ⟨(w.heap.size+1),2,none⟩=some (.int .u64 (b.u:Int))∧w'.cell? ⟨g.gb,1,none⟩=some (.map (some g.mb))∧MapAt w' g.mb g.mm (Ag g.nodes))) (by kernel_rfl) ⟨i0,i1,i2,k0,k1,k2,c1,hmap⟩ (fun hHeld=> ?_)
   clear hHeld
   have hS2:(fun w'=>w'.cell? ⟨w.heap.size,0,none⟩=some (.int .i64 a.b)∧w'.cell? ⟨w.heap.size,1,none⟩=some (.int .i64 a.s)∧w'.cell? ⟨w.heap.size,2,none⟩=some (.int .u64 (a.u:Int))∧w'.cell? ⟨(w.heap.size+1),0,none⟩=some (.int .i64 b.b)∧w'.cell? ⟨(w.heap.size+1),1,none⟩=some (.int .i64 b.s)∧w'.cell? ⟨(w.heap.size+1),2,none⟩=some (.int .u64 (b.u:Int))∧w'.cell? ⟨g.gb,1,none⟩=some (.map (some g.mb))∧MapAt w' g.mb g.mm (Ag g.nodes)) w0.drew.drew:=⟨i0,i1,i2,k0,k1,k2,c1,hmap⟩
   replace f0:=f0.drew
   refine tkH 0 hS2 (h:=tkH 1 hS2 (h:=tkH 2 hS2 (h:=tkH 3 hS2 (h:=tkH 4 hS2 (h:=tkH 5 hS2 (h:=tkH 6 hS2 (h:=tkH 7 hS2 (h:=tkH 8 hS2 (h:=tkH 9 hS2 (h:=tkH 10 hS2 (h:=?_)))))))))))
   simp only [List.set]
   refine oD ?_
   go_simp
   go_wp2_with (fail)
   go_ret
   exact ⟨congrArg (fun z:Bool=>Ending.returned (.bool z)) hv.out,f0⟩
 ·
  cases hpb:Ag g.nodes b
  ·
   have hv:Hid (false=lv):=by show _=_;rw [hlv.out,hpa,hpb]
   rw [hpa] at hlooka
   rw [hpb] at hlookb
   clear hg hg1 hba hbb hlv hpa hpb
   go_enter Tryz.func29,Tryz.ntmps29
   go_wp2_with (fail)
   clear hw0
   refine wp_region_held_drew (S:=(fun w'=>w'.cell? ⟨w.heap.size,0,none⟩=some (.int .i64 a.b)∧w'.cell? ⟨w.heap.size,1,none⟩=some (.int .i64 a.s)∧w'.cell? ⟨w.heap.size,2,none⟩=some (.int .u64 (a.u:Int))∧w'.cell? ⟨(w.heap.size+1),0,none⟩=some (.int .i64 b.b)∧w'.cell? ⟨(w.heap.size+1),1,none⟩=some (.int .i64 b.s)∧w'.cell? ⟨(w.heap.size+1),2,none⟩=some (.int .u64 (b.u:Int))∧w'.cell? ⟨g.gb,1,none⟩=some (.map (some g.mb))∧MapAt w' g.mb g.mm (Ag g.nodes))) (by kernel_rfl) ⟨i0,i1,i2,k0,k1,k2,c1,hmap⟩ (fun hHeld=> ?_)
   clear hHeld
   have hS1:(fun w'=>w'.cell? ⟨w.heap.size,0,none⟩=some (.int .i64 a.b)∧w'.cell? ⟨w.heap.size,1,none⟩=some (.int .i64 a.s)∧w'.cell? ⟨w.heap.size,2,none⟩=some (.int .u64 (a.u:Int))∧w'.cell? ⟨(w.heap.size+1),0,none⟩=some (.int .i64 b.b)∧w'.cell? ⟨(w.heap.size+1),1,none⟩=some (.int .i64 b.s)∧w'.cell? ⟨(w.heap.size+1),2,none⟩=some (.int .u64 (b.u:Int))∧w'.cell? ⟨g.gb,1,none⟩=some (.map (some g.mb))∧MapAt w' g.mb g.mm (Ag g.nodes)) w0.drew:=⟨i0,i1,i2,k0,k1,k2,c1,hmap⟩
   replace f0:=f0.drew
   refine tkH 0 hS1 (h:=tkH 1 hS1 (h:=tkH 2 hS1 (h:=tkH 3 hS1 (h:=tkH 4 hS1 (h:=tkH 5 hS1 (h:=tkH 6 hS1 (h:=tkH 7 hS1 (h:=tkH 8 hS1 (h:=tkH 9 hS1 (h:=tkH 10 hS1 (h:=?_)))))))))))
   simp only [List.set]
   refine oD ?_
   go_simp
   go_wp2_with (fail)
   refine wp_region_held_drew (S:=(fun w'=>w'.cell? ⟨w.heap.size,0,none⟩=some (.int .i64 a.b)∧w'.cell? ⟨w.heap.size,1,none⟩=some (.int .i64 a.s)∧w'.cell? ⟨w.heap.size,2,none⟩=some (.int .u64 (a.u:Int))∧w'.cell? ⟨(w.heap.size+1),0,none⟩=some (.int .i64 b.b)∧w'.cell? ⟨(w.heap.size+1),1,none⟩=some (.int .i64 b.s)∧w'.cell? ⟨(w.heap.size+1),2,none⟩=some (.int .u64 (b.u:Int))∧w'.cell? ⟨g.gb,1,none⟩=some (.map (some g.mb))∧MapAt w' g.mb g.mm (Ag g.nodes))) (by kernel_rfl) ⟨i0,i1,i2,k0,k1,k2,c1,hmap⟩ (fun hHeld=> ?_)
   clear hHeld
   have hS2:(fun w'=>w'.cell? ⟨w.heap.size,0,none⟩=some (.int .i64 a.b)∧w'.cell? ⟨w.heap.size,1,none⟩=some (.int .i64 a.s)∧w'.cell? ⟨w.heap.size,2,none⟩=some (.int .u64 (a.u:Int))∧w'.cell? ⟨(w.heap.size+1),0,none⟩=some (.int .i64 b.b)∧w'.cell? ⟨(w.heap.size+1),1,none⟩=some (.int .i64 b.s)∧w'.cell? ⟨(w.heap.size+1),2,none⟩=some (.int .u64 (b.u:Int))∧w'.cell? ⟨g.gb,1,none⟩=some (.map (some g.mb))∧MapAt w' g.mb g.mm (Ag g.nodes)) w0.drew.drew:=⟨i0,i1,i2,k0,k1,k2,c1,hmap⟩
   replace f0:=f0.drew
   refine tkH 0 hS2 (h:=tkH 1 hS2 (h:=tkH 2 hS2 (h:=tkH 3 hS2 (h:=tkH 4 hS2 (h:=tkH 5 hS2 (h:=tkH 6 hS2 (h:=tkH 7 hS2 (h:=tkH 8 hS2 (h:=tkH 9 hS2 (h:=tkH 10 hS2 (h:=?_)))))))))))
   simp only [List.set]
   refine oD ?_
   go_simp
   go_wp2_with (fail)
   go_ret
   exact ⟨congrArg (fun z:Bool=>Ending.returned (.bool z)) hv.out,f0⟩
  ·
   rename_i i j
   obtain ⟨n,hn,_⟩:=Fq hpb
   obtain ⟨n',hn',_⟩:=Fq hpa
   have hv:Hid (n.past i=lv):=by show _=_;rw [hlv.out,hpa,hpb];simp [hn]
   have hlen:=hg.few
   have hin:j<g.nodes.length:=(List.getElem?_eq_some_iff.1 hn).1
   have hin':i<g.nodes.length:=(List.getElem?_eq_some_iff.1 hn').1
   obtain ⟨bb,off,hA,hat⟩:=hg1.setAt hn
   have hset:=(hg.node n (Al6 hn)).set
   rw [hA] at c2
   have j1:(0:Int)≤j:=by omega
   have j2:(j:Int)<g.nodes.length:=by omega
   have j3:(j:Int).toNat=j:=by omega
   have j4:IntKind.i64.wrap (j:Int)=j:=IntWalk.i64_in _ (by omega)
   have hi256:i<256:=by omega
   rw [hpa] at hlooka
   rw [hpb] at hlookb
   clear hg hg1 hba hbb hlv hpa hpb hn hn' hin hin' hA hlen
   generalize g.nodes.length=nn at*
   go_enter Tryz.func29,Tryz.ntmps29
   go_wp2_with (fail)
   clear hw0
   refine wp_region_held_drew (S:=(fun w'=>w'.cell? ⟨w.heap.size,0,none⟩=some (.int .i64 a.b)∧w'.cell? ⟨w.heap.size,1,none⟩=some (.int .i64 a.s)∧w'.cell? ⟨w.heap.size,2,none⟩=some (.int .u64 (a.u:Int))∧w'.cell? ⟨(w.heap.size+1),0,none⟩=some (.int .i64 b.b)∧w'.cell? ⟨(w.heap.size+1),1,none⟩=some (.int .i64 b.s)∧w'.cell? ⟨(w.heap.size+1),2,none⟩=some (.int .u64 (b.u:Int))∧w'.cell? ⟨g.gb,1,none⟩=some (.map (some g.mb))∧MapAt w' g.mb g.mm (Ag g.nodes))) (by kernel_rfl) ⟨i0,i1,i2,k0,k1,k2,c1,hmap⟩ (fun hHeld=> ?_)
   clear hHeld
   have hS1:(fun w'=>w'.cell? ⟨w.heap.size,0,none⟩=some (.int .i64 a.b)∧w'.cell? ⟨w.heap.size,1,none⟩=some (.int .i64 a.s)∧w'.cell? ⟨w.heap.size,2,none⟩=some (.int .u64 (a.u:Int))∧w'.cell? ⟨(w.heap.size+1),0,none⟩=some (.int .i64 b.b)∧w'.cell? ⟨(w.heap.size+1),1,none⟩=some (.int .i64 b.s)∧w'.cell? ⟨(w.heap.size+1),2,none⟩=some (.int .u64 (b.u:Int))∧w'.cell? ⟨g.gb,1,none⟩=some (.map (some g.mb))∧MapAt w' g.mb g.mm (Ag g.nodes)) w0.drew:=⟨i0,i1,i2,k0,k1,k2,c1,hmap⟩
   replace f0:=f0.drew
   refine tkH 0 hS1 (h:=tkH 1 hS1 (h:=tkH 2 hS1 (h:=tkH 3 hS1 (h:=tkH 4 hS1 (h:=tkH 5 hS1 (h:=tkH 6 hS1 (h:=tkH 7 hS1 (h:=tkH 8 hS1 (h:=tkH 9 hS1 (h:=tkH 10 hS1 (h:=?_)))))))))))
   simp only [List.set]
   refine oD ?_
   go_simp
   go_wp2_with (fail)
   refine wp_region_held_drew (S:=(fun w'=>w'.cell? ⟨w.heap.size,0,none⟩=some (.int .i64 a.b)∧w'.cell? ⟨w.heap.size,1,none⟩=some (.int .i64 a.s)∧w'.cell? ⟨w.heap.size,2,none⟩=some (.int .u64 (a.u:Int))∧w'.cell? ⟨(w.heap.size+1),0,none⟩=some (.int .i64 b.b)∧w'.cell? ⟨(w.heap.size+1),1,none⟩=some (.int .i64 b.s)∧w'.cell? ⟨(w.heap.size+1),2,none⟩=some (.int .u64 (b.u:Int))∧w'.cell? ⟨g.gb,1,none⟩=some (.map (some g.mb))∧MapAt w' g.mb g.mm (Ag g.nodes))) (by kernel_rfl) ⟨i0,i1,i2,k0,k1,k2,c1,hmap⟩ (fun hHeld=> ?_)
   clear hHeld
   have hS2:(fun w'=>w'.cell? ⟨w.heap.size,0,none⟩=some (.int .i64 a.b)∧w'.cell? ⟨w.heap.size,1,none⟩=some (.int .i64 a.s)∧w'.cell? ⟨w.heap.size,2,none⟩=some (.int .u64 (a.u:Int))∧w'.cell? ⟨(w.heap.size+1),0,none⟩=some (.int .i64 b.b)∧w'.cell? ⟨(w.heap.size+1),1,none⟩=some (.int .i64 b.s)∧w'.cell? ⟨(w.heap.size+1),2,none⟩=some (.int .u64 (b.u:Int))∧w'.cell? ⟨g.gb,1,none⟩=some (.map (some g.mb))∧MapAt w' g.mb g.mm (Ag g.nodes)) w0.drew.drew:=⟨i0,i1,i2,k0,k1,k2,c1,hmap⟩
   replace f0:=f0.drew
   refine tkH 0 hS2 (h:=tkH 1 hS2 (h:=tkH 2 hS2 (h:=tkH 3 hS2 (h:=tkH 4 hS2 (h:=tkH 5 hS2 (h:=tkH 6 hS2 (h:=tkH 7 hS2 (h:=tkH 8 hS2 (h:=tkH 9 hS2 (h:=tkH 10 hS2 (h:=?_)))))))))))
   simp only [List.set]
   refine oD ?_
   go_simp
   replace c2:w0.drew.drew.cell? ⟨g.gb,2,none⟩=some (.slice (some ⟨bb,off,none⟩) nn g.nC):=c2
   replace hat:Ej w0.drew.drew bb (off+j*35+30) n.ws:=hat
   go_wp2_with (go_at_call 73;(with_reducible refine (Jr _ _ _ _ i _ hset hat hi256).mono ?_);rintro _ _ ⟨rfl,rfl⟩)
   go_ret
   exact ⟨congrArg (fun z:Bool=>Ending.returned (.bool z)) hv.out,f0⟩
def Cd.zero:Cd:=⟨0,0,0,0,0⟩
def Ep (c:Cd) (b:Bool) (w:World) (e:Ending) (w':World):Prop:=e=.returned (.tuple #[.agg c.cells.toArray,.bool b])∧Fr Non w w'
def Gph.card (g:Gph) (d:Int):Option Cd:=g.cards.find? (fun c=>c.d==d)
theorem N3 (base:Nat) (g:Gph) (d:Int) (w:World) (hg:GAt w base g) (hn:g.cards.length≤1000000):Calls Tryz.prog 43 #[.pointer (some ⟨g.gb,0,none⟩),.int .i64 d] w (Ep ((g.card d).getD Cd.zero) (g.card d).isSome w):=by
 have hr:=hg.cards
 have c0:w.cell? ⟨g.gb,0,none⟩=some (.slice g.cA g.cards.length g.cC):=hg.blk.cell 0
 have hfin:Hid (g.card d=g.cards.find? (fun c=>c.d==d)):=rfl
 generalize g.card d=R at*
 clear hg
 generalize hl:g.cards=l at*
 clear hl
 obtain ⟨n,hnn⟩:=Aa l.length
 rw [hnn.out] at hr c0 hn
 have f0:Fr Non w (w.alloc (.cells zC 81)):=(Fr.refl Non w).alloc _
 have b0:=Blk.new w 81 zC
 replace hr:=hr.fr f0 zr
 replace c0:=f0.cell c0 zq
 go_enter Tryz.func43,Tryz.ntmps43
 go_upto_region 1 with (fail)
 generalize w.alloc (.cells zC 81)=w0 at*
 go_wp2_with (fail)
 go_loopw [5,13] (fun r v wr=>∃k:Nat,r=.bool false∧v=.int .i64 (k:Int)∧k≤n∧Hid ((l.take k).find? (fun c=>c.d==d)=none)∧Fr Non w0 wr) (fun _ v _=>n-(intOf v).toNat)
 case atStart=>exact ⟨0,rfl,rfl,by omega,rfl,Fr.refl _ _⟩
 case round=>
  obtain ⟨k,rfl,rfl,hk,hh,hf⟩:=hrel
  by_cases hlt:k<n
  ·
   have i1:(0:Int)≤k:=by omega
   have i2:(k:Int)<n:=by omega
   have i3:(k:Int).toNat=k:=by omega
   obtain ⟨c,hc⟩:∃c,l[k]? =some c:=⟨_,Al3 (by rw [hnn.out];exact hlt)⟩
   obtain ⟨b,off,hA,hbB,hcell⟩:=El (f:=Cd.cells) (fun _=>rfl) (by omega) (hr.fr hf zr) hc
   have d0:wr.cell? ⟨b,off+k*5,none⟩=some (.int .i64 c.d):=hcell 0 (by omega) _ rfl
   have d1:wr.cell? ⟨b,off+k*5+1,none⟩=some (.int .i64 c.m):=hcell 1 (by omega) _ rfl
   have d2:wr.cell? ⟨b,off+k*5+2,none⟩=some (.int .u64 (c.l:Int)):=hcell 2 (by omega) _ rfl
   have d3:wr.cell? ⟨b,off+k*5+3,none⟩=some (.int .u64 (c.k:Int)):=hcell 3 (by omega) _ rfl
   have d4:wr.cell? ⟨b,off+k*5+4,none⟩=some (.int .u64 (c.s:Int)):=hcell 4 (by omega) _ rfl
   clear hcell hbB
   rw [hA]
   have b1:=b0.fr hf zq
   rcases zb (c.d==d) with hcd|hcd
   ·
    have hR:Hid (R=some c):=by
     show _=_
     rw [hfin.out,← List.take_append_drop k l,Am1,hh.out,List.drop_eq_getElem_cons (by rw [hnn.out];exact hlt)]
     rw [Al3 (by rw [hnn.out];exact hlt)] at hc
     rw [Option.some.inj hc]
     simp [hcd]
    have hcd':c.d=d:=by simpa using hcd
    have f1:=f0.trans hf zr
    have fin:Hid (∀wz,Fr (One w.heap.size) wr wz→Ep (R.getD Cd.zero) R.isSome w (.returned (.tuple #[.agg #[.int .i64 c.d,.int .i64 c.m,.int .u64 (c.l:Int),.int .u64 (c.k:Int),.int .u64 (c.s:Int)],.bool true])) wz):=by
     intro wz hz
     refine ⟨?_,f1.trans hz (fun k hk e=>absurd hk (by have e':k=w.heap.size:=e;omega))⟩
     rw [hR.out]
     rfl
    clear hfin hc hh f1
    generalize R.getD Cd.zero=RC at*
    generalize R.isSome=RS at*
    have bz:=b1.alloc (.cells #[.int .i64 c.d,.int .i64 c.m,.int .u64 (c.l:Int),.int .u64 (c.k:Int),.int .u64 (c.s:Int)] 81)
    have e0:(wr.alloc (.cells #[.int .i64 c.d,.int .i64 c.m,.int .u64 (c.l:Int),.int .u64 (c.k:Int),.int .u64 (c.s:Int)] 81)).cell? ⟨w.heap.size,0,none⟩=some (.int .i64 0):=bz.cell 0
    have z0:(wr.alloc (.cells #[.int .i64 c.d,.int .i64 c.m,.int .u64 (c.l:Int),.int .u64 (c.k:Int),.int .u64 (c.s:Int)] 81)).frozen? ⟨w.heap.size,0,none⟩=false:=bz.frozen 0
    have e1:(wr.alloc (.cells #[.int .i64 c.d,.int .i64 c.m,.int .u64 (c.l:Int),.int .u64 (c.k:Int),.int .u64 (c.s:Int)] 81)).cell? ⟨w.heap.size,1,none⟩=some (.int .i64 0):=bz.cell 1
    have z1:(wr.alloc (.cells #[.int .i64 c.d,.int .i64 c.m,.int .u64 (c.l:Int),.int .u64 (c.k:Int),.int .u64 (c.s:Int)] 81)).frozen? ⟨w.heap.size,1,none⟩=false:=bz.frozen 1
    have e2:(wr.alloc (.cells #[.int .i64 c.d,.int .i64 c.m,.int .u64 (c.l:Int),.int .u64 (c.k:Int),.int .u64 (c.s:Int)] 81)).cell? ⟨w.heap.size,2,none⟩=some (.int .u64 0):=bz.cell 2
    have z2:(wr.alloc (.cells #[.int .i64 c.d,.int .i64 c.m,.int .u64 (c.l:Int),.int .u64 (c.k:Int),.int .u64 (c.s:Int)] 81)).frozen? ⟨w.heap.size,2,none⟩=false:=bz.frozen 2
    have e3:(wr.alloc (.cells #[.int .i64 c.d,.int .i64 c.m,.int .u64 (c.l:Int),.int .u64 (c.k:Int),.int .u64 (c.s:Int)] 81)).cell? ⟨w.heap.size,3,none⟩=some (.int .u64 0):=bz.cell 3
    have z3:(wr.alloc (.cells #[.int .i64 c.d,.int .i64 c.m,.int .u64 (c.l:Int),.int .u64 (c.k:Int),.int .u64 (c.s:Int)] 81)).frozen? ⟨w.heap.size,3,none⟩=false:=bz.frozen 3
    have e4:(wr.alloc (.cells #[.int .i64 c.d,.int .i64 c.m,.int .u64 (c.l:Int),.int .u64 (c.k:Int),.int .u64 (c.s:Int)] 81)).cell? ⟨w.heap.size,4,none⟩=some (.int .u64 0):=bz.cell 4
    have z4:(wr.alloc (.cells #[.int .i64 c.d,.int .i64 c.m,.int .u64 (c.l:Int),.int .u64 (c.k:Int),.int .u64 (c.s:Int)] 81)).frozen? ⟨w.heap.size,4,none⟩=false:=bz.frozen 4
    have hz2:=(((((bz.set 0 (.int .i64 c.d)).set 1 (.int .i64 c.m)).set 2 (.int .u64 (c.l:Int))).set 3 (.int .u64 (c.k:Int))).set 4 (.int .u64 (c.s:Int)))
    have fz:=(((((((Fr.refl (One w.heap.size) wr).alloc (.cells #[.int .i64 c.d,.int .i64 c.m,.int .u64 (c.l:Int),.int .u64 (c.k:Int),.int .u64 (c.s:Int)] 81)).setCell (p:=⟨w.heap.size,0,none⟩) (fun _=>rfl) (.int .i64 c.d)).setCell (p:=⟨w.heap.size,1,none⟩) (fun _=>rfl) (.int .i64 c.m)).setCell (p:=⟨w.heap.size,2,none⟩) (fun _=>rfl) (.int .u64 (c.l:Int))).setCell (p:=⟨w.heap.size,3,none⟩) (fun _=>rfl) (.int .u64 (c.k:Int))).setCell (p:=⟨w.heap.size,4,none⟩) (fun _=>rfl) (.int .u64 (c.s:Int)))
    rw [hcd'] at fin bz fz hz2 e0 e1 e2 e3 e4 z0 z1 z2 z3 z4
    clear b1 bz
    go_wp2_with (fail)
    (try simp only [Exit.inBlock,Exit.then])
    refine Fp (t:=81) rfl rfl hz2 rfl Tryz.underlying81 (by kernel_rfl) rfl ?_
    exact fin.out _ fz
   ·
    have hsn:Hid ((l.take (k+1)).find? (fun c=>c.d==d)=none):=by
     show _=_
     rw [List.take_add_one,Am1,hh.out,hc]
     simp [hcd]
    have hcd':¬c.d=d:=by simpa using hcd
    clear hfin hc hh b1
    go_wp2_with (fail)
    go_roundw
    case rel=>exact ⟨k+1,rfl,by go_num,by omega,hsn,hf.alloc _⟩
    case measure=>simp [intOf];omega
  ·
   obtain rfl:n=k:=by omega
   have hR:Hid (R=none):=by
    show _=_
    rw [hfin.out]
    have h:=hh.out
    rwa [Al7 (by rw [hnn.out];omega)] at h
   have b1:=b0.fr hf zq
   have f1:=f0.trans hf zr
   have fin:Hid (∀wz,Fr (One w.heap.size) wr wz→Ep (R.getD Cd.zero) R.isSome w (.returned (.tuple #[.agg zC,.bool false])) wz):=by
    intro wz hz
    refine ⟨?_,f1.trans hz (fun k hk e=>absurd hk (by have e':k=w.heap.size:=e;omega))⟩
    rw [hR.out]
    rfl
   clear hfin hh
   generalize R.getD Cd.zero=RC at*
   generalize R.isSome=RS at*
   have e0:wr.cell? ⟨w.heap.size,0,none⟩=some (.int .i64 0):=b1.cell 0
   have z0:wr.frozen? ⟨w.heap.size,0,none⟩=false:=b1.frozen 0
   have e1:wr.cell? ⟨w.heap.size,1,none⟩=some (.int .i64 0):=b1.cell 1
   have z1:wr.frozen? ⟨w.heap.size,1,none⟩=false:=b1.frozen 1
   have e2:wr.cell? ⟨w.heap.size,2,none⟩=some (.int .u64 0):=b1.cell 2
   have z2:wr.frozen? ⟨w.heap.size,2,none⟩=false:=b1.frozen 2
   have e3:wr.cell? ⟨w.heap.size,3,none⟩=some (.int .u64 0):=b1.cell 3
   have z3:wr.frozen? ⟨w.heap.size,3,none⟩=false:=b1.frozen 3
   have e4:wr.cell? ⟨w.heap.size,4,none⟩=some (.int .u64 0):=b1.cell 4
   have z4:wr.frozen? ⟨w.heap.size,4,none⟩=false:=b1.frozen 4
   have hz2:=(((((b1.set 0 (.int .i64 0)).set 1 (.int .i64 0)).set 2 (.int .u64 0)).set 3 (.int .u64 0)).set 4 (.int .u64 0))
   have fz:=((((((Fr.refl (One w.heap.size) wr).setCell (p:=⟨w.heap.size,0,none⟩) (fun _=>rfl) (.int .i64 0)).setCell (p:=⟨w.heap.size,1,none⟩) (fun _=>rfl) (.int .i64 0)).setCell (p:=⟨w.heap.size,2,none⟩) (fun _=>rfl) (.int .u64 0)).setCell (p:=⟨w.heap.size,3,none⟩) (fun _=>rfl) (.int .u64 0)).setCell (p:=⟨w.heap.size,4,none⟩) (fun _=>rfl) (.int .u64 0))
   go_wp2_with (fail)
   (try simp only [Exit.inBlock,Exit.then])
   refine Fp (t:=81) rfl rfl hz2 rfl Tryz.underlying81 (by kernel_rfl) rfl ?_
   exact fin.out _ fz
def Gph.up (g:Gph) (id:Id) (q:Nat):Bool:=match Ag g.nodes id with|some i=>(g.nodes[i]?.map (fun n=>n.past q)).getD false|none=>false
def Gph.ups (g:Gph) (ids:List Id) (q:Nat):Bool:=ids.any (fun id=>g.up id q)
theorem Up (g:Gph) (ids:List Id) (k:Nat) {id:Id} (h:ids[k]? =some id):g.ups (ids.take (k+1))=fun q=>g.ups (ids.take k) q||g.up id q:=by
 funext q
 unfold Gph.ups
 obtain ⟨hk,rfl⟩:=List.getElem?_eq_some_iff.1 h
 rw [List.take_succ_eq_append_getElem hk,List.any_append]
 simp
def J3 (m:Nat→Bool) (w:World) (e:Ending) (w':World):Prop:=∃a0 a1 a2 a3:Nat,e=.returned (.agg #[.int .u64 (a0:Int),.int .u64 (a1:Int),.int .u64 (a2:Int),.int .u64 (a3:Int)])∧Au [a0,a1,a2,a3] m∧Fr Non w w'
theorem Uq (base:Nat) (g:Gph) (B n c:Nat) (A:Option Addr) (ids:List Id) (w:World) (hg:GAt w base g) (hn:Hid (ids.length=n)) (hr:Rd w B 3 A n (ids.flatMap Id.cells)) (hnm:n≤1000000) (hok:∀id∈ids,id.ok):
  Calls Tryz.prog 82 #[.pointer (some ⟨g.gb,0,none⟩),.slice A n c] w (J3 (g.ups ids) w):=by
 have f0:Fr Non w ((w.alloc (.cells #[.int .u64 0,.int .u64 0,.int .u64 0,.int .u64 0] 116)).alloc (.cells #[.int .u64 0,.int .u64 0,.int .u64 0,.int .u64 0] 116)):=((Fr.refl Non w).alloc _).alloc _
 have br:=(Blk.new w 116 #[.int .u64 0,.int .u64 0,.int .u64 0,.int .u64 0]).alloc (.cells #[.int .u64 0,.int .u64 0,.int .u64 0,.int .u64 0] 116)
 have bs:=Blk.new (w.alloc (.cells #[.int .u64 0,.int .u64 0,.int .u64 0,.int .u64 0] 116)) 116 #[.int .u64 0,.int .u64 0,.int .u64 0,.int .u64 0]
 rw [Al4] at bs
 have hfin:∀(a0 a1 a2 a3:Nat) (wz:World),Au [a0,a1,a2,a3] (g.ups ids)→Fr Non w wz→J3 (g.ups ids) w (.returned (.agg #[.int .u64 (a0:Int),.int .u64 (a1:Int),.int .u64 (a2:Int),.int .u64 (a3:Int)])) wz:=fun a0 a1 a2 a3 wz h1 h2=>⟨a0,a1,a2,a3,rfl,h1,h2⟩
 replace hfin:=Lib.hid hfin
 generalize J3 (g.ups ids) w=POST at*
 go_enter Tryz.func82,Tryz.ntmps82
 go_upto_region 2 with (fail)
 generalize ((w.alloc (.cells #[.int .u64 0,.int .u64 0,.int .u64 0,.int .u64 0] 116)).alloc (.cells #[.int .u64 0,.int .u64 0,.int .u64 0,.int .u64 0] 116))=w0 at*
 go_wp2_with (fail)
 go_loopw [12] (fun v wr=>∃(k:Nat) (a0 a1 a2 a3:Nat),v=.int .i64 (k:Int)∧k≤n∧Hid (Au [a0,a1,a2,a3] (g.ups (ids.take k)))∧Blk wr (w.heap.size+1) 116 #[.int .u64 (a0:Int),.int .u64 (a1:Int),.int .u64 (a2:Int),.int .u64 (a3:Int)]∧Fr (One (w.heap.size+1)) w0 wr) (fun v _=>n-(intOf v).toNat)
 case atStart=>exact ⟨0,0,0,0,0,rfl,by omega,Au.empty,bs,Fr.refl _ _⟩
 case round=>
  obtain ⟨k,a0,a1,a2,a3,rfl,hk,hset,hbs,hf⟩:=hrel
  have fw:Fr Non w wr:=f0.trans hf (fun j hj e=>by have e':j=w.heap.size+1:=e;omega)
  by_cases hlt:k<n
  ·
   have i1:(0:Int)≤k:=by omega
   have i2:(k:Int)<n:=by omega
   have i3:(k:Int).toNat=k:=by omega
   obtain ⟨id,hid⟩:∃x,ids[k]? =some x:=⟨_,Al3 (by rw [hn.out];exact hlt)⟩
   obtain ⟨b,off,hA,hbB,d0,d1,d2⟩:=Id.at (hr.fr fw zr) hid
   have hidok:=hok id (Al6 hid)
   have hsn:=Lib.hid (Up g ids k hid)
   have fa:Fr Non w (wr.alloc (.cells id.V 38)):=fw.alloc _
   have hg1:=hg.fr fa
   have hbi:=Blk.new wr 38 id.V
   have hbs1:=hbs.alloc (.cells id.V 38)
   have hf1:=hf.alloc (.cells id.V 38)
   have c2:=hg1.blk.cell 2
   have c1:=hg1.blk.cell 1
   have hmap:=hg1.map
   have hlook:=fun (w':World) (h:MapAt w' g.mb g.mm (Ag g.nodes))=>MapAt.look h id hidok
   have hup:Hid (g.up id=fun q=>match Ag g.nodes id with|some i=>(g.nodes[i]?.map (fun n=>n.past q)).getD false|none=>false):=rfl
   have i4:=hbi.cell 0
   have i5:=hbi.cell 1
   have i6:=hbi.cell 2
   rw [hA]
   replace hA:=Lib.hid hA
   generalize hw1:wr.alloc (.cells id.V 38)=w1 at*
   replace c1:w1.cell? ⟨g.gb,1,none⟩=some (.map (some g.mb)):=c1
   replace c2:w1.cell? ⟨g.gb,2,none⟩=some (.slice g.nA g.nodes.length g.nC):=c2
   replace i4:w1.cell? ⟨wr.heap.size,0,none⟩=some (.int .i64 id.b):=i4
   replace i5:w1.cell? ⟨wr.heap.size,1,none⟩=some (.int .i64 id.s):=i5
   replace i6:w1.cell? ⟨wr.heap.size,2,none⟩=some (.int .u64 (id.u:Int)):=i6
   cases hp:Ag g.nodes id
   ·
    have hm:Hid (g.ups (ids.take (k+1))=g.ups (ids.take k)):=by
     show _=_
     rw [hsn.out,hup.out,hp]
     simp
    rw [hp] at hlook
    clear hg1 hbi hp hup hsn
    go_upto_region 5 with (fail)
    try rw [hw1]
    clear hw1
    refine wp_region_held_drew (S:=(fun w'=>w'.cell? ⟨wr.heap.size,0,none⟩=some (.int .i64 id.b)∧w'.cell? ⟨wr.heap.size,1,none⟩=some (.int .i64 id.s)∧w'.cell? ⟨wr.heap.size,2,none⟩=some (.int .u64 (id.u:Int))∧w'.cell? ⟨g.gb,1,none⟩=some (.map (some g.mb))∧MapAt w' g.mb g.mm (Ag g.nodes))) (by kernel_rfl) ⟨i4,i5,i6,c1,hmap⟩ (fun hHeld=> ?_)
    clear hHeld
    have hS:(fun w'=>w'.cell? ⟨wr.heap.size,0,none⟩=some (.int .i64 id.b)∧w'.cell? ⟨wr.heap.size,1,none⟩=some (.int .i64 id.s)∧w'.cell? ⟨wr.heap.size,2,none⟩=some (.int .u64 (id.u:Int))∧w'.cell? ⟨g.gb,1,none⟩=some (.map (some g.mb))∧MapAt w' g.mb g.mm (Ag g.nodes)) w1.drew:=⟨i4,i5,i6,c1,hmap⟩
    replace hf1:=hf1.drew
    replace hbs1:=hbs1.drew
    refine tkH 0 hS (h:=tkH 1 hS (h:=tkH 2 hS (h:=tkH 3 hS (h:=tkH 4 hS (h:=tkH 5 hS (h:=tkH 6 hS (h:=tkH 7 hS (h:=tkH 8 hS (h:=tkH 9 hS (h:=tkH 10 hS (h:=?_)))))))))))
    simp only [List.set]
    refine oD ?_
    go_simp
    go_wp2_with (fail)
    go_roundw
    case rel=>exact ⟨k+1,a0,a1,a2,a3,by go_num,by omega,by show Au _ _;rw [hm.out];exact hset.out,hbs1,hf1⟩
    case measure=>simp [intOf];omega
   ·
    rename_i i
    obtain ⟨nd,hnd,_⟩:=Fq hp
    have hlen:=hg.few
    have hin:i<g.nodes.length:=(List.getElem?_eq_some_iff.1 hnd).1
    have hm:Hid (g.ups (ids.take (k+1))=fun q=>g.ups (ids.take k) q||nd.past q):=by
     show _=_
     rw [hsn.out,hup.out,hp]
     simp [hnd]
    have hnset:Hid (Au [nd.a0,nd.a1,nd.a2,nd.a3] nd.past):=(hg1.node nd (Al6 hnd)).set
    obtain ⟨bn,offn,hAn,hat⟩:=hg1.setAt hnd
    have m0:w1.cell? ⟨bn,offn+i*35+30,none⟩=some (.int .u64 (nd.a0:Int)):=hat 0 (by omega)
    have m1:w1.cell? ⟨bn,offn+i*35+30+1,none⟩=some (.int .u64 (nd.a1:Int)):=hat 1 (by omega)
    have m2:w1.cell? ⟨bn,offn+i*35+30+2,none⟩=some (.int .u64 (nd.a2:Int)):=hat 2 (by omega)
    have m3:w1.cell? ⟨bn,offn+i*35+30+3,none⟩=some (.int .u64 (nd.a3:Int)):=hat 3 (by omega)
    rw [hAn] at c2
    have j1:(0:Int)≤i:=by omega
    have j2:(i:Int)<g.nodes.length:=by omega
    have j3:(i:Int).toNat=i:=by omega
    have j4:IntKind.i64.wrap (i:Int)=i:=IntWalk.i64_in _ (by omega)
    rw [hp] at hlook
    clear hg1 hbi hp hup hsn hnd hin hAn hat
    generalize g.nodes.length=nn at*
    go_upto_region 5 with (fail)
    try rw [hw1]
    clear hw1
    refine wp_region_held_drew (S:=(fun w'=>w'.cell? ⟨wr.heap.size,0,none⟩=some (.int .i64 id.b)∧w'.cell? ⟨wr.heap.size,1,none⟩=some (.int .i64 id.s)∧w'.cell? ⟨wr.heap.size,2,none⟩=some (.int .u64 (id.u:Int))∧w'.cell? ⟨g.gb,1,none⟩=some (.map (some g.mb))∧MapAt w' g.mb g.mm (Ag g.nodes))) (by kernel_rfl) ⟨i4,i5,i6,c1,hmap⟩ (fun hHeld=> ?_)
    clear hHeld
    have hS:(fun w'=>w'.cell? ⟨wr.heap.size,0,none⟩=some (.int .i64 id.b)∧w'.cell? ⟨wr.heap.size,1,none⟩=some (.int .i64 id.s)∧w'.cell? ⟨wr.heap.size,2,none⟩=some (.int .u64 (id.u:Int))∧w'.cell? ⟨g.gb,1,none⟩=some (.map (some g.mb))∧MapAt w' g.mb g.mm (Ag g.nodes)) w1.drew:=⟨i4,i5,i6,c1,hmap⟩
    replace hf1:=hf1.drew
    replace hbs1:=hbs1.drew
    refine tkH 0 hS (h:=tkH 1 hS (h:=tkH 2 hS (h:=tkH 3 hS (h:=tkH 4 hS (h:=tkH 5 hS (h:=tkH 6 hS (h:=tkH 7 hS (h:=tkH 8 hS (h:=tkH 9 hS (h:=tkH 10 hS (h:=?_)))))))))))
    simp only [List.set]
    refine oD ?_
    go_simp
    replace c2:w1.drew.cell? ⟨g.gb,2,none⟩=some (.slice (some ⟨bn,offn,none⟩) nn g.nC):=c2
    replace m0:w1.drew.cell? ⟨bn,offn+i*35+30,none⟩=some (.int .u64 (nd.a0:Int)):=m0
    replace m1:w1.drew.cell? ⟨bn,offn+i*35+30+1,none⟩=some (.int .u64 (nd.a1:Int)):=m1
    replace m2:w1.drew.cell? ⟨bn,offn+i*35+30+2,none⟩=some (.int .u64 (nd.a2:Int)):=m2
    replace m3:w1.drew.cell? ⟨bn,offn+i*35+30+3,none⟩=some (.int .u64 (nd.a3:Int)):=m3
    have hsat:Ej w1.drew (w.heap.size+1) 0 [a0,a1,a2,a3]:=fun j hj=>by
     rw [hbs1.cell]
     match j,hj with
     |0,_=>rfl
     |1,_=>rfl
     |2,_=>rfl
     |3,_=>rfl
    go_wp2_with (go_at_call 72;go_loud (with_reducible refine (Js _ _ _ _ [a0,a1,a2,a3] _ _ _ _ (g.ups (ids.take k)) nd.past _ hset.out hnset.out hbs1 hsat).mono ?_);rintro _ w2 ⟨rfl,hb2,hf2⟩)
    have hset2:Hid (Au (orW [a0,a1,a2,a3] [nd.a0,nd.a1,nd.a2,nd.a3]) (g.ups (ids.take (k+1)))):=by
     show Au _ _
     rw [hm.out]
     exact Au.or hset.out hnset.out
    go_roundw
    case rel=>exact ⟨k+1,a0|||nd.a0,a1|||nd.a1,a2|||nd.a2,a3|||nd.a3,by go_num,by omega,hset2,hb2,hf1.transOne hf2⟩
    case measure=>simp [intOf];omega
  ·
   obtain rfl:n=k:=by omega
   have hset':Au [a0,a1,a2,a3] (g.ups ids):=by have h1:=hset.out;rwa [Al7 (by rw [hn.out];exact Al2 _)] at h1
   have br1:Blk wr w.heap.size 116 #[.int .u64 0,.int .u64 0,.int .u64 0,.int .u64 0]:=br.fr hf (fun e=>by have e':w.heap.size=w.heap.size+1:=e;omega)
   have s0:wr.cell? ⟨w.heap.size+1,0,none⟩=some (.int .u64 (a0:Int)):=hbs.cell 0
   have s1:wr.cell? ⟨w.heap.size+1,1,none⟩=some (.int .u64 (a1:Int)):=hbs.cell 1
   have s2:wr.cell? ⟨w.heap.size+1,2,none⟩=some (.int .u64 (a2:Int)):=hbs.cell 2
   have s3:wr.cell? ⟨w.heap.size+1,3,none⟩=some (.int .u64 (a3:Int)):=hbs.cell 3
   have e0:wr.cell? ⟨w.heap.size,0,none⟩=some (.int .u64 0):=br1.cell 0
   have e1:wr.cell? ⟨w.heap.size,1,none⟩=some (.int .u64 0):=br1.cell 1
   have e2:wr.cell? ⟨w.heap.size,2,none⟩=some (.int .u64 0):=br1.cell 2
   have e3:wr.cell? ⟨w.heap.size,3,none⟩=some (.int .u64 0):=br1.cell 3
   have z0:wr.frozen? ⟨w.heap.size,0,none⟩=false:=br1.frozen 0
   have z1:wr.frozen? ⟨w.heap.size,1,none⟩=false:=br1.frozen 1
   have z2:wr.frozen? ⟨w.heap.size,2,none⟩=false:=br1.frozen 2
   have z3:wr.frozen? ⟨w.heap.size,3,none⟩=false:=br1.frozen 3
   have hz2:=(((br1.set 0 (.int .u64 (a0:Int))).set 1 (.int .u64 (a1:Int))).set 2 (.int .u64 (a2:Int))).set 3 (.int .u64 (a3:Int))
   have fz:=(((fw.setNew (g:=w.heap.size) (Al2 _) 0 (.int .u64 (a0:Int))).setNew (g:=w.heap.size) (Al2 _) 1 (.int .u64 (a1:Int))).setNew (g:=w.heap.size) (Al2 _) 2 (.int .u64 (a2:Int))).setNew (g:=w.heap.size) (Al2 _) 3 (.int .u64 (a3:Int))
   have fin:=Lib.hid (hfin.out a0 a1 a2 a3 _ hset' fz)
   clear hset' fz br1 hbs hset hf
   go_wp2_with (fail)
   (try simp only [Exit.inBlock,Exit.then])
   refine Dq (t:=116) rfl rfl hz2 rfl Tryz.underlying116 (by kernel_rfl) rfl ?_
   exact fin.out
end Oq
namespace Oq
attribute [local go_sem] Ju
theorem Blk.el {w:World} {k:Nat} {t:TypeId} {l:List Int} (h:Blk w k t (l.map Iv).toArray) {i:Nat} {x:Int} (hx:l[i]? =some x):w.cell? ⟨k,i,none⟩=some (.int .i64 x):=by
 rw [h.cell i]
 simp [hx,Iv]
theorem J4 (B g gp k:Nat) (A0:Option Addr) (c0:Nat) (bs:List UInt8) (l:List Int) (n:Nat) (w:World) (ho:OutAt w B g A0 c0 bs) (hp:Blk w gp 140 #[.pointer (some ⟨g,0,none⟩)]) (hk:Blk w k 3 (l.map Iv).toArray) (hn:Hid (l.length=n)) (hn0:0<n) (hok:∀x∈l,I64 x)
  (hl:bs.length+10*n≤1099511627700) (hn1:n≤1000):
  Calls Tryz.prog 137 #[.slice (some ⟨k,0,none⟩) n n,.pointer (some ⟨gp,0,none⟩)] w (C8 B g A0 (bs++l.flatMap Pk.int) w):=by
 go_enter Tryz.func137,Tryz.ntmps137
 go_wp2
 go_loopw [7] (fun v wr=>∃(i:Nat) (A:Option Addr) (c:Nat) (D:List UInt8),v=.int .i64 (i:Int)∧i≤n∧Hid (D=bs++(l.take i).flatMap Pk.int)∧D.length≤bs.length+10*i∧OutAt wr B g A c D∧Bf g w A0 wr A∧Blk wr gp 140 #[.pointer (some ⟨g,0,none⟩)]∧Blk wr k 3 (l.map Iv).toArray) (fun v _=>n-(intOf v).toNat)
 case atStart=>exact ⟨0,A0,c0,bs,rfl,by omega,by show _=_;simp,by simp,ho,Bf.refl _ _ _,hp,hk⟩
 case round=>
  obtain ⟨i,A,c,D,rfl,hin,hD,hDl,hoi,hst,hpi,hki⟩:=hrel
  by_cases hlt:i<n
  ·
   obtain ⟨x,hx⟩:∃x,l[i]? =some x:=⟨_,Al3 (by rw [hn.out];exact hlt)⟩
   have hxo:=hok x (Al6 hx)
   have k0:=Blk.el hki hx
   have p0:=hpi.cell 0
   have hx':=Lib.hid hx
   clear hx
   have hxl:=Pk.int_len x
   go_wp2_with (fail)
   refine (Dr B g A c D x _ hoi hxo.1 hxo.2 (by omega)).mono ?_
   rintro _ w2 ⟨rfl,A2,c2,ho2,hs2⟩
   have hpi2:=hpi.fr hs2.fr (hoi.far hpi (by decide) (by decide))
   have hki2:=hki.fr hs2.fr (hoi.far hki (by decide) (by decide))
   clear k0 p0
   go_wp2
   go_roundw
   case rel=>
    refine ⟨i+1,A2,c2,_,by go_num,by omega,?_,by rw [Al1,Al8];omega,ho2,hst.trans hs2,hpi2,hki2⟩
    show _=_
    rw [hD.out,Dk _ l hx'.out,← Am2]
   case measure=>simp [intOf];omega
  ·
   have hi:i=n:=by omega
   subst hi
   go_wp2
   go_end0
   refine ⟨rfl,A,c,?_,hst⟩
   have e:bs++l.flatMap Pk.int=D:=by rw [hD.out,Al7 (by rw [hn.out];omega)]
   rw [e]
   exact hoi
theorem Ur {α β:Type} (enc:β→List UInt8) (f:α→β) (l:List α):lst enc (l.map f)=lst (fun x=>enc (f x)) l:=by
 unfold lst
 rw [Am0,List.flatMap_map]
theorem J5 {α:Type} {P:α→Prop} {a b:α} (h1:P a) (h2:P b):∀x∈[a,b],P x:=by
 intro x hx
 rcases List.mem_cons.1 hx with rfl|hx
 · exact h1
 · rw [List.mem_singleton.1 hx];exact h2
theorem Hn {α:Type} {P:α→Prop} {a b c d:α} (h1:P a) (h2:P b) (h3:P c) (h4:P d):∀x∈[a,b,c,d],P x:=by
 intro x hx
 rcases List.mem_cons.1 hx with rfl|hx
 · exact h1
 ·
  rcases List.mem_cons.1 hx with rfl|hx
  · exact h2
  · exact J5 h3 h4 x hx
theorem N4 (a b:Int):([a,b].flatMap Pk.int).length≤20:=by
 have h:=Fo (enc:=Pk.int) [a,b] (fun y _=>Pk.int_len y)
 exact h
theorem N5 (a b c d:Int):([a,b,c,d].flatMap Pk.int).length≤40:=by
 have h:=Fo (enc:=Pk.int) [a,b,c,d] (fun y _=>Pk.int_len y)
 exact h
def Us (bs:List UInt8) (w:World) (r:Ending) (w':World):Prop:=
 ∃A c,r=.returned (.pointer (some ⟨w.heap.size+1,0,none⟩))∧OutAt w' w.heap.size (w.heap.size+1) A c bs∧Fr Non w w'
theorem OpL.lens {x:OpL} (hok:x.op.ok):x.past.length≤1000∧x.path.length≤1000∧x.body.length≤1000000∧x.refs.length≤1000∧x.guards.length≤1000∧x.boxes.length≤1000∧x.hist.length≤1000∧(∀y∈x.path,y.nd.ok)∧(∀y∈x.hist,y.f.ok∧y.y.length≤1000000):=by
 refine ⟨hok.past.1,?_,hok.body,hok.refs.1,hok.guards.1,hok.boxes.1,?_,fun y hy=>hok.path.2 _ (Am3 hy),fun y hy=>hok.hist.2 _ (Am3 hy)⟩
 ·
  have:=hok.path.1
  rwa [show x.op.path=x.path.map NdL.nd from rfl,Am0] at this
 ·
  have:=hok.hist.1
  rwa [show x.op.hist=x.hist.map SlL.sl from rfl,Am0] at this
theorem N7 (x:OpL) (w:World) (hat:x.at w w.heap.size) (hok:x.op.ok):Calls Tryz.prog 94 #[.agg x.cells] w (Us x.op.bare w):=by
 obtain ⟨l_past,l_path,l_body,l_refs,l_guards,l_boxes,l_hist,o_path,o_hist⟩:=OpL.lens hok
 have hsz:x.cells.size=27:=rfl
 obtain ⟨CS,hCS⟩:=Aa x.cells
 have e0:Hid (CS[0]? =some (.int .i64 x.by_)):=by show _=_;rw [← hCS.out];rfl
 have e1:Hid (CS[1]? =some (.int .i64 x.sq)):=by show _=_;rw [← hCS.out];rfl
 have e2:Hid (CS[2]? =some (.int .i64 x.kind)):=by show _=_;rw [← hCS.out];rfl
 have e3:Hid (CS[3]? =some (.int .i64 x.at_)):=by show _=_;rw [← hCS.out];rfl
 have e4:Hid (CS[4]? =some (.slice x.pastA x.past.length x.pastC)):=by show _=_;rw [← hCS.out];rfl
 have e5:Hid (CS[5]? =some (.int .i64 x.dev)):=by show _=_;rw [← hCS.out];rfl
 have e6:Hid (CS[6]? =some (.int .i64 x.old)):=by show _=_;rw [← hCS.out];rfl
 have e7:Hid (CS[7]? =some (.int .i64 x.mem)):=by show _=_;rw [← hCS.out];rfl
 have e8:Hid (CS[8]? =some (.int .i64 x.role)):=by show _=_;rw [← hCS.out];rfl
 have e9:Hid (CS[9]? =some (.slice x.pathA x.path.length x.pathC)):=by show _=_;rw [← hCS.out];rfl
 have e10:Hid (CS[10]? =some (.int .i64 x.epoch.b)):=by show _=_;rw [← hCS.out];rfl
 have e11:Hid (CS[11]? =some (.int .i64 x.epoch.s)):=by show _=_;rw [← hCS.out];rfl
 have e12:Hid (CS[12]? =some (.int .u64 (x.epoch.u:Int))):=by show _=_;rw [← hCS.out];rfl
 have e13:Hid (CS[13]? =some (.int .i64 x.n)):=by show _=_;rw [← hCS.out];rfl
 have e14:Hid (CS[14]? =some (.slice x.bodyA x.body.length x.bodyC)):=by show _=_;rw [← hCS.out];rfl
 have e15:Hid (CS[15]? =some (.slice x.refsA x.refs.length x.refsC)):=by show _=_;rw [← hCS.out];rfl
 have e16:Hid (CS[16]? =some (.int .i64 x.of.b)):=by show _=_;rw [← hCS.out];rfl
 have e17:Hid (CS[17]? =some (.int .i64 x.of.s)):=by show _=_;rw [← hCS.out];rfl
 have e18:Hid (CS[18]? =some (.int .u64 (x.of.u:Int))):=by show _=_;rw [← hCS.out];rfl
 have e19:Hid (CS[19]? =some (.slice x.guardsA x.guards.length x.guardsC)):=by show _=_;rw [← hCS.out];rfl
 have e20:Hid (CS[20]? =some (.int .i64 x.need)):=by show _=_;rw [← hCS.out];rfl
 have e21:Hid (CS[21]? =some (.int .i64 x.wait)):=by show _=_;rw [← hCS.out];rfl
 have e22:Hid (CS[22]? =some (.slice x.boxesA x.boxes.length x.boxesC)):=by show _=_;rw [← hCS.out];rfl
 have e23:Hid (CS[23]? =some (.int .u64 (x.pub:Int))):=by show _=_;rw [← hCS.out];rfl
 have e24:Hid (CS[24]? =some (.slice x.histA x.hist.length x.histC)):=by show _=_;rw [← hCS.out];rfl
 rw [hCS.out] at hsz
 rw [hCS.out]
 have hb0:Blk ((((w.alloc (.cells CS 44)).alloc (.cells #[.slice none 0 0] 182)).alloc (.cells #[.pointer (some ⟨w.heap.size+1,0,none⟩)] 140)).alloc (.cells #[.func (.func 139) #[] #[.pointer (some ⟨w.heap.size+1+1,0,none⟩)]] 185)) w.heap.size 44 CS:=(((Blk.new w 44 CS).alloc _).alloc _).alloc _
 have ho0:OutAt ((((w.alloc (.cells CS 44)).alloc (.cells #[.slice none 0 0] 182)).alloc (.cells #[.pointer (some ⟨w.heap.size+1,0,none⟩)] 140)).alloc (.cells #[.func (.func 139) #[] #[.pointer (some ⟨w.heap.size+1+1,0,none⟩)]] 185)) w.heap.size (w.heap.size+1) none 0 []:=by
  refine ⟨?_,Own.nil _ _ _ _,by omega⟩
  have:=((Blk.new (w.alloc (.cells CS 44)) 182 #[.slice none 0 0]).alloc (.cells #[.pointer (some ⟨w.heap.size+1,0,none⟩)] 140)).alloc (.cells #[.func (.func 139) #[] #[.pointer (some ⟨w.heap.size+1+1,0,none⟩)]] 185)
  rwa [Al4] at this
 have hp0:Blk ((((w.alloc (.cells CS 44)).alloc (.cells #[.slice none 0 0] 182)).alloc (.cells #[.pointer (some ⟨w.heap.size+1,0,none⟩)] 140)).alloc (.cells #[.func (.func 139) #[] #[.pointer (some ⟨w.heap.size+1+1,0,none⟩)]] 185)) (w.heap.size+1+1) 140 #[.pointer (some ⟨w.heap.size+1,0,none⟩)]:=by
  have:=(Blk.new ((w.alloc (.cells CS 44)).alloc (.cells #[.slice none 0 0] 182)) 140 #[.pointer (some ⟨w.heap.size+1,0,none⟩)]).alloc (.cells #[.func (.func 139) #[] #[.pointer (some ⟨w.heap.size+1+1,0,none⟩)]] 185)
  rwa [Al4,Al4] at this
 have hc0:Blk ((((w.alloc (.cells CS 44)).alloc (.cells #[.slice none 0 0] 182)).alloc (.cells #[.pointer (some ⟨w.heap.size+1,0,none⟩)] 140)).alloc (.cells #[.func (.func 139) #[] #[.pointer (some ⟨w.heap.size+1+1,0,none⟩)]] 185)) (w.heap.size+1+1+1) 185 #[.func (.func 139) #[] #[.pointer (some ⟨w.heap.size+1+1,0,none⟩)]]:=by
  have:=Blk.new (((w.alloc (.cells CS 44)).alloc (.cells #[.slice none 0 0] 182)).alloc (.cells #[.pointer (some ⟨w.heap.size+1,0,none⟩)] 140)) 185 #[.func (.func 139) #[] #[.pointer (some ⟨w.heap.size+1+1,0,none⟩)]]
  rwa [Al4,Al4,Al4] at this
 have hf4:Fr Non w ((((w.alloc (.cells CS 44)).alloc (.cells #[.slice none 0 0] 182)).alloc (.cells #[.pointer (some ⟨w.heap.size+1,0,none⟩)] 140)).alloc (.cells #[.func (.func 139) #[] #[.pointer (some ⟨w.heap.size+1+1,0,none⟩)]] 185)):=((((Fr.refl _ _).alloc _).alloc _).alloc _).alloc _
 have hx0:=hat.fr hf4 zr
 have nb:¬RS (w.heap.size+1) none w.heap.size:=by rintro (e|e);omega;cases e
 have np:¬RS (w.heap.size+1) none (w.heap.size+1+1):=by rintro (e|e);omega;cases e
 have nc:¬RS (w.heap.size+1) none (w.heap.size+1+1+1):=by rintro (e|e);omega;cases e
 have nx:∀k,k<w.heap.size→¬RS (w.heap.size+1) none k:=by rintro k hk (e|e);omega;cases e
 obtain ⟨D,hD⟩:=Aa x.op.bare
 rw [hD.out]
 go_enter Tryz.func94,Tryz.ntmps94
 go_upto_region 4 with (fail)
 generalize ((((w.alloc (.cells CS 44)).alloc (.cells #[.slice none 0 0] 182)).alloc (.cells #[.pointer (some ⟨w.heap.size+1,0,none⟩)] 140)).alloc (.cells #[.func (.func 139) #[] #[.pointer (some ⟨w.heap.size+1+1,0,none⟩)]] 185))=w0 at*
 have st0:=Bf.refl (w.heap.size+1) w0 none
 have c0:=(hb0.cell 0).trans e0.out
 have c1:=(hb0.cell 1).trans e1.out
 have c2:=(hb0.cell 2).trans e2.out
 have c3:=(hb0.cell 3).trans e3.out
 have p0:=hp0.cell 0
 go_wp2_with (fail)
 refine (J4 w.heap.size (w.heap.size+1) (w.heap.size+1+1) w0.heap.size none 0 [] [x.by_,x.sq,x.kind,x.at_] 4 _ (ho0.alloc (.cells #[.int .i64 x.by_,.int .i64 x.sq,.int .i64 x.kind,.int .i64 x.at_] 3)) (hp0.alloc (.cells #[.int .i64 x.by_,.int .i64 x.sq,.int .i64 x.kind,.int .i64 x.at_] 3)) (Blk.new w0 3 _) rfl (by omega) (Hn (P:=I64) hok.by_ hok.sq hok.kind hok.at_) (by simp) (by omega)).mono ?_
 rintro _ w1 ⟨rfl,A1,cc1,ho1,hs1⟩
 clear c0 c1 c2 c3 p0
 have st1:=(st0.alloc (.cells #[.int .i64 x.by_,.int .i64 x.sq,.int .i64 x.kind,.int .i64 x.at_] 3)).trans hs1
 have lD1:([]++[x.by_,x.sq,x.kind,x.at_].flatMap Pk.int).length≤40:=by rw [List.nil_append];exact N5 _ _ _ _
 obtain ⟨D1,hD1⟩:=Aa ([]++[x.by_,x.sq,x.kind,x.at_].flatMap Pk.int)
 rw [hD1.out] at ho1 lD1
 have hb1:=hb0.fr st1.fr nb
 have hp1:=hp0.fr st1.fr np
 have hc1:=hc0.fr st1.fr nc
 have hx1:=hx0.fr st1.fr nx
 clear ho0 hs1 st0
 have c4:=(hb1.cell 4).trans e4.out
 have p1:=hp1.cell 0
 go_wp2_with (fail)
 refine (To w.heap.size (w.heap.size+1) A1 cc1 D1 x.past x.pastA _ x.pastC _ ho1 rfl hok.past.2 hx1.past.1 (by omega)).mono ?_
 rintro _ w2 ⟨rfl,A2,cc2,ho2,hs2⟩
 clear c4 p1
 have st2:=(st1).trans hs2
 have lD2:(D1++lst Id.bytes x.past).length≤30050:=by rw [Al1];have:=(Al5 (C1 x.past (fun y _=>Id.bytes_len y)) (by omega):(lst Id.bytes x.past).length≤30010);omega
 obtain ⟨D2,hD2⟩:=Aa (D1++lst Id.bytes x.past)
 rw [hD2.out] at ho2 lD2
 have hb2:=hb0.fr st2.fr nb
 have hp2:=hp0.fr st2.fr np
 have hc2:=hc0.fr st2.fr nc
 have hx2:=hx0.fr st2.fr nx
 clear hb1 hp1 hc1 hx1 ho1 hs2 st1
 have c5:=(hb2.cell 5).trans e5.out
 have c6:=(hb2.cell 6).trans e6.out
 have c7:=(hb2.cell 7).trans e7.out
 have c8:=(hb2.cell 8).trans e8.out
 have p2:=hp2.cell 0
 go_wp2_with (fail)
 refine (J4 w.heap.size (w.heap.size+1) (w.heap.size+1+1) w2.heap.size A2 cc2 D2 [x.dev,x.old,x.mem,x.role] 4 _ (ho2.alloc (.cells #[.int .i64 x.dev,.int .i64 x.old,.int .i64 x.mem,.int .i64 x.role] 3)) (hp2.alloc (.cells #[.int .i64 x.dev,.int .i64 x.old,.int .i64 x.mem,.int .i64 x.role] 3)) (Blk.new w2 3 _) rfl (by omega) (Hn (P:=I64) hok.dev hok.old hok.mem hok.role) (by omega) (by omega)).mono ?_
 rintro _ w3 ⟨rfl,A3,cc3,ho3,hs3⟩
 clear c5 c6 c7 c8 p2
 have st3:=(st2.alloc (.cells #[.int .i64 x.dev,.int .i64 x.old,.int .i64 x.mem,.int .i64 x.role] 3)).trans hs3
 have lD3:(D2++[x.dev,x.old,x.mem,x.role].flatMap Pk.int).length≤30090:=by rw [Al1];have:=(N5 _ _ _ _:([x.dev,x.old,x.mem,x.role].flatMap Pk.int).length≤40);omega
 obtain ⟨D3,hD3⟩:=Aa (D2++[x.dev,x.old,x.mem,x.role].flatMap Pk.int)
 rw [hD3.out] at ho3 lD3
 have hb3:=hb0.fr st3.fr nb
 have hp3:=hp0.fr st3.fr np
 have hc3:=hc0.fr st3.fr nc
 have hx3:=hx0.fr st3.fr nx
 clear hb2 hp2 hc2 hx2 ho2 hs3 st2
 have c9:=(hb3.cell 9).trans e9.out
 have p3:=hp3.cell 0
 go_wp2_with (fail)
 refine (Tt w.heap.size (w.heap.size+1) (w.heap.size+1+1) (w.heap.size+1+1+1) A3 cc3 D3 x.path x.pathA _ x.pathC _ ho3 rfl o_path hx3.path.1 (by omega) hp3 hc3 hx3.nodes).mono ?_
 rintro _ w4 ⟨rfl,A4,cc4,ho4,hs4⟩
 clear c9 p3
 have st4:=(st3).trans hs4
 have lD4:(D3++lst (fun x=>x.nd.bytes) x.path).length≤40050100:=by rw [Al1];have:=(Al5 (C1 x.path (fun y hy=>Nd.bytes_len _ (o_path y hy))) (by omega):(lst (fun x=>x.nd.bytes) x.path).length≤40020010);omega
 obtain ⟨D4,hD4⟩:=Aa (D3++lst (fun x=>x.nd.bytes) x.path)
 rw [hD4.out] at ho4 lD4
 have hb4:=hb0.fr st4.fr nb
 have hp4:=hp0.fr st4.fr np
 have hc4:=hc0.fr st4.fr nc
 have hx4:=hx0.fr st4.fr nx
 clear hb3 hp3 hc3 hx3 ho3 hs4 st3
 have c10:=(hb4.cell 10).trans e10.out
 have c11:=(hb4.cell 11).trans e11.out
 have c12:=(hb4.cell 12).trans e12.out
 have p4:=hp4.cell 0
 go_wp2_with (fail)
 refine (Hi w.heap.size (w.heap.size+1) A4 cc4 D4 x.epoch.b x.epoch.s x.epoch.u _ ho4 hok.epoch.1.1 hok.epoch.1.2 hok.epoch.2.1.1 hok.epoch.2.1.2 hok.epoch.2.2 (by omega)).mono ?_
 rintro _ w5 ⟨rfl,A5,cc5,ho5,hs5⟩
 clear c10 c11 c12 p4
 have st5:=(st4).trans hs5
 have lD5:(D4++Pk.ident x.epoch.b x.epoch.s x.epoch.u).length≤40050130:=by rw [Al1];have:=(Pk.ident_len _ _ _:(Pk.ident x.epoch.b x.epoch.s x.epoch.u).length≤30);omega
 obtain ⟨D5,hD5⟩:=Aa (D4++Pk.ident x.epoch.b x.epoch.s x.epoch.u)
 rw [hD5.out] at ho5 lD5
 have hb5:=hb0.fr st5.fr nb
 have hp5:=hp0.fr st5.fr np
 have hc5:=hc0.fr st5.fr nc
 have hx5:=hx0.fr st5.fr nx
 clear hb4 hp4 hc4 hx4 ho4 hs5 st4
 have c13:=(hb5.cell 13).trans e13.out
 have p5:=hp5.cell 0
 go_wp2_with (fail)
 refine (Dr w.heap.size (w.heap.size+1) A5 cc5 D5 x.n _ ho5 hok.n.1 hok.n.2 (by omega)).mono ?_
 rintro _ w6 ⟨rfl,A6,cc6,ho6,hs6⟩
 clear c13 p5
 have st6:=(st5).trans hs6
 have lD6:(D5++Pk.int x.n).length≤40050140:=by rw [Al1];have:=(Pk.int_len _:(Pk.int x.n).length≤10);omega
 obtain ⟨D6,hD6⟩:=Aa (D5++Pk.int x.n)
 rw [hD6.out] at ho6 lD6
 have hb6:=hb0.fr st6.fr nb
 have hp6:=hp0.fr st6.fr np
 have hc6:=hc0.fr st6.fr nc
 have hx6:=hx0.fr st6.fr nx
 clear hb5 hp5 hc5 hx5 ho5 hs6 st5
 have c14:=(hb6.cell 14).trans e14.out
 have p6:=hp6.cell 0
 have hstr:(convert 39 9 (.slice x.bodyA x.body.length x.bodyC)).run Tryz.prog w6=.ok (.string (str x.body)) w6:=Hf 39 5 9 Tryz.underlying39 Tryz.underlying5 Tryz.underlying9 w6 _ _ _ _ _ hx6.body.1
 go_wp2_with (fail)
 refine (Nc w.heap.size (w.heap.size+1) A6 cc6 D6 x.body _ ho6 (by omega)).mono ?_
 rintro _ w7 ⟨rfl,A7,cc7,ho7,hs7⟩
 clear c14 p6 hstr
 have st7:=(st6).trans hs7
 have lD7:(D6++Pk.text x.body).length≤41050150:=by rw [Al1];have:=(Al5 (Pk.text_len _) (by omega):(Pk.text x.body).length≤1000010);omega
 obtain ⟨D7,hD7⟩:=Aa (D6++Pk.text x.body)
 rw [hD7.out] at ho7 lD7
 have hb7:=hb0.fr st7.fr nb
 have hp7:=hp0.fr st7.fr np
 have hc7:=hc0.fr st7.fr nc
 have hx7:=hx0.fr st7.fr nx
 clear hb6 hp6 hc6 hx6 ho6 hs7 st6
 have c15:=(hb7.cell 15).trans e15.out
 have p7:=hp7.cell 0
 go_wp2_with (fail)
 refine (Tp w.heap.size (w.heap.size+1) A7 cc7 D7 x.refs x.refsA _ x.refsC _ ho7 rfl hok.refs.2 hx7.refs.1 (by omega)).mono ?_
 rintro _ w8 ⟨rfl,A8,cc8,ho8,hs8⟩
 clear c15 p7
 have st8:=(st7).trans hs8
 have lD8:(D7++lst Pk.num x.refs).length≤41060160:=by rw [Al1];have:=(Al5 (C1 x.refs (fun y _=>Pk.num_len y)) (by omega):(lst Pk.num x.refs).length≤10010);omega
 obtain ⟨D8,hD8⟩:=Aa (D7++lst Pk.num x.refs)
 rw [hD8.out] at ho8 lD8
 have hb8:=hb0.fr st8.fr nb
 have hp8:=hp0.fr st8.fr np
 have hc8:=hc0.fr st8.fr nc
 have hx8:=hx0.fr st8.fr nx
 clear hb7 hp7 hc7 hx7 ho7 hs8 st7
 have c16:=(hb8.cell 16).trans e16.out
 have c17:=(hb8.cell 17).trans e17.out
 have c18:=(hb8.cell 18).trans e18.out
 have p8:=hp8.cell 0
 go_wp2_with (fail)
 refine (Hi w.heap.size (w.heap.size+1) A8 cc8 D8 x.of.b x.of.s x.of.u _ ho8 hok.of.1.1 hok.of.1.2 hok.of.2.1.1 hok.of.2.1.2 hok.of.2.2 (by omega)).mono ?_
 rintro _ w9 ⟨rfl,A9,cc9,ho9,hs9⟩
 clear c16 c17 c18 p8
 have st9:=(st8).trans hs9
 have lD9:(D8++Pk.ident x.of.b x.of.s x.of.u).length≤41060190:=by rw [Al1];have:=(Pk.ident_len _ _ _:(Pk.ident x.of.b x.of.s x.of.u).length≤30);omega
 obtain ⟨D9,hD9⟩:=Aa (D8++Pk.ident x.of.b x.of.s x.of.u)
 rw [hD9.out] at ho9 lD9
 have hb9:=hb0.fr st9.fr nb
 have hp9:=hp0.fr st9.fr np
 have hc9:=hc0.fr st9.fr nc
 have hx9:=hx0.fr st9.fr nx
 clear hb8 hp8 hc8 hx8 ho8 hs9 st8
 have c19:=(hb9.cell 19).trans e19.out
 have p9:=hp9.cell 0
 go_wp2_with (fail)
 refine (Tq w.heap.size (w.heap.size+1) A9 cc9 D9 x.guards x.guardsA _ x.guardsC _ ho9 rfl hok.guards.2 hx9.guards.1 (by omega)).mono ?_
 rintro _ w10 ⟨rfl,A10,cc10,ho10,hs10⟩
 clear c19 p9
 have st10:=(st9).trans hs10
 have lD10:(D9++lst Pk.int x.guards).length≤41070200:=by rw [Al1];have:=(Al5 (C1 x.guards (fun y _=>Pk.int_len y)) (by omega):(lst Pk.int x.guards).length≤10010);omega
 obtain ⟨D10,hD10⟩:=Aa (D9++lst Pk.int x.guards)
 rw [hD10.out] at ho10 lD10
 have hb10:=hb0.fr st10.fr nb
 have hp10:=hp0.fr st10.fr np
 have hc10:=hc0.fr st10.fr nc
 have hx10:=hx0.fr st10.fr nx
 clear hb9 hp9 hc9 hx9 ho9 hs10 st9
 have c20:=(hb10.cell 20).trans e20.out
 have c21:=(hb10.cell 21).trans e21.out
 have p10:=hp10.cell 0
 go_wp2_with (fail)
 refine (J4 w.heap.size (w.heap.size+1) (w.heap.size+1+1) w10.heap.size A10 cc10 D10 [x.need,x.wait] 2 _ (ho10.alloc (.cells #[.int .i64 x.need,.int .i64 x.wait] 3)) (hp10.alloc (.cells #[.int .i64 x.need,.int .i64 x.wait] 3)) (Blk.new w10 3 _) rfl (by omega) (J5 (P:=I64) hok.need hok.wait) (by omega) (by omega)).mono ?_
 rintro _ w11 ⟨rfl,A11,cc11,ho11,hs11⟩
 clear c20 c21 p10
 have st11:=(st10.alloc (.cells #[.int .i64 x.need,.int .i64 x.wait] 3)).trans hs11
 have lD11:(D10++[x.need,x.wait].flatMap Pk.int).length≤41070220:=by rw [Al1];have:=(N4 _ _:([x.need,x.wait].flatMap Pk.int).length≤20);omega
 obtain ⟨D11,hD11⟩:=Aa (D10++[x.need,x.wait].flatMap Pk.int)
 rw [hD11.out] at ho11 lD11
 have hb11:=hb0.fr st11.fr nb
 have hp11:=hp0.fr st11.fr np
 have hc11:=hc0.fr st11.fr nc
 have hx11:=hx0.fr st11.fr nx
 clear hb10 hp10 hc10 hx10 ho10 hs11 st10
 have c22:=(hb11.cell 22).trans e22.out
 have p11:=hp11.cell 0
 have q11:=hc11.cell 0
 go_wp2_with (fail)
 refine (Ng w.heap.size (w.heap.size+1) (w.heap.size+1+1) A11 cc11 D11 x.boxes x.boxesA _ x.boxesC _ ho11 rfl hok.boxes.2 hx11.boxes.1 (by omega) hp11).mono ?_
 rintro _ w12 ⟨rfl,A12,cc12,ho12,hs12⟩
 clear c22 p11 q11
 have st12:=(st11).trans hs12
 have lD12:(D11++lst Bx.bytes x.boxes).length≤41110230:=by rw [Al1];have:=(Al5 (C1 x.boxes (fun y _=>Bx.bytes_len y)) (by omega):(lst Bx.bytes x.boxes).length≤40010);omega
 obtain ⟨D12,hD12⟩:=Aa (D11++lst Bx.bytes x.boxes)
 rw [hD12.out] at ho12 lD12
 have hb12:=hb0.fr st12.fr nb
 have hp12:=hp0.fr st12.fr np
 have hc12:=hc0.fr st12.fr nc
 have hx12:=hx0.fr st12.fr nx
 clear hb11 hp11 hc11 hx11 ho11 hs12 st11
 have c23:=(hb12.cell 23).trans e23.out
 have p12:=hp12.cell 0
 go_wp2_with (fail)
 refine (Ek w.heap.size (w.heap.size+1) A12 cc12 D12 x.pub _ ho12 hok.pub (by omega)).mono ?_
 rintro _ w13 ⟨rfl,A13,cc13,ho13,hs13⟩
 clear c23 p12
 have st13:=(st12).trans hs13
 have lD13:(D12++Pk.num x.pub).length≤41110240:=by rw [Al1];have:=(Pk.num_len _:(Pk.num x.pub).length≤10);omega
 obtain ⟨D13,hD13⟩:=Aa (D12++Pk.num x.pub)
 rw [hD13.out] at ho13 lD13
 have hb13:=hb0.fr st13.fr nb
 have hp13:=hp0.fr st13.fr np
 have hc13:=hc0.fr st13.fr nc
 have hx13:=hx0.fr st13.fr nx
 clear hb12 hp12 hc12 hx12 ho12 hs13 st12
 have c24:=(hb13.cell 24).trans e24.out
 have p13:=hp13.cell 0
 go_wp2_with (fail)
 refine (Tv w.heap.size (w.heap.size+1) (w.heap.size+1+1) A13 cc13 D13 x.hist x.histA _ x.histC _ ho13 rfl o_hist hx13.hist.1 (by omega) hp13 hx13.seals).mono ?_
 rintro _ w14 ⟨rfl,A14,cc14,ho14,hs14⟩
 clear c24 p13
 have st14:=(st13).trans hs14
 have lD14:(D13++lst (fun x=>x.sl.bytes) x.hist).length≤1041150250:=by rw [Al1];have:=(Al5 (C1 x.hist (fun y hy=>Sl.bytes_len _ (o_hist y hy).2)) (by omega):(lst (fun x=>x.sl.bytes) x.hist).length≤1000040010);omega
 obtain ⟨D14,hD14⟩:=Aa (D13++lst (fun x=>x.sl.bytes) x.hist)
 rw [hD14.out] at ho14 lD14
 have pz:=(hp0.fr st14.fr np).cell 0
 go_wp2
 go_ret
 have e:D=D14:=by
  rw [← hD.out,← hD14.out,← hD13.out,← hD12.out,← hD11.out,← hD10.out,← hD9.out,← hD8.out,← hD7.out,← hD6.out,← hD5.out,← hD4.out,← hD3.out,← hD2.out,← hD1.out]
  unfold Op.bare
  simp [OpL.op,Ur,Id.bytes,Am4]
 rw [e]
 exact ⟨A14,cc14,rfl,ho14,hf4.trans st14.fr (fun k hk e=>by rcases e with e|e;omega;cases e)⟩
end Oq
namespace Oq
theorem Op.bare_len (o:Op) (h:o.ok):o.bare.length≤1100000000:=by
 have h1:=C1 o.past (fun y _=>Id.bytes_len y)
 have h2:=C1 o.path (fun y hy=>Nd.bytes_len y (h.path.2 y hy))
 have h3:=C1 o.refs (fun y _=>Pk.num_len y)
 have h4:=C1 o.guards (fun y _=>Pk.int_len y)
 have h5:=C1 o.boxes (fun y _=>Bx.bytes_len y)
 have h6:=C1 o.hist (fun y hy=>Sl.bytes_len y (h.hist.2 y hy).2)
 have h7:=Pk.text_len o.body
 have g1:=h.past.1
 have g2:=h.path.1
 have g3:=h.refs.1
 have g4:=h.guards.1
 have g5:=h.boxes.1
 have g6:=h.hist.1
 have g7:=h.body
 have i1:=Pk.int_len o.by_
 have i2:=Pk.int_len o.sq
 have i3:=Pk.int_len o.kind
 have i4:=Pk.int_len o.at_
 have i5:=Pk.int_len o.dev
 have i6:=Pk.int_len o.old
 have i7:=Pk.int_len o.mem
 have i8:=Pk.int_len o.role
 have i9:=Pk.int_len o.n
 have i10:=Pk.int_len o.need
 have i11:=Pk.int_len o.wait
 have i12:=Pk.num_len o.pub
 have i13:=Id.bytes_len o.epoch
 have i14:=Id.bytes_len o.of
 unfold Op.bare
 simp only [Al1]
 omega
end Oq
theorem Fs (n:Nat) (w:World) (hn:n<18446744073709551616):
  Calls Tryz.prog 104 #[.int .u64 (n:Int)] w (NewB w (Pk.num n)):=by
 go_enter Tryz.func104,Tryz.ntmps104
 go_wp2
 go_loopw [0,3] (fun v s wr=>∃(m f:Nat) (L:List UInt8) (A:Option Addr) (c:Nat),v=.int .u64 (m:Int)∧s=.slice A L.length c∧m<2*128^f∧Hid (Pk.num n=L++Pk.numF (f+1) m)∧L.length+f≤9∧m<18446744073709551616∧
  Own wr w.heap.size 5 1 A L.length c (L.map Bv)∧Fr Non w wr) (fun v _ _=>(intOf v).toNat)
 case atStart=>exact ⟨n,9,[],none,0,rfl,rfl,by simpa using hn,rfl,by simp,hn,Own.nil _ _ _ _,Fr.refl _ _⟩
 case round=>
  obtain ⟨m,f,L,A,c,rfl,rfl,hm,hpre,hlen,hm64,hown,hf⟩:=hrel
  have hBs:=hf.size
  have hrow:∀k,k<w.heap.size→Ab A=some k→Non k:=fun k hk hA=>by have:=(hown.row k hA).1;omega
  by_cases hlt:m<128
  ·
   go_wp2_with (first|(at_builtin;go_loud (refine Bb (.tmp 15) (.tmp 18) 39 rfl rfl rfl rfl slB (hown.alloc _) (Rd.one _ _ _) (by simp [Value.oneCell']) (by omega) (by omega) (by simp;omega) ?_);intro A1 c1 w1 hown1 hf1 hat1))
   go_ret
   refine NewB.mk hown1 rfl ?_ ((hf.alloc _).trans hf1 hrow)
   rw [hpre.out]
   simp [Pk.numF,hlt,Bv]
   omega
  ·
   go_wp2_with (first|(at_builtin;go_loud (refine Bb (.tmp 6) (.tmp 11) 39 rfl rfl rfl rfl slB (hown.alloc _) (Rd.one _ _ _) (by simp [Value.oneCell']) (by omega) (by omega) (by simp;omega) ?_);intro A1 c1 w1 hown1 hf1 hat1))
   go_roundw
   case rel=>
    have hf0:f≠0:=by rintro rfl;omega
    obtain ⟨f',rfl⟩:∃f',f=f'+1:=⟨f-1,by omega⟩
    refine ⟨m/128,f',L++[UInt8.ofNat (m%128+128)],A1,c1,by go_num,by simp,?_,?_,?_,by omega,?_,(hf.alloc _).trans hf1 hrow⟩
    · rw [Nat.div_lt_iff_lt_mul (by omega)];rw [Nat.pow_succ] at hm;omega
    ·
     show _=_
     rw [hpre.out]
     conv=>lhs;unfold Pk.numF
     rw [if_neg hlt]
     simp
    · simp;omega
    ·
     have:=Pk.tn (m%128+128) (by omega)
     have e:(L++[UInt8.ofNat (m%128+128)]).map Bv=L.map Bv++[.int .u8 ((m:Int)%128+128)]:=by
      simp [Bv];omega
     rw [e,Al1]
     exact hown1
   case measure=>simp [intOf];omega
theorem Er (n:Int) (w:World) (h0: -9223372036854775808≤n) (h1:n≤9223372036854775807):
  Calls Tryz.prog 106 #[.int .i64 n] w (NewB w (Pk.int n)):=by
 have hfl:=Pk.fold_lt h0 h1
 by_cases hn:n<0
 ·
  have hv:Hid (-(n+1)*2+1=((Pk.fold n:Nat):Int)):=by show _=_;unfold Pk.fold;rw [if_pos hn];omega
  go_enter Tryz.func106,Tryz.ntmps106
  go_wp2_with (fail)
  rw [hv.out]
  refine (Fs _ _ hfl).mono ?_
  rintro _ w1 ⟨A,c,rfl,hown,hf⟩
  go_wp2
  go_ret
  exact ⟨A,c,rfl,hown,hf⟩
 ·
  have hv:Hid (n*2=((Pk.fold n:Nat):Int)):=by show _=_;unfold Pk.fold;rw [if_neg hn];omega
  go_enter Tryz.func106,Tryz.ntmps106
  go_wp2_with (fail)
  rw [hv.out]
  refine (Fs _ _ hfl).mono ?_
  rintro _ w1 ⟨A,c,rfl,hown,hf⟩
  go_wp2
  go_ret
  exact ⟨A,c,rfl,hown,hf⟩
theorem N8 (l:List UInt8) (w:World) (hl:l.length≤1099511627700):Calls Tryz.prog 107 #[.string (str l)] w (NewB w (Pk.text l)):=by
 have hs:=Ee l
 have hil:=Pk.int_len (l.length:Int)
 go_enter Tryz.func107,Tryz.ntmps107
 go_wp2_with (fail)
 refine (Er _ _ (by omega) (by omega)).mono ?_
 rintro _ w1 ⟨A,c,rfl,hown,hf⟩
 clear hs
 have hBs:=hf.size
 go_wp2_with (first|(at_builtin;go_loud (refine Mu (.tmp 5) (.tmp 6) 39 9 rfl rfl rfl rfl slB Tryz.underlying9 hown (by omega) (by omega) ?_);intro A2 c2 w2 hown2 hf2 hat2))
 go_ret
 exact NewB.mk hown2 rfl (by simp [Pk.text]) (hf.trans hf2 (hown.notNon (Al2 _)))
theorem Ho (b s:Int) (u:Nat) (w:World) (b0: -9223372036854775808≤b) (b1:b≤9223372036854775807)
  (s0: -9223372036854775808≤s) (s1:s≤9223372036854775807) (hu:u<18446744073709551616):
  Calls Tryz.prog 103 #[.agg #[.int .i64 b,.int .i64 s,.int .u64 (u:Int)]] w (NewB w (Pk.ident b s u)):=by
 have hb0:=Blk.new w 38 #[.int .i64 b,.int .i64 s,.int .u64 (u:Int)]
 have l1:=Pk.int_len b
 have l2:=Pk.int_len s
 have l3:=Pk.num_len u
 have c0:=hb0.cell 0
 have c1:=hb0.cell 1
 have c2:=hb0.cell 2
 go_enter Tryz.func103,Tryz.ntmps103
 go_wp2
 go_region_held3 (fun w'=>w'.cell? ⟨w.heap.size,0,none⟩=some (.int .i64 b)∧w'.cell? ⟨w.heap.size,1,none⟩=some (.int .i64 s)) (go_keep) (first
  |((refine Jh (.tmp 6) (.tmp 9) 39 (by rfl) (by rfl) (by rfl) (by rfl) slB (hown1.fr hf2 zr) hown2.rd (Gk _) (by omega) (by omega) (by omega) ?_;intro A3 c3 w3 hown3 hf3 hat3;have hb3:=hb2.fr hf3 (hown1.ne hb1 (by decide));have d0:=hb3.cell 0;have d1:=hb3.cell 1))
  |(go_at_call 106;(with_reducible refine (Er b _ b0 b1).mono ?_);rintro _ w1 ⟨A1,c1,rfl,hown1,hf1⟩;have hb1:=hb0.drew.fr hf1 zq;have d0:=hb1.cell 0;have d1:=hb1.cell 1;have hsz1:=hf1.size)
  |(go_at_call 106;(with_reducible refine (Er s _ s0 s1).mono ?_);rintro _ w2 ⟨A2,c2,rfl,hown2,hf2⟩;have hb2:=hb1.fr hf2 zq;have d0:=hb2.cell 0;have d1:=hb2.cell 1;have hsz2:=hf2.size))
 have e2:=hb3.cell 2
 have hs3:=hf3.size
 go_wp2_with (fail)
 refine (Fs u _ hu).mono ?_
 rintro _ w4 ⟨A4,c4,rfl,hown4,hf4⟩
 have hs4:=hf4.size
 have hown3':=(hown3.fr hf4 zr).lower (base':=w.heap.size) (by simp)
 go_wp2_with (first|(at_builtin;go_loud (refine Bb (.tmp 11) (.tmp 14) 39 rfl rfl rfl rfl slB hown3' hown4.rd (Gk _) (by omega) (by omega) (by simp at hsz1;omega) ?_);intro A5 c5 w5 hown5 hf5 hat5))
 go_ret
 have hff:Fr Non w w4:=(((((Fr.refl _ _).alloc _).drew.trans hf1 zr).trans hf2 zr).trans hf3 (fun k hk e=>by have:=(hown1.row k e).1;simp at this;omega)).trans hf4 zr
 exact NewB.mk hown5 rfl (by simp [Pk.ident]) (hff.trans hf5 (hown3'.notNon (Al2 _)))
namespace Oq
structure Acc (w0 w:World) (A:Option Addr) (c L K:Nat) (D:List UInt8):Prop where
 own:Own w w0.heap.size 5 1 A L c (D.map Bv)
 fr:Fr Non w0 w
 le:L≤K
section
variable {w0 w w' : World} {A : Option Addr} {c L K : Nat} {D : List UInt8}
theorem Acc.len (h:Acc w0 w A c L K D):L=D.length:=by have:=h.own.len;simpa using this.symm
theorem Acc.nil (w:World):Acc w w none 0 0 0 []:=⟨Own.nil _ _ _ _,Fr.refl _ _,Al2 _⟩
theorem Acc.step (h:Acc w0 w A c L K D) (hf:Fr Non w w'):Acc w0 w' A c L K D:=⟨h.own.fr hf zr,h.fr.trans hf zr,h.le⟩
theorem Acc.more (h:Acc w0 w A c L K D) {K':Nat} (hK:K≤K'):Acc w0 w A c L K' D:=⟨h.own,h.fr,Al5 h.le hK⟩
theorem Acc.of_new {X:List UInt8} (hown:Own w' w.heap.size 5 1 A X.length c (X.map Bv)) (hf:Fr Non w w') (hX:X.length≤K):Acc w w' A c X.length K X:=⟨hown,hf,hX⟩
theorem Acc.post {w1:World} (h:Acc w0 w A c L K D) (hf:Fr Non w1 w0) {D':List UInt8} (e:D'=D):NewB w1 D' (.returned (.slice A L c)) w:=by
 subst e
 have hl:=h.len
 subst hl
 exact ⟨A,c,rfl,h.own.lower hf.size,hf.trans h.fr zr⟩
end
theorem Cp {P:Program} {ops:Array Oper} {rest:List Oper} {o:Oper} {a:Act} {Q:Exit→Act→World→Prop} {w0 w:World} (s x:Operand) (t:TypeId) (hgd:o.guard=none)
  (ho:o.op=.call {callee:=.builtin .append,args:=#[s,x],argTypes:=#[t,t]})
  {c L K cx base:Nat} {A Ax:Option Addr} {D X:List UInt8} (Kx:Nat)
  (hs:a.eval s=.slice A L c) (hx:a.eval x=.slice Ax X.length cx) (hT:SlT P t 5 (.int .u8 0) 1 1) (h:Acc w0 w A c L K D) (hr:Own w base 5 1 Ax X.length cx (X.map Bv)) (hX:X.length≤Kx) (hK:K+Kx≤1099511627776)
  (hk:∀A' c' L' w',Acc w0 w' A' c' L' (K+Kx) (D++X)→wpList P ops Q rest (a.put o.dst (.slice A' L' c')) w'):wpList P ops Q (o::rest) a w:=by
 have hle:=h.le
 refine Bb s x t hgd ho hs hx hT h.own hr.rd (Gk _) (by omega) (by omega) h.fr.size ?_
 intro A' c' w' hown hf _
 rw [← List.map_append] at hown
 exact hk A' c' _ w' ⟨hown,h.fr.trans hf (h.own.notNon (Al2 _)),by omega⟩
theorem Ut {P:Program} {ops:Array Oper} {o:Oper} {a:Act} {Kt:Act→World→Prop} {Q:Exit→Act→World→Prop} {E:Prop} {w0 w:World} (s x:Operand) (t:TypeId) (hgd:o.guard=none)
  (ho:o.op=.call {callee:=.builtin .append,args:=#[s,x],argTypes:=#[t,t]})
  {c L K cx base:Nat} {A Ax:Option Addr} {D X:List UInt8} (Kx:Nat)
  (hs:a.eval s=.slice A L c) (hx:a.eval x=.slice Ax X.length cx) (hT:SlT P t 5 (.int .u8 0) 1 1) (h:Acc w0 w A c L K D) (hr:Own w base 5 1 Ax X.length cx (X.map Bv)) (hX:X.length≤Kx) (hK:K+Kx≤1099511627776)
  (hk:∀A' c' L' w',Acc w0 w' A' c' L' (K+Kx) (D++X)→Fr Non w0 w'→Kt (a.put o.dst (.slice A' L' c')) w'):
  if Region.wanted o (yielded ops a.tmps)=true then Oper.wp P o a w Kt Q else E:=by
 have hle:=h.le
 refine Jh s x t hgd ho hs hx hT h.own hr.rd (Gk _) (by omega) (by omega) h.fr.size ?_
 intro A' c' w' hown hf _
 rw [← List.map_append] at hown
 have hff:=h.fr.trans hf (h.own.notNon (Al2 _))
 exact hk A' c' _ w' ⟨hown,hff,by omega⟩ hff
theorem Hp (B n cl:Nat) (Al:Option Addr) (l:List Int) (w:World) (hn:Hid (l.length=n)) (hr:Rd w B 1 Al n (l.map Iv)) (hok:∀x∈l,I64 x) (hn1:n≤100000):
  Calls Tryz.prog 102 #[.slice Al n cl] w (NewB w (l.flatMap Pk.int)):=by
 go_enter Tryz.func102,Tryz.ntmps102
 go_wp2
 go_loopw [3,4] (fun s v wr=>∃(i:Nat) (A:Option Addr) (c L:Nat),v=.int .i64 (i:Int)∧s=.slice A L c∧i≤n∧Acc w wr A c L (10*i) ((l.take i).flatMap Pk.int)) (fun _ v _=>n-(intOf v).toNat)
 case atStart=>exact ⟨0,none,0,0,rfl,rfl,by omega,Acc.nil w⟩
 case round=>
  obtain ⟨i,A,c,L,rfl,rfl,hin,hac⟩:=hrel
  by_cases hlt:i<n
  ·
   obtain ⟨x,hx⟩:∃x,l[i]? =some x:=⟨_,Al3 (by rw [hn.out];exact hlt)⟩
   have hxo:=hok x (Al6 hx)
   obtain ⟨b,off,rfl,hb,k0⟩:=Hj (hr.fr hac.fr zr) hx
   unfold Iv at k0
   have hx':=Lib.hid hx
   clear hx
   have hxl:=Pk.int_len x
   go_wp2_with (fail)
   refine (Er x _ hxo.1 hxo.2).mono ?_
   rintro _ w1 ⟨A1,c1,rfl,hown1,hf1⟩
   have hac1:=hac.step hf1
   go_wp2_with (first|(at_builtin;go_loud (refine Cp (.tmp 11) (.tmp 16) 39 rfl rfl 10 rfl rfl slB hac1 hown1 hxl (by omega) ?_);intro A2 c2 L2 w2 hac2))
   go_roundw
   case rel=>exact ⟨i+1,A2,c2,L2,by go_num,rfl,by omega,by rw [Dk _ l hx'.out,Al8];exact hac2⟩
   case measure=>simp [intOf];omega
  ·
   have hi:i=n:=by omega
   subst hi
   go_wp2
   go_ret
   refine hac.post (Fr.refl _ _) ?_
   rw [Al7 (by rw [hn.out];omega)]
theorem N9 (B n cl:Nat) (Al:Option Addr) (l:List Nat) (w:World) (hn:Hid (l.length=n)) (hr:Rd w B 1 Al n (l.map Uv)) (hok:∀x∈l,U64 x) (hn1:n≤100000):
  Calls Tryz.prog 108 #[.slice Al n cl] w (NewB w (l.flatMap Pk.num)):=by
 go_enter Tryz.func108,Tryz.ntmps108
 go_wp2
 go_loopw [3,4] (fun s v wr=>∃(i:Nat) (A:Option Addr) (c L:Nat),v=.int .i64 (i:Int)∧s=.slice A L c∧i≤n∧Acc w wr A c L (10*i) ((l.take i).flatMap Pk.num)) (fun _ v _=>n-(intOf v).toNat)
 case atStart=>exact ⟨0,none,0,0,rfl,rfl,by omega,Acc.nil w⟩
 case round=>
  obtain ⟨i,A,c,L,rfl,rfl,hin,hac⟩:=hrel
  by_cases hlt:i<n
  ·
   obtain ⟨x,hx⟩:∃x,l[i]? =some x:=⟨_,Al3 (by rw [hn.out];exact hlt)⟩
   have hxo:=hok x (Al6 hx)
   obtain ⟨b,off,rfl,hb,k0⟩:=Hj (hr.fr hac.fr zr) hx
   unfold Uv at k0
   have hx':=Lib.hid hx
   clear hx
   have hxl:=Pk.num_len x
   go_wp2_with (fail)
   refine (Fs x _ hxo).mono ?_
   rintro _ w1 ⟨A1,c1,rfl,hown1,hf1⟩
   have hac1:=hac.step hf1
   go_wp2_with (first|(at_builtin;go_loud (refine Cp (.tmp 11) (.tmp 16) 39 rfl rfl 10 rfl rfl slB hac1 hown1 hxl (by omega) ?_);intro A2 c2 L2 w2 hac2))
   go_roundw
   case rel=>exact ⟨i+1,A2,c2,L2,by go_num,rfl,by omega,by rw [Dk _ l hx'.out,Al8];exact hac2⟩
   case measure=>simp [intOf];omega
  ·
   have hi:i=n:=by omega
   subst hi
   go_wp2
   go_ret
   refine hac.post (Fr.refl _ _) ?_
   rw [Al7 (by rw [hn.out];omega)]
theorem Uu {w:World} {k:Nat} {l:List Nat} (h:Blk w k 23 (l.map Uv).toArray) (n:Nat) (hn:l.length=n):Rd w w.heap.size 1 (some ⟨k,0,none⟩) n (l.map Uv):=by
 refine ⟨by simp [hn],.inr ⟨k,0,rfl,h.lt,fun j u hu=> ?_⟩⟩
 rw [Nat.zero_add,h.cell j,Am5]
 exact hu
theorem J6 {w:World} {k:Nat} {l:List Int} (h:Blk w k 3 (l.map Iv).toArray) (n:Nat) (hn:l.length=n):Rd w w.heap.size 1 (some ⟨k,0,none⟩) n (l.map Iv):=by
 refine ⟨by simp [hn],.inr ⟨k,0,rfl,h.lt,fun j u hu=> ?_⟩⟩
 rw [Nat.zero_add,h.cell j,Am5]
 exact hu
theorem Uw (x:Bx):[x.t,x.e,x.y,x.g].flatMap Pk.num=x.bytes:=by unfold Bx.bytes;simp [Am4]
theorem Ux (x:Bx) (hx:x.ok) (w:World) (k:Nat) (h:Blk w k 23 #[.int .u64 (x.t:Int),.int .u64 (x.e:Int),.int .u64 (x.y:Int),.int .u64 (x.g:Int)]):Calls Tryz.prog 108 #[.slice (some ⟨k,0,none⟩) 4 4] w (NewB w x.bytes):=by
 rw [← Uw x]
 exact N9 w.heap.size 4 4 _ [x.t,x.e,x.y,x.g] _ rfl (Uu h 4 rfl) (Hn hx.1 hx.2.1 hx.2.2.1 hx.2.2.2) (by omega)
theorem Oa (B n cl:Nat) (Al:Option Addr) (l:List Bx) (w:World) (hn:Hid (l.length=n)) (hr:Rd w B 4 Al n (l.flatMap Bx.cells)) (hok:∀x∈l,x.ok) (hn1:n≤100000):
  Calls Tryz.prog 105 #[.slice Al n cl] w (NewB w (lst Bx.bytes l)):=by
 go_enter Tryz.func105,Tryz.ntmps105
 go_wp2_with (fail)
 refine (Er (n:Int) _ (by omega) (by omega)).mono ?_
 rintro _ w0 ⟨A0,c0,rfl,hown0,hf0⟩
 have hil:=Pk.int_len (n:Int)
 have hac0:Acc w w0 A0 c0 (Pk.int (n:Int)).length 10 (Pk.int (n:Int)):=Acc.of_new hown0 hf0 hil
 go_wp2
 go_loopw [3,4] (fun s v wr=>∃(i:Nat) (A:Option Addr) (c L:Nat),v=.int .i64 (i:Int)∧s=.slice A L c∧i≤n∧Acc w wr A c L (10+40*i) (Pk.int (n:Int)++(l.take i).flatMap Bx.bytes)) (fun _ v _=>n-(intOf v).toNat)
 case atStart=>exact ⟨0,A0,c0,_,rfl,rfl,by omega,by simpa using hac0⟩
 case round=>
  obtain ⟨i,A,c,L,rfl,rfl,hin,hac⟩:=hrel
  by_cases hlt:i<n
  ·
   obtain ⟨x,hx⟩:∃x,l[i]? =some x:=⟨_,Al3 (by rw [hn.out];exact hlt)⟩
   have kn:=Lib.hid (Ux x (hok x (Al6 hx)) (wr.alloc (.cells #[.int .u64 (x.t:Int),.int .u64 (x.e:Int),.int .u64 (x.y:Int),.int .u64 (x.g:Int)] 23)).drew _ (Blk.new wr 23 _).drew)
   obtain ⟨b,off,rfl,hb,z0,z1,z2,z3⟩:=Bx.at hr hx
   have k0:=hac.fr.cell z0 zq
   have k1:=hac.fr.cell z1 zq
   have k2:=hac.fr.cell z2 zq
   have k3:=hac.fr.cell z3 zq
   have hx':=Lib.hid hx
   clear hx
   have hxl:=Bx.bytes_len x
   have hlt':(i:Int)<(n:Int):=by omega
   have hi0:(0:Int)≤(i:Int):=by omega
   have n0:=Al9 wr ⟨b,off+i*4,none⟩ (by rw [k0])
   have n1:=Al9 wr ⟨b,off+i*4+1,none⟩ (by rw [k1])
   have n2:=Al9 wr ⟨b,off+i*4+2,none⟩ (by rw [k2])
   have n3:=Al9 wr ⟨b,off+i*4+3,none⟩ (by rw [k3])
   go_wp2_with (fail)
   go_region_held3 (fun w'=>w'.cell? ⟨b,off+i*4,none⟩=some (.int .u64 (x.t:Int))∧w'.cell? ⟨b,off+i*4+1,none⟩=some (.int .u64 (x.e:Int))∧w'.cell? ⟨b,off+i*4+2,none⟩=some (.int .u64 (x.y:Int))∧w'.cell? ⟨b,off+i*4+3,none⟩=some (.int .u64 (x.g:Int))) (go_keep) (first
    |((refine Ut (.tmp 14) (.tmp 36) 39 (by rfl) (by rfl) 40 (by rfl) (by rfl) slB hac1 hown1 hxl (by omega) ?_;intro A3 c3 L3 w3 hac3 hf3;have ca:=hf3.cell z0 zq;have cb:=hf3.cell z1 zq;have cc:=hf3.cell z2 zq;have cd:=hf3.cell z3 zq))
    |(go_at_call 108;(with_reducible refine kn.out.mono ?_);rintro _ w1 ⟨A1,c1,rfl,hown1,hf1⟩;have hac1:=(hac.step ((Fr.refl _ _).alloc _).drew).step hf1;have ya:=hf1.cell (((Fr.refl Non wr).alloc _).cell k0 zq) zq;have yb:=hf1.cell (((Fr.refl Non wr).alloc _).cell k1 zq) zq;have yc:=hf1.cell (((Fr.refl Non wr).alloc _).cell k2 zq) zq;have yd:=hf1.cell (((Fr.refl Non wr).alloc _).cell k3 zq) zq))
   go_wp2
   go_roundw
   case rel=>exact ⟨i+1,A3,c3,L3,by go_num,rfl,by omega,by rw [Dk _ l hx'.out,← Am2,Al8,← Nat.add_assoc];exact hac3⟩
   case measure=>simp [intOf];omega
  ·
   have hi:i=n:=by omega
   subst hi
   go_wp2
   go_ret
   refine hac.post (Fr.refl _ _) ?_
   unfold lst
   rw [Al7 (by rw [hn.out];omega),hn.out]
end Oq
end
end Go.Proofs.YtafonabghnogaaaGreatDoor
