/-
  Contracts of the functions that the claim's statement reaches, walked one by one (part 3).
  Conditions: as each theorem says.
-/
import Derived.Deep.DeepCutAuto
import Derived.Deep.Cut
import Derived.Deep.RegionHeld3
import Derived.Deep.DrawnRows
import Derived.Test.YthpkjfliibdnjaaGreatDoorGaM1
import Derived.Test.YthpkjfliibdnjaaGreatDoorGaM2
set_option maxRecDepth 100000
set_option maxHeartbeats 16000000
open List renaming length_append→Am6,getElem?_eq_getElem→Am7,mem_of_getElem?→An0,take_of_length_le→An1,length_map→An5,find?_append→An6,append_assoc→An7,mem_map_of_mem→An8,flatMap_cons→An9,getElem?_toArray→Ao0
open Nat renaming le_trans→Am8,le_refl→An2,mul_add→An3
open Go.World renaming size_alloc→Am9,new_ne→An4
namespace Go.Proofs.YthpkjfliibdnjaaGreatDoor
section
open Go.RowKit
namespace Oq
structure OpL.own (w:World) (base:Nat) (x:OpL):Prop where
 past:RowAt w base 36 3 x.pastA x.past.length x.pastC (x.past.flatMap Id.cells)
 path:RowAt w base 71 2 x.pathA x.path.length x.pathC (x.path.flatMap NdL.cells)
 nodes:∀y∈x.path,RowAt w base 129 4 y.A y.xs.length y.c (y.xs.flatMap Bx.cells)
 body:RowAt w base 5 1 x.bodyA x.body.length x.bodyC (x.body.map Bv)
 refs:RowAt w base 34 1 x.refsA x.refs.length x.refsC (x.refs.map Uv)
 guards:RowAt w base 3 1 x.guardsA x.guards.length x.guardsC (x.guards.map Iv)
 boxes:RowAt w base 129 4 x.boxesA x.boxes.length x.boxesC (x.boxes.flatMap Bx.cells)
 hist:RowAt w base 133 4 x.histA x.hist.length x.histC (x.hist.flatMap SlL.cells)
 seals:∀y∈x.hist,RowAt w base 5 1 y.A y.y.length y.c (y.y.map Bv)
theorem OpL.own.at {w:World} {base:Nat} {x:OpL} (h:x.own w base):x.at w w.heap.size where
 past:=h.past.sl
 path:=h.path.sl
 nodes y hy:=(h.nodes y hy).sl
 body:=h.body.sl
 refs:=h.refs.sl
 guards:=h.guards.sl
 boxes:=h.boxes.sl
 hist:=h.hist.sl
 seals y hy:=(h.seals y hy).sl
theorem RowAt.nil (w:World) (base:Nat) (t:TypeId) (size:Nat):RowAt w base t size none 0 0 []:=⟨SlAt.nil _ _ _,.inl rfl⟩
def OpL.zero:OpL:=
 {by_:=0,sq:=0,kind:=0,at_:=0,pastA:=none,pastC:=0,past:=[],dev:=0,old:=0,mem:=0,role:=0,pathA:=none,pathC:=0,path:=[],epoch:=⟨0,0,0⟩,n:=0,bodyA:=none,bodyC:=0,body:=[],refsA:=none,refsC:=0,refs:=[],of:=⟨0,0,0⟩,guardsA:=none,guardsC:=0,guards:=[],need:=0,wait:=0,boxesA:=none,boxesC:=0,boxes:=[],pub:=0,histA:=none,histC:=0,hist:=[],r:=0,s:=0}
theorem U1 {P:Program} {fn:Func} {p q:Tmp} {ty t:TypeId} {d:TypeDesc} {cs:Array Value} {g:Nat} {tmps:Array Value} {w:World} (h:fn.results=#[.cell p ty,.tmp q])
  (ha:tmps.getD p undef=.pointer (some ⟨g,0,none⟩)) (hb:Blk w g t cs) (hd:(match d with| .struct _| .array _ _=>true|_=>false)=true) (hu:P.underlying ty=some d)
  (hi:(P.info? ty).map (·.size)=some cs.size):(results fn tmps).run P w=.ok (.tuple #[.agg cs,tmps.getD q undef]) w:=by
 have hl:(loadVar ty ⟨g,0,none⟩).run P w=.ok (.agg cs) w:=run_loadVar_row (P:=P) w g t ty cs (0,0) d hb hu (by cases d<;>first|rfl|exact hd) hi
 unfold results;rw [h];have ha':tmps[p]?.getD undef=.pointer (some ⟨g,0,none⟩):=by simpa using ha
 simp [asAddr,ha',hl]
theorem E0 {P:Program} {fn:Func} {R:Ending→World→Prop} {p q:Tmp} {ty t:TypeId} {d:TypeDesc} {cs:Array Value} {g:Nat} {a:Act} {w:World} (h:fn.results=#[.cell p ty,.tmp q])
  (ha:a.tmps.getD p undef=.pointer (some ⟨g,0,none⟩)) (hb:Blk w g t cs) (hd:(match d with| .struct _| .array _ _=>true|_=>false)=true) (hu:P.underlying ty=some d)
  (hi:(P.info? ty).map (·.size)=some cs.size) (hdef:a.defers=[]) (hR:R (.returned (.tuple #[.agg cs,a.tmps.getD q undef])) w):bodyPost P fn R .ret a w:=
 bodyPost_ret (U1 h ha hb hd hu hi) hdef hR
end Oq
end
section
open Go.RowKit
attribute [local go_sem ↓] Go.wp_at_zero Go.wp_at_succ
namespace Oq
theorem RowAt.keepT {S:Nat→Prop} {w w':World} {base size n c:Nat} {t:TypeId} {A:Option Addr} {xs:List Value} (h:RowAt w base t size A n c xs) (hf:Fr S w w') (hS:∀k cs fr,w.heap[k]? =some (.cells cs t fr)→¬S k):RowAt w' base t size A n c xs:=by
 refine h.fr hf (fun h0 k hk e=> ?_)
 rcases h.2 with hn|⟨k',cs',fr',rfl,_,hb',_⟩
 · exact h0 hn
 ·
  injection hk with hk
  subst hk;exact hS _ _ _ hb' e
def Types (S:Nat→Prop) (w:World) (P:TypeId→Prop):Prop:=∀k cs t fr,w.heap[k]? =some (.cells cs t fr)→S k→P t
theorem Types.not {S:Nat→Prop} {w:World} {P:TypeId→Prop} {t:TypeId} (h:Types S w P) (ht:¬P t):∀k cs fr,w.heap[k]? =some (.cells cs t fr)→¬S k:=fun k cs fr hk e=>ht (h k cs t fr hk e)
theorem Types.one {w:World} {g:Nat} {t:TypeId} {cs:Array Value} (h:Blk w g t cs):Types (One g) w (fun t'=>t'=t):=fun k cs' t' fr hk e=>by
 have e':k=g:=e;subst e';unfold Blk at h;rw [hk] at h;injection h with h
 injection h with _ h _
theorem Types.row {w:World} {base size n c:Nat} {t:TypeId} {A:Option Addr} {xs:List Value} (h:Own w base t size A n c xs):Types (fun k=>Ac A=some k) w (fun t'=>t'=t):=fun k cs' t' fr hk e=>by
 rcases h.2 with ⟨hv,_⟩|⟨g,cap,cur,hv,_,hg,_⟩
 ·
  injection hv with hA _ _
  subst hA
  cases e
 ·
  injection hv with hA _ _
  subst hA;injection e with e
  subst e;rw [hk] at hg;injection hg with hg
  injection hg with _ h _
theorem Types.mono {S:Nat→Prop} {w:World} {P Q:TypeId→Prop} (h:Types S w P) (hp:∀t,P t→Q t):Types S w Q:=fun k cs t fr hk e=>hp t (h k cs t fr hk e)
section
variable {S : Nat → Prop} {w0 w w' : World} {B g go i i' : Nat} {L : List Int} {x : OpL}
end
end Oq
end
section
open Go.RowKit
namespace Oq
structure Af where
 x:OpL
 id:Id
 a0:Nat
 a1:Nat
 a2:Nat
 a3:Nat
 lev:Nat
def Af.ws (n:Af):List Nat:=[n.a0,n.a1,n.a2,n.a3]
def Af.cells (n:Af):List Value:=n.x.cells.toList++[.int .i64 n.id.b,.int .i64 n.id.s,.int .u64 (n.id.u:Int),.int .u64 (n.a0:Int),.int .u64 (n.a1:Int),.int .u64 (n.a2:Int),.int .u64 (n.a3:Int),.int .i64 (n.lev:Int)]
def Af.past (n:Af) (k:Nat):Bool:=(n.ws.getD (k/64) 0).testBit (k%64)
structure Gph where
 gb:Nat
 mb:Nat
 mm:Nat
 cA:Option Addr
 cC:Nat
 cards:List Cd
 nA:Option Addr
 nC:Nat
 nodes:List Af
def Ae (l:List Af) (id:Id):Option Nat:=l.findIdx? (fun n=>decide (n.id=id))
theorem E1 {l:List Af} {id:Id} {i:Nat} (h:Ae l id=some i):∃n,l[i]? =some n∧n.id=id:=by
 obtain ⟨hi,h1,_⟩:=List.findIdx?_eq_some_iff_getElem.1 h;exact ⟨l[i],Am7 hi,by simpa using h1⟩
structure Af.okAt (w:World) (base:Nat) (n:Af):Prop where
 own:n.x.own w base
 ok:n.x.op.ok
 id:n.id.ok
 set:Ar n.ws n.past
theorem Af.okAt.at_ {w:World} {base:Nat} {n:Af} (h:n.okAt w base):n.x.at w w.heap.size:=h.own.at
theorem RowAt.non {w w':World} {base size n c:Nat} {t:TypeId} {A:Option Addr} {xs:List Value} (h:RowAt w base t size A n c xs) (hf:Fr Non w w'):RowAt w' base t size A n c xs:=h.fr hf (fun _ _ _ e=>e)
theorem OpL.own.keepP {S:Nat→Prop} {P:TypeId→Prop} {w w':World} {base:Nat} {x:OpL} (h:x.own w base) (hf:Fr S w w') (hS:Types S w P) (h1:¬P 36) (h2:¬P 71) (h3:¬P 129) (h4:¬P 5) (h5:¬P 34) (h6:¬P 3) (h7:¬P 133):x.own w' base where
 past:=h.past.keepT hf (hS.not h1)
 path:=h.path.keepT hf (hS.not h2)
 nodes y hy:=(h.nodes y hy).keepT hf (hS.not h3)
 body:=h.body.keepT hf (hS.not h4)
 refs:=h.refs.keepT hf (hS.not h5)
 guards:=h.guards.keepT hf (hS.not h6)
 boxes:=h.boxes.keepT hf (hS.not h3)
 hist:=h.hist.keepT hf (hS.not h7)
 seals y hy:=(h.seals y hy).keepT hf (hS.not h4)
theorem OpL.own.non {w w':World} {base:Nat} {x:OpL} (h:x.own w base) (hf:Fr Non w w'):x.own w' base:=
 h.keepP (P:=fun _=>False) hf (fun _ _ _ _ _ e=>e.elim) zq zq zq zq zq zq zq
structure GAt (w:World) (base:Nat) (g:Gph):Prop where
 blk:Blk w g.gb 88 #[.slice g.cA g.cards.length g.cC,.map (some g.mb),.slice g.nA g.nodes.length g.nC]
 pos:0<base
 gbase:base≤g.gb
 mbase:base≤g.mb
 crow:Own w base 95 5 g.cA g.cards.length g.cC (g.cards.flatMap Cd.cells)
 own:Own w base 93 35 g.nA g.nodes.length g.nC (g.nodes.flatMap Af.cells)
 few:g.nodes.length≤200
 mfew:g.mm≤g.nodes.length
 levs:∀n∈g.nodes,n.lev≤g.nodes.length
 cfew:g.cards.length≤1000000
 cok:∀c∈g.cards,c.s<18446744073709551616
 map:MapAt w g.mb g.mm (Ae g.nodes)
 node:∀n∈g.nodes,n.okAt w base
def Gph.own (g:Gph):Nat→Prop:=fun k=>k=g.gb∨k=g.mb∨Ac g.nA=some k
theorem GAt.fr {w w':World} {base:Nat} {g:Gph} (h:GAt w base g) (hf:Fr Non w w'):GAt w' base g where
 blk:=h.blk.fr hf zq
 pos:=h.pos
 gbase:=h.gbase
 mbase:=h.mbase
 crow:=h.crow.fr hf zr
 own:=h.own.fr hf zr
 few:=h.few
 mfew:=h.mfew
 levs:=h.levs
 cfew:=h.cfew
 cok:=h.cok
 map:=h.map.fr hf zq
 node:=fun n hn=>by
  have k:=h.node n hn;exact ⟨k.own.non hf,k.ok,k.id,k.set⟩
theorem GAt.cards {w:World} {base:Nat} {g:Gph} (h:GAt w base g):Rd w w.heap.size 5 g.cA g.cards.length (g.cards.flatMap Cd.cells):=h.crow.rd
theorem GAt.later {S:Nat→Prop} {w w':World} {base:Nat} {g:Gph} (h:GAt w base g) (hf:Fr S w w') (hS:∀k,k<w.heap.size→¬S k):GAt w' base g:=h.fr (hf.mono (fun k hk e=>hS k hk e))
theorem GAt.cell {w:World} {base:Nat} {g:Gph} (h:GAt w base g) {i:Nat} {n:Af} (hi:g.nodes[i]? =some n):
  ∃b off,g.nA=some ⟨b,off,none⟩∧b<w.heap.size∧∀j,j<35→∀u,n.cells[j]? =some u→w.cell? ⟨b,off+i*35+j,none⟩=some u:=
 Ey (f:=Af.cells) (fun _=>rfl) (by omega) h.own.rd hi
end Oq
end
section
open Go.RowKit
attribute [local go_sem ↓] Go.wp_at_zero Go.wp_at_succ
namespace Oq
attribute [local go_sem] Bool.not_false Bool.not_true
theorem Nt (base:Nat) (g:Gph) (w:World) (hg:GAt w base g):Calls Tryz.prog 16 #[.pointer (some ⟨g.gb,0,none⟩)] w fun e w'=>e=.returned (.int .i64 (g.nodes.length:Int))∧w=w':=by
 have c2:w.cell? ⟨g.gb,2,none⟩=some (.slice g.nA g.nodes.length g.nC):=hg.blk.cell 2;generalize g.nodes.length=n at*;clear hg;go_enter Tryz.func16,Tryz.ntmps16;go_wp2
 go_ret
 exact ⟨rfl,rfl⟩
def Gph.level (g:Gph) (id:Id):Nat:=match Ae g.nodes id with|some i=>(g.nodes[i]?.map Af.lev).getD 0|none=>0
theorem U2 (base:Nat) (g:Gph) (id:Id) (w:World) (hg:GAt w base g) (hid:id.ok):Calls Tryz.prog 17 #[.pointer (some ⟨g.gb,0,none⟩),.agg id.V] w fun e w'=>e=.returned (.int .i64 (g.level id:Int))∧GrowOf w w':=by
 have f0:GrowOf w (w.alloc (.cells id.V 36)):=(GrowOf.refl w).alloc _;have hb:=Blk.new w 36 id.V;have i0:(w.alloc (.cells id.V 36)).cell? ⟨w.heap.size,0,none⟩=some (.int .i64 id.b):=hb.cell 0;have i1:(w.alloc (.cells id.V 36)).cell? ⟨w.heap.size,1,none⟩=some (.int .i64 id.s):=hb.cell 1;have i2:(w.alloc (.cells id.V 36)).cell? ⟨w.heap.size,2,none⟩=some (.int .u64 (id.u:Int)):=hb.cell 2;have ac:=hg.fr f0.fr;have c1:(w.alloc (.cells id.V 36)).cell? ⟨g.gb,1,none⟩=some (.map (some g.mb)):=ac.blk.cell 1;have c2:(w.alloc (.cells id.V 36)).cell? ⟨g.gb,2,none⟩=some (.slice g.nA g.nodes.length g.nC):=ac.blk.cell 2;have aa:=ac.map;have ab:=fun (w':World) (h:MapAt w' g.mb g.mm (Ae g.nodes))=>MapAt.look h id hid;have ad:Hid (g.level id=match Ae g.nodes id with|some i=>(g.nodes[i]?.map Af.lev).getD 0|none=>0):=rfl;have al:Hid (∀i,Ae g.nodes id=some i→∃n,g.nodes[i]? =some n):=fun i hi=>by obtain ⟨n,h1,_⟩:=E1 hi;exact ⟨n,h1⟩
 have af:=Lib.hid (fun (i:Nat) (n:Af) (hi:g.nodes[i]? =some n)=>ac.cell hi);generalize g.level id=lv at*
 cases hp:Ae g.nodes id
 focus
  have hv:Hid (0=lv):=by show _=_;rw [ad.out,hp]
  rw [hp] at ab;clear hg ac hb ad hp;go_enter Tryz.func17,Tryz.ntmps17;go_wp2_with (fail);generalize hw0:w.alloc (.cells id.V 36)=w0 at*;clear hw0;refine wp_region_held_drew (S:=(fun w'=>w'.cell? ⟨w.heap.size,0,none⟩=some (.int .i64 id.b)∧w'.cell? ⟨w.heap.size,1,none⟩=some (.int .i64 id.s)∧w'.cell? ⟨w.heap.size,2,none⟩=some (.int .u64 (id.u:Int))∧w'.cell? ⟨g.gb,1,none⟩=some (.map (some g.mb))∧MapAt w' g.mb g.mm (Ae g.nodes))) (by kernel_rfl) ⟨i0,i1,i2,c1,aa⟩ (fun hHeld=> ?_);clear hHeld;have hS:(fun w'=>w'.cell? ⟨w.heap.size,0,none⟩=some (.int .i64 id.b)∧w'.cell? ⟨w.heap.size,1,none⟩=some (.int .i64 id.s)∧w'.cell? ⟨w.heap.size,2,none⟩=some (.int .u64 (id.u:Int))∧w'.cell? ⟨g.gb,1,none⟩=some (.map (some g.mb))∧MapAt w' g.mb g.mm (Ae g.nodes)) w0.drew:=⟨i0,i1,i2,c1,aa⟩;replace f0:=f0.drew
 rotate_left
 focus
  rename_i i;obtain ⟨n,hn,_⟩:=E1 hp;have hv:Hid (n.lev=lv):=by show _=_;rw [ad.out,hp];simp [hn]
  have ak:=hg.few;have ai:i<g.nodes.length:=(List.getElem?_eq_some_iff.1 hn).1;obtain ⟨b,ae,hA,aj,hc⟩:=ac.cell hn;have cl:(w.alloc (.cells id.V 36)).cell? ⟨b,ae+i*35+34,none⟩=some (.int .i64 (n.lev:Int)):=hc 34 (by omega) _ rfl;rw [hA] at c2;have j1:(0:Int)≤i:=by omega
  have j2:(i:Int)<g.nodes.length:=by omega
  have j3:(i:Int).toNat=i:=by omega
  have j4:IntKind.i64.wrap (i:Int)=i:=IntWalk.i64_in _ (by omega);rw [hp] at ab;clear hg ac hb ad hp hn ai hc hA aj;generalize g.nodes.length=nn at*;go_enter Tryz.func17,Tryz.ntmps17;go_wp2_with (fail);generalize hw0:w.alloc (.cells id.V 36)=w0 at*;clear hw0;have ah:=c2;have ag:=cl;refine wp_region_held_drew (S:=(fun w'=>w'.cell? ⟨w.heap.size,0,none⟩=some (.int .i64 id.b)∧w'.cell? ⟨w.heap.size,1,none⟩=some (.int .i64 id.s)∧w'.cell? ⟨w.heap.size,2,none⟩=some (.int .u64 (id.u:Int))∧w'.cell? ⟨g.gb,1,none⟩=some (.map (some g.mb))∧MapAt w' g.mb g.mm (Ae g.nodes))) (by kernel_rfl) ⟨i0,i1,i2,c1,aa⟩ (fun hHeld=> ?_);clear hHeld;have hS:(fun w'=>w'.cell? ⟨w.heap.size,0,none⟩=some (.int .i64 id.b)∧w'.cell? ⟨w.heap.size,1,none⟩=some (.int .i64 id.s)∧w'.cell? ⟨w.heap.size,2,none⟩=some (.int .u64 (id.u:Int))∧w'.cell? ⟨g.gb,1,none⟩=some (.map (some g.mb))∧MapAt w' g.mb g.mm (Ae g.nodes)) w0.drew:=⟨i0,i1,i2,c1,aa⟩;replace f0:=f0.drew;replace ah:w0.drew.cell? ⟨g.gb,2,none⟩=some (.slice (some ⟨b,ae,none⟩) nn g.nC):=ah;replace ag:w0.drew.cell? ⟨b,ae+i*35+34,none⟩=some (.int .i64 (n.lev:Int)):=ag
 all_goals
  refine tkH 0 hS (h:=tkH 1 hS (h:=tkH 2 hS (h:=tkH 3 hS (h:=tkH 4 hS (h:=tkH 5 hS (h:=tkH 6 hS (h:=tkH 7 hS (h:=tkH 8 hS (h:=tkH 9 hS (h:=tkH 10 hS (h:=?_)))))))))));simp only [List.set];refine oD ?_;go_simp;go_wp2_with (fail)
  go_ret
  exact ⟨congrArg (fun z:Nat=>Ending.returned (.int .i64 (z:Int))) hv.out,f0⟩
theorem Nu (base:Nat) (g:Gph) (id:Id) (w:World) (hg:GAt w base g) (hid:id.ok):Calls Tryz.prog 17 #[.pointer (some ⟨g.gb,0,none⟩),.agg id.V] w fun e w'=>e=.returned (.int .i64 (g.level id:Int))∧Fr Non w w':=
 (U2 base g id w hg hid).mono fun _ _ h=>⟨h.1,h.2.fr⟩
def Gph.before (g:Gph) (a b:Id):Bool:=match Ae g.nodes a,Ae g.nodes b with|some i,some j=>(g.nodes[j]?.map (fun n=>n.past i)).getD false|_,_=>false
theorem GAt.setAt {w:World} {base:Nat} {g:Gph} (h:GAt w base g) {i:Nat} {n:Af} (hi:g.nodes[i]? =some n):
  ∃b off,g.nA=some ⟨b,off,none⟩∧En w b (off+i*35+30) n.ws:=by
 obtain ⟨b,off,hA,hbB,hc⟩:=h.cell hi;refine ⟨b,off,hA,?_⟩;intro k hk
 match k,hk with
 |0,_=>exact hc 30 (by omega) _ rfl
 |1,_=>exact hc 31 (by omega) _ rfl
 |2,_=>exact hc 32 (by omega) _ rfl
 |3,_=>exact hc 33 (by omega) _ rfl
theorem Nv (base:Nat) (g:Gph) (a b:Id) (w:World) (hg:GAt w base g) (ha:a.ok) (hb:b.ok):Calls Tryz.prog 55 #[.pointer (some ⟨g.gb,0,none⟩),.agg a.V,.agg b.V] w fun e w'=>e=.returned (.bool (g.before a b))∧Fr Non w w':=by
 have f1:Fr Non w (w.alloc (.cells a.V 36)):=(Fr.refl Non w).alloc _;have f0:=f1.alloc (.cells b.V 36);have af:=Blk.new w 36 a.V;have ai:=Blk.new (w.alloc (.cells a.V 36)) 36 b.V;rw [Am9] at ai;replace af:=af.alloc (.cells b.V 36);have ag:=hg.fr f0;generalize hw0:(w.alloc (.cells a.V 36)).alloc (.cells b.V 36)=w0 at*;have i0:w0.cell? ⟨w.heap.size,0,none⟩=some (.int .i64 a.b):=af.cell 0;have i1:w0.cell? ⟨w.heap.size,1,none⟩=some (.int .i64 a.s):=af.cell 1;have i2:w0.cell? ⟨w.heap.size,2,none⟩=some (.int .u64 (a.u:Int)):=af.cell 2;have k0:w0.cell? ⟨w.heap.size+1,0,none⟩=some (.int .i64 b.b):=ai.cell 0;have k1:w0.cell? ⟨w.heap.size+1,1,none⟩=some (.int .i64 b.s):=ai.cell 1;have k2:w0.cell? ⟨w.heap.size+1,2,none⟩=some (.int .u64 (b.u:Int)):=ai.cell 2;have c1:w0.cell? ⟨g.gb,1,none⟩=some (.map (some g.mb)):=ag.blk.cell 1;have c2:w0.cell? ⟨g.gb,2,none⟩=some (.slice g.nA g.nodes.length g.nC):=ag.blk.cell 2;have ac:=ag.map;have ad:=fun (w':World) (h:MapAt w' g.mb g.mm (Ae g.nodes))=>MapAt.look h a ha;have ae:=fun (w':World) (h:MapAt w' g.mb g.mm (Ae g.nodes))=>MapAt.look h b hb;have ah:Hid (g.before a b=match Ae g.nodes a,Ae g.nodes b with|some i,some j=>(g.nodes[j]?.map (fun n=>n.past i)).getD false|_,_=>false):=rfl;generalize g.before a b=lv at*
 cases hpa:Ae g.nodes a
 ·
  cases hpb:Ae g.nodes b
  focus
   have hv:Hid (false=lv):=by show _=_;rw [ah.out,hpa]
   rw [hpa] at ad;rw [hpb] at ae;clear hg ag af ai ah hpa hpb
  rotate_left
  focus
   have hv:Hid (false=lv):=by show _=_;rw [ah.out,hpa]
   rw [hpa] at ad;rw [hpb] at ae;clear hg ag af ai ah hpa hpb;rename_i j
  all_goals
   go_enter Tryz.func55,Tryz.ntmps55;go_wp2_with (fail);clear hw0;refine wp_region_held_drew (S:=(fun w'=>w'.cell? ⟨w.heap.size,0,none⟩=some (.int .i64 a.b)∧w'.cell? ⟨w.heap.size,1,none⟩=some (.int .i64 a.s)∧w'.cell? ⟨w.heap.size,2,none⟩=some (.int .u64 (a.u:Int))∧w'.cell? ⟨(w.heap.size+1),0,none⟩=some (.int .i64 b.b)∧w'.cell? ⟨(w.heap.size+1),1,none⟩=some (.int .i64 b.s)∧w'.cell? ⟨(w.heap.size+1),2,none⟩=some (.int .u64 (b.u:Int))∧w'.cell? ⟨g.gb,1,none⟩=some (.map (some g.mb))∧MapAt w' g.mb g.mm (Ae g.nodes))) (by kernel_rfl) ⟨i0,i1,i2,k0,k1,k2,c1,ac⟩ (fun hHeld=> ?_);clear hHeld;have ab:(fun w'=>w'.cell? ⟨w.heap.size,0,none⟩=some (.int .i64 a.b)∧w'.cell? ⟨w.heap.size,1,none⟩=some (.int .i64 a.s)∧w'.cell? ⟨w.heap.size,2,none⟩=some (.int .u64 (a.u:Int))∧w'.cell? ⟨(w.heap.size+1),0,none⟩=some (.int .i64 b.b)∧w'.cell? ⟨(w.heap.size+1),1,none⟩=some (.int .i64 b.s)∧w'.cell? ⟨(w.heap.size+1),2,none⟩=some (.int .u64 (b.u:Int))∧w'.cell? ⟨g.gb,1,none⟩=some (.map (some g.mb))∧MapAt w' g.mb g.mm (Ae g.nodes)) w0.drew:=⟨i0,i1,i2,k0,k1,k2,c1,ac⟩;replace f0:=f0.drew;refine tkH 0 ab (h:=tkH 1 ab (h:=tkH 2 ab (h:=tkH 3 ab (h:=tkH 4 ab (h:=tkH 5 ab (h:=tkH 6 ab (h:=tkH 7 ab (h:=tkH 8 ab (h:=tkH 9 ab (h:=tkH 10 ab (h:=?_)))))))))));simp only [List.set];refine oD ?_;go_simp;go_wp2_with (fail);refine wp_region_held_drew (S:=(fun w'=>w'.cell? ⟨w.heap.size,0,none⟩=some (.int .i64 a.b)∧w'.cell? ⟨w.heap.size,1,none⟩=some (.int .i64 a.s)∧w'.cell? ⟨w.heap.size,2,none⟩=some (.int .u64 (a.u:Int))∧w'.cell? ⟨(w.heap.size+1),0,none⟩=some (.int .i64 b.b)∧w'.cell? ⟨(w.heap.size+1),1,none⟩=some (.int .i64 b.s)∧w'.cell? ⟨(w.heap.size+1),2,none⟩=some (.int .u64 (b.u:Int))∧w'.cell? ⟨g.gb,1,none⟩=some (.map (some g.mb))∧MapAt w' g.mb g.mm (Ae g.nodes))) (by kernel_rfl) ⟨i0,i1,i2,k0,k1,k2,c1,ac⟩ (fun hHeld=> ?_);clear hHeld;have aa:(fun w'=>w'.cell? ⟨w.heap.size,0,none⟩=some (.int .i64 a.b)∧w'.cell? ⟨w.heap.size,1,none⟩=some (.int .i64 a.s)∧w'.cell? ⟨w.heap.size,2,none⟩=some (.int .u64 (a.u:Int))∧w'.cell? ⟨(w.heap.size+1),0,none⟩=some (.int .i64 b.b)∧w'.cell? ⟨(w.heap.size+1),1,none⟩=some (.int .i64 b.s)∧w'.cell? ⟨(w.heap.size+1),2,none⟩=some (.int .u64 (b.u:Int))∧w'.cell? ⟨g.gb,1,none⟩=some (.map (some g.mb))∧MapAt w' g.mb g.mm (Ae g.nodes)) w0.drew.drew:=⟨i0,i1,i2,k0,k1,k2,c1,ac⟩;replace f0:=f0.drew;refine tkH 0 aa (h:=tkH 1 aa (h:=tkH 2 aa (h:=tkH 3 aa (h:=tkH 4 aa (h:=tkH 5 aa (h:=tkH 6 aa (h:=tkH 7 aa (h:=tkH 8 aa (h:=tkH 9 aa (h:=tkH 10 aa (h:=?_)))))))))));simp only [List.set];refine oD ?_;go_simp;go_wp2_with (fail)
   go_ret
   exact ⟨congrArg (fun z:Bool=>Ending.returned (.bool z)) hv.out,f0⟩
 ·
  cases hpb:Ae g.nodes b
  ·
   have hv:Hid (false=lv):=by show _=_;rw [ah.out,hpa,hpb]
   rw [hpa] at ad;rw [hpb] at ae;clear hg ag af ai ah hpa hpb;go_enter Tryz.func55,Tryz.ntmps55;go_wp2_with (fail);clear hw0;refine wp_region_held_drew (S:=(fun w'=>w'.cell? ⟨w.heap.size,0,none⟩=some (.int .i64 a.b)∧w'.cell? ⟨w.heap.size,1,none⟩=some (.int .i64 a.s)∧w'.cell? ⟨w.heap.size,2,none⟩=some (.int .u64 (a.u:Int))∧w'.cell? ⟨(w.heap.size+1),0,none⟩=some (.int .i64 b.b)∧w'.cell? ⟨(w.heap.size+1),1,none⟩=some (.int .i64 b.s)∧w'.cell? ⟨(w.heap.size+1),2,none⟩=some (.int .u64 (b.u:Int))∧w'.cell? ⟨g.gb,1,none⟩=some (.map (some g.mb))∧MapAt w' g.mb g.mm (Ae g.nodes))) (by kernel_rfl) ⟨i0,i1,i2,k0,k1,k2,c1,ac⟩ (fun hHeld=> ?_);clear hHeld;have ab:(fun w'=>w'.cell? ⟨w.heap.size,0,none⟩=some (.int .i64 a.b)∧w'.cell? ⟨w.heap.size,1,none⟩=some (.int .i64 a.s)∧w'.cell? ⟨w.heap.size,2,none⟩=some (.int .u64 (a.u:Int))∧w'.cell? ⟨(w.heap.size+1),0,none⟩=some (.int .i64 b.b)∧w'.cell? ⟨(w.heap.size+1),1,none⟩=some (.int .i64 b.s)∧w'.cell? ⟨(w.heap.size+1),2,none⟩=some (.int .u64 (b.u:Int))∧w'.cell? ⟨g.gb,1,none⟩=some (.map (some g.mb))∧MapAt w' g.mb g.mm (Ae g.nodes)) w0.drew:=⟨i0,i1,i2,k0,k1,k2,c1,ac⟩;replace f0:=f0.drew;refine tkH 0 ab (h:=tkH 1 ab (h:=tkH 2 ab (h:=tkH 3 ab (h:=tkH 4 ab (h:=tkH 5 ab (h:=tkH 6 ab (h:=tkH 7 ab (h:=tkH 8 ab (h:=tkH 9 ab (h:=tkH 10 ab (h:=?_)))))))))));simp only [List.set];refine oD ?_;go_simp;go_wp2_with (fail);refine wp_region_held_drew (S:=(fun w'=>w'.cell? ⟨w.heap.size,0,none⟩=some (.int .i64 a.b)∧w'.cell? ⟨w.heap.size,1,none⟩=some (.int .i64 a.s)∧w'.cell? ⟨w.heap.size,2,none⟩=some (.int .u64 (a.u:Int))∧w'.cell? ⟨(w.heap.size+1),0,none⟩=some (.int .i64 b.b)∧w'.cell? ⟨(w.heap.size+1),1,none⟩=some (.int .i64 b.s)∧w'.cell? ⟨(w.heap.size+1),2,none⟩=some (.int .u64 (b.u:Int))∧w'.cell? ⟨g.gb,1,none⟩=some (.map (some g.mb))∧MapAt w' g.mb g.mm (Ae g.nodes))) (by kernel_rfl) ⟨i0,i1,i2,k0,k1,k2,c1,ac⟩ (fun hHeld=> ?_);clear hHeld;have aa:(fun w'=>w'.cell? ⟨w.heap.size,0,none⟩=some (.int .i64 a.b)∧w'.cell? ⟨w.heap.size,1,none⟩=some (.int .i64 a.s)∧w'.cell? ⟨w.heap.size,2,none⟩=some (.int .u64 (a.u:Int))∧w'.cell? ⟨(w.heap.size+1),0,none⟩=some (.int .i64 b.b)∧w'.cell? ⟨(w.heap.size+1),1,none⟩=some (.int .i64 b.s)∧w'.cell? ⟨(w.heap.size+1),2,none⟩=some (.int .u64 (b.u:Int))∧w'.cell? ⟨g.gb,1,none⟩=some (.map (some g.mb))∧MapAt w' g.mb g.mm (Ae g.nodes)) w0.drew.drew:=⟨i0,i1,i2,k0,k1,k2,c1,ac⟩;replace f0:=f0.drew;refine tkH 0 aa (h:=tkH 1 aa (h:=tkH 2 aa (h:=tkH 3 aa (h:=tkH 4 aa (h:=tkH 5 aa (h:=tkH 6 aa (h:=tkH 7 aa (h:=tkH 8 aa (h:=tkH 9 aa (h:=tkH 10 aa (h:=?_)))))))))));simp only [List.set];refine oD ?_;go_simp;go_wp2_with (fail)
   go_ret
   exact ⟨congrArg (fun z:Bool=>Ending.returned (.bool z)) hv.out,f0⟩
  ·
   rename_i i j;obtain ⟨n,hn,_⟩:=E1 hpb;obtain ⟨n',ar,_⟩:=E1 hpa;have hv:Hid (n.past i=lv):=by show _=_;rw [ah.out,hpa,hpb];simp [hn]
   have ap:=hg.few;have au:j<g.nodes.length:=(List.getElem?_eq_some_iff.1 hn).1;have al:i<g.nodes.length:=(List.getElem?_eq_some_iff.1 ar).1;obtain ⟨bb,aq,hA,ao⟩:=ag.setAt hn;have ak:=(hg.node n (An0 hn)).set;rw [hA] at c2;have j1:(0:Int)≤j:=by omega
   have j2:(j:Int)<g.nodes.length:=by omega
   have j3:(j:Int).toNat=j:=by omega
   have j4:IntKind.i64.wrap (j:Int)=j:=IntWalk.i64_in _ (by omega);have aj:i<256:=by omega
   rw [hpa] at ad;rw [hpb] at ae;clear hg ag af ai ah hpa hpb hn ar au al hA ap;generalize g.nodes.length=nn at*;go_enter Tryz.func55,Tryz.ntmps55;go_wp2_with (fail);clear hw0;refine wp_region_held_drew (S:=(fun w'=>w'.cell? ⟨w.heap.size,0,none⟩=some (.int .i64 a.b)∧w'.cell? ⟨w.heap.size,1,none⟩=some (.int .i64 a.s)∧w'.cell? ⟨w.heap.size,2,none⟩=some (.int .u64 (a.u:Int))∧w'.cell? ⟨(w.heap.size+1),0,none⟩=some (.int .i64 b.b)∧w'.cell? ⟨(w.heap.size+1),1,none⟩=some (.int .i64 b.s)∧w'.cell? ⟨(w.heap.size+1),2,none⟩=some (.int .u64 (b.u:Int))∧w'.cell? ⟨g.gb,1,none⟩=some (.map (some g.mb))∧MapAt w' g.mb g.mm (Ae g.nodes))) (by kernel_rfl) ⟨i0,i1,i2,k0,k1,k2,c1,ac⟩ (fun hHeld=> ?_);clear hHeld;have ab:(fun w'=>w'.cell? ⟨w.heap.size,0,none⟩=some (.int .i64 a.b)∧w'.cell? ⟨w.heap.size,1,none⟩=some (.int .i64 a.s)∧w'.cell? ⟨w.heap.size,2,none⟩=some (.int .u64 (a.u:Int))∧w'.cell? ⟨(w.heap.size+1),0,none⟩=some (.int .i64 b.b)∧w'.cell? ⟨(w.heap.size+1),1,none⟩=some (.int .i64 b.s)∧w'.cell? ⟨(w.heap.size+1),2,none⟩=some (.int .u64 (b.u:Int))∧w'.cell? ⟨g.gb,1,none⟩=some (.map (some g.mb))∧MapAt w' g.mb g.mm (Ae g.nodes)) w0.drew:=⟨i0,i1,i2,k0,k1,k2,c1,ac⟩;replace f0:=f0.drew;refine tkH 0 ab (h:=tkH 1 ab (h:=tkH 2 ab (h:=tkH 3 ab (h:=tkH 4 ab (h:=tkH 5 ab (h:=tkH 6 ab (h:=tkH 7 ab (h:=tkH 8 ab (h:=tkH 9 ab (h:=tkH 10 ab (h:=?_)))))))))));simp only [List.set];refine oD ?_;go_simp;go_wp2_with (fail);refine wp_region_held_drew (S:=(fun w'=>w'.cell? ⟨w.heap.size,0,none⟩=some (.int .i64 a.b)∧w'.cell? ⟨w.heap.size,1,none⟩=some (.int .i64 a.s)∧w'.cell? ⟨w.heap.size,2,none⟩=some (.int .u64 (a.u:Int))∧w'.cell? ⟨(w.heap.size+1),0,none⟩=some (.int .i64 b.b)∧w'.cell? ⟨(w.heap.size+1),1,none⟩=some (.int .i64 b.s)∧w'.cell? ⟨(w.heap.size+1),2,none⟩=some (.int .u64 (b.u:Int))∧w'.cell? ⟨g.gb,1,none⟩=some (.map (some g.mb))∧MapAt w' g.mb g.mm (Ae g.nodes))) (by kernel_rfl) ⟨i0,i1,i2,k0,k1,k2,c1,ac⟩ (fun hHeld=> ?_);clear hHeld;have aa:(fun w'=>w'.cell? ⟨w.heap.size,0,none⟩=some (.int .i64 a.b)∧w'.cell? ⟨w.heap.size,1,none⟩=some (.int .i64 a.s)∧w'.cell? ⟨w.heap.size,2,none⟩=some (.int .u64 (a.u:Int))∧w'.cell? ⟨(w.heap.size+1),0,none⟩=some (.int .i64 b.b)∧w'.cell? ⟨(w.heap.size+1),1,none⟩=some (.int .i64 b.s)∧w'.cell? ⟨(w.heap.size+1),2,none⟩=some (.int .u64 (b.u:Int))∧w'.cell? ⟨g.gb,1,none⟩=some (.map (some g.mb))∧MapAt w' g.mb g.mm (Ae g.nodes)) w0.drew.drew:=⟨i0,i1,i2,k0,k1,k2,c1,ac⟩;replace f0:=f0.drew;refine tkH 0 aa (h:=tkH 1 aa (h:=tkH 2 aa (h:=tkH 3 aa (h:=tkH 4 aa (h:=tkH 5 aa (h:=tkH 6 aa (h:=tkH 7 aa (h:=tkH 8 aa (h:=tkH 9 aa (h:=tkH 10 aa (h:=?_)))))))))));simp only [List.set];refine oD ?_;go_simp;replace c2:w0.drew.drew.cell? ⟨g.gb,2,none⟩=some (.slice (some ⟨bb,aq,none⟩) nn g.nC):=c2;replace ao:En w0.drew.drew bb (aq+j*35+30) n.ws:=ao;go_wp2_with (go_at_call 47;(with_reducible refine (J2 _ _ _ _ i _ ak ao aj).mono ?_);rintro _ _ ⟨rfl,rfl⟩)
   go_ret
   exact ⟨congrArg (fun z:Bool=>Ending.returned (.bool z)) hv.out,f0⟩
theorem U3 (base:Nat) (g:Gph) (gv:Nat) (id:Id) (w:World) (hg:GAt w base g) (hv:w.cell? ⟨gv,0,none⟩=some (.pointer (some ⟨g.gb,0,none⟩))) (hid:id.ok):
  Calls Tryz.prog 39 #[.agg id.V,.pointer (some ⟨gv,0,none⟩)] w (Ad (Ae g.nodes id).isSome w):=by
 have f0:Fr Non w (w.alloc (.cells id.V 36)):=(Fr.refl Non w).alloc _;have hb:=Blk.new w 36 id.V;have ac:=hg.fr f0;replace hv:=f0.cell hv zq;generalize hw0:w.alloc (.cells id.V 36)=w0 at*;have i0:w0.cell? ⟨w.heap.size,0,none⟩=some (.int .i64 id.b):=hb.cell 0;have i1:w0.cell? ⟨w.heap.size,1,none⟩=some (.int .i64 id.s):=hb.cell 1;have i2:w0.cell? ⟨w.heap.size,2,none⟩=some (.int .u64 (id.u:Int)):=hb.cell 2;have c1:w0.cell? ⟨g.gb,1,none⟩=some (.map (some g.mb)):=ac.blk.cell 1;have aa:=ac.map;have ab:=fun (w':World) (h:MapAt w' g.mb g.mm (Ae g.nodes))=>MapAt.look h id hid;clear hg ac hb
 cases hp:Ae g.nodes id
 ·
  rw [hp] at ab;go_enter Tryz.func39,Tryz.ntmps39;go_wp2_with (fail);try rw [hw0]
  clear hw0 hp;refine wp_region_held_drew (S:=(fun w'=>w'.cell? ⟨w.heap.size,0,none⟩=some (.int .i64 id.b)∧w'.cell? ⟨w.heap.size,1,none⟩=some (.int .i64 id.s)∧w'.cell? ⟨w.heap.size,2,none⟩=some (.int .u64 (id.u:Int))∧w'.cell? ⟨g.gb,1,none⟩=some (.map (some g.mb))∧w'.cell? ⟨gv,0,none⟩=some (.pointer (some ⟨g.gb,0,none⟩))∧MapAt w' g.mb g.mm (Ae g.nodes))) (by kernel_rfl) ⟨i0,i1,i2,c1,hv,aa⟩ (fun hHeld=> ?_);clear hHeld;have hS:(fun w'=>w'.cell? ⟨w.heap.size,0,none⟩=some (.int .i64 id.b)∧w'.cell? ⟨w.heap.size,1,none⟩=some (.int .i64 id.s)∧w'.cell? ⟨w.heap.size,2,none⟩=some (.int .u64 (id.u:Int))∧w'.cell? ⟨g.gb,1,none⟩=some (.map (some g.mb))∧w'.cell? ⟨gv,0,none⟩=some (.pointer (some ⟨g.gb,0,none⟩))∧MapAt w' g.mb g.mm (Ae g.nodes)) w0.drew:=⟨i0,i1,i2,c1,hv,aa⟩;replace f0:=f0.drew;refine tkH 0 hS (h:=tkH 1 hS (h:=tkH 2 hS (h:=tkH 3 hS (h:=tkH 4 hS (h:=tkH 5 hS (h:=tkH 6 hS (h:=tkH 7 hS (h:=tkH 8 hS (h:=tkH 9 hS (h:=tkH 10 hS (h:=?_)))))))))));simp only [List.set];refine oD ?_;go_simp;go_wp2_with (fail)
  go_ret
  exact ⟨rfl,f0⟩
 ·
  rw [hp] at ab;go_enter Tryz.func39,Tryz.ntmps39;go_wp2_with (fail);try rw [hw0]
  clear hw0 hp;refine wp_region_held_drew (S:=(fun w'=>w'.cell? ⟨w.heap.size,0,none⟩=some (.int .i64 id.b)∧w'.cell? ⟨w.heap.size,1,none⟩=some (.int .i64 id.s)∧w'.cell? ⟨w.heap.size,2,none⟩=some (.int .u64 (id.u:Int))∧w'.cell? ⟨g.gb,1,none⟩=some (.map (some g.mb))∧w'.cell? ⟨gv,0,none⟩=some (.pointer (some ⟨g.gb,0,none⟩))∧MapAt w' g.mb g.mm (Ae g.nodes))) (by kernel_rfl) ⟨i0,i1,i2,c1,hv,aa⟩ (fun hHeld=> ?_);clear hHeld;have hS:(fun w'=>w'.cell? ⟨w.heap.size,0,none⟩=some (.int .i64 id.b)∧w'.cell? ⟨w.heap.size,1,none⟩=some (.int .i64 id.s)∧w'.cell? ⟨w.heap.size,2,none⟩=some (.int .u64 (id.u:Int))∧w'.cell? ⟨g.gb,1,none⟩=some (.map (some g.mb))∧w'.cell? ⟨gv,0,none⟩=some (.pointer (some ⟨g.gb,0,none⟩))∧MapAt w' g.mb g.mm (Ae g.nodes)) w0.drew:=⟨i0,i1,i2,c1,hv,aa⟩;replace f0:=f0.drew;refine tkH 0 hS (h:=tkH 1 hS (h:=tkH 2 hS (h:=tkH 3 hS (h:=tkH 4 hS (h:=tkH 5 hS (h:=tkH 6 hS (h:=tkH 7 hS (h:=tkH 8 hS (h:=tkH 9 hS (h:=tkH 10 hS (h:=?_)))))))))));simp only [List.set];refine oD ?_;go_simp;go_wp2_with (fail)
  go_ret
  exact ⟨rfl,f0⟩
end Oq
namespace Oq
theorem U4 {α:Type} (l:List α) (q:α→Bool) {k:Nat} {x:α} (h:l[k]? =some x):(l.take (k+1)).any q=((l.take k).any q||q x):=by
 obtain ⟨hk,rfl⟩:=List.getElem?_eq_some_iff.1 h;rw [List.take_succ_eq_append_getElem hk,List.any_append];simp
def U5 (l:List Id) (p:Id→Bool) (w:World) (e:Ending) (w':World):Prop:=
 ((∃(k:Nat) (id:Id),e=.returned (.int .i64 (k:Int))∧l[k]? =some id∧p id=true∧(l.take k).any p=false)∨(e=.returned (.int .i64 (-1))∧l.any p=false))∧Fr Non w w'
theorem U6 (B n c gv:Nat) (A:Option Addr) (l:List Id) (p:Id→Bool) (w:World) (hn:Hid (l.length=n)) (hr:Rd w B 3 A n (l.flatMap Id.cells)) (hnm:n≤1000000)
  (hmay:Hid (∀x∈l,∀w':World,Fr Non w w'→Calls Tryz.prog 39 #[.agg x.V,.pointer (some ⟨gv,0,none⟩)] w' (Ad (p x) w'))):
  Calls Tryz.prog 71 #[.slice A n c,.func (.func 39) #[] #[.pointer (some ⟨gv,0,none⟩)]] w (U5 l p w):=by
 go_enter Tryz.func71,Tryz.ntmps71;go_wp2
 go_loopw [8] (fun v wr=>∃k:Nat,v=.int .i64 (k:Int)∧k≤n∧Hid ((l.take k).any p=false)∧Fr Non w wr) (fun v _=>n-(intOf v).toNat)
 case atStart=>exact ⟨0,rfl,by omega,rfl,Fr.refl _ _⟩
 case round=>
  obtain ⟨k,rfl,hk,hh,hf⟩:=hrel
  by_cases hlt:k<n
  ·
   have i1:(0:Int)≤k:=by omega
   have i2:(k:Int)<n:=by omega
   have i3:(k:Int).toNat=k:=by omega
   obtain ⟨x,hx⟩:∃x,l[k]? =some x:=⟨_,Am7 (by rw [hn.out];exact hlt)⟩;obtain ⟨b,off,rfl,hbB,k0,k1,k2⟩:=Id.at (hr.fr hf zr) hx;have hmem:=An0 hx;have hsn:=Lib.hid (U4 l p hx);have hc:=Lib.hid (fun w' (h:Fr Non wr w')=>hmay.out x hmem w' (hf.trans h zr));have hx':=Lib.hid hx;clear hx hmem
   rcases zb (p x) with hp|hp
   ·
    have hp':=Lib.hid hp;rw [hp] at hc hsn;clear hp;go_wp2_with (go_at_call 39;(with_reducible refine (hc.out _ (by first|exact Fr.refl _ _|exact (Fr.refl Non wr).alloc _)).mono ?_);rintro _ w1 ⟨rfl,f1⟩)
    go_ret
    exact ⟨.inl ⟨k,x,rfl,hx'.out,hp'.out,hh.out⟩,by first|exact hf.trans f1 zr|exact (hf.alloc _).trans f1 zr⟩
   ·
    rw [hp] at hc hsn;clear hp;go_wp2_with (go_at_call 39;(with_reducible refine (hc.out _ (by first|exact Fr.refl _ _|exact (Fr.refl Non wr).alloc _)).mono ?_);rintro _ w1 ⟨rfl,f1⟩);go_roundw
    case rel=>exact ⟨k+1,by go_num,by omega,by show _=_;rw [hsn.out,hh.out];rfl,by first|exact hf.trans f1 zr|exact (hf.alloc _).trans f1 zr⟩
    case measure=>simp [intOf];omega
  ·
   obtain rfl:k=n:=by omega
   have hfin:l.any p=false:=by have h:=hh.out;rw [An1 (by rw [hn.out];omega)] at h;exact h
   go_wp2
   go_ret
   exact ⟨.inr ⟨rfl,hfin⟩,hf⟩
end Oq
namespace Oq
attribute [local go_sem] Bool.not_false Bool.not_true
def Cd.zero:Cd:=⟨0,0,0,0,0⟩
def Er (c:Cd) (b:Bool) (w:World) (e:Ending) (w':World):Prop:=e=.returned (.tuple #[.agg c.cells.toArray,.bool b])∧Fr Non w w'
def Gph.card (g:Gph) (d:Int):Option Cd:=g.cards.find? (fun c=>c.d==d)
theorem Nw (base:Nat) (g:Gph) (d:Int) (w:World) (hg:GAt w base g) (hn:g.cards.length≤1000000):Calls Tryz.prog 43 #[.pointer (some ⟨g.gb,0,none⟩),.int .i64 d] w (Er ((g.card d).getD Cd.zero) (g.card d).isSome w):=by
 have hr:=hg.cards;have c0:w.cell? ⟨g.gb,0,none⟩=some (.slice g.cA g.cards.length g.cC):=hg.blk.cell 0;have ab:Hid (g.card d=g.cards.find? (fun c=>c.d==d)):=rfl;generalize g.card d=R at*;clear hg;generalize hl:g.cards=l at*;clear hl;obtain ⟨n,ac⟩:=Aa l.length;rw [ac.out] at hr c0 hn;have f0:Fr Non w (w.alloc (.cells zC 95)):=(Fr.refl Non w).alloc _;have b0:=Blk.new w 95 zC;replace hr:=hr.fr f0 zr;replace c0:=f0.cell c0 zq;go_enter Tryz.func43,Tryz.ntmps43;go_upto_region 1 with (fail)
 generalize w.alloc (.cells zC 95)=w0 at*;go_wp2_with (fail)
 go_loopw [5,13] (fun r v wr=>∃k:Nat,r=.bool false∧v=.int .i64 (k:Int)∧k≤n∧Hid ((l.take k).find? (fun c=>c.d==d)=none)∧Fr Non w0 wr) (fun _ v _=>n-(intOf v).toNat)
 case atStart=>exact ⟨0,rfl,rfl,by omega,rfl,Fr.refl _ _⟩
 case round=>
  obtain ⟨k,rfl,rfl,hk,hh,hf⟩:=hrel
  by_cases hlt:k<n
  ·
   have i1:(0:Int)≤k:=by omega
   have i2:(k:Int)<n:=by omega
   have i3:(k:Int).toNat=k:=by omega
   obtain ⟨c,hc⟩:∃c,l[k]? =some c:=⟨_,Am7 (by rw [ac.out];exact hlt)⟩;obtain ⟨b,ad,hA,ai,aa⟩:=Ey (f:=Cd.cells) (fun _=>rfl) (by omega) (hr.fr hf zr) hc;have d0:wr.cell? ⟨b,ad+k*5,none⟩=some (.int .i64 c.d):=aa 0 (by omega) _ rfl;have d1:wr.cell? ⟨b,ad+k*5+1,none⟩=some (.int .i64 c.m):=aa 1 (by omega) _ rfl;have d2:wr.cell? ⟨b,ad+k*5+2,none⟩=some (.int .u64 (c.l:Int)):=aa 2 (by omega) _ rfl;have d3:wr.cell? ⟨b,ad+k*5+3,none⟩=some (.int .u64 (c.k:Int)):=aa 3 (by omega) _ rfl;have d4:wr.cell? ⟨b,ad+k*5+4,none⟩=some (.int .u64 (c.s:Int)):=aa 4 (by omega) _ rfl;clear aa ai;rw [hA];have b1:=b0.fr hf zq
   rcases zb (c.d==d) with hcd|hcd
   ·
    have hR:Hid (R=some c):=by
     show _=_;rw [ab.out,← List.take_append_drop k l,An6,hh.out,List.drop_eq_getElem_cons (by rw [ac.out];exact hlt)];rw [Am7 (by rw [ac.out];exact hlt)] at hc;rw [Option.some.inj hc];simp [hcd]
    have ae:c.d=d:=by simpa using hcd
    have f1:=f0.trans hf zr
    have af:Hid (∀wz,Fr (One w.heap.size) wr wz→Er (R.getD Cd.zero) R.isSome w (.returned (.tuple #[.agg #[.int .i64 c.d,.int .i64 c.m,.int .u64 (c.l:Int),.int .u64 (c.k:Int),.int .u64 (c.s:Int)],.bool true])) wz):=by
     intro wz hz;refine ⟨?_,f1.trans hz (fun k hk e=>absurd hk (by have e':k=w.heap.size:=e;omega))⟩;rw [hR.out];rfl
    clear ab hc hh f1;generalize R.getD Cd.zero=RC at*;generalize R.isSome=RS at*;have bz:=b1.alloc (.cells #[.int .i64 c.d,.int .i64 c.m,.int .u64 (c.l:Int),.int .u64 (c.k:Int),.int .u64 (c.s:Int)] 95);have e0:(wr.alloc (.cells #[.int .i64 c.d,.int .i64 c.m,.int .u64 (c.l:Int),.int .u64 (c.k:Int),.int .u64 (c.s:Int)] 95)).cell? ⟨w.heap.size,0,none⟩=some (.int .i64 0):=bz.cell 0;have z0:(wr.alloc (.cells #[.int .i64 c.d,.int .i64 c.m,.int .u64 (c.l:Int),.int .u64 (c.k:Int),.int .u64 (c.s:Int)] 95)).frozen? ⟨w.heap.size,0,none⟩=false:=bz.frozen 0;have e1:(wr.alloc (.cells #[.int .i64 c.d,.int .i64 c.m,.int .u64 (c.l:Int),.int .u64 (c.k:Int),.int .u64 (c.s:Int)] 95)).cell? ⟨w.heap.size,1,none⟩=some (.int .i64 0):=bz.cell 1;have z1:(wr.alloc (.cells #[.int .i64 c.d,.int .i64 c.m,.int .u64 (c.l:Int),.int .u64 (c.k:Int),.int .u64 (c.s:Int)] 95)).frozen? ⟨w.heap.size,1,none⟩=false:=bz.frozen 1;have e2:(wr.alloc (.cells #[.int .i64 c.d,.int .i64 c.m,.int .u64 (c.l:Int),.int .u64 (c.k:Int),.int .u64 (c.s:Int)] 95)).cell? ⟨w.heap.size,2,none⟩=some (.int .u64 0):=bz.cell 2;have z2:(wr.alloc (.cells #[.int .i64 c.d,.int .i64 c.m,.int .u64 (c.l:Int),.int .u64 (c.k:Int),.int .u64 (c.s:Int)] 95)).frozen? ⟨w.heap.size,2,none⟩=false:=bz.frozen 2;have e3:(wr.alloc (.cells #[.int .i64 c.d,.int .i64 c.m,.int .u64 (c.l:Int),.int .u64 (c.k:Int),.int .u64 (c.s:Int)] 95)).cell? ⟨w.heap.size,3,none⟩=some (.int .u64 0):=bz.cell 3;have z3:(wr.alloc (.cells #[.int .i64 c.d,.int .i64 c.m,.int .u64 (c.l:Int),.int .u64 (c.k:Int),.int .u64 (c.s:Int)] 95)).frozen? ⟨w.heap.size,3,none⟩=false:=bz.frozen 3;have e4:(wr.alloc (.cells #[.int .i64 c.d,.int .i64 c.m,.int .u64 (c.l:Int),.int .u64 (c.k:Int),.int .u64 (c.s:Int)] 95)).cell? ⟨w.heap.size,4,none⟩=some (.int .u64 0):=bz.cell 4;have z4:(wr.alloc (.cells #[.int .i64 c.d,.int .i64 c.m,.int .u64 (c.l:Int),.int .u64 (c.k:Int),.int .u64 (c.s:Int)] 95)).frozen? ⟨w.heap.size,4,none⟩=false:=bz.frozen 4;have ag:=(((((bz.set 0 (.int .i64 c.d)).set 1 (.int .i64 c.m)).set 2 (.int .u64 (c.l:Int))).set 3 (.int .u64 (c.k:Int))).set 4 (.int .u64 (c.s:Int)));have fz:=(((((((Fr.refl (One w.heap.size) wr).alloc (.cells #[.int .i64 c.d,.int .i64 c.m,.int .u64 (c.l:Int),.int .u64 (c.k:Int),.int .u64 (c.s:Int)] 95)).setCell (p:=⟨w.heap.size,0,none⟩) (fun _=>rfl) (.int .i64 c.d)).setCell (p:=⟨w.heap.size,1,none⟩) (fun _=>rfl) (.int .i64 c.m)).setCell (p:=⟨w.heap.size,2,none⟩) (fun _=>rfl) (.int .u64 (c.l:Int))).setCell (p:=⟨w.heap.size,3,none⟩) (fun _=>rfl) (.int .u64 (c.k:Int))).setCell (p:=⟨w.heap.size,4,none⟩) (fun _=>rfl) (.int .u64 (c.s:Int)));rw [ae] at af bz fz ag e0 e1 e2 e3 e4 z0 z1 z2 z3 z4;clear b1 bz;go_wp2_with (fail)
    (try simp only [Exit.inBlock,Exit.then])
    refine E0 (t:=95) rfl rfl ag rfl Tryz.underlying95 (by kernel_rfl) rfl ?_;exact af.out _ fz
   ·
    have ah:Hid ((l.take (k+1)).find? (fun c=>c.d==d)=none):=by
     show _=_;rw [List.take_add_one,An6,hh.out,hc];simp [hcd]
    have ae:¬c.d=d:=by simpa using hcd
    clear ab hc hh b1;go_wp2_with (fail);go_roundw
    case rel=>exact ⟨k+1,rfl,by go_num,by omega,ah,hf.alloc _⟩
    case measure=>simp [intOf];omega
  ·
   obtain rfl:n=k:=by omega
   have hR:Hid (R=none):=by
    show _=_;rw [ab.out];have h:=hh.out;rwa [An1 (by rw [ac.out];omega)] at h
   have b1:=b0.fr hf zq;have f1:=f0.trans hf zr
   have af:Hid (∀wz,Fr (One w.heap.size) wr wz→Er (R.getD Cd.zero) R.isSome w (.returned (.tuple #[.agg zC,.bool false])) wz):=by
    intro wz hz;refine ⟨?_,f1.trans hz (fun k hk e=>absurd hk (by have e':k=w.heap.size:=e;omega))⟩;rw [hR.out];rfl
   clear ab hh;generalize R.getD Cd.zero=RC at*;generalize R.isSome=RS at*;have e0:wr.cell? ⟨w.heap.size,0,none⟩=some (.int .i64 0):=b1.cell 0;have z0:wr.frozen? ⟨w.heap.size,0,none⟩=false:=b1.frozen 0;have e1:wr.cell? ⟨w.heap.size,1,none⟩=some (.int .i64 0):=b1.cell 1;have z1:wr.frozen? ⟨w.heap.size,1,none⟩=false:=b1.frozen 1;have e2:wr.cell? ⟨w.heap.size,2,none⟩=some (.int .u64 0):=b1.cell 2;have z2:wr.frozen? ⟨w.heap.size,2,none⟩=false:=b1.frozen 2;have e3:wr.cell? ⟨w.heap.size,3,none⟩=some (.int .u64 0):=b1.cell 3;have z3:wr.frozen? ⟨w.heap.size,3,none⟩=false:=b1.frozen 3;have e4:wr.cell? ⟨w.heap.size,4,none⟩=some (.int .u64 0):=b1.cell 4;have z4:wr.frozen? ⟨w.heap.size,4,none⟩=false:=b1.frozen 4;have ag:=(((((b1.set 0 (.int .i64 0)).set 1 (.int .i64 0)).set 2 (.int .u64 0)).set 3 (.int .u64 0)).set 4 (.int .u64 0));have fz:=((((((Fr.refl (One w.heap.size) wr).setCell (p:=⟨w.heap.size,0,none⟩) (fun _=>rfl) (.int .i64 0)).setCell (p:=⟨w.heap.size,1,none⟩) (fun _=>rfl) (.int .i64 0)).setCell (p:=⟨w.heap.size,2,none⟩) (fun _=>rfl) (.int .u64 0)).setCell (p:=⟨w.heap.size,3,none⟩) (fun _=>rfl) (.int .u64 0)).setCell (p:=⟨w.heap.size,4,none⟩) (fun _=>rfl) (.int .u64 0));go_wp2_with (fail)
   (try simp only [Exit.inBlock,Exit.then])
   refine E0 (t:=95) rfl rfl ag rfl Tryz.underlying95 (by kernel_rfl) rfl ?_;exact af.out _ fz
end Oq
namespace Oq
attribute [local go_sem] Jv
attribute [local go_sem ↓] Ch Ea Tu Tv Tw Tx Ty Tz T3 T4
def GG (g go:Nat):Nat→Prop:=fun k=>k=g∨k=go
theorem OpBlk.of {w:World} {g:Nat} {cs:Array Value} (h:Blk w g 44 cs) (hs:cs.size=27):OpBlk w g:=⟨cs,h,hs⟩
theorem GG.set {a w:World} {g go:Nat} (h:Fr (GG g go) a w) (i:Nat) (u:Value):Fr (GG g go) a (w.setCell ⟨go,i,none⟩ u):=h.setCell (p:=⟨go,i,none⟩) (fun _=> .inr rfl) u
theorem GG.one {a w w':World} {g go:Nat} (h:Fr (GG g go) a w) (k:Fr (One g) w w'):Fr (GG g go) a w':=h.trans k (fun _ _ e=> .inl e)
end Oq
namespace Oq
attribute [local go_sem] Jv
theorem Blk.el {w:World} {k:Nat} {t:TypeId} {l:List Int} (h:Blk w k t (l.map Iv).toArray) {i:Nat} {x:Int} (hx:l[i]? =some x):w.cell? ⟨k,i,none⟩=some (.int .i64 x):=by
 rw [h.cell i];simp [hx,Iv]
theorem J8 (B g gp k:Nat) (A0:Option Addr) (c0:Nat) (bs:List UInt8) (l:List Int) (n:Nat) (w:World) (ho:OutAt w B g A0 c0 bs) (hp:Blk w gp 134 #[.pointer (some ⟨g,0,none⟩)]) (hk:Blk w k 3 (l.map Iv).toArray) (hn:Hid (l.length=n)) (hn0:0<n) (hok:∀x∈l,I64 x)
  (hl:bs.length+10*n≤1099511627700) (hn1:n≤1000):
  Calls Tryz.prog 133 #[.slice (some ⟨k,0,none⟩) n n,.pointer (some ⟨gp,0,none⟩)] w (C9 B g A0 (bs++l.flatMap Pk.int) w):=by
 go_enter Tryz.func133,Tryz.ntmps133;go_wp2
 go_loopw [7] (fun v wr=>∃(i:Nat) (A:Option Addr) (c:Nat) (D:List UInt8),v=.int .i64 (i:Int)∧i≤n∧Hid (D=bs++(l.take i).flatMap Pk.int)∧D.length≤bs.length+10*i∧OutAt wr B g A c D∧Bd g w A0 wr A∧Blk wr gp 134 #[.pointer (some ⟨g,0,none⟩)]∧Blk wr k 3 (l.map Iv).toArray) (fun v _=>n-(intOf v).toNat)
 case atStart=>exact ⟨0,A0,c0,bs,rfl,by omega,by show _=_;simp,by simp,ho,Bd.refl _ _ _,hp,hk⟩
 case round=>
  obtain ⟨i,A,c,D,rfl,hin,hD,hDl,hoi,hst,hpi,hki⟩:=hrel
  by_cases hlt:i<n
  ·
   obtain ⟨x,hx⟩:∃x,l[i]? =some x:=⟨_,Am7 (by rw [hn.out];exact hlt)⟩;have hxo:=hok x (An0 hx);have k0:=Blk.el hki hx;have p0:=hpi.cell 0;have hx':=Lib.hid hx;clear hx;have hxl:=Pk.int_len x;go_wp2_with (fail);refine (Dp B g A c D x _ hoi hxo.1 hxo.2 (by omega)).mono ?_;rintro _ w2 ⟨rfl,A2,c2,ho2,hs2⟩;have hpi2:=hpi.fr hs2.fr (hoi.far hpi (by decide) (by decide));have hki2:=hki.fr hs2.fr (hoi.far hki (by decide) (by decide));clear k0 p0;go_wp2;go_roundw
   case rel=>
    refine ⟨i+1,A2,c2,_,by go_num,by omega,?_,by rw [Am6,An3];omega,ho2,hst.trans hs2,hpi2,hki2⟩;show _=_;rw [hD.out,Dg _ l hx'.out,← An7]
   case measure=>simp [intOf];omega
  ·
   have hi:i=n:=by omega
   subst hi;go_wp2
   go_end0
   refine ⟨rfl,A,c,?_,hst⟩;have e:bs++l.flatMap Pk.int=D:=by rw [hD.out,An1 (by rw [hn.out];omega)]
   rw [e];exact hoi
theorem U7 {α β:Type} (enc:β→List UInt8) (f:α→β) (l:List α):lst enc (l.map f)=lst (fun x=>enc (f x)) l:=by
 unfold lst;rw [An5,List.flatMap_map]
theorem Hk {α:Type} {P:α→Prop} {a b:α} (h1:P a) (h2:P b):∀x∈[a,b],P x:=by
 intro x hx
 rcases List.mem_cons.1 hx with rfl|hx
 · exact h1
 · rw [List.mem_singleton.1 hx];exact h2
theorem Hl {α:Type} {P:α→Prop} {a b c d:α} (h1:P a) (h2:P b) (h3:P c) (h4:P d):∀x∈[a,b,c,d],P x:=by
 intro x hx
 rcases List.mem_cons.1 hx with rfl|hx
 · exact h1
 ·
  rcases List.mem_cons.1 hx with rfl|hx
  · exact h2
  · exact Hk h3 h4 x hx
theorem Nx (a b:Int):([a,b].flatMap Pk.int).length≤20:=by
 have h:=Fu (enc:=Pk.int) [a,b] (fun y _=>Pk.int_len y);exact h
theorem Ny (a b c d:Int):([a,b,c,d].flatMap Pk.int).length≤40:=by
 have h:=Fu (enc:=Pk.int) [a,b,c,d] (fun y _=>Pk.int_len y);exact h
def U8 (bs:List UInt8) (w:World) (r:Ending) (w':World):Prop:=
 ∃A c,r=.returned (.pointer (some ⟨w.heap.size+1,0,none⟩))∧OutAt w' w.heap.size (w.heap.size+1) A c bs∧Fr Non w w'
theorem OpL.lens {x:OpL} (hok:x.op.ok):x.past.length≤1000∧x.path.length≤1000∧x.body.length≤1000000∧x.refs.length≤1000∧x.guards.length≤1000∧x.boxes.length≤1000∧x.hist.length≤1000∧(∀y∈x.path,y.nd.ok)∧(∀y∈x.hist,y.f.ok∧y.y.length≤1000000):=by
 refine ⟨hok.past.1,?_,hok.body,hok.refs.1,hok.guards.1,hok.boxes.1,?_,fun y hy=>hok.path.2 _ (An8 hy),fun y hy=>hok.hist.2 _ (An8 hy)⟩
 ·
  have:=hok.path.1;rwa [show x.op.path=x.path.map NdL.nd from rfl,An5] at this
 ·
  have:=hok.hist.1;rwa [show x.op.hist=x.hist.map SlL.sl from rfl,An5] at this
theorem Nz (x:OpL) (w:World) (hat:x.at w w.heap.size) (hok:x.op.ok):Calls Tryz.prog 83 #[.agg x.cells] w (U8 x.op.bare w):=by
 obtain ⟨ch,b0,cd,cg,bf,bq,cn,ai,ak⟩:=OpL.lens hok;have f0:x.cells.size=27:=rfl;obtain ⟨CS,aa⟩:=Aa x.cells;have e0:Hid (CS[0]? =some (.int .i64 x.by_)):=by show _=_;rw [← aa.out];rfl
 have e1:Hid (CS[1]? =some (.int .i64 x.sq)):=by show _=_;rw [← aa.out];rfl
 have e2:Hid (CS[2]? =some (.int .i64 x.kind)):=by show _=_;rw [← aa.out];rfl
 have e3:Hid (CS[3]? =some (.int .i64 x.at_)):=by show _=_;rw [← aa.out];rfl
 have e4:Hid (CS[4]? =some (.slice x.pastA x.past.length x.pastC)):=by show _=_;rw [← aa.out];rfl
 have e5:Hid (CS[5]? =some (.int .i64 x.dev)):=by show _=_;rw [← aa.out];rfl
 have e6:Hid (CS[6]? =some (.int .i64 x.old)):=by show _=_;rw [← aa.out];rfl
 have e7:Hid (CS[7]? =some (.int .i64 x.mem)):=by show _=_;rw [← aa.out];rfl
 have e8:Hid (CS[8]? =some (.int .i64 x.role)):=by show _=_;rw [← aa.out];rfl
 have e9:Hid (CS[9]? =some (.slice x.pathA x.path.length x.pathC)):=by show _=_;rw [← aa.out];rfl
 have ef:Hid (CS[10]? =some (.int .i64 x.epoch.b)):=by show _=_;rw [← aa.out];rfl
 have eb:Hid (CS[11]? =some (.int .i64 x.epoch.s)):=by show _=_;rw [← aa.out];rfl
 have fj:Hid (CS[12]? =some (.int .u64 (x.epoch.u:Int))):=by show _=_;rw [← aa.out];rfl
 have f1:Hid (CS[13]? =some (.int .i64 x.n)):=by show _=_;rw [← aa.out];rfl
 have fn:Hid (CS[14]? =some (.slice x.bodyA x.body.length x.bodyC)):=by show _=_;rw [← aa.out];rfl
 have f6:Hid (CS[15]? =some (.slice x.refsA x.refs.length x.refsC)):=by show _=_;rw [← aa.out];rfl
 have fg:Hid (CS[16]? =some (.int .i64 x.of.b)):=by show _=_;rw [← aa.out];rfl
 have gi:Hid (CS[17]? =some (.int .i64 x.of.s)):=by show _=_;rw [← aa.out];rfl
 have fh:Hid (CS[18]? =some (.int .u64 (x.of.u:Int))):=by show _=_;rw [← aa.out];rfl
 have ej:Hid (CS[19]? =some (.slice x.guardsA x.guards.length x.guardsC)):=by show _=_;rw [← aa.out];rfl
 have gd:Hid (CS[20]? =some (.int .i64 x.need)):=by show _=_;rw [← aa.out];rfl
 have gm:Hid (CS[21]? =some (.int .i64 x.wait)):=by show _=_;rw [← aa.out];rfl
 have ev:Hid (CS[22]? =some (.slice x.boxesA x.boxes.length x.boxesC)):=by show _=_;rw [← aa.out];rfl
 have fk:Hid (CS[23]? =some (.int .u64 (x.pub:Int))):=by show _=_;rw [← aa.out];rfl
 have gh:Hid (CS[24]? =some (.slice x.histA x.hist.length x.histC)):=by show _=_;rw [← aa.out];rfl
 rw [aa.out] at f0;rw [aa.out];have ab:Blk ((((w.alloc (.cells CS 44)).alloc (.cells #[.slice none 0 0] 177)).alloc (.cells #[.pointer (some ⟨w.heap.size+1,0,none⟩)] 134)).alloc (.cells #[.func (.func 135) #[] #[.pointer (some ⟨w.heap.size+1+1,0,none⟩)]] 180)) w.heap.size 44 CS:=(((Blk.new w 44 CS).alloc _).alloc _).alloc _
 have da:OutAt ((((w.alloc (.cells CS 44)).alloc (.cells #[.slice none 0 0] 177)).alloc (.cells #[.pointer (some ⟨w.heap.size+1,0,none⟩)] 134)).alloc (.cells #[.func (.func 135) #[] #[.pointer (some ⟨w.heap.size+1+1,0,none⟩)]] 180)) w.heap.size (w.heap.size+1) none 0 []:=by
  refine ⟨?_,Own.nil _ _ _ _,by omega⟩;have:=((Blk.new (w.alloc (.cells CS 44)) 177 #[.slice none 0 0]).alloc (.cells #[.pointer (some ⟨w.heap.size+1,0,none⟩)] 134)).alloc (.cells #[.func (.func 135) #[] #[.pointer (some ⟨w.heap.size+1+1,0,none⟩)]] 180);rwa [Am9] at this
 have ac:Blk ((((w.alloc (.cells CS 44)).alloc (.cells #[.slice none 0 0] 177)).alloc (.cells #[.pointer (some ⟨w.heap.size+1,0,none⟩)] 134)).alloc (.cells #[.func (.func 135) #[] #[.pointer (some ⟨w.heap.size+1+1,0,none⟩)]] 180)) (w.heap.size+1+1) 134 #[.pointer (some ⟨w.heap.size+1,0,none⟩)]:=by
  have:=(Blk.new ((w.alloc (.cells CS 44)).alloc (.cells #[.slice none 0 0] 177)) 134 #[.pointer (some ⟨w.heap.size+1,0,none⟩)]).alloc (.cells #[.func (.func 135) #[] #[.pointer (some ⟨w.heap.size+1+1,0,none⟩)]] 180);rwa [Am9,Am9] at this
 have ah:Blk ((((w.alloc (.cells CS 44)).alloc (.cells #[.slice none 0 0] 177)).alloc (.cells #[.pointer (some ⟨w.heap.size+1,0,none⟩)] 134)).alloc (.cells #[.func (.func 135) #[] #[.pointer (some ⟨w.heap.size+1+1,0,none⟩)]] 180)) (w.heap.size+1+1+1) 180 #[.func (.func 135) #[] #[.pointer (some ⟨w.heap.size+1+1,0,none⟩)]]:=by
  have:=Blk.new (((w.alloc (.cells CS 44)).alloc (.cells #[.slice none 0 0] 177)).alloc (.cells #[.pointer (some ⟨w.heap.size+1,0,none⟩)] 134)) 180 #[.func (.func 135) #[] #[.pointer (some ⟨w.heap.size+1+1,0,none⟩)]];rwa [Am9,Am9,Am9] at this
 have dl:Fr Non w ((((w.alloc (.cells CS 44)).alloc (.cells #[.slice none 0 0] 177)).alloc (.cells #[.pointer (some ⟨w.heap.size+1,0,none⟩)] 134)).alloc (.cells #[.func (.func 135) #[] #[.pointer (some ⟨w.heap.size+1+1,0,none⟩)]] 180)):=((((Fr.refl _ _).alloc _).alloc _).alloc _).alloc _;have ae:=hat.fr dl zr;have nb:¬RS (w.heap.size+1) none w.heap.size:=by rintro (e|e);omega;cases e
 have np:¬RS (w.heap.size+1) none (w.heap.size+1+1):=by rintro (e|e);omega;cases e
 have nc:¬RS (w.heap.size+1) none (w.heap.size+1+1+1):=by rintro (e|e);omega;cases e
 have nx:∀k,k<w.heap.size→¬RS (w.heap.size+1) none k:=by rintro k hk (e|e);omega;cases e
 obtain ⟨D,hD⟩:=Aa x.op.bare;rw [hD.out];go_enter Tryz.func83,Tryz.ntmps83;go_upto_region 4 with (fail)
 generalize ((((w.alloc (.cells CS 44)).alloc (.cells #[.slice none 0 0] 177)).alloc (.cells #[.pointer (some ⟨w.heap.size+1,0,none⟩)] 134)).alloc (.cells #[.func (.func 135) #[] #[.pointer (some ⟨w.heap.size+1+1,0,none⟩)]] 180))=w0 at*;have dq:=Bd.refl (w.heap.size+1) w0 none;have c0:=(ab.cell 0).trans e0.out;have c1:=(ab.cell 1).trans e1.out;have c2:=(ab.cell 2).trans e2.out;have c3:=(ab.cell 3).trans e3.out;have p0:=ac.cell 0;go_wp2_with (fail);refine (J8 w.heap.size (w.heap.size+1) (w.heap.size+1+1) w0.heap.size none 0 [] [x.by_,x.sq,x.kind,x.at_] 4 _ (da.alloc (.cells #[.int .i64 x.by_,.int .i64 x.sq,.int .i64 x.kind,.int .i64 x.at_] 3)) (ac.alloc (.cells #[.int .i64 x.by_,.int .i64 x.sq,.int .i64 x.kind,.int .i64 x.at_] 3)) (Blk.new w0 3 _) rfl (by omega) (Hl (P:=I64) hok.by_ hok.sq hok.kind hok.at_) (by simp) (by omega)).mono ?_;rintro _ w1 ⟨rfl,A1,f8,ca,ds⟩;clear c0 c1 c2 c3 p0;have a1:=(dq.alloc (.cells #[.int .i64 x.by_,.int .i64 x.sq,.int .i64 x.kind,.int .i64 x.at_] 3)).trans ds;have ea:([]++[x.by_,x.sq,x.kind,x.at_].flatMap Pk.int).length≤40:=by rw [List.nil_append];exact Ny _ _ _ _
 obtain ⟨D1,d6⟩:=Aa ([]++[x.by_,x.sq,x.kind,x.at_].flatMap Pk.int);rw [d6.out] at ca ea;have dy:=ab.fr a1.fr nb;have dp:=ac.fr a1.fr np;have fz:=ah.fr a1.fr nc;have du:=ae.fr a1.fr nx;clear da ds dq;have c4:=(dy.cell 4).trans e4.out;have p1:=dp.cell 0;go_wp2_with (fail);refine (T5 w.heap.size (w.heap.size+1) A1 f8 D1 x.past x.pastA _ x.pastC _ ca rfl hok.past.2 du.past.1 (by omega)).mono ?_;rintro _ w2 ⟨rfl,A2,ga,cb,dn⟩;clear c4 p1;have az:=(a1).trans dn;have fc:(D1++lst Id.bytes x.past).length≤30050:=by rw [Am6];have:=(Am8 (C4 x.past (fun y _=>Id.bytes_len y)) (by omega):(lst Id.bytes x.past).length≤30010);omega
 obtain ⟨D2,db⟩:=Aa (D1++lst Id.bytes x.past);rw [db.out] at cb fc;have a7:=ab.fr az.fr nb;have co:=ac.fr az.fr np;have f9:=ah.fr az.fr nc;have f7:=ae.fr az.fr nx;clear dy dp fz du ca dn a1;have c5:=(a7.cell 5).trans e5.out;have c6:=(a7.cell 6).trans e6.out;have c7:=(a7.cell 7).trans e7.out;have c8:=(a7.cell 8).trans e8.out;have p2:=co.cell 0;go_wp2_with (fail);refine (J8 w.heap.size (w.heap.size+1) (w.heap.size+1+1) w2.heap.size A2 ga D2 [x.dev,x.old,x.mem,x.role] 4 _ (cb.alloc (.cells #[.int .i64 x.dev,.int .i64 x.old,.int .i64 x.mem,.int .i64 x.role] 3)) (co.alloc (.cells #[.int .i64 x.dev,.int .i64 x.old,.int .i64 x.mem,.int .i64 x.role] 3)) (Blk.new w2 3 _) rfl (by omega) (Hl (P:=I64) hok.dev hok.old hok.mem hok.role) (by omega) (by omega)).mono ?_;rintro _ w3 ⟨rfl,A3,fb,cu,dt⟩;clear c5 c6 c7 c8 p2;have ax:=(az.alloc (.cells #[.int .i64 x.dev,.int .i64 x.old,.int .i64 x.mem,.int .i64 x.role] 3)).trans dt;have fu:(D2++[x.dev,x.old,x.mem,x.role].flatMap Pk.int).length≤30090:=by rw [Am6];have:=(Ny _ _ _ _:([x.dev,x.old,x.mem,x.role].flatMap Pk.int).length≤40);omega
 obtain ⟨D3,dm⟩:=Aa (D2++[x.dev,x.old,x.mem,x.role].flatMap Pk.int);rw [dm.out] at cu fu;have cx:=ab.fr ax.fr nb;have cq:=ac.fr ax.fr np;have cy:=ah.fr ax.fr nc;have bt:=ae.fr ax.fr nx;clear a7 co f9 f7 cb dt az;have c9:=(cx.cell 9).trans e9.out;have p3:=cq.cell 0;go_wp2_with (fail);refine (Ua w.heap.size (w.heap.size+1) (w.heap.size+1+1) (w.heap.size+1+1+1) A3 fb D3 x.path x.pathA _ x.pathC _ cu rfl ai bt.path.1 (by omega) cq cy bt.nodes).mono ?_;rintro _ w4 ⟨rfl,A4,f4,bs,d3⟩;clear c9 p3;have av:=(ax).trans d3;have gg:(D3++lst (fun x=>x.nd.bytes) x.path).length≤40050100:=by rw [Am6];have:=(Am8 (C4 x.path (fun y hy=>Nd.bytes_len _ (ai y hy))) (by omega):(lst (fun x=>x.nd.bytes) x.path).length≤40020010);omega
 obtain ⟨D4,dc⟩:=Aa (D3++lst (fun x=>x.nd.bytes) x.path);rw [dc.out] at bs gg;have br:=ab.fr av.fr nb;have dw:=ac.fr av.fr np;have fe:=ah.fr av.fr nc;have eu:=ae.fr av.fr nx;clear cx cq cy bt cu d3 ax;have gf:=(br.cell 10).trans ef.out;have gl:=(br.cell 11).trans eb.out;have ff:=(br.cell 12).trans fj.out;have p4:=dw.cell 0;go_wp2_with (fail);refine (Hg w.heap.size (w.heap.size+1) A4 f4 D4 x.epoch.b x.epoch.s x.epoch.u _ bs hok.epoch.1.1 hok.epoch.1.2 hok.epoch.2.1.1 hok.epoch.2.1.2 hok.epoch.2.2 (by omega)).mono ?_;rintro _ w5 ⟨rfl,A5,gj,b1,dv⟩;clear gf gl ff p4;have aw:=(av).trans dv;have fp:(D4++Pk.ident x.epoch.b x.epoch.s x.epoch.u).length≤40050130:=by rw [Am6];have:=(Pk.ident_len _ _ _:(Pk.ident x.epoch.b x.epoch.s x.epoch.u).length≤30);omega
 obtain ⟨D5,di⟩:=Aa (D4++Pk.ident x.epoch.b x.epoch.s x.epoch.u);rw [di.out] at b1 fp;have dr:=ab.fr aw.fr nb;have dg:=ac.fr aw.fr np;have eh:=ah.fr aw.fr nc;have fs:=ae.fr aw.fr nx;clear br dw fe eu bs dv av;have ep:=(dr.cell 13).trans f1.out;have p5:=dg.cell 0;go_wp2_with (fail);refine (Dp w.heap.size (w.heap.size+1) A5 gj D5 x.n _ b1 hok.n.1 hok.n.2 (by omega)).mono ?_;rintro _ w6 ⟨rfl,A6,en,b4,d0⟩;clear ep p5;have a3:=(aw).trans d0;have fw:(D5++Pk.int x.n).length≤40050140:=by rw [Am6];have:=(Pk.int_len _:(Pk.int x.n).length≤10);omega
 obtain ⟨D6,cz⟩:=Aa (D5++Pk.int x.n);rw [cz.out] at b4 fw;have cv:=ab.fr a3.fr nb;have d1:=ac.fr a3.fr np;have er:=ah.fr a3.fr nc;have dx:=ae.fr a3.fr nx;clear dr dg eh fs b1 d0 aw;have fx:=(cv.cell 14).trans fn.out;have p6:=d1.cell 0;have bu:(convert 37 9 (.slice x.bodyA x.body.length x.bodyC)).run Tryz.prog w6=.ok (.string (str x.body)) w6:=Gn 37 5 9 Tryz.underlying37 Tryz.underlying5 Tryz.underlying9 w6 _ _ _ _ _ dx.body.1;go_wp2_with (fail);refine (Mu w.heap.size (w.heap.size+1) A6 en D6 x.body _ b4 (by omega)).mono ?_;rintro _ w7 ⟨rfl,A7,f5,cr,dk⟩;clear fx p6 bu;have a0:=(a3).trans dk;have ey:(D6++Pk.text x.body).length≤41050150:=by rw [Am6];have:=(Am8 (Pk.text_len _) (by omega):(Pk.text x.body).length≤1000010);omega
 obtain ⟨D7,d5⟩:=Aa (D6++Pk.text x.body);rw [d5.out] at cr ey;have d4:=ab.fr a0.fr nb;have dh:=ac.fr a0.fr np;have fa:=ah.fr a0.fr nc;have d9:=ae.fr a0.fr nx;clear cv d1 er dx b4 dk a3;have ew:=(d4.cell 15).trans f6.out;have p7:=dh.cell 0;go_wp2_with (fail);refine (T6 w.heap.size (w.heap.size+1) A7 f5 D7 x.refs x.refsA _ x.refsC _ cr rfl hok.refs.2 d9.refs.1 (by omega)).mono ?_;rintro _ w8 ⟨rfl,A8,ek,cs,d2⟩;clear ew p7;have a2:=(a0).trans d2;have f2:(D7++lst Pk.num x.refs).length≤41060160:=by rw [Am6];have:=(Am8 (C4 x.refs (fun y _=>Pk.num_len y)) (by omega):(lst Pk.num x.refs).length≤10010);omega
 obtain ⟨D8,dj⟩:=Aa (D7++lst Pk.num x.refs);rw [dj.out] at cs f2;have bp:=ab.fr a2.fr nb;have dd:=ac.fr a2.fr np;have fm:=ah.fr a2.fr nc;have gn:=ae.fr a2.fr nx;clear d4 dh fa d9 cr d2 a0;have gb:=(bp.cell 16).trans fg.out;have es:=(bp.cell 17).trans gi.out;have ez:=(bp.cell 18).trans fh.out;have p8:=dd.cell 0;go_wp2_with (fail);refine (Hg w.heap.size (w.heap.size+1) A8 ek D8 x.of.b x.of.s x.of.u _ cs hok.of.1.1 hok.of.1.2 hok.of.2.1.1 hok.of.2.1.2 hok.of.2.2 (by omega)).mono ?_;rintro _ w9 ⟨rfl,A9,em,cf,df⟩;clear gb es ez p8;have ay:=(a2).trans df;have fv:(D8++Pk.ident x.of.b x.of.s x.of.u).length≤41060190:=by rw [Am6];have:=(Pk.ident_len _ _ _:(Pk.ident x.of.b x.of.s x.of.u).length≤30);omega
 obtain ⟨D9,d8⟩:=Aa (D8++Pk.ident x.of.b x.of.s x.of.u);rw [d8.out] at cf fv;have d7:=ab.fr ay.fr nb;have cw:=ac.fr ay.fr np;have ee:=ah.fr ay.fr nc;have de:=ae.fr ay.fr nx;clear bp dd fm gn cs df a2;have fq:=(d7.cell 19).trans ej.out;have p9:=cw.cell 0;go_wp2_with (fail);refine (T7 w.heap.size (w.heap.size+1) A9 em D9 x.guards x.guardsA _ x.guardsC _ cf rfl hok.guards.2 de.guards.1 (by omega)).mono ?_;rintro _ dz ⟨rfl,fy,cj,aq,bo⟩;clear fq p9;have af:=(ay).trans bo;have cp:(D9++lst Pk.int x.guards).length≤41070200:=by rw [Am6];have:=(Am8 (C4 x.guards (fun y _=>Pk.int_len y)) (by omega):(lst Pk.int x.guards).length≤10010);omega
 obtain ⟨ct,be⟩:=Aa (D9++lst Pk.int x.guards);rw [be.out] at aq cp;have ap:=ab.fr af.fr nb;have ar:=ac.fr af.fr np;have bv:=ah.fr af.fr nc;have bw:=ae.fr af.fr nx;clear d7 cw ee de cf bo ay;have et:=(ap.cell 20).trans gd.out;have ec:=(ap.cell 21).trans gm.out;have eg:=ar.cell 0;go_wp2_with (fail);refine (J8 w.heap.size (w.heap.size+1) (w.heap.size+1+1) dz.heap.size fy cj ct [x.need,x.wait] 2 _ (aq.alloc (.cells #[.int .i64 x.need,.int .i64 x.wait] 3)) (ar.alloc (.cells #[.int .i64 x.need,.int .i64 x.wait] 3)) (Blk.new dz 3 _) rfl (by omega) (Hk (P:=I64) hok.need hok.wait) (by omega) (by omega)).mono ?_;rintro _ gr ⟨rfl,eo,b5,al,a4⟩;clear et ec eg;have ag:=(af.alloc (.cells #[.int .i64 x.need,.int .i64 x.wait] 3)).trans a4;have ce:(ct++[x.need,x.wait].flatMap Pk.int).length≤41070220:=by rw [Am6];have:=(Nx _ _:([x.need,x.wait].flatMap Pk.int).length≤20);omega
 obtain ⟨cl,a9⟩:=Aa (ct++[x.need,x.wait].flatMap Pk.int);rw [a9.out] at al ce;have bc:=ab.fr ag.fr nb;have au:=ac.fr ag.fr np;have bn:=ah.fr ag.fr nc;have bl:=ae.fr ag.fr nx;clear ap ar bv bw aq a4 af;have f3:=(bc.cell 22).trans ev.out;have ge:=au.cell 0;have el:=bn.cell 0;go_wp2_with (fail);refine (Mw w.heap.size (w.heap.size+1) (w.heap.size+1+1) eo b5 cl x.boxes x.boxesA _ x.boxesC _ al rfl hok.boxes.2 bl.boxes.1 (by omega) au).mono ?_;rintro _ gq ⟨rfl,ei,b6,ao,bj⟩;clear f3 ge el;have ad:=(ag).trans bj;have b2:(cl++lst Bx.bytes x.boxes).length≤41110230:=by rw [Am6];have:=(Am8 (C4 x.boxes (fun y _=>Bx.bytes_len y)) (by omega):(lst Bx.bytes x.boxes).length≤40010);omega
 obtain ⟨b9,bh⟩:=Aa (cl++lst Bx.bytes x.boxes);rw [bh.out] at ao b2;have ba:=ab.fr ad.fr nb;have a5:=ac.fr ad.fr np;have ck:=ah.fr ad.fr nc;have cm:=ae.fr ad.fr nx;clear bc au bn bl al bj ag;have fi:=(ba.cell 23).trans fk.out;have ft:=a5.cell 0;go_wp2_with (fail);refine (Em w.heap.size (w.heap.size+1) ei b6 b9 x.pub _ ao hok.pub (by omega)).mono ?_;rintro _ gs ⟨rfl,fo,b7,bm,bd⟩;clear fi ft;have aj:=(ad).trans bd;have b8:(b9++Pk.num x.pub).length≤41110240:=by rw [Am6];have:=(Pk.num_len _:(Pk.num x.pub).length≤10);omega
 obtain ⟨bx,bg⟩:=Aa (b9++Pk.num x.pub);rw [bg.out] at bm b8;have b3:=ab.fr aj.fr nb;have a6:=ac.fr aj.fr np;have fl:=ah.fr aj.fr nc;have bi:=ae.fr aj.fr nx;clear ba a5 ck cm ao bd ad;have ed:=(b3.cell 24).trans gh.out;have fd:=a6.cell 0;go_wp2_with (fail);refine (Uc w.heap.size (w.heap.size+1) (w.heap.size+1+1) fo b7 bx x.hist x.histA _ x.histC _ bm rfl ak bi.hist.1 (by omega) a6 bi.seals).mono ?_;rintro _ gp ⟨rfl,gc,bz,bk,cc⟩;clear ed fd;have bb:=(aj).trans cc;have ci:(bx++lst (fun x=>x.sl.bytes) x.hist).length≤1041150250:=by rw [Am6];have:=(Am8 (C4 x.hist (fun y hy=>Sl.bytes_len _ (ak y hy).2)) (by omega):(lst (fun x=>x.sl.bytes) x.hist).length≤1000040010);omega
 obtain ⟨gk,a8⟩:=Aa (bx++lst (fun x=>x.sl.bytes) x.hist);rw [a8.out] at bk ci;have pz:=(ac.fr bb.fr np).cell 0;go_wp2
 go_ret
 have e:D=gk:=by
  rw [← hD.out,← a8.out,← bg.out,← bh.out,← a9.out,← be.out,← d8.out,← dj.out,← d5.out,← cz.out,← di.out,← dc.out,← dm.out,← db.out,← d6.out];unfold Op.bare;simp [OpL.op,U7,Id.bytes,An9]
 rw [e];exact ⟨gc,bz,rfl,bk,dl.trans bb.fr (fun k hk e=>by rcases e with e|e;omega;cases e)⟩
end Oq
namespace Oq
theorem Op.bare_len (o:Op) (h:o.ok):o.bare.length≤1100000000:=by
 have h1:=C4 o.past (fun y _=>Id.bytes_len y);have h2:=C4 o.path (fun y hy=>Nd.bytes_len y (h.path.2 y hy));have h3:=C4 o.refs (fun y _=>Pk.num_len y);have h4:=C4 o.guards (fun y _=>Pk.int_len y);have h5:=C4 o.boxes (fun y _=>Bx.bytes_len y);have h6:=C4 o.hist (fun y hy=>Sl.bytes_len y (h.hist.2 y hy).2);have h7:=Pk.text_len o.body;have g1:=h.past.1;have g2:=h.path.1;have g3:=h.refs.1;have g4:=h.guards.1;have g5:=h.boxes.1;have g6:=h.hist.1;have g7:=h.body;have i1:=Pk.int_len o.by_;have i2:=Pk.int_len o.sq;have i3:=Pk.int_len o.kind;have i4:=Pk.int_len o.at_;have i5:=Pk.int_len o.dev;have i6:=Pk.int_len o.old;have i7:=Pk.int_len o.mem;have i8:=Pk.int_len o.role;have i9:=Pk.int_len o.n;have i10:=Pk.int_len o.need;have i11:=Pk.int_len o.wait;have i12:=Pk.num_len o.pub;have i13:=Id.bytes_len o.epoch;have i14:=Id.bytes_len o.of;unfold Op.bare;simp only [Am6];omega
end Oq
theorem Fw (n:Nat) (w:World) (hn:n<18446744073709551616):
  Calls Tryz.prog 90 #[.int .u64 (n:Int)] w (NewB w (Pk.num n)):=by
 go_enter Tryz.func90,Tryz.ntmps90;go_wp2
 go_loopw [0,3] (fun v s wr=>∃(m f:Nat) (L:List UInt8) (A:Option Addr) (c:Nat),v=.int .u64 (m:Int)∧s=.slice A L.length c∧m<2*128^f∧Hid (Pk.num n=L++Pk.numF (f+1) m)∧L.length+f≤9∧m<18446744073709551616∧
  Own wr w.heap.size 5 1 A L.length c (L.map Bv)∧Fr Non w wr) (fun v _ _=>(intOf v).toNat)
 case atStart=>exact ⟨n,9,[],none,0,rfl,rfl,by simpa using hn,rfl,by simp,hn,Own.nil _ _ _ _,Fr.refl _ _⟩
 case round=>
  obtain ⟨m,f,L,A,c,rfl,rfl,hm,hpre,hlen,hm64,hown,hf⟩:=hrel;have hBs:=hf.size;have hrow:∀k,k<w.heap.size→Ac A=some k→Non k:=fun k hk hA=>by have:=(hown.row k hA).1;omega
  by_cases hlt:m<128
  ·
   go_wp2_with (first|(at_builtin;go_loud (refine Az (.tmp 15) (.tmp 18) 37 rfl rfl rfl rfl slB (hown.alloc _) (Rd.one _ _ _) (by simp [Value.oneCell']) (by omega) (by omega) (by simp;omega) ?_);intro A1 c1 w1 hown1 hf1 hat1))
   go_ret
   refine NewB.mk hown1 rfl ?_ ((hf.alloc _).trans hf1 hrow);rw [hpre.out];simp [Pk.numF,hlt,Bv];omega
  ·
   go_wp2_with (first|(at_builtin;go_loud (refine Az (.tmp 6) (.tmp 11) 37 rfl rfl rfl rfl slB (hown.alloc _) (Rd.one _ _ _) (by simp [Value.oneCell']) (by omega) (by omega) (by simp;omega) ?_);intro A1 c1 w1 hown1 hf1 hat1));go_roundw
   case rel=>
    have hf0:f≠0:=by rintro rfl;omega
    obtain ⟨f',rfl⟩:∃f',f=f'+1:=⟨f-1,by omega⟩;refine ⟨m/128,f',L++[UInt8.ofNat (m%128+128)],A1,c1,by go_num,by simp,?_,?_,?_,by omega,?_,(hf.alloc _).trans hf1 hrow⟩
    · rw [Nat.div_lt_iff_lt_mul (by omega)];rw [Nat.pow_succ] at hm;omega
    ·
     show _=_;rw [hpre.out];conv=>lhs;unfold Pk.numF
     rw [if_neg hlt];simp
    · simp;omega
    ·
     have:=Pk.tn (m%128+128) (by omega)
     have e:(L++[UInt8.ofNat (m%128+128)]).map Bv=L.map Bv++[.int .u8 ((m:Int)%128+128)]:=by
      simp [Bv];omega
     rw [e,Am6];exact hown1
   case measure=>simp [intOf];omega
theorem Es (n:Int) (w:World) (h0: -9223372036854775808≤n) (h1:n≤9223372036854775807):
  Calls Tryz.prog 92 #[.int .i64 n] w (NewB w (Pk.int n)):=by
 have hfl:=Pk.fold_lt h0 h1
 by_cases hn:n<0
 ·
  have hv:Hid (-(n+1)*2+1=((Pk.fold n:Nat):Int)):=by show _=_;unfold Pk.fold;rw [if_pos hn];omega
  go_enter Tryz.func92,Tryz.ntmps92;go_wp2_with (fail);rw [hv.out];refine (Fw _ _ hfl).mono ?_;rintro _ w1 ⟨A,c,rfl,hown,hf⟩;go_wp2
  go_ret
  exact ⟨A,c,rfl,hown,hf⟩
 ·
  have hv:Hid (n*2=((Pk.fold n:Nat):Int)):=by show _=_;unfold Pk.fold;rw [if_neg hn];omega
  go_enter Tryz.func92,Tryz.ntmps92;go_wp2_with (fail);rw [hv.out];refine (Fw _ _ hfl).mono ?_;rintro _ w1 ⟨A,c,rfl,hown,hf⟩;go_wp2
  go_ret
  exact ⟨A,c,rfl,hown,hf⟩
theorem N0 (l:List UInt8) (w:World) (hl:l.length≤1099511627700):Calls Tryz.prog 93 #[.string (str l)] w (NewB w (Pk.text l)):=by
 have hs:=Ee l;have hil:=Pk.int_len (l.length:Int);go_enter Tryz.func93,Tryz.ntmps93;go_wp2_with (fail);refine (Es _ _ (by omega) (by omega)).mono ?_;rintro _ w1 ⟨A,c,rfl,hown,hf⟩;clear hs;have hBs:=hf.size;go_wp2_with (first|(at_builtin;go_loud (refine Ml (.tmp 5) (.tmp 6) 37 9 rfl rfl rfl rfl slB Tryz.underlying9 hown (by omega) (by omega) ?_);intro A2 c2 w2 hown2 hf2 hat2))
 go_ret
 exact NewB.mk hown2 rfl (by simp [Pk.text]) (hf.trans hf2 (hown.notNon (An2 _)))
theorem Hm (b s:Int) (u:Nat) (w:World) (b0: -9223372036854775808≤b) (b1:b≤9223372036854775807)
  (s0: -9223372036854775808≤s) (s1:s≤9223372036854775807) (hu:u<18446744073709551616):
  Calls Tryz.prog 89 #[.agg #[.int .i64 b,.int .i64 s,.int .u64 (u:Int)]] w (NewB w (Pk.ident b s u)):=by
 have hb0:=Blk.new w 36 #[.int .i64 b,.int .i64 s,.int .u64 (u:Int)];have l1:=Pk.int_len b;have l2:=Pk.int_len s;have l3:=Pk.num_len u;have c0:=hb0.cell 0;have c1:=hb0.cell 1;have c2:=hb0.cell 2;go_enter Tryz.func89,Tryz.ntmps89;go_wp2
 go_region_held3 (fun w'=>w'.cell? ⟨w.heap.size,0,none⟩=some (.int .i64 b)∧w'.cell? ⟨w.heap.size,1,none⟩=some (.int .i64 s)) (go_keep) (first
  |((refine Jn (.tmp 6) (.tmp 9) 37 (by rfl) (by rfl) (by rfl) (by rfl) slB (hown1.fr hf2 zr) hown2.rd (Gm _) (by omega) (by omega) (by omega) ?_;intro A3 c3 w3 hown3 hf3 hat3;have hb3:=hb2.fr hf3 (hown1.ne hb1 (by decide));have d0:=hb3.cell 0;have d1:=hb3.cell 1))
  |(go_at_call 92;(with_reducible refine (Es b _ b0 b1).mono ?_);rintro _ w1 ⟨A1,c1,rfl,hown1,hf1⟩;have hb1:=hb0.drew.fr hf1 zq;have d0:=hb1.cell 0;have d1:=hb1.cell 1;have hsz1:=hf1.size)
  |(go_at_call 92;(with_reducible refine (Es s _ s0 s1).mono ?_);rintro _ w2 ⟨A2,c2,rfl,hown2,hf2⟩;have hb2:=hb1.fr hf2 zq;have d0:=hb2.cell 0;have d1:=hb2.cell 1;have hsz2:=hf2.size))
 have e2:=hb3.cell 2;have hs3:=hf3.size;go_wp2_with (fail);refine (Fw u _ hu).mono ?_;rintro _ w4 ⟨A4,c4,rfl,hown4,hf4⟩;have hs4:=hf4.size;have hown3':=(hown3.fr hf4 zr).lower (base':=w.heap.size) (by simp);go_wp2_with (first|(at_builtin;go_loud (refine Az (.tmp 11) (.tmp 14) 37 rfl rfl rfl rfl slB hown3' hown4.rd (Gm _) (by omega) (by omega) (by simp at hsz1;omega) ?_);intro A5 c5 w5 hown5 hf5 hat5))
 go_ret
 have hff:Fr Non w w4:=(((((Fr.refl _ _).alloc _).drew.trans hf1 zr).trans hf2 zr).trans hf3 (fun k hk e=>by have:=(hown1.row k e).1;simp at this;omega)).trans hf4 zr;exact NewB.mk hown5 rfl (by simp [Pk.ident]) (hff.trans hf5 (hown3'.notNon (An2 _)))
namespace Oq
structure Acc (w0 w:World) (A:Option Addr) (c L K:Nat) (D:List UInt8):Prop where
 own:Own w w0.heap.size 5 1 A L c (D.map Bv)
 fr:Fr Non w0 w
 le:L≤K
section
variable {w0 w w' : World} {A : Option Addr} {c L K : Nat} {D : List UInt8}
theorem Acc.len (h:Acc w0 w A c L K D):L=D.length:=by have:=h.own.len;simpa using this.symm
theorem Acc.nil (w:World):Acc w w none 0 0 0 []:=⟨Own.nil _ _ _ _,Fr.refl _ _,An2 _⟩
theorem Acc.step (h:Acc w0 w A c L K D) (hf:Fr Non w w'):Acc w0 w' A c L K D:=⟨h.own.fr hf zr,h.fr.trans hf zr,h.le⟩
theorem Acc.more (h:Acc w0 w A c L K D) {K':Nat} (hK:K≤K'):Acc w0 w A c L K' D:=⟨h.own,h.fr,Am8 h.le hK⟩
theorem Acc.of_new {X:List UInt8} (hown:Own w' w.heap.size 5 1 A X.length c (X.map Bv)) (hf:Fr Non w w') (hX:X.length≤K):Acc w w' A c X.length K X:=⟨hown,hf,hX⟩
theorem Acc.post {w1:World} (h:Acc w0 w A c L K D) (hf:Fr Non w1 w0) {D':List UInt8} (e:D'=D):NewB w1 D' (.returned (.slice A L c)) w:=by
 subst e;have hl:=h.len;subst hl;exact ⟨A,c,rfl,h.own.lower hf.size,hf.trans h.fr zr⟩
end
theorem Cn {P:Program} {ops:Array Oper} {rest:List Oper} {o:Oper} {a:Act} {Q:Exit→Act→World→Prop} {w0 w:World} (s x:Operand) (t:TypeId) (hgd:o.guard=none)
  (ho:o.op=.call {callee:=.builtin .append,args:=#[s,x],argTypes:=#[t,t]})
  {c L K cx base:Nat} {A Ax:Option Addr} {D X:List UInt8} (Kx:Nat)
  (hs:a.eval s=.slice A L c) (hx:a.eval x=.slice Ax X.length cx) (hT:SlT P t 5 (.int .u8 0) 1 1) (h:Acc w0 w A c L K D) (hr:Own w base 5 1 Ax X.length cx (X.map Bv)) (hX:X.length≤Kx) (hK:K+Kx≤1099511627776)
  (hk:∀A' c' L' w',Acc w0 w' A' c' L' (K+Kx) (D++X)→wpList P ops Q rest (a.put o.dst (.slice A' L' c')) w'):wpList P ops Q (o::rest) a w:=by
 have hle:=h.le;refine Az s x t hgd ho hs hx hT h.own hr.rd (Gm _) (by omega) (by omega) h.fr.size ?_;intro A' c' w' hown hf _;rw [← List.map_append] at hown;exact hk A' c' _ w' ⟨hown,h.fr.trans hf (h.own.notNon (An2 _)),by omega⟩
theorem N1 {P:Program} {ops:Array Oper} {o:Oper} {a:Act} {Kt:Act→World→Prop} {Q:Exit→Act→World→Prop} {E:Prop} {w0 w:World} (s x:Operand) (t:TypeId) (hgd:o.guard=none)
  (ho:o.op=.call {callee:=.builtin .append,args:=#[s,x],argTypes:=#[t,t]})
  {c L K cx base:Nat} {A Ax:Option Addr} {D X:List UInt8} (Kx:Nat)
  (hs:a.eval s=.slice A L c) (hx:a.eval x=.slice Ax X.length cx) (hT:SlT P t 5 (.int .u8 0) 1 1) (h:Acc w0 w A c L K D) (hr:Own w base 5 1 Ax X.length cx (X.map Bv)) (hX:X.length≤Kx) (hK:K+Kx≤1099511627776)
  (hk:∀A' c' L' w',Acc w0 w' A' c' L' (K+Kx) (D++X)→Fr Non w0 w'→Kt (a.put o.dst (.slice A' L' c')) w'):
  if Region.wanted o (yielded ops a.tmps)=true then Oper.wp P o a w Kt Q else E:=by
 have hle:=h.le;refine Jn s x t hgd ho hs hx hT h.own hr.rd (Gm _) (by omega) (by omega) h.fr.size ?_;intro A' c' w' hown hf _;rw [← List.map_append] at hown;have hff:=h.fr.trans hf (h.own.notNon (An2 _));exact hk A' c' _ w' ⟨hown,hff,by omega⟩ hff
theorem Hn (B n cl:Nat) (Al:Option Addr) (l:List Int) (w:World) (hn:Hid (l.length=n)) (hr:Rd w B 1 Al n (l.map Iv)) (hok:∀x∈l,I64 x) (hn1:n≤100000):
  Calls Tryz.prog 88 #[.slice Al n cl] w (NewB w (l.flatMap Pk.int)):=by
 go_enter Tryz.func88,Tryz.ntmps88;go_wp2
 go_loopw [3,4] (fun s v wr=>∃(i:Nat) (A:Option Addr) (c L:Nat),v=.int .i64 (i:Int)∧s=.slice A L c∧i≤n∧Acc w wr A c L (10*i) ((l.take i).flatMap Pk.int)) (fun _ v _=>n-(intOf v).toNat)
 case atStart=>exact ⟨0,none,0,0,rfl,rfl,by omega,Acc.nil w⟩
 case round=>
  obtain ⟨i,A,c,L,rfl,rfl,hin,hac⟩:=hrel
  by_cases hlt:i<n
  ·
   obtain ⟨x,hx⟩:∃x,l[i]? =some x:=⟨_,Am7 (by rw [hn.out];exact hlt)⟩;have hxo:=hok x (An0 hx);obtain ⟨b,off,rfl,hb,k0⟩:=Hh (hr.fr hac.fr zr) hx;unfold Iv at k0;have hx':=Lib.hid hx;clear hx;have hxl:=Pk.int_len x;go_wp2_with (fail);refine (Es x _ hxo.1 hxo.2).mono ?_;rintro _ w1 ⟨A1,c1,rfl,hown1,hf1⟩;have hac1:=hac.step hf1;go_wp2_with (first|(at_builtin;go_loud (refine Cn (.tmp 11) (.tmp 16) 37 rfl rfl 10 rfl rfl slB hac1 hown1 hxl (by omega) ?_);intro A2 c2 L2 w2 hac2));go_roundw
   case rel=>exact ⟨i+1,A2,c2,L2,by go_num,rfl,by omega,by rw [Dg _ l hx'.out,An3];exact hac2⟩
   case measure=>simp [intOf];omega
  ·
   have hi:i=n:=by omega
   subst hi;go_wp2
   go_ret
   refine hac.post (Fr.refl _ _) ?_;rw [An1 (by rw [hn.out];omega)]
theorem J9 (B n cl:Nat) (Al:Option Addr) (l:List Nat) (w:World) (hn:Hid (l.length=n)) (hr:Rd w B 1 Al n (l.map Uv)) (hok:∀x∈l,U64 x) (hn1:n≤100000):
  Calls Tryz.prog 94 #[.slice Al n cl] w (NewB w (l.flatMap Pk.num)):=by
 go_enter Tryz.func94,Tryz.ntmps94;go_wp2
 go_loopw [3,4] (fun s v wr=>∃(i:Nat) (A:Option Addr) (c L:Nat),v=.int .i64 (i:Int)∧s=.slice A L c∧i≤n∧Acc w wr A c L (10*i) ((l.take i).flatMap Pk.num)) (fun _ v _=>n-(intOf v).toNat)
 case atStart=>exact ⟨0,none,0,0,rfl,rfl,by omega,Acc.nil w⟩
 case round=>
  obtain ⟨i,A,c,L,rfl,rfl,hin,hac⟩:=hrel
  by_cases hlt:i<n
  ·
   obtain ⟨x,hx⟩:∃x,l[i]? =some x:=⟨_,Am7 (by rw [hn.out];exact hlt)⟩;have hxo:=hok x (An0 hx);obtain ⟨b,off,rfl,hb,k0⟩:=Hh (hr.fr hac.fr zr) hx;unfold Uv at k0;have hx':=Lib.hid hx;clear hx;have hxl:=Pk.num_len x;go_wp2_with (fail);refine (Fw x _ hxo).mono ?_;rintro _ w1 ⟨A1,c1,rfl,hown1,hf1⟩;have hac1:=hac.step hf1;go_wp2_with (first|(at_builtin;go_loud (refine Cn (.tmp 11) (.tmp 16) 37 rfl rfl 10 rfl rfl slB hac1 hown1 hxl (by omega) ?_);intro A2 c2 L2 w2 hac2));go_roundw
   case rel=>exact ⟨i+1,A2,c2,L2,by go_num,rfl,by omega,by rw [Dg _ l hx'.out,An3];exact hac2⟩
   case measure=>simp [intOf];omega
  ·
   have hi:i=n:=by omega
   subst hi;go_wp2
   go_ret
   refine hac.post (Fr.refl _ _) ?_;rw [An1 (by rw [hn.out];omega)]
theorem N3 {w:World} {k:Nat} {l:List Nat} (h:Blk w k 34 (l.map Uv).toArray) (n:Nat) (hn:l.length=n):Rd w w.heap.size 1 (some ⟨k,0,none⟩) n (l.map Uv):=by
 refine ⟨by simp [hn],.inr ⟨k,0,rfl,h.lt,fun j u hu=> ?_⟩⟩;rw [Nat.zero_add,h.cell j,Ao0];exact hu
theorem Ka {w:World} {k:Nat} {l:List Int} (h:Blk w k 3 (l.map Iv).toArray) (n:Nat) (hn:l.length=n):Rd w w.heap.size 1 (some ⟨k,0,none⟩) n (l.map Iv):=by
 refine ⟨by simp [hn],.inr ⟨k,0,rfl,h.lt,fun j u hu=> ?_⟩⟩;rw [Nat.zero_add,h.cell j,Ao0];exact hu
theorem U9 (x:Bx):[x.t,x.e,x.y,x.g].flatMap Pk.num=x.bytes:=by unfold Bx.bytes;simp [An9]
theorem Va (x:Bx) (hx:x.ok) (w:World) (k:Nat) (h:Blk w k 34 #[.int .u64 (x.t:Int),.int .u64 (x.e:Int),.int .u64 (x.y:Int),.int .u64 (x.g:Int)]):Calls Tryz.prog 94 #[.slice (some ⟨k,0,none⟩) 4 4] w (NewB w x.bytes):=by
 rw [← U9 x];exact J9 w.heap.size 4 4 _ [x.t,x.e,x.y,x.g] _ rfl (N3 h 4 rfl) (Hl hx.1 hx.2.1 hx.2.2.1 hx.2.2.2) (by omega)
theorem N4 (B n cl:Nat) (Al:Option Addr) (l:List Bx) (w:World) (hn:Hid (l.length=n)) (hr:Rd w B 4 Al n (l.flatMap Bx.cells)) (hok:∀x∈l,x.ok) (hn1:n≤100000):
  Calls Tryz.prog 91 #[.slice Al n cl] w (NewB w (lst Bx.bytes l)):=by
 go_enter Tryz.func91,Tryz.ntmps91;go_wp2_with (fail);refine (Es (n:Int) _ (by omega) (by omega)).mono ?_;rintro _ w0 ⟨A0,c0,rfl,ac,ao⟩;have ap:=Pk.int_len (n:Int);have ag:Acc w w0 A0 c0 (Pk.int (n:Int)).length 10 (Pk.int (n:Int)):=Acc.of_new ac ao ap;go_wp2
 go_loopw [3,4] (fun s v wr=>∃(i:Nat) (A:Option Addr) (c L:Nat),v=.int .i64 (i:Int)∧s=.slice A L c∧i≤n∧Acc w wr A c L (10+40*i) (Pk.int (n:Int)++(l.take i).flatMap Bx.bytes)) (fun _ v _=>n-(intOf v).toNat)
 case atStart=>exact ⟨0,A0,c0,_,rfl,rfl,by omega,by simpa using ag⟩
 case round=>
  obtain ⟨i,A,c,L,rfl,rfl,aq,ab⟩:=hrel
  by_cases hlt:i<n
  ·
   obtain ⟨x,hx⟩:∃x,l[i]? =some x:=⟨_,Am7 (by rw [hn.out];exact hlt)⟩;have kn:=Lib.hid (Va x (hok x (An0 hx)) (wr.alloc (.cells #[.int .u64 (x.t:Int),.int .u64 (x.e:Int),.int .u64 (x.y:Int),.int .u64 (x.g:Int)] 34)).drew _ (Blk.new wr 34 _).drew);obtain ⟨b,aa,rfl,hb,z0,z1,z2,z3⟩:=Bx.at hr hx;have k0:=ab.fr.cell z0 zq;have k1:=ab.fr.cell z1 zq;have k2:=ab.fr.cell z2 zq;have k3:=ab.fr.cell z3 zq;have ak:=Lib.hid hx;clear hx;have al:=Bx.bytes_len x;have aj:(i:Int)<(n:Int):=by omega
   have ar:(0:Int)≤(i:Int):=by omega
   have n0:=An4 wr ⟨b,aa+i*4,none⟩ (by rw [k0]);have n1:=An4 wr ⟨b,aa+i*4+1,none⟩ (by rw [k1]);have n2:=An4 wr ⟨b,aa+i*4+2,none⟩ (by rw [k2]);have n3:=An4 wr ⟨b,aa+i*4+3,none⟩ (by rw [k3]);go_wp2_with (fail)
   go_region_held3 (fun w'=>w'.cell? ⟨b,aa+i*4,none⟩=some (.int .u64 (x.t:Int))∧w'.cell? ⟨b,aa+i*4+1,none⟩=some (.int .u64 (x.e:Int))∧w'.cell? ⟨b,aa+i*4+2,none⟩=some (.int .u64 (x.y:Int))∧w'.cell? ⟨b,aa+i*4+3,none⟩=some (.int .u64 (x.g:Int))) (go_keep) (first
    |((refine N1 (.tmp 14) (.tmp 36) 37 (by rfl) (by rfl) 40 (by rfl) (by rfl) slB ah ae al (by omega) ?_;intro A3 c3 L3 w3 ai af;have ca:=af.cell z0 zq;have cb:=af.cell z1 zq;have cc:=af.cell z2 zq;have cd:=af.cell z3 zq))
    |(go_at_call 94;(with_reducible refine kn.out.mono ?_);rintro _ w1 ⟨A1,c1,rfl,ae,ad⟩;have ah:=(ab.step ((Fr.refl _ _).alloc _).drew).step ad;have ya:=ad.cell (((Fr.refl Non wr).alloc _).cell k0 zq) zq;have yb:=ad.cell (((Fr.refl Non wr).alloc _).cell k1 zq) zq;have yc:=ad.cell (((Fr.refl Non wr).alloc _).cell k2 zq) zq;have yd:=ad.cell (((Fr.refl Non wr).alloc _).cell k3 zq) zq))
   go_wp2;go_roundw
   case rel=>exact ⟨i+1,A3,c3,L3,by go_num,rfl,by omega,by rw [Dg _ l ak.out,← An7,An3,← Nat.add_assoc];exact ai⟩
   case measure=>simp [intOf];omega
  ·
   have hi:i=n:=by omega
   subst hi;go_wp2
   go_ret
   refine ab.post (Fr.refl _ _) ?_;unfold lst;rw [An1 (by rw [hn.out];omega),hn.out]
end Oq
end
end Go.Proofs.YthpkjfliibdnjaaGreatDoor
