/-
  Contracts of the functions that the claim's statement reaches, walked one by one (part 3).
  Conditions: as each theorem says.
-/
import Derived.Test.YtihfebhfgliojaaGreatDoorRkO2
set_option maxRecDepth 100000
set_option maxHeartbeats 16000000
open List renaming length_append->As7,getElem?_eq_getElem->As9,mem_of_getElem?->At1,take_of_length_le->At2,length_map->At6,find?_append->At7,append_assoc->At8,mem_map_of_mem->At9,flatMap_cons->Au0,getElem?_toArray->Au1
open Nat renaming le_trans->As8,le_refl->At3,mul_add->At4
open Go.World renaming size_alloc->At0,new_ne->At5
open Go.Proofs.Tryz
open Go.Proofs.Tryz renaming prog->zp
open Go.Lib renaming hid->lh
open List renaming set->zl
open Go.Ending renaming returned->ze
namespace Go.Proofs.YtihfebhfgliojaaGreatDoor
section
open Go.RowKit
attribute [local go_sem ↓] Go.wp_at_zero Go.wp_at_succ
namespace Oq
theorem RowAt.keepT {S:Nat->Prop} {w w':World} {base size n c:Nat} {t:TypeId} {A:Option Addr} {xs:List Value} (h:RowAt w base t size A n c xs) (hf:Fr S w w') (hS:∀k cs fr,w.heap[k]? =some (.cells cs t fr)->¬S k):RowAt w' base t size A n c xs:=by
 refine h.fr hf (fun h0 k hk e=> ?_)
 rcases h.2 with hn|⟨k',cs',fr',rfl,_,hb',_⟩
 · exact h0 hn
 ·
  injection hk with hk
  subst hk;exact hS _ _ _ hb' e
def Types (S:Nat->Prop) (w:World) (P:TypeId->Prop):Prop:=∀k cs t fr,w.heap[k]? =some (.cells cs t fr)->S k->P t
theorem Types.not {S:Nat->Prop} {w:World} {P:TypeId->Prop} {t:TypeId} (h:Types S w P) (ht:¬P t):∀k cs fr,w.heap[k]? =some (.cells cs t fr)->¬S k:=fun k cs fr hk e=>ht (h k cs t fr hk e)
def Far (t:TypeId):Prop:=t=44\/t=87
theorem Types.one {w:World} {g:Nat} {t:TypeId} {cs:Array Value} (h:Blk w g t cs):Types (One g) w (fun t'=>t'=t):=fun k cs' t' fr hk e=>by
 have e':k=g:=e;subst e';unfold Blk at h;rw [hk] at h;injection h with h
 injection h with _ h _
theorem Types.row {w:World} {base size n c:Nat} {t:TypeId} {A:Option Addr} {xs:List Value} (h:Own w base t size A n c xs):Types (fun k=>Ac A=some k) w (fun t'=>t'=t):=fun k cs' t' fr hk e=>by
 rcases h.2 with ⟨hv,_⟩|⟨g,cap,cur,hv,_,hg,_⟩
 ·
  injection hv with hA _ _
  subst hA
  cases e
 ·
  injection hv with hA _ _
  subst hA;injection e with e
  subst e;rw [hk] at hg;injection hg with hg
  injection hg with _ h _
theorem Types.mono {S:Nat->Prop} {w:World} {P Q:TypeId->Prop} (h:Types S w P) (hp:∀t,P t->Q t):Types S w Q:=fun k cs t fr hk e=>hp t (h k cs t fr hk e)
theorem OpL.own.keep {S:Nat->Prop} {w w':World} {base:Nat} {x:OpL} (h:x.own w base) (hf:Fr S w w') (hS:Types S w Far):x.own w' base where
 past:=h.past.keepT hf (hS.not (by unfold Far;decide))
 path:=h.path.keepT hf (hS.not (by unfold Far;decide))
 nodes y hy:=(h.nodes y hy).keepT hf (hS.not (by unfold Far;decide))
 body:=h.body.keepT hf (hS.not (by unfold Far;decide))
 refs:=h.refs.keepT hf (hS.not (by unfold Far;decide))
 guards:=h.guards.keepT hf (hS.not (by unfold Far;decide))
 boxes:=h.boxes.keepT hf (hS.not (by unfold Far;decide))
 hist:=h.hist.keepT hf (hS.not (by unfold Far;decide))
 seals y hy:=(h.seals y hy).keepT hf (hS.not (by unfold Far;decide))
structure Gs (w0 w:World) (B g go:Nat) (L:List Int) (i:Nat) (x:OpL):Prop where
 blk:Blk w go 44 x.cells
 tk:Tk w B g L i
 own:x.own w B
 lo:w0.heap.size<=B/\g<go
 fr:Fr Non w0 w
section
variable {S : Nat -> Prop} {w0 w w' : World} {B g go i i' : Nat} {L : List Int} {x : OpL}
theorem Gs.step (h:Gs w0 w B g go L i x) (hf:Fr S w w') (ht:Tk w' B g L i') (hS:Types S w Far) (hn:¬S go) (hl:∀k,S k->w0.heap.size<=k):Gs w0 w' B g go L i' x:=
 ⟨h.blk.fr hf hn,ht,h.own.keep hf hS,h.lo,h.fr.trans hf (fun k hk e=>absurd hk (by have:=hl k e;omega))⟩
theorem Gs.one (h:Gs w0 w B g go L i x) (hf:Fr (One g) w w') (ht:Tk w' B g L i'):Gs w0 w' B g go L i' x:=by
 have htk:=h.tk;obtain ⟨_,_,hb,_⟩:=htk;have hlo:=h.lo;have hB:=h.tk.le;exact h.step hf ht ((Types.one hb).mono (fun t e=> .inr e)) (by unfold One;omega) (fun k e=>by have e':k=g:=e;omega)
theorem Gs.non (h:Gs w0 w B g go L i x) (hf:Fr Non w w'):Gs w0 w' B g go L i x:=
 h.step hf (h.tk.fr hf zq zr) (fun _ _ _ _ _ e=>e.elim) zq (fun _ e=>e.elim)
theorem Gs.alloc (h:Gs w0 w B g go L i x) (o:Obj):Gs w0 (w.alloc o) B g go L i x:=h.non ((Fr.refl _ _).alloc o)
theorem Gs.drew (h:Gs w0 w B g go L i x):Gs w0 w.drew B g go L i x:=h.non ((Fr.refl _ _).drew)
theorem Gs.drewN (h:Gs w0 w B g go L i x) (n:Nat):Gs w0 (w.drewN n) B g go L i x:=h.non ((Fr.refl _ _).drewN n)
theorem Gs.put (h:Gs w0 w B g go L i x) (j:Nat) (v:Value) (y:OpL) (hy:y.cells=x.cells.setIfInBounds j v) (ho:x.own (w.setCell ⟨go,j,none⟩ v) B->y.own (w.setCell ⟨go,j,none⟩ v) B):Gs w0 (w.setCell ⟨go,j,none⟩ v) B g go L i y:=by
 have hlo:=h.lo;have hf:=(Fr.refl (One go) w).setOne j v;have hB:=h.tk.le;exact ⟨hy▸h.blk.set j v,h.tk.fr hf (by unfold One;omega) (fun k hk e=>by have e':k=go:=e;omega),ho (h.own.keep hf ((Types.one h.blk).mono (fun t e=> .inl e))),h.lo,h.fr.trans hf (fun k hk e=>absurd hk (by have e':k=go:=e;omega))⟩
theorem Gs.dev (h:Gs w0 w B g go L i x) (v:Int):Gs w0 (w.setCell ⟨go,5,none⟩ (.int .i64 v)) B g go L i {x with dev:=v}:=h.put 5 _ _ rfl (fun o=>⟨o.past,o.path,o.nodes,o.body,o.refs,o.guards,o.boxes,o.hist,o.seals⟩)
theorem Gs.old (h:Gs w0 w B g go L i x) (v:Int):Gs w0 (w.setCell ⟨go,6,none⟩ (.int .i64 v)) B g go L i {x with old:=v}:=h.put 6 _ _ rfl (fun o=>⟨o.past,o.path,o.nodes,o.body,o.refs,o.guards,o.boxes,o.hist,o.seals⟩)
theorem Gs.mem (h:Gs w0 w B g go L i x) (v:Int):Gs w0 (w.setCell ⟨go,7,none⟩ (.int .i64 v)) B g go L i {x with mem:=v}:=h.put 7 _ _ rfl (fun o=>⟨o.past,o.path,o.nodes,o.body,o.refs,o.guards,o.boxes,o.hist,o.seals⟩)
theorem Gs.role (h:Gs w0 w B g go L i x) (v:Int):Gs w0 (w.setCell ⟨go,8,none⟩ (.int .i64 v)) B g go L i {x with role:=v}:=h.put 8 _ _ rfl (fun o=>⟨o.past,o.path,o.nodes,o.body,o.refs,o.guards,o.boxes,o.hist,o.seals⟩)
theorem Gs.n (h:Gs w0 w B g go L i x) (v:Int):Gs w0 (w.setCell ⟨go,13,none⟩ (.int .i64 v)) B g go L i {x with n:=v}:=h.put 13 _ _ rfl (fun o=>⟨o.past,o.path,o.nodes,o.body,o.refs,o.guards,o.boxes,o.hist,o.seals⟩)
theorem Gs.need (h:Gs w0 w B g go L i x) (v:Int):Gs w0 (w.setCell ⟨go,20,none⟩ (.int .i64 v)) B g go L i {x with need:=v}:=h.put 20 _ _ rfl (fun o=>⟨o.past,o.path,o.nodes,o.body,o.refs,o.guards,o.boxes,o.hist,o.seals⟩)
theorem Gs.wait (h:Gs w0 w B g go L i x) (v:Int):Gs w0 (w.setCell ⟨go,21,none⟩ (.int .i64 v)) B g go L i {x with wait:=v}:=h.put 21 _ _ rfl (fun o=>⟨o.past,o.path,o.nodes,o.body,o.refs,o.guards,o.boxes,o.hist,o.seals⟩)
theorem Gs.by_ (h:Gs w0 w B g go L i x) (v:Int):Gs w0 (w.setCell ⟨go,0,none⟩ (.int .i64 v)) B g go L i {x with by_:=v}:=h.put 0 _ _ rfl (fun o=>⟨o.past,o.path,o.nodes,o.body,o.refs,o.guards,o.boxes,o.hist,o.seals⟩)
theorem Gs.sq (h:Gs w0 w B g go L i x) (v:Int):Gs w0 (w.setCell ⟨go,1,none⟩ (.int .i64 v)) B g go L i {x with sq:=v}:=h.put 1 _ _ rfl (fun o=>⟨o.past,o.path,o.nodes,o.body,o.refs,o.guards,o.boxes,o.hist,o.seals⟩)
theorem Gs.kind (h:Gs w0 w B g go L i x) (v:Int):Gs w0 (w.setCell ⟨go,2,none⟩ (.int .i64 v)) B g go L i {x with kind:=v}:=h.put 2 _ _ rfl (fun o=>⟨o.past,o.path,o.nodes,o.body,o.refs,o.guards,o.boxes,o.hist,o.seals⟩)
theorem Gs.at_ (h:Gs w0 w B g go L i x) (v:Int):Gs w0 (w.setCell ⟨go,3,none⟩ (.int .i64 v)) B g go L i {x with at_:=v}:=h.put 3 _ _ rfl (fun o=>⟨o.past,o.path,o.nodes,o.body,o.refs,o.guards,o.boxes,o.hist,o.seals⟩)
theorem Gs.pub (h:Gs w0 w B g go L i x) (v:Nat):Gs w0 (w.setCell ⟨go,23,none⟩ (.int .u64 (v:Int))) B g go L i {x with pub:=v}:=h.put 23 _ _ rfl (fun o=>⟨o.past,o.path,o.nodes,o.body,o.refs,o.guards,o.boxes,o.hist,o.seals⟩)
theorem Gs.epoch (h:Gs w0 w B g go L i x) (y:Id):Gs w0 (((w.setCell ⟨go,10,none⟩ (.int .i64 y.b)).setCell ⟨go,11,none⟩ (.int .i64 y.s)).setCell ⟨go,12,none⟩ (.int .u64 (y.u:Int))) B g go L i {x with epoch:=y}:=
 ((h.put 10 (.int .i64 y.b) {x with epoch:=⟨y.b,x.epoch.s,x.epoch.u⟩} rfl (fun o=>⟨o.past,o.path,o.nodes,o.body,o.refs,o.guards,o.boxes,o.hist,o.seals⟩)).put 11 (.int .i64 y.s) {x with epoch:=⟨y.b,y.s,x.epoch.u⟩} rfl (fun o=>⟨o.past,o.path,o.nodes,o.body,o.refs,o.guards,o.boxes,o.hist,o.seals⟩)).put 12 (.int .u64 (y.u:Int)) {x with epoch:=y} rfl (fun o=>⟨o.past,o.path,o.nodes,o.body,o.refs,o.guards,o.boxes,o.hist,o.seals⟩)
theorem Gs.of (h:Gs w0 w B g go L i x) (y:Id):Gs w0 (((w.setCell ⟨go,16,none⟩ (.int .i64 y.b)).setCell ⟨go,17,none⟩ (.int .i64 y.s)).setCell ⟨go,18,none⟩ (.int .u64 (y.u:Int))) B g go L i {x with of:=y}:=
 ((h.put 16 (.int .i64 y.b) {x with of:=⟨y.b,x.of.s,x.of.u⟩} rfl (fun o=>⟨o.past,o.path,o.nodes,o.body,o.refs,o.guards,o.boxes,o.hist,o.seals⟩)).put 17 (.int .i64 y.s) {x with of:=⟨y.b,y.s,x.of.u⟩} rfl (fun o=>⟨o.past,o.path,o.nodes,o.body,o.refs,o.guards,o.boxes,o.hist,o.seals⟩)).put 18 (.int .u64 (y.u:Int)) {x with of:=y} rfl (fun o=>⟨o.past,o.path,o.nodes,o.body,o.refs,o.guards,o.boxes,o.hist,o.seals⟩)
theorem Gs.past (h:Gs w0 w B g go L i x) (l:List Id) (A:Option Addr) (n c:Nat) (hl:l.length=n) (hr:RowAt w B 38 3 A n c (l.flatMap Id.cells)):Gs w0 (w.setCell ⟨go,4,none⟩ (.slice A n c)) B g go L i {x with pastA:=A,pastC:=c,past:=l}:=by
 subst hl;have hf:=(Fr.refl (One go) w).setOne 4 (.slice A l.length c);have ht:=Types.one h.blk;exact h.put 4 _ _ rfl (fun o=>⟨hr.keepT hf (ht.not (by decide)),o.path,o.nodes,o.body,o.refs,o.guards,o.boxes,o.hist,o.seals⟩)
theorem Gs.body (h:Gs w0 w B g go L i x) (l:List UInt8) (A:Option Addr) (n c:Nat) (hl:l.length=n) (hr:RowAt w B 5 1 A n c (l.map Bv)):Gs w0 (w.setCell ⟨go,14,none⟩ (.slice A n c)) B g go L i {x with bodyA:=A,bodyC:=c,body:=l}:=by
 subst hl;have hf:=(Fr.refl (One go) w).setOne 14 (.slice A l.length c);have ht:=Types.one h.blk;exact h.put 14 _ _ rfl (fun o=>⟨o.past,o.path,o.nodes,hr.keepT hf (ht.not (by decide)),o.refs,o.guards,o.boxes,o.hist,o.seals⟩)
theorem Gs.refs (h:Gs w0 w B g go L i x) (l:List Nat) (A:Option Addr) (n c:Nat) (hl:l.length=n) (hr:RowAt w B 23 1 A n c (l.map Uv)):Gs w0 (w.setCell ⟨go,15,none⟩ (.slice A n c)) B g go L i {x with refsA:=A,refsC:=c,refs:=l}:=by
 subst hl;have hf:=(Fr.refl (One go) w).setOne 15 (.slice A l.length c);have ht:=Types.one h.blk;exact h.put 15 _ _ rfl (fun o=>⟨o.past,o.path,o.nodes,o.body,hr.keepT hf (ht.not (by decide)),o.guards,o.boxes,o.hist,o.seals⟩)
theorem Gs.guards (h:Gs w0 w B g go L i x) (l:List Int) (A:Option Addr) (n c:Nat) (hl:l.length=n) (hr:RowAt w B 3 1 A n c (l.map Iv)):Gs w0 (w.setCell ⟨go,19,none⟩ (.slice A n c)) B g go L i {x with guardsA:=A,guardsC:=c,guards:=l}:=by
 subst hl;have hf:=(Fr.refl (One go) w).setOne 19 (.slice A l.length c);have ht:=Types.one h.blk;exact h.put 19 _ _ rfl (fun o=>⟨o.past,o.path,o.nodes,o.body,o.refs,hr.keepT hf (ht.not (by decide)),o.boxes,o.hist,o.seals⟩)
theorem Gs.boxes (h:Gs w0 w B g go L i x) (l:List Bx) (A:Option Addr) (n c:Nat) (hl:l.length=n) (hr:RowAt w B 148 4 A n c (l.flatMap Bx.cells)):Gs w0 (w.setCell ⟨go,22,none⟩ (.slice A n c)) B g go L i {x with boxesA:=A,boxesC:=c,boxes:=l}:=by
 subst hl;have hf:=(Fr.refl (One go) w).setOne 22 (.slice A l.length c);have ht:=Types.one h.blk;exact h.put 22 _ _ rfl (fun o=>⟨o.past,o.path,o.nodes,o.body,o.refs,o.guards,hr.keepT hf (ht.not (by decide)),o.hist,o.seals⟩)
theorem Gs.path (h:Gs w0 w B g go L i x) (l:List NdL) (A:Option Addr) (n c:Nat) (hl:l.length=n) (hr:RowAt w B 94 2 A n c (l.flatMap NdL.cells)) (hn:∀y∈l,RowAt w B 148 4 y.A y.xs.length y.c (y.xs.flatMap Bx.cells)):Gs w0 (w.setCell ⟨go,9,none⟩ (.slice A n c)) B g go L i {x with pathA:=A,pathC:=c,path:=l}:=by
 subst hl;have hf:=(Fr.refl (One go) w).setOne 9 (.slice A l.length c);have ht:=Types.one h.blk;exact h.put 9 _ _ rfl (fun o=>⟨o.past,hr.keepT hf (ht.not (by decide)),fun y hy=>(hn y hy).keepT hf (ht.not (by decide)),o.body,o.refs,o.guards,o.boxes,o.hist,o.seals⟩)
theorem Gs.hist (h:Gs w0 w B g go L i x) (l:List SlL) (A:Option Addr) (n c:Nat) (hl:l.length=n) (hr:RowAt w B 97 4 A n c (l.flatMap SlL.cells)) (hn:∀y∈l,RowAt w B 5 1 y.A y.y.length y.c (y.y.map Bv)):Gs w0 (w.setCell ⟨go,24,none⟩ (.slice A n c)) B g go L i {x with histA:=A,histC:=c,hist:=l}:=by
 subst hl;have hf:=(Fr.refl (One go) w).setOne 24 (.slice A l.length c);have ht:=Types.one h.blk;exact h.put 24 _ _ rfl (fun o=>⟨o.past,o.path,o.nodes,o.body,o.refs,o.guards,o.boxes,hr.keepT hf (ht.not (by decide)),fun y hy=>(hn y hy).keepT hf (ht.not (by decide))⟩)
end
end Oq
end
section
open Go.RowKit
namespace Oq
structure Aj where
 x:OpL
 id:Id
 a0:Nat
 a1:Nat
 a2:Nat
 a3:Nat
 lev:Nat
def Aj.ws (n:Aj):List Nat:=[n.a0,n.a1,n.a2,n.a3]
def Aj.cells (n:Aj):List Value:=n.x.cells.toList++[.int .i64 n.id.b,.int .i64 n.id.s,.int .u64 (n.id.u:Int),.int .u64 (n.a0:Int),.int .u64 (n.a1:Int),.int .u64 (n.a2:Int),.int .u64 (n.a3:Int),.int .i64 (n.lev:Int)]
theorem Aj.len (n:Aj):n.cells.length=35:=rfl
def Aj.past (n:Aj) (k:Nat):Bool:=(n.ws.getD (k/64) 0).testBit (k%64)
structure Gph where
 gb:Nat
 mb:Nat
 mm:Nat
 cA:Option Addr
 cC:Nat
 cards:List Cd
 nA:Option Addr
 nC:Nat
 nodes:List Aj
def Ah (l:List Aj) (id:Id):Option Nat:=l.findIdx? (fun n=>decide (n.id=id))
theorem Gk {l:List Aj} {id:Id} {i:Nat} (h:Ah l id=some i):∃n,l[i]? =some n/\n.id=id:=by
 obtain ⟨hi,h1,_⟩:=List.findIdx?_eq_some_iff_getElem.1 h;exact ⟨l[i],As9 hi,by simpa using h1⟩
structure Aj.okAt (w:World) (base:Nat) (n:Aj):Prop where
 own:n.x.own w base
 ok:n.x.op.ok
 id:n.id.ok
 set:Be n.ws n.past
theorem Aj.okAt.at_ {w:World} {base:Nat} {n:Aj} (h:n.okAt w base):n.x.at w w.heap.size:=h.own.at
theorem RowAt.non {w w':World} {base size n c:Nat} {t:TypeId} {A:Option Addr} {xs:List Value} (h:RowAt w base t size A n c xs) (hf:Fr Non w w'):RowAt w' base t size A n c xs:=h.fr hf (fun _ _ _ e=>e)
theorem OpL.own.keepP {S:Nat->Prop} {P:TypeId->Prop} {w w':World} {base:Nat} {x:OpL} (h:x.own w base) (hf:Fr S w w') (hS:Types S w P) (h1:¬P 38) (h2:¬P 94) (h3:¬P 148) (h4:¬P 5) (h5:¬P 23) (h6:¬P 3) (h7:¬P 97):x.own w' base where
 past:=h.past.keepT hf (hS.not h1)
 path:=h.path.keepT hf (hS.not h2)
 nodes y hy:=(h.nodes y hy).keepT hf (hS.not h3)
 body:=h.body.keepT hf (hS.not h4)
 refs:=h.refs.keepT hf (hS.not h5)
 guards:=h.guards.keepT hf (hS.not h6)
 boxes:=h.boxes.keepT hf (hS.not h3)
 hist:=h.hist.keepT hf (hS.not h7)
 seals y hy:=(h.seals y hy).keepT hf (hS.not h4)
theorem OpL.own.non {w w':World} {base:Nat} {x:OpL} (h:x.own w base) (hf:Fr Non w w'):x.own w' base:=
 h.keepP (P:=fun _=>False) hf (fun _ _ _ _ _ e=>e.elim) zq zq zq zq zq zq zq
structure GAt (w:World) (base:Nat) (g:Gph):Prop where
 blk:Blk w g.gb 119 #[.slice g.cA g.cards.length g.cC,.map (some g.mb),.slice g.nA g.nodes.length g.nC]
 pos:0<base
 gbase:base<=g.gb
 mbase:base<=g.mb
 crow:Own w base 104 5 g.cA g.cards.length g.cC (g.cards.flatMap Cd.cells)
 own:Own w base 114 35 g.nA g.nodes.length g.nC (g.nodes.flatMap Aj.cells)
 few:g.nodes.length<=200
 mfew:g.mm<=g.nodes.length
 levs:∀n∈g.nodes,n.lev<=g.nodes.length
 cfew:g.cards.length<=1000000
 cok:∀c∈g.cards,c.s<18446744073709551616
 map:MapAt w g.mb g.mm (Ah g.nodes)
 node:∀n∈g.nodes,n.okAt w base
def Gph.own (g:Gph):Nat->Prop:=fun k=>k=g.gb\/k=g.mb\/Ac g.nA=some k
theorem GAt.fr {w w':World} {base:Nat} {g:Gph} (h:GAt w base g) (hf:Fr Non w w'):GAt w' base g where
 blk:=h.blk.fr hf zq
 pos:=h.pos
 gbase:=h.gbase
 mbase:=h.mbase
 crow:=h.crow.fr hf zr
 own:=h.own.fr hf zr
 few:=h.few
 mfew:=h.mfew
 levs:=h.levs
 cfew:=h.cfew
 cok:=h.cok
 map:=h.map.fr hf zq
 node:=fun n hn=>by
  have k:=h.node n hn;exact ⟨k.own.non hf,k.ok,k.id,k.set⟩
theorem GAt.cards {w:World} {base:Nat} {g:Gph} (h:GAt w base g):Rd w w.heap.size 5 g.cA g.cards.length (g.cards.flatMap Cd.cells):=h.crow.rd
theorem GAt.later {S:Nat->Prop} {w w':World} {base:Nat} {g:Gph} (h:GAt w base g) (hf:Fr S w w') (hS:∀k,k<w.heap.size->¬S k):GAt w' base g:=h.fr (hf.mono (fun k hk e=>hS k hk e))
theorem GAt.cell {w:World} {base:Nat} {g:Gph} (h:GAt w base g) {i:Nat} {n:Aj} (hi:g.nodes[i]? =some n):
  ∃b off,g.nA=some ⟨b,off,none⟩/\b<w.heap.size/\∀j,j<35->∀u,n.cells[j]? =some u->w.cell? ⟨b,off+i*35+j,none⟩=some u:=
 E8 (f:=Aj.cells) (fun _=>rfl) (by omega) h.own.rd hi
end Oq
end
section
open Go.RowKit
attribute [local go_sem ↓] Go.wp_at_zero Go.wp_at_succ
namespace Oq
attribute [local go_sem] Bool.not_false Bool.not_true
def Gph.level (g:Gph) (id:Id):Nat:=match Ah g.nodes id with|some i=>(g.nodes[i]?.map Aj.lev).getD 0|none=>0
theorem Vl (base:Nat) (g:Gph) (id:Id) (w:World) (hg:GAt w base g) (hid:id.ok):Calls zp 72 #[.pointer (some ⟨g.gb,0,none⟩),.agg id.V] w fun e w'=>e=.returned (.int .i64 (g.level id:Int))/\GrowOf w w':=by
 have f0:GrowOf w (w.alloc (.cells id.V 38)):=(GrowOf.refl w).alloc _;have hb:=Blk.new w 38 id.V;have i0:cI (w.alloc (.cells id.V 38)) w.heap.size 0 id.b:=hb.cell 0;have i1:cI (w.alloc (.cells id.V 38)) w.heap.size 1 id.s:=hb.cell 1;have i2:cU (w.alloc (.cells id.V 38)) w.heap.size 2 id.u:=hb.cell 2;have ac:=hg.fr f0.fr;have c1:(w.alloc (.cells id.V 38)).cell? ⟨g.gb,1,none⟩=some (.map (some g.mb)):=ac.blk.cell 1;have c2:cS (w.alloc (.cells id.V 38)) g.gb 2 g.nA g.nodes.length g.nC:=ac.blk.cell 2;have aa:=ac.map;have ab:=fun (w':World) (h:MapAt w' g.mb g.mm (Ah g.nodes))=>MapAt.look h id hid;have ad:Hid (g.level id=match Ah g.nodes id with|some i=>(g.nodes[i]?.map Aj.lev).getD 0|none=>0):=rfl;have al:Hid (∀i,Ah g.nodes id=some i->∃n,g.nodes[i]? =some n):=fun i hi=>by obtain ⟨n,h1,_⟩:=Gk hi;exact ⟨n,h1⟩
 have ag:=lh (fun (i:Nat) (n:Aj) (hi:g.nodes[i]? =some n)=>ac.cell hi);generalize g.level id=lv at*
 cases hp:Ah g.nodes id
 focus
  have hv:Hid (0=lv):=by show _=_;rw [ad.out,hp]
  rw [hp] at ab;clear hg ac hb ad hp;go_enter func72,ntmps72;go_wp2_with fail;generalize hw0:w.alloc (.cells id.V 38)=w0 at*;clear hw0;refine wp_region_held_drew (S:=(fun w'=>cI w' w.heap.size 0 id.b/\cI w' w.heap.size 1 id.s/\cU w' w.heap.size 2 id.u/\w'.cell? ⟨g.gb,1,none⟩=some (.map (some g.mb))/\MapAt w' g.mb g.mm (Ah g.nodes))) (by kernel_rfl) ⟨i0,i1,i2,c1,aa⟩ (fun hS=> ?_);replace f0:=f0.drew
 rotate_left
 focus
  rename_i i;obtain ⟨n,hn,_⟩:=Gk hp;have hv:Hid (n.lev=lv):=by show _=_;rw [ad.out,hp];simp [hn]
  have ai:=hg.few;have aj:i<g.nodes.length:=(List.getElem?_eq_some_iff.1 hn).1;obtain ⟨b,ae,hA,ak,hc⟩:=ac.cell hn;have cl:cI (w.alloc (.cells id.V 38)) b (ae+i*35+34) (n.lev:Int):=hc 34 (by omega) _ rfl;rw [hA] at c2;have j1:(0:Int)<=i:=by omega
  have j2:(i:Int)<g.nodes.length:=by omega
  have j3:(i:Int).toNat=i:=by omega
  have j4:IntKind.i64.wrap (i:Int)=i:=IntWalk.i64_in _ (by omega);rw [hp] at ab;clear hg ac hb ad hp hn aj hc hA ak;generalize g.nodes.length=nn at*;go_enter func72,ntmps72;go_wp2_with fail;generalize hw0:w.alloc (.cells id.V 38)=w0 at*;clear hw0;have af:=c2;have ah:=cl;refine wp_region_held_drew (S:=(fun w'=>cI w' w.heap.size 0 id.b/\cI w' w.heap.size 1 id.s/\cU w' w.heap.size 2 id.u/\w'.cell? ⟨g.gb,1,none⟩=some (.map (some g.mb))/\MapAt w' g.mb g.mm (Ah g.nodes))) (by kernel_rfl) ⟨i0,i1,i2,c1,aa⟩ (fun hS=> ?_);replace f0:=f0.drew;replace af:cS w0.drew g.gb 2 (some ⟨b,ae,none⟩) nn g.nC:=af;replace ah:cI w0.drew b (ae+i*35+34) (n.lev:Int):=ah
 all_goals
  refine tkH 0 hS (h:=tkH 1 hS (h:=tkH 2 hS (h:=tkH 3 hS (h:=tkH 4 hS (h:=tkH 5 hS (h:=tkH 6 hS (h:=tkH 7 hS (h:=tkH 8 hS (h:=tkH 9 hS (h:=tkH 10 hS (h:=?_)))))))))));simp only [zl];refine oD ?_;go_simp;go_wp2_with fail
  go_ret
  exact ⟨congrArg (fun z:Nat=>ze (.int .i64 (z:Int))) hv.out,f0⟩
theorem Om (base:Nat) (g:Gph) (id:Id) (w:World) (hg:GAt w base g) (hid:id.ok):Calls zp 72 #[.pointer (some ⟨g.gb,0,none⟩),.agg id.V] w fun e w'=>e=.returned (.int .i64 (g.level id:Int))/\Fr Non w w':=
 (Vl base g id w hg hid).mono fun _ _ h=>⟨h.1,h.2.fr⟩
def Gph.before (g:Gph) (a b:Id):Bool:=match Ah g.nodes a,Ah g.nodes b with|some i,some j=>(g.nodes[j]?.map (fun n=>n.past i)).getD false|_,_=>false
theorem GAt.setAt {w:World} {base:Nat} {g:Gph} (h:GAt w base g) {i:Nat} {n:Aj} (hi:g.nodes[i]? =some n):
  ∃b off,g.nA=some ⟨b,off,none⟩/\E9 w b (off+i*35+30) n.ws:=by
 obtain ⟨b,off,hA,hbB,hc⟩:=h.cell hi;refine ⟨b,off,hA,?_⟩;intro k hk
 match k,hk with
 |0,_=>exact hc 30 (by omega) _ rfl
 |1,_=>exact hc 31 (by omega) _ rfl
 |2,_=>exact hc 32 (by omega) _ rfl
 |3,_=>exact hc 33 (by omega) _ rfl
theorem Vm (base:Nat) (g:Gph) (a b:Id) (w:World) (hg:GAt w base g) (ha:a.ok) (hb:b.ok):Calls zp 35 #[.pointer (some ⟨g.gb,0,none⟩),.agg a.V,.agg b.V] w fun e w'=>e=.returned (.bool (g.before a b))/\Fr Non w w':=by
 have f1:Fr Non w (w.alloc (.cells a.V 38)):=(Fr.refl Non w).alloc _;have f0:=f1.alloc (.cells b.V 38);have af:=Blk.new w 38 a.V;have ai:=Blk.new (w.alloc (.cells a.V 38)) 38 b.V;rw [At0] at ai;replace af:=af.alloc (.cells b.V 38);have ah:=hg.fr f0;generalize hw0:(w.alloc (.cells a.V 38)).alloc (.cells b.V 38)=w0 at*;have i0:cI w0 w.heap.size 0 a.b:=af.cell 0;have i1:cI w0 w.heap.size 1 a.s:=af.cell 1;have i2:cU w0 w.heap.size 2 a.u:=af.cell 2;have k0:cI w0 (w.heap.size+1) 0 b.b:=ai.cell 0;have k1:cI w0 (w.heap.size+1) 1 b.s:=ai.cell 1;have k2:cU w0 (w.heap.size+1) 2 b.u:=ai.cell 2;have c1:w0.cell? ⟨g.gb,1,none⟩=some (.map (some g.mb)):=ah.blk.cell 1;have c2:cS w0 g.gb 2 g.nA g.nodes.length g.nC:=ah.blk.cell 2;have ac:=ah.map;have ae:=fun (w':World) (h:MapAt w' g.mb g.mm (Ah g.nodes))=>MapAt.look h a ha;have ad:=fun (w':World) (h:MapAt w' g.mb g.mm (Ah g.nodes))=>MapAt.look h b hb;have ag:Hid (g.before a b=match Ah g.nodes a,Ah g.nodes b with|some i,some j=>(g.nodes[j]?.map (fun n=>n.past i)).getD false|_,_=>false):=rfl;generalize g.before a b=lv at*
 cases hpa:Ah g.nodes a
 ·
  cases hpb:Ah g.nodes b
  focus
   have hv:Hid (false=lv):=by show _=_;rw [ag.out,hpa]
   rw [hpa] at ae;rw [hpb] at ad;clear hg ah af ai ag hpa hpb
  rotate_left
  focus
   have hv:Hid (false=lv):=by show _=_;rw [ag.out,hpa]
   rw [hpa] at ae;rw [hpb] at ad;clear hg ah af ai ag hpa hpb;rename_i j
  all_goals
   go_enter func35,ntmps35;go_wp2_with fail;clear hw0;refine wp_region_held_drew (S:=(fun w'=>cI w' w.heap.size 0 a.b/\cI w' w.heap.size 1 a.s/\cU w' w.heap.size 2 a.u/\cI w' (w.heap.size+1) 0 b.b/\cI w' (w.heap.size+1) 1 b.s/\cU w' (w.heap.size+1) 2 b.u/\w'.cell? ⟨g.gb,1,none⟩=some (.map (some g.mb))/\MapAt w' g.mb g.mm (Ah g.nodes))) (by kernel_rfl) ⟨i0,i1,i2,k0,k1,k2,c1,ac⟩ (fun ab=> ?_);replace f0:=f0.drew;refine tkH 0 ab (h:=tkH 1 ab (h:=tkH 2 ab (h:=tkH 3 ab (h:=tkH 4 ab (h:=tkH 5 ab (h:=tkH 6 ab (h:=tkH 7 ab (h:=tkH 8 ab (h:=tkH 9 ab (h:=tkH 10 ab (h:=?_)))))))))));simp only [zl];refine oD ?_;go_simp;go_wp2_with fail;refine wp_region_held_drew (S:=(fun w'=>cI w' w.heap.size 0 a.b/\cI w' w.heap.size 1 a.s/\cU w' w.heap.size 2 a.u/\cI w' (w.heap.size+1) 0 b.b/\cI w' (w.heap.size+1) 1 b.s/\cU w' (w.heap.size+1) 2 b.u/\w'.cell? ⟨g.gb,1,none⟩=some (.map (some g.mb))/\MapAt w' g.mb g.mm (Ah g.nodes))) (by kernel_rfl) ⟨i0,i1,i2,k0,k1,k2,c1,ac⟩ (fun aa=> ?_);replace f0:=f0.drew;refine tkH 0 aa (h:=tkH 1 aa (h:=tkH 2 aa (h:=tkH 3 aa (h:=tkH 4 aa (h:=tkH 5 aa (h:=tkH 6 aa (h:=tkH 7 aa (h:=tkH 8 aa (h:=tkH 9 aa (h:=tkH 10 aa (h:=?_)))))))))));simp only [zl];refine oD ?_;go_simp;go_wp2_with fail
   go_ret
   exact ⟨congrArg (fun z:Bool=>ze (.bool z)) hv.out,f0⟩
 ·
  cases hpb:Ah g.nodes b
  ·
   have hv:Hid (false=lv):=by show _=_;rw [ag.out,hpa,hpb]
   rw [hpa] at ae;rw [hpb] at ad;clear hg ah af ai ag hpa hpb;go_enter func35,ntmps35;go_wp2_with fail;clear hw0;refine wp_region_held_drew (S:=(fun w'=>cI w' w.heap.size 0 a.b/\cI w' w.heap.size 1 a.s/\cU w' w.heap.size 2 a.u/\cI w' (w.heap.size+1) 0 b.b/\cI w' (w.heap.size+1) 1 b.s/\cU w' (w.heap.size+1) 2 b.u/\w'.cell? ⟨g.gb,1,none⟩=some (.map (some g.mb))/\MapAt w' g.mb g.mm (Ah g.nodes))) (by kernel_rfl) ⟨i0,i1,i2,k0,k1,k2,c1,ac⟩ (fun ab=> ?_);replace f0:=f0.drew;refine tkH 0 ab (h:=tkH 1 ab (h:=tkH 2 ab (h:=tkH 3 ab (h:=tkH 4 ab (h:=tkH 5 ab (h:=tkH 6 ab (h:=tkH 7 ab (h:=tkH 8 ab (h:=tkH 9 ab (h:=tkH 10 ab (h:=?_)))))))))));simp only [zl];refine oD ?_;go_simp;go_wp2_with fail;refine wp_region_held_drew (S:=(fun w'=>cI w' w.heap.size 0 a.b/\cI w' w.heap.size 1 a.s/\cU w' w.heap.size 2 a.u/\cI w' (w.heap.size+1) 0 b.b/\cI w' (w.heap.size+1) 1 b.s/\cU w' (w.heap.size+1) 2 b.u/\w'.cell? ⟨g.gb,1,none⟩=some (.map (some g.mb))/\MapAt w' g.mb g.mm (Ah g.nodes))) (by kernel_rfl) ⟨i0,i1,i2,k0,k1,k2,c1,ac⟩ (fun aa=> ?_);replace f0:=f0.drew;refine tkH 0 aa (h:=tkH 1 aa (h:=tkH 2 aa (h:=tkH 3 aa (h:=tkH 4 aa (h:=tkH 5 aa (h:=tkH 6 aa (h:=tkH 7 aa (h:=tkH 8 aa (h:=tkH 9 aa (h:=tkH 10 aa (h:=?_)))))))))));simp only [zl];refine oD ?_;go_simp;go_wp2_with fail
   go_ret
   exact ⟨congrArg (fun z:Bool=>ze (.bool z)) hv.out,f0⟩
  ·
   rename_i i j;obtain ⟨n,hn,_⟩:=Gk hpb;obtain ⟨n',aq,_⟩:=Gk hpa;have hv:Hid (n.past i=lv):=by show _=_;rw [ag.out,hpa,hpb];simp [hn]
   have al:=hg.few;have au:j<g.nodes.length:=(List.getElem?_eq_some_iff.1 hn).1;have ak:i<g.nodes.length:=(List.getElem?_eq_some_iff.1 aq).1;obtain ⟨bb,ar,hA,ap⟩:=ah.setAt hn;have ao:=(hg.node n (At1 hn)).set;rw [hA] at c2;have j1:(0:Int)<=j:=by omega
   have j2:(j:Int)<g.nodes.length:=by omega
   have j3:(j:Int).toNat=j:=by omega
   have j4:IntKind.i64.wrap (j:Int)=j:=IntWalk.i64_in _ (by omega);have aj:i<256:=by omega
   rw [hpa] at ae;rw [hpb] at ad;clear hg ah af ai ag hpa hpb hn aq au ak hA al;generalize g.nodes.length=nn at*;go_enter func35,ntmps35;go_wp2_with fail;clear hw0;refine wp_region_held_drew (S:=(fun w'=>cI w' w.heap.size 0 a.b/\cI w' w.heap.size 1 a.s/\cU w' w.heap.size 2 a.u/\cI w' (w.heap.size+1) 0 b.b/\cI w' (w.heap.size+1) 1 b.s/\cU w' (w.heap.size+1) 2 b.u/\w'.cell? ⟨g.gb,1,none⟩=some (.map (some g.mb))/\MapAt w' g.mb g.mm (Ah g.nodes))) (by kernel_rfl) ⟨i0,i1,i2,k0,k1,k2,c1,ac⟩ (fun ab=> ?_);replace f0:=f0.drew;refine tkH 0 ab (h:=tkH 1 ab (h:=tkH 2 ab (h:=tkH 3 ab (h:=tkH 4 ab (h:=tkH 5 ab (h:=tkH 6 ab (h:=tkH 7 ab (h:=tkH 8 ab (h:=tkH 9 ab (h:=tkH 10 ab (h:=?_)))))))))));simp only [zl];refine oD ?_;go_simp;go_wp2_with fail;refine wp_region_held_drew (S:=(fun w'=>cI w' w.heap.size 0 a.b/\cI w' w.heap.size 1 a.s/\cU w' w.heap.size 2 a.u/\cI w' (w.heap.size+1) 0 b.b/\cI w' (w.heap.size+1) 1 b.s/\cU w' (w.heap.size+1) 2 b.u/\w'.cell? ⟨g.gb,1,none⟩=some (.map (some g.mb))/\MapAt w' g.mb g.mm (Ah g.nodes))) (by kernel_rfl) ⟨i0,i1,i2,k0,k1,k2,c1,ac⟩ (fun aa=> ?_);replace f0:=f0.drew;refine tkH 0 aa (h:=tkH 1 aa (h:=tkH 2 aa (h:=tkH 3 aa (h:=tkH 4 aa (h:=tkH 5 aa (h:=tkH 6 aa (h:=tkH 7 aa (h:=tkH 8 aa (h:=tkH 9 aa (h:=tkH 10 aa (h:=?_)))))))))));simp only [zl];refine oD ?_;go_simp;replace c2:cS w0.drew.drew g.gb 2 (some ⟨bb,ar,none⟩) nn g.nC:=c2;replace ap:E9 w0.drew.drew bb (ar+j*35+30) n.ws:=ap;go_wp2_with (go_at_call 70;(with_reducible refine (Ob _ _ _ _ i _ ao ap aj).mono ?_);rintro _ _ ⟨rfl,rfl⟩)
   go_ret
   exact ⟨congrArg (fun z:Bool=>ze (.bool z)) hv.out,f0⟩
def Cd.zero:Cd:=⟨0,0,0,0,0⟩
def Ey (c:Cd) (b:Bool) (w:World) (e:Ending) (w':World):Prop:=e=.returned (.tuple #[.agg c.cells.toArray,.bool b])/\Fr Non w w'
def Gph.card (g:Gph) (d:Int):Option Cd:=g.cards.find? (fun c=>c.d==d)
theorem On (base:Nat) (g:Gph) (d:Int) (w:World) (hg:GAt w base g) (hn:g.cards.length<=1000000):Calls zp 65 #[.pointer (some ⟨g.gb,0,none⟩),.int .i64 d] w (Ey ((g.card d).getD Cd.zero) (g.card d).isSome w):=by
 have hr:=hg.cards;have c0:cS w g.gb 0 g.cA g.cards.length g.cC:=hg.blk.cell 0;have ab:Hid (g.card d=g.cards.find? (fun c=>c.d==d)):=rfl;generalize g.card d=R at*;clear hg;generalize hl:g.cards=l at*;clear hl;obtain ⟨n,ad⟩:=Aa l.length;rw [ad.out] at hr c0 hn;have f0:Fr Non w (w.alloc (.cells zC 104)):=(Fr.refl Non w).alloc _;have b0:=Blk.new w 104 zC;replace hr:=hr.fr f0 zr;replace c0:=f0.cell c0 zq;go_enter func65,ntmps65;go_upto_region 1 with (fail)
 generalize w.alloc (.cells zC 104)=w0 at*;go_wp2_with fail
 go_loopw [5,13] (fun r v wr=>∃k:Nat,r=.bool false/\v=.int .i64 (k:Int)/\k<=n/\Hid ((l.take k).find? (fun c=>c.d==d)=none)/\Fr Non w0 wr) (fun _ v _=>n-(intOf v).toNat)
 case atStart=>exact ⟨0,rfl,rfl,by omega,rfl,Fr.refl _ _⟩
 case round=>
  obtain ⟨k,rfl,rfl,hk,hh,hf⟩:=hrel
  by_cases hlt:k<n
  ·
   have i1:(0:Int)<=k:=by omega
   have i2:(k:Int)<n:=by omega
   have i3:(k:Int).toNat=k:=by omega
   obtain ⟨c,hc⟩:∃c,l[k]? =some c:=⟨_,As9 (by rw [ad.out];exact hlt)⟩;obtain ⟨b,ac,hA,ai,aa⟩:=E8 (f:=Cd.cells) (fun _=>rfl) (by omega) (hr.fr hf zr) hc;have d0:cI wr b (ac+k*5) c.d:=aa 0 (by omega) _ rfl;have d1:cI wr b (ac+k*5+1) c.m:=aa 1 (by omega) _ rfl;have d2:cU wr b (ac+k*5+2) c.l:=aa 2 (by omega) _ rfl;have d3:cU wr b (ac+k*5+3) c.k:=aa 3 (by omega) _ rfl;have d4:cU wr b (ac+k*5+4) c.s:=aa 4 (by omega) _ rfl;clear aa ai;rw [hA];have b1:=b0.fr hf zq
   rcases zb (c.d==d) with hcd|hcd
   ·
    have hR:Hid (R=some c):=by
     show _=_;rw [ab.out,<- List.take_append_drop k l,At7,hh.out,List.drop_eq_getElem_cons (by rw [ad.out];exact hlt)];rw [As9 (by rw [ad.out];exact hlt)] at hc;rw [Option.some.inj hc];simp [hcd]
    have ae:c.d=d:=by simpa using hcd
    have f1:=f0.trans hf zr
    have af:Hid (∀wz,Fr (One w.heap.size) wr wz->Ey (R.getD Cd.zero) R.isSome w (.returned (.tuple #[.agg #[.int .i64 c.d,.int .i64 c.m,.int .u64 (c.l:Int),.int .u64 (c.k:Int),.int .u64 (c.s:Int)],.bool true])) wz):=by
     intro wz hz;refine ⟨?_,f1.trans hz (fun k hk e=>absurd hk (by have e':k=w.heap.size:=e;omega))⟩;rw [hR.out];rfl
    clear ab hc hh f1;generalize R.getD Cd.zero=RC at*;generalize R.isSome=RS at*;have bz:=b1.alloc (.cells #[.int .i64 c.d,.int .i64 c.m,.int .u64 (c.l:Int),.int .u64 (c.k:Int),.int .u64 (c.s:Int)] 104);have e0:cI (wr.alloc (.cells #[.int .i64 c.d,.int .i64 c.m,.int .u64 (c.l:Int),.int .u64 (c.k:Int),.int .u64 (c.s:Int)] 104)) w.heap.size 0 0:=bz.cell 0;have z0:(wr.alloc (.cells #[.int .i64 c.d,.int .i64 c.m,.int .u64 (c.l:Int),.int .u64 (c.k:Int),.int .u64 (c.s:Int)] 104)).frozen? ⟨w.heap.size,0,none⟩=false:=bz.frozen 0;have e1:cI (wr.alloc (.cells #[.int .i64 c.d,.int .i64 c.m,.int .u64 (c.l:Int),.int .u64 (c.k:Int),.int .u64 (c.s:Int)] 104)) w.heap.size 1 0:=bz.cell 1;have z1:(wr.alloc (.cells #[.int .i64 c.d,.int .i64 c.m,.int .u64 (c.l:Int),.int .u64 (c.k:Int),.int .u64 (c.s:Int)] 104)).frozen? ⟨w.heap.size,1,none⟩=false:=bz.frozen 1;have e2:(wr.alloc (.cells #[.int .i64 c.d,.int .i64 c.m,.int .u64 (c.l:Int),.int .u64 (c.k:Int),.int .u64 (c.s:Int)] 104)).cell? ⟨w.heap.size,2,none⟩=some (.int .u64 0):=bz.cell 2;have z2:(wr.alloc (.cells #[.int .i64 c.d,.int .i64 c.m,.int .u64 (c.l:Int),.int .u64 (c.k:Int),.int .u64 (c.s:Int)] 104)).frozen? ⟨w.heap.size,2,none⟩=false:=bz.frozen 2;have e3:(wr.alloc (.cells #[.int .i64 c.d,.int .i64 c.m,.int .u64 (c.l:Int),.int .u64 (c.k:Int),.int .u64 (c.s:Int)] 104)).cell? ⟨w.heap.size,3,none⟩=some (.int .u64 0):=bz.cell 3;have z3:(wr.alloc (.cells #[.int .i64 c.d,.int .i64 c.m,.int .u64 (c.l:Int),.int .u64 (c.k:Int),.int .u64 (c.s:Int)] 104)).frozen? ⟨w.heap.size,3,none⟩=false:=bz.frozen 3;have e4:(wr.alloc (.cells #[.int .i64 c.d,.int .i64 c.m,.int .u64 (c.l:Int),.int .u64 (c.k:Int),.int .u64 (c.s:Int)] 104)).cell? ⟨w.heap.size,4,none⟩=some (.int .u64 0):=bz.cell 4;have z4:(wr.alloc (.cells #[.int .i64 c.d,.int .i64 c.m,.int .u64 (c.l:Int),.int .u64 (c.k:Int),.int .u64 (c.s:Int)] 104)).frozen? ⟨w.heap.size,4,none⟩=false:=bz.frozen 4;have ag:=(((((bz.set 0 (.int .i64 c.d)).set 1 (.int .i64 c.m)).set 2 (.int .u64 (c.l:Int))).set 3 (.int .u64 (c.k:Int))).set 4 (.int .u64 (c.s:Int)));have fz:=(((((((Fr.refl (One w.heap.size) wr).alloc (.cells #[.int .i64 c.d,.int .i64 c.m,.int .u64 (c.l:Int),.int .u64 (c.k:Int),.int .u64 (c.s:Int)] 104)).setCell (p:=⟨w.heap.size,0,none⟩) (fun _=>rfl) (.int .i64 c.d)).setCell (p:=⟨w.heap.size,1,none⟩) (fun _=>rfl) (.int .i64 c.m)).setCell (p:=⟨w.heap.size,2,none⟩) (fun _=>rfl) (.int .u64 (c.l:Int))).setCell (p:=⟨w.heap.size,3,none⟩) (fun _=>rfl) (.int .u64 (c.k:Int))).setCell (p:=⟨w.heap.size,4,none⟩) (fun _=>rfl) (.int .u64 (c.s:Int)));rw [ae] at af bz fz ag e0 e1 e2 e3 e4 z0 z1 z2 z3 z4;clear b1 bz;go_wp2_with fail
    (try simp only [Exit.inBlock,Exit.then])
    refine Fa (t:=104) rfl rfl ag rfl underlying104 (by kernel_rfl) rfl ?_;exact af.out _ fz
   ·
    have ah:Hid ((l.take (k+1)).find? (fun c=>c.d==d)=none):=by
     show _=_;rw [List.take_add_one,At7,hh.out,hc];simp [hcd]
    have ae:¬c.d=d:=by simpa using hcd
    clear ab hc hh b1;go_wp2_with fail;go_roundw
    case rel=>exact ⟨k+1,rfl,by go_num,by omega,ah,hf.alloc _⟩
    case measure=>simp [intOf];omega
  ·
   obtain rfl:n=k:=by omega
   have hR:Hid (R=none):=by
    show _=_;rw [ab.out];have h:=hh.out;rwa [At2 (by rw [ad.out];omega)] at h
   have b1:=b0.fr hf zq;have f1:=f0.trans hf zr
   have af:Hid (∀wz,Fr (One w.heap.size) wr wz->Ey (R.getD Cd.zero) R.isSome w (.returned (.tuple #[.agg zC,.bool false])) wz):=by
    intro wz hz;refine ⟨?_,f1.trans hz (fun k hk e=>absurd hk (by have e':k=w.heap.size:=e;omega))⟩;rw [hR.out];rfl
   clear ab hh;generalize R.getD Cd.zero=RC at*;generalize R.isSome=RS at*;have e0:cI wr w.heap.size 0 0:=b1.cell 0;have z0:wr.frozen? ⟨w.heap.size,0,none⟩=false:=b1.frozen 0;have e1:cI wr w.heap.size 1 0:=b1.cell 1;have z1:wr.frozen? ⟨w.heap.size,1,none⟩=false:=b1.frozen 1;have e2:wr.cell? ⟨w.heap.size,2,none⟩=some (.int .u64 0):=b1.cell 2;have z2:wr.frozen? ⟨w.heap.size,2,none⟩=false:=b1.frozen 2;have e3:wr.cell? ⟨w.heap.size,3,none⟩=some (.int .u64 0):=b1.cell 3;have z3:wr.frozen? ⟨w.heap.size,3,none⟩=false:=b1.frozen 3;have e4:wr.cell? ⟨w.heap.size,4,none⟩=some (.int .u64 0):=b1.cell 4;have z4:wr.frozen? ⟨w.heap.size,4,none⟩=false:=b1.frozen 4;have ag:=(((((b1.set 0 (.int .i64 0)).set 1 (.int .i64 0)).set 2 (.int .u64 0)).set 3 (.int .u64 0)).set 4 (.int .u64 0));have fz:=((((((Fr.refl (One w.heap.size) wr).setCell (p:=⟨w.heap.size,0,none⟩) (fun _=>rfl) (.int .i64 0)).setCell (p:=⟨w.heap.size,1,none⟩) (fun _=>rfl) (.int .i64 0)).setCell (p:=⟨w.heap.size,2,none⟩) (fun _=>rfl) (.int .u64 0)).setCell (p:=⟨w.heap.size,3,none⟩) (fun _=>rfl) (.int .u64 0)).setCell (p:=⟨w.heap.size,4,none⟩) (fun _=>rfl) (.int .u64 0));go_wp2_with fail
   (try simp only [Exit.inBlock,Exit.then])
   refine Fa (t:=104) rfl rfl ag rfl underlying104 (by kernel_rfl) rfl ?_;exact af.out _ fz
def Gph.up (g:Gph) (id:Id) (q:Nat):Bool:=match Ah g.nodes id with|some i=>(g.nodes[i]?.map (fun n=>n.past q)).getD false|none=>false
def Gph.ups (g:Gph) (ids:List Id) (q:Nat):Bool:=ids.any (fun id=>g.up id q)
end Oq
namespace Oq
attribute [local go_sem] K9
theorem Blk.el {w:World} {k:Nat} {t:TypeId} {l:List Int} (h:Blk w k t (l.map Iv).toArray) {i:Nat} {x:Int} (hx:l[i]? =some x):w.cell? ⟨k,i,none⟩=some (.int .i64 x):=by
 rw [h.cell i];simp [hx,Iv]
theorem Li (B g gp k:Nat) (A0:Option Addr) (c0:Nat) (bs:List UInt8) (l:List Int) (n:Nat) (w:World) (ho:OutAt w B g A0 c0 bs) (hp:Blk w gp 170 #[.pointer (some ⟨g,0,none⟩)]) (hk:Blk w k 3 (l.map Iv).toArray) (hn:Hid (l.length=n)) (hn0:0<n) (hok:∀x∈l,I64 x)
  (hl:bs.length+10*n<=1099511627700) (hn1:n<=1000):
  Calls zp 169 #[.slice (some ⟨k,0,none⟩) n n,.pointer (some ⟨gp,0,none⟩)] w (Dl B g A0 (bs++l.flatMap Pk.int) w):=by
 go_enter func169,ntmps169;go_wp2
 go_loopw [7] (fun v wr=>∃(i:Nat) (A:Option Addr) (c:Nat) (D:List UInt8),v=.int .i64 (i:Int)/\i<=n/\Hid (D=bs++(l.take i).flatMap Pk.int)/\D.length<=bs.length+10*i/\OutAt wr B g A c D/\Bd g w A0 wr A/\Blk wr gp 170 #[.pointer (some ⟨g,0,none⟩)]/\Blk wr k 3 (l.map Iv).toArray) (fun v _=>n-(intOf v).toNat)
 case atStart=>exact ⟨0,A0,c0,bs,rfl,by omega,by show _=_;simp,by simp,ho,Bd.refl _ _ _,hp,hk⟩
 case round=>
  obtain ⟨i,A,c,D,rfl,hin,hD,hDl,hoi,hst,hpi,hki⟩:=hrel
  by_cases hlt:i<n
  ·
   obtain ⟨x,hx⟩:∃x,l[i]? =some x:=⟨_,As9 (by rw [hn.out];exact hlt)⟩;have hxo:=hok x (At1 hx);have k0:=Blk.el hki hx;have p0:=hpi.cell 0;have hx':=lh hx;clear hx;have hxl:=Pk.int_len x;go_wp2_with fail;refine (Ed B g A c D x _ hoi hxo.1 hxo.2 (by omega)).mono ?_;rintro _ w2 ⟨rfl,A2,c2,ho2,hs2⟩;have hpi2:=hpi.fr hs2.fr (hoi.far hpi (by decide) (by decide));have hki2:=hki.fr hs2.fr (hoi.far hki (by decide) (by decide));clear k0 p0;go_wp2;go_roundw
   case rel=>
    refine ⟨i+1,A2,c2,_,by go_num,by omega,?_,by rw [As7,At4];omega,ho2,hst.trans hs2,hpi2,hki2⟩;show _=_;rw [hD.out,Dt _ l hx'.out,<- At8]
   case measure=>simp [intOf];omega
  ·
   have hi:i=n:=by omega
   subst hi;go_wp2
   go_end0
   refine ⟨rfl,A,c,?_,hst⟩;have e:bs++l.flatMap Pk.int=D:=by rw [hD.out,At2 (by rw [hn.out];omega)]
   rw [e];exact hoi
theorem Vn {α β:Type} (enc:β->List UInt8) (f:α->β) (l:List α):lst enc (l.map f)=lst (fun x=>enc (f x)) l:=by
 unfold lst;rw [At6,List.flatMap_map]
theorem Lj {α:Type} {P:α->Prop} {a b:α} (h1:P a) (h2:P b):∀x∈[a,b],P x:=by
 intro x hx
 rcases List.mem_cons.1 hx with rfl|hx
 · exact h1
 · rw [List.mem_singleton.1 hx];exact h2
theorem Iq {α:Type} {P:α->Prop} {a b c d:α} (h1:P a) (h2:P b) (h3:P c) (h4:P d):∀x∈[a,b,c,d],P x:=by
 intro x hx
 rcases List.mem_cons.1 hx with rfl|hx
 · exact h1
 ·
  rcases List.mem_cons.1 hx with rfl|hx
  · exact h2
  · exact Lj h3 h4 x hx
theorem Oo (a b:Int):([a,b].flatMap Pk.int).length<=20:=by
 have h:=Gi (enc:=Pk.int) [a,b] (fun y _=>Pk.int_len y);exact h
theorem Ot (a b c d:Int):([a,b,c,d].flatMap Pk.int).length<=40:=by
 have h:=Gi (enc:=Pk.int) [a,b,c,d] (fun y _=>Pk.int_len y);exact h
def Vo (bs:List UInt8) (w:World) (r:Ending) (w':World):Prop:=
 ∃A c,r=.returned (.pointer (some ⟨w.heap.size+1,0,none⟩))/\OutAt w' w.heap.size (w.heap.size+1) A c bs/\Fr Non w w'
theorem OpL.lens {x:OpL} (hok:x.op.ok):x.past.length<=1000/\x.path.length<=1000/\x.body.length<=1000000/\x.refs.length<=1000/\x.guards.length<=1000/\x.boxes.length<=1000/\x.hist.length<=1000/\(∀y∈x.path,y.nd.ok)/\(∀y∈x.hist,y.f.ok/\y.y.length<=1000000):=by
 refine ⟨hok.past.1,?_,hok.body,hok.refs.1,hok.guards.1,hok.boxes.1,?_,fun y hy=>hok.path.2 _ (At9 hy),fun y hy=>hok.hist.2 _ (At9 hy)⟩
 ·
  have:=hok.path.1;rwa [show x.op.path=x.path.map NdL.nd from rfl,At6] at this
 ·
  have:=hok.hist.1;rwa [show x.op.hist=x.hist.map SlL.sl from rfl,At6] at this
theorem Ou (x:OpL) (w:World) (hat:x.at w w.heap.size) (hok:x.op.ok):Calls zp 126 #[.agg x.cells] w (Vo x.op.bare w):=by
 obtain ⟨ch,b0,ck,ce,ba,bq,cb,aj,ak⟩:=OpL.lens hok;have ge:x.cells.size=27:=rfl;obtain ⟨CS,aa⟩:=Aa x.cells;have e0:Hid (CS[0]? =some (.int .i64 x.by_)):=by show _=_;rw [<- aa.out];rfl
 have e1:Hid (CS[1]? =some (.int .i64 x.sq)):=by show _=_;rw [<- aa.out];rfl
 have e2:Hid (CS[2]? =some (.int .i64 x.kind)):=by show _=_;rw [<- aa.out];rfl
 have e3:Hid (CS[3]? =some (.int .i64 x.at_)):=by show _=_;rw [<- aa.out];rfl
 have e4:Hid (CS[4]? =some (.slice x.pastA x.past.length x.pastC)):=by show _=_;rw [<- aa.out];rfl
 have e5:Hid (CS[5]? =some (.int .i64 x.dev)):=by show _=_;rw [<- aa.out];rfl
 have e6:Hid (CS[6]? =some (.int .i64 x.old)):=by show _=_;rw [<- aa.out];rfl
 have e7:Hid (CS[7]? =some (.int .i64 x.mem)):=by show _=_;rw [<- aa.out];rfl
 have e8:Hid (CS[8]? =some (.int .i64 x.role)):=by show _=_;rw [<- aa.out];rfl
 have e9:Hid (CS[9]? =some (.slice x.pathA x.path.length x.pathC)):=by show _=_;rw [<- aa.out];rfl
 have fj:Hid (CS[10]? =some (.int .i64 x.epoch.b)):=by show _=_;rw [<- aa.out];rfl
 have gg:Hid (CS[11]? =some (.int .i64 x.epoch.s)):=by show _=_;rw [<- aa.out];rfl
 have gi:Hid (CS[12]? =some (.int .u64 (x.epoch.u:Int))):=by show _=_;rw [<- aa.out];rfl
 have fg:Hid (CS[13]? =some (.int .i64 x.n)):=by show _=_;rw [<- aa.out];rfl
 have eo:Hid (CS[14]? =some (.slice x.bodyA x.body.length x.bodyC)):=by show _=_;rw [<- aa.out];rfl
 have f6:Hid (CS[15]? =some (.slice x.refsA x.refs.length x.refsC)):=by show _=_;rw [<- aa.out];rfl
 have f2:Hid (CS[16]? =some (.int .i64 x.of.b)):=by show _=_;rw [<- aa.out];rfl
 have ee:Hid (CS[17]? =some (.int .i64 x.of.s)):=by show _=_;rw [<- aa.out];rfl
 have es:Hid (CS[18]? =some (.int .u64 (x.of.u:Int))):=by show _=_;rw [<- aa.out];rfl
 have gn:Hid (CS[19]? =some (.slice x.guardsA x.guards.length x.guardsC)):=by show _=_;rw [<- aa.out];rfl
 have ec:Hid (CS[20]? =some (.int .i64 x.need)):=by show _=_;rw [<- aa.out];rfl
 have ef:Hid (CS[21]? =some (.int .i64 x.wait)):=by show _=_;rw [<- aa.out];rfl
 have gh:Hid (CS[22]? =some (.slice x.boxesA x.boxes.length x.boxesC)):=by show _=_;rw [<- aa.out];rfl
 have fk:Hid (CS[23]? =some (.int .u64 (x.pub:Int))):=by show _=_;rw [<- aa.out];rfl
 have en:Hid (CS[24]? =some (.slice x.histA x.hist.length x.histC)):=by show _=_;rw [<- aa.out];rfl
 rw [aa.out] at ge;rw [aa.out];have ab:Blk ((((w.alloc (.cells CS 44)).alloc (.cells #[.slice none 0 0] 207)).alloc (.cells #[.pointer (some ⟨w.heap.size+1,0,none⟩)] 170)).alloc (.cells #[.func (.func 171) #[] #[.pointer (some ⟨w.heap.size+1+1,0,none⟩)]] 210)) w.heap.size 44 CS:=(((Blk.new w 44 CS).alloc _).alloc _).alloc _
 have cv:OutAt ((((w.alloc (.cells CS 44)).alloc (.cells #[.slice none 0 0] 207)).alloc (.cells #[.pointer (some ⟨w.heap.size+1,0,none⟩)] 170)).alloc (.cells #[.func (.func 171) #[] #[.pointer (some ⟨w.heap.size+1+1,0,none⟩)]] 210)) w.heap.size (w.heap.size+1) none 0 []:=by
  refine ⟨?_,Own.nil _ _ _ _,by omega⟩;have:=((Blk.new (w.alloc (.cells CS 44)) 207 #[.slice none 0 0]).alloc (.cells #[.pointer (some ⟨w.heap.size+1,0,none⟩)] 170)).alloc (.cells #[.func (.func 171) #[] #[.pointer (some ⟨w.heap.size+1+1,0,none⟩)]] 210);rwa [At0] at this
 have ac:Blk ((((w.alloc (.cells CS 44)).alloc (.cells #[.slice none 0 0] 207)).alloc (.cells #[.pointer (some ⟨w.heap.size+1,0,none⟩)] 170)).alloc (.cells #[.func (.func 171) #[] #[.pointer (some ⟨w.heap.size+1+1,0,none⟩)]] 210)) (w.heap.size+1+1) 170 #[.pointer (some ⟨w.heap.size+1,0,none⟩)]:=by
  have:=(Blk.new ((w.alloc (.cells CS 44)).alloc (.cells #[.slice none 0 0] 207)) 170 #[.pointer (some ⟨w.heap.size+1,0,none⟩)]).alloc (.cells #[.func (.func 171) #[] #[.pointer (some ⟨w.heap.size+1+1,0,none⟩)]] 210);rwa [At0,At0] at this
 have af:Blk ((((w.alloc (.cells CS 44)).alloc (.cells #[.slice none 0 0] 207)).alloc (.cells #[.pointer (some ⟨w.heap.size+1,0,none⟩)] 170)).alloc (.cells #[.func (.func 171) #[] #[.pointer (some ⟨w.heap.size+1+1,0,none⟩)]] 210)) (w.heap.size+1+1+1) 210 #[.func (.func 171) #[] #[.pointer (some ⟨w.heap.size+1+1,0,none⟩)]]:=by
  have:=Blk.new (((w.alloc (.cells CS 44)).alloc (.cells #[.slice none 0 0] 207)).alloc (.cells #[.pointer (some ⟨w.heap.size+1,0,none⟩)] 170)) 210 #[.func (.func 171) #[] #[.pointer (some ⟨w.heap.size+1+1,0,none⟩)]];rwa [At0,At0,At0] at this
 have du:Fr Non w ((((w.alloc (.cells CS 44)).alloc (.cells #[.slice none 0 0] 207)).alloc (.cells #[.pointer (some ⟨w.heap.size+1,0,none⟩)] 170)).alloc (.cells #[.func (.func 171) #[] #[.pointer (some ⟨w.heap.size+1+1,0,none⟩)]] 210)):=((((Fr.refl _ _).alloc _).alloc _).alloc _).alloc _;have ag:=hat.fr du zr;have nb:¬RS (w.heap.size+1) none w.heap.size:=by rintro (e|e);omega;cases e
 have np:¬RS (w.heap.size+1) none (w.heap.size+1+1):=by rintro (e|e);omega;cases e
 have nc:¬RS (w.heap.size+1) none (w.heap.size+1+1+1):=by rintro (e|e);omega;cases e
 have nx:∀k,k<w.heap.size->¬RS (w.heap.size+1) none k:=by rintro k hk (e|e);omega;cases e
 obtain ⟨D,hD⟩:=Aa x.op.bare;rw [hD.out];go_enter func126,ntmps126;go_upto_region 4 with (fail)
 generalize ((((w.alloc (.cells CS 44)).alloc (.cells #[.slice none 0 0] 207)).alloc (.cells #[.pointer (some ⟨w.heap.size+1,0,none⟩)] 170)).alloc (.cells #[.func (.func 171) #[] #[.pointer (some ⟨w.heap.size+1+1,0,none⟩)]] 210))=w0 at*;have d3:=Bd.refl (w.heap.size+1) w0 none;have c0:=(ab.cell 0).trans e0.out;have c1:=(ab.cell 1).trans e1.out;have c2:=(ab.cell 2).trans e2.out;have c3:=(ab.cell 3).trans e3.out;have p0:=ac.cell 0;go_wp2_with fail;refine (Li w.heap.size (w.heap.size+1) (w.heap.size+1+1) w0.heap.size none 0 [] [x.by_,x.sq,x.kind,x.at_] 4 _ (cv.alloc (.cells #[.int .i64 x.by_,.int .i64 x.sq,.int .i64 x.kind,.int .i64 x.at_] 3)) (ac.alloc (.cells #[.int .i64 x.by_,.int .i64 x.sq,.int .i64 x.kind,.int .i64 x.at_] 3)) (Blk.new w0 3 _) rfl (by omega) (Iq (P:=I64) hok.by_ hok.sq hok.kind hok.at_) (by simp) (by omega)).mono ?_;rintro _ w1 ⟨rfl,A1,fi,b6,ds⟩;clear c0 c1 c2 c3 p0;have a3:=(d3.alloc (.cells #[.int .i64 x.by_,.int .i64 x.sq,.int .i64 x.kind,.int .i64 x.at_] 3)).trans ds;have f9:([]++[x.by_,x.sq,x.kind,x.at_].flatMap Pk.int).length<=40:=by rw [List.nil_append];exact Ot _ _ _ _
 obtain ⟨D1,cz⟩:=Aa ([]++[x.by_,x.sq,x.kind,x.at_].flatMap Pk.int);rw [cz.out] at b6 f9;have dn:=ab.fr a3.fr nb;have db:=ac.fr a3.fr np;have ei:=af.fr a3.fr nc;have dx:=ag.fr a3.fr nx;clear cv ds d3;have c4:=(dn.cell 4).trans e4.out;have p1:=db.cell 0;go_wp2_with fail;refine (Un w.heap.size (w.heap.size+1) A1 fi D1 x.past x.pastA _ x.pastC _ b6 rfl hok.past.2 dx.past.1 (by omega)).mono ?_;rintro _ w2 ⟨rfl,A2,fb,bx,d8⟩;clear c4 p1;have a0:=(a3).trans d8;have f1:(D1++lst Id.bytes x.past).length<=30050:=by rw [As7];have:=(As8 (De x.past (fun y _=>Id.bytes_len y)) (by omega):(lst Id.bytes x.past).length<=30010);omega
 obtain ⟨D2,dm⟩:=Aa (D1++lst Id.bytes x.past);rw [dm.out] at bx f1;have bh:=ab.fr a0.fr nb;have b8:=ac.fr a0.fr np;have fo:=af.fr a0.fr nc;have eg:=ag.fr a0.fr nx;clear dn db ei dx b6 d8 a3;have c5:=(bh.cell 5).trans e5.out;have c6:=(bh.cell 6).trans e6.out;have c7:=(bh.cell 7).trans e7.out;have c8:=(bh.cell 8).trans e8.out;have p2:=b8.cell 0;go_wp2_with fail;refine (Li w.heap.size (w.heap.size+1) (w.heap.size+1+1) w2.heap.size A2 fb D2 [x.dev,x.old,x.mem,x.role] 4 _ (bx.alloc (.cells #[.int .i64 x.dev,.int .i64 x.old,.int .i64 x.mem,.int .i64 x.role] 3)) (b8.alloc (.cells #[.int .i64 x.dev,.int .i64 x.old,.int .i64 x.mem,.int .i64 x.role] 3)) (Blk.new w2 3 _) rfl (by omega) (Iq (P:=I64) hok.dev hok.old hok.mem hok.role) (by omega) (by omega)).mono ?_;rintro _ w3 ⟨rfl,A3,gk,b7,df⟩;clear c5 c6 c7 c8 p2;have a1:=(a0.alloc (.cells #[.int .i64 x.dev,.int .i64 x.old,.int .i64 x.mem,.int .i64 x.role] 3)).trans df;have ep:(D2++[x.dev,x.old,x.mem,x.role].flatMap Pk.int).length<=30090:=by rw [As7];have:=(Ot _ _ _ _:([x.dev,x.old,x.mem,x.role].flatMap Pk.int).length<=40);omega
 obtain ⟨D3,d0⟩:=Aa (D2++[x.dev,x.old,x.mem,x.role].flatMap Pk.int);rw [d0.out] at b7 ep;have d2:=ab.fr a1.fr nb;have ct:=ac.fr a1.fr np;have dl:=af.fr a1.fr nc;have cs:=ag.fr a1.fr nx;clear bh b8 fo eg bx df a0;have c9:=(d2.cell 9).trans e9.out;have p3:=ct.cell 0;go_wp2_with fail;refine (Us w.heap.size (w.heap.size+1) (w.heap.size+1+1) (w.heap.size+1+1+1) A3 gk D3 x.path x.pathA _ x.pathC _ b7 rfl aj cs.path.1 (by omega) ct dl cs.nodes).mono ?_;rintro _ w4 ⟨rfl,A4,fl,co,dy⟩;clear c9 p3;have az:=(a1).trans dy;have f7:(D3++lst (fun x=>x.nd.bytes) x.path).length<=40050100:=by rw [As7];have:=(As8 (De x.path (fun y hy=>Nd.bytes_len _ (aj y hy))) (by omega):(lst (fun x=>x.nd.bytes) x.path).length<=40020010);omega
 obtain ⟨D4,dp⟩:=Aa (D3++lst (fun x=>x.nd.bytes) x.path);rw [dp.out] at co f7;have bp:=ab.fr az.fr nb;have dd:=ac.fr az.fr np;have fy:=af.fr az.fr nc;have fz:=ag.fr az.fr nx;clear d2 ct dl cs b7 dy a1;have ey:=(bp.cell 10).trans fj.out;have fm:=(bp.cell 11).trans gg.out;have et:=(bp.cell 12).trans gi.out;have p4:=dd.cell 0;go_wp2_with fail;refine (Il w.heap.size (w.heap.size+1) A4 fl D4 x.epoch.b x.epoch.s x.epoch.u _ co hok.epoch.1.1 hok.epoch.1.2 hok.epoch.2.1.1 hok.epoch.2.1.2 hok.epoch.2.2 (by omega)).mono ?_;rintro _ w5 ⟨rfl,A5,fp,cq,dw⟩;clear ey fm et p4;have ay:=(az).trans dw;have ga:(D4++Pk.ident x.epoch.b x.epoch.s x.epoch.u).length<=40050130:=by rw [As7];have:=(Pk.ident_len _ _ _:(Pk.ident x.epoch.b x.epoch.s x.epoch.u).length<=30);omega
 obtain ⟨D5,dk⟩:=Aa (D4++Pk.ident x.epoch.b x.epoch.s x.epoch.u);rw [dk.out] at cq ga;have cy:=ab.fr ay.fr nb;have dg:=ac.fr ay.fr np;have gc:=af.fr ay.fr nc;have eh:=ag.fr ay.fr nx;clear bp dd fy fz co dw az;have gf:=(cy.cell 13).trans fg.out;have p5:=dg.cell 0;go_wp2_with fail;refine (Ed w.heap.size (w.heap.size+1) A5 fp D5 x.n _ cq hok.n.1 hok.n.2 (by omega)).mono ?_;rintro _ w6 ⟨rfl,A6,em,b4,di⟩;clear gf p5;have ax:=(ay).trans di;have f3:(D5++Pk.int x.n).length<=40050140:=by rw [As7];have:=(Pk.int_len _:(Pk.int x.n).length<=10);omega
 obtain ⟨D6,d7⟩:=Aa (D5++Pk.int x.n);rw [d7.out] at b4 f3;have cw:=ab.fr ax.fr nb;have da:=ac.fr ax.fr np;have fa:=af.fr ax.fr nc;have d9:=ag.fr ax.fr nx;clear cy dg gc eh cq di ay;have ej:=(cw.cell 14).trans eo.out;have p6:=da.cell 0;have ca:(convert 39 9 (.slice x.bodyA x.body.length x.bodyC)).run zp w6=.ok (.string (str x.body)) w6:=Ia 39 5 9 underlying39 underlying5 underlying9 w6 _ _ _ _ _ d9.body.1;go_wp2_with fail;refine (Nt w.heap.size (w.heap.size+1) A6 em D6 x.body _ b4 (by omega)).mono ?_;rintro _ w7 ⟨rfl,A7,ft,cm,dt⟩;clear ej p6 ca;have aw:=(ax).trans dt;have fn:(D6++Pk.text x.body).length<=41050150:=by rw [As7];have:=(As8 (Pk.text_len _) (by omega):(Pk.text x.body).length<=1000010);omega
 obtain ⟨D7,dv⟩:=Aa (D6++Pk.text x.body);rw [dv.out] at cm fn;have dh:=ab.fr aw.fr nb;have d1:=ac.fr aw.fr np;have f8:=af.fr aw.fr nc;have cx:=ag.fr aw.fr nx;clear cw da fa d9 b4 dt ax;have ea:=(dh.cell 15).trans f6.out;have p7:=d1.cell 0;go_wp2_with fail;refine (Uo w.heap.size (w.heap.size+1) A7 ft D7 x.refs x.refsA _ x.refsC _ cm rfl hok.refs.2 cx.refs.1 (by omega)).mono ?_;rintro _ w8 ⟨rfl,A8,fe,cd,d5⟩;clear ea p7;have a2:=(aw).trans d5;have gd:(D7++lst Pk.num x.refs).length<=41060160:=by rw [As7];have:=(As8 (De x.refs (fun y _=>Pk.num_len y)) (by omega):(lst Pk.num x.refs).length<=10010);omega
 obtain ⟨D8,de⟩:=Aa (D7++lst Pk.num x.refs);rw [de.out] at cd gd;have br:=ab.fr a2.fr nb;have dr:=ac.fr a2.fr np;have fd:=af.fr a2.fr nc;have fq:=ag.fr a2.fr nx;clear dh d1 f8 cx cm d5 aw;have ek:=(br.cell 16).trans f2.out;have fs:=(br.cell 17).trans ee.out;have f5:=(br.cell 18).trans es.out;have p8:=dr.cell 0;go_wp2_with fail;refine (Il w.heap.size (w.heap.size+1) A8 fe D8 x.of.b x.of.s x.of.u _ cd hok.of.1.1 hok.of.1.2 hok.of.2.1.1 hok.of.2.1.2 hok.of.2.2 (by omega)).mono ?_;rintro _ w9 ⟨rfl,A9,fu,cl,dj⟩;clear ek fs f5 p8;have av:=(a2).trans dj;have gb:(D8++Pk.ident x.of.b x.of.s x.of.u).length<=41060190:=by rw [As7];have:=(Pk.ident_len _ _ _:(Pk.ident x.of.b x.of.s x.of.u).length<=30);omega
 obtain ⟨D9,d4⟩:=Aa (D8++Pk.ident x.of.b x.of.s x.of.u);rw [d4.out] at cl gb;have dc:=ab.fr av.fr nb;have dq:=ac.fr av.fr np;have gl:=af.fr av.fr nc;have d6:=ag.fr av.fr nx;clear br dr fd fq cd dj a2;have eb:=(dc.cell 19).trans gn.out;have p9:=dq.cell 0;go_wp2_with fail;refine (Up w.heap.size (w.heap.size+1) A9 fu D9 x.guards x.guardsA _ x.guardsC _ cl rfl hok.guards.2 d6.guards.1 (by omega)).mono ?_;rintro _ dz ⟨rfl,gm,cp,ar,bg⟩;clear eb p9;have ad:=(av).trans bg;have b1:(D9++lst Pk.int x.guards).length<=41070200:=by rw [As7];have:=(As8 (De x.guards (fun y _=>Pk.int_len y)) (by omega):(lst Pk.int x.guards).length<=10010);omega
 obtain ⟨bt,bf⟩:=Aa (D9++lst Pk.int x.guards);rw [bf.out] at ar b1;have aq:=ab.fr ad.fr nb;have al:=ac.fr ad.fr np;have cj:=af.fr ad.fr nc;have cu:=ag.fr ad.fr nx;clear dc dq gl d6 cl bg av;have f4:=(aq.cell 20).trans ec.out;have fx:=(aq.cell 21).trans ef.out;have gj:=al.cell 0;go_wp2_with fail;refine (Li w.heap.size (w.heap.size+1) (w.heap.size+1+1) dz.heap.size gm cp bt [x.need,x.wait] 2 _ (ar.alloc (.cells #[.int .i64 x.need,.int .i64 x.wait] 3)) (al.alloc (.cells #[.int .i64 x.need,.int .i64 x.wait] 3)) (Blk.new dz 3 _) rfl (by omega) (Lj (P:=I64) hok.need hok.wait) (by omega) (by omega)).mono ?_;rintro _ gs ⟨rfl,f0,cr,au,bm⟩;clear f4 fx gj;have ae:=(ad.alloc (.cells #[.int .i64 x.need,.int .i64 x.wait] 3)).trans bm;have ci:(bt++[x.need,x.wait].flatMap Pk.int).length<=41070220:=by rw [As7];have:=(Oo _ _:([x.need,x.wait].flatMap Pk.int).length<=20);omega
 obtain ⟨bw,a5⟩:=Aa (bt++[x.need,x.wait].flatMap Pk.int);rw [a5.out] at au ci;have a7:=ab.fr ae.fr nb;have ap:=ac.fr ae.fr np;have bk:=af.fr ae.fr nc;have bn:=ag.fr ae.fr nx;clear aq al cj cu ar bm ad;have fc:=(a7.cell 22).trans gh.out;have ew:=ap.cell 0;have fv:=bk.cell 0;go_wp2_with fail;refine (Nv w.heap.size (w.heap.size+1) (w.heap.size+1+1) f0 cr bw x.boxes x.boxesA _ x.boxesC _ au rfl hok.boxes.2 bn.boxes.1 (by omega) ap).mono ?_;rintro _ gp ⟨rfl,fh,bs,ao,a9⟩;clear fc ew fv;have ah:=(ae).trans a9;have bv:(bw++lst Bx.bytes x.boxes).length<=41110230:=by rw [As7];have:=(As8 (De x.boxes (fun y _=>Bx.bytes_len y)) (by omega):(lst Bx.bytes x.boxes).length<=40010);omega
 obtain ⟨cf,a4⟩:=Aa (bw++lst Bx.bytes x.boxes);rw [a4.out] at ao bv;have bb:=ab.fr ah.fr nb;have bi:=ac.fr ah.fr np;have b2:=af.fr ah.fr nc;have cc:=ag.fr ah.fr nx;clear a7 ap bk bn au a9 ae;have eu:=(bb.cell 23).trans fk.out;have ff:=bi.cell 0;go_wp2_with fail;refine (Ex w.heap.size (w.heap.size+1) fh bs cf x.pub _ ao hok.pub (by omega)).mono ?_;rintro _ gq ⟨rfl,er,bz,be,bo⟩;clear eu ff;have ai:=(ah).trans bo;have cg:(cf++Pk.num x.pub).length<=41110240:=by rw [As7];have:=(Pk.num_len _:(Pk.num x.pub).length<=10);omega
 obtain ⟨bu,a8⟩:=Aa (cf++Pk.num x.pub);rw [a8.out] at be cg;have b3:=ab.fr ai.fr nb;have bc:=ac.fr ai.fr np;have el:=af.fr ai.fr nc;have bl:=ag.fr ai.fr nx;clear bb bi b2 cc ao bo ah;have ev:=(b3.cell 24).trans en.out;have ed:=bc.cell 0;go_wp2_with fail;refine (Uu w.heap.size (w.heap.size+1) (w.heap.size+1+1) er bz bu x.hist x.histA _ x.histC _ be rfl ak bl.hist.1 (by omega) bc bl.seals).mono ?_;rintro _ gr ⟨rfl,fw,cn,a6,b5⟩;clear ev ed;have bd:=(ai).trans b5;have b9:(bu++lst (fun x=>x.sl.bytes) x.hist).length<=1041150250:=by rw [As7];have:=(As8 (De x.hist (fun y hy=>Sl.bytes_len _ (ak y hy).2)) (by omega):(lst (fun x=>x.sl.bytes) x.hist).length<=1000040010);omega
 obtain ⟨ez,bj⟩:=Aa (bu++lst (fun x=>x.sl.bytes) x.hist);rw [bj.out] at a6 b9;have pz:=(ac.fr bd.fr np).cell 0;go_wp2
 go_ret
 have e:D=ez:=by
  rw [<- hD.out,<- bj.out,<- a8.out,<- a4.out,<- a5.out,<- bf.out,<- d4.out,<- de.out,<- dv.out,<- d7.out,<- dk.out,<- dp.out,<- d0.out,<- dm.out,<- cz.out];unfold Op.bare;simp [OpL.op,Vn,Id.bytes,Au0]
 rw [e];exact ⟨fw,cn,rfl,a6,du.trans bd.fr (fun k hk e=>by rcases e with e|e;omega;cases e)⟩
end Oq
namespace Oq
theorem Op.bare_len (o:Op) (h:o.ok):o.bare.length<=1100000000:=by
 have h1:=De o.past (fun y _=>Id.bytes_len y);have h2:=De o.path (fun y hy=>Nd.bytes_len y (h.path.2 y hy));have h3:=De o.refs (fun y _=>Pk.num_len y);have h4:=De o.guards (fun y _=>Pk.int_len y);have h5:=De o.boxes (fun y _=>Bx.bytes_len y);have h6:=De o.hist (fun y hy=>Sl.bytes_len y (h.hist.2 y hy).2);have h7:=Pk.text_len o.body;have g1:=h.past.1;have g2:=h.path.1;have g3:=h.refs.1;have g4:=h.guards.1;have g5:=h.boxes.1;have g6:=h.hist.1;have g7:=h.body;have i1:=Pk.int_len o.by_;have i2:=Pk.int_len o.sq;have i3:=Pk.int_len o.kind;have i4:=Pk.int_len o.at_;have i5:=Pk.int_len o.dev;have i6:=Pk.int_len o.old;have i7:=Pk.int_len o.mem;have i8:=Pk.int_len o.role;have i9:=Pk.int_len o.n;have i10:=Pk.int_len o.need;have i11:=Pk.int_len o.wait;have i12:=Pk.num_len o.pub;have i13:=Id.bytes_len o.epoch;have i14:=Id.bytes_len o.of;unfold Op.bare;simp only [As7];omega
end Oq
theorem Gl (n:Nat) (w:World) (hn:n<18446744073709551616):
  Calls zp 104 #[.int .u64 (n:Int)] w (NewB w (Pk.num n)):=by
 go_enter func104,ntmps104;go_wp2
 go_loopw [0,3] (fun v s wr=>∃(m f:Nat) (L:List UInt8) (A:Option Addr) (c:Nat),v=.int .u64 (m:Int)/\s=.slice A L.length c/\m<2*128^f/\Hid (Pk.num n=L++Pk.numF (f+1) m)/\L.length+f<=9/\m<18446744073709551616/\
  Own wr w.heap.size 5 1 A L.length c (L.map Bv)/\Fr Non w wr) (fun v _ _=>(intOf v).toNat)
 case atStart=>exact ⟨n,9,[],none,0,rfl,rfl,by simpa using hn,rfl,by simp,hn,Own.nil _ _ _ _,Fr.refl _ _⟩
 case round=>
  obtain ⟨m,f,L,A,c,rfl,rfl,hm,hpre,hlen,hm64,hown,hf⟩:=hrel;have hBs:=hf.size;have hrow:∀k,k<w.heap.size->Ac A=some k->Non k:=fun k hk hA=>by have:=(hown.row k hA).1;omega
  by_cases hlt:m<128
  ·
   go_wp2_with (first|(at_builtin;go_loud (refine Bg (.tmp 15) (.tmp 18) 39 rfl rfl rfl rfl slB (hown.alloc _) (Rd.one _ _ _) (by simp [Value.oneCell']) (by omega) (by omega) (by simp;omega) ?_);intro A1 c1 w1 hown1 hf1 hat1))
   go_ret
   refine NewB.mk hown1 rfl ?_ ((hf.alloc _).trans hf1 hrow);rw [hpre.out];simp [Pk.numF,hlt,Bv];omega
  ·
   go_wp2_with (first|(at_builtin;go_loud (refine Bg (.tmp 6) (.tmp 11) 39 rfl rfl rfl rfl slB (hown.alloc _) (Rd.one _ _ _) (by simp [Value.oneCell']) (by omega) (by omega) (by simp;omega) ?_);intro A1 c1 w1 hown1 hf1 hat1));go_roundw
   case rel=>
    have hf0:f≠0:=by rintro rfl;omega
    obtain ⟨f',rfl⟩:∃f',f=f'+1:=⟨f-1,by omega⟩;refine ⟨m/128,f',L++[UInt8.ofNat (m%128+128)],A1,c1,by go_num,by simp,?_,?_,?_,by omega,?_,(hf.alloc _).trans hf1 hrow⟩
    · rw [Nat.div_lt_iff_lt_mul (by omega)];rw [Nat.pow_succ] at hm;omega
    ·
     show _=_;rw [hpre.out];conv=>lhs;unfold Pk.numF
     rw [if_neg hlt];simp
    · simp;omega
    ·
     have:=Pk.tn (m%128+128) (by omega)
     have e:(L++[UInt8.ofNat (m%128+128)]).map Bv=L.map Bv++[.int .u8 ((m:Int)%128+128)]:=by
      simp [Bv];omega
     rw [e,As7];exact hown1
   case measure=>simp [intOf];omega
theorem Ez (n:Int) (w:World) (h0: -9223372036854775808<=n) (h1:n<=9223372036854775807):
  Calls zp 106 #[.int .i64 n] w (NewB w (Pk.int n)):=by
 have hfl:=Pk.fold_lt h0 h1
 by_cases hn:n<0
 ·
  have hv:Hid (-(n+1)*2+1=((Pk.fold n:Nat):Int)):=by show _=_;unfold Pk.fold;rw [if_pos hn];omega
  go_enter func106,ntmps106;go_wp2_with fail;rw [hv.out];refine (Gl _ _ hfl).mono ?_;rintro _ w1 ⟨A,c,rfl,hown,hf⟩;go_wp2
  go_ret
  exact ⟨A,c,rfl,hown,hf⟩
 ·
  have hv:Hid (n*2=((Pk.fold n:Nat):Int)):=by show _=_;unfold Pk.fold;rw [if_neg hn];omega
  go_enter func106,ntmps106;go_wp2_with fail;rw [hv.out];refine (Gl _ _ hfl).mono ?_;rintro _ w1 ⟨A,c,rfl,hown,hf⟩;go_wp2
  go_ret
  exact ⟨A,c,rfl,hown,hf⟩
theorem Ov (l:List UInt8) (w:World) (hl:l.length<=1099511627700):Calls zp 107 #[.string (str l)] w (NewB w (Pk.text l)):=by
 have hs:=Em l;have hil:=Pk.int_len (l.length:Int);go_enter func107,ntmps107;go_wp2_with fail;refine (Ez _ _ (by omega) (by omega)).mono ?_;rintro _ w1 ⟨A,c,rfl,hown,hf⟩;clear hs;have hBs:=hf.size;go_wp2_with (first|(at_builtin;go_loud (refine Nh (.tmp 5) (.tmp 6) 39 9 rfl rfl rfl rfl slB underlying9 hown (by omega) (by omega) ?_);intro A2 c2 w2 hown2 hf2 hat2))
 go_ret
 exact NewB.mk hown2 rfl (by simp [Pk.text]) (hf.trans hf2 (hown.notNon (At3 _)))
theorem Ir (b s:Int) (u:Nat) (w:World) (b0: -9223372036854775808<=b) (b1:b<=9223372036854775807)
  (s0: -9223372036854775808<=s) (s1:s<=9223372036854775807) (hu:u<18446744073709551616):
  Calls zp 103 #[.agg #[.int .i64 b,.int .i64 s,.int .u64 (u:Int)]] w (NewB w (Pk.ident b s u)):=by
 have hb0:=Blk.new w 38 #[.int .i64 b,.int .i64 s,.int .u64 (u:Int)];have l1:=Pk.int_len b;have l2:=Pk.int_len s;have l3:=Pk.num_len u;have c0:=hb0.cell 0;have c1:=hb0.cell 1;have c2:=hb0.cell 2;go_enter func103,ntmps103;go_wp2
 go_region_held3 (fun w'=>w'.cell? ⟨w.heap.size,0,none⟩=some (.int .i64 b)/\w'.cell? ⟨w.heap.size,1,none⟩=some (.int .i64 s)) (go_keep) (first
  |((refine Ks (.tmp 6) (.tmp 9) 39 (by rfl) (by rfl) (by rfl) (by rfl) slB (hown1.fr hf2 zr) hown2.rd (G8 _) (by omega) (by omega) (by omega) ?_;intro A3 c3 w3 hown3 hf3 hat3;have hb3:=hb2.fr hf3 (hown1.ne hb1 (by decide));have d0:=hb3.cell 0;have d1:=hb3.cell 1))
  |(go_at_call 106;(with_reducible refine (Ez b _ b0 b1).mono ?_);rintro _ w1 ⟨A1,c1,rfl,hown1,hf1⟩;have hb1:=hb0.drew.fr hf1 zq;have d0:=hb1.cell 0;have d1:=hb1.cell 1;have hsz1:=hf1.size)
  |(go_at_call 106;(with_reducible refine (Ez s _ s0 s1).mono ?_);rintro _ w2 ⟨A2,c2,rfl,hown2,hf2⟩;have hb2:=hb1.fr hf2 zq;have d0:=hb2.cell 0;have d1:=hb2.cell 1;have hsz2:=hf2.size))
 have e2:=hb3.cell 2;have hs3:=hf3.size;go_wp2_with fail;refine (Gl u _ hu).mono ?_;rintro _ w4 ⟨A4,c4,rfl,hown4,hf4⟩;have hs4:=hf4.size;have hown3':=(hown3.fr hf4 zr).lower (base':=w.heap.size) (by simp);go_wp2_with (first|(at_builtin;go_loud (refine Bg (.tmp 11) (.tmp 14) 39 rfl rfl rfl rfl slB hown3' hown4.rd (G8 _) (by omega) (by omega) (by simp at hsz1;omega) ?_);intro A5 c5 w5 hown5 hf5 hat5))
 go_ret
 have hff:Fr Non w w4:=(((((Fr.refl _ _).alloc _).drew.trans hf1 zr).trans hf2 zr).trans hf3 (fun k hk e=>by have:=(hown1.row k e).1;simp at this;omega)).trans hf4 zr;exact NewB.mk hown5 rfl (by simp [Pk.ident]) (hff.trans hf5 (hown3'.notNon (At3 _)))
namespace Oq
structure Acc (w0 w:World) (A:Option Addr) (c L K:Nat) (D:List UInt8):Prop where
 own:Own w w0.heap.size 5 1 A L c (D.map Bv)
 fr:Fr Non w0 w
 le:L<=K
section
variable {w0 w w' : World} {A : Option Addr} {c L K : Nat} {D : List UInt8}
theorem Acc.len (h:Acc w0 w A c L K D):L=D.length:=by have:=h.own.len;simpa using this.symm
theorem Acc.nil (w:World):Acc w w none 0 0 0 []:=⟨Own.nil _ _ _ _,Fr.refl _ _,At3 _⟩
theorem Acc.step (h:Acc w0 w A c L K D) (hf:Fr Non w w'):Acc w0 w' A c L K D:=⟨h.own.fr hf zr,h.fr.trans hf zr,h.le⟩
theorem Acc.more (h:Acc w0 w A c L K D) {K':Nat} (hK:K<=K'):Acc w0 w A c L K' D:=⟨h.own,h.fr,As8 h.le hK⟩
theorem Acc.of_new {X:List UInt8} (hown:Own w' w.heap.size 5 1 A X.length c (X.map Bv)) (hf:Fr Non w w') (hX:X.length<=K):Acc w w' A c X.length K X:=⟨hown,hf,hX⟩
theorem Acc.post {w1:World} (h:Acc w0 w A c L K D) (hf:Fr Non w1 w0) {D':List UInt8} (e:D'=D):NewB w1 D' (.returned (.slice A L c)) w:=by
 subst e;have hl:=h.len;subst hl;exact ⟨A,c,rfl,h.own.lower hf.size,hf.trans h.fr zr⟩
end
theorem Cs {P:Program} {ops:Array Oper} {rest:List Oper} {o:Oper} {a:Act} {Q:Exit->Act->World->Prop} {w0 w:World} (s x:Operand) (t:TypeId) (hgd:o.guard=none)
  (ho:o.op=.call {callee:=.builtin .append,args:=#[s,x],argTypes:=#[t,t]})
  {c L K cx base:Nat} {A Ax:Option Addr} {D X:List UInt8} (Kx:Nat)
  (hs:a.eval s=.slice A L c) (hx:a.eval x=.slice Ax X.length cx) (hT:SlT P t 5 (.int .u8 0) 1 1) (h:Acc w0 w A c L K D) (hr:Own w base 5 1 Ax X.length cx (X.map Bv)) (hX:X.length<=Kx) (hK:K+Kx<=1099511627776)
  (hk:∀A' c' L' w',Acc w0 w' A' c' L' (K+Kx) (D++X)->wpList P ops Q rest (a.put o.dst (.slice A' L' c')) w'):wpList P ops Q (o::rest) a w:=by
 have hle:=h.le;refine Bg s x t hgd ho hs hx hT h.own hr.rd (G8 _) (by omega) (by omega) h.fr.size ?_;intro A' c' w' hown hf _;rw [<- List.map_append] at hown;exact hk A' c' _ w' ⟨hown,h.fr.trans hf (h.own.notNon (At3 _)),by omega⟩
theorem Vp {P:Program} {ops:Array Oper} {o:Oper} {a:Act} {Kt:Act->World->Prop} {Q:Exit->Act->World->Prop} {E:Prop} {w0 w:World} (s x:Operand) (t:TypeId) (hgd:o.guard=none)
  (ho:o.op=.call {callee:=.builtin .append,args:=#[s,x],argTypes:=#[t,t]})
  {c L K cx base:Nat} {A Ax:Option Addr} {D X:List UInt8} (Kx:Nat)
  (hs:a.eval s=.slice A L c) (hx:a.eval x=.slice Ax X.length cx) (hT:SlT P t 5 (.int .u8 0) 1 1) (h:Acc w0 w A c L K D) (hr:Own w base 5 1 Ax X.length cx (X.map Bv)) (hX:X.length<=Kx) (hK:K+Kx<=1099511627776)
  (hk:∀A' c' L' w',Acc w0 w' A' c' L' (K+Kx) (D++X)->Fr Non w0 w'->Kt (a.put o.dst (.slice A' L' c')) w'):
  if Region.wanted o (yielded ops a.tmps)=true then Oper.wp P o a w Kt Q else E:=by
 have hle:=h.le;refine Ks s x t hgd ho hs hx hT h.own hr.rd (G8 _) (by omega) (by omega) h.fr.size ?_;intro A' c' w' hown hf _;rw [<- List.map_append] at hown;have hff:=h.fr.trans hf (h.own.notNon (At3 _));exact hk A' c' _ w' ⟨hown,hff,by omega⟩ hff
theorem Is (B n cl:Nat) (Al:Option Addr) (l:List Int) (w:World) (hn:Hid (l.length=n)) (hr:Rd w B 1 Al n (l.map Iv)) (hok:∀x∈l,I64 x) (hn1:n<=100000):
  Calls zp 102 #[.slice Al n cl] w (NewB w (l.flatMap Pk.int)):=by
 go_enter func102,ntmps102;go_wp2
 go_loopw [3,4] (fun s v wr=>∃(i:Nat) (A:Option Addr) (c L:Nat),v=.int .i64 (i:Int)/\s=.slice A L c/\i<=n/\Acc w wr A c L (10*i) ((l.take i).flatMap Pk.int)) (fun _ v _=>n-(intOf v).toNat)
 case atStart=>exact ⟨0,none,0,0,rfl,rfl,by omega,Acc.nil w⟩
 case round=>
  obtain ⟨i,A,c,L,rfl,rfl,hin,hac⟩:=hrel
  by_cases hlt:i<n
  ·
   obtain ⟨x,hx⟩:∃x,l[i]? =some x:=⟨_,As9 (by rw [hn.out];exact hlt)⟩;have hxo:=hok x (At1 hx);obtain ⟨b,off,rfl,hb,k0⟩:=Im (hr.fr hac.fr zr) hx;unfold Iv at k0;have hx':=lh hx;clear hx;have hxl:=Pk.int_len x;go_wp2_with fail;refine (Ez x _ hxo.1 hxo.2).mono ?_;rintro _ w1 ⟨A1,c1,rfl,hown1,hf1⟩;have hac1:=hac.step hf1;go_wp2_with (first|(at_builtin;go_loud (refine Cs (.tmp 11) (.tmp 16) 39 rfl rfl 10 rfl rfl slB hac1 hown1 hxl (by omega) ?_);intro A2 c2 L2 w2 hac2));go_roundw
   case rel=>exact ⟨i+1,A2,c2,L2,by go_num,rfl,by omega,by rw [Dt _ l hx'.out,At4];exact hac2⟩
   case measure=>simp [intOf];omega
  ·
   have hi:i=n:=by omega
   subst hi;go_wp2
   go_ret
   refine hac.post (Fr.refl _ _) ?_;rw [At2 (by rw [hn.out];omega)]
theorem Ow (B n cl:Nat) (Al:Option Addr) (l:List Nat) (w:World) (hn:Hid (l.length=n)) (hr:Rd w B 1 Al n (l.map Uv)) (hok:∀x∈l,U64 x) (hn1:n<=100000):
  Calls zp 108 #[.slice Al n cl] w (NewB w (l.flatMap Pk.num)):=by
 go_enter func108,ntmps108;go_wp2
 go_loopw [3,4] (fun s v wr=>∃(i:Nat) (A:Option Addr) (c L:Nat),v=.int .i64 (i:Int)/\s=.slice A L c/\i<=n/\Acc w wr A c L (10*i) ((l.take i).flatMap Pk.num)) (fun _ v _=>n-(intOf v).toNat)
 case atStart=>exact ⟨0,none,0,0,rfl,rfl,by omega,Acc.nil w⟩
 case round=>
  obtain ⟨i,A,c,L,rfl,rfl,hin,hac⟩:=hrel
  by_cases hlt:i<n
  ·
   obtain ⟨x,hx⟩:∃x,l[i]? =some x:=⟨_,As9 (by rw [hn.out];exact hlt)⟩;have hxo:=hok x (At1 hx);obtain ⟨b,off,rfl,hb,k0⟩:=Im (hr.fr hac.fr zr) hx;unfold Uv at k0;have hx':=lh hx;clear hx;have hxl:=Pk.num_len x;go_wp2_with fail;refine (Gl x _ hxo).mono ?_;rintro _ w1 ⟨A1,c1,rfl,hown1,hf1⟩;have hac1:=hac.step hf1;go_wp2_with (first|(at_builtin;go_loud (refine Cs (.tmp 11) (.tmp 16) 39 rfl rfl 10 rfl rfl slB hac1 hown1 hxl (by omega) ?_);intro A2 c2 L2 w2 hac2));go_roundw
   case rel=>exact ⟨i+1,A2,c2,L2,by go_num,rfl,by omega,by rw [Dt _ l hx'.out,At4];exact hac2⟩
   case measure=>simp [intOf];omega
  ·
   have hi:i=n:=by omega
   subst hi;go_wp2
   go_ret
   refine hac.post (Fr.refl _ _) ?_;rw [At2 (by rw [hn.out];omega)]
theorem Vq {w:World} {k:Nat} {l:List Nat} (h:Blk w k 23 (l.map Uv).toArray) (n:Nat) (hn:l.length=n):Rd w w.heap.size 1 (some ⟨k,0,none⟩) n (l.map Uv):=by
 refine ⟨by simp [hn],.inr ⟨k,0,rfl,h.lt,fun j u hu=> ?_⟩⟩;rw [Nat.zero_add,h.cell j,Au1];exact hu
theorem Lk {w:World} {k:Nat} {l:List Int} (h:Blk w k 3 (l.map Iv).toArray) (n:Nat) (hn:l.length=n):Rd w w.heap.size 1 (some ⟨k,0,none⟩) n (l.map Iv):=by
 refine ⟨by simp [hn],.inr ⟨k,0,rfl,h.lt,fun j u hu=> ?_⟩⟩;rw [Nat.zero_add,h.cell j,Au1];exact hu
theorem Vr (x:Bx):[x.t,x.e,x.y,x.g].flatMap Pk.num=x.bytes:=by unfold Bx.bytes;simp [Au0]
theorem Vs (x:Bx) (hx:x.ok) (w:World) (k:Nat) (h:Blk w k 23 #[.int .u64 (x.t:Int),.int .u64 (x.e:Int),.int .u64 (x.y:Int),.int .u64 (x.g:Int)]):Calls zp 108 #[.slice (some ⟨k,0,none⟩) 4 4] w (NewB w x.bytes):=by
 rw [<- Vr x];exact Ow w.heap.size 4 4 _ [x.t,x.e,x.y,x.g] _ rfl (Vq h 4 rfl) (Iq hx.1 hx.2.1 hx.2.2.1 hx.2.2.2) (by omega)
theorem Ox (B n cl:Nat) (Al:Option Addr) (l:List Bx) (w:World) (hn:Hid (l.length=n)) (hr:Rd w B 4 Al n (l.flatMap Bx.cells)) (hok:∀x∈l,x.ok) (hn1:n<=100000):
  Calls zp 105 #[.slice Al n cl] w (NewB w (lst Bx.bytes l)):=by
 go_enter func105,ntmps105;go_wp2_with fail;refine (Ez (n:Int) _ (by omega) (by omega)).mono ?_;rintro _ w0 ⟨A0,c0,rfl,ad,ak⟩;have ao:=Pk.int_len (n:Int);have ag:Acc w w0 A0 c0 (Pk.int (n:Int)).length 10 (Pk.int (n:Int)):=Acc.of_new ad ak ao;go_wp2
 go_loopw [3,4] (fun s v wr=>∃(i:Nat) (A:Option Addr) (c L:Nat),v=.int .i64 (i:Int)/\s=.slice A L c/\i<=n/\Acc w wr A c L (10+40*i) (Pk.int (n:Int)++(l.take i).flatMap Bx.bytes)) (fun _ v _=>n-(intOf v).toNat)
 case atStart=>exact ⟨0,A0,c0,_,rfl,rfl,by omega,by simpa using ag⟩
 case round=>
  obtain ⟨i,A,c,L,rfl,rfl,ar,ab⟩:=hrel
  by_cases hlt:i<n
  ·
   obtain ⟨x,hx⟩:∃x,l[i]? =some x:=⟨_,As9 (by rw [hn.out];exact hlt)⟩;have kn:=lh (Vs x (hok x (At1 hx)) (wr.alloc (.cells #[.int .u64 (x.t:Int),.int .u64 (x.e:Int),.int .u64 (x.y:Int),.int .u64 (x.g:Int)] 23)).drew _ (Blk.new wr 23 _).drew);obtain ⟨b,aa,rfl,hb,z0,z1,z2,z3⟩:=Bx.at hr hx;have k0:=ab.fr.cell z0 zq;have k1:=ab.fr.cell z1 zq;have k2:=ab.fr.cell z2 zq;have k3:=ab.fr.cell z3 zq;have al:=lh hx;clear hx;have aj:=Bx.bytes_len x;have ap:(i:Int)<(n:Int):=by omega
   have aq:(0:Int)<=(i:Int):=by omega
   have n0:=At5 wr ⟨b,aa+i*4,none⟩ (by rw [k0]);have n1:=At5 wr ⟨b,aa+i*4+1,none⟩ (by rw [k1]);have n2:=At5 wr ⟨b,aa+i*4+2,none⟩ (by rw [k2]);have n3:=At5 wr ⟨b,aa+i*4+3,none⟩ (by rw [k3]);go_wp2_with fail
   go_region_held3 (fun w'=>w'.cell? ⟨b,aa+i*4,none⟩=some (.int .u64 (x.t:Int))/\w'.cell? ⟨b,aa+i*4+1,none⟩=some (.int .u64 (x.e:Int))/\w'.cell? ⟨b,aa+i*4+2,none⟩=some (.int .u64 (x.y:Int))/\w'.cell? ⟨b,aa+i*4+3,none⟩=some (.int .u64 (x.g:Int))) (go_keep) (first
    |((refine Vp (.tmp 14) (.tmp 36) 39 (by rfl) (by rfl) 40 (by rfl) (by rfl) slB ah ac aj (by omega) ?_;intro A3 c3 L3 w3 ai af;have ca:=af.cell z0 zq;have cb:=af.cell z1 zq;have cc:=af.cell z2 zq;have cd:=af.cell z3 zq))
    |(go_at_call 108;(with_reducible refine kn.out.mono ?_);rintro _ w1 ⟨A1,c1,rfl,ac,ae⟩;have ah:=(ab.step ((Fr.refl _ _).alloc _).drew).step ae;have ya:=ae.cell (((Fr.refl Non wr).alloc _).cell k0 zq) zq;have yb:=ae.cell (((Fr.refl Non wr).alloc _).cell k1 zq) zq;have yc:=ae.cell (((Fr.refl Non wr).alloc _).cell k2 zq) zq;have yd:=ae.cell (((Fr.refl Non wr).alloc _).cell k3 zq) zq))
   go_wp2;go_roundw
   case rel=>exact ⟨i+1,A3,c3,L3,by go_num,rfl,by omega,by rw [Dt _ l al.out,<- At8,At4,<- Nat.add_assoc];exact ai⟩
   case measure=>simp [intOf];omega
  ·
   have hi:i=n:=by omega
   subst hi;go_wp2
   go_ret
   refine ab.post (Fr.refl _ _) ?_;unfold lst;rw [At2 (by rw [hn.out];omega),hn.out]
end Oq
end
end Go.Proofs.YtihfebhfgliojaaGreatDoor
