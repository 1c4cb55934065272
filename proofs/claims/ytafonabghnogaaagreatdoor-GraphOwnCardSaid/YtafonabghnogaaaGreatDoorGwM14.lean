/-
  Contracts of the functions that the claim's statement reaches, walked one by one (part 14).
  Conditions: as each theorem says.
-/
import Derived.Handy
import Derived.Test.YtafonabghnogaaaGreatDoorGwM1
import Derived.Test.YtafonabghnogaaaGreatDoorGwM2
import Derived.Test.YtafonabghnogaaaGreatDoorGwM7
import Derived.Test.YtafonabghnogaaaGreatDoorGwM12
import Derived.Test.YtafonabghnogaaaGreatDoorGwM13
set_option maxRecDepth 100000
set_option maxHeartbeats 16000000
open Bool renaming not_false→Al3,not_true→Al4
open Int renaming le_refl→Al5
open List renaming getElem?_eq_getElem→Ak6,length_append→Ak7,getElem?_map→Ak8,getElem?_of_mem→Al0,mem_of_getElem?→Al1,take_of_length_le→Al6,flatMap_append→Al7,nodup_nil→Al9,mem_singleton→Am0,filterMap_append→Am1,length_singleton→Am2,getElem_map→Am3,not_mem_nil→Am4
open Nat renaming le_refl→Ak9,le_trans→Al8
open Go.World renaming size_alloc→Al2
namespace Go.Proofs.YtafonabghnogaaaGreatDoor
section
open Go.RowKit
namespace Oq
structure Cv (B:Nat) (a w:World):Prop where
 os:w.os=a.os
 tape:w.tape=a.tape
 output:w.output=a.output
 size:a.heap.size≤w.heap.size
 low:∀k:Nat,k<B→k<a.heap.size→w.heap[k]? =a.heap[k]?
 shape:∀(k:Nat) (cs:Array Value) (t:TypeId) (fr:Nat × Nat),a.heap[k]? =some (.cells cs t fr)→∃cs':Array Value,w.heap[k]? =some (.cells cs' t fr)∧cs'.size=cs.size∧(t=44→cs'=cs)∧(t=103→∀i,cs'[i*2+1]? =cs[i*2+1]?)
section
variable {B base size n c : Nat} {a w : World} {t : TypeId} {A : Option Addr} {xs : List Value}
theorem Cv.refl (B:Nat) (a:World):Cv B a a:=⟨rfl,rfl,rfl,Ak9 _,fun _ _ _=>rfl,fun _ cs _ _ h=>⟨cs,h,rfl,fun _=>rfl,fun _ _=>rfl⟩⟩
theorem Cv.fr (h:Cv B a w):Fr (He B) a w:=⟨h.os,h.tape,h.output,h.size,fun k hk hn=>h.low k (by unfold He at hn;omega) hk⟩
theorem Cv.set (h:Cv B a w) {k:Nat} {cs:Array Value} {fr:Nat × Nat} (hk:B≤k) (hb:a.heap[k]? =some (.cells cs t fr)) (j:Nat) (v:Value) (h1:t≠44) (h2:t=103→∀i,j≠i*2+1):Cv B a (w.setCell ⟨k,j,none⟩ v):=by
 refine ⟨h.os,h.tape,h.output,by show _≤(w.setCell ⟨k,j,none⟩ v).heap.size;simp [World.setCell];exact h.size,fun k' hk' hk2=> ?_,fun k' cs' t' fr' hb'=> ?_⟩
 ·
  have hne:k'≠k:=by omega
  rw [Below.heap_setCell w ⟨k,j,none⟩ v k' hne];exact h.low k' hk' hk2
 ·
  obtain ⟨ds,hd,hs,ho,hn⟩:=h.shape k' cs' t' fr' hb'
  by_cases hkk:k'=k
  ·
   subst hkk;rw [hb] at hb';injection hb' with hb'
   injection hb' with e1 e2 e3
   subst e1 e2 e3;refine ⟨ds.setIfInBounds j v,?_,by simpa using hs,fun e=>absurd e h1,fun e i=> ?_⟩
   · simp [World.setCell,Array.getElem?_modify,hd]
   ·
    rw [Array.getElem?_setIfInBounds_ne (h2 e i)];exact hn e i
  · exact ⟨ds,by rw [Below.heap_setCell w ⟨k,j,none⟩ v k' hkk];exact hd,hs,ho,hn⟩
theorem Cv.op {g:Nat} {cs:Array Value} (h:Cv B a w) (hb:Blk a g 44 cs):Blk w g 44 cs:=by
 obtain ⟨ds,hd,_,ho,_⟩:=h.shape g cs _ _ hb;rw [ho rfl] at hd;exact hd
theorem Cv.cell (h:Cv B a w) (hr:RowAt a base t size A n c xs) (hB:B≤base) {j:Nat} (hj:j<n*size) (h1:t≠44) (h2:t=103→∀i,j≠i*2+1):
  ∃k v,A=some ⟨k,0,none⟩∧w.cell? ⟨k,j,none⟩=some v∧w.frozen? ⟨k,j,none⟩=false∧∀u,Cv B a (w.setCell ⟨k,j,none⟩ u):=by
 obtain ⟨⟨⟨hl,hc⟩,_⟩,h4⟩:=hr
 rcases h4 with h0|⟨k,cs,fr,rfl,hk,hb,hz⟩
 · subst h0;omega
 ·
  obtain ⟨ds,hd,hs,_,_⟩:=h.shape k cs t fr hb
  have hc':∃u,a.cell? ⟨k,j,none⟩=some u:=by
   rcases hc with h0|⟨b,off,e,_,hc⟩
   · subst h0;omega
   ·
    injection e with e
    injection e with e1 e2
    subst e1 e2;have hjl:j<xs.length:=by omega
    have:=hc j xs[j] (Ak6 hjl);rw [Nat.zero_add] at this;exact ⟨_,this⟩
  obtain ⟨u,hu⟩:=hc'
  have hjs:j<cs.size:=by
   rcases Nat.lt_or_ge j cs.size with hlt|hge
   · exact hlt
   ·
    exfalso;have e:=cell_of_row a k j cs t fr hb;rw [hu] at e;rw [Array.getElem?_eq_none hge] at e
    cases e
  refine ⟨k,ds[j]'(by omega),rfl,?_,?_,fun u=>h.set (by omega) hb j u h1 h2⟩
  ·
   rw [cell_of_row w k j ds t fr hd];exact Array.getElem?_eq_getElem _
  ·
   have e:=hz j hj;unfold World.frozen? at e ⊢;rw [hb] at e;rw [hd];exact e
theorem Cv.node (h:Cv B a w) {l:List NdL} (hr:RowAt a base 103 2 A n c (l.flatMap NdL.cells)) {i:Nat} {x:NdL} (hx:l[i]? =some x):
  ∃k,A=some ⟨k,0,none⟩∧w.cell? ⟨k,i*2+1,none⟩=some (.slice x.A x.xs.length x.c):=by
 obtain ⟨b,off,e,_,_,hc⟩:=NdL.el hr.1.1 hx
 rcases hr.2 with h0|⟨k,cs,fr,e2,hk,hb,hz⟩
 ·
  exfalso;have h5:=(List.getElem?_eq_some_iff.1 hx).1;have h6:=hr.1.1.1;rw [Ex (f:=NdL.cells) (fun _=>(rfl:_=2))] at h6;subst h0;omega
 ·
  rw [e] at e2;injection e2 with e2
  injection e2 with e3 e4
  subst e3 e4;rw [Nat.zero_add] at hc;refine ⟨b,e,?_⟩;obtain ⟨ds,hd,hs,_,hn⟩:=h.shape b cs _ fr hb;rw [cell_of_row w b _ ds _ fr hd,hn rfl i,← cell_of_row a b _ cs _ fr hb];exact hc
end
theorem RowAt.above {S:Nat→Prop} {w w':World} {base size n c:Nat} {t:TypeId} {A:Option Addr} {xs:List Value} (h:RowAt w base t size A n c xs) (hf:Fr S w w') (hS:∀k,base≤k→¬S k):RowAt w' base t size A n c xs:=
 h.fr hf (fun h0 k hk=>by
  rcases h.2 with h1|⟨k',cs,fr,e,hb,_⟩
  · exact absurd h1 h0
  ·
   subst e;have e':k'=k:=by have h2:some k'=some k:=hk;exact Option.some.inj h2
   exact hS k (by omega))
theorem OpL.own.above {S:Nat→Prop} {w w':World} {base:Nat} {x:OpL} (h:x.own w base) (hf:Fr S w w') (hS:∀k,base≤k→¬S k):x.own w' base where
 past:=h.past.above hf hS
 path:=h.path.above hf hS
 nodes y hy:=(h.nodes y hy).above hf hS
 body:=h.body.above hf hS
 refs:=h.refs.above hf hS
 guards:=h.guards.above hf hS
 boxes:=h.boxes.above hf hS
 hist:=h.hist.above hf hS
 seals y hy:=(h.seals y hy).above hf hS
def bef (l:List Pn) (a b:Id):Bool:=match plc l a,plc l b with|some i,some j=>(l[j]?.map (fun n=>n.ps i)).getD false|_,_=>false
theorem bef_iff {l:List Pn} {a b:Id}:bef l a b=true↔∃i j m,plc l a=some i∧plc l b=some j∧l[j]? =some m∧m.ps i=true:=by
 unfold bef;constructor
 ·
  intro h
  split at h
  ·
   rename_i i j hi hj;obtain ⟨m,hm,_⟩:=Bt hj;rw [hm] at h;exact ⟨i,j,m,hi,hj,hm,h⟩
  · cases h
 ·
  rintro ⟨i,j,m,h1,h2,h3,h4⟩;rw [h1,h2];dsimp only;rw [h3];exact h4
theorem Ab5 {g:Gph} {l:List Pn} (hl:g.pns=l) {a:Id} {p:Nat} {n:Pn} (hp:plc l a=some p) (hn:l[p]? =some n):∃x,g.opOf a=some x∧x.op=n.o:=by
 subst hl;unfold Gph.pns at hp hn;rw [Fg] at hp;rw [Ak8] at hn;obtain ⟨m,hm,rfl⟩:=Option.map_eq_some_iff.1 hn;exact ⟨m.x,by unfold Gph.opOf;rw [hp];dsimp only;rw [hm];rfl,rfl⟩
theorem Rows.named {cards:List Cd} {l:List Pn} (h:Rows cards l) {ids:List Id} (hp:ids.Perm (l.map Pn.id)) {a:Id} (ha:a∈ids):∃p n,plc l a=some p∧l[p]? =some n∧n.id=a:=by
 obtain ⟨n,hn,rfl⟩:=List.mem_map.1 (hp.mem_iff.1 ha);obtain ⟨p,hp⟩:=Al0 hn;exact ⟨p,n,(h.ok p n hp).plc,hp,rfl⟩
def Dk (l:List Pn) (o:Op):Int:=if clash l o.past=true∨o.at_<late l o.past then 6 else if Aw l (Ag l o.past) o=true then 11 else 0
def Ev (l:List Pn) (o:Op):Int:=if o.past.any (fun id=>(plc l id).isNone)=true then 10 else Dk l o
theorem Ab6 {cards:List Cd} {l:List Pn} {o:Op} (h:o.chk=0) (h2:plc l o.name=none) (h3:l.length<200) (h4:Bi cards o.by_=none):Ai cards l o=17:=by
 rw [Is h h2 h3,h4]
theorem Ab7 {cards:List Cd} {l:List Pn} {o:Op} {c:Cd} (h:o.chk=0) (h2:plc l o.name=none) (h3:l.length<200) (h4:Bi cards o.by_=some c) (h5:Sg.check c.s o.bare o.r o.s=false):Ai cards l o=12:=by
 rw [Is h h2 h3,h4];dsimp only;rw [if_pos h5]
theorem Ab8 {cards:List Cd} {l:List Pn} {o:Op} {c:Cd} (h:o.chk=0) (h2:plc l o.name=none) (h3:l.length<200) (h4:Bi cards o.by_=some c) (h5:Sg.check c.s o.bare o.r o.s=true):
  Ai cards l o=if o.kind=1∧l≠[] then 1 else Ev l o:=by
 rw [Is h h2 h3,h4];dsimp only;rw [if_neg (by rw [h5];simp)];rfl
theorem Ab9 {l:List Pn} {o:Op} {y:Id} (hy:y∈o.past) (h:(plc l y).isNone=true):Ev l o=10:=by
 unfold Ev;rw [if_pos (List.any_eq_true.2 ⟨y,hy,h⟩)]
theorem Ac0 {l:List Pn} {o:Op} (h:∀y∈o.past,∃p,plc l y=some p):Ev l o=Dk l o:=by
 unfold Ev;rw [if_neg];intro e;obtain ⟨y,hy,he⟩:=List.any_eq_true.1 e;obtain ⟨p,hp⟩:=h y hy;rw [hp] at he
 cases he
theorem Lp {l:List Pn} {ids:List Id} {a p:Nat} (h:∀y∈ids,∃p,plc l y=some p) (ha:(Aj l ids)[a]? =some p):∃y,y∈ids∧plc l y=some p:=by
 unfold Aj at ha;rw [Ak8] at ha
 cases hy:ids[a]? with
 |none=>rw [hy] at ha;cases ha
 |some y=>
  rw [hy] at ha;injection ha with ha
  have hm:=Al1 hy;obtain ⟨q,hq⟩:=h y hm;have ha0:(plc l y).getD 0=p:=ha;rw [hq] at ha0;have ha':q=p:=ha0;subst ha';exact ⟨y,hm,hq⟩
theorem Lq {l:List Pn} {ids:List Id} {y:Id} {p:Nat} (hy:y∈ids) (hp:plc l y=some p):∃a:Nat,(Aj l ids)[a]? =some p:=by
 obtain ⟨a,ha⟩:=Al0 hy;refine ⟨a,?_⟩;unfold Aj;rw [Ak8,ha];simp [hp]
theorem Ac1 {l:List Pn} {o:Op} (hlen:l.length≤200) (h:∀y∈o.past,∃p,plc l y=some p) {a b p q:Nat} {m:Pn} (h1:(Aj l o.past)[a]? =some p) (h2:(Aj l o.past)[b]? =some q) (h3:l[p]? =some m) (h4:m.ps q=true):Dk l o=6:=by
 obtain ⟨y,hy,hp⟩:=Lp h h1;obtain ⟨z,hz,hq⟩:=Lp h h2;unfold Dk;rw [if_pos (Or.inl (Aa6 hlen hy hz hp hq h3 h4))]
theorem Ac2 {l:List Pn} {o:Op} (h:∀y∈o.past,∃p,plc l y=some p) {a p:Nat} {m:Pn} (h1:(Aj l o.past)[a]? =some p) (h3:l[p]? =some m) (h4:o.at_<m.o.at_):Dk l o=6:=by
 obtain ⟨y,hy,hp⟩:=Lp h h1;unfold Dk;rw [if_pos (Or.inr (Aa8 hy hp h3 h4))]
theorem Ac3 {l:List Pn} {o:Op} (h0:0≤o.at_) (h:∀y∈o.past,∃p,plc l y=some p) (h1:∀(a b p q:Nat) (m:Pn),(Aj l o.past)[a]? =some p→(Aj l o.past)[b]? =some q→l[p]? =some m→m.ps q=false)
  (h2:∀(a p:Nat) (m:Pn),(Aj l o.past)[a]? =some p→l[p]? =some m→m.o.at_≤o.at_):Dk l o=if Aw l (Ag l o.past) o=true then 11 else 0:=by
 unfold Dk;rw [if_neg];rintro (e|e)
 ·
  rw [Aa7 (fun a ha b hb p r m k1 k2 k3=> ?_)] at e
  · cases e
  ·
   obtain ⟨i,hi⟩:=Lq ha k1;obtain ⟨j,hj⟩:=Lq hb k2;exact h1 i j p r m hi hj k3
 ·
  refine Aa9 h0 h (fun a ha p m k1 k2=> ?_) e;obtain ⟨i,hi⟩:=Lq ha k1;exact h2 i p m hi k2
theorem Ra {cards:List Cd} {l:List Pn} (h:Rows cards l) {ids:List Id} (hids:∀id∈ids,∃p,plc l id=some p):
  C6 (Dc l) (Aj l ids) l.length (fun _=>false)=Ag l ids:=funext (fun q=>Aa3 h hids q)
end Oq
end
section
open Go.RowKit
attribute [local go_sem ↓] Go.wp_at_zero Go.wp_at_succ
namespace Oq
attribute [local go_sem ↓] Fb
theorem Ac4 {l:List Pn} {id:Id} (h:∀(j:Nat) (n:Pn),l[j]? =some n→n.id≠id):plc l id=none:=by
 unfold plc;rw [List.findIdx?_eq_none_iff];intro n hn;obtain ⟨j,hj⟩:=Al0 hn;exact decide_eq_false (h j n hj)
theorem Ac5 {l:List Pn} {id:Id} {k:Nat} {n:Pn} (hk:l[k]? =some n) (he:n.id=id) (h:∀(j:Nat) (n:Pn),j<k→l[j]? =some n→n.id≠id):plc l id=some k:=by
 obtain ⟨hl,rfl⟩:=List.getElem?_eq_some_iff.1 hk;unfold plc;rw [List.findIdx?_eq_some_iff_getElem];refine ⟨hl,decide_eq_true he,fun j hj=> ?_⟩;have:=h j l[j] hj (Ak6 (by omega));simpa using this
theorem Rb {r:RG} {k:Nat} {n:Pn} (h:r.l[k]? =some n):r.ids[k]? =some n.id:=by
 unfold RG.ids;rw [Ak8,h];rfl
theorem Hb (base:Nat) (r:RG) (id:Id) (w:World) (h:r.own w base):
  Calls Tryz.prog 37 #[.agg r.cells,.agg id.V] w fun e w'=>e=.returned (.int .i64 (Aq r.l id))∧Fr Non w w':=by
 have hr:=h.rdIds;have ai:=h.few;have ag:Hid (∀(k:Nat) (n:Pn),r.l[k]? =some n→r.ids[k]? =some n.id):=fun k n hk=>Rb hk;have af:Hid ((∀(j:Nat) (n:Pn),j<r.l.length→r.l[j]? =some n→n.id≠id)→Aq r.l id= -1):=fun hh=>Ab1 (Ac4 (fun j n hj=>hh j n (List.getElem?_eq_some_iff.1 hj).1 hj));have ab:Hid (∀(k:Nat) (n:Pn),r.l[k]? =some n→n.id=id→(∀(j:Nat) (n:Pn),j<k→r.l[j]? =some n→n.id≠id)→Aq r.l id=(k:Int)):=fun k n h1 h2 h3=>Ab0 (Ac5 h1 h2 h3);have bg:=(Blk.new w 32 r.cells).alloc (.cells id.V 38);have bi:=Blk.new (w.alloc (.cells r.cells 32)) 38 id.V;rw [Al2] at bi;have f0:Fr Non w ((w.alloc (.cells r.cells 32)).alloc (.cells id.V 38)):=((Fr.refl Non w).alloc _).alloc _;have g2:Hid (r.cells[2]? =some (.slice r.iA r.l.length r.iC)):=rfl;have hm:=Ng;clear h;generalize Aq r.l id=R at*;generalize hids:r.ids=ids at*;generalize hl:r.l=l at*;generalize r.iA=A at*;generalize r.iC=C at*;generalize r.cells=CS at*;go_enter Tryz.func37,Tryz.ntmps37;go_wp2
 go_loopw [5] (fun v wr=>∃k:Nat,v=.int .i64 (k:Int)∧k≤l.length∧Hid (∀(j:Nat) (n:Pn),j<k→l[j]? =some n→n.id≠id)∧Fr Non ((w.alloc (.cells CS 32)).alloc (.cells id.V 38)) wr) (fun v _=>l.length-(intOf v).toNat)
 case atStart=>exact ⟨0,rfl,by omega,fun j n hj=>absurd hj (Nat.not_lt_zero _),Fr.refl _ _⟩
 case round=>
  obtain ⟨k,rfl,hk,hh,hf⟩:=hrel;have ah:=bg.fr hf zq;have d2:=(ah.cell 2).trans g2.out;have ac:Fr Non w wr:=f0.trans hf zr
  by_cases hlt:k<l.length
  ·
   obtain ⟨n,hn⟩:∃n,l[k]? =some n:=⟨_,Ak6 hlt⟩;obtain ⟨b,ak,rfl,aj,k0,k1,k2⟩:=Id.at (hr.fr ac zr) (ag.out k n hn);have ae:=bi.fr hf zq;have c0:=ae.cell 0;have c1:=ae.cell 1;have c2:=ae.cell 2;have aa:=Id.eq_iff n.id id
   by_cases he:Id.eq n.id id=true
   ·
    have hR:Hid (R=(k:Int)):=ab.out k n hn (aa.1 he) hh.out;clear hn ag ab af aa bg bi f0 ah ae hids hl;generalize n.id=y at*;generalize l.length=N at*;have i1:(0:Int)≤k:=by omega
    have i2:(k:Int)<N:=by omega
    have i3:(k:Int).toNat=k:=by omega
    go_wp2
    go_quiet (fail)
    go_wp2
    go_ret
    exact ⟨by rw [hR.out];rfl,ac.drewN _⟩
   ·
    have he:=Bool.not_eq_true _▸he
    have ad:Hid (∀(j:Nat) (n:Pn),j<k+1→l[j]? =some n→n.id≠id):=by
     intro j m hj hm
     rcases Nat.lt_or_ge j k with h1|h1
     · exact hh.out j m h1 hm
     ·
      have e:j=k:=by omega
      subst e;rw [hn] at hm;injection hm with hm
      subst hm;intro e;rw [aa.2 e] at he
      cases he
    clear hn ag ab af aa ah ae hids hl hh;generalize n.id=y at*;generalize hN:l.length=N at*;have i1:(0:Int)≤k:=by omega
    have i2:(k:Int)<N:=by omega
    have i3:(k:Int).toNat=k:=by omega
    clear hN;go_wp2
    go_quiet (fail)
    go_wp2;go_roundw
    case rel=>exact ⟨k+1,by go_num,by omega,ad,hf.drewN _⟩
    case measure=>simp [intOf];omega
  ·
   obtain rfl:k=l.length:=by omega
   have hR:Hid (R= -1):=af.out hh.out;go_wp2
   go_ret
   exact ⟨by rw [hR.out];rfl,ac⟩
end Oq
namespace Oq
attribute [local go_sem] Al3 Al4
theorem E6 (v:Value):Instr.loadAt 32 v=ldS 32 v:=rfl
attribute [local go_sem ↓] E6 Fb
theorem Dl:(Tryz.prog.info? 32).map (·.size)=some 5:=by kernel_rfl
theorem Rc (r:RG):r.ids.length=r.l.length:=by simp [RG.ids]
theorem Re (base:Nat) (r:RG) (w:World) (h:r.own w base):Calls Tryz.prog 22 #[.agg r.cells] w (Ep r.ids r.l.length w):=by
 have hr:=h.rdIds;have hfew:=h.few;have bg:=Blk.new w 32 r.cells;have f0:Fr Non w (w.alloc (.cells r.cells 32)):=(Fr.refl Non w).alloc _;have g2:r.cells[2]? =some (.slice r.iA r.l.length r.iC):=rfl;have c2:=(bg.cell 2).trans g2;have k:=Lib.hid (Gn w.heap.size r.l.length r.iC r.iA r.ids (w.alloc (.cells r.cells 32)) (Rc r) (hr.fr f0 zr) (by omega));unfold Ep at k ⊢;clear bg g2 h;generalize r.cells=CS at*;generalize Ao r.ids=IS at*;go_enter Tryz.func22,Tryz.ntmps22;go_wp2_with (fail);refine k.out.mono ?_;rintro _ w1 ⟨A,c,rfl,o1,f1⟩;go_wp2
 go_ret
 exact ⟨A,c,rfl,o1.lower f0.size,f0.trans f1 zr⟩
def Ce (ids:List Id) (d:Int) (k:Nat):Int:=(ids.take k).foldl (fun n x=>if x.b==d then max n x.s else n) 0
theorem Rf {ids:List Id} {d:Int} {k:Nat} {x:Id} (h:ids[k]? =some x):Ce ids d (k+1)=if x.b==d then max (Ce ids d k) x.s else Ce ids d k:=by
 unfold Ce;rw [Dz h,List.foldl_append];rfl
theorem Rg {ids:List Id} {d m:Int} (hm:0≤m) (h:∀x∈ids,x.s≤m) (k:Nat):0≤Ce ids d k∧Ce ids d k≤m:=by
 induction k with
 |zero=>exact ⟨Al5 _,hm⟩
 |succ k ih=>
  cases hx:ids[k]? with
  |none=>
   have:Ce ids d (k+1)=Ce ids d k:=by
    unfold Ce;rw [Al6 (by have:=List.getElem?_eq_none_iff.1 hx;omega),Al6 (by have:=List.getElem?_eq_none_iff.1 hx;omega)]
   rw [this];exact ih
  |some x=>
   rw [Rf hx];have:=h x (Al1 hx)
   split<;>omega
theorem Ac6 (g:Array Value) (B n c:Nat) (A:Option Addr) (ids:List Id) (d:Int) (w:World) (hn:Hid (ids.length=n)) (hr:Rd w B 3 A n (ids.flatMap Id.cells)) (hnm:n≤1000000) (hs:∀x∈ids,x.s≤2147483647):
  Calls Tryz.prog 51 #[.agg g,.slice A n c,.int .i64 d] w fun e w'=>e=.returned (.int .i64 (Ce ids d n+1))∧Fr Non w w':=by
 have f0:Fr Non w (w.alloc (.cells g 32)):=(Fr.refl Non w).alloc _;have hr0:=hr.fr f0 zr;have hbd:=Lib.hid (fun k=>Rg (ids:=ids) (d:=d) (m:=2147483647) (by omega) hs k);clear hs hr;go_enter Tryz.func51,Tryz.ntmps51;go_wp2;generalize w.alloc (.cells g 32)=w0 at*
 go_loopw [7,8] (fun m v wr=>∃k:Nat,v=.int .i64 (k:Int)∧m=.int .i64 (Ce ids d k)∧k≤n∧Fr Non w0 wr) (fun _ v _=>n-(intOf v).toNat)
 case atStart=>exact ⟨0,rfl,rfl,by omega,Fr.refl _ _⟩
 case round=>
  obtain ⟨k,rfl,rfl,hk,hf⟩:=hrel;obtain ⟨b1,b2⟩:=hbd.out k
  by_cases hlt:k<n
  ·
   obtain ⟨y,hy⟩:∃y,ids[k]? =some y:=⟨_,Ak6 (by rw [hn.out];exact hlt)⟩;obtain ⟨b,off,rfl,hbB,k0,k1,k2⟩:=Id.at (hr0.fr hf zr) hy;have hsn:=Lib.hid (Rf (d:=d) hy);clear hy;have i1:(0:Int)≤k:=by omega
   have i2:(k:Int)<n:=by omega
   have i3:(k:Int).toNat=k:=by omega
   rcases zb (y.b==d) with he|he
   ·
    have hsn':Hid (Ce ids d (k+1)=max (Ce ids d k) y.s):=by show _=_;rw [hsn.out,he];rfl
    clear hsn;generalize Ce ids d k=M at*;go_wp2
    all_goals
     go_roundw
     case rel=>exact ⟨k+1,by go_num,by rw [hsn'.out];first|done|(congr 1<;>omega),by omega,hf⟩
     case measure=>simp [intOf];omega
   ·
    have hsn':Hid (Ce ids d (k+1)=Ce ids d k):=by show _=_;rw [hsn.out,he];rfl
    clear hsn;generalize Ce ids d k=M at*;go_wp2;go_roundw
    case rel=>exact ⟨k+1,by go_num,by rw [hsn'.out],by omega,hf⟩
    case measure=>simp [intOf];omega
  ·
   obtain rfl:k=n:=by omega
   have e1:IntKind.i64.wrap (Ce ids d k+1)=Ce ids d k+1:=IntWalk.i64_in _ (by omega);obtain ⟨M,hM⟩:=Aa (Ce ids d k);rw [hM.out] at e1 b1 b2;rw [hM.out];go_wp2
   go_ret
   exact ⟨by first|(rw [hM.out];rfl)|rfl,f0.trans hf zr⟩
theorem Ac7 (base:Nat) (r:RG) (B n c:Nat) (A:Option Addr) (ids:List Id) (w:World) (h:r.own w base) (hn:Hid (ids.length=n)) (hr:Rd w B 3 A n (ids.flatMap Id.cells)) (hnm:n≤1000000):
  Calls Tryz.prog 52 #[.agg r.cells,.slice A n c] w fun e w'=>e=.returned (.int .i64 (late r.l ids))∧Fr Non w w':=by
 have aw:=h.few;have bg:=Blk.new w 32 r.cells;have f0:Fr Non w (w.alloc (.cells r.cells 32)):=(Fr.refl Non w).alloc _;have g1:Hid (r.cells[1]? =some (.slice r.lA r.l.length r.lC)):=rfl;have a1:=hr.fr f0 zr;have kp:=Lib.hid (fun (id:Id) (w':World) (hf:Fr Non w w')=>Hb base r id w' (h.non hf))
 have ai:Hid (∀i,i<r.l.length→∃(m:Pn) (b aa:Nat),r.l[i]? =some m∧r.lA=some ⟨b,aa,none⟩∧w.cell? ⟨b,aa+i*27+3,none⟩=some (.int .i64 m.o.at_)):=by
  intro i hi;obtain ⟨y,b,aa,_,h1,_,h3,_,h4⟩:=h.xAt (Ak6 hi);exact ⟨_,b,aa,Ak6 hi,h3,by rw [← h1];exact h4 3 (by omega) _ rfl⟩
 have ap:Hid (∀k,0≤late r.l (ids.take k)):=by
  intro k
  have mono:∀(l:List Id) (t:Int),0≤t→0≤l.foldl (fun t id=>max t (Bk r.l id)) t:=by
   intro l
   induction l with
   |nil=>intro t ht;exact ht
   |cons y q ih=>intro t ht;exact ih _ (by dsimp only;omega)
  exact mono _ 0 (Al5 _)
 have hl:=Az (P:=Tryz.prog) w.heap.size 32 Tryz.underlying32 rfl (cs:=r.cells) Dl
 have ag:Hid (∀id i,Aq r.l id=(i:Int)→0≤(i:Int)→∀m,r.l[i.toNat]? =some m→Bk r.l id=m.o.at_):=by
  intro id i e hi m hm;unfold Aq at e
  cases hp:plc r.l id with
  |none=>rw [hp] at e;dsimp only at e;omega
  |some p=>
   rw [hp] at e;dsimp only at e;exact Fz hp (by rw [show p=i.toNat by omega];exact hm)
 have af:Hid (∀id,-1≤Aq r.l id∧Aq r.l id<r.l.length):=by
  intro id;unfold Aq
  cases hp:plc r.l id with
  |none=>exact ⟨Al5 _,by dsimp only;omega⟩
  |some p=>have:=Di hp;exact ⟨by dsimp only;omega,by dsimp only;omega⟩
 have ah:Hid (∀id,Aq r.l id<0→Bk r.l id=0):=by
  intro id e;unfold Aq at e
  cases hp:plc r.l id with
  |none=>unfold Bk;rw [hp]
  |some p=>rw [hp] at e;dsimp only at e;omega
 clear h hr;obtain ⟨N,hN⟩:=Aa r.l.length;rw [hN.out] at g1 ai af aw;generalize r.lA=LA at*;generalize r.lC=LC at*;generalize r.cells=CS at*;generalize r.l=l at*;go_enter Tryz.func52,Tryz.ntmps52;go_wp2;generalize w.alloc (.cells CS 32)=w0 at*
 go_loopw [5,6] (fun m v wr=>∃k:Nat,v=.int .i64 (k:Int)∧m=.int .i64 (late l (ids.take k))∧k≤n∧Fr Non w0 wr) (fun _ v _=>n-(intOf v).toNat)
 case atStart=>exact ⟨0,rfl,rfl,by omega,Fr.refl _ _⟩
 case round=>
  obtain ⟨k,rfl,rfl,hk,hf⟩:=hrel
  by_cases hlt:k<n
  ·
   obtain ⟨y,hy⟩:∃y,ids[k]? =some y:=⟨_,Ak6 (by rw [hn.out];exact hlt)⟩;obtain ⟨b,aa,rfl,a4,k0,k1,k2⟩:=Id.at (a1.fr hf zr) hy;have aj:=Lib.hid (Ph l ids k hy);have a5:=ap.out k;clear hy;have i1:(0:Int)≤k:=by omega
   have i2:(k:Int)<n:=by omega
   have i3:(k:Int).toNat=k:=by omega
   have az:=(bg.fr hf zq).drew;have aq:Fr Non w wr.drew:=(f0.trans hf zr).drew;have K0:wr.drew.cell? ⟨b,aa+k*3,none⟩=some (.int .i64 y.b):=k0;have K1:wr.drew.cell? ⟨b,aa+k*3+1,none⟩=some (.int .i64 y.s):=k1;have K2:wr.drew.cell? ⟨b,aa+k*3+2,none⟩=some (.int .u64 (y.u:Int)):=k2;have ax:=Lib.hid (kp.out y wr.drew aq);obtain ⟨p1,p2⟩:=af.out y;have ak:=Lib.hid (ag.out y);have au:=Lib.hid (ah.out y);clear kp ag ah af;generalize Aq l y=P at*;go_upto_region 5 with (fail)
   have B0:=az;have ab:=K0;have ad:=K1;have ac:=K2;have a0:=aq;clear az K0 K1 K2 k0 k1 k2 aq;refine wp_region_held_drew (S:=fun w'=>Blk w' w.heap.size 32 CS∧w'.cell? ⟨b,aa+k*3,none⟩=some (.int .i64 y.b)∧w'.cell? ⟨b,aa+k*3+1,none⟩=some (.int .i64 y.s)∧w'.cell? ⟨b,aa+k*3+2,none⟩=some (.int .u64 (y.u:Int))) (by kernel_rfl) ⟨B0,ab,ad,ac⟩ (fun hHeld=> ?_);clear hHeld;refine tkH 0 ⟨B0,ab,ad,ac⟩ (h:=tkH 1 ⟨B0,ab,ad,ac⟩ (h:=tkH 2 ⟨B0,ab,ad,ac⟩ (h:=tkH 3 ⟨B0,ab,ad,ac⟩ (h:=tkH 4 ⟨B0,ab,ad,ac⟩ (h:=?_)))));simp only [List.set];refine oG 5 (fun K hK=> ?_);go_simp;go_wp2_with (go_at_call 37;(with_reducible refine (ax.out).mono ?_);rintro _ v1 ⟨rfl,ae⟩;have B1:=B0.fr ae zq;have al:=ae.cell ab zq;have av:=ae.cell ad zq;have ar:=ae.cell ac zq;have a3:=a0.trans ae zr);refine hK.out _ _ ⟨B1,al,av,ar⟩ (fun hZ=> ?_);clear hZ hK K;try simp only [Ad,List.set]
   refine tkH 6 ⟨B1,al,av,ar⟩ (h:=?_);simp only [List.set];refine oD ?_;go_simp;clear ax ab ad ac al av ar B0 a0;have ay:Fr Non w0 v1:=hf.drew.trans ae zr;clear hf ae
   rcases Int.lt_or_le P 0 with hP|hP
   ·
    have t:decide (P≥0)=false:=decide_eq_false (by omega);have t2:decide (0≤P)=false:=decide_eq_false (by omega)
    have ao:Hid (late l (ids.take k)=late l (ids.take (k+1))):=by
     show _=_;rw [aj.out,au.out hP];omega
    clear aj au ak ai ap;go_wp2;go_roundw
    case rel=>exact ⟨k+1,by go_num,by rw [ao.out],by omega,ay⟩
    case measure=>simp [intOf];omega
   ·
    obtain ⟨p,rfl⟩:∃p:Nat,P=(p:Int):=⟨P.toNat,by omega⟩;have t:decide ((p:Int)≥0)=true:=decide_eq_true (by omega);have t2:decide (0≤(p:Int))=true:=decide_eq_true (by omega);obtain ⟨m,b2,a2,hm,rfl,cm⟩:=ai.out p (by omega)
    have ao:Hid (late l (ids.take (k+1))=max (late l (ids.take k)) m.o.at_):=by
     show _=_;rw [aj.out,ak.out p rfl (by omega) m (by rw [Int.toNat_natCast];exact hm)]
    have c1:=(B1.cell 1).trans g1.out;have a6:=a3.cell cm zq;have p3:(p:Int)<N:=p2;have p4:(p:Int).toNat=p:=by omega
    have p5:(0:Int)≤p:=by omega
    clear aj au ak ai ap hm cm p1 p2 B1;generalize m.o.at_=ma at*;generalize late l (ids.take k)=lk at*;go_wp2
    all_goals
     go_roundw
     case rel=>exact ⟨k+1,by go_num,by rw [ao.out];first|done|(congr 1<;>omega),by omega,ay⟩
     case measure=>simp [intOf];omega
  ·
   obtain rfl:k=n:=by omega
   have hR:Hid (late l (ids.take k)=late l ids):=by show _=_;rw [Al6 (by rw [hn.out];omega)]
   rw [hR.out];go_wp2
   go_ret
   exact ⟨rfl,f0.trans hf zr⟩
end Oq
namespace Oq
attribute [local go_sem] Al3 Al4
attribute [local go_sem ↓] Fb
def Cw (l:List Id) (w:World) (e:Ending) (w':World):Prop:=∃A c,e=.returned (.slice A l.length c)∧Own w' w.heap.size 38 3 A l.length c (l.flatMap Id.cells)∧Fr Non w w'
end Oq
namespace Oq
attribute [local go_sem] Al3 Al4
attribute [local go_sem ↓] E6
def Bs (l:List Pn) (p:Nat→Bool) (k:Nat):List Id:=(List.range k).filterMap (fun i=>if p i then l[i]?.map Pn.id else none)
theorem Rh (l:List Pn) (p:Nat→Bool) (k:Nat) {n:Pn} (h:l[k]? =some n):Bs l p (k+1)=Bs l p k++(if p k then [n.id] else []):=by
 unfold Bs;rw [List.range_succ,Am1];congr 1
 cases hp:p k<;>simp [hp,h]
theorem Ri (l:List Pn) (p:Nat→Bool) (k:Nat):(Bs l p k).length≤k:=by
 unfold Bs;have h:=List.length_filterMap_le (fun i=>if p i then l[i]?.map Pn.id else none) (List.range k);simpa using h
theorem Gb (l:List Id):(Ao l).length=l.length:=(Dp l).length_eq
theorem Ac8 {l:List Pn} {id:Id} (h:Aq l id<0) (q:Nat):upB l id q=false:=by
 unfold Aq at h;unfold upB
 cases hp:plc l id with
 |none=>rfl
 |some p=>rw [hp] at h;dsimp only at h;omega
theorem Ac9 {l:List Pn} {id:Id} {p:Nat} {m:Pn} (h:Aq l id=(p:Int)) (hm:l[p]? =some m) (q:Nat):upB l id q=m.ps q:=by
 unfold Aq at h;unfold upB
 cases hp:plc l id with
 |none=>rw [hp] at h;dsimp only at h;omega
 |some i=>
  rw [hp] at h;dsimp only at h ⊢;have e:i=p:=by omega
  subst e;rw [hm];rfl
theorem Rj (l:List Pn) (id:Id): -1≤Aq l id∧Aq l id<l.length:=by
 unfold Aq
 cases hp:plc l id with
 |none=>exact ⟨Al5 _,by dsimp only;omega⟩
 |some p=>have:=Di hp;exact ⟨by dsimp only;omega,by dsimp only;omega⟩
theorem RG.own.inAt {w:World} {base:Nat} {r:RG} (h:r.own w base) {p:Nat} (hp:p<r.l.length):
  ∃(m:Pn) (A2:Option Addr) (c2 b off:Nat),r.l[p]? =some m∧r.nA=some ⟨b,off,none⟩∧w.cell? ⟨b,off+p,none⟩=some (.slice A2 r.l.length c2)∧
   ∀i,i<r.l.length→∃b2 off2,A2=some ⟨b2,off2,none⟩∧w.cell? ⟨b2,off2+i,none⟩=some (.bool (m.ps i)):=by
 obtain ⟨x,b,off,h1,h2,h3,_,h4⟩:=h.nAt (Ak6 hp);have hlen:x.bs.length=r.l.length:=by rw [h1,Ga]
 have h4':w.cell? ⟨b,off+p,none⟩=some (.slice x.A x.bs.length x.c):=h4;rw [hlen] at h4';refine ⟨_,x.A,x.c,b,off,Ak6 hp,h3,h4',fun i hi=> ?_⟩;have hrd:Rd w w.heap.size 1 x.A x.bs.length (x.bs.map Value.bool):=h2.sl.rd;obtain ⟨b2,off2,u,e1,_,e2,e3⟩:=hrd.at (k:=i) (by omega);rw [Ak8,h1,Q5 hi] at e2;injection e2 with e2
 subst e2;exact ⟨b2,off2,e1,e3⟩
theorem RG.own.idAt {w:World} {base:Nat} {r:RG} (h:r.own w base) {i:Nat} (hi:i<r.l.length):
  ∃(m:Pn) (b off:Nat),r.l[i]? =some m∧r.iA=some ⟨b,off,none⟩∧w.cell? ⟨b,off+i*3,none⟩=some (.int .i64 m.id.b)∧w.cell? ⟨b,off+i*3+1,none⟩=some (.int .i64 m.id.s)∧w.cell? ⟨b,off+i*3+2,none⟩=some (.int .u64 (m.id.u:Int)):=by
 obtain ⟨b,off,h1,_,h2,h3,h4⟩:=Id.at h.rdIds (Rb (Ak6 hi));exact ⟨_,b,off,Ak6 hi,h1,h2,h3,h4⟩
theorem Rk (base:Nat) (r:RG) (B n c:Nat) (A:Option Addr) (ids:List Id) (w:World) (h:r.own w base) (hn:Hid (ids.length=n)) (hr:Rd w B 3 A n (ids.flatMap Id.cells)) (hnm:n≤1000000):
  Calls Tryz.prog 47 #[.agg r.cells,.slice A n c] w (Cw (Ao (Bs r.l (Ar r.l ids) r.l.length)) w):=by
 have bh:=h.few;have bg:=Blk.new w 32 r.cells;have f0:Fr Non w (w.alloc (.cells r.cells 32)):=(Fr.refl Non w).alloc _;have g1:Hid (r.cells[1]? =some (.slice r.lA r.l.length r.lC)):=rfl;have g2:Hid (r.cells[2]? =some (.slice r.iA r.l.length r.iC)):=rfl;have g4:Hid (r.cells[4]? =some (.slice r.nA r.l.length r.nC)):=rfl;have kp:=Lib.hid (fun (id:Id) (w':World) (hf:Fr Non w w')=>Hb base r id w' (h.non hf));have hl:=Az (P:=Tryz.prog) w.heap.size 32 Tryz.underlying32 rfl (cs:=r.cells) Dl;have au:=Lib.hid (fun (p:Nat) (hp:p<r.l.length)=>h.inAt hp);have hid:=Lib.hid (fun (p:Nat) (hp:p<r.l.length)=>h.idAt hp);have aa:Hid (∀id,-1≤Aq r.l id∧Aq r.l id<r.l.length):=fun id=>Rj r.l id;have ad:Hid (∀id,Aq r.l id<0→∀q,upB r.l id q=false):=fun id h q=>Ac8 h q;have af:Hid (∀id (p:Nat) m,Aq r.l id=(p:Int)→r.l[p]? =some m→∀q,upB r.l id q=m.ps q):=fun id p m h1 h2 q=>Ac9 h1 h2 q;have a2:Hid (∀k m,r.l[k]? =some m→Bs r.l (Ar r.l ids) (k+1)=Bs r.l (Ar r.l ids) k++(if Ar r.l ids k then [m.id] else [])):=fun k m hm=>Rh r.l _ k hm;have a4:Hid (∀k,(Bs r.l (Ar r.l ids) k).length≤k):=fun k=>Ri _ _ k;have a7:Hid (∀k y,ids[k]? =some y→Ar r.l (ids.take (k+1))=fun q=>Ar r.l (ids.take k) q||upB r.l y q):=fun k y hy=>Pg r.l ids k hy;clear h;generalize r.lA=LA at*;generalize r.lC=LC at*;generalize r.iA=IA at*;generalize r.iC=IC at*;generalize r.nA=NA at*;generalize r.nC=NC at*;generalize r.cells=CS at*;generalize r.l=l at*;obtain ⟨N,hN⟩:=Aa l.length;rw [hN.out] at g1 g2 g4 au hid aa bh ⊢;go_enter Tryz.func47,Tryz.ntmps47;go_upto_region 1 with (fail)
 generalize w.alloc (.cells CS 32)=w0 at*;go_wp2
 go_loopw [5,6] (fun s v wr=>∃(i:Nat) (Ax:Option Addr) (cx:Nat) (xs:List Id),v=.int .i64 (i:Int)∧s=.slice Ax xs.length cx∧i≤N∧Hid (xs=Bs l (Ar l ids) i)∧Own wr w0.heap.size 38 3 Ax xs.length cx (xs.flatMap Id.cells)∧Fr Non w0 wr) (fun _ v _=>N-(intOf v).toNat)
 case atStart=>exact ⟨0,none,0,[],rfl,rfl,by omega,rfl,Own.nil _ _ _ _,Fr.refl _ _⟩
 case round=>
  obtain ⟨i,Ax,cx,xs,rfl,rfl,hi,aq,ae,hf⟩:=hrel;have bo:Fr Non w wr:=f0.trans hf zr;have q1:=((bg.fr hf zq).cell 1).trans g1.out;have bi:=ae.row;have bx:xs.length≤i:=by rw [aq.out];exact a4.out i
  by_cases hlt:i<N
  ·
   have j1:(0:Int)≤i:=by omega
   have j2:(i:Int)<N:=by omega
   have j3:(i:Int).toNat=i:=by omega
   obtain ⟨wo,bt⟩:∃wo:World,wo=wr:=⟨_,rfl⟩;subst bt;go_wp2;clear q1
   go_loopw [7,8] (fun s v wi=>∃k:Nat,v=.int .i64 (k:Int)∧s=.bool (Ar l (ids.take k) i)∧k≤n∧Fr Non wo wi) (fun _ v _=>n-(intOf v).toNat)
   case atStart=>exact ⟨0,rfl,rfl,by omega,Fr.refl _ _⟩
   case round=>
    obtain ⟨k,rfl,rfl,hk,ay⟩:=hrel;have av:Fr Non w0 wr:=hf.trans ay zr;have aw:Fr Non w wr:=f0.trans av zr
    by_cases hkn:k<n
    ·
     obtain ⟨y,hy⟩:∃y,ids[k]? =some y:=⟨_,Ak6 (by rw [hn.out];exact hkn)⟩;obtain ⟨b,ax,rfl,bz,k0,k1,k2⟩:=Id.at (hr.fr aw zr) hy;have i1:(0:Int)≤k:=by omega
     have i2:(k:Int)<n:=by omega
     have i3:(k:Int).toNat=k:=by omega
     have ar:Hid (Ar l (ids.take (k+1)) i=(Ar l (ids.take k) i||upB l y i)):=by show _=_;rw [a7.out k y hy]
     have bj:=Lib.hid (kp.out y wr.drew aw.drew);obtain ⟨p1,p2⟩:=aa.out y;have a3:Hid (Aq l y<0→upB l y i=false):=fun e=>ad.out y e i;have a5:Hid (∀(p:Nat) m,Aq l y=(p:Int)→l[p]? =some m→upB l y i=m.ps i):=fun p m h1 h2=>af.out y p m h1 h2 i;have B0:=(bg.fr av zq).drew;have ah:wr.drew.cell? ⟨b,ax+k*3,none⟩=some (.int .i64 y.b):=k0;have ak:wr.drew.cell? ⟨b,ax+k*3+1,none⟩=some (.int .i64 y.s):=k1;have aj:wr.drew.cell? ⟨b,ax+k*3+2,none⟩=some (.int .u64 (y.u:Int)):=k2;have bm:Fr Non w wr.drew:=aw.drew;clear hy kp aa ad af a7 a2 a4 k0 k1 k2 hid;obtain ⟨a1,a6⟩:=Aa (Ar l (ids.take (k+1)) i);rw [a6.out] at ar;generalize Ar l (ids.take k) i=a0 at*;generalize upB l y i=up at*;generalize Aq l y=P at*;go_upto_region 9 with (fail)
     refine wp_region_held_drew (S:=fun w'=>Blk w' w.heap.size 32 CS∧w'.cell? ⟨b,ax+k*3,none⟩=some (.int .i64 y.b)∧w'.cell? ⟨b,ax+k*3+1,none⟩=some (.int .i64 y.s)∧w'.cell? ⟨b,ax+k*3+2,none⟩=some (.int .u64 (y.u:Int))) (by kernel_rfl) ⟨B0,ah,ak,aj⟩ (fun hHeld=> ?_);clear hHeld;refine tkH 0 ⟨B0,ah,ak,aj⟩ (h:=tkH 1 ⟨B0,ah,ak,aj⟩ (h:=tkH 2 ⟨B0,ah,ak,aj⟩ (h:=tkH 3 ⟨B0,ah,ak,aj⟩ (h:=tkH 4 ⟨B0,ah,ak,aj⟩ (h:=?_)))));simp only [List.set];refine oG 5 (fun K hK=> ?_);go_simp;go_wp2_with (go_at_call 37;(with_reducible refine (bj.out).mono ?_);rintro _ v1 ⟨rfl,ap⟩;have B1:=B0.fr ap zq;have a8:=ap.cell ah zq;have bf:=ap.cell ak zq;have bd:=ap.cell aj zq;have bn:=bm.trans ap zr);refine hK.out _ _ ⟨B1,a8,bf,bd⟩ (fun hZ=> ?_);clear hZ hK K;try simp only [Ad,List.set]
     refine tkH 6 ⟨B1,a8,bf,bd⟩ (h:=?_);simp only [List.set];refine oD ?_;go_simp;clear bj ah ak aj a8 bf bd B0 bm;have be:Fr Non wo v1:=ay.drew.trans ap zr;have q4:=(B1.cell 4).trans g4.out;clear ay ap B1
     cases a0
     case true=>
      have ab:Hid (a1=true):=by show _=_;rw [ar.out];rfl
      clear ar a3 a5 au;go_wp2;go_roundw
      case rel=>exact ⟨k+1,by go_num,by rw [a6.out,ab.out],by omega,be⟩
      case measure=>simp [intOf];omega
     case false=>
      rcases Int.lt_or_le P 0 with hP|hP
      ·
       have t:decide (P≥0)=false:=decide_eq_false (by omega);have t2:decide (0≤P)=false:=decide_eq_false (by omega);have ab:Hid (a1=false):=by show _=_;rw [ar.out,a3.out hP];rfl
       clear ar a3 a5 au;go_wp2;go_roundw
       case rel=>exact ⟨k+1,by go_num,by rw [a6.out,ab.out],by omega,be⟩
       case measure=>simp [intOf];omega
      ·
       obtain ⟨p,rfl⟩:∃p:Nat,P=(p:Int):=⟨P.toNat,by omega⟩;have t:decide ((p:Int)≥0)=true:=decide_eq_true (by omega);have t2:decide (0≤(p:Int))=true:=decide_eq_true (by omega);obtain ⟨m,A2,c2,b2,bb,hm,rfl,cm,ag⟩:=au.out p (by omega);obtain ⟨b3,bw,rfl,bk⟩:=ag i hlt;have ab:Hid (a1=m.ps i):=by show _=_;rw [ar.out,a5.out p m rfl hm];rfl
       have b1:=bn.cell cm zq;have b4:=bn.cell bk zq;have p3:(p:Int)<N:=p2;have p4:(p:Int).toNat=p:=by omega
       have p5:(0:Int)≤p:=by omega
       clear ar a3 a5 au hm cm bk p1 p2 ag;generalize m.ps i=mi at*;go_wp2
       all_goals
        go_roundw
        case rel=>exact ⟨k+1,by go_num,by rw [a6.out,ab.out],by omega,be⟩
        case measure=>simp [intOf];omega
    ·
     obtain rfl:k=n:=by omega
     have hR:Hid (Ar l (ids.take k) i=Ar l ids i):=by show _=_;rw [Al6 (by rw [hn.out];omega)]
     obtain ⟨m,b2,bb,hm,rfl,d0,d1,d2⟩:=hid.out i hlt;have ac:=Lib.hid (a2.out i m hm);have q2:=((bg.fr av zq).cell 2).trans g2.out;have e0:=aw.cell d0 zq;have e1:=aw.cell d1 zq;have e2:=aw.cell d2 zq;have O1:=ae.fr ay zr;rw [hR.out];clear hm a2 a4 a7 ad af aa au hid kp d0 d1 d2 ay;generalize Ar l ids i=ai at*;generalize m.id=z at*
     cases ai
     case true=>
      have ao:Hid (xs++[z]=Bs l (Ar l ids) (i+1)):=by show _=_;rw [ac.out,← aq.out];rfl
      have ba:=O1.alloc (.cells z.V 38);have bs:=av.alloc (.cells z.V 38);have br:=Blk.new wr 38 z.V;have b0:=av.size;clear ac aq hr bg;go_wp2_with (at_builtin;go_loud (refine Ay (base:=w0.heap.size) (.tmp 46) (.tmp 52) 28 rfl rfl rfl rfl Cz ba (Rd.blk (n:=1) (size:=3) br rfl) (by simp [Value.oneCell']) (by omega) (by omega) (by rw [Al2];omega) ?_);intro A2 bp w4 bc bv bq)
      have a9:Own w4 w0.heap.size 38 3 A2 (xs++[z]).length bp ((xs++[z]).flatMap Id.cells):=by
       rw [Ak7,Al7];exact bc
      have bu:Fr Non w0 w4:=bs.trans bv (fun j hj e=>by have h5:=(bi j e).1;omega);go_roundw
      case rel=>exact ⟨i+1,A2,bp,xs++[z],by go_num,by rw [Ak7];rfl,by omega,ao,a9,bu⟩
      case measure=>simp [intOf];omega
     case false=>
      have ao:Hid (xs=Bs l (Ar l ids) (i+1)):=by show _=_;rw [ac.out,← aq.out];simp
      clear ac aq hr bg;go_wp2;go_roundw
      case rel=>exact ⟨i+1,Ax,cx,xs,by go_num,rfl,by omega,ao,O1,av⟩
      case measure=>simp [intOf];omega
  ·
   obtain rfl:i=N:=by omega
   have ks:=Lib.hid (Gn wr.heap.size xs.length cx Ax xs wr rfl ae.rd (by omega))
   have az:Hid (∀e w',Ep xs xs.length wr e w'→Cw (Ao (Bs l (Ar l ids) i)) w e w'):=by
    rintro e w' ⟨A5,c5,h1,h2,h3⟩;have bl:(Ao xs).length=xs.length:=Gb xs;rw [← aq.out];exact ⟨A5,c5,by rw [bl];exact h1,by rw [bl];exact h2.lower bo.size,bo.trans h3 zr⟩
   generalize Cw (Ao (Bs l (Ar l ids) i)) w=POST at*;clear aq ae hr bg a2 a4 a7 ad af aa au hid kp;go_wp2_with (go_at_call 50;(with_reducible refine (ks.out).mono ?_);rintro _ w7 ⟨A5,c5,rfl,h5,h6⟩;have al:=Lib.hid (az.out _ _ ⟨A5,c5,rfl,h5,h6⟩);clear ks az h5 h6)
   first|exact al.out|(go_ret;exact al.out)
def Bz (l:List Pn) (above ids:List Id):Nat→List Id
 |0=>[]
 |k+1=>match ids[k]? with
  |some y=>if (plc l y).isSome&& !Bj above y&& !Bj (Bz l above ids k) y then Bz l above ids k++[y] else Bz l above ids k
  |none=>Bz l above ids k
def Cm (l:List Pn) (ids:List Id):List Id:=Ao (Bs l (Ar l ids) l.length)
def E7 (l:List Pn) (ids:List Id):List Id:=Ao (Bz l (Cm l ids) ids ids.length)
theorem Ad0 {l:List Pn} {above ids:List Id} {k:Nat} {y:Id} (h:ids[k]? =some y):
  Bz l above ids (k+1)=if (plc l y).isSome&& !Bj above y&& !Bj (Bz l above ids k) y then Bz l above ids k++[y] else Bz l above ids k:=by
 show (match ids[k]? with|some y=>if (plc l y).isSome&& !Bj above y&& !Bj (Bz l above ids k) y then Bz l above ids k++[y] else Bz l above ids k|none=>Bz l above ids k)=_;rw [h]
theorem Lr (l:List Pn) (above ids:List Id):∀k,(Bz l above ids k).length≤k
 |0=>Ak9 _
 |k+1=>by
  have ih:=Lr l above ids k;unfold Bz
  split
  ·
   split
   · rw [Ak7,Am2];omega
   · omega
  · omega
theorem plcI_pos {l:List Pn} {id:Id}:0≤Aq l id↔(plc l id).isSome=true:=by
 unfold Aq
 cases plc l id with
 |none=>simp
 |some p=>simp
theorem Rl (l:List Pn) (ids:List Id):(Cm l ids).length≤l.length:=by
 unfold Cm;rw [Gb];exact Ri _ _ _
theorem Ad1 (base:Nat) (r:RG) (B n c:Nat) (A:Option Addr) (ids:List Id) (w:World) (h:r.own w base) (hn:Hid (ids.length=n)) (hr:Rd w B 3 A n (ids.flatMap Id.cells)) (hnm:n≤100000):
  Calls Tryz.prog 46 #[.agg r.cells,.slice A n c] w (Cw (E7 r.l ids) w):=by
 have bg:=Blk.new w 32 r.cells;have f0:Fr Non w (w.alloc (.cells r.cells 32)):=(Fr.refl Non w).alloc _;have kp:=Lib.hid (fun (id:Id) (w':World) (hf:Fr Non w w')=>Hb base r id w' (h.non hf));have hl:=Az (P:=Tryz.prog) w.heap.size 32 Tryz.underlying32 rfl (cs:=r.cells) Dl;have bc:=Lib.hid (fun (w':World) (hf:Fr Non w w')=>Rk base r B n c A ids w' (h.non hf) hn (hr.fr hf zr) (by omega));have bw:(Cm r.l ids).length≤1000:=Al8 (Rl _ _) (Al8 h.few (by omega));have be:=Lib.hid (fun k y (hy:ids[k]? =some y)=>Ad0 (l:=r.l) (above:=Cm r.l ids) hy);have bi:=Lib.hid (Lr r.l (Cm r.l ids) ids);have a1:Hid (∀id,0≤Aq r.l id↔(plc r.l id).isSome=true):=fun id=>plcI_pos;have bl:Hid (E7 r.l ids=Ao (Bz r.l (Cm r.l ids) ids n)):=by show _=_;rw [← hn.out];rfl
 rw [bl.out];change Hid (∀(w':World),Fr Non w w'→Calls Tryz.prog 47 #[.agg r.cells,.slice A n c] w' (Cw (Cm r.l ids) w')) at bc;clear h bl;generalize Cm r.l ids=ab at*;generalize r.cells=CS at*;generalize r.l=l at*;go_enter Tryz.func46,Tryz.ntmps46;go_upto_region 1 with (fail)
 generalize w.alloc (.cells CS 32)=w0 at*;go_wp2_with (go_at_call 47;(with_reducible refine (bc.out _ f0).mono ?_);rintro _ w1 ⟨A1,c1,rfl,o1,f1⟩;have br:=f0.trans f1 zr;have b1:=bg.fr f1 zq;clear bc)
 go_loopw [6,7] (fun s v wr=>∃(k:Nat) (Ax:Option Addr) (cx:Nat) (xs:List Id),v=.int .i64 (k:Int)∧s=.slice Ax xs.length cx∧k≤n∧Hid (xs=Bz l ab ids k)∧Own wr w1.heap.size 38 3 Ax xs.length cx (xs.flatMap Id.cells)∧Fr Non w1 wr) (fun _ v _=>n-(intOf v).toNat)
 case atStart=>exact ⟨0,none,0,[],rfl,rfl,by omega,rfl,Own.nil _ _ _ _,Fr.refl _ _⟩
 case round=>
  obtain ⟨k,Ax,cx,xs,rfl,rfl,hk,ay,ao,hf⟩:=hrel;have ba:Fr Non w wr:=br.trans hf zr;have bk:=ao.row;have bv:xs.length≤k:=by rw [ay.out];exact bi.out k
  by_cases hlt:k<n
  ·
   obtain ⟨y,hy⟩:∃y,ids[k]? =some y:=⟨_,Ak6 (by rw [hn.out];exact hlt)⟩;obtain ⟨b,aq,rfl,a9,k0,k1,k2⟩:=Id.at (hr.fr ba zr) hy;have au:=Lib.hid (be.out k y hy);rw [← ay.out] at au;have i1:(0:Int)≤k:=by omega
   have i2:(k:Int)<n:=by omega
   have i3:(k:Int).toNat=k:=by omega
   have B0:=(b1.fr hf zq).drew;have a6:Fr Non w wr.drew:=ba.drew;have ai:wr.drew.cell? ⟨b,aq+k*3,none⟩=some (.int .i64 y.b):=k0;have ak:wr.drew.cell? ⟨b,aq+k*3+1,none⟩=some (.int .i64 y.s):=k1;have aj:wr.drew.cell? ⟨b,aq+k*3+2,none⟩=some (.int .u64 (y.u:Int)):=k2;have O0:Own wr.drew w1.heap.size 38 3 Ax xs.length cx (xs.flatMap Id.cells):=ao.drew;have H0:Fr Non w1 wr.drew:=hf.drew;have av:=Lib.hid (kp.out y wr.drew a6);have a2:Hid (∀w',Fr Non w1 w'→Calls Tryz.prog 49 #[.slice A1 ab.length c1,.agg y.V] w' (Ae (Bj ab y) w')):=fun w' hw=>Jw _ ab.length c1 A1 ab y w' rfl (o1.rd.fr hw zr) (by omega);have a3:Hid (∀w',Own w' w1.heap.size 38 3 Ax xs.length cx (xs.flatMap Id.cells)→Calls Tryz.prog 49 #[.slice Ax xs.length cx,.agg y.V] w' (Ae (Bj xs y) w')):=fun w' hw=>Jw _ xs.length cx Ax xs y w' rfl hw.rd (by omega);have bj:=a1.out y
   have a5:Hid (∀b,(plc l y).isSome=b→decide (Aq l y≥0)=b):=fun b e=>by
    subst e
    cases hq:(plc l y).isSome with
    |true=>exact decide_eq_true (bj.2 hq)
    |false=>exact decide_eq_false (fun e=>by rw [bj.1 e] at hq;cases hq)
   clear kp be bi k0 k1 k2 hy a1 bj;generalize Bj ab y=h1 at*;generalize Bj xs y=h2 at*;obtain ⟨ps,bf⟩:∃b,(plc l y).isSome=b:=⟨_,rfl⟩;have hP:=a5.out ps bf;rw [bf] at au;clear a5 bf;generalize Aq l y=P at*
   cases ps
   case false=>
    go_upto_region 6 with (fail)
    clear ao hf a9;refine wp_region_held_drew (S:=fun w'=>Blk w' w.heap.size 32 CS∧w'.cell? ⟨b,aq+k*3,none⟩=some (.int .i64 y.b)∧w'.cell? ⟨b,aq+k*3+1,none⟩=some (.int .i64 y.s)∧w'.cell? ⟨b,aq+k*3+2,none⟩=some (.int .u64 (y.u:Int))) (by kernel_rfl) ⟨B0,ai,ak,aj⟩ (fun hHeld=> ?_);clear hHeld;refine tkH 0 ⟨B0,ai,ak,aj⟩ (h:=tkH 1 ⟨B0,ai,ak,aj⟩ (h:=tkH 2 ⟨B0,ai,ak,aj⟩ (h:=tkH 3 ⟨B0,ai,ak,aj⟩ (h:=tkH 4 ⟨B0,ai,ak,aj⟩ (h:=?_)))));simp only [List.set];refine oG 5 (fun K hK=> ?_);go_simp;go_wp2_with (go_at_call 37;(with_reducible refine (av.out).mono ?_);rintro _ v1 ⟨rfl,ah⟩;have B1:=B0.fr ah zq;have aa:=ah.cell ai zq;have ad:=ah.cell ak zq;have ac:=ah.cell aj zq;have a4:=a6.trans ah zr;have O1:=O0.fr ah zr;have H1:=H0.trans ah zr);refine hK.out _ _ ⟨B1,aa,ad,ac⟩ (fun hZ=> ?_);clear hZ hK K;try simp only [Ad,List.set]
    refine tkH 6 ⟨B1,aa,ad,ac⟩ (h:=tkH 7 ⟨B1,aa,ad,ac⟩ (h:=skH 8 ⟨B1,aa,ad,ac⟩ (h:=skH 9 ⟨B1,aa,ad,ac⟩ (h:=skH 10 ⟨B1,aa,ad,ac⟩ (h:=skH 11 ⟨B1,aa,ad,ac⟩ (h:=skH 12 ⟨B1,aa,ad,ac⟩ (h:=skH 13 ⟨B1,aa,ad,ac⟩ (h:=skH 14 ⟨B1,aa,ad,ac⟩ (h:=tkH 15 ⟨B1,aa,ad,ac⟩ (h:=tkH 16 ⟨B1,aa,ad,ac⟩ (h:=skH 17 ⟨B1,aa,ad,ac⟩ (h:=?_))))))))))));simp only [List.set];refine skH 18 ⟨B1,aa,ad,ac⟩ (h:=skH 19 ⟨B1,aa,ad,ac⟩ (h:=skH 20 ⟨B1,aa,ad,ac⟩ (h:=skH 21 ⟨B1,aa,ad,ac⟩ (h:=skH 22 ⟨B1,aa,ad,ac⟩ (h:=skH 23 ⟨B1,aa,ad,ac⟩ (h:=tkH 24 ⟨B1,aa,ad,ac⟩ (h:=?_)))))));simp only [List.set];refine oD ?_;go_simp;have ap:Hid (xs=Bz l ab ids (k+1)):=by show _=_;rw [au.out];rfl
    have hz:=H1;have oz:=O1;clear au ay av a2 a3;go_wp2_with (fail);go_roundw
    case rel=>exact ⟨k+1,Ax,cx,xs,by go_num,rfl,by omega,ap,oz,hz⟩
    case measure=>simp [intOf];omega
   case true=>
    cases h1
    case true=>
     go_upto_region 6 with (fail)
     clear ao hf a9;refine wp_region_held_drew (S:=fun w'=>Blk w' w.heap.size 32 CS∧w'.cell? ⟨b,aq+k*3,none⟩=some (.int .i64 y.b)∧w'.cell? ⟨b,aq+k*3+1,none⟩=some (.int .i64 y.s)∧w'.cell? ⟨b,aq+k*3+2,none⟩=some (.int .u64 (y.u:Int))) (by kernel_rfl) ⟨B0,ai,ak,aj⟩ (fun hHeld=> ?_);clear hHeld;refine tkH 0 ⟨B0,ai,ak,aj⟩ (h:=tkH 1 ⟨B0,ai,ak,aj⟩ (h:=tkH 2 ⟨B0,ai,ak,aj⟩ (h:=tkH 3 ⟨B0,ai,ak,aj⟩ (h:=tkH 4 ⟨B0,ai,ak,aj⟩ (h:=?_)))));simp only [List.set];refine oG 5 (fun K hK=> ?_);go_simp;go_wp2_with (go_at_call 37;(with_reducible refine (av.out).mono ?_);rintro _ v1 ⟨rfl,ah⟩;have B1:=B0.fr ah zq;have aa:=ah.cell ai zq;have ad:=ah.cell ak zq;have ac:=ah.cell aj zq;have a4:=a6.trans ah zr;have O1:=O0.fr ah zr;have H1:=H0.trans ah zr);refine hK.out _ _ ⟨B1,aa,ad,ac⟩ (fun hZ=> ?_);clear hZ hK K;try simp only [Ad,List.set]
     refine tkH 6 ⟨B1,aa,ad,ac⟩ (h:=tkH 7 ⟨B1,aa,ad,ac⟩ (h:=tkH 8 ⟨B1,aa,ad,ac⟩ (h:=tkH 9 ⟨B1,aa,ad,ac⟩ (h:=tkH 10 ⟨B1,aa,ad,ac⟩ (h:=tkH 11 ⟨B1,aa,ad,ac⟩ (h:=tkH 12 ⟨B1,aa,ad,ac⟩ (h:=?_)))))));simp only [List.set];refine oG 13 (fun K hK=> ?_);go_simp;go_wp2_with (go_at_call 49;(with_reducible refine (a2.out _ H1).mono ?_);rintro _ v2 ⟨rfl,al⟩;have B2:=B1.fr al zq;have ae:=al.cell aa zq;have af:=al.cell ad zq;have ag:=al.cell ac zq;have a8:=a4.trans al zr;have O2:=O1.fr al zr;have H2:=H1.trans al zr);refine hK.out _ _ ⟨B2,ae,af,ag⟩ (fun hZ=> ?_);clear hZ hK K;try simp only [Ad,List.set]
     refine tkH 14 ⟨B2,ae,af,ag⟩ (h:=tkH 15 ⟨B2,ae,af,ag⟩ (h:=tkH 16 ⟨B2,ae,af,ag⟩ (h:=skH 17 ⟨B2,ae,af,ag⟩ (h:=skH 18 ⟨B2,ae,af,ag⟩ (h:=skH 19 ⟨B2,ae,af,ag⟩ (h:=skH 20 ⟨B2,ae,af,ag⟩ (h:=skH 21 ⟨B2,ae,af,ag⟩ (h:=skH 22 ⟨B2,ae,af,ag⟩ (h:=skH 23 ⟨B2,ae,af,ag⟩ (h:=tkH 24 ⟨B2,ae,af,ag⟩ (h:=?_)))))))))));simp only [List.set];refine oD ?_;go_simp;have ap:Hid (xs=Bz l ab ids (k+1)):=by show _=_;rw [au.out];rfl
     have hz:=H2;have oz:=O2;clear au ay av a2 a3;go_wp2_with (fail);go_roundw
     case rel=>exact ⟨k+1,Ax,cx,xs,by go_num,rfl,by omega,ap,oz,hz⟩
     case measure=>simp [intOf];omega
    case false=>
     cases h2
     case true=>
      go_upto_region 6 with (fail)
      clear ao hf a9;refine wp_region_held_drew (S:=fun w'=>Blk w' w.heap.size 32 CS∧w'.cell? ⟨b,aq+k*3,none⟩=some (.int .i64 y.b)∧w'.cell? ⟨b,aq+k*3+1,none⟩=some (.int .i64 y.s)∧w'.cell? ⟨b,aq+k*3+2,none⟩=some (.int .u64 (y.u:Int))) (by kernel_rfl) ⟨B0,ai,ak,aj⟩ (fun hHeld=> ?_);clear hHeld;refine tkH 0 ⟨B0,ai,ak,aj⟩ (h:=tkH 1 ⟨B0,ai,ak,aj⟩ (h:=tkH 2 ⟨B0,ai,ak,aj⟩ (h:=tkH 3 ⟨B0,ai,ak,aj⟩ (h:=tkH 4 ⟨B0,ai,ak,aj⟩ (h:=?_)))));simp only [List.set];refine oG 5 (fun K hK=> ?_);go_simp;go_wp2_with (go_at_call 37;(with_reducible refine (av.out).mono ?_);rintro _ v1 ⟨rfl,ah⟩;have B1:=B0.fr ah zq;have aa:=ah.cell ai zq;have ad:=ah.cell ak zq;have ac:=ah.cell aj zq;have a4:=a6.trans ah zr;have O1:=O0.fr ah zr;have H1:=H0.trans ah zr);refine hK.out _ _ ⟨B1,aa,ad,ac⟩ (fun hZ=> ?_);clear hZ hK K;try simp only [Ad,List.set]
      refine tkH 6 ⟨B1,aa,ad,ac⟩ (h:=tkH 7 ⟨B1,aa,ad,ac⟩ (h:=tkH 8 ⟨B1,aa,ad,ac⟩ (h:=tkH 9 ⟨B1,aa,ad,ac⟩ (h:=tkH 10 ⟨B1,aa,ad,ac⟩ (h:=tkH 11 ⟨B1,aa,ad,ac⟩ (h:=tkH 12 ⟨B1,aa,ad,ac⟩ (h:=?_)))))));simp only [List.set];refine oG 13 (fun K hK=> ?_);go_simp;go_wp2_with (go_at_call 49;(with_reducible refine (a2.out _ H1).mono ?_);rintro _ v2 ⟨rfl,al⟩;have B2:=B1.fr al zq;have ae:=al.cell aa zq;have af:=al.cell ad zq;have ag:=al.cell ac zq;have a8:=a4.trans al zr;have O2:=O1.fr al zr;have H2:=H1.trans al zr);refine hK.out _ _ ⟨B2,ae,af,ag⟩ (fun hZ=> ?_);clear hZ hK K;try simp only [Ad,List.set]
      refine tkH 14 ⟨B2,ae,af,ag⟩ (h:=tkH 15 ⟨B2,ae,af,ag⟩ (h:=tkH 16 ⟨B2,ae,af,ag⟩ (h:=tkH 17 ⟨B2,ae,af,ag⟩ (h:=tkH 18 ⟨B2,ae,af,ag⟩ (h:=tkH 19 ⟨B2,ae,af,ag⟩ (h:=tkH 20 ⟨B2,ae,af,ag⟩ (h:=tkH 21 ⟨B2,ae,af,ag⟩ (h:=?_))))))));simp only [List.set];refine oG 22 (fun K hK=> ?_);go_simp;go_wp2_with (go_at_call 49;(with_reducible refine (a3.out _ O2).mono ?_);rintro _ v3 ⟨rfl,ar⟩;have B3:=B2.fr ar zq;have aw:=ar.cell ae zq;have az:=ar.cell af zq;have ax:=ar.cell ag zq;have bt:=a8.trans ar zr;have O3:=O2.fr ar zr;have H3:=H2.trans ar zr);refine hK.out _ _ ⟨B3,aw,az,ax⟩ (fun hZ=> ?_);clear hZ hK K;try simp only [Ad,List.set]
      refine tkH 23 ⟨B3,aw,az,ax⟩ (h:=tkH 24 ⟨B3,aw,az,ax⟩ (h:=?_));simp only [List.set];refine oD ?_;go_simp;have ap:Hid (xs=Bz l ab ids (k+1)):=by show _=_;rw [au.out];rfl
      have hz:=H3;have oz:=O3;clear au ay av a2 a3;go_wp2_with (fail);go_roundw
      case rel=>exact ⟨k+1,Ax,cx,xs,by go_num,rfl,by omega,ap,oz,hz⟩
      case measure=>simp [intOf];omega
     case false=>
      go_upto_region 6 with (fail)
      clear ao hf a9;refine wp_region_held_drew (S:=fun w'=>Blk w' w.heap.size 32 CS∧w'.cell? ⟨b,aq+k*3,none⟩=some (.int .i64 y.b)∧w'.cell? ⟨b,aq+k*3+1,none⟩=some (.int .i64 y.s)∧w'.cell? ⟨b,aq+k*3+2,none⟩=some (.int .u64 (y.u:Int))) (by kernel_rfl) ⟨B0,ai,ak,aj⟩ (fun hHeld=> ?_);clear hHeld;refine tkH 0 ⟨B0,ai,ak,aj⟩ (h:=tkH 1 ⟨B0,ai,ak,aj⟩ (h:=tkH 2 ⟨B0,ai,ak,aj⟩ (h:=tkH 3 ⟨B0,ai,ak,aj⟩ (h:=tkH 4 ⟨B0,ai,ak,aj⟩ (h:=?_)))));simp only [List.set];refine oG 5 (fun K hK=> ?_);go_simp;go_wp2_with (go_at_call 37;(with_reducible refine (av.out).mono ?_);rintro _ v1 ⟨rfl,ah⟩;have B1:=B0.fr ah zq;have aa:=ah.cell ai zq;have ad:=ah.cell ak zq;have ac:=ah.cell aj zq;have a4:=a6.trans ah zr;have O1:=O0.fr ah zr;have H1:=H0.trans ah zr);refine hK.out _ _ ⟨B1,aa,ad,ac⟩ (fun hZ=> ?_);clear hZ hK K;try simp only [Ad,List.set]
      refine tkH 6 ⟨B1,aa,ad,ac⟩ (h:=tkH 7 ⟨B1,aa,ad,ac⟩ (h:=tkH 8 ⟨B1,aa,ad,ac⟩ (h:=tkH 9 ⟨B1,aa,ad,ac⟩ (h:=tkH 10 ⟨B1,aa,ad,ac⟩ (h:=tkH 11 ⟨B1,aa,ad,ac⟩ (h:=tkH 12 ⟨B1,aa,ad,ac⟩ (h:=?_)))))));simp only [List.set];refine oG 13 (fun K hK=> ?_);go_simp;go_wp2_with (go_at_call 49;(with_reducible refine (a2.out _ H1).mono ?_);rintro _ v2 ⟨rfl,al⟩;have B2:=B1.fr al zq;have ae:=al.cell aa zq;have af:=al.cell ad zq;have ag:=al.cell ac zq;have a8:=a4.trans al zr;have O2:=O1.fr al zr;have H2:=H1.trans al zr);refine hK.out _ _ ⟨B2,ae,af,ag⟩ (fun hZ=> ?_);clear hZ hK K;try simp only [Ad,List.set]
      refine tkH 14 ⟨B2,ae,af,ag⟩ (h:=tkH 15 ⟨B2,ae,af,ag⟩ (h:=tkH 16 ⟨B2,ae,af,ag⟩ (h:=tkH 17 ⟨B2,ae,af,ag⟩ (h:=tkH 18 ⟨B2,ae,af,ag⟩ (h:=tkH 19 ⟨B2,ae,af,ag⟩ (h:=tkH 20 ⟨B2,ae,af,ag⟩ (h:=tkH 21 ⟨B2,ae,af,ag⟩ (h:=?_))))))));simp only [List.set];refine oG 22 (fun K hK=> ?_);go_simp;go_wp2_with (go_at_call 49;(with_reducible refine (a3.out _ O2).mono ?_);rintro _ v3 ⟨rfl,ar⟩;have B3:=B2.fr ar zq;have aw:=ar.cell ae zq;have az:=ar.cell af zq;have ax:=ar.cell ag zq;have bt:=a8.trans ar zr;have O3:=O2.fr ar zr;have H3:=H2.trans ar zr);refine hK.out _ _ ⟨B3,aw,az,ax⟩ (fun hZ=> ?_);clear hZ hK K;try simp only [Ad,List.set]
      refine tkH 23 ⟨B3,aw,az,ax⟩ (h:=tkH 24 ⟨B3,aw,az,ax⟩ (h:=?_));simp only [List.set];refine oD ?_;go_simp;have ap:Hid (xs++[y]=Bz l ab ids (k+1)):=by show _=_;rw [au.out];rfl
      have hz:=H3;have oz:=O3;have e0:=aw;have e1:=az;have e2:=ax;clear au ay av a2 a3;have bd:=oz.alloc (.cells y.V 38);have bq:=hz.alloc (.cells y.V 38);have bp:=Blk.new v3 38 y.V;have bx:=hz.size;go_wp2_with (at_builtin;go_loud (refine Ay (base:=w1.heap.size) (.tmp 42) (.tmp 47) 28 rfl rfl rfl rfl Cz bd (Rd.blk (n:=1) (size:=3) bp rfl) (by simp [Value.oneCell']) (by omega) (by omega) (by rw [Al2];omega) ?_);intro A2 bn w4 bh bu bo)
      have bb:Own w4 w1.heap.size 38 3 A2 (xs++[y]).length bn ((xs++[y]).flatMap Id.cells):=by
       rw [Ak7,Al7];exact bh
      have bs:Fr Non w1 w4:=bq.trans bu (fun j hj e=>by have h5:=(bk j e).1;omega);go_roundw
      case rel=>exact ⟨k+1,A2,bn,xs++[y],by go_num,by rw [Ak7];rfl,by omega,ap,bb,bs⟩
      case measure=>simp [intOf];omega
  ·
   obtain rfl:k=n:=by omega
   have ks:=Lib.hid (Gn wr.heap.size xs.length cx Ax xs wr rfl ao.rd (by omega))
   have a7:Hid (∀e w',Ep xs xs.length wr e w'→Cw (Ao (Bz l ab ids k)) w e w'):=by
    rintro e w' ⟨A5,c5,h1,h2,h3⟩;have bm:(Ao xs).length=xs.length:=Gb xs;rw [← ay.out];exact ⟨A5,c5,by rw [bm];exact h1,by rw [bm];exact h2.lower ba.size,ba.trans h3 zr⟩
   generalize Cw (Ao (Bz l ab ids k)) w=POST at*;clear ay ao hr bg be bi a1 kp;go_wp2_with (go_at_call 50;(with_reducible refine (ks.out).mono ?_);rintro _ w7 ⟨A5,c5,rfl,h5,h6⟩;have a0:=Lib.hid (a7.out _ _ ⟨A5,c5,rfl,h5,h6⟩);clear ks a7 h5 h6)
   first|exact a0.out|(go_ret;exact a0.out)
def Bl (l:List Pn) (above ids:List Id):Nat→List Id
 |0=>above
 |k+1=>match ids[k]? with
  |some y=>if (plc l y).isSome&& !Bj (Bl l above ids k) y then Bl l above ids k++[y] else Bl l above ids k
  |none=>Bl l above ids k
def Fj (l:List Pn) (ids:List Id):List Id:=Ao (Bl l (Cm l ids) ids ids.length)
theorem Rm {l:List Pn} {above ids:List Id} {k:Nat} {y:Id} (h:ids[k]? =some y):
  Bl l above ids (k+1)=if (plc l y).isSome&& !Bj (Bl l above ids k) y then Bl l above ids k++[y] else Bl l above ids k:=by
 show (match ids[k]? with|some y=>if (plc l y).isSome&& !Bj (Bl l above ids k) y then Bl l above ids k++[y] else Bl l above ids k|none=>Bl l above ids k)=_;rw [h]
theorem Rn (l:List Pn) (above ids:List Id):∀k,(Bl l above ids k).length≤above.length+k
 |0=>Ak9 _
 |k+1=>by
  have ih:=Rn l above ids k;unfold Bl
  split
  ·
   split
   · rw [Ak7,Am2];omega
   · omega
  · omega
theorem Ad2 (base:Nat) (r:RG) (B n c:Nat) (A:Option Addr) (ids:List Id) (w:World) (h:r.own w base) (hn:Hid (ids.length=n)) (hr:Rd w B 3 A n (ids.flatMap Id.cells)) (hnm:n≤100000):
  Calls Tryz.prog 90 #[.agg r.cells,.slice A n c] w (Cw (Fj r.l ids) w):=by
 have bg:=Blk.new w 32 r.cells;have f0:Fr Non w (w.alloc (.cells r.cells 32)):=(Fr.refl Non w).alloc _;have kp:=Lib.hid (fun (id:Id) (w':World) (hf:Fr Non w w')=>Hb base r id w' (h.non hf));have hl:=Az (P:=Tryz.prog) w.heap.size 32 Tryz.underlying32 rfl (cs:=r.cells) Dl;have a6:=Lib.hid (fun (w':World) (hf:Fr Non w w')=>Rk base r B n c A ids w' (h.non hf) hn (hr.fr hf zr) (by omega));have bq:(Cm r.l ids).length≤1000:=Al8 (Rl _ _) (Al8 h.few (by omega));have a8:=Lib.hid (fun k y (hy:ids[k]? =some y)=>Rm (l:=r.l) (above:=Cm r.l ids) hy);have bb:=Lib.hid (Rn r.l (Cm r.l ids) ids);have av:Hid (∀id,0≤Aq r.l id↔(plc r.l id).isSome=true):=fun id=>plcI_pos;have be:Hid (Fj r.l ids=Ao (Bl r.l (Cm r.l ids) ids n)):=by show _=_;rw [← hn.out];rfl
 have bf:Hid (Cm r.l ids=Bl r.l (Cm r.l ids) ids 0):=rfl;rw [be.out];change Hid (∀(w':World),Fr Non w w'→Calls Tryz.prog 47 #[.agg r.cells,.slice A n c] w' (Cw (Cm r.l ids) w')) at a6;clear h be;generalize Cm r.l ids=ab at*;generalize r.cells=CS at*;generalize r.l=l at*;go_enter Tryz.func90,Tryz.ntmps90;go_upto_region 1 with (fail)
 have bu:=f0.size;generalize w.alloc (.cells CS 32)=w0 at*;go_wp2_with (go_at_call 47;(with_reducible refine (a6.out _ f0).mono ?_);rintro _ w1 ⟨A1,c1,rfl,o1,f1⟩;have br:=f0.trans f1 zr;have b1:=bg.fr f1 zq;clear a6);have bt:=f1.size
 go_loopw [5,6] (fun s v wr=>∃(k:Nat) (Ax:Option Addr) (cx:Nat) (xs:List Id),v=.int .i64 (k:Int)∧s=.slice Ax xs.length cx∧k≤n∧Hid (xs=Bl l ab ids k)∧Own wr w0.heap.size 38 3 Ax xs.length cx (xs.flatMap Id.cells)∧Fr Non w0 wr) (fun _ v _=>n-(intOf v).toNat)
 case atStart=>exact ⟨0,A1,c1,ab,rfl,rfl,by omega,bf,o1,f1⟩
 case round=>
  obtain ⟨k,Ax,cx,xs,rfl,rfl,hk,aw,ai,hf⟩:=hrel;have a3:Fr Non w wr:=f0.trans hf zr;have bd:=ai.row;have bp:xs.length≤ab.length+k:=by rw [aw.out];exact bb.out k
  by_cases hlt:k<n
  ·
   obtain ⟨y,hy⟩:∃y,ids[k]? =some y:=⟨_,Ak6 (by rw [hn.out];exact hlt)⟩;obtain ⟨b,ak,rfl,a5,k0,k1,k2⟩:=Id.at (hr.fr a3 zr) hy;have aq:=Lib.hid (a8.out k y hy);rw [← aw.out] at aq;have i1:(0:Int)≤k:=by omega
   have i2:(k:Int)<n:=by omega
   have i3:(k:Int).toNat=k:=by omega
   have B0:=(bg.fr hf zq).drew;have a1:Fr Non w wr.drew:=a3.drew;have af:wr.drew.cell? ⟨b,ak+k*3,none⟩=some (.int .i64 y.b):=k0;have ah:wr.drew.cell? ⟨b,ak+k*3+1,none⟩=some (.int .i64 y.s):=k1;have ag:wr.drew.cell? ⟨b,ak+k*3+2,none⟩=some (.int .u64 (y.u:Int)):=k2;have O0:Own wr.drew w0.heap.size 38 3 Ax xs.length cx (xs.flatMap Id.cells):=ai.drew;have H0:Fr Non w0 wr.drew:=hf.drew;have ax:=Lib.hid (kp.out y wr.drew a1);have az:Hid (∀w',Own w' w0.heap.size 38 3 Ax xs.length cx (xs.flatMap Id.cells)→Calls Tryz.prog 49 #[.slice Ax xs.length cx,.agg y.V] w' (Ae (Bj xs y) w')):=fun w' hw=>Jw _ xs.length cx Ax xs y w' rfl hw.rd (by omega);have bc:=av.out y
   have ay:Hid (∀b,(plc l y).isSome=b→decide (Aq l y≥0)=b):=fun b e=>by
    subst e
    cases hq:(plc l y).isSome with
    |true=>exact decide_eq_true (bc.2 hq)
    |false=>exact decide_eq_false (fun e=>by rw [bc.1 e] at hq;cases hq)
   clear kp a8 bb k0 k1 k2 hy av bc bf;generalize Bj xs y=h2 at*;obtain ⟨ps,a9⟩:∃b,(plc l y).isSome=b:=⟨_,rfl⟩;have hP:=ay.out ps a9;rw [a9] at aq;clear ay a9;generalize Aq l y=P at*
   cases ps
   case false=>
    go_upto_region 5 with (fail)
    clear ai hf a5;refine wp_region_held_drew (S:=fun w'=>Blk w' w.heap.size 32 CS∧w'.cell? ⟨b,ak+k*3,none⟩=some (.int .i64 y.b)∧w'.cell? ⟨b,ak+k*3+1,none⟩=some (.int .i64 y.s)∧w'.cell? ⟨b,ak+k*3+2,none⟩=some (.int .u64 (y.u:Int))) (by kernel_rfl) ⟨B0,af,ah,ag⟩ (fun hHeld=> ?_);clear hHeld;refine tkH 0 ⟨B0,af,ah,ag⟩ (h:=tkH 1 ⟨B0,af,ah,ag⟩ (h:=tkH 2 ⟨B0,af,ah,ag⟩ (h:=tkH 3 ⟨B0,af,ah,ag⟩ (h:=tkH 4 ⟨B0,af,ah,ag⟩ (h:=?_)))));simp only [List.set];refine oG 5 (fun K hK=> ?_);go_simp;go_wp2_with (go_at_call 37;(with_reducible refine (ax.out).mono ?_);rintro _ v1 ⟨rfl,ae⟩;have B1:=B0.fr ae zq;have aa:=ae.cell af zq;have ad:=ae.cell ah zq;have ac:=ae.cell ag zq;have a2:=a1.trans ae zr;have O1:=O0.fr ae zr;have H1:=H0.trans ae zr);refine hK.out _ _ ⟨B1,aa,ad,ac⟩ (fun hZ=> ?_);clear hZ hK K;try simp only [Ad,List.set]
    refine tkH 6 ⟨B1,aa,ad,ac⟩ (h:=tkH 7 ⟨B1,aa,ad,ac⟩ (h:=skH 8 ⟨B1,aa,ad,ac⟩ (h:=skH 9 ⟨B1,aa,ad,ac⟩ (h:=skH 10 ⟨B1,aa,ad,ac⟩ (h:=skH 11 ⟨B1,aa,ad,ac⟩ (h:=skH 12 ⟨B1,aa,ad,ac⟩ (h:=skH 13 ⟨B1,aa,ad,ac⟩ (h:=skH 14 ⟨B1,aa,ad,ac⟩ (h:=tkH 15 ⟨B1,aa,ad,ac⟩ (h:=?_))))))))));simp only [List.set];refine oD ?_;go_simp;have al:Hid (xs=Bl l ab ids (k+1)):=by show _=_;rw [aq.out];rfl
    have hz:=H1;have oz:=O1;clear aq aw ax az;go_wp2_with (fail);go_roundw
    case rel=>exact ⟨k+1,Ax,cx,xs,by go_num,rfl,by omega,al,oz,hz⟩
    case measure=>simp [intOf];omega
   case true=>
    cases h2
    case true=>
     go_upto_region 5 with (fail)
     clear ai hf a5;refine wp_region_held_drew (S:=fun w'=>Blk w' w.heap.size 32 CS∧w'.cell? ⟨b,ak+k*3,none⟩=some (.int .i64 y.b)∧w'.cell? ⟨b,ak+k*3+1,none⟩=some (.int .i64 y.s)∧w'.cell? ⟨b,ak+k*3+2,none⟩=some (.int .u64 (y.u:Int))) (by kernel_rfl) ⟨B0,af,ah,ag⟩ (fun hHeld=> ?_);clear hHeld;refine tkH 0 ⟨B0,af,ah,ag⟩ (h:=tkH 1 ⟨B0,af,ah,ag⟩ (h:=tkH 2 ⟨B0,af,ah,ag⟩ (h:=tkH 3 ⟨B0,af,ah,ag⟩ (h:=tkH 4 ⟨B0,af,ah,ag⟩ (h:=?_)))));simp only [List.set];refine oG 5 (fun K hK=> ?_);go_simp;go_wp2_with (go_at_call 37;(with_reducible refine (ax.out).mono ?_);rintro _ v1 ⟨rfl,ae⟩;have B1:=B0.fr ae zq;have aa:=ae.cell af zq;have ad:=ae.cell ah zq;have ac:=ae.cell ag zq;have a2:=a1.trans ae zr;have O1:=O0.fr ae zr;have H1:=H0.trans ae zr);refine hK.out _ _ ⟨B1,aa,ad,ac⟩ (fun hZ=> ?_);clear hZ hK K;try simp only [Ad,List.set]
     refine tkH 6 ⟨B1,aa,ad,ac⟩ (h:=tkH 7 ⟨B1,aa,ad,ac⟩ (h:=tkH 8 ⟨B1,aa,ad,ac⟩ (h:=tkH 9 ⟨B1,aa,ad,ac⟩ (h:=tkH 10 ⟨B1,aa,ad,ac⟩ (h:=tkH 11 ⟨B1,aa,ad,ac⟩ (h:=tkH 12 ⟨B1,aa,ad,ac⟩ (h:=?_)))))));simp only [List.set];refine oG 13 (fun K hK=> ?_);go_simp;go_wp2_with (go_at_call 49;(with_reducible refine (az.out _ O1).mono ?_);rintro _ v2 ⟨rfl,aj⟩;have B2:=B1.fr aj zq;have ao:=aj.cell aa zq;have ap:=aj.cell ad zq;have ar:=aj.cell ac zq;have bk:=a2.trans aj zr;have O2:=O1.fr aj zr;have H2:=H1.trans aj zr);refine hK.out _ _ ⟨B2,ao,ap,ar⟩ (fun hZ=> ?_);clear hZ hK K;try simp only [Ad,List.set]
     refine tkH 14 ⟨B2,ao,ap,ar⟩ (h:=tkH 15 ⟨B2,ao,ap,ar⟩ (h:=?_));simp only [List.set];refine oD ?_;go_simp;have al:Hid (xs=Bl l ab ids (k+1)):=by show _=_;rw [aq.out];rfl
     have hz:=H2;have oz:=O2;clear aq aw ax az;go_wp2_with (fail);go_roundw
     case rel=>exact ⟨k+1,Ax,cx,xs,by go_num,rfl,by omega,al,oz,hz⟩
     case measure=>simp [intOf];omega
    case false=>
     go_upto_region 5 with (fail)
     clear ai hf a5;refine wp_region_held_drew (S:=fun w'=>Blk w' w.heap.size 32 CS∧w'.cell? ⟨b,ak+k*3,none⟩=some (.int .i64 y.b)∧w'.cell? ⟨b,ak+k*3+1,none⟩=some (.int .i64 y.s)∧w'.cell? ⟨b,ak+k*3+2,none⟩=some (.int .u64 (y.u:Int))) (by kernel_rfl) ⟨B0,af,ah,ag⟩ (fun hHeld=> ?_);clear hHeld;refine tkH 0 ⟨B0,af,ah,ag⟩ (h:=tkH 1 ⟨B0,af,ah,ag⟩ (h:=tkH 2 ⟨B0,af,ah,ag⟩ (h:=tkH 3 ⟨B0,af,ah,ag⟩ (h:=tkH 4 ⟨B0,af,ah,ag⟩ (h:=?_)))));simp only [List.set];refine oG 5 (fun K hK=> ?_);go_simp;go_wp2_with (go_at_call 37;(with_reducible refine (ax.out).mono ?_);rintro _ v1 ⟨rfl,ae⟩;have B1:=B0.fr ae zq;have aa:=ae.cell af zq;have ad:=ae.cell ah zq;have ac:=ae.cell ag zq;have a2:=a1.trans ae zr;have O1:=O0.fr ae zr;have H1:=H0.trans ae zr);refine hK.out _ _ ⟨B1,aa,ad,ac⟩ (fun hZ=> ?_);clear hZ hK K;try simp only [Ad,List.set]
     refine tkH 6 ⟨B1,aa,ad,ac⟩ (h:=tkH 7 ⟨B1,aa,ad,ac⟩ (h:=tkH 8 ⟨B1,aa,ad,ac⟩ (h:=tkH 9 ⟨B1,aa,ad,ac⟩ (h:=tkH 10 ⟨B1,aa,ad,ac⟩ (h:=tkH 11 ⟨B1,aa,ad,ac⟩ (h:=tkH 12 ⟨B1,aa,ad,ac⟩ (h:=?_)))))));simp only [List.set];refine oG 13 (fun K hK=> ?_);go_simp;go_wp2_with (go_at_call 49;(with_reducible refine (az.out _ O1).mono ?_);rintro _ v2 ⟨rfl,aj⟩;have B2:=B1.fr aj zq;have ao:=aj.cell aa zq;have ap:=aj.cell ad zq;have ar:=aj.cell ac zq;have bk:=a2.trans aj zr;have O2:=O1.fr aj zr;have H2:=H1.trans aj zr);refine hK.out _ _ ⟨B2,ao,ap,ar⟩ (fun hZ=> ?_);clear hZ hK K;try simp only [Ad,List.set]
     refine tkH 14 ⟨B2,ao,ap,ar⟩ (h:=tkH 15 ⟨B2,ao,ap,ar⟩ (h:=?_));simp only [List.set];refine oD ?_;go_simp;have al:Hid (xs++[y]=Bl l ab ids (k+1)):=by show _=_;rw [aq.out];rfl
     have hz:=H2;have oz:=O2;have e0:=ao;have e1:=ap;have e2:=ar;clear aq aw ax az;have a7:=oz.alloc (.cells y.V 38);have bm:=hz.alloc (.cells y.V 38);have bl:=Blk.new v2 38 y.V;have bs:=hz.size;go_wp2_with (at_builtin;go_loud (refine Ay (base:=w0.heap.size) (.tmp 32) (.tmp 37) 28 rfl rfl rfl rfl Cz a7 (Rd.blk (n:=1) (size:=3) bl rfl) (by simp [Value.oneCell']) (by omega) (by omega) (by rw [Al2];omega) ?_);intro A2 bi w4 ba bo bj)
     have a4:Own w4 w0.heap.size 38 3 A2 (xs++[y]).length bi ((xs++[y]).flatMap Id.cells):=by
      rw [Ak7,Al7];exact ba
     have bn:Fr Non w0 w4:=bm.trans bo (fun j hj e=>by have h5:=(bd j e).1;omega);go_roundw
     case rel=>exact ⟨k+1,A2,bi,xs++[y],by go_num,by rw [Ak7];rfl,by omega,al,a4,bn⟩
     case measure=>simp [intOf];omega
  ·
   obtain rfl:k=n:=by omega
   have ks:=Lib.hid (Gn wr.heap.size xs.length cx Ax xs wr rfl ai.rd (by omega))
   have a0:Hid (∀e w',Ep xs xs.length wr e w'→Cw (Ao (Bl l ab ids k)) w e w'):=by
    rintro e w' ⟨A5,c5,h1,h2,h3⟩;have bh:(Ao xs).length=xs.length:=Gb xs;rw [← aw.out];exact ⟨A5,c5,by rw [bh];exact h1,by rw [bh];exact h2.lower a3.size,a3.trans h3 zr⟩
   generalize Cw (Ao (Bl l ab ids k)) w=POST at*;clear aw ai hr bg a8 bb av kp;go_wp2_with (go_at_call 50;(with_reducible refine (ks.out).mono ?_);rintro _ w7 ⟨A5,c5,rfl,h5,h6⟩;have au:=Lib.hid (a0.out _ _ ⟨A5,c5,rfl,h5,h6⟩);clear ks a0 h5 h6)
   first|exact au.out|(go_ret;exact au.out)
end Oq
end
section
open Go.RowKit
namespace Oq
theorem Ad3 (z:Array Value) (v:Value) (m:Nat) (h0:0<z.size) (h:∀i,i<z.size→z[i]! =v):(madeCells z m).toList=List.replicate m v:=by
 unfold madeCells;rw [Array.toList_map,List.eq_replicate_iff];refine ⟨by simp,fun u hu=> ?_⟩;obtain ⟨i,_,rfl⟩:=List.mem_map.1 hu;exact h _ (Nat.mod_lt _ h0)
theorem Ad4 {P:Program} {o:Oper} {a:Act} {K:Act→World→Prop} {Q:Exit→Act→World→Prop} {w:World} (l:Operand) (t:TypeId) (hop:o.op=Op.makeSlice t l l) {e:TypeId} {size bytes:Nat} {z:Value} (hT:SlT P t e z size bytes)
  {N:Int} {n:Nat} (hl:a.eval l=.int .i64 N) (hN:N=(n:Int)) (b2:bytes*n≤281474976710656) (b3:n≤9223372036854775807)
  (hK:∀w',Own w' w.heap.size e size (some ⟨w.heap.size,0,none⟩) n n (madeCells z.cells (n*size)).toList→Fr Non w w'→K (a.put o.dst (.slice (some ⟨w.heap.size,0,none⟩) n n)) w'):Oper.wp P o a w K Q:=by
 obtain ⟨ht,hinfo,_,_⟩:=hT;obtain ⟨i,hi,hz,hsize,hby⟩:=info_parts hinfo;subst hN;obtain ⟨w',hrun,r1,r2⟩:=run_make_full (P:=P) (w:=w) w.heap.size t e i z size ht hi hz hsize .i64 .i64 n (by rw [hby];exact b2) (by unfold maxLen;exact b3) (Ak9 _);have hf:Fr Non w w':=⟨r2.os,r2.tape,r2.output,r2.size,fun j hj _=>r2.block j hj (fun e=>by cases e)⟩;have hk':=hK w' r1 hf;unfold Oper.wp execOp;simp only [hop,hl,hrun,Sem.run_bind,Result.andThen_ok,Sem.run_pure];exact hk'
theorem Ad5 {P:Program} {ops:Array Oper} {rest:List Oper} {o:Oper} {a:Act} {Q:Exit→Act→World→Prop} {w:World} (hg:o.guard=none) (l:Operand) (t:TypeId) (hop:o.op=Op.makeSlice t l l) {e:TypeId} {size bytes:Nat} {z:Value} (hT:SlT P t e z size bytes)
  {N:Int} {n:Nat} (hl:a.eval l=.int .i64 N) (hN:N=(n:Int)) (b2:bytes*n≤281474976710656) (b3:n≤9223372036854775807)
  (hK:∀w',Own w' w.heap.size e size (some ⟨w.heap.size,0,none⟩) n n (madeCells z.cells (n*size)).toList→Fr Non w w'→wpList P ops Q rest (a.put o.dst (.slice (some ⟨w.heap.size,0,none⟩) n n)) w'):wpList P ops Q (o::rest) a w:=
 wpList_plain hg fun _ hK'=>Ad4 l t hop hT hl hN b2 b3 (fun w' h1 h2=>hK' _ _ (hK w' h1 h2))
end Oq
end
section
open Go.RowKit
attribute [local go_sem ↓] Go.wp_at_zero Go.wp_at_succ
namespace Oq
attribute [local go_sem] Al3 Al4
attribute [local go_sem ↓] E6
theorem Ec {P:Program} {o:Oper} {a:Act} {K:Act→World→Prop} {Q:Exit→Act→World→Prop} {w:World} (s x:Operand) (t:TypeId)
  (ho:o.op=.call {callee:=.builtin .append,args:=#[s,x],argTypes:=#[t,t]})
  {base size n c:Nat} {e:TypeId} {A:Option Addr} {xs:List Value} {z:Value} {bytes m cx B:Nat} {Ax:Option Addr} {news:List Value}
  (hs:a.eval s=.slice A n c) (hx:a.eval x=.slice Ax m cx)
  (hT:SlT P t e z size bytes) (h:Own w base e size A n c xs) (hr:Rd w B size Ax m news)
  (h1:∀u∈news,u.oneCell'=true) (hbytes:(n+m)*bytes≤140737488355328) (hmax:n+m≤9223372036854775807) (hbase:base≤w.heap.size)
  (hk:∀A' c' w',Own w' base e size A' (n+m) c' (xs++news)→Fr (fun k=>Ab A=some k) w w'→(Ab A'=Ab A∨Ab A'=some w.heap.size)→
   K (a.put o.dst (.slice A' (n+m) c')) w'):Oper.wp P o a w K Q:=by
 obtain ⟨A',c',w',hrun,h2,h3,h4⟩:=Gk (P:=P) (ty:=o.type) (cx:=cx) hT h hr h1 hbytes hmax hbase;unfold Oper.wp execOp;simp only [ho,resolve,invoke,builtin,Sem.run_bind,Sem.run_pure,Result.andThen_ok,List.map_toArray,List.map_cons,List.map_nil,hs,hx,hrun];exact hk A' c' w' h2 h3 h4
def Ed (l:List Pn) (cs:List Id):Prop:=cs.Nodup∧∀id∈cs,(plc l id).isSome=true
theorem Rows.idsNodup {cards:List Cd} {l:List Pn} (h:Rows cards l):(l.map Pn.id).Nodup:=by
 refine List.pairwise_iff_getElem.2 (fun i j hi hj hij e=> ?_);rw [List.length_map] at hi hj;rw [Am3,Am3] at e;have h1:=(h.ok i _ (Ak6 hi)).plc;have h2:=(h.ok j _ (Ak6 hj)).plc;rw [e,h2] at h1;injection h1 with h1
 omega
theorem Rows.placed {cards:List Cd} {l:List Pn} (h:Rows cards l) {id:Id} (hid:id∈l.map Pn.id):(plc l id).isSome=true:=by
 obtain ⟨n,hn,rfl⟩:=List.mem_map.1 hid;obtain ⟨i,hi⟩:=Al0 hn;rw [(h.ok i n hi).plc];rfl
theorem Ro {cards:List Cd} {l:List Pn} (h:Rows cards l):Ed l (Ao (l.map Pn.id)):=
 ⟨(Dp _).nodup_iff.2 h.idsNodup,fun _ hid=>h.placed ((Dp _).subset hid)⟩
theorem Ls (l:List Pn) (p:Nat→Bool):∀k,∀id∈Bs l p k,∃i m,i<k∧p i=true∧l[i]? =some m∧m.id=id:=by
 intro k id hid;unfold Bs at hid;obtain ⟨i,hi,h⟩:=List.mem_filterMap.1 hid;rw [List.mem_range] at hi
 cases hp:p i with
 |false=>rw [hp] at h;cases h
 |true=>
  rw [hp,if_pos rfl] at h
  cases hm:l[i]? with
  |none=>rw [hm] at h;cases h
  |some m=>rw [hm] at h;injection h with h;exact ⟨i,m,hi,hp,hm,h⟩
theorem Lt {cards:List Cd} {l:List Pn} (h:Rows cards l) (p:Nat→Bool):∀k,(Bs l p k).Nodup:=by
 intro k
 induction k with
 |zero=>exact Al9
 |succ k ih=>
  cases hm:l[k]? with
  |none=>
   have:Bs l p (k+1)=Bs l p k:=by
    unfold Bs;rw [List.range_succ,Am1];simp [hm]
   rw [this];exact ih
  |some m=>
   rw [Rh l p k hm]
   cases hp:p k with
   |false=>simpa using ih
   |true=>
    rw [if_pos rfl,List.nodup_append];refine ⟨ih,List.nodup_cons.2 ⟨Am4,Al9⟩,?_⟩;intro a ha b hb e;rw [Am0] at hb;obtain ⟨i,m',hi,_,hm',e'⟩:=Ls l p k a ha;have h1:=(h.ok i m' hm').plc;have h2:=(h.ok k m hm).plc;rw [e',e,hb,h2] at h1;injection h1 with h1
    omega
theorem Ad6 {cards:List Cd} {l:List Pn} (h:Rows cards l) (ids:List Id):Ed l (Cm l ids):=by
 refine ⟨(Dp _).nodup_iff.2 (Lt h _ _),fun id hid=> ?_⟩;obtain ⟨i,m,_,_,hm,rfl⟩:=Ls l _ _ id ((Dp _).subset hid);exact h.placed (List.mem_map_of_mem (Al1 hm))
theorem Ad7 {l:List Pn} {above ids:List Id} (h:Ed l above):∀k,Ed l (Bl l above ids k):=by
 intro k
 induction k with
 |zero=>exact h
 |succ k ih=>
  cases hy:ids[k]? with
  |none=>
   have:Bl l above ids (k+1)=Bl l above ids k:=by
    show (match ids[k]? with|some y=>if (plc l y).isSome&& !Bj (Bl l above ids k) y then Bl l above ids k++[y] else Bl l above ids k|none=>Bl l above ids k)=_;rw [hy]
   rw [this];exact ih
  |some y=>
   rw [Rm hy]
   split
   ·
    rename_i hc;rw [Bool.and_eq_true,Bool.not_eq_true'] at hc;refine ⟨List.nodup_append.2 ⟨ih.1,List.nodup_cons.2 ⟨Am4,Al9⟩,?_⟩,?_⟩
    ·
     intro a ha b hb e;rw [Am0] at hb;rw [e,hb] at ha;rw [(Jv _ _).2 ha] at hc;exact absurd hc.2 (by simp)
    ·
     intro id hid
     rcases List.mem_append.1 hid with h1|h1
     · exact ih.2 id h1
     ·
      rw [Am0] at h1;rw [h1];exact hc.1
   · exact ih
theorem Ad8 {cards:List Cd} {l:List Pn} (h:Rows cards l) (ids:List Id):Ed l (Fj l ids):=by
 have k:=Ad7 (Ad6 h ids) (ids:=ids) ids.length;exact ⟨(Dp _).nodup_iff.2 k.1,fun id hid=>k.2 id ((Dp _).subset hid)⟩
def I3 (l:List Pn) (w:World) (e:Ending) (w':World):Prop:=∃cs:List Id,Cw cs w e w'∧Ed l cs∧RowW cs
theorem Ad9 (l:List Id):(Ao l).length=l.length:=(Dp l).length_eq
theorem Ae0 (base:Nat) (r:RG) (B n c:Nat) (A:Option Addr) (l0:List Int) (w:World) (h:r.own w base) (hn:Hid (l0.length=n)) (hr:Rd w B 1 A n (l0.map Iv)) (hok:∀x∈l0,I64 x):
  Calls Tryz.prog 44 #[.agg r.cells,.slice A n c] w (I3 r.l w):=by
 have a5:=h.few;have bg:=Blk.new w 32 r.cells;have f0:Fr Non w (w.alloc (.cells r.cells 32)):=(Fr.refl Non w).alloc _;have g1:Hid (r.cells[1]? =some (.slice r.lA r.l.length r.lC)):=rfl;have g2:Hid (r.cells[2]? =some (.slice r.iA r.l.length r.iC)):=rfl;have hl:=Az (P:=Tryz.prog) w.heap.size 32 Tryz.underlying32 rfl (cs:=r.cells) Dl;have ka:=Lib.hid (fun (w':World) (hf:Fr Non w w')=>Re base r w' (h.non hf));have a1:Hid (Ed r.l (Ao r.ids)∧RowW (Ao r.ids)):=⟨Ro h.rows,Jy _⟩;have au:Hid ((Ao r.ids).length=r.l.length):=by show _=_;rw [Ad9,Rc]
 have kw:=Lib.hid (fun (A':Option Addr) (c':Nat) (ids:List Id) (w':World) (hf:Fr Non w w') (ho:Rd w' w'.heap.size 3 A' ids.length (ids.flatMap Id.cells)) (hle:ids.length≤1000)=>Ad2 base r w'.heap.size ids.length c' A' ids w' (h.non hf) rfl ho (by omega));have aq:Hid (∀ids,Ed r.l (Fj r.l ids)∧RowW (Fj r.l ids)):=fun ids=>⟨Ad8 h.rows ids,Jy _⟩;have hid:=Lib.hid (fun (p:Nat) (hp:p<r.l.length)=>h.idAt hp)
 have ab:Hid (∀(cs:List Id) w1 e w',Fr Non w w1→Cw cs w1 e w'→Ed r.l cs∧RowW cs→I3 r.l w e w'):=by
  rintro cs w1 e w' hf ⟨A5,c5,h1,h2,h3⟩ ⟨h4,h5⟩;exact ⟨cs,⟨A5,c5,h1,h2.lower hf.size,hf.trans h3 zr⟩,h4,h5⟩
 clear h;unfold Ep at ka;generalize Ao r.ids=SI at*;generalize r.lA=LA at*;generalize r.lC=LC at*;generalize r.iA=IA at*;generalize r.iC=IC at*;generalize r.cells=CS at*;generalize I3 r.l w=POST at*;generalize r.l=l at*;obtain ⟨N,hN⟩:=Aa l.length;rw [hN.out] at g1 g2 hid a5 au
 by_cases hz:n=0∨N=0
 ·
  have c1:=(bg.cell 1).trans g1.out
  have tt:((n:Int)==0)=true∨((n:Int)==0)=false∧((N:Int)==0)=true:=by
   rcases hz with e|e
   · exact .inl (by simp [e])
   ·
    by_cases e2:n=0
    · exact .inl (by simp [e2])
    · exact .inr ⟨by simp;omega,by simp [e]⟩
  rcases tt with t1|⟨t1,t2⟩
  all_goals
   clear kw aq hid hr hz;go_enter Tryz.func44,Tryz.ntmps44;go_upto_region 1 with (fail)
   generalize w.alloc (.cells CS 32)=w0 at*;go_wp2_with (go_at_call 22;(with_reducible refine (ka.out _ f0).mono ?_);rintro _ w1 ⟨A1,c1,rfl,o1,f1⟩;have hd:=Lib.hid (ab.out SI w0 (.returned (.slice A1 l.length c1)) w1 f0 ⟨A1,c1,by rw [au.out,hN.out],by rw [au.out,← hN.out];exact o1,f1⟩ a1.out);clear ka o1 f1 ab a1)
   first|exact hd.out|(go_ret;exact hd.out)
 ·
  have t1:((n:Int)==0)=false:=by simp;omega
  have t2:((N:Int)==0)=false:=by simp;omega
  have c1:=(bg.cell 1).trans g1.out;clear ka a1 au;go_enter Tryz.func44,Tryz.ntmps44;go_upto_region 1 with (fail)
  have bp:=f0.size;generalize w.alloc (.cells CS 32)=w0 at*;go_wp2_with (fail);clear c1
  go_loopw [5,6] (fun s v wr=>∃(k:Nat) (Ax:Option Addr) (cx:Nat) (xs:List Id),v=.int .i64 (k:Int)∧s=.slice Ax xs.length cx∧k≤4∧k≤n∧Hid (xs.length=k)∧Own wr w0.heap.size 38 3 Ax xs.length cx (xs.flatMap Id.cells)∧Fr Non w0 wr) (fun _ v _=>4-(intOf v).toNat)
  case atStart=>exact ⟨0,none,0,[],rfl,rfl,by omega,by omega,rfl,Own.nil _ _ _ _,Fr.refl _ _⟩
  case round=>
   obtain ⟨k,Ax,cx,xs,rfl,rfl,bj,bo,aw,af,hf⟩:=hrel;have aj:Fr Non w wr:=f0.trans hf zr;have ak:=af.row;have bn:xs.length≤4:=by rw [aw.out];exact bj
   by_cases hlt:k<n∧k<4
   ·
    have i0:decide ((k:Int)<(n:Int))=true:=decide_eq_true (by omega);have bm:decide ((k:Int)<4)=true:=decide_eq_true (by omega);obtain ⟨q,hq⟩:∃q,l0[k]? =some q:=⟨_,Ak6 (by rw [hn.out];exact hlt.1)⟩;obtain ⟨b,a4,u,rfl,bl,hu,c0⟩:=hr.at hlt.1;rw [Ak8,hq] at hu;injection hu with hu
    subst hu;replace c0:w.cell? ⟨b,a4+k,none⟩=some (.int .i64 q):=c0;have a0:=hok q (Al1 hq);obtain ⟨bk,bh⟩:=Mq (n:=q) (m:=(N:Int)) (by omega);obtain ⟨p,hp⟩:∃p:Nat,Df q (N:Int)=(p:Int):=⟨(Df q (N:Int)).toNat,by omega⟩;have a7:=Lib.hid (fun w'=>Mr q (N:Int) w' a0.1 a0.2 (by omega) (by omega));rw [hp] at a7 bh;obtain ⟨m,b2,aa,hm,rfl,d0,d1,d2⟩:=hid.out p (by omega);have i1:(0:Int)≤k:=by omega
    have i2:(k:Int)<n:=by omega
    have i3:(k:Int).toNat=k:=by omega
    have p1:(0:Int)≤p:=by omega
    have p2:(p:Int)<N:=by omega
    have p3:(p:Int).toNat=p:=by omega
    have L0:wr.drew.cell? ⟨b,a4+k,none⟩=some (.int .i64 q):=aj.cell c0 zq;have G0:wr.drew.cell? ⟨w.heap.size,2,none⟩=some (.slice (some ⟨b2,aa,none⟩) N IC):=((bg.fr hf zq).cell 2).trans g2.out;have ac:wr.drew.cell? ⟨b2,aa+p*3,none⟩=some (.int .i64 m.id.b):=aj.cell d0 zq;have ae:wr.drew.cell? ⟨b2,aa+p*3+1,none⟩=some (.int .i64 m.id.s):=aj.cell d1 zq;have ad:wr.drew.cell? ⟨b2,aa+p*3+2,none⟩=some (.int .u64 (m.id.u:Int)):=aj.cell d2 zq;have O0:Own wr.drew w0.heap.size 38 3 Ax xs.length cx (xs.flatMap Id.cells):=af.drew;have H0:Fr Non w0 wr.drew:=hf.drew;have gz:=Lib.hid ((bg.cell 2).trans g2.out);clear hid hm aq hq a0 bg;generalize m.id=z at*;go_upto_region 7 with (fail)
    clear hf af;refine wp_region_held_drew (S:=fun w'=>w'.cell? ⟨b,a4+k,none⟩=some (.int .i64 q)∧w'.cell? ⟨w.heap.size,2,none⟩=some (.slice (some ⟨b2,aa,none⟩) N IC)∧w'.cell? ⟨b2,aa+p*3,none⟩=some (.int .i64 z.b)∧w'.cell? ⟨b2,aa+p*3+1,none⟩=some (.int .i64 z.s)∧w'.cell? ⟨b2,aa+p*3+2,none⟩=some (.int .u64 (z.u:Int))) (by kernel_rfl) ⟨L0,G0,ac,ae,ad⟩ (fun hHeld=> ?_);clear hHeld;refine tkH 0 ⟨L0,G0,ac,ae,ad⟩ (h:=tkH 1 ⟨L0,G0,ac,ae,ad⟩ (h:=tkH 2 ⟨L0,G0,ac,ae,ad⟩ (h:=tkH 3 ⟨L0,G0,ac,ae,ad⟩ (h:=tkH 4 ⟨L0,G0,ac,ae,ad⟩ (h:=tkH 5 ⟨L0,G0,ac,ae,ad⟩ (h:=tkH 6 ⟨L0,G0,ac,ae,ad⟩ (h:=tkH 7 ⟨L0,G0,ac,ae,ad⟩ (h:=tkH 8 ⟨L0,G0,ac,ae,ad⟩ (h:=tkH 9 ⟨L0,G0,ac,ae,ad⟩ (h:=?_))))))))));simp only [List.set];refine oG 10 (fun K hK=> ?_);go_simp;go_wp2_with (go_at_call 25;(with_reducible refine (a7.out _).mono ?_);rintro _ v1 ⟨rfl,ew⟩;have ah:Fr Non wr.drew v1:=ew▸Fr.refl _ _;clear ew;have L1:=ah.cell L0 zq;have G1:=ah.cell G0 zq;have al:=ah.cell ac zq;have ar:=ah.cell ae zq;have ap:=ah.cell ad zq;have O1:=O0.fr ah zr;have H1:=H0.trans ah zr);refine hK.out _ _ ⟨L1,G1,al,ar,ap⟩ (fun hZ=> ?_);clear hZ hK K;try simp only [Ad,List.set]
    refine tkH 11 ⟨L1,G1,al,ar,ap⟩ (h:=tkH 12 ⟨L1,G1,al,ar,ap⟩ (h:=?_));simp only [List.set];refine oG 13 (fun K hK=> ?_);go_simp;have ai:Fr Non v1 (v1.alloc (.cells z.V 38)):=(Fr.refl _ _).alloc _;have bc:=Blk.new v1 38 z.V;have L2:=ai.cell L1 zq;have G2:=ai.cell G1 zq;have ba:=ai.cell al zq;have bd:=ai.cell ar zq;have bi:=ai.cell ap zq;have O2:=O1.fr ai zr;have H2:=H1.trans ai zr;refine hK.out _ _ ⟨L2,G2,ba,bd,bi⟩ (fun hZ=> ?_);clear hZ hK K;try simp only [Ad,List.set]
    generalize v1.alloc (.cells z.V 38)=v2 at*;have av:=H2.size;refine oG 14 (fun K hK=> ?_);refine Ec (base:=w0.heap.size) (.tmp 28) (.tmp 41) 28 rfl rfl rfl Cz O2 (Rd.blk (n:=1) (size:=3) bc rfl) (by simp [Value.oneCell']) (by omega) (by omega) av ?_;intro A2 a8 w4 a2 be a9;have bb:∀j,Ab Ax=some j→w0.heap.size≤j:=fun j e=>(ak j e).1;have fz:Fr Non w0 w4:=H2.trans be (fun j hj e=>by have h5:=bb j e;omega);have ao:Fr Non w w4:=f0.trans fz zr;have L3:=ao.cell c0 zq;have G3:=fz.cell gz.out zq;have ay:=ao.cell d0 zq;have a3:=ao.cell d1 zq;have az:=ao.cell d2 zq;refine hK.out _ _ ⟨L3,G3,ay,a3,az⟩ (fun hZ=> ?_);clear hZ hK K;try simp only [Ad,List.set]
    refine tkH 15 ⟨L3,G3,ay,a3,az⟩ (h:=?_);simp only [List.set];refine oD ?_;go_simp
    have ax:Own w4 w0.heap.size 38 3 A2 (xs++[z]).length a8 ((xs++[z]).flatMap Id.cells):=by
     rw [Ak7,Al7];exact a2
    have bf:Hid ((xs++[z]).length=k+1):=by show _=_;rw [Ak7,aw.out];rfl
    clear L3 G3 ay a3 az c0 d0 d1 d2 gz;go_wp2_with (fail);go_roundw
    case rel=>exact ⟨k+1,A2,a8,xs++[z],by go_num,by rw [Ak7];rfl,by omega,by omega,bf,ax,fz⟩
    case measure=>simp [intOf];omega
   ·
    have kk:=Lib.hid (kw.out Ax cx xs wr aj af.rd (by omega));have a6:=Lib.hid (aq.out xs);have hd:Hid (∀e w',Cw (Fj l xs) wr e w'→POST e w'):=fun e w' h=>ab.out _ wr e w' aj h a6.out
    have t3:(decide ((k:Int)<(n:Int))=true∧decide ((k:Int)<4)=false)∨decide ((k:Int)<(n:Int))=false:=by
     by_cases e:k<n
     · exact .inl ⟨decide_eq_true (by omega),decide_eq_false (by omega)⟩
     · exact .inr (decide_eq_false (by omega))
    clear kw aq ab a6 hid aw af ak;generalize Fj l xs=WL at*;unfold Cw at kk hd;have bq:=bg.fr hf zq
    rcases t3 with ⟨t3,t4⟩|t3
    all_goals
     go_wp2_with (go_at_call 90;(with_reducible refine (kk.out).mono ?_);rintro _ w7 ⟨A5,c5,rfl,h5,h6⟩;have ag:=Lib.hid (hd.out _ _ ⟨A5,c5,rfl,h5,h6⟩);clear kk hd h5 h6)
     all_goals first|exact ag.out|(go_ret;exact ag.out)
theorem plcI_neg {l:List Pn} {id:Id}:Aq l id<0↔(plc l id).isNone=true:=by
 unfold Aq
 cases plc l id with
 |none=>simp
 |some p=>simp
end Oq
end
end Go.Proofs.YtafonabghnogaaaGreatDoor
