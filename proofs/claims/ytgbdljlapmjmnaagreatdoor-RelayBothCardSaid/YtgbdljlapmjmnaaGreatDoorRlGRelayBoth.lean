/-
  huddlelaw31.RelayBoth: two relays that forward to each other keep the same then: all that either one did.
    Conditions: op.kinds lies as its text lays it; the numbers read.
  RelayBoth: whatever the input is, where the one listed variable is as its text lays it, the law returns true, and nothing that was there has turned.
    Condition: none.
  RelayBoth: the tied card.
    Condition: none.
-/
import Derived.JoinedOf
import Derived.RowKitTokens
import Derived.LaidLaws
import Derived.Test.YtgbdljlapmjmnaaGreatDoorTie
import Derived.Test.YtgbdljlapmjmnaaGreatDoorCards
import Derived.SevenTiedAt
import Derived.Test.YtgbdljlapmjmnaaGreatDoorRlG20
set_option maxRecDepth 100000
set_option maxHeartbeats 16000000
open List renaming length_map->A01,mem_of_getElem?->A02,getElem?_eq_getElem->A03,getElem?_map->A04,length_append->A05,getElem?_of_mem->A07,map_append->A09,mem_map_of_mem->A10,perm_ext_iff_of_nodup->A13,length_filter_le->A14
open Nat renaming le_trans->A08,le_refl->A11,lt_of_lt_of_le->A12
open Go.World renaming size_alloc->A06
open Go.Proofs.Tryz
open Go.Proofs.Tryz renaming prog->zp
open Go.Lib renaming hid->lh
open List renaming set->zl
open Go.Ending renaming returned->ze
namespace Go.Proofs.YtgbdljlapmjmnaaGreatDoor
open Go.RowKit
attribute [local go_sem ↓] Go.wp_at_zero Go.wp_at_succ
namespace Oq
attribute [local go_sem] Bool.not_false Bool.not_true
attribute [local go_sem ↓] Bo Dn
theorem Ad.okAt.apart {S:Nat->Prop} {w w':World} {base:Nat} {r:Ad} (h:r.okAt w base) (hf:Fr S w w') (hT:Types S w Gty) (hd:∀k,S k->¬r.own k):r.okAt w' base:=by
 have hx:∀x:OpL,x.own w base->x.own w' base:=fun x hx=>hx.keepP hf hT (by unfold Gty;decide) (by unfold Gty;decide) (by unfold Gty;decide) (by unfold Gty;decide) (by unfold Gty;decide) (by unfold Gty;decide) (by unfold Gty;decide);have k:=h.graph;refine ⟨h.blk.fr hf (fun e=>hd _ e (.inl rfl)),h.rbase,?_,h.row.fr hf (fun k hk e=>hd _ e (.inr (.inr hk))),fun x hxm=>⟨hx x (h.ops x hxm).1,(h.ops x hxm).2⟩,h.few⟩;exact ⟨k.blk.fr hf (fun e=>hd _ e (.inr (.inl (.inl rfl)))),k.pos,k.gbase,k.mbase,k.crow.keepT hf hT (by unfold Gty;decide),k.own.fr hf (fun j hj e=>hd _ e (.inr (.inl (.inr (.inr hj))))),k.few,k.mfew,k.levs,k.cfew,k.cok,k.map.fr hf (fun e=>hd _ e (.inr (.inl (.inr (.inl rfl))))),fun n hn=>⟨hx n.x (k.node n hn).own,(k.node n hn).ok,(k.node n hn).id,(k.node n hn).set⟩⟩
theorem GAt.lt {w:World} {base:Nat} {g:Gph} (h:GAt w base g) {k:Nat} (hk:g.own k):k<w.heap.size:=by
 rcases hk with e|e|e
 · rw [e];exact h.blk.lt
 · rw [e];exact h.map.lt
 · exact (h.own.row k e).2
theorem Ad.okAt.lt {w:World} {base:Nat} {r:Ad} (h:r.okAt w base) {k:Nat} (hk:r.own k):k<w.heap.size:=by
 rcases hk with e|e|e
 · rw [e];exact h.blk.lt
 · exact h.graph.lt e
 · exact (h.row.row k e).2
end Oq
namespace Oq
theorem Ad.okAt.over {S:Nat->Prop} {w w':World} {base:Nat} {r:Ad} (h:r.okAt w base) (hf:Fr S w w') (hS:∀k,base<=k->¬S k):r.okAt w' base where
 blk:=h.blk.fr hf (hS _ h.rbase)
 rbase:=h.rbase
 graph:=h.graph.over hf hS
 row:=h.row.fr hf (fun k hk=>hS k (h.row.row k hk).1)
 ops:=fun x hx=>⟨(h.ops x hx).1.over hf hS,(h.ops x hx).2⟩
 few:=h.few
def U5 (m:List Pn) (N:Nat) (w:World) (e:Ending) (w':World):Prop:=∃(A:Option Addr) (c:Nat),e=.returned (.slice A N c)/\Own w' w.heap.size 48 3 A N c ((Ak (m.map Pn.id)).flatMap Id.cells)/\Fr Non w w'
theorem Az6 (base:Nat) (q:Ad) (m:List Pn) (N rb:Nat) (w:World) (h:q.okAt w base) (hb:q.rb=rb) (hs:q.g.pns=m) (hN:m.length=N):Calls zp 15 #[.pointer (some ⟨rb,0,none⟩)] w (U5 m N w):=by
 subst hb hs hN;have hk:=Oe base q w h;unfold Eo at hk;rw [Fc,A01] at hk;exact hk
def U6 (l mr:List Pn) (has:List Id) (w:World) (e:Ending) (w':World):Prop:=
 ∃(sl:List BsL) (A:Option Addr) (NF c:Nat),e=.returned (.slice A NF c)/\Hid (sl.length=NF)/\Hid ((Ao mr has).length=NF)/\Own w' w.heap.size 39 1 A NF c (sl.map BsL.cell)/\Hid (BsOwn w' w.heap.size sl)/\Hid (∀(k:Nat) (x:Id),(Ao mr has)[k]? =some x->∃(s:BsL) (n:Pn),sl[k]? =some s/\l[Be l x]? =some n/\s.bs=n.o.put/\n.o.ok)/\Fr Non w w'
theorem U7 (base B n c:Nat) (A:Option Addr) (q:Ad) (cards:List Cd) (l mr:List Pn) (rb:Nat) (has:List Id) (w:World) (h:q.okAt w base) (hb:q.rb=rb) (hp:q.g.pns=mr) (hc:q.g.cards=cards) (hl:Rows cards l) (hm:Rows cards mr) (ham:Dh l mr) (h14:mr.length<=14) (hn:Hid (has.length=n)) (hr:Rd w B 3 A n (has.flatMap Id.cells)) (hnm:n<=1000000):
  Calls zp 37 #[.pointer (some ⟨rb,0,none⟩),.slice A n c] w (U6 l mr has w):=by
 subst hb hp hc;refine (U1 base B n c A q has w h hm h14 hn hr hnm).mono ?_;rintro e w' ⟨sl,A1,n1,c1,rfl,h1,h2,h3,h4,h5⟩;have h4':=h4.out
 have hl2:(Ao q.g.pns has).length=n1:=by
  have e:=congrArg List.length h4';rw [A01,A01,h1.out] at e;exact e.symm
 refine ⟨sl,A1,n1,c1,rfl,h1,hl2,h2,h3,fun k x hx=> ?_,h5⟩;have hmem:=(forIds_mem.1 (A02 hx)).1;obtain ⟨p,n2,g1,g2,_,g4⟩:=Le hl hm ham hmem;have hk:k<sl.length:=by rw [h1.out,<- hl2];exact (List.getElem?_eq_some_iff.1 hx).1
 refine ⟨sl[k],n2,A03 hk,?_,?_,?_⟩
 ·
  have e:Be l x=p:=by unfold Be;rw [g1];rfl
  rw [e];exact g2
 ·
  have e:(sl.map BsL.bs)[k]? =((Ao q.g.pns has).map (fun x=>(Co q.g.pns x).put))[k]? :=by rw [h4']
  rw [A04,A04,hx,A03 hk] at e;have e2:=Option.some.inj e;rw [e2];show (Co q.g.pns x).put=_;rw [g4]
 ·
  obtain ⟨i,hi⟩:=Option.isSome_iff_exists.1 (hm.placed hmem);obtain ⟨n3,hn3,_⟩:=Bp hi;rw [<- g4,Hx hi hn3];exact Om h.graph n3 (A02 hn3)
theorem U8 {cards:List Cd} {l m mr:List Pn} {C:List Op} {has:List Id} (hl:Rows cards l) (hlen:l.length<200) (hr:Rows cards mr) (ham:Dh l mr) (hI:Av cards l C m []) (hhas:∀x,x∈has<->x∈m.map Pn.id) {k:Nat} (hk:k<(Ao mr has).length):
  ∃(x:Id) (s s':List Pn × List Op),(Ao mr has)[k]? =some x/\Bj cards l (((Ao mr has).map (Be l)).take k) (m,[])=s/\Bj cards l (((Ao mr has).map (Be l)).take (k+1)) (m,[])=s'/\∀n,l[Be l x]? =some n->Bl cards s n.o=(0,s'):=by
 obtain ⟨h1,h2⟩:=Lf hl hlen hr ham hI hhas;obtain ⟨x,hx⟩:∃x,(Ao mr has)[k]? =some x:=⟨_,A03 hk⟩;obtain ⟨mk,Ck,_,_,_,g4,g5⟩:=h2 k (by omega);obtain ⟨mk',Ck',_,_,_,g4',_⟩:=h2 (k+1) (by omega);refine ⟨x,_,_,hx,g4,g4',fun n hn=> ?_⟩;obtain ⟨n2,q1,q2,q3⟩:=h1 k x hx;rw [hn] at q1;obtain rfl:=Option.some.inj q1;have g6:=g5 x hx;have hs:((Ao mr has).map (Be l)).take (k+1)=((Ao mr has).map (Be l)).take k++[Be l x]:=Dm (by rw [A04,hx];rfl);rw [hs,Iu,hn,g4] at g4';dsimp only at g4';rw [q3] at g6;rw [g6] at g4' ⊢;rw [<- g4']
theorem Av.ids {cards:List Cd} {l m:List Pn} {C:List Op} (h:Av cards l C m []) (x:Id):x∈m.map Pn.id<->∃o∈C,o.name=x:=by
 constructor
 ·
  intro hx;obtain ⟨n,hn,rfl⟩:=List.mem_map.1 hx;obtain ⟨i,hi⟩:=A07 hn;exact ⟨n.o,h.perm.mem_iff.1 (List.mem_append_left _ (A10 hn)),(h.rm.ok i n hi).id.symm⟩
 ·
  rintro ⟨o,ho,rfl⟩
  rcases List.mem_append.1 (h.perm.mem_iff.2 ho) with h4|h4
  ·
   obtain ⟨n,hn,rfl⟩:=List.mem_map.1 h4;obtain ⟨i,hi⟩:=A07 hn;rw [<- (h.rm.ok i n hi).id];exact A10 hn
  · cases h4
theorem U9 {cards:List Cd} {l m mr:List Pn} {C:List Op} {has:List Id} (hl:Rows cards l) (hlen:l.length<200) (hr:Rows cards mr) (ham:Dh l mr) (hI:Av cards l C m []) (hhas:∀x,x∈has<->x∈m.map Pn.id):
  ∃mk,Bj cards l (((Ao mr has).map (Be l)).take (Ao mr has).length) (m,[])=(mk,[])/\(mk.map Pn.id).Nodup/\∀x,x∈mk.map Pn.id<->x∈m.map Pn.id\/x∈mr.map Pn.id:=by
 obtain ⟨_,h2⟩:=Lf hl hlen hr ham hI hhas;obtain ⟨mk,Ck,g1,_,g3,g4,_⟩:=h2 _ (A11 _)
 have hname:∀x∈mr.map Pn.id,(Co mr x).name=x:=by
  intro x hx;obtain ⟨i,hi⟩:=Option.isSome_iff_exists.1 (hr.placed hx);obtain ⟨n,hn,e⟩:=Bp hi;rw [Hx hi hn,<- (hr.ok i n hn).id,e]
 refine ⟨mk,g4,g1.rm.nodup,fun x=> ?_⟩;rw [g1.ids,hI.ids];constructor
 ·
  rintro ⟨o,ho,rfl⟩
  rcases (g3 o).1 ho with h|⟨j,y,_,hy,rfl⟩
  · exact .inl ⟨o,h,rfl⟩
  ·
   have hm:=(forIds_mem.1 (A02 hy)).1;exact .inr (by rw [hname y hm];exact hm)
 ·
  rintro (⟨o,ho,rfl⟩|hx)
  · exact ⟨o,(g3 o).2 (.inl ho),rfl⟩
  ·
   by_cases hh:x∈has
   ·
    obtain ⟨o,ho,e⟩:=(hI.ids x).1 ((hhas x).1 hh);exact ⟨o,(g3 o).2 (.inl ho),e⟩
   ·
    obtain ⟨j,hj⟩:=A07 (forIds_mem.2 ⟨hx,hh⟩);exact ⟨Co mr x,(g3 _).2 (.inr ⟨j,x,(List.getElem?_eq_some_iff.1 hj).1,hj,rfl⟩),hname x hx⟩
def Fk (l:List Pn) (na nb:List Id) (k:Nat):List Nat:=(List.range k).filter (fun i=>Bd na (nmP l i)||Bd nb (nmP l i))
theorem Az7 (l:List Pn) (na nb:List Id) (k:Nat):(Fk l na nb (k+1)).length=(Fk l na nb k).length+(if Bd na (nmP l k)||Bd nb (nmP l k) then 1 else 0):=by
 unfold Fk;rw [List.range_succ,List.filter_append,A05];congr 1
 cases h:(Bd na (nmP l k)||Bd nb (nmP l k))<;>simp [h]
theorem Az8 {cards:List Cd} {l mr ms ka kb:List Pn} {na nb:List Id} (hl:Rows cards l) (hra:Dh l mr) (hrb:Dh l ms) (hmr:Rows cards mr) (hms:Rows cards ms) (ha:∀x,x∈mr.map Pn.id<->x∈na) (hb:∀x,x∈ms.map Pn.id<->x∈nb)
  (h1:(ka.map Pn.id).Nodup) (h2:(kb.map Pn.id).Nodup) (h3:∀x,x∈ka.map Pn.id<->x∈mr.map Pn.id\/x∈ms.map Pn.id) (h4:∀x,x∈kb.map Pn.id<->x∈ms.map Pn.id\/x∈mr.map Pn.id):
  Ak (ka.map Pn.id)=Ak (kb.map Pn.id)/\ka.length=(Fk l na nb l.length).length/\kb.length=ka.length:=by
 have hp:(ka.map Pn.id).Perm (kb.map Pn.id):=(A13 h1 h2).2 (fun x=>by rw [h3,h4,or_comm])
 have hin:∀{mx:List Pn},Dh l mx->Rows cards mx->∀x∈mx.map Pn.id,x∈l.map Pn.id:=by
  intro mx hA hR x hx;obtain ⟨p,n,_,g2,g3,_⟩:=Le hl hR hA hx;rw [<- g3];exact A10 (A02 g2)
 have hq:(ka.map Pn.id).Perm ((Fk l na nb l.length).map (nmP l)):=by
  refine (A13 h1 ?_).2 (fun x=> ?_)
  ·
   rw [List.Nodup,List.pairwise_map];refine (List.Pairwise.filter _ List.nodup_range).imp_of_mem (fun {a b} ha hb hab e=>hab ?_);have ha2:=A03 (List.mem_range.1 (List.mem_filter.1 ha).1);have hb2:=A03 (List.mem_range.1 (List.mem_filter.1 hb).1);rw [Cv ha2,Cv hb2] at e;have k1:=(hl.ok a _ ha2).plc;have k2:=(hl.ok b _ hb2).plc;rw [e,k2] at k1;exact (Option.some.inj k1).symm
  ·
   rw [h3];constructor
   ·
    intro hx;have hxl:x∈l.map Pn.id:=hx.elim (hin hra hmr x) (hin hrb hms x);obtain ⟨n,hn,rfl⟩:=List.mem_map.1 hxl;obtain ⟨i,hi⟩:=A07 hn;refine List.mem_map.2 ⟨i,List.mem_filter.2 ⟨List.mem_range.2 (List.getElem?_eq_some_iff.1 hi).1,?_⟩,Cv hi⟩;rw [Cv hi,Bool.or_eq_true,E9,E9,<- ha,<- hb];exact hx
   ·
    intro hx;obtain ⟨i,hi,rfl⟩:=List.mem_map.1 hx;have h9:=(List.mem_filter.1 hi).2;rw [Bool.or_eq_true,E9,E9,<- ha,<- hb] at h9;exact h9
 refine ⟨Ie (Ic _) ((Cf _).trans hp),?_,?_⟩
 ·
  have:=hq.length_eq;rwa [A01,A01] at this
 ·
  have:=hp.length_eq;rw [A01,A01] at this;exact this.symm
end Oq
namespace Oq
attribute [local go_sem] Bool.not_false Bool.not_true
attribute [local go_sem ↓] Gk Iz Bo
def TwoR (w:World) (base:Nat) (A:Option Addr) (n c:Nat) (xs:List Value) (B:Option Addr) (m d:Nat) (ys:List Value):Prop:=Own w base 3 1 A n c xs/\Own w base 3 1 B m d ys/\∀k,Ac A=some k->Ac B≠some k
theorem TwoR.swap {w:World} {base n c m d:Nat} {A B:Option Addr} {xs ys:List Value} (h:TwoR w base A n c xs B m d ys):TwoR w base B m d ys A n c xs:=⟨h.2.1,h.1,fun k e e'=>h.2.2 k e' e⟩
theorem TwoR.fr {w w':World} {base n c m d:Nat} {A B:Option Addr} {xs ys:List Value} (h:TwoR w base A n c xs B m d ys) (hf:Fr Non w w'):TwoR w' base A n c xs B m d ys:=⟨h.1.fr hf zr,h.2.1.fr hf zr,h.2.2⟩
theorem TwoR.app {w w8:World} {base n n8 c c8 m d:Nat} {A A8 B:Option Addr} {xs zs ys:List Value} {b:Obj} (h:TwoR w base A n c xs B m d ys) (h8:Own w8 base 3 1 A8 n8 c8 zs) (f8:Fr (fun k=>Ac A=some k) (w.alloc b) w8) (hat:Ac A8=Ac A\/Ac A8=some (w.alloc b).heap.size):TwoR w8 base A8 n8 c8 zs B m d ys:=by
 refine ⟨h8,(h.2.1.alloc b).fr f8 (fun k hk e=>h.2.2 k e hk),fun k e e'=> ?_⟩
 rcases hat with h1|h1
 ·
  rw [h1] at e;exact h.2.2 k e e'
 ·
  rw [h1] at e;have h2:=Option.some.inj e;have h3:=(h.2.1.row k e').2;rw [A06] at h2;omega
theorem Va {s:BsL} {u:Value} (h:Option.map BsL.cell (some s)=some u):Value.slice s.A s.bs.length s.c=u:=Option.some.inj h
theorem relayBoth_law (A:Option Addr) (c:Nat) (l0:List Int) (A':Option Addr) (c':Nat) (l1:List Int) (A'':Option Addr) (c'':Nat) (l2:List Int) (w:World) (hk:KindsAt w) (hr:Rd w w.heap.size 1 A l0.length (l0.map Iv)) (hnc:l0.length<=c) (hnm:c<=9223372036854775807) (hok:∀x∈l0,I64 x) (hr':Rd w w.heap.size 1 A' l1.length (l1.map Iv)) (hnc':l1.length<=c') (hnm':c'<=9223372036854775807) (hok':∀x∈l1,I64 x) (hr'':Rd w w.heap.size 1 A'' l2.length (l2.map Iv)) (hnc'':l2.length<=c'') (hnm'':c''<=9223372036854775807) (hok'':∀x∈l2,I64 x):
  Calls zp 8 #[.slice A l0.length c,.slice A' l1.length c',.slice A'' l2.length c''] w (Ag true w):=by
 have et:0<w.heap.size:=World.block_lt_of_cell? w _ (hk 0 (by decide));have km:=lh (Oh w.heap.size l0.length c A l0 w rfl hr (by omega) hok);unfold Hv at km;have ef:=fun (w':World) (hf:Fr Non w w')=>Up w' (hk.fr hf);unfold Ag at ef;replace ef:=lh ef;have fc:Hid (∀wz,Fr Non w wz->Ag true w (.returned (.bool true)) wz):=fun wz h=>⟨rfl,h⟩;have ev:=lh (fun (w':World) (hf:Fr Non w w')=>hk.fr hf);generalize Ag true w=POST at*;have eg:=lh (fun (b:Nat) (r:FG) (v:World) (hf:Fr Non w v) (h:r.own v b) (hne:r.l≠[])=>Oi b w.heap.size l1.length c' A' l1 r v h hne rfl (hr'.fr hf zr) (by omega) hok');have bf:=lh (fun (b:Nat) (r:FG) (v:World) (hf:Fr Non w v) (h:r.own v b) (hne:r.l≠[])=>Oi b w.heap.size l2.length c'' A'' l2 r v h hne rfl (hr''.fr hf zr) (by omega) hok'');unfold I9 at eg bf;obtain ⟨n1,f0⟩:=Aa l1.length;rw [f0.out] at eg ⊢;obtain ⟨n2,gn⟩:=Aa l2.length;rw [gn.out] at bf ⊢;obtain ⟨n0,g0⟩:=Aa l0.length;rw [g0.out] at km ⊢;clear hk hr hnc hnm hok hr' hok' hnc' hnm' hr'' hok'' hnc'' hnm'' f0 gn;go_enter func8,ntmps8;go_upto_region 2 with (go_at_call 10;(with_reducible refine (km.out).mono ?_);rintro _ w1 ⟨r,rfl,f1,ro,hw,hc⟩;(have bn:=Blk.new w1 28 #[.slice none 0 0,.slice none 0 0,.slice none 0 0,.slice none 0 0]);(have ad:=Cy (P:=zp) w1.heap.size 28 (cs:=r.cells) Dd (old:=#[.slice none 0 0,.slice none 0 0,.slice none 0 0,.slice none 0 0]) rfl (Gx r)))
 have bg:Blk ((w1.alloc (.cells #[.slice none 0 0,.slice none 0 0,.slice none 0 0,.slice none 0 0] 28)).setRow w1.heap.size r.cells) w1.heap.size 28 r.cells:=bn.setRow;have fG:Fr Non w1 ((w1.alloc (.cells #[.slice none 0 0,.slice none 0 0,.slice none 0 0,.slice none 0 0] 28)).setRow w1.heap.size r.cells):=((Fr.refl Non w1).alloc _).setRow (fun hh=>absurd hh (by omega)) _;have f2:=f1.trans fG zr;have bk:=ro.non fG;obtain ⟨gv,g7⟩:=Aa w1.heap.size;rw [g7.out] at bg f2 bk ⊢;clear ad bn fG ro f1 km;generalize (w1.alloc (.cells #[.slice none 0 0,.slice none 0 0,.slice none 0 0,.slice none 0 0] 28)).setRow gv r.cells=w2 at*;have hl:=Ci (P:=zp) gv 28 underlying28 rfl (cs:=r.cells) Dd;have ej:r.l≠[]:=by rw [hc];exact La _ _
 have aa:=bk.rows;have b5:r.l.length<=14:=bk.num.few;have gs:0<r.l.length:=List.length_pos_iff.2 ej;have dg:0<w2.heap.size:=A12 et f2.size;have d1:=lh (fun (B np cp:Nat) (Ap:Option Addr) (ps:List Nat) (v:World) (hv:Fr Non w2 v) (hpn:Hid (ps.length=np)) (hrp:Rd v B 1 Ap np (ps.map Qv)) (hlt:Hid (∀p∈ps,p<r.l.length)) (hnp:np<=1000000)=>Uo w.heap.size B np cp r Ap ps v (bk.non hv) hw hpn hrp hlt.out hnp (ev.out v (f2.trans hv zr)) (A12 dg hv.size));unfold I8 at d1;go_upto_region 3 with (go_at_call 36;(with_reducible refine (eg.out _ r _ f2 bk ej).mono ?_);rintro _ w3 ⟨oa,ya,na,A3,c3,rfl,dh,cv,fi,bi,o3,f3⟩)
 have gm:=f2.trans f3 zr;have gj:=bk.non f3;have g9:=bg.fr f3 zq;go_upto_region 4 with (go_at_call 36;(with_reducible refine (bf.out _ r _ gm gj ej).mono ?_);rintro _ w4 ⟨ob,yb,nb,A4,c4,rfl,dd,c0,es,bl,o4,f4⟩)
 have dl:=f3.trans f4 zr;have ic:=f2.trans dl zr;have fg:=o3.fr f4 zr;obtain ⟨Ca,mr,cj,cm,dk,b0,bt⟩:=Oo aa (by omega) dh cv bi;obtain ⟨Cb,ms,b7,cn,dx,cl,bz⟩:=Oo aa (by omega) dd c0 bl;have dv:mr.length<=14:=A08 (Av.few cm).1 b5;have dc:ms.length<=14:=A08 (Av.few cn).1 b5;obtain ⟨NA,ge⟩:=Aa na.length;obtain ⟨NB,fu⟩:=Aa nb.length;rw [ge.out] at fg b0 ⊢;rw [fu.out] at o4 cl ⊢;obtain ⟨L,hL⟩:=Aa r.l.length;have c2:w4.cell? ⟨gv,2,none⟩=some (.slice r.iA L r.iC):=by have h9:=(bg.fr dl zq).cell 2;rw [show r.cells[2]? =some (.slice r.iA r.l.length r.iC) from rfl,hL.out] at h9;exact h9
 have e5:=lh (fun (id:Id) (w':World) (h:Fr Non w4 w')=>Jt w4.heap.size NA c3 A3 na id w' ge (fg.rd.fr h zr) (by omega));have e8:=lh (fun (id:Id) (w':World) (h:Fr Non w4 w')=>Jt w4.heap.size NB c4 A4 nb id w' fu (o4.rd.fr h zr) (by omega));unfold Ag at e5 e8;rw [hL.out] at b5 gs;have fo:=bk.non dl;clear g9 eg bf dh cv fi bi dd c0 es bl f3 f4 gm gj;go_wp2_with fail
 go_loopw [10,11,12,13] (fun p q mm v wr=>∃(i P cp U cq M:Nat) (Ap Aq:Option Addr),p=.slice Ap P cp/\q=.slice Aq U cq/\mm=.int .i64 (M:Int)/\v=.int .i64 (i:Int)/\i<=L/\P<=i/\U<=i/\M<=i/\Hid ((As r.l na i).length=P)/\Hid ((As r.l nb i).length=U)/\Hid ((Fk r.l na nb i).length=M)/\TwoR wr w4.heap.size Ap P cp ((As r.l na i).map Qv) Aq U cq ((As r.l nb i).map Qv)/\Fr Non w4 wr) (fun p q mm v _=>L-(intOf v).toNat)
 case atStart=>exact ⟨0,0,0,0,0,0,none,none,rfl,rfl,rfl,rfl,by omega,by omega,by omega,by omega,rfl,rfl,rfl,⟨Own.nil _ _ _ _,Own.nil _ _ _ _,fun k e=>by cases e⟩,Fr.refl _ _⟩
 case round=>
 obtain ⟨i,P,cp,U,cq,M,Ap,Aq,rfl,rfl,rfl,rfl,hi,hP,hU,hM,a6,a5,ee,own,hf⟩:=hrel;have d2:=hf.cell c2 zq
 by_cases hin:i<L
 case pos=>
  have t0:decide ((i:Int)<(L:Int))=true:=decide_eq_true (by omega);have he:decide (i<L)=true:=decide_eq_true hin;obtain ⟨nn,ib,io,gb,fp,j0,j1,j2⟩:=fo.idAt (i:=i) (by rw [hL.out];exact hin);obtain ⟨k0,k1,k2⟩:=zk3 hf j0 j1 j2;rw [fp] at d2;obtain ⟨q1,q2,q3⟩:=ix i L
  have e6:=iw ((i:Int)+1);have e7:=iw ((M:Int)+1);have ez:=lh (e5.out nn.id wr hf);have e0:=lh (fun (v:World) (h:Fr Non wr v)=>e8.out nn.id v (hf.trans h zr));have a4:=lh (On r.l na i);have ak:=lh (On r.l nb i);have al:=lh (Az7 r.l na nb i);rw [Cv gb] at a4 ak al;rw [ee.out] at al;have bF:=fun (wv:World)=>Blk.new wv 3 #[.int .i64 (i:Int)];have hy:=hf.size;obtain ⟨HA,hb⟩:=Aa (Bd na nn.id);obtain ⟨HB,hg⟩:=Aa (Bd nb nn.id);rw [hb.out] at ez a4 al;rw [hg.out] at e0 ak al;clear gb fp j0 j1 j2 ee;go_upto_region 11 with (go_at_call 29;(with_reducible refine (ez.out).mono ?_);rintro _ w5 ⟨rfl,f5⟩)
  obtain ⟨hq,ho,g5,ht⟩:=zk4 f5 d2 k0 k1 k2;go_upto_region 12 with (go_at_call 29;(with_reducible refine (e0.out _ f5).mono ?_);rintro _ w6 ⟨rfl,f6⟩)
  have cr:=hf.trans (f5.trans f6 zr) zr;have ac:=own.fr (f5.trans f6 zr);have h5:=cr.size;clear ez e0 own hq ho g5 ht f5 f6;have gt:=ac.1.cap;have gw:=ac.2.1.cap
  rcases HA with _|_<;>rcases HB with _|_
  ·
   have ao:Hid (As r.l na (i+1)=As r.l na i):=by show _=_;rw [a4.out];simp
   have ar:Hid (As r.l nb (i+1)=As r.l nb i):=by show _=_;rw [ak.out];simp
   have cc:Hid ((Fk r.l na nb (i+1)).length=M):=by show _=_;rw [al.out];simp
   have br:Hid ((As r.l na (i+1)).length=P):=by show _=_;rw [ao.out,a6.out]
   have bo:Hid ((As r.l nb (i+1)).length=U):=by show _=_;rw [ar.out,a5.out]
   clear a4 ak al a6 a5;go_wp2_with fail;have aj:TwoR w6 w4.heap.size Ap (P) cp ((As r.l na (i+1)).map Qv) Aq (U) cq ((As r.l nb (i+1)).map Qv):=by rw [ao.out,ar.out];exact ac
   go_roundw
   case rel=>exact ⟨i+1,P,cp,U,cq,M,Ap,Aq,rfl,rfl,rfl,by go_num,by omega,by omega,by omega,by omega,br,bo,cc,aj,cr⟩
   case measure=>simp [intOf];omega
  ·
   have ao:Hid (As r.l na (i+1)=As r.l na i):=by show _=_;rw [a4.out];simp
   have ar:Hid (As r.l nb (i+1)=As r.l nb i++[i]):=by show _=_;rw [ak.out];simp
   have cc:Hid ((Fk r.l na nb (i+1)).length=M+1):=by show _=_;rw [al.out];simp
   have br:Hid ((As r.l na (i+1)).length=P):=by show _=_;rw [ao.out,a6.out]
   have bo:Hid ((As r.l nb (i+1)).length=U+1):=by show _=_;rw [ar.out,A05,a5.out];rfl
   clear a4 ak al a6 a5
   go_wp2_with (first
    |(at_builtin;go_loud (refine Ba (base:=w4.heap.size) (.tmp 57) (.tmp 59) 22 rfl rfl rfl rfl Ds (ac.2.1.alloc (.cells #[.int .i64 (i:Int)] 3)) (Rd.blk (n:=1) (size:=1) (bF w6) rfl) (by simp [Value.oneCell']) (by omega) (by omega) (by rw [A06];omega) ?_);intro A9 c9 w9 o9 cz b8;have b6:=(ac.swap.app o9 cz b8).swap;have en:Fr Non w4 w9:=(cr.alloc (.cells #[.int .i64 (i:Int)] 3)).trans cz (fun k hk e=>by have:=(ac.2.1.row k e).1;omega)))
   have aj:TwoR w9 w4.heap.size Ap (P) cp ((As r.l na (i+1)).map Qv) A9 (U+1) c9 ((As r.l nb (i+1)).map Qv):=by rw [ao.out,ar.out,A09];exact b6
   go_roundw
   case rel=>exact ⟨i+1,P,cp,U+1,c9,M+1,Ap,A9,rfl,rfl,by go_num,by go_num,by omega,by omega,by omega,by omega,br,bo,cc,aj,en⟩
   case measure=>simp [intOf];omega
  ·
   have ao:Hid (As r.l na (i+1)=As r.l na i++[i]):=by show _=_;rw [a4.out];simp
   have ar:Hid (As r.l nb (i+1)=As r.l nb i):=by show _=_;rw [ak.out];simp
   have cc:Hid ((Fk r.l na nb (i+1)).length=M+1):=by show _=_;rw [al.out];simp
   have br:Hid ((As r.l na (i+1)).length=P+1):=by show _=_;rw [ao.out,A05,a6.out];rfl
   have bo:Hid ((As r.l nb (i+1)).length=U):=by show _=_;rw [ar.out,a5.out]
   clear a4 ak al a6 a5
   go_wp2_with (first
    |(at_builtin;go_loud (refine Ba (base:=w4.heap.size) (.tmp 52) (.tmp 54) 22 rfl rfl rfl rfl Ds (ac.1.alloc (.cells #[.int .i64 (i:Int)] 3)) (Rd.blk (n:=1) (size:=1) (bF w6) rfl) (by simp [Value.oneCell']) (by omega) (by omega) (by rw [A06];omega) ?_);intro A8 c8 w8 o8 df bw;have ap:=ac.app o8 df bw;have cw:Fr Non w4 w8:=(cr.alloc (.cells #[.int .i64 (i:Int)] 3)).trans df (fun k hk e=>by have:=(ac.1.row k e).1;omega);have h4:=cw.size))
   have aj:TwoR w8 w4.heap.size A8 (P+1) c8 ((As r.l na (i+1)).map Qv) Aq (U) cq ((As r.l nb (i+1)).map Qv):=by rw [ao.out,ar.out,A09];exact ap
   go_roundw
   case rel=>exact ⟨i+1,P+1,c8,U,cq,M+1,A8,Aq,rfl,rfl,by go_num,by go_num,by omega,by omega,by omega,by omega,br,bo,cc,aj,cw⟩
   case measure=>simp [intOf];omega
  ·
   have ao:Hid (As r.l na (i+1)=As r.l na i++[i]):=by show _=_;rw [a4.out];simp
   have ar:Hid (As r.l nb (i+1)=As r.l nb i++[i]):=by show _=_;rw [ak.out];simp
   have cc:Hid ((Fk r.l na nb (i+1)).length=M+1):=by show _=_;rw [al.out];simp
   have br:Hid ((As r.l na (i+1)).length=P+1):=by show _=_;rw [ao.out,A05,a6.out];rfl
   have bo:Hid ((As r.l nb (i+1)).length=U+1):=by show _=_;rw [ar.out,A05,a5.out];rfl
   clear a4 ak al a6 a5
   go_wp2_with (first
    |(at_builtin;go_loud (refine Ba (base:=w4.heap.size) (.tmp 52) (.tmp 54) 22 rfl rfl rfl rfl Ds (ac.1.alloc (.cells #[.int .i64 (i:Int)] 3)) (Rd.blk (n:=1) (size:=1) (bF w6) rfl) (by simp [Value.oneCell']) (by omega) (by omega) (by rw [A06];omega) ?_);intro A8 c8 w8 o8 df bw;have ap:=ac.app o8 df bw;have cw:Fr Non w4 w8:=(cr.alloc (.cells #[.int .i64 (i:Int)] 3)).trans df (fun k hk e=>by have:=(ac.1.row k e).1;omega);have h4:=cw.size)
    |(at_builtin;go_loud (refine Ba (base:=w4.heap.size) (.tmp 57) (.tmp 59) 22 rfl rfl rfl rfl Ds (ap.2.1.alloc (.cells #[.int .i64 (i:Int)] 3)) (Rd.blk (n:=1) (size:=1) (bF w8) rfl) (by simp [Value.oneCell']) (by omega) (by omega) (by rw [A06];omega) ?_);intro A9 c9 w9 o9 cz b8;have b6:=(ap.swap.app o9 cz b8).swap;have en:Fr Non w4 w9:=(cw.alloc (.cells #[.int .i64 (i:Int)] 3)).trans cz (fun k hk e=>by have:=(ap.2.1.row k e).1;omega)))
   have aj:TwoR w9 w4.heap.size A8 (P+1) c8 ((As r.l na (i+1)).map Qv) A9 (U+1) c9 ((As r.l nb (i+1)).map Qv):=by rw [ao.out,ar.out,A09,A09];exact b6
   go_roundw
   case rel=>exact ⟨i+1,P+1,c8,U+1,c9,M+1,A8,A9,rfl,rfl,by go_num,by go_num,by omega,by omega,by omega,by omega,br,bo,cc,aj,en⟩
   case measure=>simp [intOf];omega
 case neg=>
 obtain rfl:i=L:=by omega
 have t0:decide ((i:Int)<(i:Int))=false:=decide_eq_false (by omega);have he:decide (i<i)=false:=decide_eq_false (by omega);rw [hL.out] at bt cj bz b7;have dw:=dl.trans hf zr;have bv:=bg.fr dw zq;have fy:=lh (d1.out wr.heap.size P cp Ap (As r.l na i) wr dw a6 own.1.rd (fun p hp=>by rw [hL.out];exact bt p hp) (by omega));have gk:=lh (fun (v:World) (h:Fr Non wr v)=>d1.out wr.heap.size U cq Aq (As r.l nb i) v (dw.trans h zr) a5 (own.2.1.rd.fr h zr) (fun p hp=>by rw [hL.out];exact bz p hp) (by omega));clear d1 e5 e8;generalize wr=wq at*;go_upto_region 19 with (go_at_call 11;(with_reducible refine (fy.out).mono ?_);rintro _ w5 ⟨rA,bA,rfl,gy,dz,fq,fl,f5⟩)
 have ha:=bv.fr f5 zq;obtain ⟨ab,er⟩:=Aa rA.rb;rw [er.out];go_upto_region 20 with (go_at_call 11;(with_reducible refine (gk.out _ f5).mono ?_);rintro _ w6 ⟨rB,bB,rfl,gx,d4,fv,fw,f6⟩)
 obtain ⟨sb,ak⟩:=Aa rB.rb;rw [ak.out];have d6:Hid (rA.st=(mr,[])):=fq.out.trans cj;have eb:Hid (rB.st=(ms,[])):=fv.out.trans b7;have db:=f2.trans dw zr;have b9:Hid (rA.g.cards=r.cards):=fl.out;have ca:Hid (rB.g.cards=r.cards):=fw.out;have ce:Hid (rA.rb=ab):=er.out;have b2:Hid (rB.rb=sb):=ak.out;have af:Rows r.cards mr:=cm.rm;have ag:Rows r.cards ms:=cn.rm;have az:Dh r.l mr:=cm.among;have a3:Dh r.l ms:=cn.among;have fh:Hid (∀x,x∈Ak (mr.map Pn.id)<->x∈mr.map Pn.id):=fun x=>(Cf _).mem_iff;have eu:Hid (∀x,x∈Ak (ms.map Pn.id)<->x∈ms.map Pn.id):=fun x=>(Cf _).mem_iff;have fm:Hid ((Ak (mr.map Pn.id)).length=NA):=by show _=_;rw [Fc,A01];exact b0
 have gp:Hid ((Ak (ms.map Pn.id)).length=NB):=by show _=_;rw [Fc,A01];exact cl
 have av:r.l.length<200:=by rw [hL.out];omega
 have bq:=lh (fun (k:Nat) (hk:k<(Ao mr (Ak (ms.map Pn.id))).length)=>U8 aa av af az cn eu.out hk);have b4:=lh (fun (k:Nat) (hk:k<(Ao ms (Ak (mr.map Pn.id))).length)=>U8 aa av ag a3 cm fh.out hk);obtain ⟨kb,b3,du,dp⟩:=U9 aa av af az cn eu.out;obtain ⟨ka,bm,di,cx⟩:=U9 aa av ag a3 cm fh.out;obtain ⟨fk,ei,fa⟩:=Az8 aa az a3 af ag dk dx di du cx dp;rw [hL.out,ee.out] at ei;rw [ei] at fa;have fb:Hid (ka.length=M):=ei;have dm:Hid (kb.length=M):=fa;have a1:Hid (Ak (ka.map Pn.id)=Ak (kb.map Pn.id)):=fk;have ci:=lh (fun (n:Pn) (p:Nat) (h:r.l[p]? =some n)=>I7 aa h);have co:=lh (fun (b:Nat) (q:Ad) (mk:List Pn) (N rb:Nat) (v:World) (h:q.okAt v b) (h1:q.rb=rb) (h2:q.g.pns=mk) (h3:mk.length=N)=>Az6 b q mk N rb v h h1 h2 h3);unfold U5 at co;have bu:Hid (rA.okAt w6 bA):=dz.out.non f6;have kA:=lh (fun (v:World) (h:Fr Non w6 v)=>co.out bA rA mr NA ab v (bu.out.non h) ce.out (congrArg Prod.fst d6.out) b0);have kB:=lh (fun (v:World) (h:Fr Non w6 v)=>co.out bB rB ms NB sb v (d4.out.non h) b2.out (congrArg Prod.fst eb.out) cl);have d0:=lh (fun (B c:Nat) (A:Option Addr) (v:World) (h:Fr Non w6 v) (hr:Rd v B 3 A NB ((Ak (ms.map Pn.id)).flatMap Id.cells))=>U7 bA B NB c A rA r.cards r.l mr ab _ v (bu.out.non h) ce.out (congrArg Prod.fst d6.out) b9.out aa af az dv gp hr (by omega));have eh:=lh (fun (B c:Nat) (A:Option Addr) (v:World) (h:Fr Non w6 v) (hr:Rd v B 3 A NA ((Ak (mr.map Pn.id)).flatMap Id.cells))=>U7 bB B NA c A rB r.cards r.l ms sb _ v (d4.out.non h) b2.out (congrArg Prod.fst eb.out) ca.out aa ag a3 dc fm hr (by omega));unfold U6 at d0 eh
 have ba:Hid ((Ao mr (Ak (ms.map Pn.id))).length<=14):=by
  show _<=_
  have h9:(Ao mr (Ak (ms.map Pn.id))).length<=(mr.map Pn.id).length:=by
   unfold Ao;refine A08 (A14 _ _) ?_;rw [(Fe _ _).length_eq,(Cf _).length_eq];exact A11 _
  rw [A01] at h9;omega
 have a9:Hid ((Ao ms (Ak (mr.map Pn.id))).length<=14):=by
  show _<=_
  have h9:(Ao ms (Ak (mr.map Pn.id))).length<=(ms.map Pn.id).length:=by
   unfold Ao;refine A08 (A14 _ _) ?_;rw [(Fe _ _).length_eq,(Cf _).length_eq];exact A11 _
  rw [A01] at h9;omega
 obtain ⟨FF,hz⟩:=Aa (Ao mr (Ak (ms.map Pn.id)));obtain ⟨HH,gu⟩:=Aa (Ao ms (Ak (mr.map Pn.id)));rw [hz.out] at bq b3 d0 ba;rw [gu.out] at b4 bm eh a9;have a0:=lh b3;have a2:=lh bm;have e3:Hid (∀k,rA.own k->k<w5.heap.size):=fun k hk=>dz.out.lt hk;have h8:Hid (w5.heap.size<=w6.heap.size):=f6.size;have fs:=f5.trans f6 zr;clear b3 du dp bm di cx fk ei fa own a6 a5 ee bt bz cj b7 cm cn dk dx af ag az a3 aa ej fo bk bg bv ha hl c2 fq fv fl fw fy gk er ak fg o4 o3 av hf dl dw
 go_upto_region 23 with (first
  |(go_at_call 15;(with_reducible refine (kB.out _ (Fr.refl _ _)).mono ?_);rintro _ w7 ⟨A7,c7,rfl,o7,f7⟩)
  |(go_at_call 37;(with_reducible refine (d0.out _ _ _ _ f7 o7.rd).mono ?_);rintro _ w8 ⟨sf,Af,NF,cf,rfl,_,d9,oF,fx,cu,f8⟩))
 have d5:=f7.trans f8 zr;clear o7
 go_upto_region 24 with (first
  |(go_at_call 15;(with_reducible refine (kA.out _ d5).mono ?_);rintro _ w9 ⟨A9,c9,rfl,o9,f9⟩)
  |(go_at_call 37;(with_reducible refine (eh.out _ _ _ _ (d5.trans f9 zr) o9.rd).mono ?_);rintro _ wX ⟨sh,Ah,NH,ch,rfl,_,d8,oH,fz,dn,fj⟩))
 have ec:=f9.trans fj zr;have ed:=d5.trans ec zr;have gz:=f6.trans ed zr;have h6:=fs.trans ed zr;have gc:=oF.fr ec zr;have dr:Hid (BsOwn wX w7.heap.size sf):=fx.out.non ec;have dt:Hid (rB.okAt wX bB):=d4.out.non ed;have dy:Hid (rA.okAt w5 bA):=dz.out;have cy:Hid (rB.st=Bj r.cards r.l ((FF.map (Be r.l)).take 0) (ms,[])):=by show _=_;rw [eb.out];rfl
 have bj:Hid (rA.st=Bj r.cards r.l ((HH.map (Be r.l)).take 0) (mr,[])):=by show _=_;rw [d6.out];rfl
 rw [d9.out] at ba;rw [d8.out] at a9;have gi:NF<=14:=ba.out;have gl:NH<=14:=a9.out;clear o9 oF fx d4 dz bu kA kB d0 eh f7 f8 f9 fj d5 ec ed d6 eb fm gp fh eu ba a9 f6 fs;go_wp2_with fail
 go_loopw [20] (fun v wr=>∃(k:Nat) (r1:Ad),v=.int .i64 (k:Int)/\k<=NF/\Hid (r1.okAt wr bB)/\Hid (r1.rb=sb)/\Hid (r1.g.cards=r.cards)/\Hid (r1.st=Bj r.cards r.l ((FF.map (Be r.l)).take k) (ms,[]))/\Own wr w7.heap.size 39 1 Af NF cf (sf.map BsL.cell)/\Hid (BsOwn wr w7.heap.size sf)/\Own wr w9.heap.size 39 1 Ah NH ch (sh.map BsL.cell)/\Hid (BsOwn wr w9.heap.size sh)/\Fr Non w5 wr) (fun v _=>NF-(intOf v).toNat)
 case atStart=>exact ⟨0,rB,rfl,Nat.zero_le _,dt,b2,ca,cy,gc,dr,oH,fz,gz⟩
 case round=>
 clear dt ca cy gc dr oH fz;obtain ⟨k,r1,rfl,hk,be,ay,a8,bc,d7,d3,bh,ae,ek⟩:=hrel;have ft:=f5.trans ek zr;have e4:=db.trans ft zr
 by_cases hin:k<NF
 case pos=>
  have v1:decide ((k:Int)<(NF:Int))=true:=decide_eq_true (by omega);have hm:decide (k<NF)=true:=decide_eq_true (by omega);obtain ⟨x,s0,s1,hx,g1,g2,g4⟩:=bq.out k (by rw [d9.out];omega);obtain ⟨s,n,hs,hn,ai,ax⟩:=cu.out k x hx;obtain ⟨bp,op,u,ey,_,hu,bd⟩:=d7.rd.at (show k<NF by omega);subst ey;rw [A04,hs] at hu;rw [<- Va hu] at bd;have ah:=d3.out s (A02 hs);obtain ⟨m6,cd⟩:=Aa s.bs.length;rw [cd.out] at bd ah;replace bd:cS wr bp (op+k) s.A m6 s.c:=bd;have cb:Hid (n.o.put.length=m6):=by show _=_;rw [<- ai];exact cd.out
  have gq:m6<=500000:=by have h9:=ci.out n _ hn;rw [cb.out] at h9;exact h9
  have cg:=ah.1.rd;rw [ai] at cg;obtain ⟨i1,i2,i3⟩:=ix k NF
  have e6:=iw ((k:Int)+1);have dq:=g4 n hn;have kt:=lh (Hu bB wr.heap.size m6 s.c s.A r1 n.o wr be.out (ev.out wr e4) cb cg (by omega) ax);unfold TakeRPost at kt;rw [ay.out,a8.out,bc.out,g1,dq] at kt;dsimp only at kt;have ds:=lh g2;clear g1 g2 g4 dq bc hu hs hn ai cd cb ah cg ax hx;go_wp2_with (go_at_call 22;(with_reducible refine (kt.out).mono ?_);rintro _ wt ⟨rfl,rt,ad,aw⟩);have ew:Hid (rt.rb=sb):=ad.out.rb.trans ay.out;have fd:Hid (rt.g.cards=r.cards):=ad.out.cards.trans a8.out;have b1:Hid (rt.okAt wt bB):=ad.out.ok;have au:Hid (rt.st=Bj r.cards r.l ((FF.map (Be r.l)).take (k+1)) (ms,[])):=aw.out.trans ds.out.symm;have el:=d7.keepT ad.out.fr be.out.types (by unfold Rty Gty;decide);have e1:Hid (BsOwn wt w7.heap.size sf):=d3.out.keepT ad.out.fr be.out.types (by unfold Rty Gty;decide);have g8:=bh.keepT ad.out.fr be.out.types (by unfold Rty Gty;decide);have e9:Hid (BsOwn wt w9.heap.size sh):=ae.out.keepT ad.out.fr be.out.types (by unfold Rty Gty;decide);have fe:Fr Non w5 wt:=be.out.below ad.out.fr ek gx;clear kt ad aw be ay a8 d7 d3 bh ae ds;go_roundw
  case rel=>exact ⟨k+1,rt,by go_num,by omega,b1,ew,fd,au,el,e1,g8,e9,fe⟩
  case measure=>simp [intOf];omega
 case neg=>
 obtain rfl:k=NF:=by omega
 have t1:decide ((k:Int)<(k:Int))=false:=decide_eq_false (by omega);have h7:decide (k<k)=false:=decide_eq_false (by omega);rw [d9.out] at a0;have dj:Hid (r1.st=(kb,[])):=bc.out.trans a0.out;have ct:Hid (rA.okAt wr bA):=dy.out.non ek;clear bc bq cu d7 d3 a0 dy;generalize wr=wS at*;go_wp2_with fail
 go_loopw [21] (fun v wr=>∃(j:Nat) (r2:Ad),v=.int .i64 (j:Int)/\j<=NH/\Hid (r2.okAt wr bA)/\Hid (r2.rb=ab)/\Hid (r2.g.cards=r.cards)/\Hid (r2.st=Bj r.cards r.l ((HH.map (Be r.l)).take j) (mr,[]))/\Own wr w9.heap.size 39 1 Ah NH ch (sh.map BsL.cell)/\Hid (BsOwn wr w9.heap.size sh)/\Fr Non wq wr/\Fr (fun k=>k<w5.heap.size) wS wr/\Hid (∀k,k<wS.heap.size->r2.own k->k<w5.heap.size)) (fun v _=>NH-(intOf v).toNat)
 case atStart=>exact ⟨0,rA,rfl,Nat.zero_le _,ct,ce,b9,bj,bh,ae,ft,Fr.refl _ _,fun k _ e=>e3.out k e⟩
 case round=>
 clear ct b9 bj bh ae;obtain ⟨j,r2,rfl,hj,ck,aq,bb,a7,bh,ae,gg,em,bx⟩:=hrel;have c1:=db.trans gg zr
 by_cases hjn:j<NH
 case pos=>
  have v1:decide ((j:Int)<(NH:Int))=true:=decide_eq_true (by omega);have hm:decide (j<NH)=true:=decide_eq_true (by omega);obtain ⟨x,s0,s1,hx,g1,g2,g4⟩:=b4.out j (by rw [d8.out];omega);obtain ⟨s,n,hs,hn,ai,ax⟩:=dn.out j x hx;obtain ⟨bp,op,u,ey,_,hu,bd⟩:=bh.rd.at (show j<NH by omega);subst ey;rw [A04,hs] at hu;rw [<- Va hu] at bd;have ah:=ae.out s (A02 hs);obtain ⟨m6,cd⟩:=Aa s.bs.length;rw [cd.out] at bd ah;replace bd:cS wr bp (op+j) s.A m6 s.c:=bd;have cb:Hid (n.o.put.length=m6):=by show _=_;rw [<- ai];exact cd.out
  have gq:m6<=500000:=by have h9:=ci.out n _ hn;rw [cb.out] at h9;exact h9
  have cg:=ah.1.rd;rw [ai] at cg;obtain ⟨i1,i2,i3⟩:=ix j NH
  have e6:=iw ((j:Int)+1);have dq:=g4 n hn;have kt:=lh (Hu bA wr.heap.size m6 s.c s.A r2 n.o wr ck.out (ev.out wr c1) cb cg (by omega) ax);unfold TakeRPost at kt;rw [aq.out,bb.out,a7.out,g1,dq] at kt;dsimp only at kt;have ds:=lh g2;clear g1 g2 g4 dq a7 hu hs hn ai cd cb ah cg ax hx;go_wp2_with (go_at_call 22;(with_reducible refine (kt.out).mono ?_);rintro _ wt ⟨rfl,rt,ad,aw⟩);have ew:Hid (rt.rb=ab):=ad.out.rb.trans aq.out;have fd:Hid (rt.g.cards=r.cards):=ad.out.cards.trans bb.out;have b1:Hid (rt.okAt wt bA):=ad.out.ok;have au:Hid (rt.st=Bj r.cards r.l ((HH.map (Be r.l)).take (j+1)) (mr,[])):=aw.out.trans ds.out.symm;have el:=bh.keepT ad.out.fr ck.out.types (by unfold Rty Gty;decide);have e1:Hid (BsOwn wt w9.heap.size sh):=ae.out.keepT ad.out.fr ck.out.types (by unfold Rty Gty;decide);have e2:Fr Non wq wt:=ck.out.below ad.out.fr gg gy;have ff:Fr (fun k=>k<w5.heap.size) wS wt:=em.trans ad.out.fr (fun k hk e=>bx.out k hk e);have de:Hid (∀k,k<wS.heap.size->rt.own k->k<w5.heap.size):=fun k hk e=>bx.out k hk (ad.out.sub k (A12 hk em.size) e);clear kt ad aw ck aq bb bh ae bx ds;go_roundw
  case rel=>exact ⟨j+1,rt,by go_num,by omega,b1,ew,fd,au,el,e1,e2,ff,de⟩
  case measure=>simp [intOf];omega
 case neg=>
 obtain rfl:j=NH:=by omega
 have u1:decide ((j:Int)<(j:Int))=false:=decide_eq_false (by omega);have ia:decide (j<j)=false:=decide_eq_false (by omega);rw [d8.out] at a2;have da:Hid (r2.st=(ka,[])):=a7.out.trans a2.out;have eo:Hid (r1.okAt wr bB):=be.out.over em (fun k h1 h2=>by omega);have ea:=lh (fun (v:World) (h:Fr Non wr v)=>co.out bA r2 ka M ab v (ck.out.non h) aq.out (congrArg Prod.fst da.out) fb.out);have gh:=lh (fun (v:World) (h:Fr Non wr v)=>co.out bB r1 kb M sb v (eo.out.non h) ay.out (congrArg Prod.fst dj.out) dm.out);have ep:Hid ((Ak (kb.map Pn.id)).length=M):=by show _=_;rw [Fc,A01];exact dm.out
 rw [a1.out] at ea;obtain ⟨IS,fn⟩:=Aa (Ak (kb.map Pn.id));rw [fn.out] at ea gh ep;have gf:Hid (∀(B:Nat) (A5 A6:Option Addr) (c5 c6:Nat) (w':World),Rd w' B 3 A5 M (IS.flatMap Id.cells)->Rd w' w'.heap.size 3 A6 M (IS.flatMap Id.cells)->Calls zp 14 #[.slice A5 M c5,.slice A6 M c6] w' (Ag true w')):=fun B A5 A6 c5 c6 w' h1 h2=>Te B M c5 w'.heap.size M c6 A5 A6 IS IS w' ep ep h1 h2 (by omega) true (by simp);unfold Ag at gf;have y0:((M:Int)==(M:Int))=true:=by simp
 clear co ci b4 be ay a8 dj ck aq bb a7 bh ae d9 d8 dn fn a1 da a2
 go_wp2_with (first
  |(go_at_call 15;(with_reducible refine (ea.out _ (Fr.refl _ _)).mono ?_);rintro _ v1 ⟨AA,cA,rfl,oA,g1⟩)
  |(go_at_call 15;(with_reducible refine (gh.out _ g1).mono ?_);rintro _ v2 ⟨AB,cB,rfl,oB,g2⟩;have gr:=g1.trans g2 zr;have h0:=oA.rd.fr g2 zr)
  |(go_at_call 14;(with_reducible refine (gf.out _ _ _ _ _ _ h0 oB.rd).mono ?_);rintro _ v3 ⟨rfl,g3⟩;have gd:=gr.trans g3 zr)
  |(go_at_call 15;(with_reducible refine (ea.out _ gd).mono ?_);rintro _ v4 ⟨AC,cC,rfl,_,g4⟩;have ga:=c1.trans (gd.trans g4 zr) zr)
  |(go_at_call 17;(with_reducible refine (ef.out _ ga).mono ?_);rintro _ v6 ⟨rfl,g6⟩;have hd:=lh (fc.out _ (ga.trans g6 zr))))
 exact hd.out
end Oq
section
open Go.ChangeShapes Go.WideShapes Go.ChangeAt Go.RowKit
theorem Az9 (os:Os) (started:os.Started) (H:Type) (enc:TypeId × Value->H):
  ReturnsInHanded {} Tryz.checked os 8 .any (fun w args=>(Rows.relayBothSpec.pre enc zp f8 [] false w args/\laidMetH zp [("huddle/op.kinds",Rows.laid_huddle_op_kinds)] w)/\sizedMet enc zp f8 (OpenSpec.ofChange Rows.relayBothSpec) false w args)
   (Rows.relayBothSpec.post enc zp f8 false true false false):=by
 refine returnsInHanded_of_change_and (C:=Tryz.checked) (X:=fun w _=>laidMetH zp [("huddle/op.kinds",Rows.laid_huddle_op_kinds)] w) (fun _ _ _ hh h=>h.of_heap hh) Tryz.own started (by kernel_rfl) func8
  (ChangeSpec.witness_at (enc:=enc) (C:=Tryz.checked) (os:=os) (X:=fun w _=>laidMetH zp [("huddle/op.kinds",Rows.laid_huddle_op_kinds)] w) false (Jx os) #[.slice none 0 0,.slice none 0 0,.slice none 0 0] 8 rfl (by kernel_rfl) (by kernel_rfl) (by kernel_rfl) (by kernel_rfl) (by kernel_rfl) (Qs os _)) ?_
 intro W base args ds gs before hval0 hW _ _ hL _;have hk:=Qq hL;have hval:∀(j:Nat) t v,Tryz.f8.params[j]? =some t->args[j]? =some v->Value.okWide zp W .any base t v:=hval0;have hW':=hW;obtain ⟨p,q,hA0,hV,rfl,hfz,hnd⟩:=hW;have hA:DataW.TrodAll enc zp W 0 (fun _=>true) true Tryz.f8.params.toList args.toList ds p:=hA0;rw [params8] at hA hval;obtain ⟨v0,v1,v2,d0,d1,d2,p0,p1,p2,rfl,rfl,rfl,h0,h1,h2⟩:=trodAll_three hA;obtain ⟨A0,c0,l0,rfl,hlc0,hc0,hr0,hok0⟩:=H7 underlying22 underlying3 (by kernel_rfl) (hval 0 22 v0 rfl rfl) h0;obtain ⟨A1,c1,l1,rfl,hlc1,hc1,hr1,hok1⟩:=H7 underlying22 underlying3 (by kernel_rfl) (hval 1 22 v1 rfl rfl) h1;obtain ⟨A2,c2,l2,rfl,hlc2,hc2,hr2,hok2⟩:=H7 underlying22 underlying3 (by kernel_rfl) (hval 2 22 v2 rfl rfl) h2;refine (Oq.relayBoth_law A0 c0 l0 A1 c1 l1 A2 c2 l2 W hk hr0 hlc0 hc0 hok0 hr1 hlc1 hc1 hok1 hr2 hlc2 hc2 hok2).mono fun e W' ⟨he,hf⟩=> ?_;exact ⟨_,he,Ou Tryz.laidOut (by kernel_rfl) rfl (by kernel_rfl) underlying4 hW' ⟨rfl,rfl,rfl⟩ hf⟩
theorem A00:Rows.RelayBothSaid:=
 OpenClaim.holds_of_wide 8 f8 rfl rfl rfl rfl rfl rfl rfl ⟨rfl,rfl,rfl,rfl,rfl⟩ rfl rfl rfl rfl rfl (by kernel_rfl) func8 (by kernel_rfl)
  (of_decide_eq_true (by kernel_rfl)) (by unfold Func.isWrapper;rw [if_neg (by decide+kernel)];exact ⟨rfl,rfl⟩)
  (fun os started H enc _=>Az9 os started H enc)
end
section
open Go
theorem relayBoth_card_holds:Rows.RelayBothCardSaid:=
 Claim7.holds_tied_plain_at .later [] [.data] true (true, "21a1399a7e80faf1308fc7dc20e3f60affe53aa06a5131232a0aae069820b3a7") false
  A00 (fun _ h=>by cases h) (by kernel_rfl) (fun _ h=>by cases h) relayBoth_row_tie rfl ⟨rfl,rfl⟩ (by kernel_rfl) rfl
  (fun f fn hf hfn=>by
   obtain rfl:f=8:=Option.some.inj ((show zp.funcNamed "huddle/huddlelaw31.RelayBoth" =some 8 by kernel_rfl).symm.trans hf)|>.symm;obtain rfl:fn=f8:=(Option.some.inj (Tryz.func8.symm.trans hfn)).symm
   exact ⟨by kernel_rfl,fun j t ht=>by
    rw [params8] at ht
    have hm:t∈([22,22,22]:List TypeId):=by
     have h2:=Array.mem_of_getElem? ht;simpa using h2
    have hall:([22,22,22]:List TypeId).all (fun t=> !(zp.wantsStandIn t))=true:=by kernel_rfl
    have:=List.all_eq_true.1 hall t hm;exact (by simpa using this:zp.wantsStandIn t=false)⟩)
  (by kernel_rfl)
end
end Go.Proofs.YtgbdljlapmjmnaaGreatDoor
