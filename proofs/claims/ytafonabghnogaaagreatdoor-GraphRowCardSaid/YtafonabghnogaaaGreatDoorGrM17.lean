/-
  Contracts of the functions that the claim's statement reaches, walked one by one (part 17).
  Conditions: as each theorem says.
-/
import Derived.Test.YtafonabghnogaaaGreatDoorGrM12
import Derived.Test.YtafonabghnogaaaGreatDoorGrM13
import Derived.Test.YtafonabghnogaaaGreatDoorGrM16
set_option maxRecDepth 100000
set_option maxHeartbeats 16000000
open Bool renaming and_eq_true→Am4,not_false→Am8,not_true→Am9,false_ne_true→An1
open Int renaming tmod_eq_emod_of_nonneg→Al8,tdiv_eq_ediv_of_nonneg→An4
open List renaming not_mem_nil→Al1,getElem?_of_mem→Al4,mem_of_getElem?→Al7,length_append→Al9,mem_cons_self→Am0,mem_map_of_mem→Am1,any_cons→Am5,map_append→Am6,length_map→Am7,length_singleton→An0,mem_append_right→An2,getElem?_map→An3,getElem?_toArray→An5,length_drop→An6
open Nat renaming le_trans→Al2,zero_le→Al3,le_refl→Al6,eq_zero_or_pos→Am2,strongRecOn→Am3
open Go.World renaming size_alloc→Al5
namespace Go.Proofs.YtafonabghnogaaaGreatDoor
section
open Go.RowKit
namespace Oq
def Fk (l m:List Pn):Prop:=∀n'∈m,∃n∈l,n.o=n'.o
theorem Rows.take {cards:List Cd} {l:List Pn} (h:Rows cards l):∀i,Rows cards (l.take i):=by
 induction h with
 |nil=>intro i;rw [List.take_nil];exact .nil
 |snoc l o hl ho ih=>
  intro i
  rcases Nat.lt_or_ge l.length i with hi|hi
  ·
   rw [List.take_of_length_le (by rw [Al9,An0];omega)]
   exact .snoc l o hl ho
  ·
   rw [List.take_append_of_le_length hi]
   exact ih i
theorem Ah3 (l:List Pn) (i:Nat):Fk l (l.take i):=fun n hn=>⟨n,List.mem_of_mem_take hn,rfl⟩
theorem Jb {cards:List Cd} {l m:List Pn} (hl:Rows cards l) (hm:Rows cards m) (hs:Fk l m) {id:Id} {j:Nat} {n':Pn} (hj:plc m id=some j) (hn:m[j]? =some n'):
  ∃i n,plc l id=some i∧l[i]? =some n∧n.o=n'.o:=by
 obtain ⟨n,h1,h2⟩:=hs n' (Al7 hn)
 obtain ⟨i,hi⟩:=Al4 h1
 have e1:=(hl.ok i n hi).id
 have e2:=(hm.ok j n' hn).id
 have e3:=(hm.node hn).1 hj
 refine ⟨i,n,?_,hi,h2⟩
 rw [← e3,e2,← h2,← e1]
 exact (hl.ok i n hi).plc
theorem Sb {cards:List Cd} {l:List Pn} (h:Rows cards l) {a b:Id} {j:Nat} {n:Pn} (hj:plc l b=some j) (hn:l[j]? =some n):bef l a b=true↔∃id∈n.o.past,id=a∨bef l a id=true:=by
 have k:=h.ok j n hn
 rw [bef_iff]
 constructor
 ·
  rintro ⟨i,j',m,h1,h2,h3,h4⟩
  rw [hj] at h2
  injection h2 with e
  subst e
  rw [hn] at h3
  injection h3 with e
  subst e
  obtain ⟨id,hid,p,m,h5,h6,h7⟩:=(k.ps i).1 h4
  refine ⟨id,hid,?_⟩
  rcases h7 with rfl|h7
  ·
   left
   obtain ⟨x,hx,e1⟩:=Bz h5
   obtain ⟨y,hy,e2⟩:=Bz h1
   rw [hx] at hy
   injection hy with e
   rw [← e1,← e2,e]
  ·
   right
   exact bef_iff.2 ⟨i,p,m,h1,h5,h6,h7⟩
 ·
  rintro ⟨id,hid,h1⟩
  obtain ⟨p,hp,hq⟩:=k.par id hid
  obtain ⟨m,hm,e⟩:=Bz hq
  rcases h1 with rfl|h1
  · exact ⟨p,j,n,hq,hj,hn,(k.ps p).2 ⟨id,hid,p,m,hq,hm,.inl rfl⟩⟩
  ·
   obtain ⟨i,p',m',h2,h3,h4,h5⟩:=bef_iff.1 h1
   exact ⟨i,j,n,h2,hj,hn,(k.ps i).2 ⟨id,hid,p',m',h3,h4,.inr h5⟩⟩
theorem Mh {cards:List Cd} {l m:List Pn} (hl:Rows cards l) (hm:Rows cards m) (hs:Fk l m):∀(j:Nat) (b a:Id),plc m b=some j→bef m a b=bef l a b:=by
 intro j
 induction j using Am3 with
 |_ j ih=>
  intro b a hj
  obtain ⟨n',hn',_⟩:=Bz hj
  obtain ⟨i,n,hi,hn,ho⟩:=Jb hl hm hs hj hn'
  rw [Bool.eq_iff_iff,Sb hm hj hn',Sb hl hi hn,ho]
  constructor
  ·
   rintro ⟨id,hid,h⟩
   obtain ⟨p,hp,hq⟩:=(hm.ok j n' hn').par id hid
   exact ⟨id,hid,h.imp zq (fun e=>by rw [← ih p hp id a hq];exact e)⟩
  ·
   rintro ⟨id,hid,h⟩
   obtain ⟨p,hp,hq⟩:=(hm.ok j n' hn').par id hid
   exact ⟨id,hid,h.imp zq (fun e=>by rw [ih p hp id a hq];exact e)⟩
theorem Ah4 {cards:List Cd} {l m:List Pn} (hl:Rows cards l) (hm:Rows cards m) (hs:Fk l m):∀(j:Nat) (b:Id),plc m b=some j→Bq m b=Bq l b:=by
 intro j
 induction j using Am3 with
 |_ j ih=>
  intro b hj
  obtain ⟨n',hn',_⟩:=Bz hj
  obtain ⟨i,n,hi,hn,ho⟩:=Jb hl hm hs hj hn'
  rw [Pc hj hn',Pc hi hn,(hm.ok j n' hn').lev,(hl.ok i n hn).lev,ho]
  refine Kl (fun id hid=> ?_)
  obtain ⟨p,hp,hq⟩:=(hm.ok j n' hn').par id hid
  exact ih p hp id hq
theorem Sc {cards:List Cd} {l m:List Pn} (hl:Rows cards l) (hm:Rows cards m) (hs:Fk l m) {j:Nat} {b:Id} (hj:plc m b=some j):Bn m b=Bn l b:=by
 obtain ⟨n',hn',_⟩:=Bz hj
 obtain ⟨i,n,hi,hn,ho⟩:=Jb hl hm hs hj hn'
 rw [Fv hj hn',Fv hi hn,ho]
theorem Ah5 {l l':List Pn} {ids:List Id} (h:∀id∈ids,Bn l' id=Bn l id):late l' ids=late l ids:=by
 unfold late
 suffices H:∀t:Int,ids.foldl (fun t id=>max t (Bn l' id)) t=ids.foldl (fun t id=>max t (Bn l id)) t from H 0
 induction ids with
 |nil=>intro t;rfl
 |cons x r ih=>intro t;rw [List.foldl_cons,List.foldl_cons,h x Am0];exact ih (fun y hy=>h y (List.mem_cons_of_mem _ hy)) _
theorem Sd {l:List Pn} {ids:List Id} (hlen:l.length≤200):clash l ids=true↔∃x∈ids,∃y∈ids,bef l x y=true:=by
 unfold clash
 rw [List.any_eq_true]
 constructor
 ·
  rintro ⟨q,_,h⟩
  rw [Am4] at h
  obtain ⟨x,hx,h1⟩:=List.any_eq_true.1 h.1
  obtain ⟨y,hy,h2⟩:=List.any_eq_true.1 h.2
  have h1':plc l x=some q:=by simpa using h1
  obtain ⟨p,m,h3,h4,h5⟩:=upB_iff.1 h2
  exact ⟨x,hx,y,hy,bef_iff.2 ⟨q,p,m,h1',h3,h4,h5⟩⟩
 ·
  rintro ⟨x,hx,y,hy,h⟩
  obtain ⟨i,j,m,h1,h2,h3,h4⟩:=bef_iff.1 h
  have:=Dl h1
  refine ⟨i,List.mem_range.2 (by omega),?_⟩
  rw [Am4]
  exact ⟨List.any_eq_true.2 ⟨x,hx,by rw [h1];exact beq_self_eq_true _⟩,List.any_eq_true.2 ⟨y,hy,upB_iff.2 ⟨j,m,h2,h3,h4⟩⟩⟩
theorem Gh {cards:List Cd} {l:List Pn} (h:Rows cards l) {ids:List Id} {q:Nat} {n:Pn} (hq:l[q]? =some n):Ah l ids q=true↔∃id∈ids,(plc l id).isSome=true∧(id=n.id∨bef l n.id id=true):=by
 rw [Km h.few (fun p m hm=>(h.ok p m hm).lt)]
 constructor
 ·
  rintro ⟨id,hid,p,m,h1,h2,h3⟩
  refine ⟨id,hid,by rw [h1];rfl,?_⟩
  rcases h3 with rfl|h3
  ·
   rw [hq] at h2
   injection h2 with e
   subst e
   exact .inl ((h.node hq).1 h1).symm
  · exact .inr (bef_iff.2 ⟨q,p,m,(h.ok q n hq).plc,h1,h2,h3⟩)
 ·
  rintro ⟨id,hid,h1,h2⟩
  obtain ⟨p,hp⟩:=Option.isSome_iff_exists.1 h1
  obtain ⟨m,hm,_⟩:=Bz hp
  refine ⟨id,hid,p,m,hp,hm,?_⟩
  rcases h2 with rfl|h2
  ·
   rw [(h.ok q n hq).plc] at hp
   injection hp with e
   exact .inl e
  ·
   obtain ⟨i,j,m',h3,h4,h5,h6⟩:=bef_iff.1 h2
   rw [(h.ok q n hq).plc] at h3
   injection h3 with e
   subst e
   rw [hp] at h4
   injection h4 with e
   subst e
   rw [hm] at h5
   injection h5 with e
   subst e
   exact .inr h6
theorem Ah6 {l:List Pn} {p:Nat→Bool} {d s:Int} (h0:0<s) (h:∀k m,l[k]? =some m→m.o.by_=d→p k=true→m.o.sq<s):∀K,Be l p d K<s:=by
 intro K
 induction K with
 |zero=>exact h0
 |succ K ih=>
  unfold Be
  split
  ·
   rename_i n hn
   split
   ·
    rename_i hc
    rw [Am4,beq_iff_eq] at hc
    have:=h K n hn hc.1 hc.2
    omega
   · exact ih
  · exact ih
theorem Ah7 {cards:List Cd} {l m:List Pn} {o:Op} (hl:Rows cards l) (hm:Rows cards m) (hp:∀id∈o.past,(plc m id).isSome=true∧(plc l id).isSome=true∧∀a,bef m a id=bef l a id) (h0:Az l (Ah l o.past) o=false):Az m (Ah m o.past) o=false:=by
 unfold Az at h0 ⊢
 rw [Bool.or_eq_false_iff,decide_eq_false_iff_not] at h0 ⊢
 obtain ⟨h1,h2⟩:=h0
 have key:∀(q:Nat) (n:Pn),m[q]? =some n→Ah m o.past q=true→∃q' n',l[q']? =some n'∧Ah l o.past q'=true∧n'.id=n.id:=by
  intro q n hq hps
  obtain ⟨id,hid,_,h4⟩:=(Gh hm hq).1 hps
  obtain ⟨_,h6,h7⟩:=hp id hid
  rcases h4 with rfl|h4
  ·
   obtain ⟨q',hq'⟩:=Option.isSome_iff_exists.1 h6
   obtain ⟨n',hn',e⟩:=Bz hq'
   exact ⟨q',n',hn',(Gh hl hn').2 ⟨n.id,hid,h6,.inl e.symm⟩,e⟩
  ·
   rw [h7] at h4
   obtain ⟨i,j,x,h8,_⟩:=bef_iff.1 h4
   obtain ⟨n',hn',e⟩:=Bz h8
   exact ⟨i,n',hn',(Gh hl hn').2 ⟨id,hid,h6,.inr (by rw [e];exact h4)⟩,e⟩
 have yek:∀(q:Nat) (n:Pn),l[q]? =some n→Ah l o.past q=true→∃q' n',m[q']? =some n'∧Ah m o.past q'=true∧n'.id=n.id:=by
  intro q n hq hps
  obtain ⟨id,hid,_,h4⟩:=(Gh hl hq).1 hps
  obtain ⟨h6,_,h7⟩:=hp id hid
  rcases h4 with rfl|h4
  ·
   obtain ⟨q',hq'⟩:=Option.isSome_iff_exists.1 h6
   obtain ⟨n',hn',e⟩:=Bz hq'
   exact ⟨q',n',hn',(Gh hm hn').2 ⟨n.id,hid,h6,.inl e.symm⟩,e⟩
  ·
   rw [← h7] at h4
   obtain ⟨i,j,x,h8,_⟩:=bef_iff.1 h4
   obtain ⟨n',hn',e⟩:=Bz h8
   exact ⟨i,n',hn',(Gh hm hn').2 ⟨id,hid,h6,.inr (by rw [e];exact h4)⟩,e⟩
 have h0':0<o.sq:=by
  have:0≤Be l (Ah l o.past) o.by_ l.length:=by
   have h0:∀K,0≤Be l (Ah l o.past) o.by_ K:=by
    intro K
    induction K with
    |zero=>exact Int.le_refl _
    |succ K ih=>
     unfold Be
     split
     ·
      split
      · exact Int.le_trans ih (Int.le_max_left _ _)
      · exact ih
     · exact ih
   exact h0 _
  omega
 constructor
 ·
  refine Int.not_le.2 (Ah6 h0' (fun k n hk hb hps=> ?_) _)
  obtain ⟨q',n',h3,h4,h5⟩:=key k n hk hps
  obtain ⟨e1,e2⟩:=hm.idAt hk
  obtain ⟨e3,e4⟩:=hl.idAt h3
  have h6:=Kn (p:=Ah l o.past) (d:=o.by_) (List.getElem?_eq_some_iff.1 h3).1 h3 (by rw [← e3,h5,e1,hb]) h4
  rw [← e2,← h5,e4]
  omega
 ·
  rw [Bool.and_eq_false_iff] at h2 ⊢
  refine h2.imp zq (fun e=> ?_)
  rw [Bool.not_eq_false'] at e ⊢
  obtain ⟨k,n,_,h3,h4,h5,h6⟩:=aheadTo_iff.1 e
  obtain ⟨q',n',h7,h8,h9⟩:=yek k n h3 h5
  obtain ⟨e1,e2⟩:=hl.idAt h3
  obtain ⟨e3,e4⟩:=hm.idAt h7
  exact aheadTo_iff.2 ⟨q',n',(List.getElem?_eq_some_iff.1 h7).1,h7,by rw [← e3,h9,e1,h4],h8,by rw [← e4,h9,e2,h6]⟩
theorem Se {cards:List Cd} {l:List Pn} {o:Op} (h:Aj cards l o=0):(∃c,Bk cards o.by_=some c∧Sg.check c.s o.bare o.r o.s=true)∧(o.kind=1→l=[]):=by
 unfold Aj at h
 by_cases h1:o.chk≠0
 · rw [if_pos h1] at h;exact absurd h h1
 rw [if_neg h1] at h
 by_cases h2:(plc l o.name).isSome=true
 · rw [if_pos h2] at h;omega
 rw [if_neg h2] at h
 by_cases h3:200≤l.length
 · rw [if_pos h3] at h;omega
 rw [if_neg h3] at h
 cases hc:Bk cards o.by_ with
 |none=>rw [hc] at h;dsimp only at h;omega
 |some c=>
  rw [hc] at h
  dsimp only at h
  by_cases h4:Sg.check c.s o.bare o.r o.s=false
  · rw [if_pos h4] at h;omega
  rw [if_neg h4] at h
  by_cases h5:o.kind=1∧l≠[]
  · rw [if_pos h5] at h;omega
  refine ⟨⟨c,rfl,Bool.not_eq_false _▸h4⟩,fun hk=> ?_⟩
  exact Decidable.byContradiction fun hne=>h5 ⟨hk,hne⟩
theorem Ah8 {o:Op} (h:o.chk=0):o.past=[]↔o.kind=1:=(chk_ok.1 h).2.2.2.2.2.2
theorem Rows.first {cards:List Cd} {l:List Pn} (h:Rows cards l) {i:Nat} {n:Pn} (hi:l[i]? =some n):n.o.kind=1↔i=0:=by
 constructor
 ·
  intro hk
  have h1:=(Se (h.step hi).1).2 hk
  have h2:=(List.getElem?_eq_some_iff.1 hi).1
  have h3:=congrArg List.length h1
  rw [List.length_take,List.length_nil] at h3
  omega
 ·
  rintro rfl
  refine (Ah8 (h.ok 0 n hi).chk).1 ?_
  cases hp:n.o.past with
  |nil=>rfl
  |cons x r=>
   obtain ⟨p,hp,_⟩:=(h.ok 0 n hi).par x (by rw [hp];exact Am0)
   omega
theorem Ah9 {cards:List Cd} {l m:List Pn} (hl:Rows cards l) (hm:Rows cards m) (hs:Fk l m) {i:Nat} {n:Pn} (hi:l[i]? =some n) (hnew:plc m n.id=none) (hroom:m.length<200):
  Aj cards m n.o=if n.o.past.any (fun id=>(plc m id).isNone)=true then 10 else 0:=by
 have k:=hl.ok i n hi
 have hstep:=(hl.step hi).1
 obtain ⟨⟨c,hc,hsg⟩,hkd⟩:=Se hstep
 have hT:=Gv hstep
 have h1:¬n.o.chk≠0:=fun h=>h k.chk
 have h2:¬(plc m n.o.name).isSome=true:=by rw [← k.id,hnew];exact An1
 have h5:¬(n.o.kind=1∧m≠[]):=by
  rintro ⟨hk,hne⟩
  have e0:=(hl.first hi).1 hk
  cases hm0:m[0]? with
  |none=>
   rw [List.getElem?_eq_none_iff] at hm0
   exact hne (List.length_eq_zero_iff.1 (by omega))
  |some n'=>
   have hk':=(hm.first hm0).2 rfl
   obtain ⟨j,n2,h6,h7,h8⟩:=Jb hl hm hs (hm.ok 0 n' hm0).plc hm0
   rw [← h8] at hk'
   have e1:=(hl.first h7).1 hk'
   rw [e1,← e0,hi] at h7
   injection h7 with h7
   have h9:=(hm.ok 0 n' hm0).plc
   have e3:n'.id=n.id:=by rw [(hm.ok 0 n' hm0).id,k.id,h7,h8]
   rw [e3,hnew] at h9
   cases h9
 unfold Aj
 rw [if_neg h1,if_neg h2,if_neg (by omega),hc]
 dsimp only
 rw [if_neg (by rw [hsg];decide),if_neg h5]
 by_cases hp:n.o.past.any (fun id=>(plc m id).isNone)=true
 · rw [if_pos hp,if_pos hp]
 rw [if_neg hp,if_neg hp]
 have hpar:∀id∈n.o.past,∃j,plc m id=some j:=by
  intro id hid
  cases hq:plc m id with
  |some j=>exact ⟨j,rfl⟩
  |none=>exact absurd (List.any_eq_true.2 ⟨id,hid,by rw [hq];rfl⟩) hp
 have hl0:=hl.take i
 have hs0:=Ah3 l i
 have hbm:∀id∈n.o.past,∀a,bef m a id=bef (l.take i) a id:=by
  intro id hid a
  obtain ⟨j,hj⟩:=hpar id hid
  obtain ⟨p,hp⟩:=hT.past id hid
  rw [Mh hl hm hs j id a hj,Mh hl hl0 hs0 p id a hp]
 have h7:¬(clash m n.o.past=true∨n.o.at_<late m n.o.past):=by
  rintro (h|h)
  ·
   obtain ⟨x,hx,y,hy,hb⟩:=(Sd hm.few).1 h
   rw [hbm y hy] at hb
   have:=(Sd hl0.few).2 ⟨x,hx,y,hy,hb⟩
   rw [hT.clash] at this
   cases this
  ·
   have e:late m n.o.past=late (l.take i) n.o.past:=Ah5 (fun id hid=>by
    obtain ⟨j,hj⟩:=hpar id hid
    obtain ⟨p,hp⟩:=hT.past id hid
    rw [Sc hl hm hs hj,Sc hl hl0 hs0 hp])
   rw [e] at h
   exact absurd hT.late (Int.not_le.2 h)
 have h8:Az m (Ah m n.o.past) n.o=false:=Ah7 hl0 hm (fun id hid=>by
  obtain ⟨j,hj⟩:=hpar id hid
  obtain ⟨p,hp⟩:=hT.past id hid
  exact ⟨by rw [hj];rfl,by rw [hp];rfl,hbm id hid⟩) hT.seq
 rw [if_neg h7,h8]
 rfl
def ready (m:List Pn) (o:Op):Bool:=!o.past.any (fun id=>(plc m id).isNone)
theorem Ai0 (m:List Pn) (ids:List Id):ids.any (fun id=>(plc m id).isNone)=!(ids.filter (fun id=> !(plc m id).isSome)).isEmpty:=by
 induction ids with
 |nil=>rfl
 |cons x r ih=>
  rw [Am5,List.filter_cons]
  cases hx:plc m x with
  |none=>simp
  |some j=>simpa using ih
structure Ch (cards:List Cd) (l m:List Pn) (left:List Op):Prop where
 rl:Rows cards l
 rm:Rows cards m
 perm:(m.map Pn.o++left).Perm (l.map Pn.o)
theorem Ch.among {cards:List Cd} {l m:List Pn} {left:List Op} (h:Ch cards l m left):Fk l m:=by
 intro n' hn
 have h1:n'.o∈l.map Pn.o:=h.perm.mem_iff.1 (List.mem_append_left _ (Am1 hn))
 obtain ⟨n,h2,h3⟩:=List.mem_map.1 h1
 exact ⟨n,h2,h3⟩
theorem Rows.names {cards:List Cd} {l:List Pn} (h:Rows cards l):(l.map Pn.o).map Op.name=l.map Pn.id:=by
 rw [List.map_map]
 refine List.map_congr_left (fun n hn=> ?_)
 obtain ⟨i,hi⟩:=Al4 hn
 exact (h.ok i n hi).id.symm
theorem Ch.nodup {cards:List Cd} {l m:List Pn} {left:List Op} (h:Ch cards l m left):(m.map Pn.id++left.map Op.name).Nodup:=by
 have h1:=h.perm.map Op.name
 rw [Am6,h.rm.names,h.rl.names] at h1
 exact h1.nodup_iff.2 h.rl.nodup
theorem Ch.of {cards:List Cd} {l m:List Pn} {left:List Op} (h:Ch cards l m left) {o:Op} (ho:o∈left):∃(i:Nat) (n:Pn),l[i]? =some n∧n.o=o∧plc m n.id=none:=by
 have h1:o∈l.map Pn.o:=h.perm.mem_iff.1 (An2 _ ho)
 obtain ⟨n,h2,h3⟩:=List.mem_map.1 h1
 obtain ⟨i,hi⟩:=Al4 h2
 refine ⟨i,n,hi,h3,?_⟩
 cases hp:plc m n.id with
 |none=>rfl
 |some j=>
  obtain ⟨n',hn',e⟩:=Bz hp
  have h4:=(List.nodup_append.1 h.nodup).2.2 n'.id (Am1 (Al7 hn')) o.name (Am1 ho)
  rw [e,(h.rl.ok i n hi).id,h3] at h4
  exact absurd rfl h4
theorem Ch.err {cards:List Cd} {l m:List Pn} {left:List Op} (h:Ch cards l m left) (hlen:l.length<200) {o:Op} (ho:o∈left):Aj cards m o=if ready m o=true then 0 else 10:=by
 obtain ⟨i,n,h1,rfl,h3⟩:=h.of ho
 have hle:m.length≤l.length:=by
  have:=h.perm.length_eq
  rw [Al9,Am7,Am7] at this
  omega
 rw [Ah9 h.rl h.rm h.among h1 h3 (by omega)]
 unfold ready
 cases n.o.past.any (fun id=>(plc m id).isNone)<;>rfl
theorem Ch.take {cards:List Cd} {l m:List Pn} {left:List Op} (h:Ch cards l m left) (hlen:l.length<200) {k:Nat} {o:Op} (hk:left[k]? =some o) (hr:ready m o=true):Ch cards l (m++[Av m o]) (left.eraseIdx k):=by
 have he:=h.err hlen (Al7 hk)
 rw [if_pos hr] at he
 refine ⟨h.rl,.snoc m o h.rm he,?_⟩
 refine List.Perm.trans ?_ h.perm
 rw [Am6,List.append_assoc]
 refine List.Perm.append_left _ ?_
 obtain ⟨hlt,rfl⟩:=List.getElem?_eq_some_iff.1 hk
 rw [List.eraseIdx_eq_take_drop_succ]
 conv=>rhs;rw [← List.take_append_drop k left,List.drop_eq_getElem_cons hlt]
 exact (List.perm_middle (a:=left[k]) (l₁:=left.take k) (l₂:=left.drop (k+1))).symm
theorem Ch.nextOne {cards:List Cd} {l m:List Pn} {left:List Op} (h:Ch cards l m left) (hne:left≠[]):∃(k:Nat) (o:Op),left[k]? =some o∧ready m o=true:=by
 refine Classical.byContradiction fun hno=> ?_
 have hall:∀(i:Nat) (n:Pn),l[i]? =some n→n.o∉left:=by
  intro i
  induction i using Am3 with
  |_ i ih=>
   intro n hi hin
   obtain ⟨k,hk⟩:=Al4 hin
   refine hno ⟨k,n.o,hk,?_⟩
   unfold ready
   rw [Bool.not_eq_true',List.any_eq_false]
   intro id hid
   obtain ⟨p,hp,hq⟩:=(h.rl.ok i n hi).par id hid
   obtain ⟨n2,hn2,e⟩:=Bz hq
   have h1:n2.o∈l.map Pn.o:=Am1 (Al7 hn2)
   rcases List.mem_append.1 (h.perm.mem_iff.2 h1) with h2|h2
   ·
    obtain ⟨n3,h3,h4⟩:=List.mem_map.1 h2
    obtain ⟨j,hj⟩:=Al4 h3
    have e2:n3.id=id:=by rw [(h.rm.ok j n3 hj).id,h4,← (h.rl.ok p n2 hn2).id,e]
    have:=(h.rm.ok j n3 hj).plc
    rw [e2] at this
    rw [this]
    exact An1
   · exact absurd h2 (ih p hp n2 hn2)
 cases left with
 |nil=>exact hne rfl
 |cons o r=>
  have h1:o∈l.map Pn.o:=h.perm.mem_iff.1 (An2 _ Am0)
  obtain ⟨n,h2,rfl⟩:=List.mem_map.1 h1
  obtain ⟨i,hi⟩:=Al4 h2
  exact hall i n hi Am0
def Tried (m:List Pn) (left:List Op) (i:Nat):Prop:=
 ∃j,i≤60+14*(14-left.length)+j∧(0<j→60+j≤i∧j<left.length∧∀t,t<j→∀o,left[(i-1-t)%left.length]? =some o→ready m o=false)
theorem Tried.few {m:List Pn} {left:List Op} {i:Nat} (h:Tried m left i) (hlen:left.length≤14) (hne:left≠[]):i<400:=by
 obtain ⟨j,h1,h2⟩:=h
 have h3:0<left.length:=List.length_pos_iff.2 hne
 rcases Am2 j with h0|h0
 · omega
 ·
  have:=(h2 h0).2.1
  omega
theorem Tried.miss {cards:List Cd} {l m:List Pn} {left:List Op} {i k:Nat} {o:Op} (h:Tried m left i) (hR:Ch cards l m left) (hlen:left.length≤14) (hk:left[k]? =some o) (hi:60≤i→k=i%left.length) (hr:ready m o=false):Tried m left (i+1):=by
 obtain ⟨j,h1,h2⟩:=h
 rcases Nat.lt_or_ge i 60 with h60|h60
 · exact ⟨0,by omega,fun e=>absurd e (Nat.lt_irrefl 0)⟩
 have hk':=hi h60
 have hlt:=(List.getElem?_eq_some_iff.1 hk).1
 have htried:∀t,t<j+1→∀o',left[(i+1-1-t)%left.length]? =some o'→ready m o'=false:=by
  intro t ht o' ho'
  rcases Am2 t with rfl|h0
  ·
   rw [show i+1-1-0=i by omega,← hk',hk] at ho'
   injection ho' with e
   rw [← e]
   exact hr
  ·
   rw [show i+1-1-t=i-1-(t-1) by omega] at ho'
   exact (h2 (by omega)).2.2 (t-1) (by omega) o' ho'
 refine ⟨j+1,by omega,fun _=>⟨?_,?_,htried⟩⟩
 ·
  rcases Am2 j with h0|h0
  · omega
  ·
   have:=(h2 h0).1
   omega
 ·
  refine Decidable.byContradiction fun hge=> ?_
  obtain ⟨p,o',hp,hro⟩:=hR.nextOne (fun e=>by rw [e] at hlt;exact absurd hlt (Nat.not_lt_zero _))
  have hpl:=(List.getElem?_eq_some_iff.1 hp).1
  have hpos:0<left.length:=by omega
  have ht:(i-p)%left.length<left.length:=Nat.mod_lt _ hpos
  have e:(i+1-1-(i-p)%left.length)%left.length=p:=by
   have h3:=Nat.div_add_mod (i-p) left.length
   have h4:i+1-1-(i-p)%left.length=p+left.length*((i-p)/left.length):=by omega
   rw [h4,Nat.add_mul_mod_self_left,Nat.mod_eq_of_lt hpl]
  have:=htried ((i-p)%left.length) (by omega) o' (by rw [e];exact hp)
  rw [hro] at this
  cases this
theorem Tried.hit {m m':List Pn} {left:List Op} {i k:Nat} (h:Tried m left i) (hlen:left.length≤14) (hk:k<left.length):Tried m' (left.eraseIdx k) (i+1):=by
 obtain ⟨j,h1,h2⟩:=h
 have h3:(left.eraseIdx k).length=left.length-1:=List.length_eraseIdx_of_lt hk
 refine ⟨0,?_,fun e=>absurd e (Nat.lt_irrefl 0)⟩
 rw [h3]
 rcases Am2 j with h0|h0
 · omega
 ·
  have:=(h2 h0).2.1
  omega
theorem Ch.ends {cards:List Cd} {l m:List Pn} (h:Ch cards l m []):(m.map Pn.id).Perm (l.map Pn.id):=by
 have h1:=h.perm.map Op.name
 rw [List.append_nil,h.rm.names,h.rl.names] at h1
 exact h1
theorem Ch.lev {cards:List Cd} {l m:List Pn} (h:Ch cards l m []) {x:Id} (hx:x∈l.map Pn.id):Bq m x=Bq l x:=by
 obtain ⟨n,h1,rfl⟩:=List.mem_map.1 (h.ends.mem_iff.2 hx)
 obtain ⟨j,hj⟩:=Al4 h1
 exact Ah4 h.rl h.rm h.among j _ (h.rm.ok j n hj).plc
theorem Sf {cards:List Cd} {l:List Pn} (h:Rows cards l) {x id:Id}:id∈Bi l (Ao l [x]) l.length↔bef l id x=true:=by
 rw [Ah2,bef_iff]
 unfold Ao
 constructor
 ·
  rintro ⟨i,n,h1,h2,rfl⟩
  rw [Am5,List.any_nil,Bool.or_false] at h1
  obtain ⟨p,m,h3,h4,h5⟩:=upB_iff.1 h1
  exact ⟨i,p,m,(h.ok i n h2).plc,h3,h4,h5⟩
 ·
  rintro ⟨i,j,m,h1,h2,h3,h4⟩
  obtain ⟨n,hn,e⟩:=Bz h1
  refine ⟨i,n,?_,hn,e⟩
  rw [Am5,List.any_nil,Bool.or_false]
  exact upB_iff.2 ⟨j,m,h2,h3,h4⟩
theorem Ch.past {cards:List Cd} {l m:List Pn} (h:Ch cards l m []) {x:Id} (hx:x∈l.map Pn.id):(Bi m (Ao m [x]) m.length).Perm (Bi l (Ao l [x]) l.length):=by
 obtain ⟨n,h1,rfl⟩:=List.mem_map.1 (h.ends.mem_iff.2 hx)
 obtain ⟨j,hj⟩:=Al4 h1
 refine (List.perm_ext_iff_of_nodup (Mc h.rm _ _) (Mc h.rl _ _)).2 fun id=> ?_
 rw [Sf h.rm,Sf h.rl,Mh h.rl h.rm h.among j _ _ (h.rm.ok j n hj).plc]
def nxL (y:OpL) (A:Option Addr) (c:Nat) (ids:List Id) (s a:Int):OpL:={y with pastA:=A,pastC:=c,past:=ids,sq:=s,at_:=a}
theorem Ai1 {y:OpL} {A:Option Addr} {c:Nat} {ids:List Id} {s a:Int} (h:y.op.ok) (hi:ids.length≤1000∧∀x∈ids,x.ok) (hs:I64 s) (ha:I64 a):(nxL y A c ids s a).op.ok where
 by_:=h.by_
 sq:=hs
 kind:=h.kind
 at_:=ha
 past:=hi
 dev:=h.dev
 old:=h.old
 mem:=h.mem
 role:=h.role
 path:=h.path
 epoch:=h.epoch
 n:=h.n
 body:=h.body
 refs:=h.refs
 of:=h.of
 guards:=h.guards
 need:=h.need
 wait:=h.wait
 boxes:=h.boxes
 pub:=h.pub
 hist:=h.hist
 r:=h.r
 s:=h.s
theorem Ai2 {y:OpL} {A:Option Addr} {c:Nat} {ids:List Id} {s a:Int} {w:World} {base:Nat} (h:y.own w base) (hi:RowAt w base 38 3 A ids.length c (ids.flatMap Id.cells)):(nxL y A c ids s a).own w base:=
 ⟨hi,h.path,h.nodes,h.body,h.refs,h.guards,h.boxes,h.hist,h.seals⟩
def fsL (d a v:Int) (A:Option Addr):OpL:={OpL.zero with by_:=d,sq:=1,kind:=1,at_:=a,pathA:=A,pathC:=1,path:=[⟨5,none,0,[]⟩],need:=v}
theorem Ai3 {d a v:Int} {A:Option Addr} (hd:I64 d) (ha:I64 a) (hv:I64 v):(fsL d a v A).op.ok:=
 ⟨hd,(show I64 1 from ⟨by decide,by decide⟩),(show I64 1 from ⟨by decide,by decide⟩),ha,⟨Al3 _,fun _ h=>absurd h Al1⟩,z64,z64,z64,z64,⟨by show (1:Nat)≤1000;decide,fun x hx=>by obtain rfl:=List.mem_singleton.1 hx;exact Gg 5 (by decide)⟩,⟨z64,z64,E7⟩,z64,Al3 _,⟨Al3 _,fun _ h=>absurd h Al1⟩,⟨z64,z64,E7⟩,
  ⟨Al3 _,fun _ h=>absurd h Al1⟩,hv,z64,⟨Al3 _,fun _ h=>absurd h Al1⟩,E7,⟨Al3 _,fun _ h=>absurd h Al1⟩,E7,E7⟩
theorem Ai4 {d a v:Int} {A:Option Addr} {w:World} {base:Nat} (h:RowAt w base 103 2 A 1 1 (([⟨5,none,0,[]⟩]:List NdL).flatMap NdL.cells)):(fsL d a v A).own w base:=
 ⟨RowAt.nil _ _ _ _,h,(fun y hy=>by obtain rfl:=List.mem_singleton.1 hy;exact RowAt.nil _ _ _ _),RowAt.nil _ _ _ _,RowAt.nil _ _ _ _,RowAt.nil _ _ _ _,RowAt.nil _ _ _ _,RowAt.nil _ _ _ _,(fun _ h=>absurd h Al1)⟩
theorem OpL.own.opBlk {x:OpL} {w w':World} {base g:Nat} {cs:Array Value} (h:x.own w base) (hb:Blk w g 44 cs) (hf:Fr (One g) w w'):x.own w' base:=
 h.keep hf ((Types.one hb).mono (fun _ e=> .inl e))
theorem Mi {w:World} {g i:Nat} (u:Value):Fr (One g) w (w.setCell ⟨g,i,none⟩ u):=(Fr.refl (One g) w).setCell (p:=⟨g,i,none⟩) (fun _=>rfl) u
theorem Dh {w:World} {g:Nat} (cs:Array Value):Fr (One g) w (w.setRow g cs):=(Fr.refl (One g) w).setRow (fun _=>rfl) cs
def Mj (o:Op) (base:Nat) (w:World) (e:Ending) (w':World):Prop:=∃y:OpL,e=.returned (.agg y.cells)∧y.op=sgn o∧y.own w' base∧Fr Non w w'
theorem Sh (x:OpL) (d base:Nat) (w:World) (hd:x.by_=(d:Int)) (hd':d≤1000) (ho:x.own w base) (hok:x.op.ok):
  Calls Tryz.prog 15 #[.agg x.cells] w (Mj x.op base w):=by
 have h:=Kj x d w (by rw [hd,IntKind.wrap_u64];omega) (by omega) ho.at hok
 refine Calls.mono h ?_
 rintro r w' ⟨h1,h2⟩
 exact ⟨_,h1,Lo x x.op rfl d (by show x.by_.toNat=d;omega) _ rfl,Lp (ho.non h2) _ _,h2⟩
theorem Ai5 {cards:List Cd} (hc:cards=Bg 0 [1,2,3,1]) {d:Int} (hd:1≤d∧d≤4):∃c,Bk cards d=some c∧c.s=Sg.pub (sec Bc d.toNat):=by
 subst hc
 have h4:d=1∨d=2∨d=3∨d=4:=by omega
 rcases h4 with rfl|rfl|rfl|rfl
 · exact ⟨Bw 0 1,rfl,rfl⟩
 · exact ⟨Bw 1 2,rfl,rfl⟩
 · exact ⟨Bw 2 3,rfl,rfl⟩
 · exact ⟨Bw 3 1,rfl,rfl⟩
theorem Ai6 {cards:List Cd} (hc:cards=Bg 0 [1,2,3,1]) {d a v:Int} (hd:1≤d∧d≤4) (ha:0≤a∧a≤4) (hv:0≤v∧v≤4):Aj cards [] (sgn (Ja d a v))=0:=by
 obtain ⟨c,h1,h2⟩:=Ai5 hc hd
 exact Ag5 ⟨by omega,by omega⟩ ⟨by omega,by omega⟩ ⟨by omega,by omega⟩ h1 h2
def Mk (cards:List Cd) (l:List Pn) (w:World) (e:Ending) (w':World):Prop:=
 ∃y:OpL,e=.returned (.agg y.cells)∧y.op.ok∧y.own w' w.heap.size∧Fr Non w w'∧(l=[]→Aj cards [] y.op=0)
end Oq
end
section
open Go.RowKit
attribute [local go_sem ↓] Go.wp_at_zero Go.wp_at_succ
namespace Oq
attribute [local go_sem] Am8 Am9
attribute [local go_sem ↓] Ew Ci Ef
theorem Ai7 {f:Operand→Value} {d:Option Tmp} {pos:String} {after:Array Edge} {D a v:Int} {A:Option Addr} {w:World} (h0:f (.tmp 45)=.int .i64 D) (h1:f (.tmp 49)=.int .i64 a) (h2:f (.tmp 53)=.int .i64 v) (h3:f (.tmp 55)=.slice A 1 1) (h4:∀v,f (.const v)=v):
  Sem.run Tryz.prog (execOp f ⟨d,.build 44 #[(0,.tmp 45),(2,.const (.int .i64 1)),(1,.const (.int .i64 1)),(3,.tmp 49),(16,.tmp 53),(9,.tmp 55)],44,pos,after,none⟩) w=Result.ok (Next.value (.agg (fsL D a v A).cells)) w:=by
 go_simp
 rfl
theorem Ai8 (base B n c:Nat) (r:RG) (A:Option Addr) (l0:List Int) (w:World) (h:r.own w base) (hcs:r.cards=Bg 0 [1,2,3,1]) (hn:Hid (l0.length=n)) (hr:Rd w B 1 A n (l0.map Iv)) (hok:∀x∈l0,I64 x):
  Calls Tryz.prog 31 #[.agg r.cells,.slice A n c] w (Mk r.cards r.l w):=by
 have hfew:=h.few
 have hnc:r.cards.length=4:=by rw [hcs];rfl
 have hi:(Tryz.prog.info? 44).map (·.size)=some 27:=by kernel_rfl
 have bg:=(Blk.new w 32 r.cells).alloc (.cells zO 44)
 have br:=Blk.new (w.alloc (.cells r.cells 32)) 44 zO
 rw [Al5] at br
 have f0:Fr Non w ((w.alloc (.cells r.cells 32)).alloc (.cells zO 44)):=((Fr.refl Non w).alloc _).alloc _
 have sz0:w.heap.size+2≤((w.alloc (.cells r.cells 32)).alloc (.cells zO 44)).heap.size:=by
  rw [Al5,Al5]
  exact Al6 _
 have hl:=Bd (P:=Tryz.prog) w.heap.size 32 Tryz.underlying32 rfl (cs:=r.cells) Dg
 have kA:=Lib.hid (fun (w':World) (hf:Fr Non w w')=>Ri base r w' (h.non hf))
 have kH:=Lib.hid (fun (B' n' c':Nat) (A':Option Addr) (ids:List Id) (w':World) (hf:Fr Non w w') hn hr hnm=>Ac9 base r B' n' c' A' ids w' (h.non hf) hn hr hnm)
 have kC:=Lib.hid (fun (B' n' c':Nat) (A':Option Addr) (l1:List Int) (w':World) (hf:Fr Non w w') hn hr hnm=>Ad8 base r B' n' c' A' l1 w' (h.non hf) hn hr hnm)
 have kS:=Lib.hid (fun (B' n' c':Nat) (A':Option Addr) (ids:List Id) (d:Int) (w':World) hn hr hnm hs=>Ac2 r.cells B' n' c' A' ids d w' hn hr hnm hs)
 have kL:=Lib.hid (fun (B' n' c':Nat) (A':Option Addr) (ids:List Id) (w':World) (hf:Fr Non w w') hn hr hnm=>Ac3 base r B' n' c' A' ids w' (h.non hf) hn hr hnm)
 have kO:=Lib.hid (fun (b:Int) (m:Nat) (w':World) hb hn=>Ag2 b m w' hb hn)
 have kar:=Lib.hid (fun (x:Int) (hx:x∈l0) (w':World)=>Jk x 1000000 w' (hok x hx).1 (hok x hx).2 (by decide) (by decide))
 have hpl:Hid (∀ids:List Id,(∀id∈ids,(plc r.l id).isSome=true)→ids.length≤200→(E4 r.l ids).length≤1000∧(∀x∈E4 r.l ids,x.ok)∧(∀x∈ids,x.s≤2147483647)∧(∀d k,0≤Cg ids d k∧Cg ids d k≤2147483647)∧0≤late r.l ids∧late r.l ids≤2147483647):=by
  intro ids h1 h2
  have hs:∀x∈ids,x.s≤2147483647:=fun x hx=>(R4 h.rows h.ok (h1 x hx)).2.2
  have hb:=Ag6 h.rows ids
  refine ⟨?_,fun x hx=>(R4 h.rows h.ok (h1 x (Ag7 hx).1)).1,hs,fun d k=>Rk (by omega) hs k,hb⟩
  have:=Ag8 r.l ids
  omega
 have hallp:Hid ((∀id∈Am r.ids,(plc r.l id).isSome=true)∧(Am r.ids).length=r.l.length):=by
  have hcl:=Rr h.rows
  exact ⟨hcl.2,by rw [E3];show (r.l.map Pn.id).length=_;rw [Am7]⟩
 have hclp:Hid (∀cs,Ec r.l cs→(∀id∈cs,(plc r.l id).isSome=true)∧cs.length≤200):=fun cs hc=>⟨hc.2,Al2 (Ag9 h.rows hc) hfew⟩
 have hfst:=Lib.hid (fun (d a v:Int) (hd:1≤d∧d≤4) (ha:0≤a∧a≤4) (hv:0≤v∧v≤4)=>Ai6 hcs hd ha hv)
 have hfin:Hid (∀(y:OpL) (wy wz:World),y.op.ok→y.own wy (w.heap.size+2)→Fr Non w wy→Blk wy (w.heap.size+1) 44 zO→Fr (One (w.heap.size+1)) wy wz→(r.l=[]→Aj r.cards [] y.op=0)→Mk r.cards r.l w (.returned (.agg y.cells)) wz):=by
  intro y wy wz h1 h2 h3 h4 h5 h6
  refine ⟨y,rfl,h1,(h2.opBlk h4 h5).lower (by omega),h3.trans h5 (fun k hk e=>absurd hk (by have e2:k=w.heap.size+1:=e;omega)),h6⟩
 have g0:Hid (r.cells[0]? =some (.slice r.cA r.cards.length r.cC)):=rfl
 have g1:Hid (r.cells[1]? =some (.slice r.lA r.l.length r.lC)):=rfl
 rw [hnc] at g0
 have hNl:Hid (r.l.length=0→r.l=[]):=fun e=>List.length_eq_zero_iff.1 e
 have hNl2:Hid (r.l=[]→r.l.length=0):=fun e=>by show _=_;rw [e];rfl
 clear h hcs hnc
 generalize Mk r.cards r.l w=POST at*
 unfold En at kA
 generalize Am r.ids=SI at*
 generalize r.lA=LA at*
 generalize r.lC=LC at*
 generalize r.cA=CA at*
 generalize r.cC=CC at*
 generalize r.cells=CS at*
 generalize r.cards=CD at*
 generalize r.l=l at*
 obtain ⟨N,hN⟩:=Aa l.length
 rw [hN.out] at kA g1 hfew hallp hNl hNl2
 clear hN
 go_enter Tryz.func31,Tryz.ntmps31
 go_upto_region 1 with (fail)
 generalize (w.alloc (.cells CS 32)).alloc (.cells zO 44)=w0 at*
 go_wp2_with (fail)
 go_loopw [5,6] (fun s v wr=>∃(j:Nat) (Ax:Option Addr) (cx:Nat) (ks:List Nat),v=.int .i64 (j:Int)∧s=.slice Ax j cx∧j≤4∧Hid (ks.length=j)∧Hid (∀x∈ks,x<1000000)∧Own wr w0.heap.size 3 1 Ax j cx (ks.map Qv)∧Fr Non w0 wr) (fun _ v _=>4-(intOf v).toNat)
 case atStart=>exact ⟨0,none,0,[],rfl,rfl,by omega,rfl,fun x hx=>absurd hx Al1,Own.nil _ _ _ _,Fr.refl _ _⟩
 case round=>
 obtain ⟨j,Ax,cx,ks,rfl,rfl,hj,hkl,hkb,hown,hf⟩:=hrel
 have hfw:Fr Non w wr:=f0.trans hf zr
 by_cases hlt:j<4
 ·
  have i1:decide ((j:Int)<4)=true:=decide_eq_true (by omega)
  have szr:=Al2 sz0 hf.size
  have hrow:=hown.row
  clear hfin kA kH kC kS kL kO hpl hallp hclp hfst hNl hNl2 g0 g1 bg br
  as_aux_lemma=>
  go_upto_if 17 with (fail)
  go_cut [7] from 17 to 22 (fun s wc=>∃q:Nat,s=.int .i64 (q:Int)∧q<1000000∧Own wc w0.heap.size 3 1 Ax j cx (ks.map Qv)∧Fr Non w0 wc)
  case first=>
   by_cases hjn:j<n
   ·
    obtain ⟨b,off,u,rfl,hbB,hu,c0⟩:=hr.at hjn
    obtain ⟨x,hx⟩:∃x,l0[j]? =some x:=⟨_,List.getElem?_eq_getElem (by rw [hn.out];exact hjn)⟩
    rw [An3,hx] at hu
    injection hu with hu
    subst hu
    replace c0:w.cell? ⟨b,off+j,none⟩=some (.int .i64 x):=c0
    have c1:=hfw.cell c0 zq
    have kx:=Lib.hid (kar.out x (Al7 hx))
    obtain ⟨ba1,ba2⟩:=Jj (n:=x) (m:=1000000) (by decide)
    obtain ⟨p,hp⟩:∃p:Nat,C0 x 1000000=(p:Int):=⟨(C0 x 1000000).toNat,by omega⟩
    rw [hp] at kx ba2
    have j1:(0:Int)≤j:=by omega
    have j2:(j:Int)<n:=by omega
    have j3:(j:Int).toNat=j:=by omega
    have t:decide ((j:Int)<(n:Int))=true:=decide_eq_true (by omega)
    have hpb:Hid (p<1000000):=by show p<1000000;omega
    clear kar hx hok hp ba1 ba2
    go_wp2_with (go_at_call 25;(with_reducible refine (kx.out _).mono ?_);rintro _ v ⟨rfl,ew⟩;have fq:Fr Non wr v:=ew▸Fr.refl _ _;clear ew)
    go_meet
    exact ⟨p,rfl,hpb.out,hown.fr fq zr,hf.trans fq zr⟩
   ·
    have t:decide ((j:Int)<(n:Int))=false:=decide_eq_false (by omega)
    go_wp2_with (fail)
    go_meet
    exact ⟨0,rfl,by omega,hown,hf⟩
  case rest=>
   obtain ⟨q,rfl,hq,ownc,fc⟩:=hcut
   have szc:=Al2 sz0 fc.size
   have hnb:=Blk.new wc 3 #[.int .i64 (q:Int)]
   have own1:=ownc.alloc (.cells #[.int .i64 (q:Int)] 3)
   go_wp2_with (at_builtin;go_loud (refine Bb (base:=w0.heap.size) (.tmp 23) (.tmp 25) 22 rfl rfl rfl rfl Gp own1 (Rd.blk (n:=1) (size:=1) hnb rfl) (by simp [Value.oneCell']) (by omega) (by omega) (by rw [Al5];have h8:=fc.size;omega) ?_);intro A2 c2 w4 own4 fr4 hat4)
   have fz:Fr Non w0 w4:=(fc.alloc _).trans fr4 (fun k hk e=>by have h9:=(hrow k e).1;have h8:=hf.size;omega)
   have own5:Own w4 w0.heap.size 3 1 A2 (j+1) c2 ((ks++[q]).map Qv):=by
    rw [Am6]
    exact own4
   go_roundw
   case rel=>exact ⟨j+1,A2,c2,ks++[q],by go_num,rfl,by omega,(by show _=_;rw [Al9,hkl.out];rfl),(fun x hx=>by rcases List.mem_append.1 hx with h1|h1;exact hkb.out x h1;obtain rfl:=List.mem_singleton.1 h1;exact hq),own5,fz⟩
   case measure=>simp [intOf];omega
 ·
  obtain rfl:j=4:=by omega
  have i1:decide ((4:Int)<4)=false:=rfl
  obtain ⟨k0,k1,k2,k3,rfl⟩:∃a b c d,ks=[a,b,c,d]:=by
   match ks,hkl.out with
   |[a,b,c,d],_=>exact ⟨a,b,c,d,rfl⟩
  have q0:k0<1000000:=hkb.out k0 (by simp)
  have q1:k1<1000000:=hkb.out k1 (by simp)
  have q2:k2<1000000:=hkb.out k2 (by simp)
  have q3:k3<1000000:=hkb.out k3 (by simp)
  obtain ⟨_,h4|⟨b,off,rfl,hbb,hc⟩⟩:=hown.rd
  · exact absurd h4 (by decide)
  have L0:wr.cell? ⟨b,off,none⟩=some (.int .i64 (k0:Int)):=hc 0 _ rfl
  have L1:wr.cell? ⟨b,off+1,none⟩=some (.int .i64 (k1:Int)):=hc 1 _ rfl
  have L2:wr.cell? ⟨b,off+2,none⟩=some (.int .i64 (k2:Int)):=hc 2 _ rfl
  have L3:wr.cell? ⟨b,off+3,none⟩=some (.int .i64 (k3:Int)):=hc 3 _ rfl
  replace bg:=bg.fr hf zq
  replace br:=br.fr hf zq
  have e0:((k0:Nat):Int).tmod 4=(k0:Int)%4:=Al8 (by omega)
  have e1:((k1:Nat):Int).tmod 3=(k1:Int)%3:=Al8 (by omega)
  have e2:((k2:Nat):Int).tmod 5=(k2:Int)%5:=Al8 (by omega)
  have e3:((k3:Nat):Int).tmod 5=(k3:Int)%5:=Al8 (by omega)
  have e4:((k2:Nat):Int).tmod 3=(k2:Int)%3:=Al8 (by omega)
  have e5:((k1:Nat):Int).tdiv 3=(k1:Int)/3:=An4 (by omega)
  have e6:((k1:Nat):Int).tdiv 100=(k1:Int)/100:=An4 (by omega)
  have e7:IntKind.i64.wrap (1+(k0:Int)%4)=1+(k0:Int)%4:=IntWalk.i64_in _ (by omega)
  have e8:IntKind.i64.wrap ((k1:Int)/3)=(k1:Int)/3:=IntWalk.i64_in _ (by omega)
  have e9:IntKind.i64.wrap ((k1:Int)/100)=(k1:Int)/100:=IntWalk.i64_in _ (by omega)
  have sz1:=Al2 sz0 hf.size
  have d0:=(bg.cell 0).trans g0.out
  have d1:=(bg.cell 1).trans g1.out
  clear hc hkb hkl hown hf f0 kar hr hn hok hlt hj g0 g1 hbb
  generalize wr=w1 at*
  go_upto_region 9 with (fail)
  go_cut [8] from 27 to 39 (fun s wc=>∃(y0:OpL) (gO:Nat),s=.pointer (some ⟨gO,0,none⟩)∧Blk wc gO 44 y0.cells∧y0.by_=1+(k0:Int)%4∧y0.op.ok∧y0.own wc (w.heap.size+2)∧w1.heap.size≤gO∧Fr Non w1 wc)
  case first=>
   clear hfin kA kH kC kS kL hpl hallp hclp hfst hNl hNl2
   as_aux_lemma=>
   have G0:=d0
   have F0:Fr Non w1 w1.drew:=(Fr.refl Non w1).drew
   have kq:=Lib.hid (fun (w':World)=>kO.out (1+(k0:Int)%4) k3 w' ⟨by omega,by omega⟩ (by omega))
   have M0:=L0
   have K0:=L3
   refine C4 (S:=fun w'=>w'.cell? ⟨w.heap.size,0,none⟩=some (.slice CA 4 CC)∧w'.cell? ⟨b,off,none⟩=some (.int .i64 (k0:Int))∧w'.cell? ⟨b,off+3,none⟩=some (.int .i64 (k3:Int))) 14 (by kernel_rfl) ?_
   refine tkG 0 ⟨G0,M0,K0⟩ (h:=tkG 1 ⟨G0,M0,K0⟩ (h:=tkG 2 ⟨G0,M0,K0⟩ (h:=tkG 3 ⟨G0,M0,K0⟩ (h:=tkG 4 ⟨G0,M0,K0⟩ (h:=tkG 5 ⟨G0,M0,K0⟩ (h:=tkG 6 ⟨G0,M0,K0⟩ (h:=tkG 7 ⟨G0,M0,K0⟩ (h:=tkG 8 ⟨G0,M0,K0⟩ (h:=tkG 9 ⟨G0,M0,K0⟩ (h:=tkG 10 ⟨G0,M0,K0⟩ (h:=tkG 11 ⟨G0,M0,K0⟩ (h:=?_))))))))))))
   simp only [List.set]
   refine Ry 12 13 (by kernel_rfl) rfl rfl (fun K' hK=> ?_) (fun K' hK=> ?_)
   ·
    skip
    go_simp
    go_wp2_with (go_at_call 86;(with_reducible refine (kq.out _).mono ?_);rintro _ v1 ⟨y0,rfl,hby,hok0,own0,fq1⟩;have F1:=F0.trans fq1 zr;have own1:=own0.lower (base':=w.heap.size+2) sz1)
    have G1:=F1.cell G0 zq
    have M1:=F1.cell M0 zq
    have K1:=F1.cell K0 zq
    refine hK.out _ _ ⟨G1,M1,K1⟩ (fun hZ=> ?_)
    clear hZ hK K'
    try simp only [Ac,List.set]
    refine Bl 13 (by kernel_rfl) rfl (fun K' hK=> ?_)
    go_simp
    have hnb:=Blk.new v1 44 zO
    have own2:=own1.non ((Fr.refl Non v1).alloc (.cells zO 44))
    have F2:Fr Non w1 (v1.alloc (.cells zO 44)):=F1.alloc _
    have hgs:=F1.size
    obtain ⟨ga,hga⟩:=Aa v1.heap.size
    rw [hga.out] at hnb hgs ⊢
    generalize v1.alloc (.cells zO 44)=v2 at*
    have G2:=F2.cell G0 zq
    have M2:=F2.cell M0 zq
    have K2:=F2.cell K0 zq
    refine hK.out _ _ ⟨G2,M2,K2⟩ (fun hZ=> ?_)
    clear hZ hK K'
    try simp only [Ac,List.set]
    have hone:=Cr y0
    have hst:=Ck (P:=Tryz.prog) ga 44 (cs:=y0.cells) hi (old:=zO) rfl hone
    refine Cv (by kernel_rfl) ?_
    refine oG 14 (fun K' hK=> ?_)
    go_simp
    have own3:=own2.opBlk hnb (Dh y0.cells)
    have b3:=hnb.setRow (cs:=y0.cells)
    have F3:Fr Non w1 (v2.setRow ga y0.cells):=F2.setRow (fun hh=>absurd hh (by omega)) _
    refine hK.out _ _ trivial (fun hZ=> ?_)
    clear hZ hK K'
    try simp only [Ac,List.set]
    refine oD ?_
    go_simp
    go_wp2_with (fail)
    go_meet
    exact ⟨y0,ga,rfl,b3,hby,hok0,own3,hgs,F3⟩
   ·
    skip
    go_simp
    have hnb0:=(Blk.new w1 44 zO).drew
    have F1:Fr Non w1 (w1.alloc (.cells zO 44)).drew:=((Fr.refl Non w1).alloc _).drew
    have szA:w.heap.size+2≤(w1.alloc (.cells zO 44)).drew.heap.size:=Al2 sz1 F1.size
    have hgs:w1.heap.size≤w1.heap.size:=Al6 _
    obtain ⟨ga,hga⟩:∃x,Hid (w1.heap.size=x):=Aa _
    rw [hga.out] at hnb0 ⊢
    have hgs:w1.heap.size≤ga:=by rw [hga.out];exact Al6 _
    generalize (w1.alloc (.cells zO 44)).drew=v1 at*
    have G1:=F1.cell G0 zq
    have M1:=F1.cell M0 zq
    have K1:=F1.cell K0 zq
    refine hK.out _ _ ⟨G1,M1,K1⟩ (fun hZ=> ?_)
    clear hZ hK K'
    try simp only [Ac,List.set]
    refine Bl 12 (by kernel_rfl) rfl (fun K' hK=> ?_)
    go_simp
    go_wp2_with (go_at_call 86;(with_reducible refine (kq.out _).mono ?_);rintro _ v2 ⟨y0,rfl,hby,hok0,own0,fq1⟩;have F2:=F1.trans fq1 zr;have own2:=own0.lower (base':=w.heap.size+2) szA;have hnb:=hnb0.fr fq1 zq)
    have G2:=F2.cell G0 zq
    have M2:=F2.cell M0 zq
    have K2:=F2.cell K0 zq
    refine hK.out _ _ ⟨G2,M2,K2⟩ (fun hZ=> ?_)
    clear hZ hK K'
    try simp only [Ac,List.set]
    have hone:=Cr y0
    have hst:=Ck (P:=Tryz.prog) ga 44 (cs:=y0.cells) hi (old:=zO) rfl hone
    refine Cv (by kernel_rfl) ?_
    refine oG 14 (fun K' hK=> ?_)
    go_simp
    have own3:=own2.opBlk hnb (Dh y0.cells)
    have b3:=hnb.setRow (cs:=y0.cells)
    have F3:Fr Non w1 (v2.setRow ga y0.cells):=F2.setRow (fun hh=>absurd hh (by omega)) _
    refine hK.out _ _ trivial (fun hZ=> ?_)
    clear hZ hK K'
    try simp only [Ac,List.set]
    refine oD ?_
    go_simp
    go_wp2_with (fail)
    go_meet
    exact ⟨y0,ga,rfl,b3,hby,hok0,own3,hgs,F3⟩
  case rest=>
  obtain ⟨y0,gO,rfl,bO,hby,hok0,own0,hgO,f2⟩:=hcut
  generalize wc=wb at*
  have hD:1≤1+(k0:Int)%4∧1+(k0:Int)%4≤4:=by omega
  obtain ⟨D,hDe⟩:∃D:Nat,1+(k0:Int)%4=(D:Int):=⟨(1+(k0:Int)%4).toNat,by omega⟩
  rw [hDe] at hby hD
  have hD1:1≤D∧D≤4:=by omega
  clear hDe hD kO L0 d0 q0
  have d1c:=f2.cell d1 zq
  by_cases hz:N=0
  ·
   have t:((N:Int)==0)=true:=by simp [hz]
   clear kA kH kC kS kL hpl hallp hclp L1
   have hle:=hNl.out hz
   as_aux_lemma=>
   go_upto_region 11 with (fail)
   have F0:Fr Non w1 wb.drew:=f2.drew
   have Y0:wb.cell? ⟨gO,0,none⟩=some (.int .i64 (D:Int)):=by rw [bO.cell 0];show some (Value.int .i64 y0.by_)=_;rw [hby]
   have M0:=f2.cell L2 zq
   have K0:=f2.cell L3 zq
   refine C4 (S:=fun w'=>w'.cell? ⟨gO,0,none⟩=some (.int .i64 (D:Int))∧w'.cell? ⟨b,off+2,none⟩=some (.int .i64 (k2:Int))∧w'.cell? ⟨b,off+3,none⟩=some (.int .i64 (k3:Int))) 13 (by kernel_rfl) ?_
   refine tkG 0 ⟨Y0,M0,K0⟩ (h:=tkG 1 ⟨Y0,M0,K0⟩ (h:=tkG 2 ⟨Y0,M0,K0⟩ (h:=tkG 3 ⟨Y0,M0,K0⟩ (h:=tkG 4 ⟨Y0,M0,K0⟩ (h:=tkG 5 ⟨Y0,M0,K0⟩ (h:=tkG 6 ⟨Y0,M0,K0⟩ (h:=tkG 7 ⟨Y0,M0,K0⟩ (h:=tkG 8 ⟨Y0,M0,K0⟩ (h:=tkG 9 ⟨Y0,M0,K0⟩ (h:=tkG 10 ⟨Y0,M0,K0⟩ (h:=?_)))))))))))
   simp only [List.set]
   refine Bl 11 (by kernel_rfl) rfl (fun K' hK=> ?_)
   go_simp
   have nP:=(Blk.new wb 103 #[.int .u64 5,.slice none 0 0]).drew
   have fq1:Fr Non wb (wb.alloc (.cells #[.int .u64 5,.slice none 0 0] 103)).drew:=((Fr.refl Non wb).alloc _).drew
   have szp:=Al2 sz1 f2.size
   obtain ⟨gp,hgp⟩:=Aa wb.heap.size
   rw [hgp.out] at nP szp ⊢
   generalize (wb.alloc (.cells #[.int .u64 5,.slice none 0 0] 103)).drew=v1 at*
   have Y1:=fq1.cell Y0 zq
   have M1:=fq1.cell M0 zq
   have K1:=fq1.cell K0 zq
   refine hK.out _ _ ⟨Y1,M1,K1⟩ (fun hZ=> ?_)
   clear hZ hK K'
   try simp only [Ac,List.set]
   refine Et (i:=12) (v:=?_) rfl (by kernel_rfl) (by kernel_rfl) (by kernel_rfl) (by kernel_rfl) (fun _ _ _ h=>h) (Or.inl ⟨by kernel_rfl,?_⟩) ⟨Y1,M1,K1⟩ ?_
   rotate_left
   focus (intro w' hSw;refine Ai7 (D:=(D:Int)) (a:=(k2:Int)%5) (v:=(k3:Int)%5) (A:=some ⟨gp,0,none⟩) ?_ ?_ ?_ ?_ ?_;rfl;rfl;rfl;rfl;exact fun _=>rfl)
   simp only [List.set]
   have bv:=bO.fr fq1 zq
   have hst:=Ck (P:=Tryz.prog) gO 44 (cs:=(fsL (D:Int) ((k2:Int)%5) ((k3:Int)%5) (some ⟨gp,0,none⟩)).cells) hi (old:=y0.cells) rfl (Cr _)
   refine Cv (by kernel_rfl) ?_
   refine oG 13 (fun K' hK=> ?_)
   go_simp
   have bv2:=bv.setRow (cs:=(fsL (D:Int) ((k2:Int)%5) ((k3:Int)%5) (some ⟨gp,0,none⟩)).cells)
   have oP:Own v1 (w.heap.size+2) 103 2 (some ⟨gp,0,none⟩) 1 1 (([⟨5,none,0,[]⟩]:List NdL).flatMap NdL.cells):=by
    have h5:=Own.blk (base:=w.heap.size+2) (n:=1) (size:=2) nP szp (by omega) rfl (by omega)
    simpa [NdL.cells] using h5
   have hof:(fsL (D:Int) ((k2:Int)%5) ((k3:Int)%5) (some ⟨gp,0,none⟩)).own (v1.setRow gO (fsL (D:Int) ((k2:Int)%5) ((k3:Int)%5) (some ⟨gp,0,none⟩)).cells) (w.heap.size+2):=(Ai4 (RowAt.of_own oP)).opBlk bv (Dh _)
   have fv:Fr Non w1 (v1.setRow gO (fsL (D:Int) ((k2:Int)%5) ((k3:Int)%5) (some ⟨gp,0,none⟩)).cells):=(f2.trans fq1 zr).setRow (fun hh=>absurd hh (by omega)) _
   have hofk:(fsL (D:Int) ((k2:Int)%5) ((k3:Int)%5) (some ⟨gp,0,none⟩)).op.ok:=Ai3 ⟨by omega,by omega⟩ ⟨by omega,by omega⟩ ⟨by omega,by omega⟩
   have htk:Aj CD [] (sgn (fsL (D:Int) ((k2:Int)%5) ((k3:Int)%5) (some ⟨gp,0,none⟩)).op)=0:=hfst.out (D:Int) ((k2:Int)%5) ((k3:Int)%5) (by omega) (by omega) (by omega)
   have hbyf:(fsL (D:Int) ((k2:Int)%5) ((k3:Int)%5) (some ⟨gp,0,none⟩)).by_=(D:Int):=rfl
   generalize fsL (D:Int) ((k2:Int)%5) ((k3:Int)%5) (some ⟨gp,0,none⟩)=X at*
   refine hK.out _ _ trivial (fun hZ=> ?_)
   clear hZ hK K'
   try simp only [Ac,List.set]
   refine oD ?_
   go_simp
   generalize v1.setRow gO X.cells=v2 at*
   clear bv nP oP Y0 Y1 M0 M1 K0 K1 hst fq1
   have hlX:=Bd (P:=Tryz.prog) gO 44 Tryz.underlying44 rfl (cs:=X.cells) hi
   have fw:Fr Non w v2:=hfw.trans fv zr
   have brv:=br.fr fv zq
   have ksg:=Lib.hid (Sh X D (w.heap.size+2) v2 hbyf (by omega) hof hofk)
   have hsok:Hid (∀y:OpL,y.op=sgn X.op→y.op.ok∧(l=[]→Aj CD [] y.op=0)):=fun y e=>by
    rw [e]
    exact ⟨Ge hofk,fun _=>htk⟩
   have hiX:(Tryz.prog.info? 44).map (·.size)=some X.cells.size:=hi
   clear hfst hNl hNl2 hof hofk hbyf
   unfold Mj at ksg
   generalize sgn X.op=SO at*
   generalize X.cells=XC at*
   go_wp2_with (go_at_call 15;(with_reducible refine (ksg.out).mono ?_);rintro _ w5 ⟨y,rfl,hyo,hyw,f5⟩;go_loud (have br5:=brv.fr f5 zq;have hyp:=Lib.hid (hsok.out y hyo);have hd:=Lib.hid (fun wz hz=>hfin.out y w5 wz hyp.out.1 hyw (fw.trans f5 zr) br5 hz hyp.out.2);have hst:=Ck (P:=Tryz.prog) (w.heap.size+1) 44 (cs:=y.cells) hi (old:=zO) rfl (Cr y);have hsz:(Tryz.prog.info? 44).map (·.size)=some y.cells.size:=hi;clear hfin hyp hyo hyw hsok ksg;generalize y.cells=YC at*))
   have hz2:=br5.setRow (cs:=YC)
   have hdd:=Lib.hid (hd.out _ (Dh YC))
   (try simp only [Exit.inBlock,Exit.then])
   refine Dq (t:=44) rfl rfl hz2 rfl Tryz.underlying44 hsz rfl ?_
   exact hdd.out
  ·
   have t:((N:Int)==0)=false:=by simp [hz]
   clear L3 q3 hfst
   have bgc:=bg.fr f2 zq
   have L1c:=f2.cell L1 zq
   have szc:=Al2 sz1 f2.size
   have fwc:Fr Non w wb:=hfw.trans f2 zr
   rw [← hallp.out.2] at kA
   go_upto_region 14 with (go_at_call 22;(with_reducible refine (kA.out _ fwc).mono ?_);rintro _ v0 ⟨A9,c9,rfl,o9,f9⟩)
   have L1v:=f9.cell L1c zq
   have B0:=bgc.fr f9 zq
   have fwv:Fr Non w v0:=fwc.trans f9 zr
   have szv:=Al2 szc f9.size
   replace o9:=o9.lower szc
   go_upto_if 65 with (fail)
   go_cut [9] from 65 to 76 (fun s wd=>∃(ids:List Id) (A9:Option Addr) (c9:Nat),s=.slice A9 ids.length c9∧Own wd (w.heap.size+2) 38 3 A9 ids.length c9 (ids.flatMap Id.cells)∧Hid (∀id∈ids,(plc l id).isSome=true)∧Hid (ids.length≤200)∧Fr Non wb wd)
   case first=>
    clear hfin kH kS kL hpl hNl hNl2 hok0 own0 bO
    as_aux_lemma=>
    by_cases ht:k1%3=1
    ·
     have t2:((k1:Int)%3==1)=true:=by simp;omega
     go_upto_region 15 with (fail)
     have Q0:=L1v
     refine wp_region_held_drew (S:=fun w'=>Blk w' w.heap.size 32 CS∧w'.cell? ⟨b,off+1,none⟩=some (.int .i64 (k1:Int))) (by kernel_rfl) ⟨B0,Q0⟩ (fun hHeld=> ?_)
     clear hHeld
     refine tkH 0 ⟨B0,Q0⟩ (h:=tkH 1 ⟨B0,Q0⟩ (h:=tkH 2 ⟨B0,Q0⟩ (h:=tkH 3 ⟨B0,Q0⟩ (h:=tkH 4 ⟨B0,Q0⟩ (h:=tkH 5 ⟨B0,Q0⟩ (h:=tkH 6 ⟨B0,Q0⟩ (h:=tkH 7 ⟨B0,Q0⟩ (h:=tkH 8 ⟨B0,Q0⟩ (h:=?_)))))))))
     simp only [List.set]
     refine oG 9 (fun K' hK=> ?_)
     go_simp
     have nP:=(Blk.new v0 3 #[.int .i64 ((k1:Int)/3),.int .i64 ((k1:Int)/100)]).drew
     have fq1:Fr Non v0 (v0.alloc (.cells #[.int .i64 ((k1:Int)/3),.int .i64 ((k1:Int)/100)] 3)).drew:=((Fr.refl Non v0).alloc _).drew
     obtain ⟨gp,hgp⟩:=Aa v0.heap.size
     rw [hgp.out] at nP ⊢
     generalize (v0.alloc (.cells #[.int .i64 ((k1:Int)/3),.int .i64 ((k1:Int)/100)] 3)).drew=v1 at*
     have B1:=B0.fr fq1 zq
     have Q1:=fq1.cell Q0 zq
     refine hK.out _ _ ⟨B1,Q1⟩ (fun hZ=> ?_)
     clear hZ hK K'
     try simp only [Ac,List.set]
     have kcl:=Lib.hid (kC.out _ 2 2 (some ⟨gp,0,none⟩) [(k1:Int)/3,(k1:Int)/100] v1 (fwv.trans fq1 zr) rfl (Rd.blk (n:=2) (size:=1) nP rfl) (fun x hx=>by
      rcases List.mem_cons.1 hx with rfl|hx
      · exact ⟨by omega,by omega⟩
      ·
       obtain rfl:=List.mem_singleton.1 hx
       exact ⟨by omega,by omega⟩))
     unfold I4 at kcl
     refine oG 10 (fun K' hK=> ?_)
     go_simp
     go_wp2_with (go_at_call 44;(with_reducible refine (kcl.out).mono ?_);rintro _ v2 ⟨cs,⟨A8,c8,rfl,o8,fq2⟩,hco,hrw⟩;have B2:=B1.fr fq2 zq;have Q2:=fq2.cell Q1 zq)
     refine hK.out _ _ ⟨B2,Q2⟩ (fun hZ=> ?_)
     clear hZ hK K'
     try simp only [Ac,List.set]
     refine tkH 11 ⟨B2,Q2⟩ (h:=?_)
     simp only [List.set]
     refine oD ?_
     go_simp
     have hcp:=hclp.out cs hco
     go_wp2_with (fail)
     go_meet
     exact ⟨cs,A8,c8,rfl,o8.lower (Al2 szv fq1.size),hcp.1,hcp.2,(f9.trans fq1 zr).trans fq2 zr⟩
    ·
     have t2:((k1:Int)%3==1)=false:=by simp;omega
     go_wp2_with (fail)
     go_meet
     exact ⟨SI,A9,c9,rfl,o9,hallp.out.1,by show _≤_;rw [hallp.out.2];exact hfew,f9⟩
   case rest=>
   clear o9 L1v B0 fwv szv f9
   obtain ⟨ids,A8,c8,rfl,o9,hip,hil,f3⟩:=hcut
   generalize wc=wd at*
   obtain ⟨p1,p2,p3,p4,p5⟩:=hpl.out ids hip.out hil.out
   have hil2:=hil.out
   have p4b:=p4 (D:Int) ids.length
   have f23:Fr Non w1 wd:=f2.trans f3 zr
   have bOd:=bO.fr f3 zq
   have ownd:=own0.non f3
   have kh:=Lib.hid (kH.out _ ids.length c8 A8 ids wd (hfw.trans f23 zr) rfl o9.rd (by omega))
   have ks:=Lib.hid (fun (w':World) (ho:Own w' (w.heap.size+2) 38 3 A8 ids.length c8 (ids.flatMap Id.cells))=>kS.out _ ids.length c8 A8 ids (D:Int) w' rfl ho.rd (by omega) p3)
   have kl:=Lib.hid (fun (w':World) (hf:Fr Non w w') (ho:Own w' (w.heap.size+2) 38 3 A8 ids.length c8 (ids.flatMap Id.cells))=>kL.out _ ids.length c8 A8 ids w' hf rfl ho.rd (by omega))
   have p12:=Lib.hid (And.intro p1 p2)
   clear kA kH kC kS kL hpl hallp hclp L1 L1c q1 p4 hip own0 bO bgc d1 d1c p1 p2 p3
   unfold Cn at kh
   generalize E4 l ids=HL at*
   generalize Cg ids (D:Int) ids.length=SQ at*
   generalize late l ids=LT at*
   have bgd:=bg.fr f23 zq
   have YC:y0.cells.size=27:=rfl
   have hy0:Hid (y0.cells[0]? =some (.int .i64 (D:Int))):=by show some (Value.int .i64 y0.by_)=_;rw [hby]
   have hy1:Hid (y0.cells[1]? =some (.int .i64 y0.sq)):=rfl
   have hy3:Hid (y0.cells[3]? =some (.int .i64 y0.at_)):=rfl
   have hy4:Hid (y0.cells[4]? =some (.slice y0.pastA y0.past.length y0.pastC)):=rfl
   have szd:=Al2 szc f3.size
   generalize wd=w3 at*
   go_upto_region 17 with (go_at_call 46;(with_reducible refine (kh.out).mono ?_);rintro _ v3 ⟨A4,c4,rfl,o4,f4⟩;have bO4:=bOd.fr f4 zq;have m4:=(bO4.cell 4).trans hy4.out;have z4:=bO4.frozen 4)
   have f24:Fr Non w1 (v3.setCell ⟨gO,4,none⟩ (.slice A4 HL.length c4)):=(f23.trans f4 zr).setNew hgO 4 _
   have bO5:=bO4.set 4 (.slice A4 HL.length c4)
   have oI5:=Own.setFar (i:=4) (o9.fr f4 zr) bO4 (by decide) (.slice A4 HL.length c4)
   have oH5:=Own.setFar (i:=4) (o4.lower szd) bO4 (by decide) (.slice A4 HL.length c4)
   have own5:=(ownd.non f4).opBlk bO4 (Mi (i:=4) (.slice A4 HL.length c4))
   generalize v3.setCell ⟨gO,4,none⟩ (.slice A4 HL.length c4)=w4 at*
   clear kh m4 z4 bO4 bOd f4 o4 o9 ownd f23 bgd
   have bg4:=bg.fr f24 zq
   have Y4:w4.cell? ⟨gO,0,none⟩=some (.int .i64 (D:Int)):=(bO5.cell 0).trans hy0.out
   go_upto_region 18 with (go_at_call 51;(with_reducible refine (ks.out _ oI5).mono ?_);rintro _ v4 ⟨rfl,f5⟩;have bO6:=bO5.fr f5 zq;have m5:v4.cell? ⟨gO,1,none⟩=some (.int .i64 y0.sq):=(bO6.cell 1).trans hy1.out;have z5:=bO6.frozen 1)
   have f25:Fr Non w1 (v4.setCell ⟨gO,1,none⟩ (.int .i64 (SQ+1))):=(f24.trans f5 zr).setNew hgO 1 _
   have bO7:=bO6.set 1 (.int .i64 (SQ+1))
   have oI7:=Own.setFar (i:=1) (oI5.fr f5 zr) bO6 (by decide) (.int .i64 (SQ+1))
   have oH7:=Own.setFar (i:=1) (oH5.fr f5 zr) bO6 (by decide) (.int .i64 (SQ+1))
   have own7:=(own5.non f5).opBlk bO6 (Mi (i:=1) (.int .i64 (SQ+1)))
   generalize v4.setCell ⟨gO,1,none⟩ (.int .i64 (SQ+1))=w5 at*
   clear ks m5 z5 bO6 bO5 f5 oI5 oH5 own5 f24 Y4 bg4
   have B0:=(bg.fr f25 zq).drew
   have M0:w5.drew.cell? ⟨b,off+2,none⟩=some (.int .i64 (k2:Int)):=f25.cell L2 zq
   have F0:Fr Non w1 w5.drew:=f25.drew
   have e10:IntKind.i64.wrap (LT+(k2:Int)%3)=LT+(k2:Int)%3:=IntWalk.i64_in _ (by omega)
   refine C4 (S:=fun w'=>Blk w' w.heap.size 32 CS∧w'.cell? ⟨b,off+2,none⟩=some (.int .i64 (k2:Int))) 9 (by kernel_rfl) ?_
   refine tkG 0 ⟨B0,M0⟩ (h:=tkG 1 ⟨B0,M0⟩ (h:=tkG 3 ⟨B0,M0⟩ (h:=tkG 4 ⟨B0,M0⟩ (h:=tkG 5 ⟨B0,M0⟩ (h:=tkG 6 ⟨B0,M0⟩ (h:=?_))))))
   simp only [List.set]
   refine Bl 2 (by kernel_rfl) rfl (fun K' hK=> ?_)
   go_simp
   go_wp2_with (go_at_call 52;(with_reducible refine (kl.out _ (hfw.trans F0 zr) oI7.drew).mono ?_);rintro _ v1 ⟨rfl,fq1⟩;go_loud (have B1:=B0.fr fq1 zq;have M1:=fq1.cell M0 zq))
   refine hK.out _ _ ⟨B1,M1⟩ (fun hZ=> ?_)
   clear hZ hK K'
   try simp only [Ac,List.set]
   refine tkG 7 ⟨B1,M1⟩ (h:=tkG 8 ⟨B1,M1⟩ (h:=?_))
   simp only [List.set]
   have fq:Fr Non w5 v1:=((Fr.refl Non w5).drew).trans fq1 zr
   have bO8:=bO7.fr fq zq
   have m8:v1.cell? ⟨gO,3,none⟩=some (.int .i64 y0.at_):=(bO8.cell 3).trans hy3.out
   have z8:=bO8.frozen 3
   refine Cv (by kernel_rfl) ?_
   refine oG 9 (fun K' hK=> ?_)
   go_simp
   have AT:(Value.int .i64 (LT+(k2:Int)%3))=.int .i64 (LT+(k2:Int)%3):=rfl
   have fv:Fr Non w1 (v1.setCell ⟨gO,3,none⟩ (.int .i64 (LT+(k2:Int)%3))):=(F0.trans fq1 zr).setNew hgO 3 _
   have bv2:Blk (v1.setCell ⟨gO,3,none⟩ (.int .i64 (LT+(k2:Int)%3))) gO 44 (nxL y0 A4 c4 HL (SQ+1) (LT+(k2:Int)%3)).cells:=bO8.set 3 (.int .i64 (LT+(k2:Int)%3))
   have oH8:=Own.setFar (i:=3) (oH7.fr fq zr) bO8 (by decide) (.int .i64 (LT+(k2:Int)%3))
   have own8:=(own7.non fq).opBlk bO8 (Mi (i:=3) (.int .i64 (LT+(k2:Int)%3)))
   have hof:=Ai2 (s:=SQ+1) (a:=LT+(k2:Int)%3) own8 (RowAt.of_own oH8)
   have hofk:(nxL y0 A4 c4 HL (SQ+1) (LT+(k2:Int)%3)).op.ok:=Ai1 hok0 p12.out ⟨by omega,by omega⟩ ⟨by omega,by omega⟩
   have hbyf:(nxL y0 A4 c4 HL (SQ+1) (LT+(k2:Int)%3)).by_=(D:Int):=hby
   have hlz:l≠[]:=fun e=>hz (hNl2.out e)
   generalize nxL y0 A4 c4 HL (SQ+1) (LT+(k2:Int)%3)=X at*
   refine hK.out _ _ trivial (fun hZ=> ?_)
   clear hZ hK K'
   try simp only [Ac,List.set]
   refine oD ?_
   go_simp
   generalize v1.setCell ⟨gO,3,none⟩ (.int .i64 (LT+(k2:Int)%3))=v2 at*
   clear bO7 bO8 m8 z8 oH8 own8 oH7 own7 oI7 M0 M1 B0 B1 F0 fq fq1 kl p12 hok0 AT
   have hlX:=Bd (P:=Tryz.prog) gO 44 Tryz.underlying44 rfl (cs:=X.cells) hi
   have fw:Fr Non w v2:=hfw.trans fv zr
   have brv:=br.fr fv zq
   have ksg:=Lib.hid (Sh X D (w.heap.size+2) v2 hbyf (by omega) hof hofk)
   have hsok:Hid (∀y:OpL,y.op=sgn X.op→y.op.ok∧(l=[]→Aj CD [] y.op=0)):=fun y e=>by
    rw [e]
    exact ⟨Ge hofk,fun e=>absurd e hlz⟩
   have hiX:(Tryz.prog.info? 44).map (·.size)=some X.cells.size:=hi
   clear hNl hNl2 hof hofk hbyf
   unfold Mj at ksg
   generalize sgn X.op=SO at*
   generalize X.cells=XC at*
   go_wp2_with (go_at_call 15;(with_reducible refine (ksg.out).mono ?_);rintro _ w5 ⟨y,rfl,hyo,hyw,f5⟩;go_loud (have br5:=brv.fr f5 zq;have hyp:=Lib.hid (hsok.out y hyo);have hd:=Lib.hid (fun wz hz=>hfin.out y w5 wz hyp.out.1 hyw (fw.trans f5 zr) br5 hz hyp.out.2);have hst:=Ck (P:=Tryz.prog) (w.heap.size+1) 44 (cs:=y.cells) hi (old:=zO) rfl (Cr y);have hsz:(Tryz.prog.info? 44).map (·.size)=some y.cells.size:=hi;clear hfin hyp hyo hyw hsok ksg;generalize y.cells=YC at*))
   have hz2:=br5.setRow (cs:=YC)
   have hdd:=Lib.hid (hd.out _ (Dh YC))
   (try simp only [Exit.inBlock,Exit.then])
   refine Dq (t:=44) rfl rfl hz2 rfl Tryz.underlying44 hsz rfl ?_
   exact hdd.out
end Oq
namespace Oq
attribute [local go_sem] Am8 Am9
attribute [local go_sem ↓] Ew Mf
def rg0 (A:Option Addr) (c:Nat) (cs:List Cd):RG:=⟨A,c,cs,none,0,[],none,0,none,0,[],none,0,[],[]⟩
theorem Ai9 {A:Option Addr} {c:Nat} {cs:List Cd} {w:World} {base:Nat} (h:RowAt w base 81 5 A cs.length c (cs.flatMap Cd.cells)) (hf:cs.length≤1000) (hk:∀c∈cs,c.s<18446744073709551616):(rg0 A c cs).own w base where
 cards:=h
 ops:=RowAt.nil _ _ _ _
 each _ hx:=absurd hx Al1
 same:=rfl
 ok _ hx:=absurd hx Al1
 ids:=RowAt.nil _ _ _ _
 ups:=RowAt.nil _ _ _ _
 eachU _ hx:=absurd hx Al1
 sameU:=rfl
 ins:=RowAt.nil _ _ _ _
 eachN _ hx:=absurd hx Al1
 sameN:=rfl
 rows:=Rows.nil
 cfew:=hf
 cok:=hk
theorem Aj0 (n c:Nat) (A:Option Addr) (w:World):
  Calls Tryz.prog 54 #[.slice A n c] w fun e w'=>e=.returned (.agg #[.slice A n c,.slice none 0 0,.slice none 0 0,.slice none 0 0,.slice none 0 0])∧Fr Non w w':=by
 have hG:(Tryz.prog.info? 32).map (·.size)=some (#[.slice A n c,.slice none 0 0,.slice none 0 0,.slice none 0 0,.slice none 0 0]:Array Value).size:=Dg
 have br:=Blk.new w 32 zG
 have f0:Fr Non w (w.alloc (.cells zG 32)):=(Fr.refl Non w).alloc _
 have hst:=Ck (P:=Tryz.prog) w.heap.size 32 (cs:=#[.slice A n c,.slice none 0 0,.slice none 0 0,.slice none 0 0,.slice none 0 0]) hG (old:=zG) rfl (by simp [Value.oneCell'])
 go_enter Tryz.func54,Tryz.ntmps54
 go_upto_region 1 with (fail)
 have hz2:=br.setRow (cs:=#[.slice A n c,.slice none 0 0,.slice none 0 0,.slice none 0 0,.slice none 0 0])
 have fz:=f0.setRow (g:=w.heap.size) (fun hh=>absurd hh (by omega)) #[.slice A n c,.slice none 0 0,.slice none 0 0,.slice none 0 0,.slice none 0 0]
 go_wp2_with (fail)
 (try simp only [Exit.inBlock,Exit.then])
 refine Dq (t:=32) rfl rfl hz2 rfl Tryz.underlying32 hG rfl ?_
 exact ⟨rfl,fz⟩
theorem E9 {P:Program} {Q:Exit→Act→World→Prop} {l:List Oper} {md:Region.Mode} {S:World→Prop} {fuel:Nat} {listed:Array Bool} {a:Act} {w:World} (i j:Nat) {d:Option Tmp} {op:Go.Op} {ty:TypeId} {pos:String} {after:Array Edge} {g:Option (Nat × Bool)} {d':Option Tmp} {op':Go.Op} {ty':TypeId} {pos':String} {after':Array Edge} {g':Option (Nat × Bool)}
  (hr:Region.ready md l.toArray listed=[i,j]) (ho:l[i]? =some ⟨d,op,ty,pos,after,g⟩) (ho':l[j]? =some ⟨d',op',ty',pos',after',g'⟩)
  (hw:Region.wanted ⟨d,op,ty,pos,after,g⟩ (yielded l.toArray a.tmps)=true) (hw':Region.wanted ⟨d',op',ty',pos',after',g'⟩ (yielded l.toArray a.tmps)=true)
  (h:∀K':Act→World→Prop,Shut (∀a w,S w→(S w→wpAnyH P md l.toArray Q S fuel (listed.setIfInBounds i true) a w)→K' a w)→Oper.wp P ⟨d,op,ty,pos,after,g⟩ a w K' Q)
  (h':∀K':Act→World→Prop,Shut (∀a w,S w→(S w→wpAnyH P md l.toArray Q S fuel (listed.setIfInBounds j true) a w)→K' a w)→Oper.wp P ⟨d',op',ty',pos',after',g'⟩ a w K' Q):
  wpAnyH P md l.toArray Q S (fuel+1) listed a w:=
 wpAnyH_ready hr (by simp) (AllReadyH.cons (by rw [An5];exact ho) (fun K' hK=>by rw [if_pos hw];exact h K' hK) (AllReadyH.cons (by rw [An5];exact ho') (fun K' hK=>by rw [if_pos hw'];exact h' K' hK) AllReadyH.nil))
theorem Aj1 {w:World} {B n c m:Nat} {A:Option Addr} {xs:List Value} (h:Rd w B 1 A n xs) (hm:m≤n) (hc:n≤c):Rd w B 1 (if c=m then A else A.map (fun x=>x.add m)) (n-m) (xs.drop m):=by
 have hl:=h.1
 refine ⟨by rw [An6];omega,?_⟩
 by_cases hz:n-m=0
 · exact .inl hz
 ·
  have hcm:¬c=m:=by omega
  rw [if_neg hcm]
  rcases h.2 with h0|⟨b,off,rfl,hb,hx⟩
  · exact absurd h0 (by omega)
  ·
   refine .inr ⟨b,off+m,by simp [Addr.add],hb,fun j u hu=> ?_⟩
   rw [List.getElem?_drop] at hu
   have h5:=hx (m+j) u hu
   rw [← Nat.add_assoc] at h5
   exact h5
def Ml (w:World) (e:Ending) (w':World):Prop:=
 ∃r:RG,e=.returned (.agg r.cells)∧Fr Non w w'∧r.own w' w.heap.size∧r.cards=Bg 0 [1,2,3,1]∧r.l≠[]∧r.l.length≤14
theorem Aj2:∀c∈Bg 0 [1,2,3,1],c.s<18446744073709551616:=fun c hc=>by
 obtain ⟨xs,h1,_,_,h4⟩:=Lt [1,2,3,1] 0 (by decide)
 rw [← h1] at hc
 obtain ⟨x,hx,rfl⟩:=List.mem_map.1 hc
 exact h4 x hx
theorem Aj3 (B n c:Nat) (A:Option Addr) (l0:List Int) (w:World) (hn:Hid (l0.length=n)) (hr:Rd w B 1 A n (l0.map Iv)) (hnc:n≤c) (_hnm:c≤9223372036854775807) (hok:∀x∈l0,I64 x):
  Calls Tryz.prog 12 #[.slice A n c] w (Ml w):=by
 have hG:∀r:RG,(Tryz.prog.info? 32).map (·.size)=some r.cells.size:=fun r=>Dg
 have kc:=Lib.hid (fun (w':World) (hr:Rd w' w'.heap.size 1 (some ⟨w.heap.size+1,0,none⟩) 4 (([1,2,3,1]:List Int).map Iv))=>O8 4 4 (some ⟨w.heap.size+1,0,none⟩) [1,2,3,1] w' rfl (by decide) hr)
 have kn:=Lib.hid (fun (n' c':Nat) (A':Option Addr) (w':World)=>Aj0 n' c' A' w')
 have kx:=Lib.hid (fun (r:RG) (B' n' c':Nat) (A':Option Addr) (l1:List Int) (w':World) h hcs hn hr hok=>Ai8 w.heap.size B' n' c' r A' l1 w' h hcs hn hr hok)
 have ka:=Lib.hid (fun (r:RG) (x:OpL) (w':World) h hx hb hok=>Af9 w.heap.size r x w' h hx hb hok)
 have br:=(Blk.new w 32 zG).alloc (.cells #[.int .i64 1,.int .i64 2,.int .i64 3,.int .i64 1] 3)
 have bi:=Blk.new (w.alloc (.cells zG 32)) 3 #[.int .i64 1,.int .i64 2,.int .i64 3,.int .i64 1]
 rw [Al5] at bi
 have f0:Fr Non w ((w.alloc (.cells zG 32)).alloc (.cells #[.int .i64 1,.int .i64 2,.int .i64 3,.int .i64 1] 3)):=((Fr.refl Non w).alloc _).alloc _
 have sz0:w.heap.size+2≤((w.alloc (.cells zG 32)).alloc (.cells #[.int .i64 1,.int .i64 2,.int .i64 3,.int .i64 1] 3)).heap.size:=by
  rw [Al5,Al5]
  exact Al6 _
 go_enter Tryz.func12,Tryz.ntmps12
 go_upto_region 1 with (fail)
 generalize hw0:(w.alloc (.cells zG 32)).alloc (.cells #[.int .i64 1,.int .i64 2,.int .i64 3,.int .i64 1] 3)=w0 at*
 unfold O7 at kc
 have hrd:Rd w0 w0.heap.size 1 (some ⟨w.heap.size+1,0,none⟩) 4 (([1,2,3,1]:List Int).map Iv):=by
  rw [← hw0] at bi ⊢
  exact Rd.blk (n:=4) (size:=1) bi rfl
 go_upto_region 2 with (first
  |(go_at_call 40;(with_reducible refine (kc.out _ hrd).mono ?_);rintro _ w1 ⟨A1,c1,rfl,o1,f1⟩;have ff1:=f0.trans f1 zr;have br1:=br.fr f1 zq)
  |(go_at_call 54;(with_reducible refine (kn.out _ _ _ _).mono ?_);rintro _ w2 ⟨rfl,f2⟩;have ff2:=ff1.trans f2 zr;have br2:=br1.fr f2 zq;have o2:=o1.fr f2 zr;have bn:=Blk.new w2 32 zG;have hst:=Ck (P:=Tryz.prog) w2.heap.size 32 (cs:=#[.slice A1 4 c1,.slice none 0 0,.slice none 0 0,.slice none 0 0,.slice none 0 0]) (hG (rg0 A1 c1 (Bg 0 [1,2,3,1]))) (old:=zG) rfl (by simp [Value.oneCell'])))
 have br3:=(br2.alloc (.cells zG 32)).setRow_far (g':=w2.heap.size) (by have:=br2.lt;omega) (cs:=#[.slice A1 4 c1,.slice none 0 0,.slice none 0 0,.slice none 0 0,.slice none 0 0])
 have bn3:Blk ((w2.alloc (.cells zG 32)).setRow w2.heap.size #[.slice A1 4 c1,.slice none 0 0,.slice none 0 0,.slice none 0 0,.slice none 0 0]) w2.heap.size 32 (rg0 A1 c1 (Bg 0 [1,2,3,1])).cells:=bn.setRow (cs:=#[.slice A1 4 c1,.slice none 0 0,.slice none 0 0,.slice none 0 0,.slice none 0 0])
 have fG:Fr Non w2 ((w2.alloc (.cells zG 32)).setRow w2.heap.size #[.slice A1 4 c1,.slice none 0 0,.slice none 0 0,.slice none 0 0,.slice none 0 0]):=((Fr.refl Non w2).alloc _).setRow (fun hh=>absurd hh (by omega)) _
 have sz2:w.heap.size<w2.heap.size:=br2.lt
 have f3:=ff2.trans fG zr
 have own3:(rg0 A1 c1 (Bg 0 [1,2,3,1])).own ((w2.alloc (.cells zG 32)).setRow w2.heap.size #[.slice A1 4 c1,.slice none 0 0,.slice none 0 0,.slice none 0 0,.slice none 0 0]) w.heap.size:=Ai9 ((RowAt.of_own (o2.fr fG zr)).lower (by omega)) (by decide) Aj2
 clear hst bn br2 br1 br o1 o2 fG ff1 ff2 hrd
 obtain ⟨gv,hgv⟩:=Aa w2.heap.size
 rw [hgv.out] at bn3 own3 br3 f3 sz2 ⊢
 generalize (w2.alloc (.cells zG 32)).setRow gv #[.slice A1 4 c1,.slice none 0 0,.slice none 0 0,.slice none 0 0,.slice none 0 0]=w3 at*
 have hcd3:(rg0 A1 c1 (Bg 0 [1,2,3,1])).cards=Bg 0 [1,2,3,1]:=rfl
 have hl3:(rg0 A1 c1 (Bg 0 [1,2,3,1])).l=[]:=rfl
 generalize rg0 A1 c1 (Bg 0 [1,2,3,1])=r0 at*
 clear bi kc kn hw0 f0 sz0
 go_wp2_with (fail)
 go_loopw [4] (fun v wr=>∃(j:Nat) (r:RG),v=.int .i64 (j:Int)∧j≤14∧Blk wr gv 32 r.cells∧r.own wr w.heap.size∧r.cards=Bg 0 [1,2,3,1]∧Hid (((j=0∧r.l=[])∨(0<j∧r.l≠[]))∧r.l.length≤j)∧Blk wr w.heap.size 32 zG∧Fr Non w wr) (fun v _=>14-(intOf v).toNat)
 case atStart=>exact ⟨0,r0,rfl,by omega,bn3,own3,hcd3,⟨.inl ⟨rfl,hl3⟩,by rw [hl3];exact Al6 _⟩,br3,f3⟩
 case round=>
 clear bn3 own3 hcd3 hl3 br3 f3 r0
 obtain ⟨j,r,rfl,hj,bn,ro,hcd,hjl,br,hf⟩:=hrel
 by_cases hgo:j<14∧(j=0∨4*j<n)
 ·
  have t1:decide ((j:Int)<14)=true:=decide_eq_true (by omega)
  have ht:((j:Int)==0)=true∨(((j:Int)==0)=false∧decide (4*(j:Int)<(n:Int))=true):=by
   by_cases h1:j=0
   · exact .inl (by simp [h1])
   · exact .inr ⟨by simp;omega,decide_eq_true (by omega)⟩
  have e1:IntKind.i64.wrap (4*(j:Int))=4*(j:Int):=IntWalk.i64_in _ (by omega)
  obtain ⟨m,hm⟩:∃m:Nat,min n (4*j)=m:=⟨_,rfl⟩
  have e2:min (n:Int) (4*(j:Int))=(m:Int):=by omega
  have e3:min (4*(j:Int)) (n:Int)=(m:Int):=by omega
  have hmn:m≤n:=by omega
  go_upto_region 3 with (fail)
  go_cut [22] from 10 to 22 (fun s wc=>wr=wc∧s=.bool true)
  case first=>
   rcases ht with t2|⟨t2,t3⟩
   all_goals
    go_wp2_with (fail)
    go_meet
    exact ⟨rfl,rfl⟩
  case rest=>
  obtain ⟨rfl,rfl⟩:=hcut
  clear ht
  go_upto_region 5 with (fail)
  go_cut [5,6] from 25 to 38 (fun s5 s6 wc=>∃(gN:Nat) (r2:RG) (E:Int),s5=.pointer (some ⟨gN,0,none⟩)∧s6=.int .i64 E∧Blk wc gN 32 r2.cells∧r2.own wc w.heap.size∧r2.cards=Bg 0 [1,2,3,1]∧Hid ((E=0→r2.l≠[])∧r2.l.length≤j+1)∧Hid (j=0→E=0)∧Fr Non wr wc∧wr.heap.size≤gN)
  case first=>
   have V0:=bn
   have F0:Fr Non wr wr.drew:=(Fr.refl Non wr).drew
   have szr:w.heap.size≤wr.heap.size:=hf.size
   have rd1:Rd w B 1 (if c=m then A else A.map (fun x=>x.add m)) (n-m) ((l0.drop m).map Iv):=by
    rw [List.map_drop]
    exact Aj1 hr hmn hnc
   have kq:=Lib.hid (fun (w':World) (h':Fr Non wr w')=>kx.out r B (n-m) (c-m) (if c=m then A else A.map (fun x=>x.add m)) (l0.drop m) w' (ro.non h') hcd (by show (l0.drop m).length=n-m;rw [An6,hn.out]) (rd1.fr (hf.trans h' zr) zr) (fun x hx=>hok x (List.mem_of_mem_drop hx)))
   have hjE:Hid (∀(E:Int) (r2:RG) (o:Op),E=Aj r.cards r.l o→r2.l=(if Aj r.cards r.l o=0 then r.l++[Av r.l o] else r.l)→(r.l=[]→Aj r.cards [] o=0)→((E=0→r2.l≠[])∧r2.l.length≤j+1)∧(j=0→E=0)):=by
    intro E r2 o h1 h2 h3
    have hlen:r2.l.length≤j+1:=by
     have:=hjl.out.2
     rw [h2]
     split
     ·
      rw [Al9,An0]
      omega
     · omega
    refine ⟨⟨fun h4=> ?_,hlen⟩,fun h4=> ?_⟩
    ·
     rw [← h1,if_pos h4] at h2
     rw [h2]
     simp
    ·
     rcases hjl.out.1 with ⟨_,h5⟩|⟨h5,_⟩
     ·
      rw [h1,h5]
      exact h3 h5
     · omega
   have hl:=Bd (P:=Tryz.prog) gv 32 Tryz.underlying32 rfl (hG r)
   refine wp_region_held_drew (S:=fun w'=>Blk w' gv 32 r.cells) (by kernel_rfl) V0 (fun hHeld=> ?_)
   clear hHeld
   refine tkH 0 V0 (h:=tkH 1 V0 (h:=tkH 2 V0 (h:=tkH 3 V0 (h:=tkH 4 V0 (h:=tkH 5 V0 (h:=tkH 6 V0 (h:=tkH 7 V0 (h:=tkH 8 V0 (h:=?_)))))))))
   simp only [List.set]
   obtain ⟨AP,hAP⟩:=Aa (if c=m then A else A.map (fun x=>x.add m))
   rw [hAP.out] at kq ⊢
   have hcd2:=Lib.hid hcd
   clear hcd rd1 hAP
   refine E9 9 14 (by kernel_rfl) rfl rfl (by kernel_rfl) (by kernel_rfl) (fun K' hK=> ?_) (fun K' hK=> ?_)
   ·
    skip
    go_simp
    go_wp2_with (go_at_call 31;(with_reducible refine (kq.out _ F0).mono ?_);rintro _ v1 ⟨y,rfl,hyok,hyo,fq1,hy0⟩;go_loud (have F1:=F0.trans fq1 zr;have hy1:=hyo.lower (base':=w.heap.size) (Al2 szr F0.size)))
    have V1:=V0.fr F1 zq
    refine hK.out _ _ V1 (fun hZ=> ?_)
    clear hZ hK K'
    try simp only [Ac,List.set]
    refine E9 10 14 (by kernel_rfl) rfl rfl (by kernel_rfl) (by kernel_rfl) (fun K' hK=> ?_) (fun K' hK=> ?_)
    ·
     skip
     go_simp
     have kad:=Lib.hid (ka.out r y _ (ro.non F1) hy1 (Al2 szr F1.size) hyok)
     unfold E6 at kad
     go_wp2_with (go_at_call 33;(with_reducible refine (kad.out).mono ?_);rintro _ v2 ⟨r2,rfl,fq2,ro2,hc2,hl2⟩;go_loud (have F2:=F1.trans fq2 zr))
     have V2:=V0.fr F2 zq
     refine hK.out _ _ V2 (fun hZ=> ?_)
     clear hZ hK K'
     try simp only [Ac,List.set]
     refine tkH 11 V2 (h:=tkH 12 V2 (h:=?_))
     simp only [List.set]
     refine E9 13 14 (by kernel_rfl) rfl rfl (by kernel_rfl) (by kernel_rfl) (fun K' hK=> ?_) (fun K' hK=> ?_)
     ·
      skip
      go_simp
      refine hK.out _ _ V2 (fun hZ=> ?_)
      clear hZ hK K'
      try simp only [Ac,List.set]
      refine oG 14 (fun K' hK=> ?_)
      go_simp
      have nb3:=Blk.new (v2) 32 zG
      have F3:Fr Non wr ((v2).alloc (.cells zG 32)):=F2.alloc _
      obtain ⟨ga,hga⟩:=Aa (v2).heap.size
      have hgs:wr.heap.size≤ga:=by rw [← hga.out];exact F2.size
      rw [hga.out] at nb3 ⊢
      have ro3:=ro2.non ((Fr.refl Non (v2)).alloc (.cells zG 32))
      generalize (v2).alloc (.cells zG 32)=v3 at*
      have V3:=V0.fr F3 zq
      refine hK.out _ _ V3 (fun hZ=> ?_)
      clear hZ hK K'
      try simp only [Ac,List.set]
      refine oG 15 (fun K' hK=> ?_)
      have hst:=Ck (P:=Tryz.prog) ga 32 (hG r2) (old:=zG) rfl (Ed r2)
      go_simp
      have nb4:=nb3.setRow (cs:=r2.cells)
      have ro4:=ro3.keepP (Dh r2.cells) (Types.one nb3) (by decide) (by decide) (by decide) (by decide) (by decide) (by decide) (by decide) (by decide) (by decide) (by decide) (by decide) (by decide)
      have F4:Fr Non wr (v3.setRow ga r2.cells):=F3.setRow (fun hh=>absurd hh (by omega)) _
      clear hst
      generalize v3.setRow ga r2.cells=v4 at*
      have V4:=V0.fr F4 zq
      refine hK.out _ _ V4 (fun hZ=> ?_)
      clear hZ hK K'
      try simp only [Ac,List.set]
      refine tkH 16 V4 (h:=?_)
      simp only [List.set]
      refine oD ?_
      go_simp
      have hje:=hjE.out _ r2 _ rfl hl2 hy0
      go_wp2_with (fail)
      go_meet
      exact ⟨ga,r2,_,rfl,rfl,nb4,ro4,by rw [hc2];exact hcd2.out,hje.1,hje.2,F4,hgs⟩
     ·
      skip
      go_simp
      have nb3:=Blk.new (v2) 32 zG
      have F3:Fr Non wr ((v2).alloc (.cells zG 32)):=F2.alloc _
      obtain ⟨ga,hga⟩:=Aa (v2).heap.size
      have hgs:wr.heap.size≤ga:=by rw [← hga.out];exact F2.size
      rw [hga.out] at nb3 ⊢
      have ro3:=ro2.non ((Fr.refl Non (v2)).alloc (.cells zG 32))
      generalize (v2).alloc (.cells zG 32)=v3 at*
      have V3:=V0.fr F3 zq
      refine hK.out _ _ V3 (fun hZ=> ?_)
      clear hZ hK K'
      try simp only [Ac,List.set]
      refine E9 13 15 (by kernel_rfl) rfl rfl (by kernel_rfl) (by kernel_rfl) (fun K' hK=> ?_) (fun K' hK=> ?_)
      ·
       skip
       go_simp
       refine hK.out _ _ V3 (fun hZ=> ?_)
       clear hZ hK K'
       try simp only [Ac,List.set]
       refine oG 15 (fun K' hK=> ?_)
       have hst:=Ck (P:=Tryz.prog) ga 32 (hG r2) (old:=zG) rfl (Ed r2)
       go_simp
       have nb4:=nb3.setRow (cs:=r2.cells)
       have ro4:=ro3.keepP (Dh r2.cells) (Types.one nb3) (by decide) (by decide) (by decide) (by decide) (by decide) (by decide) (by decide) (by decide) (by decide) (by decide) (by decide) (by decide)
       have F4:Fr Non wr (v3.setRow ga r2.cells):=F3.setRow (fun hh=>absurd hh (by omega)) _
       clear hst
       generalize v3.setRow ga r2.cells=v4 at*
       have V4:=V0.fr F4 zq
       refine hK.out _ _ V4 (fun hZ=> ?_)
       clear hZ hK K'
       try simp only [Ac,List.set]
       refine tkH 16 V4 (h:=?_)
       simp only [List.set]
       refine oD ?_
       go_simp
       have hje:=hjE.out _ r2 _ rfl hl2 hy0
       go_wp2_with (fail)
       go_meet
       exact ⟨ga,r2,_,rfl,rfl,nb4,ro4,by rw [hc2];exact hcd2.out,hje.1,hje.2,F4,hgs⟩
      ·
       skip
       have hst:=Ck (P:=Tryz.prog) ga 32 (hG r2) (old:=zG) rfl (Ed r2)
       go_simp
       have nb4:=nb3.setRow (cs:=r2.cells)
       have ro4:=ro3.keepP (Dh r2.cells) (Types.one nb3) (by decide) (by decide) (by decide) (by decide) (by decide) (by decide) (by decide) (by decide) (by decide) (by decide) (by decide) (by decide)
       have F4:Fr Non wr (v3.setRow ga r2.cells):=F3.setRow (fun hh=>absurd hh (by omega)) _
       clear hst
       generalize v3.setRow ga r2.cells=v4 at*
       have V4:=V0.fr F4 zq
       refine hK.out _ _ V4 (fun hZ=> ?_)
       clear hZ hK K'
       try simp only [Ac,List.set]
       refine oG 13 (fun K' hK=> ?_)
       go_simp
       refine hK.out _ _ V4 (fun hZ=> ?_)
       clear hZ hK K'
       try simp only [Ac,List.set]
       refine tkH 16 V4 (h:=?_)
       simp only [List.set]
       refine oD ?_
       go_simp
       have hje:=hjE.out _ r2 _ rfl hl2 hy0
       go_wp2_with (fail)
       go_meet
       exact ⟨ga,r2,_,rfl,rfl,nb4,ro4,by rw [hc2];exact hcd2.out,hje.1,hje.2,F4,hgs⟩
    ·
     skip
     go_simp
     have nb2:=Blk.new (v1) 32 zG
     have F2:Fr Non wr ((v1).alloc (.cells zG 32)):=F1.alloc _
     obtain ⟨ga,hga⟩:=Aa (v1).heap.size
     have hgs:wr.heap.size≤ga:=by rw [← hga.out];exact F1.size
     rw [hga.out] at nb2 ⊢
     have hy2:=hy1.non ((Fr.refl Non (v1)).alloc (.cells zG 32))
     generalize (v1).alloc (.cells zG 32)=v2 at*
     have V2:=V0.fr F2 zq
     refine hK.out _ _ V2 (fun hZ=> ?_)
     clear hZ hK K'
     try simp only [Ac,List.set]
     refine oG 10 (fun K' hK=> ?_)
     go_simp
     have kad:=Lib.hid (ka.out r y _ (ro.non F2) hy2 (Al2 szr F2.size) hyok)
     unfold E6 at kad
     go_wp2_with (go_at_call 33;(with_reducible refine (kad.out).mono ?_);rintro _ v3 ⟨r2,rfl,fq3,ro3,hc2,hl2⟩;go_loud (have F3:=F2.trans fq3 zr;have nb3:=nb2.fr fq3 zq))
     have V3:=V0.fr F3 zq
     refine hK.out _ _ V3 (fun hZ=> ?_)
     clear hZ hK K'
     try simp only [Ac,List.set]
     refine tkH 11 V3 (h:=tkH 12 V3 (h:=?_))
     simp only [List.set]
     refine E9 13 15 (by kernel_rfl) rfl rfl (by kernel_rfl) (by kernel_rfl) (fun K' hK=> ?_) (fun K' hK=> ?_)
     ·
      skip
      go_simp
      refine hK.out _ _ V3 (fun hZ=> ?_)
      clear hZ hK K'
      try simp only [Ac,List.set]
      refine oG 15 (fun K' hK=> ?_)
      have hst:=Ck (P:=Tryz.prog) ga 32 (hG r2) (old:=zG) rfl (Ed r2)
      go_simp
      have nb4:=nb3.setRow (cs:=r2.cells)
      have ro4:=ro3.keepP (Dh r2.cells) (Types.one nb3) (by decide) (by decide) (by decide) (by decide) (by decide) (by decide) (by decide) (by decide) (by decide) (by decide) (by decide) (by decide)
      have F4:Fr Non wr (v3.setRow ga r2.cells):=F3.setRow (fun hh=>absurd hh (by omega)) _
      clear hst
      generalize v3.setRow ga r2.cells=v4 at*
      have V4:=V0.fr F4 zq
      refine hK.out _ _ V4 (fun hZ=> ?_)
      clear hZ hK K'
      try simp only [Ac,List.set]
      refine tkH 16 V4 (h:=?_)
      simp only [List.set]
      refine oD ?_
      go_simp
      have hje:=hjE.out _ r2 _ rfl hl2 hy0
      go_wp2_with (fail)
      go_meet
      exact ⟨ga,r2,_,rfl,rfl,nb4,ro4,by rw [hc2];exact hcd2.out,hje.1,hje.2,F4,hgs⟩
     ·
      skip
      have hst:=Ck (P:=Tryz.prog) ga 32 (hG r2) (old:=zG) rfl (Ed r2)
      go_simp
      have nb4:=nb3.setRow (cs:=r2.cells)
      have ro4:=ro3.keepP (Dh r2.cells) (Types.one nb3) (by decide) (by decide) (by decide) (by decide) (by decide) (by decide) (by decide) (by decide) (by decide) (by decide) (by decide) (by decide)
      have F4:Fr Non wr (v3.setRow ga r2.cells):=F3.setRow (fun hh=>absurd hh (by omega)) _
      clear hst
      generalize v3.setRow ga r2.cells=v4 at*
      have V4:=V0.fr F4 zq
      refine hK.out _ _ V4 (fun hZ=> ?_)
      clear hZ hK K'
      try simp only [Ac,List.set]
      refine oG 13 (fun K' hK=> ?_)
      go_simp
      refine hK.out _ _ V4 (fun hZ=> ?_)
      clear hZ hK K'
      try simp only [Ac,List.set]
      refine tkH 16 V4 (h:=?_)
      simp only [List.set]
      refine oD ?_
      go_simp
      have hje:=hjE.out _ r2 _ rfl hl2 hy0
      go_wp2_with (fail)
      go_meet
      exact ⟨ga,r2,_,rfl,rfl,nb4,ro4,by rw [hc2];exact hcd2.out,hje.1,hje.2,F4,hgs⟩
   ·
    skip
    go_simp
    have nb1:=Blk.new (wr) 32 zG
    have F1:Fr Non wr ((wr).alloc (.cells zG 32)):=(Fr.refl Non wr).alloc _
    obtain ⟨ga,hga⟩:=Aa (wr).heap.size
    have hgs:wr.heap.size≤ga:=by rw [← hga.out];exact Al6 _
    rw [hga.out] at nb1 ⊢
    replace nb1:=nb1.drew
    replace F1:=F1.drew
    generalize ((wr).alloc (.cells zG 32)).drew=v1 at*
    have V1:=V0.fr F1 zq
    refine hK.out _ _ V1 (fun hZ=> ?_)
    clear hZ hK K'
    try simp only [Ac,List.set]
    refine oG 9 (fun K' hK=> ?_)
    go_simp
    go_wp2_with (go_at_call 31;(with_reducible refine (kq.out _ F1).mono ?_);rintro _ v2 ⟨y,rfl,hyok,hyo,fq2,hy0⟩;go_loud (have F2:=F1.trans fq2 zr;have hy2:=hyo.lower (base':=w.heap.size) (Al2 szr F1.size);have nb2:=nb1.fr fq2 zq))
    have V2:=V0.fr F2 zq
    refine hK.out _ _ V2 (fun hZ=> ?_)
    clear hZ hK K'
    try simp only [Ac,List.set]
    refine oG 10 (fun K' hK=> ?_)
    go_simp
    have kad:=Lib.hid (ka.out r y _ (ro.non F2) hy2 (Al2 szr F2.size) hyok)
    unfold E6 at kad
    go_wp2_with (go_at_call 33;(with_reducible refine (kad.out).mono ?_);rintro _ v3 ⟨r2,rfl,fq3,ro3,hc2,hl2⟩;go_loud (have F3:=F2.trans fq3 zr;have nb3:=nb2.fr fq3 zq))
    have V3:=V0.fr F3 zq
    refine hK.out _ _ V3 (fun hZ=> ?_)
    clear hZ hK K'
    try simp only [Ac,List.set]
    refine tkH 11 V3 (h:=tkH 12 V3 (h:=?_))
    simp only [List.set]
    refine E9 13 15 (by kernel_rfl) rfl rfl (by kernel_rfl) (by kernel_rfl) (fun K' hK=> ?_) (fun K' hK=> ?_)
    ·
     skip
     go_simp
     refine hK.out _ _ V3 (fun hZ=> ?_)
     clear hZ hK K'
     try simp only [Ac,List.set]
     refine oG 15 (fun K' hK=> ?_)
     have hst:=Ck (P:=Tryz.prog) ga 32 (hG r2) (old:=zG) rfl (Ed r2)
     go_simp
     have nb4:=nb3.setRow (cs:=r2.cells)
     have ro4:=ro3.keepP (Dh r2.cells) (Types.one nb3) (by decide) (by decide) (by decide) (by decide) (by decide) (by decide) (by decide) (by decide) (by decide) (by decide) (by decide) (by decide)
     have F4:Fr Non wr (v3.setRow ga r2.cells):=F3.setRow (fun hh=>absurd hh (by omega)) _
     clear hst
     generalize v3.setRow ga r2.cells=v4 at*
     have V4:=V0.fr F4 zq
     refine hK.out _ _ V4 (fun hZ=> ?_)
     clear hZ hK K'
     try simp only [Ac,List.set]
     refine tkH 16 V4 (h:=?_)
     simp only [List.set]
     refine oD ?_
     go_simp
     have hje:=hjE.out _ r2 _ rfl hl2 hy0
     go_wp2_with (fail)
     go_meet
     exact ⟨ga,r2,_,rfl,rfl,nb4,ro4,by rw [hc2];exact hcd2.out,hje.1,hje.2,F4,hgs⟩
    ·
     skip
     have hst:=Ck (P:=Tryz.prog) ga 32 (hG r2) (old:=zG) rfl (Ed r2)
     go_simp
     have nb4:=nb3.setRow (cs:=r2.cells)
     have ro4:=ro3.keepP (Dh r2.cells) (Types.one nb3) (by decide) (by decide) (by decide) (by decide) (by decide) (by decide) (by decide) (by decide) (by decide) (by decide) (by decide) (by decide)
     have F4:Fr Non wr (v3.setRow ga r2.cells):=F3.setRow (fun hh=>absurd hh (by omega)) _
     clear hst
     generalize v3.setRow ga r2.cells=v4 at*
     have V4:=V0.fr F4 zq
     refine hK.out _ _ V4 (fun hZ=> ?_)
     clear hZ hK K'
     try simp only [Ac,List.set]
     refine oG 13 (fun K' hK=> ?_)
     go_simp
     refine hK.out _ _ V4 (fun hZ=> ?_)
     clear hZ hK K'
     try simp only [Ac,List.set]
     refine tkH 16 V4 (h:=?_)
     simp only [List.set]
     refine oD ?_
     go_simp
     have hje:=hjE.out _ r2 _ rfl hl2 hy0
     go_wp2_with (fail)
     go_meet
     exact ⟨ga,r2,_,rfl,rfl,nb4,ro4,by rw [hc2];exact hcd2.out,hje.1,hje.2,F4,hgs⟩
  case rest=>
  obtain ⟨gN,r2,E,rfl,rfl,bN,ro2,hcd2,hE1,hE2,f2,hgN⟩:=hcut
  have bn2:=bn.fr f2 zq
  have br2:=br.fr f2 zq
  have fw2:=hf.trans f2 zr
  have roc:=ro.non f2
  clear bn br ro f2 hf kx ka
  by_cases hE:E=0
  ·
   have tE:(E==0)=true:=by simp [hE]
   have hl2:=Bd (P:=Tryz.prog) gN 32 Tryz.underlying32 rfl (hG r2)
   have hst2:=Ck (P:=Tryz.prog) gv 32 (hG r2) (old:=r.cells) rfl (Ed r2)
   have bz:=bn2.setRow (cs:=r2.cells)
   have brz:=br2.setRow_far (g':=gv) (by omega) (cs:=r2.cells)
   have fz:=fw2.setRow (g:=gv) (fun hh=>absurd hh (by omega)) r2.cells
   have roz:=ro2.keepP (Dh r2.cells) (Types.one bn2) (by decide) (by decide) (by decide) (by decide) (by decide) (by decide) (by decide) (by decide) (by decide) (by decide) (by decide) (by decide)
   have hne:=hE1.out.1 hE
   go_wp2_with (fail)
   go_roundw
   case rel=>exact ⟨j+1,r2,by go_num,by omega,bz,roz,hcd2,⟨.inr ⟨by omega,hne⟩,hE1.out.2⟩,brz,fz⟩
   case measure=>simp [intOf];omega
  ·
   have tE:(E==0)=false:=by simp [hE]
   have hj0:¬j=0:=fun e=>hE (hE2.out e)
   have hne:r.l≠[]:=by
    rcases hjl.out.1 with ⟨h1,_⟩|⟨_,h1⟩
    · exact absurd h1 hj0
    · exact h1
   go_wp2_with (fail)
   go_roundw
   case rel=>exact ⟨j+1,r,by go_num,by omega,bn2,roc,hcd,⟨.inr ⟨by omega,hne⟩,Nat.le_succ_of_le hjl.out.2⟩,br2,fw2⟩
   case measure=>simp [intOf];omega
 ·
  have hne:r.l≠[]:=by
   rcases hjl.out.1 with ⟨h1,_⟩|⟨_,h1⟩
   · exact absurd ⟨by omega,.inl h1⟩ hgo
   · exact h1
  have hd:Hid (Ml w (.returned (.agg r.cells)) (wr.setRow w.heap.size r.cells)):=
   ⟨r,rfl,hf.setRow (g:=w.heap.size) (fun hh=>absurd hh (by omega)) r.cells,ro.keepP (Dh r.cells) (Types.one br) (by decide) (by decide) (by decide) (by decide) (by decide) (by decide) (by decide) (by decide) (by decide) (by decide) (by decide) (by decide),hcd,hne,Al2 hjl.out.2 (by omega)⟩
  have ht:decide ((j:Int)<14)=false∨(decide ((j:Int)<14)=true∧((j:Int)==0)=false∧decide (4*(j:Int)<(n:Int))=false):=by
   by_cases h1:j<14
   · exact .inr ⟨decide_eq_true (by omega),by simp;omega,decide_eq_false (by omega)⟩
   · exact .inl (decide_eq_false (by omega))
  have hl:=Bd (P:=Tryz.prog) gv 32 Tryz.underlying32 rfl (hG r)
  have hst:=Ck (P:=Tryz.prog) w.heap.size 32 (hG r) (old:=zG) rfl (Ed r)
  have hGr:=hG r
  have hz2:=br.setRow (cs:=r.cells)
  clear hjl hne ro hcd hgo kx ka hok hr hn
  generalize Ml w=POST at*
  generalize r.cells=CS at*
  rcases ht with t1|⟨t1,t2,t3⟩
  all_goals
   go_wp2_with (fail)
   (try simp only [Exit.inBlock,Exit.then])
   refine Dq (t:=32) rfl rfl hz2 rfl Tryz.underlying32 hGr rfl ?_
   exact hd.out
end Oq
end
section
open Go.RowKit
namespace Oq
end Oq
end
section
open Go.RowKit
attribute [local go_sem ↓] Go.wp_at_zero Go.wp_at_succ
namespace Oq
attribute [local go_sem ↓] Ci Ef
attribute [local go_sem] Am8 Am9
def crL (b:Int):OpL:={OpL.zero with by_:=b,sq:=1,kind:=1}
theorem Si (b:Int):(crL b).op=Hb b:=rfl
theorem Sj (b:Int) (w:World) (base:Nat):(crL b).own w base:=
 ⟨RowAt.nil _ _ _ _,RowAt.nil _ _ _ _,(fun _ h=>absurd h Al1),RowAt.nil _ _ _ _,RowAt.nil _ _ _ _,RowAt.nil _ _ _ _,RowAt.nil _ _ _ _,RowAt.nil _ _ _ _,(fun _ h=>absurd h Al1)⟩
theorem Jc (b : Int) (hb : 1 ≤ b ∧ b ≤ 12) : (Hb b).ok :=
  ⟨⟨by show _ ≤ b; omega, by show b ≤ _; omega⟩, I0, I0, Cm, ⟨Al3 _, fun _ h => absurd h Al1⟩, Cm, Cm, Cm, Cm,
   ⟨Al3 _, fun _ h => absurd h Al1⟩, ⟨Cm, Cm, Eg⟩, Cm, Al3 _, ⟨Al3 _, fun _ h => absurd h Al1⟩, ⟨Cm, Cm, Eg⟩,
   ⟨Al3 _, fun _ h => absurd h Al1⟩, Cm, Cm, ⟨Al3 _, fun _ h => absurd h Al1⟩, Eg, ⟨Al3 _, fun _ h => absurd h Al1⟩, Eg, Eg⟩
def Aj4 (w:World) (r:Ending) (w':World):Prop:=∃y:OpL,r=.returned (.agg y.cells)∧y.op=sgn (Hb 1)∧(∀wz base,y.own wz base)∧Fr Non w w'
theorem Aj5 (w:World):Calls Tryz.prog 15 #[.agg #[.int .i64 1,.int .i64 1,.int .i64 1,.int .i64 0,.slice none 0 0,.int .i64 0,.int .i64 0,.int .i64 0,.int .i64 0,.slice none 0 0,.int .i64 0,.int .i64 0,.int .u64 0,.int .i64 0,.slice none 0 0,.slice none 0 0,.int .i64 0,.int .i64 0,.int .u64 0,.slice none 0 0,.int .i64 0,.int .i64 0,.slice none 0 0,.int .u64 0,.slice none 0 0,.int .u64 0,.int .u64 0]] w (Aj4 w):=by
 have h:=Kj (crL 1) 1 w (by rw [show (crL 1).by_=1 from rfl,IntKind.wrap_u64];rfl) (by decide) (Sj 1 w 0).at (by rw [Si];exact Jc 1 (by decide))
 refine Calls.mono h ?_
 rintro r w' ⟨h1,h2⟩
 exact ⟨_,h1,Lo _ _ (Si 1) 1 rfl _ rfl,(fun wz base=>Lp (Sj 1 wz base) _ _),h2⟩
theorem Jd {g:Gph} {l:List Pn} (hl:g.pns=l) {i:Nat} {p:Pn} (h:l[i]? =some p):∃n,g.nodes[i]? =some n∧n.pn=p:=by
 subst hl
 unfold Gph.pns at h
 rw [An3] at h
 exact Option.map_eq_some_iff.1 h
theorem Gi (y:OpL) (nm:Id) (hn:y.op.name=nm) (w:World) (hat:y.at w w.heap.size) (hok:y.op.ok):Calls Tryz.prog 35 #[.agg y.cells] w fun e w'=>e=.returned (.agg nm.V)∧Fr Non w w':=by
 have k:=Ov y w hat hok
 obtain ⟨b,s,u⟩:=nm
 unfold Op.name at hn
 injection hn with h1 h2 h3
 rw [h3,show y.by_=b from h1,show y.sq=s from h2] at k
 exact k
theorem Sk (x:Id):Am [x]=[x]:=rfl
end Oq
end
end Go.Proofs.YtafonabghnogaaaGreatDoor
