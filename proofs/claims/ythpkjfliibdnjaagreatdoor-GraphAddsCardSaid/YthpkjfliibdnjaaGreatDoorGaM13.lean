/-
  Contracts of the functions that the claim's statement reaches, walked one by one (part 13).
  Conditions: as each theorem says.
-/
import Derived.Handy
import Derived.Test.YthpkjfliibdnjaaGreatDoorGaM1
import Derived.Test.YthpkjfliibdnjaaGreatDoorGaM2
import Derived.Test.YthpkjfliibdnjaaGreatDoorGaM11
import Derived.Test.YthpkjfliibdnjaaGreatDoorGaM12
set_option maxRecDepth 100000
set_option maxHeartbeats 16000000
open Bool renaming not_false→An4,not_true→An5,not_eq_true→Ao2
open Int renaming le_refl→An6,lt_or_le→An8
open List renaming getElem?_eq_getElem→Am6,length_append→Am7,take_of_length_le→Am8,getElem?_map→An0,flatMap_append→An1,mem_of_getElem?→An3,getElem?_of_mem→An7,nodup_nil→Ao0,mem_singleton→Ao1,take_add_one→Ao3,filterMap_append→Ao4,length_singleton→Ao5,getElem_map→Ao6,not_mem_nil→Ao7
open Nat renaming le_trans→An2,le_refl→An9
open Go.World renaming size_alloc→Am9
namespace Go.Proofs.YthpkjfliibdnjaaGreatDoor
section
open Go.RowKit
namespace Oq
def Dm (l:List Pn) (o:Op):Int:=if clash l o.past=true∨o.at_<late l o.past then 6 else if Ay l (Ai l o.past) o=true then 11 else 0
def Ew (l:List Pn) (o:Op):Int:=if o.past.any (fun id=>(plc l id).isNone)=true then 10 else Dm l o
theorem Ac8 {cards:List Cd} {l:List Pn} {o:Op} (h:o.chk=0) (h2:plc l o.name=none) (h3:l.length<200) (h4:Bj cards o.by_=none):Ag cards l o=17:=by
 rw [Ix h h2 h3,h4]
theorem Ac9 {cards:List Cd} {l:List Pn} {o:Op} {c:Cd} (h:o.chk=0) (h2:plc l o.name=none) (h3:l.length<200) (h4:Bj cards o.by_=some c) (h5:Sg.check c.s o.bare o.r o.s=false):Ag cards l o=12:=by
 rw [Ix h h2 h3,h4];dsimp only;rw [if_pos h5]
theorem Ad0 {cards:List Cd} {l:List Pn} {o:Op} {c:Cd} (h:o.chk=0) (h2:plc l o.name=none) (h3:l.length<200) (h4:Bj cards o.by_=some c) (h5:Sg.check c.s o.bare o.r o.s=true):
  Ag cards l o=if o.kind=1∧l≠[] then 1 else Ew l o:=by
 rw [Ix h h2 h3,h4];dsimp only;rw [if_neg (by rw [h5];simp)];rfl
theorem Ad1 {l:List Pn} {o:Op} {y:Id} (hy:y∈o.past) (h:(plc l y).isNone=true):Ew l o=10:=by
 unfold Ew;rw [if_pos (List.any_eq_true.2 ⟨y,hy,h⟩)]
theorem Ad2 {l:List Pn} {o:Op} (h:∀y∈o.past,∃p,plc l y=some p):Ew l o=Dm l o:=by
 unfold Ew;rw [if_neg];intro e;obtain ⟨y,hy,he⟩:=List.any_eq_true.1 e;obtain ⟨p,hp⟩:=h y hy;rw [hp] at he
 cases he
theorem Lp {l:List Pn} {ids:List Id} {a p:Nat} (h:∀y∈ids,∃p,plc l y=some p) (ha:(Aj l ids)[a]? =some p):∃y,y∈ids∧plc l y=some p:=by
 unfold Aj at ha;rw [An0] at ha
 cases hy:ids[a]? with
 |none=>rw [hy] at ha;cases ha
 |some y=>
  rw [hy] at ha;injection ha with ha
  have hm:=An3 hy;obtain ⟨q,hq⟩:=h y hm;have ha0:(plc l y).getD 0=p:=ha;rw [hq] at ha0;have ha':q=p:=ha0;subst ha';exact ⟨y,hm,hq⟩
theorem Lq {l:List Pn} {ids:List Id} {y:Id} {p:Nat} (hy:y∈ids) (hp:plc l y=some p):∃a:Nat,(Aj l ids)[a]? =some p:=by
 obtain ⟨a,ha⟩:=An7 hy;refine ⟨a,?_⟩;unfold Aj;rw [An0,ha];simp [hp]
theorem Ad3 {l:List Pn} {o:Op} (hlen:l.length≤200) (h:∀y∈o.past,∃p,plc l y=some p) {a b p q:Nat} {m:Pn} (h1:(Aj l o.past)[a]? =some p) (h2:(Aj l o.past)[b]? =some q) (h3:l[p]? =some m) (h4:m.ps q=true):Dm l o=6:=by
 obtain ⟨y,hy,hp⟩:=Lp h h1;obtain ⟨z,hz,hq⟩:=Lp h h2;unfold Dm;rw [if_pos (Or.inl (Ac4 hlen hy hz hp hq h3 h4))]
theorem Ad4 {l:List Pn} {o:Op} (h:∀y∈o.past,∃p,plc l y=some p) {a p:Nat} {m:Pn} (h1:(Aj l o.past)[a]? =some p) (h3:l[p]? =some m) (h4:o.at_<m.o.at_):Dm l o=6:=by
 obtain ⟨y,hy,hp⟩:=Lp h h1;unfold Dm;rw [if_pos (Or.inr (Ac6 hy hp h3 h4))]
theorem Ad5 {l:List Pn} {o:Op} (h0:0≤o.at_) (h:∀y∈o.past,∃p,plc l y=some p) (h1:∀(a b p q:Nat) (m:Pn),(Aj l o.past)[a]? =some p→(Aj l o.past)[b]? =some q→l[p]? =some m→m.ps q=false)
  (h2:∀(a p:Nat) (m:Pn),(Aj l o.past)[a]? =some p→l[p]? =some m→m.o.at_≤o.at_):Dm l o=if Ay l (Ai l o.past) o=true then 11 else 0:=by
 unfold Dm;rw [if_neg];rintro (e|e)
 ·
  rw [Ac5 (fun a ha b hb p r m k1 k2 k3=> ?_)] at e
  · cases e
  ·
   obtain ⟨i,hi⟩:=Lq ha k1;obtain ⟨j,hj⟩:=Lq hb k2;exact h1 i j p r m hi hj k3
 ·
  refine Ac7 h0 h (fun a ha p m k1 k2=> ?_) e;obtain ⟨i,hi⟩:=Lq ha k1;exact h2 i p m hi k2
theorem Rr {cards:List Cd} {l:List Pn} (h:Rows cards l) {ids:List Id} (hids:∀id∈ids,∃p,plc l id=some p):
  C8 (De l) (Aj l ids) l.length (fun _=>false)=Ai l ids:=funext (fun q=>Ac1 h hids q)
end Oq
end
section
open Go.RowKit
attribute [local go_sem ↓] Go.wp_at_zero Go.wp_at_succ
namespace Oq
attribute [local go_sem ↓] Fh
theorem Ad6 {l:List Pn} {id:Id} (h:∀(j:Nat) (n:Pn),l[j]? =some n→n.id≠id):plc l id=none:=by
 unfold plc;rw [List.findIdx?_eq_none_iff];intro n hn;obtain ⟨j,hj⟩:=An7 hn;exact decide_eq_false (h j n hj)
theorem Ad7 {l:List Pn} {id:Id} {k:Nat} {n:Pn} (hk:l[k]? =some n) (he:n.id=id) (h:∀(j:Nat) (n:Pn),j<k→l[j]? =some n→n.id≠id):plc l id=some k:=by
 obtain ⟨hl,rfl⟩:=List.getElem?_eq_some_iff.1 hk;unfold plc;rw [List.findIdx?_eq_some_iff_getElem];refine ⟨hl,decide_eq_true he,fun j hj=> ?_⟩;have:=h j l[j] hj (Am6 (by omega));simpa using this
theorem Rs {r:RG} {k:Nat} {n:Pn} (h:r.l[k]? =some n):r.ids[k]? =some n.id:=by
 unfold RG.ids;rw [An0,h];rfl
theorem E7 (base:Nat) (r:RG) (id:Id) (w:World) (h:r.own w base):
  Calls Tryz.prog 15 #[.agg r.cells,.agg id.V] w fun e w'=>e=.returned (.int .i64 (Ao r.l id))∧Fr Non w w':=by
 have hr:=h.rdIds;have ai:=h.few;have af:Hid (∀(k:Nat) (n:Pn),r.l[k]? =some n→r.ids[k]? =some n.id):=fun k n hk=>Rs hk;have ag:Hid ((∀(j:Nat) (n:Pn),j<r.l.length→r.l[j]? =some n→n.id≠id)→Ao r.l id= -1):=fun hh=>Ln (Ad6 (fun j n hj=>hh j n (List.getElem?_eq_some_iff.1 hj).1 hj));have ab:Hid (∀(k:Nat) (n:Pn),r.l[k]? =some n→n.id=id→(∀(j:Nat) (n:Pn),j<k→r.l[j]? =some n→n.id≠id)→Ao r.l id=(k:Int)):=fun k n h1 h2 h3=>Lm (Ad7 h1 h2 h3);have bg:=(Blk.new w 29 r.cells).alloc (.cells id.V 36);have bi:=Blk.new (w.alloc (.cells r.cells 29)) 36 id.V;rw [Am9] at bi;have f0:Fr Non w ((w.alloc (.cells r.cells 29)).alloc (.cells id.V 36)):=((Fr.refl Non w).alloc _).alloc _;have g2:Hid (r.cells[2]? =some (.slice r.iA r.l.length r.iC)):=rfl;have hm:=J5;clear h;generalize Ao r.l id=R at*;generalize hids:r.ids=ids at*;generalize hl:r.l=l at*;generalize r.iA=A at*;generalize r.iC=C at*;generalize r.cells=CS at*;go_enter Tryz.func15,Tryz.ntmps15;go_wp2
 go_loopw [5] (fun v wr=>∃k:Nat,v=.int .i64 (k:Int)∧k≤l.length∧Hid (∀(j:Nat) (n:Pn),j<k→l[j]? =some n→n.id≠id)∧Fr Non ((w.alloc (.cells CS 29)).alloc (.cells id.V 36)) wr) (fun v _=>l.length-(intOf v).toNat)
 case atStart=>exact ⟨0,rfl,by omega,fun j n hj=>absurd hj (Nat.not_lt_zero _),Fr.refl _ _⟩
 case round=>
  obtain ⟨k,rfl,hk,hh,hf⟩:=hrel;have ah:=bg.fr hf zq;have d2:=(ah.cell 2).trans g2.out;have ac:Fr Non w wr:=f0.trans hf zr
  by_cases hlt:k<l.length
  ·
   obtain ⟨n,hn⟩:∃n,l[k]? =some n:=⟨_,Am6 hlt⟩;obtain ⟨b,aj,rfl,ak,k0,k1,k2⟩:=Id.at (hr.fr ac zr) (af.out k n hn);have ae:=bi.fr hf zq;have c0:=ae.cell 0;have c1:=ae.cell 1;have c2:=ae.cell 2;have aa:=Id.eq_iff n.id id
   by_cases he:Id.eq n.id id=true
   ·
    have hR:Hid (R=(k:Int)):=ab.out k n hn (aa.1 he) hh.out;clear hn af ab ag aa bg bi f0 ah ae hids hl;generalize n.id=y at*;generalize l.length=N at*;have i1:(0:Int)≤k:=by omega
    have i2:(k:Int)<N:=by omega
    have i3:(k:Int).toNat=k:=by omega
    go_wp2
    go_quiet (fail)
    go_wp2
    go_ret
    exact ⟨by rw [hR.out];rfl,ac.drewN _⟩
   ·
    have he:=Ao2 _▸he
    have ad:Hid (∀(j:Nat) (n:Pn),j<k+1→l[j]? =some n→n.id≠id):=by
     intro j m hj hm
     rcases Nat.lt_or_ge j k with h1|h1
     · exact hh.out j m h1 hm
     ·
      have e:j=k:=by omega
      subst e;rw [hn] at hm;injection hm with hm
      subst hm;intro e;rw [aa.2 e] at he
      cases he
    clear hn af ab ag aa ah ae hids hl hh;generalize n.id=y at*;generalize hN:l.length=N at*;have i1:(0:Int)≤k:=by omega
    have i2:(k:Int)<N:=by omega
    have i3:(k:Int).toNat=k:=by omega
    clear hN;go_wp2
    go_quiet (fail)
    go_wp2;go_roundw
    case rel=>exact ⟨k+1,by go_num,by omega,ad,hf.drewN _⟩
    case measure=>simp [intOf];omega
  ·
   obtain rfl:k=l.length:=by omega
   have hR:Hid (R= -1):=ag.out hh.out;go_wp2
   go_ret
   exact ⟨by rw [hR.out];rfl,ac⟩
end Oq
namespace Oq
attribute [local go_sem] An4 An5
theorem Ei (v:Value):Instr.loadAt 29 v=ldS 29 v:=rfl
attribute [local go_sem ↓] Ei Fh
theorem Cc:(Tryz.prog.info? 29).map (·.size)=some 5:=by kernel_rfl
theorem Rt (r:RG):r.ids.length=r.l.length:=by simp [RG.ids]
theorem Lr (base:Nat) (r:RG) (w:World) (h:r.own w base):Calls Tryz.prog 21 #[.agg r.cells] w (Eo r.ids r.l.length w):=by
 have hr:=h.rdIds;have hfew:=h.few;have bg:=Blk.new w 29 r.cells;have f0:Fr Non w (w.alloc (.cells r.cells 29)):=(Fr.refl Non w).alloc _;have g2:r.cells[2]? =some (.slice r.iA r.l.length r.iC):=rfl;have c2:=(bg.cell 2).trans g2;have k:=Lib.hid (Fi w.heap.size r.l.length r.iC r.iA r.ids (w.alloc (.cells r.cells 29)) (Rt r) (hr.fr f0 zr) (by omega));unfold Eo at k ⊢;clear bg g2 h;generalize r.cells=CS at*;generalize Am r.ids=IS at*;go_enter Tryz.func21,Tryz.ntmps21;go_wp2_with (fail);refine k.out.mono ?_;rintro _ w1 ⟨A,c,rfl,o1,f1⟩;go_wp2
 go_ret
 exact ⟨A,c,rfl,o1.lower f0.size,f0.trans f1 zr⟩
def Cf (ids:List Id) (d:Int) (k:Nat):Int:=(ids.take k).foldl (fun n x=>if x.b==d then max n x.s else n) 0
theorem Ru {ids:List Id} {d:Int} {k:Nat} {x:Id} (h:ids[k]? =some x):Cf ids d (k+1)=if x.b==d then max (Cf ids d k) x.s else Cf ids d k:=by
 unfold Cf;rw [Dq h,List.foldl_append];rfl
theorem Rv {ids:List Id} {d m:Int} (hm:0≤m) (h:∀x∈ids,x.s≤m) (k:Nat):0≤Cf ids d k∧Cf ids d k≤m:=by
 induction k with
 |zero=>exact ⟨An6 _,hm⟩
 |succ k ih=>
  cases hx:ids[k]? with
  |none=>
   have:Cf ids d (k+1)=Cf ids d k:=by
    unfold Cf;rw [Am8 (by have:=List.getElem?_eq_none_iff.1 hx;omega),Am8 (by have:=List.getElem?_eq_none_iff.1 hx;omega)]
   rw [this];exact ih
  |some x=>
   rw [Ru hx];have:=h x (An3 hx)
   split<;>omega
theorem Ad8 (g:Array Value) (B n c:Nat) (A:Option Addr) (ids:List Id) (d:Int) (w:World) (hn:Hid (ids.length=n)) (hr:Rd w B 3 A n (ids.flatMap Id.cells)) (hnm:n≤1000000) (hs:∀x∈ids,x.s≤2147483647):
  Calls Tryz.prog 31 #[.agg g,.slice A n c,.int .i64 d] w fun e w'=>e=.returned (.int .i64 (Cf ids d n+1))∧Fr Non w w':=by
 have f0:Fr Non w (w.alloc (.cells g 29)):=(Fr.refl Non w).alloc _;have hr0:=hr.fr f0 zr;have hbd:=Lib.hid (fun k=>Rv (ids:=ids) (d:=d) (m:=2147483647) (by omega) hs k);clear hs hr;go_enter Tryz.func31,Tryz.ntmps31;go_wp2;generalize w.alloc (.cells g 29)=w0 at*
 go_loopw [7,8] (fun m v wr=>∃k:Nat,v=.int .i64 (k:Int)∧m=.int .i64 (Cf ids d k)∧k≤n∧Fr Non w0 wr) (fun _ v _=>n-(intOf v).toNat)
 case atStart=>exact ⟨0,rfl,rfl,by omega,Fr.refl _ _⟩
 case round=>
  obtain ⟨k,rfl,rfl,hk,hf⟩:=hrel;obtain ⟨b1,b2⟩:=hbd.out k
  by_cases hlt:k<n
  ·
   obtain ⟨y,hy⟩:∃y,ids[k]? =some y:=⟨_,Am6 (by rw [hn.out];exact hlt)⟩;obtain ⟨b,off,rfl,hbB,k0,k1,k2⟩:=Id.at (hr0.fr hf zr) hy;have hsn:=Lib.hid (Ru (d:=d) hy);clear hy;have i1:(0:Int)≤k:=by omega
   have i2:(k:Int)<n:=by omega
   have i3:(k:Int).toNat=k:=by omega
   rcases zb (y.b==d) with he|he
   ·
    have hsn':Hid (Cf ids d (k+1)=max (Cf ids d k) y.s):=by show _=_;rw [hsn.out,he];rfl
    clear hsn;generalize Cf ids d k=M at*;go_wp2
    all_goals
     go_roundw
     case rel=>exact ⟨k+1,by go_num,by rw [hsn'.out];first|done|(congr 1<;>omega),by omega,hf⟩
     case measure=>simp [intOf];omega
   ·
    have hsn':Hid (Cf ids d (k+1)=Cf ids d k):=by show _=_;rw [hsn.out,he];rfl
    clear hsn;generalize Cf ids d k=M at*;go_wp2;go_roundw
    case rel=>exact ⟨k+1,by go_num,by rw [hsn'.out],by omega,hf⟩
    case measure=>simp [intOf];omega
  ·
   obtain rfl:k=n:=by omega
   have e1:IntKind.i64.wrap (Cf ids d k+1)=Cf ids d k+1:=IntWalk.i64_in _ (by omega);obtain ⟨M,hM⟩:=Aa (Cf ids d k);rw [hM.out] at e1 b1 b2;rw [hM.out];go_wp2
   go_ret
   exact ⟨by first|(rw [hM.out];rfl)|rfl,f0.trans hf zr⟩
theorem Ad9 (base:Nat) (r:RG) (B n c:Nat) (A:Option Addr) (ids:List Id) (w:World) (h:r.own w base) (hn:Hid (ids.length=n)) (hr:Rd w B 3 A n (ids.flatMap Id.cells)) (hnm:n≤1000000):
  Calls Tryz.prog 32 #[.agg r.cells,.slice A n c] w fun e w'=>e=.returned (.int .i64 (late r.l ids))∧Fr Non w w':=by
 have aw:=h.few;have bg:=Blk.new w 29 r.cells;have f0:Fr Non w (w.alloc (.cells r.cells 29)):=(Fr.refl Non w).alloc _;have g1:Hid (r.cells[1]? =some (.slice r.lA r.l.length r.lC)):=rfl;have a3:=hr.fr f0 zr;have kp:=Lib.hid (fun (id:Id) (w':World) (hf:Fr Non w w')=>E7 base r id w' (h.non hf))
 have ai:Hid (∀i,i<r.l.length→∃(m:Pn) (b aa:Nat),r.l[i]? =some m∧r.lA=some ⟨b,aa,none⟩∧w.cell? ⟨b,aa+i*27+3,none⟩=some (.int .i64 m.o.at_)):=by
  intro i hi;obtain ⟨y,b,aa,_,h1,_,h3,_,h4⟩:=h.xAt (Am6 hi);exact ⟨_,b,aa,Am6 hi,h3,by rw [← h1];exact h4 3 (by omega) _ rfl⟩
 have al:Hid (∀k,0≤late r.l (ids.take k)):=by
  intro k
  have mono:∀(l:List Id) (t:Int),0≤t→0≤l.foldl (fun t id=>max t (Cb r.l id)) t:=by
   intro l
   induction l with
   |nil=>intro t ht;exact ht
   |cons y q ih=>intro t ht;exact ih _ (by dsimp only;omega)
  exact mono _ 0 (An6 _)
 have hl:=Aq (P:=Tryz.prog) w.heap.size 29 Tryz.underlying29 rfl (cs:=r.cells) Cc
 have ag:Hid (∀id i,Ao r.l id=(i:Int)→0≤(i:Int)→∀m,r.l[i.toNat]? =some m→Cb r.l id=m.o.at_):=by
  intro id i e hi m hm;unfold Ao at e
  cases hp:plc r.l id with
  |none=>rw [hp] at e;dsimp only at e;omega
  |some p=>
   rw [hp] at e;dsimp only at e;exact I9 hp (by rw [show p=i.toNat by omega];exact hm)
 have ae:Hid (∀id,-1≤Ao r.l id∧Ao r.l id<r.l.length):=by
  intro id;unfold Ao
  cases hp:plc r.l id with
  |none=>exact ⟨An6 _,by dsimp only;omega⟩
  |some p=>have:=Dk hp;exact ⟨by dsimp only;omega,by dsimp only;omega⟩
 have ah:Hid (∀id,Ao r.l id<0→Cb r.l id=0):=by
  intro id e;unfold Ao at e
  cases hp:plc r.l id with
  |none=>unfold Cb;rw [hp]
  |some p=>rw [hp] at e;dsimp only at e;omega
 clear h hr;obtain ⟨N,hN⟩:=Aa r.l.length;rw [hN.out] at g1 ai ae aw;generalize r.lA=LA at*;generalize r.lC=LC at*;generalize r.cells=CS at*;generalize r.l=l at*;go_enter Tryz.func32,Tryz.ntmps32;go_wp2;generalize w.alloc (.cells CS 29)=w0 at*
 go_loopw [5,6] (fun m v wr=>∃k:Nat,v=.int .i64 (k:Int)∧m=.int .i64 (late l (ids.take k))∧k≤n∧Fr Non w0 wr) (fun _ v _=>n-(intOf v).toNat)
 case atStart=>exact ⟨0,rfl,rfl,by omega,Fr.refl _ _⟩
 case round=>
  obtain ⟨k,rfl,rfl,hk,hf⟩:=hrel
  by_cases hlt:k<n
  ·
   obtain ⟨y,hy⟩:∃y,ids[k]? =some y:=⟨_,Am6 (by rw [hn.out];exact hlt)⟩;obtain ⟨b,aa,rfl,a6,k0,k1,k2⟩:=Id.at (a3.fr hf zr) hy;have aj:=Lib.hid (Pr l ids k hy);have a5:=al.out k;clear hy;have i1:(0:Int)≤k:=by omega
   have i2:(k:Int)<n:=by omega
   have i3:(k:Int).toNat=k:=by omega
   have ay:=(bg.fr hf zq).drew;have ar:Fr Non w wr.drew:=(f0.trans hf zr).drew;have K0:wr.drew.cell? ⟨b,aa+k*3,none⟩=some (.int .i64 y.b):=k0;have K1:wr.drew.cell? ⟨b,aa+k*3+1,none⟩=some (.int .i64 y.s):=k1;have K2:wr.drew.cell? ⟨b,aa+k*3+2,none⟩=some (.int .u64 (y.u:Int)):=k2;have az:=Lib.hid (kp.out y wr.drew ar);obtain ⟨p1,p2⟩:=ae.out y;have aq:=Lib.hid (ag.out y);have ao:=Lib.hid (ah.out y);clear kp ag ah ae;generalize Ao l y=P at*;go_upto_region 5 with (fail)
   have B0:=ay;have ad:=K0;have ac:=K1;have ab:=K2;have ax:=ar;clear ay K0 K1 K2 k0 k1 k2 ar;refine wp_region_held_drew (S:=fun w'=>Blk w' w.heap.size 29 CS∧w'.cell? ⟨b,aa+k*3,none⟩=some (.int .i64 y.b)∧w'.cell? ⟨b,aa+k*3+1,none⟩=some (.int .i64 y.s)∧w'.cell? ⟨b,aa+k*3+2,none⟩=some (.int .u64 (y.u:Int))) (by kernel_rfl) ⟨B0,ad,ac,ab⟩ (fun hHeld=> ?_);clear hHeld;refine tkH 0 ⟨B0,ad,ac,ab⟩ (h:=tkH 1 ⟨B0,ad,ac,ab⟩ (h:=tkH 2 ⟨B0,ad,ac,ab⟩ (h:=tkH 3 ⟨B0,ad,ac,ab⟩ (h:=tkH 4 ⟨B0,ad,ac,ab⟩ (h:=?_)))));simp only [List.set];refine oG 5 (fun K hK=> ?_);go_simp;go_wp2_with (go_at_call 15;(with_reducible refine (az.out).mono ?_);rintro _ v1 ⟨rfl,af⟩;have B1:=B0.fr af zq;have ak:=af.cell ad zq;have au:=af.cell ac zq;have av:=af.cell ab zq;have a2:=ax.trans af zr);refine hK.out _ _ ⟨B1,ak,au,av⟩ (fun hZ=> ?_);clear hZ hK K;try simp only [Ab,List.set]
   refine tkH 6 ⟨B1,ak,au,av⟩ (h:=?_);simp only [List.set];refine oD ?_;go_simp;clear az ad ac ab ak au av B0 ax;have a0:Fr Non w0 v1:=hf.drew.trans af zr;clear hf af
   rcases An8 P 0 with hP|hP
   ·
    have t:decide (P≥0)=false:=decide_eq_false (by omega);have t2:decide (0≤P)=false:=decide_eq_false (by omega)
    have ap:Hid (late l (ids.take k)=late l (ids.take (k+1))):=by
     show _=_;rw [aj.out,ao.out hP];omega
    clear aj ao aq ai al;go_wp2;go_roundw
    case rel=>exact ⟨k+1,by go_num,by rw [ap.out],by omega,a0⟩
    case measure=>simp [intOf];omega
   ·
    obtain ⟨p,rfl⟩:∃p:Nat,P=(p:Int):=⟨P.toNat,by omega⟩;have t:decide ((p:Int)≥0)=true:=decide_eq_true (by omega);have t2:decide (0≤(p:Int))=true:=decide_eq_true (by omega);obtain ⟨m,b2,a1,hm,rfl,cm⟩:=ai.out p (by omega)
    have ap:Hid (late l (ids.take (k+1))=max (late l (ids.take k)) m.o.at_):=by
     show _=_;rw [aj.out,aq.out p rfl (by omega) m (by rw [Int.toNat_natCast];exact hm)]
    have c1:=(B1.cell 1).trans g1.out;have a4:=a2.cell cm zq;have p3:(p:Int)<N:=p2;have p4:(p:Int).toNat=p:=by omega
    have p5:(0:Int)≤p:=by omega
    clear aj ao aq ai al hm cm p1 p2 B1;generalize m.o.at_=ma at*;generalize late l (ids.take k)=lk at*;go_wp2
    all_goals
     go_roundw
     case rel=>exact ⟨k+1,by go_num,by rw [ap.out];first|done|(congr 1<;>omega),by omega,a0⟩
     case measure=>simp [intOf];omega
  ·
   obtain rfl:k=n:=by omega
   have hR:Hid (late l (ids.take k)=late l ids):=by show _=_;rw [Am8 (by rw [hn.out];omega)]
   rw [hR.out];go_wp2
   go_ret
   exact ⟨rfl,f0.trans hf zr⟩
end Oq
namespace Oq
attribute [local go_sem] An4 An5
attribute [local go_sem ↓] Fh
def Cg (l:List Id) (w:World) (e:Ending) (w':World):Prop:=∃A c,e=.returned (.slice A l.length c)∧Own w' w.heap.size 36 3 A l.length c (l.flatMap Id.cells)∧Fr Non w w'
theorem Ae0 {l l':List Id} {k:Nat} {y z:Id} (h:l[k]? =some y) (h':l'[k]? =some z) (hk:l.take k=l'.take k) (e:y=z):l.take (k+1)=l'.take (k+1):=by
 rw [Ao3,Ao3,hk,h,h',e]
theorem Rw (B n c B' m c':Nat) (A A':Option Addr) (l l':List Id) (w:World) (hn:Hid (l.length=n)) (hm:Hid (l'.length=m)) (hr:Rd w B 3 A n (l.flatMap Id.cells)) (hr':Rd w B' 3 A' m (l'.flatMap Id.cells)) (hnm:n≤1000000) (R:Bool) (hR:R=true↔l=l'):
  Calls Tryz.prog 9 #[.slice A n c,.slice A' m c'] w (Ad R w):=by
 have hRf:Hid (l≠l'→R=false):=fun h=>by cases R with|false=>rfl|true=>exact absurd (hR.1 rfl) h
 have hRt:Hid (l=l'→R=true):=hR.2;clear hR
 by_cases hne:n=m
 ·
  subst hne;have t:((n:Int) !=(n:Int))=false:=by simp
  go_enter Tryz.func9,Tryz.ntmps9;go_wp2
  go_loopw [5] (fun v wr=>∃k:Nat,v=.int .i64 (k:Int)∧k≤n∧Hid (l.take k=l'.take k)∧Fr Non w wr) (fun v _=>n-(intOf v).toNat)
  case atStart=>exact ⟨0,rfl,by omega,rfl,Fr.refl _ _⟩
  case round=>
   obtain ⟨k,rfl,hk,hh,hf⟩:=hrel
   by_cases hlt:k<n
   ·
    obtain ⟨y,hy⟩:∃y,l[k]? =some y:=⟨_,Am6 (by rw [hn.out];exact hlt)⟩;obtain ⟨z,hz⟩:∃y,l'[k]? =some y:=⟨_,Am6 (by rw [hm.out];exact hlt)⟩;obtain ⟨b,off,rfl,hbB,k0,k1,k2⟩:=Id.at (hr.fr hf zr) hy;obtain ⟨b',off',rfl,hbB',g0,g1,g2⟩:=Id.at (hr'.fr hf zr) hz;have hcase:=Id.eq_iff y z;have hsn:Hid (y=z→l.take (k+1)=l'.take (k+1)):=Ae0 hy hz hh.out;have hno:Hid (y≠z→R=false):=fun e=>hRf.out (fun e'=>by rw [e',hz] at hy;injection hy with hy;exact e hy.symm);clear hy hz;have i1:(0:Int)≤k:=by omega
    have i2:(k:Int)<n:=by omega
    have i3:(k:Int).toNat=k:=by omega
    have hm:=J5
    by_cases he:Id.eq y z=true
    ·
     have hfin:=Lib.hid (hsn.out (hcase.1 he));clear hsn hno hcase;go_wp2
     go_quiet (fail)
     go_wp2;go_roundw
     case rel=>exact ⟨k+1,by go_num,by omega,hfin,hf.drewN _⟩
     case measure=>simp [intOf];omega
    ·
     have hfin:=Lib.hid (hno.out (fun e=>he (hcase.2 e)));have he:=Ao2 _▸he;clear hsn hno hcase;go_wp2
     go_quiet (fail)
     go_wp2
     go_ret
     exact ⟨by rw [hfin.out];rfl,hf.drewN _⟩
   ·
    obtain rfl:k=n:=by omega
    have hfin:Hid (R=true):=by
     have h:=hh.out;rw [Am8 (by rw [hn.out];omega),Am8 (by rw [hm.out];omega)] at h;exact hRt.out h
    go_wp2
    go_ret
    exact ⟨by rw [hfin.out];rfl,hf⟩
 ·
  have t:((n:Int) !=(m:Int))=true:=by simp;omega
  have hfin:Hid (R=false):=hRf.out (fun e=>hne (by rw [← hn.out,← hm.out,e]));go_enter Tryz.func9,Tryz.ntmps9;go_wp2
  go_ret
  exact ⟨by rw [hfin.out];rfl,Fr.refl _ _⟩
end Oq
namespace Oq
attribute [local go_sem] An4 An5
attribute [local go_sem ↓] Ei
def Cl (l:List Pn) (p:Nat→Bool) (k:Nat):List Id:=(List.range k).filterMap (fun i=>if p i then l[i]?.map Pn.id else none)
theorem Rx (l:List Pn) (p:Nat→Bool) (k:Nat) {n:Pn} (h:l[k]? =some n):Cl l p (k+1)=Cl l p k++(if p k then [n.id] else []):=by
 unfold Cl;rw [List.range_succ,Ao4];congr 1
 cases hp:p k<;>simp [hp,h]
theorem Ry (l:List Pn) (p:Nat→Bool) (k:Nat):(Cl l p k).length≤k:=by
 unfold Cl;have h:=List.length_filterMap_le (fun i=>if p i then l[i]?.map Pn.id else none) (List.range k);simpa using h
theorem Ej (l:List Id):(Am l).length=l.length:=(Di l).length_eq
theorem Ae1 {l:List Pn} {id:Id} (h:Ao l id<0) (q:Nat):upB l id q=false:=by
 unfold Ao at h;unfold upB
 cases hp:plc l id with
 |none=>rfl
 |some p=>rw [hp] at h;dsimp only at h;omega
theorem Ae2 {l:List Pn} {id:Id} {p:Nat} {m:Pn} (h:Ao l id=(p:Int)) (hm:l[p]? =some m) (q:Nat):upB l id q=m.ps q:=by
 unfold Ao at h;unfold upB
 cases hp:plc l id with
 |none=>rw [hp] at h;dsimp only at h;omega
 |some i=>
  rw [hp] at h;dsimp only at h ⊢;have e:i=p:=by omega
  subst e;rw [hm];rfl
theorem Rz (l:List Pn) (id:Id): -1≤Ao l id∧Ao l id<l.length:=by
 unfold Ao
 cases hp:plc l id with
 |none=>exact ⟨An6 _,by dsimp only;omega⟩
 |some p=>have:=Dk hp;exact ⟨by dsimp only;omega,by dsimp only;omega⟩
theorem RG.own.inAt {w:World} {base:Nat} {r:RG} (h:r.own w base) {p:Nat} (hp:p<r.l.length):
  ∃(m:Pn) (A2:Option Addr) (c2 b off:Nat),r.l[p]? =some m∧r.nA=some ⟨b,off,none⟩∧w.cell? ⟨b,off+p,none⟩=some (.slice A2 r.l.length c2)∧
   ∀i,i<r.l.length→∃b2 off2,A2=some ⟨b2,off2,none⟩∧w.cell? ⟨b2,off2+i,none⟩=some (.bool (m.ps i)):=by
 obtain ⟨x,b,off,h1,h2,h3,_,h4⟩:=h.nAt (Am6 hp);have hlen:x.bs.length=r.l.length:=by rw [h1,Gh]
 have h4':w.cell? ⟨b,off+p,none⟩=some (.slice x.A x.bs.length x.c):=h4;rw [hlen] at h4';refine ⟨_,x.A,x.c,b,off,Am6 hp,h3,h4',fun i hi=> ?_⟩;have hrd:Rd w w.heap.size 1 x.A x.bs.length (x.bs.map Value.bool):=h2.sl.rd;obtain ⟨b2,off2,u,e1,_,e2,e3⟩:=hrd.at (k:=i) (by omega);rw [An0,h1,Ro hi] at e2;injection e2 with e2
 subst e2;exact ⟨b2,off2,e1,e3⟩
theorem RG.own.idAt {w:World} {base:Nat} {r:RG} (h:r.own w base) {i:Nat} (hi:i<r.l.length):
  ∃(m:Pn) (b off:Nat),r.l[i]? =some m∧r.iA=some ⟨b,off,none⟩∧w.cell? ⟨b,off+i*3,none⟩=some (.int .i64 m.id.b)∧w.cell? ⟨b,off+i*3+1,none⟩=some (.int .i64 m.id.s)∧w.cell? ⟨b,off+i*3+2,none⟩=some (.int .u64 (m.id.u:Int)):=by
 obtain ⟨b,off,h1,_,h2,h3,h4⟩:=Id.at h.rdIds (Rs (Am6 hi));exact ⟨_,b,off,Am6 hi,h1,h2,h3,h4⟩
theorem R3 (base:Nat) (r:RG) (B n c:Nat) (A:Option Addr) (ids:List Id) (w:World) (h:r.own w base) (hn:Hid (ids.length=n)) (hr:Rd w B 3 A n (ids.flatMap Id.cells)) (hnm:n≤1000000):
  Calls Tryz.prog 64 #[.agg r.cells,.slice A n c] w (Cg (Am (Cl r.l (Av r.l ids) r.l.length)) w):=by
 have bh:=h.few;have bg:=Blk.new w 29 r.cells;have f0:Fr Non w (w.alloc (.cells r.cells 29)):=(Fr.refl Non w).alloc _;have g1:Hid (r.cells[1]? =some (.slice r.lA r.l.length r.lC)):=rfl;have g2:Hid (r.cells[2]? =some (.slice r.iA r.l.length r.iC)):=rfl;have g4:Hid (r.cells[4]? =some (.slice r.nA r.l.length r.nC)):=rfl;have kp:=Lib.hid (fun (id:Id) (w':World) (hf:Fr Non w w')=>E7 base r id w' (h.non hf));have hl:=Aq (P:=Tryz.prog) w.heap.size 29 Tryz.underlying29 rfl (cs:=r.cells) Cc;have au:=Lib.hid (fun (p:Nat) (hp:p<r.l.length)=>h.inAt hp);have hid:=Lib.hid (fun (p:Nat) (hp:p<r.l.length)=>h.idAt hp);have ab:Hid (∀id,-1≤Ao r.l id∧Ao r.l id<r.l.length):=fun id=>Rz r.l id;have ac:Hid (∀id,Ao r.l id<0→∀q,upB r.l id q=false):=fun id h q=>Ae1 h q;have ad:Hid (∀id (p:Nat) m,Ao r.l id=(p:Int)→r.l[p]? =some m→∀q,upB r.l id q=m.ps q):=fun id p m h1 h2 q=>Ae2 h1 h2 q;have a4:Hid (∀k m,r.l[k]? =some m→Cl r.l (Av r.l ids) (k+1)=Cl r.l (Av r.l ids) k++(if Av r.l ids k then [m.id] else [])):=fun k m hm=>Rx r.l _ k hm;have a3:Hid (∀k,(Cl r.l (Av r.l ids) k).length≤k):=fun k=>Ry _ _ k;have a2:Hid (∀k y,ids[k]? =some y→Av r.l (ids.take (k+1))=fun q=>Av r.l (ids.take k) q||upB r.l y q):=fun k y hy=>Pq r.l ids k hy;clear h;generalize r.lA=LA at*;generalize r.lC=LC at*;generalize r.iA=IA at*;generalize r.iC=IC at*;generalize r.nA=NA at*;generalize r.nC=NC at*;generalize r.cells=CS at*;generalize r.l=l at*;obtain ⟨N,hN⟩:=Aa l.length;rw [hN.out] at g1 g2 g4 au hid ab bh ⊢;go_enter Tryz.func64,Tryz.ntmps64;go_upto_region 1 with (fail)
 generalize w.alloc (.cells CS 29)=w0 at*;go_wp2
 go_loopw [5,6] (fun s v wr=>∃(i:Nat) (Ax:Option Addr) (cx:Nat) (xs:List Id),v=.int .i64 (i:Int)∧s=.slice Ax xs.length cx∧i≤N∧Hid (xs=Cl l (Av l ids) i)∧Own wr w0.heap.size 36 3 Ax xs.length cx (xs.flatMap Id.cells)∧Fr Non w0 wr) (fun _ v _=>N-(intOf v).toNat)
 case atStart=>exact ⟨0,none,0,[],rfl,rfl,by omega,rfl,Own.nil _ _ _ _,Fr.refl _ _⟩
 case round=>
  obtain ⟨i,Ax,cx,xs,rfl,rfl,hi,ap,af,hf⟩:=hrel;have bo:Fr Non w wr:=f0.trans hf zr;have q1:=((bg.fr hf zq).cell 1).trans g1.out;have bi:=af.row;have b0:xs.length≤i:=by rw [ap.out];exact a3.out i
  by_cases hlt:i<N
  ·
   have j1:(0:Int)≤i:=by omega
   have j2:(i:Int)<N:=by omega
   have j3:(i:Int).toNat=i:=by omega
   obtain ⟨wo,bq⟩:∃wo:World,wo=wr:=⟨_,rfl⟩;subst bq;go_wp2;clear q1
   go_loopw [7,8] (fun s v wi=>∃k:Nat,v=.int .i64 (k:Int)∧s=.bool (Av l (ids.take k) i)∧k≤n∧Fr Non wo wi) (fun _ v _=>n-(intOf v).toNat)
   case atStart=>exact ⟨0,rfl,rfl,by omega,Fr.refl _ _⟩
   case round=>
    obtain ⟨k,rfl,rfl,hk,az⟩:=hrel;have av:Fr Non w0 wr:=hf.trans az zr;have ax:Fr Non w wr:=f0.trans av zr
    by_cases hkn:k<n
    ·
     obtain ⟨y,hy⟩:∃y,ids[k]? =some y:=⟨_,Am6 (by rw [hn.out];exact hkn)⟩;obtain ⟨b,aw,rfl,b4,k0,k1,k2⟩:=Id.at (hr.fr ax zr) hy;have i1:(0:Int)≤k:=by omega
     have i2:(k:Int)<n:=by omega
     have i3:(k:Int).toNat=k:=by omega
     have aq:Hid (Av l (ids.take (k+1)) i=(Av l (ids.take k) i||upB l y i)):=by show _=_;rw [a2.out k y hy]
     have bm:=Lib.hid (kp.out y wr.drew ax.drew);obtain ⟨p1,p2⟩:=ab.out y;have a7:Hid (Ao l y<0→upB l y i=false):=fun e=>ac.out y e i;have a5:Hid (∀(p:Nat) m,Ao l y=(p:Int)→l[p]? =some m→upB l y i=m.ps i):=fun p m h1 h2=>ad.out y p m h1 h2 i;have B0:=(bg.fr av zq).drew;have al:wr.drew.cell? ⟨b,aw+k*3,none⟩=some (.int .i64 y.b):=k0;have ak:wr.drew.cell? ⟨b,aw+k*3+1,none⟩=some (.int .i64 y.s):=k1;have aj:wr.drew.cell? ⟨b,aw+k*3+2,none⟩=some (.int .u64 (y.u:Int)):=k2;have bj:Fr Non w wr.drew:=ax.drew;clear hy kp ab ac ad a2 a4 a3 k0 k1 k2 hid;obtain ⟨a1,a6⟩:=Aa (Av l (ids.take (k+1)) i);rw [a6.out] at aq;generalize Av l (ids.take k) i=a0 at*;generalize upB l y i=up at*;generalize Ao l y=P at*;go_upto_region 9 with (fail)
     refine wp_region_held_drew (S:=fun w'=>Blk w' w.heap.size 29 CS∧w'.cell? ⟨b,aw+k*3,none⟩=some (.int .i64 y.b)∧w'.cell? ⟨b,aw+k*3+1,none⟩=some (.int .i64 y.s)∧w'.cell? ⟨b,aw+k*3+2,none⟩=some (.int .u64 (y.u:Int))) (by kernel_rfl) ⟨B0,al,ak,aj⟩ (fun hHeld=> ?_);clear hHeld;refine tkH 0 ⟨B0,al,ak,aj⟩ (h:=tkH 1 ⟨B0,al,ak,aj⟩ (h:=tkH 2 ⟨B0,al,ak,aj⟩ (h:=tkH 3 ⟨B0,al,ak,aj⟩ (h:=tkH 4 ⟨B0,al,ak,aj⟩ (h:=?_)))));simp only [List.set];refine oG 5 (fun K hK=> ?_);go_simp;go_wp2_with (go_at_call 15;(with_reducible refine (bm.out).mono ?_);rintro _ v1 ⟨rfl,ar⟩;have B1:=B0.fr ar zq;have a8:=ar.cell al zq;have be:=ar.cell ak zq;have bf:=ar.cell aj zq;have bp:=bj.trans ar zr);refine hK.out _ _ ⟨B1,a8,be,bf⟩ (fun hZ=> ?_);clear hZ hK K;try simp only [Ab,List.set]
     refine tkH 6 ⟨B1,a8,be,bf⟩ (h:=?_);simp only [List.set];refine oD ?_;go_simp;clear bm al ak aj a8 be bf B0 bj;have a9:Fr Non wo v1:=az.drew.trans ar zr;have q4:=(B1.cell 4).trans g4.out;clear az ar B1
     cases a0
     case true=>
      have aa:Hid (a1=true):=by show _=_;rw [aq.out];rfl
      clear aq a7 a5 au;go_wp2;go_roundw
      case rel=>exact ⟨k+1,by go_num,by rw [a6.out,aa.out],by omega,a9⟩
      case measure=>simp [intOf];omega
     case false=>
      rcases An8 P 0 with hP|hP
      ·
       have t:decide (P≥0)=false:=decide_eq_false (by omega);have t2:decide (0≤P)=false:=decide_eq_false (by omega);have aa:Hid (a1=false):=by show _=_;rw [aq.out,a7.out hP];rfl
       clear aq a7 a5 au;go_wp2;go_roundw
       case rel=>exact ⟨k+1,by go_num,by rw [a6.out,aa.out],by omega,a9⟩
       case measure=>simp [intOf];omega
      ·
       obtain ⟨p,rfl⟩:∃p:Nat,P=(p:Int):=⟨P.toNat,by omega⟩;have t:decide ((p:Int)≥0)=true:=decide_eq_true (by omega);have t2:decide (0≤(p:Int))=true:=decide_eq_true (by omega);obtain ⟨m,A2,c2,b2,bb,hm,rfl,cm,ag⟩:=au.out p (by omega);obtain ⟨b3,bw,rfl,bl⟩:=ag i hlt;have aa:Hid (a1=m.ps i):=by show _=_;rw [aq.out,a5.out p m rfl hm];rfl
       have bz:=bp.cell cm zq;have b1:=bp.cell bl zq;have p3:(p:Int)<N:=p2;have p4:(p:Int).toNat=p:=by omega
       have p5:(0:Int)≤p:=by omega
       clear aq a7 a5 au hm cm bl p1 p2 ag;generalize m.ps i=mi at*;go_wp2
       all_goals
        go_roundw
        case rel=>exact ⟨k+1,by go_num,by rw [a6.out,aa.out],by omega,a9⟩
        case measure=>simp [intOf];omega
    ·
     obtain rfl:k=n:=by omega
     have hR:Hid (Av l (ids.take k) i=Av l ids i):=by show _=_;rw [Am8 (by rw [hn.out];omega)]
     obtain ⟨m,b2,bb,hm,rfl,d0,d1,d2⟩:=hid.out i hlt;have ae:=Lib.hid (a4.out i m hm);have q2:=((bg.fr av zq).cell 2).trans g2.out;have e0:=ax.cell d0 zq;have e1:=ax.cell d1 zq;have e2:=ax.cell d2 zq;have O1:=af.fr az zr;rw [hR.out];clear hm a4 a3 a2 ac ad ab au hid kp d0 d1 d2 az;generalize Av l ids i=ai at*;generalize m.id=z at*
     cases ai
     case true=>
      have ao:Hid (xs++[z]=Cl l (Av l ids) (i+1)):=by show _=_;rw [ae.out,← ap.out];rfl
      have bc:=O1.alloc (.cells z.V 36);have bu:=av.alloc (.cells z.V 36);have bt:=Blk.new wr 36 z.V;have bx:=av.size;clear ae ap hr bg;go_wp2_with (at_builtin;go_loud (refine Az (base:=w0.heap.size) (.tmp 46) (.tmp 52) 25 rfl rfl rfl rfl Cw bc (Rd.blk (n:=1) (size:=3) bt rfl) (by simp [Value.oneCell']) (by omega) (by omega) (by rw [Am9];omega) ?_);intro A2 bn w4 ba bv br)
      have bd:Own w4 w0.heap.size 36 3 A2 (xs++[z]).length bn ((xs++[z]).flatMap Id.cells):=by
       rw [Am7,An1];exact ba
      have bs:Fr Non w0 w4:=bu.trans bv (fun j hj e=>by have h5:=(bi j e).1;omega);go_roundw
      case rel=>exact ⟨i+1,A2,bn,xs++[z],by go_num,by rw [Am7];rfl,by omega,ao,bd,bs⟩
      case measure=>simp [intOf];omega
     case false=>
      have ao:Hid (xs=Cl l (Av l ids) (i+1)):=by show _=_;rw [ae.out,← ap.out];simp
      clear ae ap hr bg;go_wp2;go_roundw
      case rel=>exact ⟨i+1,Ax,cx,xs,by go_num,rfl,by omega,ao,O1,av⟩
      case measure=>simp [intOf];omega
  ·
   obtain rfl:i=N:=by omega
   have ks:=Lib.hid (Fi wr.heap.size xs.length cx Ax xs wr rfl af.rd (by omega))
   have ay:Hid (∀e w',Eo xs xs.length wr e w'→Cg (Am (Cl l (Av l ids) i)) w e w'):=by
    rintro e w' ⟨A5,c5,h1,h2,h3⟩;have bk:(Am xs).length=xs.length:=Ej xs;rw [← ap.out];exact ⟨A5,c5,by rw [bk];exact h1,by rw [bk];exact h2.lower bo.size,bo.trans h3 zr⟩
   generalize Cg (Am (Cl l (Av l ids) i)) w=POST at*;clear ap af hr bg a4 a3 a2 ac ad ab au hid kp;go_wp2_with (go_at_call 33;(with_reducible refine (ks.out).mono ?_);rintro _ w7 ⟨A5,c5,rfl,h5,h6⟩;have ah:=Lib.hid (ay.out _ _ ⟨A5,c5,rfl,h5,h6⟩);clear ks ay h5 h6)
   first|exact ah.out|(go_ret;exact ah.out)
def Ca (l:List Pn) (above ids:List Id):Nat→List Id
 |0=>[]
 |k+1=>match ids[k]? with
  |some y=>if (plc l y).isSome&& !Bh above y&& !Bh (Ca l above ids k) y then Ca l above ids k++[y] else Ca l above ids k
  |none=>Ca l above ids k
def Cp (l:List Pn) (ids:List Id):List Id:=Am (Cl l (Av l ids) l.length)
def E8 (l:List Pn) (ids:List Id):List Id:=Am (Ca l (Cp l ids) ids ids.length)
theorem Ae3 {l:List Pn} {above ids:List Id} {k:Nat} {y:Id} (h:ids[k]? =some y):
  Ca l above ids (k+1)=if (plc l y).isSome&& !Bh above y&& !Bh (Ca l above ids k) y then Ca l above ids k++[y] else Ca l above ids k:=by
 show (match ids[k]? with|some y=>if (plc l y).isSome&& !Bh above y&& !Bh (Ca l above ids k) y then Ca l above ids k++[y] else Ca l above ids k|none=>Ca l above ids k)=_;rw [h]
theorem Ls (l:List Pn) (above ids:List Id):∀k,(Ca l above ids k).length≤k
 |0=>An9 _
 |k+1=>by
  have ih:=Ls l above ids k;unfold Ca
  split
  ·
   split
   · rw [Am7,Ao5];omega
   · omega
  · omega
theorem plcI_pos {l:List Pn} {id:Id}:0≤Ao l id↔(plc l id).isSome=true:=by
 unfold Ao
 cases plc l id with
 |none=>simp
 |some p=>simp
theorem R4 (l:List Pn) (ids:List Id):(Cp l ids).length≤l.length:=by
 unfold Cp;rw [Ej];exact Ry _ _ _
theorem Ae4 (base:Nat) (r:RG) (B n c:Nat) (A:Option Addr) (ids:List Id) (w:World) (h:r.own w base) (hn:Hid (ids.length=n)) (hr:Rd w B 3 A n (ids.flatMap Id.cells)) (hnm:n≤100000):
  Calls Tryz.prog 30 #[.agg r.cells,.slice A n c] w (Cg (E8 r.l ids) w):=by
 have bg:=Blk.new w 29 r.cells;have f0:Fr Non w (w.alloc (.cells r.cells 29)):=(Fr.refl Non w).alloc _;have kp:=Lib.hid (fun (id:Id) (w':World) (hf:Fr Non w w')=>E7 base r id w' (h.non hf));have hl:=Aq (P:=Tryz.prog) w.heap.size 29 Tryz.underlying29 rfl (cs:=r.cells) Cc;have bc:=Lib.hid (fun (w':World) (hf:Fr Non w w')=>R3 base r B n c A ids w' (h.non hf) hn (hr.fr hf zr) (by omega));have bw:(Cp r.l ids).length≤1000:=An2 (R4 _ _) (An2 h.few (by omega));have bj:=Lib.hid (fun k y (hy:ids[k]? =some y)=>Ae3 (l:=r.l) (above:=Cp r.l ids) hy);have bi:=Lib.hid (Ls r.l (Cp r.l ids) ids);have a2:Hid (∀id,0≤Ao r.l id↔(plc r.l id).isSome=true):=fun id=>plcI_pos;have bn:Hid (E8 r.l ids=Am (Ca r.l (Cp r.l ids) ids n)):=by show _=_;rw [← hn.out];rfl
 rw [bn.out];change Hid (∀(w':World),Fr Non w w'→Calls Tryz.prog 64 #[.agg r.cells,.slice A n c] w' (Cg (Cp r.l ids) w')) at bc;clear h bn;generalize Cp r.l ids=ab at*;generalize r.cells=CS at*;generalize r.l=l at*;go_enter Tryz.func30,Tryz.ntmps30;go_upto_region 1 with (fail)
 generalize w.alloc (.cells CS 29)=w0 at*;go_wp2_with (go_at_call 64;(with_reducible refine (bc.out _ f0).mono ?_);rintro _ w1 ⟨A1,c1,rfl,o1,f1⟩;have bo:=f0.trans f1 zr;have b1:=bg.fr f1 zq;clear bc)
 go_loopw [6,7] (fun s v wr=>∃(k:Nat) (Ax:Option Addr) (cx:Nat) (xs:List Id),v=.int .i64 (k:Int)∧s=.slice Ax xs.length cx∧k≤n∧Hid (xs=Ca l ab ids k)∧Own wr w1.heap.size 36 3 Ax xs.length cx (xs.flatMap Id.cells)∧Fr Non w1 wr) (fun _ v _=>n-(intOf v).toNat)
 case atStart=>exact ⟨0,none,0,[],rfl,rfl,by omega,rfl,Own.nil _ _ _ _,Fr.refl _ _⟩
 case round=>
  obtain ⟨k,Ax,cx,xs,rfl,rfl,hk,az,ao,hf⟩:=hrel;have a9:Fr Non w wr:=bo.trans hf zr;have bk:=ao.row;have bx:xs.length≤k:=by rw [az.out];exact bi.out k
  by_cases hlt:k<n
  ·
   obtain ⟨y,hy⟩:∃y,ids[k]? =some y:=⟨_,Am6 (by rw [hn.out];exact hlt)⟩;obtain ⟨b,ap,rfl,ba,k0,k1,k2⟩:=Id.at (hr.fr a9 zr) hy;have au:=Lib.hid (bj.out k y hy);rw [← az.out] at au;have i1:(0:Int)≤k:=by omega
   have i2:(k:Int)<n:=by omega
   have i3:(k:Int).toNat=k:=by omega
   have B0:=(b1.fr hf zq).drew;have a5:Fr Non w wr.drew:=a9.drew;have ak:wr.drew.cell? ⟨b,ap+k*3,none⟩=some (.int .i64 y.b):=k0;have aj:wr.drew.cell? ⟨b,ap+k*3+1,none⟩=some (.int .i64 y.s):=k1;have ai:wr.drew.cell? ⟨b,ap+k*3+2,none⟩=some (.int .u64 (y.u:Int)):=k2;have O0:Own wr.drew w1.heap.size 36 3 Ax xs.length cx (xs.flatMap Id.cells):=ao.drew;have H0:Fr Non w1 wr.drew:=hf.drew;have av:=Lib.hid (kp.out y wr.drew a5);have a1:Hid (∀w',Fr Non w1 w'→Calls Tryz.prog 34 #[.slice A1 ab.length c1,.agg y.V] w' (Ad (Bh ab y) w')):=fun w' hw=>Hj _ ab.length c1 A1 ab y w' rfl (o1.rd.fr hw zr) (by omega);have a4:Hid (∀w',Own w' w1.heap.size 36 3 Ax xs.length cx (xs.flatMap Id.cells)→Calls Tryz.prog 34 #[.slice Ax xs.length cx,.agg y.V] w' (Ad (Bh xs y) w')):=fun w' hw=>Hj _ xs.length cx Ax xs y w' rfl hw.rd (by omega);have be:=a2.out y
   have a7:Hid (∀b,(plc l y).isSome=b→decide (Ao l y≥0)=b):=fun b e=>by
    subst e
    cases hq:(plc l y).isSome with
    |true=>exact decide_eq_true (be.2 hq)
    |false=>exact decide_eq_false (fun e=>by rw [be.1 e] at hq;cases hq)
   clear kp bj bi k0 k1 k2 hy a2 be;generalize Bh ab y=h1 at*;generalize Bh xs y=h2 at*;obtain ⟨ps,bh⟩:∃b,(plc l y).isSome=b:=⟨_,rfl⟩;have hP:=a7.out ps bh;rw [bh] at au;clear a7 bh;generalize Ao l y=P at*
   cases ps
   case false=>
    go_upto_region 6 with (fail)
    clear ao hf ba;refine wp_region_held_drew (S:=fun w'=>Blk w' w.heap.size 29 CS∧w'.cell? ⟨b,ap+k*3,none⟩=some (.int .i64 y.b)∧w'.cell? ⟨b,ap+k*3+1,none⟩=some (.int .i64 y.s)∧w'.cell? ⟨b,ap+k*3+2,none⟩=some (.int .u64 (y.u:Int))) (by kernel_rfl) ⟨B0,ak,aj,ai⟩ (fun hHeld=> ?_);clear hHeld;refine tkH 0 ⟨B0,ak,aj,ai⟩ (h:=tkH 1 ⟨B0,ak,aj,ai⟩ (h:=tkH 2 ⟨B0,ak,aj,ai⟩ (h:=tkH 3 ⟨B0,ak,aj,ai⟩ (h:=tkH 4 ⟨B0,ak,aj,ai⟩ (h:=?_)))));simp only [List.set];refine oG 5 (fun K hK=> ?_);go_simp;go_wp2_with (go_at_call 15;(with_reducible refine (av.out).mono ?_);rintro _ v1 ⟨rfl,ah⟩;have B1:=B0.fr ah zq;have aa:=ah.cell ak zq;have ac:=ah.cell aj zq;have ad:=ah.cell ai zq;have a3:=a5.trans ah zr;have O1:=O0.fr ah zr;have H1:=H0.trans ah zr);refine hK.out _ _ ⟨B1,aa,ac,ad⟩ (fun hZ=> ?_);clear hZ hK K;try simp only [Ab,List.set]
    refine tkH 6 ⟨B1,aa,ac,ad⟩ (h:=tkH 7 ⟨B1,aa,ac,ad⟩ (h:=skH 8 ⟨B1,aa,ac,ad⟩ (h:=skH 9 ⟨B1,aa,ac,ad⟩ (h:=skH 10 ⟨B1,aa,ac,ad⟩ (h:=skH 11 ⟨B1,aa,ac,ad⟩ (h:=skH 12 ⟨B1,aa,ac,ad⟩ (h:=skH 13 ⟨B1,aa,ac,ad⟩ (h:=skH 14 ⟨B1,aa,ac,ad⟩ (h:=tkH 15 ⟨B1,aa,ac,ad⟩ (h:=tkH 16 ⟨B1,aa,ac,ad⟩ (h:=skH 17 ⟨B1,aa,ac,ad⟩ (h:=?_))))))))))));simp only [List.set];refine skH 18 ⟨B1,aa,ac,ad⟩ (h:=skH 19 ⟨B1,aa,ac,ad⟩ (h:=skH 20 ⟨B1,aa,ac,ad⟩ (h:=skH 21 ⟨B1,aa,ac,ad⟩ (h:=skH 22 ⟨B1,aa,ac,ad⟩ (h:=skH 23 ⟨B1,aa,ac,ad⟩ (h:=tkH 24 ⟨B1,aa,ac,ad⟩ (h:=?_)))))));simp only [List.set];refine oD ?_;go_simp;have aq:Hid (xs=Ca l ab ids (k+1)):=by show _=_;rw [au.out];rfl
    have hz:=H1;have oz:=O1;clear au az av a1 a4;go_wp2_with (fail);go_roundw
    case rel=>exact ⟨k+1,Ax,cx,xs,by go_num,rfl,by omega,aq,oz,hz⟩
    case measure=>simp [intOf];omega
   case true=>
    cases h1
    case true=>
     go_upto_region 6 with (fail)
     clear ao hf ba;refine wp_region_held_drew (S:=fun w'=>Blk w' w.heap.size 29 CS∧w'.cell? ⟨b,ap+k*3,none⟩=some (.int .i64 y.b)∧w'.cell? ⟨b,ap+k*3+1,none⟩=some (.int .i64 y.s)∧w'.cell? ⟨b,ap+k*3+2,none⟩=some (.int .u64 (y.u:Int))) (by kernel_rfl) ⟨B0,ak,aj,ai⟩ (fun hHeld=> ?_);clear hHeld;refine tkH 0 ⟨B0,ak,aj,ai⟩ (h:=tkH 1 ⟨B0,ak,aj,ai⟩ (h:=tkH 2 ⟨B0,ak,aj,ai⟩ (h:=tkH 3 ⟨B0,ak,aj,ai⟩ (h:=tkH 4 ⟨B0,ak,aj,ai⟩ (h:=?_)))));simp only [List.set];refine oG 5 (fun K hK=> ?_);go_simp;go_wp2_with (go_at_call 15;(with_reducible refine (av.out).mono ?_);rintro _ v1 ⟨rfl,ah⟩;have B1:=B0.fr ah zq;have aa:=ah.cell ak zq;have ac:=ah.cell aj zq;have ad:=ah.cell ai zq;have a3:=a5.trans ah zr;have O1:=O0.fr ah zr;have H1:=H0.trans ah zr);refine hK.out _ _ ⟨B1,aa,ac,ad⟩ (fun hZ=> ?_);clear hZ hK K;try simp only [Ab,List.set]
     refine tkH 6 ⟨B1,aa,ac,ad⟩ (h:=tkH 7 ⟨B1,aa,ac,ad⟩ (h:=tkH 8 ⟨B1,aa,ac,ad⟩ (h:=tkH 9 ⟨B1,aa,ac,ad⟩ (h:=tkH 10 ⟨B1,aa,ac,ad⟩ (h:=tkH 11 ⟨B1,aa,ac,ad⟩ (h:=tkH 12 ⟨B1,aa,ac,ad⟩ (h:=?_)))))));simp only [List.set];refine oG 13 (fun K hK=> ?_);go_simp;go_wp2_with (go_at_call 34;(with_reducible refine (a1.out _ H1).mono ?_);rintro _ v2 ⟨rfl,al⟩;have B2:=B1.fr al zq;have af:=al.cell aa zq;have ag:=al.cell ac zq;have ae:=al.cell ad zq;have a8:=a3.trans al zr;have O2:=O1.fr al zr;have H2:=H1.trans al zr);refine hK.out _ _ ⟨B2,af,ag,ae⟩ (fun hZ=> ?_);clear hZ hK K;try simp only [Ab,List.set]
     refine tkH 14 ⟨B2,af,ag,ae⟩ (h:=tkH 15 ⟨B2,af,ag,ae⟩ (h:=tkH 16 ⟨B2,af,ag,ae⟩ (h:=skH 17 ⟨B2,af,ag,ae⟩ (h:=skH 18 ⟨B2,af,ag,ae⟩ (h:=skH 19 ⟨B2,af,ag,ae⟩ (h:=skH 20 ⟨B2,af,ag,ae⟩ (h:=skH 21 ⟨B2,af,ag,ae⟩ (h:=skH 22 ⟨B2,af,ag,ae⟩ (h:=skH 23 ⟨B2,af,ag,ae⟩ (h:=tkH 24 ⟨B2,af,ag,ae⟩ (h:=?_)))))))))));simp only [List.set];refine oD ?_;go_simp;have aq:Hid (xs=Ca l ab ids (k+1)):=by show _=_;rw [au.out];rfl
     have hz:=H2;have oz:=O2;clear au az av a1 a4;go_wp2_with (fail);go_roundw
     case rel=>exact ⟨k+1,Ax,cx,xs,by go_num,rfl,by omega,aq,oz,hz⟩
     case measure=>simp [intOf];omega
    case false=>
     cases h2
     case true=>
      go_upto_region 6 with (fail)
      clear ao hf ba;refine wp_region_held_drew (S:=fun w'=>Blk w' w.heap.size 29 CS∧w'.cell? ⟨b,ap+k*3,none⟩=some (.int .i64 y.b)∧w'.cell? ⟨b,ap+k*3+1,none⟩=some (.int .i64 y.s)∧w'.cell? ⟨b,ap+k*3+2,none⟩=some (.int .u64 (y.u:Int))) (by kernel_rfl) ⟨B0,ak,aj,ai⟩ (fun hHeld=> ?_);clear hHeld;refine tkH 0 ⟨B0,ak,aj,ai⟩ (h:=tkH 1 ⟨B0,ak,aj,ai⟩ (h:=tkH 2 ⟨B0,ak,aj,ai⟩ (h:=tkH 3 ⟨B0,ak,aj,ai⟩ (h:=tkH 4 ⟨B0,ak,aj,ai⟩ (h:=?_)))));simp only [List.set];refine oG 5 (fun K hK=> ?_);go_simp;go_wp2_with (go_at_call 15;(with_reducible refine (av.out).mono ?_);rintro _ v1 ⟨rfl,ah⟩;have B1:=B0.fr ah zq;have aa:=ah.cell ak zq;have ac:=ah.cell aj zq;have ad:=ah.cell ai zq;have a3:=a5.trans ah zr;have O1:=O0.fr ah zr;have H1:=H0.trans ah zr);refine hK.out _ _ ⟨B1,aa,ac,ad⟩ (fun hZ=> ?_);clear hZ hK K;try simp only [Ab,List.set]
      refine tkH 6 ⟨B1,aa,ac,ad⟩ (h:=tkH 7 ⟨B1,aa,ac,ad⟩ (h:=tkH 8 ⟨B1,aa,ac,ad⟩ (h:=tkH 9 ⟨B1,aa,ac,ad⟩ (h:=tkH 10 ⟨B1,aa,ac,ad⟩ (h:=tkH 11 ⟨B1,aa,ac,ad⟩ (h:=tkH 12 ⟨B1,aa,ac,ad⟩ (h:=?_)))))));simp only [List.set];refine oG 13 (fun K hK=> ?_);go_simp;go_wp2_with (go_at_call 34;(with_reducible refine (a1.out _ H1).mono ?_);rintro _ v2 ⟨rfl,al⟩;have B2:=B1.fr al zq;have af:=al.cell aa zq;have ag:=al.cell ac zq;have ae:=al.cell ad zq;have a8:=a3.trans al zr;have O2:=O1.fr al zr;have H2:=H1.trans al zr);refine hK.out _ _ ⟨B2,af,ag,ae⟩ (fun hZ=> ?_);clear hZ hK K;try simp only [Ab,List.set]
      refine tkH 14 ⟨B2,af,ag,ae⟩ (h:=tkH 15 ⟨B2,af,ag,ae⟩ (h:=tkH 16 ⟨B2,af,ag,ae⟩ (h:=tkH 17 ⟨B2,af,ag,ae⟩ (h:=tkH 18 ⟨B2,af,ag,ae⟩ (h:=tkH 19 ⟨B2,af,ag,ae⟩ (h:=tkH 20 ⟨B2,af,ag,ae⟩ (h:=tkH 21 ⟨B2,af,ag,ae⟩ (h:=?_))))))));simp only [List.set];refine oG 22 (fun K hK=> ?_);go_simp;go_wp2_with (go_at_call 34;(with_reducible refine (a4.out _ O2).mono ?_);rintro _ v3 ⟨rfl,ar⟩;have B3:=B2.fr ar zq;have aw:=ar.cell af zq;have a0:=ar.cell ag zq;have ay:=ar.cell ae zq;have br:=a8.trans ar zr;have O3:=O2.fr ar zr;have H3:=H2.trans ar zr);refine hK.out _ _ ⟨B3,aw,a0,ay⟩ (fun hZ=> ?_);clear hZ hK K;try simp only [Ab,List.set]
      refine tkH 23 ⟨B3,aw,a0,ay⟩ (h:=tkH 24 ⟨B3,aw,a0,ay⟩ (h:=?_));simp only [List.set];refine oD ?_;go_simp;have aq:Hid (xs=Ca l ab ids (k+1)):=by show _=_;rw [au.out];rfl
      have hz:=H3;have oz:=O3;clear au az av a1 a4;go_wp2_with (fail);go_roundw
      case rel=>exact ⟨k+1,Ax,cx,xs,by go_num,rfl,by omega,aq,oz,hz⟩
      case measure=>simp [intOf];omega
     case false=>
      go_upto_region 6 with (fail)
      clear ao hf ba;refine wp_region_held_drew (S:=fun w'=>Blk w' w.heap.size 29 CS∧w'.cell? ⟨b,ap+k*3,none⟩=some (.int .i64 y.b)∧w'.cell? ⟨b,ap+k*3+1,none⟩=some (.int .i64 y.s)∧w'.cell? ⟨b,ap+k*3+2,none⟩=some (.int .u64 (y.u:Int))) (by kernel_rfl) ⟨B0,ak,aj,ai⟩ (fun hHeld=> ?_);clear hHeld;refine tkH 0 ⟨B0,ak,aj,ai⟩ (h:=tkH 1 ⟨B0,ak,aj,ai⟩ (h:=tkH 2 ⟨B0,ak,aj,ai⟩ (h:=tkH 3 ⟨B0,ak,aj,ai⟩ (h:=tkH 4 ⟨B0,ak,aj,ai⟩ (h:=?_)))));simp only [List.set];refine oG 5 (fun K hK=> ?_);go_simp;go_wp2_with (go_at_call 15;(with_reducible refine (av.out).mono ?_);rintro _ v1 ⟨rfl,ah⟩;have B1:=B0.fr ah zq;have aa:=ah.cell ak zq;have ac:=ah.cell aj zq;have ad:=ah.cell ai zq;have a3:=a5.trans ah zr;have O1:=O0.fr ah zr;have H1:=H0.trans ah zr);refine hK.out _ _ ⟨B1,aa,ac,ad⟩ (fun hZ=> ?_);clear hZ hK K;try simp only [Ab,List.set]
      refine tkH 6 ⟨B1,aa,ac,ad⟩ (h:=tkH 7 ⟨B1,aa,ac,ad⟩ (h:=tkH 8 ⟨B1,aa,ac,ad⟩ (h:=tkH 9 ⟨B1,aa,ac,ad⟩ (h:=tkH 10 ⟨B1,aa,ac,ad⟩ (h:=tkH 11 ⟨B1,aa,ac,ad⟩ (h:=tkH 12 ⟨B1,aa,ac,ad⟩ (h:=?_)))))));simp only [List.set];refine oG 13 (fun K hK=> ?_);go_simp;go_wp2_with (go_at_call 34;(with_reducible refine (a1.out _ H1).mono ?_);rintro _ v2 ⟨rfl,al⟩;have B2:=B1.fr al zq;have af:=al.cell aa zq;have ag:=al.cell ac zq;have ae:=al.cell ad zq;have a8:=a3.trans al zr;have O2:=O1.fr al zr;have H2:=H1.trans al zr);refine hK.out _ _ ⟨B2,af,ag,ae⟩ (fun hZ=> ?_);clear hZ hK K;try simp only [Ab,List.set]
      refine tkH 14 ⟨B2,af,ag,ae⟩ (h:=tkH 15 ⟨B2,af,ag,ae⟩ (h:=tkH 16 ⟨B2,af,ag,ae⟩ (h:=tkH 17 ⟨B2,af,ag,ae⟩ (h:=tkH 18 ⟨B2,af,ag,ae⟩ (h:=tkH 19 ⟨B2,af,ag,ae⟩ (h:=tkH 20 ⟨B2,af,ag,ae⟩ (h:=tkH 21 ⟨B2,af,ag,ae⟩ (h:=?_))))))));simp only [List.set];refine oG 22 (fun K hK=> ?_);go_simp;go_wp2_with (go_at_call 34;(with_reducible refine (a4.out _ O2).mono ?_);rintro _ v3 ⟨rfl,ar⟩;have B3:=B2.fr ar zq;have aw:=ar.cell af zq;have a0:=ar.cell ag zq;have ay:=ar.cell ae zq;have br:=a8.trans ar zr;have O3:=O2.fr ar zr;have H3:=H2.trans ar zr);refine hK.out _ _ ⟨B3,aw,a0,ay⟩ (fun hZ=> ?_);clear hZ hK K;try simp only [Ab,List.set]
      refine tkH 23 ⟨B3,aw,a0,ay⟩ (h:=tkH 24 ⟨B3,aw,a0,ay⟩ (h:=?_));simp only [List.set];refine oD ?_;go_simp;have aq:Hid (xs++[y]=Ca l ab ids (k+1)):=by show _=_;rw [au.out];rfl
      have hz:=H3;have oz:=O3;have e0:=aw;have e1:=a0;have e2:=ay;clear au az av a1 a4;have bd:=oz.alloc (.cells y.V 36);have bt:=hz.alloc (.cells y.V 36);have bs:=Blk.new v3 36 y.V;have bv:=hz.size;go_wp2_with (at_builtin;go_loud (refine Az (base:=w1.heap.size) (.tmp 42) (.tmp 47) 25 rfl rfl rfl rfl Cw bd (Rd.blk (n:=1) (size:=3) bs rfl) (by simp [Value.oneCell']) (by omega) (by omega) (by rw [Am9];omega) ?_);intro A2 bm w4 bb bu bp)
      have bf:Own w4 w1.heap.size 36 3 A2 (xs++[y]).length bm ((xs++[y]).flatMap Id.cells):=by
       rw [Am7,An1];exact bb
      have bq:Fr Non w1 w4:=bt.trans bu (fun j hj e=>by have h5:=(bk j e).1;omega);go_roundw
      case rel=>exact ⟨k+1,A2,bm,xs++[y],by go_num,by rw [Am7];rfl,by omega,aq,bf,bq⟩
      case measure=>simp [intOf];omega
  ·
   obtain rfl:k=n:=by omega
   have ks:=Lib.hid (Fi wr.heap.size xs.length cx Ax xs wr rfl ao.rd (by omega))
   have a6:Hid (∀e w',Eo xs xs.length wr e w'→Cg (Am (Ca l ab ids k)) w e w'):=by
    rintro e w' ⟨A5,c5,h1,h2,h3⟩;have bl:(Am xs).length=xs.length:=Ej xs;rw [← az.out];exact ⟨A5,c5,by rw [bl];exact h1,by rw [bl];exact h2.lower a9.size,a9.trans h3 zr⟩
   generalize Cg (Am (Ca l ab ids k)) w=POST at*;clear az ao hr bg bj bi a2 kp;go_wp2_with (go_at_call 33;(with_reducible refine (ks.out).mono ?_);rintro _ w7 ⟨A5,c5,rfl,h5,h6⟩;have ax:=Lib.hid (a6.out _ _ ⟨A5,c5,rfl,h5,h6⟩);clear ks a6 h5 h6)
   first|exact ax.out|(go_ret;exact ax.out)
def Bk (l:List Pn) (above ids:List Id):Nat→List Id
 |0=>above
 |k+1=>match ids[k]? with
  |some y=>if (plc l y).isSome&& !Bh (Bk l above ids k) y then Bk l above ids k++[y] else Bk l above ids k
  |none=>Bk l above ids k
def Fp (l:List Pn) (ids:List Id):List Id:=Am (Bk l (Cp l ids) ids ids.length)
theorem R7 {l:List Pn} {above ids:List Id} {k:Nat} {y:Id} (h:ids[k]? =some y):
  Bk l above ids (k+1)=if (plc l y).isSome&& !Bh (Bk l above ids k) y then Bk l above ids k++[y] else Bk l above ids k:=by
 show (match ids[k]? with|some y=>if (plc l y).isSome&& !Bh (Bk l above ids k) y then Bk l above ids k++[y] else Bk l above ids k|none=>Bk l above ids k)=_;rw [h]
theorem R9 (l:List Pn) (above ids:List Id):∀k,(Bk l above ids k).length≤above.length+k
 |0=>An9 _
 |k+1=>by
  have ih:=R9 l above ids k;unfold Bk
  split
  ·
   split
   · rw [Am7,Ao5];omega
   · omega
  · omega
theorem Ae5 (base:Nat) (r:RG) (B n c:Nat) (A:Option Addr) (ids:List Id) (w:World) (h:r.own w base) (hn:Hid (ids.length=n)) (hr:Rd w B 3 A n (ids.flatMap Id.cells)) (hnm:n≤100000):
  Calls Tryz.prog 63 #[.agg r.cells,.slice A n c] w (Cg (Fp r.l ids) w):=by
 have bg:=Blk.new w 29 r.cells;have f0:Fr Non w (w.alloc (.cells r.cells 29)):=(Fr.refl Non w).alloc _;have kp:=Lib.hid (fun (id:Id) (w':World) (hf:Fr Non w w')=>E7 base r id w' (h.non hf));have hl:=Aq (P:=Tryz.prog) w.heap.size 29 Tryz.underlying29 rfl (cs:=r.cells) Cc;have a5:=Lib.hid (fun (w':World) (hf:Fr Non w w')=>R3 base r B n c A ids w' (h.non hf) hn (hr.fr hf zr) (by omega));have bt:(Cp r.l ids).length≤1000:=An2 (R4 _ _) (An2 h.few (by omega));have bc:=Lib.hid (fun k y (hy:ids[k]? =some y)=>R7 (l:=r.l) (above:=Cp r.l ids) hy);have ba:=Lib.hid (R9 r.l (Cp r.l ids) ids);have aw:Hid (∀id,0≤Ao r.l id↔(plc r.l id).isSome=true):=fun id=>plcI_pos;have bh:Hid (Fp r.l ids=Am (Bk r.l (Cp r.l ids) ids n)):=by show _=_;rw [← hn.out];rfl
 have bi:Hid (Cp r.l ids=Bk r.l (Cp r.l ids) ids 0):=rfl;rw [bh.out];change Hid (∀(w':World),Fr Non w w'→Calls Tryz.prog 64 #[.agg r.cells,.slice A n c] w' (Cg (Cp r.l ids) w')) at a5;clear h bh;generalize Cp r.l ids=ab at*;generalize r.cells=CS at*;generalize r.l=l at*;go_enter Tryz.func63,Tryz.ntmps63;go_upto_region 1 with (fail)
 have bq:=f0.size;generalize w.alloc (.cells CS 29)=w0 at*;go_wp2_with (go_at_call 64;(with_reducible refine (a5.out _ f0).mono ?_);rintro _ w1 ⟨A1,c1,rfl,o1,f1⟩;have bp:=f0.trans f1 zr;have b1:=bg.fr f1 zq;clear a5);have bs:=f1.size
 go_loopw [5,6] (fun s v wr=>∃(k:Nat) (Ax:Option Addr) (cx:Nat) (xs:List Id),v=.int .i64 (k:Int)∧s=.slice Ax xs.length cx∧k≤n∧Hid (xs=Bk l ab ids k)∧Own wr w0.heap.size 36 3 Ax xs.length cx (xs.flatMap Id.cells)∧Fr Non w0 wr) (fun _ v _=>n-(intOf v).toNat)
 case atStart=>exact ⟨0,A1,c1,ab,rfl,rfl,by omega,bi,o1,f1⟩
 case round=>
  obtain ⟨k,Ax,cx,xs,rfl,rfl,hk,av,aj,hf⟩:=hrel;have a2:Fr Non w wr:=f0.trans hf zr;have bd:=aj.row;have bu:xs.length≤ab.length+k:=by rw [av.out];exact ba.out k
  by_cases hlt:k<n
  ·
   obtain ⟨y,hy⟩:∃y,ids[k]? =some y:=⟨_,Am6 (by rw [hn.out];exact hlt)⟩;obtain ⟨b,ak,rfl,bb,k0,k1,k2⟩:=Id.at (hr.fr a2 zr) hy;have au:=Lib.hid (bc.out k y hy);rw [← av.out] at au;have i1:(0:Int)≤k:=by omega
   have i2:(k:Int)<n:=by omega
   have i3:(k:Int).toNat=k:=by omega
   have B0:=(bg.fr hf zq).drew;have a1:Fr Non w wr.drew:=a2.drew;have ah:wr.drew.cell? ⟨b,ak+k*3,none⟩=some (.int .i64 y.b):=k0;have ag:wr.drew.cell? ⟨b,ak+k*3+1,none⟩=some (.int .i64 y.s):=k1;have af:wr.drew.cell? ⟨b,ak+k*3+2,none⟩=some (.int .u64 (y.u:Int)):=k2;have O0:Own wr.drew w0.heap.size 36 3 Ax xs.length cx (xs.flatMap Id.cells):=aj.drew;have H0:Fr Non w0 wr.drew:=hf.drew;have ax:=Lib.hid (kp.out y wr.drew a1);have a0:Hid (∀w',Own w' w0.heap.size 36 3 Ax xs.length cx (xs.flatMap Id.cells)→Calls Tryz.prog 34 #[.slice Ax xs.length cx,.agg y.V] w' (Ad (Bh xs y) w')):=fun w' hw=>Hj _ xs.length cx Ax xs y w' rfl hw.rd (by omega);have a7:=aw.out y
   have az:Hid (∀b,(plc l y).isSome=b→decide (Ao l y≥0)=b):=fun b e=>by
    subst e
    cases hq:(plc l y).isSome with
    |true=>exact decide_eq_true (a7.2 hq)
    |false=>exact decide_eq_false (fun e=>by rw [a7.1 e] at hq;cases hq)
   clear kp bc ba k0 k1 k2 hy aw a7 bi;generalize Bh xs y=h2 at*;obtain ⟨ps,a9⟩:∃b,(plc l y).isSome=b:=⟨_,rfl⟩;have hP:=az.out ps a9;rw [a9] at au;clear az a9;generalize Ao l y=P at*
   cases ps
   case false=>
    go_upto_region 5 with (fail)
    clear aj hf bb;refine wp_region_held_drew (S:=fun w'=>Blk w' w.heap.size 29 CS∧w'.cell? ⟨b,ak+k*3,none⟩=some (.int .i64 y.b)∧w'.cell? ⟨b,ak+k*3+1,none⟩=some (.int .i64 y.s)∧w'.cell? ⟨b,ak+k*3+2,none⟩=some (.int .u64 (y.u:Int))) (by kernel_rfl) ⟨B0,ah,ag,af⟩ (fun hHeld=> ?_);clear hHeld;refine tkH 0 ⟨B0,ah,ag,af⟩ (h:=tkH 1 ⟨B0,ah,ag,af⟩ (h:=tkH 2 ⟨B0,ah,ag,af⟩ (h:=tkH 3 ⟨B0,ah,ag,af⟩ (h:=tkH 4 ⟨B0,ah,ag,af⟩ (h:=?_)))));simp only [List.set];refine oG 5 (fun K hK=> ?_);go_simp;go_wp2_with (go_at_call 15;(with_reducible refine (ax.out).mono ?_);rintro _ v1 ⟨rfl,ae⟩;have B1:=B0.fr ae zq;have aa:=ae.cell ah zq;have ac:=ae.cell ag zq;have ad:=ae.cell af zq;have a3:=a1.trans ae zr;have O1:=O0.fr ae zr;have H1:=H0.trans ae zr);refine hK.out _ _ ⟨B1,aa,ac,ad⟩ (fun hZ=> ?_);clear hZ hK K;try simp only [Ab,List.set]
    refine tkH 6 ⟨B1,aa,ac,ad⟩ (h:=tkH 7 ⟨B1,aa,ac,ad⟩ (h:=skH 8 ⟨B1,aa,ac,ad⟩ (h:=skH 9 ⟨B1,aa,ac,ad⟩ (h:=skH 10 ⟨B1,aa,ac,ad⟩ (h:=skH 11 ⟨B1,aa,ac,ad⟩ (h:=skH 12 ⟨B1,aa,ac,ad⟩ (h:=skH 13 ⟨B1,aa,ac,ad⟩ (h:=skH 14 ⟨B1,aa,ac,ad⟩ (h:=tkH 15 ⟨B1,aa,ac,ad⟩ (h:=?_))))))))));simp only [List.set];refine oD ?_;go_simp;have al:Hid (xs=Bk l ab ids (k+1)):=by show _=_;rw [au.out];rfl
    have hz:=H1;have oz:=O1;clear au av ax a0;go_wp2_with (fail);go_roundw
    case rel=>exact ⟨k+1,Ax,cx,xs,by go_num,rfl,by omega,al,oz,hz⟩
    case measure=>simp [intOf];omega
   case true=>
    cases h2
    case true=>
     go_upto_region 5 with (fail)
     clear aj hf bb;refine wp_region_held_drew (S:=fun w'=>Blk w' w.heap.size 29 CS∧w'.cell? ⟨b,ak+k*3,none⟩=some (.int .i64 y.b)∧w'.cell? ⟨b,ak+k*3+1,none⟩=some (.int .i64 y.s)∧w'.cell? ⟨b,ak+k*3+2,none⟩=some (.int .u64 (y.u:Int))) (by kernel_rfl) ⟨B0,ah,ag,af⟩ (fun hHeld=> ?_);clear hHeld;refine tkH 0 ⟨B0,ah,ag,af⟩ (h:=tkH 1 ⟨B0,ah,ag,af⟩ (h:=tkH 2 ⟨B0,ah,ag,af⟩ (h:=tkH 3 ⟨B0,ah,ag,af⟩ (h:=tkH 4 ⟨B0,ah,ag,af⟩ (h:=?_)))));simp only [List.set];refine oG 5 (fun K hK=> ?_);go_simp;go_wp2_with (go_at_call 15;(with_reducible refine (ax.out).mono ?_);rintro _ v1 ⟨rfl,ae⟩;have B1:=B0.fr ae zq;have aa:=ae.cell ah zq;have ac:=ae.cell ag zq;have ad:=ae.cell af zq;have a3:=a1.trans ae zr;have O1:=O0.fr ae zr;have H1:=H0.trans ae zr);refine hK.out _ _ ⟨B1,aa,ac,ad⟩ (fun hZ=> ?_);clear hZ hK K;try simp only [Ab,List.set]
     refine tkH 6 ⟨B1,aa,ac,ad⟩ (h:=tkH 7 ⟨B1,aa,ac,ad⟩ (h:=tkH 8 ⟨B1,aa,ac,ad⟩ (h:=tkH 9 ⟨B1,aa,ac,ad⟩ (h:=tkH 10 ⟨B1,aa,ac,ad⟩ (h:=tkH 11 ⟨B1,aa,ac,ad⟩ (h:=tkH 12 ⟨B1,aa,ac,ad⟩ (h:=?_)))))));simp only [List.set];refine oG 13 (fun K hK=> ?_);go_simp;go_wp2_with (go_at_call 34;(with_reducible refine (a0.out _ O1).mono ?_);rintro _ v2 ⟨rfl,ai⟩;have B2:=B1.fr ai zq;have aq:=ai.cell aa zq;have ar:=ai.cell ac zq;have ao:=ai.cell ad zq;have bj:=a3.trans ai zr;have O2:=O1.fr ai zr;have H2:=H1.trans ai zr);refine hK.out _ _ ⟨B2,aq,ar,ao⟩ (fun hZ=> ?_);clear hZ hK K;try simp only [Ab,List.set]
     refine tkH 14 ⟨B2,aq,ar,ao⟩ (h:=tkH 15 ⟨B2,aq,ar,ao⟩ (h:=?_));simp only [List.set];refine oD ?_;go_simp;have al:Hid (xs=Bk l ab ids (k+1)):=by show _=_;rw [au.out];rfl
     have hz:=H2;have oz:=O2;clear au av ax a0;go_wp2_with (fail);go_roundw
     case rel=>exact ⟨k+1,Ax,cx,xs,by go_num,rfl,by omega,al,oz,hz⟩
     case measure=>simp [intOf];omega
    case false=>
     go_upto_region 5 with (fail)
     clear aj hf bb;refine wp_region_held_drew (S:=fun w'=>Blk w' w.heap.size 29 CS∧w'.cell? ⟨b,ak+k*3,none⟩=some (.int .i64 y.b)∧w'.cell? ⟨b,ak+k*3+1,none⟩=some (.int .i64 y.s)∧w'.cell? ⟨b,ak+k*3+2,none⟩=some (.int .u64 (y.u:Int))) (by kernel_rfl) ⟨B0,ah,ag,af⟩ (fun hHeld=> ?_);clear hHeld;refine tkH 0 ⟨B0,ah,ag,af⟩ (h:=tkH 1 ⟨B0,ah,ag,af⟩ (h:=tkH 2 ⟨B0,ah,ag,af⟩ (h:=tkH 3 ⟨B0,ah,ag,af⟩ (h:=tkH 4 ⟨B0,ah,ag,af⟩ (h:=?_)))));simp only [List.set];refine oG 5 (fun K hK=> ?_);go_simp;go_wp2_with (go_at_call 15;(with_reducible refine (ax.out).mono ?_);rintro _ v1 ⟨rfl,ae⟩;have B1:=B0.fr ae zq;have aa:=ae.cell ah zq;have ac:=ae.cell ag zq;have ad:=ae.cell af zq;have a3:=a1.trans ae zr;have O1:=O0.fr ae zr;have H1:=H0.trans ae zr);refine hK.out _ _ ⟨B1,aa,ac,ad⟩ (fun hZ=> ?_);clear hZ hK K;try simp only [Ab,List.set]
     refine tkH 6 ⟨B1,aa,ac,ad⟩ (h:=tkH 7 ⟨B1,aa,ac,ad⟩ (h:=tkH 8 ⟨B1,aa,ac,ad⟩ (h:=tkH 9 ⟨B1,aa,ac,ad⟩ (h:=tkH 10 ⟨B1,aa,ac,ad⟩ (h:=tkH 11 ⟨B1,aa,ac,ad⟩ (h:=tkH 12 ⟨B1,aa,ac,ad⟩ (h:=?_)))))));simp only [List.set];refine oG 13 (fun K hK=> ?_);go_simp;go_wp2_with (go_at_call 34;(with_reducible refine (a0.out _ O1).mono ?_);rintro _ v2 ⟨rfl,ai⟩;have B2:=B1.fr ai zq;have aq:=ai.cell aa zq;have ar:=ai.cell ac zq;have ao:=ai.cell ad zq;have bj:=a3.trans ai zr;have O2:=O1.fr ai zr;have H2:=H1.trans ai zr);refine hK.out _ _ ⟨B2,aq,ar,ao⟩ (fun hZ=> ?_);clear hZ hK K;try simp only [Ab,List.set]
     refine tkH 14 ⟨B2,aq,ar,ao⟩ (h:=tkH 15 ⟨B2,aq,ar,ao⟩ (h:=?_));simp only [List.set];refine oD ?_;go_simp;have al:Hid (xs++[y]=Bk l ab ids (k+1)):=by show _=_;rw [au.out];rfl
     have hz:=H2;have oz:=O2;have e0:=aq;have e1:=ar;have e2:=ao;clear au av ax a0;have a6:=oz.alloc (.cells y.V 36);have bn:=hz.alloc (.cells y.V 36);have bm:=Blk.new v2 36 y.V;have br:=hz.size;go_wp2_with (at_builtin;go_loud (refine Az (base:=w0.heap.size) (.tmp 32) (.tmp 37) 25 rfl rfl rfl rfl Cw a6 (Rd.blk (n:=1) (size:=3) bm rfl) (by simp [Value.oneCell']) (by omega) (by omega) (by rw [Am9];omega) ?_);intro A2 bf w4 a4 bo bk)
     have a8:Own w4 w0.heap.size 36 3 A2 (xs++[y]).length bf ((xs++[y]).flatMap Id.cells):=by
      rw [Am7,An1];exact a4
     have bl:Fr Non w0 w4:=bn.trans bo (fun j hj e=>by have h5:=(bd j e).1;omega);go_roundw
     case rel=>exact ⟨k+1,A2,bf,xs++[y],by go_num,by rw [Am7];rfl,by omega,al,a8,bl⟩
     case measure=>simp [intOf];omega
  ·
   obtain rfl:k=n:=by omega
   have ks:=Lib.hid (Fi wr.heap.size xs.length cx Ax xs wr rfl aj.rd (by omega))
   have ay:Hid (∀e w',Eo xs xs.length wr e w'→Cg (Am (Bk l ab ids k)) w e w'):=by
    rintro e w' ⟨A5,c5,h1,h2,h3⟩;have be:(Am xs).length=xs.length:=Ej xs;rw [← av.out];exact ⟨A5,c5,by rw [be];exact h1,by rw [be];exact h2.lower a2.size,a2.trans h3 zr⟩
   generalize Cg (Am (Bk l ab ids k)) w=POST at*;clear av aj hr bg bc ba aw kp;go_wp2_with (go_at_call 33;(with_reducible refine (ks.out).mono ?_);rintro _ w7 ⟨A5,c5,rfl,h5,h6⟩;have ap:=Lib.hid (ay.out _ _ ⟨A5,c5,rfl,h5,h6⟩);clear ks ay h5 h6)
   first|exact ap.out|(go_ret;exact ap.out)
end Oq
end
section
open Go.RowKit
namespace Oq
theorem Sa (z:Array Value) (v:Value) (m:Nat) (h0:0<z.size) (h:∀i,i<z.size→z[i]! =v):(madeCells z m).toList=List.replicate m v:=by
 unfold madeCells;rw [Array.toList_map,List.eq_replicate_iff];refine ⟨by simp,fun u hu=> ?_⟩;obtain ⟨i,_,rfl⟩:=List.mem_map.1 hu;exact h _ (Nat.mod_lt _ h0)
theorem Ae6 {P:Program} {o:Oper} {a:Act} {K:Act→World→Prop} {Q:Exit→Act→World→Prop} {w:World} (l:Operand) (t:TypeId) (hop:o.op=Op.makeSlice t l l) {e:TypeId} {size bytes:Nat} {z:Value} (hT:SlT P t e z size bytes)
  {N:Int} {n:Nat} (hl:a.eval l=.int .i64 N) (hN:N=(n:Int)) (b2:bytes*n≤281474976710656) (b3:n≤9223372036854775807)
  (hK:∀w',Own w' w.heap.size e size (some ⟨w.heap.size,0,none⟩) n n (madeCells z.cells (n*size)).toList→Fr Non w w'→K (a.put o.dst (.slice (some ⟨w.heap.size,0,none⟩) n n)) w'):Oper.wp P o a w K Q:=by
 obtain ⟨ht,hinfo,_,_⟩:=hT;obtain ⟨i,hi,hz,hsize,hby⟩:=info_parts hinfo;subst hN;obtain ⟨w',hrun,r1,r2⟩:=run_make_full (P:=P) (w:=w) w.heap.size t e i z size ht hi hz hsize .i64 .i64 n (by rw [hby];exact b2) (by unfold maxLen;exact b3) (An9 _);have hf:Fr Non w w':=⟨r2.os,r2.tape,r2.output,r2.size,fun j hj _=>r2.block j hj (fun e=>by cases e)⟩;have hk':=hK w' r1 hf;unfold Oper.wp execOp;simp only [hop,hl,hrun,Sem.run_bind,Result.andThen_ok,Sem.run_pure];exact hk'
theorem Sb {P:Program} {ops:Array Oper} {rest:List Oper} {o:Oper} {a:Act} {Q:Exit→Act→World→Prop} {w:World} (hg:o.guard=none) (l:Operand) (t:TypeId) (hop:o.op=Op.makeSlice t l l) {e:TypeId} {size bytes:Nat} {z:Value} (hT:SlT P t e z size bytes)
  {N:Int} {n:Nat} (hl:a.eval l=.int .i64 N) (hN:N=(n:Int)) (b2:bytes*n≤281474976710656) (b3:n≤9223372036854775807)
  (hK:∀w',Own w' w.heap.size e size (some ⟨w.heap.size,0,none⟩) n n (madeCells z.cells (n*size)).toList→Fr Non w w'→wpList P ops Q rest (a.put o.dst (.slice (some ⟨w.heap.size,0,none⟩) n n)) w'):wpList P ops Q (o::rest) a w:=
 wpList_plain hg fun _ hK'=>Ae6 l t hop hT hl hN b2 b3 (fun w' h1 h2=>hK' _ _ (hK w' h1 h2))
end Oq
end
section
open Go.RowKit
attribute [local go_sem ↓] Go.wp_at_zero Go.wp_at_succ
namespace Oq
attribute [local go_sem] An4 An5
attribute [local go_sem ↓] Ei
theorem Dy {P:Program} {o:Oper} {a:Act} {K:Act→World→Prop} {Q:Exit→Act→World→Prop} {w:World} (s x:Operand) (t:TypeId)
  (ho:o.op=.call {callee:=.builtin .append,args:=#[s,x],argTypes:=#[t,t]})
  {base size n c:Nat} {e:TypeId} {A:Option Addr} {xs:List Value} {z:Value} {bytes m cx B:Nat} {Ax:Option Addr} {news:List Value}
  (hs:a.eval s=.slice A n c) (hx:a.eval x=.slice Ax m cx)
  (hT:SlT P t e z size bytes) (h:Own w base e size A n c xs) (hr:Rd w B size Ax m news)
  (h1:∀u∈news,u.oneCell'=true) (hbytes:(n+m)*bytes≤140737488355328) (hmax:n+m≤9223372036854775807) (hbase:base≤w.heap.size)
  (hk:∀A' c' w',Own w' base e size A' (n+m) c' (xs++news)→Fr (fun k=>Ac A=some k) w w'→(Ac A'=Ac A∨Ac A'=some w.heap.size)→
   K (a.put o.dst (.slice A' (n+m) c')) w'):Oper.wp P o a w K Q:=by
 obtain ⟨A',c',w',hrun,h2,h3,h4⟩:=Gp (P:=P) (ty:=o.type) (cx:=cx) hT h hr h1 hbytes hmax hbase;unfold Oper.wp execOp;simp only [ho,resolve,invoke,builtin,Sem.run_bind,Sem.run_pure,Result.andThen_ok,List.map_toArray,List.map_cons,List.map_nil,hs,hx,hrun];exact hk A' c' w' h2 h3 h4
def Ed (l:List Pn) (cs:List Id):Prop:=cs.Nodup∧∀id∈cs,(plc l id).isSome=true
theorem Rows.idsNodup {cards:List Cd} {l:List Pn} (h:Rows cards l):(l.map Pn.id).Nodup:=by
 refine List.pairwise_iff_getElem.2 (fun i j hi hj hij e=> ?_);rw [List.length_map] at hi hj;rw [Ao6,Ao6] at e;have h1:=(h.ok i _ (Am6 hi)).plc;have h2:=(h.ok j _ (Am6 hj)).plc;rw [e,h2] at h1;injection h1 with h1
 omega
theorem Rows.placed {cards:List Cd} {l:List Pn} (h:Rows cards l) {id:Id} (hid:id∈l.map Pn.id):(plc l id).isSome=true:=by
 obtain ⟨n,hn,rfl⟩:=List.mem_map.1 hid;obtain ⟨i,hi⟩:=An7 hn;rw [(h.ok i n hi).plc];rfl
theorem Sc {cards:List Cd} {l:List Pn} (h:Rows cards l):Ed l (Am (l.map Pn.id)):=
 ⟨(Di _).nodup_iff.2 h.idsNodup,fun _ hid=>h.placed ((Di _).subset hid)⟩
theorem Sd (l:List Pn) (p:Nat→Bool):∀k,∀id∈Cl l p k,∃i m,i<k∧p i=true∧l[i]? =some m∧m.id=id:=by
 intro k id hid;unfold Cl at hid;obtain ⟨i,hi,h⟩:=List.mem_filterMap.1 hid;rw [List.mem_range] at hi
 cases hp:p i with
 |false=>rw [hp] at h;cases h
 |true=>
  rw [hp,if_pos rfl] at h
  cases hm:l[i]? with
  |none=>rw [hm] at h;cases h
  |some m=>rw [hm] at h;injection h with h;exact ⟨i,m,hi,hp,hm,h⟩
theorem Ae7 {cards:List Cd} {l:List Pn} (h:Rows cards l) (p:Nat→Bool):∀k,(Cl l p k).Nodup:=by
 intro k
 induction k with
 |zero=>exact Ao0
 |succ k ih=>
  cases hm:l[k]? with
  |none=>
   have:Cl l p (k+1)=Cl l p k:=by
    unfold Cl;rw [List.range_succ,Ao4];simp [hm]
   rw [this];exact ih
  |some m=>
   rw [Rx l p k hm]
   cases hp:p k with
   |false=>simpa using ih
   |true=>
    rw [if_pos rfl,List.nodup_append];refine ⟨ih,List.nodup_cons.2 ⟨Ao7,Ao0⟩,?_⟩;intro a ha b hb e;rw [Ao1] at hb;obtain ⟨i,m',hi,_,hm',e'⟩:=Sd l p k a ha;have h1:=(h.ok i m' hm').plc;have h2:=(h.ok k m hm).plc;rw [e',e,hb,h2] at h1;injection h1 with h1
    omega
theorem Ae8 {cards:List Cd} {l:List Pn} (h:Rows cards l) (ids:List Id):Ed l (Cp l ids):=by
 refine ⟨(Di _).nodup_iff.2 (Ae7 h _ _),fun id hid=> ?_⟩;obtain ⟨i,m,_,_,hm,rfl⟩:=Sd l _ _ id ((Di _).subset hid);exact h.placed (List.mem_map_of_mem (An3 hm))
theorem Ae9 {l:List Pn} {above ids:List Id} (h:Ed l above):∀k,Ed l (Bk l above ids k):=by
 intro k
 induction k with
 |zero=>exact h
 |succ k ih=>
  cases hy:ids[k]? with
  |none=>
   have:Bk l above ids (k+1)=Bk l above ids k:=by
    show (match ids[k]? with|some y=>if (plc l y).isSome&& !Bh (Bk l above ids k) y then Bk l above ids k++[y] else Bk l above ids k|none=>Bk l above ids k)=_;rw [hy]
   rw [this];exact ih
  |some y=>
   rw [R7 hy]
   split
   ·
    rename_i hc;rw [Bool.and_eq_true,Bool.not_eq_true'] at hc;refine ⟨List.nodup_append.2 ⟨ih.1,List.nodup_cons.2 ⟨Ao7,Ao0⟩,?_⟩,?_⟩
    ·
     intro a ha b hb e;rw [Ao1] at hb;rw [e,hb] at ha;rw [(J4 _ _).2 ha] at hc;exact absurd hc.2 (by simp)
    ·
     intro id hid
     rcases List.mem_append.1 hid with h1|h1
     · exact ih.2 id h1
     ·
      rw [Ao1] at h1;rw [h1];exact hc.1
   · exact ih
theorem Af0 {cards:List Cd} {l:List Pn} (h:Rows cards l) (ids:List Id):Ed l (Fp l ids):=by
 have k:=Ae9 (Ae8 h ids) (ids:=ids) ids.length;exact ⟨(Di _).nodup_iff.2 k.1,fun id hid=>k.2 id ((Di _).subset hid)⟩
def Jb (l:List Pn) (w:World) (e:Ending) (w':World):Prop:=∃cs:List Id,Cg cs w e w'∧Ed l cs∧RowW cs
theorem Af1 (l:List Id):(Am l).length=l.length:=(Di l).length_eq
theorem Af2 (base:Nat) (r:RG) (B n c:Nat) (A:Option Addr) (l0:List Int) (w:World) (h:r.own w base) (hn:Hid (l0.length=n)) (hr:Rd w B 1 A n (l0.map Iv)) (hok:∀x∈l0,I64 x):
  Calls Tryz.prog 29 #[.agg r.cells,.slice A n c] w (Jb r.l w):=by
 have a3:=h.few;have bg:=Blk.new w 29 r.cells;have f0:Fr Non w (w.alloc (.cells r.cells 29)):=(Fr.refl Non w).alloc _;have g1:Hid (r.cells[1]? =some (.slice r.lA r.l.length r.lC)):=rfl;have g2:Hid (r.cells[2]? =some (.slice r.iA r.l.length r.iC)):=rfl;have hl:=Aq (P:=Tryz.prog) w.heap.size 29 Tryz.underlying29 rfl (cs:=r.cells) Cc;have ka:=Lib.hid (fun (w':World) (hf:Fr Non w w')=>Lr base r w' (h.non hf));have a2:Hid (Ed r.l (Am r.ids)∧RowW (Am r.ids)):=⟨Sc h.rows,J7 _⟩;have aq:Hid ((Am r.ids).length=r.l.length):=by show _=_;rw [Af1,Rt]
 have kw:=Lib.hid (fun (A':Option Addr) (c':Nat) (ids:List Id) (w':World) (hf:Fr Non w w') (ho:Rd w' w'.heap.size 3 A' ids.length (ids.flatMap Id.cells)) (hle:ids.length≤1000)=>Ae5 base r w'.heap.size ids.length c' A' ids w' (h.non hf) rfl ho (by omega));have ao:Hid (∀ids,Ed r.l (Fp r.l ids)∧RowW (Fp r.l ids)):=fun ids=>⟨Af0 h.rows ids,J7 _⟩;have hid:=Lib.hid (fun (p:Nat) (hp:p<r.l.length)=>h.idAt hp)
 have ab:Hid (∀(cs:List Id) w1 e w',Fr Non w w1→Cg cs w1 e w'→Ed r.l cs∧RowW cs→Jb r.l w e w'):=by
  rintro cs w1 e w' hf ⟨A5,c5,h1,h2,h3⟩ ⟨h4,h5⟩;exact ⟨cs,⟨A5,c5,h1,h2.lower hf.size,hf.trans h3 zr⟩,h4,h5⟩
 clear h;unfold Eo at ka;generalize Am r.ids=SI at*;generalize r.lA=LA at*;generalize r.lC=LC at*;generalize r.iA=IA at*;generalize r.iC=IC at*;generalize r.cells=CS at*;generalize Jb r.l w=POST at*;generalize r.l=l at*;obtain ⟨N,hN⟩:=Aa l.length;rw [hN.out] at g1 g2 hid a3 aq
 by_cases hz:n=0∨N=0
 ·
  have c1:=(bg.cell 1).trans g1.out
  have tt:((n:Int)==0)=true∨((n:Int)==0)=false∧((N:Int)==0)=true:=by
   rcases hz with e|e
   · exact .inl (by simp [e])
   ·
    by_cases e2:n=0
    · exact .inl (by simp [e2])
    · exact .inr ⟨by simp;omega,by simp [e]⟩
  rcases tt with t1|⟨t1,t2⟩
  all_goals
   clear kw ao hid hr hz;go_enter Tryz.func29,Tryz.ntmps29;go_upto_region 1 with (fail)
   generalize w.alloc (.cells CS 29)=w0 at*;go_wp2_with (go_at_call 21;(with_reducible refine (ka.out _ f0).mono ?_);rintro _ w1 ⟨A1,c1,rfl,o1,f1⟩;have hd:=Lib.hid (ab.out SI w0 (.returned (.slice A1 l.length c1)) w1 f0 ⟨A1,c1,by rw [aq.out,hN.out],by rw [aq.out,← hN.out];exact o1,f1⟩ a2.out);clear ka o1 f1 ab a2)
   first|exact hd.out|(go_ret;exact hd.out)
 ·
  have t1:((n:Int)==0)=false:=by simp;omega
  have t2:((N:Int)==0)=false:=by simp;omega
  have c1:=(bg.cell 1).trans g1.out;clear ka a2 aq;go_enter Tryz.func29,Tryz.ntmps29;go_upto_region 1 with (fail)
  have bl:=f0.size;generalize w.alloc (.cells CS 29)=w0 at*;go_wp2_with (fail);clear c1
  go_loopw [5,6] (fun s v wr=>∃(k:Nat) (Ax:Option Addr) (cx:Nat) (xs:List Id),v=.int .i64 (k:Int)∧s=.slice Ax xs.length cx∧k≤4∧k≤n∧Hid (xs.length=k)∧Own wr w0.heap.size 36 3 Ax xs.length cx (xs.flatMap Id.cells)∧Fr Non w0 wr) (fun _ v _=>4-(intOf v).toNat)
  case atStart=>exact ⟨0,none,0,[],rfl,rfl,by omega,by omega,rfl,Own.nil _ _ _ _,Fr.refl _ _⟩
  case round=>
   obtain ⟨k,Ax,cx,xs,rfl,rfl,bd,bk,a5,af,hf⟩:=hrel;have aj:Fr Non w wr:=f0.trans hf zr;have ak:=af.row;have bn:xs.length≤4:=by rw [a5.out];exact bd
   by_cases hlt:k<n∧k<4
   ·
    have i0:decide ((k:Int)<(n:Int))=true:=decide_eq_true (by omega);have bo:decide ((k:Int)<4)=true:=decide_eq_true (by omega);obtain ⟨q,hq⟩:∃q,l0[k]? =some q:=⟨_,Am6 (by rw [hn.out];exact hlt.1)⟩;obtain ⟨b,ay,u,rfl,bp,hu,c0⟩:=hr.at hlt.1;rw [An0,hq] at hu;injection hu with hu
    subst hu;replace c0:w.cell? ⟨b,ay+k,none⟩=some (.int .i64 q):=c0;have av:=hok q (An3 hq);obtain ⟨bq,bc⟩:=Hb (n:=q) (m:=(N:Int)) (by omega);obtain ⟨p,hp⟩:∃p:Nat,Cy q (N:Int)=(p:Int):=⟨(Cy q (N:Int)).toNat,by omega⟩;have a8:=Lib.hid (fun w'=>Hc q (N:Int) w' av.1 av.2 (by omega) (by omega));rw [hp] at a8 bc;obtain ⟨m,b2,aa,hm,rfl,d0,d1,d2⟩:=hid.out p (by omega);have i1:(0:Int)≤k:=by omega
    have i2:(k:Int)<n:=by omega
    have i3:(k:Int).toNat=k:=by omega
    have p1:(0:Int)≤p:=by omega
    have p2:(p:Int)<N:=by omega
    have p3:(p:Int).toNat=p:=by omega
    have L0:wr.drew.cell? ⟨b,ay+k,none⟩=some (.int .i64 q):=aj.cell c0 zq;have G0:wr.drew.cell? ⟨w.heap.size,2,none⟩=some (.slice (some ⟨b2,aa,none⟩) N IC):=((bg.fr hf zq).cell 2).trans g2.out;have ae:wr.drew.cell? ⟨b2,aa+p*3,none⟩=some (.int .i64 m.id.b):=aj.cell d0 zq;have ad:wr.drew.cell? ⟨b2,aa+p*3+1,none⟩=some (.int .i64 m.id.s):=aj.cell d1 zq;have ac:wr.drew.cell? ⟨b2,aa+p*3+2,none⟩=some (.int .u64 (m.id.u:Int)):=aj.cell d2 zq;have O0:Own wr.drew w0.heap.size 36 3 Ax xs.length cx (xs.flatMap Id.cells):=af.drew;have H0:Fr Non w0 wr.drew:=hf.drew;have gz:=Lib.hid ((bg.cell 2).trans g2.out);clear hid hm ao hq av bg;generalize m.id=z at*;go_upto_region 7 with (fail)
    clear hf af;refine wp_region_held_drew (S:=fun w'=>w'.cell? ⟨b,ay+k,none⟩=some (.int .i64 q)∧w'.cell? ⟨w.heap.size,2,none⟩=some (.slice (some ⟨b2,aa,none⟩) N IC)∧w'.cell? ⟨b2,aa+p*3,none⟩=some (.int .i64 z.b)∧w'.cell? ⟨b2,aa+p*3+1,none⟩=some (.int .i64 z.s)∧w'.cell? ⟨b2,aa+p*3+2,none⟩=some (.int .u64 (z.u:Int))) (by kernel_rfl) ⟨L0,G0,ae,ad,ac⟩ (fun hHeld=> ?_);clear hHeld;refine tkH 0 ⟨L0,G0,ae,ad,ac⟩ (h:=tkH 1 ⟨L0,G0,ae,ad,ac⟩ (h:=tkH 2 ⟨L0,G0,ae,ad,ac⟩ (h:=tkH 3 ⟨L0,G0,ae,ad,ac⟩ (h:=tkH 4 ⟨L0,G0,ae,ad,ac⟩ (h:=tkH 5 ⟨L0,G0,ae,ad,ac⟩ (h:=tkH 6 ⟨L0,G0,ae,ad,ac⟩ (h:=tkH 7 ⟨L0,G0,ae,ad,ac⟩ (h:=tkH 8 ⟨L0,G0,ae,ad,ac⟩ (h:=tkH 9 ⟨L0,G0,ae,ad,ac⟩ (h:=?_))))))))));simp only [List.set];refine oG 10 (fun K hK=> ?_);go_simp;go_wp2_with (go_at_call 26;(with_reducible refine (a8.out _).mono ?_);rintro _ v1 ⟨rfl,ew⟩;have ai:Fr Non wr.drew v1:=ew▸Fr.refl _ _;clear ew;have L1:=ai.cell L0 zq;have G1:=ai.cell G0 zq;have al:=ai.cell ae zq;have ar:=ai.cell ad zq;have au:=ai.cell ac zq;have O1:=O0.fr ai zr;have H1:=H0.trans ai zr);refine hK.out _ _ ⟨L1,G1,al,ar,au⟩ (fun hZ=> ?_);clear hZ hK K;try simp only [Ab,List.set]
    refine tkH 11 ⟨L1,G1,al,ar,au⟩ (h:=tkH 12 ⟨L1,G1,al,ar,au⟩ (h:=?_));simp only [List.set];refine oG 13 (fun K hK=> ?_);go_simp;have ah:Fr Non v1 (v1.alloc (.cells z.V 36)):=(Fr.refl _ _).alloc _;have bh:=Blk.new v1 36 z.V;have L2:=ah.cell L1 zq;have G2:=ah.cell G1 zq;have bf:=ah.cell al zq;have bi:=ah.cell ar zq;have ba:=ah.cell au zq;have O2:=O1.fr ah zr;have H2:=H1.trans ah zr;refine hK.out _ _ ⟨L2,G2,bf,bi,ba⟩ (fun hZ=> ?_);clear hZ hK K;try simp only [Ab,List.set]
    generalize v1.alloc (.cells z.V 36)=v2 at*;have a4:=H2.size;refine oG 14 (fun K hK=> ?_);refine Dy (base:=w0.heap.size) (.tmp 28) (.tmp 41) 25 rfl rfl rfl Cw O2 (Rd.blk (n:=1) (size:=3) bh rfl) (by simp [Value.oneCell']) (by omega) (by omega) a4 ?_;intro A2 a7 w4 aw bj bb;have be:∀j,Ac Ax=some j→w0.heap.size≤j:=fun j e=>(ak j e).1;have fz:Fr Non w0 w4:=H2.trans bj (fun j hj e=>by have h5:=be j e;omega);have ap:Fr Non w w4:=f0.trans fz zr;have L3:=ap.cell c0 zq;have G3:=fz.cell gz.out zq;have ax:=ap.cell d0 zq;have a0:=ap.cell d1 zq;have az:=ap.cell d2 zq;refine hK.out _ _ ⟨L3,G3,ax,a0,az⟩ (fun hZ=> ?_);clear hZ hK K;try simp only [Ab,List.set]
    refine tkH 15 ⟨L3,G3,ax,a0,az⟩ (h:=?_);simp only [List.set];refine oD ?_;go_simp
    have a1:Own w4 w0.heap.size 36 3 A2 (xs++[z]).length a7 ((xs++[z]).flatMap Id.cells):=by
     rw [Am7,An1];exact aw
    have a9:Hid ((xs++[z]).length=k+1):=by show _=_;rw [Am7,a5.out];rfl
    clear L3 G3 ax a0 az c0 d0 d1 d2 gz;go_wp2_with (fail);go_roundw
    case rel=>exact ⟨k+1,A2,a7,xs++[z],by go_num,by rw [Am7];rfl,by omega,by omega,a9,a1,fz⟩
    case measure=>simp [intOf];omega
   ·
    have kk:=Lib.hid (kw.out Ax cx xs wr aj af.rd (by omega));have a6:=Lib.hid (ao.out xs);have hd:Hid (∀e w',Cg (Fp l xs) wr e w'→POST e w'):=fun e w' h=>ab.out _ wr e w' aj h a6.out
    have t3:(decide ((k:Int)<(n:Int))=true∧decide ((k:Int)<4)=false)∨decide ((k:Int)<(n:Int))=false:=by
     by_cases e:k<n
     · exact .inl ⟨decide_eq_true (by omega),decide_eq_false (by omega)⟩
     · exact .inr (decide_eq_false (by omega))
    clear kw ao ab a6 hid a5 af ak;generalize Fp l xs=WL at*;unfold Cg at kk hd;have bm:=bg.fr hf zq
    rcases t3 with ⟨t3,t4⟩|t3
    all_goals
     go_wp2_with (go_at_call 63;(with_reducible refine (kk.out).mono ?_);rintro _ w7 ⟨A5,c5,rfl,h5,h6⟩;have ag:=Lib.hid (hd.out _ _ ⟨A5,c5,rfl,h5,h6⟩);clear kk hd h5 h6)
     all_goals first|exact ag.out|(go_ret;exact ag.out)
def Cr (l:List Pn) (ids:List Id):List Id:=ids.filter (fun id=>(plc l id).isNone)
theorem Af3 (l:List Pn) (ids:List Id) (k:Nat) {y:Id} (h:ids[k]? =some y):Cr l (ids.take (k+1))=Cr l (ids.take k)++(if (plc l y).isNone=true then [y] else []):=by
 unfold Cr;rw [Dq h,List.filter_append];congr 1
 cases hp:(plc l y).isNone<;>simp [hp]
theorem Se (l:List Pn) (ids:List Id):(Cr l ids).length≤ids.length:=List.length_filter_le _ _
theorem plcI_neg {l:List Pn} {id:Id}:Ao l id<0↔(plc l id).isNone=true:=by
 unfold Ao
 cases plc l id with
 |none=>simp
 |some p=>simp
theorem Af4 (base:Nat) (r:RG) (x:OpL) (w:World) (h:r.own w base) (hat:x.at w w.heap.size) (hnm:x.past.length≤1000000):
  Calls Tryz.prog 11 #[.agg r.cells,.agg x.cells] w (Cg (Cr r.l x.past) w):=by
 have hr:=hat.past.1;have bg:=(Blk.new w 29 r.cells).alloc (.cells x.cells 44);have bx:=Blk.new (w.alloc (.cells r.cells 29)) 44 x.cells;rw [Am9] at bx;have f0:Fr Non w ((w.alloc (.cells r.cells 29)).alloc (.cells x.cells 44)):=((Fr.refl Non w).alloc _).alloc _;have x4:Hid (x.cells[4]? =some (.slice x.pastA x.past.length x.pastC)):=rfl;have kp:=Lib.hid (fun (id:Id) (w':World) (hf:Fr Non w w')=>E7 base r id w' (h.non hf));have hl:=Aq (P:=Tryz.prog) w.heap.size 29 Tryz.underlying29 rfl (cs:=r.cells) Cc;have ag:Hid (∀k y,x.past[k]? =some y→Cr r.l (x.past.take (k+1))=Cr r.l (x.past.take k)++(if (plc r.l y).isNone=true then [y] else [])):=fun k y hy=>Af3 r.l x.past k hy;have ah:Hid (∀k,(Cr r.l (x.past.take k)).length≤k):=fun k=>An2 (Se _ _) (by rw [List.length_take];omega);have al:Hid (∀id,Ao r.l id<0↔(plc r.l id).isNone=true):=fun id=>plcI_neg;clear h hat;generalize x.pastA=PA at*;generalize x.pastC=PC at*;generalize x.past=ids at*;obtain ⟨n,hn⟩:=Aa ids.length;rw [hn.out] at hr x4 hnm;generalize r.cells=CS at*;generalize x.cells=XS at*;generalize r.l=l at*;go_enter Tryz.func11,Tryz.ntmps11;go_upto_region 1 with (fail)
 generalize (w.alloc (.cells CS 29)).alloc (.cells XS 44)=w0 at*;go_wp2
 go_loopw [5,6] (fun s v wr=>∃(k:Nat) (A:Option Addr) (c:Nat) (xs:List Id),v=.int .i64 (k:Int)∧s=.slice A xs.length c∧k≤n∧Hid (xs=Cr l (ids.take k))∧Own wr w0.heap.size 36 3 A xs.length c (xs.flatMap Id.cells)∧Fr Non w0 wr) (fun _ v _=>n-(intOf v).toNat)
 case atStart=>exact ⟨0,none,0,[],rfl,rfl,by omega,rfl,Own.nil _ _ _ _,Fr.refl _ _⟩
 case round=>
  obtain ⟨k,A,c,xs,rfl,rfl,hk,aj,aa,hf⟩:=hrel;have ay:Fr Non w wr:=f0.trans hf zr;have q4:=((bx.fr hf zq).cell 4).trans x4.out
  by_cases hlt:k<n
  ·
   obtain ⟨y,hy⟩:∃y,ids[k]? =some y:=⟨_,Am6 (by rw [hn.out];exact hlt)⟩;obtain ⟨b,af,rfl,bd,k0,k1,k2⟩:=Id.at (hr.fr ay zr) hy;have ap:=Lib.hid (ag.out k y hy);have ba:xs.length≤k:=by rw [aj.out];exact ah.out k
   have ao:=Lib.hid (al.out y);clear hy;have i1:(0:Int)≤k:=by omega
   have i2:(k:Int)<n:=by omega
   have i3:(k:Int).toNat=k:=by omega
   have B0:=(bg.fr hf zq).drew;have aq:Fr Non w wr.drew:=ay.drew;have Q0:wr.drew.cell? ⟨w.heap.size+1,4,none⟩=some (.slice (some ⟨b,af,none⟩) n PC):=q4;have ae:wr.drew.cell? ⟨b,af+k*3,none⟩=some (.int .i64 y.b):=k0;have ac:wr.drew.cell? ⟨b,af+k*3+1,none⟩=some (.int .i64 y.s):=k1;have ab:wr.drew.cell? ⟨b,af+k*3+2,none⟩=some (.int .u64 (y.u:Int)):=k2;have O0:Own wr.drew w0.heap.size 36 3 A xs.length c (xs.flatMap Id.cells):=aa.drew;have a0:=Lib.hid (kp.out y wr.drew aq);have ax:=aa.row;clear kp ag al ah;generalize Ao l y=P at*;generalize (plc l y).isNone=PN at*;go_upto_region 5 with (fail)
   clear k0 k1 k2 q4 aa bx bg;refine wp_region_held_drew (S:=fun w'=>Blk w' w.heap.size 29 CS∧w'.cell? ⟨w.heap.size+1,4,none⟩=some (.slice (some ⟨b,af,none⟩) n PC)∧w'.cell? ⟨b,af+k*3,none⟩=some (.int .i64 y.b)∧w'.cell? ⟨b,af+k*3+1,none⟩=some (.int .i64 y.s)∧w'.cell? ⟨b,af+k*3+2,none⟩=some (.int .u64 (y.u:Int))) (by kernel_rfl) ⟨B0,Q0,ae,ac,ab⟩ (fun hHeld=> ?_);clear hHeld;refine tkH 0 ⟨B0,Q0,ae,ac,ab⟩ (h:=tkH 1 ⟨B0,Q0,ae,ac,ab⟩ (h:=tkH 2 ⟨B0,Q0,ae,ac,ab⟩ (h:=tkH 3 ⟨B0,Q0,ae,ac,ab⟩ (h:=tkH 4 ⟨B0,Q0,ae,ac,ab⟩ (h:=tkH 5 ⟨B0,Q0,ae,ac,ab⟩ (h:=?_))))));simp only [List.set];refine oG 6 (fun K hK=> ?_);go_simp;go_wp2_with (go_at_call 15;(with_reducible refine (a0.out).mono ?_);rintro _ v1 ⟨rfl,ad⟩;have B1:=B0.fr ad zq;have Q1:=ad.cell Q0 zq;have az:=ad.cell ae zq;have a2:=ad.cell ac zq;have a3:=ad.cell ab zq;have a9:=aq.trans ad zr;have O1:=O0.fr ad zr);refine hK.out _ _ ⟨B1,Q1,az,a2,a3⟩ (fun hZ=> ?_);clear hZ hK K;try simp only [Ab,List.set]
   refine tkH 7 ⟨B1,Q1,az,a2,a3⟩ (h:=?_);simp only [List.set];refine oD ?_;go_simp;clear a0 ae ac ab B0 B1 aq O0 Q0;have ar:Fr Non w0 v1:=hf.drew.trans ad zr;clear hf ad
   rcases An8 P 0 with hP|hP
   ·
    have t:decide (P<0)=true:=decide_eq_true hP
    have ai:Hid (xs++[y]=Cr l (ids.take (k+1))):=by
     show _=_;rw [ap.out,ao.out.1 hP,if_pos rfl,← aj.out]
    have aw:=O1.alloc (.cells y.V 36);have a7:=ar.alloc (.cells y.V 36);have a6:=Blk.new v1 36 y.V;have bb:=ar.size;have bc:=f0.size;clear ap ao aj;go_wp2_with (at_builtin;go_loud (refine Az (base:=w0.heap.size) (.tmp 22) (.tmp 28) 25 rfl rfl rfl rfl Cw aw (Rd.blk (n:=1) (size:=3) a6 rfl) (by simp [Value.oneCell']) (by omega) (by omega) (by rw [Am9];omega) ?_);intro A2 a1 w4 au a8 a5)
    have av:Own w4 w0.heap.size 36 3 A2 (xs++[y]).length a1 ((xs++[y]).flatMap Id.cells):=by
     rw [Am7,An1];exact au
    have a4:Fr Non w0 w4:=a7.trans a8 (fun j hj e=>by have h5:=(ax j e).1;omega);go_roundw
    case rel=>exact ⟨k+1,A2,a1,xs++[y],by go_num,by rw [Am7];rfl,by omega,ai,av,a4⟩
    case measure=>simp [intOf];omega
   ·
    have t:decide (P<0)=false:=decide_eq_false (by omega)
    have ai:Hid (xs=Cr l (ids.take (k+1))):=by
     show _=_;have:¬PN=true:=fun e=>by have:=ao.out.2 e;omega
     rw [ap.out,if_neg this,List.append_nil,← aj.out]
    clear ap ao aj;go_wp2;go_roundw
    case rel=>exact ⟨k+1,A,c,xs,by go_num,rfl,by omega,ai,O1,ar⟩
    case measure=>simp [intOf];omega
  ·
   obtain rfl:k=n:=by omega
   have hR:Hid (xs=Cr l ids):=by
    show _=_;have h:=aj.out;rwa [Am8 (by rw [hn.out];omega)] at h
   have ak:Hid (Cg (Cr l ids) w (.returned (.slice A xs.length c)) wr):=by
    rw [← hR.out];exact ⟨A,c,rfl,aa.lower f0.size,ay⟩
   generalize Cg (Cr l ids) w=POST at*;clear hR aj aa;go_wp2
   first|exact ak.out|(go_ret;exact ak.out)
end Oq
end
end Go.Proofs.YthpkjfliibdnjaaGreatDoor
