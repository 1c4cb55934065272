/-
  huddlelaw31.RelayWhole: what is kept has all of its past, whatever came, and in whatever row; what waits lacks something.
    Conditions: op.kinds lies as its text lays it; the numbers read.
  RelayWhole: whatever the input is, where the one listed variable is as its text lays it, the law returns true, and nothing that was there has turned.
    Condition: none.
  RelayWhole: the tied card.
    Condition: none.
-/
import Derived.JoinedOf
import Derived.RowKitTokens
import Derived.LaidLaws
import Derived.Test.YtgbdljlapmjmnaaGreatDoorTie
import Derived.Test.YtgbdljlapmjmnaaGreatDoorCards
import Derived.SevenTiedAt
import Derived.Test.YtgbdljlapmjmnaaGreatDoorRlB17
set_option maxRecDepth 100000
set_option maxHeartbeats 16000000
open Bool renaming not_false->At5,not_true->At6,not_eq_true'->At9,and_eq_true->Au2
open List renaming mem_of_getElem?->As9,range->At0,getElem?_eq_getElem->At1,not_mem_nil->At3,length_map->At4,getElem?_of_mem->At7,mem_map_of_mem->At8,mem_cons_self->Au0,mem_cons_of_mem->Au1,contains_iff_mem->Au3,length_append->Au4
open Nat renaming le_refl->At2,lt_of_lt_of_le->Au5
open Go.Proofs.Tryz
open Go.Proofs.Tryz renaming prog->zp
open Go.Lib renaming hid->lh
open List renaming set->zl
open Go.Ending renaming returned->ze
namespace Go.Proofs.YtgbdljlapmjmnaaGreatDoor
open Go.RowKit
attribute [local go_sem ↓] Go.wp_at_zero Go.wp_at_succ
namespace Oq
attribute [local go_sem] At5 At6
theorem Ap9 (base:Nat) (g:Gph) (w:World) (hg:GAt w base g):Calls zp 33 #[.pointer (some ⟨g.gb,0,none⟩)] w fun e w'=>e=.returned (.int .i64 (g.nodes.length:Int))/\w=w':=by
 have c2:cS w g.gb 2 g.nA g.nodes.length g.nC:=hg.blk.cell 2;generalize g.nodes.length=n at*;clear hg;go_enter func33,ntmps33;go_wp2
 go_ret
 exact ⟨rfl,rfl⟩
theorem Aq0 (g:Gph) (ids:List Id) (k:Nat) {id:Id} (h:ids[k]? =some id):g.ups (ids.take (k+1))=fun q=>g.ups (ids.take k) q||g.up id q:=by
 funext q;unfold Gph.ups;obtain ⟨hk,rfl⟩:=List.getElem?_eq_some_iff.1 h;rw [List.take_succ_eq_append_getElem hk,List.any_append];simp
def Nl (m:Nat->Bool) (w:World) (e:Ending) (w':World):Prop:=∃a0 a1 a2 a3:Nat,e=.returned (.agg #[.int .u64 (a0:Int),.int .u64 (a1:Int),.int .u64 (a2:Int),.int .u64 (a3:Int)])/\Am [a0,a1,a2,a3] m/\Fr Non w w'
theorem Aq1 (base:Nat) (g:Gph) (B n c:Nat) (A:Option Addr) (ids:List Id) (w:World) (hg:GAt w base g) (hn:Hid (ids.length=n)) (hr:Rd w B 3 A n (ids.flatMap Id.cells)) (hnm:n<=1000000) (hok:∀id∈ids,id.ok):
  Calls zp 86 #[.pointer (some ⟨g.gb,0,none⟩),.slice A n c] w (Nl (g.ups ids) w):=by
 have f0:Fr Non w ((w.alloc (.cells #[.int .u64 0,.int .u64 0,.int .u64 0,.int .u64 0] 108)).alloc (.cells #[.int .u64 0,.int .u64 0,.int .u64 0,.int .u64 0] 108)):=((Fr.refl Non w).alloc _).alloc _;have br:=(Blk.new w 108 #[.int .u64 0,.int .u64 0,.int .u64 0,.int .u64 0]).alloc (.cells #[.int .u64 0,.int .u64 0,.int .u64 0,.int .u64 0] 108);have bs:=Blk.new (w.alloc (.cells #[.int .u64 0,.int .u64 0,.int .u64 0,.int .u64 0] 108)) 108 #[.int .u64 0,.int .u64 0,.int .u64 0,.int .u64 0];rw [World.size_alloc] at bs;have aj:∀(a0 a1 a2 a3:Nat) (wz:World),Am [a0,a1,a2,a3] (g.ups ids)->Fr Non w wz->Nl (g.ups ids) w (.returned (.agg #[.int .u64 (a0:Int),.int .u64 (a1:Int),.int .u64 (a2:Int),.int .u64 (a3:Int)])) wz:=fun a0 a1 a2 a3 wz h1 h2=>⟨a0,a1,a2,a3,rfl,h1,h2⟩;replace aj:=lh aj;generalize Nl (g.ups ids) w=POST at*;go_enter func86,ntmps86;go_upto_region 2 with (fail)
 generalize ((w.alloc (.cells #[.int .u64 0,.int .u64 0,.int .u64 0,.int .u64 0] 108)).alloc (.cells #[.int .u64 0,.int .u64 0,.int .u64 0,.int .u64 0] 108))=w0 at*;go_wp2_with fail
 go_loopw [12] (fun v wr=>∃(k:Nat) (a0 a1 a2 a3:Nat),v=.int .i64 (k:Int)/\k<=n/\Hid (Am [a0,a1,a2,a3] (g.ups (ids.take k)))/\Blk wr (w.heap.size+1) 108 #[.int .u64 (a0:Int),.int .u64 (a1:Int),.int .u64 (a2:Int),.int .u64 (a3:Int)]/\Fr (One (w.heap.size+1)) w0 wr) (fun v _=>n-(intOf v).toNat)
 case atStart=>exact ⟨0,0,0,0,0,rfl,by omega,Am.empty,bs,Fr.refl _ _⟩
 case round=>
  obtain ⟨k,a0,a1,a2,a3,rfl,hk,ac,ak,hf⟩:=hrel;have fw:Fr Non w wr:=f0.trans hf (fun j hj e=>by have e':j=w.heap.size+1:=e;omega)
  by_cases hlt:k<n
  ·
   obtain ⟨i1,i2,i3⟩:=ix k n
   obtain ⟨id,hid⟩:∃x,ids[k]? =some x:=⟨_,At1 (by rw [hn.out];exact hlt)⟩;obtain ⟨b,a9,hA,ba,d0,d1,d2⟩:=Id.at (hr.fr fw zr) hid;have ar:=hok id (As9 hid);have av:=lh (Aq0 g ids k hid);have fa:Fr Non w (wr.alloc (.cells id.V 48)):=fw.alloc _;have ai:=hg.fr fa;have au:=Blk.new wr 48 id.V;have ab:=ak.alloc (.cells id.V 48);have al:=hf.alloc (.cells id.V 48);have c2:=ai.blk.cell 2;have c1:=ai.blk.cell 1;have ae:=ai.map;have ag:=fun (w':World) (h:MapAt w' g.mb g.mm (place g.nodes))=>MapAt.look h id ar;have aw:Hid (g.up id=fun q=>match place g.nodes id with|some i=>(g.nodes[i]?.map (fun n=>n.past q)).getD false|none=>false):=rfl;have i4:=au.cell 0;have i5:=au.cell 1;have i6:=au.cell 2;rw [hA];replace hA:=lh hA;generalize hw1:wr.alloc (.cells id.V 48)=w1 at*;replace c1:w1.cell? ⟨g.gb,1,none⟩=some (.map (some g.mb)):=c1;replace c2:cS w1 g.gb 2 g.nA g.nodes.length g.nC:=c2;replace i4:cI w1 wr.heap.size 0 id.b:=i4;replace i5:cI w1 wr.heap.size 1 id.s:=i5;replace i6:cU w1 wr.heap.size 2 id.u:=i6
   cases hp:place g.nodes id
   ·
    have hm:Hid (g.ups (ids.take (k+1))=g.ups (ids.take k)):=by
     show _=_;rw [av.out,aw.out,hp];simp
    rw [hp] at ag;clear ai au hp aw av;go_upto_region 5 with (fail)
    try rw [hw1]
    clear hw1;refine wp_region_held_drew (S:=(fun w'=>cI w' wr.heap.size 0 id.b/\cI w' wr.heap.size 1 id.s/\cU w' wr.heap.size 2 id.u/\w'.cell? ⟨g.gb,1,none⟩=some (.map (some g.mb))/\MapAt w' g.mb g.mm (place g.nodes))) (by kernel_rfl) ⟨i4,i5,i6,c1,ae⟩ (fun hS=> ?_);replace al:=al.drew;replace ab:=ab.drew;refine tkH 0 hS (h:=tkH 1 hS (h:=tkH 2 hS (h:=tkH 3 hS (h:=tkH 4 hS (h:=tkH 5 hS (h:=tkH 6 hS (h:=tkH 7 hS (h:=tkH 8 hS (h:=tkH 9 hS (h:=tkH 10 hS (h:=?_)))))))))));simp only [zl];refine oD ?_;go_simp;go_wp2_with fail;go_roundw
    case rel=>exact ⟨k+1,a0,a1,a2,a3,by go_num,by omega,by show Am _ _;rw [hm.out];exact ac.out,ab,al⟩
    case measure=>simp [intOf];omega
   ·
    rename_i i;obtain ⟨nd,aq,_⟩:=I6 hp;have a8:=hg.few;have a6:i<g.nodes.length:=(List.getElem?_eq_some_iff.1 aq).1
    have hm:Hid (g.ups (ids.take (k+1))=fun q=>g.ups (ids.take k) q||nd.past q):=by
     show _=_;rw [av.out,aw.out,hp];simp [aq]
    have af:Hid (Am [nd.a0,nd.a1,nd.a2,nd.a3] nd.past):=(ai.node nd (As9 aq)).set;obtain ⟨bn,aa,ay,ao⟩:=ai.setAt aq;have m0:cU w1 bn (aa+i*35+30) nd.a0:=ao 0 (by omega);have m1:cU w1 bn (aa+i*35+30+1) nd.a1:=ao 1 (by omega);have m2:cU w1 bn (aa+i*35+30+2) nd.a2:=ao 2 (by omega);have m3:cU w1 bn (aa+i*35+30+3) nd.a3:=ao 3 (by omega);rw [ay] at c2;obtain ⟨j1,j2,j3⟩:=ix i g.nodes.length
    have j4:=iw (i:Int);rw [hp] at ag;clear ai au hp aw av aq a6 ay ao;generalize g.nodes.length=nn at*;go_upto_region 5 with (fail)
    try rw [hw1]
    clear hw1;refine wp_region_held_drew (S:=(fun w'=>cI w' wr.heap.size 0 id.b/\cI w' wr.heap.size 1 id.s/\cU w' wr.heap.size 2 id.u/\w'.cell? ⟨g.gb,1,none⟩=some (.map (some g.mb))/\MapAt w' g.mb g.mm (place g.nodes))) (by kernel_rfl) ⟨i4,i5,i6,c1,ae⟩ (fun hS=> ?_);replace al:=al.drew;replace ab:=ab.drew;refine tkH 0 hS (h:=tkH 1 hS (h:=tkH 2 hS (h:=tkH 3 hS (h:=tkH 4 hS (h:=tkH 5 hS (h:=tkH 6 hS (h:=tkH 7 hS (h:=tkH 8 hS (h:=tkH 9 hS (h:=tkH 10 hS (h:=?_)))))))))));simp only [zl];refine oD ?_;go_simp;replace c2:cS w1.drew g.gb 2 (some ⟨bn,aa,none⟩) nn g.nC:=c2;replace m0:cU w1.drew bn (aa+i*35+30) nd.a0:=m0;replace m1:cU w1.drew bn (aa+i*35+30+1) nd.a1:=m1;replace m2:cU w1.drew bn (aa+i*35+30+2) nd.a2:=m2;replace m3:cU w1.drew bn (aa+i*35+30+3) nd.a3:=m3
    have ax:Fo w1.drew (w.heap.size+1) 0 [a0,a1,a2,a3]:=fun j hj=>by
     rw [ab.cell]
     match j,hj with
     |0,_=>rfl
     |1,_=>rfl
     |2,_=>rfl
     |3,_=>rfl
    go_wp2_with (go_at_call 63;go_loud (with_reducible refine (Li _ _ _ _ [a0,a1,a2,a3] _ _ _ _ (g.ups (ids.take k)) nd.past _ ac.out af.out ab ax).mono ?_);rintro _ w2 ⟨rfl,a5,a4⟩)
    have ap:Hid (Am (orW [a0,a1,a2,a3] [nd.a0,nd.a1,nd.a2,nd.a3]) (g.ups (ids.take (k+1)))):=by
     show Am _ _;rw [hm.out];exact Am.or ac.out af.out
    go_roundw
    case rel=>exact ⟨k+1,a0|||nd.a0,a1|||nd.a1,a2|||nd.a2,a3|||nd.a3,by go_num,by omega,ap,a5,al.transOne a4⟩
    case measure=>simp [intOf];omega
  ·
   obtain rfl:n=k:=by omega
   have ah:Am [a0,a1,a2,a3] (g.ups ids):=by have h1:=ac.out;rwa [List.take_of_length_le (by rw [hn.out];exact At2 _)] at h1
   have ad:Blk wr w.heap.size 108 #[.int .u64 0,.int .u64 0,.int .u64 0,.int .u64 0]:=br.fr hf (fun e=>by have e':w.heap.size=w.heap.size+1:=e;omega);have s0:cU wr (w.heap.size+1) 0 a0:=ak.cell 0;have s1:cU wr (w.heap.size+1) 1 a1:=ak.cell 1;have s2:cU wr (w.heap.size+1) 2 a2:=ak.cell 2;have s3:cU wr (w.heap.size+1) 3 a3:=ak.cell 3;have e0:wr.cell? ⟨w.heap.size,0,none⟩=some (.int .u64 0):=ad.cell 0;have e1:wr.cell? ⟨w.heap.size,1,none⟩=some (.int .u64 0):=ad.cell 1;have e2:wr.cell? ⟨w.heap.size,2,none⟩=some (.int .u64 0):=ad.cell 2;have e3:wr.cell? ⟨w.heap.size,3,none⟩=some (.int .u64 0):=ad.cell 3;have z0:wr.frozen? ⟨w.heap.size,0,none⟩=false:=ad.frozen 0;have z1:wr.frozen? ⟨w.heap.size,1,none⟩=false:=ad.frozen 1;have z2:wr.frozen? ⟨w.heap.size,2,none⟩=false:=ad.frozen 2;have z3:wr.frozen? ⟨w.heap.size,3,none⟩=false:=ad.frozen 3;have a7:=(((ad.set 0 (.int .u64 (a0:Int))).set 1 (.int .u64 (a1:Int))).set 2 (.int .u64 (a2:Int))).set 3 (.int .u64 (a3:Int));have fz:=(((fw.setNew (g:=w.heap.size) (At2 _) 0 (.int .u64 (a0:Int))).setNew (g:=w.heap.size) (At2 _) 1 (.int .u64 (a1:Int))).setNew (g:=w.heap.size) (At2 _) 2 (.int .u64 (a2:Int))).setNew (g:=w.heap.size) (At2 _) 3 (.int .u64 (a3:Int));have az:=lh (aj.out a0 a1 a2 a3 _ ah fz);clear ah fz ad ak ac hf;go_wp2_with fail
   (try simp only [Exit.inBlock,Exit.then])
   refine C9 (t:=108) rfl rfl a7 rfl underlying108 (by kernel_rfl) rfl ?_;exact az.out
end Oq
section
open Go.RowKit Go.Sort
namespace Oq
theorem Aq2 (base:Nat) (g:Gph) (B n c:Nat) (A:Option Addr) (ids:List Id) (w:World) (hsort:Ju) (hg:GAt w base g) (hn:Hid (ids.length=n)) (hr:Rd w B 3 A n (ids.flatMap Id.cells)) (hnm:n<=1000000) (hok:∀id∈ids,id.ok):
  Calls zp 32 #[.pointer (some ⟨g.gb,0,none⟩),.slice A n c] w (Picked g (g.ups ids) w):=by
 have k:=lh (Aq1 base g B n c A ids w hg hn hr hnm hok);have hlen:=hg.few
 have k2:Hid (∀(a0 a1 a2 a3:Nat) (w1:World),Am [a0,a1,a2,a3] (g.ups ids)->Fr Non w w1->
   Calls zp 65 #[.pointer (some ⟨g.gb,0,none⟩),.func (.func 64) #[.pointer (some ⟨w1.heap.size,0,none⟩)] #[]] (w1.alloc (.cells #[.int .u64 (a0:Int),.int .u64 (a1:Int),.int .u64 (a2:Int),.int .u64 (a3:Int)] 108)) (Picked g (g.ups ids) w)):=by
  intro a0 a1 a2 a3 w1 hset hf;have hf1:=hf.alloc (.cells #[.int .u64 (a0:Int),.int .u64 (a1:Int),.int .u64 (a2:Int),.int .u64 (a3:Int)] 108);have hb:=Blk.new w1 108 #[.int .u64 (a0:Int),.int .u64 (a1:Int),.int .u64 (a2:Int),.int .u64 (a3:Int)];refine (Rg base g 64 #[.pointer (some ⟨w1.heap.size,0,none⟩)] #[] (g.ups ids) _ hsort (hg.fr hf1) (enters_of func64 (by kernel_rfl) rfl) (fun w' i hw hi=> ?_)).mono (fun e w' h=>h.from hf1);have hb':=hb.fr hw zq;refine (Oz w1.heap.size 0 [a0,a1,a2,a3] (g.ups ids) i w' hset (fun j hj=> ?_) (by omega)).mono (fun e w'' h=>⟨h.1,h.2▸Fr.refl _ _⟩);rw [hb'.cell]
  match j,hj with
  |0,_=>rfl
  |1,_=>rfl
  |2,_=>rfl
  |3,_=>rfl
 have hsh:Hid (∀e w',Picked g (g.ups ids) w e w'->∃A m c,e=.returned (.slice A m c)):=fun _ _ ⟨A,c,xs,h,_⟩=>⟨A,xs.length,c,h⟩;generalize Picked g (g.ups ids) w=POST at*;clear hg hsort hr;go_enter func32,ntmps32;go_wp2_with fail;refine (k.out).mono ?_;rintro _ w1 ⟨a0,a1,a2,a3,rfl,hset,f1⟩;have kk:=lh (k2.out a0 a1 a2 a3 w1 hset f1);clear k k2;go_wp2_with fail;refine (kk.out).mono ?_;intro e w2 h;obtain ⟨A2,m2,c2,rfl⟩:=hsh.out _ _ h;replace h:=lh h;clear kk hsh;go_wp2_with fail;exact h.out
end Oq
end
namespace Oq
theorem Nn {cards:List Cd} {l:List Pn} (hlen:l.length<200):∀(ps:List Nat) (s:List Pn × List Op) (C:List Op),Bc cards l C s.1 s.2->(∀o∈s.2,ready s.1 o=false)->(∀p∈ps,p<l.length)->
  ∃C',Bc cards l C' (Cj cards l ps s).1 (Cj cards l ps s).2/\(∀o∈(Cj cards l ps s).2,ready (Cj cards l ps s).1 o=false)/\∀o,o∈C'<->o∈C\/∃p∈ps,∃n,l[p]? =some n/\o=n.o
 |[],s,C,h,hst,_=>⟨C,h,hst,fun o=>⟨.inl,fun ho=>ho.elim id (fun ⟨p,hp,_⟩=>absurd hp At3)⟩⟩
 |p::ps,s,C,h,hst,hps=>by
  have hp:=hps p Au0;have hn:l[p]? =some l[p]:=At1 hp;unfold Cj;rw [hn];dsimp only;obtain ⟨C1,h1,h2,h3⟩:=h.next hlen hst hn;obtain ⟨C2,k1,k2,k3⟩:=Nn hlen ps _ C1 h1 h2 (fun q hq=>hps q (Au1 _ hq));refine ⟨C2,k1,k2,fun o=> ?_⟩;rw [k3,h3];constructor
  ·
   rintro ((h|h)|⟨q,hq,n,hn2,e⟩)
   · exact .inl h
   · exact .inr ⟨p,Au0,l[p],hn,h⟩
   · exact .inr ⟨q,Au1 _ hq,n,hn2,e⟩
  ·
   rintro (h|⟨q,hq,n,hn2,e⟩)
   · exact .inl (.inl h)
   ·
    rcases List.mem_cons.1 hq with rfl|hq
    ·
     rw [hn] at hn2;injection hn2 with hn2
     exact .inl (.inr (by rw [e,hn2]))
    · exact .inr ⟨q,hq,n,hn2,e⟩
theorem Tw {cards:List Cd} {l:List Pn} (h:Rows cards l) (hlen:l.length<200) {ps:List Nat} (hps:∀p∈ps,p<l.length) {i:Nat} {n:Pn} (hi:l[i]? =some n):
  ((plc (Cj cards l ps ([],[])).1 n.id).isSome=true->i∈ps/\ready (Cj cards l ps ([],[])).1 n.o=true)/\(i∈ps->(plc (Cj cards l ps ([],[])).1 n.id).isSome=false->ready (Cj cards l ps ([],[])).1 n.o=false/\n.o∈(Cj cards l ps ([],[])).2):=by
 obtain ⟨C,h1,h2,h3⟩:=Nn hlen ps ([],[]) [] (Bc.start h) (fun o ho=>absurd ho At3) hps;generalize Cj cards l ps ([],[])=s at*;obtain ⟨m,ws⟩:=s;dsimp only at*;have hid:=(h.ok i n hi).id
 have hC:n.o∈C->i∈ps:=fun hc=>by
  rcases (h3 n.o).1 hc with h4|⟨p,hp,n2,hn2,e⟩
  · cases h4
  ·
   have k1:=(h.ok p n2 hn2).plc;have k2:=(h.ok i n hi).plc;rw [(h.ok p n2 hn2).id,<- e,<- hid,k2] at k1;injection k1 with k1
   rw [k1];exact hp
 constructor
 ·
  intro hs
  cases hp:plc m n.id with
  |none=>rw [hp] at hs;cases hs
  |some j=>
   obtain ⟨n',hn',e⟩:=Bo hp
   have e2:n'.o=n.o:=by
    obtain ⟨n2,k1,k2⟩:=h1.among n' (As9 hn');obtain ⟨q,hq⟩:=At7 k1;have q1:=(h.ok q n2 hq).plc;have q2:=(h.ok i n hi).plc;rw [(h.ok q n2 hq).id,k2,<- (h1.rm.ok j n' hn').id,e,q2] at q1;injection q1 with q1
    rw [<- q1,hi] at hq;injection hq with hq
    rw [<- k2,hq]
   refine ⟨hC (by rw [<- e2];exact h1.perm.mem_iff.1 (List.mem_append_left _ (At8 (As9 hn')))),?_⟩;unfold ready;rw [At9,List.any_eq_false];intro id hid2;rw [<- e2] at hid2;obtain ⟨p,_,hq⟩:=(h1.rm.ok j n' hn').par id hid2;rw [hq];exact Bool.false_ne_true
 ·
  intro hin hs;have hc:n.o∈C:=(h3 n.o).2 (.inr ⟨i,hin,n,hi,rfl⟩)
  rcases List.mem_append.1 (h1.perm.mem_iff.2 hc) with h4|h4
  ·
   obtain ⟨n3,k1,k2⟩:=List.mem_map.1 h4;obtain ⟨j,hj⟩:=At7 k1;have:=(h1.rm.ok j n3 hj).plc;rw [(h1.rm.ok j n3 hj).id,k2,<- hid] at this;rw [this] at hs
   cases hs
  · exact ⟨h2 _ h4,h4⟩
end Oq
namespace Oq
attribute [local go_sem] At5 At6
theorem Aq3 (base:Nat) (r:Ad) (w:World) (h:r.okAt w base):
  Calls zp 28 #[.pointer (some ⟨r.rb,0,none⟩)] w (fun e w'=>e=.returned (.pointer (some ⟨r.g.gb,0,none⟩))/\Fr Non w w'):=by
 have c0:w.cell? ⟨r.rb,0,none⟩=some (.pointer (some ⟨r.g.gb,0,none⟩)):=h.blk.cell 0;clear h;generalize r.g.gb=gb at*;generalize r.rb=rb at*;go_enter func28,ntmps28;go_wp2
 go_ret
 exact ⟨rfl,Fr.refl _ _⟩
end Oq
namespace Oq
attribute [local go_sem] At5 At6
attribute [local go_sem ↓] E9 Ia Be
def Dt (l m:List Pn) (ps:List Nat) (i:Nat):Bool:=ps.contains i&& !(plc m (Au l i).name).isSome
theorem Aq4 {cards:List Cd} {l m:List Pn} {ws:List Op} {ps:List Nat} (h:Rows cards l) (hl:l.length<200) (hps:∀p∈ps,p<l.length) (he:Cj cards l ps ([],[])=(m,ws)):((At0 l.length).filter (Dt l m ps)).length=ws.length:=by
 obtain ⟨C,h1,_,h3⟩:=Nn hl ps ([],[]) [] (Bc.start h) (fun o ho=>absurd ho At3) hps;have hw:=fun i n hi=>Tw h hl hps (i:=i) (n:=n) hi;rw [he] at h1 hw;dsimp only at h1 hw
 have hnd:(((At0 l.length).filter (Dt l m ps)).map (Au l)).Nodup:=by
  rw [List.Nodup,List.pairwise_map];refine (List.Pairwise.filter _ List.nodup_range).imp_of_mem (fun {a b} ha hb hab e=>hab ?_);exact Hc h (List.mem_range.1 (List.mem_filter.1 ha).1) (List.mem_range.1 (List.mem_filter.1 hb).1) (congrArg Op.name e)
 have hws:ws.Nodup:=List.Pairwise.of_map Op.name (fun a b hab e=>hab (congrArg Op.name e)) (List.nodup_append.1 h1.names).2.1
 have hp:=(List.perm_ext_iff_of_nodup hnd hws).2 (fun o=>by
  constructor
  ·
   intro ho;obtain ⟨i,hi,rfl⟩:=List.mem_map.1 ho;obtain ⟨hi1,hi2⟩:=List.mem_filter.1 hi;obtain ⟨n,hn⟩:∃n,l[i]? =some n:=⟨_,At1 (List.mem_range.1 hi1)⟩;unfold Dt at hi2;rw [Au2,Au3,At9] at hi2;rw [B2 hn] at hi2 ⊢;have h9:=(hw i _ hn).2 hi2.1;rw [(h.ok i _ hn).id] at h9;exact (h9 hi2.2).2
  ·
   intro ho;obtain ⟨i,n,hi,rfl,hp⟩:=h1.of ho
   have hin:i∈ps:=by
    rcases (h3 n.o).1 (h1.perm.mem_iff.1 (List.mem_append_right _ ho)) with h4|⟨p,hp,n2,hn2,e⟩
    · cases h4
    ·
     have h5:=Hc h (List.getElem?_eq_some_iff.1 hi).1 (hps p hp) (by rw [B2 hi,B2 hn2,e]);rw [h5];exact hp
   refine List.mem_map.2 ⟨i,List.mem_filter.2 ⟨List.mem_range.2 (List.getElem?_eq_some_iff.1 hi).1,?_⟩,B2 hi⟩;unfold Dt;rw [Au2,Au3,At9,B2 hi,<- (h.ok i n hi).id,hp];exact ⟨hin,rfl⟩)
 have:=hp.length_eq;rwa [At4] at this
theorem Aq5 (l m:List Pn) (ps:List Nat) (i:Nat):((At0 (i+1)).filter (Dt l m ps)).length=((At0 i).filter (Dt l m ps)).length+(if Dt l m ps i=true then 1 else 0):=by
 rw [List.range_succ,List.filter_append,Au4];congr 1
 cases h:Dt l m ps i<;>simp [h]
theorem Aq6 {m:List Pn} (id:Id):Cz (Ao (m.map Pn.id)) id=(plc m id).isSome:=by
 rw [Bool.eq_iff_iff,Hn,(Dk _).mem_iff];constructor
 ·
  intro h;obtain ⟨n,hn,e⟩:=List.mem_map.1 h;obtain ⟨i,hi⟩:=At7 hn;unfold plc;rw [List.findIdx?_isSome,List.any_eq_true];exact ⟨n,hn,by simp [e]⟩
 ·
  intro h;obtain ⟨p,hp⟩:=Option.isSome_iff_exists.1 h;obtain ⟨n,hn,e⟩:=Bo hp;rw [<- e];exact At8 (As9 hn)
theorem Aq7 {g:Gph} {p:Nat->Bool} {k:Nat} {x:Id} (h:x∈Eb g.nodes p k):x∈g.pns.map Pn.id:=by
 unfold Eb at h;obtain ⟨i,_,hx⟩:=List.mem_filterMap.1 h
 split at hx
 ·
  obtain ⟨n,hn,e⟩:=Option.map_eq_some_iff.1 hx;unfold Gph.pns;rw [List.map_map,<- e];exact At8 (As9 hn)
 · cases hx
theorem Aq8 {w:World} {b:Nat} {g:Gph} (hg:GAt w b g):∀x∈g.pns.map Pn.id,x.ok:=by
 intro x hx;unfold Gph.pns at hx;rw [List.map_map] at hx;obtain ⟨n,hn,rfl⟩:=List.mem_map.1 hx;exact (hg.node n hn).id
theorem relayWhole_law (A:Option Addr) (c:Nat) (l0:List Int) (A':Option Addr) (c':Nat) (l1:List Int) (w:World) (hk:KindsAt w) (hr:Rd w w.heap.size 1 A l0.length (l0.map Iv)) (hnc:l0.length<=c) (hnm:c<=9223372036854775807) (hok:∀x∈l0,I64 x) (hr':Rd w w.heap.size 1 A' l1.length (l1.map Iv)) (_hnc':l1.length<=c') (_hnm':c'<=9223372036854775807) (hok':∀x∈l1,I64 x):
  Calls zp 5 #[.slice A l0.length c,.slice A' l1.length c'] w (Ae true w):=by
 have bp:0<w.heap.size:=World.block_lt_of_cell? w _ (hk 0 (by decide));have km:=lh (Nj w.heap.size l0.length c A l0 w rfl hr (by omega) hok);unfold Ha at km;have bd:=fun (w':World) (hf:Fr Non w w')=>Tu w' (hk.fr hf);unfold Ae at bd;replace bd:=lh bd;have b2:Hid (∀wz,Fr Non w wz->Ae true w (.returned (.bool true)) wz):=fun wz h=>⟨rfl,h⟩;have dc:=lh (fun (w':World) (hf:Fr Non w w')=>hk.fr hf);generalize Ae true w=POST at*;obtain ⟨n1,cx⟩:=Aa l1.length;rw [cx.out] at hr' ⊢;obtain ⟨n0,dq⟩:=Aa l0.length;rw [dq.out] at km ⊢;clear hk hr hnc hnm hok;go_enter func5,ntmps5;go_upto_region 2 with (go_at_call 10;(with_reducible refine (km.out).mono ?_);rintro _ w1 ⟨r,rfl,f1,ro,c8,db⟩;(have bn:=Blk.new w1 28 #[.slice none 0 0,.slice none 0 0,.slice none 0 0,.slice none 0 0]);(have dl:=Cl (P:=zp) w1.heap.size 28 (cs:=r.cells) Cv (old:=#[.slice none 0 0,.slice none 0 0,.slice none 0 0,.slice none 0 0]) rfl (Gh r)))
 have bg:Blk ((w1.alloc (.cells #[.slice none 0 0,.slice none 0 0,.slice none 0 0,.slice none 0 0] 28)).setRow w1.heap.size r.cells) w1.heap.size 28 r.cells:=bn.setRow;have fG:Fr Non w1 ((w1.alloc (.cells #[.slice none 0 0,.slice none 0 0,.slice none 0 0,.slice none 0 0] 28)).setRow w1.heap.size r.cells):=((Fr.refl Non w1).alloc _).setRow (fun hh=>absurd hh (by omega)) _;have f2:=f1.trans fG zr;have ap:=ro.non fG;obtain ⟨gv,di⟩:=Aa w1.heap.size;rw [di.out] at bg f2 ap ⊢;clear dl bn fG ro f1 km;generalize (w1.alloc (.cells #[.slice none 0 0,.slice none 0 0,.slice none 0 0,.slice none 0 0] 28)).setRow gv r.cells=w2 at*;have hl:=B0 (P:=zp) gv 28 underlying28 rfl (cs:=r.cells) Cv;have dj:r.l≠[]:=by rw [db];exact Kl _ _
 have ae:=ap.rows;have bj:r.l.length<=14:=ap.num.few;have c0:0<r.l.length:=List.length_pos_iff.2 dj;have a5:0<w2.heap.size:=Au5 bp f2.size;have a6:=lh (fun (B np cp:Nat) (Ap:Option Addr) (ps:List Nat) (v:World) (hv:Fr Non w2 v) (hpn:Hid (ps.length=np)) (hrp:Rd v B 1 Ap np (ps.map Qv)) (hlt:Hid (∀p∈ps,p<r.l.length)) (hnp:np<=1000000)=>Tt w.heap.size B np cp r Ap ps v (ap.non hv) c8 hpn hrp hlt.out hnp (dc.out v (f2.trans hv zr)) (Au5 a5 hv.size));unfold Ij at a6;obtain ⟨L,hL⟩:=Aa r.l.length;have cy:=hr'.fr f2 zr;have c1:w2.cell? ⟨gv,1,none⟩=some (.slice r.lA L r.lC):=by have h9:=bg.cell 1;rw [show r.cells[1]? =some (.slice r.lA r.l.length r.lC) from rfl,hL.out] at h9;exact h9
 have c2:w2.cell? ⟨gv,2,none⟩=some (.slice r.iA L r.iC):=by have h9:=bg.cell 2;rw [show r.cells[2]? =some (.slice r.iA r.l.length r.iC) from rfl,hL.out] at h9;exact h9
 rw [hL.out] at bj c0 a6
 have ch:Hid (∀(q:Int) (v:World),I64 q->∃P:Nat,P<L/\Calls zp 18 #[.int .i64 q,.int .i64 (L:Int)] v fun e w'=>e=.returned (.int .i64 (P:Int))/\v=w'):=by
  intro q v hq;have hb:=Fg (n:=q) (m:=(L:Int)) (by omega);refine ⟨(Cx q (L:Int)).toNat,by omega,?_⟩;have:=Hg q (L:Int) v hq.1 hq.2 (by omega) (by omega);rw [Int.toNat_of_nonneg hb.1];exact this
 go_wp2_with fail
 go_loopw [6,7] (fun s v wr=>∃(i cq:Nat) (Aq:Option Addr) (ps:List Nat),s=.slice Aq i cq/\v=.int .i64 (i:Int)/\i<=20/\i<=n1/\Hid (ps.length=i)/\Own wr w2.heap.size 3 1 Aq i cq (ps.map Qv)/\Hid (∀p∈ps,p<L)/\Fr Non w2 wr) (fun s v _=>20-(intOf v).toNat)
 case atStart=>exact ⟨0,0,none,[],rfl,rfl,by omega,by omega,rfl,Own.nil _ _ _ _,fun p hp=>absurd hp At3,Fr.refl _ _⟩
 case round=>
 obtain ⟨i,cq,Aq,ps,rfl,rfl,dh,dn,av,aj,a4,hf⟩:=hrel
 by_cases hgo:i<n1/\i<20
 case pos=>
  have u0:decide ((i:Int)<(n1:Int))=true:=decide_eq_true (by omega);have u1:decide ((i:Int)<20)=true:=decide_eq_true (by omega);have u2:decide (i<n1)=true:=decide_eq_true hgo.1;have u3:decide (i<20)=true:=decide_eq_true hgo.2;obtain ⟨q,hq⟩:∃q,l1[i]? =some q:=⟨_,At1 (by rw [cx.out];exact hgo.1)⟩;obtain ⟨ba,oa,u,rfl,_,hu,d0⟩:=cy.at hgo.1;rw [List.getElem?_map,hq] at hu;injection hu with hu
  subst hu;replace d0:cI w2 ba (oa+i) q:=d0;obtain ⟨Q,hQ,kQ⟩:=ch.out q wr.drew (hok' q (As9 hq));replace kQ:=lh kQ;obtain ⟨i1,i2,i3⟩:=ix i n1
  have dk:=aj.cap;have e6:=iw ((i:Int)+1);go_upto_region 6 with (fail)
  obtain ⟨C0,D0⟩:=zk2 hf c1 d0;have F0:Fr Non wr wr.drew:=(Fr.refl Non wr).drew;refine wp_region_held_drew (S:=fun w'=>cS w' gv 1 r.lA L r.lC/\cI w' ba (oa+i) q) (by kernel_rfl) ⟨C0,D0⟩ (fun hHeld=> ?_);clear hHeld;have uu:=aI C0 D0;refine tkH 0 uu (h:=tkH 1 uu (h:=tkH 2 uu (h:=tkH 3 uu (h:=tkH 4 uu (h:=tkH 5 uu (h:=tkH 6 uu (h:=tkH 7 uu (h:=?_))))))));clear uu;simp only [zl];refine oG 8 (fun K hK=> ?_);go_simp;go_wp2_with (go_at_call 18;(with_reducible refine (kQ.out).mono ?_);rintro _ _ ⟨rfl,rfl⟩);refine hK.out _ _ ⟨C0,D0⟩ (fun hZ=> ?_);clear hZ hK K;try simp only [Ai,zl]
  refine oG 9 (fun K hK=> ?_);go_simp;have cf:=(Blk.new wr 3 #[.int .i64 (Q:Int)]).drew;have F1:Fr Non wr (wr.alloc (.cells #[.int .i64 (Q:Int)] 3)).drew:=((Fr.refl Non wr).alloc _).drew;obtain ⟨nb,bz⟩:=Aa wr.heap.size;rw [bz.out] at cf ⊢;generalize (wr.alloc (.cells #[.int .i64 (Q:Int)] 3)).drew=v1 at*;obtain ⟨C1,D1⟩:=zk2 F1 C0 D0;refine hK.out _ _ ⟨C1,D1⟩ (fun hZ=> ?_);clear hZ hK K;try simp only [Ai,zl]
  refine oG 10 (fun K hK=> ?_);have ct:Fr Non w2 v1:=hf.trans F1 zr;have ds:=ct.size;refine Eu (base:=w2.heap.size) (.tmp 30) (.tmp 39) 22 rfl rfl rfl Ev (aj.fr F1 zr) (Rd.blk (n:=1) (size:=1) cf rfl) (by simp [Value.oneCell']) (by omega) (by omega) (by omega) ?_;intro A9 c9 v2 a0 cw bs;have f9:Fr Non w2 v2:=ct.trans cw (fun k hk e=>by have:=(aj.row k e).1;omega);obtain ⟨C2,D2⟩:=zk2 f9 c1 d0;refine hK.out _ _ ⟨C2,D2⟩ (fun hZ=> ?_);clear hZ hK K;try simp only [Ai,zl]
  refine tkH 11 ⟨C2,D2⟩ (h:=?_);simp only [zl];refine oD ?_;go_simp;have h1:Hid ((ps++[Q]).length=i+1):=by show _=_;rw [Au4,av.out];rfl
  have h2:Hid (∀p∈ps++[Q],p<L):=fun p hp=>by
   rcases List.mem_append.1 hp with h1|h1
   · exact a4.out p h1
   · rw [List.mem_singleton.1 h1];exact hQ
  have a3:Own v2 w2.heap.size 3 1 A9 (i+1) c9 ((ps++[Q]).map Qv):=by rw [List.map_append];exact a0
  clear a0 aj cw bs a4 av kQ;go_wp2_with fail;go_roundw
  case rel=>exact ⟨i+1,c9,A9,ps++[Q],rfl,by go_num,by omega,by omega,h1,a3,h2,f9⟩
  case measure=>simp [intOf];omega
 case neg=>
  clear ch hok' cy hr';have kt:=lh (a6.out wr.heap.size i cq Aq ps wr hf av aj.rd a4 (by omega))
  have u0:(decide ((i:Int)<(n1:Int))=false/\decide (i<n1)=false)\/(decide ((i:Int)<(n1:Int))=true/\decide ((i:Int)<20)=false/\decide (i<n1)=true/\decide (i<20)=false):=by
   by_cases h1:i<n1
   · exact .inr ⟨decide_eq_true (by omega),decide_eq_false (by omega),decide_eq_true h1,decide_eq_false (fun h2=>hgo ⟨h1,h2⟩)⟩
   · exact .inl ⟨decide_eq_false (by omega),decide_eq_false h1⟩
  have bv:=bg.fr hf zq;have br:Hid (∀p∈ps,p<r.l.length):=fun p hp=>by rw [hL.out];exact a4.out p hp
  clear a6
  rcases u0 with ⟨u0,u0n⟩|⟨u0,u1,u2,u3⟩
  all_goals
  go_upto_region 7 with (fail)
  go_upto_region 10 with (go_at_call 11;(with_reducible refine (kt.out).mono ?_);rintro _ w4 ⟨rq,b,rfl,du,ar,cg,dv,f4⟩)
  have cd:=hf.trans f4 zr;have dp:=f2.trans cd zr;have b4:=lh (Aq3 b rq w4 ar.out);have ag:=lh (fun (w':World) (h:Fr Non w4 w')=>Ng b rq w' (ar.out.non h));obtain ⟨qb,be⟩:=Aa rq.rb;obtain ⟨gb,bc⟩:=Aa rq.g.gb;rw [be.out,bc.out] at b4;rw [be.out] at ag;try rw [be.out]
  obtain ⟨m,hm⟩:=Aa rq.g.pns;have bf:Hid (rq.g.nodes.length=m.length):=by show _=_;rw [<- hm.out];unfold Gph.pns;rw [At4]
  have ay:m.length<=200:=by rw [<- bf.out];exact ar.out.graph.few
  rw [hm.out] at ag;have bm:Hid (Cj r.cards r.l ps ([],[])=(m,rq.ws.map OpL.op)):=by show _=_;rw [<- cg.out,<- hm.out];rfl
  have a2:=lh (Aq4 ae (by rw [hL.out];omega) br.out bm.out)
  have cr:Hid (∀(k:Nat) (n:Pn),r.l[k]? =some n->((plc m n.id).isSome=true->k∈ps/\ready m n.o=true)/\(k∈ps->(plc m n.id).isSome=false->ready m n.o=false)):=by
   intro k n hk;have h9:=Tw ae (by rw [hL.out];omega) br.out hk;rw [bm.out] at h9;exact ⟨h9.1,fun h1 h2=>(h9.2 h1 h2).1⟩
  have aw:(Ao (m.map Pn.id)).length=m.length:=by rw [H4,At4]
  unfold Ez at ag;have ah:=lh (fun id=>Aq6 (m:=m) id);have ak:Hid (∀x∈Ao (m.map Pn.id),x.ok):=fun x hx=>Aq8 ar.out.graph x (by rw [hm.out];exact (Dk _).mem_iff.1 hx);obtain ⟨IS,bt⟩:=Aa (Ao (m.map Pn.id));rw [bt.out] at ag aw ah ak;rw [aw] at ag;obtain ⟨M,hM⟩:=Aa m.length;rw [hM.out] at ag ay bf aw;clear kt cg
  go_upto_region 12 with (first
   |(go_at_call 28;(with_reducible refine (b4.out).mono ?_);rintro _ w5 ⟨rfl,f5⟩)
   |(go_at_call 15;(with_reducible refine (ag.out _ f5).mono ?_);rintro _ w6 ⟨A6,c6,rfl,o6,f6⟩))
  have a9:=f5.trans f6 zr;have b1:=cd.trans a9 zr;have df:=dp.trans a9 zr;have ax:=(aj.fr f4 zr).fr a9 zr;have ad:Hid (rq.okAt w6 b):=ar.out.non a9;have b5:=ap.non b1;obtain ⟨d1,d2⟩:=zk2 b1 c1 c2;have kh:=lh (fun (id:Id) (w':World) (h:Fr Non w6 w')=>O2 w6.heap.size M c6 A6 IS id w' aw (o6.rd.fr h zr) (by omega));unfold Ae at kh;have kc:=lh (fun (k:Nat) (w':World) (h:Fr Non w6 w')=>Kg w6.heap.size i cq Aq ps k w' av (ax.rd.fr h zr) (by omega))
  have ci:Hid (∀(x:OpL) (w':World),Fr Non w6 w'->x.at w' w'.heap.size->x.op.ok->Calls zp 31 #[.pointer (some ⟨gb,0,none⟩),.agg x.cells] w' (Fv (x.past.filter (fun id=> !(place rq.g.nodes id).isSome)) w')):=by
   intro x w' h h1 h2;have:=Hv b rq.g x w' Hw (ad.out.graph.fr h) h1 h2.past.2 (by have:=h2.past.1;show x.op.past.length<=_;omega);rwa [bc.out] at this
  have bi:(zp.info? 55).map (·.size)=some 27:=by kernel_rfl
  have ca:Hid (∀w',Fr Non w6 w'->Calls zp 32 #[.pointer (some ⟨gb,0,none⟩),.slice A6 M c6] w' (fun e al=>∃(A:Option Addr) (c:Nat) (af:List Id),e=.returned (.slice A af.length c)/\Hid (∀x∈af,Cz IS x=true)/\Hid (Rd al al.heap.size 3 A af.length (af.flatMap Id.cells))/\af.length<=200/\Fr Non w' al)):=by
   intro w' h;have:=Aq2 b rq.g w6.heap.size M c6 A6 IS w' Mp (ad.out.graph.fr h) aw (o6.rd.fr h zr) (by omega) ak.out;rw [bc.out] at this;refine this.mono ?_;rintro e al ⟨A7,c7,af,rfl,au,_,o7,f7⟩;refine ⟨A7,c7,af,rfl,fun x hx=> ?_,o7.rd,by rw [au.length_eq];exact Nat.le_trans (Mj _ _ _) ad.out.graph.few,f7⟩;rw [Hn,<- bt.out,(Dk _).mem_iff,<- hm.out];exact Aq7 (au.mem_iff.1 hx)
  clear b4 ag aj ar o6;go_wp2_with fail
  go_loopw [11,12] (fun s v wr=>∃k Wn:Nat,s=.int .i64 (Wn:Int)/\v=.int .i64 (k:Int)/\k<=L/\Wn<=k/\Hid (((At0 k).filter (Dt r.l m ps)).length=Wn)/\Fr Non w6 wr) (fun s v _=>L-(intOf v).toNat)
  case atStart=>exact ⟨0,0,rfl,rfl,by omega,by omega,rfl,Fr.refl _ _⟩
  case round=>
   obtain ⟨k,Wn,rfl,rfl,hk,dr,bb,ac⟩:=hrel;obtain ⟨e1,e2⟩:=zk2 ac d1 d2
   by_cases hkL:k<L
   case neg=>
    obtain rfl:k=L:=by omega
    have t0:decide ((k:Int)<(k:Int))=false:=decide_eq_false (by omega);have dg:decide (k<k)=false:=decide_eq_false (by omega)
    have cu:rq.ws.length=Wn:=by
     have h9:=a2.out;rw [hL.out,bb.out,At4] at h9;exact h9.symm
    have cj:=lh (fun (w':World) (h:Fr Non w6 w')=>Kj b rq w' (ad.out.non h));rw [be.out,cu] at cj
    have c5:Hid (∀w',Fr Non w6 w'->Calls zp 33 #[.pointer (some ⟨gb,0,none⟩)] w' (fun e al=>e=.returned (.int .i64 (M:Int))/\Fr Non w' al)):=by
     intro w' h;have:=Ap9 b rq.g w' (ad.out.graph.fr h);rw [bc.out,bf.out] at this;refine this.mono ?_;rintro e al ⟨rfl,rfl⟩;exact ⟨rfl,Fr.refl _ _⟩
    have c3:=lh (ca.out wr ac);generalize wr=wk at*;clear kc ci ca cr a2 bm a4 br bb ax ad b5 ap ah ak bt hm bf hM av e2 d1 d2 c1 c2 cu bv bg hl;go_upto_region 24 with (go_at_call 32;(with_reducible refine (c3.out).mono ?_);rintro _ w7 ⟨A7,c7,af,rfl,bh,cm,bo,f7⟩)
    have dd:=ac.trans f7 zr;obtain ⟨P,hP⟩:=Aa af.length;rw [hP.out] at cm bo ⊢;go_wp2_with fail
    go_loopw [17] (fun v wr=>∃j:Nat,v=.int .i64 (j:Int)/\j<=P/\Fr Non w7 wr) (fun v _=>P-(intOf v).toNat)
    case atStart=>exact ⟨0,rfl,by omega,Fr.refl _ _⟩
    case round=>
     obtain ⟨j,rfl,hj,bw⟩:=hrel;have a7:=dd.trans bw zr
     by_cases hjP:j<P
     case neg=>
      obtain rfl:j=P:=by omega
      have v0:decide ((j:Int)<(j:Int))=false:=decide_eq_false (by omega);have cz:decide (j<j)=false:=decide_eq_false (by omega);have da:=df.trans a7 zr;have x0:((Wn:Int)==(Wn:Int))=true:=by simp
      have x1:((M:Int)==(M:Int))=true:=by simp
      go_wp2_with (first
       |(go_at_call 13;(with_reducible refine (cj.out _ a7).mono ?_);rintro _ w8 ⟨rfl,f8⟩;have g8:=a7.trans f8 zr)
       |(go_at_call 33;(with_reducible refine (c5.out _ g8).mono ?_);rintro _ w9 ⟨rfl,f9⟩;have h9:=da.trans (f8.trans f9 zr) zr)
       |(go_at_call 17;(with_reducible refine (bd.out _ h9).mono ?_);rintro _ wA ⟨rfl,fA⟩;have hd:=lh (b2.out wA (h9.trans fA zr))))
      exact hd.out
     case pos=>
     obtain ⟨x,hx⟩:∃x,af[j]? =some x:=⟨_,At1 (by rw [hP.out];exact hjP)⟩;have cn:=bh.out x (As9 hx);obtain ⟨bq,oq,rfl,_,g0,g1,g2⟩:=Id.at (cm.out.fr bw zr) hx;have kx:=lh (kh.out x wr a7);rw [cn] at kx;have v0:decide ((j:Int)<(P:Int))=true:=decide_eq_true (by omega);have cz:decide (j<P)=true:=decide_eq_true hjP;obtain ⟨q1,q2,q3⟩:=ix j P
     have e6:=iw ((j:Int)+1);clear cn hx;go_wp2_with (go_at_call 29;(with_reducible refine (kx.out).mono ?_);rintro _ w8 ⟨rfl,f8⟩);have dm:=bw.trans f8 zr;go_roundw
     case rel=>exact ⟨j+1,by go_num,by omega,dm⟩
     case measure=>simp [intOf];omega
   case pos=>
   have t0:decide ((k:Int)<(L:Int))=true:=decide_eq_true (by omega);have dg:decide (k<L)=true:=decide_eq_true hkL;obtain ⟨n,y,yb,yo,bk⟩:=b5.place (p:=k) (by rw [hL.out];exact hkL);obtain ⟨hn,b7,b9,ck,co,az⟩:=bk;obtain ⟨n2,ib,io,bu,ce,j0,j1,j2⟩:=b5.idAt (i:=k) (by rw [hL.out];exact hkL);obtain rfl:n=n2:=by rw [hn] at bu;injection bu
   obtain ⟨k0,k1,k2⟩:=zk3 ac j0 j1 j2;rw [ce] at e2;rw [co] at e1;obtain ⟨q1,q2,q3⟩:=ix k L
   have bl:=Et (P:=zp) y.cells yb (yo+k*27) underlying55 rfl bi;have a8:=lh (kh.out n.id wr ac);rw [ah.out] at a8;have b0:=lh (fun (w':World) (h:Fr Non wr w')=>kc.out k w' (ac.trans h zr));have aq:=lh (fun (w':World) (h:Fr Non wr w')=>ci.out y w' (ac.trans h zr) (ck.non (ac.trans h zr)).at b9);unfold Fv at aq;have ao:=lh (Na (g:=rq.g) rfl y);rw [hm.out,b7] at ao;obtain ⟨LL,b8⟩:=Aa (y.past.filter (fun id=> !(place rq.g.nodes id).isSome));rw [b8.out] at aq ao;obtain ⟨LN,cc⟩:=Aa LL.length;rw [cc.out] at aq ao;have cb:Hid (Dt r.l m ps k=(ps.contains k&& !(plc m n.id).isSome)):=by show _=_;unfold Dt;rw [B2 hn,<- (ae.ok k n hn).id]
   have ai:RgAt w6 yb (yo+k*27) y.cells.toList:=az
   have ab:Hid (((plc m n.id).isSome=true/\ps.contains k=true/\LN=0)\/((plc m n.id).isSome=false/\ps.contains k=true/\LN≠0)\/((plc m n.id).isSome=false/\ps.contains k=false)):=by
    obtain ⟨g1,g2⟩:=cr.out k n hn
    cases hin:(plc m n.id).isSome with
    |true=>
     obtain ⟨h1,h2⟩:=g1 hin;exact .inl ⟨rfl,List.contains_iff_mem.2 h1,by rw [ao.out] at h2;exact of_decide_eq_true h2⟩
    |false=>
     cases hc:ps.contains k with
     |true=>
      have h2:=g2 (List.contains_iff_mem.1 hc) hin;exact .inr (.inl ⟨rfl,rfl,by rw [ao.out] at h2;exact of_decide_eq_false h2⟩)
     |false=>exact .inr (.inr ⟨rfl,rfl⟩)
   have aa:=lh (Aq5 r.l m ps k);rw [bb.out,cb.out] at aa;obtain ⟨YC,cv⟩:=Aa y.cells;rw [cv.out] at bl aq ai;obtain ⟨IN,cl⟩:=Aa (plc m n.id).isSome;rw [cl.out] at a8 ab aa;obtain ⟨CM,b6⟩:=Aa (ps.contains k);rw [b6.out] at b0 ab aa;clear hn bu b7 b9 ck co az ce j0 j1 j2 ao cb b8 cc bb cv cl b6;go_upto_region 17 with (go_at_call 29;(with_reducible refine (a8.out).mono ?_);rintro _ w7 ⟨rfl,f7⟩)
   have c4:=f7.cell e1 zq;go_upto_region 18 with (go_at_call 30;(with_reducible refine (b0.out _ f7).mono ?_);rintro _ w8 ⟨rfl,f8⟩)
   have dt:=f8.cell c4 zq;have b3:=f7.trans f8 zr;have de:=bl w8 (ai.fr (ac.trans b3 zr) zq);go_upto_region 19 with (go_at_call 31;(with_reducible refine (aq.out _ b3).mono ?_);rintro _ w9 ⟨AL,cL,rfl,_,f9⟩)
   have bx:=ac.trans (b3.trans f9 zr) zr;have e6:=iw ((k:Int)+1);have e7:=iw ((Wn:Int)+1);clear a8 b0 aq de bl ai
   rcases ab.out with ⟨rfl,rfl,rfl⟩|⟨rfl,rfl,hLN0⟩|⟨rfl,rfl⟩
   ·
    have a1:Hid (((At0 (k+1)).filter (Dt r.l m ps)).length=Wn):=aa.out;clear ab aa;go_wp2_with fail;go_roundw
    case rel=>exact ⟨k+1,Wn,rfl,by go_num,by omega,by omega,a1,bx⟩
    case measure=>simp [intOf];omega
   ·
    have a1:Hid (((At0 (k+1)).filter (Dt r.l m ps)).length=Wn+1):=aa.out;have v0:decide ((LN:Int)>0)=true:=decide_eq_true (by omega);have v1:decide (0<LN)=true:=decide_eq_true (by omega);have v2:((LN:Int)==0)=false:=beq_eq_false_iff_ne.2 (by omega);have v3:(LN==0)=false:=beq_eq_false_iff_ne.2 hLN0;clear ab aa;go_wp2_with fail;go_roundw
    case rel=>exact ⟨k+1,Wn+1,by go_num,by go_num,by omega,by omega,a1,bx⟩
    case measure=>simp [intOf];omega
   ·
    have a1:Hid (((At0 (k+1)).filter (Dt r.l m ps)).length=Wn):=aa.out;clear ab aa;go_wp2_with fail;go_roundw
    case rel=>exact ⟨k+1,Wn,rfl,by go_num,by omega,by omega,a1,bx⟩
    case measure=>simp [intOf];omega
end Oq
section
open Go.ChangeShapes Go.WideShapes Go.ChangeAt Go.RowKit
theorem Aq9 (os:Os) (started:os.Started) (H:Type) (enc:TypeId × Value->H):
  ReturnsInHanded {} Tryz.checked os 5 .any (fun w args=>(Rows.relayWholeSpec.pre enc zp f5 [] false w args/\laidMetH zp [("huddle/op.kinds",Rows.laid_huddle_op_kinds)] w)/\sizedMet enc zp f5 (OpenSpec.ofChange Rows.relayWholeSpec) false w args)
   (Rows.relayWholeSpec.post enc zp f5 false true false false):=by
 refine returnsInHanded_of_change_and (C:=Tryz.checked) (X:=fun w _=>laidMetH zp [("huddle/op.kinds",Rows.laid_huddle_op_kinds)] w) (fun _ _ _ hh h=>h.of_heap hh) Tryz.own started (by kernel_rfl) func5
  (ChangeSpec.witness_at (enc:=enc) (C:=Tryz.checked) (os:=os) (X:=fun w _=>laidMetH zp [("huddle/op.kinds",Rows.laid_huddle_op_kinds)] w) false (Ja os) #[.slice none 0 0,.slice none 0 0] 8 rfl (by kernel_rfl) (by kernel_rfl) (by kernel_rfl) (by kernel_rfl) (by kernel_rfl) (Pu os _)) ?_
 intro W base args ds gs before hval0 hW _ _ hL _;have hk:=Ps hL;have hval:∀(j:Nat) t v,Tryz.f5.params[j]? =some t->args[j]? =some v->Value.okWide zp W .any base t v:=hval0;have hW':=hW;obtain ⟨p,q,hA0,hV,rfl,hfz,hnd⟩:=hW;have hA:DataW.TrodAll enc zp W 0 (fun _=>true) true Tryz.f5.params.toList args.toList ds p:=hA0;rw [params5] at hA hval;obtain ⟨v0,v1,d0,d1,p0,p1,rfl,rfl,rfl,h0,h1⟩:=trodAll_two hA;obtain ⟨A0,c0,l0,rfl,hlc0,hc0,hr0,hok0⟩:=K6 underlying22 underlying3 (by kernel_rfl) (hval 0 22 v0 rfl rfl) h0;obtain ⟨A1,c1,l1,rfl,hlc1,hc1,hr1,hok1⟩:=K6 underlying22 underlying3 (by kernel_rfl) (hval 1 22 v1 rfl rfl) h1;refine (Oq.relayWhole_law A0 c0 l0 A1 c1 l1 W hk hr0 hlc0 hc0 hok0 hr1 hlc1 hc1 hok1).mono fun e W' ⟨he,hf⟩=> ?_;exact ⟨_,he,Nr Tryz.laidOut (by kernel_rfl) rfl (by kernel_rfl) underlying4 hW' ⟨rfl,rfl,rfl⟩ hf⟩
theorem Ar0:Rows.RelayWholeSaid:=
 OpenClaim.holds_of_wide 5 f5 rfl rfl rfl rfl rfl rfl rfl ⟨rfl,rfl,rfl,rfl,rfl⟩ rfl rfl rfl rfl rfl (by kernel_rfl) func5 (by kernel_rfl)
  (of_decide_eq_true (by kernel_rfl)) (by unfold Func.isWrapper;rw [if_neg (by decide+kernel)];exact ⟨rfl,rfl⟩)
  (fun os started H enc _=>Aq9 os started H enc)
end
section
open Go
theorem relayWhole_card_holds:Rows.RelayWholeCardSaid:=
 Claim7.holds_tied_plain_at .later [] [.data] true (true, "21a1399a7e80faf1308fc7dc20e3f60affe53aa06a5131232a0aae069820b3a7") false
  Ar0 (fun _ h=>by cases h) (by kernel_rfl) (fun _ h=>by cases h) relayWhole_row_tie rfl ⟨rfl,rfl⟩ (by kernel_rfl) rfl
  (fun f fn hf hfn=>by
   obtain rfl:f=5:=Option.some.inj ((show zp.funcNamed "huddle/huddlelaw31.RelayWhole" =some 5 by kernel_rfl).symm.trans hf)|>.symm;obtain rfl:fn=f5:=(Option.some.inj (Tryz.func5.symm.trans hfn)).symm
   exact ⟨by kernel_rfl,fun j t ht=>by
    rw [params5] at ht
    have hm:t∈([22,22]:List TypeId):=by
     have h2:=Array.mem_of_getElem? ht;simpa using h2
    have hall:([22,22]:List TypeId).all (fun t=> !(zp.wantsStandIn t))=true:=by kernel_rfl
    have:=List.all_eq_true.1 hall t hm;exact (by simpa using this:zp.wantsStandIn t=false)⟩)
  (by kernel_rfl)
end
end Go.Proofs.YtgbdljlapmjmnaaGreatDoor
