/-
  huddlelaw31.RelayForward: what is forwarded to one that keeps a closed part is taken, each at once, and then it keeps all; and it is as much as was lacking.
    Conditions: op.kinds lies as its text lays it; the numbers read.
  RelayForward: whatever the input is, where the one listed variable is as its text lays it, the law returns true, and nothing that was there has turned.
    Condition: none.
  RelayForward: the tied card.
    Condition: none.
-/
import Derived.JoinedOf
import Derived.RowKitTokens
import Derived.LaidLaws
import Derived.Test.YtgbdljlapmjmnaaGreatDoorTie
import Derived.Test.YtgbdljlapmjmnaaGreatDoorCards
import Derived.SevenTiedAt
import Derived.Test.YtgbdljlapmjmnaaGreatDoorRlG20
set_option maxRecDepth 100000
set_option maxHeartbeats 16000000
open Int renaming toNat_of_nonneg->A14
open List renaming length_map->A01,getElem?_of_mem->A02,getElem?_map->A03,not_mem_nil->A04,length_append->A05,getElem?_eq_getElem->A06,mem_of_getElem?->A07,append_nil->A08,mem_map_of_mem->A09,map_append->A12,mem_append_left->A13
open Nat renaming mod_lt->A10,le_trans->A11,lt_of_lt_of_le->A16
open Go.World renaming size_alloc->A15
open Go.Proofs.Tryz
open Go.Proofs.Tryz renaming prog->zp
open Go.Lib renaming hid->lh
open List renaming set->zl
open Go.Ending renaming returned->ze
namespace Go.Proofs.YtgbdljlapmjmnaaGreatDoor
open Go.RowKit
attribute [local go_sem ↓] Go.wp_at_zero Go.wp_at_succ
namespace Oq
theorem Ax9 {cards:List Cd} {l:List Pn} (h:Rows cards l) (hlen:l.length<200) {ps:List Nat} (hps:∀p∈ps,p<l.length) (hall:∀p,p<l.length->p∈ps):(Bj cards l ps ([],[])).2=[]/\Bq cards l (Bj cards l ps ([],[])).1 []:=by
 obtain ⟨C,h1,h2,h3⟩:=Nq hlen ps ([],[]) [] (Av.start h) (fun o ho=>absurd ho A04) hps;refine h1.all h2 (fun n hn=> ?_);obtain ⟨p,hp⟩:=A02 hn;exact (h3 n.o).2 (.inr ⟨p,hall p (List.getElem?_eq_some_iff.1 hp).1,n,hp,rfl⟩)
theorem Ay0 {l m:List Pn} {ids:List Id} (h:∀x∈ids,Ar l x=Ar m x):Dp l ids=Dp m ids:=by
 refine Tu ?_ (Fe l ids);refine (N0 l ids).imp_of_mem (fun {a b} ha hb hab=> ?_);have e1:=h a ((Fe l ids).mem_iff.1 ha);have e2:=h b ((Fe l ids).mem_iff.1 hb);unfold De at hab ⊢;rw [<- e1,<- e2];exact hab
end Oq
namespace Oq
attribute [local go_sem] Bool.not_false Bool.not_true
attribute [local go_sem ↓] Gk
theorem Ay1 {L K p:Nat} (hp:p<L):∃j,j<L/\(L-1-j+K)%L=p:=by
 refine ⟨(L-1+K-p)%L,A10 _ (by omega),?_⟩;have h1:=Nat.div_add_mod (L-1+K-p) L;have h2:(L-1+K-p)%L<L:=A10 _ (by omega);generalize (L-1+K-p)%L=j at*;generalize (L-1+K-p)/L=d at*;have e:L-1-j+K=p+L*d:=by omega
 rw [e,Nat.add_mul_mod_self_left,Nat.mod_eq_of_lt hp]
def Lg (L:Nat) (w:World) (e:Ending) (w':World):Prop:=
 ∃(ps:List Nat) (A:Option Addr) (n c:Nat),e=.returned (.slice A n c)/\Hid (ps.length=n)/\Own w' w.heap.size 3 1 A n c (ps.map Qv)/\Hid (∀p∈ps,p<L)/\Hid (∀p,p<L->p∈ps)/\n<=400/\Fr Non w w'
theorem Ay2 (base B m c:Nat) (x:FG) (A:Option Addr) (turn:Int) (ag:List Int) (w:World) (h:x.own w base) (hne:x.l≠[]) (ht:I64 turn) (hn:Hid (ag.length=m)) (hr:Rd w B 1 A m (ag.map Iv)) (hok:∀x∈ag,I64 x):
  Calls zp 12 #[.agg x.cells,.int .i64 turn,.slice A m c] w (Lg x.l.length w):=by
 have aq:=h.num.few;have a3:0<x.l.length:=List.length_pos_iff.2 hne;have bg:=Blk.new w 28 x.cells;have f0:Fr Non w (w.alloc (.cells x.cells 28)):=(Fr.refl Non w).alloc _;have g1:Hid (x.cells[1]? =some (.slice x.lA x.l.length x.lC)):=rfl;obtain ⟨L,hL⟩:=Aa x.l.length;rw [hL.out] at g1 aq a3 ⊢;have ax:=hr.fr f0 zr;obtain ⟨gx,al⟩:=Aa w.heap.size;have ac:Hid (∀(ps:List Nat) (A:Option Addr) (n c:Nat) (w':World),Hid (ps.length=n)->Own w' w.heap.size 3 1 A n c (ps.map Qv)->Hid (∀p∈ps,p<L)->Hid (∀p,p<L->p∈ps)->n<=400->Fr Non w w'->Lg L w (.returned (.slice A n c)) w'):=fun ps A n c w' h1 h2 h3 h4 h5 h6=>⟨ps,A,n,c,rfl,h1,h2,h3,h4,h5,h6⟩;generalize Lg L w=POST at*;obtain ⟨XG,a1⟩:=Aa x.cells;rw [a1.out] at bg f0 ax g1 ⊢;rw [al.out] at bg ac;have av:gx<=w.heap.size:=by rw [al.out];exact Nat.le_refl _
 clear h hr a1;have ap:=lh (fun (v:World)=>Ll turn (L:Int) v ht.1 ht.2 (by omega) (by omega));obtain ⟨K,hK⟩:∃K:Nat,Dq turn (L:Int)=(K:Int):=⟨_,(A14 (H3 (n:=turn) (m:=(L:Int)) (by omega)).1).symm⟩;have bc:K<L:=by have:=(H3 (n:=turn) (m:=(L:Int)) (by omega)).2;omega
 rw [hK] at ap
 have a2:Hid (∀(q:Int) (v:World),I64 q->∃P:Nat,P<L/\Calls zp 18 #[.int .i64 q,.int .i64 (L:Int)] v fun e w'=>e=.returned (.int .i64 (P:Int))/\v=w'):=by
  intro q v hq;have hb:=H3 (n:=q) (m:=(L:Int)) (by omega);refine ⟨(Dq q (L:Int)).toNat,by omega,?_⟩;have:=Ll q (L:Int) v hq.1 hq.2 (by omega) (by omega);rw [A14 hb.1];exact this
 have a8:¬(L:Int)=0:=by omega
 have a5:¬L=0:=by omega
 have bb:((L:Int)==0)=false:=beq_eq_false_iff_ne.2 (by omega);clear hK ht hne;go_enter func12,ntmps12;go_upto_region 1 with (fail)
 try rw [al.out]
 generalize w.alloc (.cells XG 28)=w0 at*;have c1:cS w0 gx 1 x.lA L x.lC:=(bg.cell 1).trans g1.out;go_upto_region 3 with (go_at_call 18;(with_reducible refine (ap.out _).mono ?_);rintro _ _ ⟨rfl,rfl⟩)
 have ar:gx<=w0.heap.size:=A11 av f0.size;clear g1 bg ap;go_wp2_with fail
 go_loopw [7,9] (fun s v wr=>∃(i M cq:Nat) (Aq:Option Addr) (ps:List Nat),s=.slice Aq M cq/\v=.int .i64 (i:Int)/\i<=L/\Hid (ps.length=M)/\M<=2*i/\Own wr w0.heap.size 3 1 Aq M cq (ps.map Qv)/\Hid (∀p∈ps,p<L)/\Hid (∀j,j<i->(L-1-j+K)%L∈ps)/\Fr Non w0 wr) (fun s v _=>L-(intOf v).toNat)
 case atStart=>exact ⟨0,0,0,none,[],rfl,rfl,by omega,rfl,by omega,Own.nil _ _ _ _,fun p hp=>absurd hp A04,fun j hj=>absurd hj (Nat.not_lt_zero j),Fr.refl _ _⟩
 case round=>
 obtain ⟨i,M,cq,Aq,ps,rfl,rfl,hi,ak,hM,own,ai,ab,hf⟩:=hrel;have cL:=hf.cell c1 zq
 by_cases hin:i<L
 case neg=>
  obtain rfl:i=L:=by omega
  have t0:decide ((i:Int)<(i:Int))=false:=decide_eq_false (by omega);have a6:decide (i<i)=false:=decide_eq_false (by omega);have hd:=lh (ac.out ps Aq M cq wr ak (own.lower ar) ai (fun p hp=>by obtain ⟨j,h1,h2⟩:=Ay1 (K:=K) hp;rw [<- h2];exact ab.out j h1) (by omega) (f0.trans hf zr));clear ac ab ai own;go_wp2_with fail;exact hd.out
 case pos=>
 have t0:decide ((i:Int)<(L:Int))=true:=decide_eq_true (by omega);have a6:decide (i<L)=true:=decide_eq_true hin;obtain ⟨P,hP⟩:∃P:Nat,Hid ((L-1-i+K)%L=P):=⟨_,rfl⟩;have a4:P<L:=by rw [<- hP.out];exact A10 _ (by omega)
 have e1:=iw ((L:Int)-1);have e2:=iw ((L:Int)-1-(i:Int));have e3:=iw ((L:Int)-1-(i:Int)+(K:Int))
 have e4:((L:Int)-1-(i:Int)+(K:Int)).tmod (L:Int)=(P:Int):=by
  rw [Int.tmod_eq_emod_of_nonneg (by omega),<- hP.out];rw [show (L:Int)-1-(i:Int)+(K:Int)=((L-1-i+K:Nat):Int) by omega];exact (Int.natCast_emod _ _).symm
 have e5:=iw (P:Int);have e6:=iw ((i:Int)+1);have bF:=Blk.new wr 3 #[.int .i64 (P:Int)];have ah:=own.cap;have a7:w0.heap.size<=wr.heap.size:=hf.size
 have ad:Hid ((ps++[P]).length=M+1/\(∀p∈ps++[P],p<L)/\(∀j,j<i+1->(L-1-j+K)%L∈ps++[P])/\(ps++[P]).map Qv=ps.map Qv++[.int .i64 (P:Int)]):=by
  refine ⟨by rw [A05,ak.out];rfl,fun p hp=> ?_,fun j hj=> ?_,by rw [A12];rfl⟩
  ·
   rcases List.mem_append.1 hp with h1|h1
   · exact ai.out p h1
   · rw [List.mem_singleton.1 h1];exact a4
  ·
   rcases Nat.lt_or_ge j i with h1|h1
   · exact A13 _ (ab.out j h1)
   ·
    obtain rfl:j=i:=by omega
    rw [hP.out];exact List.mem_append_right _ (List.mem_singleton.2 rfl)
 clear ai ab ak hP;go_upto_region 7 with (at_builtin;go_loud (refine Ba (base:=w0.heap.size) (.tmp 22) (.tmp 35) 22 rfl rfl rfl rfl Ds (own.alloc (.cells #[.int .i64 (P:Int)] 3)) (Rd.blk (n:=1) (size:=1) bF rfl) (by simp [Value.oneCell']) (by omega) (by omega) (by rw [A15];omega) ?_);intro A8 c8 w8 aa az au)
 have f8:Fr Non w0 w8:=(hf.alloc (.cells #[.int .i64 (P:Int)] 3)).trans az (fun k hk e=>by have:=(own.row k e).1;omega);obtain ⟨g1,g2,g3,g4⟩:=ad.out;rw [<- g4] at aa;replace g1:=lh g1;replace g2:=lh g2;replace g3:=lh g3;clear g4 ad az au bF own hf a7 cL ah;generalize ps++[P]=qs at*;have C0:=f8.cell c1 zq
 by_cases hag:i<m/\i<10
 case neg=>
  have u0:(decide ((i:Int)<(m:Int))=false/\decide (i<m)=false)\/(decide ((i:Int)<(m:Int))=true/\decide ((i:Int)<10)=false/\decide (i<m)=true/\decide (i<10)=false):=by
   by_cases h1:i<m
   · exact .inr ⟨decide_eq_true (by omega),decide_eq_false (by omega),decide_eq_true h1,decide_eq_false (fun h2=>hag ⟨h1,h2⟩)⟩
   · exact .inl ⟨decide_eq_false (by omega),decide_eq_false h1⟩
  rcases u0 with ⟨u0,u0n⟩|⟨u0,u1,u2,u3⟩
  ·
   go_wp2_with fail;go_roundw
   case rel=>exact ⟨i+1,M+1,c8,A8,qs,rfl,by go_num,by omega,g1,by omega,aa,g2,g3,f8⟩
   case measure=>simp [intOf];omega
  ·
   go_wp2_with fail;go_roundw
   case rel=>exact ⟨i+1,M+1,c8,A8,qs,rfl,by go_num,by omega,g1,by omega,aa,g2,g3,f8⟩
   case measure=>simp [intOf];omega
 case pos=>
 have u0:decide ((i:Int)<(m:Int))=true:=decide_eq_true (by omega);have u1:decide ((i:Int)<10)=true:=decide_eq_true (by omega);have u2:decide (i<m)=true:=decide_eq_true hag.1;have u3:decide (i<10)=true:=decide_eq_true hag.2;obtain ⟨q,hq⟩:∃q,ag[i]? =some q:=⟨_,A06 (by rw [hn.out];exact hag.1)⟩;obtain ⟨ba,oa,u,rfl,_,hu,d0⟩:=ax.at hag.1;rw [A03,hq] at hu;injection hu with hu
 subst hu;replace d0:cI w0 ba (oa+i) q:=d0;have D0:=f8.cell d0 zq;obtain ⟨Q,hQ,kQ⟩:=a2.out q w8.drew (hok q (A07 hq));replace kQ:=lh kQ;obtain ⟨i1,i2,i3⟩:=ix i m
 have ah:=aa.cap;go_upto_region 8 with (fail)
 have F0:Fr Non w8 w8.drew:=(Fr.refl Non w8).drew;refine wp_region_held_drew (S:=fun w'=>cS w' gx 1 x.lA L x.lC/\cI w' ba (oa+i) q) (by kernel_rfl) ⟨C0,D0⟩ (fun hHeld=> ?_);clear hHeld;have uu:=aI C0 D0;refine tkH 0 uu (h:=tkH 1 uu (h:=tkH 2 uu (h:=tkH 3 uu (h:=tkH 4 uu (h:=tkH 5 uu (h:=tkH 6 uu (h:=tkH 7 uu (h:=?_))))))));clear uu;simp only [zl];refine oG 8 (fun K hK=> ?_);go_simp;go_wp2_with (go_at_call 18;(with_reducible refine (kQ.out).mono ?_);rintro _ _ ⟨rfl,rfl⟩);refine hK.out _ _ ⟨C0,D0⟩ (fun hZ=> ?_);clear hZ hK K;try simp only [Ae,zl]
 refine oG 9 (fun K hK=> ?_);go_simp;have a0:=(Blk.new w8 3 #[.int .i64 (Q:Int)]).drew;have F1:Fr Non w8 (w8.alloc (.cells #[.int .i64 (Q:Int)] 3)).drew:=((Fr.refl Non w8).alloc _).drew;obtain ⟨nb,aj⟩:=Aa w8.heap.size;rw [aj.out] at a0 ⊢;generalize (w8.alloc (.cells #[.int .i64 (Q:Int)] 3)).drew=v1 at*;obtain ⟨C1,D1⟩:=zk2 F1 C0 D0;refine hK.out _ _ ⟨C1,D1⟩ (fun hZ=> ?_);clear hZ hK K;try simp only [Ae,zl]
 refine oG 10 (fun K hK=> ?_);have aw:Fr Non w0 v1:=f8.trans F1 zr;have a9:=aw.size;refine E1 (base:=w0.heap.size) (.tmp 45) (.tmp 54) 22 rfl rfl rfl Ds (aa.fr F1 zr) (Rd.blk (n:=1) (size:=1) a0 rfl) (by simp [Value.oneCell']) (by omega) (by omega) (by omega) ?_;intro A9 c9 v2 ae ay ao;have f9:Fr Non w0 v2:=aw.trans ay (fun k hk e=>by have:=(aa.row k e).1;omega);obtain ⟨C2,D2⟩:=zk2 f9 c1 d0;refine hK.out _ _ ⟨C2,D2⟩ (fun hZ=> ?_);clear hZ hK K;try simp only [Ae,zl]
 refine tkH 11 ⟨C2,D2⟩ (h:=?_);simp only [zl];refine oD ?_;go_simp;have h1:Hid ((qs++[Q]).length=M+1+1):=by show _=_;rw [A05,g1.out];rfl
 have h2:Hid (∀p∈qs++[Q],p<L):=fun p hp=>by
  rcases List.mem_append.1 hp with h1|h1
  · exact g2.out p h1
  · rw [List.mem_singleton.1 h1];exact hQ
 have h3:Hid (∀j,j<i+1->(L-1-j+K)%L∈qs++[Q]):=fun j hj=>A13 _ (g3.out j hj);have af:Own v2 w0.heap.size 3 1 A9 (M+1+1) c9 ((qs++[Q]).map Qv):=by rw [A12];exact ae
 clear ae aa ay ao g1 g2 g3 kQ;go_wp2_with fail;go_roundw
 case rel=>exact ⟨i+1,M+1+1,c9,A9,qs++[Q],rfl,by go_num,by omega,h1,by omega,af,h2,h3,f9⟩
 case measure=>simp [intOf];omega
end Oq
namespace Oq
theorem Ay3 {cards:List Cd} {l:List Pn} (h:Rows cards l) {has:List Id} (hnd:has.Nodup) (hs:∀x∈has,x∈l.map Pn.id):(Ao l has).length+has.length=l.length:=by
 have hp:(Ao l has++has).Perm (l.map Pn.id):=by
  refine (List.perm_ext_iff_of_nodup ?_ h.nodup).2 (fun x=> ?_)
  ·
   rw [List.nodup_append];exact ⟨Ur h has,hnd,fun a ha b hb e=>(forIds_mem.1 ha).2 (e▸hb)⟩
  ·
   rw [List.mem_append,forIds_mem];refine ⟨fun hx=>hx.elim (fun h=>h.1) (hs x),fun hx=> ?_⟩
   by_cases hh:x∈has
   · exact .inr hh
   · exact .inl ⟨hx,hh⟩
 have:=hp.length_eq;rw [A05,A01] at this;exact this
theorem Ay4 {cards:List Cd} {l m:List Pn} (h:Bq cards l m []) (has:List Id):Ao m has=Ao l has:=by
 unfold Ao;have e:Ak (m.map Pn.id)=Ak (l.map Pn.id):=Ie (Ic _) ((Cf _).trans h.ends);rw [e,Ay0 (fun x hx=>h.lev ((Cf _).mem_iff.1 hx))]
end Oq
namespace Oq
attribute [local go_sem] Bool.not_false Bool.not_true
attribute [local go_sem ↓] Gk Iz Bo
theorem Ay5 {cards:List Cd} {l:List Pn} {r:Ad} {ps:List Nat} (h:Rows cards l) (hl:l.length<=14) (hst:r.st=Bj cards l ps ([],[])) (hps:∀p∈ps,p<l.length) (hall:∀p,p<l.length->p∈ps):Bq cards l r.g.pns []:=by
 obtain ⟨_,h2⟩:=Ax9 h (by omega) hps hall;rw [<- hst] at h2;exact h2
theorem U2 {cards:List Cd} {l m:List Pn} (h:Bq cards l m []):Ak (m.map Pn.id)=Ak (l.map Pn.id):=Ie (Ic _) ((Cf _).trans h.ends)
def U3 (m:List Pn) (N:Nat) (w:World) (e:Ending) (w':World):Prop:=∃(A:Option Addr) (c:Nat),e=.returned (.slice A N c)/\Own w' w.heap.size 48 3 A N c ((Ak (m.map Pn.id)).flatMap Id.cells)/\Fr Non w w'
theorem Ay6 (base:Nat) (q:Ad) (m:List Pn) (N rb:Nat) (w:World) (h:q.okAt w base) (hb:q.rb=rb) (hs:q.g.pns=m) (hN:m.length=N):Calls zp 15 #[.pointer (some ⟨rb,0,none⟩)] w (U3 m N w):=by
 subst hb hs hN;have hk:=Oe base q w h;unfold Eo at hk;rw [Fc,A01] at hk;exact hk
theorem Ay7 (base:Nat) (q:Ad) (m:List Pn) (rb:Nat) (w:World) (h:q.okAt w base) (hb:q.rb=rb) (hs:q.st=(m,[])):Calls zp 13 #[.pointer (some ⟨rb,0,none⟩)] w (fun e w'=>e=.returned (.int .i64 0)/\Fr Non w w'):=by
 subst hb;have hk:=Od base q w h
 have e:q.ws.length=0:=by
  have h1:q.ws.map OpL.op=[]:=congrArg Prod.snd hs;have h2:=congrArg List.length h1;rw [A01] at h2;exact h2
 rw [e] at hk;exact hk
def U4 (l:List Pn) (has:List Id) (w:World) (e:Ending) (w':World):Prop:=
 ∃(sl:List BsL) (A:Option Addr) (NF c:Nat),e=.returned (.slice A NF c)/\Hid (sl.length=NF)/\Hid ((Ao l has).length=NF)/\Own w' w.heap.size 39 1 A NF c (sl.map BsL.cell)/\Hid (BsOwn w' w.heap.size sl)/\Hid (∀(k:Nat) (x:Id),(Ao l has)[k]? =some x->∃(s:BsL) (n:Pn),sl[k]? =some s/\l[Be l x]? =some n/\s.bs=n.o.put/\n.o.ok)/\Fr Non w w'
theorem Ay8 (base B n c:Nat) (A:Option Addr) (q:Ad) (l:List Pn) (rb:Nat) (has:List Id) (w:World) (h:q.okAt w base) (hb:q.rb=rb) (hR:Bq q.g.cards l q.g.pns []) (h14:l.length<=14) (hn:Hid (has.length=n)) (hr:Rd w B 3 A n (has.flatMap Id.cells)) (hnm:n<=1000000):
  Calls zp 37 #[.pointer (some ⟨rb,0,none⟩),.slice A n c] w (U4 l has w):=by
 subst hb
 have hlen:q.g.pns.length<=14:=by
  have e:=hR.perm.length_eq;rw [A08,A01,A01] at e;omega
 have e0:=Ay4 hR has;refine (U1 base B n c A q has w h hR.rm hlen hn hr hnm).mono ?_;rintro e w' ⟨sl,A1,n1,c1,rfl,h1,h2,h3,h4,h5⟩;have h4':=h4.out;rw [e0] at h4'
 have hl2:(Ao l has).length=n1:=by
  have e:=congrArg List.length h4';rw [A01,A01,h1.out] at e;exact e.symm
 refine ⟨sl,A1,n1,c1,rfl,h1,hl2,h2,h3,fun k x hx=> ?_,h5⟩
 obtain ⟨p,n2,g1,g2,_,g4⟩:=Le hR.rl hR.rm hR.among (x:=x) (by
  have hm:=A07 hx;rw [<- e0] at hm;exact (forIds_mem.1 hm).1)
 have hk:k<sl.length:=by rw [h1.out,<- hl2];exact (List.getElem?_eq_some_iff.1 hx).1
 refine ⟨sl[k],n2,A06 hk,?_,?_,?_⟩
 ·
  have e:Be l x=p:=by unfold Be;rw [g1];rfl
  rw [e];exact g2
 ·
  have e:(sl.map BsL.bs)[k]? =((Ao l has).map (fun x=>(Co q.g.pns x).put))[k]? :=by rw [h4']
  rw [A03,A03,hx,A06 hk] at e;have e2:=Option.some.inj e;rw [e2];show (Co q.g.pns x).put=_;rw [g4]
 ·
  have hm:n2.o∈q.g.pns.map Pn.o:=by
   have:=hR.perm.mem_iff.2 (A09 (f:=Pn.o) (A07 g2));rwa [A08] at this
  obtain ⟨n3,hn3,e3⟩:=List.mem_map.1 hm;rw [<- e3];exact Om h.graph n3 hn3
theorem Ay9 {cards:List Cd} {l m:List Pn} {C:List Op} {has:List Id} (hl:Rows cards l) (hlen:l.length<200) (hI:Av cards l C m []) (hhas:∀x,x∈has<->x∈m.map Pn.id) {k:Nat} (hk:k<(Ao l has).length):
  ∃(x:Id) (mk mk':List Pn),(Ao l has)[k]? =some x/\Bj cards l (((Ao l has).map (Be l)).take k) (m,[])=(mk,[])/\Bj cards l (((Ao l has).map (Be l)).take (k+1)) (m,[])=(mk',[])/\mk'.length=m.length+k+1/\∀n,l[Be l x]? =some n->Bl cards (mk,[]) n.o=(0,(mk',[])):=by
 obtain ⟨h1,h2⟩:=Lf hl hlen hl (fun n hn=>⟨n,hn,rfl⟩) hI hhas;obtain ⟨x,hx⟩:∃x,(Ao l has)[k]? =some x:=⟨_,A06 hk⟩;obtain ⟨mk,Ck,_,_,_,g4,g5⟩:=h2 k (by omega);obtain ⟨mk',Ck',_,g2',_,g4',_⟩:=h2 (k+1) (by omega);refine ⟨x,mk,mk',hx,g4,g4',by omega,fun n hn=> ?_⟩;obtain ⟨n2,q1,q2,q3⟩:=h1 k x hx;rw [hn] at q1;obtain rfl:=Option.some.inj q1;have g6:=g5 x hx;have hs:((Ao l has).map (Be l)).take (k+1)=((Ao l has).map (Be l)).take k++[Be l x]:=Dm (by rw [A03,hx];rfl);rw [hs,Iu,hn,g4] at g4';dsimp only at g4';rw [q3] at g6;rw [g6] at g4' ⊢;rw [<- g4']
theorem Az0 {s:BsL} {u:Value} (h:Option.map BsL.cell (some s)=some u):Value.slice s.A s.bs.length s.c=u:=Option.some.inj h
theorem Az1 {l:List Pn} {has:List Id} (hs:∀x∈l.map Pn.id,x∈has):Ao l has=[]:=by
 rw [List.eq_nil_iff_forall_not_mem];intro x hx;have:=forIds_mem.1 hx;exact this.2 (hs x this.1)
theorem Az2 {cards:List Cd} {l m mk:List Pn} {C Ck:List Op} {has:List Id} (hI:Av cards l C m []) (hk:Av cards l Ck mk []) (hC:∀o,o∈Ck<->o∈C\/∃(j:Nat) (x:Id),j<(Ao l has).length/\(Ao l has)[j]? =some x/\o=Co l x) (hhas:∀x,x∈has<->x∈m.map Pn.id):Bq cards l mk []:=by
 refine (hk.all (fun o ho=>absurd ho A04) (fun n hn=> ?_)).2;rw [hC];obtain ⟨i,hi⟩:=A02 hn
 by_cases hh:n.id∈has
 ·
  refine .inl ?_;obtain ⟨n',hn',e⟩:=List.mem_map.1 ((hhas _).1 hh);obtain ⟨j,hj⟩:=A02 hn';obtain ⟨n2,k1,k2⟩:=hI.among n' hn';obtain ⟨q,hq⟩:=A02 k1;have q1:=(hI.rl.ok q n2 hq).plc;rw [(hI.rl.ok q n2 hq).id,k2,<- (hI.rm.ok j n' hj).id,e,(hI.rl.ok i n hi).plc] at q1;injection q1 with q1
  rw [<- q1,hi] at hq;injection hq with hq
  rw [hq,k2];exact hI.perm.mem_iff.1 (A13 _ (A09 hn'))
 ·
  refine .inr ?_;have hm:n.id∈Ao l has:=forIds_mem.2 ⟨A09 hn,hh⟩;obtain ⟨j,hj⟩:=A02 hm;exact ⟨j,n.id,(List.getElem?_eq_some_iff.1 hj).1,hj,(Hx (hI.rl.ok i n hi).plc hi).symm⟩
theorem Az3 {cards:List Cd} {l m:List Pn} {C:List Op} {has:List Id} (hl:Rows cards l) (hlen:l.length<200) (hI:Av cards l C m []) (hhas:∀x,x∈has<->x∈m.map Pn.id):
  ∃mk,Bj cards l (((Ao l has).map (Be l)).take (Ao l has).length) (m,[])=(mk,[])/\Bq cards l mk []:=by
 obtain ⟨_,h2⟩:=Lf hl hlen hl (fun n hn=>⟨n,hn,rfl⟩) hI hhas;obtain ⟨mk,Ck,g1,_,g3,g4,_⟩:=h2 _ (Nat.le_refl _);refine ⟨mk,g4,Az2 hI g1 (fun o=> ?_) hhas⟩;rw [g3]
theorem relayForward_law (A:Option Addr) (c:Nat) (l0:List Int) (A':Option Addr) (c':Nat) (l1:List Int) (w:World) (hk:KindsAt w) (hr:Rd w w.heap.size 1 A l0.length (l0.map Iv)) (hnc:l0.length<=c) (hnm:c<=9223372036854775807) (hok:∀x∈l0,I64 x) (hr':Rd w w.heap.size 1 A' l1.length (l1.map Iv)) (hnc':l1.length<=c') (hnm':c'<=9223372036854775807) (hok':∀x∈l1,I64 x):
  Calls zp 7 #[.slice A l0.length c,.slice A' l1.length c'] w (Ag true w):=by
 have cr:0<w.heap.size:=World.block_lt_of_cell? w _ (hk 0 (by decide));have km:=lh (Oh w.heap.size l0.length c A l0 w rfl hr (by omega) hok);unfold Hv at km;have cg:=fun (w':World) (hf:Fr Non w w')=>Up w' (hk.fr hf);unfold Ag at cg;replace cg:=lh cg;have dj:Hid (∀wz,Fr Non w wz->Ag true w (.returned (.bool true)) wz):=fun wz h=>⟨rfl,h⟩;have d7:=lh (fun (w':World) (hf:Fr Non w w')=>hk.fr hf);generalize Ag true w=POST at*;have cj:=lh (fun (b:Nat) (r:FG) (v:World) (hf:Fr Non w v) (h:r.own v b) (hne:r.l≠[])=>Oi b w.heap.size l1.length c' A' l1 r v h hne rfl (hr'.fr hf zr) (by omega) hok');unfold I9 at cj;have ad:=lh (fun (r:FG) (v:World) (hv:Fr Non w v) (h:r.own v w.heap.size) (hne:r.l≠[])=>Ay2 w.heap.size w.heap.size 0 0 r none 0 [] v h hne ⟨by decide,by decide⟩ rfl (Rd.nil v _ _ _) (fun x hx=>absurd hx A04));unfold Lg at ad;obtain ⟨n1,fa⟩:=Aa l1.length;rw [fa.out] at cj ⊢;obtain ⟨n0,ey⟩:=Aa l0.length;rw [ey.out] at km ⊢;clear hk hr hnc hnm hok hr' hok' hnc' hnm';go_enter func7,ntmps7;go_upto_region 2 with (go_at_call 10;(with_reducible refine (km.out).mono ?_);rintro _ w1 ⟨r,rfl,f1,ro,fg,fe⟩;(have bn:=Blk.new w1 28 #[.slice none 0 0,.slice none 0 0,.slice none 0 0,.slice none 0 0]);(have el:=Cy (P:=zp) w1.heap.size 28 (cs:=r.cells) Dd (old:=#[.slice none 0 0,.slice none 0 0,.slice none 0 0,.slice none 0 0]) rfl (Gx r)))
 have bg:Blk ((w1.alloc (.cells #[.slice none 0 0,.slice none 0 0,.slice none 0 0,.slice none 0 0] 28)).setRow w1.heap.size r.cells) w1.heap.size 28 r.cells:=bn.setRow;have fG:Fr Non w1 ((w1.alloc (.cells #[.slice none 0 0,.slice none 0 0,.slice none 0 0,.slice none 0 0] 28)).setRow w1.heap.size r.cells):=((Fr.refl Non w1).alloc _).setRow (fun hh=>absurd hh (by omega)) _;have f2:=f1.trans fG zr;have a5:=ro.non fG;obtain ⟨gv,fi⟩:=Aa w1.heap.size;rw [fi.out] at bg f2 a5 ⊢;clear el bn fG ro f1 km;generalize (w1.alloc (.cells #[.slice none 0 0,.slice none 0 0,.slice none 0 0,.slice none 0 0] 28)).setRow gv r.cells=w2 at*;have hl:=Ci (P:=zp) gv 28 underlying28 rfl (cs:=r.cells) Dd;have ce:r.l≠[]:=by rw [fe];exact La _ _
 have aa:=a5.rows;have ap:r.l.length<=14:=a5.num.few;have eu:0<r.l.length:=List.length_pos_iff.2 ce;have bz:0<w2.heap.size:=A16 cr f2.size;have b7:=lh (fun (B np cp:Nat) (Ap:Option Addr) (ps:List Nat) (v:World) (hv:Fr Non w2 v) (hpn:Hid (ps.length=np)) (hrp:Rd v B 1 Ap np (ps.map Qv)) (hlt:Hid (∀p∈ps,p<r.l.length)) (hnp:np<=1000000)=>Uo w.heap.size B np cp r Ap ps v (a5.non hv) fg hpn hrp hlt.out hnp (d7.out v (f2.trans hv zr)) (A16 bz hv.size));unfold I8 at b7;have V0:=bg;have F0:Fr Non w2 w2.drew:=(Fr.refl Non w2).drew;have G0:Fr Non w w2.drew:=f2.drew;refine wp_region_held_drew (S:=fun w'=>Blk w' gv 28 r.cells) (by kernel_rfl) V0 (fun hHeld=> ?_);clear hHeld;refine tkH 0 V0 (h:=tkH 1 V0 (h:=?_));simp only [zl];refine oG 2 (fun K hK=> ?_);go_simp;go_wp2_with (go_at_call 12;(with_reducible refine (ad.out r _ G0 (a5.non F0) ce).mono ?_);rintro _ v1 ⟨ps,A4,n4,c4,rfl,ds,o4,a4,av,e1,ej⟩;have F1:=F0.trans ej zr;have V1:=V0.fr F1 zq;have G1:=f2.trans F1 zr);refine hK.out _ _ V1 (fun hZ=> ?_);clear hZ hK K;try simp only [Ae,zl]
 refine oG 3 (fun K hK=> ?_);go_simp;go_wp2_with (go_at_call 11;(with_reducible refine (b7.out _ n4 c4 A4 ps _ F1 ds o4.rd a4 (by omega)).mono ?_);rintro _ v2 ⟨ra,ba,rfl,et,d5,d0,dy,dv⟩;have F2:=F1.trans dv zr;have V2:=V0.fr F2 zq;have G2:=f2.trans F2 zr);refine hK.out _ _ V2 (fun hZ=> ?_);clear hZ hK K;try simp only [Ae,zl]
 refine tkH 4 V2 (h:=?_);simp only [zl];refine oD ?_;go_simp;generalize v2=w3 at*;have f3:=F2;have d4:=G2;have b8:=lh (Ay5 aa ap d0.out a4.out av.out);have c3:=V2;clear V0 V1 V2 F0 F1 F2 G0 G1 G2 ej dv o4 a4 av ds d0 ad e1;obtain ⟨ab,b9⟩:=Aa ra.rb;try rw [b9.out]
 have cw:=a5.non f3;go_upto_region 4 with (go_at_call 36;(with_reducible refine (cj.out _ r _ d4 cw ce).mono ?_);rintro _ w4 ⟨on,ys,ns,A4,c4,rfl,dw,d6,e2,b0,o4,f4⟩)
 try rw [b9.out]
 have b4:=f3.trans f4 zr;have ek:=f2.trans b4 zr;have bq:Hid (ra.okAt w4 ba):=d5.out.non f4;obtain ⟨C,m,a3,hI,de,cy,ay⟩:=Oo aa (by omega) dw d6 b0
 have b1:ns.length<=14:=by
  rw [<- cy];exact A11 (Av.few hI).1 ap
 obtain ⟨NS,dm⟩:=Aa ns.length;rw [dm.out] at o4 cy b1 ⊢;obtain ⟨L,hL⟩:=Aa r.l.length;have c2:w4.cell? ⟨gv,2,none⟩=some (.slice r.iA L r.iC):=by have h9:=(c3.fr f4 zq).cell 2;rw [show r.cells[2]? =some (.slice r.iA r.l.length r.iC) from rfl,hL.out] at h9;exact h9
 have c1:w4.cell? ⟨gv,1,none⟩=some (.slice r.lA L r.lC):=by have h9:=(c3.fr f4 zq).cell 1;rw [show r.cells[1]? =some (.slice r.lA r.l.length r.lC) from rfl,hL.out] at h9;exact h9
 have kh:=lh (fun (id:Id) (w':World) (h:Fr Non w4 w')=>Jt w4.heap.size NS c4 A4 ns id w' dm (o4.rd.fr h zr) (by omega));unfold Ag at kh;rw [hL.out] at ap eu;have eg:=ek.size;have eh:=cw.non f4;clear d5 c3 cj dw d6 e2 b0 et f3 f4 d4 cw;go_wp2_with fail
 go_loopw [8,9] (fun s v wr=>∃(i M cq:Nat) (Aq:Option Addr),s=.slice Aq M cq/\v=.int .i64 (i:Int)/\i<=L/\M<=i/\Hid ((As r.l ns i).length=M)/\Own wr w4.heap.size 3 1 Aq M cq ((As r.l ns i).map Qv)/\Fr Non w4 wr) (fun s v _=>L-(intOf v).toNat)
 case atStart=>exact ⟨0,0,0,none,rfl,rfl,by omega,by omega,rfl,Own.nil _ _ _ _,Fr.refl _ _⟩
 case round=>
 obtain ⟨i,M,cq,Aq,rfl,rfl,hi,hM,ci,own,hf⟩:=hrel;have d2:=hf.cell c2 zq
 by_cases hin:i<L
 case pos=>
  have t0:decide ((i:Int)<(L:Int))=true:=decide_eq_true (by omega);have e3:decide (i<L)=true:=decide_eq_true hin;obtain ⟨n2,ib,io,d3,ed,j0,j1,j2⟩:=eh.idAt (i:=i) (by rw [hL.out];exact hin);obtain ⟨k0,k1,k2⟩:=zk3 hf j0 j1 j2;rw [ed] at d2;obtain ⟨q1,q2,q3⟩:=ix i L
  have e6:=iw ((i:Int)+1);have b6:=lh (kh.out n2.id wr hf);have a8:=lh (On r.l ns i);rw [Cv d3] at a8;have fb:=own.cap;have bF:=fun (wv:World)=>Blk.new wv 3 #[.int .i64 (i:Int)];have er:=hf.size;obtain ⟨HB,fc⟩:=Aa (Bd ns n2.id);rw [fc.out] at b6 a8;clear d3 ed j0 j1 j2
  cases HB
  case false=>
   have ae:Hid (As r.l ns (i+1)=As r.l ns i):=by show _=_;rw [a8.out];simp
   clear a8;go_wp2_with (go_at_call 29;(with_reducible refine (b6.out).mono ?_);rintro _ w5 ⟨rfl,f5⟩);have au:=hf.trans f5 zr;have ag:=own.fr f5 zr;go_roundw
   case rel=>exact ⟨i+1,M,cq,Aq,rfl,by go_num,by omega,by omega,by rw [ae.out];exact ci,by rw [ae.out];exact ag,au⟩
   case measure=>simp [intOf];omega
  case true=>
   have ae:Hid (As r.l ns (i+1)=As r.l ns i++[i]):=by show _=_;rw [a8.out];simp
   clear a8
   go_wp2_with (first
    |(go_at_call 29;(with_reducible refine (b6.out).mono ?_);rintro _ w5 ⟨rfl,f5⟩;have ag:=own.fr f5 zr;have au:=hf.trans f5 zr;have fj:=au.size)
    |(at_builtin;go_loud (refine Ba (base:=w4.heap.size) (.tmp 36) (.tmp 38) 22 rfl rfl rfl rfl Ds (ag.alloc (.cells #[.int .i64 (i:Int)] 3)) (Rd.blk (n:=1) (size:=1) (bF w5) rfl) (by simp [Value.oneCell']) (by omega) (by omega) (by rw [A15];omega) ?_);intro A8 c8 w8 bt ei ct))
   have dn:Fr Non w4 w8:=(au.alloc (.cells #[.int .i64 (i:Int)] 3)).trans ei (fun k hk e=>by have:=(ag.row k e).1;omega);have c9:Own w8 w4.heap.size 3 1 A8 (M+1) c8 ((As r.l ns (i+1)).map Qv):=by rw [ae.out,A12];exact bt
   have dk:Hid ((As r.l ns (i+1)).length=M+1):=by show _=_;rw [ae.out,A05,ci.out];rfl
   clear bt ag own ei ct ae b6;go_roundw
   case rel=>exact ⟨i+1,M+1,c8,A8,rfl,by go_num,by omega,by omega,dk,c9,dn⟩
   case measure=>simp [intOf];omega
 case neg=>
 obtain rfl:i=L:=by omega
 have t0:decide ((i:Int)<(i:Int))=false:=decide_eq_false (by omega);have e3:decide (i<i)=false:=decide_eq_false (by omega);rw [hL.out] at ay a3;have kt:=lh (b7.out wr.heap.size M cq Aq (As r.l ns i) wr (b4.trans hf zr) ci own.rd (fun p hp=>by rw [hL.out];exact ay p hp) (by omega));have bv:=bg.fr (b4.trans hf zr) zq;clear b7 kh;go_upto_region 11 with (go_at_call 11;(with_reducible refine (kt.out).mono ?_);rintro _ w5 ⟨ai,bb,rfl,dq,cl,a6,dt,f5⟩)
 generalize wr=wq at*;have au:=hf.trans f5 zr;have fd:=(b4.trans au zr);have be:Hid (ra.okAt wq ba):=bq.out.non hf;have aj:Hid (ai.st=(m,[])):=a6.out.trans a3;have a9:Hid (ai.g.cards=r.cards):=dt.out;have dh:Hid (Bq ra.g.cards r.l ra.g.pns []):=by show Bq _ _ _ _;rw [dy.out];exact b8.out
 obtain ⟨af,bl⟩:=Aa ai.rb;have dc:Hid (ai.rb=af):=bl.out;rw [bl.out];have ax:Hid (∀x,x∈Ak (m.map Pn.id)<->x∈m.map Pn.id):=fun x=>(Cf _).mem_iff;have aq:m.length=NS:=cy;have dp:Hid ((Ak (m.map Pn.id)).length=NS):=by show _=_;rw [Fc,A01];exact aq
 have cz:=lh (fun (k:Nat) (hk:k<(Ao r.l (Ak (m.map Pn.id))).length)=>Ay9 aa (by rw [hL.out];omega) hI ax.out hk);have da:=lh (Az3 aa (by rw [hL.out];omega) hI ax.out)
 have cu:Hid ((Ao r.l (Ak (m.map Pn.id))).length+NS=i):=by
  show _=_
  have h9:=Ay3 aa (has:=Ak (m.map Pn.id)) ((Cf _).nodup_iff.2 hI.rm.nodup) (fun x hx=>by
   obtain ⟨n',du,e⟩:=List.mem_map.1 ((ax.out x).1 hx);obtain ⟨n2,k1,k2⟩:=hI.among n' du;obtain ⟨j,hj⟩:=A02 du;obtain ⟨q,hq⟩:=A02 k1;rw [<- e,(hI.rm.ok j n' hj).id,<- k2,<- (aa.ok q n2 hq).id];exact A09 k1)
  rw [dp.out,hL.out] at h9;exact h9
 have a0:=lh (fun (b:Nat) (q:Ad) (mk:List Pn) (N rb:Nat) (v:World) (h:q.okAt v b) (h1:q.rb=rb) (h2:q.g.pns=mk) (h3:mk.length=N)=>Ay6 b q mk N rb v h h1 h2 h3);unfold U3 at a0;have dz:=lh (fun (q:Ad) (mk:List Pn) (v:World) (h:q.okAt v bb) (h1:q.rb=af) (h2:q.st=(mk,[]))=>Ay7 bb q mk af v h h1 h2);have cm:=lh (fun (N B c:Nat) (A:Option Addr) (has:List Id) (v:World) (hv:Fr Non wq v) (hn:Hid (has.length=N)) (hr:Rd v B 3 A N (has.flatMap Id.cells)) (hN:N<=1000000)=>Ay8 ba B N c A ra r.l ab has v (be.out.non hv) b9.out dh.out (by rw [hL.out];exact ap) hn hr hN);unfold U4 at cm;have b2:=lh (fun (has:List Id) (h:∀x∈r.l.map Pn.id,x∈has)=>Az1 h);have b3:Hid (Ak (ra.g.pns.map Pn.id)=Ak (r.l.map Pn.id)):=U2 b8.out
 have bw:Hid (ra.g.pns.length=i):=by
  show _=_;have e:=b8.out.perm.length_eq;rw [A08,A01,A01,hL.out] at e;exact e
 have bo:=lh (fun (mk:List Pn) (h:Bq r.cards r.l mk [])=>U2 h)
 have bk:=lh (fun (mk:List Pn) (h:Bq r.cards r.l mk [])=>by
  have e:=h.perm.length_eq;rw [A08,A01,A01,hL.out] at e;exact e)
 have br:=lh (fun (n:Pn) (p:Nat) (h:r.l[p]? =some n)=>I7 aa h);obtain ⟨F,hF⟩:=Aa (Ao r.l (Ak (m.map Pn.id)));rw [hF.out] at cz da cu;have c5:=(au).cell c1 zq;have ff:Hid (w4.heap.size<=bb):=A11 hf.size dq;have fm:((NS:Int) !=(NS:Int))=false:=by simp
 have k1:=lh (a0.out bb ai m NS af w5 cl.out bl.out (congrArg Prod.fst aj.out) aq);have k2:=lh (fun (v:World) (h:Fr Non w5 v)=>a0.out bb ai m NS af v (cl.out.non h) bl.out (congrArg Prod.fst aj.out) aq);clear bq b8 dy a6 dt bl own ci o4 bg bv hI de a3 ay eh aa ce;go_upto_region 13 with (go_at_call 15;(with_reducible refine (k1.out).mono ?_);rintro _ w6 ⟨A6,c6,rfl,_,f6⟩)
 go_upto_region 14 with (first
  |(go_at_call 15;(with_reducible refine (k2.out _ f6).mono ?_);rintro _ w7 ⟨A7,c7,rfl,o7,f7⟩)
  |(go_at_call 37;(with_reducible refine (cm.out _ _ _ _ _ _ ((f5.trans f6 zr).trans f7 zr) dp o7.rd (by omega)).mono ?_);rintro _ w8 ⟨sl,Af,NF,cf,rfl,e0,a7,oF,ec,aw,f8⟩))
 rw [hF.out] at a7 aw;have dl:NF<=14:=by have h9:=cu.out;rw [a7.out] at h9;omega
 have ca:=(f6.trans f7 zr).trans f8 zr;have fn:=fd.trans ca zr;have dn:=au.trans ca zr;have eo:=f5.trans ca zr;have bf:Hid (ai.okAt w8 bb):=cl.out.non ca;have bd:Hid (ai.rb=af):=dc.out;have bj:Hid (ai.st=Bj r.cards r.l ((F.map (Be r.l)).take 0) (m,[])):=by show _=_;rw [aj.out];rfl
 clear k1 k2 o7 f6 f7 f8 f5 cl aj;go_wp2_with fail
 go_loopw [12] (fun v wr=>∃(k:Nat) (r1:Ad),v=.int .i64 (k:Int)/\k<=NF/\Hid (r1.okAt wr bb)/\Hid (r1.rb=af)/\Hid (r1.g.cards=r.cards)/\Hid (r1.st=Bj r.cards r.l ((F.map (Be r.l)).take k) (m,[]))/\Own wr w7.heap.size 39 1 Af NF cf (sl.map BsL.cell)/\Hid (BsOwn wr w7.heap.size sl)/\Fr Non wq wr) (fun v _=>NF-(intOf v).toNat)
 case atStart=>exact ⟨0,ai,rfl,Nat.zero_le _,bf,bd,a9,bj,oF,ec,eo⟩
 case round=>
 clear bf bd a9 bj oF ec;obtain ⟨k,r1,rfl,hk,a2,ah,ak,al,b5,cd,bx⟩:=hrel;have ev:=hf.trans bx zr;have bi:=f2.trans (b4.trans ev zr) zr
 by_cases hin:k<NF
 case pos=>
  have t1:decide ((k:Int)<(NF:Int))=true:=decide_eq_true (by omega);have es:decide (k<NF)=true:=decide_eq_true hin;obtain ⟨x,mk,bm,hx,g1,g2,g3,g4⟩:=cz.out k (by rw [a7.out];exact hin);obtain ⟨s,n,hs,hn,a6,bh⟩:=aw.out k x hx;obtain ⟨bp,op,u,ez,_,hu,ck⟩:=b5.rd.at hin;subst ez;rw [A03,hs] at hu;rw [<- Az0 hu] at ck;have a1:=cd.out s (A07 hs);obtain ⟨m6,db⟩:=Aa s.bs.length;rw [db.out] at ck a1;replace ck:cS wr bp (op+k) s.A m6 s.c:=ck;have di:Hid (n.o.put.length=m6):=by show _=_;rw [<- a6];exact db.out
  have fo:m6<=500000:=by have h9:=br.out n _ hn;rw [di.out] at h9;exact h9
  have dg:=a1.1.rd;rw [a6] at dg;obtain ⟨i1,i2,i3⟩:=ix k NF
  have e6:=iw ((k:Int)+1);have e7:=iw ((NS:Int)+(k:Int));have e8:=iw ((NS:Int)+(k:Int)+1);have dr:=g4 n hn;have kt:=lh (Hu bb wr.heap.size m6 s.c s.A r1 n.o wr a2.out (d7.out wr bi) di dg (by omega) bh);unfold TakeRPost at kt;rw [ah.out,ak.out,al.out,g1,dr] at kt;dsimp only at kt;have ew:bm.length=NS+k+1:=by rw [g3,aq]
  have d8:=lh g2;clear g1 g2 g3 g4 dr al hu hs hn a6 db di a1 dg bh hx;have z0:((0:Int) !=0)=false:=by decide
  have z1:(((NS+k+1:Nat):Int) !=(NS:Int)+(k:Int)+1)=false:=by simp
  have ad:=lh (fun (q:Ad) (v:World) (h:q.okAt v bb) (h1:q.rb=af) (h2:q.st=(bm,[]))=>a0.out bb q bm (NS+k+1) af v h h1 (congrArg Prod.fst h2) ew);have bu:=lh (fun (q:Ad) (v:World) (h:q.okAt v bb) (h1:q.rb=af) (h2:q.st=(bm,[]))=>dz.out q bm v h h1 h2)
  go_wp2_with (first
   |(go_at_call 22;(with_reducible refine (kt.out).mono ?_);rintro _ w9 ⟨rfl,r2,ao,ac⟩;have cx:=ao.out.rb.trans ah.out)
   |(go_at_call 13;(with_reducible refine (bu.out r2 _ ao.out.ok cx ac.out).mono ?_);rintro _ wA ⟨rfl,fA⟩)
   |(go_at_call 15;(with_reducible refine (ad.out r2 _ (ao.out.ok.non fA) cx ac.out).mono ?_);rintro _ wB ⟨AB,cB,rfl,_,fB⟩))
  have cb:=fA.trans fB zr;have en:Fr Non wq w9:=a2.out.below ao.out.fr bx dq;have ep:=en.trans cb zr;have e5:=(b5.keepT ao.out.fr a2.out.types (by unfold Rty Gty;decide)).fr cb zr;have em:Hid (BsOwn wB w7.heap.size sl):=(cd.out.keepT ao.out.fr a2.out.types (by unfold Rty Gty;decide)).non cb;have dd:Hid (r2.okAt wB bb):=ao.out.ok.non cb;have co:Hid (r2.rb=af):=cx;have cn:Hid (r2.g.cards=r.cards):=ao.out.cards.trans ak.out;have c0:Hid (r2.st=Bj r.cards r.l ((F.map (Be r.l)).take (k+1)) (m,[])):=ac.out.trans d8.out.symm;clear kt ad bu ao ac a2 ah ak b5 cd d8;go_roundw
  case rel=>exact ⟨k+1,r2,by go_num,by omega,dd,co,cn,c0,e5,em,ep⟩
  case measure=>simp [intOf];omega
 case neg=>
 obtain rfl:k=NF:=by omega
 have t1:decide ((k:Int)<(k:Int))=false:=decide_eq_false (by omega);have es:decide (k<k)=false:=decide_eq_false (by omega);obtain ⟨mk,q1,d9⟩:=da.out;rw [a7.out] at q1;have ac:Hid (r1.st=(mk,[])):=al.out.trans q1;have bc:=lh (bo.out mk d9);have cv:=bk.out mk d9;have df:=lh (fun (v:World) (h:Fr Non wr v)=>a0.out ba ra ra.g.pns i ab v (be.out.non (bx.trans h zr)) b9.out rfl bw.out);have cc:=lh (fun (v:World) (h:Fr Non wr v)=>a0.out bb r1 mk i af v (a2.out.non h) ah.out (congrArg Prod.fst ac.out) cv);rw [b3.out] at df;rw [bc.out] at cc;have ar:Hid (Ao r.l (Ak (r.l.map Pn.id))=[]):=b2.out _ (fun x hx=>(Cf _).mem_iff.2 hx);have ch:Hid ((Ak (r.l.map Pn.id)).length=i):=by show _=_;rw [Fc,A01];exact hL.out
 have az:=lh (fun (A:Option Addr) (B c:Nat) (v:World) (h:Fr Non wr v) (hr:Rd v B 3 A i ((Ak (r.l.map Pn.id)).flatMap Id.cells))=>cm.out i B c A _ v (bx.trans h zr) ch hr (by omega));rw [ar.out] at az;obtain ⟨IS,ee⟩:=Aa (Ak (r.l.map Pn.id));rw [ee.out] at df cc az ch;have dx:Hid (∀(B:Nat) (A5 A6:Option Addr) (c5 c6:Nat) (w':World),Rd w' B 3 A5 i (IS.flatMap Id.cells)->Rd w' w'.heap.size 3 A6 i (IS.flatMap Id.cells)->Calls zp 14 #[.slice A5 i c5,.slice A6 i c6] w' (Ag true w')):=fun B A5 A6 c5 c6 w' h1 h2=>Te B i c5 w'.heap.size i c6 A5 A6 IS IS w' ch ch h1 h2 (by omega) true (by simp);unfold Ag at dx;have d1:=bx.cell (hf.cell c1 zq) zq;have fl:k+NS=i:=by rw [<- a7.out];exact cu.out
 have e9:IntKind.i64.wrap ((i:Int)-(NS:Int))=(k:Int):=by rw [IntWalk.i64_in _ (by omega)];omega
 have y0:((k:Int)==(k:Int))=true:=by simp
 have y1:((0:Int)==0)=true:=by decide
 clear a0 dz cm b2 b3 bw bo bk br cz da a2 ah ak al ac b5 cd ar a7 aw e0 ee bc
 go_wp2_with (first
  |(go_at_call 15;(with_reducible refine (df.out _ (Fr.refl _ _)).mono ?_);rintro _ v1 ⟨AA,cA,rfl,oA,g1⟩)
  |(go_at_call 15;(with_reducible refine (cc.out _ g1).mono ?_);rintro _ v2 ⟨AB,cB,rfl,oB,g2⟩;have e4:=g1.trans g2 zr;have rA:=oA.rd.fr g2 zr)
  |(go_at_call 14;(with_reducible refine (dx.out _ _ _ _ _ _ rA oB.rd).mono ?_);rintro _ v3 ⟨rfl,g3⟩;have ea:=e4.trans g3 zr)
  |(go_at_call 15;(with_reducible refine (cc.out _ ea).mono ?_);rintro _ v4 ⟨AC,cC,rfl,oC,g4⟩;have eb:=ea.trans g4 zr)
  |(go_at_call 37;(with_reducible refine (az.out _ _ _ _ eb oC.rd).mono ?_);rintro _ v5 ⟨fk,A5,N5,fp,rfl,_,fh,_,_,_,g5⟩;obtain rfl:0=N5:=fh.out;have ef:=bi.trans (eb.trans g5 zr) zr)
  |(go_at_call 17;(with_reducible refine (cg.out _ ef).mono ?_);rintro _ v6 ⟨rfl,g6⟩;have hd:=lh (dj.out _ (ef.trans g6 zr))))
 exact hd.out
end Oq
section
open Go.ChangeShapes Go.WideShapes Go.ChangeAt Go.RowKit
theorem Az4 (os:Os) (started:os.Started) (H:Type) (enc:TypeId × Value->H):
  ReturnsInHanded {} Tryz.checked os 7 .any (fun w args=>(Rows.relayForwardSpec.pre enc zp f7 [] false w args/\laidMetH zp [("huddle/op.kinds",Rows.laid_huddle_op_kinds)] w)/\sizedMet enc zp f7 (OpenSpec.ofChange Rows.relayForwardSpec) false w args)
   (Rows.relayForwardSpec.post enc zp f7 false true false false):=by
 refine returnsInHanded_of_change_and (C:=Tryz.checked) (X:=fun w _=>laidMetH zp [("huddle/op.kinds",Rows.laid_huddle_op_kinds)] w) (fun _ _ _ hh h=>h.of_heap hh) Tryz.own started (by kernel_rfl) func7
  (ChangeSpec.witness_at (enc:=enc) (C:=Tryz.checked) (os:=os) (X:=fun w _=>laidMetH zp [("huddle/op.kinds",Rows.laid_huddle_op_kinds)] w) false (Jx os) #[.slice none 0 0,.slice none 0 0] 8 rfl (by kernel_rfl) (by kernel_rfl) (by kernel_rfl) (by kernel_rfl) (by kernel_rfl) (Qs os _)) ?_
 intro W base args ds gs before hval0 hW _ _ hL _;have hk:=Qq hL;have hval:∀(j:Nat) t v,Tryz.f7.params[j]? =some t->args[j]? =some v->Value.okWide zp W .any base t v:=hval0;have hW':=hW;obtain ⟨p,q,hA0,hV,rfl,hfz,hnd⟩:=hW;have hA:DataW.TrodAll enc zp W 0 (fun _=>true) true Tryz.f7.params.toList args.toList ds p:=hA0;rw [params7] at hA hval;obtain ⟨v0,v1,d0,d1,p0,p1,rfl,rfl,rfl,h0,h1⟩:=trodAll_two hA;obtain ⟨A0,c0,l0,rfl,hlc0,hc0,hr0,hok0⟩:=H7 underlying22 underlying3 (by kernel_rfl) (hval 0 22 v0 rfl rfl) h0;obtain ⟨A1,c1,l1,rfl,hlc1,hc1,hr1,hok1⟩:=H7 underlying22 underlying3 (by kernel_rfl) (hval 1 22 v1 rfl rfl) h1;refine (Oq.relayForward_law A0 c0 l0 A1 c1 l1 W hk hr0 hlc0 hc0 hok0 hr1 hlc1 hc1 hok1).mono fun e W' ⟨he,hf⟩=> ?_;exact ⟨_,he,Ou Tryz.laidOut (by kernel_rfl) rfl (by kernel_rfl) underlying4 hW' ⟨rfl,rfl,rfl⟩ hf⟩
theorem Az5:Rows.RelayForwardSaid:=
 OpenClaim.holds_of_wide 7 f7 rfl rfl rfl rfl rfl rfl rfl ⟨rfl,rfl,rfl,rfl,rfl⟩ rfl rfl rfl rfl rfl (by kernel_rfl) func7 (by kernel_rfl)
  (of_decide_eq_true (by kernel_rfl)) (by unfold Func.isWrapper;rw [if_neg (by decide+kernel)];exact ⟨rfl,rfl⟩)
  (fun os started H enc _=>Az4 os started H enc)
end
section
open Go
theorem relayForward_card_holds:Rows.RelayForwardCardSaid:=
 Claim7.holds_tied_plain_at .later [] [.data] true (true, "21a1399a7e80faf1308fc7dc20e3f60affe53aa06a5131232a0aae069820b3a7") false
  Az5 (fun _ h=>by cases h) (by kernel_rfl) (fun _ h=>by cases h) relayForward_row_tie rfl ⟨rfl,rfl⟩ (by kernel_rfl) rfl
  (fun f fn hf hfn=>by
   obtain rfl:f=7:=Option.some.inj ((show zp.funcNamed "huddle/huddlelaw31.RelayForward" =some 7 by kernel_rfl).symm.trans hf)|>.symm;obtain rfl:fn=f7:=(Option.some.inj (Tryz.func7.symm.trans hfn)).symm
   exact ⟨by kernel_rfl,fun j t ht=>by
    rw [params7] at ht
    have hm:t∈([22,22]:List TypeId):=by
     have h2:=Array.mem_of_getElem? ht;simpa using h2
    have hall:([22,22]:List TypeId).all (fun t=> !(zp.wantsStandIn t))=true:=by kernel_rfl
    have:=List.all_eq_true.1 hall t hm;exact (by simpa using this:zp.wantsStandIn t=false)⟩)
  (by kernel_rfl)
end
end Go.Proofs.YtgbdljlapmjmnaaGreatDoor
