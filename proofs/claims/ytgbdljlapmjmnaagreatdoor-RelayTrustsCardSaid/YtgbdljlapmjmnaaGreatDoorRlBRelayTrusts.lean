/-
  huddlelaw31.RelayTrusts: what is not signed by its device is never kept, whenever it comes, and changes nothing of what is kept; bytes that are no operation are refused.
    Conditions: op.kinds lies as its text lays it; the numbers read.
  RelayTrusts: whatever the input is, where the one listed variable is as its text lays it, the law returns true, and nothing that was there has turned.
    Condition: none.
  RelayTrusts: the tied card.
    Condition: none.
-/
import Derived.JoinedOf
import Derived.RowKitTokens
import Derived.LaidLaws
import Derived.Test.YtgbdljlapmjmnaaGreatDoorTie
import Derived.Test.YtgbdljlapmjmnaaGreatDoorCards
import Derived.SevenTiedAt
import Derived.Test.YtgbdljlapmjmnaaGreatDoorRlB17
set_option maxRecDepth 100000
set_option maxHeartbeats 16000000
open Bool renaming not_false->At6,not_true->At7,not_eq_true->Au9,false_ne_true->Av2
open Int renaming toNat_of_nonneg->Av0,tmod_eq_emod_of_nonneg->Av5
open List renaming not_mem_nil->As9,getElem?_eq_getElem->At0,map_append->At2,mem_append_left->At3,any_eq_true->At4,mem_append_right->At8,mem_of_getElem?->At9,mem_singleton->Au0,eraseIdx_sublist->Au2,length_map->Au3,take_of_length_le->Au4,getElem?_of_mem->Au5,getElem?_map->Au6,eraseIdx_eq_take_drop_succ->Au7,mem_map_of_mem->Au8,append_assoc->Av1,mem_cons_self->Av3,take_add_one->Av4,length_append->Av6,take_append_drop->Av7,drop_eq_getElem_cons->Av8,perm_middle->Av9,length_range->Aw0,nodup_append->Aw1
open Nat renaming le_refl->At1,lt_of_lt_of_le->At5,mod_lt->Au1
open Go.Proofs.Tryz
open Go.Proofs.Tryz renaming prog->zp
open Go.Lib renaming hid->lh
open List renaming set->zl
open Go.Ending renaming returned->ze
namespace Go.Proofs.YtgbdljlapmjmnaaGreatDoor
open Go.RowKit
attribute [local go_sem ↓] Go.wp_at_zero Go.wp_at_succ
section
open Go.ChangeShapes Go.WideShapes Go.ChangeAt Go.RowKit Go.Deep
theorem u8_bd {n:Int} (h:(Lit.int .u8 n).wf=true):∃x:UInt8,n=(x.toNat:Int):=by
 have h':0<=n/\n<=255:=by simpa [Lit.wf,IntKind.min,IntKind.max,IntKind.signed,IntKind.bits] using h
 refine ⟨UInt8.ofNat n.toNat,?_⟩;rw [UInt8.toNat_ofNat'];omega
section
variable {H : Type} {enc : TypeId × Value -> H} {P : Program} {w : World} {spare : Nat -> Bool} {held : Bool}
theorem Ar1 {t e:TypeId} {v:Value} {d:DataW H} {p:List MemPlace} (ht:P.underlying t=some (.slice e)) (he:P.underlying e=some (.int .u8)) (hsz:P.cellsOf e=1)
  {r:Reach} {b0:Nat} (hv:Value.okWide P w r b0 t v) (h:DataW.Trod enc P w 0 spare held t v d p):
  ∃(A:Option Addr) (c:Nat) (bs:List UInt8),v=.slice A bs.length c/\bs.length<=c/\c<=9223372036854775807/\Rd w w.heap.size 1 A bs.length (bs.map Bv):=by
 obtain ⟨a0,l0,c0,rfl⟩:=okWide_slice ht hv;obtain ⟨fuel,hf⟩:=h;obtain ⟨A,n,c,xs,hcs,hl,hnc,hc,hr,hall⟩:=Nu ht hsz (by omega) hf;have hcs':Value.slice a0 l0 c0=.slice A n c:=by simpa [Value.cells] using hcs
 obtain ⟨l,rfl,_⟩:=Ku (f:=fun b=>[Bv b]) (Q:=fun _=>True) xs (fun c' hc'=>by
  obtain ⟨hcl,m,y,hy⟩:=hall c' hc';obtain ⟨z,rfl,_,hz⟩:=DataW.trod_int he hy;obtain ⟨b,rfl⟩:=u8_bd hz;exact ⟨b,rfl,trivial⟩)
 have hll:l.length=n:=by simpa using hl
 subst hll;refine ⟨A,c,l,hcs',hnc,hc,?_⟩;rw [<- Nv Bv l];exact hr
end
end
theorem Ar2 (A:Option Addr) (c:Nat) (bs:List UInt8) (m:Nat) (w:World) (hr:Rd w w.heap.size 1 A bs.length (bs.map Bv)) (hc:bs.length<=c) (hc':c<=9223372036854775807) (hm:m<=1099511627776):
  Calls zp 26 #[.slice A bs.length c,.int .i64 (m:Int)] w (NewB w (bs.take m)):=by
 have hnil:=Own.nil w w.heap.size 5 1
 by_cases h:bs.length<=m
 ·
  have ht:Hid (bs.take m=bs):=Au4 (by omega);have hq1:min (bs.length:Int) (m:Int)=(bs.length:Int):=by omega
  go_enter func26,ntmps26;go_wp2_with (first|(at_builtin;go_loud (refine Aw (.tmp 6) (.tmp 12) 39 rfl rfl rfl rfl slB hnil hr (Ff _) (by omega) (by omega) (At1 _) ?_);intro A2 c2 w2 hown2 hf2 hat2))
  go_ret
  rw [Nat.zero_add,List.nil_append] at hown2;exact NewB.mk hown2 rfl (by rw [ht.out]) (hf2.mono (fun k _ hk=>by cases hk))
 ·
  have hrt:Rd w w.heap.size 1 A m ((bs.take m).map Bv):=by rw [List.map_take];exact hr.take (by omega)
  have hq1:min (bs.length:Int) (m:Int)=(m:Int):=by omega
  go_enter func26,ntmps26;go_wp2_with (first|(at_builtin;go_loud (refine Aw (.tmp 6) (.tmp 12) 39 rfl rfl rfl rfl slB hnil hrt (Ff _) (by omega) (by omega) (At1 _) ?_);intro A2 c2 w2 hown2 hf2 hat2))
  go_ret
  rw [Nat.zero_add,List.nil_append] at hown2;exact NewB.mk hown2 rfl rfl (hf2.mono (fun k _ hk=>by cases hk))
namespace Oq
theorem NOk.placed {cards:List Cd} {l:List Pn} {i:Nat} {n:Pn} (h:NOk cards l i n):∀id∈n.o.past,∃p,Oq.plc l id=some p:=fun id hid=>by
 obtain ⟨p,_,hp⟩:=h.par id hid;exact ⟨p,hp⟩
end Oq
namespace Oq
attribute [local go_sem] At6 At7
attribute [local go_sem ↓] Fp
theorem Ar3 {l l':List Id} {k:Nat} {y z:Id} (h:l[k]? =some y) (h':l'[k]? =some z) (hk:l.take k=l'.take k) (e:y=z):l.take (k+1)=l'.take (k+1):=by
 rw [Av4,Av4,hk,h,h',e]
theorem Ar4 (B n c B' m c':Nat) (A A':Option Addr) (l l':List Id) (w:World) (hn:Hid (l.length=n)) (hm:Hid (l'.length=m)) (hr:Rd w B 3 A n (l.flatMap Id.cells)) (hr':Rd w B' 3 A' m (l'.flatMap Id.cells)) (hnm:n<=1000000) (R:Bool) (hR:R=true<->l=l'):
  Calls zp 14 #[.slice A n c,.slice A' m c'] w (Ae R w):=by
 have hRf:Hid (l≠l'->R=false):=fun h=>by cases R with|false=>rfl|true=>exact absurd (hR.1 rfl) h
 have hRt:Hid (l=l'->R=true):=hR.2;clear hR
 by_cases hne:n=m
 ·
  subst hne;have t:((n:Int) !=(n:Int))=false:=by simp
  go_enter func14,ntmps14;go_wp2
  go_loopw [5] (fun v wr=>∃k:Nat,v=.int .i64 (k:Int)/\k<=n/\Hid (l.take k=l'.take k)/\Fr Non w wr) (fun v _=>n-(intOf v).toNat)
  case atStart=>exact ⟨0,rfl,by omega,rfl,Fr.refl _ _⟩
  case round=>
   obtain ⟨k,rfl,hk,hh,hf⟩:=hrel
   by_cases hlt:k<n
   ·
    obtain ⟨y,hy⟩:∃y,l[k]? =some y:=⟨_,At0 (by rw [hn.out];exact hlt)⟩;obtain ⟨z,hz⟩:∃y,l'[k]? =some y:=⟨_,At0 (by rw [hm.out];exact hlt)⟩;obtain ⟨b,off,rfl,hbB,k0,k1,k2⟩:=Id.at (hr.fr hf zr) hy;obtain ⟨b',off',rfl,hbB',g0,g1,g2⟩:=Id.at (hr'.fr hf zr) hz;have hcase:=Id.eq_iff y z;have hsn:Hid (y=z->l.take (k+1)=l'.take (k+1)):=Ar3 hy hz hh.out;have hno:Hid (y≠z->R=false):=fun e=>hRf.out (fun e'=>by rw [e',hz] at hy;injection hy with hy;exact e hy.symm);clear hy hz;obtain ⟨i1,i2,i3⟩:=ix k n
    have hm:=O1
    by_cases he:Id.eq y z=true
    ·
     have hfin:=lh (hsn.out (hcase.1 he));clear hsn hno hcase;go_wp2
     go_quiet (fail)
     go_wp2;go_roundw
     case rel=>exact ⟨k+1,by go_num,by omega,hfin,hf.drewN _⟩
     case measure=>simp [intOf];omega
    ·
     have hfin:=lh (hno.out (fun e=>he (hcase.2 e)));have he:=Au9 _▸he;clear hsn hno hcase;go_wp2
     go_quiet (fail)
     go_wp2
     go_ret
     exact ⟨by rw [hfin.out];rfl,hf.drewN _⟩
   ·
    obtain rfl:k=n:=by omega
    have hfin:Hid (R=true):=by
     have h:=hh.out;rw [Au4 (by rw [hn.out];omega),Au4 (by rw [hm.out];omega)] at h;exact hRt.out h
    go_wp2
    go_ret
    exact ⟨by rw [hfin.out];rfl,hf⟩
 ·
  have t:((n:Int) !=(m:Int))=true:=by simp;omega
  have hfin:Hid (R=false):=hRf.out (fun e=>hne (by rw [<- hn.out,<- hm.out,e]));go_enter func14,ntmps14;go_wp2
  go_ret
  exact ⟨by rw [hfin.out];rfl,Fr.refl _ _⟩
end Oq
namespace Oq
attribute [local go_sem] At6 At7
theorem Rows.placed {cards:List Cd} {l:List Pn} (h:Rows cards l) {id:Id} (hid:id∈l.map Pn.id):(plc l id).isSome=true:=by
 obtain ⟨n,hn,rfl⟩:=List.mem_map.1 hid;obtain ⟨i,hi⟩:=Au5 hn;rw [(h.ok i n hi).plc];rfl
end Oq
namespace Oq
attribute [local go_sem] At6 At7
attribute [local go_sem ↓] Be C4 M6
def Kn (e0:Int) (w:World) (e:Ending) (w':World):Prop:=e=.returned (.int .i64 e0)/\Fr Non w w'
theorem Ar5 (rb B n c:Nat) (A:Option Addr) (bs:List UInt8) (E:Int) (w:World) (hn:Hid (bs.length=n)) (hr:Rd w B 1 A n (bs.map Bv)) (hl:n<=1099511627776) (hE:(get bs).2=E) (h0:E≠0):
  Calls zp 22 #[.pointer (some ⟨rb,0,none⟩),.slice A n c] w (Kn E w):=by
 have hi27:(zp.info? 55).map (·.size)=some 27:=by kernel_rfl
 have kg:=lh (Lr B n c A bs w hn hr hl);unfold Fs at kg;rw [hE] at kg;have hne:(E !=0)=true:=by simp [h0]
 have hfin:Hid (∀w',Fr Non w w'->Kn E w (.returned (.int .i64 E)) w'):=fun w' h=>⟨rfl,h⟩;generalize Kn E w=POST at*;clear hr hn hl hE h0;go_enter func22,ntmps22;go_upto_region 2 with (go_at_call 27;(with_reducible refine (kg.out).mono ?_);rintro _ w1 ⟨x,_,rfl,xo,f1⟩;have bn:=Blk.new w1 55 zO;have hst:=Cl (P:=zp) w1.heap.size 55 (cs:=x.cells) hi27 (old:=zO) rfl (Ek x))
 have fx:Fr Non w1 ((w1.alloc (.cells zO 55)).setRow w1.heap.size x.cells):=((Fr.refl Non w1).alloc _).setRow (fun hh=>absurd hh (by omega)) _;have hd:=lh (hfin.out _ (f1.trans fx zr));clear kg hfin xo hst bn f1 fx;generalize (w1.alloc (.cells zO 55)).setRow w1.heap.size x.cells=w2 at*;go_wp2_with fail;exact hd.out
end Oq
namespace Oq
attribute [local go_sem] At6 At7
attribute [local go_sem ↓] E9 Be
theorem Ar6 {cards:List Cd} {l:List Pn} (h:Rows cards l) {p:Nat} {n:Pn} (hp:l[p]? =some n) (s:Nat):({n.o with s:=s}:Op).put.length<=500000:=Pr (k:=20) (o:={n.o with s:=s}) (by have:=Pq (h.ok p n hp).chk;exact ⟨this.past,this.path,this.refs,this.guards,this.boxes,this.hist,this.nodes,this.body,this.seals⟩) (by decide)
end Oq
namespace Oq
attribute [local go_sem] At6 At7
attribute [local go_sem ↓] E9
theorem Ar7 {L K p:Nat} (hp:p<L):∃j,j<L/\(L-1-j+K)%L=p:=by
 refine ⟨(L-1+K-p)%L,Au1 _ (by omega),?_⟩;have h1:=Nat.div_add_mod (L-1+K-p) L;have h2:(L-1+K-p)%L<L:=Au1 _ (by omega);generalize (L-1+K-p)%L=j at*;generalize (L-1+K-p)/L=d at*;have e:L-1-j+K=p+L*d:=by omega
 rw [e,Nat.add_mul_mod_self_left,Nat.mod_eq_of_lt hp]
def Ko (L:Nat) (w:World) (e:Ending) (w':World):Prop:=
 ∃(ps:List Nat) (A:Option Addr) (n c:Nat),e=.returned (.slice A n c)/\Hid (ps.length=n)/\Own w' w.heap.size 3 1 A n c (ps.map Qv)/\Hid (∀p∈ps,p<L)/\Hid (∀p,p<L->p∈ps)/\n<=400/\Fr Non w w'
theorem Ar8 (base B m c:Nat) (x:FG) (A:Option Addr) (turn:Int) (ag:List Int) (w:World) (h:x.own w base) (hne:x.l≠[]) (ht:I64 turn) (hn:Hid (ag.length=m)) (hr:Rd w B 1 A m (ag.map Iv)) (hok:∀x∈ag,I64 x):
  Calls zp 12 #[.agg x.cells,.int .i64 turn,.slice A m c] w (Ko x.l.length w):=by
 have ak:=h.num.few;have a2:0<x.l.length:=List.length_pos_iff.2 hne;have bg:=Blk.new w 28 x.cells;have f0:Fr Non w (w.alloc (.cells x.cells 28)):=(Fr.refl Non w).alloc _;have g1:Hid (x.cells[1]? =some (.slice x.lA x.l.length x.lC)):=rfl;obtain ⟨L,hL⟩:=Aa x.l.length;rw [hL.out] at g1 ak a2 ⊢;have a0:=hr.fr f0 zr;obtain ⟨gx,aj⟩:=Aa w.heap.size;have ac:Hid (∀(ps:List Nat) (A:Option Addr) (n c:Nat) (w':World),Hid (ps.length=n)->Own w' w.heap.size 3 1 A n c (ps.map Qv)->Hid (∀p∈ps,p<L)->Hid (∀p,p<L->p∈ps)->n<=400->Fr Non w w'->Ko L w (.returned (.slice A n c)) w'):=fun ps A n c w' h1 h2 h3 h4 h5 h6=>⟨ps,A,n,c,rfl,h1,h2,h3,h4,h5,h6⟩;generalize Ko L w=POST at*;obtain ⟨XG,aw⟩:=Aa x.cells;rw [aw.out] at bg f0 a0 g1 ⊢;rw [aj.out] at bg ac;have au:gx<=w.heap.size:=by rw [aj.out];exact At1 _
 clear h hr aw;have ao:=lh (fun (v:World)=>Hg turn (L:Int) v ht.1 ht.2 (by omega) (by omega));obtain ⟨K,hK⟩:∃K:Nat,Cx turn (L:Int)=(K:Int):=⟨_,(Av0 (Fg (n:=turn) (m:=(L:Int)) (by omega)).1).symm⟩;have bb:K<L:=by have:=(Fg (n:=turn) (m:=(L:Int)) (by omega)).2;omega
 rw [hK] at ao
 have a6:Hid (∀(q:Int) (v:World),I64 q->∃P:Nat,P<L/\Calls zp 18 #[.int .i64 q,.int .i64 (L:Int)] v fun e w'=>e=.returned (.int .i64 (P:Int))/\v=w'):=by
  intro q v hq;have hb:=Fg (n:=q) (m:=(L:Int)) (by omega);refine ⟨(Cx q (L:Int)).toNat,by omega,?_⟩;have:=Hg q (L:Int) v hq.1 hq.2 (by omega) (by omega);rw [Av0 hb.1];exact this
 have a9:¬(L:Int)=0:=by omega
 have a5:¬L=0:=by omega
 have a8:((L:Int)==0)=false:=beq_eq_false_iff_ne.2 (by omega);clear hK ht hne;go_enter func12,ntmps12;go_upto_region 1 with (fail)
 try rw [aj.out]
 generalize w.alloc (.cells XG 28)=w0 at*;have c1:cS w0 gx 1 x.lA L x.lC:=(bg.cell 1).trans g1.out;go_upto_region 3 with (go_at_call 18;(with_reducible refine (ao.out _).mono ?_);rintro _ _ ⟨rfl,rfl⟩)
 have aq:gx<=w0.heap.size:=Nat.le_trans au f0.size;clear g1 bg ao;go_wp2_with fail
 go_loopw [7,9] (fun s v wr=>∃(i M cq:Nat) (Aq:Option Addr) (ps:List Nat),s=.slice Aq M cq/\v=.int .i64 (i:Int)/\i<=L/\Hid (ps.length=M)/\M<=2*i/\Own wr w0.heap.size 3 1 Aq M cq (ps.map Qv)/\Hid (∀p∈ps,p<L)/\Hid (∀j,j<i->(L-1-j+K)%L∈ps)/\Fr Non w0 wr) (fun s v _=>L-(intOf v).toNat)
 case atStart=>exact ⟨0,0,0,none,[],rfl,rfl,by omega,rfl,by omega,Own.nil _ _ _ _,fun p hp=>absurd hp As9,fun j hj=>absurd hj (Nat.not_lt_zero j),Fr.refl _ _⟩
 case round=>
 obtain ⟨i,M,cq,Aq,ps,rfl,rfl,hi,av,hM,own,ai,ab,hf⟩:=hrel;have cL:=hf.cell c1 zq
 by_cases hin:i<L
 case neg=>
  obtain rfl:i=L:=by omega
  have t0:decide ((i:Int)<(i:Int))=false:=decide_eq_false (by omega);have a4:decide (i<i)=false:=decide_eq_false (by omega);have hd:=lh (ac.out ps Aq M cq wr av (own.lower aq) ai (fun p hp=>by obtain ⟨j,h1,h2⟩:=Ar7 (K:=K) hp;rw [<- h2];exact ab.out j h1) (by omega) (f0.trans hf zr));clear ac ab ai own;go_wp2_with fail;exact hd.out
 case pos=>
 have t0:decide ((i:Int)<(L:Int))=true:=decide_eq_true (by omega);have a4:decide (i<L)=true:=decide_eq_true hin;obtain ⟨P,hP⟩:∃P:Nat,Hid ((L-1-i+K)%L=P):=⟨_,rfl⟩;have a7:P<L:=by rw [<- hP.out];exact Au1 _ (by omega)
 have e1:=iw ((L:Int)-1);have e2:=iw ((L:Int)-1-(i:Int));have e3:=iw ((L:Int)-1-(i:Int)+(K:Int))
 have e4:((L:Int)-1-(i:Int)+(K:Int)).tmod (L:Int)=(P:Int):=by
  rw [Av5 (by omega),<- hP.out];rw [show (L:Int)-1-(i:Int)+(K:Int)=((L-1-i+K:Nat):Int) by omega];exact (Int.natCast_emod _ _).symm
 have e5:=iw (P:Int);have e6:=iw ((i:Int)+1);have bF:=Blk.new wr 3 #[.int .i64 (P:Int)];have ae:=own.cap;have a3:w0.heap.size<=wr.heap.size:=hf.size
 have af:Hid ((ps++[P]).length=M+1/\(∀p∈ps++[P],p<L)/\(∀j,j<i+1->(L-1-j+K)%L∈ps++[P])/\(ps++[P]).map Qv=ps.map Qv++[.int .i64 (P:Int)]):=by
  refine ⟨by rw [Av6,av.out];rfl,fun p hp=> ?_,fun j hj=> ?_,by rw [At2];rfl⟩
  ·
   rcases List.mem_append.1 hp with h1|h1
   · exact ai.out p h1
   · rw [List.mem_singleton.1 h1];exact a7
  ·
   rcases Nat.lt_or_ge j i with h1|h1
   · exact At3 _ (ab.out j h1)
   ·
    obtain rfl:j=i:=by omega
    rw [hP.out];exact At8 _ (List.mem_singleton.2 rfl)
 clear ai ab av hP;go_upto_region 7 with (at_builtin;go_loud (refine Aw (base:=w0.heap.size) (.tmp 22) (.tmp 35) 22 rfl rfl rfl rfl Ev (own.alloc (.cells #[.int .i64 (P:Int)] 3)) (Rd.blk (n:=1) (size:=1) bF rfl) (by simp [Value.oneCell']) (by omega) (by omega) (by rw [World.size_alloc];omega) ?_);intro A8 c8 w8 aa ay ar)
 have f8:Fr Non w0 w8:=(hf.alloc (.cells #[.int .i64 (P:Int)] 3)).trans ay (fun k hk e=>by have:=(own.row k e).1;omega);obtain ⟨g1,g2,g3,g4⟩:=af.out;rw [<- g4] at aa;replace g1:=lh g1;replace g2:=lh g2;replace g3:=lh g3;clear g4 af ay ar bF own hf a3 cL ae;generalize ps++[P]=qs at*;have C0:=f8.cell c1 zq
 by_cases hag:i<m/\i<10
 case neg=>
  have u0:(decide ((i:Int)<(m:Int))=false/\decide (i<m)=false)\/(decide ((i:Int)<(m:Int))=true/\decide ((i:Int)<10)=false/\decide (i<m)=true/\decide (i<10)=false):=by
   by_cases h1:i<m
   · exact .inr ⟨decide_eq_true (by omega),decide_eq_false (by omega),decide_eq_true h1,decide_eq_false (fun h2=>hag ⟨h1,h2⟩)⟩
   · exact .inl ⟨decide_eq_false (by omega),decide_eq_false h1⟩
  rcases u0 with ⟨u0,u0n⟩|⟨u0,u1,u2,u3⟩
  ·
   go_wp2_with fail;go_roundw
   case rel=>exact ⟨i+1,M+1,c8,A8,qs,rfl,by go_num,by omega,g1,by omega,aa,g2,g3,f8⟩
   case measure=>simp [intOf];omega
  ·
   go_wp2_with fail;go_roundw
   case rel=>exact ⟨i+1,M+1,c8,A8,qs,rfl,by go_num,by omega,g1,by omega,aa,g2,g3,f8⟩
   case measure=>simp [intOf];omega
 case pos=>
 have u0:decide ((i:Int)<(m:Int))=true:=decide_eq_true (by omega);have u1:decide ((i:Int)<10)=true:=decide_eq_true (by omega);have u2:decide (i<m)=true:=decide_eq_true hag.1;have u3:decide (i<10)=true:=decide_eq_true hag.2;obtain ⟨q,hq⟩:∃q,ag[i]? =some q:=⟨_,At0 (by rw [hn.out];exact hag.1)⟩;obtain ⟨ba,oa,u,rfl,_,hu,d0⟩:=a0.at hag.1;rw [Au6,hq] at hu;injection hu with hu
 subst hu;replace d0:cI w0 ba (oa+i) q:=d0;have D0:=f8.cell d0 zq;obtain ⟨Q,hQ,kQ⟩:=a6.out q w8.drew (hok q (At9 hq));replace kQ:=lh kQ;obtain ⟨i1,i2,i3⟩:=ix i m
 have ae:=aa.cap;go_upto_region 8 with (fail)
 have F0:Fr Non w8 w8.drew:=(Fr.refl Non w8).drew;refine wp_region_held_drew (S:=fun w'=>cS w' gx 1 x.lA L x.lC/\cI w' ba (oa+i) q) (by kernel_rfl) ⟨C0,D0⟩ (fun hHeld=> ?_);clear hHeld;have uu:=aI C0 D0;refine tkH 0 uu (h:=tkH 1 uu (h:=tkH 2 uu (h:=tkH 3 uu (h:=tkH 4 uu (h:=tkH 5 uu (h:=tkH 6 uu (h:=tkH 7 uu (h:=?_))))))));clear uu;simp only [zl];refine oG 8 (fun K hK=> ?_);go_simp;go_wp2_with (go_at_call 18;(with_reducible refine (kQ.out).mono ?_);rintro _ _ ⟨rfl,rfl⟩);refine hK.out _ _ ⟨C0,D0⟩ (fun hZ=> ?_);clear hZ hK K;try simp only [Ai,zl]
 refine oG 9 (fun K hK=> ?_);go_simp;have a1:=(Blk.new w8 3 #[.int .i64 (Q:Int)]).drew;have F1:Fr Non w8 (w8.alloc (.cells #[.int .i64 (Q:Int)] 3)).drew:=((Fr.refl Non w8).alloc _).drew;obtain ⟨nb,al⟩:=Aa w8.heap.size;rw [al.out] at a1 ⊢;generalize (w8.alloc (.cells #[.int .i64 (Q:Int)] 3)).drew=v1 at*;obtain ⟨C1,D1⟩:=zk2 F1 C0 D0;refine hK.out _ _ ⟨C1,D1⟩ (fun hZ=> ?_);clear hZ hK K;try simp only [Ai,zl]
 refine oG 10 (fun K hK=> ?_);have ax:Fr Non w0 v1:=f8.trans F1 zr;have bc:=ax.size;refine Eu (base:=w0.heap.size) (.tmp 45) (.tmp 54) 22 rfl rfl rfl Ev (aa.fr F1 zr) (Rd.blk (n:=1) (size:=1) a1 rfl) (by simp [Value.oneCell']) (by omega) (by omega) (by omega) ?_;intro A9 c9 v2 ah az ap;have f9:Fr Non w0 v2:=ax.trans az (fun k hk e=>by have:=(aa.row k e).1;omega);obtain ⟨C2,D2⟩:=zk2 f9 c1 d0;refine hK.out _ _ ⟨C2,D2⟩ (fun hZ=> ?_);clear hZ hK K;try simp only [Ai,zl]
 refine tkH 11 ⟨C2,D2⟩ (h:=?_);simp only [zl];refine oD ?_;go_simp;have h1:Hid ((qs++[Q]).length=M+1+1):=by show _=_;rw [Av6,g1.out];rfl
 have h2:Hid (∀p∈qs++[Q],p<L):=fun p hp=>by
  rcases List.mem_append.1 hp with h1|h1
  · exact g2.out p h1
  · rw [List.mem_singleton.1 h1];exact hQ
 have h3:Hid (∀j,j<i+1->(L-1-j+K)%L∈qs++[Q]):=fun j hj=>At3 _ (g3.out j hj);have ad:Own v2 w0.heap.size 3 1 A9 (M+1+1) c9 ((qs++[Q]).map Qv):=by rw [At2];exact ah
 clear ah aa az ap g1 g2 g3 kQ;go_wp2_with fail;go_roundw
 case rel=>exact ⟨i+1,M+1+1,c9,A9,qs++[Q],rfl,by go_num,by omega,h1,by omega,ad,h2,h3,f9⟩
 case measure=>simp [intOf];omega
end Oq
namespace Oq
theorem Bc.kept {cards:List Cd} {l m:List Pn} {C ws:List Op} (h:Bc cards l C m ws) {o:Op} (ho:o∈C) (hw:o∉ws):(plc m o.name).isSome=true:=by
 rcases List.mem_append.1 (h.perm.mem_iff.2 ho) with h1|h1
 ·
  obtain ⟨n,k1,rfl⟩:=List.mem_map.1 h1;obtain ⟨j,hj⟩:=Au5 k1;have:=(h.rm.ok j n hj).plc;rw [(h.rm.ok j n hj).id] at this;rw [this];rfl
 · exact absurd h1 hw
theorem Ik (l:List Pn) (q:Nat × Bool):(opB l q).name=(Au l q.1).name:=by unfold opB;split<;>rfl
def Ee (l:List Pn):Nat->List Nat->List (Nat × Bool)->List Nat × List (Nat × Bool)
 |0,K,W=>(K,W)
 |f+1,K,W=>match W.findIdx? (fun q=>Ca l K q.1) with
  |none=>(K,W)
  |some i=>match W[i]? with
   |none=>(K,W)
   |some q=>Ee l f (if q.2=true then K else K++[q.1]) (W.eraseIdx i)
end Oq
namespace Oq
attribute [local go_sem] At6 At7
attribute [local go_sem ↓] Be C4
theorem Ar9 {cards:List Cd} {l:List Pn} (h:Rows cards l):∀n∈l,n.o.s<2305843009213693950/\(Bi n.o).chk=0:=by
 induction h with
 |nil=>intro n hn;cases hn
 |snoc l o hl ho ih=>
  intro n hn
  rcases List.mem_append.1 hn with hn|hn
  · exact ih n hn
  ·
   rw [List.mem_singleton.1 hn];obtain ⟨⟨c,_,hc⟩,_⟩:=Ka ho;refine ⟨?_,(Jm ho).chk⟩;show o.s<_;unfold Sg.check Sg.within at hc;simp only [Bool.and_eq_true,decide_eq_true_eq] at hc;have:=hc.1.2.2;omega
theorem Ad.okAt.apart {S:Nat->Prop} {w w':World} {base:Nat} {r:Ad} (h:r.okAt w base) (hf:Fr S w w') (hT:Types S w Gty) (hd:∀k,S k->¬r.own k):r.okAt w' base:=by
 have hx:∀x:OpL,x.own w base->x.own w' base:=fun x hx=>hx.keepP hf hT (by unfold Gty;decide) (by unfold Gty;decide) (by unfold Gty;decide) (by unfold Gty;decide) (by unfold Gty;decide) (by unfold Gty;decide) (by unfold Gty;decide);have k:=h.graph;refine ⟨h.blk.fr hf (fun e=>hd _ e (.inl rfl)),h.rbase,?_,h.row.fr hf (fun k hk e=>hd _ e (.inr (.inr hk))),fun x hxm=>⟨hx x (h.ops x hxm).1,(h.ops x hxm).2⟩,h.few⟩;exact ⟨k.blk.fr hf (fun e=>hd _ e (.inr (.inl (.inl rfl)))),k.pos,k.gbase,k.mbase,k.crow.keepT hf hT (by unfold Gty;decide),k.own.fr hf (fun j hj e=>hd _ e (.inr (.inl (.inr (.inr hj))))),k.few,k.mfew,k.levs,k.cfew,k.cok,k.map.fr hf (fun e=>hd _ e (.inr (.inl (.inr (.inl rfl))))),fun n hn=>⟨hx n.x (k.node n hn).own,(k.node n hn).ok,(k.node n hn).id,(k.node n hn).set⟩⟩
theorem GAt.lt {w:World} {base:Nat} {g:Gph} (h:GAt w base g) {k:Nat} (hk:g.own k):k<w.heap.size:=by
 rcases hk with e|e|e
 · rw [e];exact h.blk.lt
 · rw [e];exact h.map.lt
 · exact (h.own.row k e).2
theorem Ad.okAt.lt {w:World} {base:Nat} {r:Ad} (h:r.okAt w base) {k:Nat} (hk:r.own k):k<w.heap.size:=by
 rcases hk with e|e|e
 · rw [e];exact h.blk.lt
 · exact h.graph.lt e
 · exact (h.row.row k e).2
theorem As0 {o:Op} (h:o.ok):(Bi o).ok:={h with s:=by show (o.s+1)%2305843009213693950<18446744073709551616;have:(o.s+1)%2305843009213693950<2305843009213693950:=Au1 _ (by decide);omega}
def Tx (b gb:Nat) (g:Gph) (o:Op) (l:List Pn) (w:World) (e:Ending) (w':World):Prop:=
 (∃E:Int,e=.returned (.int .i64 E))/\∃g2:Gph,Hid (GAt w' b g2)/\Hid (g2.gb=gb)/\Hid (g2.cards=g.cards)/\Hid (g2.pns=if Aj g.cards l o=0 then l++[Ak l o] else l)/\Fr g.own w w'/\Hid (∀k,k<w.heap.size->g2.own k->g.own k)
theorem As1 {b gb:Nat} {g:Gph} {x:OpL} {w:World} {l:List Pn} (hg:GAt w b g) (hgb:g.gb=gb) (hl:g.pns=l) (hat:x.at w w.heap.size) (hok:x.op.ok) (hkn:KindsAt w):
  Calls zp 24 #[.pointer (some ⟨gb,0,none⟩),.agg x.cells] w (Tx b gb g x.op l w):=by
 subst hl hgb;refine (Jf b g x w hg hat hok hkn).mono ?_;rintro e w' ⟨rfl,h⟩;refine ⟨⟨_,rfl⟩,?_⟩
 rcases h with ⟨h0,h1⟩|⟨h0,g',h1,h2,_,h4,h5,h6,h7,_⟩
 · exact ⟨g,hg.fr h1,rfl,rfl,(if_neg h0).symm,Fr.of_non h1 _,fun _ _ e=>e⟩
 · exact ⟨g',h1,h2,h4,h5.trans (if_pos h0).symm,h6,h7⟩
theorem As2 (x:OpL) (V:Nat):x.cells.setIfInBounds 26 (.int .u64 (V:Int))=({x with s:=V}:OpL).cells:=rfl
def Hd (o:Op) (bad:Bool):Op:=if bad=true then Bi o else o
theorem As3 (x:OpL) (bad:Bool) (w:World) (hat:x.at w w.heap.size) (hok:x.op.ok) (hs:x.s<2305843009213693950):
  Calls zp 21 #[.agg x.cells,.bool bad] w (NewB w (Hd x.op bad).put):=by
 have ac:(zp.info? 55).map (·.size)=some 27:=by kernel_rfl
 have bx:=Blk.new w 55 x.cells;have f0:Fr Non w (w.alloc (.cells x.cells 55)):=(Fr.refl Non w).alloc _
 have aa:Hid (∀(o:Op) (A:Option Addr) (n c:Nat) (wv w':World),o=Hd x.op bad->Fr Non w wv->Own w' wv.heap.size 5 1 A n c (o.put.map Bv)->Fr Non wv w'->NewB w (Hd x.op bad).put (.returned (.slice A n c)) w'):=by
  intro o A n c wv w' h1 h2 h3 h4;subst h1;exact NewB.mk (h3.lower h2.size) rfl rfl (h2.trans h4 zr)
 generalize NewB w (Hd x.op bad).put=POST at*;obtain ⟨xb,ad⟩:=Aa w.heap.size;rw [ad.out] at bx
 cases bad
 case false=>
  have kp:=lh (Gw x _ (OpL.frame hat f0) hok);unfold NewB at kp;have hl:=B0 (P:=zp) xb 55 underlying55 rfl (cs:=x.cells) ac;obtain ⟨n,hn⟩:=Aa x.op.put.length;rw [hn.out] at kp;obtain ⟨XC,af⟩:=Aa x.cells;rw [af.out] at bx f0 kp hl ⊢;clear hat hok hs;go_enter func21,ntmps21;go_upto_region 1 with (fail)
  try rw [ad.out]
  generalize w.alloc (.cells XC 55)=w0 at*;go_wp2_with (go_at_call 23;(with_reducible refine (kp.out).mono ?_);rintro _ w1 ⟨A1,c1,rfl,o1,f1⟩;(have hd:=lh (aa.out x.op A1 n c1 w0 w1 rfl f0 o1 f1)));exact hd.out
 case true=>
  obtain ⟨V,hV⟩:∃V:Nat,Hid ((x.s+1)%2305843009213693950=V):=⟨_,rfl⟩;have ao:V<2305843009213693950:=by rw [<- hV.out];exact Au1 _ (by decide)
  obtain ⟨y,hy⟩:∃y:OpL,Hid (y={x with s:=V}):=⟨_,rfl⟩;have ak:Hid (y.op=Hd x.op true):=by show _=_;rw [hy.out,<- hV.out];rfl
  have ah:y.op.ok:=by rw [hy.out];exact {hok with s:=by show V<18446744073709551616;omega}
  have ab:∀w',Fr Non w w'->y.at w' w'.heap.size:=fun w' h=>by
   have:=OpL.frame hat h;rw [hy.out];exact ⟨this.past,this.path,this.nodes,this.body,this.refs,this.guards,this.boxes,this.hist,this.seals⟩
  have kp:=lh (fun (w':World) (h:Fr Non w w')=>Gw y w' (ab w' h) ah);unfold NewB at kp;obtain ⟨n,hn⟩:=Aa y.op.put.length;rw [hn.out] at kp;have hl:=B0 (P:=zp) xb 55 underlying55 rfl (cs:=y.cells) ac;have ag:cU (w.alloc (.cells x.cells 55)) xb 26 x.s:=bx.cell 26;have ai:(w.alloc (.cells x.cells 55)).frozen? ⟨xb,26,none⟩=false:=bx.frozen 26;have ae:=bx.set 26 (.int .u64 (V:Int));rw [As2,<- hy.out] at ae;have f2:Fr Non w ((w.alloc (.cells x.cells 55)).setCell ⟨xb,26,none⟩ (.int .u64 (V:Int))):=f0.setCell (p:=⟨xb,26,none⟩) (fun hh=>absurd hh (by show ¬xb<_;have:=ad.out;omega)) _;have e1:IntKind.u64.wrap ((x.s:Int)+1)=(x.s:Int)+1:=by rw [IntKind.wrap_u64];omega
  have e2:((x.s:Int)+1).tmod 2305843009213693950=(V:Int):=by rw [Av5 (by omega),<- hV.out];omega
  have e3:IntKind.u64.wrap (V:Int)=(V:Int):=by rw [IntKind.wrap_u64];omega
  have al:¬(2305843009213693950:Int)=0:=by decide
  have ap:((2305843009213693950:Int)==0)=false:=by decide
  obtain ⟨XC,af⟩:=Aa x.cells;rw [af.out] at bx f0 ag ai ae f2 ⊢;obtain ⟨YC,aj⟩:=Aa y.cells;rw [aj.out] at ae hl kp;obtain ⟨S,hS⟩:=Aa x.s;rw [hS.out] at ag e1 e2;clear hat hok hs ab ah;go_enter func21,ntmps21;generalize (2305843009213693950:Int)=PM at*;go_upto_region 1 with (fail)
  try rw [ad.out]
  generalize w.alloc (.cells XC 55)=w0 at*;go_upto_region 3 with (fail)
  generalize w0.setCell ⟨xb,26,none⟩ (.int .u64 (V:Int))=w2 at*;go_wp2_with (go_at_call 23;(with_reducible refine (kp.out _ f2).mono ?_);rintro _ w1 ⟨A1,c1,rfl,o1,f1⟩;(have hd:=lh (aa.out y.op A1 n c1 w2 w1 ak.out f2 o1 f1)));exact hd.out
end Oq
namespace Oq
theorem As4 {α β:Type} (f:α->β) (l:List α) (i:Nat):(l.map f).eraseIdx i=(l.eraseIdx i).map f:=by
 rw [Au7,Au7,At2,List.map_take,List.map_drop]
theorem As5 {K:List Nat} {W:List (Nat × Bool)} {i:Nat} {q:Nat × Bool} (hi:W[i]? =some q):(K++[q.1]++(W.eraseIdx i).map Prod.fst).Perm (K++W.map Prod.fst):=by
 rw [Av1];refine List.Perm.append_left _ ?_;obtain ⟨hlt,e⟩:=List.getElem?_eq_some_iff.1 hi;rw [Au7];conv=>rhs;rw [<- Av7 i W,Av8 hlt]
 rw [e,At2,At2,List.map_cons];exact (Av9 (a:=q.1) (l₁:=(W.take i).map Prod.fst) (l₂:=(W.drop (i+1)).map Prod.fst)).symm
theorem Bm.kept {cards:List Cd} {l m:List Pn} {K:List Nat} {W:List (Nat × Bool)} {ws:List Op} (h:Bm cards l K W m ws) {W':List (Nat × Bool)} {p:Nat} (hp:p<l.length) (he:Aj cards m (Au l p)=0) (hw:∀q∈W',q.1<l.length) (hn:(K++[p]++W'.map Prod.fst).Nodup):Bm cards l (K++[p]) W' (m++[Ak m (Au l p)]) (W'.map (opB l)) where
 rl:=h.rl
 rm:=.snoc m _ h.rm he
 km:=by rw [At2,At2,h.km];rfl
 ww:=rfl
 kl q hq:=by
  rcases List.mem_append.1 hq with h1|h1
  · exact h.kl q h1
  · rw [List.mem_singleton.1 h1];exact hp
 wl:=hw
 nodup:=hn
theorem Bm.goOn {cards:List Cd} {l:List Pn} (hB:∀n∈l,n.o.s<2305843009213693950/\(Bi n.o).chk=0) (hlen:l.length<200):∀(f:Nat) (K:List Nat) (W:List (Nat × Bool)) (m:List Pn) (ws:List Op),Bm cards l K W m ws->
  Bm cards l (Ee l f K W).1 (Ee l f K W).2 (Bu cards f m ws).1 (Bu cards f m ws).2
 |0,K,W,m,ws,h=>h
 |f+1,K,W,m,ws,h=>by
  have hww:=h.ww;subst hww
  have hfi:(W.map (opB l)).findIdx? (fun o=>ready m o)=W.findIdx? (fun q=>Ca l K q.1):=by
   rw [List.findIdx?_map];congr 1;funext q;exact h.free q
  unfold Ee Bu;rw [hfi]
  cases hx:W.findIdx? (fun q=>Ca l K q.1) with
  |none=>exact h
  |some i=>
   dsimp only;obtain ⟨hlt,hr,_⟩:=List.findIdx?_eq_some_iff_getElem.1 hx;have hk:W[i]? =some W[i]:=At0 hlt;rw [Au6,hk];dsimp only [Option.map_some];generalize W[i]=q at hk hr;have hqm:=At9 hk;have hqn:q.1∉K:=fun hq=>(List.nodup_append.1 h.nodup).2.2 q.1 hq q.1 (Au8 hqm) rfl;have he:=h.err hB hlen (h.wl q hqm) hqn hr;rw [As4]
   by_cases hb:q.2=true
   ·
    rw [if_pos hb] at he;rw [if_pos hb,if_neg (by rw [he];decide)];refine Bm.goOn hB hlen f _ _ _ _ ⟨h.rl,h.rm,h.km,rfl,h.kl,fun x hx=>h.wl x ((Au2 _ _).mem hx),?_⟩;exact (List.Sublist.append_left ((Au2 W i).map Prod.fst) K).nodup h.nodup
   ·
    rw [if_neg hb] at he;rw [if_neg hb,if_pos he];have hoq:opB l q=Au l q.1:=by unfold opB;rw [if_neg hb]
    rw [hoq] at he ⊢;exact Bm.goOn hB hlen f _ _ _ _ (h.kept (h.wl q hqm) he (fun x hx=>h.wl x ((Au2 _ _).mem hx)) ((As5 hk).nodup_iff.2 h.nodup))
def Gk (l:List Pn) (s:List Nat × List (Nat × Bool)) (q:Nat × Bool):Int × (List Nat × List (Nat × Bool)):=
 if s.1.contains q.1=true\/s.2.any (fun x=>x.1==q.1)=true then (5,s)
 else if Ca l s.1 q.1=false then (0,(s.1,s.2++[q]))
 else if q.2=true then (12,s)
 else (0,Ee l s.2.length (s.1++[q.1]) s.2)
theorem Bm.take {cards:List Cd} {l m:List Pn} {K:List Nat} {W:List (Nat × Bool)} {ws:List Op} (h:Bm cards l K W m ws) (hB:∀n∈l,n.o.s<2305843009213693950/\(Bi n.o).chk=0) (hlen:l.length<200) {q:Nat × Bool} (hq:q.1<l.length):
  (Az cards (m,ws) (opB l q)).1=(Gk l (K,W) q).1/\Bm cards l (Gk l (K,W) q).2.1 (Gk l (K,W) q).2.2 (Az cards (m,ws) (opB l q)).2.1 (Az cards (m,ws) (opB l q)).2.2:=by
 have af:=h.ww;subst af
 have e1:(plc m (opB l q).name).isSome=K.contains q.1:=by
  rw [Ik,h.has,Bool.eq_iff_iff,At4,List.contains_iff_mem];constructor
  ·
   rintro ⟨p,hp,e⟩;rw [<- Hc h.rl (h.kl p hp) hq ((Id.eq_iff _ _).1 e)];exact hp
  · exact fun hk=>⟨q.1,hk,(Id.eq_iff _ _).2 rfl⟩
 have e2:(W.map (opB l)).any (fun x=>Id.eq x.name (opB l q).name)=W.any (fun x=>x.1==q.1):=by
  rw [List.any_map,Bool.eq_iff_iff,At4,At4];constructor
  ·
   rintro ⟨x,hx,e⟩;have e':=(Id.eq_iff _ _).1 e;rw [Ik,Ik] at e';exact ⟨x,hx,beq_iff_eq.2 (Hc h.rl (h.wl x hx) hq e')⟩
  ·
   rintro ⟨x,hx,e⟩;exact ⟨x,hx,(Id.eq_iff _ _).2 (by rw [Ik,Ik,beq_iff_eq.1 e])⟩
 unfold Az Gk;dsimp only;rw [e1,e2,h.free q]
 by_cases h1:K.contains q.1=true\/W.any (fun x=>x.1==q.1)=true
 ·
  rw [if_pos h1,if_pos h1];exact ⟨rfl,h⟩
 rw [if_neg h1,if_neg h1];have aa:q.1∉K:=fun hk=>h1 (.inl (List.contains_iff_mem.2 hk))
 have ab:q.1∉W.map Prod.fst:=fun hw=>by
  obtain ⟨x,hx,e⟩:=List.mem_map.1 hw;exact h1 (.inr (List.any_eq_true.2 ⟨x,hx,beq_iff_eq.2 e⟩))
 have ae:W.length<200:=by
  have e3:(W.map Prod.fst).length<=(List.range l.length).length:=E8 (List.nodup_append.1 h.nodup).2.1 (fun x hx=>by
   obtain ⟨y,hy,rfl⟩:=List.mem_map.1 hx;exact List.mem_range.2 (h.wl y hy))
  rw [Aw0,Au3] at e3;omega
 by_cases h2:Ca l K q.1=false
 ·
  rw [if_pos h2,if_pos h2,if_neg (by rw [Au3];omega)];refine ⟨rfl,h.rl,h.rm,h.km,by rw [At2];rfl,h.kl,fun x hx=> ?_,?_⟩
  ·
   rcases List.mem_append.1 hx with h3|h3
   · exact h.wl x h3
   · rw [List.mem_singleton.1 h3];exact hq
  ·
   rw [At2,<- Av1,Aw1];refine ⟨h.nodup,by simp,fun a ha b hb e=> ?_⟩;rw [List.map_cons,List.map_nil,Au0] at hb;rw [e,hb] at ha;exact (List.mem_append.1 ha).elim aa ab
 ·
  rw [if_neg h2,if_neg h2];have ad:Ca l K q.1=true:=(Bool.not_eq_false _).mp h2;have he:=h.err hB hlen hq aa ad
  by_cases hb:q.2=true
  ·
   rw [if_pos hb] at he;rw [if_pos (by rw [he];decide),if_pos hb,he];exact ⟨rfl,h⟩
  ·
   rw [if_neg hb] at he;have ac:opB l q=Au l q.1:=by unfold opB;rw [if_neg hb]
   rw [if_neg (by rw [he];exact fun hh=>hh rfl),if_neg hb];rw [ac] at he ⊢;refine ⟨rfl,?_⟩;rw [Au3];refine Bm.goOn hB hlen _ _ _ _ _ (h.kept hq he h.wl ?_)
   have hp:(K++[q.1]++W.map Prod.fst).Perm (q.1::(K++W.map Prod.fst)):=by
    rw [Av1];exact Av9
   refine hp.nodup_iff.2 (List.nodup_cons.2 ⟨fun hin=>(List.mem_append.1 hin).elim aa ab,h.nodup⟩)
theorem Ty {l:List Pn}:∀(f:Nat) (K:List Nat) (W:List (Nat × Bool)),W.length<=f->∀q∈(Ee l f K W).2,Ca l (Ee l f K W).1 q.1=false
 |0,K,W,hf,q,hq=>by
  have e:W=[]:=List.length_eq_zero_iff.1 (by omega);subst e
  cases hq
 |f+1,K,W,hf,q,hq=>by
  unfold Ee at hq ⊢
  cases hx:W.findIdx? (fun q=>Ca l K q.1) with
  |none=>
   rw [hx] at hq;dsimp only at hq ⊢;have:=List.findIdx?_eq_none_iff.1 hx q hq;simpa using this
  |some i=>
   rw [hx] at hq;dsimp only at hq ⊢;obtain ⟨hlt,_,_⟩:=List.findIdx?_eq_some_iff_getElem.1 hx;have hk:W[i]? =some W[i]:=At0 hlt;rw [hk] at hq ⊢;dsimp only at hq ⊢;exact Ty f _ _ (by rw [List.length_eraseIdx_of_lt hlt];omega) q hq
theorem Tz {l:List Pn}:∀(f:Nat) (K:List Nat) (W:List (Nat × Bool)),
  (∀q,(q∈K\/(q,false)∈W)->(q∈(Ee l f K W).1\/(q,false)∈(Ee l f K W).2))/\(∀q∈(Ee l f K W).1,q∈K\/(q,false)∈W)/\(∀x∈(Ee l f K W).2,x∈W)
 |0,K,W=>⟨fun _ h=>h,fun _ h=> .inl h,fun _ h=>h⟩
 |f+1,K,W=>by
  unfold Ee
  cases hx:W.findIdx? (fun q=>Ca l K q.1) with
  |none=>exact ⟨fun _ h=>h,fun _ h=> .inl h,fun _ h=>h⟩
  |some i=>
   dsimp only
   cases hk:W[i]? with
   |none=>exact ⟨fun _ h=>h,fun _ h=> .inl h,fun _ h=>h⟩
   |some x=>
    dsimp only;obtain ⟨h1,h2,h3⟩:=Tz (l:=l) f (if x.2=true then K else K++[x.1]) (W.eraseIdx i);have hxm:=At9 hk
    have hmem:∀y,y∈W->y=x\/y∈W.eraseIdx i:=fun y hy=>by
     obtain ⟨hlt,e⟩:=List.getElem?_eq_some_iff.1 hk;rw [<- Av7 i W,Av8 hlt] at hy;rw [Au7]
     rcases List.mem_append.1 hy with h|h
     · exact .inr (At3 _ h)
     ·
      rcases List.mem_cons.1 h with h|h
      · exact .inl (h.trans e)
      · exact .inr (At8 _ h)
    refine ⟨fun q hq=>h1 q ?_,fun q hq=> ?_,fun y hy=>(Au2 _ _).mem (h3 y hy)⟩
    ·
     rcases hq with hq|hq
     ·
      refine .inl ?_
      split
      · exact hq
      · exact At3 _ hq
     ·
      rcases hmem _ hq with e|e
      ·
       refine .inl ?_;rw [<- e,if_neg (show ¬(q,false).2=true from Av2)];exact At8 _ Av3
      · exact .inr e
    ·
     rcases h2 q hq with h|h
     ·
      split at h
      · exact .inl h
      ·
       rename_i hb
       rcases List.mem_append.1 h with h|h
       · exact .inl h
       ·
        refine .inr ?_;rw [List.mem_singleton.1 h];have e:x.2=false:=(Au9 _).mp hb;rw [<- e];exact hxm
     · exact .inr ((Au2 _ _).mem h)
def TrustSet (l:List Pn) (p:Nat) (S:Nat->Prop):Prop:=∀q,q<l.length->(S q<->q≠p/\∀id∈(Au l q).past,∃q',q'<l.length/\S q'/\(Au l q').name=id)
theorem TrustSet.one {cards:List Cd} {l:List Pn} (h:Rows cards l) {p:Nat} {S S':Nat->Prop} (h1:TrustSet l p S) (h2:TrustSet l p S'):∀q,q<l.length->(S q<->S' q):=by
 intro q
 induction q using Nat.strongRecOn with
 |_ q ih=>
  intro hq;rw [h1 q hq,h2 q hq];have hl:l[q]? =some l[q]:=At0 hq
  have hpar:∀id∈(Au l q).past,∀q',q'<l.length->(Au l q').name=id->q'<q:=fun id hid q' hq' e=>by
   rw [B2 hl] at hid;obtain ⟨r,hr,hr2⟩:=(h.ok q _ hl).par id hid;have hl':l[q']? =some l[q']:=At0 hq';have k1:=(h.ok q' _ hl').plc;rw [(h.ok q' _ hl').id,<- B2 hl',e,hr2] at k1;injection k1 with k1
   omega
  refine and_congr_right (fun _=>⟨fun g id hid=> ?_,fun g id hid=> ?_⟩)
  ·
   obtain ⟨q',a1,a2,a3⟩:=g id hid;exact ⟨q',a1,(ih q' (hpar id hid q' a1 a3) a1).1 a2,a3⟩
  ·
   obtain ⟨q',a1,a2,a3⟩:=g id hid;exact ⟨q',a1,(ih q' (hpar id hid q' a1 a3) a1).2 a2,a3⟩
theorem rtFree_iff {l:List Pn} {K:List Nat} {q:Nat}:Ca l K q=true<->∀id∈(Au l q).past,∃q'∈K,(Au l q').name=id:=by
 unfold Ca;rw [List.all_eq_true];refine forall_congr' (fun id=>forall_congr' (fun _=> ?_));rw [At4];exact ⟨fun ⟨q',h1,h2⟩=>⟨q',h1,(Id.eq_iff _ _).1 h2⟩,fun ⟨q',h1,h2⟩=>⟨q',h1,(Id.eq_iff _ _).2 h2⟩⟩
theorem Bm.trust {cards:List Cd} {l m:List Pn} {K:List Nat} {W:List (Nat × Bool)} {ws:List Op} (h:Bm cards l K W m ws) (hst:∀x∈W,Ca l K x.1=false) {p:Nat} (hp:p∉K) (hall:∀q,q<l.length->q≠p->q∈K\/(q,false)∈W):TrustSet l p (fun q=>q∈K):=by
 intro q hq;constructor
 ·
  intro hk;refine ⟨fun e=>hp (e▸hk),fun id hid=> ?_⟩;have h1:Au l q∈m.map Pn.o:=by rw [h.km];exact Au8 hk
  obtain ⟨n',hn',e2⟩:=List.mem_map.1 h1;obtain ⟨j,hj⟩:=Au5 hn';rw [<- e2] at hid;obtain ⟨r,_,hr⟩:=(h.rm.ok j n' hj).par id hid;have h2:(plc m id).isSome=true:=by rw [hr];rfl
  rw [h.has,At4] at h2;obtain ⟨q',a1,a2⟩:=h2;exact ⟨q',h.kl q' a1,a1,(Id.eq_iff _ _).1 a2⟩
 ·
  rintro ⟨hne,hpar⟩
  rcases hall q hq hne with hk|hw
  · exact hk
  ·
   have h1:Ca l K q=true:=rtFree_iff.2 (fun id hid=>by
    obtain ⟨q',_,a2,a3⟩:=hpar id hid;exact ⟨q',a2,a3⟩)
   rw [hst (q,false) hw] at h1
   cases h1
def Cw (cards:List Cd) (l:List Pn) (p:Nat):Nat->List Pn
 |0=>[]
 |k+1=>if k=p then Cw cards l p k else if Aj cards (Cw cards l p k) (Au l k)=0 then Cw cards l p k++[Ak (Cw cards l p k) (Au l k)] else Cw cards l p k
theorem Bm.refused {cards:List Cd} {l m:List Pn} {K:List Nat} (h:Bm cards l K [] m []) (hlen:l.length<200) {q:Nat} (hq:q<l.length) (hn:q∉K) (hr:Ca l K q=false):Aj cards m (Au l q)≠0:=by
 have h1:l[q]? =some l[q]:=At0 hq;have hid:=(h.rl.ok _ _ h1).id
 have hnew:plc m l[q].id=none:=by
  cases hp:plc m l[q].id with
  |none=>rfl
  |some j=>
   exfalso;have h2:(plc m l[q].id).isSome=true:=by rw [hp];rfl
   rw [h.has,At4] at h2;obtain ⟨p,hp2,e⟩:=h2;have e':=(Id.eq_iff _ _).1 e;rw [hid,<- B2 h1] at e';exact hn (Hc h.rl (h.kl p hp2) hq e'▸hp2)
 have hroom:m.length<200:=by
  have hk:K.Nodup:=(List.nodup_append.1 h.nodup).1;have e1:m.length=K.length:=by have:=congrArg List.length h.km;simpa using this
  have e2:K.length<=(List.range l.length).length:=E8 hk (fun x hx=>List.mem_range.2 (h.kl x hx));rw [Aw0] at e2;omega
 have hrd:ready m l[q].o=false:=by
  have:=h.free (q,false);rw [Nk] at this;rw [<- B2 h1,this];exact hr
 rw [B2 h1,Kc h.rl h.rm h.among h1 hnew hroom,if_pos]
 · decide
 ·
  unfold ready at hrd;simpa using hrd
theorem T0 {cards:List Cd} {l:List Pn} (h:Rows cards l) (hB:∀n∈l,n.o.s<2305843009213693950/\(Bi n.o).chk=0) (hlen:l.length<200) (p:Nat):∀k,k<=l.length->
  ∃K,Bm cards l K [] (Cw cards l p k) []/\(∀q∈K,q<k/\q≠p)/\∀q,q<k->q≠p->Ca l K q=true->q∈K
 |0,_=>⟨[],⟨h,.nil,rfl,rfl,fun _ h=>absurd h As9,fun _ h=>absurd h As9,List.nodup_nil⟩,fun _ h=>absurd h As9,fun q hq=>absurd hq (Nat.not_lt_zero q)⟩
 |k+1,hk=>by
  obtain ⟨K,h1,h2,h3⟩:=T0 h hB hlen p k (by omega);unfold Cw
  by_cases hp:k=p
  ·
   rw [if_pos hp];exact ⟨K,h1,fun q hq=>⟨by have:=(h2 q hq).1;omega,(h2 q hq).2⟩,fun q hq hqp hf=>h3 q (by omega) hqp hf⟩
  ·
   rw [if_neg hp];have hnk:k∉K:=fun hh=>by have:=(h2 k hh).1;omega
   by_cases hf:Ca l K k=true
   ·
    have he:=h1.err hB hlen (q:=(k,false)) (by show k<_;omega) hnk hf;rw [if_neg (show ¬(k,false).2=true from Av2)] at he;have hoq:opB l (k,false)=Au l k:=rfl;rw [hoq] at he;rw [if_pos he];refine ⟨K++[k],h1.kept (by omega) he (fun _ h=>absurd h As9) ?_,fun q hq=> ?_,fun q hq hqp hf2=> ?_⟩
    ·
     rw [List.map_nil,List.append_nil,Aw1];refine ⟨(List.nodup_append.1 h1.nodup).1,by simp,fun a ha b hb e=> ?_⟩;rw [Au0] at hb;exact hnk (hb▸e▸ha)
    ·
     rcases List.mem_append.1 hq with hh|hh
     · exact ⟨by have:=(h2 q hh).1;omega,(h2 q hh).2⟩
     · rw [List.mem_singleton.1 hh];exact ⟨by omega,hp⟩
    ·
     by_cases hqk:q=k
     · rw [hqk];exact At8 _ Av3
     ·
      refine At3 _ (h3 q (by omega) hqp (rtFree_iff.2 (fun id hid=> ?_)));obtain ⟨q',a1,a2⟩:=rtFree_iff.1 hf2 id hid
      rcases List.mem_append.1 a1 with hh|hh
      · exact ⟨q',hh,a2⟩
      ·
       exfalso;rw [List.mem_singleton.1 hh] at a2;have hl:l[q]? =some l[q]:=At0 (by omega);rw [B2 hl] at hid;obtain ⟨r,hr,hr2⟩:=(h.ok q _ hl).par id hid;have hl':l[k]? =some l[k]:=At0 (by omega);have k1:=(h.ok k _ hl').plc;rw [(h.ok k _ hl').id,<- B2 hl',a2,hr2] at k1;injection k1 with k1
       omega
   ·
    have hf':Ca l K k=false:=(Au9 _).mp hf;rw [if_neg (h1.refused hlen (by omega) hnk hf')];refine ⟨K,h1,fun q hq=>⟨by have:=(h2 q hq).1;omega,(h2 q hq).2⟩,fun q hq hqp hf2=> ?_⟩
    by_cases hqk:q=k
    · rw [hqk,hf'] at hf2;cases hf2
    · exact h3 q (by omega) hqp hf2
structure Il (l:List Pn) (p:Nat) (C:List Nat) (K:List Nat) (W:List (Nat × Bool)):Prop where
 pk:p∉K
 pw:(p,false)∉W
 tw:∀q,(q,true)∈W->q=p
 came:∀q∈C,q≠p->q∈K\/(q,false)∈W
 still:∀x∈W,Ca l K x.1=false
theorem Il.step {l:List Pn} {p:Nat} {C:List Nat} {K:List Nat} {W:List (Nat × Bool)} (h:Il l p C K W) {x:Nat × Bool} (hx:(x.2=true/\x.1=p)\/(x.2=false/\x.1≠p)):
  Il l p (C++[x.1]) (Gk l (K,W) x).2.1 (Gk l (K,W) x).2.2:=by
 have mk:∀K' W',p∉K'->(p,false)∉W'->(∀q,(q,true)∈W'->q=p)->(∀q∈C,q≠p->q∈K'\/(q,false)∈W')->(x.1≠p->x.1∈K'\/(x.1,false)∈W')->(∀y∈W',Ca l K' y.1=false)->Il l p (C++[x.1]) K' W':=by
  intro K' W' h1 h2 h3 h4 h5 h6;refine ⟨h1,h2,h3,fun q hq hne=> ?_,h6⟩
  rcases List.mem_append.1 hq with hq|hq
  · exact h4 q hq hne
  ·
   rw [Au0] at hq;subst hq;exact h5 hne
 unfold Gk;dsimp only
 by_cases h1:K.contains x.1=true\/W.any (fun y=>y.1==x.1)=true
 ·
  rw [if_pos h1];refine mk K W h.pk h.pw h.tw h.came (fun hne=> ?_) h.still
  rcases h1 with h1|h1
  · exact .inl (List.contains_iff_mem.1 h1)
  ·
   obtain ⟨y,hy,e⟩:=List.any_eq_true.1 h1;have e':=beq_iff_eq.1 e;obtain ⟨a,b⟩:=y;dsimp only at e';subst e'
   cases b with
   |false=>exact .inr hy
   |true=>exact absurd (h.tw _ hy) hne
 rw [if_neg h1]
 by_cases h2:Ca l K x.1=false
 ·
  rw [if_pos h2];refine mk K (W++[x]) h.pk (fun hm=> ?_) (fun q hq=> ?_) (fun q hq hne=>(h.came q hq hne).imp id (fun hw=>At3 _ hw)) (fun hne=> ?_) (fun y hy=> ?_)
  ·
   rcases List.mem_append.1 hm with hm|hm
   · exact h.pw hm
   ·
    rw [Au0] at hm
    rcases hx with ⟨a,_⟩|⟨_,b⟩
    · rw [<- hm] at a;cases a
    · rw [<- hm] at b;exact b rfl
  ·
   rcases List.mem_append.1 hq with hq|hq
   · exact h.tw q hq
   ·
    rw [Au0] at hq
    rcases hx with ⟨_,b⟩|⟨a,_⟩
    · rw [<- hq] at b;exact b
    · rw [<- hq] at a;cases a
  ·
   rcases hx with ⟨_,b⟩|⟨a,_⟩
   · exact absurd b hne
   ·
    refine .inr (At8 _ (List.mem_singleton.2 ?_));rw [<- a]
  ·
   rcases List.mem_append.1 hy with hy|hy
   · exact h.still y hy
   · rw [List.mem_singleton.1 hy];exact h2
 rw [if_neg h2]
 rcases hx with ⟨a,b⟩|⟨a,b⟩
 ·
  rw [if_pos a];exact mk K W h.pk h.pw h.tw h.came (fun hne=>absurd b hne) h.still
 ·
  rw [if_neg (by rw [a];exact Av2)];obtain ⟨g1,g2,g3⟩:=Tz (l:=l) W.length (K++[x.1]) W;refine mk _ _ (fun hm=> ?_) (fun hm=>h.pw (g3 _ hm)) (fun q hq=>h.tw q (g3 _ hq)) (fun q hq hne=>g1 q ((h.came q hq hne).imp (fun hk=>At3 _ hk) id)) (fun _=>g1 x.1 (.inl (At8 _ (List.mem_singleton.2 rfl)))) (Ty _ _ _ (At1 _))
  rcases g2 p hm with hk|hw
  ·
   rcases List.mem_append.1 hk with hk|hk
   · exact h.pk hk
   · rw [Au0] at hk;exact b hk.symm
  · exact h.pw hw
def Gl (cards:List Cd) (l:List Pn) (p:Nat) (s:List Pn × List Op) (q:Nat):List Pn × List Op:=if q=p then s else (Az cards s (Au l q)).2
def Fe (cards:List Cd) (l:List Pn) (p:Nat) (qs:List Nat) (s:List Pn × List Op):List Pn × List Op:=qs.foldl (Gl cards l p) s
theorem T2 (cards:List Cd) (l:List Pn) (p:Nat) (qs:List Nat) (q:Nat) (s:List Pn × List Op):Fe cards l p (qs++[q]) s=Gl cards l p (Fe cards l p qs s) q:=by
 unfold Fe;rw [List.foldl_append];rfl
def T3 (cards:List Cd) (l:List Pn) (p:Nat) (qs:List Nat):List Pn × List Op:=(Az cards (Fe cards l p qs (Az cards ([],[]) (Bi (Au l p))).2) (Bi (Au l p))).2
def TrSt (cards:List Cd) (l:List Pn) (p:Nat) (C:List Nat) (s:List Pn × List Op):Prop:=∃K W,Bm cards l K W s.1 s.2/\Il l p C K W
theorem TrSt.next {cards:List Cd} {l:List Pn} {p:Nat} {C:List Nat} {s:List Pn × List Op} (h:TrSt cards l p C s) (hB:∀n∈l,n.o.s<2305843009213693950/\(Bi n.o).chk=0) (hlen:l.length<200) {x:Nat × Bool} (hq:x.1<l.length) (hx:(x.2=true/\x.1=p)\/(x.2=false/\x.1≠p)):
  TrSt cards l p (C++[x.1]) (Az cards s (opB l x)).2:=by
 obtain ⟨K,W,h1,h2⟩:=h;obtain ⟨m,ws⟩:=s;exact ⟨_,_,(h1.take hB hlen hq).2,h2.step hx⟩
theorem TrSt.feed {cards:List Cd} {l:List Pn} {p:Nat} (hB:∀n∈l,n.o.s<2305843009213693950/\(Bi n.o).chk=0) (hlen:l.length<200):∀(qs:List Nat) (C:List Nat) (s:List Pn × List Op),(∀q∈qs,q<l.length)->TrSt cards l p C s->∃C',TrSt cards l p C' (Fe cards l p qs s)/\∀q,q≠p->(q∈C\/q∈qs)->q∈C'
 |[],C,s,_,h=>⟨C,h,fun q _ hq=>hq.elim id (fun h=>absurd h As9)⟩
 |q::qs,C,s,hqs,h=>by
  have hqs':∀y∈qs,y<l.length:=fun y hy=>hqs y (List.mem_cons_of_mem _ hy);show ∃C',TrSt cards l p C' (Fe cards l p qs (Gl cards l p s q))/\_
  by_cases e:q=p
  ·
   unfold Gl;rw [if_pos e];obtain ⟨C',g1,g2⟩:=TrSt.feed hB hlen qs C s hqs' h;refine ⟨C',g1,fun y hne hy=>g2 y hne (hy.imp id (fun hy=> ?_))⟩
   rcases List.mem_cons.1 hy with hy|hy
   · exact absurd (hy.trans e) hne
   · exact hy
  ·
   unfold Gl;rw [if_neg e];obtain ⟨C',g1,g2⟩:=TrSt.feed hB hlen qs _ _ hqs' (h.next (x:=(q,false)) hB hlen (hqs q Av3) (.inr ⟨rfl,e⟩));refine ⟨C',g1,fun y hne hy=>g2 y hne ?_⟩
   rcases hy with hy|hy
   · exact .inl (At3 _ hy)
   ·
    rcases List.mem_cons.1 hy with hy|hy
    · exact .inl (At8 _ (List.mem_singleton.2 hy))
    · exact .inr hy
theorem Bm.parents {cards:List Cd} {l m:List Pn} {K:List Nat} {W:List (Nat × Bool)} {ws:List Op} (h:Bm cards l K W m ws) {q:Nat} (hk:q∈K):∀id∈(Au l q).past,∃q',q'<l.length/\q'∈K/\(Au l q').name=id:=by
 intro id hid;have h1:Au l q∈m.map Pn.o:=by rw [h.km];exact Au8 hk
 obtain ⟨n',hn',e2⟩:=List.mem_map.1 h1;obtain ⟨j,hj⟩:=Au5 hn';rw [<- e2] at hid;obtain ⟨r,_,hr⟩:=(h.rm.ok j n' hj).par id hid;have h2:(plc m id).isSome=true:=by rw [hr];rfl
 rw [h.has,At4] at h2;obtain ⟨q',a1,a2⟩:=h2;exact ⟨q',h.kl q' a1,a1,(Id.eq_iff _ _).1 a2⟩
theorem T4 {cards:List Cd} {l m:List Pn} {K:List Nat} {W:List (Nat × Bool)} {ws:List Op} (h:Bm cards l K W m ws) (x:Id):x∈m.map Pn.id<->∃q∈K,(Au l q).name=x:=by
 constructor
 ·
  intro hx;have h1:=h.rm.placed hx;rw [h.has,At4] at h1;obtain ⟨q,a1,a2⟩:=h1;exact ⟨q,a1,(Id.eq_iff _ _).1 a2⟩
 ·
  rintro ⟨q,a1,a2⟩;have h1:(plc m x).isSome=true:=by rw [h.has,At4];exact ⟨q,a1,(Id.eq_iff _ _).2 a2⟩
  obtain ⟨i,hi⟩:=Option.isSome_iff_exists.1 h1;obtain ⟨n,hn,e⟩:=Bo hi;rw [<- e];exact Au8 (At9 hn)
theorem As6 {cards:List Cd} {l:List Pn} (h:Rows cards l) (hB:∀n∈l,n.o.s<2305843009213693950/\(Bi n.o).chk=0) (hlen:l.length<200) {p:Nat} (hp:p<l.length) {qs:List Nat} (hqs:∀q∈qs,q<l.length) (hall:∀q,q<l.length->q∈qs):
  Ao ((T3 cards l p qs).1.map Pn.id)=Ao ((Cw cards l p l.length).map Pn.id):=by
 have hs0:TrSt cards l p [] ([],[]):=⟨[],[],⟨h,.nil,rfl,rfl,fun _ h=>absurd h As9,fun _ h=>absurd h As9,List.nodup_nil⟩,As9,As9,fun _ h=>absurd h As9,fun _ h=>absurd h As9,fun _ h=>absurd h As9⟩;have hs1:=hs0.next (x:=(p,true)) hB hlen hp (.inl ⟨rfl,rfl⟩);obtain ⟨C,hs2,hC⟩:=TrSt.feed hB hlen qs _ _ hqs hs1;have hs3:=hs2.next (x:=(p,true)) hB hlen hp (.inl ⟨rfl,rfl⟩);obtain ⟨K,W,h1,h2⟩:=hs3;have e:∀s,(Az cards s (opB l (p,true))).2=(Az cards s (Bi (Au l p))).2:=fun _=>rfl;have ht1:TrustSet l p (fun q=>q∈K):=h1.trust h2.still h2.pk (fun q hq hne=>h2.came q (At3 _ (hC q hne (.inr (hall q hq)))) hne);obtain ⟨K',g1,g2,g3⟩:=T0 h hB hlen p l.length (At1 _);have ht2:TrustSet l p (fun q=>q∈K'):=fun q hq=>⟨fun hk=>⟨(g2 q hk).2,g1.parents hk⟩,fun ⟨hne,hpar⟩=>g3 q hq hne (rtFree_iff.2 (fun id hid=>by obtain ⟨q',_,a2,a3⟩:=hpar id hid;exact ⟨q',a2,a3⟩))⟩;have hone:=TrustSet.one h ht1 ht2;refine Ll (Lk _) ((Dk _).trans ?_);refine (List.perm_ext_iff_of_nodup h1.rm.nodup g1.rm.nodup).2 (fun x=> ?_);have m1:=T4 h1 x;have m2:=T4 g1 x;rw [m2];refine m1.trans ⟨fun ⟨q,a,b⟩=>⟨q,(hone q (h1.kl q a)).1 a,b⟩,fun ⟨q,a,b⟩=>⟨q,(hone q (g1.kl q a)).2 a,b⟩⟩
end Oq
namespace Oq
attribute [local go_sem] At6 At7
attribute [local go_sem ↓] E9 Ia Be C4
theorem Np {a b c d:Nat} (h:(some ⟨a,b,none⟩:Option Addr)=some ⟨c,d,none⟩):a=c/\b=d:=by
 injection h with h
 injection h with h1 h2
 exact ⟨h1,h2⟩
theorem T5 {q:Nat} {u:Value} (h:Option.map Qv (some q)=some u):Value.int .i64 (q:Int)=u:=Option.some.inj h
theorem relayTrusts_law (A:Option Addr) (c:Nat) (l0:List Int) (pv tv:Int) (A':Option Addr) (c':Nat) (bs:List UInt8) (w:World) (hk:KindsAt w) (hr:Rd w w.heap.size 1 A l0.length (l0.map Iv)) (hnc:l0.length<=c) (hnm:c<=9223372036854775807) (hok:∀x∈l0,I64 x) (pv0: -9223372036854775808<=pv) (pv1:pv<=9223372036854775807) (tv0: -9223372036854775808<=tv) (tv1:tv<=9223372036854775807) (hr':Rd w w.heap.size 1 A' bs.length (bs.map Bv)) (hnc':bs.length<=c') (hnm':c'<=9223372036854775807):
  Calls zp 4 #[.slice A l0.length c,.int .i64 pv,.int .i64 tv,.slice A' bs.length c'] w (Ae true w):=by
 have dh:0<w.heap.size:=World.block_lt_of_cell? w _ (hk 0 (by decide));have km:=lh (Nj w.heap.size l0.length c A l0 w rfl hr (by omega) hok);unfold Ha at km;have cm:=fun (w':World) (hf:Fr Non w w')=>Tu w' (hk.fr hf);unfold Ae at cm;replace cm:=lh cm;have de:Hid (∀wz,Fr Non w wz->Ae true w (.returned (.bool true)) wz):=fun wz h=>⟨rfl,h⟩;have cv:=lh (fun (w':World) (hf:Fr Non w w')=>hk.fr hf);generalize Ae true w=POST at*;have a6:=lh (fun (r:FG) (v:World) (hv:Fr Non w v) (h:r.own v w.heap.size) (hne:r.l≠[])=>Ar8 w.heap.size w.heap.size 0 0 r none tv [] v h hne ⟨tv0,tv1⟩ rfl (Rd.nil v _ _ _) (fun x hx=>absurd hx As9));unfold Ko at a6;have ah:=lh (fun (v:World) (hv:Fr Non w v)=>Ar2 A' c' bs 40 v ((hr'.fr hv zr).mono hv.size) hnc' hnm' (by decide));unfold NewB at ah;obtain ⟨nb,gn⟩:=Aa bs.length;rw [gn.out] at ah ⊢;obtain ⟨b4,e7⟩:=Aa (bs.take 40);have dx:b4.length<=40:=by rw [<- e7.out,List.length_take];omega
 rw [e7.out,show ((40:Nat):Int)=40 from rfl] at ah;obtain ⟨n0,fg⟩:=Aa l0.length;rw [fg.out] at km ⊢;clear hk hr hnc hnm hok hr' hnc' hnm' tv0 tv1;go_enter func4,ntmps4;go_upto_region 2 with (go_at_call 10;(with_reducible refine (km.out).mono ?_);rintro _ w1 ⟨r,rfl,f1,ro,b2,fj⟩;(have bn:=Blk.new w1 28 #[.slice none 0 0,.slice none 0 0,.slice none 0 0,.slice none 0 0]);(have dw:=Cl (P:=zp) w1.heap.size 28 (cs:=r.cells) Cv (old:=#[.slice none 0 0,.slice none 0 0,.slice none 0 0,.slice none 0 0]) rfl (Gh r)))
 have bg:Blk ((w1.alloc (.cells #[.slice none 0 0,.slice none 0 0,.slice none 0 0,.slice none 0 0] 28)).setRow w1.heap.size r.cells) w1.heap.size 28 r.cells:=bn.setRow;have fG:Fr Non w1 ((w1.alloc (.cells #[.slice none 0 0,.slice none 0 0,.slice none 0 0,.slice none 0 0] 28)).setRow w1.heap.size r.cells):=((Fr.refl Non w1).alloc _).setRow (fun hh=>absurd hh (by omega)) _;have f2:=f1.trans fG zr;have ap:=ro.non fG;obtain ⟨gv,fy⟩:=Aa w1.heap.size;rw [fy.out] at bg f2 ap ⊢;clear dw bn fG ro f1 km;generalize (w1.alloc (.cells #[.slice none 0 0,.slice none 0 0,.slice none 0 0,.slice none 0 0] 28)).setRow gv r.cells=w2 at*;have hl:=B0 (P:=zp) gv 28 underlying28 rfl (cs:=r.cells) Cv;have em:r.l≠[]:=by rw [fj];exact Kl _ _
 have ac:=ap.rows;have cx:r.l.length<=14:=ap.num.few;have gf:0<r.l.length:=List.length_pos_iff.2 em;have ao:0<w2.heap.size:=At5 dh f2.size;have a4:=lh (fun (B np cp:Nat) (Ap:Option Addr) (ps:List Nat) (v:World) (hv:Fr Non w2 v) (hpn:Hid (ps.length=np)) (hrp:Rd v B 1 Ap np (ps.map Qv)) (hlt:Hid (∀p∈ps,p<r.l.length)) (hnp:np<=1000000)=>Tt w.heap.size B np cp r Ap ps v (ap.non hv) b2 hpn hrp hlt.out hnp (cv.out v (f2.trans hv zr)) (At5 ao hv.size));unfold Ij at a4;have au:(zp.info? 55).map (·.size)=some 27:=by kernel_rfl
 obtain ⟨L,hL⟩:=Aa r.l.length;have di:=Ar9 ac;have c1:w2.cell? ⟨gv,1,none⟩=some (.slice r.lA L r.lC):=by have h9:=bg.cell 1;rw [show r.cells[1]? =some (.slice r.lA r.l.length r.lC) from rfl,hL.out] at h9;exact h9
 have dv:r.cards.length=4:=by rw [b2,Hr];rfl
 have c0:w2.cell? ⟨gv,0,none⟩=some (.slice r.cA 4 r.cC):=by have h9:=bg.cell 0;rw [show r.cells[0]? =some (.slice r.cA r.cards.length r.cC) from rfl,dv] at h9;exact h9
 have co:=ap.cards.sl.rd;rw [dv,b2] at co;have kn:Hid (∀v,Fr Non w2 v->Calls zp 19 #[.slice r.cA 4 r.cC] v (Fa (As 0 [1,2,2,3]) v)):=fun v hv=>Nf w2.heap.size 4 r.cC r.cA [1,2,2,3] v rfl (by decide) (co.fr hv zr) (At5 ao hv.size);have kg:Hid (∀v,Fr Non w2 v->Calls zp 20 #[.slice r.cA 4 r.cC] v (Gf (As 0 [1,2,2,3]) v)):=fun v hv=>Sp w2.heap.size 4 r.cC r.cA [1,2,2,3] v rfl (by decide) (co.fr hv zr) (At5 ao hv.size);unfold Fa at kn;unfold Gf at kg;rw [hL.out] at cx gf;have c3:=lh (fun (v:World)=>Hg pv (L:Int) v pv0 pv1 (by omega) (by omega));obtain ⟨p,hp⟩:∃p:Nat,Cx pv (L:Int)=(p:Int):=⟨_,(Av0 (Fg (n:=pv) (m:=(L:Int)) (by omega)).1).symm⟩;have es:p<L:=by have:=(Fg (n:=pv) (m:=(L:Int)) (by omega)).2;omega
 rw [hp] at c3;clear hp pv0 pv1 dv co a4;go_upto_region 3 with (go_at_call 18;(with_reducible refine (c3.out _).mono ?_);rintro _ _ ⟨rfl,rfl⟩)
 go_upto_region 4 with (go_at_call 19;(with_reducible refine (kn.out _ (Fr.refl _ _)).mono ?_);rintro _ w3 ⟨ra,rfl,dt,b6,eg,f3⟩)
 have d0:=f3.cell c0 zq;go_upto_region 5 with (go_at_call 20;(with_reducible refine (kg.out _ f3).mono ?_);rintro _ w4 ⟨g,rfl,hg,ei,ep,f4⟩)
 have b3:=f3.trans f4 zr;obtain ⟨ab,d3⟩:=Aa ra.rb;obtain ⟨gb,ej⟩:=Aa g.gb;rw [d3.out,ej.out];have cj:Hid (ra.okAt w4 w2.heap.size):=dt.out.non f4;have ba:Hid (∀k,ra.own k->k<w3.heap.size):=fun k hk=>dt.out.lt hk;obtain ⟨n,y,yb,yo,hn,d5,dy,d6,d2,cd⟩:=ap.place (p:=p) (by rw [hL.out];exact es);have fl:y.s<2305843009213693950:=by have:=(di n (At9 hn)).1;rw [<- d5] at this;exact this
 have ct:w2.cell? ⟨gv,1,none⟩=some (.slice (some ⟨yb,yo,none⟩) L r.lC):=by rw [<- d2];exact c1
 have ee:=Et (P:=zp) y.cells yb (yo+p*27) underlying55 rfl au w4 (cd.fr b3 zq);have ce:=lh (As3 y true w4 (d6.non b3).at dy fl);unfold NewB at ce;have ez:Hid (∃m,(Bi (Au r.l p)).put.length=m/\m<=500000):=⟨_,rfl,by rw [B2 hn];exact Ar6 ac hn _⟩;obtain ⟨m7,d8,gt⟩:=ez.out;have eh:Hd y.op true=Bi (Au r.l p):=by rw [B2 hn,d5];rfl
 rw [eh,d8] at ce;have dg:(Bi (Au r.l p)).ok:=by rw [B2 hn,<- d5];exact As0 dy
 have gk:=b3.cell ct zq;have bc:=lh d2;obtain ⟨q1,q2,q3⟩:=ix p L
 obtain ⟨YC,e8⟩:=Aa y.cells;rw [e8.out] at ee ce;have fb:Hid (w2.heap.size<=w3.heap.size):=f3.size;clear kn kg c3 c0 d0 ez d6 dy cd d2 e8;go_upto_region 8 with (go_at_call 21;(with_reducible refine (ce.out).mono ?_);rintro _ w5 ⟨A7,c7,rfl,o7,f5⟩)
 have b1:=b3.trans f5 zr;have fc:=bg.fr b1 zq;have en:=f2.trans b1 zr;have et:=ap.non b1;go_upto_region 9 with (go_at_call 12;(with_reducible refine (a6.out r _ en et em).mono ?_);rintro _ w6 ⟨ps,A8,n8,c8,rfl,dl,o8,a9,a1,gp,f6⟩)
 have cu:=b1.trans f6 zr;have fm:=f2.trans cu zr;have cl:=f5.trans f6 zr;have dm:=o7.fr f6 zr;have al:Hid (ra.okAt w6 w2.heap.size):=cj.out.non cl;have d9:Hid (GAt w6 w3.heap.size g):=hg.fr cl;have bb:Hid (∀k,g.own k->w3.heap.size<=k/\k<w6.heap.size):=fun k hk=>⟨hg.ge hk,At5 (hg.lt hk) cl.size⟩;have a7:Hid (ra.g.cards=r.cards):=eg.out.trans b2.symm;have cy:Hid (g.cards=r.cards):=by show _=_;rw [ep];exact b2.symm
 have gg:Hid (g.pns=[]):=by show _=_;unfold Gph.pns;rw [ei];rfl
 have hB:=lh di;have cw:=lh (fun (A:Option Addr) (c B:Nat) (s:Ad) (v:World) (hs:s.okAt v w2.heap.size) (hv:Fr Non w2 v) (hrd:Rd v B 1 A m7 ((Bi (Au r.l p)).put.map Bv))=>Ii w2.heap.size B m7 c A s (Bi (Au r.l p)) v hs (cv.out v (f2.trans hv zr)) d8 hrd (by omega) dg);unfold TakeRPost at cw;have c2:=lh (cw.out A7 c7 w6.heap.size ra w6 al.out cu dm.rd);rw [d3.out,b6.out,a7.out] at c2;clear ce a6 o7 cj dt hg ei ep eg f3 f4 f5 f6 gk et fc en b1 b3 cl di eh;go_upto_region 10 with (go_at_call 22;(with_reducible refine (c2.out).mono ?_);rintro _ w7 ⟨rfl,r7,av,bd⟩)
 have er:Fr Non w2 w7:=al.out.below av.out.fr cu (At1 _);have df:=dm.keepT av.out.fr al.out.types (by unfold Rty Gty;decide);have ek:=o8.keepT av.out.fr al.out.types (by unfold Rty Gty;decide);have e5:Fr (fun k=>k<w3.heap.size) w6 w7:=av.out.fr.mono (fun k _ e=>ba.out k e);have a3:Hid (∀k,k<w6.heap.size->r7.own k->k<w3.heap.size):=fun k hk e=>ba.out k (av.out.sub k hk e);have cf:Hid (r7.okAt w7 w2.heap.size):=av.out.ok;have cb:Hid (r7.rb=ab):=av.out.rb.trans d3.out;have b9:Hid (r7.g.cards=r.cards):=av.out.cards.trans a7.out;obtain ⟨S1,du⟩:=Aa (Az r.cards ([],[]) (Bi (Au r.l p))).2;rw [du.out] at bd;clear c2 av b6 al ba a7 dm o8;have b7:=df.row;go_wp2_with fail
 go_loopw [15] (fun v wr=>∃(i:Nat) (r1:Ad),v=.int .i64 (i:Int)/\i<=n8/\Hid (r1.okAt wr w2.heap.size)/\Hid (r1.rb=ab)/\Hid (r1.g.cards=r.cards)/\Hid (r1.st=Fe r.cards r.l p (ps.take i) S1)/\Own wr w4.heap.size 5 1 A7 m7 c7 ((Bi (Au r.l p)).put.map Bv)/\Own wr w5.heap.size 3 1 A8 n8 c8 (ps.map Qv)/\Fr Non w2 wr/\Fr (fun k=>k<w3.heap.size) w6 wr/\Hid (∀k,k<w6.heap.size->r1.own k->k<w3.heap.size)) (fun v _=>n8-(intOf v).toNat)
 case atStart=>exact ⟨0,r7,rfl,Nat.zero_le _,cf,cb,b9,bd,df,ek,er,e5,a3⟩
 case round=>
 clear cf cb b9 bd df ek e5 a3;obtain ⟨i,r1,rfl,hi,be,af,ai,ae,cn,ck,hf,bh,ad⟩:=hrel;have e1:=hf.cell ct zq
 by_cases hin:i<n8
 case pos=>
  have t0:decide ((i:Int)<(n8:Int))=true:=decide_eq_true (by omega);have fv:decide (i<n8)=true:=decide_eq_true hin;obtain ⟨q,hq⟩:∃q,ps[i]? =some q:=⟨_,At0 (by rw [dl.out];exact hin)⟩;have dd:=a9.out q (At9 hq);rw [hL.out] at dd;have f8:=lh hq;obtain ⟨bp,op,u,gh,_,hu,cq⟩:=ck.rd.at hin;subst gh;rw [Au6,hq] at hu;rw [<- T5 hu] at cq;replace cq:cI wr bp (op+i) (q:Int):=cq;obtain ⟨i1,i2,i3⟩:=ix i n8
  have e6:=iw ((i:Int)+1)
  by_cases hqp:q=p
  ·
   have v0:((q:Int) !=(p:Int))=false:=by rw [hqp];simp
   have v1:((p:Int) !=(p:Int))=false:=by simp
   have ar:Hid (r1.st=Fe r.cards r.l p (ps.take (i+1)) S1):=by show _=_;rw [ae.out,Dd hq,T2];unfold Gl;rw [if_pos hqp]
   clear ae hq;go_wp2_with fail;go_roundw
   case rel=>exact ⟨i+1,r1,by go_num,by omega,be,af,ai,ar,cn,ck,hf,bh,ad⟩
   case measure=>simp [intOf];omega
  have v0:((q:Int) !=(p:Int))=true:=by simp;omega
  obtain ⟨n',z,zb,zo,bi,bl,bq,bx,cc,aa⟩:=ap.place (p:=q) (by rw [hL.out];exact dd);have dq:yb=zb/\yo=zo:=Np (bc.out.symm.trans cc);obtain ⟨aj,ak⟩:=dq;rw [<- aj,<- ak] at aa;clear aj ak;obtain ⟨p1,p2,p3⟩:=ix q L
  have ch:=Et (P:=zp) z.cells yb (yo+q*27) underlying55 rfl au;have gm:∀w',RgAt w' yb (yo+q*27) z.cells.toList->(ldS 55 (.pointer (some ⟨yb,yo+q*27,none⟩))).run zp w'=.ok (.agg z.cells) w':=fun w' h=>ch w' h;have kp:=lh (fun (w':World) (bu:Fr Non w2 w')=>Gw z w' (bx.non bu).at bq);unfold NewB at kp;have ec:Hid (∃m,z.op.put.length=m/\m<=500000):=⟨_,rfl,by rw [bl];exact Km ac bi⟩;obtain ⟨m,hm,gr⟩:=ec.out;have kt:=lh (fun (A:Option Addr) (c:Nat) (w':World) (bu:Fr Non wr w') (hrd:Rd w' w'.heap.size 1 A m (z.op.put.map Bv))=>Ii w2.heap.size w'.heap.size m c A r1 z.op w' (be.out.non bu) (cv.out w' (f2.trans (hf.trans bu zr) zr)) hm hrd (by omega) bq);unfold TakeRPost at kt;rw [af.out] at kt;rw [hm] at kp
  have a0:Hid (∀r2:Ad,r2.st=(Az r1.g.cards r1.st z.op).2->r2.st=Fe r.cards r.l p (ps.take (i+1)) S1):=by
   intro r2 h2;rw [h2,ai.out,ae.out,Dd hq,T2,bl];unfold Gl;rw [if_neg hqp,B2 bi]
  obtain ⟨ZC,b5⟩:=Aa z.cells;rw [b5.out] at aa gm kp;clear ec hm bq bx ch ae hq dd bi bl cc b5 hqp;go_upto_region 14 with (fail)
  have C0:=e1;have D0:=cq;have R0:RgAt wr yb (yo+q*27) ZC.toList:=aa.fr hf zq;have F0:Fr Non wr wr.drew:=(Fr.refl Non wr).drew;have G0:Fr Non w2 wr.drew:=hf.drew;refine wp_region_held_drew (S:=fun w'=>cS w' gv 1 (some ⟨yb,yo,none⟩) L r.lC/\cI w' bp (op+i) (q:Int)/\RgAt w' yb (yo+q*27) ZC.toList) (by kernel_rfl) ⟨C0,D0,R0⟩ (fun hHeld=> ?_);clear hHeld;have uu:=aI C0 (aI D0 R0);refine tkH 0 uu (h:=tkH 1 uu (h:=tkH 2 uu (h:=tkH 3 uu (h:=tkH 4 uu (h:=tkH 5 uu (h:=tkH 6 uu (h:=tkH 7 uu (h:=tkH 8 uu (h:=?_)))))))));clear uu;simp only [zl];refine oG 9 (fun K hK=> ?_);go_simp;go_wp2_with (go_at_call 23;(with_reducible refine (kp.out _ G0).mono ?_);rintro _ v1 ⟨A5,c5,rfl,fn,gi⟩;have F1:=F0.trans gi zr;obtain ⟨C1,D1⟩:=zk2 F1 C0 D0;have R1:=RgAt.fr (S:=Non) R0 F1 zq;have G1:=hf.trans F1 zr);refine hK.out _ _ ⟨C1,D1,R1⟩ (fun hZ=> ?_);clear hZ hK K;try simp only [Ai,zl]
  refine oG 10 (fun K hK=> ?_);go_simp;go_wp2_with (go_at_call 22;(with_reducible refine (kt.out _ _ _ F1 fn.rd).mono ?_);rintro _ v2 ⟨rfl,r2,ay,ar⟩);have a8:=be.out.non F1;have G2:Fr Non w2 v2:=a8.below ay.out.fr G1 (At1 _);have fw:=(cn.fr F1 zr).keepT ay.out.fr a8.types (by unfold Rty Gty;decide);have ev:=(ck.fr F1 zr).keepT ay.out.fr a8.types (by unfold Rty Gty;decide);have C2:=G2.cell ct zq
  have D2:v2.cell? ⟨bp,op+i,none⟩=some (.int .i64 (q:Int)):=by
   obtain ⟨gs,gu,u',fq,_,d7,e0⟩:=ev.rd.at hin;obtain ⟨ea,eb⟩:=Np fq;rw [Au6,f8.out] at d7;rw [<- ea,<- eb,<- T5 d7] at e0;exact e0
  have R2:RgAt v2 yb (yo+q*27) ZC.toList:=aa.fr G2 zq;refine hK.out _ _ ⟨C2,D2,R2⟩ (fun hZ=> ?_);clear hZ hK K;try simp only [Ai,zl]
  refine oD ?_;go_simp;have d1:=lh (a0.out r2 ar.out);have ga:Hid (r2.okAt v2 w2.heap.size):=ay.out.ok;have c4:Hid (r2.rb=ab):=ay.out.rb.trans af.out;have dc:Hid (r2.g.cards=r.cards):=ay.out.cards.trans ai.out;have ca:Fr (fun k=>k<w3.heap.size) w6 v1:=bh.trans F1 (fun _ _ e=>e.elim);have cz:Fr (fun k=>k<w3.heap.size) w6 v2:=ca.trans ay.out.fr (fun k hk e=>ad.out k hk e);have ci:Hid (∀k,k<w6.heap.size->r2.own k->k<w3.heap.size):=fun k hk e=>ad.out k hk (ay.out.sub k (At5 hk ca.size) e);clear a0 kt kp ay ar be af ai ad bh;go_wp2_with fail;go_roundw
  case rel=>exact ⟨i+1,r2,by go_num,by omega,ga,c4,dc,d1,fw,ev,G2,cz,ci⟩
  case measure=>simp [intOf];omega
 case neg=>
 obtain rfl:i=n8:=by omega
 have t0:decide ((i:Int)<(i:Int))=false:=decide_eq_false (by omega);have fv:decide (i<i)=false:=decide_eq_false (by omega);rw [Au4 (by rw [dl.out];exact At1 _)] at ae;have db:=lh (cw.out A7 c7 wr.heap.size r1 wr be.out hf cn.rd);rw [af.out,ai.out,ae.out] at db;clear ck cw;go_upto_region 16 with (go_at_call 22;(with_reducible refine (db.out).mono ?_);rintro _ w9 ⟨rfl,r9,bj,bv⟩)
 have ey:Fr Non w2 w9:=be.out.below bj.out.fr hf (At1 _);have ef:Fr (fun k=>k<w3.heap.size) w6 w9:=bh.trans bj.out.fr (fun k hk e=>ad.out k hk e)
 have ew:Hid (∀k,g.own k->¬r9.own k):=fun k hk e=>by
  have h1:=bb.out k hk;have h2:=ad.out k h1.2 (bj.out.sub k (At5 h1.2 bh.size) e);omega
 have d4:Hid (GAt w9 w3.heap.size g):=d9.out.over ef (fun k h1 h2=>by omega);have cg:Hid (r9.okAt w9 w2.heap.size):=bj.out.ok;have b8:Hid (r9.rb=ab):=bj.out.rb.trans af.out;have a5:Hid (r9.st=T3 r.cards r.l p ps):=by show _=_;rw [bv.out,<- du.out];rfl
 have bw:Hid (Ao (r9.g.pns.map Pn.id)=Ao ((Cw r.cards r.l p r.l.length).map Pn.id)):=by
  show _=_;have h1:=As6 ac hB.out (by rw [hL.out];omega) (p:=p) (by rw [hL.out];exact es) a9.out a1.out;rw [<- a5.out] at h1;exact h1
 have f0:w2.heap.size<=w3.heap.size:=fb.out;clear bj bv a5 db be af ai ae ad bh cn d9 du hf e1 dl a9 a1 ef;generalize wr=wq at*;go_wp2_with fail
 go_loopw [16] (fun v wr=>∃(k:Nat) (g1:Gph),v=.int .i64 (k:Int)/\k<=L/\Hid (GAt wr w3.heap.size g1)/\Hid (g1.gb=gb)/\Hid (g1.cards=r.cards)/\Hid (g1.pns=Cw r.cards r.l p k)/\Fr g.own w9 wr/\Hid (∀j,j<w9.heap.size->g1.own j->g.own j)) (fun v _=>L-(intOf v).toNat)
 case atStart=>exact ⟨0,g,rfl,Nat.zero_le _,d4,ej,cy,gg,Fr.refl _ _,fun _ _ e=>e⟩
 case round=>
 obtain ⟨k,g1,rfl,hk,bk,ax,aw,ag,bt,bz⟩:=hrel;have bo:Fr Non w2 wr:=ey.trans bt (fun j hj e=>by have h1:=(bb.out j e).1;omega);have e1:=bo.cell ct zq
 by_cases hkL:k<L
 case pos=>
  have u0:decide ((k:Int)<(L:Int))=true:=decide_eq_true (by omega);have fa:decide (k<L)=true:=decide_eq_true hkL;have e6:=iw ((k:Int)+1)
  by_cases hkp:k=p
  ·
   have v0:((k:Int) !=(p:Int))=false:=by rw [hkp];simp
   have v1:((p:Int) !=(p:Int))=false:=by simp
   have az:Hid (g1.pns=Cw r.cards r.l p (k+1)):=by show _=_;rw [ag.out];conv=>rhs;unfold Cw;rw [if_pos hkp]
   clear ag;go_wp2_with fail;go_roundw
   case rel=>exact ⟨k+1,g1,by go_num,by omega,bk,ax,aw,az,bt,bz⟩
   case measure=>simp [intOf];omega
  have v0:((k:Int) !=(p:Int))=true:=by simp;omega
  obtain ⟨n',z,zb,zo,bi,bl,bq,bx,cc,aa⟩:=ap.place (p:=k) (by rw [hL.out];exact hkL);have dq:yb=zb/\yo=zo:=Np (bc.out.symm.trans cc);obtain ⟨aj,ak⟩:=dq;rw [<- aj,<- ak] at aa;clear aj ak;obtain ⟨p1,p2,p3⟩:=ix k L
  have dz:=Et (P:=zp) z.cells yb (yo+k*27) underlying55 rfl au wr (aa.fr bo zq);have kz:=lh (As1 bk.out ax.out ag.out (bx.non bo).at bq (cv.out wr (f2.trans bo zr)));unfold Tx at kz
  have az:Hid (∀g2:Gph,(g2.pns=if Aj g1.cards (Cw r.cards r.l p k) z.op=0 then Cw r.cards r.l p k++[Ak (Cw r.cards r.l p k) z.op] else Cw r.cards r.l p k)->g2.pns=Cw r.cards r.l p (k+1)):=by
   intro g2 h;rw [h,aw.out,bl,<- B2 bi];conv=>rhs;unfold Cw;rw [if_neg hkp]
  obtain ⟨ZC,b5⟩:=Aa z.cells;rw [b5.out] at dz kz;clear bq bx bi bl cc b5 hkp aa ag;go_wp2_with (go_at_call 24;(with_reducible refine (kz.out).mono ?_);rintro _ wz ⟨⟨E,rfl⟩,g2,e9,dk,ds,b0,fz,gc⟩);have fo:Fr g.own w9 wz:=bt.trans fz (fun j hj e=>bz.out j hj e);have dj:Hid (∀j,j<w9.heap.size->g2.own j->g.own j):=fun j hj e=>bz.out j hj (gc.out j (At5 hj bt.size) e);have dr:=lh (az.out g2 b0.out);have dn:Hid (g2.cards=r.cards):=ds.out.trans aw.out;clear kz az b0 bk bz;go_roundw
  case rel=>exact ⟨k+1,g2,by go_num,by omega,e9,dk,dn,dr,fo,dj⟩
  case measure=>simp [intOf];omega
 case neg=>
 obtain rfl:k=L:=by omega
 have u0:decide ((k:Int)<(k:Int))=false:=decide_eq_false (by omega);have fa:decide (k<k)=false:=decide_eq_false (by omega);have hok:Hid (r9.okAt wr w2.heap.size):=cg.out.apart bt d4.out.types ew.out;have e3:=f2.trans bo zr;have a2:=lh (fun (w':World) (h:Fr Non wr w')=>Ng w2.heap.size r9 w' (hok.out.non h));have br:=lh (fun (w':World) (h:Fr Non wr w')=>Kj w2.heap.size r9 w' (hok.out.non h))
 have bf:Hid (∀w',Fr Non wr w'->Calls zp 25 #[.pointer (some ⟨gb,0,none⟩)] w' (Ez (Ao (g1.pns.map Pn.id)) w')):=by
  intro w' bu;have:=R7 w3.heap.size g1 w' Mp (bk.out.fr bu);rw [ax.out] at this;refine this.mono ?_;rintro e gq ⟨A5,c5,out,rfl,hp,hs,o5,f5⟩;obtain rfl:=Ll hs (Sq rfl hp);exact ⟨A5,c5,rfl,o5,f5⟩
 have gj:(Ao (g1.pns.map Pn.id)).length<=200:=by rw [H4,Au3];unfold Gph.pns;rw [Au3];exact bk.out.few
 rw [b8.out,bw.out,hL.out,<- ag.out] at a2;rw [b8.out] at br;obtain ⟨IS,eo⟩:=Aa (Ao (g1.pns.map Pn.id));rw [eo.out] at a2 bf gj;have bm:Hid (∀(A5 A6:Option Addr) (c5 c6:Nat) (w':World),Rd w' w'.heap.size 3 A5 IS.length (IS.flatMap Id.cells)->Rd w' w'.heap.size 3 A6 IS.length (IS.flatMap Id.cells)->Calls zp 14 #[.slice A5 IS.length c5,.slice A6 IS.length c6] w' (Ae true w')):=fun A5 A6 c5 c6 w' h1 h2=>Ar4 w'.heap.size IS.length c5 w'.heap.size IS.length c6 A5 A6 IS IS w' rfl rfl h1 h2 (by omega) true (by simp);unfold Ae at bm;unfold Ez at a2 bf;obtain ⟨NI,eu⟩:=Aa IS.length;rw [eu.out] at a2 bf bm;obtain ⟨NW,e4⟩:=Aa r9.ws.length;rw [e4.out] at br;obtain ⟨m4,dp⟩:=Aa b4.length;rw [dp.out] at ah dx;obtain ⟨E,hE⟩:=Aa (get b4).2;have aq:=lh (fun (A:Option Addr) (c:Nat) (v:World) (hrd:Rd v v.heap.size 1 A m4 (b4.map Bv))=>Lr v.heap.size m4 c A b4 v dp hrd (by omega));unfold Fs at aq;rw [hE.out] at aq;have a4:=lh (fun (A:Option Addr) (c:Nat) (v:World) (hrd:Rd v v.heap.size 1 A m4 (b4.map Bv)) (h0:E≠0)=>Ar5 ab v.heap.size m4 c A b4 E v dp hrd (by omega) hE.out h0);unfold Kn at a4;generalize wr=wk at*;have k0:=Fr.refl Non wk;clear hok cg d4 bk ag bw ax aw bt bz ew bb ap bg hl ac hB eo eu e4 bc ee ey cu er fm bo
 go_upto_region 23 with (first
  |(go_at_call 15;(with_reducible refine (a2.out _ k0).mono ?_);rintro _ wa ⟨A5,c5,rfl,o5,f5⟩)
  |(go_at_call 25;(with_reducible refine (bf.out _ f5).mono ?_);rintro _ wb ⟨A6,c6,rfl,o6,f6⟩;have e2:=o5.rd.fr f6 zr)
  |(go_at_call 14;(with_reducible refine (bm.out _ _ _ _ _ (e2.mono f6.size) o6.rd).mono ?_);rintro _ wc ⟨rfl,f7⟩;have kc:=(f5.trans f6 zr).trans f7 zr))
 have gd:=e3.trans kc zr
 go_upto_region 25 with (first
  |(go_at_call 26;(with_reducible refine (ah.out _ gd).mono ?_);rintro _ wd ⟨A9,c9,rfl,o9,f9⟩;have kd:=kc.trans f9 zr)
  |(go_at_call 13;(with_reducible refine (br.out _ kd).mono ?_);rintro _ we ⟨rfl,fe⟩))
 have ke:=kd.trans fe zr;have da:=o9.fr fe zr;go_upto_region 26 with (go_at_call 27;(with_reducible refine (aq.out _ _ _ (da.rd)).mono ?_);rintro _ wf ⟨x,_,rfl,xo,ff⟩;have bn:=Blk.new wf 55 zO;have dw:=Cl (P:=zp) wf.heap.size 55 (cs:=x.cells) au (old:=zO) rfl (Ek x))
 have fx:Fr Non wf ((wf.alloc (.cells zO 55)).setRow wf.heap.size x.cells):=((Fr.refl Non wf).alloc _).setRow (fun hh=>absurd hh (by omega)) _;have kf:=(ke.trans ff zr).trans fx zr;have ed:=(da.fr ff zr).fr fx zr;clear dw bn xo fx;generalize (wf.alloc (.cells zO 55)).setRow wf.heap.size x.cells=wg at*
 go_cut [124] from 110 to 123 (fun s wh=>s=.bool false/\Fr Non wk wh)
 case first=>
  by_cases h0:E=0
  case pos=>
   subst h0;clear a4 br a2 bf bm;go_wp2_with fail;go_meet;exact ⟨rfl,kf⟩
  case neg=>
   have x0:(E !=0)=true:=by simp [h0]
   have x1:(E !=E)=false:=by simp
   have x2:((NW:Int) !=(NW:Int))=false:=by simp
   have gl:=lh (a4.out A9 c9 wg ed.rd h0);clear a4 a2 bf bm
   go_wp2_with (first
    |(go_at_call 22;(with_reducible refine (gl.out).mono ?_);rintro _ wh ⟨rfl,fh⟩;have kh:=kf.trans fh zr)
    |(go_at_call 13;(with_reducible refine (br.out _ kh).mono ?_);rintro _ wi ⟨rfl,fi⟩))
   go_meet;exact ⟨rfl,kh.trans fi zr⟩
 case rest=>
 obtain ⟨rfl,kz⟩:=hcut;clear kf a4 br ke kd kc e2 o5 o6 o9 da ed ah aq;generalize wc=wy at*
 go_wp2_with (first
  |(go_at_call 15;(with_reducible refine (a2.out _ kz).mono ?_);rintro _ wp ⟨Ap,cp,rfl,fd,fp⟩;have kp:=kz.trans fp zr)
  |(go_at_call 25;(with_reducible refine (bf.out _ kp).mono ?_);rintro _ wr ⟨Ar,cr,rfl,fu,fr⟩;have fk:=fd.rd.fr fr zr)
  |(go_at_call 14;(with_reducible refine (bm.out _ _ _ _ _ (fk.mono fr.size) fu.rd).mono ?_);rintro _ ws ⟨rfl,fs⟩;have el:=e3.trans (kp.trans (fr.trans fs zr) zr) zr)
  |(go_at_call 17;(with_reducible refine (cm.out _ el).mono ?_);rintro _ wt ⟨rfl,ft⟩;have hd:=lh (de.out wt (el.trans ft zr))))
 exact hd.out
end Oq
section
open Go.ChangeShapes Go.WideShapes Go.ChangeAt Go.RowKit
theorem As7 (os:Os) (started:os.Started) (H:Type) (enc:TypeId × Value->H):
  ReturnsInHanded {} Tryz.checked os 4 .any (fun w args=>(Rows.relayTrustsSpec.pre enc zp f4 [] false w args/\laidMetH zp [("huddle/op.kinds",Rows.laid_huddle_op_kinds)] w)/\sizedMet enc zp f4 (OpenSpec.ofChange Rows.relayTrustsSpec) false w args)
   (Rows.relayTrustsSpec.post enc zp f4 false true false false):=by
 refine returnsInHanded_of_change_and (C:=Tryz.checked) (X:=fun w _=>laidMetH zp [("huddle/op.kinds",Rows.laid_huddle_op_kinds)] w) (fun _ _ _ hh h=>h.of_heap hh) Tryz.own started (by kernel_rfl) func4
  (ChangeSpec.witness_at (enc:=enc) (C:=Tryz.checked) (os:=os) (X:=fun w _=>laidMetH zp [("huddle/op.kinds",Rows.laid_huddle_op_kinds)] w) false (Ja os) #[.slice none 0 0,.int .i64 0,.int .i64 0,.slice none 0 0] 8 rfl (by kernel_rfl) (by kernel_rfl) (by kernel_rfl) (by kernel_rfl) (by kernel_rfl) (Pu os _)) ?_
 intro W base args ds gs before hval0 hW _ _ hL _;have hk:=Ps hL;have hval:∀(j:Nat) t v,Tryz.f4.params[j]? =some t->args[j]? =some v->Value.okWide zp W .any base t v:=hval0;have hW':=hW;obtain ⟨p,q,hA0,hV,rfl,hfz,hnd⟩:=hW;have hA:DataW.TrodAll enc zp W 0 (fun _=>true) true Tryz.f4.params.toList args.toList ds p:=hA0;rw [params4] at hA hval;obtain ⟨v0,v1,v2,v3,d0,d1,d2,d3,p0,p1,p2,p3,rfl,rfl,rfl,h0,h1,h2,h3⟩:=trodAll_four hA;obtain ⟨A0,c0,l0,rfl,hlc0,hc0,hr0,hok0⟩:=K6 underlying22 underlying3 (by kernel_rfl) (hval 0 22 v0 rfl rfl) h0;obtain ⟨x1,rfl,rfl,rfl,wf1⟩:=open_int underlying3 (hval 1 3 v1 rfl rfl) h1;have bd1:=Ks wf1;obtain ⟨x2,rfl,rfl,rfl,wf2⟩:=open_int underlying3 (hval 2 3 v2 rfl rfl) h2;have bd2:=Ks wf2;obtain ⟨A3,c3,l3,rfl,hlc3,hc3,hr3⟩:=Ar1 underlying39 underlying5 (by kernel_rfl) (hval 3 39 v3 rfl rfl) h3;refine (Oq.relayTrusts_law A0 c0 l0 x1 x2 A3 c3 l3 W hk hr0 hlc0 hc0 hok0 bd1.1 bd1.2 bd2.1 bd2.2 hr3 hlc3 hc3).mono fun e W' ⟨he,hf⟩=> ?_;exact ⟨_,he,Nr Tryz.laidOut (by kernel_rfl) rfl (by kernel_rfl) underlying4 hW' ⟨rfl,rfl,rfl⟩ hf⟩
theorem As8:Rows.RelayTrustsSaid:=
 OpenClaim.holds_of_wide 4 f4 rfl rfl rfl rfl rfl rfl rfl ⟨rfl,rfl,rfl,rfl,rfl⟩ rfl rfl rfl rfl rfl (by kernel_rfl) func4 (by kernel_rfl)
  (of_decide_eq_true (by kernel_rfl)) (by unfold Func.isWrapper;rw [if_neg (by decide+kernel)];exact ⟨rfl,rfl⟩)
  (fun os started H enc _=>As7 os started H enc)
end
section
open Go
theorem relayTrusts_card_holds:Rows.RelayTrustsCardSaid:=
 Claim7.holds_tied_plain_at .later [] [.data] true (true, "21a1399a7e80faf1308fc7dc20e3f60affe53aa06a5131232a0aae069820b3a7") false
  As8 (fun _ h=>by cases h) (by kernel_rfl) (fun _ h=>by cases h) relayTrusts_row_tie rfl ⟨rfl,rfl⟩ (by kernel_rfl) rfl
  (fun f fn hf hfn=>by
   obtain rfl:f=4:=Option.some.inj ((show zp.funcNamed "huddle/huddlelaw31.RelayTrusts" =some 4 by kernel_rfl).symm.trans hf)|>.symm;obtain rfl:fn=f4:=(Option.some.inj (Tryz.func4.symm.trans hfn)).symm
   exact ⟨by kernel_rfl,fun j t ht=>by
    rw [params4] at ht
    have hm:t∈([22,3,3,39]:List TypeId):=by
     have h2:=Array.mem_of_getElem? ht;simpa using h2
    have hall:([22,3,3,39]:List TypeId).all (fun t=> !(zp.wantsStandIn t))=true:=by kernel_rfl
    have:=List.all_eq_true.1 hall t hm;exact (by simpa using this:zp.wantsStandIn t=false)⟩)
  (by kernel_rfl)
end
end Go.Proofs.YtgbdljlapmjmnaaGreatDoor
