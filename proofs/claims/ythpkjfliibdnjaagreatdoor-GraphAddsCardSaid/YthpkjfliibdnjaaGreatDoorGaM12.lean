/-
  Contracts of the functions that the claim's statement reaches, walked one by one (part 12).
  Conditions: as each theorem says.
-/
import Derived.Great.BuildSlice
import Derived.Shelf.SlGeneric
import Derived.Laws.StructEq
import Derived.Test.YthpkjfliibdnjaaGreatDoorGaM3
import Derived.Test.YthpkjfliibdnjaaGreatDoorGaM4
import Derived.Test.YthpkjfliibdnjaaGreatDoorGaM7
import Derived.Test.YthpkjfliibdnjaaGreatDoorGaM11
set_option maxRecDepth 100000
set_option maxHeartbeats 16000000
open Bool renaming and_eq_true→Am7,or_eq_true→An5
open Int renaming le_trans→An1,le_refl→Ao1,le_max_left→Ao6
open List renaming not_mem_nil→Am8,getElem?_append_left→Am9,getElem?_map→An0,length_map→An3,getElem?_eq_getElem→An6,mem_of_getElem?→An7,map_cons→An8,map_nil→An9,mem_cons_self→Ao3,mem_cons_of_mem→Ao4,any_eq_true→Ao5,map_congr_left→Ao7,findIdx?_append→Ap0,any_eq_false→Ap1,getElem?_append_right→Ap2,getElem?_of_mem→Ap3,length_append→Ap4,length_singleton→Ap5,contains_iff_mem→Ap6
open Nat renaming zero_le→Am6,lt_or_ge→An2,lt_trans→An4,le_of_lt→Ao0,le_refl→Ao8,eq_zero_or_pos→Ao9,lt_of_lt_of_le→Ap7
open Go.World renaming size_alloc→Ao2
namespace Go.Proofs.YthpkjfliibdnjaaGreatDoor
section
open Go.RowKit
attribute [local go_sem ↓] Go.wp_at_zero Go.wp_at_succ
namespace Oq
attribute [local go_sem] Bool.not_false Bool.not_true
theorem Z2 {l:List Pn} {p:Nat→Bool} {d:Int} {k:Nat} {n:Pn} (h:l[k]? =some n):Bi l p d (k+1)=if (n.o.by_==d&&p k)=true then max (Bi l p d k) n.o.sq else Bi l p d k:=by
 show (match l[k]? with|some n=>if (n.o.by_==d&&p k)=true then max (Bi l p d k) n.o.sq else Bi l p d k|none=>Bi l p d k)=_;rw [h]
theorem Q9 {l:List Pn} {p:Nat→Bool} {d s:Int} {k:Nat} {n:Pn} (h:l[k]? =some n):Bu l p d s (k+1)=(Bu l p d s k||(n.o.by_==d&&p k&&n.o.sq==s-1)):=by
 show (match l[k]? with|some n=>Bu l p d s k||(n.o.by_==d&&p k&&n.o.sq==s-1)|none=>Bu l p d s k)=_;rw [h]
theorem Z3 {o:Op} (h:o.chk=0):1≤o.sq∧o.sq≤2147483647:=by
 have h1:=(chk_ok.1 h).2.2.1;unfold Op.numsB at h1;simp only [Am7] at h1;have h2:=h1.1.1.2;unfold inR at h2;simpa using h2
def bsS (t:TypeId) (len:Nat) (parts:Array (Nat × Value)):=Instr.buildSlice t len parts
theorem Z4 (n:Nat) (p:Array (Nat × Value)):Instr.buildSlice 86 n p=bsS 86 n p:=rfl
theorem Z5 (N:Af) (w:World):(bsS 86 1 #[(0,.agg N.cells.toArray)]).run Tryz.prog w=.ok (.slice (some ⟨w.heap.size,0,none⟩) 1 1) (w.alloc (.cells N.cells.toArray 93)):=by
 obtain ⟨ht,hinfo,_⟩:=Q8;obtain ⟨i,hi,hz,hs,_⟩:=info_parts hinfo;exact run_buildSlice w 86 93 1 _ _ i _ ht hi hz (by rw [hs];decide) (by rw [hs];decide) (by rw [hs];kernel_rfl)
theorem Z6 {P:Program} {o:Oper} {a:Act} {K:Act→World→Prop} {Q:Exit→Act→World→Prop} {w:World} (s x:Operand) (t:TypeId)
  (ho:o.op=.call {callee:=.builtin .append,args:=#[s,x],argTypes:=#[t,t]})
  {base size n c:Nat} {e:TypeId} {A:Option Addr} {xs:List Value} {z:Value} {bytes m cx B:Nat} {Ax:Option Addr} {news:List Value}
  (hs:a.eval s=.slice A n c) (hx:a.eval x=.slice Ax m cx)
  (hT:SlT P t e z size bytes) (h:Own w base e size A n c xs) (hr:Rd w B size Ax m news)
  (h1:∀u∈news,u.oneCell'=true) (hbytes:(n+m)*bytes≤140737488355328) (hmax:n+m≤9223372036854775807) (hbase:base≤w.heap.size)
  (hk:∀A' c' w',Own w' base e size A' (n+m) c' (xs++news)→Fr (fun k=>Ac A=some k) w w'→(Ac A'=Ac A∨Ac A'=some w.heap.size)→
   K (a.put o.dst (.slice A' (n+m) c')) w'):Oper.wp P o a w K Q:=by
 obtain ⟨A',c',w',hrun,h2,h3,h4⟩:=Gp (P:=P) (ty:=o.type) (cx:=cx) hT h hr h1 hbytes hmax hbase;unfold Oper.wp execOp;simp only [ho,resolve,invoke,builtin,Sem.run_bind,Sem.run_pure,Result.andThen_ok,List.map_toArray,An8,An9,hs,hx,hrun];exact hk A' c' w' h2 h3 h4
attribute [local go_sem ↓] Ij Ik Z4
theorem Z7:addD.1:=by
 conv=>whnf
 intro r5 r7 r8 r9 g3 im gz iu g9 jd iq jf ix g8 ik gy ig h3 g1 hc ho hh ih jc ha iv g4 ht jm jl hr i9 ia ic je g6 h2 i0 i7 jk g0 iw ip hp h7 jg io jb ja i5 iz h6 h4 he g5 jn ii i8 ir jo e9 cq d8 em gn eb ga gi dh ck eg dr gt ee fy fi f0 gl d9 ef ev gu c9 c3 dy gw df fo di f9 cm dx cy d2 ep gv gq ff dk eh gk gp dq du ed f2 gj ej fm el dz fj dj gd gh e4 fw ft ek ew fp f4 dc fh dw fg gr gf ds ec co dv fu cu cz e2 gc f3 ey fs fb dp jj hs hl ij h9 ji hy iy ie g7 jh hm i6 g2 hd h5 hw ib e5 eo c8 cx d0 dg dt d5 cr ct dm c4 fk de ea fn gg dl es db dd e6 ez ei d3 e8 hn d7 e3 dn fx d1 fv ge d4 cw cp eu f8 fl da c0 er et cn gm base g x w y gs m w6 A6 c6 n w7 pb wv a0 a1 a2 a3 lv lt p0 p1 p2 p3 bb w1 wq b0 b1 b2 b3 cl w3 w4 K n0 n1 n2 n3 hK D;have hg:=D.A.hg;have ch:=Z3 D.A.chk;replace ch:1≤x.sq∧x.sq≤2147483647:=ch;have br:=D.A.few;have hD:=Lib.hid D
 have bj:Hid (∀i,i<256→Ai g.pns x.op.past i=(Av g.pns x.op.past i||Bw g.pns x.op.past i)):=fun i hi=>by
  unfold Ai;simp [hi]
 have bk:Hid (g.pns.length=g.nodes.length):=by show _=_;unfold Gph.pns;rw [An3]
 obtain ⟨CX,bh⟩:=Aa x.cells;have e0:Hid (CX[0]? =some (.int .i64 x.by_)):=by show _=_;rw [← bh.out];rfl
 have e1:Hid (CX[1]? =some (.int .i64 x.sq)):=by show _=_;rw [← bh.out];rfl
 have hx:Hid (∀wz,Fr Non w4 wz→wz.cell? ⟨w.heap.size,0,none⟩=some (.int .i64 x.by_)∧wz.cell? ⟨w.heap.size,1,none⟩=some (.int .i64 x.sq)):=fun wz hf=>by
  have h:=D.bx.fr hf zq;have h0:=h.cell 0;have h1:=h.cell 1;rw [bh.out] at h0 h1;rw [e0.out] at h0;rw [e1.out] at h1;exact ⟨h0,h1⟩
 have ay:Hid (∀wz,Fr Non w4 wz→wz.cell? ⟨g.gb,2,none⟩=some (.slice g.nA g.nodes.length g.nC)):=fun wz hf=>((hg.fr D.fr).fr hf).blk.cell 2;rw [bh.out];obtain ⟨nn,au⟩:=Aa g.nodes.length;rw [au.out] at ay br bk;have c2:=ay.out w4 (Fr.refl _ _);clear D;go_wp2_with (fail);clear c2
 go_loopw [19,20,158] (fun tl ta v wr=>∃(i:Nat) (la:Int) (ah:Bool),tl=.int .i64 la∧ta=.bool ah∧v=.int .i64 (i:Int)∧i≤nn∧Hid (la=Bi g.pns (Ai g.pns x.op.past) x.by_ i)∧Hid (ah=Bu g.pns (Ai g.pns x.op.past) x.by_ x.sq i)∧Fr Non w4 wr) (fun _ _ v _=>nn-(intOf v).toNat)
 case atStart=>exact ⟨0,0,false,rfl,rfl,rfl,by omega,rfl,rfl,Fr.refl _ _⟩
 case round=>
  obtain ⟨i,la,ah,rfl,rfl,rfl,hi,aj,ak,hf⟩:=hrel
  by_cases hin:i<nn
  ·
   as_aux_lemma=>
   have i1:(0:Int)≤i:=by omega
   have i2:(i:Int)<nn:=by omega
   have i3:(i:Int).toNat=i:=by omega
   have i4:IntKind.i64.wrap (i:Int)=i:=IntWalk.i64_in _ (by omega);obtain ⟨nd,bp⟩:∃z,g.nodes[i]? =some z:=⟨_,An6 (by rw [au.out];exact hin)⟩;have bt:g.pns[i]? =some nd.pn:=by unfold Gph.pns;rw [An0,bp];rfl
   obtain ⟨bn,ab,ci,en,af⟩:=hg.cell bp;have ae:=Lib.hid (Z2 (p:=Ai g.pns x.op.past) (d:=x.by_) bt);have ad:=Lib.hid (Q9 (p:=Ai g.pns x.op.past) (d:=x.by_) (s:=x.sq) bt)
   have bq:Hid (∀wz,Fr Non w4 wz→wz.cell? ⟨bn,ab+i*35,none⟩=some (.int .i64 nd.x.by_)∧wz.cell? ⟨bn,ab+i*35+1,none⟩=some (.int .i64 nd.x.sq)):=fun wz hf=>by
    have f1:=hD.out.fr.trans hf zr;exact ⟨f1.cell (af 0 (by omega) _ rfl) zq,f1.cell (af 1 (by omega) _ rfl) zq⟩
   have kh:=Lib.hid (fun wz (hz:Fr Non w4 wz)=>J2 gs 30 [n0,n1,n2,n3] _ i wz hD.out.set (fun j hj=>by
    rw [(hD.out.bn.fr hz zq).cell]
    match j,hj with
    |0,_=>rfl
    |1,_=>rfl
    |2,_=>rfl
    |3,_=>rfl) (by omega))
   obtain ⟨mi,bo⟩:=Aa (Av g.pns x.op.past i||Bw g.pns x.op.past i);have cb:Hid (Ai g.pns x.op.past i=mi):=(bj.out i (by omega)).trans bo.out;rw [bo.out] at kh;have c2:=ay.out wr hf;rw [ci] at c2;obtain ⟨ar,ao⟩:=bq.out wr hf;obtain ⟨x0,x1⟩:=hx.out wr hf;have cd:IntKind.i64.wrap (x.sq-1)=x.sq-1:=IntWalk.i64_in _ (by omega);rw [cb.out] at ae ad;replace ae:Hid (Bi g.pns (Ai g.pns x.op.past) x.by_ (i+1)=if (nd.x.by_==x.by_&&mi)=true then max (Bi g.pns (Ai g.pns x.op.past) x.by_ i) nd.x.sq else Bi g.pns (Ai g.pns x.op.past) x.by_ i):=ae;replace ad:Hid (Bu g.pns (Ai g.pns x.op.past) x.by_ x.sq (i+1)=(Bu g.pns (Ai g.pns x.op.past) x.by_ x.sq i||(nd.x.by_==x.by_&&mi&&nd.x.sq==x.sq-1))):=ad;clear bt bp af ci bj bo cb ay hg hD
   rcases zb (nd.x.by_==x.by_) with hq|hq
   ·
    rw [hq] at ae ad;go_upto_region 46 with (fail)
    clear c2;refine wp_region_held_drew (S:=(fun w'=>w'.cell? ⟨bn,ab+i*35,none⟩=some (.int .i64 nd.x.by_)∧w'.cell? ⟨w.heap.size,0,none⟩=some (.int .i64 x.by_))) (by kernel_rfl) ⟨ar,x0⟩ (fun hHeld=> ?_);clear hHeld;have hS:(fun w'=>w'.cell? ⟨bn,ab+i*35,none⟩=some (.int .i64 nd.x.by_)∧w'.cell? ⟨w.heap.size,0,none⟩=some (.int .i64 x.by_)) wr.drew:=⟨ar,x0⟩;replace hf:=hf.drew;refine tkH 0 hS (h:=tkH 1 hS (h:=tkH 2 hS (h:=tkH 3 hS (h:=tkH 4 hS (h:=tkH 5 hS (h:=tkH 6 hS (h:=tkH 7 hS (h:=tkH 8 hS (h:=tkH 9 hS (h:=tkH 10 hS (h:=?_)))))))))));simp only [List.set];refine oG 11 (fun K hK=> ?_);go_simp;go_wp2_with (go_at_call 47;(with_reducible refine (kh.out _ hf).mono ?_);rintro _ _ ⟨rfl,rfl⟩);refine hK.out _ _ hS (fun hZ=> ?_);clear hZ hK K kh;try simp only [Ab,List.set]
    refine tkH 12 hS (h:=?_);simp only [List.set];refine oD ?_;go_simp;obtain ⟨ar,ao⟩:=bq.out wr.drew hf;obtain ⟨x0,x1⟩:=hx.out wr.drew hf;clear hS bq ar x0
    cases mi
    ·
     have aq:Hid (la=Bi g.pns (Ai g.pns x.op.past) x.by_ (i+1)):=by show _=_;rw [ae.out,← aj.out];rfl
     have av:Hid (ah=Bu g.pns (Ai g.pns x.op.past) x.by_ x.sq (i+1)):=by show _=_;rw [ad.out,← ak.out];simp
     clear ae ad aj ak ao x1;go_wp2_with (fail);go_roundw
     case rel=>exact ⟨i+1,la,ah,rfl,rfl,by go_num,by omega,aq,av,hf⟩
     case measure=>simp [intOf];omega
    ·
     have aq:Hid (max la nd.x.sq=Bi g.pns (Ai g.pns x.op.past) x.by_ (i+1)):=by show _=_;rw [ae.out,← aj.out];rfl
     have av:Hid ((ah||nd.x.sq==x.sq-1)=Bu g.pns (Ai g.pns x.op.past) x.by_ x.sq (i+1)):=by show _=_;rw [ad.out,← ak.out];simp
     clear ae ad aj ak;go_upto_region 48 with (fail)
     generalize wr.drew=w5 at*
     cases ah
     case false=>
      refine wp_region_held_drew (S:=(fun w'=>w'.cell? ⟨bn,ab+i*35+1,none⟩=some (.int .i64 nd.x.sq)∧w'.cell? ⟨w.heap.size,1,none⟩=some (.int .i64 x.sq))) (by kernel_rfl) ⟨ao,x1⟩ (fun hHeld=> ?_);clear hHeld;have hS:(fun w'=>w'.cell? ⟨bn,ab+i*35+1,none⟩=some (.int .i64 nd.x.sq)∧w'.cell? ⟨w.heap.size,1,none⟩=some (.int .i64 x.sq)) w5.drew:=⟨ao,x1⟩;replace hf:=hf.drew;refine tkH 0 hS (h:=tkH 1 hS (h:=tkH 2 hS (h:=tkH 3 hS (h:=tkH 4 hS (h:=tkH 5 hS (h:=tkH 6 hS (h:=tkH 7 hS (h:=tkH 8 hS (h:=tkH 9 hS (h:=tkH 10 hS (h:=tkH 11 hS (h:=?_))))))))))));simp only [List.set];refine tkH 12 hS (h:=?_);simp only [List.set];refine oD ?_;go_simp;go_wp2_with (fail);go_roundw
      case rel=>exact ⟨i+1,max la nd.x.sq,_,rfl,rfl,by go_num,by omega,aq,av,hf⟩
      case measure=>simp [intOf];omega
     case true=>
      refine wp_region_held_drew (S:=(fun w'=>w'.cell? ⟨bn,ab+i*35+1,none⟩=some (.int .i64 nd.x.sq)∧w'.cell? ⟨w.heap.size,1,none⟩=some (.int .i64 x.sq))) (by kernel_rfl) ⟨ao,x1⟩ (fun hHeld=> ?_);clear hHeld;have hS:(fun w'=>w'.cell? ⟨bn,ab+i*35+1,none⟩=some (.int .i64 nd.x.sq)∧w'.cell? ⟨w.heap.size,1,none⟩=some (.int .i64 x.sq)) w5.drew:=⟨ao,x1⟩;replace hf:=hf.drew;refine tkH 0 hS (h:=tkH 1 hS (h:=skH 2 hS (h:=skH 3 hS (h:=skH 4 hS (h:=skH 5 hS (h:=skH 6 hS (h:=skH 7 hS (h:=skH 8 hS (h:=skH 9 hS (h:=skH 10 hS (h:=tkH 11 hS (h:=?_))))))))))));simp only [List.set];refine tkH 12 hS (h:=?_);simp only [List.set];refine oD ?_;go_simp;go_wp2_with (fail);go_roundw
      case rel=>exact ⟨i+1,max la nd.x.sq,_,rfl,rfl,by go_num,by omega,aq,av,hf⟩
      case measure=>simp [intOf];omega
   ·
    rw [hq] at ae ad;have aq:Hid (la=Bi g.pns (Ai g.pns x.op.past) x.by_ (i+1)):=by show _=_;rw [ae.out,← aj.out];rfl
    have av:Hid (ah=Bu g.pns (Ai g.pns x.op.past) x.by_ x.sq (i+1)):=by show _=_;rw [ad.out,← ak.out];simp
    clear ae ad aj ak;go_upto_region 46 with (fail)
    clear c2;refine wp_region_held_drew (S:=(fun w'=>w'.cell? ⟨bn,ab+i*35,none⟩=some (.int .i64 nd.x.by_)∧w'.cell? ⟨w.heap.size,0,none⟩=some (.int .i64 x.by_))) (by kernel_rfl) ⟨ar,x0⟩ (fun hHeld=> ?_);clear hHeld;have hS:(fun w'=>w'.cell? ⟨bn,ab+i*35,none⟩=some (.int .i64 nd.x.by_)∧w'.cell? ⟨w.heap.size,0,none⟩=some (.int .i64 x.by_)) wr.drew:=⟨ar,x0⟩;replace hf:=hf.drew;refine tkH 0 hS (h:=tkH 1 hS (h:=tkH 2 hS (h:=tkH 3 hS (h:=tkH 4 hS (h:=tkH 5 hS (h:=tkH 6 hS (h:=tkH 7 hS (h:=tkH 8 hS (h:=skH 9 hS (h:=skH 10 hS (h:=skH 11 hS (h:=?_))))))))))));simp only [List.set];refine tkH 12 hS (h:=?_);simp only [List.set];refine oD ?_;go_simp;clear hS;go_wp2_with (fail);go_roundw
    case rel=>exact ⟨i+1,la,ah,rfl,rfl,by go_num,by omega,aq,av,hf⟩
    case measure=>simp [intOf];omega
  ·
   obtain rfl:nn=i:=by omega
   have ac:Hid (Ay g.pns (Ai g.pns x.op.past) x.op=(decide (x.sq≤la)||(decide (1<x.sq)&& !ah))):=by
    show _=_;unfold Ay;rw [bk.out];rw [show x.op.by_=x.by_ from rfl,show x.op.sq=x.sq from rfl,← aj.out,← ak.out]
   obtain ⟨x0,x1⟩:=hx.out wr hf;obtain ⟨bad,ap⟩:=Aa (decide (x.sq≤la)||(decide (1<x.sq)&& !ah));clear aj ak hi hin hx ay bk bj x0;go_upto_region 50 with (fail)
   go_cut [212] from 200 to 212 (fun s wc=>wr=wc∧s=.bool bad)
   case first=>
    clear hD ac hg
    as_aux_lemma=>
    rcases zb (decide (x.sq≤la)) with t1|t1
    ·
     have hv:Hid (true=bad):=by show _=_;rw [← ap.out,t1];rfl
     go_wp2_with (fail);go_meet;exact ⟨rfl,congrArg Value.bool hv.out⟩
    ·
     rcases zb (decide (1<x.sq)) with t2|t2
     ·
      have hv:Hid ((!ah)=bad):=by show _=_;rw [← ap.out,t1,t2];rfl
      go_wp2_with (fail);go_meet;exact ⟨rfl,congrArg Value.bool hv.out⟩
     ·
      have hv:Hid (false=bad):=by show _=_;rw [← ap.out,t1,t2];rfl
      go_wp2_with (fail);go_meet;exact ⟨rfl,congrArg Value.bool hv.out⟩
   case rest=>
   obtain ⟨rfl,rfl⟩:=hcut;clear x1;rw [ap.out] at ac
   cases bad
   case true=>
    have bm:=Lib.hid (AddPost.bad (base:=base) (w':=wr) (by rw [hD.out.err,if_pos ac.out]) (by decide) (hD.out.fr.trans hf zr));clear hD ac ap hg hf
    as_aux_lemma=>
    go_wp2_with (fail)
    go_ret
    exact bm.out
   case false=>
    have bc:Ag g.cards g.pns x.op=0:=by rw [hD.out.err,ac.out];rfl
    have D:=hD.out;obtain ⟨aa,ag⟩:=Aa x.op.name;have bu:aa.ok:=by rw [← ag.out];exact Dw D.A.hok
    have fc:Fr Non w wr:=D.fr.trans hf zr;have bg:=hg.fr fc;have aw:=D.bn.fr hf zq;rw [ag.out] at aw;have b4:wr.cell? ⟨gs,27,none⟩=some (.int .i64 aa.b):=aw.cell 27;have cf:wr.cell? ⟨gs,28,none⟩=some (.int .i64 aa.s):=aw.cell 28;have b8:wr.cell? ⟨gs,29,none⟩=some (.int .u64 (aa.u:Int)):=aw.cell 29;have c1:wr.cell? ⟨g.gb,1,none⟩=some (.map (some g.mb)):=bg.blk.cell 1;have c2:wr.cell? ⟨g.gb,2,none⟩=some (.slice g.nA nn g.nC):=by rw [← au.out];exact bg.blk.cell 2
    obtain ⟨w5,a8,cj,ce⟩:=MapAt.store (bg.map.fr ((Fr.refl Non wr).drew) zq) aa bu nn (by omega) (by have:=hg.mfew;have:=hg.few;omega);have f5:Fr (One g.mb) wr.drew w5:=(Fr.refl (One g.mb) wr.drew).grown ce (fun k hk _=>by injection hk with hk;exact hk.symm);have ai:(Instr.mapUpdate 85 (.map (some g.mb)) (.agg aa.V) (.int .i64 (nn:Int))).run Tryz.prog wr.drew=.ok () w5:=a8;clear a8 ce ac ap;go_upto_region 52 with (fail)
    refine Cq (S:=(fun w'=>w'.cell? ⟨gs,27,none⟩=some (.int .i64 aa.b)∧w'.cell? ⟨gs,28,none⟩=some (.int .i64 aa.s)∧w'.cell? ⟨gs,29,none⟩=some (.int .u64 (aa.u:Int))∧w'.cell? ⟨g.gb,1,none⟩=some (.map (some g.mb))∧w'.cell? ⟨g.gb,2,none⟩=some (.slice g.nA nn g.nC))) 11 (by kernel_rfl) ?_;have hS:(fun w'=>w'.cell? ⟨gs,27,none⟩=some (.int .i64 aa.b)∧w'.cell? ⟨gs,28,none⟩=some (.int .i64 aa.s)∧w'.cell? ⟨gs,29,none⟩=some (.int .u64 (aa.u:Int))∧w'.cell? ⟨g.gb,1,none⟩=some (.map (some g.mb))∧w'.cell? ⟨g.gb,2,none⟩=some (.slice g.nA nn g.nC)) wr.drew:=⟨b4,cf,b8,c1,c2⟩;obtain ⟨wd,b9⟩:=Aa wr.drew;have fd:Fr Non w4 wd:=by rw [← b9.out];exact hf.drew
    rw [b9.out] at hS f5 ai ⊢;refine tkG 0 hS (h:=tkG 1 hS (h:=tkG 2 hS (h:=tkG 3 hS (h:=tkG 4 hS (h:=tkG 5 hS (h:=tkG 6 hS (h:=tkG 7 hS (h:=tkG 8 hS (h:=tkG 9 hS (h:=tkG 10 hS (h:=?_)))))))))));simp only [List.set];refine Co (by kernel_rfl) ?_;refine oG 11 (fun K hK=> ?_);go_simp;refine hK.out _ _ trivial (fun hZ=> ?_);clear hZ hK K;try simp only [put_lit2,List.set]
    refine oD ?_;go_simp;clear hS ai b4 cf b8 c1 c2 bg aw;have cg:Fr Non w wd:=D.fr.trans fd zr;have bw:=hg.fr cg;have cv:g.mb<w.heap.size:=hg.map.lt;have fq:=D.lo1
    have a9:g.gb≠g.mb:=fun e=>by
     have h1:=hg.blk;unfold Blk at h1;rw [e] at h1;exact hg.map.ismap _ _ _ h1
    have bv:¬Ac g.nA=some g.mb:=fun e=>by
     obtain ⟨cs,fr,hb⟩:=hg.own.block e;exact hg.map.ismap _ _ _ hb
    have ba:¬Ac g.nA=some g.gb:=hg.own.ne hg.blk (by decide);have bs:¬Ac g.nA=some gs:=fun e=>by have:=(hg.own.row _ e).2;omega
    have b5:=bw.blk.fr f5 (fun e=>a9 e)
    have d6:Blk w5 gs 93 (⟨y,aa,n0,n1,n2,n3,lv⟩:Af).cells.toArray:=by
     have h1:=(D.bn.fr fd zq).fr f5 (fun e=>by have e':gs=g.mb:=e;omega);rw [ag.out] at h1;exact h1
    have bl:Own w5 base 93 35 g.nA nn g.nC (g.nodes.flatMap Af.cells):=by
     rw [← au.out];exact bw.own.fr f5 (fun k hk e=>by have e':k=g.mb:=e;subst e';exact bv hk)
    have c5:w5.cell? ⟨g.gb,2,none⟩=some (.slice g.nA nn g.nC):=by rw [← au.out];exact b5.cell 2
    have bd:(Tryz.prog.info? 93).map (·.size)=some (⟨y,aa,n0,n1,n2,n3,lv⟩:Af).cells.toArray.size:=by
     show _=some 35
     kernel_rfl
    have fz:=Aq (P:=Tryz.prog) gs 93 Tryz.underlying93 rfl (cs:=(⟨y,aa,n0,n1,n2,n3,lv⟩:Af).cells.toArray) bd;have e7:=Z5 ⟨y,aa,n0,n1,n2,n3,lv⟩;have a6:=Gw ⟨y,aa,n0,n1,n2,n3,lv⟩;have bi:(⟨y,aa,n0,n1,n2,n3,lv⟩:Af).cells.length=35:=rfl;have al:=Lib.hid (fun (A':Option Addr) (c':Nat) (w6 w7:World)=>Zz (w4:=w4) (wd:=wd) (w5:=w5) (w6:=w6) (w7:=w7) (A':=A') (c':=c') hg D bc fd);have ca:base≤w.heap.size:=Nat.le_trans hg.gbase (Ao0 hg.blk.lt);have il:=f5.size;have h8:=cg.size;rw [ag.out,au.out] at al;clear bw D bc hD hf;go_upto_region 53 with (fail)
    refine Cq (S:=(fun w'=>w'.cell? ⟨g.gb,2,none⟩=some (.slice g.nA nn g.nC)∧Blk w' gs 93 (⟨y,aa,n0,n1,n2,n3,lv⟩:Af).cells.toArray)) 10 (by kernel_rfl) ?_;have hS:(fun w'=>w'.cell? ⟨g.gb,2,none⟩=some (.slice g.nA nn g.nC)∧Blk w' gs 93 (⟨y,aa,n0,n1,n2,n3,lv⟩:Af).cells.toArray) w5.drew:=⟨c5,d6⟩;obtain ⟨we,cc⟩:=Aa w5.drew;have fe:Fr Non w5 we:=by rw [← cc.out];exact (Fr.refl Non w5).drew
    have az:=bl.fr fe zr;have be:=b5.fr fe zq;have gx:=fe.size;rw [cc.out] at hS ⊢;refine tkG 0 hS (h:=tkG 1 hS (h:=tkG 2 hS (h:=tkG 3 hS (h:=tkG 4 hS (h:=tkG 5 hS (h:=?_))))));simp only [List.set];refine Bc 6 (by kernel_rfl) rfl (fun K hK=> ?_);go_simp;have fa:Fr Non we (we.alloc (.cells (⟨y,aa,n0,n1,n2,n3,lv⟩:Af).cells.toArray 93)):=(Fr.refl Non we).alloc _;have bf:(fun w'=>w'.cell? ⟨g.gb,2,none⟩=some (.slice g.nA nn g.nC)∧Blk w' gs 93 (⟨y,aa,n0,n1,n2,n3,lv⟩:Af).cells.toArray) (we.alloc (.cells (⟨y,aa,n0,n1,n2,n3,lv⟩:Af).cells.toArray 93)):=⟨fa.cell hS.1 zq,hS.2.fr fa zq⟩;have a7:=az.fr fa zr;have a4:=Rd.blk (n:=1) (size:=35) (l:=(⟨y,aa,n0,n1,n2,n3,lv⟩:Af).cells) (Blk.new we 93 (⟨y,aa,n0,n1,n2,n3,lv⟩:Af).cells.toArray) (by rw [bi]);have b6:=be.fr fa zq;have f6:=fe.trans fa zr;refine hK.out _ _ bf (fun hZ=> ?_);clear hZ hK K;try simp only [Ab,List.set]
    generalize we.alloc (.cells (⟨y,aa,n0,n1,n2,n3,lv⟩:Af).cells.toArray 93)=w6 at*;refine Bc 7 (by kernel_rfl) rfl (fun K hK=> ?_);refine Z6 (base:=base) (.tmp 228) (.tmp 230) 86 (by rfl) (by rfl) (by rfl) Q8 a7 a4 (by intro u hu;exact (Array.all_eq_true'.1 a6) u (by simpa using hu)) (by omega) (by omega) (by have:=f6.size;omega) ?_;intro A' c' w7 a5 f7 bz;have ax:(fun w'=>w'.cell? ⟨g.gb,2,none⟩=some (.slice g.nA nn g.nC)∧Blk w' gs 93 (⟨y,aa,n0,n1,n2,n3,lv⟩:Af).cells.toArray) w7:=⟨f7.cell bf.1 ba,bf.2.fr f7 bs⟩;have b7:=b6.fr f7 ba;refine hK.out _ _ ax (fun hZ=> ?_);clear hZ hK K;try simp only [Ab,List.set]
    refine Bc 8 (by kernel_rfl) rfl (fun K hK=> ?_);go_simp;refine hK.out _ _ ax (fun hZ=> ?_);clear hZ hK K;try simp only [Ab,List.set]
    refine tkG 9 ax (h:=?_);simp only [List.set];have bm:=Lib.hid (al.out A' c' w6 w7 cj f5 f6 a5 f7 bz);have c7:w7.cell? ⟨g.gb,2,none⟩=some (.slice g.nA nn g.nC):=ax.1;have z7:w7.frozen? ⟨g.gb,2,none⟩=false:=b7.frozen 2;refine Co (by kernel_rfl) ?_;refine oG 10 (fun K hK=> ?_);go_simp;refine hK.out _ _ trivial (fun hZ=> ?_);clear hZ hK K;try simp only [put_lit2,List.set]
    refine oD ?_;go_simp;clear hS bf ax a5 f7 bz b7 c7 z7 al cj f5 f6 a7 a4 b6 be az fe gx fz e7 a6;go_wp2_with (fail)
    go_ret
    exact bm.out
theorem Gs (base:Nat) (g:Gph) (x:OpL) (w:World) (hg:GAt w base g) (hat:x.at w w.heap.size) (hok:x.op.ok) (hkn:KindsAt w):
  Calls Tryz.prog 12 #[.pointer (some ⟨g.gb,0,none⟩),.agg x.cells] w (AddPost base g x.op w):=
 addA.2 ⟨addB.2 ⟨addC.2 ⟨addD.2 ⟨Z7⟩⟩⟩⟩ base g x w hg hat hok hkn
end Oq
end
section
open Go.RowKit
namespace Oq
def sgn (o:Op):Op:={o with r:=Sg.r (sec Bb o.by_.toNat) o.bare,s:=Sg.s (sec Bb o.by_.toNat) o.bare}
theorem Kz (o:Op) (R S:Nat):({o with r:=R,s:=S}:Op).chk=o.chk:=rfl
theorem K9 (o:Op) (R S:Nat):({o with r:=R,s:=S}:Op).bare=o.bare:=rfl
theorem Z8 (o:Op) (R S:Nat):({o with r:=R,s:=S}:Op).id=o.id:=by unfold Op.id;rw [K9]
theorem La (o:Op) (R S:Nat):({o with r:=R,s:=S}:Op).name=o.name:=by
 unfold Op.name;rw [Z8]
theorem Z9 (l:List Pn) (p:Nat→Bool) (o:Op) (R S:Nat):Ay l p ({o with r:=R,s:=S}:Op)=Ay l p o:=rfl
theorem E6 (o:Op):∃R S,sgn o={o with r:=R,s:=S}∧Sg.check (Sg.pub (sec Bb o.by_.toNat)) o.bare R S=true:=
 ⟨_,_,rfl,Sg.takes _ _ (An4 (Gu _ _) (by decide))⟩
theorem Gf (o:Op):(sgn o).name=o.name:=by
 obtain ⟨R,S,h,_⟩:=E6 o;rw [h,La]
theorem Aa0 (o:Op):(sgn o).chk=o.chk:=by
 obtain ⟨R,S,h,_⟩:=E6 o;rw [h,Kz]
theorem I0 (o:Op):(sgn o).by_=o.by_:=by
 obtain ⟨R,S,h,_⟩:=E6 o;rw [h]
theorem Ra (o:Op):(sgn o).sq=o.sq:=by
 obtain ⟨R,S,h,_⟩:=E6 o;rw [h]
theorem Lb (o:Op):(sgn o).at_=o.at_:=by
 obtain ⟨R,S,h,_⟩:=E6 o;rw [h]
theorem Rb (o:Op):(sgn o).past=o.past:=by
 obtain ⟨R,S,h,_⟩:=E6 o;rw [h]
theorem Gz {cards:List Cd} {l:List Pn} {o:Op} {c:Cd} (h1:o.chk=0) (h2:plc l o.name=none) (h3:l.length<200) (h4:Bj cards o.by_=some c) (h5:c.s=Sg.pub (sec Bb o.by_.toNat)) (h6:o.kind≠1∨l=[])
  (h7:o.past.any (fun id=>(plc l id).isNone)=false) (h8:clash l o.past=false) (h9:late l o.past≤o.at_) (h10:Ay l (Ai l o.past) o=false):Ag cards l (sgn o)=0:=by
 obtain ⟨R,S,e,hc⟩:=E6 o;rw [e];unfold Ag;rw [Kz,La,h1,h2,if_neg (by simp),if_neg (by simp),if_neg (by omega)];rw [show ({o with r:=R,s:=S}:Op).by_=o.by_ from rfl,h4];dsimp only;rw [K9,h5,hc,if_neg (by simp),if_neg (by rcases h6 with h|h<;>simp [h]),h7,if_neg (by simp),h8,if_neg (by simp;omega),Z9,h10]
 simp
theorem Aa1 {cards:List Cd} {l:List Pn} {o:Op} {c:Cd} (h1:o.chk=0) (h2:plc l o.name=none) (h3:l.length<200) (h4:Bj cards o.by_=some c) (h5:c.s=Sg.pub (sec Bb o.by_.toNat)) (h6:o.kind≠1∨l=[])
  (h7:o.past.any (fun id=>(plc l id).isNone)=true):Ag cards l (sgn o)=10:=by
 obtain ⟨R,S,e,hc⟩:=E6 o;rw [e];unfold Ag;rw [Kz,La,h1,h2,if_neg (by simp),if_neg (by simp),if_neg (by omega)];rw [show ({o with r:=R,s:=S}:Op).by_=o.by_ from rfl,h4];dsimp only;rw [K9,h5,hc,if_neg (by simp),if_neg (by rcases h6 with h|h<;>simp [h]),h7,if_pos rfl]
theorem Aa2 {cards:List Cd} {l:List Pn} {o:Op} (h1:o.chk=0) (h2:(plc l o.name).isSome=true):Ag cards l o=5:=by
 unfold Ag;rw [h1,if_neg (by simp),if_pos h2]
def Dx (b s a:Int) (past:List Id):Op:={base b s 8 a past [] with of:=⟨1,1,0⟩}
def G5 (b:Int):Op:={base b 1 1 0 [] [] with need:=0}
theorem Lc {b s a:Int} {past:List Id} (hb:1≤b∧b≤12) (hs:1≤s∧s≤2147483647) (ha:0≤a∧a≤2147483647) (hp:past.length≤12∧(∀x∈past,x.named=true)∧Row past∧past≠[]):(Dx b s a past).chk=0:=
 Uz (h:=⟨by omega,hb,hs,ha,⟨hp.1,hp.2.1,hp.2.2.1,by simp [hp.2.2.2]⟩,⟨by simp,by simp,.inl rfl⟩⟩) (Nq (x:=⟨1,1,0⟩) ⟨by decide,by decide⟩ ⟨by decide,by decide⟩ (by unfold FP;decide))
theorem Aa3 {b:Int} (hb:1≤b∧b≤12):(G5 b).chk=0:=
 Ns (h:=⟨by omega,hb,by omega,by omega,⟨by simp,by simp,List.Pairwise.nil,by simp⟩,⟨by simp,by simp,.inl rfl⟩⟩) (Ep (by omega))
theorem id_lt (o:Op):o.id<FP:=by unfold FP;exact Hs.of_lt _ _
theorem Aa4 {b s:Int} {u:Nat} (hb:1≤b∧b≤12) (hs:1≤s∧s≤2147483647) (hu:u<FP):(Id.mk b s u).named=true:=Nq hb hs hu
theorem Ld {o:Op} (hb:1≤o.by_∧o.by_≤12) (hs:1≤o.sq∧o.sq≤2147483647):o.name.named=true:=by
 unfold Op.name;exact Aa4 hb hs (id_lt o)
end Oq
end
section
open Go.RowKit
attribute [local go_sem ↓] Go.wp_at_zero Go.wp_at_succ
namespace Oq
attribute [local go_sem ↓] Ch Ea
def Le (b s a:Int) (l:List Id) (w:World) (e:Ending) (w':World):Prop:=∃y:OpL,e=.returned (.agg y.cells)∧y.op=sgn (Dx b s a (Am l))∧y.own w' w.heap.size∧Fr Non w w'
def erL (b s a:Int) (A:Option Addr) (c:Nat) (l:List Id):OpL:={OpL.zero with by_:=b,sq:=s,kind:=8,at_:=a,pastA:=A,pastC:=c,past:=l,of:=⟨1,1,0⟩}
theorem Rc (b s a:Int) (A:Option Addr) (c:Nat) (l:List Id):(erL b s a A c l).op=Dx b s a l:=rfl
theorem I1 (x:OpL) (o:Op) (h:x.op=o) (u:Nat) (hu:o.by_.toNat=u) (S:Nat) (hS:sec Bb u=S):({x with r:=Sg.r S x.op.bare,s:=Sg.s S x.op.bare}:OpL).op=sgn o:=by
 rw [Wo,h];unfold sgn;rw [hu,hS]
theorem Ck:I64 0:=⟨by decide,by decide⟩
theorem I64_8:I64 8:=⟨by decide,by decide⟩
theorem I2:I64 1:=⟨by decide,by decide⟩
theorem I3 {b s a : Int} {L : List Id} (hb : 1 ≤ b ∧ b ≤ 12) (hs : 1 ≤ s ∧ s ≤ 2147483647) (ha : 0 ≤ a ∧ a ≤ 2147483647) (hl : L.length ≤ 1000 ∧ ∀ x ∈ L, x.ok) : (Dx b s a L).ok :=
  ⟨⟨by show _ ≤ b; omega, by show b ≤ _; omega⟩, ⟨by show _ ≤ s; omega, by show s ≤ _; omega⟩, I64_8, ⟨by show _ ≤ a; omega, by show a ≤ _; omega⟩, hl, Ck, Ck, Ck, Ck,
   ⟨Am6 _, fun _ h => absurd h Am8⟩, ⟨Ck, Ck, Ef⟩, Ck, Am6 _, ⟨Am6 _, fun _ h => absurd h Am8⟩, ⟨I2, I2, Ef⟩,
   ⟨Am6 _, fun _ h => absurd h Am8⟩, Ck, Ck, ⟨Am6 _, fun _ h => absurd h Am8⟩, Ef, ⟨Am6 _, fun _ h => absurd h Am8⟩, Ef, Ef⟩
theorem Re {b s a:Int} {A:Option Addr} {c:Nat} {l:List Id} {w:World} {base:Nat} (h:Own w base 36 3 A l.length c (l.flatMap Id.cells)):(erL b s a A c l).own w base:=
 ⟨RowAt.of_own h,RowAt.nil _ _ _ _,(fun _ h=>absurd h Am8),RowAt.nil _ _ _ _,RowAt.nil _ _ _ _,RowAt.nil _ _ _ _,RowAt.nil _ _ _ _,RowAt.nil _ _ _ _,(fun _ h=>absurd h Am8)⟩
theorem Lf {x:OpL} {w:World} {base:Nat} (o:x.own w base) (r s:Nat):({x with r:=r,s:=s}:OpL).own w base:=⟨o.past,o.path,o.nodes,o.body,o.refs,o.guards,o.boxes,o.hist,o.seals⟩
theorem Lg (b s a:Int) (B n c:Nat) (A:Option Addr) (l:List Id) (w:World) (hb:1≤b∧b≤12) (hs:1≤s∧s≤2147483647) (ha:0≤a∧a≤2147483647) (hn:Hid (l.length=n)) (hr:Rd w B 3 A n (l.flatMap Id.cells)) (hnm:n≤1000) (hok:∀x∈l,x.ok):
  Calls Tryz.prog 53 #[.int .i64 b,.int .i64 s,.int .i64 a,.slice A n c] w (Le b s a l w):=by
 have hi:(Tryz.prog.info? 44).map (·.size)=some 27:=by kernel_rfl
 have ai:(Am l).length=n:=(Di l).length_eq.trans hn.out;have aj:(Dx b s a (Am l)).ok:=I3 hb hs ha ⟨by omega,fun x hx=>hok x ((Di l).subset hx)⟩;have f0:Fr Non w (w.alloc (.cells zO 44)):=(Fr.refl Non w).alloc _;have ag:=Blk.new w 44 zO;have kS:=Lib.hid (fun w' (h:Fr Non w w')=>Fi B n c A l w' hn (hr.fr h zr) (by omega));obtain ⟨u,hu⟩:∃u,b.toNat=u:=⟨_,rfl⟩;have ah:IntKind.u64.wrap b=(u:Int):=by rw [IntKind.wrap_u64];omega
 have kG:Hid (∀(A1:Option Addr) (c1:Nat) (w':World) (aa:Nat),Own w' aa 36 3 A1 n c1 ((Am l).flatMap Id.cells)→Calls Tryz.prog 28 #[.agg #[.int .i64 b,.int .i64 s,.int .i64 8,.int .i64 a,.slice A1 n c1,.int .i64 0,.int .i64 0,.int .i64 0,.int .i64 0,.slice none 0 0,.int .i64 0,.int .i64 0,.int .u64 0,.int .i64 0,.slice none 0 0,.slice none 0 0,.int .i64 1,.int .i64 1,.int .u64 0,.slice none 0 0,.int .i64 0,.int .i64 0,.slice none 0 0,.int .u64 0,.slice none 0 0,.int .u64 0,.int .u64 0]] w' fun r ao=>
   ∃y:OpL,r=.returned (.agg y.cells)∧y.op=sgn (Dx b s a (Am l))∧(∀(S:Nat→Prop) (wz:World),Fr S w' wz→(∀k,Ac A1=some k→¬S k)→y.own wz aa)∧Fr Non w' ao):=by
  intro A1 c1 w' aa ho;rw [← ai] at ho ⊢;have ap:=(Re (b:=b) (s:=s) (a:=a) ho).at;have h:=Ic (erL b s a A1 c1 (Am l)) u w' ah (by omega) ap (by rw [Rc];exact aj);refine Calls.mono h ?_;rintro r ao ⟨h1,h2⟩;exact ⟨_,h1,I1 _ _ (Rc b s a A1 c1 (Am l)) u hu _ rfl,(fun S wz hf hs=>Lf (Re (ho.fr hf hs)) _ _),h2⟩
 have ab:Hid (∀(y:OpL) w',y.op=sgn (Dx b s a (Am l))→y.own w' w.heap.size→Fr Non w w'→Le b s a l w (.returned (.agg y.cells)) w'):=fun y w' h1 h2 h3=>⟨y,rfl,h1,h2,h3⟩;unfold Eo at kS;generalize Le b s a l w=POST at*;generalize sgn (Dx b s a (Am l))=OO at*;generalize (Am l).flatMap Id.cells=SC at*;clear aj ai hn hr hok ah hu;go_enter Tryz.func53,Tryz.ntmps53;go_upto_region 1 with (fail)
 generalize w.alloc (.cells zO 44)=w0 at*;have aw:=f0.size
 go_wp2_with (first
  |(go_at_call 33;(with_reducible refine (kS.out _ f0).mono ?_);rintro _ w1 ⟨A1,c1,rfl,o1,f1⟩;have kg:=Lib.hid (kG.out A1 c1 w1 _ o1);have aq:=ag.fr f1 zq;have av:=f0.trans f1 zr;have ad:=o1.row;have a0:=ag.lt;clear kS kG o1 f1)
  |(go_at_call 28;(with_reducible refine (kg.out).mono ?_);rintro _ w2 ⟨y,rfl,au,ae,f2⟩;have af:=aq.fr f2 zq;have az:=av.trans f2 zr;have ac:=Bm y;have ay:Hid (∀wz,Fr (One w.heap.size) w2 wz→POST (.returned (.agg y.cells)) wz):=(fun wz hz=>by
    have ar:Fr Non w wz:=az.trans hz (fun k hk e=>absurd hk (by have e':k=w.heap.size:=e;omega));have ax:w.heap.size≤w0.heap.size:=aw;exact ab.out y wz au ((ae (One w.heap.size) wz ((Fr.of_non f2 (One w.heap.size)).trans hz zr) (fun k hk e=>by have h1:=(ad k hk).1;have e':k=w.heap.size:=e;omega)).lower ax) ar);clear kg f2)
  |(refine Fg rfl 44 (.tmp 8) (.tmp 16) rfl rfl rfl rfl af hi rfl ac ?_;have al:=(Fr.refl (One w.heap.size) w2).setRow (g:=w.heap.size) (fun _=>rfl) y.cells;have ak:=af.setRow (cs:=y.cells);generalize w2.setRow w.heap.size y.cells=wz at al ak ⊢;(repeat (first|go_values|go_skip|go_guarded|go_step));exact Cu (t:=44) rfl rfl ak rfl Tryz.underlying44 (by kernel_rfl) rfl (ay.out wz al)))
end Oq
end
section
open Go.RowKit Go.Sort Go.Shelf
namespace Oq
section
variable {α : Type} [Inhabited α] {enc : α → List Value} {sz : Nat} (hlen : ∀ x, (enc x).length = sz) (hsz : 0 < sz)
include hlen hsz
theorem Rf (xs:List α) {j:Nat} (hj:j<xs.length*sz):(xs.flatMap enc)[j]? =some ((flatK enc sz xs.toArray)[j]!):=by
 rw [get_flatK _ _ _ _ (by simpa using hj)];have hk:j/sz<xs.length:=Nat.div_lt_of_lt_mul (by rwa [Nat.mul_comm] at hj);have hm:j%sz<sz:=Nat.mod_lt _ hsz;have h1:xs[j/sz]? =some xs[j/sz]:=An6 hk;have h2:=Fe (f:=enc) (size:=sz) hlen xs (j/sz) (j%sz) _ h1 hm;rw [Nat.mul_comm,Nat.div_add_mod] at h2;rw [h2];have h3:xs.toArray[j/sz]! =xs[j/sz]:=by simp [hk]
 rw [h3];have h4:j%sz<(enc xs[j/sz]).length:=by rw [hlen];exact hm
 rw [An6 h4];simp [h4]
theorem Aa5 {w:World} {base c:Nat} {t:TypeId} {g:Nat} {xs:List α} (h:Own w base t sz (some ⟨g,0,none⟩) xs.length c (xs.flatMap enc)):HoldsK enc sz w g 0 xs.toArray:=by
 intro j hj;have hj':j<xs.length*sz:=by simpa using hj
 obtain ⟨cur,hb,hl,hs⟩:=Qu h (by
  rcases Ao9 xs.length with h0|h0
  · rw [h0] at hj';simp at hj'
  · exact h0)
 have hf:=Rf hlen hsz xs hj';rw [Nat.zero_add];refine ⟨?_,hb.frozen j⟩;rw [hb.cell j,id,← hf,← hl,List.getElem?_take_of_lt hj'];simp
theorem Aa6 {w:World} {base c:Nat} {t:TypeId} {g:Nat} {xs ys:List α} (n:Nat) (os:Array Obj) (h:Own w base t sz (some ⟨g,0,none⟩) xs.length c (xs.flatMap enc)) (hx:0<xs.length) (hl:ys.length=xs.length):
  Own (sortWorldK enc sz w g 0 n ys.toArray os) base t sz (some ⟨g,0,none⟩) ys.length c (ys.flatMap enc):=by
 have hyl:(ys.flatMap enc).length=ys.length*sz:=Ff (f:=enc) hlen ys
 rcases h.2 with ⟨_,h0⟩|⟨g',cap,cur,hv,hb,hg,h1,h2,h3,h4⟩
 · omega
 ·
  injection hv with hA hn' hc
  injection hA with hA
  injection hA with hA
  subst hA;subst hc
  have hs:xs.length*sz≤cur.size:=by
   have h5:=congrArg List.length h4;rw [List.length_take,Array.length_toList,h.1] at h5;rw [← h5];exact Nat.min_le_right _ _
  have hnew:=Qw (n:=n) (os:=os) (d:=flatK enc sz ys.toArray) (show Blk w g t cur from hg);refine ⟨hyl,.inr ⟨g,c,putCells id 0 (flatK enc sz ys.toArray) cur,rfl,hb,hnew,by omega,h2,?_,?_⟩⟩
  · simpa [putCells] using h3
  ·
   rw [← hyl];exact Qy (by rw [hyl];simp) (fun j hj=>Rf hlen hsz ys (by omega)) (by rw [hyl,hl];exact hs)
end
end Oq
end
section
open Go.RowKit
attribute [local go_sem ↓] Go.wp_at_zero Go.wp_at_succ
namespace Oq
theorem Aa7 (l:List Cd):∀v∈l.flatMap Cd.cells,v.oneCell'=true:=Ih _ (fun a v hv=>by simp [Cd.cells] at hv;rcases hv with rfl|rfl|rfl|rfl|rfl<;>rfl) l
end Oq
end
end Go.Proofs.YthpkjfliibdnjaaGreatDoor
namespace Go.Proofs
open Go.Shelf Go.RowKit Go.Lib Go.Sort
def Tryz.sortCards_ren:Go.Shelf.Ren:=⟨fun|6=>59|15=>101|14=>100|28=>161|29=>162|20=>153|21=>154|22=>155|23=>156|24=>157|25=>158|26=>159|27=>160|46=>198|47=>199|48=>200|49=>201|50=>202|57=>214|n=>n,fun|22=>23|24=>95|25=>113|3=>3|39=>153|0=>0|53=>203|55=>34|4=>4|46=>197|45=>196|50=>84|5=>5|9=>9|66=>223|70=>226|76=>238|77=>239|n=>n,fun|n=>n⟩
theorem Tryz.sortCards:Go.Proofs.SlLaysF0.n6 Tryz.prog Tryz.sortCards_ren:={
  mixed:=by kernel_rfl
  f6:=⟨Tryz.f59.name,by decide,Tryz.func59.trans (congrArg some (by kernel_rfl))⟩
  f14:=⟨Tryz.f100.name,by decide,Tryz.func100.trans (congrArg some (by kernel_rfl))⟩
  f15:=Tryz.func101.trans (congrArg some (by kernel_rfl))
  f20:=⟨Tryz.f153.name,by decide,Tryz.func153.trans (congrArg some (by kernel_rfl))⟩
  f21:=⟨Tryz.f154.name,by decide,Tryz.func154.trans (congrArg some (by kernel_rfl))⟩
  f22:=⟨Tryz.f155.name,by decide,Tryz.func155.trans (congrArg some (by kernel_rfl))⟩
  f23:=⟨Tryz.f156.name,by decide,Tryz.func156.trans (congrArg some (by kernel_rfl))⟩
  f24:=⟨Tryz.f157.name,by decide,Tryz.func157.trans (congrArg some (by kernel_rfl))⟩
  f25:=⟨Tryz.f158.name,by decide,Tryz.func158.trans (congrArg some (by kernel_rfl))⟩
  f26:=⟨Tryz.f159.name,by decide,Tryz.func159.trans (congrArg some (by kernel_rfl))⟩
  f27:=⟨Tryz.f160.name,by decide,Tryz.func160.trans (congrArg some (by kernel_rfl))⟩
  f28:=Tryz.func161.trans (congrArg some (by kernel_rfl))
  f29:=Tryz.func162.trans (congrArg some (by kernel_rfl))
  f46:=⟨Tryz.f198.name,by decide,Tryz.func198.trans (congrArg some (by kernel_rfl))⟩
  f47:=Tryz.func199.trans (congrArg some (by kernel_rfl))
  f48:=Tryz.func200.trans (congrArg some (by kernel_rfl))
  f49:=⟨Tryz.f201.name,by decide,Tryz.func201.trans (congrArg some (by kernel_rfl))⟩
  f50:=⟨Tryz.f202.name,by decide,Tryz.func202.trans (congrArg some (by kernel_rfl))⟩
  f57:=⟨Tryz.f214.name,by decide,Tryz.func214.trans (congrArg some (by kernel_rfl))⟩
  t0:=Tryz.underlying0
  a0:=Tryz.isAgg0
  z0:=Tryz.sizeOf0
  v0:=Tryz.zeroValue0
  t3:=Tryz.underlying3
  a3:=Tryz.isAgg3
  z3:=Tryz.sizeOf3
  v3:=Tryz.zeroValue3
  t4:=Tryz.underlying4
  a4:=Tryz.isAgg4
  z4:=Tryz.sizeOf4
  v4:=Tryz.zeroValue4
  t5:=Tryz.underlying5
  a5:=Tryz.isAgg5
  z5:=Tryz.sizeOf5
  v5:=Tryz.zeroValue5
  t9:=Tryz.underlying9
  a9:=Tryz.isAgg9
  z9:=Tryz.sizeOf9
  v9:=Tryz.zeroValue9
  t22:=Tryz.underlying23
  a22:=Tryz.isAgg23
  z22:=Tryz.sizeOf23
  v22:=Tryz.zeroValue23
  t25:=Tryz.underlying113
  a25:=Tryz.isAgg113
  z25:=Tryz.sizeOf113
  v25:=Tryz.zeroValue113
  t39:=Tryz.underlying153
  a39:=Tryz.isAgg153
  z39:=Tryz.sizeOf153
  v39:=Tryz.zeroValue153
  t45:=Tryz.underlying196
  a45:=Tryz.isAgg196
  z45:=Tryz.sizeOf196
  v45:=Tryz.zeroValue196
  t46:=Tryz.underlying197
  a46:=Tryz.isAgg197
  z46:=Tryz.sizeOf197
  v46:=Tryz.zeroValue197
  t50:=Tryz.underlying84
  a50:=Tryz.isAgg84
  z50:=Tryz.sizeOf84
  v50:=Tryz.zeroValue84
  t53:=Tryz.underlying203
  a53:=Tryz.isAgg203
  z53:=Tryz.sizeOf203
  v53:=Tryz.zeroValue203
  t55:=Tryz.underlying34
  a55:=Tryz.isAgg34
  z55:=Tryz.sizeOf34
  v55:=Tryz.zeroValue34
  t66:=Tryz.underlying223
  a66:=Tryz.isAgg223
  z66:=Tryz.sizeOf223
  v66:=Tryz.zeroValue223
  t70:=Tryz.underlying226
  a70:=Tryz.isAgg226
  z70:=Tryz.sizeOf226
  v70:=Tryz.zeroValue226
  t76:=Tryz.underlying238
  a76:=Tryz.isAgg238
  z76:=Tryz.sizeOf238
  v76:=Tryz.zeroValue238
  t77:=Tryz.underlying239
  a77:=Tryz.isAgg239
  z77:=Tryz.sizeOf239
  v77:=Tryz.zeroValue239}
end Go.Proofs
namespace Go.Proofs.YthpkjfliibdnjaaGreatDoor
section
open Go.RowKit Go.Sort Go.Shelf
attribute [local go_sem ↓] Go.wp_at_zero Go.wp_at_succ
namespace Oq
structure CdR where
 c:Cd
 lo:0≤c.d
 hi:c.d≤1000
instance:Inhabited CdR:=⟨⟨⟨0,0,0,0,0⟩,Ao1 _,by decide⟩⟩
def CdR.cells (x:CdR):List Value:=x.c.cells
def G6 (x y:CdR):Int:=x.c.d-y.c.d
theorem I4 (x y:CdR):ltOf G6 x y=decide (x.c.d<y.c.d):=by
 unfold ltOf G6;rw [Bool.eq_iff_iff,decide_eq_true_iff,decide_eq_true_iff];omega
theorem Aa8:SWO (ltOf G6) where
 irrefl x:=by rw [I4];simp
 trans x y z h1 h2:=by
  rw [I4,decide_eq_true_iff] at*;omega
 ntrans x y z h1 h2:=by
  rw [I4,decide_eq_false_iff_not] at*;omega
theorem Aa9 (x y:Cd) (w:World) (hx0:0≤x.d) (hx1:x.d≤1000) (hy0:0≤y.d) (hy1:y.d≤1000):
  Calls Tryz.prog 60 #[.agg #[.int .i64 x.d,.int .i64 x.m,.int .u64 (x.l:Int),.int .u64 (x.k:Int),.int .u64 (x.s:Int)],.agg #[.int .i64 y.d,.int .i64 y.m,.int .u64 (y.l:Int),.int .u64 (y.k:Int),.int .u64 (y.s:Int)]] w fun e w'=>e=.returned (.int .i64 (x.d-y.d))∧GrowOf w w':=by
 have hf:=((GrowOf.refl w).alloc (.cells #[.int .i64 x.d,.int .i64 x.m,.int .u64 (x.l:Int),.int .u64 (x.k:Int),.int .u64 (x.s:Int)] 95)).alloc (.cells #[.int .i64 y.d,.int .i64 y.m,.int .u64 (y.l:Int),.int .u64 (y.k:Int),.int .u64 (y.s:Int)] 95);go_enter Tryz.func60,Tryz.ntmps60;go_wp2
 go_ret
 exact ⟨rfl,hf⟩
theorem Ab0 (blk off size:Nat) (w:World):CmpLays Tryz.prog 60 #[] CdR.cells 5 G6 blk off size w:=
 fun _ _ _ _ x y=>Aa9 x.c y.c _ x.lo x.hi y.lo y.hi
theorem Ab1 (base:Nat) (A:Option Addr) (c:Nat) (xs:List CdR) (w:World) (hown:Own w base 95 5 A xs.length c (xs.flatMap CdR.cells)) (hlen:xs.length≤1000000):
  Calls Tryz.prog 59 #[.slice A xs.length c,.func (.func 60) #[] #[]] w fun e w'=>e=.returned (.tuple #[])∧
   ∃ys:List CdR,ys.Perm xs∧ys.Pairwise (fun x y=>x.c.d≤y.c.d)∧Own w' base 95 5 A ys.length c (ys.flatMap CdR.cells)∧Fr (fun k=>Ac A=some k) w w':=by
 by_cases h0:xs.length=0
 ·
  have hx:xs=[]:=List.eq_nil_of_length_eq_zero h0;subst hx;have hcon:=AnyF.slices_SortFunc_none Tryz.sortCards A c (.func (.func 60) #[] #[]) w;refine Calls.mono hcon ?_;rintro e w' ⟨rfl,rfl⟩;exact ⟨rfl,[],List.Perm.refl _,List.Pairwise.nil,hown,Fr.refl _ _⟩
 ·
  obtain ⟨g,rfl⟩:∃g,A=some ⟨g,0,none⟩:=by
   rcases hown.2 with ⟨_,hn⟩|⟨g,cap,cur,hv,_⟩
   · exact absurd hn h0
   ·
    injection hv with hA _ _
    exact ⟨g,hA⟩
  have hrow:=hown.row g rfl;have eg:∀args w,(callFunc 60 args).run Tryz.prog w=.ok (.enter 60 args) w:=enters_of Tryz.func60 (by kernel_rfl) rfl;have hcon:=AnyQ.slices_SortFunc Tryz.sortCards 5 Tryz.isAgg95 Tryz.sizeOf95 CdR.cells (fun _=>rfl) (fun x v hv=>by simp [CdR.cells,Cd.cells] at hv;rcases hv with rfl|rfl|rfl|rfl|rfl<;>rfl) G6 Aa8 60 #[] g 0 c xs.toArray w eg (Ab0 g 0 _ w) (Aa5 (enc:=CdR.cells) (fun _=>rfl) (by decide) hown) hrow.2 (by simp;omega)
  refine Calls.mono hcon ?_;rintro e w' ⟨rfl,d',n,os,hp,hs,rfl⟩;have hds:d'.size=xs.length:=by rw [hp.1];simp
  have hperm:d'.toList.Perm xs:=by
   have h1:=hp.2.2
   have e1:d'.extract 0 xs.toArray.size=d':=by
    rw [show xs.toArray.size=d'.size from hp.1.symm];simp
   have e2:xs.toArray.extract 0 xs.toArray.size=xs.toArray:=by simp
   rw [e1,e2] at h1;simpa using h1
  refine ⟨rfl,d'.toList,hperm,?_,?_,?_⟩
  ·
   rw [List.pairwise_iff_getElem];intro i j hi hj hij;have h1:=hs i j (Am6 _) hij (by rw [← hp.1];simpa using hj);rw [I4] at h1;have hi':i<d'.size:=by simpa using hi
   have hj':j<d'.size:=by simpa using hj
   rw [getElem!_pos d' i hi',getElem!_pos d' j hj',decide_eq_false_iff_not] at h1;have h2:d'.toList[i]=d'[i]:=by simp
   have h3:d'.toList[j]=d'[j]:=by simp
   rw [h2,h3];omega
  ·
   have h1:=Aa6 (enc:=CdR.cells) (sz:=5) (fun _=>rfl) (by decide) (ys:=d'.toList) n os hown (by omega) (by simpa using hds);simpa using h1
  · exact (Qx w g n _ os).mono (fun k hk e=>by have e':k=g:=e;subst e';rfl)
theorem Ab2 {xs ys:List CdR} (hp:ys.Perm xs) (hs:ys.Pairwise (fun x y=>x.c.d≤y.c.d)) (hx:xs.Pairwise (fun x y=>x.c.d<y.c.d)):ys=xs:=by
 induction xs generalizing ys with
 |nil=>exact List.Perm.eq_nil hp
 |cons x r ih=>
  cases ys with
  |nil=>exact absurd hp.length_eq (by simp)
  |cons y q=>
   rw [List.pairwise_cons] at hs hx
   have hxy:y=x:=by
    have hy:y∈x::r:=hp.subset (by simp)
    rcases List.mem_cons.1 hy with h|h
    · exact h
    ·
     have h1:=hx.1 y h;have hx':x∈y::q:=hp.symm.subset (by simp)
     rcases List.mem_cons.1 hx' with h2|h2
     · exact h2.symm
     ·
      have h3:=hs.1 x h2;omega
   subst hxy;rw [ih (List.perm_cons y|>.1 hp) hs.2 hx.2]
end Oq
end
section
open Go.RowKit
attribute [local go_sem ↓] Go.wp_at_zero Go.wp_at_succ
namespace Oq
def I5 (cards:List Cd) (w:World) (e:Ending) (w':World):Prop:=
 ∃g:Gph,e=.returned (.pointer (some ⟨g.gb,0,none⟩))∧GAt w' w.heap.size g∧g.nodes=[]∧g.cards=cards∧Fr Non w w'
theorem Lh (l:List CdR):l.flatMap CdR.cells=(l.map CdR.c).flatMap Cd.cells:=by
 rw [List.flatMap_map];rfl
theorem Ab3 (B c:Nat) (A:Option Addr) (l:List CdR) (w:World) (hr:Rd w B 5 A l.length (l.flatMap CdR.cells)) (hs:l.Pairwise (fun x y=>x.c.d<y.c.d)) (hlen:l.length≤1000000) (hpos:0<w.heap.size) (hcs:∀x∈l,x.c.s<18446744073709551616):
  Calls Tryz.prog 25 #[.slice A l.length c] w (I5 (l.map CdR.c) w):=by
 have kc:=Lib.hid (Ww B l.length c A _ w hr (by rw [Lh];exact Aa7 _) hlen)
 have ab:Hid (∀(A1:Option Addr) (c1:Nat) (w1 w4:World),Fr Non w w1→Own w4 w.heap.size 95 5 A1 l.length c1 (l.flatMap CdR.cells)→
   Fr (fun k=>Ac A1=some k) ((w1.alloc (.map #[] 0)).alloc (.cells #[.slice A1 l.length c1,.map (some w1.heap.size),.slice none 0 0] 88)) w4→(∀k,Ac A1=some k→w.heap.size≤k∧k<w1.heap.size)→
   I5 (l.map CdR.c) w (.returned (.pointer (some ⟨w1.heap.size+1,0,none⟩))) w4):=by
  intro A1 c1 w1 w4 f1 o4 f4 aa;have af:¬Ac A1=some w1.heap.size:=fun e=>by have:=(aa _ e).2;omega
  have ag:¬Ac A1=some (w1.heap.size+1):=fun e=>by have:=(aa _ e).2;omega
  have bg:=Blk.new (w1.alloc (.map #[] 0)) 88 #[.slice A1 l.length c1,.map (some w1.heap.size),.slice none 0 0];rw [Ao2] at bg;have hm:=((MapAt.made w1).fr ((Fr.refl Non _).alloc (.cells #[.slice A1 l.length c1,.map (some w1.heap.size),.slice none 0 0] 88)) zq).fr f4 af;have sz:=f1.size;refine ⟨⟨w1.heap.size+1,w1.heap.size,0,A1,c1,l.map CdR.c,none,0,[]⟩,rfl,?_,rfl,rfl,?_⟩
  ·
   refine ⟨?_,hpos,by show _≤w1.heap.size+1;omega,sz,?_,Own.nil _ _ _ _,Am6 _,Am6 _,(fun n hn=>absurd hn (Am8)),?_,?_,hm,fun n hn=>absurd hn (Am8)⟩
   ·
    have h1:=bg.fr f4 ag;show Blk w4 (w1.heap.size+1) 88 #[.slice A1 (l.map CdR.c).length c1,.map (some w1.heap.size),.slice none 0 0];rw [An3];exact h1
   ·
    show Own w4 w.heap.size 95 5 A1 (l.map CdR.c).length c1 ((l.map CdR.c).flatMap Cd.cells);rw [An3,← Lh];exact o4
   ·
    show (l.map CdR.c).length≤1000000;rw [An3];exact hlen
   ·
    intro c hc;obtain ⟨x,hx,rfl⟩:=List.mem_map.1 hc;exact hcs x hx
  · exact ((f1.alloc _).alloc _).trans f4 (fun k hk e=>absurd hk (by have:=(aa k e).1;omega))
 generalize I5 (l.map CdR.c) w=POST at*;have ks:=Lib.hid (fun (A1:Option Addr) (c1:Nat) (w3:World) (o:Own w3 w.heap.size 95 5 A1 l.length c1 (l.flatMap CdR.cells))=>Ab1 w.heap.size A1 c1 l w3 o hlen);have ac:=Lib.hid (fun (ys:List CdR) (hp:ys.Perm l) (hq:ys.Pairwise (fun x y=>x.c.d≤y.c.d))=>Ab2 hp hq hs);clear hr hs hcs;go_enter Tryz.func25,Tryz.ntmps25;go_wp2_with (fail);refine (kc.out).mono ?_;rintro _ w1 ⟨A1,c1,rfl,o1,f1⟩;have aa:=o1.row;have bg:=Blk.new (w1.alloc (.map #[] 0)) 88 #[.slice A1 l.length c1,.map (some w1.heap.size),.slice none 0 0];rw [Ao2] at bg;have o3:=(o1.alloc (.map #[] 0)).alloc (.cells #[.slice A1 l.length c1,.map (some w1.heap.size),.slice none 0 0] 88);have g0:((w1.alloc (.map #[] 0)).alloc (.cells #[.slice A1 l.length c1,.map (some w1.heap.size),.slice none 0 0] 88)).cell? ⟨w1.heap.size+1,0,none⟩=some (.slice A1 l.length c1):=bg.cell 0;have kq:=Lib.hid (ks.out A1 c1 _ o3);have hp:=Lib.hid (fun (w4:World) o f=>ab.out A1 c1 w1 w4 f1 o f aa);have ai:=Lib.hid f1;clear kc ks ab o1 o3 aa f1 bg;have aj:=@run_makeMap Tryz.prog;go_wp2_with (fail);refine (kq.out).mono ?_;rintro _ w4 ⟨rfl,ys,ad,ae,o4,f4⟩;obtain rfl:=ac.out ys ad ae;have ah:=Lib.hid (hp.out w4 o4 f4);clear kq hp ac o4 f4 ad ae ai g0;go_wp2_with (fail);exact ah.out
theorem Ab4 (n:Nat):Sg.pub n<18446744073709551616:=An4 (Fd.pow_lt _ _) (by decide)
theorem cd_d (d m:Int) (l k s:Nat):(Cd.mk d m l k s).d=d:=rfl
theorem cd_s' (d m:Int) (l k s:Nat):(Cd.mk d m l k s).s=s:=rfl
theorem Gg (k:Nat) (m:Int):(Bt k m).d=(k:Int)+1:=cd_d _ _ _ _ _
theorem Li (k:Nat) (m:Int):(Bt k m).s=Sg.pub (sec Bb (k+1)):=cd_s' _ _ _ _ _
theorem Lj:∀(l:List Int) (i:Nat),i+l.length≤1000→∃xs:List CdR,xs.map CdR.c=Ba i l∧xs.Pairwise (fun x y=>x.c.d<y.c.d)∧(∀x∈xs,(i:Int)<x.c.d)∧∀x∈xs,x.c.s<18446744073709551616
 |[],i,_=>⟨[],rfl,List.Pairwise.nil,by simp,by simp⟩
 |m::r,i,h=>by
  have h':i+1+r.length≤1000:=by rw [List.length_cons] at h;omega
  have hi:i+1≤1000:=by omega
  obtain ⟨xs,h1,h2,h3,h4⟩:=Lj r (i+1) h';refine ⟨⟨Bt i m,by rw [Gg];omega,by rw [Gg];omega⟩::xs,?_,?_,?_,?_⟩
  ·
   show Bt i m::xs.map CdR.c=Bt i m::Ba (i+1) r;rw [h1]
  ·
   refine List.pairwise_cons.2 ⟨fun x hx=> ?_,h2⟩;show (Bt i m).d<x.c.d;rw [Gg];have:=h3 x hx;omega
  ·
   intro x hx
   rcases List.mem_cons.1 hx with rfl|hx
   ·
    show (i:Int)<(Bt i m).d;rw [Gg];omega
   ·
    have:=h3 x hx;omega
  ·
   intro x hx
   rcases List.mem_cons.1 hx with rfl|hx
   ·
    show (Bt i m).s<_;rw [Li];exact Ab4 _
   · exact h4 x hx
theorem Rg (B n c:Nat) (A:Option Addr) (l:List Int) (w:World) (hn:Hid (l.length=n)) (hnm:n≤1000) (hr:Rd w B 5 A n ((Ba 0 l).flatMap Cd.cells)) (hpos:0<w.heap.size):
  Calls Tryz.prog 25 #[.slice A n c] w (I5 (Ba 0 l) w):=by
 obtain ⟨xs,h1,h2,_,h4⟩:=Lj l 0 (by rw [hn.out];omega)
 have hl:xs.length=n:=by
  have:=congrArg List.length h1;rw [An3,O7,hn.out] at this;exact this
 rw [← h1] at hr ⊢;rw [← hl] at hr ⊢;rw [← Lh] at hr;exact Ab3 B c A xs w hr h2 (by omega) hpos h4
theorem GAt.ge {w:World} {base:Nat} {g:Gph} (h:GAt w base g) {k:Nat} (hk:g.own k):base≤k:=by
 rcases hk with e|e|e
 · rw [e];exact h.gbase
 · rw [e];exact h.mbase
 · exact (h.own.row k e).1
theorem KindsAt.own {w w':World} {base:Nat} {g:Gph} (h:KindsAt w) (hg:GAt w base g) (hf:Fr g.own w w'):KindsAt w':=fun k hk=>hf.cell (h k hk) (fun e=>by have h1:=hg.ge e;have h2:=hg.pos;have h3:base≤0:=h1;omega)
theorem Blk.keepG {w w':World} {base b:Nat} {g:Gph} {t:TypeId} {cs:Array Value} (h:Blk w b t cs) (hg:GAt w base g) (hf:Fr g.own w w') (ht:¬Gty t):Blk w' b t cs:=h.fr hf (fun e=>ht (hg.types _ _ _ _ h e))
theorem OpL.own.keepG {w w':World} {base bx:Nat} {g:Gph} {x:OpL} (h:x.own w bx) (hg:GAt w base g) (hf:Fr g.own w w'):x.own w' bx:=
 h.keepP hf hg.types (by unfold Gty;decide) (by unfold Gty;decide) (by unfold Gty;decide) (by unfold Gty;decide) (by unfold Gty;decide) (by unfold Gty;decide) (by unfold Gty;decide)
def Hw (base:Nat) (g:Gph) (l:List Pn) (w:World) (e:Ending) (w':World):Prop:=
 e=.returned (.int .i64 0)∧∃g':Gph,GAt w' base g'∧g'.gb=g.gb∧g'.cards=g.cards∧g'.pns=l∧Fr g.own w w'
theorem G7 {base:Nat} {g:Gph} {x:OpL} {w:World} {l:List Pn} {p:Pn} (hl:g.pns=l) (hg:GAt w base g) (hat:x.at w w.heap.size) (hok:x.op.ok) (hkn:KindsAt w) (he:Ag g.cards l x.op=0) (hp:As l x.op=p):
  Calls Tryz.prog 12 #[.pointer (some ⟨g.gb,0,none⟩),.agg x.cells] w (Hw base g (l++[p]) w):=by
 subst hl;refine (Gs base g x w hg hat hok hkn).mono ?_;rintro e w' ⟨rfl,h⟩
 rcases h with ⟨h0,_⟩|⟨_,g',h1,h2,_,h4,h5,h6,_⟩
 · exact absurd he h0
 ·
  refine ⟨by rw [he],g',h1,h2,h4,?_,h6⟩;rw [h5,hp]
theorem Rh {base:Nat} {g:Gph} {x:OpL} {w:World} {l:List Pn} {err:Int} (hl:g.pns=l) (hg:GAt w base g) (hat:x.at w w.heap.size) (hok:x.op.ok) (hkn:KindsAt w) (he:Ag g.cards l x.op=err) (h0:err≠0):
  Calls Tryz.prog 12 #[.pointer (some ⟨g.gb,0,none⟩),.agg x.cells] w fun e w'=>e=.returned (.int .i64 err)∧Fr Non w w':=by
 subst hl;subst he;refine (Gs base g x w hg hat hok hkn).mono ?_;rintro e w' ⟨rfl,h⟩
 rcases h with ⟨_,hf⟩|⟨h1,_⟩
 · exact ⟨rfl,hf⟩
 · exact absurd h1 h0
theorem Fm {o:Op} (h:o.ok):(sgn o).ok:=by
 have h1:Sg.r (sec Bb o.by_.toNat) o.bare<18446744073709551616:=An4 (Sg.r_lt _ _) (by decide);have h2:Sg.s (sec Bb o.by_.toNat) o.bare<18446744073709551616:=An4 (Sg.s_lt _ _) (by decide);unfold sgn;generalize Sg.r (sec Bb o.by_.toNat) o.bare=R at*;generalize Sg.s (sec Bb o.by_.toNat) o.bare=S at*;exact {h with r:=h1,s:=h2}
end Oq
end
section
open Go.RowKit
namespace Oq
inductive Rows (cards:List Cd):List Pn→Prop
 |nil:Rows cards []
 |snoc (l:List Pn) (o:Op):Rows cards l→Ag cards l o=0→Rows cards (l++[As l o])
structure I6 (cards:List Cd) (l:List Pn) (o:Op):Prop where
 chk:o.chk=0
 new:plc l o.name=none
 room:l.length<200
 card:(Bj cards o.by_).isSome=true
 past:∀id∈o.past,∃i,plc l id=some i
 clash:clash l o.past=false
 late:late l o.past≤o.at_
 seq:Ay l (Ai l o.past) o=false
theorem I7 {cards:List Cd} {l:List Pn} {o:Op} (h:Ag cards l o=0):I6 cards l o:=by
 unfold Ag at h
 by_cases h1:o.chk≠0
 · rw [if_pos h1] at h;exact absurd h h1
 rw [if_neg h1] at h
 by_cases h2:(plc l o.name).isSome=true
 · rw [if_pos h2] at h;omega
 rw [if_neg h2] at h
 by_cases h3:200≤l.length
 · rw [if_pos h3] at h;omega
 rw [if_neg h3] at h
 cases hc:Bj cards o.by_ with
 |none=>rw [hc] at h;dsimp only at h;omega
 |some c=>
  rw [hc] at h;dsimp only at h
  by_cases h4:Sg.check c.s o.bare o.r o.s=false
  · rw [if_pos h4] at h;omega
  rw [if_neg h4] at h
  by_cases h5:o.kind=1∧l≠[]
  · rw [if_pos h5] at h;omega
  rw [if_neg h5] at h
  by_cases h6:o.past.any (fun id=>(plc l id).isNone)=true
  · rw [if_pos h6] at h;omega
  rw [if_neg h6] at h
  by_cases h7:Oq.clash l o.past=true∨o.at_<Oq.late l o.past
  · rw [if_pos h7] at h;omega
  rw [if_neg h7] at h
  by_cases h8:Ay l (Ai l o.past) o=true
  · rw [if_pos h8] at h;omega
  refine ⟨Decidable.not_not.1 h1,?_,by omega,by rw [hc];rfl,?_,?_,?_,Bool.not_eq_true _▸h8⟩
  ·
   cases hp:plc l o.name with
   |none=>rfl
   |some i=>rw [hp] at h2;exact absurd rfl h2
  ·
   intro id hid
   cases hp:plc l id with
   |some i=>exact ⟨i,rfl⟩
   |none=>exact absurd (List.any_eq_true.2 ⟨id,hid,by rw [hp];rfl⟩) h6
  ·
   cases hcl:Oq.clash l o.past with
   |false=>rfl
   |true=>exact absurd (Or.inl hcl) h7
  · exact Int.not_lt.1 (fun hh=>h7 (Or.inr hh))
theorem Eh {l:List Pn} {id:Id} {i:Nat} (n:Pn) (h:plc l id=some i):plc (l++[n]) id=some i:=by
 unfold plc at h ⊢;rw [Ap0,h];rfl
theorem Ab5 {l:List Pn} {n:Pn} (h:plc l n.id=none):plc (l++[n]) n.id=some l.length:=by
 unfold plc at h ⊢;rw [Ap0,h];simp
theorem I8 {l:List Pn} {p:Nat} {m n:Pn} (h:l[p]? =some m):(l++[n])[p]? =some m:=by
 obtain ⟨hp,hm⟩:=List.getElem?_eq_some_iff.1 h;rw [Am9 hp];exact h
structure NOk (cards:List Cd) (l:List Pn) (i:Nat) (n:Pn):Prop where
 id:n.id=n.o.name
 plc:plc l n.id=some i
 chk:n.o.chk=0
 card:(Bj cards n.o.by_).isSome=true
 par:∀id∈n.o.past,∃p,p<i∧Oq.plc l id=some p
 lt:∀q,n.ps q=true→q<i
 ps:∀q,n.ps q=true↔∃id∈n.o.past,∃p m,Oq.plc l id=some p∧l[p]? =some m∧(q=p∨m.ps q=true)
 anti:∀id∈n.o.past,∀id'∈n.o.past,∀p p' m,Oq.plc l id=some p→Oq.plc l id'=some p'→l[p]? =some m→m.ps p'=false
 late:∀id∈n.o.past,∀p m,Oq.plc l id=some p→l[p]? =some m→m.o.at_≤n.o.at_
 lev:n.lev=lvl l n.o.past
 seqs:∀q m,n.ps q=true→l[q]? =some m→m.o.by_=n.o.by_→m.o.sq<n.o.sq
 one:n.o.sq=1∨∃q m,n.ps q=true∧l[q]? =some m∧m.o.by_=n.o.by_∧m.o.sq=n.o.sq-1
theorem Ri {l l':List Pn} {ids:List Id} (h:∀id∈ids,Bn l' id=Bn l id):lvl l' ids=lvl l ids:=by
 unfold lvl
 suffices H:∀t:Nat,ids.foldl (fun t id=>max t (Bn l' id+1)) t=ids.foldl (fun t id=>max t (Bn l id+1)) t from H 1
 induction ids with
 |nil=>intro t;rfl
 |cons x r ih=>intro t;rw [List.foldl_cons,List.foldl_cons,h x Ao3];exact ih (fun y hy=>h y (Ao4 _ hy)) _
theorem NOk.keep {cards:List Cd} {l:List Pn} {i:Nat} {n n':Pn} (h:NOk cards l i n) (hi:l[i]? =some n):NOk cards (l++[n']) i n:=by
 have hil:i<l.length:=(List.getElem?_eq_some_iff.1 hi).1
 have hpar:∀id∈n.o.past,∀p,Oq.plc (l++[n']) id=some p→Oq.plc l id=some p:=by
  intro id hid p hp;obtain ⟨q,_,hq⟩:=h.par id hid;rw [Eh n' hq] at hp;injection hp with hp
  subst hp;exact hq
 have hat:∀id∈n.o.past,∀p m,Oq.plc l id=some p→(l++[n'])[p]? =some m→l[p]? =some m:=by
  intro id hid p m hp hm;rw [Am9 (Dk hp)] at hm;exact hm
 have hlow:∀q m,n.ps q=true→(l++[n'])[q]? =some m→l[q]? =some m:=by
  intro q m hq hm;rw [Am9 (An4 (h.lt q hq) hil)] at hm;exact hm
 refine ⟨h.id,Eh n' h.plc,h.chk,h.card,fun id hid=> ?_,h.lt,fun q=>(h.ps q).trans ⟨?_,?_⟩,?_,?_,?_,?_,?_⟩
 ·
  obtain ⟨p,hp,hq⟩:=h.par id hid;exact ⟨p,hp,Eh n' hq⟩
 ·
  rintro ⟨id,hid,p,m,h1,h2,h3⟩;exact ⟨id,hid,p,m,Eh n' h1,I8 h2,h3⟩
 ·
  rintro ⟨id,hid,p,m,h1,h2,h3⟩;have h1':=hpar id hid p h1;exact ⟨id,hid,p,m,h1',hat id hid p m h1' h2,h3⟩
 ·
  intro id hid id' hid' p p' m h1 h2 h3;have h1':=hpar id hid p h1;exact h.anti id hid id' hid' p p' m h1' (hpar id' hid' p' h2) (hat id hid p m h1' h3)
 ·
  intro id hid p m h1 h2;have h1':=hpar id hid p h1;exact h.late id hid p m h1' (hat id hid p m h1' h2)
 ·
  rw [h.lev];refine (Ri (fun id hid=> ?_)).symm;obtain ⟨p,_,hq⟩:=h.par id hid;unfold Bn;rw [Eh n' hq,hq];dsimp only;rw [Am9 (Dk hq)]
 ·
  intro q m hq hm;exact h.seqs q m hq (hlow q m hq hm)
 ·
  rcases h.one with h1|⟨q,m,h1,h2,h3⟩
  · exact .inl h1
  · exact .inr ⟨q,m,h1,I8 h2,h3⟩
theorem upB_iff {l:List Pn} {id:Id} {q:Nat}:upB l id q=true↔∃p m,plc l id=some p∧l[p]? =some m∧m.ps q=true:=by
 unfold upB;constructor
 ·
  intro h
  split at h
  ·
   rename_i p hp;obtain ⟨m,hm,_⟩:=Dj hp;rw [hm] at h;exact ⟨p,m,hp,hm,h⟩
  · cases h
 ·
  rintro ⟨p,m,h1,h2,h3⟩;rw [h1];dsimp only;rw [h2];exact h3
theorem Rj {l:List Pn} {ids:List Id} (hlen:l.length≤200) (hlt:∀(p:Nat) (m:Pn),l[p]? =some m→∀q,m.ps q=true→q<p) (q:Nat):
  Ai l ids q=true↔∃id∈ids,∃p m,plc l id=some p∧l[p]? =some m∧(q=p∨m.ps q=true):=by
 unfold Ai Av Bw;rw [Am7,An5,Ao5,Ao5,decide_eq_true_eq];constructor
 ·
  rintro ⟨_,⟨id,hid,h⟩|⟨id,hid,h⟩⟩
  ·
   obtain ⟨p,m,h1,h2,h3⟩:=upB_iff.1 h;exact ⟨id,hid,p,m,h1,h2,.inr h3⟩
  ·
   have h1:plc l id=some q:=by simpa using h
   obtain ⟨m,hm,_⟩:=Dj h1;exact ⟨id,hid,q,m,h1,hm,.inl rfl⟩
 ·
  rintro ⟨id,hid,p,m,h1,h2,h3⟩;have hp:=Dk h1
  rcases h3 with rfl|h3
  · exact ⟨by omega,.inr ⟨id,hid,by rw [h1];exact beq_self_eq_true _⟩⟩
  ·
   have:=hlt p m h2 q h3;exact ⟨by omega,.inl ⟨id,hid,upB_iff.2 ⟨p,m,h1,h2,h3⟩⟩⟩
theorem Rk {l:List Pn} {ids:List Id} {id:Id} (h:id∈ids):Cb l id≤late l ids:=by
 unfold late
 have mono:∀(r:List Id) (t:Int),t≤r.foldl (fun t id=>max t (Cb l id)) t:=by
  intro r
  induction r with
  |nil=>intro t;exact Ao1 _
  |cons y r ih=>intro t;exact An1 (Ao6 _ _) (ih _)
 suffices H:∀t:Int,Cb l id≤ids.foldl (fun t id=>max t (Cb l id)) t from H 0
 induction ids with
 |nil=>cases h
 |cons x r ih=>
  intro t
  rcases List.mem_cons.1 h with rfl|h'
  · exact An1 (Int.le_max_right t _) (mono r _)
  · exact ih h' _
theorem I9 {l:List Pn} {id:Id} {p:Nat} {m:Pn} (h1:plc l id=some p) (h2:l[p]? =some m):Cb l id=m.o.at_:=by
 unfold Cb;rw [h1];dsimp only;rw [h2];rfl
theorem Rl {l:List Pn} {id:Id} {p:Nat} {m:Pn} (h1:plc l id=some p) (h2:l[p]? =some m):Bn l id=m.lev:=by
 unfold Bn;rw [h1];dsimp only;rw [h2];rfl
theorem Rm {l:List Pn} {p:Nat→Bool} {d:Int}:∀{K k:Nat} {m:Pn},k<K→l[k]? =some m→m.o.by_=d→p k=true→m.o.sq≤Bi l p d K:=by
 intro K
 induction K with
 |zero=>intro k m h;omega
 |succ K ih=>
  intro k m h hm hd hp;unfold Bi
  rcases An2 k K with hk|hk
  ·
   have:=ih hk hm hd hp
   split
   ·
    split
    · exact An1 this (Ao6 _ _)
    · exact this
   · exact this
  ·
   have e:k=K:=by omega
   subst e;rw [hm];dsimp only;rw [if_pos (by rw [Am7];exact ⟨beq_iff_eq.2 hd,hp⟩)];exact Int.le_max_right _ _
theorem aheadTo_iff {l:List Pn} {p:Nat→Bool} {d s:Int}:∀{K:Nat},Bu l p d s K=true↔∃k m,k<K∧l[k]? =some m∧m.o.by_=d∧p k=true∧m.o.sq=s-1:=by
 intro K
 induction K with
 |zero=>exact ⟨fun h=>(by cases h),fun ⟨k,m,h,_⟩=>by omega⟩
 |succ K ih=>
  unfold Bu
  cases hK:l[K]? with
  |none=>
   dsimp only;rw [ih];constructor
   ·
    rintro ⟨k,m,h,h'⟩;exact ⟨k,m,by omega,h'⟩
   ·
    rintro ⟨k,m,h,h1,h'⟩;have:k≠K:=fun e=>by subst e;rw [hK] at h1;cases h1
    exact ⟨k,m,by omega,h1,h'⟩
  |some n=>
   dsimp only;rw [An5,ih,Am7,Am7,beq_iff_eq,beq_iff_eq];constructor
   ·
    rintro (⟨k,m,h,h'⟩|⟨⟨h1,h2⟩,h3⟩)
    · exact ⟨k,m,by omega,h'⟩
    · exact ⟨K,n,by omega,hK,h1,h2,h3⟩
   ·
    rintro ⟨k,m,h,h1,h2,h3,h4⟩
    rcases An2 k K with hk|hk
    · exact .inl ⟨k,m,hk,h1,h2,h3,h4⟩
    ·
     have e:k=K:=by omega
     subst e;rw [hK] at h1;injection h1 with h1
     subst h1;exact .inr ⟨⟨h2,h3⟩,h4⟩
theorem Rn {cards:List Cd} {l:List Pn} {o:Op} (hl:∀i n,l[i]? =some n→NOk cards l i n) (T:I6 cards l o):NOk cards (l++[As l o]) l.length (As l o):=by
 have ak:∀(p:Nat) (m:Pn),l[p]? =some m→∀q,m.ps q=true→q<p:=fun p m hm=>(hl p m hm).lt;have aj:=Rj (ids:=o.past) (Ao0 T.room) ak
 have ac:∀id∈o.past,∀p,plc (l++[As l o]) id=some p→plc l id=some p:=by
  intro id aa p hp;obtain ⟨q,hq⟩:=T.past id aa;rw [Eh _ hq] at hp;injection hp with hp
  subst hp;exact hq
 have ah:∀id∈o.past,∀p m,plc l id=some p→(l++[As l o])[p]? =some m→l[p]? =some m:=by
  intro id aa p m hp hm;rw [Am9 (Dk hp)] at hm;exact hm
 have ae:∀q,Ai l o.past q=true→q<l.length:=by
  intro q hq;obtain ⟨id,aa,p,m,h1,h2,h3⟩:=(aj q).1 hq;have:=Dk h1
  rcases h3 with rfl|h3
  · exact this
  ·
   have:=ak p m h2 q h3;omega
 have ab:=T.seq;unfold Ay at ab;rw [Bool.or_eq_false_iff,decide_eq_false_iff_not] at ab;refine ⟨rfl,Ab5 (n:=As l o) T.new,T.chk,T.card,?_,ae,fun q=>(aj q).trans ⟨?_,?_⟩,?_,?_,?_,?_,?_⟩
 ·
  intro id aa;obtain ⟨p,hp⟩:=T.past id aa;exact ⟨p,Dk hp,Eh _ hp⟩
 ·
  rintro ⟨id,aa,p,m,h1,h2,h3⟩;exact ⟨id,aa,p,m,Eh _ h1,I8 h2,h3⟩
 ·
  rintro ⟨id,aa,p,m,h1,h2,h3⟩;have ad:=ac id aa p h1;exact ⟨id,aa,p,m,ad,ah id aa p m ad h2,h3⟩
 ·
  intro id aa al af p p' m h1 h2 h3;have ad:=ac id aa p h1;have ag:=ac al af p' h2;have ao:=ah id aa p m ad h3;have ap:=T.room;have aq:=Dk ag;have hc:=T.clash;unfold Oq.clash at hc;rw [Ap1] at hc;have hq:=hc p' (List.mem_range.2 (by omega))
  cases hm:m.ps p' with
  |false=>rfl
  |true=>
   refine absurd ?_ hq;rw [Am7];exact ⟨List.any_eq_true.2 ⟨al,af,by rw [ag];exact beq_self_eq_true _⟩,List.any_eq_true.2 ⟨id,aa,upB_iff.2 ⟨p,m,ad,ao,hm⟩⟩⟩
 ·
  intro id aa p m h1 h2;have ad:=ac id aa p h1;have ag:=ah id aa p m ad h2;have:=Rk (l:=l) aa;rw [I9 ad ag] at this;exact An1 this T.late
 ·
  refine (Ri (l:=l) (l':=l++[As l o]) (fun id aa=> ?_)).symm;obtain ⟨p,hq⟩:=T.past id aa;unfold Bn;rw [Eh _ hq,hq];dsimp only;rw [Am9 (Dk hq)]
 ·
  intro q m hq hm hb;have ai:=ae q hq;rw [Am9 ai] at hm;have:=Rm (p:=Ai l o.past) ai hm hb hq;exact Int.lt_of_le_of_lt this (Int.not_le.1 ab.1)
 ·
  rcases Int.lt_or_le 1 o.sq with h1|h1
  ·
   have h2:=ab.2;rw [Bool.and_eq_false_iff] at h2
   rcases h2 with h2|h2
   ·
    rw [decide_eq_false_iff_not] at h2;exact absurd h1 h2
   ·
    have h3:Bu l (Ai l o.past) o.by_ o.sq l.length=true:=by
     cases ha:Bu l (Ai l o.past) o.by_ o.sq l.length with
     |true=>rfl
     |false=>rw [ha] at h2;cases h2
    obtain ⟨k,m,hk,hm,hb,hp,hs⟩:=aheadTo_iff.1 h3;exact .inr ⟨k,m,hp,I8 hm,hb,hs⟩
  ·
   refine .inl ?_
   have h0:∀K,0≤Bi l (Ai l o.past) o.by_ K:=by
    intro K
    induction K with
    |zero=>exact Ao1 _
    |succ K ih=>
     unfold Bi
     split
     ·
      split
      · exact An1 ih (Ao6 _ _)
      · exact ih
     · exact ih
   have h2:=h0 l.length;have h3:=Int.not_le.1 ab.1;have h4:(As l o).o.sq=o.sq:=rfl;rw [h4];omega
theorem Rows.ok {cards:List Cd} {l:List Pn} (h:Rows cards l):∀i n,l[i]? =some n→NOk cards l i n:=by
 induction h with
 |nil=>intro i n h;simp at h
 |snoc l o hl ho ih=>
  intro i n hi
  rcases An2 i l.length with hlt|hge
  ·
   rw [Am9 hlt] at hi;exact (ih i n hi).keep hi
  ·
   rw [Ap2 hge] at hi
   have e:i-l.length=0:=by
    rcases Ao9 (i-l.length) with h0|h0
    · exact h0
    · rw [List.getElem?_eq_none (by simp;omega)] at hi;cases hi
   rw [e] at hi;injection hi with hi
   subst hi;have:i=l.length:=by omega
   subst this;exact Rn ih (I7 ho)
theorem Rows.few {cards:List Cd} {l:List Pn} (h:Rows cards l):l.length≤200:=by
 induction h with
 |nil=>simp
 |snoc l o hl ho ih=>
  have:=(I7 ho).room;simp;omega
theorem Rows.trans {cards:List Cd} {l:List Pn} (h:Rows cards l):∀(i:Nat) {n m:Pn} {q r:Nat},l[i]? =some n→n.ps q=true→l[q]? =some m→m.ps r=true→n.ps r=true:=by
 intro i
 induction i using Nat.strongRecOn with
 |_ i ih=>
  intro n m q r hn hq hm hr;have k:=h.ok i n hn;obtain ⟨id,hid,p,m',h1,h2,h3⟩:=(k.ps q).1 hq;refine (k.ps r).2 ⟨id,hid,p,m',h1,h2,.inr ?_⟩
  rcases h3 with rfl|h3
  ·
   rw [h2] at hm;injection hm with hm
   subst hm;exact hr
  ·
   obtain ⟨p2,hp2,e⟩:=k.par id hid;rw [h1] at e;injection e with e
   subst e;exact ih p hp2 h2 h3 hm hr
theorem Rows.node {cards:List Cd} {l:List Pn} (h:Rows cards l) {i:Nat} {n:Pn} {id:Id} (hn:l[i]? =some n):plc l id=some i↔n.id=id:=by
 constructor
 ·
  intro hp;obtain ⟨m,hm,e⟩:=Dj hp;rw [hn] at hm;injection hm with hm
  subst hm;exact e
 ·
  rintro rfl;exact (h.ok i n hn).plc
def Aj (l:List Pn) (ids:List Id):List Nat:=ids.map (fun id=>(plc l id).getD 0)
def Fo (l:List Pn):List (List Nat):=l.map (fun n=>Aj l n.o.past)
def Bo (n:Nat) (p:Nat→Bool):List Bool:=(List.range n).map p
def Dc (l:List Pn):List (List Bool):=l.map (fun n=>Bo l.length n.ps)
theorem Gh (n:Nat) (p:Nat→Bool):(Bo n p).length=n:=by simp [Bo]
theorem Ro {n:Nat} {p:Nat→Bool} {k:Nat} (h:k<n):(Bo n p)[k]? =some (p k):=by simp [Bo,h]
theorem Rp (n:Nat) (p:Nat→Bool):Bo (n+1) p=Bo n p++[p n]:=by simp [Bo,List.range_succ]
theorem Ab6 (l:List Pn):(Dc l).length=l.length:=by simp [Dc]
theorem Ab7 {l:List Pn} {i:Nat} {n:Pn} (h:l[i]? =some n):(Fo l)[i]? =some (Aj l n.o.past):=by simp [Fo,h]
theorem Rq {l:List Pn} {i:Nat} {n:Pn} (h:l[i]? =some n):(Dc l)[i]? =some (Bo l.length n.ps):=by simp [Dc,h]
theorem Gi (l:List Pn) (ids:List Id):(Aj l ids).length=ids.length:=by simp [Aj]
theorem Lk {l:List Pn} {ids:List Id} (h:∀id∈ids,∃p,plc l id=some p):∀q∈Aj l ids,q<l.length:=by
 intro q hq;obtain ⟨id,hid,rfl⟩:=List.mem_map.1 hq;obtain ⟨p,hp⟩:=h id hid;rw [hp];exact Dk hp
theorem Ja {l:List Pn} {ids:List Id} (h:∀id∈ids,∃p,plc l id=some p) (q:Nat):q∈Aj l ids↔∃id∈ids,plc l id=some q:=by
 unfold Aj;rw [List.mem_map];constructor
 ·
  rintro ⟨id,hid,rfl⟩;obtain ⟨p,hp⟩:=h id hid;exact ⟨id,hid,by rw [hp];rfl⟩
 ·
  rintro ⟨id,hid,hq⟩;exact ⟨id,hid,by rw [hq];rfl⟩
theorem NOk.placed {cards:List Cd} {l:List Pn} {i:Nat} {n:Pn} (h:NOk cards l i n):∀id∈n.o.past,∃p,Oq.plc l id=some p:=fun id hid=>by
 obtain ⟨p,_,hp⟩:=h.par id hid;exact ⟨p,hp⟩
theorem Ab8 {cards:List Cd} {l:List Pn} {o:Op} (h:Rows cards l) (T:I6 cards l o):Fo (l++[As l o])=Fo l++[Aj l o.past]:=by
 have key:∀ids:List Id,(∀id∈ids,∃p,plc l id=some p)→Aj (l++[As l o]) ids=Aj l ids:=by
  intro ids hids;unfold Aj;refine Ao7 (fun id hid=> ?_);obtain ⟨p,hp⟩:=hids id hid;rw [Eh _ hp,hp]
 unfold Fo;rw [List.map_append,An8,An9];have h1:Aj (l++[As l o]) (As l o).o.past=Aj l o.past:=key _ T.past;rw [h1];congr 1;refine Ao7 (fun n hn=> ?_);obtain ⟨i,hi⟩:=Ap3 hn;exact key _ (h.ok i n hi).placed
theorem Ab9 {cards:List Cd} {l:List Pn} {o:Op} (h:Rows cards l) (T:I6 cards l o):Dc (l++[As l o])=(Dc l).map (· ++[false])++[Bo l.length (Ai l o.past)++[false]]:=by
 have hn:=(Rn h.ok T).lt;unfold Dc;rw [List.map_append,An8,An9,List.map_map,Ap4,Ap5];congr 1
 ·
  refine Ao7 (fun n hm=> ?_);obtain ⟨i,hi⟩:=Ap3 hm;have hil:i<l.length:=(List.getElem?_eq_some_iff.1 hi).1;show Bo (l.length+1) n.ps=Bo l.length n.ps++[false];rw [Rp]
  have:n.ps l.length=false:=by
   cases hp:n.ps l.length with
   |false=>rfl
   |true=>have:=(h.ok i n hi).lt _ hp;omega
  rw [this]
 ·
  have:(As l o).ps l.length=false:=by
   cases hp:(As l o).ps l.length with
   |false=>rfl
   |true=>have:=hn _ hp;omega
  rw [Rp,this];rfl
def C2 (up:List Nat) (i:Nat) (s:Nat→Bool):Nat→Bool:=fun q=>s q||(decide (q=i)&&up.contains i)
def Dd (us:Nat→List Nat) (up:List Nat) (i:Nat) (s:Nat→Bool):Nat→Bool:=
 fun q=>C2 up i s q||(C2 up i s i&&(us i).contains q)
def C8 (us:Nat→List Nat) (up:List Nat):Nat→(Nat→Bool)→(Nat→Bool)
 |0,s=>s
 |i+1,s=>C8 us up i (Dd us up i s)
theorem Ac0 (us:Nat→List Nat) (up:List Nat) (P:Nat→Bool) (h1:∀q∈up,P q=true) (h2:∀j,P j=true→∀q∈us j,P q=true) (h3:∀j,∀q∈us j,q<j):
  ∀(i:Nat) (s:Nat→Bool),(∀q,s q=true→P q=true)→(∀q∈up,i≤q→s q=true)→(∀j,i≤j→s j=true→∀q∈us j,s q=true)→
  (∀q,C8 us up i s q=true→P q=true)∧(∀q∈up,C8 us up i s q=true)∧(∀j,C8 us up i s j=true→∀q∈us j,C8 us up i s q=true):=by
 intro i
 induction i with
 |zero=>intro s a b c;exact ⟨a,fun q hq=>b q hq (Am6 _),fun j=>c j (Am6 _)⟩
 |succ i ih=>
  intro s a b c
  have hm:∀q,C2 up i s q=true↔s q=true∨(q=i∧i∈up):=by
   intro q;unfold C2;rw [An5,Am7,decide_eq_true_eq,Ap6]
  have hs:∀q,Dd us up i s q=true↔C2 up i s q=true∨(C2 up i s i=true∧q∈us i):=by
   intro q;unfold Dd;rw [An5,Am7,Ap6]
  have hmP:∀q,C2 up i s q=true→P q=true:=by
   intro q hq
   rcases (hm q).1 hq with h|⟨rfl,h⟩
   · exact a q h
   · exact h1 q h
  refine ih (Dd us up i s) ?_ ?_ ?_
  ·
   intro q hq
   rcases (hs q).1 hq with h|⟨h,h'⟩
   · exact hmP q h
   · exact h2 i (hmP i h) q h'
  ·
   intro q hq hiq;refine (hs q).2 (.inl ((hm q).2 ?_))
   rcases An2 i q with h|h
   · exact .inl (b q hq h)
   ·
    have e:q=i:=by omega
    subst e;exact .inr ⟨rfl,hq⟩
  ·
   intro j hij hj q hq
   rcases An2 i j with h|h
   ·
    have hsj:s j=true:=by
     rcases (hs j).1 hj with h'|⟨_,h'⟩
     ·
      rcases (hm j).1 h' with h''|⟨e,_⟩
      · exact h''
      · omega
     ·
      have:=h3 i j h';omega
    exact (hs q).2 (.inl ((hm q).2 (.inl (c j h hsj q hq))))
   ·
    have e:j=i:=by omega
    subst e;refine (hs q).2 (.inr ⟨?_,hq⟩)
    rcases (hs j).1 hj with h'|⟨h',_⟩
    · exact h'
    · exact h'
def De (l:List Pn) (i:Nat):List Nat:=match l[i]? with|some n=>Aj l n.o.past|none=>[]
theorem Ll {l:List Pn} {i:Nat} {n:Pn} (h:l[i]? =some n):De l i=Aj l n.o.past:=by
 unfold De;rw [h]
theorem Ac1 {cards:List Cd} {l:List Pn} (h:Rows cards l) {ids:List Id} (hids:∀id∈ids,∃p,plc l id=some p) (q:Nat):
  C8 (De l) (Aj l ids) l.length (fun _=>false) q=Ai l ids q:=by
 have hlt:∀(p:Nat) (m:Pn),l[p]? =some m→∀q,m.ps q=true→q<p:=fun p m hm=>(h.ok p m hm).lt;have hps:=Rj (ids:=ids) h.few hlt
 have hus:∀j q,q∈De l j→∃n,l[j]? =some n∧∃id∈n.o.past,plc l id=some q:=by
  intro j q hq
  cases hj:l[j]? with
  |none=>unfold De at hq;rw [hj] at hq;cases hq
  |some n=>
   rw [Ll hj,Ja (h.ok j n hj).placed] at hq;exact ⟨n,rfl,hq⟩
 have hps1:∀j n,l[j]? =some n→∀q∈De l j,n.ps q=true:=by
  intro j n hj q hq;obtain ⟨n',hn',id,hid,hp⟩:=hus j q hq;rw [hj] at hn';injection hn' with e
  subst e;obtain ⟨m,hm,_⟩:=Dj hp;exact ((h.ok j n hj).ps q).2 ⟨id,hid,q,m,hp,hm,.inl rfl⟩
 obtain ⟨a,b,c⟩:=Ac0 (De l) (Aj l ids) (Ai l ids) (by
   intro q hq;obtain ⟨id,hid,hp⟩:=(Ja hids q).1 hq;obtain ⟨m,hm,_⟩:=Dj hp;exact (hps q).2 ⟨id,hid,q,m,hp,hm,.inl rfl⟩) (by
   intro j hj q hq;obtain ⟨n,hn,_⟩:=hus j q hq;have hnq:=hps1 j n hn q hq;obtain ⟨id,hid,p,m,h1,h2,h3⟩:=(hps j).1 hj;refine (hps q).2 ⟨id,hid,p,m,h1,h2,.inr ?_⟩
   rcases h3 with rfl|h3
   ·
    rw [hn] at h2;injection h2 with e
    subst e;exact hnq
   · exact h.trans p h2 h3 hn hnq) (by
   intro j q hq;obtain ⟨n,hn,id,hid,hp⟩:=hus j q hq;obtain ⟨p,hpj,hp'⟩:=(h.ok j n hn).par id hid;rw [hp] at hp';injection hp' with e
   omega) l.length (fun _=>false) (fun q hq=>by cases hq) (fun q hq hle=>by have:=Lk hids q hq;omega) (fun j _ hj=>by cases hj)
 rw [Bool.eq_iff_iff];refine ⟨a q,fun hq=> ?_⟩;obtain ⟨id,hid,p,m,h1,h2,h3⟩:=(hps q).1 hq;have hp:=b p ((Ja hids p).2 ⟨id,hid,h1⟩)
 have down:∀(j:Nat) (n:Pn) (r:Nat),l[j]? =some n→C8 (De l) (Aj l ids) l.length (fun _=>false) j=true→n.ps r=true→C8 (De l) (Aj l ids) l.length (fun _=>false) r=true:=by
  intro j
  induction j using Nat.strongRecOn with
  |_ j ih=>
   intro n r hn hj hr;obtain ⟨id',hid',p',m',k1,k2,k3⟩:=((h.ok j n hn).ps r).1 hr;have hp':p'∈De l j:=by rw [Ll hn,Ja (h.ok j n hn).placed];exact ⟨id',hid',k1⟩
   have hd:=c j hj p' hp'
   rcases k3 with rfl|k3
   · exact hd
   ·
    obtain ⟨p2,hp2,e⟩:=(h.ok j n hn).par id' hid';rw [k1] at e;injection e with e
    exact ih p' (by omega) m' r k2 hd k3
 rcases h3 with rfl|h3
 · exact hp
 · exact down p m q h2 hp h3
theorem Ac2 {l:List Pn} {p:Nat→Bool} {o:Op} {k:Nat} {m:Pn} (hm:l[k]? =some m) (hb:m.o.by_=o.by_) (hp:p k=true) (hs:o.sq≤m.o.sq):Ay l p o=true:=by
 unfold Ay;rw [An5];have hk:k<l.length:=(List.getElem?_eq_some_iff.1 hm).1;exact .inl (decide_eq_true (An1 hs (Rm hk hm hb hp)))
theorem Ac3 {l:List Pn} {p:Nat→Bool} {o:Op} (h1:1≤o.sq) (h:∀k m,l[k]? =some m→m.o.by_=o.by_→p k=true→m.o.sq<o.sq):
  Ay l p o=!((o.sq==1)||Bu l p o.by_ o.sq l.length):=by
 have hl:∀K,Bi l p o.by_ K<o.sq:=by
  intro K
  induction K with
  |zero=>exact h1
  |succ K ih=>
   unfold Bi
   split
   ·
    rename_i n hn
    split
    ·
     rename_i hc;rw [Am7,beq_iff_eq] at hc;have:=h K n hn hc.1 hc.2;exact Int.max_lt.2 ⟨ih,this⟩
    · exact ih
   · exact ih
 unfold Ay;rw [decide_eq_false (Int.not_le.2 (hl _)),Bool.false_or]
 rcases Int.lt_or_le 1 o.sq with h2|h2
 ·
  rw [decide_eq_true h2,beq_eq_false_iff_ne.2 (fun e=>by omega)];rfl
 ·
  rw [decide_eq_false (Int.not_lt.2 h2),beq_iff_eq.2 (by omega)];rfl
theorem Ac4 {l:List Pn} {ids:List Id} (hlen:l.length≤200) {a b:Id} (ha:a∈ids) (hb:b∈ids) {p r:Nat} {m:Pn} (h1:plc l a=some p) (h2:plc l b=some r) (h3:l[p]? =some m) (h4:m.ps r=true):clash l ids=true:=by
 unfold clash;rw [Ao5];have:=Dk h2;refine ⟨r,List.mem_range.2 (by omega),?_⟩;rw [Am7];exact ⟨List.any_eq_true.2 ⟨b,hb,by rw [h2];exact beq_self_eq_true _⟩,List.any_eq_true.2 ⟨a,ha,upB_iff.2 ⟨p,m,h1,h3,h4⟩⟩⟩
theorem Ac5 {l:List Pn} {ids:List Id} (h:∀a∈ids,∀b∈ids,∀p r m,plc l a=some p→plc l b=some r→l[p]? =some m→m.ps r=false):clash l ids=false:=by
 unfold clash;rw [Ap1];intro q _ hq;rw [Am7] at hq;obtain ⟨b,hb,h2⟩:=List.any_eq_true.1 hq.1;obtain ⟨a,ha,h3⟩:=List.any_eq_true.1 hq.2;obtain ⟨p,m,h4,h5,h6⟩:=upB_iff.1 h3;rw [h a ha b hb p q m h4 (by simpa using h2) h5] at h6
 cases h6
theorem Ac6 {l:List Pn} {ids:List Id} {t:Int} {a:Id} (ha:a∈ids) {p:Nat} {m:Pn} (h1:plc l a=some p) (h2:l[p]? =some m) (h3:t<m.o.at_):t<late l ids:=by
 have:=Rk (l:=l) ha;rw [I9 h1 h2] at this;omega
theorem Ac7 {l:List Pn} {ids:List Id} {t:Int} (h0:0≤t) (hp:∀id∈ids,∃p,plc l id=some p) (h:∀a∈ids,∀p m,plc l a=some p→l[p]? =some m→m.o.at_≤t):¬t<late l ids:=by
 unfold late
 suffices H:∀s:Int,s≤t→ids.foldl (fun t id=>max t (Cb l id)) s≤t from Int.not_lt.2 (H 0 h0)
 induction ids with
 |nil=>intro s hs;exact hs
 |cons x r ih=>
  intro s hs;refine ih (fun id hid=>hp id (Ao4 _ hid)) (fun a ha=>h a (Ao4 _ ha)) _ ?_;obtain ⟨p,hpx⟩:=hp x Ao3;obtain ⟨m,hm,_⟩:=Dj hpx;have:=h x Ao3 p m hpx hm;exact Int.max_le.2 ⟨hs,by rw [I9 hpx hm];exact this⟩
def RowLies (w:World) (base:Nat) (t:TypeId) (size:Nat) (A:Option Addr) (n c:Nat) (xs:List Value):Prop:=
 SlAt w w.heap.size size A n c xs∧(n=0∨∃k off cs fr,A=some ⟨k,off,none⟩∧base≤k∧w.heap[k]? =some (.cells cs t fr))
section
variable {S : Nat → Prop} {P : TypeId → Prop} {w w' : World} {base base' size n c : Nat} {t : TypeId} {A : Option Addr} {xs : List Value}
theorem RowAt.lies (h:RowAt w base t size A n c xs):RowLies w base t size A n c xs:=⟨h.1,h.2.imp zq (fun ⟨k,cs,fr,e,h1,h2,_⟩=>⟨k,0,cs,fr,e,h1,h2⟩)⟩
theorem RowLies.fr (h:RowLies w base t size A n c xs) (hf:Fr S w w') (hs:n≠0→∀k cs fr,Ac A=some k→w.heap[k]? =some (.cells cs t fr)→¬S k):RowLies w' base t size A n c xs:=by
 obtain ⟨⟨⟨h1,h2⟩,h3⟩,h4⟩:=h
 rcases h4 with h0|⟨k,o,cs,fr,rfl,hk,hb⟩
 · exact ⟨⟨⟨h1,.inl h0⟩,h3⟩,.inl h0⟩
 ·
  by_cases h0:n=0
  · exact ⟨⟨⟨h1,.inl h0⟩,h3⟩,.inl h0⟩
  ·
   have hkl:=(Array.getElem?_eq_some_iff.1 hb).1;have hbk:=hf.block k hkl (hs h0 k cs fr rfl hb);refine ⟨⟨⟨h1,?_⟩,h3⟩,.inr ⟨k,o,cs,fr,rfl,hk,hbk.trans hb⟩⟩
   rcases h2 with h2|⟨b,off,e,hlt,hc⟩
   · exact .inl h2
   ·
    injection e with e
    injection e with e1 e2
    subst e1 e2;exact .inr ⟨k,o,rfl,Ap7 hkl hf.size,fun j u hu=>(World.cell?_of_block hbk).trans (hc j u hu)⟩
theorem RowLies.keepT (h:RowLies w base t size A n c xs) (hf:Fr S w w') (hS:∀k cs fr,w.heap[k]? =some (.cells cs t fr)→¬S k):RowLies w' base t size A n c xs:=h.fr hf (fun _ k cs fr _ hb=>hS k cs fr hb)
theorem RowLies.non (h:RowLies w base t size A n c xs) (hf:Fr Non w w'):RowLies w' base t size A n c xs:=h.fr hf (fun _ _ _ _ _ _ e=>e)
theorem RowLies.lower (h:RowLies w base t size A n c xs) (hb:base'≤base):RowLies w base' t size A n c xs:=
 ⟨h.1,h.2.imp id fun ⟨k,o,cs,fr,e,hk,r⟩=>⟨k,o,cs,fr,e,Nat.le_trans hb hk,r⟩⟩
end
structure OpL.lies (w:World) (base:Nat) (x:OpL):Prop where
 past:RowLies w base 36 3 x.pastA x.past.length x.pastC (x.past.flatMap Id.cells)
 path:RowLies w base 71 2 x.pathA x.path.length x.pathC (x.path.flatMap NdL.cells)
 nodes:∀y∈x.path,RowLies w base 129 4 y.A y.xs.length y.c (y.xs.flatMap Bx.cells)
 body:RowLies w base 5 1 x.bodyA x.body.length x.bodyC (x.body.map Bv)
 refs:RowLies w base 34 1 x.refsA x.refs.length x.refsC (x.refs.map Uv)
 guards:RowLies w base 3 1 x.guardsA x.guards.length x.guardsC (x.guards.map Iv)
 boxes:RowLies w base 129 4 x.boxesA x.boxes.length x.boxesC (x.boxes.flatMap Bx.cells)
 hist:RowLies w base 133 4 x.histA x.hist.length x.histC (x.hist.flatMap SlL.cells)
 seals:∀y∈x.hist,RowLies w base 5 1 y.A y.y.length y.c (y.y.map Bv)
theorem OpL.own.lies {w:World} {base:Nat} {x:OpL} (h:x.own w base):x.lies w base where
 past:=h.past.lies
 path:=h.path.lies
 nodes y hy:=(h.nodes y hy).lies
 body:=h.body.lies
 refs:=h.refs.lies
 guards:=h.guards.lies
 boxes:=h.boxes.lies
 hist:=h.hist.lies
 seals y hy:=(h.seals y hy).lies
theorem OpL.lies.at {w:World} {base:Nat} {x:OpL} (h:x.lies w base):x.at w w.heap.size where
 past:=h.past.1
 path:=h.path.1
 nodes y hy:=(h.nodes y hy).1
 body:=h.body.1
 refs:=h.refs.1
 guards:=h.guards.1
 boxes:=h.boxes.1
 hist:=h.hist.1
 seals y hy:=(h.seals y hy).1
theorem OpL.lies.lower {w:World} {base base':Nat} {x:OpL} (h:x.lies w base) (hb:base'≤base):x.lies w base' where
 past:=h.past.lower hb
 path:=h.path.lower hb
 nodes y hy:=(h.nodes y hy).lower hb
 body:=h.body.lower hb
 refs:=h.refs.lower hb
 guards:=h.guards.lower hb
 boxes:=h.boxes.lower hb
 hist:=h.hist.lower hb
 seals y hy:=(h.seals y hy).lower hb
theorem OpL.lies.keepP {S:Nat→Prop} {P:TypeId→Prop} {w w':World} {base:Nat} {x:OpL} (h:x.lies w base) (hf:Fr S w w') (hS:Types S w P) (h1:¬P 36) (h2:¬P 71) (h3:¬P 129) (h4:¬P 5) (h5:¬P 34) (h6:¬P 3) (h7:¬P 133):x.lies w' base where
 past:=h.past.keepT hf (hS.not h1)
 path:=h.path.keepT hf (hS.not h2)
 nodes y hy:=(h.nodes y hy).keepT hf (hS.not h3)
 body:=h.body.keepT hf (hS.not h4)
 refs:=h.refs.keepT hf (hS.not h5)
 guards:=h.guards.keepT hf (hS.not h6)
 boxes:=h.boxes.keepT hf (hS.not h3)
 hist:=h.hist.keepT hf (hS.not h7)
 seals y hy:=(h.seals y hy).keepT hf (hS.not h4)
theorem OpL.lies.non {w w':World} {base:Nat} {x:OpL} (h:x.lies w base) (hf:Fr Non w w'):x.lies w' base:=
 h.keepP (P:=fun _=>False) hf (fun _ _ _ _ _ e=>e.elim) zq zq zq zq zq zq zq
def OpL.past! (x:OpL) (A:Option Addr) (c:Nat) (ps:List Id):OpL:={x with pastA:=A,pastC:=c,past:=ps}
theorem OpL.lies.past! {w:World} {base c:Nat} {x:OpL} {A:Option Addr} {ps:List Id} (h:x.lies w base) (ho:RowLies w base 36 3 A ps.length c (ps.flatMap Id.cells)):(x.past! A c ps).lies w base:=
 ⟨ho,h.path,h.nodes,h.body,h.refs,h.guards,h.boxes,h.hist,h.seals⟩
def Qv (q:Nat):Value:=Iv (q:Int)
structure UpL where
 A:Option Addr
 c:Nat
 xs:List Nat
def UpL.cell (x:UpL):Value:=.slice x.A x.xs.length x.c
def UpL.own (w:World) (base:Nat) (x:UpL):Prop:=RowAt w base 3 1 x.A x.xs.length x.c (x.xs.map Qv)
structure InL where
 A:Option Addr
 c:Nat
 bs:List Bool
def InL.cell (x:InL):Value:=.slice x.A x.bs.length x.c
def InL.own (w:World) (base:Nat) (x:InL):Prop:=RowAt w base 4 1 x.A x.bs.length x.c (x.bs.map Value.bool)
structure RG where
 cA:Option Addr
 cC:Nat
 cards:List Cd
 lA:Option Addr
 lC:Nat
 xs:List OpL
 iA:Option Addr
 iC:Nat
 uA:Option Addr
 uC:Nat
 us:List UpL
 nA:Option Addr
 nC:Nat
 ns:List InL
 l:List Pn
def RG.ids (r:RG):List Id:=r.l.map Pn.id
def RG.cells (r:RG):Array Value:=#[.slice r.cA r.cards.length r.cC,.slice r.lA r.l.length r.lC,.slice r.iA r.l.length r.iC,.slice r.uA r.l.length r.uC,.slice r.nA r.l.length r.nC]
structure RG.own (w:World) (base:Nat) (r:RG):Prop where
 cards:RowAt w base 95 5 r.cA r.cards.length r.cC (r.cards.flatMap Cd.cells)
 ops:RowAt w base 44 27 r.lA r.l.length r.lC (r.xs.flatMap (fun x=>x.cells.toList))
 each:∀x∈r.xs,x.lies w base
 same:r.xs.map OpL.op=r.l.map Pn.o
 ok:∀n∈r.l,n.o.ok∧n.id.ok
 ids:RowAt w base 36 3 r.iA r.l.length r.iC (r.ids.flatMap Id.cells)
 ups:RowAt w base 22 1 r.uA r.l.length r.uC (r.us.map UpL.cell)
 eachU:∀x∈r.us,x.own w base
 sameU:r.us.map UpL.xs=Fo r.l
 ins:RowAt w base 81 1 r.nA r.l.length r.nC (r.ns.map InL.cell)
 eachN:∀x∈r.ns,x.own w base
 sameN:r.ns.map InL.bs=Dc r.l
 rows:Rows r.cards r.l
 cfew:r.cards.length≤1000
 cok:∀c∈r.cards,c.s<18446744073709551616
theorem RG.own.keepP {S:Nat→Prop} {P:TypeId→Prop} {w w':World} {base:Nat} {r:RG} (h:r.own w base) (hf:Fr S w w') (hS:Types S w P) (h1:¬P 36) (h2:¬P 71) (h3:¬P 129) (h4:¬P 5) (h5:¬P 34) (h6:¬P 3) (h7:¬P 133)
  (h8:¬P 95) (h9:¬P 44) (h10:¬P 22) (h11:¬P 81) (h12:¬P 4):r.own w' base where
 cards:=h.cards.keepT hf (hS.not h8)
 ops:=h.ops.keepT hf (hS.not h9)
 each x hx:=(h.each x hx).keepP hf hS h1 h2 h3 h4 h5 h6 h7
 same:=h.same
 ok:=h.ok
 ids:=h.ids.keepT hf (hS.not h1)
 ups:=h.ups.keepT hf (hS.not h10)
 eachU x hx:=RowAt.keepT (h.eachU x hx) hf (hS.not h6)
 sameU:=h.sameU
 ins:=h.ins.keepT hf (hS.not h11)
 eachN x hx:=RowAt.keepT (h.eachN x hx) hf (hS.not h12)
 sameN:=h.sameN
 rows:=h.rows
 cfew:=h.cfew
 cok:=h.cok
theorem RG.own.non {w w':World} {base:Nat} {r:RG} (h:r.own w base) (hf:Fr Non w w'):r.own w' base:=
 h.keepP (P:=fun _=>False) hf (fun _ _ _ _ _ e=>e.elim) zq zq zq zq zq zq zq zq zq zq zq zq
theorem RG.own.few {w:World} {base:Nat} {r:RG} (h:r.own w base):r.l.length≤200:=h.rows.few
theorem RG.own.rdIds {w:World} {base:Nat} {r:RG} (h:r.own w base):Rd w w.heap.size 3 r.iA r.l.length (r.ids.flatMap Id.cells):=h.ids.sl.rd
theorem RG.own.xAt {w:World} {base:Nat} {r:RG} (h:r.own w base) {i:Nat} {n:Pn} (hi:r.l[i]? =some n):
  ∃(x:OpL) (b off:Nat),r.xs[i]? =some x∧x.op=n.o∧x.lies w base∧r.lA=some ⟨b,off,none⟩∧b<w.heap.size∧∀j,j<27→∀u,x.cells.toList[j]? =some u→w.cell? ⟨b,off+i*27+j,none⟩=some u:=by
 have hm:(r.xs.map OpL.op)[i]? =some n.o:=by rw [h.same,An0,hi];rfl
 rw [An0] at hm
 cases hx:r.xs[i]? with
 |none=>rw [hx] at hm;cases hm
 |some x=>
  rw [hx] at hm;injection hm with hm
  obtain ⟨b,off,h1,h2,h3⟩:=Ey (f:=fun x:OpL=>x.cells.toList) (fun _=>rfl) (by omega) h.ops.sl.rd hx;exact ⟨x,b,off,rfl,hm,h.each x (An7 hx),h1,h2,h3⟩
theorem RG.own.uAt {w:World} {base:Nat} {r:RG} (h:r.own w base) {i:Nat} {n:Pn} (hi:r.l[i]? =some n):
  ∃(x:UpL) (b off:Nat),x.xs=Aj r.l n.o.past∧x.own w base∧r.uA=some ⟨b,off,none⟩∧b<w.heap.size∧w.cell? ⟨b,off+i,none⟩=some x.cell:=by
 have hm:(r.us.map UpL.xs)[i]? =some (Aj r.l n.o.past):=by rw [h.sameU];exact Ab7 hi
 rw [An0] at hm
 cases hx:r.us[i]? with
 |none=>rw [hx] at hm;cases hm
 |some x=>
  rw [hx] at hm;injection hm with hm
  obtain ⟨b,off,u,h1,h2,h3,h4⟩:=h.ups.sl.rd.at (List.getElem?_eq_some_iff.1 hi).1;rw [An0,hx] at h3;injection h3 with h3
  subst h3;exact ⟨x,b,off,hm,h.eachU x (An7 hx),h1,h2,h4⟩
theorem RG.own.nAt {w:World} {base:Nat} {r:RG} (h:r.own w base) {i:Nat} {n:Pn} (hi:r.l[i]? =some n):
  ∃(x:InL) (b off:Nat),x.bs=Bo r.l.length n.ps∧x.own w base∧r.nA=some ⟨b,off,none⟩∧b<w.heap.size∧w.cell? ⟨b,off+i,none⟩=some x.cell:=by
 have hm:(r.ns.map InL.bs)[i]? =some (Bo r.l.length n.ps):=by rw [h.sameN];exact Rq hi
 rw [An0] at hm
 cases hx:r.ns[i]? with
 |none=>rw [hx] at hm;cases hm
 |some x=>
  rw [hx] at hm;injection hm with hm
  obtain ⟨b,off,u,h1,h2,h3,h4⟩:=h.ins.sl.rd.at (List.getElem?_eq_some_iff.1 hi).1;rw [An0,hx] at h3;injection h3 with h3
  subst h3;exact ⟨x,b,off,hm,h.eachN x (An7 hx),h1,h2,h4⟩
def Ao (l:List Pn) (id:Id):Int:=match plc l id with|some i=>(i:Int)|none=> -1
theorem Lm {l:List Pn} {id:Id} {i:Nat} (h:plc l id=some i):Ao l id=(i:Int):=by unfold Ao;rw [h]
theorem Ln {l:List Pn} {id:Id} (h:plc l id=none):Ao l id= -1:=by unfold Ao;rw [h]
end Oq
end
section
open Go.RowKit
attribute [local go_sem ↓] Go.wp_at_zero Go.wp_at_succ
namespace Oq
attribute [local go_sem ↓] Ch Ea
attribute [local go_sem] Bool.not_false Bool.not_true
theorem Rows.step {cards:List Cd} {l:List Pn} (h:Rows cards l) {i:Nat} {n:Pn} (hi:l[i]? =some n):Ag cards (l.take i) n.o=0∧As (l.take i) n.o=n:=by
 induction h with
 |nil=>simp at hi
 |snoc l o hl ho ih=>
  rcases An2 i l.length with hlt|hge
  ·
   rw [Am9 hlt] at hi;rw [List.take_append_of_le_length (Ao0 hlt)];exact ih hi
  ·
   have e:i=l.length:=by
    have:=(List.getElem?_eq_some_iff.1 hi).1;rw [Ap4,Ap5] at this;omega
   subst e;rw [Ap2 (Ao8 _),Nat.sub_self] at hi;injection hi with hi
   subst hi;rw [List.take_left']
   · exact ⟨ho,rfl⟩
   · rfl
def Lo (cards:List Cd) (l:List Pn) (w:World) (e:Ending) (w':World):Prop:=
 ∃(g:Gph) (base:Nat),e=.returned (.pointer (some ⟨g.gb,0,none⟩))∧w.heap.size≤base∧GAt w' base g∧g.cards=cards∧g.pns=l∧Fr Non w w'
theorem Hz (base:Nat) (r:RG) (w:World) (h:r.own w base) (hcs:r.cards=Ba 0 [1,2,3,1]) (hpos:0<w.heap.size) (hk:KindsAt w):
  Calls Tryz.prog 5 #[.agg r.cells] w (Lo r.cards r.l w):=by
 have hi:(Tryz.prog.info? 44).map (·.size)=some 27:=by kernel_rfl
 have ar:=h.few;have ak:r.cards.length=4:=by rw [hcs,O7];rfl
 have au:=h.cards.sl.rd;rw [ak,hcs] at au;have bg:=Blk.new w 29 r.cells;have f0:Fr Non w (w.alloc (.cells r.cells 29)):=(Fr.refl Non w).alloc _;have c0:(w.alloc (.cells r.cells 29)).cell? ⟨w.heap.size,0,none⟩=some (.slice r.cA 4 r.cC):=by rw [← ak];exact bg.cell 0
 have c1:(w.alloc (.cells r.cells 29)).cell? ⟨w.heap.size,1,none⟩=some (.slice r.lA r.l.length r.lC):=bg.cell 1;have kn:=Lib.hid (fun (w':World) (hf:Fr Non w w')=>Rg w.heap.size 4 r.cC r.cA [1,2,3,1] w' rfl (by decide) (au.fr hf zr) (Ap7 hpos hf.size))
 have ka:=Lib.hid (fun (j:Nat) (nd:Pn) (hj:r.l[j]? =some nd) (b:Nat) (q:Gph) (w':World) (hb:w.heap.size≤b) (hq:GAt w' b q) (ab:q.cards=r.cards) (ac:q.pns=r.l.take j) (hf:Fr Non w w')=>show ∃x:OpL,∃b' ad:Nat,r.lA=some ⟨b',ad,none⟩∧World.rangeAt w' b' (ad+j*27) x.cells.toList∧x.cells.size=27∧
   Calls Tryz.prog 12 #[.pointer (some ⟨q.gb,0,none⟩),.agg x.cells] w' (Hw b q (r.l.take (j+1)) w') from by
  obtain ⟨x,b',ad,_,ap,a5,hA,_,hc⟩:=h.xAt hj;obtain ⟨s1,s2⟩:=h.rows.step hj;refine ⟨x,b',ad,hA,fun k v hv=>hf.cell (hc k (List.getElem?_eq_some_iff.1 hv).1 v hv) zq,rfl,?_⟩;rw [Dq hj];exact G7 ac hq (a5.non hf).at (by rw [ap];exact (h.ok nd (An7 hj)).1) (hk.fr hf) (by rw [ab,ap];exact s1) (by rw [ap];exact s2))
 have ae:=Lib.hid hcs;clear h hk au bg hcs ak;have ag:Hid (∀(g:Gph) (b:Nat) (w':World),w.heap.size≤b→GAt w' b g→g.cards=r.cards→g.pns=r.l→Fr Non w w'→Lo r.cards r.l w (.returned (.pointer (some ⟨g.gb,0,none⟩))) w'):=fun g b w' h1 h2 h3 h4 h5=>⟨g,b,rfl,h1,h2,h3,h4,h5⟩;obtain ⟨N,hN⟩:=Aa r.l.length;rw [hN.out] at c1 ar;generalize Lo r.cards r.l w=POST at*;generalize r.cells=CS at*;generalize r.cards=CDS at*;generalize r.lA=LA at*;generalize r.lC=LC at*;generalize r.cA=CA at*;generalize r.cC=CC at*;generalize r.l=l at*;go_enter Tryz.func5,Tryz.ntmps5;go_upto_region 1 with (fail)
 have a8:w.heap.size+1≤(w.alloc (.cells CS 29)).heap.size:=by rw [Ao2];exact Ao8 _
 generalize w.alloc (.cells CS 29)=w0 at*;go_upto_region 2 with (go_at_call 25;(with_reducible refine (kn.out _ f0).mono ?_);rintro _ w2 ⟨g,rfl,hg,ax,a1,f2⟩)
 have a4:=f0.trans f2 zr;replace c1:=f2.cell c1 zq;have a3:Hid (g.pns=l.take 0):=by show _=_;unfold Gph.pns;rw [ax];rfl
 have af:Hid (g.cards=CDS):=a1.trans ae.out.symm;obtain ⟨gb,ao⟩:=Aa g.gb;rw [ao.out];obtain ⟨b,aw⟩:=Aa w0.heap.size;rw [aw.out] at hg a8;clear kn ax a1 c0 f2 f0 ae aw;go_wp2_with (fail)
 go_loopw [4] (fun v wr=>∃(j:Nat) (q:Gph),v=.int .i64 (j:Int)∧j≤N∧Hid (GAt wr b q)∧Hid (q.gb=gb)∧Hid (q.cards=CDS)∧Hid (q.pns=l.take j)∧wr.cell? ⟨w.heap.size,1,none⟩=some (.slice LA N LC)∧Fr Non w wr) (fun v _=>N-(intOf v).toNat)
 case atStart=>exact ⟨0,g,rfl,Am6 _,hg,ao.out,af.out,a3.out,c1,a4⟩
 case round=>
  clear hg ao af a3 c1 a4;obtain ⟨j,q,rfl,hj,hq,ai,ab,ac,c1,hf⟩:=hrel
  by_cases hlt:j<N
  ·
   obtain ⟨nd,az⟩:∃nd,l[j]? =some nd:=⟨_,An6 (by rw [hN.out];exact hlt)⟩;obtain ⟨x,bx,ad,rfl,ay,a2,aa⟩:=ka.out j nd az b q wr (by omega) hq.out ab.out ac.out hf;rw [ai.out] at aa;replace aa:=Lib.hid aa;have i1:(0:Int)≤j:=by omega
   have i2:(j:Int)<N:=by omega
   have i3:(j:Int).toNat=j:=by omega
   have a0:=Ii (P:=Tryz.prog) x.cells bx (ad+j*27) Tryz.underlying44 rfl (by rw [a2];exact hi);have al:=a0 wr ay;clear a0 a2 ka az;generalize x.cells=XC at*;go_upto_region 6 with (go_at_call 12;(with_reducible refine (aa.out).mono ?_);rintro _ w5 ⟨rfl,q2,a6,aq,av,aj,F5⟩)
   have c5:=F5.cell c1 (fun e=>by have h1:b≤w.heap.size:=hq.out.ge e;omega);have a7:=hf.trans F5 (fun k hk e=>by have h1:=hq.out.ge e;omega);have e1:Hid (q2.gb=gb):=aq.trans ai.out;have e2:Hid (q2.cards=CDS):=av.trans ab.out;clear ay al aa hq ai ab ac F5 hf c1;go_wp2_with (fail);go_roundw
   case rel=>exact ⟨j+1,q2,by go_num,by omega,a6,e1.out,e2.out,aj,c5,a7⟩
   case measure=>simp [intOf];omega
  ·
   obtain rfl:j=N:=by omega
   have ah:q.pns=l:=by rw [ac.out,List.take_of_length_le (by rw [hN.out];exact Ao8 _)]
   have hd:=Lib.hid (ag.out q b wr (by omega) hq.out ab.out ah hf);rw [ai.out] at hd;have t1:decide ((j:Int)<(j:Int))=false:=decide_eq_false (by omega);clear ag ka hq ab ac ah;go_wp2_with (fail);exact hd.out
end Oq
end
section
open Go.RowKit
namespace Oq
theorem RowAt.lt {w:World} {base size n c:Nat} {t:TypeId} {A:Option Addr} {xs:List Value} (h:RowAt w base t size A n c xs) (h0:n≠0) {k:Nat} (hk:Ac A=some k):base≤k∧k<w.heap.size:=by
 rcases h.2 with h1|⟨k',cs,fr,e,hb,hh,_⟩
 · exact absurd h1 h0
 ·
  subst e;have e':k'=k:=by have h2:some k'=some k:=hk;exact Option.some.inj h2
  subst e';exact ⟨hb,(Array.getElem?_eq_some_iff.1 hh).1⟩
theorem RowAt.over {S:Nat→Prop} {w w':World} {base size n c:Nat} {t:TypeId} {A:Option Addr} {xs:List Value} (h:RowAt w base t size A n c xs) (hf:Fr S w w') (hS:∀k,base≤k→¬S k):RowAt w' base t size A n c xs:=
 h.fr hf (fun h0 k hk=>hS k (h.lt h0 hk).1)
theorem OpL.own.over {S:Nat→Prop} {w w':World} {base:Nat} {x:OpL} (h:x.own w base) (hf:Fr S w w') (hS:∀k,base≤k→¬S k):x.own w' base where
 past:=h.past.over hf hS
 path:=h.path.over hf hS
 nodes y hy:=(h.nodes y hy).over hf hS
 body:=h.body.over hf hS
 refs:=h.refs.over hf hS
 guards:=h.guards.over hf hS
 boxes:=h.boxes.over hf hS
 hist:=h.hist.over hf hS
 seals y hy:=(h.seals y hy).over hf hS
theorem GAt.over {S:Nat→Prop} {w w':World} {base:Nat} {g:Gph} (h:GAt w base g) (hf:Fr S w w') (hS:∀k,base≤k→¬S k):GAt w' base g where
 blk:=h.blk.fr hf (hS _ h.gbase)
 pos:=h.pos
 gbase:=h.gbase
 mbase:=h.mbase
 crow:=h.crow.fr hf (fun k hk=>hS k (h.crow.row k hk).1)
 own:=h.own.fr hf (fun k hk=>hS k (h.own.row k hk).1)
 few:=h.few
 mfew:=h.mfew
 levs:=h.levs
 cfew:=h.cfew
 cok:=h.cok
 map:=h.map.fr hf (hS _ h.mbase)
 node:=fun n hn=>by
  have k:=h.node n hn;exact ⟨k.own.over hf hS,k.ok,k.id,k.set⟩
def RgAt (w:World) (b o:Nat) (l:List Value):Prop:=World.rangeAt w b o l
theorem RgAt.fr {S:Nat→Prop} {w w':World} {b o:Nat} {l:List Value} (h:RgAt w b o l) (hf:Fr S w w') (hb:¬S b):RgAt w' b o l:=fun k v hv=>hf.cell (h k v hv) hb
end Oq
end
end Go.Proofs.YthpkjfliibdnjaaGreatDoor
