/-
  Contracts of the functions that the claim's statement reaches, walked one by one (part 13).
  Conditions: as each theorem says.
-/
import Derived.Great.BuildSlice
import Derived.Shelf.SlGeneric
import Derived.Laws.StructEq
import Derived.Test.YtafonabghnogaaaGreatDoorGwM3
import Derived.Test.YtafonabghnogaaaGreatDoorGwM4
import Derived.Test.YtafonabghnogaaaGreatDoorGwM7
import Derived.Test.YtafonabghnogaaaGreatDoorGwM12
set_option maxRecDepth 100000
set_option maxHeartbeats 16000000
open Bool renaming and_eq_true→Ak7,or_eq_true→Al5
open Int renaming le_trans→Al1,le_refl→Am1,le_max_left→Am6
open List renaming not_mem_nil→Ak8,getElem?_append_left→Ak9,getElem?_map→Al0,length_map→Al3,getElem?_eq_getElem→Al6,mem_of_getElem?→Al7,map_cons→Al8,map_nil→Al9,mem_cons_self→Am3,mem_cons_of_mem→Am4,any_eq_true→Am5,map_congr_left→Am7,findIdx?_append→An0,any_eq_false→An1,getElem?_append_right→An2,getElem?_of_mem→An3,length_append→An4,length_singleton→An5,contains_iff_mem→An6
open Nat renaming zero_le→Ak6,lt_or_ge→Al2,lt_trans→Al4,le_of_lt→Am0,le_refl→Am8,eq_zero_or_pos→Am9
open Go.World renaming size_alloc→Am2
namespace Go.Proofs.YtafonabghnogaaaGreatDoor
section
open Go.RowKit
attribute [local go_sem ↓] Go.wp_at_zero Go.wp_at_succ
namespace Oq
attribute [local go_sem] Bool.not_false Bool.not_true
theorem Zh {l:List Pn} {p:Nat→Bool} {d:Int} {k:Nat} {n:Pn} (h:l[k]? =some n):Bd l p d (k+1)=if (n.o.by_==d&&p k)=true then max (Bd l p d k) n.o.sq else Bd l p d k:=by
 show (match l[k]? with|some n=>if (n.o.by_==d&&p k)=true then max (Bd l p d k) n.o.sq else Bd l p d k|none=>Bd l p d k)=_;rw [h]
theorem Qr {l:List Pn} {p:Nat→Bool} {d s:Int} {k:Nat} {n:Pn} (h:l[k]? =some n):Br l p d s (k+1)=(Br l p d s k||(n.o.by_==d&&p k&&n.o.sq==s-1)):=by
 show (match l[k]? with|some n=>Br l p d s k||(n.o.by_==d&&p k&&n.o.sq==s-1)|none=>Br l p d s k)=_;rw [h]
theorem Zi {o:Op} (h:o.chk=0):1≤o.sq∧o.sq≤2147483647:=by
 have h1:=(chk_ok.1 h).2.2.1;unfold Op.numsB at h1;simp only [Ak7] at h1;have h2:=h1.1.1.2;unfold inR at h2;simpa using h2
def bsS (t:TypeId) (len:Nat) (parts:Array (Nat × Value)):=Instr.buildSlice t len parts
theorem Zj (n:Nat) (p:Array (Nat × Value)):Instr.buildSlice 121 n p=bsS 121 n p:=rfl
theorem Zk (N:Ah) (w:World):(bsS 121 1 #[(0,.agg N.cells.toArray)]).run Tryz.prog w=.ok (.slice (some ⟨w.heap.size,0,none⟩) 1 1) (w.alloc (.cells N.cells.toArray 118)):=by
 obtain ⟨ht,hinfo,_⟩:=Qq;obtain ⟨i,hi,hz,hs,_⟩:=info_parts hinfo;exact run_buildSlice w 121 118 1 _ _ i _ ht hi hz (by rw [hs];decide) (by rw [hs];decide) (by rw [hs];kernel_rfl)
theorem Zl {P:Program} {o:Oper} {a:Act} {K:Act→World→Prop} {Q:Exit→Act→World→Prop} {w:World} (s x:Operand) (t:TypeId)
  (ho:o.op=.call {callee:=.builtin .append,args:=#[s,x],argTypes:=#[t,t]})
  {base size n c:Nat} {e:TypeId} {A:Option Addr} {xs:List Value} {z:Value} {bytes m cx B:Nat} {Ax:Option Addr} {news:List Value}
  (hs:a.eval s=.slice A n c) (hx:a.eval x=.slice Ax m cx)
  (hT:SlT P t e z size bytes) (h:Own w base e size A n c xs) (hr:Rd w B size Ax m news)
  (h1:∀u∈news,u.oneCell'=true) (hbytes:(n+m)*bytes≤140737488355328) (hmax:n+m≤9223372036854775807) (hbase:base≤w.heap.size)
  (hk:∀A' c' w',Own w' base e size A' (n+m) c' (xs++news)→Fr (fun k=>Ab A=some k) w w'→(Ab A'=Ab A∨Ab A'=some w.heap.size)→
   K (a.put o.dst (.slice A' (n+m) c')) w'):Oper.wp P o a w K Q:=by
 obtain ⟨A',c',w',hrun,h2,h3,h4⟩:=Gk (P:=P) (ty:=o.type) (cx:=cx) hT h hr h1 hbytes hmax hbase;unfold Oper.wp execOp;simp only [ho,resolve,invoke,builtin,Sem.run_bind,Sem.run_pure,Result.andThen_ok,List.map_toArray,Al8,Al9,hs,hx,hrun];exact hk A' c' w' h2 h3 h4
attribute [local go_sem ↓] Ig Ih Zj
theorem Zm:addD.1:=by
 conv=>whnf
 intro r5 r7 r8 r9 hs i9 ie ji g4 hy gy ik g1 ic h7 g0 h8 h4 ii iy io hl ia ig ix jf g3 i5 iw h5 h6 im ir g8 he h3 ib g5 g9 jh jk hn jg iq jl hw ip iz hm i0 h2 hp jm il iu jd iv hr g6 h9 da ef fy e8 eg en ff fz gf dd ep dr gc fb gl gx e7 dp ga fl ee gg gh gq gm dt fn ct fx fw cn ec co fi gn fo c4 gj fp db dq d9 eb f9 eu dl ed ev d5 dy dw dz gp gv cp de gu f4 fu fh gk gr d1 cr dh cv f2 ei ej ge dj em e9 e5 d2 ez cu c0 gi ck dv cz hd ho ij g7 i7 i8 jb jn hh jj i6 jo ja je ih gz ha g2 et df ek fq e3 ea eh es cw cx dc ds d3 d8 fv er el f0 fc gt d4 dx ew gd d0 dk ht dg d6 fs c9 d7 f8 c3 f3 fj ft cy fm dn e4 e2 fg di c8 dm base g x w y gs m w6 A6 c6 n w7 pb wv a0 a1 a2 a3 lv lt p0 p1 p2 p3 bb w1 wq b0 b1 b2 b3 cl w3 w4 K n0 n1 n2 n3 hK D;have hg:=D.A.hg;have b8:=Zi D.A.chk;replace b8:1≤x.sq∧x.sq≤2147483647:=b8;have bi:=D.A.few;have hD:=Lib.hid D
 have bu:Hid (∀i,i<256→Ag g.pns x.op.past i=(Ar g.pns x.op.past i||Bu g.pns x.op.past i)):=fun i hi=>by
  unfold Ag;simp [hi]
 have bk:Hid (g.pns.length=g.nodes.length):=by show _=_;unfold Gph.pns;rw [Al3]
 obtain ⟨CX,bh⟩:=Aa x.cells;have e0:Hid (CX[0]? =some (.int .i64 x.by_)):=by show _=_;rw [← bh.out];rfl
 have e1:Hid (CX[1]? =some (.int .i64 x.sq)):=by show _=_;rw [← bh.out];rfl
 have hx:Hid (∀wz,Fr Non w4 wz→wz.cell? ⟨w.heap.size,0,none⟩=some (.int .i64 x.by_)∧wz.cell? ⟨w.heap.size,1,none⟩=some (.int .i64 x.sq)):=fun wz hf=>by
  have h:=D.bx.fr hf zq;have h0:=h.cell 0;have h1:=h.cell 1;rw [bh.out] at h0 h1;rw [e0.out] at h0;rw [e1.out] at h1;exact ⟨h0,h1⟩
 have bd:Hid (∀wz,Fr Non w4 wz→wz.cell? ⟨g.gb,2,none⟩=some (.slice g.nA g.nodes.length g.nC)):=fun wz hf=>((hg.fr D.fr).fr hf).blk.cell 2;rw [bh.out];obtain ⟨nn,ap⟩:=Aa g.nodes.length;rw [ap.out] at bd bi bk;have c2:=bd.out w4 (Fr.refl _ _);clear D;go_wp2_with (fail);clear c2
 go_loopw [19,20,158] (fun tl ta v wr=>∃(i:Nat) (la:Int) (ah:Bool),tl=.int .i64 la∧ta=.bool ah∧v=.int .i64 (i:Int)∧i≤nn∧Hid (la=Bd g.pns (Ag g.pns x.op.past) x.by_ i)∧Hid (ah=Br g.pns (Ag g.pns x.op.past) x.by_ x.sq i)∧Fr Non w4 wr) (fun _ _ v _=>nn-(intOf v).toNat)
 case atStart=>exact ⟨0,0,false,rfl,rfl,rfl,by omega,rfl,rfl,Fr.refl _ _⟩
 case round=>
  obtain ⟨i,la,ah,rfl,rfl,rfl,hi,ak,ai,hf⟩:=hrel
  by_cases hin:i<nn
  ·
   as_aux_lemma=>
   have i1:(0:Int)≤i:=by omega
   have i2:(i:Int)<nn:=by omega
   have i3:(i:Int).toNat=i:=by omega
   have i4:IntKind.i64.wrap (i:Int)=i:=IntWalk.i64_in _ (by omega);obtain ⟨nd,bm⟩:∃z,g.nodes[i]? =some z:=⟨_,Al6 (by rw [ap.out];exact hin)⟩;have bp:g.pns[i]? =some nd.pn:=by unfold Gph.pns;rw [Al0,bm];rfl
   obtain ⟨bn,ab,ce,ey,af⟩:=hg.cell bm;have ae:=Lib.hid (Zh (p:=Ag g.pns x.op.past) (d:=x.by_) bp);have ad:=Lib.hid (Qr (p:=Ag g.pns x.op.past) (d:=x.by_) (s:=x.sq) bp)
   have bt:Hid (∀wz,Fr Non w4 wz→wz.cell? ⟨bn,ab+i*35,none⟩=some (.int .i64 nd.x.by_)∧wz.cell? ⟨bn,ab+i*35+1,none⟩=some (.int .i64 nd.x.sq)):=fun wz hf=>by
    have f1:=hD.out.fr.trans hf zr;exact ⟨f1.cell (af 0 (by omega) _ rfl) zq,f1.cell (af 1 (by omega) _ rfl) zq⟩
   have kh:=Lib.hid (fun wz (hz:Fr Non w4 wz)=>Jo gs 30 [n0,n1,n2,n3] _ i wz hD.out.set (fun j hj=>by
    rw [(hD.out.bn.fr hz zq).cell]
    match j,hj with
    |0,_=>rfl
    |1,_=>rfl
    |2,_=>rfl
    |3,_=>rfl) (by omega))
   obtain ⟨mi,bj⟩:=Aa (Ar g.pns x.op.past i||Bu g.pns x.op.past i);have ci:Hid (Ag g.pns x.op.past i=mi):=(bu.out i (by omega)).trans bj.out;rw [bj.out] at kh;have c2:=bd.out wr hf;rw [ce] at c2;obtain ⟨ar,au⟩:=bt.out wr hf;obtain ⟨x0,x1⟩:=hx.out wr hf;have cg:IntKind.i64.wrap (x.sq-1)=x.sq-1:=IntWalk.i64_in _ (by omega);rw [ci.out] at ae ad;replace ae:Hid (Bd g.pns (Ag g.pns x.op.past) x.by_ (i+1)=if (nd.x.by_==x.by_&&mi)=true then max (Bd g.pns (Ag g.pns x.op.past) x.by_ i) nd.x.sq else Bd g.pns (Ag g.pns x.op.past) x.by_ i):=ae;replace ad:Hid (Br g.pns (Ag g.pns x.op.past) x.by_ x.sq (i+1)=(Br g.pns (Ag g.pns x.op.past) x.by_ x.sq i||(nd.x.by_==x.by_&&mi&&nd.x.sq==x.sq-1))):=ad;clear bp bm af ce bu bj ci bd hg hD
   rcases zb (nd.x.by_==x.by_) with hq|hq
   ·
    rw [hq] at ae ad;go_upto_region 46 with (fail)
    clear c2;refine wp_region_held_drew (S:=(fun w'=>w'.cell? ⟨bn,ab+i*35,none⟩=some (.int .i64 nd.x.by_)∧w'.cell? ⟨w.heap.size,0,none⟩=some (.int .i64 x.by_))) (by kernel_rfl) ⟨ar,x0⟩ (fun hHeld=> ?_);clear hHeld;have hS:(fun w'=>w'.cell? ⟨bn,ab+i*35,none⟩=some (.int .i64 nd.x.by_)∧w'.cell? ⟨w.heap.size,0,none⟩=some (.int .i64 x.by_)) wr.drew:=⟨ar,x0⟩;replace hf:=hf.drew;refine tkH 0 hS (h:=tkH 1 hS (h:=tkH 2 hS (h:=tkH 3 hS (h:=tkH 4 hS (h:=tkH 5 hS (h:=tkH 6 hS (h:=tkH 7 hS (h:=tkH 8 hS (h:=tkH 9 hS (h:=tkH 10 hS (h:=?_)))))))))));simp only [List.set];refine oG 11 (fun K hK=> ?_);go_simp;go_wp2_with (go_at_call 73;(with_reducible refine (kh.out _ hf).mono ?_);rintro _ _ ⟨rfl,rfl⟩);refine hK.out _ _ hS (fun hZ=> ?_);clear hZ hK K kh;try simp only [Ad,List.set]
    refine tkH 12 hS (h:=?_);simp only [List.set];refine oD ?_;go_simp;obtain ⟨ar,au⟩:=bt.out wr.drew hf;obtain ⟨x0,x1⟩:=hx.out wr.drew hf;clear hS bt ar x0
    cases mi
    ·
     have aq:Hid (la=Bd g.pns (Ag g.pns x.op.past) x.by_ (i+1)):=by show _=_;rw [ae.out,← ak.out];rfl
     have av:Hid (ah=Br g.pns (Ag g.pns x.op.past) x.by_ x.sq (i+1)):=by show _=_;rw [ad.out,← ai.out];simp
     clear ae ad ak ai au x1;go_wp2_with (fail);go_roundw
     case rel=>exact ⟨i+1,la,ah,rfl,rfl,by go_num,by omega,aq,av,hf⟩
     case measure=>simp [intOf];omega
    ·
     have aq:Hid (max la nd.x.sq=Bd g.pns (Ag g.pns x.op.past) x.by_ (i+1)):=by show _=_;rw [ae.out,← ak.out];rfl
     have av:Hid ((ah||nd.x.sq==x.sq-1)=Br g.pns (Ag g.pns x.op.past) x.by_ x.sq (i+1)):=by show _=_;rw [ad.out,← ai.out];simp
     clear ae ad ak ai;go_upto_region 48 with (fail)
     generalize wr.drew=w5 at*
     cases ah
     case false=>
      refine wp_region_held_drew (S:=(fun w'=>w'.cell? ⟨bn,ab+i*35+1,none⟩=some (.int .i64 nd.x.sq)∧w'.cell? ⟨w.heap.size,1,none⟩=some (.int .i64 x.sq))) (by kernel_rfl) ⟨au,x1⟩ (fun hHeld=> ?_);clear hHeld;have hS:(fun w'=>w'.cell? ⟨bn,ab+i*35+1,none⟩=some (.int .i64 nd.x.sq)∧w'.cell? ⟨w.heap.size,1,none⟩=some (.int .i64 x.sq)) w5.drew:=⟨au,x1⟩;replace hf:=hf.drew;refine tkH 0 hS (h:=tkH 1 hS (h:=tkH 2 hS (h:=tkH 3 hS (h:=tkH 4 hS (h:=tkH 5 hS (h:=tkH 6 hS (h:=tkH 7 hS (h:=tkH 8 hS (h:=tkH 9 hS (h:=tkH 10 hS (h:=tkH 11 hS (h:=?_))))))))))));simp only [List.set];refine tkH 12 hS (h:=?_);simp only [List.set];refine oD ?_;go_simp;go_wp2_with (fail);go_roundw
      case rel=>exact ⟨i+1,max la nd.x.sq,_,rfl,rfl,by go_num,by omega,aq,av,hf⟩
      case measure=>simp [intOf];omega
     case true=>
      refine wp_region_held_drew (S:=(fun w'=>w'.cell? ⟨bn,ab+i*35+1,none⟩=some (.int .i64 nd.x.sq)∧w'.cell? ⟨w.heap.size,1,none⟩=some (.int .i64 x.sq))) (by kernel_rfl) ⟨au,x1⟩ (fun hHeld=> ?_);clear hHeld;have hS:(fun w'=>w'.cell? ⟨bn,ab+i*35+1,none⟩=some (.int .i64 nd.x.sq)∧w'.cell? ⟨w.heap.size,1,none⟩=some (.int .i64 x.sq)) w5.drew:=⟨au,x1⟩;replace hf:=hf.drew;refine tkH 0 hS (h:=tkH 1 hS (h:=skH 2 hS (h:=skH 3 hS (h:=skH 4 hS (h:=skH 5 hS (h:=skH 6 hS (h:=skH 7 hS (h:=skH 8 hS (h:=skH 9 hS (h:=skH 10 hS (h:=tkH 11 hS (h:=?_))))))))))));simp only [List.set];refine tkH 12 hS (h:=?_);simp only [List.set];refine oD ?_;go_simp;go_wp2_with (fail);go_roundw
      case rel=>exact ⟨i+1,max la nd.x.sq,_,rfl,rfl,by go_num,by omega,aq,av,hf⟩
      case measure=>simp [intOf];omega
   ·
    rw [hq] at ae ad;have aq:Hid (la=Bd g.pns (Ag g.pns x.op.past) x.by_ (i+1)):=by show _=_;rw [ae.out,← ak.out];rfl
    have av:Hid (ah=Br g.pns (Ag g.pns x.op.past) x.by_ x.sq (i+1)):=by show _=_;rw [ad.out,← ai.out];simp
    clear ae ad ak ai;go_upto_region 46 with (fail)
    clear c2;refine wp_region_held_drew (S:=(fun w'=>w'.cell? ⟨bn,ab+i*35,none⟩=some (.int .i64 nd.x.by_)∧w'.cell? ⟨w.heap.size,0,none⟩=some (.int .i64 x.by_))) (by kernel_rfl) ⟨ar,x0⟩ (fun hHeld=> ?_);clear hHeld;have hS:(fun w'=>w'.cell? ⟨bn,ab+i*35,none⟩=some (.int .i64 nd.x.by_)∧w'.cell? ⟨w.heap.size,0,none⟩=some (.int .i64 x.by_)) wr.drew:=⟨ar,x0⟩;replace hf:=hf.drew;refine tkH 0 hS (h:=tkH 1 hS (h:=tkH 2 hS (h:=tkH 3 hS (h:=tkH 4 hS (h:=tkH 5 hS (h:=tkH 6 hS (h:=tkH 7 hS (h:=tkH 8 hS (h:=skH 9 hS (h:=skH 10 hS (h:=skH 11 hS (h:=?_))))))))))));simp only [List.set];refine tkH 12 hS (h:=?_);simp only [List.set];refine oD ?_;go_simp;clear hS;go_wp2_with (fail);go_roundw
    case rel=>exact ⟨i+1,la,ah,rfl,rfl,by go_num,by omega,aq,av,hf⟩
    case measure=>simp [intOf];omega
  ·
   obtain rfl:nn=i:=by omega
   have ac:Hid (Aw g.pns (Ag g.pns x.op.past) x.op=(decide (x.sq≤la)||(decide (1<x.sq)&& !ah))):=by
    show _=_;unfold Aw;rw [bk.out];rw [show x.op.by_=x.by_ from rfl,show x.op.sq=x.sq from rfl,← ak.out,← ai.out]
   obtain ⟨x0,x1⟩:=hx.out wr hf;obtain ⟨bad,ao⟩:=Aa (decide (x.sq≤la)||(decide (1<x.sq)&& !ah));clear ak ai hi hin hx bd bk bu x0;go_upto_region 50 with (fail)
   go_cut [212] from 200 to 212 (fun s wc=>wr=wc∧s=.bool bad)
   case first=>
    clear hD ac hg
    as_aux_lemma=>
    rcases zb (decide (x.sq≤la)) with t1|t1
    ·
     have hv:Hid (true=bad):=by show _=_;rw [← ao.out,t1];rfl
     go_wp2_with (fail);go_meet;exact ⟨rfl,congrArg Value.bool hv.out⟩
    ·
     rcases zb (decide (1<x.sq)) with t2|t2
     ·
      have hv:Hid ((!ah)=bad):=by show _=_;rw [← ao.out,t1,t2];rfl
      go_wp2_with (fail);go_meet;exact ⟨rfl,congrArg Value.bool hv.out⟩
     ·
      have hv:Hid (false=bad):=by show _=_;rw [← ao.out,t1,t2];rfl
      go_wp2_with (fail);go_meet;exact ⟨rfl,congrArg Value.bool hv.out⟩
   case rest=>
   obtain ⟨rfl,rfl⟩:=hcut;clear x1;rw [ao.out] at ac
   cases bad
   case true=>
    have bv:=Lib.hid (AddPost.bad (base:=base) (w':=wr) (by rw [hD.out.err,if_pos ac.out]) (by decide) (hD.out.fr.trans hf zr));clear hD ac ao hg hf
    as_aux_lemma=>
    go_wp2_with (fail)
    go_ret
    exact bv.out
   case false=>
    have ba:Ai g.cards g.pns x.op=0:=by rw [hD.out.err,ac.out];rfl
    have D:=hD.out;obtain ⟨aa,ag⟩:=Aa x.op.name;have bq:aa.ok:=by rw [← ag.out];exact Ea D.A.hok
    have cq:Fr Non w wr:=D.fr.trans hf zr;have bf:=hg.fr cq;have a4:=D.bn.fr hf zq;rw [ag.out] at a4;have b4:wr.cell? ⟨gs,27,none⟩=some (.int .i64 aa.b):=a4.cell 27;have ca:wr.cell? ⟨gs,28,none⟩=some (.int .i64 aa.s):=a4.cell 28;have cb:wr.cell? ⟨gs,29,none⟩=some (.int .u64 (aa.u:Int)):=a4.cell 29;have c1:wr.cell? ⟨g.gb,1,none⟩=some (.map (some g.mb)):=bf.blk.cell 1;have c2:wr.cell? ⟨g.gb,2,none⟩=some (.slice g.nA nn g.nC):=by rw [← ap.out];exact bf.blk.cell 2
    obtain ⟨w5,a9,cc,b9⟩:=MapAt.store (bf.map.fr ((Fr.refl Non wr).drew) zq) aa bq nn (by omega) (by have:=hg.mfew;have:=hg.few;omega);have f5:Fr (One g.mb) wr.drew w5:=(Fr.refl (One g.mb) wr.drew).grown b9 (fun k hk _=>by injection hk with hk;exact hk.symm);have aj:(Instr.mapUpdate 120 (.map (some g.mb)) (.agg aa.V) (.int .i64 (nn:Int))).run Tryz.prog wr.drew=.ok () w5:=a9;clear a9 b9 ac ao;go_upto_region 52 with (fail)
    refine C3 (S:=(fun w'=>w'.cell? ⟨gs,27,none⟩=some (.int .i64 aa.b)∧w'.cell? ⟨gs,28,none⟩=some (.int .i64 aa.s)∧w'.cell? ⟨gs,29,none⟩=some (.int .u64 (aa.u:Int))∧w'.cell? ⟨g.gb,1,none⟩=some (.map (some g.mb))∧w'.cell? ⟨g.gb,2,none⟩=some (.slice g.nA nn g.nC))) 11 (by kernel_rfl) ?_;have hS:(fun w'=>w'.cell? ⟨gs,27,none⟩=some (.int .i64 aa.b)∧w'.cell? ⟨gs,28,none⟩=some (.int .i64 aa.s)∧w'.cell? ⟨gs,29,none⟩=some (.int .u64 (aa.u:Int))∧w'.cell? ⟨g.gb,1,none⟩=some (.map (some g.mb))∧w'.cell? ⟨g.gb,2,none⟩=some (.slice g.nA nn g.nC)) wr.drew:=⟨b4,ca,cb,c1,c2⟩;obtain ⟨wd,ch⟩:=Aa wr.drew;have fd:Fr Non w4 wd:=by rw [← ch.out];exact hf.drew
    rw [ch.out] at hS f5 aj ⊢;refine tkG 0 hS (h:=tkG 1 hS (h:=tkG 2 hS (h:=tkG 3 hS (h:=tkG 4 hS (h:=tkG 5 hS (h:=tkG 6 hS (h:=tkG 7 hS (h:=tkG 8 hS (h:=tkG 9 hS (h:=tkG 10 hS (h:=?_)))))))))));simp only [List.set];refine Cq (by kernel_rfl) ?_;refine oG 11 (fun K hK=> ?_);go_simp;refine hK.out _ _ trivial (fun hZ=> ?_);clear hZ hK K;try simp only [put_lit2,List.set]
    refine oD ?_;go_simp;clear hS aj b4 ca cb c1 c2 bf a4;have cj:Fr Non w wd:=D.fr.trans fd zr;have bl:=hg.fr cj;have du:g.mb<w.heap.size:=hg.map.lt;have eo:=D.lo1
    have az:g.gb≠g.mb:=fun e=>by
     have h1:=hg.blk;unfold Blk at h1;rw [e] at h1;exact hg.map.ismap _ _ _ h1
    have bo:¬Ab g.nA=some g.mb:=fun e=>by
     obtain ⟨cs,fr,hb⟩:=hg.own.block e;exact hg.map.ismap _ _ _ hb
    have aw:¬Ab g.nA=some g.gb:=hg.own.ne hg.blk (by decide);have br:¬Ab g.nA=some gs:=fun e=>by have:=(hg.own.row _ e).2;omega
    have b5:=bl.blk.fr f5 (fun e=>az e)
    have fk:Blk w5 gs 118 (⟨y,aa,n0,n1,n2,n3,lv⟩:Ah).cells.toArray:=by
     have h1:=(D.bn.fr fd zq).fr f5 (fun e=>by have e':gs=g.mb:=e;omega);rw [ag.out] at h1;exact h1
    have bw:Own w5 base 118 35 g.nA nn g.nC (g.nodes.flatMap Ah.cells):=by
     rw [← ap.out];exact bl.own.fr f5 (fun k hk e=>by have e':k=g.mb:=e;subst e';exact bo hk)
    have c5:w5.cell? ⟨g.gb,2,none⟩=some (.slice g.nA nn g.nC):=by rw [← ap.out];exact b5.cell 2
    have bc:(Tryz.prog.info? 118).map (·.size)=some (⟨y,aa,n0,n1,n2,n3,lv⟩:Ah).cells.toArray.size:=by
     show _=some 35
     kernel_rfl
    have gw:=Az (P:=Tryz.prog) gs 118 Tryz.underlying118 rfl (cs:=(⟨y,aa,n0,n1,n2,n3,lv⟩:Ah).cells.toArray) bc;have cm:=Zk ⟨y,aa,n0,n1,n2,n3,lv⟩;have a8:=Gx ⟨y,aa,n0,n1,n2,n3,lv⟩;have bs:(⟨y,aa,n0,n1,n2,n3,lv⟩:Ah).cells.length=35:=rfl;have al:=Lib.hid (fun (A':Option Addr) (c':Nat) (w6 w7:World)=>Zg (w4:=w4) (wd:=wd) (w5:=w5) (w6:=w6) (w7:=w7) (A':=A') (c':=c') hg D ba fd);have bz:base≤w.heap.size:=Nat.le_trans hg.gbase (Am0 hg.blk.lt);have jc:=f5.size;have hc:=cj.size;rw [ag.out,ap.out] at al;clear bl D ba hD hf;go_upto_region 53 with (fail)
    refine C3 (S:=(fun w'=>w'.cell? ⟨g.gb,2,none⟩=some (.slice g.nA nn g.nC)∧Blk w' gs 118 (⟨y,aa,n0,n1,n2,n3,lv⟩:Ah).cells.toArray)) 10 (by kernel_rfl) ?_;have hS:(fun w'=>w'.cell? ⟨g.gb,2,none⟩=some (.slice g.nA nn g.nC)∧Blk w' gs 118 (⟨y,aa,n0,n1,n2,n3,lv⟩:Ah).cells.toArray) w5.drew:=⟨c5,fk⟩;obtain ⟨we,cd⟩:=Aa w5.drew;have fe:Fr Non w5 we:=by rw [← cd.out];exact (Fr.refl Non w5).drew
    have a6:=bw.fr fe zr;have be:=b5.fr fe zq;have e6:=fe.size;rw [cd.out] at hS ⊢;refine tkG 0 hS (h:=tkG 1 hS (h:=tkG 2 hS (h:=tkG 3 hS (h:=tkG 4 hS (h:=tkG 5 hS (h:=?_))))));simp only [List.set];refine Bh 6 (by kernel_rfl) rfl (fun K hK=> ?_);go_simp;have fa:Fr Non we (we.alloc (.cells (⟨y,aa,n0,n1,n2,n3,lv⟩:Ah).cells.toArray 118)):=(Fr.refl Non we).alloc _;have bg:(fun w'=>w'.cell? ⟨g.gb,2,none⟩=some (.slice g.nA nn g.nC)∧Blk w' gs 118 (⟨y,aa,n0,n1,n2,n3,lv⟩:Ah).cells.toArray) (we.alloc (.cells (⟨y,aa,n0,n1,n2,n3,lv⟩:Ah).cells.toArray 118)):=⟨fa.cell hS.1 zq,hS.2.fr fa zq⟩;have ay:=a6.fr fa zr;have a7:=Rd.blk (n:=1) (size:=35) (l:=(⟨y,aa,n0,n1,n2,n3,lv⟩:Ah).cells) (Blk.new we 118 (⟨y,aa,n0,n1,n2,n3,lv⟩:Ah).cells.toArray) (by rw [bs]);have b6:=be.fr fa zq;have f6:=fe.trans fa zr;refine hK.out _ _ bg (fun hZ=> ?_);clear hZ hK K;try simp only [Ad,List.set]
    generalize we.alloc (.cells (⟨y,aa,n0,n1,n2,n3,lv⟩:Ah).cells.toArray 118)=w6 at*;refine Bh 7 (by kernel_rfl) rfl (fun K hK=> ?_);refine Zl (base:=base) (.tmp 228) (.tmp 230) 121 (by rfl) (by rfl) (by rfl) Qq ay a7 (by intro u hu;exact (Array.all_eq_true'.1 a8) u (by simpa using hu)) (by omega) (by omega) (by have:=f6.size;omega) ?_;intro A' c' w7 a5 f7 cf;have ax:(fun w'=>w'.cell? ⟨g.gb,2,none⟩=some (.slice g.nA nn g.nC)∧Blk w' gs 118 (⟨y,aa,n0,n1,n2,n3,lv⟩:Ah).cells.toArray) w7:=⟨f7.cell bg.1 aw,bg.2.fr f7 br⟩;have b7:=b6.fr f7 aw;refine hK.out _ _ ax (fun hZ=> ?_);clear hZ hK K;try simp only [Ad,List.set]
    refine Bh 8 (by kernel_rfl) rfl (fun K hK=> ?_);go_simp;refine hK.out _ _ ax (fun hZ=> ?_);clear hZ hK K;try simp only [Ad,List.set]
    refine tkG 9 ax (h:=?_);simp only [List.set];have bv:=Lib.hid (al.out A' c' w6 w7 cc f5 f6 a5 f7 cf);have c7:w7.cell? ⟨g.gb,2,none⟩=some (.slice g.nA nn g.nC):=ax.1;have z7:w7.frozen? ⟨g.gb,2,none⟩=false:=b7.frozen 2;refine Cq (by kernel_rfl) ?_;refine oG 10 (fun K hK=> ?_);go_simp;refine hK.out _ _ trivial (fun hZ=> ?_);clear hZ hK K;try simp only [put_lit2,List.set]
    refine oD ?_;go_simp;clear hS bg ax a5 f7 cf b7 c7 z7 al cc f5 f6 ay a7 b6 be a6 fe e6 gw cm a8;go_wp2_with (fail)
    go_ret
    exact bv.out
theorem Gq (base:Nat) (g:Gph) (x:OpL) (w:World) (hg:GAt w base g) (hat:x.at w w.heap.size) (hok:x.op.ok) (hkn:KindsAt w):
  Calls Tryz.prog 17 #[.pointer (some ⟨g.gb,0,none⟩),.agg x.cells] w (AddPost base g x.op w):=
 addA.2 ⟨addB.2 ⟨addC.2 ⟨addD.2 ⟨Zm⟩⟩⟩⟩ base g x w hg hat hok hkn
end Oq
end
section
open Go.RowKit
namespace Oq
def sgn (o:Op):Op:={o with r:=Sg.r (sec Ba o.by_.toNat) o.bare,s:=Sg.s (sec Ba o.by_.toNat) o.bare}
theorem Ks (o:Op) (R S:Nat):({o with r:=R,s:=S}:Op).chk=o.chk:=rfl
theorem Ku (o:Op) (R S:Nat):({o with r:=R,s:=S}:Op).bare=o.bare:=rfl
theorem Zn (o:Op) (R S:Nat):({o with r:=R,s:=S}:Op).id=o.id:=by unfold Op.id;rw [Ku]
theorem Kv (o:Op) (R S:Nat):({o with r:=R,s:=S}:Op).name=o.name:=by
 unfold Op.name;rw [Zn]
theorem Zo (l:List Pn) (p:Nat→Bool) (o:Op) (R S:Nat):Aw l p ({o with r:=R,s:=S}:Op)=Aw l p o:=rfl
theorem E5 (o:Op):∃R S,sgn o={o with r:=R,s:=S}∧Sg.check (Sg.pub (sec Ba o.by_.toNat)) o.bare R S=true:=
 ⟨_,_,rfl,Sg.takes _ _ (Al4 (Gt _ _) (by decide))⟩
theorem Fw (o:Op):(sgn o).name=o.name:=by
 obtain ⟨R,S,h,_⟩:=E5 o;rw [h,Kv]
theorem Zp (o:Op):(sgn o).chk=o.chk:=by
 obtain ⟨R,S,h,_⟩:=E5 o;rw [h,Ks]
theorem Kw (o:Op):(sgn o).by_=o.by_:=by
 obtain ⟨R,S,h,_⟩:=E5 o;rw [h]
theorem Qs (o:Op):(sgn o).sq=o.sq:=by
 obtain ⟨R,S,h,_⟩:=E5 o;rw [h]
theorem Ky (o:Op):(sgn o).at_=o.at_:=by
 obtain ⟨R,S,h,_⟩:=E5 o;rw [h]
theorem Zq (o:Op):(sgn o).past=o.past:=by
 obtain ⟨R,S,h,_⟩:=E5 o;rw [h]
theorem G5 {cards:List Cd} {l:List Pn} {o:Op} {c:Cd} (h1:o.chk=0) (h2:plc l o.name=none) (h3:l.length<200) (h4:Bi cards o.by_=some c) (h5:c.s=Sg.pub (sec Ba o.by_.toNat)) (h6:o.kind≠1∨l=[])
  (h7:o.past.any (fun id=>(plc l id).isNone)=false) (h8:clash l o.past=false) (h9:late l o.past≤o.at_) (h10:Aw l (Ag l o.past) o=false):Ai cards l (sgn o)=0:=by
 obtain ⟨R,S,e,hc⟩:=E5 o;rw [e];unfold Ai;rw [Ks,Kv,h1,h2,if_neg (by simp),if_neg (by simp),if_neg (by omega)];rw [show ({o with r:=R,s:=S}:Op).by_=o.by_ from rfl,h4];dsimp only;rw [Ku,h5,hc,if_neg (by simp),if_neg (by rcases h6 with h|h<;>simp [h]),h7,if_neg (by simp),h8,if_neg (by simp;omega),Zo,h10]
 simp
theorem Zr {cards:List Cd} {l:List Pn} {o:Op} {c:Cd} (h1:o.chk=0) (h2:plc l o.name=none) (h3:l.length<200) (h4:Bi cards o.by_=some c) (h5:c.s=Sg.pub (sec Ba o.by_.toNat)) (h6:o.kind≠1∨l=[])
  (h7:o.past.any (fun id=>(plc l id).isNone)=true):Ai cards l (sgn o)=10:=by
 obtain ⟨R,S,e,hc⟩:=E5 o;rw [e];unfold Ai;rw [Ks,Kv,h1,h2,if_neg (by simp),if_neg (by simp),if_neg (by omega)];rw [show ({o with r:=R,s:=S}:Op).by_=o.by_ from rfl,h4];dsimp only;rw [Ku,h5,hc,if_neg (by simp),if_neg (by rcases h6 with h|h<;>simp [h]),h7,if_pos rfl]
theorem Zs {cards:List Cd} {l:List Pn} {o:Op} (h1:o.chk=0) (h2:(plc l o.name).isSome=true):Ai cards l o=5:=by
 unfold Ai;rw [h1,if_neg (by simp),if_pos h2]
def Dt (b s a:Int) (past:List Id):Op:={base b s 8 a past [] with of:=⟨1,1,0⟩}
def G6 (b:Int):Op:={base b 1 1 0 [] [] with need:=0}
theorem Kz {b s a:Int} {past:List Id} (hb:1≤b∧b≤12) (hs:1≤s∧s≤2147483647) (ha:0≤a∧a≤2147483647) (hp:past.length≤12∧(∀x∈past,x.named=true)∧Row past∧past≠[]):(Dt b s a past).chk=0:=
 Ui (h:=⟨by omega,hb,hs,ha,⟨hp.1,hp.2.1,hp.2.2.1,by simp [hp.2.2.2]⟩,⟨by simp,by simp,.inl rfl⟩⟩) (Nq (x:=⟨1,1,0⟩) ⟨by decide,by decide⟩ ⟨by decide,by decide⟩ (by unfold FP;decide))
theorem Zt {b:Int} (hb:1≤b∧b≤12):(G6 b).chk=0:=
 Ns (h:=⟨by omega,hb,by omega,by omega,⟨by simp,by simp,List.Pairwise.nil,by simp⟩,⟨by simp,by simp,.inl rfl⟩⟩) (Er (by omega))
theorem id_lt (o:Op):o.id<FP:=by unfold FP;exact Hs.of_lt _ _
theorem Zu {b s:Int} {u:Nat} (hb:1≤b∧b≤12) (hs:1≤s∧s≤2147483647) (hu:u<FP):(Id.mk b s u).named=true:=Nq hb hs hu
theorem K9 {o:Op} (hb:1≤o.by_∧o.by_≤12) (hs:1≤o.sq∧o.sq≤2147483647):o.name.named=true:=by
 unfold Op.name;exact Zu hb hs (id_lt o)
end Oq
end
section
open Go.RowKit
attribute [local go_sem ↓] Go.wp_at_zero Go.wp_at_succ
namespace Oq
attribute [local go_sem ↓] Ch Eg
def La (b s a:Int) (l:List Id) (w:World) (e:Ending) (w':World):Prop:=∃y:OpL,e=.returned (.agg y.cells)∧y.op=sgn (Dt b s a (Ao l))∧y.own w' w.heap.size∧Fr Non w w'
def erL (b s a:Int) (A:Option Addr) (c:Nat) (l:List Id):OpL:={OpL.zero with by_:=b,sq:=s,kind:=8,at_:=a,pastA:=A,pastC:=c,past:=l,of:=⟨1,1,0⟩}
theorem Qt (b s a:Int) (A:Option Addr) (c:Nat) (l:List Id):(erL b s a A c l).op=Dt b s a l:=rfl
theorem Lb (x:OpL) (o:Op) (h:x.op=o) (u:Nat) (hu:o.by_.toNat=u) (S:Nat) (hS:sec Ba u=S):({x with r:=Sg.r S x.op.bare,s:=Sg.s S x.op.bare}:OpL).op=sgn o:=by
 rw [Vy,h];unfold sgn;rw [hu,hS]
theorem Cj:I64 0:=⟨by decide,by decide⟩
theorem I64_8:I64 8:=⟨by decide,by decide⟩
theorem Iw:I64 1:=⟨by decide,by decide⟩
theorem Ix {b s a : Int} {L : List Id} (hb : 1 ≤ b ∧ b ≤ 12) (hs : 1 ≤ s ∧ s ≤ 2147483647) (ha : 0 ≤ a ∧ a ≤ 2147483647) (hl : L.length ≤ 1000 ∧ ∀ x ∈ L, x.ok) : (Dt b s a L).ok :=
  ⟨⟨by show _ ≤ b; omega, by show b ≤ _; omega⟩, ⟨by show _ ≤ s; omega, by show s ≤ _; omega⟩, I64_8, ⟨by show _ ≤ a; omega, by show a ≤ _; omega⟩, hl, Cj, Cj, Cj, Cj,
   ⟨Ak6 _, fun _ h => absurd h Ak8⟩, ⟨Cj, Cj, Ei⟩, Cj, Ak6 _, ⟨Ak6 _, fun _ h => absurd h Ak8⟩, ⟨Iw, Iw, Ei⟩,
   ⟨Ak6 _, fun _ h => absurd h Ak8⟩, Cj, Cj, ⟨Ak6 _, fun _ h => absurd h Ak8⟩, Ei, ⟨Ak6 _, fun _ h => absurd h Ak8⟩, Ei, Ei⟩
theorem Qu {b s a:Int} {A:Option Addr} {c:Nat} {l:List Id} {w:World} {base:Nat} (h:Own w base 38 3 A l.length c (l.flatMap Id.cells)):(erL b s a A c l).own w base:=
 ⟨RowAt.of_own h,RowAt.nil _ _ _ _,(fun _ h=>absurd h Ak8),RowAt.nil _ _ _ _,RowAt.nil _ _ _ _,RowAt.nil _ _ _ _,RowAt.nil _ _ _ _,RowAt.nil _ _ _ _,(fun _ h=>absurd h Ak8)⟩
theorem Lc {x:OpL} {w:World} {base:Nat} (o:x.own w base) (r s:Nat):({x with r:=r,s:=s}:OpL).own w base:=⟨o.past,o.path,o.nodes,o.body,o.refs,o.guards,o.boxes,o.hist,o.seals⟩
theorem Ld (b s a:Int) (B n c:Nat) (A:Option Addr) (l:List Id) (w:World) (hb:1≤b∧b≤12) (hs:1≤s∧s≤2147483647) (ha:0≤a∧a≤2147483647) (hn:Hid (l.length=n)) (hr:Rd w B 3 A n (l.flatMap Id.cells)) (hnm:n≤1000) (hok:∀x∈l,x.ok):
  Calls Tryz.prog 41 #[.int .i64 b,.int .i64 s,.int .i64 a,.slice A n c] w (La b s a l w):=by
 have hi:(Tryz.prog.info? 44).map (·.size)=some 27:=by kernel_rfl
 have ah:(Ao l).length=n:=(Dp l).length_eq.trans hn.out;have al:(Dt b s a (Ao l)).ok:=Ix hb hs ha ⟨by omega,fun x hx=>hok x ((Dp l).subset hx)⟩;have f0:Fr Non w (w.alloc (.cells zO 44)):=(Fr.refl Non w).alloc _;have ao:=Blk.new w 44 zO;have kS:=Lib.hid (fun w' (h:Fr Non w w')=>Gn B n c A l w' hn (hr.fr h zr) (by omega));obtain ⟨u,hu⟩:∃u,b.toNat=u:=⟨_,rfl⟩;have af:IntKind.u64.wrap b=(u:Int):=by rw [IntKind.wrap_u64];omega
 have kG:Hid (∀(A1:Option Addr) (c1:Nat) (w':World) (aa:Nat),Own w' aa 38 3 A1 n c1 ((Ao l).flatMap Id.cells)→Calls Tryz.prog 15 #[.agg #[.int .i64 b,.int .i64 s,.int .i64 8,.int .i64 a,.slice A1 n c1,.int .i64 0,.int .i64 0,.int .i64 0,.int .i64 0,.slice none 0 0,.int .i64 0,.int .i64 0,.int .u64 0,.int .i64 0,.slice none 0 0,.slice none 0 0,.int .i64 1,.int .i64 1,.int .u64 0,.slice none 0 0,.int .i64 0,.int .i64 0,.slice none 0 0,.int .u64 0,.slice none 0 0,.int .u64 0,.int .u64 0]] w' fun r aj=>
   ∃y:OpL,r=.returned (.agg y.cells)∧y.op=sgn (Dt b s a (Ao l))∧(∀(S:Nat→Prop) (wz:World),Fr S w' wz→(∀k,Ab A1=some k→¬S k)→y.own wz aa)∧Fr Non w' aj):=by
  intro A1 c1 w' aa ho;rw [← ah] at ho ⊢;have aw:=(Qu (b:=b) (s:=s) (a:=a) ho).at;have h:=Kd (erL b s a A1 c1 (Ao l)) u w' af (by omega) aw (by rw [Qt];exact al);refine Calls.mono h ?_;rintro r aj ⟨h1,h2⟩;exact ⟨_,h1,Lb _ _ (Qt b s a A1 c1 (Ao l)) u hu _ rfl,(fun S wz hf hs=>Lc (Qu (ho.fr hf hs)) _ _),h2⟩
 have ac:Hid (∀(y:OpL) w',y.op=sgn (Dt b s a (Ao l))→y.own w' w.heap.size→Fr Non w w'→La b s a l w (.returned (.agg y.cells)) w'):=fun y w' h1 h2 h3=>⟨y,rfl,h1,h2,h3⟩;unfold Ep at kS;generalize La b s a l w=POST at*;generalize sgn (Dt b s a (Ao l))=OO at*;generalize (Ao l).flatMap Id.cells=SC at*;clear al ah hn hr hok af hu;go_enter Tryz.func41,Tryz.ntmps41;go_upto_region 1 with (fail)
 generalize w.alloc (.cells zO 44)=w0 at*;have ax:=f0.size
 go_wp2_with (first
  |(go_at_call 50;(with_reducible refine (kS.out _ f0).mono ?_);rintro _ w1 ⟨A1,c1,rfl,o1,f1⟩;have kg:=Lib.hid (kG.out A1 c1 w1 _ o1);have ap:=ao.fr f1 zq;have aq:=f0.trans f1 zr;have ae:=o1.row;have a0:=ao.lt;clear kS kG o1 f1)
  |(go_at_call 15;(with_reducible refine (kg.out).mono ?_);rintro _ w2 ⟨y,rfl,az,ad,f2⟩;have ai:=ap.fr f2 zq;have ar:=aq.trans f2 zr;have ab:=Cb y;have ay:Hid (∀wz,Fr (One w.heap.size) w2 wz→POST (.returned (.agg y.cells)) wz):=(fun wz hz=>by
    have au:Fr Non w wz:=ar.trans hz (fun k hk e=>absurd hk (by have e':k=w.heap.size:=e;omega));have av:w.heap.size≤w0.heap.size:=ax;exact ac.out y wz az ((ad (One w.heap.size) wz ((Fr.of_non f2 (One w.heap.size)).trans hz zr) (fun k hk e=>by have h1:=(ae k hk).1;have e':k=w.heap.size:=e;omega)).lower av) au);clear kg f2)
  |(refine Ey rfl 44 (.tmp 8) (.tmp 16) rfl rfl rfl rfl ai hi rfl ab ?_;have ak:=(Fr.refl (One w.heap.size) w2).setRow (g:=w.heap.size) (fun _=>rfl) y.cells;have ag:=ai.setRow (cs:=y.cells);generalize w2.setRow w.heap.size y.cells=wz at ak ag ⊢;(repeat (first|go_values|go_skip|go_guarded|go_step));exact Dm (t:=44) rfl rfl ag rfl Tryz.underlying44 (by kernel_rfl) rfl (ay.out wz ak)))
end Oq
end
section
open Go.RowKit Go.Sort Go.Shelf
namespace Oq
section
variable {α : Type} [Inhabited α] {enc : α → List Value} {sz : Nat} (hlen : ∀ x, (enc x).length = sz) (hsz : 0 < sz)
include hlen hsz
theorem Qw (xs:List α) {j:Nat} (hj:j<xs.length*sz):(xs.flatMap enc)[j]? =some ((flatK enc sz xs.toArray)[j]!):=by
 rw [get_flatK _ _ _ _ (by simpa using hj)];have hk:j/sz<xs.length:=Nat.div_lt_of_lt_mul (by rwa [Nat.mul_comm] at hj);have hm:j%sz<sz:=Nat.mod_lt _ hsz;have h1:xs[j/sz]? =some xs[j/sz]:=Al6 hk;have h2:=Ew (f:=enc) (size:=sz) hlen xs (j/sz) (j%sz) _ h1 hm;rw [Nat.mul_comm,Nat.div_add_mod] at h2;rw [h2];have h3:xs.toArray[j/sz]! =xs[j/sz]:=by simp [hk]
 rw [h3];have h4:j%sz<(enc xs[j/sz]).length:=by rw [hlen];exact hm
 rw [Al6 h4];simp [h4]
theorem Zv {w:World} {base c:Nat} {t:TypeId} {g:Nat} {xs:List α} (h:Own w base t sz (some ⟨g,0,none⟩) xs.length c (xs.flatMap enc)):HoldsK enc sz w g 0 xs.toArray:=by
 intro j hj;have hj':j<xs.length*sz:=by simpa using hj
 obtain ⟨cur,hb,hl,hs⟩:=Qm h (by
  rcases Am9 xs.length with h0|h0
  · rw [h0] at hj';simp at hj'
  · exact h0)
 have hf:=Qw hlen hsz xs hj';rw [Nat.zero_add];refine ⟨?_,hb.frozen j⟩;rw [hb.cell j,id,← hf,← hl,List.getElem?_take_of_lt hj'];simp
theorem Zw {w:World} {base c:Nat} {t:TypeId} {g:Nat} {xs ys:List α} (n:Nat) (os:Array Obj) (h:Own w base t sz (some ⟨g,0,none⟩) xs.length c (xs.flatMap enc)) (hx:0<xs.length) (hl:ys.length=xs.length):
  Own (sortWorldK enc sz w g 0 n ys.toArray os) base t sz (some ⟨g,0,none⟩) ys.length c (ys.flatMap enc):=by
 have hyl:(ys.flatMap enc).length=ys.length*sz:=Ex (f:=enc) hlen ys
 rcases h.2 with ⟨_,h0⟩|⟨g',cap,cur,hv,hb,hg,h1,h2,h3,h4⟩
 · omega
 ·
  injection hv with hA hn' hc
  injection hA with hA
  injection hA with hA
  subst hA;subst hc
  have hs:xs.length*sz≤cur.size:=by
   have h5:=congrArg List.length h4;rw [List.length_take,Array.length_toList,h.1] at h5;rw [← h5];exact Nat.min_le_right _ _
  have hnew:=Qn (n:=n) (os:=os) (d:=flatK enc sz ys.toArray) (show Blk w g t cur from hg);refine ⟨hyl,.inr ⟨g,c,putCells id 0 (flatK enc sz ys.toArray) cur,rfl,hb,hnew,by omega,h2,?_,?_⟩⟩
  · simpa [putCells] using h3
  ·
   rw [← hyl];exact Qp (by rw [hyl];simp) (fun j hj=>Qw hlen hsz ys (by omega)) (by rw [hyl,hl];exact hs)
end
end Oq
end
section
open Go.RowKit
attribute [local go_sem ↓] Go.wp_at_zero Go.wp_at_succ
namespace Oq
theorem Le (l:List Cd):∀v∈l.flatMap Cd.cells,v.oneCell'=true:=Ic _ (fun a v hv=>by simp [Cd.cells] at hv;rcases hv with rfl|rfl|rfl|rfl|rfl<;>rfl) l
theorem Zx (base:Nat) (g:Gph) (w:World) (hg:GAt w base g) (hn:g.cards.length≤1000000):Calls Tryz.prog 42 #[.pointer (some ⟨g.gb,0,none⟩)] w (Av 81 5 g.cards.length (g.cards.flatMap Cd.cells) w):=by
 have c0:w.cell? ⟨g.gb,0,none⟩=some (.slice g.cA g.cards.length g.cC):=hg.blk.cell 0;have k:=Lib.hid (O4 _ _ g.cC _ _ _ hg.cards (Le _) hn);have hsh:Hid (∀e w',Av 81 5 g.cards.length (g.cards.flatMap Cd.cells) w e w'→∃A m c,e=.returned (.slice A m c)):=fun _ _ ⟨A,c,h,_⟩=>⟨A,g.cards.length,c,h⟩;generalize Av 81 5 g.cards.length (g.cards.flatMap Cd.cells) w=POST at*;clear hg;go_enter Tryz.func42,Tryz.ntmps42;go_wp2_with (fail);refine (k.out).mono ?_;intro e w2 h;obtain ⟨A2,m2,c2,rfl⟩:=hsh.out _ _ h;replace h:=Lib.hid h;clear k hsh;go_wp2_with (fail);exact h.out
end Oq
end
end Go.Proofs.YtafonabghnogaaaGreatDoor
namespace Go.Proofs
open Go.Shelf Go.RowKit Go.Lib Go.Sort
def Tryz.sortCards_ren:Go.Shelf.Ren:=⟨fun|6=>77|15=>128|14=>127|28=>185|29=>186|20=>177|21=>178|22=>179|23=>180|24=>181|25=>182|26=>183|27=>184|46=>216|47=>217|48=>218|49=>219|50=>220|57=>232|n=>n,fun|22=>26|24=>81|25=>131|3=>3|39=>172|0=>0|53=>220|55=>23|4=>4|46=>214|45=>213|50=>119|5=>5|9=>9|66=>239|70=>242|76=>254|77=>255|n=>n,fun|n=>n⟩
theorem Tryz.sortCards:Go.Proofs.SlLaysF0.n6 Tryz.prog Tryz.sortCards_ren:={
  mixed:=by kernel_rfl
  f6:=⟨Tryz.f77.name,by decide,Tryz.func77.trans (congrArg some (by kernel_rfl))⟩
  f14:=⟨Tryz.f127.name,by decide,Tryz.func127.trans (congrArg some (by kernel_rfl))⟩
  f15:=Tryz.func128.trans (congrArg some (by kernel_rfl))
  f20:=⟨Tryz.f177.name,by decide,Tryz.func177.trans (congrArg some (by kernel_rfl))⟩
  f21:=⟨Tryz.f178.name,by decide,Tryz.func178.trans (congrArg some (by kernel_rfl))⟩
  f22:=⟨Tryz.f179.name,by decide,Tryz.func179.trans (congrArg some (by kernel_rfl))⟩
  f23:=⟨Tryz.f180.name,by decide,Tryz.func180.trans (congrArg some (by kernel_rfl))⟩
  f24:=⟨Tryz.f181.name,by decide,Tryz.func181.trans (congrArg some (by kernel_rfl))⟩
  f25:=⟨Tryz.f182.name,by decide,Tryz.func182.trans (congrArg some (by kernel_rfl))⟩
  f26:=⟨Tryz.f183.name,by decide,Tryz.func183.trans (congrArg some (by kernel_rfl))⟩
  f27:=⟨Tryz.f184.name,by decide,Tryz.func184.trans (congrArg some (by kernel_rfl))⟩
  f28:=Tryz.func185.trans (congrArg some (by kernel_rfl))
  f29:=Tryz.func186.trans (congrArg some (by kernel_rfl))
  f46:=⟨Tryz.f216.name,by decide,Tryz.func216.trans (congrArg some (by kernel_rfl))⟩
  f47:=Tryz.func217.trans (congrArg some (by kernel_rfl))
  f48:=Tryz.func218.trans (congrArg some (by kernel_rfl))
  f49:=⟨Tryz.f219.name,by decide,Tryz.func219.trans (congrArg some (by kernel_rfl))⟩
  f50:=⟨Tryz.f220.name,by decide,Tryz.func220.trans (congrArg some (by kernel_rfl))⟩
  f57:=⟨Tryz.f232.name,by decide,Tryz.func232.trans (congrArg some (by kernel_rfl))⟩
  t0:=Tryz.underlying0
  a0:=Tryz.isAgg0
  z0:=Tryz.sizeOf0
  v0:=Tryz.zeroValue0
  t3:=Tryz.underlying3
  a3:=Tryz.isAgg3
  z3:=Tryz.sizeOf3
  v3:=Tryz.zeroValue3
  t4:=Tryz.underlying4
  a4:=Tryz.isAgg4
  z4:=Tryz.sizeOf4
  v4:=Tryz.zeroValue4
  t5:=Tryz.underlying5
  a5:=Tryz.isAgg5
  z5:=Tryz.sizeOf5
  v5:=Tryz.zeroValue5
  t9:=Tryz.underlying9
  a9:=Tryz.isAgg9
  z9:=Tryz.sizeOf9
  v9:=Tryz.zeroValue9
  t22:=Tryz.underlying26
  a22:=Tryz.isAgg26
  z22:=Tryz.sizeOf26
  v22:=Tryz.zeroValue26
  t25:=Tryz.underlying131
  a25:=Tryz.isAgg131
  z25:=Tryz.sizeOf131
  v25:=Tryz.zeroValue131
  t39:=Tryz.underlying172
  a39:=Tryz.isAgg172
  z39:=Tryz.sizeOf172
  v39:=Tryz.zeroValue172
  t45:=Tryz.underlying213
  a45:=Tryz.isAgg213
  z45:=Tryz.sizeOf213
  v45:=Tryz.zeroValue213
  t46:=Tryz.underlying214
  a46:=Tryz.isAgg214
  z46:=Tryz.sizeOf214
  v46:=Tryz.zeroValue214
  t50:=Tryz.underlying119
  a50:=Tryz.isAgg119
  z50:=Tryz.sizeOf119
  v50:=Tryz.zeroValue119
  t53:=Tryz.underlying220
  a53:=Tryz.isAgg220
  z53:=Tryz.sizeOf220
  v53:=Tryz.zeroValue220
  t55:=Tryz.underlying23
  a55:=Tryz.isAgg23
  z55:=Tryz.sizeOf23
  v55:=Tryz.zeroValue23
  t66:=Tryz.underlying239
  a66:=Tryz.isAgg239
  z66:=Tryz.sizeOf239
  v66:=Tryz.zeroValue239
  t70:=Tryz.underlying242
  a70:=Tryz.isAgg242
  z70:=Tryz.sizeOf242
  v70:=Tryz.zeroValue242
  t76:=Tryz.underlying254
  a76:=Tryz.isAgg254
  z76:=Tryz.sizeOf254
  v76:=Tryz.zeroValue254
  t77:=Tryz.underlying255
  a77:=Tryz.isAgg255
  z77:=Tryz.sizeOf255
  v77:=Tryz.zeroValue255}
end Go.Proofs
namespace Go.Proofs.YtafonabghnogaaaGreatDoor
section
open Go.RowKit Go.Sort Go.Shelf
attribute [local go_sem ↓] Go.wp_at_zero Go.wp_at_succ
namespace Oq
structure CdR where
 c:Cd
 lo:0≤c.d
 hi:c.d≤1000
instance:Inhabited CdR:=⟨⟨⟨0,0,0,0,0⟩,Am1 _,by decide⟩⟩
def CdR.cells (x:CdR):List Value:=x.c.cells
def G7 (x y:CdR):Int:=x.c.d-y.c.d
theorem Iy (x y:CdR):ltOf G7 x y=decide (x.c.d<y.c.d):=by
 unfold ltOf G7;rw [Bool.eq_iff_iff,decide_eq_true_iff,decide_eq_true_iff];omega
theorem Zy:SWO (ltOf G7) where
 irrefl x:=by rw [Iy];simp
 trans x y z h1 h2:=by
  rw [Iy,decide_eq_true_iff] at*;omega
 ntrans x y z h1 h2:=by
  rw [Iy,decide_eq_false_iff_not] at*;omega
theorem Zz (x y:Cd) (w:World) (hx0:0≤x.d) (hx1:x.d≤1000) (hy0:0≤y.d) (hy1:y.d≤1000):
  Calls Tryz.prog 78 #[.agg #[.int .i64 x.d,.int .i64 x.m,.int .u64 (x.l:Int),.int .u64 (x.k:Int),.int .u64 (x.s:Int)],.agg #[.int .i64 y.d,.int .i64 y.m,.int .u64 (y.l:Int),.int .u64 (y.k:Int),.int .u64 (y.s:Int)]] w fun e w'=>e=.returned (.int .i64 (x.d-y.d))∧GrowOf w w':=by
 have hf:=((GrowOf.refl w).alloc (.cells #[.int .i64 x.d,.int .i64 x.m,.int .u64 (x.l:Int),.int .u64 (x.k:Int),.int .u64 (x.s:Int)] 81)).alloc (.cells #[.int .i64 y.d,.int .i64 y.m,.int .u64 (y.l:Int),.int .u64 (y.k:Int),.int .u64 (y.s:Int)] 81);go_enter Tryz.func78,Tryz.ntmps78;go_wp2
 go_ret
 exact ⟨rfl,hf⟩
theorem Z2 (blk off size:Nat) (w:World):CmpLays Tryz.prog 78 #[] CdR.cells 5 G7 blk off size w:=
 fun _ _ _ _ x y=>Zz x.c y.c _ x.lo x.hi y.lo y.hi
theorem Z3 (base:Nat) (A:Option Addr) (c:Nat) (xs:List CdR) (w:World) (hown:Own w base 81 5 A xs.length c (xs.flatMap CdR.cells)) (hlen:xs.length≤1000000):
  Calls Tryz.prog 77 #[.slice A xs.length c,.func (.func 78) #[] #[]] w fun e w'=>e=.returned (.tuple #[])∧
   ∃ys:List CdR,ys.Perm xs∧ys.Pairwise (fun x y=>x.c.d≤y.c.d)∧Own w' base 81 5 A ys.length c (ys.flatMap CdR.cells)∧Fr (fun k=>Ab A=some k) w w':=by
 by_cases h0:xs.length=0
 ·
  have hx:xs=[]:=List.eq_nil_of_length_eq_zero h0;subst hx;have hcon:=AnyF.slices_SortFunc_none Tryz.sortCards A c (.func (.func 78) #[] #[]) w;refine Calls.mono hcon ?_;rintro e w' ⟨rfl,rfl⟩;exact ⟨rfl,[],List.Perm.refl _,List.Pairwise.nil,hown,Fr.refl _ _⟩
 ·
  obtain ⟨g,rfl⟩:∃g,A=some ⟨g,0,none⟩:=by
   rcases hown.2 with ⟨_,hn⟩|⟨g,cap,cur,hv,_⟩
   · exact absurd hn h0
   ·
    injection hv with hA _ _
    exact ⟨g,hA⟩
  have hrow:=hown.row g rfl;have eg:∀args w,(callFunc 78 args).run Tryz.prog w=.ok (.enter 78 args) w:=enters_of Tryz.func78 (by kernel_rfl) rfl;have hcon:=AnyQ.slices_SortFunc Tryz.sortCards 5 Tryz.isAgg81 Tryz.sizeOf81 CdR.cells (fun _=>rfl) (fun x v hv=>by simp [CdR.cells,Cd.cells] at hv;rcases hv with rfl|rfl|rfl|rfl|rfl<;>rfl) G7 Zy 78 #[] g 0 c xs.toArray w eg (Z2 g 0 _ w) (Zv (enc:=CdR.cells) (fun _=>rfl) (by decide) hown) hrow.2 (by simp;omega)
  refine Calls.mono hcon ?_;rintro e w' ⟨rfl,d',n,os,hp,hs,rfl⟩;have hds:d'.size=xs.length:=by rw [hp.1];simp
  have hperm:d'.toList.Perm xs:=by
   have h1:=hp.2.2
   have e1:d'.extract 0 xs.toArray.size=d':=by
    rw [show xs.toArray.size=d'.size from hp.1.symm];simp
   have e2:xs.toArray.extract 0 xs.toArray.size=xs.toArray:=by simp
   rw [e1,e2] at h1;simpa using h1
  refine ⟨rfl,d'.toList,hperm,?_,?_,?_⟩
  ·
   rw [List.pairwise_iff_getElem];intro i j hi hj hij;have h1:=hs i j (Ak6 _) hij (by rw [← hp.1];simpa using hj);rw [Iy] at h1;have hi':i<d'.size:=by simpa using hi
   have hj':j<d'.size:=by simpa using hj
   rw [getElem!_pos d' i hi',getElem!_pos d' j hj',decide_eq_false_iff_not] at h1;have h2:d'.toList[i]=d'[i]:=by simp
   have h3:d'.toList[j]=d'[j]:=by simp
   rw [h2,h3];omega
  ·
   have h1:=Zw (enc:=CdR.cells) (sz:=5) (fun _=>rfl) (by decide) (ys:=d'.toList) n os hown (by omega) (by simpa using hds);simpa using h1
  · exact (Qo w g n _ os).mono (fun k hk e=>by have e':k=g:=e;subst e';rfl)
theorem Z4 {xs ys:List CdR} (hp:ys.Perm xs) (hs:ys.Pairwise (fun x y=>x.c.d≤y.c.d)) (hx:xs.Pairwise (fun x y=>x.c.d<y.c.d)):ys=xs:=by
 induction xs generalizing ys with
 |nil=>exact List.Perm.eq_nil hp
 |cons x r ih=>
  cases ys with
  |nil=>exact absurd hp.length_eq (by simp)
  |cons y q=>
   rw [List.pairwise_cons] at hs hx
   have hxy:y=x:=by
    have hy:y∈x::r:=hp.subset (by simp)
    rcases List.mem_cons.1 hy with h|h
    · exact h
    ·
     have h1:=hx.1 y h;have hx':x∈y::q:=hp.symm.subset (by simp)
     rcases List.mem_cons.1 hx' with h2|h2
     · exact h2.symm
     ·
      have h3:=hs.1 x h2;omega
   subst hxy;rw [ih (List.perm_cons y|>.1 hp) hs.2 hx.2]
end Oq
end
section
open Go.RowKit
attribute [local go_sem ↓] Go.wp_at_zero Go.wp_at_succ
namespace Oq
def Iz (cards:List Cd) (w:World) (e:Ending) (w':World):Prop:=
 ∃g:Gph,e=.returned (.pointer (some ⟨g.gb,0,none⟩))∧GAt w' w.heap.size g∧g.nodes=[]∧g.cards=cards∧Fr Non w w'
theorem Lf (l:List CdR):l.flatMap CdR.cells=(l.map CdR.c).flatMap Cd.cells:=by
 rw [List.flatMap_map];rfl
theorem Z5 (B c:Nat) (A:Option Addr) (l:List CdR) (w:World) (hr:Rd w B 5 A l.length (l.flatMap CdR.cells)) (hs:l.Pairwise (fun x y=>x.c.d<y.c.d)) (hlen:l.length≤1000000) (hpos:0<w.heap.size) (hcs:∀x∈l,x.c.s<18446744073709551616):
  Calls Tryz.prog 23 #[.slice A l.length c] w (Iz (l.map CdR.c) w):=by
 have kc:=Lib.hid (O4 B l.length c A _ w hr (by rw [Lf];exact Le _) hlen)
 have ad:Hid (∀(A1:Option Addr) (c1:Nat) (w1 w4:World),Fr Non w w1→Own w4 w.heap.size 81 5 A1 l.length c1 (l.flatMap CdR.cells)→
   Fr (fun k=>Ab A1=some k) ((w1.alloc (.map #[] 0)).alloc (.cells #[.slice A1 l.length c1,.map (some w1.heap.size),.slice none 0 0] 123)) w4→(∀k,Ab A1=some k→w.heap.size≤k∧k<w1.heap.size)→
   Iz (l.map CdR.c) w (.returned (.pointer (some ⟨w1.heap.size+1,0,none⟩))) w4):=by
  intro A1 c1 w1 w4 f1 o4 f4 aa;have af:¬Ab A1=some w1.heap.size:=fun e=>by have:=(aa _ e).2;omega
  have ah:¬Ab A1=some (w1.heap.size+1):=fun e=>by have:=(aa _ e).2;omega
  have bg:=Blk.new (w1.alloc (.map #[] 0)) 123 #[.slice A1 l.length c1,.map (some w1.heap.size),.slice none 0 0];rw [Am2] at bg;have hm:=((MapAt.made w1).fr ((Fr.refl Non _).alloc (.cells #[.slice A1 l.length c1,.map (some w1.heap.size),.slice none 0 0] 123)) zq).fr f4 af;have sz:=f1.size;refine ⟨⟨w1.heap.size+1,w1.heap.size,0,A1,c1,l.map CdR.c,none,0,[]⟩,rfl,?_,rfl,rfl,?_⟩
  ·
   refine ⟨?_,hpos,by show _≤w1.heap.size+1;omega,sz,?_,Own.nil _ _ _ _,Ak6 _,Ak6 _,(fun n hn=>absurd hn (Ak8)),?_,?_,hm,fun n hn=>absurd hn (Ak8)⟩
   ·
    have h1:=bg.fr f4 ah;show Blk w4 (w1.heap.size+1) 123 #[.slice A1 (l.map CdR.c).length c1,.map (some w1.heap.size),.slice none 0 0];rw [Al3];exact h1
   ·
    show Own w4 w.heap.size 81 5 A1 (l.map CdR.c).length c1 ((l.map CdR.c).flatMap Cd.cells);rw [Al3,← Lf];exact o4
   ·
    show (l.map CdR.c).length≤1000000;rw [Al3];exact hlen
   ·
    intro c hc;obtain ⟨x,hx,rfl⟩:=List.mem_map.1 hc;exact hcs x hx
  · exact ((f1.alloc _).alloc _).trans f4 (fun k hk e=>absurd hk (by have:=(aa k e).1;omega))
 generalize Iz (l.map CdR.c) w=POST at*;have ks:=Lib.hid (fun (A1:Option Addr) (c1:Nat) (w3:World) (o:Own w3 w.heap.size 81 5 A1 l.length c1 (l.flatMap CdR.cells))=>Z3 w.heap.size A1 c1 l w3 o hlen);have ab:=Lib.hid (fun (ys:List CdR) (hp:ys.Perm l) (hq:ys.Pairwise (fun x y=>x.c.d≤y.c.d))=>Z4 hp hq hs);clear hr hs hcs;go_enter Tryz.func23,Tryz.ntmps23;go_wp2_with (fail);refine (kc.out).mono ?_;rintro _ w1 ⟨A1,c1,rfl,o1,f1⟩;have aa:=o1.row;have bg:=Blk.new (w1.alloc (.map #[] 0)) 123 #[.slice A1 l.length c1,.map (some w1.heap.size),.slice none 0 0];rw [Am2] at bg;have o3:=(o1.alloc (.map #[] 0)).alloc (.cells #[.slice A1 l.length c1,.map (some w1.heap.size),.slice none 0 0] 123);have g0:((w1.alloc (.map #[] 0)).alloc (.cells #[.slice A1 l.length c1,.map (some w1.heap.size),.slice none 0 0] 123)).cell? ⟨w1.heap.size+1,0,none⟩=some (.slice A1 l.length c1):=bg.cell 0;have kq:=Lib.hid (ks.out A1 c1 _ o3);have hp:=Lib.hid (fun (w4:World) o f=>ad.out A1 c1 w1 w4 f1 o f aa);have ag:=Lib.hid f1;clear kc ks ad o1 o3 aa f1 bg;have aj:=@run_makeMap Tryz.prog;go_wp2_with (fail);refine (kq.out).mono ?_;rintro _ w4 ⟨rfl,ys,ac,ae,o4,f4⟩;obtain rfl:=ab.out ys ac ae;have ai:=Lib.hid (hp.out w4 o4 f4);clear kq hp ab o4 f4 ac ae ag g0;go_wp2_with (fail);exact ai.out
theorem Z6 (n:Nat):Sg.pub n<18446744073709551616:=Al4 (Fd.pow_lt _ _) (by decide)
theorem cd_d (d m:Int) (l k s:Nat):(Cd.mk d m l k s).d=d:=rfl
theorem cd_s' (d m:Int) (l k s:Nat):(Cd.mk d m l k s).s=s:=rfl
theorem Eb (k:Nat) (m:Int):(Bb k m).d=(k:Int)+1:=cd_d _ _ _ _ _
theorem Lg (k:Nat) (m:Int):(Bb k m).s=Sg.pub (sec Ba (k+1)):=cd_s' _ _ _ _ _
theorem Lh:∀(l:List Int) (i:Nat),i+l.length≤1000→∃xs:List CdR,xs.map CdR.c=Bc i l∧xs.Pairwise (fun x y=>x.c.d<y.c.d)∧(∀x∈xs,(i:Int)<x.c.d)∧∀x∈xs,x.c.s<18446744073709551616
 |[],i,_=>⟨[],rfl,List.Pairwise.nil,by simp,by simp⟩
 |m::r,i,h=>by
  have h':i+1+r.length≤1000:=by rw [List.length_cons] at h;omega
  have hi:i+1≤1000:=by omega
  obtain ⟨xs,h1,h2,h3,h4⟩:=Lh r (i+1) h';refine ⟨⟨Bb i m,by rw [Eb];omega,by rw [Eb];omega⟩::xs,?_,?_,?_,?_⟩
  ·
   show Bb i m::xs.map CdR.c=Bb i m::Bc (i+1) r;rw [h1]
  ·
   refine List.pairwise_cons.2 ⟨fun x hx=> ?_,h2⟩;show (Bb i m).d<x.c.d;rw [Eb];have:=h3 x hx;omega
  ·
   intro x hx
   rcases List.mem_cons.1 hx with rfl|hx
   ·
    show (i:Int)<(Bb i m).d;rw [Eb];omega
   ·
    have:=h3 x hx;omega
  ·
   intro x hx
   rcases List.mem_cons.1 hx with rfl|hx
   ·
    show (Bb i m).s<_;rw [Lg];exact Z6 _
   · exact h4 x hx
theorem Li (B n c:Nat) (A:Option Addr) (l:List Int) (w:World) (hn:Hid (l.length=n)) (hnm:n≤1000) (hr:Rd w B 5 A n ((Bc 0 l).flatMap Cd.cells)) (hpos:0<w.heap.size):
  Calls Tryz.prog 23 #[.slice A n c] w (Iz (Bc 0 l) w):=by
 obtain ⟨xs,h1,h2,_,h4⟩:=Lh l 0 (by rw [hn.out];omega)
 have hl:xs.length=n:=by
  have:=congrArg List.length h1;rw [Al3,Ke,hn.out] at this;exact this
 rw [← h1] at hr ⊢;rw [← hl] at hr ⊢;rw [← Lf] at hr;exact Z5 B c A xs w hr h2 (by omega) hpos h4
theorem GAt.ge {w:World} {base:Nat} {g:Gph} (h:GAt w base g) {k:Nat} (hk:g.own k):base≤k:=by
 rcases hk with e|e|e
 · rw [e];exact h.gbase
 · rw [e];exact h.mbase
 · exact (h.own.row k e).1
theorem KindsAt.own {w w':World} {base:Nat} {g:Gph} (h:KindsAt w) (hg:GAt w base g) (hf:Fr g.own w w'):KindsAt w':=fun k hk=>hf.cell (h k hk) (fun e=>by have h1:=hg.ge e;have h2:=hg.pos;have h3:base≤0:=h1;omega)
theorem Blk.keepG {w w':World} {base b:Nat} {g:Gph} {t:TypeId} {cs:Array Value} (h:Blk w b t cs) (hg:GAt w base g) (hf:Fr g.own w w') (ht:¬Gty t):Blk w' b t cs:=h.fr hf (fun e=>ht (hg.types _ _ _ _ h e))
theorem OpL.own.keepG {w w':World} {base bx:Nat} {g:Gph} {x:OpL} (h:x.own w bx) (hg:GAt w base g) (hf:Fr g.own w w'):x.own w' bx:=
 h.keepP hf hg.types (by unfold Gty;decide) (by unfold Gty;decide) (by unfold Gty;decide) (by unfold Gty;decide) (by unfold Gty;decide) (by unfold Gty;decide) (by unfold Gty;decide)
def Hz (base:Nat) (g:Gph) (l:List Pn) (w:World) (e:Ending) (w':World):Prop:=
 e=.returned (.int .i64 0)∧∃g':Gph,GAt w' base g'∧g'.gb=g.gb∧g'.cards=g.cards∧g'.pns=l∧Fr g.own w w'
theorem G8 {base:Nat} {g:Gph} {x:OpL} {w:World} {l:List Pn} {p:Pn} (hl:g.pns=l) (hg:GAt w base g) (hat:x.at w w.heap.size) (hok:x.op.ok) (hkn:KindsAt w) (he:Ai g.cards l x.op=0) (hp:Au l x.op=p):
  Calls Tryz.prog 17 #[.pointer (some ⟨g.gb,0,none⟩),.agg x.cells] w (Hz base g (l++[p]) w):=by
 subst hl;refine (Gq base g x w hg hat hok hkn).mono ?_;rintro e w' ⟨rfl,h⟩
 rcases h with ⟨h0,_⟩|⟨_,g',h1,h2,_,h4,h5,h6,_⟩
 · exact absurd he h0
 ·
  refine ⟨by rw [he],g',h1,h2,h4,?_,h6⟩;rw [h5,hp]
theorem Qx {base:Nat} {g:Gph} {x:OpL} {w:World} {l:List Pn} {err:Int} (hl:g.pns=l) (hg:GAt w base g) (hat:x.at w w.heap.size) (hok:x.op.ok) (hkn:KindsAt w) (he:Ai g.cards l x.op=err) (h0:err≠0):
  Calls Tryz.prog 17 #[.pointer (some ⟨g.gb,0,none⟩),.agg x.cells] w fun e w'=>e=.returned (.int .i64 err)∧Fr Non w w':=by
 subst hl;subst he;refine (Gq base g x w hg hat hok hkn).mono ?_;rintro e w' ⟨rfl,h⟩
 rcases h with ⟨_,hf⟩|⟨h1,_⟩
 · exact ⟨rfl,hf⟩
 · exact absurd h1 h0
theorem Fy {o:Op} (h:o.ok):(sgn o).ok:=by
 have h1:Sg.r (sec Ba o.by_.toNat) o.bare<18446744073709551616:=Al4 (Sg.r_lt _ _) (by decide);have h2:Sg.s (sec Ba o.by_.toNat) o.bare<18446744073709551616:=Al4 (Sg.s_lt _ _) (by decide);unfold sgn;generalize Sg.r (sec Ba o.by_.toNat) o.bare=R at*;generalize Sg.s (sec Ba o.by_.toNat) o.bare=S at*;exact {h with r:=h1,s:=h2}
end Oq
end
section
open Go.RowKit
namespace Oq
inductive Rows (cards:List Cd):List Pn→Prop
 |nil:Rows cards []
 |snoc (l:List Pn) (o:Op):Rows cards l→Ai cards l o=0→Rows cards (l++[Au l o])
structure I0 (cards:List Cd) (l:List Pn) (o:Op):Prop where
 chk:o.chk=0
 new:plc l o.name=none
 room:l.length<200
 card:(Bi cards o.by_).isSome=true
 past:∀id∈o.past,∃i,plc l id=some i
 clash:clash l o.past=false
 late:late l o.past≤o.at_
 seq:Aw l (Ag l o.past) o=false
theorem G9 {cards:List Cd} {l:List Pn} {o:Op} (h:Ai cards l o=0):I0 cards l o:=by
 unfold Ai at h
 by_cases h1:o.chk≠0
 · rw [if_pos h1] at h;exact absurd h h1
 rw [if_neg h1] at h
 by_cases h2:(plc l o.name).isSome=true
 · rw [if_pos h2] at h;omega
 rw [if_neg h2] at h
 by_cases h3:200≤l.length
 · rw [if_pos h3] at h;omega
 rw [if_neg h3] at h
 cases hc:Bi cards o.by_ with
 |none=>rw [hc] at h;dsimp only at h;omega
 |some c=>
  rw [hc] at h;dsimp only at h
  by_cases h4:Sg.check c.s o.bare o.r o.s=false
  · rw [if_pos h4] at h;omega
  rw [if_neg h4] at h
  by_cases h5:o.kind=1∧l≠[]
  · rw [if_pos h5] at h;omega
  rw [if_neg h5] at h
  by_cases h6:o.past.any (fun id=>(plc l id).isNone)=true
  · rw [if_pos h6] at h;omega
  rw [if_neg h6] at h
  by_cases h7:Oq.clash l o.past=true∨o.at_<Oq.late l o.past
  · rw [if_pos h7] at h;omega
  rw [if_neg h7] at h
  by_cases h8:Aw l (Ag l o.past) o=true
  · rw [if_pos h8] at h;omega
  refine ⟨Decidable.not_not.1 h1,?_,by omega,by rw [hc];rfl,?_,?_,?_,Bool.not_eq_true _▸h8⟩
  ·
   cases hp:plc l o.name with
   |none=>rfl
   |some i=>rw [hp] at h2;exact absurd rfl h2
  ·
   intro id hid
   cases hp:plc l id with
   |some i=>exact ⟨i,rfl⟩
   |none=>exact absurd (List.any_eq_true.2 ⟨id,hid,by rw [hp];rfl⟩) h6
  ·
   cases hcl:Oq.clash l o.past with
   |false=>rfl
   |true=>exact absurd (Or.inl hcl) h7
  · exact Int.not_lt.1 (fun hh=>h7 (Or.inr hh))
theorem El {l:List Pn} {id:Id} {i:Nat} (n:Pn) (h:plc l id=some i):plc (l++[n]) id=some i:=by
 unfold plc at h ⊢;rw [An0,h];rfl
theorem Z7 {l:List Pn} {n:Pn} (h:plc l n.id=none):plc (l++[n]) n.id=some l.length:=by
 unfold plc at h ⊢;rw [An0,h];simp
theorem I1 {l:List Pn} {p:Nat} {m n:Pn} (h:l[p]? =some m):(l++[n])[p]? =some m:=by
 obtain ⟨hp,hm⟩:=List.getElem?_eq_some_iff.1 h;rw [Ak9 hp];exact h
structure NOk (cards:List Cd) (l:List Pn) (i:Nat) (n:Pn):Prop where
 id:n.id=n.o.name
 plc:plc l n.id=some i
 chk:n.o.chk=0
 card:(Bi cards n.o.by_).isSome=true
 par:∀id∈n.o.past,∃p,p<i∧Oq.plc l id=some p
 lt:∀q,n.ps q=true→q<i
 ps:∀q,n.ps q=true↔∃id∈n.o.past,∃p m,Oq.plc l id=some p∧l[p]? =some m∧(q=p∨m.ps q=true)
 anti:∀id∈n.o.past,∀id'∈n.o.past,∀p p' m,Oq.plc l id=some p→Oq.plc l id'=some p'→l[p]? =some m→m.ps p'=false
 late:∀id∈n.o.past,∀p m,Oq.plc l id=some p→l[p]? =some m→m.o.at_≤n.o.at_
 lev:n.lev=lvl l n.o.past
 seqs:∀q m,n.ps q=true→l[q]? =some m→m.o.by_=n.o.by_→m.o.sq<n.o.sq
 one:n.o.sq=1∨∃q m,n.ps q=true∧l[q]? =some m∧m.o.by_=n.o.by_∧m.o.sq=n.o.sq-1
theorem Lj {l l':List Pn} {ids:List Id} (h:∀id∈ids,Ca l' id=Ca l id):lvl l' ids=lvl l ids:=by
 unfold lvl
 suffices H:∀t:Nat,ids.foldl (fun t id=>max t (Ca l' id+1)) t=ids.foldl (fun t id=>max t (Ca l id+1)) t from H 1
 induction ids with
 |nil=>intro t;rfl
 |cons x r ih=>intro t;rw [List.foldl_cons,List.foldl_cons,h x Am3];exact ih (fun y hy=>h y (Am4 _ hy)) _
theorem NOk.keep {cards:List Cd} {l:List Pn} {i:Nat} {n n':Pn} (h:NOk cards l i n) (hi:l[i]? =some n):NOk cards (l++[n']) i n:=by
 have hil:i<l.length:=(List.getElem?_eq_some_iff.1 hi).1
 have hpar:∀id∈n.o.past,∀p,Oq.plc (l++[n']) id=some p→Oq.plc l id=some p:=by
  intro id hid p hp;obtain ⟨q,_,hq⟩:=h.par id hid;rw [El n' hq] at hp;injection hp with hp
  subst hp;exact hq
 have hat:∀id∈n.o.past,∀p m,Oq.plc l id=some p→(l++[n'])[p]? =some m→l[p]? =some m:=by
  intro id hid p m hp hm;rw [Ak9 (Di hp)] at hm;exact hm
 have hlow:∀q m,n.ps q=true→(l++[n'])[q]? =some m→l[q]? =some m:=by
  intro q m hq hm;rw [Ak9 (Al4 (h.lt q hq) hil)] at hm;exact hm
 refine ⟨h.id,El n' h.plc,h.chk,h.card,fun id hid=> ?_,h.lt,fun q=>(h.ps q).trans ⟨?_,?_⟩,?_,?_,?_,?_,?_⟩
 ·
  obtain ⟨p,hp,hq⟩:=h.par id hid;exact ⟨p,hp,El n' hq⟩
 ·
  rintro ⟨id,hid,p,m,h1,h2,h3⟩;exact ⟨id,hid,p,m,El n' h1,I1 h2,h3⟩
 ·
  rintro ⟨id,hid,p,m,h1,h2,h3⟩;have h1':=hpar id hid p h1;exact ⟨id,hid,p,m,h1',hat id hid p m h1' h2,h3⟩
 ·
  intro id hid id' hid' p p' m h1 h2 h3;have h1':=hpar id hid p h1;exact h.anti id hid id' hid' p p' m h1' (hpar id' hid' p' h2) (hat id hid p m h1' h3)
 ·
  intro id hid p m h1 h2;have h1':=hpar id hid p h1;exact h.late id hid p m h1' (hat id hid p m h1' h2)
 ·
  rw [h.lev];refine (Lj (fun id hid=> ?_)).symm;obtain ⟨p,_,hq⟩:=h.par id hid;unfold Ca;rw [El n' hq,hq];dsimp only;rw [Ak9 (Di hq)]
 ·
  intro q m hq hm;exact h.seqs q m hq (hlow q m hq hm)
 ·
  rcases h.one with h1|⟨q,m,h1,h2,h3⟩
  · exact .inl h1
  · exact .inr ⟨q,m,h1,I1 h2,h3⟩
theorem upB_iff {l:List Pn} {id:Id} {q:Nat}:upB l id q=true↔∃p m,plc l id=some p∧l[p]? =some m∧m.ps q=true:=by
 unfold upB;constructor
 ·
  intro h
  split at h
  ·
   rename_i p hp;obtain ⟨m,hm,_⟩:=Bt hp;rw [hm] at h;exact ⟨p,m,hp,hm,h⟩
  · cases h
 ·
  rintro ⟨p,m,h1,h2,h3⟩;rw [h1];dsimp only;rw [h2];exact h3
theorem Lk {l:List Pn} {ids:List Id} (hlen:l.length≤200) (hlt:∀(p:Nat) (m:Pn),l[p]? =some m→∀q,m.ps q=true→q<p) (q:Nat):
  Ag l ids q=true↔∃id∈ids,∃p m,plc l id=some p∧l[p]? =some m∧(q=p∨m.ps q=true):=by
 unfold Ag Ar Bu;rw [Ak7,Al5,Am5,Am5,decide_eq_true_eq];constructor
 ·
  rintro ⟨_,⟨id,hid,h⟩|⟨id,hid,h⟩⟩
  ·
   obtain ⟨p,m,h1,h2,h3⟩:=upB_iff.1 h;exact ⟨id,hid,p,m,h1,h2,.inr h3⟩
  ·
   have h1:plc l id=some q:=by simpa using h
   obtain ⟨m,hm,_⟩:=Bt h1;exact ⟨id,hid,q,m,h1,hm,.inl rfl⟩
 ·
  rintro ⟨id,hid,p,m,h1,h2,h3⟩;have hp:=Di h1
  rcases h3 with rfl|h3
  · exact ⟨by omega,.inr ⟨id,hid,by rw [h1];exact beq_self_eq_true _⟩⟩
  ·
   have:=hlt p m h2 q h3;exact ⟨by omega,.inl ⟨id,hid,upB_iff.2 ⟨p,m,h1,h2,h3⟩⟩⟩
theorem Qy {l:List Pn} {ids:List Id} {id:Id} (h:id∈ids):Bk l id≤late l ids:=by
 unfold late
 have mono:∀(r:List Id) (t:Int),t≤r.foldl (fun t id=>max t (Bk l id)) t:=by
  intro r
  induction r with
  |nil=>intro t;exact Am1 _
  |cons y r ih=>intro t;exact Al1 (Am6 _ _) (ih _)
 suffices H:∀t:Int,Bk l id≤ids.foldl (fun t id=>max t (Bk l id)) t from H 0
 induction ids with
 |nil=>cases h
 |cons x r ih=>
  intro t
  rcases List.mem_cons.1 h with rfl|h'
  · exact Al1 (Int.le_max_right t _) (mono r _)
  · exact ih h' _
theorem Fz {l:List Pn} {id:Id} {p:Nat} {m:Pn} (h1:plc l id=some p) (h2:l[p]? =some m):Bk l id=m.o.at_:=by
 unfold Bk;rw [h1];dsimp only;rw [h2];rfl
theorem Qz {l:List Pn} {id:Id} {p:Nat} {m:Pn} (h1:plc l id=some p) (h2:l[p]? =some m):Ca l id=m.lev:=by
 unfold Ca;rw [h1];dsimp only;rw [h2];rfl
theorem Ll {l:List Pn} {p:Nat→Bool} {d:Int}:∀{K k:Nat} {m:Pn},k<K→l[k]? =some m→m.o.by_=d→p k=true→m.o.sq≤Bd l p d K:=by
 intro K
 induction K with
 |zero=>intro k m h;omega
 |succ K ih=>
  intro k m h hm hd hp;unfold Bd
  rcases Al2 k K with hk|hk
  ·
   have:=ih hk hm hd hp
   split
   ·
    split
    · exact Al1 this (Am6 _ _)
    · exact this
   · exact this
  ·
   have e:k=K:=by omega
   subst e;rw [hm];dsimp only;rw [if_pos (by rw [Ak7];exact ⟨beq_iff_eq.2 hd,hp⟩)];exact Int.le_max_right _ _
theorem aheadTo_iff {l:List Pn} {p:Nat→Bool} {d s:Int}:∀{K:Nat},Br l p d s K=true↔∃k m,k<K∧l[k]? =some m∧m.o.by_=d∧p k=true∧m.o.sq=s-1:=by
 intro K
 induction K with
 |zero=>exact ⟨fun h=>(by cases h),fun ⟨k,m,h,_⟩=>by omega⟩
 |succ K ih=>
  unfold Br
  cases hK:l[K]? with
  |none=>
   dsimp only;rw [ih];constructor
   ·
    rintro ⟨k,m,h,h'⟩;exact ⟨k,m,by omega,h'⟩
   ·
    rintro ⟨k,m,h,h1,h'⟩;have:k≠K:=fun e=>by subst e;rw [hK] at h1;cases h1
    exact ⟨k,m,by omega,h1,h'⟩
  |some n=>
   dsimp only;rw [Al5,ih,Ak7,Ak7,beq_iff_eq,beq_iff_eq];constructor
   ·
    rintro (⟨k,m,h,h'⟩|⟨⟨h1,h2⟩,h3⟩)
    · exact ⟨k,m,by omega,h'⟩
    · exact ⟨K,n,by omega,hK,h1,h2,h3⟩
   ·
    rintro ⟨k,m,h,h1,h2,h3,h4⟩
    rcases Al2 k K with hk|hk
    · exact .inl ⟨k,m,hk,h1,h2,h3,h4⟩
    ·
     have e:k=K:=by omega
     subst e;rw [hK] at h1;injection h1 with h1
     subst h1;exact .inr ⟨⟨h2,h3⟩,h4⟩
theorem Q4 {cards:List Cd} {l:List Pn} {o:Op} (hl:∀i n,l[i]? =some n→NOk cards l i n) (T:I0 cards l o):NOk cards (l++[Au l o]) l.length (Au l o):=by
 have aj:∀(p:Nat) (m:Pn),l[p]? =some m→∀q,m.ps q=true→q<p:=fun p m hm=>(hl p m hm).lt;have ai:=Lk (ids:=o.past) (Am0 T.room) aj
 have ac:∀id∈o.past,∀p,plc (l++[Au l o]) id=some p→plc l id=some p:=by
  intro id aa p hp;obtain ⟨q,hq⟩:=T.past id aa;rw [El _ hq] at hp;injection hp with hp
  subst hp;exact hq
 have ah:∀id∈o.past,∀p m,plc l id=some p→(l++[Au l o])[p]? =some m→l[p]? =some m:=by
  intro id aa p m hp hm;rw [Ak9 (Di hp)] at hm;exact hm
 have ae:∀q,Ag l o.past q=true→q<l.length:=by
  intro q hq;obtain ⟨id,aa,p,m,h1,h2,h3⟩:=(ai q).1 hq;have:=Di h1
  rcases h3 with rfl|h3
  · exact this
  ·
   have:=aj p m h2 q h3;omega
 have ab:=T.seq;unfold Aw at ab;rw [Bool.or_eq_false_iff,decide_eq_false_iff_not] at ab;refine ⟨rfl,Z7 (n:=Au l o) T.new,T.chk,T.card,?_,ae,fun q=>(ai q).trans ⟨?_,?_⟩,?_,?_,?_,?_,?_⟩
 ·
  intro id aa;obtain ⟨p,hp⟩:=T.past id aa;exact ⟨p,Di hp,El _ hp⟩
 ·
  rintro ⟨id,aa,p,m,h1,h2,h3⟩;exact ⟨id,aa,p,m,El _ h1,I1 h2,h3⟩
 ·
  rintro ⟨id,aa,p,m,h1,h2,h3⟩;have ad:=ac id aa p h1;exact ⟨id,aa,p,m,ad,ah id aa p m ad h2,h3⟩
 ·
  intro id aa al af p p' m h1 h2 h3;have ad:=ac id aa p h1;have ag:=ac al af p' h2;have ap:=ah id aa p m ad h3;have ao:=T.room;have aq:=Di ag;have hc:=T.clash;unfold Oq.clash at hc;rw [An1] at hc;have hq:=hc p' (List.mem_range.2 (by omega))
  cases hm:m.ps p' with
  |false=>rfl
  |true=>
   refine absurd ?_ hq;rw [Ak7];exact ⟨List.any_eq_true.2 ⟨al,af,by rw [ag];exact beq_self_eq_true _⟩,List.any_eq_true.2 ⟨id,aa,upB_iff.2 ⟨p,m,ad,ap,hm⟩⟩⟩
 ·
  intro id aa p m h1 h2;have ad:=ac id aa p h1;have ag:=ah id aa p m ad h2;have:=Qy (l:=l) aa;rw [Fz ad ag] at this;exact Al1 this T.late
 ·
  refine (Lj (l:=l) (l':=l++[Au l o]) (fun id aa=> ?_)).symm;obtain ⟨p,hq⟩:=T.past id aa;unfold Ca;rw [El _ hq,hq];dsimp only;rw [Ak9 (Di hq)]
 ·
  intro q m hq hm hb;have ak:=ae q hq;rw [Ak9 ak] at hm;have:=Ll (p:=Ag l o.past) ak hm hb hq;exact Int.lt_of_le_of_lt this (Int.not_le.1 ab.1)
 ·
  rcases Int.lt_or_le 1 o.sq with h1|h1
  ·
   have h2:=ab.2;rw [Bool.and_eq_false_iff] at h2
   rcases h2 with h2|h2
   ·
    rw [decide_eq_false_iff_not] at h2;exact absurd h1 h2
   ·
    have h3:Br l (Ag l o.past) o.by_ o.sq l.length=true:=by
     cases ha:Br l (Ag l o.past) o.by_ o.sq l.length with
     |true=>rfl
     |false=>rw [ha] at h2;cases h2
    obtain ⟨k,m,hk,hm,hb,hp,hs⟩:=aheadTo_iff.1 h3;exact .inr ⟨k,m,hp,I1 hm,hb,hs⟩
  ·
   refine .inl ?_
   have h0:∀K,0≤Bd l (Ag l o.past) o.by_ K:=by
    intro K
    induction K with
    |zero=>exact Am1 _
    |succ K ih=>
     unfold Bd
     split
     ·
      split
      · exact Al1 ih (Am6 _ _)
      · exact ih
     · exact ih
   have h2:=h0 l.length;have h3:=Int.not_le.1 ab.1;have h4:(Au l o).o.sq=o.sq:=rfl;rw [h4];omega
theorem Rows.ok {cards:List Cd} {l:List Pn} (h:Rows cards l):∀i n,l[i]? =some n→NOk cards l i n:=by
 induction h with
 |nil=>intro i n h;simp at h
 |snoc l o hl ho ih=>
  intro i n hi
  rcases Al2 i l.length with hlt|hge
  ·
   rw [Ak9 hlt] at hi;exact (ih i n hi).keep hi
  ·
   rw [An2 hge] at hi
   have e:i-l.length=0:=by
    rcases Am9 (i-l.length) with h0|h0
    · exact h0
    · rw [List.getElem?_eq_none (by simp;omega)] at hi;cases hi
   rw [e] at hi;injection hi with hi
   subst hi;have:i=l.length:=by omega
   subst this;exact Q4 ih (G9 ho)
theorem Rows.few {cards:List Cd} {l:List Pn} (h:Rows cards l):l.length≤200:=by
 induction h with
 |nil=>simp
 |snoc l o hl ho ih=>
  have:=(G9 ho).room;simp;omega
theorem Rows.trans {cards:List Cd} {l:List Pn} (h:Rows cards l):∀(i:Nat) {n m:Pn} {q r:Nat},l[i]? =some n→n.ps q=true→l[q]? =some m→m.ps r=true→n.ps r=true:=by
 intro i
 induction i using Nat.strongRecOn with
 |_ i ih=>
  intro n m q r hn hq hm hr;have k:=h.ok i n hn;obtain ⟨id,hid,p,m',h1,h2,h3⟩:=(k.ps q).1 hq;refine (k.ps r).2 ⟨id,hid,p,m',h1,h2,.inr ?_⟩
  rcases h3 with rfl|h3
  ·
   rw [h2] at hm;injection hm with hm
   subst hm;exact hr
  ·
   obtain ⟨p2,hp2,e⟩:=k.par id hid;rw [h1] at e;injection e with e
   subst e;exact ih p hp2 h2 h3 hm hr
theorem Rows.node {cards:List Cd} {l:List Pn} (h:Rows cards l) {i:Nat} {n:Pn} {id:Id} (hn:l[i]? =some n):plc l id=some i↔n.id=id:=by
 constructor
 ·
  intro hp;obtain ⟨m,hm,e⟩:=Bt hp;rw [hn] at hm;injection hm with hm
  subst hm;exact e
 ·
  rintro rfl;exact (h.ok i n hn).plc
def Aj (l:List Pn) (ids:List Id):List Nat:=ids.map (fun id=>(plc l id).getD 0)
def Fi (l:List Pn):List (List Nat):=l.map (fun n=>Aj l n.o.past)
def Bn (n:Nat) (p:Nat→Bool):List Bool:=(List.range n).map p
def Da (l:List Pn):List (List Bool):=l.map (fun n=>Bn l.length n.ps)
theorem Ga (n:Nat) (p:Nat→Bool):(Bn n p).length=n:=by simp [Bn]
theorem Q5 {n:Nat} {p:Nat→Bool} {k:Nat} (h:k<n):(Bn n p)[k]? =some (p k):=by simp [Bn,h]
theorem Q6 (n:Nat) (p:Nat→Bool):Bn (n+1) p=Bn n p++[p n]:=by simp [Bn,List.range_succ]
theorem Z8 (l:List Pn):(Da l).length=l.length:=by simp [Da]
theorem Z9 {l:List Pn} {i:Nat} {n:Pn} (h:l[i]? =some n):(Fi l)[i]? =some (Aj l n.o.past):=by simp [Fi,h]
theorem Q7 {l:List Pn} {i:Nat} {n:Pn} (h:l[i]? =some n):(Da l)[i]? =some (Bn l.length n.ps):=by simp [Da,h]
theorem Ha (l:List Pn) (ids:List Id):(Aj l ids).length=ids.length:=by simp [Aj]
theorem Lm {l:List Pn} {ids:List Id} (h:∀id∈ids,∃p,plc l id=some p):∀q∈Aj l ids,q<l.length:=by
 intro q hq;obtain ⟨id,hid,rfl⟩:=List.mem_map.1 hq;obtain ⟨p,hp⟩:=h id hid;rw [hp];exact Di hp
theorem I2 {l:List Pn} {ids:List Id} (h:∀id∈ids,∃p,plc l id=some p) (q:Nat):q∈Aj l ids↔∃id∈ids,plc l id=some q:=by
 unfold Aj;rw [List.mem_map];constructor
 ·
  rintro ⟨id,hid,rfl⟩;obtain ⟨p,hp⟩:=h id hid;exact ⟨id,hid,by rw [hp];rfl⟩
 ·
  rintro ⟨id,hid,hq⟩;exact ⟨id,hid,by rw [hq];rfl⟩
theorem NOk.placed {cards:List Cd} {l:List Pn} {i:Nat} {n:Pn} (h:NOk cards l i n):∀id∈n.o.past,∃p,Oq.plc l id=some p:=fun id hid=>by
 obtain ⟨p,_,hp⟩:=h.par id hid;exact ⟨p,hp⟩
theorem Aa0 {cards:List Cd} {l:List Pn} {o:Op} (h:Rows cards l) (T:I0 cards l o):Fi (l++[Au l o])=Fi l++[Aj l o.past]:=by
 have key:∀ids:List Id,(∀id∈ids,∃p,plc l id=some p)→Aj (l++[Au l o]) ids=Aj l ids:=by
  intro ids hids;unfold Aj;refine Am7 (fun id hid=> ?_);obtain ⟨p,hp⟩:=hids id hid;rw [El _ hp,hp]
 unfold Fi;rw [List.map_append,Al8,Al9];have h1:Aj (l++[Au l o]) (Au l o).o.past=Aj l o.past:=key _ T.past;rw [h1];congr 1;refine Am7 (fun n hn=> ?_);obtain ⟨i,hi⟩:=An3 hn;exact key _ (h.ok i n hi).placed
theorem Aa1 {cards:List Cd} {l:List Pn} {o:Op} (h:Rows cards l) (T:I0 cards l o):Da (l++[Au l o])=(Da l).map (· ++[false])++[Bn l.length (Ag l o.past)++[false]]:=by
 have hn:=(Q4 h.ok T).lt;unfold Da;rw [List.map_append,Al8,Al9,List.map_map,An4,An5];congr 1
 ·
  refine Am7 (fun n hm=> ?_);obtain ⟨i,hi⟩:=An3 hm;have hil:i<l.length:=(List.getElem?_eq_some_iff.1 hi).1;show Bn (l.length+1) n.ps=Bn l.length n.ps++[false];rw [Q6]
  have:n.ps l.length=false:=by
   cases hp:n.ps l.length with
   |false=>rfl
   |true=>have:=(h.ok i n hi).lt _ hp;omega
  rw [this]
 ·
  have:(Au l o).ps l.length=false:=by
   cases hp:(Au l o).ps l.length with
   |false=>rfl
   |true=>have:=hn _ hp;omega
  rw [Q6,this];rfl
def Cu (up:List Nat) (i:Nat) (s:Nat→Bool):Nat→Bool:=fun q=>s q||(decide (q=i)&&up.contains i)
def Db (us:Nat→List Nat) (up:List Nat) (i:Nat) (s:Nat→Bool):Nat→Bool:=
 fun q=>Cu up i s q||(Cu up i s i&&(us i).contains q)
def C6 (us:Nat→List Nat) (up:List Nat):Nat→(Nat→Bool)→(Nat→Bool)
 |0,s=>s
 |i+1,s=>C6 us up i (Db us up i s)
theorem Aa2 (us:Nat→List Nat) (up:List Nat) (P:Nat→Bool) (h1:∀q∈up,P q=true) (h2:∀j,P j=true→∀q∈us j,P q=true) (h3:∀j,∀q∈us j,q<j):
  ∀(i:Nat) (s:Nat→Bool),(∀q,s q=true→P q=true)→(∀q∈up,i≤q→s q=true)→(∀j,i≤j→s j=true→∀q∈us j,s q=true)→
  (∀q,C6 us up i s q=true→P q=true)∧(∀q∈up,C6 us up i s q=true)∧(∀j,C6 us up i s j=true→∀q∈us j,C6 us up i s q=true):=by
 intro i
 induction i with
 |zero=>intro s a b c;exact ⟨a,fun q hq=>b q hq (Ak6 _),fun j=>c j (Ak6 _)⟩
 |succ i ih=>
  intro s a b c
  have hm:∀q,Cu up i s q=true↔s q=true∨(q=i∧i∈up):=by
   intro q;unfold Cu;rw [Al5,Ak7,decide_eq_true_eq,An6]
  have hs:∀q,Db us up i s q=true↔Cu up i s q=true∨(Cu up i s i=true∧q∈us i):=by
   intro q;unfold Db;rw [Al5,Ak7,An6]
  have hmP:∀q,Cu up i s q=true→P q=true:=by
   intro q hq
   rcases (hm q).1 hq with h|⟨rfl,h⟩
   · exact a q h
   · exact h1 q h
  refine ih (Db us up i s) ?_ ?_ ?_
  ·
   intro q hq
   rcases (hs q).1 hq with h|⟨h,h'⟩
   · exact hmP q h
   · exact h2 i (hmP i h) q h'
  ·
   intro q hq hiq;refine (hs q).2 (.inl ((hm q).2 ?_))
   rcases Al2 i q with h|h
   · exact .inl (b q hq h)
   ·
    have e:q=i:=by omega
    subst e;exact .inr ⟨rfl,hq⟩
  ·
   intro j hij hj q hq
   rcases Al2 i j with h|h
   ·
    have hsj:s j=true:=by
     rcases (hs j).1 hj with h'|⟨_,h'⟩
     ·
      rcases (hm j).1 h' with h''|⟨e,_⟩
      · exact h''
      · omega
     ·
      have:=h3 i j h';omega
    exact (hs q).2 (.inl ((hm q).2 (.inl (c j h hsj q hq))))
   ·
    have e:j=i:=by omega
    subst e;refine (hs q).2 (.inr ⟨?_,hq⟩)
    rcases (hs j).1 hj with h'|⟨h',_⟩
    · exact h'
    · exact h'
def Dc (l:List Pn) (i:Nat):List Nat:=match l[i]? with|some n=>Aj l n.o.past|none=>[]
theorem Ln {l:List Pn} {i:Nat} {n:Pn} (h:l[i]? =some n):Dc l i=Aj l n.o.past:=by
 unfold Dc;rw [h]
theorem Aa3 {cards:List Cd} {l:List Pn} (h:Rows cards l) {ids:List Id} (hids:∀id∈ids,∃p,plc l id=some p) (q:Nat):
  C6 (Dc l) (Aj l ids) l.length (fun _=>false) q=Ag l ids q:=by
 have hlt:∀(p:Nat) (m:Pn),l[p]? =some m→∀q,m.ps q=true→q<p:=fun p m hm=>(h.ok p m hm).lt;have hps:=Lk (ids:=ids) h.few hlt
 have hus:∀j q,q∈Dc l j→∃n,l[j]? =some n∧∃id∈n.o.past,plc l id=some q:=by
  intro j q hq
  cases hj:l[j]? with
  |none=>unfold Dc at hq;rw [hj] at hq;cases hq
  |some n=>
   rw [Ln hj,I2 (h.ok j n hj).placed] at hq;exact ⟨n,rfl,hq⟩
 have hps1:∀j n,l[j]? =some n→∀q∈Dc l j,n.ps q=true:=by
  intro j n hj q hq;obtain ⟨n',hn',id,hid,hp⟩:=hus j q hq;rw [hj] at hn';injection hn' with e
  subst e;obtain ⟨m,hm,_⟩:=Bt hp;exact ((h.ok j n hj).ps q).2 ⟨id,hid,q,m,hp,hm,.inl rfl⟩
 obtain ⟨a,b,c⟩:=Aa2 (Dc l) (Aj l ids) (Ag l ids) (by
   intro q hq;obtain ⟨id,hid,hp⟩:=(I2 hids q).1 hq;obtain ⟨m,hm,_⟩:=Bt hp;exact (hps q).2 ⟨id,hid,q,m,hp,hm,.inl rfl⟩) (by
   intro j hj q hq;obtain ⟨n,hn,_⟩:=hus j q hq;have hnq:=hps1 j n hn q hq;obtain ⟨id,hid,p,m,h1,h2,h3⟩:=(hps j).1 hj;refine (hps q).2 ⟨id,hid,p,m,h1,h2,.inr ?_⟩
   rcases h3 with rfl|h3
   ·
    rw [hn] at h2;injection h2 with e
    subst e;exact hnq
   · exact h.trans p h2 h3 hn hnq) (by
   intro j q hq;obtain ⟨n,hn,id,hid,hp⟩:=hus j q hq;obtain ⟨p,hpj,hp'⟩:=(h.ok j n hn).par id hid;rw [hp] at hp';injection hp' with e
   omega) l.length (fun _=>false) (fun q hq=>by cases hq) (fun q hq hle=>by have:=Lm hids q hq;omega) (fun j _ hj=>by cases hj)
 rw [Bool.eq_iff_iff];refine ⟨a q,fun hq=> ?_⟩;obtain ⟨id,hid,p,m,h1,h2,h3⟩:=(hps q).1 hq;have hp:=b p ((I2 hids p).2 ⟨id,hid,h1⟩)
 have down:∀(j:Nat) (n:Pn) (r:Nat),l[j]? =some n→C6 (Dc l) (Aj l ids) l.length (fun _=>false) j=true→n.ps r=true→C6 (Dc l) (Aj l ids) l.length (fun _=>false) r=true:=by
  intro j
  induction j using Nat.strongRecOn with
  |_ j ih=>
   intro n r hn hj hr;obtain ⟨id',hid',p',m',k1,k2,k3⟩:=((h.ok j n hn).ps r).1 hr;have hp':p'∈Dc l j:=by rw [Ln hn,I2 (h.ok j n hn).placed];exact ⟨id',hid',k1⟩
   have hd:=c j hj p' hp'
   rcases k3 with rfl|k3
   · exact hd
   ·
    obtain ⟨p2,hp2,e⟩:=(h.ok j n hn).par id' hid';rw [k1] at e;injection e with e
    exact ih p' (by omega) m' r k2 hd k3
 rcases h3 with rfl|h3
 · exact hp
 · exact down p m q h2 hp h3
theorem Aa4 {l:List Pn} {p:Nat→Bool} {o:Op} {k:Nat} {m:Pn} (hm:l[k]? =some m) (hb:m.o.by_=o.by_) (hp:p k=true) (hs:o.sq≤m.o.sq):Aw l p o=true:=by
 unfold Aw;rw [Al5];have hk:k<l.length:=(List.getElem?_eq_some_iff.1 hm).1;exact .inl (decide_eq_true (Al1 hs (Ll hk hm hb hp)))
theorem Aa5 {l:List Pn} {p:Nat→Bool} {o:Op} (h1:1≤o.sq) (h:∀k m,l[k]? =some m→m.o.by_=o.by_→p k=true→m.o.sq<o.sq):
  Aw l p o=!((o.sq==1)||Br l p o.by_ o.sq l.length):=by
 have hl:∀K,Bd l p o.by_ K<o.sq:=by
  intro K
  induction K with
  |zero=>exact h1
  |succ K ih=>
   unfold Bd
   split
   ·
    rename_i n hn
    split
    ·
     rename_i hc;rw [Ak7,beq_iff_eq] at hc;have:=h K n hn hc.1 hc.2;exact Int.max_lt.2 ⟨ih,this⟩
    · exact ih
   · exact ih
 unfold Aw;rw [decide_eq_false (Int.not_le.2 (hl _)),Bool.false_or]
 rcases Int.lt_or_le 1 o.sq with h2|h2
 ·
  rw [decide_eq_true h2,beq_eq_false_iff_ne.2 (fun e=>by omega)];rfl
 ·
  rw [decide_eq_false (Int.not_lt.2 h2),beq_iff_eq.2 (by omega)];rfl
theorem Aa6 {l:List Pn} {ids:List Id} (hlen:l.length≤200) {a b:Id} (ha:a∈ids) (hb:b∈ids) {p r:Nat} {m:Pn} (h1:plc l a=some p) (h2:plc l b=some r) (h3:l[p]? =some m) (h4:m.ps r=true):clash l ids=true:=by
 unfold clash;rw [Am5];have:=Di h2;refine ⟨r,List.mem_range.2 (by omega),?_⟩;rw [Ak7];exact ⟨List.any_eq_true.2 ⟨b,hb,by rw [h2];exact beq_self_eq_true _⟩,List.any_eq_true.2 ⟨a,ha,upB_iff.2 ⟨p,m,h1,h3,h4⟩⟩⟩
theorem Aa7 {l:List Pn} {ids:List Id} (h:∀a∈ids,∀b∈ids,∀p r m,plc l a=some p→plc l b=some r→l[p]? =some m→m.ps r=false):clash l ids=false:=by
 unfold clash;rw [An1];intro q _ hq;rw [Ak7] at hq;obtain ⟨b,hb,h2⟩:=List.any_eq_true.1 hq.1;obtain ⟨a,ha,h3⟩:=List.any_eq_true.1 hq.2;obtain ⟨p,m,h4,h5,h6⟩:=upB_iff.1 h3;rw [h a ha b hb p q m h4 (by simpa using h2) h5] at h6
 cases h6
theorem Aa8 {l:List Pn} {ids:List Id} {t:Int} {a:Id} (ha:a∈ids) {p:Nat} {m:Pn} (h1:plc l a=some p) (h2:l[p]? =some m) (h3:t<m.o.at_):t<late l ids:=by
 have:=Qy (l:=l) ha;rw [Fz h1 h2] at this;omega
theorem Aa9 {l:List Pn} {ids:List Id} {t:Int} (h0:0≤t) (hp:∀id∈ids,∃p,plc l id=some p) (h:∀a∈ids,∀p m,plc l a=some p→l[p]? =some m→m.o.at_≤t):¬t<late l ids:=by
 unfold late
 suffices H:∀s:Int,s≤t→ids.foldl (fun t id=>max t (Bk l id)) s≤t from Int.not_lt.2 (H 0 h0)
 induction ids with
 |nil=>intro s hs;exact hs
 |cons x r ih=>
  intro s hs;refine ih (fun id hid=>hp id (Am4 _ hid)) (fun a ha=>h a (Am4 _ ha)) _ ?_;obtain ⟨p,hpx⟩:=hp x Am3;obtain ⟨m,hm,_⟩:=Bt hpx;have:=h x Am3 p m hpx hm;exact Int.max_le.2 ⟨hs,by rw [Fz hpx hm];exact this⟩
def Qv (q:Nat):Value:=Iv (q:Int)
structure UpL where
 A:Option Addr
 c:Nat
 xs:List Nat
def UpL.cell (x:UpL):Value:=.slice x.A x.xs.length x.c
def UpL.own (w:World) (base:Nat) (x:UpL):Prop:=RowAt w base 3 1 x.A x.xs.length x.c (x.xs.map Qv)
structure InL where
 A:Option Addr
 c:Nat
 bs:List Bool
def InL.cell (x:InL):Value:=.slice x.A x.bs.length x.c
def InL.own (w:World) (base:Nat) (x:InL):Prop:=RowAt w base 4 1 x.A x.bs.length x.c (x.bs.map Value.bool)
structure RG where
 cA:Option Addr
 cC:Nat
 cards:List Cd
 lA:Option Addr
 lC:Nat
 xs:List OpL
 iA:Option Addr
 iC:Nat
 uA:Option Addr
 uC:Nat
 us:List UpL
 nA:Option Addr
 nC:Nat
 ns:List InL
 l:List Pn
def RG.ids (r:RG):List Id:=r.l.map Pn.id
def RG.cells (r:RG):Array Value:=#[.slice r.cA r.cards.length r.cC,.slice r.lA r.l.length r.lC,.slice r.iA r.l.length r.iC,.slice r.uA r.l.length r.uC,.slice r.nA r.l.length r.nC]
structure RG.own (w:World) (base:Nat) (r:RG):Prop where
 cards:RowAt w base 81 5 r.cA r.cards.length r.cC (r.cards.flatMap Cd.cells)
 ops:RowAt w base 44 27 r.lA r.l.length r.lC (r.xs.flatMap (fun x=>x.cells.toList))
 each:∀x∈r.xs,x.own w base
 same:r.xs.map OpL.op=r.l.map Pn.o
 ok:∀n∈r.l,n.o.ok∧n.id.ok
 ids:RowAt w base 38 3 r.iA r.l.length r.iC (r.ids.flatMap Id.cells)
 ups:RowAt w base 22 1 r.uA r.l.length r.uC (r.us.map UpL.cell)
 eachU:∀x∈r.us,x.own w base
 sameU:r.us.map UpL.xs=Fi r.l
 ins:RowAt w base 112 1 r.nA r.l.length r.nC (r.ns.map InL.cell)
 eachN:∀x∈r.ns,x.own w base
 sameN:r.ns.map InL.bs=Da r.l
 rows:Rows r.cards r.l
 cfew:r.cards.length≤1000
 cok:∀c∈r.cards,c.s<18446744073709551616
theorem RG.own.keepP {S:Nat→Prop} {P:TypeId→Prop} {w w':World} {base:Nat} {r:RG} (h:r.own w base) (hf:Fr S w w') (hS:Types S w P) (h1:¬P 38) (h2:¬P 103) (h3:¬P 144) (h4:¬P 5) (h5:¬P 23) (h6:¬P 3) (h7:¬P 106)
  (h8:¬P 81) (h9:¬P 44) (h10:¬P 22) (h11:¬P 112) (h12:¬P 4):r.own w' base where
 cards:=h.cards.keepT hf (hS.not h8)
 ops:=h.ops.keepT hf (hS.not h9)
 each x hx:=(h.each x hx).keepP hf hS h1 h2 h3 h4 h5 h6 h7
 same:=h.same
 ok:=h.ok
 ids:=h.ids.keepT hf (hS.not h1)
 ups:=h.ups.keepT hf (hS.not h10)
 eachU x hx:=RowAt.keepT (h.eachU x hx) hf (hS.not h6)
 sameU:=h.sameU
 ins:=h.ins.keepT hf (hS.not h11)
 eachN x hx:=RowAt.keepT (h.eachN x hx) hf (hS.not h12)
 sameN:=h.sameN
 rows:=h.rows
 cfew:=h.cfew
 cok:=h.cok
theorem RG.own.non {w w':World} {base:Nat} {r:RG} (h:r.own w base) (hf:Fr Non w w'):r.own w' base:=
 h.keepP (P:=fun _=>False) hf (fun _ _ _ _ _ e=>e.elim) zq zq zq zq zq zq zq zq zq zq zq zq
theorem RG.own.few {w:World} {base:Nat} {r:RG} (h:r.own w base):r.l.length≤200:=h.rows.few
theorem RG.own.rdIds {w:World} {base:Nat} {r:RG} (h:r.own w base):Rd w w.heap.size 3 r.iA r.l.length (r.ids.flatMap Id.cells):=h.ids.sl.rd
theorem RG.own.xAt {w:World} {base:Nat} {r:RG} (h:r.own w base) {i:Nat} {n:Pn} (hi:r.l[i]? =some n):
  ∃(x:OpL) (b off:Nat),r.xs[i]? =some x∧x.op=n.o∧x.own w base∧r.lA=some ⟨b,off,none⟩∧b<w.heap.size∧∀j,j<27→∀u,x.cells.toList[j]? =some u→w.cell? ⟨b,off+i*27+j,none⟩=some u:=by
 have hm:(r.xs.map OpL.op)[i]? =some n.o:=by rw [h.same,Al0,hi];rfl
 rw [Al0] at hm
 cases hx:r.xs[i]? with
 |none=>rw [hx] at hm;cases hm
 |some x=>
  rw [hx] at hm;injection hm with hm
  obtain ⟨b,off,h1,h2,h3⟩:=Dw (f:=fun x:OpL=>x.cells.toList) (fun _=>rfl) (by omega) h.ops.sl.rd hx;exact ⟨x,b,off,rfl,hm,h.each x (Al7 hx),h1,h2,h3⟩
theorem RG.own.uAt {w:World} {base:Nat} {r:RG} (h:r.own w base) {i:Nat} {n:Pn} (hi:r.l[i]? =some n):
  ∃(x:UpL) (b off:Nat),x.xs=Aj r.l n.o.past∧x.own w base∧r.uA=some ⟨b,off,none⟩∧b<w.heap.size∧w.cell? ⟨b,off+i,none⟩=some x.cell:=by
 have hm:(r.us.map UpL.xs)[i]? =some (Aj r.l n.o.past):=by rw [h.sameU];exact Z9 hi
 rw [Al0] at hm
 cases hx:r.us[i]? with
 |none=>rw [hx] at hm;cases hm
 |some x=>
  rw [hx] at hm;injection hm with hm
  obtain ⟨b,off,u,h1,h2,h3,h4⟩:=h.ups.sl.rd.at (List.getElem?_eq_some_iff.1 hi).1;rw [Al0,hx] at h3;injection h3 with h3
  subst h3;exact ⟨x,b,off,hm,h.eachU x (Al7 hx),h1,h2,h4⟩
theorem RG.own.nAt {w:World} {base:Nat} {r:RG} (h:r.own w base) {i:Nat} {n:Pn} (hi:r.l[i]? =some n):
  ∃(x:InL) (b off:Nat),x.bs=Bn r.l.length n.ps∧x.own w base∧r.nA=some ⟨b,off,none⟩∧b<w.heap.size∧w.cell? ⟨b,off+i,none⟩=some x.cell:=by
 have hm:(r.ns.map InL.bs)[i]? =some (Bn r.l.length n.ps):=by rw [h.sameN];exact Q7 hi
 rw [Al0] at hm
 cases hx:r.ns[i]? with
 |none=>rw [hx] at hm;cases hm
 |some x=>
  rw [hx] at hm;injection hm with hm
  obtain ⟨b,off,u,h1,h2,h3,h4⟩:=h.ins.sl.rd.at (List.getElem?_eq_some_iff.1 hi).1;rw [Al0,hx] at h3;injection h3 with h3
  subst h3;exact ⟨x,b,off,hm,h.eachN x (Al7 hx),h1,h2,h4⟩
def Aq (l:List Pn) (id:Id):Int:=match plc l id with|some i=>(i:Int)|none=> -1
theorem Ab0 {l:List Pn} {id:Id} {i:Nat} (h:plc l id=some i):Aq l id=(i:Int):=by unfold Aq;rw [h]
theorem Ab1 {l:List Pn} {id:Id} (h:plc l id=none):Aq l id= -1:=by unfold Aq;rw [h]
end Oq
end
section
open Go.RowKit
attribute [local go_sem ↓] Go.wp_at_zero Go.wp_at_succ
namespace Oq
attribute [local go_sem ↓] Ch Eg
attribute [local go_sem] Bool.not_false Bool.not_true
theorem Rows.step {cards:List Cd} {l:List Pn} (h:Rows cards l) {i:Nat} {n:Pn} (hi:l[i]? =some n):Ai cards (l.take i) n.o=0∧Au (l.take i) n.o=n:=by
 induction h with
 |nil=>simp at hi
 |snoc l o hl ho ih=>
  rcases Al2 i l.length with hlt|hge
  ·
   rw [Ak9 hlt] at hi;rw [List.take_append_of_le_length (Am0 hlt)];exact ih hi
  ·
   have e:i=l.length:=by
    have:=(List.getElem?_eq_some_iff.1 hi).1;rw [An4,An5] at this;omega
   subst e;rw [An2 (Am8 _),Nat.sub_self] at hi;injection hi with hi
   subst hi;rw [List.take_left']
   · exact ⟨ho,rfl⟩
   · rfl
def Lo (cards:List Cd) (l:List Pn) (w:World) (e:Ending) (w':World):Prop:=
 ∃(g:Gph) (base:Nat),e=.returned (.pointer (some ⟨g.gb,0,none⟩))∧w.heap.size≤base∧GAt w' base g∧g.cards=cards∧g.pns=l∧Fr Non w w'
theorem J6 (base:Nat) (r:RG) (w:World) (h:r.own w base) (hcs:r.cards=Bc 0 [1,2,3,1]) (hpos:0<w.heap.size) (hk:KindsAt w):
  Calls Tryz.prog 13 #[.agg r.cells] w (Lo r.cards r.l w):=by
 have hi:(Tryz.prog.info? 44).map (·.size)=some 27:=by kernel_rfl
 have ap:=h.few;have ar:r.cards.length=4:=by rw [hcs,Ke];rfl
 have aj:=h.cards.sl.rd;rw [ar,hcs] at aj;have bg:=Blk.new w 32 r.cells;have f0:Fr Non w (w.alloc (.cells r.cells 32)):=(Fr.refl Non w).alloc _;have c0:(w.alloc (.cells r.cells 32)).cell? ⟨w.heap.size,0,none⟩=some (.slice r.cA 4 r.cC):=by rw [← ar];exact bg.cell 0
 have c1:(w.alloc (.cells r.cells 32)).cell? ⟨w.heap.size,1,none⟩=some (.slice r.lA r.l.length r.lC):=bg.cell 1;have kn:=Lib.hid (fun (w':World) (hf:Fr Non w w')=>Li w.heap.size 4 r.cC r.cA [1,2,3,1] w' rfl (by decide) (aj.fr hf zr) (Nat.lt_of_lt_of_le hpos hf.size))
 have ka:=Lib.hid (fun (j:Nat) (nd:Pn) (hj:r.l[j]? =some nd) (b:Nat) (q:Gph) (w':World) (hb:w.heap.size≤b) (hq:GAt w' b q) (ab:q.cards=r.cards) (ad:q.pns=r.l.take j) (hf:Fr Non w w')=>show ∃x:OpL,∃b' ac:Nat,r.lA=some ⟨b',ac,none⟩∧World.rangeAt w' b' (ac+j*27) x.cells.toList∧x.cells.size=27∧
   Calls Tryz.prog 17 #[.pointer (some ⟨q.gb,0,none⟩),.agg x.cells] w' (Hz b q (r.l.take (j+1)) w') from by
  obtain ⟨x,b',ac,_,av,a6,hA,_,hc⟩:=h.xAt hj;obtain ⟨s1,s2⟩:=h.rows.step hj;refine ⟨x,b',ac,hA,fun k v hv=>hf.cell (hc k (List.getElem?_eq_some_iff.1 hv).1 v hv) zq,rfl,?_⟩;rw [Dz hj];exact G8 ad hq (a6.non hf).at (by rw [av];exact (h.ok nd (Al7 hj)).1) (hk.fr hf) (by rw [ab,av];exact s1) (by rw [av];exact s2))
 have af:=Lib.hid hcs;clear h hk aj bg hcs ar;have ag:Hid (∀(g:Gph) (b:Nat) (w':World),w.heap.size≤b→GAt w' b g→g.cards=r.cards→g.pns=r.l→Fr Non w w'→Lo r.cards r.l w (.returned (.pointer (some ⟨g.gb,0,none⟩))) w'):=fun g b w' h1 h2 h3 h4 h5=>⟨g,b,rfl,h1,h2,h3,h4,h5⟩;obtain ⟨N,hN⟩:=Aa r.l.length;rw [hN.out] at c1 ap;generalize Lo r.cards r.l w=POST at*;generalize r.cells=CS at*;generalize r.cards=CDS at*;generalize r.lA=LA at*;generalize r.lC=LC at*;generalize r.cA=CA at*;generalize r.cC=CC at*;generalize r.l=l at*;go_enter Tryz.func13,Tryz.ntmps13;go_upto_region 1 with (fail)
 have a8:w.heap.size+1≤(w.alloc (.cells CS 32)).heap.size:=by rw [Am2];exact Am8 _
 generalize w.alloc (.cells CS 32)=w0 at*;go_upto_region 2 with (go_at_call 23;(with_reducible refine (kn.out _ f0).mono ?_);rintro _ w2 ⟨g,rfl,hg,a3,az,f2⟩)
 have ay:=f0.trans f2 zr;replace c1:=f2.cell c1 zq;have a2:Hid (g.pns=l.take 0):=by show _=_;unfold Gph.pns;rw [a3];rfl
 have ah:Hid (g.cards=CDS):=az.trans af.out.symm;obtain ⟨gb,aq⟩:=Aa g.gb;rw [aq.out];obtain ⟨b,aw⟩:=Aa w0.heap.size;rw [aw.out] at hg a8;clear kn a3 az c0 f2 f0 af aw;go_wp2_with (fail)
 go_loopw [4] (fun v wr=>∃(j:Nat) (q:Gph),v=.int .i64 (j:Int)∧j≤N∧Hid (GAt wr b q)∧Hid (q.gb=gb)∧Hid (q.cards=CDS)∧Hid (q.pns=l.take j)∧wr.cell? ⟨w.heap.size,1,none⟩=some (.slice LA N LC)∧Fr Non w wr) (fun v _=>N-(intOf v).toNat)
 case atStart=>exact ⟨0,g,rfl,Ak6 _,hg,aq.out,ah.out,a2.out,c1,ay⟩
 case round=>
  clear hg aq ah a2 c1 ay;obtain ⟨j,q,rfl,hj,hq,ai,ab,ad,c1,hf⟩:=hrel
  by_cases hlt:j<N
  ·
   obtain ⟨nd,a0⟩:∃nd,l[j]? =some nd:=⟨_,Al6 (by rw [hN.out];exact hlt)⟩;obtain ⟨x,bx,ac,rfl,ax,a1,aa⟩:=ka.out j nd a0 b q wr (by omega) hq.out ab.out ad.out hf;rw [ai.out] at aa;replace aa:=Lib.hid aa;have i1:(0:Int)≤j:=by omega
   have i2:(j:Int)<N:=by omega
   have i3:(j:Int).toNat=j:=by omega
   have a4:=Gu (P:=Tryz.prog) x.cells bx (ac+j*27) Tryz.underlying44 rfl (by rw [a1];exact hi);have ak:=a4 wr ax;clear a4 a1 ka a0;generalize x.cells=XC at*;go_upto_region 6 with (go_at_call 17;(with_reducible refine (aa.out).mono ?_);rintro _ w5 ⟨rfl,q2,a7,au,al,ao,F5⟩)
   have c5:=F5.cell c1 (fun e=>by have h1:b≤w.heap.size:=hq.out.ge e;omega);have a5:=hf.trans F5 (fun k hk e=>by have h1:=hq.out.ge e;omega);have e1:Hid (q2.gb=gb):=au.trans ai.out;have e2:Hid (q2.cards=CDS):=al.trans ab.out;clear ax ak aa hq ai ab ad F5 hf c1;go_wp2_with (fail);go_roundw
   case rel=>exact ⟨j+1,q2,by go_num,by omega,a7,e1.out,e2.out,ao,c5,a5⟩
   case measure=>simp [intOf];omega
  ·
   obtain rfl:j=N:=by omega
   have ae:q.pns=l:=by rw [ad.out,List.take_of_length_le (by rw [hN.out];exact Am8 _)]
   have hd:=Lib.hid (ag.out q b wr (by omega) hq.out ab.out ae hf);rw [ai.out] at hd;have t1:decide ((j:Int)<(j:Int))=false:=decide_eq_false (by omega);clear ag ka hq ab ad ae;go_wp2_with (fail);exact hd.out
end Oq
end
section
open Go.RowKit
namespace Oq
theorem RowAt.lt {w:World} {base size n c:Nat} {t:TypeId} {A:Option Addr} {xs:List Value} (h:RowAt w base t size A n c xs) (h0:n≠0) {k:Nat} (hk:Ab A=some k):base≤k∧k<w.heap.size:=by
 rcases h.2 with h1|⟨k',cs,fr,e,hb,hh,_⟩
 · exact absurd h1 h0
 ·
  subst e;have e':k'=k:=by have h2:some k'=some k:=hk;exact Option.some.inj h2
  subst e';exact ⟨hb,(Array.getElem?_eq_some_iff.1 hh).1⟩
theorem RowAt.over {S:Nat→Prop} {w w':World} {base size n c:Nat} {t:TypeId} {A:Option Addr} {xs:List Value} (h:RowAt w base t size A n c xs) (hf:Fr S w w') (hS:∀k,base≤k→¬S k):RowAt w' base t size A n c xs:=
 h.fr hf (fun h0 k hk=>hS k (h.lt h0 hk).1)
theorem OpL.own.over {S:Nat→Prop} {w w':World} {base:Nat} {x:OpL} (h:x.own w base) (hf:Fr S w w') (hS:∀k,base≤k→¬S k):x.own w' base where
 past:=h.past.over hf hS
 path:=h.path.over hf hS
 nodes y hy:=(h.nodes y hy).over hf hS
 body:=h.body.over hf hS
 refs:=h.refs.over hf hS
 guards:=h.guards.over hf hS
 boxes:=h.boxes.over hf hS
 hist:=h.hist.over hf hS
 seals y hy:=(h.seals y hy).over hf hS
theorem GAt.over {S:Nat→Prop} {w w':World} {base:Nat} {g:Gph} (h:GAt w base g) (hf:Fr S w w') (hS:∀k,base≤k→¬S k):GAt w' base g where
 blk:=h.blk.fr hf (hS _ h.gbase)
 pos:=h.pos
 gbase:=h.gbase
 mbase:=h.mbase
 crow:=h.crow.fr hf (fun k hk=>hS k (h.crow.row k hk).1)
 own:=h.own.fr hf (fun k hk=>hS k (h.own.row k hk).1)
 few:=h.few
 mfew:=h.mfew
 levs:=h.levs
 cfew:=h.cfew
 cok:=h.cok
 map:=h.map.fr hf (hS _ h.mbase)
 node:=fun n hn=>by
  have k:=h.node n hn;exact ⟨k.own.over hf hS,k.ok,k.id,k.set⟩
def Ity (t:TypeId):Prop:=t=38
theorem GAt.keepId {S:Nat→Prop} {w w':World} {base:Nat} {g:Gph} (h:GAt w base g) (hf:Fr S w w') (hb:∀k,S k→∃cs fr,w.heap[k]? =some (.cells cs 38 fr))
  (hp:∀n∈g.nodes,n.x.past.length≠0→∀k,Ab n.x.pastA=some k→¬S k):GAt w' base g:=by
 have hT:Types S w Ity:=fun k cs t fr hk e=>by
  obtain ⟨cs',fr',hb'⟩:=hb k e;rw [hk] at hb';injection hb' with e1
  injection e1 with _ e2
 refine ⟨h.blk.fr hf (fun e=> ?_),h.pos,h.gbase,h.mbase,h.crow.keepT hf hT (by unfold Ity;decide),h.own.keepT hf hT (by unfold Ity;decide),h.few,h.mfew,h.levs,h.cfew,h.cok,h.map.fr hf (fun e=> ?_),fun n hn=> ?_⟩
 ·
  have h1:Ity 123:=hT _ _ _ _ h.blk e;exact absurd h1 (by unfold Ity;decide)
 ·
  obtain ⟨cs,fr,hb'⟩:=hb _ e;exact h.map.ismap _ _ _ hb'
 ·
  have k:=h.node n hn;have n1:=hT.not (t:=103) (by unfold Ity;decide);have n2:=hT.not (t:=144) (by unfold Ity;decide);have n3:=hT.not (t:=5) (by unfold Ity;decide);have n4:=hT.not (t:=23) (by unfold Ity;decide);have n5:=hT.not (t:=3) (by unfold Ity;decide);have n6:=hT.not (t:=106) (by unfold Ity;decide);exact ⟨⟨k.own.past.fr hf (hp n hn),k.own.path.keepT hf n1,fun y hy=>(k.own.nodes y hy).keepT hf n2,k.own.body.keepT hf n3,k.own.refs.keepT hf n4,k.own.guards.keepT hf n5,k.own.boxes.keepT hf n2,k.own.hist.keepT hf n6,fun y hy=>(k.own.seals y hy).keepT hf n3⟩,k.ok,k.id,k.set⟩
def OpL.moved (x:OpL) (A:Option Addr) (c:Nat):OpL:={x with pastA:=A,pastC:=c}
theorem OpL.moved_cells (x:OpL) (A:Option Addr) (c:Nat):(x.moved A c).cells=x.cells.setIfInBounds 4 (.slice A x.past.length c):=rfl
theorem OpL.moved_op (x:OpL) (A:Option Addr) (c:Nat):(x.moved A c).op=x.op:=rfl
theorem OpL.moved_own {w:World} {base base2:Nat} {x:OpL} {A:Option Addr} {c:Nat} (h:x.own w base) (ho:Own w base2 38 3 A x.past.length c (x.past.flatMap Id.cells)) (hb:base≤base2):(x.moved A c).own w base where
 past:=(RowAt.of_own ho).lower hb
 path:=h.path
 nodes:=h.nodes
 body:=h.body
 refs:=h.refs
 guards:=h.guards
 boxes:=h.boxes
 hist:=h.hist
 seals:=h.seals
theorem Q8 (x:Cd) (w:World):(Op.equalIn 10000 81 (.agg #[.int .i64 x.d,.int .i64 x.m,.int .u64 (x.l:Int),.int .u64 (x.k:Int),.int .u64 (x.s:Int)]) (.agg #[.int .i64 x.d,.int .i64 x.m,.int .u64 (x.l:Int),.int .u64 (x.k:Int),.int .u64 (x.s:Int)])).run Tryz.prog w=.ok true w:=by
 have hS:Tryz.prog.underlying 81=some (.struct (Tryz.prog.fieldsOf 81)):=by kernel_rfl
 have hp:Tryz.prog.stoodInHeld 81=false:=by kernel_rfl
 rw [show (10000:Nat)=9999+1 from rfl,run_equalIn_agg w 9999 81 _ _ hS hp];simp only [Program.fieldsOf,Tryz.underlying81];go_simp
theorem Ab2 (p v:Value):Instr.storeAt 81 p v=stS 81 p v:=rfl
def RgAt (w:World) (b o:Nat) (l:List Value):Prop:=World.rangeAt w b o l
theorem RgAt.fr {S:Nat→Prop} {w w':World} {b o:Nat} {l:List Value} (h:RgAt w b o l) (hf:Fr S w w') (hb:¬S b):RgAt w' b o l:=fun k v hv=>hf.cell (h k v hv) hb
theorem Q9:Tryz.prog.eqGuardType Tryz.prog.depth 81=false:=by kernel_rfl
theorem Ab3:(Bc 0 [1,2,3,1]).find? (fun c=>c.d==1)=some (Bb 0 1):=by
 show List.find? _ [Bb 0 1,Bb 1 2,Bb 2 3,Bb 3 1]=_;rw [List.find?_cons_of_pos];rw [Eb]
 decide
theorem Ab4:(Bc 0 [1,2,3,1]).find? (fun c=>c.d==9)=none:=by
 show List.find? _ [Bb 0 1,Bb 1 2,Bb 2 3,Bb 3 1]=_;rw [List.find?_eq_none];intro x hx
 rcases List.mem_cons.1 hx with rfl|hx
 · rw [Eb];decide
 rcases List.mem_cons.1 hx with rfl|hx
 · rw [Eb];decide
 rcases List.mem_cons.1 hx with rfl|hx
 · rw [Eb];decide
 rcases List.mem_cons.1 hx with rfl|hx
 · rw [Eb];decide
 · cases hx
end Oq
end
end Go.Proofs.YtafonabghnogaaaGreatDoor
