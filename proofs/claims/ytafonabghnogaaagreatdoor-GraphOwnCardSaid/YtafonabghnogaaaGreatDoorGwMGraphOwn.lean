/-
  huddlelaw12.GraphOwn: what was handed in, and what is told, is the caller's.
    Conditions: op.kinds lies as its text lays it; the numbers read.
  GraphOwn: whatever the input is, where the one listed variable is as its text lays it, the law returns true, and nothing that was there has turned.
    Condition: none.
  GraphOwn: the tied card.
    Condition: none.
-/
import Derived.ChangeVars
import Derived.JoinedOf
import Derived.RowKitTokens
import Derived.LaidLaws
import Derived.Test.YtafonabghnogaaaGreatDoorTie
import Derived.Test.YtafonabghnogaaaGreatDoorCards
import Derived.SevenTiedAt
import Derived.Test.YtafonabghnogaaaGreatDoorGwM1
import Derived.Test.YtafonabghnogaaaGreatDoorGwM4
import Derived.Test.YtafonabghnogaaaGreatDoorGwM13
import Derived.Test.YtafonabghnogaaaGreatDoorGwM14
import Derived.Test.YtafonabghnogaaaGreatDoorGwM16
import Derived.Test.YtafonabghnogaaaGreatDoorGwM17
import Derived.Test.YtafonabghnogaaaGreatDoorGwM18
set_option maxRecDepth 100000
set_option maxHeartbeats 16000000
open List renaming getElem?_eq_getElem→Ak6,mem_of_getElem?→Al0,getElem?_take_of_lt→Al1
open Nat renaming le_refl→Ak7,zero_le→Ak9
open Go.World renaming size_alloc→Ak8
namespace Go.Proofs.YtafonabghnogaaaGreatDoor
section
open Go.RowKit
attribute [local go_sem ↓] Go.wp_at_zero Go.wp_at_succ
namespace Oq
attribute [local go_sem ↓] Ch Eg
attribute [local go_sem] Bool.not_false Bool.not_true
attribute [local go_sem ↓] E6 Lw Q8 Ab2
theorem graphOwn_law (A:Option Addr) (c:Nat) (l0:List Int) (w:World) (hk:KindsAt w)
  (hr:Rd w w.heap.size 1 A l0.length (l0.map Iv)) (hnc:l0.length≤c) (hnm:c≤9223372036854775807) (hok:∀x∈l0,I64 x):
  Calls Tryz.prog 9 #[.slice A l0.length c] w (Ae true w):=by
 have hi:(Tryz.prog.info? 44).map (·.size)=some OpL.zero.cells.size:=by rw [show OpL.zero.cells.size=27 from rfl];kernel_rfl
 have a5:(Tryz.prog.info? 44).map (·.size)=some 27:=by kernel_rfl
 have b6:0<w.heap.size:=World.block_lt_of_cell? w _ (hk 0 (by decide));have km:=Lib.hid (Aj3 w.heap.size l0.length c A l0 w rfl hr hnc hnm hok);have b7:=fun (w':World) (hf:Fr Non w w')=>Ak3 w' (hk.fr hf);unfold Ae at b7;replace b7:=Lib.hid b7;have b3:Hid (∀wz,Fr Non w wz→Ae true w (.returned (.bool true)) wz):=fun wz h=>⟨rfl,h⟩;generalize Ae true w=POST at*;obtain ⟨nl,gm⟩:=Aa l0.length;rw [gm.out] at km ⊢;clear hr hnc hnm hok gm;go_enter Tryz.func9,Tryz.ntmps9;go_upto_region 2 with (first|(go_at_call 12;(with_reducible refine (km.out).mono ?_);rintro _ w1 ⟨r,rfl,f1,ro,ce,_,gn⟩;have bn:=Blk.new w1 32 zG;have he:=Cf (P:=Tryz.prog) w1.heap.size 32 (cs:=r.cells) Dl (old:=zG) rfl (Ee r)))
 have bG:Blk ((w1.alloc (.cells zG 32)).setRow w1.heap.size r.cells) w1.heap.size 32 r.cells:=bn.setRow (cs:=r.cells);have fG:Fr Non w1 ((w1.alloc (.cells zG 32)).setRow w1.heap.size r.cells):=((Fr.refl Non w1).alloc _).setRow (fun hh=>absurd hh (by omega)) _;have da:=ro.non fG;have db:=f1.trans fG zr;obtain ⟨gv,gr⟩:=Aa w1.heap.size;rw [gr.out] at bG da db ⊢;clear he bn ro fG f1 km gr;generalize (w1.alloc (.cells zG 32)).setRow gv r.cells=w2 at*;have cj:r.cards.length=4:=by rw [ce,Ke];rfl
 have de:=da.cards.sl.rd;rw [cj] at de;have c0:w2.cell? ⟨gv,0,none⟩=some (.slice r.cA 4 r.cC):=by rw [← cj];exact bG.cell 0
 have h9:(w2.alloc (.cells #[] 81)).cell? ⟨gv,0,none⟩=some (.slice r.cA 4 r.cC):=((Fr.refl Non w2).alloc (.cells #[] 81)).cell c0 zq;have b5:=Own.empty w2 81 5;go_upto_region 3 with (first|(at_builtin;go_loud (refine Ay (base:=w2.heap.size) (.tmp 23) (.tmp 25) 26 rfl rfl rfl rfl Kf b5 (de.alloc (.cells #[] 81)) (Le _) (by omega) (by omega) (by rw [Ak8];omega) ?_);intro Ac cc w3 ap fv et))
 rw [Nat.zero_add,List.nil_append] at ap;have bw:Fr Non w2 w3:=((Fr.refl Non w2).alloc (.cells #[] 81)).trans fv (fun j hj e=>by have e':w2.heap.size=j:=Option.some.inj e;omega);have c4:=db.trans bw zr;have c5:=bG.fr bw zq;have bq:=da.non bw;have eg:=ap.rd;rw [ce] at eg;have ez:∀k,Ab Ac=some k→w.heap.size≤k∧k<w3.heap.size:=fun k hk=>by have h1:=ap.row k hk;have h2:=db.size;omega
 have kn:=Lib.hid (Li w3.heap.size 4 cc Ac [1,2,3,1] w3 rfl (by decide) eg (Nat.lt_of_lt_of_le b6 c4.size));have a9:=de.fr bw zr;have ib:gv<w2.heap.size:=bG.lt;clear fv et b5 de c0 h9 bG da db bw eg;go_upto_region 4 with (go_at_call 23;(with_reducible refine (kn.out).mono ?_);rintro _ w4 ⟨h,rfl,hh,f7,gc,f4⟩)
 obtain ⟨hb,dy⟩:=Aa h.gb;rw [dy.out];obtain ⟨b,d8⟩:=Aa w3.heap.size;rw [d8.out] at hh;have k3:=hk.fr c4;have q0:w3.cell? ⟨gv,0,none⟩=some (.slice r.cA 4 r.cC):=by rw [← cj];exact c5.cell 0
 have q1:w3.cell? ⟨gv,1,none⟩=some (.slice r.lA r.l.length r.lC):=c5.cell 1;have q2:w3.cell? ⟨gv,2,none⟩=some (.slice r.iA r.l.length r.iC):=c5.cell 2
 have ej:=Lib.hid (fun (i:Nat) (nd:Pn) (hi:r.l[i]? =some nd)=>show ∃(x:OpL) (bx ox:Nat),x.op=nd.o∧x.op.ok∧x.own w3 w.heap.size∧r.lA=some ⟨bx,ox,none⟩∧World.rangeAt w3 bx (ox+i*27) x.cells.toList from by
  obtain ⟨x,bx,ox,_,h1,h2,h3,_,h4⟩:=bq.xAt hi;exact ⟨x,bx,ox,h1,by rw [h1];exact (bq.ok nd (Al0 hi)).1,h2,h3,fun k v hv=>h4 k (List.getElem?_eq_some_iff.1 hv).1 v hv⟩)
 have be:=Lib.hid (fun (p:Nat) (hp:p<r.l.length)=>bq.idAt hp);have a4:Hid (∀n∈r.l,n.id.ok):=fun n hn=>(bq.ok n hn).2;have au:=bq.rows;have b8:Hid (h.cards=r.cards):=gc.trans ce.symm;have fz:Hid (h.pns=r.l.take 0):=by show _=_;unfold Gph.pns;rw [f7];rfl
 have ei:Hid (r.cards.find? (fun c=>c.d==1)=r.cards[0]? ∧r.cards.find? (fun c=>c.d==9)=none):=by
  rw [ce];exact ⟨Ab3,Ab4⟩
 clear kn c5 bq hk f7 gc ce b6;generalize r.cards=CD at*;generalize r.lA=LA at*;generalize r.lC=LC at*;generalize r.iA=IA at*;generalize r.iC=IC at*;generalize r.cA=CA at*;generalize r.cC=CC at*;generalize r.l=l at*;obtain ⟨N,hN⟩:=Aa l.length;rw [hN.out] at q1 q2 gn be;go_wp2_with (fail)
 go_loopw [6] (fun v wr=>∃(i:Nat) (q:Gph),v=.int .i64 (i:Int)∧i≤N∧Hid (GAt wr b q)∧Hid (q.gb=hb)∧Hid (q.cards=CD)∧Hid (q.pns=l.take i)∧Fr Non w3 wr) (fun v _=>N-(intOf v).toNat)
 case atStart=>exact ⟨0,h,rfl,Ak9 _,hh,dy.out,b8.out,fz.out,f4⟩
 case round=>
 clear hh dy b8 fz f4;obtain ⟨i,q,rfl,im,hq,a7,bh,bs,hf⟩:=hrel;have c1:=hf.cell q1 zq
 by_cases hlt:i<N
 case pos=>
  clear b3 b7 ap a9 ez;obtain ⟨nd,cm⟩:∃nd,l[i]? =some nd:=⟨_,Ak6 (by rw [hN.out];exact hlt)⟩;obtain ⟨x,bx,ox,a1,em,xo,rfl,dz⟩:=ej.out i nd cm;have ew:World.rangeAt wr bx (ox+i*27) x.cells.toList:=fun k v hv=>hf.cell (dz k v hv) zq;have d6:=Gu (P:=Tryz.prog) x.cells bx (ox+i*27) Tryz.underlying44 rfl a5;have ch:=d6 wr ew;have i1:(0:Int)≤i:=by omega
  have i2:(i:Int)<N:=by omega
  have i3:(i:Int).toNat=i:=by omega
  have bz:=Blk.new wr 44 OpL.zero.cells;have aa:=Cb x;have av:OpL.zero.cells.size=x.cells.size:=rfl;have bv:(Tryz.prog.info? 44).map (·.size)=some x.cells.size:=hi;obtain ⟨n,hn⟩:=Aa x.past.length;have e4:x.cells[4]? =some (.slice x.pastA x.past.length x.pastC):=rfl;rw [hn.out] at e4;have gj:∀A' c',(x.moved A' c').cells=x.cells.setIfInBounds 4 (.slice A' n c'):=fun A' c'=>by rw [x.moved_cells,hn.out]
  obtain ⟨XC,eb⟩:=Aa x.cells;rw [eb.out] at ew d6 ch aa av bv e4;go_upto_region 10 with (refine Gp rfl 44 (.tmp 7) (.tmp 42) rfl rfl rfl rfl bz bv av aa ?_;intro wa cz gp hy)
  have fa:Fr Non wr wa:=((Fr.refl Non wr).alloc (.cells OpL.zero.cells 44)).trans gp (fun k hk e=>by have e':k=wr.heap.size:=e;omega);have gg:=hf.trans fa zr;obtain ⟨go,b9⟩:=Aa wr.heap.size;rw [b9.out] at cz ⊢;clear d6 ch ew bz gp hy aa av;have hnm:n≤1000:=by rw [← hn.out];exact em.past.1
  have d3:=(xo.non gg).past.sl.rd;rw [hn.out] at d3;have cf:=Own.empty wa 38 3;have fA:Fr Non wa (wa.alloc (.cells #[] 38)):=(Fr.refl Non wa).alloc _;have p4:(wa.alloc (.cells #[] 38)).cell? ⟨go,4,none⟩=some (.slice x.pastA n x.pastC):=fA.cell ((cz.cell 4).trans e4) zq;go_upto_region 11 with (first|(at_builtin;go_loud (refine Ay (base:=wa.heap.size) (.tmp 43) (.tmp 45) 28 rfl rfl rfl rfl Cz cf (d3.alloc (.cells #[] 38)) (Id.cells_one _) (by omega) (by omega) (by rw [Ak8];omega) ?_);intro Ap cp wb ay f6 cd;rw [Nat.zero_add,List.nil_append] at ay;have c7:Fr Non wa wb:=fA.trans f6 (fun j hj e=>by have e':wa.heap.size=j:=Option.some.inj e;omega);have b4:=cz.fr c7 zq;have p5:wb.cell? ⟨go,4,none⟩=some (.slice x.pastA n x.pastC):=(b4.cell 4).trans e4;have z5:=b4.frozen 4))
  have dh:∀k,Ab Ap=some k→wa.heap.size≤k:=fun k hk=>by
   rcases cd with e|e
   · rw [e] at hk;have e':wa.heap.size=k:=Option.some.inj hk;omega
   · rw [e] at hk;have e':(wa.alloc (.cells #[] 38)).heap.size=k:=Option.some.inj hk;rw [Ak8] at e';omega
  have dw:go<wa.heap.size:=cz.lt
  have bc:Blk (wb.setCell ⟨go,4,none⟩ (.slice Ap n cp)) go 44 (x.moved Ap cp).cells:=by
   rw [gj,eb.out];exact b4.set 4 _
  have a2:Own (wb.setCell ⟨go,4,none⟩ (.slice Ap n cp)) wa.heap.size 38 3 Ap n cp (x.past.flatMap Id.cells):=ay.setOne (ay.ne b4 (by decide));have fk:Fr Non wr (wb.setCell ⟨go,4,none⟩ (.slice Ap n cp)):=(fa.trans c7 zr).setNew (by rw [← b9.out];exact Ak7 _) 4 _;have ip:(wb.setCell ⟨go,4,none⟩ (.slice Ap n cp)).heap.size=wb.heap.size:=by simp [World.setCell]
  have ht:wa.heap.size≤wb.heap.size:=c7.size;generalize wb.setCell ⟨go,4,none⟩ (.slice Ap n cp)=wc at*;clear p4 p5 z5 fA cf f6 c7 cd b4 ay d3 gj e4 cz fa gg bv;have er:=hf.trans fk zr;have g3:wa.heap.size≤wc.heap.size:=by omega
  have f0:=OpL.moved_own (xo.non er) (A:=Ap) (c:=cp) (base2:=wa.heap.size) (by rw [hn.out];exact a2) (Nat.le_of_lt (Nat.lt_of_le_of_lt (Nat.le_trans c4.size (Nat.le_trans hf.size (by rw [b9.out];exact Ak7 _))) dw));have a6:=hq.out.fr fk
  have d9:Hid (Calls Tryz.prog 17 #[.pointer (some ⟨hb,0,none⟩),.agg (x.moved Ap cp).cells] wc (fun e w'=>e=.returned (.int .i64 0)∧∃(q':Gph) (nn:Ah),Hid (GAt w' b q')∧Hid (q'.gb=hb)∧Hid (q'.cards=CD)∧Hid (q'.pns=l.take (i+1))∧Hid (q'.nodes=q.nodes++[nn])∧Hid (nn.x.own w' wc.heap.size)∧Fr q.own wc w')):=by
   have:=Gq b q (x.moved Ap cp) wc a6 f0.at (by rw [OpL.moved_op];exact em) (k3.fr er);rw [a7.out,OpL.moved_op] at this;obtain ⟨s1,s2⟩:=au.step cm;rw [← a1,← bs.out,← bh.out] at s1;rw [← a1,← bs.out] at s2;refine this.mono ?_;rintro e w' ⟨rfl,h0⟩
   rcases h0 with ⟨h1,_⟩|⟨_,q',g1,g2,_,g4,g5,g6,_,nn,g7,g8⟩
   · exact absurd s1 h1
   ·
    refine ⟨by rw [s1],q',nn,g1,g2.trans a7.out,g4.trans bh.out,?_,g7,g8,g6⟩;show _=_;rw [g5,Dz cm,bs.out,← bs.out,s2]
  have gd:∀k,Ab Ap=some k→k<wc.heap.size:=fun k hk=>(a2.row k hk).2;have bp:Hid (∀m∈q.nodes,m.x.past.length≠0→∀k,Ab m.x.pastA=some k→k<wr.heap.size):=fun m hm h0 k hk=>((hq.out.node m hm).own.past.lt h0 hk).2;have ep:=a6.types;have en:=Lib.hid (fun (k:Nat) (e:q.own k)=>hq.out.ge e);have dp:(x.moved Ap cp).cells.size=27:=rfl;have bv:(Tryz.prog.info? 44).map (·.size)=some (x.moved Ap cp).cells.size:=a5
  have m4:(x.moved Ap cp).cells[4]? =some (.slice Ap n cp):=by
   show some (Value.slice Ap x.past.length cp)=_;rw [hn.out]
  obtain ⟨XM,e5⟩:=Aa (x.moved Ap cp).cells;rw [e5.out] at d9 bc bv m4;have g0:=Az (P:=Tryz.prog) go 44 Tryz.underlying44 rfl (cs:=XM) bv;have ds:Hid (x.past=nd.o.past):=by show _=_;rw [← a1];rfl
  have bb:=Lib.hid cm;clear f0 a6 hq a7 bh bs cm xo em a1 e5 dp eb
  go_upto_region 13 with (first
   |(go_at_call 17;(with_reducible refine (d9.out).mono ?_);rintro _ wd ⟨rfl,g2,nn,ec,a8,cl,bj,bo,eo,fd⟩))
  have fs:Fr Non w3 wd:=er.trans fd (fun k hk e=>by have h1:=en.out k e;have h2:=d8.out;omega);have bd:=bc.fr fd (fun e=>by have h1:Gty 44:=ep _ _ _ _ bc e;exact absurd h1 (by unfold Gty;decide));have aw:=a2.keepT fd ep (by unfold Gty;decide);clear d9 g0 bc fd ep a2;generalize wr=wo at*;clear wr;have fe:∀k,Ab Ap=some k→k≠go:=fun k hk e=>by have:=dh k hk;omega
  go_wp2_with (fail)
  go_loopw [8] (fun v wx=>∃(k:Nat) (ys:List Value),v=.int .i64 (k:Int)∧k≤n∧ys.length=n*3∧Own wx wa.heap.size 38 3 Ap n cp ys∧Blk wx go 44 XM∧Fr (fun k=>Ab Ap=some k) wd wx) (fun v _=>n-(intOf v).toNat)
  case atStart=>exact ⟨0,_,rfl,Ak9 _,aw.len,aw,bd,Fr.refl _ _⟩
  case round=>
  obtain ⟨k,ys,rfl,iq,c9,ab,c6,fx⟩:=hrel;have x4:=(c6.cell 4).trans m4
  by_cases hkt:k<n
  case pos=>
   clear aw bd bp en eo ec a8 cl bj bo;obtain ⟨kb,ca,_,_,ci,hz,az⟩:=ab.setAt (j:=k*3) (by omega) (.int .i64 12);obtain ⟨v0,di⟩:∃v0,ys[k*3]? =some v0:=⟨_,Ak6 (by omega)⟩;have df:=ci v0 di;have iv:=fe kb (by rw [ca];rfl);have ee:Fr (fun k=>Ab Ap=some k) wd (wr.setCell ⟨kb,k*3,none⟩ (.int .i64 12)):=fx.setCell (p:=⟨kb,k*3,none⟩) (fun _=>by rw [ca];rfl) _;have ij:Blk (wr.setCell ⟨kb,k*3,none⟩ (.int .i64 12)) go 44 XM:=c6.far (p:=⟨_,_,_⟩) (by show go≠kb;omega) _;have k1:(0:Int)≤k:=by omega
   have k2:(k:Int)<n:=by omega
   have k3:(k:Int).toNat=k:=by omega
   subst ca;clear ci fx c6 ab;go_wp2_with (fail);go_roundw
   case rel=>exact ⟨k+1,ys.set (k*3) (.int .i64 12),by go_num,by omega,by rw [List.length_set];exact c9,az,ij,ee⟩
   case measure=>simp [intOf];omega
  case neg=>
  obtain rfl:k=n:=by omega
  have t1:decide ((k:Int)<(k:Int))=false:=decide_eq_false (by omega)
  have fb:Hid (GAt wr b g2):=ec.out.keepId fx (fun j hj=>aw.block hj) (fun m hm h0 j hj e=>by
   have h1:=dh j e;have h2:=gd j e;rw [bo.out] at hm
   rcases List.mem_append.1 hm with hm|hm
   ·
    have:=bp.out m hm h0 j hj;have:=b9.out;omega
   ·
    rw [List.mem_singleton.1 hm] at hj h0;have:=(eo.out.past.lt h0 hj).1;omega)
  have cu:Fr Non w3 wr:=fs.trans fx (fun j hj e=>by have h1:=dh j e;have h2:=b9.out;have h3:=hf.size;omega);obtain ⟨m,bi,oi,hm,rfl,d0,d1,d2⟩:=be.out i hlt;have b2:=a4.out m (Al0 hm);have cg:plc (l.take (i+1)) m.id=some i:=((au.take (i+1)).ok i m (by rw [Al1 (by omega)];exact hm)).plc;have fl:(l.take (i+1))[i]? =some m:=by rw [Al1 (by omega)];exact hm
  have dr:Hid (∀(w':World),GAt w' b g2→Calls Tryz.prog 36 #[.pointer (some ⟨hb,0,none⟩),.agg m.id.V] w' (fun e bg=>∃y:OpL,e=.returned (.tuple #[.agg y.cells,.bool true])∧Hid (y.op=m.o)∧y.own bg w'.heap.size∧Fr Non w' bg)):=by
   intro w' hg;obtain ⟨z,h4,h5⟩:=Ab5 bj.out cg fl;have:=Wg b g2 m.id w' hg b2;rw [h4,a8.out] at this;refine this.mono ?_;rintro e bg ⟨y,rfl,h6,h7,h8⟩;exact ⟨y,rfl,h6.trans h5,h7,h8⟩
  have cn:=Lib.hid (fun (w':World) (hf:Fr Non wr w')=>fb.out.fr hf);clear bp en eo ec aw bd dh gd fe fx fs ab c6 cg fl bo c9;generalize wr=we at*;clear wr;have Q0:=cu.cell q2 zq;have D0:=cu.cell d0 zq;have D1:=cu.cell d1 zq;have D2:=cu.cell d2 zq
  go_upto_region 18 with (first
   |(go_at_call 36;(with_reducible refine (dr.out _ fb.out).mono ?_);rintro _ wf ⟨y,rfl,gs,yo,ff⟩;have bz:=Blk.new wf 44 OpL.zero.cells;have aa:=Cb y)
   |(refine Gp rfl 44 (.tmp 9) (.tmp 72) rfl rfl rfl rfl bz hi rfl aa ?_;intro wg dg fm ic))
  have fg:Fr Non wf wg:=((Fr.refl Non wf).alloc (.cells OpL.zero.cells 44)).trans fm (fun k hk e=>by have e':k=wf.heap.size:=e;omega);have hx:Fr Non we wg:=ff.trans fg zr;have gq:=yo.non fg;obtain ⟨xb,e7⟩:=Aa wf.heap.size;rw [e7.out] at dg ⊢;obtain ⟨M,hM⟩:=Aa y.past.length;have y4:y.cells[4]? =some (.slice y.pastA y.past.length y.pastC):=rfl;have dj:=gq.past;rw [hM.out] at y4 dj
  have ix:M≤1000:=by
   have e1:m=nd:=by have:=bb.out;rw [hm] at this;exact Option.some.inj this
   have e2:y.past=y.op.past:=rfl;rw [← hM.out,e2,gs.out,e1,← ds.out,hn.out];exact hnm
  obtain ⟨YC,ia⟩:=Aa y.cells;rw [ia.out] at dg y4;clear bz aa fm ic ff fg yo gq e7 Q0 D0 D1 D2;go_wp2_with (fail)
  go_loopw [11] (fun v wx=>∃k:Nat,v=.int .i64 (k:Int)∧k≤M∧Cv we.heap.size wg wx) (fun v _=>M-(intOf v).toNat)
  case atStart=>exact ⟨0,rfl,Ak9 _,Cv.refl _ _⟩
  case round=>
  obtain ⟨k,rfl,iw,tn⟩:=hrel;have d4:=tn.op dg;have z4:=(d4.cell 4).trans y4
  by_cases hkt:k<M
  case pos=>
   obtain ⟨kb,v0,ca,df,hz,ax⟩:=tn.cell dj (Ak7 _) (j:=k*3) (by omega) (by decide) (fun e=>absurd e (by decide));have ck:=ax (.int .i64 11);have k1:(0:Int)≤k:=by omega
   have k2:(k:Int)<M:=by omega
   have k3:(k:Int).toNat=k:=by omega
   rw [ca] at z4;clear ax dj tn d4;go_wp2_with (fail);go_roundw
   case rel=>exact ⟨k+1,by go_num,by omega,ck⟩
   case measure=>simp [intOf];omega
  case neg=>
  obtain rfl:k=M:=by omega
  have t1:decide ((k:Int)<(k:Int))=false:=decide_eq_false (by omega);have fy:Fr (He we.heap.size) we wr:=(Fr.of_non hx _).trans tn.fr zr;have c8:Fr Non we wr:=fy.mono (fun j hj e=>by unfold He at e;omega);have bu:=cu.trans c8 zr;have Q0:=bu.cell q2 zq;have D0:=bu.cell d0 zq;have D1:=bu.cell d1 zq;have D2:=bu.cell d2 zq;have cr:=Lib.hid (dr.out wr (cn.out wr c8))
  have e0:Hid (m.o=nd.o):=by
   show _=_;have:=bb.out;rw [hm] at this;rw [Option.some.inj this]
  clear dr dg d4 tn fy dj y4 b2
  go_upto_region 25 with (first
   |(go_at_call 36;(with_reducible refine (cr.out).mono ?_);rintro _ wh ⟨z,rfl,hw,zo,fh⟩;have bz:=Blk.new wh 44 OpL.zero.cells;have aa:=Cb z)
   |(refine Gp rfl 44 (.tmp 12) (.tmp 96) rfl rfl rfl rfl bz hi rfl aa ?_;intro wi ev ga ik))
  have fi:Fr Non wh wi:=((Fr.refl Non wh).alloc (.cells OpL.zero.cells 44)).trans ga (fun k hk e=>by have e':k=wh.heap.size:=e;omega);have eh:Fr Non wr wi:=fh.trans fi zr;have gi:=zo.non fi;have dc:=bu.trans eh zr;have ho:=c8.trans eh zr;obtain ⟨zb,e8⟩:=Aa wh.heap.size;rw [e8.out] at ev ⊢;obtain ⟨x9,io,iz,f5,d7,gh,el,gk⟩:=ej.out i nd bb.out;injection el with el
  injection el with e1 e2
  subst e1 e2;have ar:z.op=x9.op:=by rw [hw.out,e0.out,f5]
  have br:=Lib.hid (fun (w':World) (hf:Fr Non wi w')=>Uz z x9 w' (gi.non hf).at (by rw [ar];exact d7) (gh.non (dc.trans hf zr)).at d7);rw [ar,beq_self_eq_true] at br;unfold Ae at br;have co:=Gu (P:=Tryz.prog) x9.cells bx (ox+i*27) Tryz.underlying44 rfl a5;have cx:∀w',RgAt w' bx (ox+i*27) x9.cells.toList→(ldS 44 (.pointer (some ⟨bx,ox+i*27,none⟩))).run Tryz.prog w'=.ok (.agg x9.cells) w':=fun w' h=>co w' h;have b1:(Tryz.prog.info? 44).map (·.size)=some z.cells.size:=hi;have R0:RgAt wi bx (ox+i*27) x9.cells.toList:=fun k v hv=>dc.cell (gk k v hv) zq;have C0:=dc.cell q1 zq;have Z0:=ev;have F0:Fr Non wi wi.drew:=(Fr.refl Non wi).drew;obtain ⟨ZC,ig⟩:=Aa z.cells;rw [ig.out] at Z0 br b1;obtain ⟨X9,hu⟩:=Aa x9.cells;rw [hu.out] at br cx R0;have hc:=Az (P:=Tryz.prog) zb 44 Tryz.underlying44 rfl (cs:=ZC) b1;clear bz aa ga ik fh fi zo gi ev e8 co gk gh d7 f5 ar Q0 D0 D1 D2 cr c8 bu;refine wp_region_held_drew (S:=fun w'=>Blk w' zb 44 ZC∧w'.cell? ⟨gv,1,none⟩=some (.slice (some ⟨bx,ox,none⟩) N LC)∧RgAt w' bx (ox+i*27) X9.toList) (by kernel_rfl) ⟨Z0,C0,R0⟩ (fun hHeld=> ?_);clear hHeld;refine tkH 0 ⟨Z0,C0,R0⟩ (h:=tkH 1 ⟨Z0,C0,R0⟩ (h:=tkH 2 ⟨Z0,C0,R0⟩ (h:=tkH 3 ⟨Z0,C0,R0⟩ (h:=tkH 4 ⟨Z0,C0,R0⟩ (h:=tkH 5 ⟨Z0,C0,R0⟩ (h:=?_))))));simp only [List.set];refine oG 6 (fun K hK=> ?_);go_simp;go_wp2_with (go_at_call 39;(with_reducible refine (br.out _ F0).mono ?_);rintro _ v1 ⟨rfl,ek⟩;have F1:=F0.trans ek zr;have Z1:=Z0.fr F1 zq;have C1:=F1.cell C0 zq;have R1:=R0.fr F1 zq;have G1:=eh.trans F1 zr);refine hK.out _ _ ⟨Z1,C1,R1⟩ (fun hZ=> ?_);clear hZ hK K;try simp only [Ad,List.set]
  refine tkH 7 ⟨Z1,C1,R1⟩ (h:=?_);simp only [List.set];refine oD ?_;go_simp;have f9:=dc.trans F1 zr;have hd:=cn.out v1 (ho.trans F1 zr);clear br hc cx Z0 C0 R0 Z1 C1 R1 G1;go_wp2_with (fail);go_roundw
  case rel=>exact ⟨i+1,g2,by go_num,by omega,hd,a8.out,cl.out,bj.out,f9⟩
  case measure=>simp [intOf];omega
 case neg=>
  obtain rfl:i=N:=by omega
  have t1:decide ((i:Int)<(i:Int))=false:=decide_eq_false (by omega);have bk:=ap.fr hf zr;obtain ⟨kc,gy,hs,ha,ci,hz,_⟩:=bk.setAt (j:=0) (by omega) (.int .i64 9);obtain ⟨c0,df⟩:∃c0,CD[0]? =some c0:=⟨_,Ak6 (by omega)⟩;obtain ⟨v0,di⟩:∃v0,(CD.flatMap Cd.cells)[0]? =some v0:=⟨_,Ak6 (by have:=bk.len;omega)⟩;have gt:=ci v0 di;subst gy;have d5:=ez kc rfl;have F9:Fr (One kc) wr (wr.setCell ⟨kc,0,none⟩ (.int .i64 9)):=(Fr.refl _ _).setOne 0 _;have hl:Fr Non w (wr.setCell ⟨kc,0,none⟩ (.int .i64 9)):=(c4.trans hf zr).setNew d5.1 0 _;have bf:Hid (GAt (wr.setCell ⟨kc,0,none⟩ (.int .i64 9)) b q):=hq.out.over F9 (fun k hk e=>by have e':k=kc:=e;have:=d8.out;omega);have iy:w2.heap.size≤(wr.setCell ⟨kc,0,none⟩ (.int .i64 9)).heap.size:=by have:=F9.size;omega
  have fn:=(a9.fr hf zr).fr F9 (fun k hk e=>by have e':k=kc:=e;omega);have gf:=(hf.cell q0 zq);have fp:=F9.cell gf (fun e=>by have e':gv=kc:=e;omega);clear ci di bk ap a9 ez F9 gf q0 q1 q2 hq be ej a4 au k3 hN gn;go_upto_region 29 with (fail)
  generalize wr.setCell ⟨kc,0,none⟩ (.int .i64 9)=ws at*
  have fo:Hid (Calls Tryz.prog 42 #[.pointer (some ⟨hb,0,none⟩)] ws (fun e w'=>∃(A':Option Addr) (c':Nat),e=.returned (.slice A' 4 c')∧Own w' ws.heap.size 81 5 A' 4 c' (CD.flatMap Cd.cells)∧Fr Non ws w')):=by
   have:=Zx b q ws bf.out bf.out.cfew;rw [a7.out,bh.out,cj] at this;exact this
  have c2:=Lib.hid (fun (w':World) (hf:Fr Non ws w')=>Hm b q 1 w' (bf.out.fr hf) bf.out.cfew);have cq:=Lib.hid (fun (w':World) (hf:Fr Non ws w')=>Hm b q 9 w' (bf.out.fr hf) bf.out.cfew)
  have e1:q.card 1=some c0:=by
   show q.cards.find? _=_;rw [bh.out,ei.out.1,df]
  have e9:q.card 9=none:=by
   show q.cards.find? _=_;rw [bh.out,ei.out.2]
  rw [a7.out,e1] at c2;rw [a7.out,e9] at cq;unfold Eh at c2 cq;change Hid (∀w',Fr Non ws w'→Calls Tryz.prog 43 #[.pointer (some ⟨hb,0,none⟩),.int .i64 1] w' (fun e bg=>e=.returned (.tuple #[.agg #[.int .i64 c0.d,.int .i64 c0.m,.int .u64 (c0.l:Int),.int .u64 (c0.k:Int),.int .u64 (c0.s:Int)],.bool true])∧Fr Non w' bg)) at c2;change Hid (∀w',Fr Non ws w'→Calls Tryz.prog 43 #[.pointer (some ⟨hb,0,none⟩),.int .i64 9] w' (fun e bg=>e=.returned (.tuple #[.agg zC,.bool false])∧Fr Non w' bg)) at cq;clear bf a7 bh bs ei e1 e9 hf gt hz;go_upto_region 32 with (go_at_call 42;(with_reducible refine (fo.out).mono ?_);rintro _ wt ⟨At,ct,rfl,ba,ft⟩)
  have gx:=fn.fr ft zr;have qt:=ft.cell fp zq;clear fo fn;go_wp2_with (fail)
  go_loopw [16] (fun v wx=>∃(k:Nat) (ys:List Cd),v=.int .i64 (k:Int)∧k≤4∧Hid (ys.length=4)∧Hid (∀j,k≤j→ys[j]? =CD[j]?)∧Own wx ws.heap.size 81 5 At 4 ct (ys.flatMap Cd.cells)∧Fr (fun k=>Ab At=some k) wt wx) (fun v _=>4-(intOf v).toNat)
  case atStart=>exact ⟨0,CD,rfl,by omega,cj,fun _ _=>rfl,ba,Fr.refl _ _⟩
  case round=>
  have dm:∀k,Ab At=some k→ws.heap.size≤k:=fun k hk=>(ba.row k hk).1;clear ba;obtain ⟨k,ys,rfl,iu,c9,f2,ab,fx⟩:=hrel;have cy:Fr Non ws wr:=ft.trans fx (fun j hj e=>by have:=dm j e;omega);have dd:=gx.fr fx (fun j hj e=>by have:=dm j e;omega);have qx:=cy.cell fp zq
  by_cases hkt:k<4
  case pos=>
   obtain ⟨ac,fj⟩:∃c1,CD[k]? =some c1:=⟨_,Ak6 (by omega)⟩;have ef:ys[k]? =some ac:=by rw [f2.out k (Ak7 _),fj]
   obtain ⟨bc,oc,rfl,_,rc⟩:=Dw (f:=Cd.cells) (fun _=>rfl) (by omega) dd fj;obtain ⟨bt,ot,a0,_,tc⟩:=Dw (f:=Cd.cells) (fun _=>rfl) (by omega) ab.rd ef;have r0:=rc 0 (by decide) _ rfl;have r1:=rc 1 (by decide) _ rfl;have r2:=rc 2 (by decide) _ rfl;have r3:=rc 3 (by decide) _ rfl;have r4:=rc 4 (by decide) _ rfl;have u0:=tc 0 (by decide) _ rfl;have u1:=tc 1 (by decide) _ rfl;have u2:=tc 2 (by decide) _ rfl;have u3:=tc 3 (by decide) _ rfl;have u4:=tc 4 (by decide) _ rfl;rw [Nat.add_zero] at r0 u0;have k1:(0:Int)≤k:=by omega
   have k2:(k:Int)<4:=by omega
   have k3:(k:Int).toNat=k:=by omega
   have bl:=Q8 ac;have dt:=Q9;clear rc tc dd cy;go_upto_region 35 with (fail)
   go_quiet (fail)
   have cv:=ab.drewN nq;have f8:Fr (fun k=>Ab At=some k) wt (wr.drewN nq):=fx.drewN nq;clear ab fx r0 r1 r2 r3 r4 u0 u1 u2 u3 u4 qx qt bl;generalize wr.drewN nq=wn at*;obtain ⟨kt,bm,_,_,cw,hz,az⟩:=cv.setAt (j:=k*5+1) (by omega) (.int .i64 7);have ir:wn.cell? ⟨kt,k*5+1,none⟩=some (.int .i64 ac.m):=cw _ (by rw [Ew (f:=Cd.cells) (size:=5) (fun _=>rfl) ys k 1 ac ef (by decide)];rfl);rw [bm] at a0;injection a0 with a0
   injection a0 with e1 e2
   subst e1 e2;have ax:(ys.flatMap Cd.cells).set (k*5+1) (.int .i64 7)=(ys.set k ⟨ac.d,7,ac.l,ac.k,ac.s⟩).flatMap Cd.cells:=Ft (size:=5) (j:=1) (fun _=>rfl) (by decide) _ ⟨ac.d,7,ac.l,ac.k,ac.s⟩ ys k ac ef rfl;rw [ax] at az;have ee:Fr (fun k=>Ab At=some k) wt (wn.setCell ⟨kt,k*5+1,none⟩ (.int .i64 7)):=f8.setCell (p:=⟨kt,k*5+1,none⟩) (fun _=>by rw [bm];rfl) _;subst bm;clear cw cv f8 ax;go_wp2_with (fail);go_roundw
   case rel=>exact ⟨k+1,ys.set k ⟨ac.d,7,ac.l,ac.k,ac.s⟩,by go_num,by omega,(by show _=_;rw [List.length_set];exact c9.out),(fun j hj=>by rw [List.getElem?_set_ne (by omega)];exact f2.out j (by omega)),az,ee⟩
   case measure=>simp [intOf];omega
  case neg=>
  obtain rfl:k=4:=by omega
  obtain ⟨bc,oc,rfl,_,rc⟩:=Dw (f:=Cd.cells) (fun _=>rfl) (by omega) dd df;have r0:=rc 0 (by decide) _ rfl;have r1:=rc 1 (by decide) _ rfl;have r2:=rc 2 (by decide) _ rfl;have r3:=rc 3 (by decide) _ rfl;have r4:=rc 4 (by decide) _ rfl;rw [Nat.zero_mul,Nat.add_zero] at r0 r1 r2 r3 r4;have gl:(Tryz.prog.info? 81).map (·.size)=some 5:=by kernel_rfl
  have es:(Tryz.prog.info? 81).map (·.size)=some (#[.int .i64 c0.d,.int .i64 c0.m,.int .u64 (c0.l:Int),.int .u64 (c0.k:Int),.int .u64 (c0.s:Int)]:Array Value).size:=gl;have dv:(Tryz.prog.info? 81).map (·.size)=some (zC:Array Value).size:=gl;have b0:(#[.int .i64 c0.d,.int .i64 c0.m,.int .u64 (c0.l:Int),.int .u64 (c0.k:Int),.int .u64 (c0.s:Int)]:Array Value).all (·.oneCell')=true:=by simp [Value.oneCell']
  have c3:(zC:Array Value).all (·.oneCell')=true:=by simp [Value.oneCell']
  have ii:=hl.trans cy zr;generalize wr=wu at*;clear wr;clear dm ab fx dd rc;have ih:=Blk.new
  go_upto_region 39 with (first
   |(go_at_call 43;(with_reducible refine (c2.out _ cy).mono ?_);rintro _ wA ⟨rfl,fA⟩;have fw:=Blk.new wA 81 zC)
   |(refine Gp rfl 81 (.tmp 17) (.tmp 136) rfl rfl rfl rfl fw es rfl b0 ?_;intro wB eu fc gu))
  have fB:Fr Non wu wB:=(fA.alloc (.cells zC 81)).trans fc (fun k hk e=>by have e':k=wA.heap.size:=e;have:=fA.size;omega);obtain ⟨cb,fu⟩:=Aa wA.heap.size;rw [fu.out] at eu ⊢;have ie:=cy.trans fB zr;clear ih fw fc gu fA fu
  go_upto_region 40 with (first
   |(go_at_call 43;(with_reducible refine (cq.out _ ie).mono ?_);rintro _ wC ⟨rfl,fC⟩;have fq:=Blk.new wC 81 zC)
   |(refine Gp rfl 81 (.tmp 19) (.tmp 141) rfl rfl rfl rfl fq dv rfl c3 ?_;intro wD g9 f3 il))
  have fD:Fr Non wB wD:=(fC.alloc (.cells zC 81)).trans f3 (fun k hk e=>by have e':k=wC.heap.size:=e;have:=fC.size;omega);have a3:=fB.trans fD zr;have e6:=ii.trans a3 zr;have aq:=eu.fr fD zq;have aj:wD.cell? ⟨cb,0,none⟩=some (.int .i64 c0.d):=aq.cell 0;have ao:wD.cell? ⟨cb,1,none⟩=some (.int .i64 c0.m):=aq.cell 1;have ag:wD.cell? ⟨cb,2,none⟩=some (.int .u64 (c0.l:Int)):=aq.cell 2;have ad:wD.cell? ⟨cb,3,none⟩=some (.int .u64 (c0.k:Int)):=aq.cell 3;have ai:wD.cell? ⟨cb,4,none⟩=some (.int .u64 (c0.s:Int)):=aq.cell 4;have al:=a3.cell r0 zq;have af:=a3.cell r1 zq;have ae:=a3.cell r2 zq;have ah:=a3.cell r3 zq;have ak:=a3.cell r4 zq;have Q0:=a3.cell qx zq;have F0:Fr Non wD wD.drew:=(Fr.refl Non wD).drew;have dt:=Q9;have gw:=Lib.hid (fun (w':World) (hf:Fr Non wD w')=>b7.out w' (e6.trans hf zr));clear c2 cq eu g9 aq fq f3 il fC fB fD a3 r0 r1 r2 r3 r4 qx;refine wp_region_held_drew (S:=fun w'=>w'.cell? ⟨cb,0,none⟩=some (.int .i64 c0.d)∧w'.cell? ⟨cb,1,none⟩=some (.int .i64 c0.m)∧w'.cell? ⟨cb,2,none⟩=some (.int .u64 (c0.l:Int))∧w'.cell? ⟨cb,3,none⟩=some (.int .u64 (c0.k:Int))∧w'.cell? ⟨cb,4,none⟩=some (.int .u64 (c0.s:Int))∧w'.cell? ⟨bc,oc,none⟩=some (.int .i64 c0.d)∧w'.cell? ⟨bc,oc+1,none⟩=some (.int .i64 c0.m)∧w'.cell? ⟨bc,oc+2,none⟩=some (.int .u64 (c0.l:Int))∧w'.cell? ⟨bc,oc+3,none⟩=some (.int .u64 (c0.k:Int))∧w'.cell? ⟨bc,oc+4,none⟩=some (.int .u64 (c0.s:Int))∧w'.cell? ⟨gv,0,none⟩=some (.slice (some ⟨bc,oc,none⟩) 4 CC)) (by kernel_rfl) ⟨aj,ao,ag,ad,ai,al,af,ae,ah,ak,Q0⟩ (fun hHeld=> ?_);clear hHeld;refine tkH 0 ⟨aj,ao,ag,ad,ai,al,af,ae,ah,ak,Q0⟩ (h:=tkH 1 ⟨aj,ao,ag,ad,ai,al,af,ae,ah,ak,Q0⟩ (h:=tkH 2 ⟨aj,ao,ag,ad,ai,al,af,ae,ah,ak,Q0⟩ (h:=tkH 3 ⟨aj,ao,ag,ad,ai,al,af,ae,ah,ak,Q0⟩ (h:=tkH 4 ⟨aj,ao,ag,ad,ai,al,af,ae,ah,ak,Q0⟩ (h:=tkH 5 ⟨aj,ao,ag,ad,ai,al,af,ae,ah,ak,Q0⟩ (h:=tkH 6 ⟨aj,ao,ag,ad,ai,al,af,ae,ah,ak,Q0⟩ (h:=tkH 7 ⟨aj,ao,ag,ad,ai,al,af,ae,ah,ak,Q0⟩ (h:=tkH 8 ⟨aj,ao,ag,ad,ai,al,af,ae,ah,ak,Q0⟩ (h:=tkH 9 ⟨aj,ao,ag,ad,ai,al,af,ae,ah,ak,Q0⟩ (h:=tkH 10 ⟨aj,ao,ag,ad,ai,al,af,ae,ah,ak,Q0⟩ (h:=tkH 11 ⟨aj,ao,ag,ad,ai,al,af,ae,ah,ak,Q0⟩ (h:=?_))))))))))));simp only [List.set];refine tkH 12 ⟨aj,ao,ag,ad,ai,al,af,ae,ah,ak,Q0⟩ (h:=tkH 13 ⟨aj,ao,ag,ad,ai,al,af,ae,ah,ak,Q0⟩ (h:=?_));simp only [List.set];refine oG 14 (fun K hK=> ?_);go_simp;go_wp2_with (go_at_call 19;(with_reducible refine (gw.out _ F0).mono ?_);rintro _ v1 ⟨rfl,ek⟩;have F1:=F0.trans ek zr;have dx:=F1.cell aj zq;have du:=F1.cell ao zq;have ea:=F1.cell ag zq;have dq:=F1.cell ad zq;have dl:=F1.cell ai zq;have e3:=F1.cell al zq;have ey:=F1.cell af zq;have dk:=F1.cell ae zq;have dn:=F1.cell ah zq;have ed:=F1.cell ak zq;have Q1:=F1.cell Q0 zq);refine hK.out _ _ ⟨dx,du,ea,dq,dl,e3,ey,dk,dn,ed,Q1⟩ (fun hZ=> ?_);clear hZ hK K;try simp only [Ad,List.set]
  refine tkH 15 ⟨dx,du,ea,dq,dl,e3,ey,dk,dn,ed,Q1⟩ (h:=tkH 16 ⟨dx,du,ea,dq,dl,e3,ey,dk,dn,ed,Q1⟩ (h:=?_));simp only [List.set];refine oD ?_;go_simp;have gz:=e6.trans F1 zr;go_wp2_with (fail);exact b3.out _ gz
end Oq
end
section
open Go.ChangeShapes Go.WideShapes Go.ChangeAt Go.RowKit
theorem Ak4 (os:Os) (started:os.Started) (H:Type) (enc:TypeId × Value→H):
  ReturnsInHanded {} Tryz.checked os 9 .any (fun w args=>(Rows.graphOwnSpec.pre enc Tryz.prog Tryz.f9 [] false w args∧laidMetH Tryz.prog [("huddle/op.kinds",Rows.laid_huddle_op_kinds)] w)∧sizedMet enc Tryz.prog Tryz.f9 (OpenSpec.ofChange Rows.graphOwnSpec) false w args)
   (Rows.graphOwnSpec.post enc Tryz.prog Tryz.f9 false true false false):=by
 refine returnsInHanded_of_change_and (C:=Tryz.checked) (X:=fun w _=>laidMetH Tryz.prog [("huddle/op.kinds",Rows.laid_huddle_op_kinds)] w) (fun _ _ _ hh h=>h.of_heap hh) Tryz.own started (by kernel_rfl) Tryz.func9
  (ChangeSpec.witness_at (enc:=enc) (C:=Tryz.checked) (os:=os) (X:=fun w _=>laidMetH Tryz.prog [("huddle/op.kinds",Rows.laid_huddle_op_kinds)] w) false (J2 os) #[.slice none 0 0] 8 rfl (by kernel_rfl) (by kernel_rfl) (by kernel_rfl) (by kernel_rfl) (by kernel_rfl) (U4 os _)) ?_
 intro W base args ds gs before hval0 hW _ _ hL _;have hk:=U3 hL;have hval:∀(j:Nat) t v,Tryz.f9.params[j]? =some t→args[j]? =some v→Value.okWide Tryz.prog W .any base t v:=hval0;have hW':=hW;obtain ⟨p,q,hA0,hV,rfl,hfz,hnd⟩:=hW;have hA:DataW.TrodAll enc Tryz.prog W 0 (fun _=>true) true Tryz.f9.params.toList args.toList ds p:=hA0;rw [Tryz.params9] at hA hval;obtain ⟨v0,d0,rfl,rfl,h0⟩:=trodAll_one hA;obtain ⟨A0,c0,l0,rfl,hlc0,hc0,hr0,hok0⟩:=Sy Tryz.underlying22 Tryz.underlying3 (by kernel_rfl) (hval 0 22 v0 rfl rfl) h0;refine (Oq.graphOwn_law A0 c0 l0 W hk hr0 hlc0 hc0 hok0).mono fun e W' ⟨he,hf⟩=> ?_;exact ⟨_,he,St Tryz.laidOut (by kernel_rfl) rfl (by kernel_rfl) Tryz.underlying4 hW' ⟨rfl,rfl,rfl⟩ hf⟩
theorem Ak5:Rows.GraphOwnSaid:=
 OpenClaim.holds_of_wide 9 Tryz.f9 rfl rfl rfl rfl rfl rfl rfl ⟨rfl,rfl,rfl,rfl,rfl⟩ rfl rfl rfl rfl rfl (by kernel_rfl) Tryz.func9 (by kernel_rfl)
  (of_decide_eq_true (by kernel_rfl)) (by unfold Func.isWrapper;rw [if_neg (by decide+kernel)];exact ⟨rfl,rfl⟩)
  (fun os started H enc _=>Ak4 os started H enc)
end
section
open Go
theorem graphOwn_card_holds:Rows.GraphOwnCardSaid:=
 Claim7.holds_tied_plain_at .later [] [.data] true (true, "7e0c834fc93e2f05c1722e6864a69bf9e61c39615967a567db2e137b72a7bc25") false
  Ak5 (fun _ h=>by cases h) (by kernel_rfl) (fun _ h=>by cases h) graphOwn_row_tie rfl ⟨rfl,rfl⟩ (by kernel_rfl) rfl
  (fun f fn hf hfn=>by
   obtain rfl:f=9:=Option.some.inj ((show Tryz.prog.funcNamed "huddle/huddlelaw12.GraphOwn" =some 9 by kernel_rfl).symm.trans hf)|>.symm;obtain rfl:fn=Tryz.f9:=(Option.some.inj (Tryz.func9.symm.trans hfn)).symm
   exact ⟨by kernel_rfl,fun j t ht=>by
    rw [Tryz.params9] at ht
    have hm:t∈([22]:List TypeId):=by
     have h2:=Array.mem_of_getElem? ht;simpa using h2
    have hall:([22]:List TypeId).all (fun t=> !(Tryz.prog.wantsStandIn t))=true:=by kernel_rfl
    have:=List.all_eq_true.1 hall t hm;exact (by simpa using this:Tryz.prog.wantsStandIn t=false)⟩)
  (by kernel_rfl)
end
end Go.Proofs.YtafonabghnogaaaGreatDoor
