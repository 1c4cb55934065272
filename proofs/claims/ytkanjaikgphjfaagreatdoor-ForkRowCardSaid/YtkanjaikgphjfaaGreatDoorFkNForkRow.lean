/-
  huddlelaw13.ForkRow: the row of a closed list is nothing.
    Conditions: op.kinds lies as its text lays it; the numbers read.
  ForkRow: whatever the input is, where the one listed variable is as its text lays it, the law returns true, and nothing that was there has turned.
    Condition: none.
  ForkRow: the tied card.
    Condition: none.
-/
import Derived.ChangeVars
import Derived.JoinedOf
import Derived.RowKitTokens
import Derived.LaidLaws
import Derived.Test.YtkanjaikgphjfaaGreatDoorTie
import Derived.Test.YtkanjaikgphjfaaGreatDoorCards
import Derived.SevenTiedAt
import Derived.Test.YtkanjaikgphjfaaGreatDoorFkN1
import Derived.Test.YtkanjaikgphjfaaGreatDoorFkN4
import Derived.Test.YtkanjaikgphjfaaGreatDoorFkN12
import Derived.Test.YtkanjaikgphjfaaGreatDoorFkN15
set_option maxRecDepth 100000
set_option maxHeartbeats 16000000
namespace Go.Proofs.YtkanjaikgphjfaaGreatDoor
section
open Go.RowKit
attribute [local go_sem ↓] Go.wp_at_zero Go.wp_at_succ
namespace Oq
attribute [local go_sem] Bool.not_false Bool.not_true
attribute [local go_sem ↓] Fz Gs Jv Tg Al5
theorem forkRow_law (A:Option Addr) (c:Nat) (l0:List Int) (A':Option Addr) (c':Nat) (l1:List Int) (tv dv:Int) (w:World) (hk:KindsAt w) (hr:Rd w w.heap.size 1 A l0.length (l0.map Iv)) (hnc:l0.length≤c) (hnm:c≤9223372036854775807) (hok:∀x∈l0,I64 x) (hr':Rd w w.heap.size 1 A' l1.length (l1.map Iv)) (hnc':l1.length≤c') (hnm':c'≤9223372036854775807) (hok':∀x∈l1,I64 x) (tv0: -9223372036854775808≤tv) (tv1:tv≤9223372036854775807) (_dv0: -9223372036854775808≤dv) (_dv1:dv≤9223372036854775807):
  Calls Tryz.prog 6 #[.slice A l0.length c,.slice A' l1.length c',.int .i64 tv,.int .i64 dv] w (Ad true w):=by
 have aq:0<w.heap.size:=World.block_lt_of_cell? w _ (hk 0 (by decide));have km:=Lib.hid (Jt w.heap.size l0.length c A l0 w rfl hr (by omega) hok);have ca:=Lib.hid (fun (b:Nat) (r:FG) (w':World) (hf:Fr Non w w') (h:r.own w' b) (hcs:r.cards=Ba 0 [1,2,2,3])=>Ju b r w' h hcs (Nat.lt_of_lt_of_le aq hf.size) (hk.fr hf));have av:=fun (w':World) (hf:Fr Non w w')=>M6 w' (hk.fr hf);unfold Ad at av;replace av:=Lib.hid av;have be:=Lib.hid (fun (b:Nat) (r:FG) (v:World) (hf:Fr Non w v) (h:r.own v b) (hne:r.l≠[])=>Ms b w.heap.size l1.length c' A' l1 r v h hne rfl (hr'.fr hf zr) (by omega) hok');obtain ⟨n1,bv⟩:=Ab l1.length;rw [bv.out] at be ⊢;have ar:Hid (∀wz,Fr Non w wz→Ad true w (.returned (.bool true)) wz):=fun wz h=>⟨rfl,h⟩;generalize Ad true w=POST at*;obtain ⟨n0,cb⟩:=Ab l0.length;rw [cb.out] at km ⊢;clear hk aq hr hnc hnm hok hr' hnc' hnm' hok' bv;go_enter Tryz.func6,Tryz.ntmps6;go_upto_region 2 with (go_at_call 9;(with_reducible refine (km.out).mono ?_);rintro _ w1 ⟨r,rfl,f1,ro,b7,cg⟩;(have bn:=Blk.new w1 28 #[.slice none 0 0,.slice none 0 0,.slice none 0 0,.slice none 0 0]);(have cy:=Bb (P:=Tryz.prog) w1.heap.size 28 (cs:=r.cells) Bu (old:=#[.slice none 0 0,.slice none 0 0,.slice none 0 0,.slice none 0 0]) rfl (Ez r)))
 have bg:Blk ((w1.alloc (.cells #[.slice none 0 0,.slice none 0 0,.slice none 0 0,.slice none 0 0] 28)).setRow w1.heap.size r.cells) w1.heap.size 28 r.cells:=bn.setRow;have fG:Fr Non w1 ((w1.alloc (.cells #[.slice none 0 0,.slice none 0 0,.slice none 0 0,.slice none 0 0] 28)).setRow w1.heap.size r.cells):=((Fr.refl Non w1).alloc _).setRow (fun hh=>absurd hh (by omega)) _;have f2:=f1.trans fG zr;have a1:=ro.non fG;obtain ⟨gv,ce⟩:=Ab w1.heap.size;rw [ce.out] at bg f2 a1 ⊢;clear cy bn fG ro f1;generalize (w1.alloc (.cells #[.slice none 0 0,.slice none 0 0,.slice none 0 0,.slice none 0 0] 28)).setRow gv r.cells=w2 at*;have hl:=Bi (P:=Tryz.prog) gv 28 Tryz.underlying28 rfl (cs:=r.cells) Bu;go_upto_region 3 with (go_at_call 10;(with_reducible refine (ca.out _ r _ f2 a1 b7).mono ?_);rintro _ w3 ⟨g,b,rfl,cu,hg,c0,cm,f3⟩)
 have bu:=bg.fr f3 zq;have ao:=a1.non f3;have bt:=f2.trans f3 zr;have b4:r.l≠[]:=by rw [cg];exact Ht _ _
 have ae:r.ids.length=r.l.length:=FG.ids_len r;have bb:Cs r.ids:=ao.fkOk;have a6:r.ids.length≤14:=by rw [ae];exact ao.num.few
 have c2:w3.cell? ⟨gv,2,none⟩=some (.slice r.iA r.ids.length r.iC):=by have h9:=bu.cell 2;rw [show r.cells[2]? =some (.slice r.iA r.l.length r.iC) from rfl,← ae] at h9;exact h9
 have aj:=ao.rdIds;rw [← ae] at aj;have bf:=Lib.hid aj;have cp:r.ids.Nodup:=Jx ao.rows;go_upto_region 6 with (go_at_call 11;(with_reducible refine (be.out _ r _ bt ao b4).mono ?_);rintro _ w4 ⟨on,ys,ns,A4,c4,rfl,cd,ch,b9,au,o4,f4⟩)
 have hP:=M8 ao cd ch b9 au;have b2:=bt.trans f4 zr;have bz:=f4.cell c2 zq;have cn:=hP.len;have cx:0<ns.length:=List.length_pos_iff.mpr hP.some;have ad:=Hw (n:=tv) (m:=(ns.length:Int)+1) (by omega);have bm:=Lib.hid (fun (v:World)=>Hx tv ((ns.length:Int)+1) v tv0 tv1 (by omega) (by omega));have e4:IntKind.i64.wrap ((ns.length:Int)+1)=(ns.length:Int)+1:=IntWalk.i64_in _ (by omega);obtain ⟨K,hK⟩:∃K:Nat,C4 tv ((ns.length:Int)+1)=(K:Int):=⟨_,(Int.toNat_of_nonneg ad.1).symm⟩;rw [hK] at bm ad;have a0:K≤ns.length:=by have:=ad.2;omega
 have ak:=Al8 ns K;have aa:Cs (ns.drop K++ns.take K):=fun x hx=>hP.ok x (ak.mem_iff.1 hx);have bl:Hid (Aq (ns.drop K++ns.take K)=Aq ns):=Ae7 ak (fun x hx=>by have:=(aa x hx).2.2.1;omega);have bd:Hid (Cc (ns.drop K++ns.take K)=Cc ns):=Ae8 ak (fun x hx=>by have:=(aa x hx).2.2.1;omega)
 have bi:Hid (Ce (ns.drop K++ns.take K) dv=Ce ns dv):=by
  show _=_;have h0:∀x∈ns.drop K++ns.take K,0<x.s:=fun x hx=>by have:=(aa x hx).2.2.1;omega
  unfold Ce;rw [Jm ak h0,Ae9 ak h0]
 have aw:(ns.drop K++ns.take K).length=ns.length:=ak.length_eq
 have br:((ns.flatMap Id.cells).drop (K*3)).take ((ns.length-K)*3)++(ns.flatMap Id.cells).take (K*3)=(ns.drop K++ns.take K).flatMap Id.cells:=by
  rw [Al7,Tf,List.flatMap_append,show ns.length-K=(ns.drop K).length from (List.length_drop).symm,Tf,List.take_length]
 have ck:=Lib.hid (fun (gv:Value) (v:World) (hv:Fr Non w4 v)=>Gt w4.heap.size ns.length c4 A4 ns gv v rfl (o4.rd.fr hv zr) (by omega) hP.ok);have b8:=Lib.hid (fun (gv:Value) (v:World) (hv:Fr Non w4 v)=>Jw w4.heap.size ns.length c4 A4 ns dv gv v rfl (o4.rd.fr hv zr) (by omega) hP.ok);have cc:=Lib.hid (fun (gv:Value) (v:World) (hv:Fr Non w4 v)=>Js w4.heap.size ns.length c4 A4 ns gv v rfl (o4.rd.fr hv zr) (by omega) hP.ok);have dc:(Cc ns).length≤14:=Nat.le_trans (M9 _) hP.len;have b0:(Aq ns).length≤12:=S9 _;have az:∀a b,∀u∈((ns.flatMap Id.cells).drop a).take b,u.oneCell'=true:=Ia ns;have ag:∀b,∀u∈(ns.flatMap Id.cells).take b,u.oneCell'=true:=fun b=>Ia ns 0 b;obtain ⟨BS,cf⟩:=Ab (ns.drop K++ns.take K);rw [cf.out] at bl bd bi br aw aa;have cz:=Lib.hid (fun (l:List Id)=>@M9 l);clear hP cd ch b9 au bf aj cp be ca km a1 ao hl bg bu hg c0 cm cu cg b7 f2 f3 bb a6 ae c2 b4 ce cb bt f4 ak cf ad hK cz;generalize Cc ns=VA at*;generalize Ce ns dv=PK at*;generalize Aq ns=FA at*;generalize hXs:ns.flatMap Id.cells=XS at*;generalize hN:ns.length=N at*;replace hN:=Lib.hid hN;go_upto_region 7 with (go_at_call 18;(with_reducible refine (bm.out _).mono ?_);rintro _ _ ⟨rfl,rfl⟩)
 have s0:(0:Int)≤(K:Int):=by omega
 have s1:(K:Int)≤(N:Int):=by omega
 have al:=o4.cap;have cv:=al.1;have cq:=al.2;have s2:(N:Int)≤(c4:Int):=by omega
 have s3:(K:Int)≤(c4:Int):=by omega
 have C0:w4.cell? ⟨gv,2,none⟩=some (.slice r.iA r.ids.length r.iC):=bz;have F0:Fr Non w4 w4.drew:=(Fr.refl Non w4).drew;refine wp_region_held_drew (S:=fun w'=>w'.cell? ⟨gv,2,none⟩=some (.slice r.iA r.ids.length r.iC)) (by kernel_rfl) C0 (fun hHeld=> ?_);clear hHeld;refine tkH 0 C0 (h:=tkH 1 C0 (h:=tkH 2 C0 (h:=tkH 4 C0 (h:=tkH 5 C0 (h:=tkH 6 C0 (h:=?_))))));simp only [List.set];refine oG 3 (fun K1 hK1=> ?_);refine Dx (base:=w4.heap.size) (.const (.slice none 0 0)) (.tmp 37) 25 rfl rfl rfl Cp (Own.nil w4.drew w4.heap.size 41 3) (Rd.partN (o4.fr F0 zr).rd (lo:=K) (hi:=N) a0 (Nat.le_refl _) _ (fun hlt=>if_neg (by omega))) (fun u hu=>az _ _ u hu) (by omega) (by omega) (Nat.le_refl _) ?_;intro A8 c8 v1 af cj bc;rw [Nat.zero_add,List.nil_append] at af;have F1:Fr Non w4 v1:=F0.trans cj (fun k hk e=>by cases e);have C1:=F1.cell C0 zq;refine hK1.out _ _ C1 (fun hZ=> ?_);clear hZ hK1 K1 bc cj;try simp only [Aj,List.set,Nat.zero_add]
 refine oG 7 (fun K1 hK1=> ?_);refine Dx (base:=w4.heap.size) (.tmp 38) (.tmp 41) 25 rfl rfl rfl Cp af ((o4.fr F1 zr).rd.takeN (m:=K) a0) (fun u hu=>ag _ u hu) (by omega) (by omega) F1.size ?_;intro A9 c9 v2 ab bx a8;have F2:Fr Non w4 v2:=F1.trans bx (fun k hk e=>by have:=(af.row k e).1;omega);have C2:=F2.cell C0 zq;refine hK1.out _ _ C2 (fun hZ=> ?_);clear hZ hK1 K1 a8 bx;try simp only [Aj,List.set]
 refine tkH 8 C2 (h:=?_);simp only [List.set];refine oD ?_;go_simp;generalize (if c4=K then A4 else Option.map (fun x=>x.add (K*3)) A4)=AD;have bj:N-K+K=N:=Nat.sub_add_cancel a0;rw [br,bj] at ab;try rw [bj]
 have bk:=Lib.hid (fun (gv:Value) (v:World) (hv:Fr Non v2 v)=>Gt v2.heap.size N c9 A9 BS gv v aw (ab.rd.fr hv zr) (by omega) aa);have ap:=Lib.hid (fun (gv:Value) (v:World) (hv:Fr Non v2 v)=>Jw v2.heap.size N c9 A9 BS dv gv v aw (ab.rd.fr hv zr) (by omega) aa);have a2:=Lib.hid (fun (gv:Value) (v:World) (hv:Fr Non v2 v)=>Js v2.heap.size N c9 A9 BS gv v aw (ab.rd.fr hv zr) (by omega) aa);rw [bl.out] at bk;rw [bi.out] at ap;rw [bd.out] at a2;have ay:=Lib.hid (fun (gv:Value) (v:World) (hv:Fr Non v2 v)=>ck.out gv v (F2.trans hv zr));have ac:=Lib.hid (fun (gv:Value) (v:World) (hv:Fr Non v2 v)=>b8.out gv v (F2.trans hv zr));have ah:=Lib.hid (fun (gv:Value) (v:World) (hv:Fr Non v2 v)=>cc.out gv v (F2.trans hv zr));have bh:=b2.trans F2 zr;have co:=Fr.refl Non v2;clear ck b8 cc ab af br bl bd bi aa o4 az ag hXs bj F0 F1 F2 C0 C1 C2 b2 bz s0 s1 s2 s3 al cv cq bm e4 hN aw cn cx a0 tv0 tv1;obtain ⟨nF,a5⟩:=Ab FA.length;rw [a5.out] at b0
 go_upto_region 10 with (first
  |(go_at_call 12;(with_reducible refine (ay.out _ _ co).mono ?_);rintro _ w5 ⟨A5,c5,rfl,o5,f5⟩)
  |(go_at_call 12;(with_reducible refine (bk.out _ _ f5).mono ?_);rintro _ w6 ⟨A6,c6,rfl,o6,f6⟩))
 have bo:=o5.rd.fr f6 zr;have ba:=o6.rd;rw [a5.out] at bo ba ⊢;have ci:=f5.trans f6 zr;have dd:((nF:Int) !=(nF:Int))=false:=by simp
 have hE:=Al6;clear o5 o6 f5 f6;go_wp2_with (fail)
 go_loopw [16] (fun v wr=>∃k:Nat,v=.int .i64 (k:Int)∧k≤nF∧Fr Non w6 wr) (fun v _=>nF-(intOf v).toNat)
 case atStart=>exact ⟨0,rfl,Nat.zero_le _,Fr.refl _ _⟩
 case round=>
  obtain ⟨k,rfl,hk,hf⟩:=hrel
  by_cases hkn:k<nF
  ·
   obtain ⟨f,a9⟩:∃f,FA[k]? =some f:=⟨_,List.getElem?_eq_getElem (by rw [a5.out];exact hkn)⟩;obtain ⟨b5,q5,rfl,_,h5⟩:=Dn (f:=Cn) (fun _=>rfl) (by omega) (bo.fr hf zr) a9;obtain ⟨b6,q6,rfl,_,h6⟩:=Dn (f:=Cn) (fun _=>rfl) (by omega) (ba.fr hf zr) a9;have P0:wr.cell? ⟨b5,q5+k*2,none⟩=some (.int .i64 f.1):=h5 0 (by omega) _ rfl;have Q0:wr.cell? ⟨b5,q5+k*2+1,none⟩=some (.int .i64 f.2):=h5 1 (by omega) _ rfl;have R0:wr.cell? ⟨b6,q6+k*2,none⟩=some (.int .i64 f.1):=h6 0 (by omega) _ rfl;have S0:wr.cell? ⟨b6,q6+k*2+1,none⟩=some (.int .i64 f.2):=h6 1 (by omega) _ rfl;have j1:(0:Int)≤k:=by omega
   have j2:(k:Int)<nF:=by omega
   have j3:(k:Int).toNat=k:=by omega
   have u0:decide ((k:Int)<nF)=true:=decide_eq_true j2;have cw:decide (k<nF)=true:=decide_eq_true hkn;have e1:IntKind.i64.wrap ((k:Int)+1)=(k:Int)+1:=IntWalk.i64_in _ (by omega);have F0:Fr Non wr wr.drew:=(Fr.refl Non wr).drew;clear h5 h6 a9;go_upto_region 15 with (fail)
   refine wp_region_held_drew (S:=fun w'=>w'.cell? ⟨b5,q5+k*2,none⟩=some (.int .i64 f.1)∧w'.cell? ⟨b5,q5+k*2+1,none⟩=some (.int .i64 f.2)∧w'.cell? ⟨b6,q6+k*2,none⟩=some (.int .i64 f.1)∧w'.cell? ⟨b6,q6+k*2+1,none⟩=some (.int .i64 f.2)) (by kernel_rfl) ⟨P0,Q0,R0,S0⟩ (fun hHeld=> ?_);clear hHeld;refine tkH 0 ⟨P0,Q0,R0,S0⟩ (h:=tkH 1 ⟨P0,Q0,R0,S0⟩ (h:=tkH 2 ⟨P0,Q0,R0,S0⟩ (h:=tkH 3 ⟨P0,Q0,R0,S0⟩ (h:=tkH 4 ⟨P0,Q0,R0,S0⟩ (h:=tkH 5 ⟨P0,Q0,R0,S0⟩ (h:=tkH 6 ⟨P0,Q0,R0,S0⟩ (h:=tkH 7 ⟨P0,Q0,R0,S0⟩ (h:=tkH 8 ⟨P0,Q0,R0,S0⟩ (h:=?_)))))))));simp only [List.set];refine oD ?_;go_simp;have fz:=hf.trans F0 zr;go_wp2_with (fail);go_roundw
   case rel=>exact ⟨k+1,by go_num,by omega,fz⟩
   case measure=>simp [intOf];omega
  ·
   obtain rfl:k=nF:=by omega
   have u0:decide ((k:Int)<k)=false:=decide_eq_false (by omega);have cw:decide (k<k)=false:=decide_eq_false (by omega);have g6:=ci.trans hf zr;clear bo ba;have ax:(Tryz.prog.info? 52).map (·.size)=some (Co PK).size:=by rw [Ee,Gu]
   have a4:(Co PK).all (·.oneCell')=true:=Na _;have a3:(#[.int .i64 0,.int .i64 0,.int .u64 0,.int .i64 0,.int .i64 0,.int .u64 0]:Array Value).size=(Co PK).size:=by rw [Gu];rfl
   have bs:=Td PK;have db:=Te;unfold Ef at ac ap;obtain ⟨TC,b3⟩:=Ab (Co PK);rw [b3.out] at ac ap ax a4 a3 bs;obtain ⟨FO,cl⟩:=Ab PK.isSome;rw [cl.out] at ac ap;have da:(FO==FO)=true:=beq_self_eq_true _;go_upto_region 18 with (go_at_call 22;(with_reducible refine (ac.out _ _ g6).mono ?_);rintro _ w7 ⟨rfl,f7⟩;(have ai:=Bb (P:=Tryz.prog) w7.heap.size 52 (cs:=TC) ax (old:=#[.int .i64 0,.int .i64 0,.int .u64 0,.int .i64 0,.int .i64 0,.int .u64 0]) a3 a4);(have bn:=Blk.new w7 52 #[.int .i64 0,.int .i64 0,.int .u64 0,.int .i64 0,.int .i64 0,.int .u64 0]))
   have bp:Blk ((w7.alloc (.cells #[.int .i64 0,.int .i64 0,.int .u64 0,.int .i64 0,.int .i64 0,.int .u64 0] 52)).setRow w7.heap.size TC) w7.heap.size 52 TC:=bn.setRow;have fT:Fr Non w7 ((w7.alloc (.cells #[.int .i64 0,.int .i64 0,.int .u64 0,.int .i64 0,.int .i64 0,.int .u64 0] 52)).setRow w7.heap.size TC):=((Fr.refl Non w7).alloc _).setRow (fun hh=>absurd hh (by omega)) _;have g8:=g6.trans (f7.trans fT zr) zr;clear ai bn fT f7;generalize (w7.alloc (.cells #[.int .i64 0,.int .i64 0,.int .u64 0,.int .i64 0,.int .i64 0,.int .u64 0] 52)).setRow w7.heap.size TC=w8 at*;obtain ⟨pB,bw⟩:=Ab w7.heap.size;rw [bw.out] at bp ⊢;go_upto_region 19 with (go_at_call 22;(with_reducible refine (ap.out _ _ g8).mono ?_);rintro _ w9 ⟨rfl,f9⟩;(have ai:=Bb (P:=Tryz.prog) w9.heap.size 52 (cs:=TC) ax (old:=#[.int .i64 0,.int .i64 0,.int .u64 0,.int .i64 0,.int .i64 0,.int .u64 0]) a3 a4);(have bn:=Blk.new w9 52 #[.int .i64 0,.int .i64 0,.int .u64 0,.int .i64 0,.int .i64 0,.int .u64 0]))
   have bq:Blk ((w9.alloc (.cells #[.int .i64 0,.int .i64 0,.int .u64 0,.int .i64 0,.int .i64 0,.int .u64 0] 52)).setRow w9.heap.size TC) w9.heap.size 52 TC:=bn.setRow;have fT:Fr Non w9 ((w9.alloc (.cells #[.int .i64 0,.int .i64 0,.int .u64 0,.int .i64 0,.int .i64 0,.int .u64 0] 52)).setRow w9.heap.size TC):=((Fr.refl Non w9).alloc _).setRow (fun hh=>absurd hh (by omega)) _;have a7:=f9.trans fT zr;have de:=bp.fr a7 zq;have gA:=g8.trans a7 zr;clear ai bn fT f9 a7 bp;generalize (w9.alloc (.cells #[.int .i64 0,.int .i64 0,.int .u64 0,.int .i64 0,.int .i64 0,.int .u64 0] 52)).setRow w9.heap.size TC=wA at*;obtain ⟨qB,b1⟩:=Ab w9.heap.size;rw [b1.out] at bq ⊢;have lp:=Bi (P:=Tryz.prog) pB 52 Tryz.underlying52 rfl (cs:=TC) ax;have lq:=Bi (P:=Tryz.prog) qB 52 Tryz.underlying52 rfl (cs:=TC) ax;have kS:=Lib.hid (fun (B B' c c':Nat) (A A':Option Addr) (v:World) (h1:Rd v B 3 A VA.length (VA.flatMap Id.cells)) (h2:Rd v B' 3 A' VA.length (VA.flatMap Id.cells))=>Rv B VA.length c B' VA.length c' A A' VA VA v rfl rfl h1 h2 (by omega) true (by simp));unfold Ad at kS;have c1:=Lib.hid (fun (v:World) (hv:Fr Non v2 v)=>av.out v (bh.trans hv zr));have ct:=Lib.hid (fun (v:World) (hv:Fr Non v2 v)=>ar.out v (bh.trans hv zr));clear av ar b0 ac ap ay bk hf ci g6 g8 a4 a3 b3 cl bw b1 a5 bh;unfold Eb at ah a2;obtain ⟨nV,cr⟩:=Ab VA.length;rw [cr.out] at ah a2 kS;generalize VA.flatMap Id.cells=VC at*
   go_wp2_with (first
    |(go_at_call 13;(with_reducible refine (ah.out _ _ gA).mono ?_);rintro _ wB ⟨A7,c7,rfl,o7,f7⟩;have gB:=gA.trans f7 zr)
    |(go_at_call 13;(with_reducible refine (a2.out _ _ gB).mono ?_);rintro _ wC ⟨A8,c8,rfl,o8,f8⟩;have gC:=gB.trans f8 zr;have c3:=Lib.hid (kS.out _ _ c7 c8 _ _ wC (o7.rd.fr f8 zr) o8.rd))
    |(go_at_call 20;(with_reducible refine (c3.out).mono ?_);rintro _ wD ⟨rfl,fD⟩;have gD:=gC.trans fD zr;have kl:=Lib.hid (c1.out _ gD))
    |(go_at_call 15;(with_reducible refine (kl.out).mono ?_);rintro _ wq ⟨rfl,fq⟩;(have hd:=Lib.hid (ct.out wq (gD.trans fq zr)))))
   exact hd.out
end Oq
end
section
open Go.ChangeShapes Go.WideShapes Go.ChangeAt Go.RowKit
theorem Am6 (os:Os) (started:os.Started) (H:Type) (enc:TypeId × Value→H):
  ReturnsInHanded {} Tryz.checked os 6 .any (fun w args=>(Rows.forkRowSpec.pre enc Tryz.prog Tryz.f6 [] false w args∧laidMetH Tryz.prog [("huddle/op.kinds",Rows.laid_huddle_op_kinds)] w)∧sizedMet enc Tryz.prog Tryz.f6 (OpenSpec.ofChange Rows.forkRowSpec) false w args)
   (Rows.forkRowSpec.post enc Tryz.prog Tryz.f6 false true false false):=by
 refine returnsInHanded_of_change_and (C:=Tryz.checked) (X:=fun w _=>laidMetH Tryz.prog [("huddle/op.kinds",Rows.laid_huddle_op_kinds)] w) (fun _ _ _ hh h=>h.of_heap hh) Tryz.own started (by kernel_rfl) Tryz.func6
  (ChangeSpec.witness_at (enc:=enc) (C:=Tryz.checked) (os:=os) (X:=fun w _=>laidMetH Tryz.prog [("huddle/op.kinds",Rows.laid_huddle_op_kinds)] w) false (Hc os) #[.slice none 0 0,.slice none 0 0,.int .i64 0,.int .i64 0] 8 rfl (by kernel_rfl) (by kernel_rfl) (by kernel_rfl) (by kernel_rfl) (by kernel_rfl) (Kz os _)) ?_
 intro W base args ds gs before hval0 hW _ _ hL _;have hk:=Ky hL;have hval:∀(j:Nat) t v,Tryz.f6.params[j]? =some t→args[j]? =some v→Value.okWide Tryz.prog W .any base t v:=hval0;have hW':=hW;obtain ⟨p,q,hA0,hV,rfl,hfz,hnd⟩:=hW;have hA:DataW.TrodAll enc Tryz.prog W 0 (fun _=>true) true Tryz.f6.params.toList args.toList ds p:=hA0;rw [Tryz.params6] at hA hval;obtain ⟨v0,v1,v2,v3,d0,d1,d2,d3,p0,p1,p2,p3,rfl,rfl,rfl,h0,h1,h2,h3⟩:=trodAll_four hA;obtain ⟨A0,c0,l0,rfl,hlc0,hc0,hr0,hok0⟩:=Gg Tryz.underlying22 Tryz.underlying3 (by kernel_rfl) (hval 0 22 v0 rfl rfl) h0;obtain ⟨A1,c1,l1,rfl,hlc1,hc1,hr1,hok1⟩:=Gg Tryz.underlying22 Tryz.underlying3 (by kernel_rfl) (hval 1 22 v1 rfl rfl) h1;obtain ⟨x2,rfl,rfl,rfl,wf2⟩:=open_int Tryz.underlying3 (hval 2 3 v2 rfl rfl) h2;have bd2:=Gx wf2;obtain ⟨x3,rfl,rfl,rfl,wf3⟩:=open_int Tryz.underlying3 (hval 3 3 v3 rfl rfl) h3;have bd3:=Gx wf3;refine (Oq.forkRow_law A0 c0 l0 A1 c1 l1 x2 x3 W hk hr0 hlc0 hc0 hok0 hr1 hlc1 hc1 hok1 bd2.1 bd2.2 bd3.1 bd3.2).mono fun e W' ⟨he,hf⟩=> ?_;exact ⟨_,he,J5 Tryz.laidOut (by kernel_rfl) rfl (by kernel_rfl) Tryz.underlying4 hW' ⟨rfl,rfl,rfl⟩ hf⟩
theorem Am7:Rows.ForkRowSaid:=
 OpenClaim.holds_of_wide 6 Tryz.f6 rfl rfl rfl rfl rfl rfl rfl ⟨rfl,rfl,rfl,rfl,rfl⟩ rfl rfl rfl rfl rfl (by kernel_rfl) Tryz.func6 (by kernel_rfl)
  (of_decide_eq_true (by kernel_rfl)) (by unfold Func.isWrapper;rw [if_neg (by decide+kernel)];exact ⟨rfl,rfl⟩)
  (fun os started H enc _=>Am6 os started H enc)
end
section
open Go
theorem forkRow_card_holds:Rows.ForkRowCardSaid:=
 Claim7.holds_tied_plain_at .later [] [.data] true (true, "5a1175df055d93971c25109e8ab4623de026253a388d36766dc23903d972f333") false
  Am7 (fun _ h=>by cases h) (by kernel_rfl) (fun _ h=>by cases h) forkRow_row_tie rfl ⟨rfl,rfl⟩ (by kernel_rfl) rfl
  (fun f fn hf hfn=>by
   obtain rfl:f=6:=Option.some.inj ((show Tryz.prog.funcNamed "huddle/huddlelaw13.ForkRow" =some 6 by kernel_rfl).symm.trans hf)|>.symm;obtain rfl:fn=Tryz.f6:=(Option.some.inj (Tryz.func6.symm.trans hfn)).symm
   exact ⟨by kernel_rfl,fun j t ht=>by
    rw [Tryz.params6] at ht
    have hm:t∈([22,22,3,3]:List TypeId):=by
     have h2:=Array.mem_of_getElem? ht;simpa using h2
    have hall:([22,22,3,3]:List TypeId).all (fun t=> !(Tryz.prog.wantsStandIn t))=true:=by kernel_rfl
    have:=List.all_eq_true.1 hall t hm;exact (by simpa using this:Tryz.prog.wantsStandIn t=false)⟩)
  (by kernel_rfl)
end
end Go.Proofs.YtkanjaikgphjfaaGreatDoor
