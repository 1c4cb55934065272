/-
  huddlelaw12.GraphAdds: what is taken in, and why something is not, is the document's, one behind the other.
    Conditions: op.kinds lies as its text lays it; the numbers read.
  GraphAdds: whatever the input is, where the one listed variable is as its text lays it, the law returns true, and nothing that was there has turned.
    Condition: none.
  GraphAdds: the tied card.
    Condition: none.
-/
import Derived.ChangeVars
import Derived.JoinedOf
import Derived.RowKitTokens
import Derived.LaidLaws
import Derived.Test.YthpkjfliibdnjaaGreatDoorTie
import Derived.Test.YthpkjfliibdnjaaGreatDoorCards
import Derived.SevenTiedAt
import Derived.Test.YthpkjfliibdnjaaGreatDoorGaM1
import Derived.Test.YthpkjfliibdnjaaGreatDoorGaM4
import Derived.Test.YthpkjfliibdnjaaGreatDoorGaM13
import Derived.Test.YthpkjfliibdnjaaGreatDoorGaM16
import Derived.Test.YthpkjfliibdnjaaGreatDoorGaM17
import Derived.Test.YthpkjfliibdnjaaGreatDoorGaM18
set_option maxRecDepth 100000
set_option maxHeartbeats 16000000
open Int renaming tdiv_eq_ediv_of_nonneg→An1
open List renaming length_map→Am6,getElem?_eq_getElem→Am8,getElem?_map→Am9,mem_of_getElem?→An0
open Nat renaming le_refl→Am7
namespace Go.Proofs.YthpkjfliibdnjaaGreatDoor
section
open Go.RowKit
attribute [local go_sem ↓] Go.wp_at_zero Go.wp_at_succ
namespace Oq
attribute [local go_sem ↓] Ch Ea
attribute [local go_sem] Bool.not_false Bool.not_true
attribute [local go_sem ↓] Ei Lv
theorem graphAdds_law (A:Option Addr) (c:Nat) (l0:List Int) (Ak:Option Addr) (ck:Nat) (lk:List Int) (Ah:Option Addr) (ch:Nat) (lh:List Int) (w:World) (hk:KindsAt w)
  (hr:Rd w w.heap.size 1 A l0.length (l0.map Iv)) (hnc:l0.length≤c) (hnm:c≤9223372036854775807) (hok:∀x∈l0,I64 x)
  (hrk:Rd w w.heap.size 1 Ak lk.length (lk.map Iv)) (hkc:lk.length≤ck) (hkm:ck≤9223372036854775807) (hokk:∀x∈lk,I64 x)
  (hrh:Rd w w.heap.size 1 Ah lh.length (lh.map Iv)) (_hhc:lh.length≤ch) (_hhm:ch≤9223372036854775807) (hokh:∀x∈lh,I64 x):
  Calls Tryz.prog 3 #[.slice A l0.length c,.slice Ak lk.length ck,.slice Ah lh.length ch] w (Ad true w):=by
 have hi:(Tryz.prog.info? 44).map (·.size)=some OpL.zero.cells.size:=by rw [show OpL.zero.cells.size=27 from rfl];kernel_rfl
 have di:0<w.heap.size:=World.block_lt_of_cell? w _ (hk 0 (by decide));have km:=Lib.hid (Ak7 w.heap.size l0.length c A l0 w rfl hr hnc hnm hok);have du:=Lib.hid (fun (b:Nat) (r:RG) (w':World) (hf:Fr Non w w') (h:r.own w' b) (hcs:r.cards=Ba 0 [1,2,3,1])=>Hz b r w' h hcs (Nat.lt_of_lt_of_le di hf.size) (hk.fr hf));have b6:=fun (w':World) (hf:Fr Non w w')=>Am1 w' (hk.fr hf);unfold Ad at b6;replace b6:=Lib.hid b6;have dh:Hid (∀wz,Fr Non w wz→Ad true w (.returned (.bool true)) wz):=fun wz h=>⟨rfl,h⟩;generalize Ad true w=POST at*;obtain ⟨nl,d4⟩:=Aa l0.length;rw [d4.out] at km ⊢;obtain ⟨nk,c3⟩:=Aa lk.length;rw [c3.out] at hrk hkc ⊢;obtain ⟨nh,dg⟩:=Aa lh.length;rw [dg.out] at hrh ⊢;clear hr hnc hnm hok d4;go_enter Tryz.func3,Tryz.ntmps3;go_upto_region 2 with (first|(go_at_call 4;(with_reducible refine (km.out).mono ?_);rintro _ w1 ⟨r,rfl,f1,ro,d7,_⟩;have bn:=Blk.new w1 29 zG;have ay:=Bf (P:=Tryz.prog) w1.heap.size 29 (cs:=r.cells) Cc (old:=zG) rfl (Dn r)))
 have bG:Blk ((w1.alloc (.cells zG 29)).setRow w1.heap.size r.cells) w1.heap.size 29 r.cells:=bn.setRow (cs:=r.cells);have fG:Fr Non w1 ((w1.alloc (.cells zG 29)).setRow w1.heap.size r.cells):=((Fr.refl Non w1).alloc _).setRow (fun hh=>absurd hh (by omega)) _;have ap:=ro.non fG;have cf:=f1.trans fG zr;have cl:w.heap.size≤w1.heap.size:=f1.size;obtain ⟨gv,ej⟩:=Aa w1.heap.size;rw [ej.out] at bG ap cf cl ⊢;clear ay bn ro fG f1 km ej;generalize (w1.alloc (.cells zG 29)).setRow gv r.cells=w2 at*;have eg:gv<w2.heap.size:=bG.lt;have hl:=Aq (P:=Tryz.prog) gv 29 Tryz.underlying29 rfl (cs:=r.cells) Cc;go_upto_region 3 with (go_at_call 5;(with_reducible refine (du.out _ r _ cf ap d7).mono ?_);rintro _ w3 ⟨g,b,rfl,gh,hg,fb,e8,f3⟩)
 have fa:=bG.fr f3 zq;have fn:=ap.non f3;have fv:=cf.trans f3 zr;obtain ⟨gb,ec⟩:=Aa g.gb;rw [ec.out];clear du bG ap cf f3 hl;go_wp2_with (fail)
 go_loopw [9] (fun v wr=>∃(i:Nat) (r':RG) (g':Gph),v=.int .i64 (i:Int)∧i≤6∧Hid (r'.own wr w.heap.size)∧Blk wr gv 29 r'.cells∧Hid (GAt wr b g')∧Hid (g'.gb=gb∧g'.cards=r'.cards∧r'.cards=Ba 0 [1,2,3,1]∧g'.pns=r'.l)∧Fr Non w wr) (fun v _=>6-(intOf v).toNat)
 case atStart=>exact ⟨0,r,g,rfl,by omega,fn,fa,hg,⟨ec.out,fb,d7,e8⟩,fv⟩
 case round=>
 obtain ⟨i,r',g',rfl,fy,a3,bv,br,c2,hf⟩:=hrel;obtain ⟨J,hJ⟩:∃J:Nat,4*i=J:=⟨_,rfl⟩;have f0:4*(i:Int)=(J:Int):=by omega
 have el:IntKind.i64.wrap (4*(i:Int))=(J:Int):=by rw [IntWalk.i64_in _ (by omega)];omega
 have gg:wrap64 (4*(i:Int))=(J:Int):=by rw [← IntWalk.i64_left];exact el
 by_cases hlt:i<6∧J<nk
 case neg=>
  have t0:decide ((i:Int)<6)=false∨(decide ((i:Int)<6)=true∧decide ((J:Int)<(nk:Int))=false∧decide (J<nk)=false):=by
   by_cases h6:i<6
   · exact .inr ⟨decide_eq_true (by omega),decide_eq_false (by omega),decide_eq_false (by omega)⟩
   · exact .inl (decide_eq_false (by omega))
  obtain ⟨aj,ba,a8,ah⟩:=c2.out
  have aq:Hid (∀w',Fr Non wr w'→Calls Tryz.prog 20 #[.pointer (some ⟨gb,0,none⟩)] w' (Cg (Am (r'.l.map Pn.id)) w')):=by
   intro w' cv;have:=Zo b g' w' Qz (br.out.fr cv);rw [aj] at this;refine this.mono ?_;rintro e bc ⟨A5,c5,out,rfl,hp,hs,o5,f5⟩;obtain rfl:=Nn hs (Am3 ah hp);exact ⟨A5,c5,rfl,o5,f5⟩
  have fu:(Am (r'.l.map Pn.id)).length≤200:=by rw [Ej,Am6];exact a3.out.few
  have cb:Hid (∀w',Fr Non wr w'→Calls Tryz.prog 21 #[.agg r'.cells] w' (Cg (Am (r'.l.map Pn.id)) w')):=by
   intro w' cv;have:=Lr w.heap.size r' w' (a3.out.non cv);refine this.mono ?_;rintro e bc ⟨A5,c5,rfl,o5,f5⟩;have hn:r'.l.length=(Am (r'.l.map Pn.id)).length:=by rw [Ej,Am6]
   rw [hn] at o5 ⊢;exact ⟨A5,c5,rfl,o5,f5⟩
  obtain ⟨IS,fp⟩:=Aa (Am (r'.l.map Pn.id));rw [fp.out] at aq cb fu;have a6:Hid (∀(A5 A6:Option Addr) (c5 c6:Nat) (w':World),Rd w' w'.heap.size 3 A5 IS.length (IS.flatMap Id.cells)→Rd w' w'.heap.size 3 A6 IS.length (IS.flatMap Id.cells)→Calls Tryz.prog 9 #[.slice A5 IS.length c5,.slice A6 IS.length c6] w' (Ad true w')):=fun A5 A6 c5 c6 w' h1 h2=>Rw w'.heap.size IS.length c5 w'.heap.size IS.length c6 A5 A6 IS IS w' rfl rfl h1 h2 (by omega) true (by simp);unfold Ad at a6;unfold Cg at aq cb;obtain ⟨NI,en⟩:=Aa IS.length;rw [en.out] at aq cb a6;have hl:=Aq (P:=Tryz.prog) gv 29 Tryz.underlying29 rfl (cs:=r'.cells) Cc;have V0:=bv;have F0:Fr Non wr wr.drew:=(Fr.refl Non wr).drew;clear c2 a3 hrk hrh br
  rcases t0 with t0|⟨t0,t1,ew⟩
  all_goals
   clear bv;go_upto_region 23 with (fail)
   refine wp_region_held_drew (S:=fun w'=>Blk w' gv 29 r'.cells) (by kernel_rfl) V0 (fun hHeld=> ?_);clear hHeld;refine tkH 0 V0 (h:=tkH 2 V0 (h:=?_));simp only [List.set];refine oG 1 (fun K hK=> ?_);go_simp;go_wp2_with (go_at_call 20;(with_reducible refine (aq.out _ F0).mono ?_);rintro _ v1 ⟨A5,c5,rfl,ev,ae⟩;have F1:=F0.trans ae zr;have V1:=V0.fr F1 zq;have G1:=hf.trans F1 zr);refine hK.out _ _ V1 (fun hZ=> ?_);clear hZ hK K;try simp only [Ab,List.set]
   refine oG 3 (fun K hK=> ?_);go_simp;go_wp2_with (go_at_call 21;(with_reducible refine (cb.out _ F1).mono ?_);rintro _ v2 ⟨A6,c6,rfl,cz,ab⟩;have F2:=F1.trans ab zr;have V2:=V0.fr F2 zq;have G2:=hf.trans F2 zr;have cx:=ev.rd.fr ab zr);refine hK.out _ _ V2 (fun hZ=> ?_);clear hZ hK K;try simp only [Ab,List.set]
   refine oG 4 (fun K hK=> ?_);go_simp;go_wp2_with (go_at_call 9;(with_reducible refine (a6.out _ _ _ _ _ (cx.mono ab.size) cz.rd).mono ?_);rintro _ v3 ⟨rfl,bq⟩;have F3:=F2.trans bq zr;have V3:=V0.fr F3 zq;have G3:=hf.trans F3 zr);refine hK.out _ _ V3 (fun hZ=> ?_);clear hZ hK K;try simp only [Ab,List.set]
   refine tkH 5 V3 (h:=?_);simp only [List.set];refine oG 6 (fun K hK=> ?_);go_simp;go_wp2_with (go_at_call 22;(with_reducible refine (b6.out _ G3).mono ?_);rintro _ v4 ⟨rfl,da⟩;have F4:=F3.trans da zr;have V4:=V0.fr F4 zq;have G4:=hf.trans F4 zr);refine hK.out _ _ V4 (fun hZ=> ?_);clear hZ hK K;try simp only [Ab,List.set]
   refine tkH 7 V4 (h:=tkH 8 V4 (h:=?_));simp only [List.set];refine oD ?_;go_simp;go_wp2_with (fail);exact dh.out _ G4
 case pos=>
 obtain ⟨gi,ed⟩:=hlt;have t0:decide ((i:Int)<6)=true:=decide_eq_true (by omega);have t1:decide ((J:Int)<(nk:Int))=true:=decide_eq_true (by omega);have ew:decide (J<nk)=true:=decide_eq_true (by omega);obtain ⟨aj,ba,a8,ah⟩:=c2.out;go_upto_region 8 with (fail)
 have fm:(J:Int)≤(nk:Int):=by omega
 have ge:IntKind.i64.wrap (J:Int)=(J:Int):=IntWalk.i64_in _ (by omega);have gc:((J:Int)).toNat=J:=by omega
 have f7:(0:Int)≤(J:Int):=by omega
 have hl:=Aq (P:=Tryz.prog) gv 29 Tryz.underlying29 rfl (cs:=r'.cells) Cc;have bb:Hid ((lk.drop J).length=nk-J):=by show _=_;rw [List.length_drop,c3.out]
 have bu:Rd w w.heap.size 1 (if ck=J then Ak else Option.map (fun x=>x.add J) Ak) (nk-J) ((lk.drop J).map Iv):=by
  have h1:=Rd.part hrk (lo:=J) (hi:=nk) (by omega) (Am7 _) (if ck=J then Ak else Option.map (fun x=>x.add J) Ak) (by intro h;first|rw [if_neg (by omega)]|(intro _;rw [if_neg (by omega)]));rw [← List.map_drop,List.take_of_length_le (by rw [Am6];exact Nat.le_of_eq bb.out)] at h1;exact h1
 have kN:=Lib.hid (fun (w':World) (h:Fr Non wr w')=>Sy w.heap.size w.heap.size (nk-J) (ck-J) r' (if ck=J then Ak else Option.map (fun x=>x.add J) Ak) (lk.drop J) w' (a3.out.non h) a8 bb (bu.fr (hf.trans h zr) zr) (fun x hx=>hokk x (List.mem_of_mem_drop hx)))
 go_cut [10] from 34 to 39 (fun s wc=>∃(y:OpL) (oB:Nat),s=.pointer (some ⟨oB,0,none⟩)∧Blk wc oB 44 y.cells∧Hid (y.op.ok)∧Hid (y.lies wc w.heap.size)∧Hid (FewN y.op)∧wr.heap.size≤oB∧Fr Non wr wc)
 case first=>
  have V0:=bv;have d5:w.heap.size≤wr.heap.size:=hf.size;have F0:Fr Non wr wr.drew:=(Fr.refl Non wr).drew;refine wp_region_held_drew (S:=fun w'=>Blk w' gv 29 r'.cells) (by kernel_rfl) V0 (fun hHeld=> ?_);clear hHeld;refine tkH 0 V0 (h:=tkH 1 V0 (h:=tkH 2 V0 (h:=tkH 3 V0 (h:=tkH 4 V0 (h:=?_)))));simp only [List.set];refine Fq 5 6 (by kernel_rfl) rfl rfl (by kernel_rfl) (by kernel_rfl) (fun K hK=> ?_) (fun K hK=> ?_)
  ·
   skip
   go_simp;go_wp2_with (go_at_call 6;(with_reducible refine (kN.out _ F0).mono ?_);rintro _ v1 ⟨y,rfl,a5,be,ae,_,bd⟩;have F1:=F0.trans ae zr;have V1:=V0.fr F1 zq;have df:=Lib.hid (be.lies.lower F0.size));refine hK.out _ _ V1 (fun hZ=> ?_);clear hZ hK K;try simp only [Ab,List.set]
   refine oG 6 (fun K hK=> ?_);go_simp;have ab:Fr Non v1 (v1.alloc (.cells zO 44)):=(Fr.refl _ _).alloc _;have ad:=Blk.new v1 44 zO;have a7:=Lib.hid (df.out.non ab);have F2:=F1.trans ab zr;have V2:=V0.fr F2 zq;obtain ⟨oB,af⟩:=Aa v1.heap.size;rw [af.out] at ad ⊢;have bw:wr.heap.size≤oB:=by rw [← af.out];exact F1.size
   refine hK.out _ _ V2 (fun hZ=> ?_);clear hZ hK K;try simp only [Ab,List.set]
   generalize v1.alloc (.cells zO 44)=v2 at*;have ay:=Bf (P:=Tryz.prog) oB 44 (cs:=y.cells) hi (old:=zO) rfl (Bm y);refine oG 7 (fun K hK=> ?_);go_simp;have ac:gv≠oB:=fun e=>by have:=bv.lt;omega
   have bz:=ad.setRow (cs:=y.cells);have fz:Fr Non wr (v2.setRow oB y.cells):=F2.setRow (fun hh=>absurd hh (by omega)) _;have hz:=Lib.hid ((a7.out.lower d5).keepP (Bp y.cells) (Types.one ad) (by decide) (by decide) (by decide) (by decide) (by decide) (by decide) (by decide));refine hK.out _ _ (V2.fr (Bp (w:=v2) y.cells) ac) (fun hZ=> ?_);clear hZ hK K;try simp only [Ab,List.set]
   refine oD ?_;go_simp;go_wp2_with (fail);go_meet;exact ⟨y,oB,rfl,bz,a5,hz,bd,bw,fz⟩
  ·
   have F0:Fr Non wr wr:=Fr.refl Non wr;go_simp;have ae:Fr Non wr ((wr.alloc (.cells zO 44)).drew):=(((Fr.refl Non wr).alloc (.cells zO 44)).drew:Fr Non wr _);have bl:=(Blk.new wr 44 zO).drew;have F1:=F0.trans ae zr;have V1:=V0.fr F1 zq;obtain ⟨oB,af⟩:=Aa wr.heap.size;rw [af.out] at bl ⊢;have bw:wr.heap.size≤oB:=by rw [← af.out];exact Am7 _
   refine hK.out _ _ V1 (fun hZ=> ?_);clear hZ hK K;try simp only [Ab,List.set]
   generalize (wr.alloc (.cells zO 44)).drew=v1 at*;refine oG 5 (fun K hK=> ?_);go_simp;go_wp2_with (go_at_call 6;(with_reducible refine (kN.out _ F1).mono ?_);rintro _ v2 ⟨y,rfl,a5,be,ab,_,bd⟩;have F2:=F1.trans ab zr;have V2:=V0.fr F2 zq;have a7:=Lib.hid (be.lies.lower F1.size);have ad:=bl.fr ab zq);refine hK.out _ _ V2 (fun hZ=> ?_);clear hZ hK K;try simp only [Ab,List.set]
   have ay:=Bf (P:=Tryz.prog) oB 44 (cs:=y.cells) hi (old:=zO) rfl (Bm y);refine oG 7 (fun K hK=> ?_);go_simp;have ac:gv≠oB:=fun e=>by have:=bv.lt;omega
   have bz:=ad.setRow (cs:=y.cells);have fz:Fr Non wr (v2.setRow oB y.cells):=F2.setRow (fun hh=>absurd hh (by omega)) _;have hz:=Lib.hid ((a7.out.lower d5).keepP (Bp y.cells) (Types.one ad) (by decide) (by decide) (by decide) (by decide) (by decide) (by decide) (by decide));refine hK.out _ _ (V2.fr (Bp (w:=v2) y.cells) ac) (fun hZ=> ?_);clear hZ hK K;try simp only [Ab,List.set]
   refine oD ?_;go_simp;go_wp2_with (fail);go_meet;exact ⟨y,oB,rfl,bz,a5,hz,bd,bw,fz⟩
 case rest=>
  obtain ⟨y,oB,rfl,bo,a5,b3,bd,bw,fc⟩:=hcut;clear kN bu bb hl;have b0:=hf.trans fc zr;have c8:=bv.fr fc zq;have bf:Hid (r'.own wc w.heap.size):=a3.out.non fc;have dc:Hid (GAt wc b g'):=br.out.fr fc;have bm:w.heap.size≤wc.heap.size:=b0.size;have ac:gv≠oB:=fun e=>by have:=bv.lt;omega
  clear bv;go_upto_region 9 with (fail)
  go_cut [51] from 40 to 50 (fun s wq=>wq=wc∧∃bt:Bool,s=.bool bt∧(bt=true→i<nh))
  case first=>
   by_cases az:i<nh
   case neg=>
    have u1:decide ((i:Int)<(nh:Int))=false:=decide_eq_false (by omega);have u2:decide (i<nh)=false:=decide_eq_false az;go_wp2_with (fail);go_meet;exact ⟨rfl,false,rfl,fun e=>by cases e⟩
   case pos=>
    have u1:decide ((i:Int)<(nh:Int))=true:=decide_eq_true (by omega);have u2:decide (i<nh)=true:=decide_eq_true az;obtain ⟨ci,b9,u,rfl,_,hu,c0⟩:=hrh.at az;obtain ⟨q,hq⟩:∃q,lh[i]? =some q:=⟨_,Am8 (by rw [dg.out];exact az)⟩;rw [Am9,hq] at hu;injection hu with hu
    subst hu;replace c0:w.cell? ⟨ci,b9+i,none⟩=some (.int .i64 q):=c0;have c1:=b0.cell c0 zq;have i1:(0:Int)≤i:=by omega
    have i2:(i:Int)<nh:=by omega
    have i3:(i:Int).toNat=i:=by omega
    obtain ⟨T,hT⟩:∃T:Int,q.tmod 3=T:=⟨_,rfl⟩;obtain ⟨bt,db⟩:∃bt:Bool,decide (T>0)=bt:=⟨_,rfl⟩;have e6:decide (0<T)=bt:=db;go_wp2_with (fail);go_meet;exact ⟨rfl,bt,rfl,fun _=>az⟩
  case rest=>
  obtain ⟨rfl,bt,rfl,db⟩:=hcut
  go_upto_if 51 with (fail)
  go_cut [] from 51 to 64 (fun wd=>∃z:OpL,Blk wd oB 44 z.cells∧Hid (z.op.ok)∧Hid (z.lies wd w.heap.size)∧Fr Non wr wd∧Fr (One oB) wc wd)
  case first=>
   cases bt
   case false=>
    go_wp2_with (fail);go_meet;exact ⟨y,bo,a5,b3,fc,Fr.refl _ _⟩
   case true=>
    have az:=db rfl;obtain ⟨ci,b9,u,rfl,_,hu,c0⟩:=hrh.at az;obtain ⟨q,hq⟩:∃q,lh[i]? =some q:=⟨_,Am8 (by rw [dg.out];exact az)⟩;rw [Am9,hq] at hu;injection hu with hu
    subst hu;replace c0:w.cell? ⟨ci,b9+i,none⟩=some (.int .i64 q):=c0;have d3:=hokh q (An0 hq);obtain ⟨dk,eb,u',rfl,_,ca,d0⟩:=hrk.at ed;obtain ⟨p,hp⟩:∃p,lk[J]? =some p:=⟨_,Am8 (by rw [c3.out];exact ed)⟩;rw [Am9,hp] at ca;injection ca with ca
    subst ca;replace d0:w.cell? ⟨dk,eb+J,none⟩=some (.int .i64 p):=d0;have e7:=hokk p (An0 hp);have c1:=b0.cell c0 zq;have d1:=b0.cell d0 zq;have i1:(0:Int)≤i:=by omega
    have i2:(i:Int)<nh:=by omega
    have i3:(i:Int).toNat=i:=by omega
    have j2:(J:Int)<nk:=by omega
    obtain ⟨D,hD⟩:∃D:Int,q.tdiv 3=D:=⟨_,rfl⟩
    have de:I64 D:=by
     have h1:=d3.1;have h2:=d3.2
     rcases Int.le_total 0 q with h|h
     ·
      rw [An1 h] at hD;constructor<;>omega
     ·
      have e:q.tdiv 3= -((-q)/3):=by rw [← An1 (by omega),Int.neg_tdiv,Int.neg_neg]
      rw [e] at hD;constructor<;>omega
    have f2:IntKind.i64.wrap D=D:=IntWalk.i64_in _ ⟨de.1,de.2⟩;have dl:=Lib.hid (fun (w':World) (h:Fr Non wc w')=>Aj6 w.heap.size r' y D p w' (bf.out.non h) (b3.out.non h) (Nat.le_trans bm h.size) a5.out bd.out de e7);unfold Jh at dl;have hl:=Aq (P:=Tryz.prog) gv 29 Tryz.underlying29 rfl (cs:=r'.cells) Cc;have ez:=Aq (P:=Tryz.prog) oB 44 Tryz.underlying44 rfl (cs:=y.cells) hi;go_upto_region 10 with (fail)
    have V0:=c8;have O0:=bo;have C0:=c1;have D0:=d1;have F0:Fr Non wc wc.drew:=(Fr.refl Non wc).drew;refine Cq (S:=fun w'=>Blk w' gv 29 r'.cells∧Blk w' oB 44 y.cells∧w'.cell? ⟨ci,b9+i,none⟩=some (.int .i64 q)∧w'.cell? ⟨dk,eb+J,none⟩=some (.int .i64 p)) 13 (by kernel_rfl) ?_;refine tkG 0 ⟨V0,O0,C0,D0⟩ (h:=tkG 1 ⟨V0,O0,C0,D0⟩ (h:=tkG 2 ⟨V0,O0,C0,D0⟩ (h:=tkG 3 ⟨V0,O0,C0,D0⟩ (h:=tkG 4 ⟨V0,O0,C0,D0⟩ (h:=tkG 5 ⟨V0,O0,C0,D0⟩ (h:=tkG 6 ⟨V0,O0,C0,D0⟩ (h:=tkG 7 ⟨V0,O0,C0,D0⟩ (h:=tkG 8 ⟨V0,O0,C0,D0⟩ (h:=tkG 9 ⟨V0,O0,C0,D0⟩ (h:=tkG 10 ⟨V0,O0,C0,D0⟩ (h:=tkG 11 ⟨V0,O0,C0,D0⟩ (h:=?_))))))))))));simp only [List.set];refine Bc 12 (by kernel_rfl) rfl (fun K hK=> ?_);go_simp;go_wp2_with (go_at_call 7;(with_reducible refine (dl.out _ F0).mono ?_);rintro _ v1 ⟨z,rfl,ag,bg,ae⟩;have F1:=F0.trans ae zr;have V1:=V0.fr F1 zq;have O1:=O0.fr F1 zq;have C1:=F1.cell C0 zq;have D1:=F1.cell D0 zq);refine hK.out _ _ ⟨V1,O1,C1,D1⟩ (fun hZ=> ?_);clear hZ hK K;try simp only [Ab,List.set]
    have ay:=Bf (P:=Tryz.prog) oB 44 (cs:=z.cells) hi (old:=y.cells) rfl (Bm z);refine Co (by kernel_rfl) ?_;refine oG 13 (fun K hK=> ?_);go_simp;have bz:=O1.setRow (cs:=z.cells);have fz:Fr Non wr (v1.setRow oB z.cells):=(fc.trans F1 zr).setRow (fun hh=>absurd hh (by omega)) _;have fo:Fr (One oB) wc (v1.setRow oB z.cells):=(F1.mono (fun _ _ e=>e.elim)).trans (Bp z.cells) zr;have hz:=Lib.hid (bg.keepP (Bp z.cells) (Types.one O1) (by decide) (by decide) (by decide) (by decide) (by decide) (by decide) (by decide));refine hK.out _ _ trivial (fun hZ=> ?_);clear hZ hK K;try simp only [Ab,List.set]
    refine oD ?_;go_simp;go_wp2_with (fail);go_meet;exact ⟨z,bz,ag,hz,fz,fo⟩
  case rest=>
  obtain ⟨z,bz,ag,bg,fd,fo⟩:=hcut;generalize wc=wd at*;have ee:=c8.fr fo ac;have e2:=hf.trans fd zr;have cr:w.heap.size≤wd.heap.size:=e2.size;have a9:Hid (r'.own wd w.heap.size):=a3.out.non fd;have b1:Hid (GAt wd b g'):=br.out.fr fd;have cg:=Lib.hid (Sr w.heap.size r' z wd a9.out bg.out cr ag.out);obtain ⟨E,hE⟩:=Aa (Ag r'.cards r'.l z.op);unfold Ex at cg;rw [hE.out] at cg;clear bo c8 bf dc a5 b3 bd fc fo a3 br b0 bm bw;have hl:=Aq (P:=Tryz.prog) gv 29 Tryz.underlying29 rfl (cs:=r'.cells) Cc;have cn:=Aq (P:=Tryz.prog) oB 44 Tryz.underlying44 rfl (cs:=z.cells) hi;go_upto_region 11 with (fail)
  go_cut [11,12] from 65 to 70 (fun s1 s2 wf=>∃(r2:RG) (nB:Nat),s1=.pointer (some ⟨nB,0,none⟩)∧s2=.int .i64 E∧Blk wf nB 29 r2.cells∧Hid (r2.own wf w.heap.size)∧Hid (r2.cards=r'.cards)∧Hid (r2.l=if E=0 then r'.l++[As r'.l z.op] else r'.l)∧wd.heap.size≤nB∧Fr Non wd wf)
  case first=>
   go_wp2_with (go_at_call 8;(with_reducible refine (cg.out).mono ?_);rintro _ we ⟨r2,rfl,dy,ap,b5,cc⟩;go_loud (have bn:=Blk.new we 29 zG;have ay:=Bf (P:=Tryz.prog) we.heap.size 29 (cs:=r2.cells) Cc (old:=zG) rfl (Dn r2)));have bG:=bn.setRow (cs:=r2.cells);have fG:Fr Non we ((we.alloc (.cells zG 29)).setRow we.heap.size r2.cells):=((Fr.refl Non we).alloc _).setRow (fun hh=>absurd hh (by omega)) _;go_meet;exact ⟨r2,we.heap.size,rfl,rfl,bG,ap.non fG,b5,cc,dy.size,dy.trans fG zr⟩
  case rest=>
  obtain ⟨r2,nB,rfl,rfl,bn,ap,b5,cc,f8,ff⟩:=hcut;generalize wc=wf at*;have ep:=fd.trans ff zr;have d9:=hf.trans ep zr;have d6:=ee.fr ff zq;have dz:=bz.fr ff zq;have cw:Hid (r'.own wf w.heap.size):=a9.out.non ff;have aa:Hid (GAt wf b g'):=b1.out.fr ff;have b8:Hid (z.lies wf w.heap.size):=bg.out.non ff;have fe:z.past.length≤1000:=ag.out.past.1
  have ce:Hid (∀w',Fr Non wf w'→Calls Tryz.prog 10 #[.pointer (some ⟨gb,0,none⟩),.agg z.cells] w' (Gb (Cr r'.l z.past) w')):=by
   intro w' h;have:=Ko b g' z w' Kp (aa.out.fr h) (b8.out.non h).at ag.out.past.2 (by omega);rw [aj,Aj7 ah] at this;exact this
  have a4:=Lib.hid (fun (w':World) (h:Fr Non wf w')=>Af4 w.heap.size r' z w' (cw.out.non h) (b8.out.non h).at (by omega));obtain ⟨LL,cu⟩:=Aa (Cr r'.l z.past);have f4:LL.length≤1000:=by rw [← cu.out];exact Nat.le_trans (Se _ _) fe
  rw [cu.out] at ce a4;have a6:Hid (∀(A5 A6:Option Addr) (c5 c6:Nat) (w':World),Rd w' w'.heap.size 3 A5 LL.length (LL.flatMap Id.cells)→Rd w' w'.heap.size 3 A6 LL.length (LL.flatMap Id.cells)→Calls Tryz.prog 9 #[.slice A5 LL.length c5,.slice A6 LL.length c6] w' (Ad true w')):=fun A5 A6 c5 c6 w' h1 h2=>Rw w'.heap.size LL.length c5 w'.heap.size LL.length c6 A5 A6 LL LL w' rfl rfl h1 h2 (by omega) true (by simp);have aq:=Lib.hid (fun (w':World) (h:Fr Non wf w')=>Aj8 (E:=E) (aa.out.fr h) aj ah (by rw [ba];exact hE.out) (b8.out.non h).at ag.out (hk.fr (d9.trans h zr)));unfold Gb at ce;unfold Cg at a4;unfold Ad at a6;unfold Sx at aq;have gd:((E:Int) !=E)=false:=by simp
  clear cg ee bz a9 b1 bg cu;go_upto_region 12 with (fail)
  have bp:¬g'.own gv:=fun e=>by have:=aa.out.types gv _ _ _ d6 e;revert this;unfold Gty;decide
  have bs:¬g'.own oB:=fun e=>by have:=aa.out.types oB _ _ _ dz e;revert this;unfold Gty;decide
  have V0:=d6;have O0:=dz;have F0:Fr Non wf wf.drew:=(Fr.refl Non wf).drew;refine wp_region_held_drew (S:=fun w'=>Blk w' gv 29 r'.cells∧Blk w' oB 44 z.cells) (by kernel_rfl) ⟨V0,O0⟩ (fun hHeld=> ?_);clear hHeld;refine tkH 0 ⟨V0,O0⟩ (h:=tkH 1 ⟨V0,O0⟩ (h:=tkH 3 ⟨V0,O0⟩ (h:=tkH 4 ⟨V0,O0⟩ (h:=?_))));simp only [List.set];refine oG 2 (fun K hK=> ?_);go_simp;go_wp2_with (go_at_call 10;(with_reducible refine (ce.out _ F0).mono ?_);rintro _ v1 ⟨A5,c5,rfl,cx,ae⟩;have F1:=F0.trans ae zr;have V1:=V0.fr F1 zq;have O1:=O0.fr F1 zq);refine hK.out _ _ ⟨V1,O1⟩ (fun hZ=> ?_);clear hZ hK K;try simp only [Ab,List.set]
  refine oG 5 (fun K hK=> ?_);go_simp;go_wp2_with (go_at_call 11;(with_reducible refine (a4.out _ F1).mono ?_);rintro _ v2 ⟨A6,c6,rfl,cz,ab⟩;have F2:=F1.trans ab zr;have V2:=V0.fr F2 zq;have O2:=O0.fr F2 zq;have c7:=cx.fr ab zr);refine hK.out _ _ ⟨V2,O2⟩ (fun hZ=> ?_);clear hZ hK K;try simp only [Ab,List.set]
  refine oG 6 (fun K hK=> ?_);go_simp;go_wp2_with (go_at_call 9;(with_reducible refine (a6.out _ _ _ _ _ (c7.mono ab.size) cz.rd).mono ?_);rintro _ v3 ⟨rfl,bq⟩;have F3:=F2.trans bq zr;have V3:=V0.fr F3 zq;have O3:=O0.fr F3 zq);refine hK.out _ _ ⟨V3,O3⟩ (fun hZ=> ?_);clear hZ hK K;try simp only [Ab,List.set]
  refine tkH 7 ⟨V3,O3⟩ (h:=tkH 8 ⟨V3,O3⟩ (h:=tkH 9 ⟨V3,O3⟩ (h:=tkH 10 ⟨V3,O3⟩ (h:=tkH 12 ⟨V3,O3⟩ (h:=?_)))));simp only [List.set];refine oG 11 (fun K hK=> ?_);go_simp;go_wp2_with (go_at_call 12;(with_reducible refine (aq.out _ F3).mono ?_);rintro _ v9 ⟨rfl,g2,dx,ak,c4,cm,f9⟩);have V4:=V3.fr f9 bp;have O4:=O3.fr f9 bs;refine hK.out _ _ ⟨V4,O4⟩ (fun hZ=> ?_);clear hZ hK K;try simp only [Ab,List.set]
  refine tkH 13 ⟨V4,O4⟩ (h:=tkH 14 ⟨V4,O4⟩ (h:=?_));simp only [List.set];refine oD ?_;go_simp;have fx:Fr Non w v9:=(d9.trans F3 zr).trans f9 (fun k hk e=>by rcases e with e|e|e;(have:=aa.out.gbase;omega);(have:=aa.out.mbase;omega);(have:=(aa.out.own.row k e).1;omega));have cy:¬g'.own nB:=fun e=>by have:=aa.out.types nB _ _ _ bn e;revert this;unfold Gty;decide
  have e4:=(bn.fr F3 zq).fr f9 cy;have eh:Hid (r2.own v9 w.heap.size):=(ap.out.non F3).adds (aa.out.fr F3) f9;have z9:Hid (z.lies v9 w.heap.size):=(b8.out.non F3).adds (aa.out.fr F3) f9;have e5:=Aq (P:=Tryz.prog) nB 29 Tryz.underlying29 rfl (cs:=r2.cells) Cc;have ay:=Bf (P:=Tryz.prog) gv 29 (cs:=r2.cells) Cc (old:=r'.cells) rfl (Dn r2);clear ce a4 a6 aq;go_upto_region 15 with (fail)
  have Vg:=V4.setRow (cs:=r2.cells);have Og:=O4.fr (Bp (w:=v9) r2.cells) (fun e=>ac e.symm);have d2:Hid (r2.own (v9.setRow gv r2.cells) w.heap.size):=eh.out.keepP (Bp r2.cells) (Types.one V4) (by decide) (by decide) (by decide) (by decide) (by decide) (by decide) (by decide) (by decide) (by decide) (by decide) (by decide) (by decide);have zg:Hid (z.lies (v9.setRow gv r2.cells) w.heap.size):=z9.out.keepP (Bp r2.cells) (Types.one V4) (by decide) (by decide) (by decide) (by decide) (by decide) (by decide) (by decide);have dp:Hid (GAt (v9.setRow gv r2.cells) b g2):=dx.out.over (Bp r2.cells) (fun k hk e=>by have e':k=gv:=e;omega);have fg:Fr Non w (v9.setRow gv r2.cells):=fx.setRow (fun hh=>absurd hh (by omega)) _;generalize v9.setRow gv r2.cells=wg at*;clear eh z9 dx fx e4 ay e5 hl;obtain ⟨nm,hnm⟩:∃nm,z.op.name=nm:=⟨_,rfl⟩;have ds:=Lib.hid (Fs z nm hnm wg zg.out.at ag.out)
  go_cut [13] from 87 to 88 (fun s wh=>∃iB:Nat,s=.pointer (some ⟨iB,0,none⟩)∧Blk wh iB 36 nm.V∧wg.heap.size≤iB∧Fr Non wg wh)
  case first=>
   go_wp2_with (go_at_call 13;(with_reducible refine (ds.out).mono ?_);rintro _ wh ⟨rfl,fh⟩);go_meet;exact ⟨wh.heap.size,rfl,Blk.new wh 36 nm.V,fh.size,fh.alloc _⟩
  case rest=>
  obtain ⟨iB,rfl,bi,gf,fi⟩:=hcut;generalize wc=wi at*;have ct:=fg.trans fi zr;have Vi:=Vg.fr fi zq;have Oi:=Og.fr fi zq;have ek:Hid (r2.own wi w.heap.size):=d2.out.non fi;have zi:Hid (z.lies wi w.heap.size):=zg.out.non fi;have cq:Hid (GAt wi b g2):=dp.out.fr fi;clear Vg Og d2 zg dp fg ds;have ai:Hid (g2.pns=r2.l):=by show _=_;rw [cm.out,cc.out]
  have bh:nm.ok:=by rw [← hnm];exact Dw ag.out
  have c9:=Lib.hid (Aj9 nm cq.out ak.out ai.out bh);unfold Ma at c9;have dw:wi.cell? ⟨iB,0,none⟩=some (.int .i64 nm.b):=bi.cell 0;have dn:wi.cell? ⟨iB,1,none⟩=some (.int .i64 nm.s):=bi.cell 1;have dr:wi.cell? ⟨iB,2,none⟩=some (.int .u64 (nm.u:Int)):=bi.cell 2;go_upto_region 16 with (fail)
  go_cut [14,15] from 89 to 94 (fun s1 s2 wj=>∃(y2:OpL) (is:Bool) (xB:Nat),s1=.pointer (some ⟨xB,0,none⟩)∧s2=.bool is∧Blk wj xB 44 y2.cells∧Hid ((plc r2.l nm).isSome=is)∧Hid (∀i p,plc r2.l nm=some i→r2.l[i]? =some p→y2.op=p.o)∧Hid (y2.lies wj w.heap.size)∧wi.heap.size≤xB∧Fr Non wi wj)
  case first=>
   go_wp2_with (go_at_call 14;(with_reducible refine (c9.out).mono ?_);rintro _ wj ⟨y2,is,rfl,eo,b4,e3,fj⟩;go_loud (have bn:=Blk.new wj 44 zO;have ay:=Bf (P:=Tryz.prog) wj.heap.size 44 (cs:=y2.cells) hi (old:=zO) rfl (Bm y2)));go_meet;have bj:=bn.setRow (cs:=y2.cells);have fz:Fr Non wj ((wj.alloc (.cells zO 44)).setRow wj.heap.size y2.cells):=((Fr.refl Non wj).alloc _).setRow (fun hh=>absurd hh (by omega)) _;have e9:w.heap.size≤wi.heap.size:=ct.size;exact ⟨y2,is,wj.heap.size,rfl,rfl,bj,eo,b4,(e3.out.lower e9).non fz,fj.size,fj.trans fz zr⟩
  case rest=>
  obtain ⟨y2,is,xB,rfl,rfl,bx,ey,be,b3,gj,al⟩:=hcut;generalize wc=wj at*;have Vj:=Vi.fr al zq;have Oj:=Oi.fr al zq;have b7:Hid (r2.own wj w.heap.size):=ek.out.non al;have zj:Hid (z.lies wj w.heap.size):=zi.out.non al;have dj:Hid (GAt wj b g2):=cq.out.fr al;have cd:=ct.trans al zr;have a2:=al.cell dw zq;have aw:=al.cell dn zq;have ax:=al.cell dr zq
  have es:Hid (E=0→y2.op=z.op):=by
   intro e0;have h1:r2.l=r'.l++[As r'.l z.op]:=by rw [cc.out,if_pos e0]
   have h2:r2.l[r'.l.length]? =some (As r'.l z.op):=by rw [h1,List.getElem?_append_right (Am7 _),Nat.sub_self];rfl
   have h3:=(b7.out.rows.ok _ _ h2).plc;have h4:(As r'.l z.op).id=nm:=hnm;rw [h4] at h3;exact be.out _ _ h3 h2
  have fs:g2.nodes.length=r2.l.length:=by rw [← ai.out];unfold Gph.pns;rw [Am6]
  have ei:=Lib.hid (fun (w':World) (h:Fr Non wj w')=>E7 w.heap.size r2 nm w' (b7.out.non h))
  have d8:Hid (∀w',Fr Non wj w'→Calls Tryz.prog 16 #[.pointer (some ⟨gb,0,none⟩)] w' (fun e bc=>e=.returned (.int .i64 (r2.l.length:Int))∧Fr Non w' bc)):=by
   intro w' h;have:=Nt b g2 w' (dj.out.fr h);rw [ak.out,fs] at this;refine this.mono ?_;rintro e bc ⟨rfl,rfl⟩;exact ⟨rfl,Fr.refl _ _⟩
  have dq:Hid (∀w',Fr Non wj w'→Calls Tryz.prog 17 #[.pointer (some ⟨gb,0,none⟩),.agg nm.V] w' (fun e bc=>e=.returned (.int .i64 (Bn r2.l nm:Int))∧Fr Non w' bc)):=by
   intro w' h;have:=Nu b g2 nm w' (dj.out.fr h) bh;rw [g2.level_eq,ai.out,ak.out] at this;exact this
  have a4:=Lib.hid (fun (w':World) (h:Fr Non wj w')=>Al1 w.heap.size r2 nm w' (b7.out.non h))
  have ef:decide (Ao r2.l nm≥0)=is:=by
   rw [← ey.out]
   cases hp:plc r2.l nm with
   |none=>rw [Ln hp];rfl
   |some p=>rw [Lm hp];exact decide_eq_true (by omega)
  have L0:wj.cell? ⟨gv,1,none⟩=some (.slice r2.lA r2.l.length r2.lC):=Vj.cell 1;obtain ⟨PL,dm⟩:=Aa (Ao r2.l nm);rw [dm.out] at ei ef;obtain ⟨LV,ea⟩:=Aa (Bn r2.l nm);rw [ea.out] at dq a4;obtain ⟨N2,em⟩:=Aa r2.l.length;rw [em.out] at d8 L0;have fq:decide (0≤PL)=is:=ef;have ga:(is !=is)=false:=by simp
  have gk:((N2:Int) !=(N2:Int))=false:=by simp
  have f6:((LV:Int) !=(LV:Int))=false:=by simp
  have hl:=Aq (P:=Tryz.prog) gv 29 Tryz.underlying29 rfl (cs:=r2.cells) Cc;clear c9 Vi Oi ek zi cq ct dw dn dr bi be dm ea;go_upto_region 17 with (fail)
  have V0:=Vj;have O0:=Oj;have X0:=bx;have F0:Fr Non wj wj.drew:=(Fr.refl Non wj).drew;refine wp_region_held_drew (S:=fun w'=>Blk w' gv 29 r2.cells∧w'.cell? ⟨gv,1,none⟩=some (.slice r2.lA N2 r2.lC)∧w'.cell? ⟨iB,0,none⟩=some (.int .i64 nm.b)∧w'.cell? ⟨iB,1,none⟩=some (.int .i64 nm.s)∧w'.cell? ⟨iB,2,none⟩=some (.int .u64 (nm.u:Int))) (by kernel_rfl) ⟨V0,L0,a2,aw,ax⟩ (fun hHeld=> ?_);clear hHeld;refine tkH 0 ⟨V0,L0,a2,aw,ax⟩ (h:=tkH 1 ⟨V0,L0,a2,aw,ax⟩ (h:=tkH 2 ⟨V0,L0,a2,aw,ax⟩ (h:=?_)));simp only [List.set];refine oG 3 (fun K hK=> ?_);go_simp;go_wp2_with (go_at_call 15;(with_reducible refine (ei.out _ F0).mono ?_);rintro _ v1 ⟨rfl,ae⟩;have F1:=F0.trans ae zr;have V1:=V0.fr F1 zq;have L1:=F1.cell L0 zq;have a1:=F1.cell a2 zq;have a0:=F1.cell aw zq;have av:=F1.cell ax zq;have G1:=cd.trans F1 zr);refine hK.out _ _ ⟨V1,L1,a1,a0,av⟩ (fun hZ=> ?_);clear hZ hK K;try simp only [Ab,List.set]
  refine tkH 4 ⟨V1,L1,a1,a0,av⟩ (h:=tkH 5 ⟨V1,L1,a1,a0,av⟩ (h:=tkH 6 ⟨V1,L1,a1,a0,av⟩ (h:=tkH 7 ⟨V1,L1,a1,a0,av⟩ (h:=tkH 9 ⟨V1,L1,a1,a0,av⟩ (h:=tkH 10 ⟨V1,L1,a1,a0,av⟩ (h:=tkH 11 ⟨V1,L1,a1,a0,av⟩ (h:=?_)))))));simp only [List.set];refine oG 8 (fun K hK=> ?_);go_simp;go_wp2_with (go_at_call 16;(with_reducible refine (d8.out _ F1).mono ?_);rintro _ v2 ⟨rfl,ab⟩;have F2:=F1.trans ab zr;have V2:=V0.fr F2 zq;have L2:=F2.cell L0 zq;have au:=F2.cell a2 zq;have ar:=F2.cell aw zq;have ao:=F2.cell ax zq;have G2:=cd.trans F2 zr);refine hK.out _ _ ⟨V2,L2,au,ar,ao⟩ (fun hZ=> ?_);clear hZ hK K;try simp only [Ab,List.set]
  refine tkH 12 ⟨V2,L2,au,ar,ao⟩ (h:=tkH 13 ⟨V2,L2,au,ar,ao⟩ (h:=tkH 14 ⟨V2,L2,au,ar,ao⟩ (h:=tkH 15 ⟨V2,L2,au,ar,ao⟩ (h:=tkH 16 ⟨V2,L2,au,ar,ao⟩ (h:=tkH 18 ⟨V2,L2,au,ar,ao⟩ (h:=tkH 19 ⟨V2,L2,au,ar,ao⟩ (h:=?_)))))));simp only [List.set];refine oG 17 (fun K hK=> ?_);go_simp;go_wp2_with (go_at_call 17;(with_reducible refine (dq.out _ F2).mono ?_);rintro _ v3 ⟨rfl,bq⟩;have F3:=F2.trans bq zr;have V3:=V0.fr F3 zq;have L3:=F3.cell L0 zq;have ft:=F3.cell a2 zq;have fl:=F3.cell aw zq;have et:=F3.cell ax zq;have G3:=cd.trans F3 zr);refine hK.out _ _ ⟨V3,L3,ft,fl,et⟩ (fun hZ=> ?_);clear hZ hK K;try simp only [Ab,List.set]
  refine oG 20 (fun K hK=> ?_);go_simp;go_wp2_with (go_at_call 18;(with_reducible refine (a4.out _ F3).mono ?_);rintro _ v4 ⟨rfl,da⟩;have F4:=F3.trans da zr;have V4:=V0.fr F4 zq;have L4:=F4.cell L0 zq;have co:=F4.cell a2 zq;have dd:=F4.cell aw zq;have cp:=F4.cell ax zq;have G4:=cd.trans F4 zr);refine hK.out _ _ ⟨V4,L4,co,dd,cp⟩ (fun hZ=> ?_);clear hZ hK K;try simp only [Ab,List.set]
  refine tkH 21 ⟨V4,L4,co,dd,cp⟩ (h:=tkH 22 ⟨V4,L4,co,dd,cp⟩ (h:=?_));simp only [List.set];refine oD ?_;go_simp;have Vk:=Vj.fr F4 zq;have Ok:=Oj.fr F4 zq;have bk:=bx.fr F4 zq;have dt:Hid (r2.own v4 w.heap.size):=b7.out.non F4;have zk:Hid (z.lies v4 w.heap.size):=zj.out.non F4;have yk:Hid (y2.lies v4 w.heap.size):=b3.out.non F4;have dv:Hid (GAt v4 b g2):=dj.out.fr F4;have b2:Hid (g2.gb=gb∧g2.cards=r2.cards∧r2.cards=Ba 0 [1,2,3,1]∧g2.pns=r2.l):=⟨ak.out,by rw [c4.out,ba,b5.out],by rw [b5.out];exact a8,ai.out⟩
  by_cases hE0:E=0
  case neg=>
   have e1:(E==0)=false:=beq_eq_false_iff_ne.2 hE0;go_wp2_with (fail);go_roundw
   case rel=>exact ⟨i+1,r2,g2,by go_num,by omega,dt.out,Vk,dv.out,b2.out,G4⟩
   case measure=>simp [intOf];omega
  case pos=>
   have e1:(E==0)=true:=by rw [hE0];rfl
   have b4:=es.out hE0;have cj:=Lib.hid (Vf y2 z v4 yk.out.at (by rw [b4];exact ag.out) zk.out.at ag.out);rw [b4,beq_self_eq_true] at cj;unfold Ad at cj;have ez:=Aq (P:=Tryz.prog) xB 44 Tryz.underlying44 rfl (cs:=y2.cells) hi;have cn:=Aq (P:=Tryz.prog) oB 44 Tryz.underlying44 rfl (cs:=z.cells) hi;clear cn hE;have cn:=Aq (P:=Tryz.prog) oB 44 Tryz.underlying44 rfl (cs:=z.cells) hi;go_upto_region 20 with (fail)
   go_wp2_with (go_at_call 19;(with_reducible refine (cj.out).mono ?_);rintro _ wk ⟨rfl,fk⟩);have eu:=G4.trans fk zr;have Vl:=Vk.fr fk zq;have fw:Hid (r2.own wk w.heap.size):=dt.out.non fk;have er:Hid (GAt wk b g2):=dv.out.fr fk;go_roundw
   case rel=>exact ⟨i+1,r2,g2,by go_num,by omega,fw.out,Vl,er.out,b2.out,eu⟩
   case measure=>simp [intOf];omega
end Oq
end
section
open Go.ChangeShapes Go.WideShapes Go.ChangeAt Go.RowKit
theorem Am4 (os:Os) (started:os.Started) (H:Type) (enc:TypeId × Value→H):
  ReturnsInHanded {} Tryz.checked os 3 .any (fun w args=>(Rows.graphAddsSpec.pre enc Tryz.prog Tryz.f3 [] false w args∧laidMetH Tryz.prog [("huddle/op.kinds",Rows.laid_huddle_op_kinds)] w)∧sizedMet enc Tryz.prog Tryz.f3 (OpenSpec.ofChange Rows.graphAddsSpec) false w args)
   (Rows.graphAddsSpec.post enc Tryz.prog Tryz.f3 false true false false):=by
 refine returnsInHanded_of_change_and (C:=Tryz.checked) (X:=fun w _=>laidMetH Tryz.prog [("huddle/op.kinds",Rows.laid_huddle_op_kinds)] w) (fun _ _ _ hh h=>h.of_heap hh) Tryz.own started (by kernel_rfl) Tryz.func3
  (ChangeSpec.witness_at (enc:=enc) (C:=Tryz.checked) (os:=os) (X:=fun w _=>laidMetH Tryz.prog [("huddle/op.kinds",Rows.laid_huddle_op_kinds)] w) false (Kb os) #[.slice none 0 0,.slice none 0 0,.slice none 0 0] 8 rfl (by kernel_rfl) (by kernel_rfl) (by kernel_rfl) (by kernel_rfl) (by kernel_rfl) (Vp os _)) ?_
 intro W base args ds gs before hval0 hW _ _ hL _;have hk:=Vo hL;have hval:∀(j:Nat) t v,Tryz.f3.params[j]? =some t→args[j]? =some v→Value.okWide Tryz.prog W .any base t v:=hval0;have hW':=hW;obtain ⟨p,q,hA0,hV,rfl,hfz,hnd⟩:=hW;have hA:DataW.TrodAll enc Tryz.prog W 0 (fun _=>true) true Tryz.f3.params.toList args.toList ds p:=hA0;rw [Tryz.params3] at hA hval;obtain ⟨v0,v1,v2,d0,d1,d2,p0,p1,p2,rfl,rfl,rfl,h0,h1,h2⟩:=trodAll_three hA;obtain ⟨A0,c0,l0,rfl,hlc0,hc0,hr0,hok0⟩:=Js Tryz.underlying22 Tryz.underlying3 (by kernel_rfl) (hval 0 22 v0 rfl rfl) h0;obtain ⟨A1,c1,l1,rfl,hlc1,hc1,hr1,hok1⟩:=Js Tryz.underlying22 Tryz.underlying3 (by kernel_rfl) (hval 1 22 v1 rfl rfl) h1;obtain ⟨A2,c2,l2,rfl,hlc2,hc2,hr2,hok2⟩:=Js Tryz.underlying22 Tryz.underlying3 (by kernel_rfl) (hval 2 22 v2 rfl rfl) h2;refine (Oq.graphAdds_law A0 c0 l0 A1 c1 l1 A2 c2 l2 W hk hr0 hlc0 hc0 hok0 hr1 hlc1 hc1 hok1 hr2 hlc2 hc2 hok2).mono fun e W' ⟨he,hf⟩=> ?_;exact ⟨_,he,Tg Tryz.laidOut (by kernel_rfl) rfl (by kernel_rfl) Tryz.underlying4 hW' ⟨rfl,rfl,rfl⟩ hf⟩
theorem Am5:Rows.GraphAddsSaid:=
 OpenClaim.holds_of_wide 3 Tryz.f3 rfl rfl rfl rfl rfl rfl rfl ⟨rfl,rfl,rfl,rfl,rfl⟩ rfl rfl rfl rfl rfl (by kernel_rfl) Tryz.func3 (by kernel_rfl)
  (of_decide_eq_true (by kernel_rfl)) (by unfold Func.isWrapper;rw [if_neg (by decide+kernel)];exact ⟨rfl,rfl⟩)
  (fun os started H enc _=>Am4 os started H enc)
end
section
open Go
theorem graphAdds_card_holds:Rows.GraphAddsCardSaid:=
 Claim7.holds_tied_plain_at .later [] [.data] true (true, "b49fec37d1d276daf9b4ee6eb7590a37eb15d8fb7d529ea6999f126d5cee162d") false
  Am5 (fun _ h=>by cases h) (by kernel_rfl) (fun _ h=>by cases h) graphAdds_row_tie rfl ⟨rfl,rfl⟩ (by kernel_rfl) rfl
  (fun f fn hf hfn=>by
   obtain rfl:f=3:=Option.some.inj ((show Tryz.prog.funcNamed "huddle/huddlelaw12.GraphAdds" =some 3 by kernel_rfl).symm.trans hf)|>.symm;obtain rfl:fn=Tryz.f3:=(Option.some.inj (Tryz.func3.symm.trans hfn)).symm
   exact ⟨by kernel_rfl,fun j t ht=>by
    rw [Tryz.params3] at ht
    have hm:t∈([22,22,22]:List TypeId):=by
     have h2:=Array.mem_of_getElem? ht;simpa using h2
    have hall:([22,22,22]:List TypeId).all (fun t=> !(Tryz.prog.wantsStandIn t))=true:=by kernel_rfl
    have:=List.all_eq_true.1 hall t hm;exact (by simpa using this:Tryz.prog.wantsStandIn t=false)⟩)
  (by kernel_rfl)
end
end Go.Proofs.YthpkjfliibdnjaaGreatDoor
