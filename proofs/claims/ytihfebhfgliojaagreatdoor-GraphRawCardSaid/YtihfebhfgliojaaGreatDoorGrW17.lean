/-
  Contracts of the functions that the claim's statement reaches, walked one by one (part 17).
  Conditions: as each theorem says.
-/
import Derived.Test.YtihfebhfgliojaaGreatDoorGrW16
set_option maxRecDepth 100000
set_option maxHeartbeats 16000000
open List renaming find?_cons_of_pos->An7,getElem?_eq_getElem->An8
open Nat renaming ne_of_lt->An3,zero_le->An4,le_refl->An5,lt_irrefl->An6
open Go.Proofs.Tryz
open Go.Proofs.Tryz renaming prog->zp
open Go.Lib renaming hid->lh
open List renaming set->zl
open Go.Ending renaming returned->ze
namespace Go.Proofs.YtihfebhfgliojaaGreatDoor
open Go.RowKit
section
attribute [local go_sem ↓] Go.wp_at_zero Go.wp_at_succ
namespace Oq
attribute [local go_sem ↓] Cg Ej
attribute [local go_sem] Bool.not_false Bool.not_true
theorem Mh:lB.ok:=Ja (by decide) (by decide) (by decide) ⟨by simp,fun x hx=>by obtain rfl:=List.mem_singleton.1 hx;exact Ec (Jf 1 (by decide))⟩
theorem Mi:lC.ok:=Ja (by decide) (by decide) (by decide) ⟨by simp,fun x hx=>by obtain rfl:=List.mem_singleton.1 hx;exact Ec (Jf 1 (by decide))⟩
theorem Se:lD.ok:=Ja (by decide) (by decide) (by decide) ⟨by simp,fun x hx=>by
 rcases List.mem_cons.1 hx with rfl|hx
 · exact Ec Mh
 ·
  obtain rfl:=List.mem_singleton.1 hx;exact Ec Mi⟩
theorem Sf:lA.ok:=Jf 1 (by decide)
theorem Am0 (w:World) (hk:KindsAt w):Calls zp 19 #[] w (Ae true w):=by
 have hi:(zp.info? 44).map (·.size)=some 27:=by kernel_rfl
 have ku:0<w.heap.size:=World.block_lt_of_cell? w _ (hk 0 (by decide));have f0:Fr Non w (w.alloc (.cells #[.int .i64 1,.int .i64 2] 3)):=(Fr.refl Non w).alloc _;have kc:=lh (Ou 2 2 (some ⟨w.heap.size,0,none⟩) [1,2] (w.alloc (.cells #[.int .i64 1,.int .i64 2] 3)) rfl (by decide) ((Rd.blk (n:=2) (size:=1) (l:=[1,2].map Iv) (Blk.new w 3 #[.int .i64 1,.int .i64 2]) rfl)));have hj:Hid (Be 0 [1,2]=[Bs 0 1,Bs 1 2]):=rfl;have g2:(Bs 0 1).d=1:=Gg 0 1;have hu:(Bs 1 2).d=2:=Gg 1 2;have ka:Hid ((Bs 0 1).s=Sg.pub (sec Bd 1)):=Ly 0 1;have gm:Hid ((Bs 1 2).s=Sg.pub (sec Bd 2)):=Ly 1 2;generalize Bs 0 1=cd1 at*;generalize Bs 1 2=cd2 at*;have jn:Hid (Bk [cd1,cd2] 1=some cd1):=by show _=_;unfold Bk;rw [An7 (by rw [g2];rfl)]
 have gu:Hid (Bk [cd1,cd2] 2=some cd2):=by show _=_;unfold Bk;rw [List.find?_cons_of_neg (by rw [g2];decide),An7 (by rw [hu];rfl)]
 have k9:=lh hk;have fo:Hid (∀wz,Fr Non w wz->Ae true w (.returned (.bool true)) wz):=fun wz h=>⟨rfl,h⟩;generalize Ae true w=POST at*;clear hk g2 hu;go_enter func19,ntmps19;go_wp2_with fail;refine (kc.out).mono ?_;rintro _ w1 ⟨A1,c1,rfl,o1,f1⟩;have a7:=f0.trans f1 zr;have ls:=a7.size;have kn:=lh (R3 w1.heap.size 2 c1 A1 [1,2] w1 rfl (by decide) o1.rd (by omega));clear kc f0 f1 o1;go_wp2_with fail;refine (kn.out).mono ?_;rintro _ w2 ⟨g,rfl,hg,dl,h6,f2⟩;have bq:=a7.trans f2 zr;have hb:Hid (g.pns=[]):=by show _=_;unfold Gph.pns;rw [dl];rfl
 have j6:Hid (g.cards=[cd1,cd2]):=h6.trans hj.out;obtain ⟨gb,fe⟩:=Aa g.gb;rw [fe.out];have kf:=lh (Al2 w2);clear kn dl h6 hj f2 a7
 go_upto_region 5 with (first
  |(go_at_call 15;(with_reducible refine (kf.out).mono ?_);rintro _ w3 ⟨ya,rfl,cx,ff,f3⟩;have j1:=hg.fr f3;have bi:=bq.trans f3 zr;have bz:=Blk.new w3 44 zO;have ab:=Cn ya;clear kf hg bq f3)
  |(refine Ei rfl 44 (.tmp 2) (.tmp 14) rfl rfl rfl rfl bz hi rfl ab ?_))
 have ew:Fr Non w3 ((w3.alloc (.cells zO 44)).setRow w3.heap.size ya.cells):=((Fr.refl Non w3).alloc _).setRow (g:=w3.heap.size) (fun h=>absurd h (An6 _)) ya.cells;have bh:=bz.setRow (cs:=ya.cells);obtain ⟨ga,hd⟩:=Aa w3.heap.size;rw [hd.out] at bh ew ⊢;generalize (w3.alloc (.cells zO 44)).setRow ga ya.cells=w4 at*;have jk:=j1.fr ew;have cj:=bi.trans ew zr;have co:=ff w4 0;clear j1 bi ew;clear bz ab hd;have bl:ya.op.ok:=by rw [cx];exact Ff Sf
 obtain ⟨nx,dh⟩:=Aa lA.name;have kx:=lh (Gj ya nx (by rw [cx,<- dh.out];exact Gf lA) w4 co.at bl);have fb:=Bb (P:=zp) ga 44 underlying44 rfl (cs:=ya.cells) hi;replace cx:Hid (ya.op=sgn lA):=cx;have a2:nx.ok:=by rw [<- dh.out];exact Ec Sf
 go_upto_region 6 with (go_at_call 57;(with_reducible refine (kx.out).mono ?_);rintro _ w5 ⟨rfl,f5⟩)
 have Fx:Fr Non w4 (w5.alloc (.cells nx.V 38)):=f5.alloc _;have bx:=Blk.new w5 38 nx.V;obtain ⟨gx,jw⟩:=Aa w5.heap.size;rw [jw.out] at bx ⊢;generalize w5.alloc (.cells nx.V 38)=w6 at*;have jt:=jk.fr Fx;have bn:=cj.trans Fx zr;have df:=co.non Fx;replace bh:=bh.fr Fx zq;clear jk cj co Fx kx f5 jw fb;have x0:cI w6 gx 0 nx.b:=bx.cell 0;have x1:cI w6 gx 1 nx.s:=bx.cell 1;have x2:cU w6 gx 2 nx.u:=bx.cell 2;have ke:=lh (Lt 1 2 0 _ 1 1 (some ⟨w6.heap.size,0,none⟩) [nx] (w6.alloc (.cells nx.V 38)) (by decide) (by decide) (by decide) rfl (Rd.blk (n:=1) (size:=3) (l:=[nx].flatMap Id.cells) (Blk.new w6 38 nx.V) rfl) (by decide) (by intro z hz;obtain rfl:=List.mem_singleton.1 hz;exact a2));have fa:Fr Non w6 (w6.alloc (.cells nx.V 38)):=(Fr.refl Non w6).alloc _
 go_upto_region 7 with (first
  |(go_at_call 71;go_loud (with_reducible refine (ke.out).mono ?_);rintro _ v1 ⟨yb,rfl,cv,du,iq⟩;have fv:=fa.trans iq zr;have bz:=Blk.new v1 44 zO;have ab:=Cn yb;clear ke x0 x1 x2)
  |(refine Ei rfl 44 (.tmp 4) (.tmp 19) rfl rfl rfl rfl bz hi rfl ab ?_))
 replace cv:Hid (yb.op=sgn lB):=by show _=_;rw [cv,<- dh.out,R9];rfl
 have cw:Fr Non v1 ((v1.alloc (.cells zO 44)).setRow v1.heap.size yb.cells):=((Fr.refl Non v1).alloc _).setRow (g:=v1.heap.size) (fun h=>absurd h (An6 _)) yb.cells;have c0:=bz.setRow (cs:=yb.cells);obtain ⟨gy,g9⟩:=Aa v1.heap.size;rw [g9.out] at c0 cw ⊢;generalize (v1.alloc (.cells zO 44)).setRow gy yb.cells=w7 at*;have ji:=jt.fr (fv.trans cw zr);have fg:=bn.trans (fv.trans cw zr) zr;have FT:=fv.trans cw zr;replace bx:=bx.fr FT zq;replace bh:=bh.fr FT zq;have d9:=df.non FT;have d4:=(du.lower (An4 _)).non cw;clear bz ab g9;clear FT fv fa cw iq du jt bn df;have x0:cI w7 gx 0 nx.b:=bx.cell 0;have x1:cI w7 gx 1 nx.s:=bx.cell 1;have x2:cU w7 gx 2 nx.u:=bx.cell 2;have ke:=lh (Lt 2 1 3 _ 1 1 (some ⟨w7.heap.size,0,none⟩) [nx] (w7.alloc (.cells nx.V 38)) (by decide) (by decide) (by decide) rfl (Rd.blk (n:=1) (size:=3) (l:=[nx].flatMap Id.cells) (Blk.new w7 38 nx.V) rfl) (by decide) (by intro z hz;obtain rfl:=List.mem_singleton.1 hz;exact a2));have fa:Fr Non w7 (w7.alloc (.cells nx.V 38)):=(Fr.refl Non w7).alloc _
 go_upto_region 8 with (first
  |(go_at_call 71;go_loud (with_reducible refine (ke.out).mono ?_);rintro _ v2 ⟨yc,rfl,cy,eb,h8⟩;have fv:=fa.trans h8 zr;have bz:=Blk.new v2 44 zO;have ab:=Cn yc;clear ke x0 x1 x2)
  |(refine Ei rfl 44 (.tmp 5) (.tmp 22) rfl rfl rfl rfl bz hi rfl ab ?_))
 replace cy:Hid (yc.op=sgn lC):=by show _=_;rw [cy,<- dh.out,R9];rfl
 have c3:Fr Non v2 ((v2.alloc (.cells zO 44)).setRow v2.heap.size yc.cells):=((Fr.refl Non v2).alloc _).setRow (g:=v2.heap.size) (fun h=>absurd h (An6 _)) yc.cells;have ev:=bz.setRow (cs:=yc.cells);obtain ⟨gz,aj⟩:=Aa v2.heap.size;rw [aj.out] at ev c3 ⊢;generalize (v2.alloc (.cells zO 44)).setRow gz yc.cells=w8 at*;have jd:=ji.fr (fv.trans c3 zr);have eo:=fg.trans (fv.trans c3 zr) zr;have FT:=fv.trans c3 zr;replace bx:=bx.fr FT zq;replace bh:=bh.fr FT zq;have d8:=d9.non FT;have cr:=(eb.lower (An4 _)).non c3;replace c0:=c0.fr FT zq;have b8:=d4.non FT;clear bz ab aj;clear FT fv fa c3 h8 eb ji fg d9 d4;have a5:yb.op.ok:=by rw [cv.out];exact Ff Mh
 have a4:yc.op.ok:=by rw [cy.out];exact Ff Mi
 have ao:=Ec Mh;have al:=Ec Mi;have bm:Hid (Du 2 2 3 (An [lB.name,lC.name])=lD):=by show _=_;rw [Al8];rfl
 have a3:yb.op.name=lB.name:=by rw [cv.out];exact Gf lB
 have a0:yc.op.name=lC.name:=by rw [cy.out];exact Gf lC
 obtain ⟨nb,fh⟩:=Aa lB.name;obtain ⟨nc,gp⟩:=Aa lC.name;rw [fh.out,gp.out] at bm;rw [fh.out] at a3 ao;rw [gp.out] at a0 al;have ed:Hid (∀w',Fr Non w8 w'->Calls zp 57 #[.agg yb.cells] w' fun e ar=>e=.returned (.agg nb.V)/\Fr Non w' ar):=fun w' h=>Gj yb nb a3 w' (b8.non h).at a5;have c2:Hid (∀w',Fr Non w8 w'->Calls zp 57 #[.agg yc.cells] w' fun e ar=>e=.returned (.agg nc.V)/\Fr Non w' ar):=fun w' h=>Gj yc nc a0 w' (cr.non h).at a4
 have ke:Hid (∀(A:Option Addr) (B:Nat) (w':World),Rd w' B 3 A 2 ([nb,nc].flatMap Id.cells)->Calls zp 71 #[.int .i64 2,.int .i64 2,.int .i64 3,.slice A 2 2] w' fun e ar=>∃y:OpL,e=.returned (.agg y.cells)/\y.op=sgn lD/\y.own ar 0/\Fr Non w' ar):=by
  intro A B w' hr
  refine (Lt 2 2 3 B 2 2 A [nb,nc] w' (by decide) (by decide) (by decide) rfl hr (by decide) (by
   intro z hz
   rcases List.mem_cons.1 hz with rfl|hz
   · exact ao
   ·
    obtain rfl:=List.mem_singleton.1 hz;exact al)).mono ?_
  rintro e ar ⟨y,h1,h2,h3,h4⟩;exact ⟨y,h1,h2.trans (congrArg sgn bm.out),h3.lower (An4 _),h4⟩
 replace a3:=lh a3;replace a0:=lh a0;have he:=Bb (P:=zp) gy 44 underlying44 rfl (cs:=yb.cells) hi;have i6:=Bb (P:=zp) gz 44 underlying44 rfl (cs:=yc.cells) hi;obtain ⟨wd,ey⟩:=Aa w8.drew;have Fd:Fr Non w8 wd:=by rw [<- ey.out];exact (Fr.refl Non w8).drew
 have a9:(fun w'=>Blk w' gy 44 yb.cells/\Blk w' gz 44 yc.cells) wd:=⟨c0.fr Fd zq,ev.fr Fd zq⟩;apply Qk
 case h=>
  intro cm;refine wp_region_held_drew (S:=(fun w'=>Blk w' gy 44 yb.cells/\Blk w' gz 44 yc.cells)) (by kernel_rfl) (by rw [ey.out];exact a9) (fun _=> ?_);rw [ey.out];have b4:Fr Non w8 wd:=Fd;have gf:Fr Non wd wd:=Fr.refl _ _;refine wpAnyH_take (i:=0) (v:=?_) rfl (by kernel_rfl) (by kernel_rfl) (by kernel_rfl) (fun _ _ _ h=>h) (Or.inl ⟨by kernel_rfl,?_⟩) a9 ?_;rotate_left
  focus (intro w' aa;have b1:=aa.1;have b2:=aa.2;(try dsimp only at b1 b2);go_simp;(try with_reducible rfl))
  try simp only [Ad,zl]
  refine wpAnyH_take (i:=2) (v:=?_) rfl (by kernel_rfl) (by kernel_rfl) (by kernel_rfl) (fun _ _ _ h=>h) (Or.inl ⟨by kernel_rfl,?_⟩) a9 ?_;rotate_left
  focus (intro w' aa;have b1:=aa.1;have b2:=aa.2;(try dsimp only at b1 b2);go_simp;(try with_reducible rfl))
  try simp only [Ad,zl]
  refine wpAnyH_ready (rs:=[1,6]) (by kernel_rfl) (by simp) ?_;refine AllReadyH.cons rfl (fun K hK=> ?_) ?_
  ·
   refine Dt (by kernel_rfl) ?_;go_simp;go_wp2_with (go_at_call 57;(with_reducible refine (ed.out _ b4).mono ?_);rintro _ v1 ⟨rfl,f1⟩);have bu:(fun w'=>Blk w' gy 44 yb.cells/\Blk w' gz 44 yc.cells) _:=⟨a9.1.fr f1 zq,a9.2.fr f1 zq⟩;have a7:=b4.trans f1 zr;have e0:=gf.trans f1 zr;refine hK.out _ _ bu (fun _=> ?_);clear hK K;try simp only [Ad,zl]
   refine wpAnyH_ready (rs:=[3,6]) (by kernel_rfl) (by simp) ?_;refine AllReadyH.cons rfl (fun K hK=> ?_) ?_
   ·
    refine Dt (by kernel_rfl) ?_;go_simp;go_wp2_with (go_at_call 57;(with_reducible refine (c2.out _ a7).mono ?_);rintro _ v2 ⟨rfl,f2⟩);have b6:(fun w'=>Blk w' gy 44 yb.cells/\Blk w' gz 44 yc.cells) _:=⟨bu.1.fr f2 zq,bu.2.fr f2 zq⟩;have bq:=a7.trans f2 zr;have gt:=e0.trans f2 zr;refine hK.out _ _ b6 (fun _=> ?_);clear hK K;try simp only [Ad,zl]
    refine wpAnyH_ready (rs:=[4,6]) (by kernel_rfl) (by simp) ?_;refine AllReadyH.cons rfl (fun K hK=> ?_) ?_
    ·
     refine Dt (by kernel_rfl) ?_;go_simp;have af:=Rd.blk (n:=2) (size:=3) (l:=[nb,nc].flatMap Id.cells) (Blk.new v2 38 #[.int .i64 nb.b,.int .i64 nb.s,.int .u64 (nb.u:Int),.int .i64 nc.b,.int .i64 nc.s,.int .u64 (nc.u:Int)]) rfl;have f3:Fr Non v2 (v2.alloc (.cells #[.int .i64 nb.b,.int .i64 nb.s,.int .u64 (nb.u:Int),.int .i64 nc.b,.int .i64 nc.s,.int .u64 (nc.u:Int)] 38)):=(Fr.refl Non _).alloc _;have bp:(fun w'=>Blk w' gy 44 yb.cells/\Blk w' gz 44 yc.cells) _:=⟨b6.1.fr f3 zq,b6.2.fr f3 zq⟩;have bi:=bq.trans f3 zr;have em:=gt.trans f3 zr;refine hK.out _ _ bp (fun _=> ?_);clear hK K;try simp only [Ad,zl]
     obtain ⟨v3,lf⟩:=Aa (v2.alloc (.cells #[.int .i64 nb.b,.int .i64 nb.s,.int .u64 (nb.u:Int),.int .i64 nc.b,.int .i64 nc.s,.int .u64 (nc.u:Int)] 38));obtain ⟨rb,az⟩:=Aa v2.heap.size;rw [lf.out] at bp bi em af ⊢;rw [az.out] at af ⊢;refine wpAnyH_ready (rs:=[5,6]) (by kernel_rfl) (by simp) ?_;refine AllReadyH.cons rfl (fun K hK=> ?_) ?_
     ·
      refine Dt (by kernel_rfl) ?_;go_simp;go_wp2_with (go_at_call 71;(with_reducible refine (ke.out _ _ _ af).mono ?_);rintro _ v4 ⟨yd,rfl,ai,ac,f4⟩);have dg:(fun w'=>Blk w' gy 44 yb.cells/\Blk w' gz 44 yc.cells) _:=⟨bp.1.fr f4 zq,bp.2.fr f4 zq⟩;have cj:=bi.trans f4 zr;have j8:=em.trans f4 zr;refine hK.out _ _ dg (fun _=> ?_);clear hK K;try simp only [Ad,zl]
      refine Bh 6 (by kernel_rfl) rfl (by kernel_rfl) (fun K hK=> ?_);go_simp;have bz:=Blk.new v4 44 zO;have ae:gy<v4.heap.size:=dg.1.lt;have ad:gz<v4.heap.size:=dg.2.lt;have f5:Fr Non v4 (v4.alloc (.cells zO 44)):=(Fr.refl Non _).alloc _;have en:(fun w'=>Blk w' gy 44 yb.cells/\Blk w' gz 44 yc.cells) _:=⟨dg.1.fr f5 zq,dg.2.fr f5 zq⟩;have er:=cj.trans f5 zr;have jv:=j8.trans f5 zr;refine hK.out _ _ en (fun _=> ?_);clear hK K;try simp only [Ad,zl]
      replace ac:=ac.non f5;obtain ⟨gd,ah⟩:=Aa v4.heap.size;have aj:wd.heap.size<=gd:=by rw [<- ah.out];exact j8.size
      rw [ah.out] at bz ae ad ⊢;obtain ⟨v5,k0⟩:=Aa (v4.alloc (.cells zO 44));rw [k0.out] at bz en er jv ac ⊢;refine Bh 7 (by kernel_rfl) rfl (by kernel_rfl) (fun K hK=> ?_);have ab:=Cn yd;refine Eh 44 (.tmp 6) (.tmp 28) (g:=gd) (cs:=yd.cells) rfl rfl (by rfl) (by rfl) bz hi rfl ab ?_;have fz:Fr (One gd) v5 (v5.setRow gd yd.cells):=(Fr.refl (One gd) v5).setRow (g:=gd) (fun _=>rfl) yd.cells;have ap:(fun w'=>Blk w' gy 44 yb.cells/\Blk w' gz 44 yc.cells) (v5.setRow gd yd.cells):=⟨en.1.fr fz (fun e=>An3 ae e),en.2.fr fz (fun e=>An3 ad e)⟩;have bF:=bz.setRow (cs:=yd.cells);have oF:=ac.keepP fz (Types.one bz) (by decide) (by decide) (by decide) (by decide) (by decide) (by decide) (by decide);have fF:Fr Non wd (v5.setRow gd yd.cells):=jv.trans fz (fun k hk e=>absurd hk (Nat.not_lt.2 (by have e':k=gd:=e;rw [e'];exact aj)));refine hK.out _ _ ap (fun hzz=> ?_);clear hK K hzz;refine oD ?_;go_simp;clear ap fz bz ab ac;revert fF oF bF ai;generalize v5.setRow gd yd.cells=wF;clear ah aj ae ad af az;generalize gd=gd2;generalize rb=rb2;revert wF gd2 rb2 yd;exact cm
     refine AllReadyH.cons rfl (fun K hK=> ?_) AllReadyH.nil
     ·
      refine Dt (by kernel_rfl) ?_;go_simp;have bz:=Blk.new v3 44 zO;have ae:gy<v3.heap.size:=bp.1.lt;have ad:gz<v3.heap.size:=bp.2.lt;have f6:Fr Non v3 (v3.alloc (.cells zO 44)):=(Fr.refl Non _).alloc _;have el:(fun w'=>Blk w' gy 44 yb.cells/\Blk w' gz 44 yc.cells) _:=⟨bp.1.fr f6 zq,bp.2.fr f6 zq⟩;have bn:=bi.trans f6 zr;have kl:=em.trans f6 zr;refine hK.out _ _ el (fun _=> ?_);clear hK K;try simp only [Ad,zl]
      replace af:=af.fr f6 zr;obtain ⟨gd,ah⟩:=Aa v3.heap.size;have aj:wd.heap.size<=gd:=by rw [<- ah.out];exact em.size
      rw [ah.out] at bz ae ad ⊢;obtain ⟨v6,li⟩:=Aa (v3.alloc (.cells zO 44));rw [li.out] at bz el bn kl af ⊢;refine Bh 5 (by kernel_rfl) rfl (by kernel_rfl) (fun K hK=> ?_);go_simp;go_wp2_with (go_at_call 71;(with_reducible refine (ke.out _ _ _ af).mono ?_);rintro _ v7 ⟨yd,rfl,ai,ac,f7⟩);have fj:(fun w'=>Blk w' gy 44 yb.cells/\Blk w' gz 44 yc.cells) _:=⟨el.1.fr f7 zq,el.2.fr f7 zq⟩;have fg:=bn.trans f7 zr;have kv:=kl.trans f7 zr;refine hK.out _ _ fj (fun _=> ?_);clear hK K;try simp only [Ad,zl]
      replace bz:=bz.fr f7 zq;refine Bh 7 (by kernel_rfl) rfl (by kernel_rfl) (fun K hK=> ?_);have ab:=Cn yd;refine Eh 44 (.tmp 6) (.tmp 28) (g:=gd) (cs:=yd.cells) rfl rfl (by rfl) (by rfl) bz hi rfl ab ?_;have fz:Fr (One gd) v7 (v7.setRow gd yd.cells):=(Fr.refl (One gd) v7).setRow (g:=gd) (fun _=>rfl) yd.cells;have ap:(fun w'=>Blk w' gy 44 yb.cells/\Blk w' gz 44 yc.cells) (v7.setRow gd yd.cells):=⟨fj.1.fr fz (fun e=>An3 ae e),fj.2.fr fz (fun e=>An3 ad e)⟩;have bF:=bz.setRow (cs:=yd.cells);have oF:=ac.keepP fz (Types.one bz) (by decide) (by decide) (by decide) (by decide) (by decide) (by decide) (by decide);have fF:Fr Non wd (v7.setRow gd yd.cells):=kv.trans fz (fun k hk e=>absurd hk (Nat.not_lt.2 (by have e':k=gd:=e;rw [e'];exact aj)));refine hK.out _ _ ap (fun hzz=> ?_);clear hK K hzz;refine oD ?_;go_simp;clear ap fz bz ab ac;revert fF oF bF ai;generalize v7.setRow gd yd.cells=wF;clear ah aj ae ad af az;generalize gd=gd2;generalize rb=rb2;revert wF gd2 rb2 yd;exact cm
    refine AllReadyH.cons rfl (fun K hK=> ?_) AllReadyH.nil
    ·
     refine Dt (by kernel_rfl) ?_;go_simp;have bz:=Blk.new v2 44 zO;have ae:gy<v2.heap.size:=b6.1.lt;have ad:gz<v2.heap.size:=b6.2.lt;have f9:Fr Non v2 (v2.alloc (.cells zO 44)):=(Fr.refl Non _).alloc _;have es:(fun w'=>Blk w' gy 44 yb.cells/\Blk w' gz 44 yc.cells) _:=⟨b6.1.fr f9 zq,b6.2.fr f9 zq⟩;have iu:=bq.trans f9 zr;have j4:=gt.trans f9 zr;refine hK.out _ _ es (fun _=> ?_);clear hK K;try simp only [Ad,zl]
     obtain ⟨gd,ah⟩:=Aa v2.heap.size;have aj:wd.heap.size<=gd:=by rw [<- ah.out];exact gt.size
     rw [ah.out] at bz ae ad ⊢;obtain ⟨v9,kp⟩:=Aa (v2.alloc (.cells zO 44));rw [kp.out] at bz es iu j4 ⊢;refine Bh 4 (by kernel_rfl) rfl (by kernel_rfl) (fun K hK=> ?_);go_simp;have af:=Rd.blk (n:=2) (size:=3) (l:=[nb,nc].flatMap Id.cells) (Blk.new v9 38 #[.int .i64 nb.b,.int .i64 nb.s,.int .u64 (nb.u:Int),.int .i64 nc.b,.int .i64 nc.s,.int .u64 (nc.u:Int)]) rfl;have da:Fr Non v9 (v9.alloc (.cells #[.int .i64 nb.b,.int .i64 nb.s,.int .u64 (nb.u:Int),.int .i64 nc.b,.int .i64 nc.s,.int .u64 (nc.u:Int)] 38)):=(Fr.refl Non _).alloc _;have bk:(fun w'=>Blk w' gy 44 yb.cells/\Blk w' gz 44 yc.cells) _:=⟨es.1.fr da zq,es.2.fr da zq⟩;have dk:=iu.trans da zr;have d7:=j4.trans da zr;refine hK.out _ _ bk (fun _=> ?_);clear hK K;try simp only [Ad,zl]
     obtain ⟨lr,ei⟩:=Aa (v9.alloc (.cells #[.int .i64 nb.b,.int .i64 nb.s,.int .u64 (nb.u:Int),.int .i64 nc.b,.int .i64 nc.s,.int .u64 (nc.u:Int)] 38));obtain ⟨rb,az⟩:=Aa v9.heap.size;rw [ei.out] at bk dk d7 af ⊢;rw [az.out] at af ⊢;replace bz:=bz.fr da zq;rw [ei.out] at bz;refine Bh 5 (by kernel_rfl) rfl (by kernel_rfl) (fun K hK=> ?_);go_simp;go_wp2_with (go_at_call 71;(with_reducible refine (ke.out _ _ _ af).mono ?_);rintro _ c5 ⟨yd,rfl,ai,ac,dd⟩);have cq:(fun w'=>Blk w' gy 44 yb.cells/\Blk w' gz 44 yc.cells) _:=⟨bk.1.fr dd zq,bk.2.fr dd zq⟩;have lh:=dk.trans dd zr;have gj:=d7.trans dd zr;refine hK.out _ _ cq (fun _=> ?_);clear hK K;try simp only [Ad,zl]
     replace bz:=bz.fr dd zq;refine Bh 7 (by kernel_rfl) rfl (by kernel_rfl) (fun K hK=> ?_);have ab:=Cn yd;refine Eh 44 (.tmp 6) (.tmp 28) (g:=gd) (cs:=yd.cells) rfl rfl (by rfl) (by rfl) bz hi rfl ab ?_;have fz:Fr (One gd) c5 (c5.setRow gd yd.cells):=(Fr.refl (One gd) c5).setRow (g:=gd) (fun _=>rfl) yd.cells;have ap:(fun w'=>Blk w' gy 44 yb.cells/\Blk w' gz 44 yc.cells) (c5.setRow gd yd.cells):=⟨cq.1.fr fz (fun e=>An3 ae e),cq.2.fr fz (fun e=>An3 ad e)⟩;have bF:=bz.setRow (cs:=yd.cells);have oF:=ac.keepP fz (Types.one bz) (by decide) (by decide) (by decide) (by decide) (by decide) (by decide) (by decide);have fF:Fr Non wd (c5.setRow gd yd.cells):=gj.trans fz (fun k hk e=>absurd hk (Nat.not_lt.2 (by have e':k=gd:=e;rw [e'];exact aj)));refine hK.out _ _ ap (fun hzz=> ?_);clear hK K hzz;refine oD ?_;go_simp;clear ap fz bz ab ac;revert fF oF bF ai;generalize c5.setRow gd yd.cells=wF;clear ah aj ae ad af az;generalize gd=gd2;generalize rb=rb2;revert wF gd2 rb2 yd;exact cm
   refine AllReadyH.cons rfl (fun K hK=> ?_) AllReadyH.nil
   ·
    refine Dt (by kernel_rfl) ?_;go_simp;have bz:=Blk.new v1 44 zO;have ae:gy<v1.heap.size:=bu.1.lt;have ad:gz<v1.heap.size:=bu.2.lt;have ep:Fr Non v1 (v1.alloc (.cells zO 44)):=(Fr.refl Non _).alloc _;have bb:(fun w'=>Blk w' gy 44 yb.cells/\Blk w' gz 44 yc.cells) _:=⟨bu.1.fr ep zq,bu.2.fr ep zq⟩;have br:=a7.trans ep zr;have d3:=e0.trans ep zr;refine hK.out _ _ bb (fun _=> ?_);clear hK K;try simp only [Ad,zl]
    obtain ⟨gd,ah⟩:=Aa v1.heap.size;have aj:wd.heap.size<=gd:=by rw [<- ah.out];exact e0.size
    rw [ah.out] at bz ae ad ⊢;obtain ⟨lm,fs⟩:=Aa (v1.alloc (.cells zO 44));rw [fs.out] at bz bb br d3 ⊢;refine Bh 3 (by kernel_rfl) rfl (by kernel_rfl) (fun K hK=> ?_);go_simp;go_wp2_with (go_at_call 57;(with_reducible refine (c2.out _ br).mono ?_);rintro _ dz ⟨rfl,dn⟩);have b7:(fun w'=>Blk w' gy 44 yb.cells/\Blk w' gz 44 yc.cells) _:=⟨bb.1.fr dn zq,bb.2.fr dn zq⟩;have gs:=br.trans dn zr;have fk:=d3.trans dn zr;refine hK.out _ _ b7 (fun _=> ?_);clear hK K;try simp only [Ad,zl]
    replace bz:=bz.fr dn zq;refine Bh 4 (by kernel_rfl) rfl (by kernel_rfl) (fun K hK=> ?_);go_simp;have af:=Rd.blk (n:=2) (size:=3) (l:=[nb,nc].flatMap Id.cells) (Blk.new dz 38 #[.int .i64 nb.b,.int .i64 nb.s,.int .u64 (nb.u:Int),.int .i64 nc.b,.int .i64 nc.s,.int .u64 (nc.u:Int)]) rfl;have dq:Fr Non dz (dz.alloc (.cells #[.int .i64 nb.b,.int .i64 nb.s,.int .u64 (nb.u:Int),.int .i64 nc.b,.int .i64 nc.s,.int .u64 (nc.u:Int)] 38)):=(Fr.refl Non _).alloc _;have be:(fun w'=>Blk w' gy 44 yb.cells/\Blk w' gz 44 yc.cells) _:=⟨b7.1.fr dq zq,b7.2.fr dq zq⟩;have ee:=gs.trans dq zr;have ea:=fk.trans dq zr;refine hK.out _ _ be (fun _=> ?_);clear hK K;try simp only [Ad,zl]
    obtain ⟨lq,dj⟩:=Aa (dz.alloc (.cells #[.int .i64 nb.b,.int .i64 nb.s,.int .u64 (nb.u:Int),.int .i64 nc.b,.int .i64 nc.s,.int .u64 (nc.u:Int)] 38));obtain ⟨rb,az⟩:=Aa dz.heap.size;rw [dj.out] at be ee ea af ⊢;rw [az.out] at af ⊢;replace bz:=bz.fr dq zq;rw [dj.out] at bz;refine Bh 5 (by kernel_rfl) rfl (by kernel_rfl) (fun K hK=> ?_);go_simp;go_wp2_with (go_at_call 71;(with_reducible refine (ke.out _ _ _ af).mono ?_);rintro _ cz ⟨yd,rfl,ai,ac,d2⟩);have cn:(fun w'=>Blk w' gy 44 yb.cells/\Blk w' gz 44 yc.cells) _:=⟨be.1.fr d2 zq,be.2.fr d2 zq⟩;have lc:=ee.trans d2 zr;have g0:=ea.trans d2 zr;refine hK.out _ _ cn (fun _=> ?_);clear hK K;try simp only [Ad,zl]
    replace bz:=bz.fr d2 zq;refine Bh 7 (by kernel_rfl) rfl (by kernel_rfl) (fun K hK=> ?_);have ab:=Cn yd;refine Eh 44 (.tmp 6) (.tmp 28) (g:=gd) (cs:=yd.cells) rfl rfl (by rfl) (by rfl) bz hi rfl ab ?_;have fz:Fr (One gd) cz (cz.setRow gd yd.cells):=(Fr.refl (One gd) cz).setRow (g:=gd) (fun _=>rfl) yd.cells;have ap:(fun w'=>Blk w' gy 44 yb.cells/\Blk w' gz 44 yc.cells) (cz.setRow gd yd.cells):=⟨cn.1.fr fz (fun e=>An3 ae e),cn.2.fr fz (fun e=>An3 ad e)⟩;have bF:=bz.setRow (cs:=yd.cells);have oF:=ac.keepP fz (Types.one bz) (by decide) (by decide) (by decide) (by decide) (by decide) (by decide) (by decide);have fF:Fr Non wd (cz.setRow gd yd.cells):=g0.trans fz (fun k hk e=>absurd hk (Nat.not_lt.2 (by have e':k=gd:=e;rw [e'];exact aj)));refine hK.out _ _ ap (fun hzz=> ?_);clear hK K hzz;refine oD ?_;go_simp;clear ap fz bz ab ac;revert fF oF bF ai;generalize cz.setRow gd yd.cells=wF;clear ah aj ae ad af az;generalize gd=gd2;generalize rb=rb2;revert wF gd2 rb2 yd;exact cm
  refine AllReadyH.cons rfl (fun K hK=> ?_) AllReadyH.nil
  ·
   refine Dt (by kernel_rfl) ?_;go_simp;have bz:=Blk.new wd 44 zO;have ae:gy<wd.heap.size:=a9.1.lt;have ad:gz<wd.heap.size:=a9.2.lt;have et:Fr Non wd (wd.alloc (.cells zO 44)):=(Fr.refl Non _).alloc _;have bg:(fun w'=>Blk w' gy 44 yb.cells/\Blk w' gz 44 yc.cells) _:=⟨a9.1.fr et zq,a9.2.fr et zq⟩;have ci:=b4.trans et zr;have dm:=gf.trans et zr;refine hK.out _ _ bg (fun _=> ?_);clear hK K;try simp only [Ad,zl]
   obtain ⟨gd,ah⟩:=Aa wd.heap.size;have aj:wd.heap.size<=gd:=by rw [<- ah.out];exact gf.size
   rw [ah.out] at bz ae ad ⊢;obtain ⟨lu,gv⟩:=Aa (wd.alloc (.cells zO 44));rw [gv.out] at bz bg ci dm ⊢;refine Bh 1 (by kernel_rfl) rfl (by kernel_rfl) (fun K hK=> ?_);go_simp;go_wp2_with (go_at_call 57;(with_reducible refine (ed.out _ ci).mono ?_);rintro _ ln ⟨rfl,ds⟩);have ch:(fun w'=>Blk w' gy 44 yb.cells/\Blk w' gz 44 yc.cells) _:=⟨bg.1.fr ds zq,bg.2.fr ds zq⟩;have dt:=ci.trans ds zr;have gh:=dm.trans ds zr;refine hK.out _ _ ch (fun _=> ?_);clear hK K;try simp only [Ad,zl]
   replace bz:=bz.fr ds zq;refine Bh 3 (by kernel_rfl) rfl (by kernel_rfl) (fun K hK=> ?_);go_simp;go_wp2_with (go_at_call 57;(with_reducible refine (c2.out _ dt).mono ?_);rintro _ ek ⟨rfl,dy⟩);have cg:(fun w'=>Blk w' gy 44 yb.cells/\Blk w' gz 44 yc.cells) _:=⟨ch.1.fr dy zq,ch.2.fr dy zq⟩;have gl:=dt.trans dy zr;have gk:=gh.trans dy zr;refine hK.out _ _ cg (fun _=> ?_);clear hK K;try simp only [Ad,zl]
   replace bz:=bz.fr dy zq;refine Bh 4 (by kernel_rfl) rfl (by kernel_rfl) (fun K hK=> ?_);go_simp;have af:=Rd.blk (n:=2) (size:=3) (l:=[nb,nc].flatMap Id.cells) (Blk.new ek 38 #[.int .i64 nb.b,.int .i64 nb.s,.int .u64 (nb.u:Int),.int .i64 nc.b,.int .i64 nc.s,.int .u64 (nc.u:Int)]) rfl;have db:Fr Non ek (ek.alloc (.cells #[.int .i64 nb.b,.int .i64 nb.s,.int .u64 (nb.u:Int),.int .i64 nc.b,.int .i64 nc.s,.int .u64 (nc.u:Int)] 38)):=(Fr.refl Non _).alloc _;have bf:(fun w'=>Blk w' gy 44 yb.cells/\Blk w' gz 44 yc.cells) _:=⟨cg.1.fr db zq,cg.2.fr db zq⟩;have d5:=gl.trans db zr;have dp:=gk.trans db zr;refine hK.out _ _ bf (fun _=> ?_);clear hK K;try simp only [Ad,zl]
   obtain ⟨lo,d0⟩:=Aa (ek.alloc (.cells #[.int .i64 nb.b,.int .i64 nb.s,.int .u64 (nb.u:Int),.int .i64 nc.b,.int .i64 nc.s,.int .u64 (nc.u:Int)] 38));obtain ⟨rb,az⟩:=Aa ek.heap.size;rw [d0.out] at bf d5 dp af ⊢;rw [az.out] at af ⊢;replace bz:=bz.fr db zq;rw [d0.out] at bz;refine Bh 5 (by kernel_rfl) rfl (by kernel_rfl) (fun K hK=> ?_);go_simp;go_wp2_with (go_at_call 71;(with_reducible refine (ke.out _ _ _ af).mono ?_);rintro _ c4 ⟨yd,rfl,ai,ac,eh⟩);have cd:(fun w'=>Blk w' gy 44 yb.cells/\Blk w' gz 44 yc.cells) _:=⟨bf.1.fr eh zq,bf.2.fr eh zq⟩;have k4:=d5.trans eh zr;have g1:=dp.trans eh zr;refine hK.out _ _ cd (fun _=> ?_);clear hK K;try simp only [Ad,zl]
   replace bz:=bz.fr eh zq;refine Bh 7 (by kernel_rfl) rfl (by kernel_rfl) (fun K hK=> ?_);have ab:=Cn yd;refine Eh 44 (.tmp 6) (.tmp 28) (g:=gd) (cs:=yd.cells) rfl rfl (by rfl) (by rfl) bz hi rfl ab ?_;have fz:Fr (One gd) c4 (c4.setRow gd yd.cells):=(Fr.refl (One gd) c4).setRow (g:=gd) (fun _=>rfl) yd.cells;have ap:(fun w'=>Blk w' gy 44 yb.cells/\Blk w' gz 44 yc.cells) (c4.setRow gd yd.cells):=⟨cd.1.fr fz (fun e=>An3 ae e),cd.2.fr fz (fun e=>An3 ad e)⟩;have bF:=bz.setRow (cs:=yd.cells);have oF:=ac.keepP fz (Types.one bz) (by decide) (by decide) (by decide) (by decide) (by decide) (by decide) (by decide);have fF:Fr Non wd (c4.setRow gd yd.cells):=g1.trans fz (fun k hk e=>absurd hk (Nat.not_lt.2 (by have e':k=gd:=e;rw [e'];exact aj)));refine hK.out _ _ ap (fun hzz=> ?_);clear hK K hzz;refine oD ?_;go_simp;clear ap fz bz ab ac;revert fF oF bF ai;generalize c4.setRow gd yd.cells=wF;clear ah aj ae ad af az;generalize gd=gd2;generalize rb=rb2;revert wF gd2 rb2 yd;exact cm
 case hp=>
  intro yd w9 gd rb ai bd ac F9;have a8:=Fd.trans F9 zr;have aq:yd.op.ok:=by rw [ai];exact Ff Se
  replace ai:Hid (yd.op=sgn lD):=ai;have b4:=eo.trans a8 zr;have fq:KindsAt w9:=k9.out.fr b4;have ax:=jd.fr a8;have jc:=bh.fr a8 zq;have kb:=c0.fr a8 zq;have g5:=ev.fr a8 zq;have hh:=bd;have h5:=bx.fr a8 zq;have fc:=d8.non a8;have hn:=b8.non a8;have g8:=cr.non a8;have i4:=ac;have bt:=fe;have ct:=j6;have d6:=hb;have fb:=Bb (P:=zp) ga 44 underlying44 rfl (cs:=ya.cells) hi;have lp:=Bb (P:=zp) gd 44 underlying44 rfl (cs:=yd.cells) hi;clear a9 ke ed c2 Fd F9 a8 bh c0 ev bx d8 b8 cr ac bd eo jd fe j6 hb ey wd;have kt:=Gh (x:=ya) (l:=[]) (p:=pA) d6.out ax fc.at bl fq (by rw [ct.out,cx.out];exact addA0 jn.out ka.out) (by rw [cx.out];exact pnA);rw [bt.out] at kt;have kj:=lh kt;clear kt
  go_upto_region 11 with (first
   |(go_at_call 17;(with_reducible refine (kj.out).mono ?_);rintro _ u1 ⟨rfl,q1,av,kw,k5,fx,F⟩;have b3:Hid (q1.gb=gb):=kw.trans bt.out;have cb:Hid (q1.cards=[cd1,cd2]):=k5.trans ct.out;have dr:Hid (q1.pns=[pA]):=fx;have ie:=Blk.keepG jc ax F (by unfold Gty;decide);have je:=Blk.keepG kb ax F (by unfold Gty;decide);have hy:=Blk.keepG g5 ax F (by unfold Gty;decide);have hx:=Blk.keepG hh ax F (by unfold Gty;decide);have iz:=Blk.keepG h5 ax F (by unfold Gty;decide);have iv:=fc.keepG ax F;have f8:=hn.keepG ax F;have jf:=g8.keepG ax F;have jr:=i4.keepG ax F;have a7:=b4.trans F (fun k hk e=>by have h1:=ax.ge e;omega);have ft:=KindsAt.own fq ax F;have kt:=Gh (x:=yb) (l:=[pA]) (p:=pB) dr.out av f8.at a5 ft (by rw [cb.out,cv.out];exact addB0 jn.out ka.out) (by rw [cv.out];exact pnB);rw [b3.out] at kt;have hm:=lh kt;clear kt;clear ax bt ct d6 fq b4 jc kb g5 hh h5 fc hn g8 i4 kj F)
   |(go_at_call 17;(with_reducible refine (hm.out).mono ?_);rintro _ u2 ⟨rfl,q2,gr,k7,kr,ez,F⟩;have cc:Hid (q2.gb=gb):=k7.trans b3.out;have bv:Hid (q2.cards=[cd1,cd2]):=kr.trans cb.out;have bw:Hid (q2.pns=[pA,pB]):=ez;have jy:=Blk.keepG ie av F (by unfold Gty;decide);have i7:=Blk.keepG je av F (by unfold Gty;decide);have j2:=Blk.keepG hy av F (by unfold Gty;decide);have g6:=Blk.keepG hx av F (by unfold Gty;decide);have iy:=Blk.keepG iz av F (by unfold Gty;decide);have i0:=iv.keepG av F;have i5:=f8.keepG av F;have kd:=jf.keepG av F;have gg:=jr.keepG av F;have bq:=a7.trans F (fun k hk e=>by have h1:=av.ge e;omega);have g3:=KindsAt.own ft av F;have kt:=Ma (x:=yd) (l:=[pA,pB]) (err:=10) bw.out gr gg.at aq g3 (by rw [bv.out,ai.out];exact Al9 gu.out gm.out) (by decide);rw [cc.out] at kt;have ha:=lh kt;clear kt;clear av b3 cb dr ft a7 ie je hy hx iz iv f8 jf jr hm F)
   |(go_at_call 17;(with_reducible refine (ha.out).mono ?_);rintro _ u3 ⟨rfl,F⟩;have aw:=gr.fr F;have bs:=cc;have cl:=bv;have dc:=bw;have h9:=jy.fr F zq;have hc:=i7.fr F zq;have ja:=j2.fr F zq;have ir:=g6.fr F zq;have h7:=iy.fr F zq;have ij:=i0.non F;have i8:=i5.non F;have e9:=kd.non F;have jb:=gg.non F;have bi:=bq.trans F zr;have fn:=g3.fr F;have kt:=Gh (x:=yc) (l:=[pA,pB]) (p:=pC) dc.out aw e9.at a4 fn (by rw [cl.out,cy.out];exact addC0 gu.out gm.out) (by rw [cy.out];exact pnC);rw [bs.out] at kt;have kh:=lh kt;clear kt;clear gr cc bv bw g3 bq jy i7 j2 g6 iy i0 i5 kd gg ha F)
   |(go_at_call 17;(with_reducible refine (kh.out).mono ?_);rintro _ u4 ⟨rfl,q4,au,ks,la,ky,F⟩;have b9:Hid (q4.gb=gb):=ks.trans bs.out;have cf:Hid (q4.cards=[cd1,cd2]):=la.trans cl.out;have di:Hid (q4.pns=[pA,pB,pC]):=ky;have hw:=Blk.keepG h9 aw F (by unfold Gty;decide);have jg:=Blk.keepG hc aw F (by unfold Gty;decide);have ho:=Blk.keepG ja aw F (by unfold Gty;decide);have jx:=Blk.keepG ir aw F (by unfold Gty;decide);have kk:=Blk.keepG h7 aw F (by unfold Gty;decide);have hv:=ij.keepG aw F;have jq:=i8.keepG aw F;have ib:=e9.keepG aw F;have gc:=jb.keepG aw F;have cj:=bi.trans F (fun k hk e=>by have h1:=aw.ge e;omega);have fd:=KindsAt.own fn aw F;have kt:=Gh (x:=yd) (l:=[pA,pB,pC]) (p:=pD) di.out au gc.at aq fd (by rw [cf.out,ai.out];exact addD0 gu.out gm.out) (by rw [ai.out];exact pnD);rw [b9.out] at kt;have im:=lh kt;clear kt;clear aw bs cl dc fn bi h9 hc ja ir h7 ij i8 e9 jb kh F)
   |(go_at_call 17;(with_reducible refine (im.out).mono ?_);rintro _ u5 ⟨rfl,q5,gw,kq,k8,ll,F⟩;have b5:Hid (q5.gb=gb):=kq.trans b9.out;have ce:Hid (q5.cards=[cd1,cd2]):=k8.trans cf.out;have b0:Hid (q5.pns=[pA,pB,pC,pD]):=ll;have ii:=Blk.keepG hw au F (by unfold Gty;decide);have i3:=Blk.keepG jg au F (by unfold Gty;decide);have ju:=Blk.keepG ho au F (by unfold Gty;decide);have il:=Blk.keepG jx au F (by unfold Gty;decide);have hs:=Blk.keepG kk au F (by unfold Gty;decide);have j3:=hv.keepG au F;have j0:=jq.keepG au F;have ia:=ib.keepG au F;have fp:=gc.keepG au F;have er:=cj.trans F (fun k hk e=>by have h1:=au.ge e;omega);have fi:=KindsAt.own fd au F;have kt:=Ma (x:=yd) (l:=[pA,pB,pC,pD]) (err:=5) b0.out gw fp.at aq fi (by rw [ce.out,ai.out];exact addD5) (by decide);rw [b5.out] at kt;have kg:=lh kt;clear kt;clear au b9 cf di fd cj hw jg ho jx kk hv jq ib gc im F)
   |(go_at_call 17;(with_reducible refine (kg.out).mono ?_);rintro _ u6 ⟨rfl,F⟩;have i1:=gw.fr F;have ay:=b5;have e8:=ce;have ak:=b0;have lb:=ii.fr F zq;have km:=i3.fr F zq;have ki:=ju.fr F zq;have k2:=il.fr F zq;have jl:=hs.fr F zq;have lk:=j3.non F;have jo:=j0.non F;have jh:=ia.non F;have ig:=fp.non F;have bn:=er.trans F zr;have k1:=fi.fr F;clear gw b5 ce b0 fi er ii i3 ju il hs j3 j0 ia fp kg F))
  clear fb he i6;obtain ⟨m0,jp,kz⟩:=Jg ak.out (i:=0) rfl;obtain ⟨m1,ih,fx⟩:=Jg ak.out (i:=1) rfl;obtain ⟨m2,gq,ez⟩:=Jg ak.out (i:=2) rfl;obtain ⟨m3,ec,fl⟩:=Jg ak.out (i:=3) rfl;have pl:∀id i,plc [pA,pB,pC,pD] id=some i->Af q5.nodes id=some i:=fun id i h=>by rw [<- Fv];exact (congrArg (fun l=>plc l id) ak.out).trans h
  have gi:Af q5.nodes lA.name=some 0:=pl _ _ (plA _);have fm:Af q5.nodes lB.name=some 1:=pl _ _ (plB _);have ck:Af q5.nodes lC.name=some 2:=pl _ _ (plC _);have de:Af q5.nodes lD.name=some 3:=pl _ _ (plD _);have ag:=Ec Se;have dx:yd.op.name=lD.name:=by rw [ai.out];exact Gf lD
  obtain ⟨nd,ld⟩:=Aa lD.name;rw [dh.out] at gi;rw [fh.out] at fm;rw [gp.out] at ck;rw [ld.out] at de ag dx;have fw:∀k,m3.past k=decide (k<3):=fun k=>congrFun (congrArg Pn.ps fl) k;have ko:∀k,m2.past k=(k==0):=fun k=>congrFun (congrArg Pn.ps ez) k;have cp:q5.nodes.length=4:=by have h:=congrArg List.length ak.out;unfold Gph.pns at h;rw [List.length_map] at h;exact h
  have a6:q5.level nd=3:=by unfold Gph.level;rw [de];simp only [ec];exact congrArg Pn.lev fl
  have ej:q5.before nx nd=true:=by unfold Gph.before;rw [gi,de];simp only [ec];show m3.past 0=true;rw [fw];rfl
  have d1:q5.before nb nc=false:=by unfold Gph.before;rw [fm,ck];simp only [gq];show m2.past 1=false;rw [ko];rfl
  have a1:∀k,q5.ups [nd] k=decide (k<3):=fun k=>by unfold Gph.ups Gph.up;simp only [List.any_cons,List.any_nil,Bool.or_false,de,ec];exact fw k
  have jz:(Dq q5.nodes (q5.ups [nd]) q5.nodes.length).length=3:=by
   rw [cp,Fy _ _ 3 ec,Fy _ _ 2 gq,Fy _ _ 1 ih,Fy _ _ 0 jp,a1,a1,a1,a1];rfl
  have dw:=lh (fun w' (h:GAt w' w1.heap.size q5)=>Np w1.heap.size q5 w' h);have dv:=lh (fun w' (h:GAt w' w1.heap.size q5)=>U1 w1.heap.size q5 nd w' h ag);have jj:=lh (fun w' (h:GAt w' w1.heap.size q5)=>Nq w1.heap.size q5 nx nd w' h a2 ag);have io:=lh (fun w' (h:GAt w' w1.heap.size q5)=>Nq w1.heap.size q5 nb nc w' h ao al);rw [cp,ay.out] at dw;rw [a6,ay.out] at dv;rw [ej,ay.out] at jj;rw [d1,ay.out] at io
  have eg:Hid (∀(A:Option Addr) (c B:Nat) (w':World),GAt w' w1.heap.size q5->Rd w' B 3 A 1 ([nd].flatMap Id.cells)->Calls zp 73 #[.pointer (some ⟨gb,0,none⟩),.slice A 1 c] w' fun e ar=>∃A' c',e=.returned (.slice A' 3 c')/\Fr Non w' ar):=by
   intro A c B w' k3 k6;have h:=Ag9 w1.heap.size q5 B 1 c A [nd] w' Rv k3 rfl k6 (by decide) (by intro z hz;obtain rfl:=List.mem_singleton.1 hz;exact ag);rw [ay.out] at h;refine Calls.mono h ?_;rintro e ar ⟨A',c',lj,rfl,h1,_,_,h4⟩;have hl:lj.length=3:=by rw [h1.length_eq,jz]
   rw [hl];exact ⟨A',c',rfl,h4⟩
  have h0:=lh (Gj yd nd dx u6 ig.at aq);clear pl gi fm ck de fw ko cp a6 ej d1 a1 jz jp ih gq ec kz fx ez fl ak ay e8 m0 m1 m2 m3;go_upto_region 12 with (go_at_call 57;(with_reducible refine (h0.out).mono ?_);rintro _ u7 ⟨rfl,f7⟩)
  have bo:Fr Non u6 (u7.alloc (.cells nd.V 38)):=f7.alloc _;have c6:=Blk.new u7 38 nd.V;obtain ⟨gn,dl⟩:=Aa u7.heap.size;rw [dl.out] at c6 ⊢;generalize u7.alloc (.cells nd.V 38)=u8 at*;have eo:=bn.trans bo zr;have ef:=i1.fr bo;have i9:=jo.non bo;have ip:=jh.non bo;have eu:=jl.fr bo zq;have g7:=km.fr bo zq;have hq:=ki.fr bo zq;clear h0 f7 bo dl bn i1 jo jh jl km ki lb k2 lk ig k1;have ed:Hid (∀w',Fr Non u8 w'->Calls zp 57 #[.agg yb.cells] w' fun e ar=>e=.returned (.agg nb.V)/\Fr Non w' ar):=fun w' h=>Gj yb nb a3.out w' (i9.non h).at a5;have c2:Hid (∀w',Fr Non u8 w'->Calls zp 57 #[.agg yc.cells] w' fun e ar=>e=.returned (.agg nc.V)/\Fr Non w' ar):=fun w' h=>Gj yc nc a0.out w' (ip.non h).at a4;have he:=Bb (P:=zp) gy 44 underlying44 rfl (cs:=yb.cells) hi;have i6:=Bb (P:=zp) gz 44 underlying44 rfl (cs:=yc.cells) hi;have jm:(fun w'=>cI w' gn 0 nd.b/\cI w' gn 1 nd.s/\cU w' gn 2 nd.u/\cI w' gx 0 nx.b/\cI w' gx 1 nx.s/\cU w' gx 2 nx.u/\Blk w' gy 44 yb.cells/\Blk w' gz 44 yc.cells) u8:=⟨c6.cell 0,c6.cell 1,c6.cell 2,eu.cell 0,eu.cell 1,eu.cell 2,g7,hq⟩;have bj:Hid (∀a b,Fr Non a b->(fun w'=>cI w' gn 0 nd.b/\cI w' gn 1 nd.s/\cU w' gn 2 nd.u/\cI w' gx 0 nx.b/\cI w' gx 1 nx.s/\cU w' gx 2 nx.u/\Blk w' gy 44 yb.cells/\Blk w' gz 44 yc.cells) a->(fun w'=>cI w' gn 0 nd.b/\cI w' gn 1 nd.s/\cU w' gn 2 nd.u/\cI w' gx 0 nx.b/\cI w' gx 1 nx.s/\cU w' gx 2 nx.u/\Blk w' gy 44 yb.cells/\Blk w' gz 44 yc.cells) b):=fun a b f h=>⟨f.cell h.1 zq,f.cell h.2.1 zq,f.cell h.2.2.1 zq,f.cell h.2.2.2.1 zq,f.cell h.2.2.2.2.1 zq,f.cell h.2.2.2.2.2.1 zq,h.2.2.2.2.2.2.1.fr f zq,h.2.2.2.2.2.2.2.fr f zq⟩;clear c6 eu g7 hq i9 ip;refine wp_region_held_drew (S:=(fun w'=>cI w' gn 0 nd.b/\cI w' gn 1 nd.s/\cU w' gn 2 nd.u/\cI w' gx 0 nx.b/\cI w' gx 1 nx.s/\cU w' gx 2 nx.u/\Blk w' gy 44 yb.cells/\Blk w' gz 44 yc.cells)) (by kernel_rfl) (bj.out _ _ ((Fr.refl Non u8).drew) jm) (fun hHeld=> ?_);clear hHeld;obtain ⟨ue,js⟩:=Aa u8.drew;have fy:Fr Non u8 ue:=by rw [<- js.out];exact (Fr.refl Non u8).drew
  have fu:=bj.out _ _ fy jm;rw [js.out];refine Bp (i:=0) (v:=?_) rfl (by kernel_rfl) (by kernel_rfl) (by kernel_rfl) (fun _ _ _ h=>h) (Or.inl ⟨by kernel_rfl,?_⟩) fu ?_;rotate_left
  focus (intro w' aa;have c7:=aa.2.2.2.2.2.2.1;have c8:=aa.2.2.2.2.2.2.2;(try dsimp only at aa c7 c8);go_simp;(try with_reducible rfl))
  simp only [zl];refine Bp (i:=1) (v:=?_) rfl (by kernel_rfl) (by kernel_rfl) (by kernel_rfl) (fun _ _ _ h=>h) (Or.inl ⟨by kernel_rfl,?_⟩) fu ?_;rotate_left
  focus (intro w' aa;have c7:=aa.2.2.2.2.2.2.1;have c8:=aa.2.2.2.2.2.2.2;(try dsimp only at aa c7 c8);go_simp;(try with_reducible rfl))
  simp only [zl];refine oG 2 (fun K hK=> ?_);go_simp;go_wp2_with (go_at_call 72;(with_reducible refine (dv.out _ (ef.fr fy)).mono ?_);rintro _ x1 ⟨rfl,e1⟩);have lg:=fy.trans e1 zr;have cu:=bj.out _ _ e1 fu;refine hK.out _ _ cu (fun hZ=> ?_);clear hZ hK K;try simp only [Ac,zl]
  refine Bp (i:=3) (v:=?_) rfl (by kernel_rfl) (by kernel_rfl) (by kernel_rfl) (fun _ _ _ h=>h) (Or.inl ⟨by kernel_rfl,?_⟩) cu ?_;rotate_left
  focus (intro w' aa;have c7:=aa.2.2.2.2.2.2.1;have c8:=aa.2.2.2.2.2.2.2;(try dsimp only at aa c7 c8);go_simp;(try with_reducible rfl))
  simp only [zl];refine Bp (i:=4) (v:=?_) rfl (by kernel_rfl) (by kernel_rfl) (by kernel_rfl) (fun _ _ _ h=>h) (Or.inl ⟨by kernel_rfl,?_⟩) cu ?_;rotate_left
  focus (intro w' aa;have c7:=aa.2.2.2.2.2.2.1;have c8:=aa.2.2.2.2.2.2.2;(try dsimp only at aa c7 c8);go_simp;(try with_reducible rfl))
  simp only [zl];refine Bp (i:=5) (v:=?_) rfl (by kernel_rfl) (by kernel_rfl) (by kernel_rfl) (fun _ _ _ h=>h) (Or.inl ⟨by kernel_rfl,?_⟩) cu ?_;rotate_left
  focus (intro w' aa;have c7:=aa.2.2.2.2.2.2.1;have c8:=aa.2.2.2.2.2.2.2;(try dsimp only at aa c7 c8);go_simp;(try with_reducible rfl))
  simp only [zl];refine Bp (i:=6) (v:=?_) rfl (by kernel_rfl) (by kernel_rfl) (by kernel_rfl) (fun _ _ _ h=>h) (Or.inl ⟨by kernel_rfl,?_⟩) cu ?_;rotate_left
  focus (intro w' aa;have c7:=aa.2.2.2.2.2.2.1;have c8:=aa.2.2.2.2.2.2.2;(try dsimp only at aa c7 c8);go_simp;(try with_reducible rfl))
  simp only [zl];refine oG 7 (fun K hK=> ?_);go_simp;have af:=Rd.blk (n:=1) (size:=3) (l:=[nd].flatMap Id.cells) (Blk.new x1 38 nd.V) rfl;have e2:Fr Non x1 (x1.alloc (.cells nd.V 38)):=(Fr.refl Non _).alloc _;have i2:=lg.trans e2 zr;have hf:=bj.out _ _ e2 cu;refine hK.out _ _ hf (fun hZ=> ?_);clear hZ hK K;try simp only [Ac,zl]
  refine oG 8 (fun K hK=> ?_);go_simp;go_wp2_with (go_at_call 73;(with_reducible refine (eg.out _ _ _ _ (ef.fr i2) af).mono ?_);rintro _ x3 ⟨A9,c9,rfl,e3⟩);have ik:=i2.trans e3 zr;have bc:=bj.out _ _ e3 hf;refine hK.out _ _ bc (fun hZ=> ?_);clear hZ hK K;try simp only [Ac,zl]
  refine Bp (i:=9) (v:=?_) rfl (by kernel_rfl) (by kernel_rfl) (by kernel_rfl) (fun _ _ _ h=>h) (Or.inl ⟨by kernel_rfl,?_⟩) bc ?_;rotate_left
  focus (intro w' aa;have c7:=aa.2.2.2.2.2.2.1;have c8:=aa.2.2.2.2.2.2.2;(try dsimp only at aa c7 c8);go_simp;(try with_reducible rfl))
  simp only [zl];refine Bp (i:=10) (v:=?_) rfl (by kernel_rfl) (by kernel_rfl) (by kernel_rfl) (fun _ _ _ h=>h) (Or.inl ⟨by kernel_rfl,?_⟩) bc ?_;rotate_left
  focus (intro w' aa;have c7:=aa.2.2.2.2.2.2.1;have c8:=aa.2.2.2.2.2.2.2;(try dsimp only at aa c7 c8);go_simp;(try with_reducible rfl))
  simp only [zl];refine Bp (i:=11) (v:=?_) rfl (by kernel_rfl) (by kernel_rfl) (by kernel_rfl) (fun _ _ _ h=>h) (Or.inl ⟨by kernel_rfl,?_⟩) bc ?_;rotate_left
  focus (intro w' aa;have c7:=aa.2.2.2.2.2.2.1;have c8:=aa.2.2.2.2.2.2.2;(try dsimp only at aa c7 c8);go_simp;(try with_reducible rfl))
  simp only [zl];refine Bp (i:=12) (v:=?_) rfl (by kernel_rfl) (by kernel_rfl) (by kernel_rfl) (fun _ _ _ h=>h) (Or.inl ⟨by kernel_rfl,?_⟩) bc ?_;rotate_left
  focus (intro w' aa;have c7:=aa.2.2.2.2.2.2.1;have c8:=aa.2.2.2.2.2.2.2;(try dsimp only at aa c7 c8);go_simp;(try with_reducible rfl))
  simp only [zl];refine Bp (i:=13) (v:=?_) rfl (by kernel_rfl) (by kernel_rfl) (by kernel_rfl) (fun _ _ _ h=>h) (Or.inl ⟨by kernel_rfl,?_⟩) bc ?_;rotate_left
  focus (intro w' aa;have c7:=aa.2.2.2.2.2.2.1;have c8:=aa.2.2.2.2.2.2.2;(try dsimp only at aa c7 c8);go_simp;(try with_reducible rfl))
  simp only [zl];refine Bp (i:=14) (v:=?_) rfl (by kernel_rfl) (by kernel_rfl) (by kernel_rfl) (fun _ _ _ h=>h) (Or.inl ⟨by kernel_rfl,?_⟩) bc ?_;rotate_left
  focus (intro w' aa;have c7:=aa.2.2.2.2.2.2.1;have c8:=aa.2.2.2.2.2.2.2;(try dsimp only at aa c7 c8);go_simp;(try with_reducible rfl))
  simp only [zl];refine Bp (i:=15) (v:=?_) rfl (by kernel_rfl) (by kernel_rfl) (by kernel_rfl) (fun _ _ _ h=>h) (Or.inl ⟨by kernel_rfl,?_⟩) bc ?_;rotate_left
  focus (intro w' aa;have c7:=aa.2.2.2.2.2.2.1;have c8:=aa.2.2.2.2.2.2.2;(try dsimp only at aa c7 c8);go_simp;(try with_reducible rfl))
  simp only [zl];refine oG 16 (fun K hK=> ?_);go_simp;go_wp2_with (go_at_call 35;(with_reducible refine (jj.out _ (ef.fr ik)).mono ?_);rintro _ x4 ⟨rfl,e4⟩);have ic:=ik.trans e4 zr;have ca:=bj.out _ _ e4 bc;refine hK.out _ _ ca (fun hZ=> ?_);clear hZ hK K;try simp only [Ac,zl]
  refine Bp (i:=17) (v:=?_) rfl (by kernel_rfl) (by kernel_rfl) (by kernel_rfl) (fun _ _ _ h=>h) (Or.inl ⟨by kernel_rfl,?_⟩) ca ?_;rotate_left
  focus (intro w' aa;have c7:=aa.2.2.2.2.2.2.1;have c8:=aa.2.2.2.2.2.2.2;(try dsimp only at aa c7 c8);go_simp;(try with_reducible rfl))
  simp only [zl];refine Bp (i:=18) (v:=?_) rfl (by kernel_rfl) (by kernel_rfl) (by kernel_rfl) (fun _ _ _ h=>h) (Or.inl ⟨by kernel_rfl,?_⟩) ca ?_;rotate_left
  focus (intro w' aa;have c7:=aa.2.2.2.2.2.2.1;have c8:=aa.2.2.2.2.2.2.2;(try dsimp only at aa c7 c8);go_simp;(try with_reducible rfl))
  simp only [zl];refine Bp (i:=19) (v:=?_) rfl (by kernel_rfl) (by kernel_rfl) (by kernel_rfl) (fun _ _ _ h=>h) (Or.inl ⟨by kernel_rfl,?_⟩) ca ?_;rotate_left
  focus (intro w' aa;have c7:=aa.2.2.2.2.2.2.1;have c8:=aa.2.2.2.2.2.2.2;(try dsimp only at aa c7 c8);go_simp;(try with_reducible rfl))
  simp only [zl];refine Bp (i:=20) (v:=?_) rfl (by kernel_rfl) (by kernel_rfl) (by kernel_rfl) (fun _ _ _ h=>h) (Or.inl ⟨by kernel_rfl,?_⟩) ca ?_;rotate_left
  focus (intro w' aa;have c7:=aa.2.2.2.2.2.2.1;have c8:=aa.2.2.2.2.2.2.2;(try dsimp only at aa c7 c8);go_simp;(try with_reducible rfl))
  simp only [zl];refine Bp (i:=22) (v:=?_) rfl (by kernel_rfl) (by kernel_rfl) (by kernel_rfl) (fun _ _ _ h=>h) (Or.inl ⟨by kernel_rfl,?_⟩) ca ?_;rotate_left
  focus (intro w' aa;have c7:=aa.2.2.2.2.2.2.1;have c8:=aa.2.2.2.2.2.2.2;(try dsimp only at aa c7 c8);go_simp;(try with_reducible rfl))
  simp only [zl];refine oG 21 (fun K hK=> ?_);go_simp;go_wp2_with (go_at_call 57;(with_reducible refine (ed.out _ ic).mono ?_);rintro _ x5 ⟨rfl,e5⟩);have j5:=ic.trans e5 zr;have ht:=bj.out _ _ e5 ca;refine hK.out _ _ ht (fun hZ=> ?_);clear hZ hK K;try simp only [Ac,zl]
  refine oG 23 (fun K hK=> ?_);go_simp;go_wp2_with (go_at_call 57;(with_reducible refine (c2.out _ j5).mono ?_);rintro _ x6 ⟨rfl,e6⟩);have j9:=j5.trans e6 zr;have g4:=bj.out _ _ e6 ht;refine hK.out _ _ g4 (fun hZ=> ?_);clear hZ hK K;try simp only [Ac,zl]
  refine oG 24 (fun K hK=> ?_);go_simp;go_wp2_with (go_at_call 35;(with_reducible refine (io.out _ (ef.fr j9)).mono ?_);rintro _ x7 ⟨rfl,e7⟩);have j7:=j9.trans e7 zr;have ba:=bj.out _ _ e7 g4;refine hK.out _ _ ba (fun hZ=> ?_);clear hZ hK K;try simp only [Ac,zl]
  refine Bp (i:=25) (v:=?_) rfl (by kernel_rfl) (by kernel_rfl) (by kernel_rfl) (fun _ _ _ h=>h) (Or.inl ⟨by kernel_rfl,?_⟩) ba ?_;rotate_left
  focus (intro w' aa;have c7:=aa.2.2.2.2.2.2.1;have c8:=aa.2.2.2.2.2.2.2;(try dsimp only at aa c7 c8);go_simp;(try with_reducible rfl))
  simp only [zl];refine Bp (i:=26) (v:=?_) rfl (by kernel_rfl) (by kernel_rfl) (by kernel_rfl) (fun _ _ _ h=>h) (Or.inl ⟨by kernel_rfl,?_⟩) ba ?_;rotate_left
  focus (intro w' aa;have c7:=aa.2.2.2.2.2.2.1;have c8:=aa.2.2.2.2.2.2.2;(try dsimp only at aa c7 c8);go_simp;(try with_reducible rfl))
  simp only [zl];refine Bp (i:=27) (v:=?_) rfl (by kernel_rfl) (by kernel_rfl) (by kernel_rfl) (fun _ _ _ h=>h) (Or.inl ⟨by kernel_rfl,?_⟩) ba ?_;rotate_left
  focus (intro w' aa;have c7:=aa.2.2.2.2.2.2.1;have c8:=aa.2.2.2.2.2.2.2;(try dsimp only at aa c7 c8);go_simp;(try with_reducible rfl))
  simp only [zl];refine Bp (i:=28) (v:=?_) rfl (by kernel_rfl) (by kernel_rfl) (by kernel_rfl) (fun _ _ _ h=>h) (Or.inl ⟨by kernel_rfl,?_⟩) ba ?_;rotate_left
  focus (intro w' aa;have c7:=aa.2.2.2.2.2.2.1;have c8:=aa.2.2.2.2.2.2.2;(try dsimp only at aa c7 c8);go_simp;(try with_reducible rfl))
  simp only [zl];refine oG 29 (fun K hK=> ?_);go_simp;go_wp2_with (go_at_call 18;(with_reducible refine (dw.out _ (ef.fr j7)).mono ?_);rintro _ _ ⟨rfl,rfl⟩);refine hK.out _ _ ba (fun hZ=> ?_);clear hZ hK K;try simp only [Ac,zl]
  refine Bp (i:=30) (v:=?_) rfl (by kernel_rfl) (by kernel_rfl) (by kernel_rfl) (fun _ _ _ h=>h) (Or.inl ⟨by kernel_rfl,?_⟩) ba ?_;rotate_left
  focus (intro w' aa;have c7:=aa.2.2.2.2.2.2.1;have c8:=aa.2.2.2.2.2.2.2;(try dsimp only at aa c7 c8);go_simp;(try with_reducible rfl))
  simp only [zl];refine Bp (i:=31) (v:=?_) rfl (by kernel_rfl) (by kernel_rfl) (by kernel_rfl) (fun _ _ _ h=>h) (Or.inl ⟨by kernel_rfl,?_⟩) ba ?_;rotate_left
  focus (intro w' aa;have c7:=aa.2.2.2.2.2.2.1;have c8:=aa.2.2.2.2.2.2.2;(try dsimp only at aa c7 c8);go_simp;(try with_reducible rfl))
  simp only [zl];refine Bp (i:=32) (v:=?_) rfl (by kernel_rfl) (by kernel_rfl) (by kernel_rfl) (fun _ _ _ h=>h) (Or.inl ⟨by kernel_rfl,?_⟩) ba ?_;rotate_left
  focus (intro w' aa;have c7:=aa.2.2.2.2.2.2.1;have c8:=aa.2.2.2.2.2.2.2;(try dsimp only at aa c7 c8);go_simp;(try with_reducible rfl))
  simp only [zl];refine oD ?_;go_simp;have cm:=lh (fo.out _ (eo.trans j7 zr));go_wp2_with fail;exact cm.out
theorem Rows.step {cards:List Cd} {l:List Pn} (h:Rows cards l) {i:Nat} {n:Pn} (hi:l[i]? =some n):Ah cards (l.take i) n.o=0/\Au (l.take i) n.o=n:=by
 induction h with
 |nil=>simp at hi
 |snoc l o hl ho ih=>
  rcases Nat.lt_or_ge i l.length with hlt|hge
  ·
   rw [List.getElem?_append_left hlt] at hi;rw [List.take_append_of_le_length (Nat.le_of_lt hlt)];exact ih hi
  ·
   have e:i=l.length:=by
    have:=(List.getElem?_eq_some_iff.1 hi).1;rw [List.length_append,List.length_singleton] at this;omega
   subst e;rw [List.getElem?_append_right (An5 _),Nat.sub_self] at hi;injection hi with hi
   subst hi;rw [List.take_left']
   · exact ⟨ho,rfl⟩
   · rfl
def Mj (cards:List Cd) (l:List Pn) (w:World) (e:Ending) (w':World):Prop:=
 ∃(g:Gph) (base:Nat),e=.returned (.pointer (some ⟨g.gb,0,none⟩))/\w.heap.size<=base/\GAt w' base g/\g.cards=cards/\g.pns=l/\Fr Non w w'
theorem H5 (base:Nat) (r:RG) (w:World) (h:r.own w base) (hcs:r.cards=Be 0 [1,2,3,1]) (hpos:0<w.heap.size) (hk:KindsAt w):
  Calls zp 13 #[.agg r.cells] w (Mj r.cards r.l w):=by
 have hi:(zp.info? 44).map (·.size)=some 27:=by kernel_rfl
 have al:=h.few;have aj:r.cards.length=4:=by rw [hcs,Oo];rfl
 have aq:=h.cards.sl.rd;rw [aj,hcs] at aq;have bg:=Blk.new w 32 r.cells;have f0:Fr Non w (w.alloc (.cells r.cells 32)):=(Fr.refl Non w).alloc _;have c0:(w.alloc (.cells r.cells 32)).cell? ⟨w.heap.size,0,none⟩=some (.slice r.cA 4 r.cC):=by rw [<- aj];exact bg.cell 0
 have c1:cS (w.alloc (.cells r.cells 32)) w.heap.size 1 r.lA r.l.length r.lC:=bg.cell 1;have kn:=lh (fun (w':World) (hf:Fr Non w w')=>R3 w.heap.size 4 r.cC r.cA [1,2,3,1] w' rfl (by decide) (aq.fr hf zr) (Nat.lt_of_lt_of_le hpos hf.size))
 have ka:=lh (fun (j:Nat) (nd:Pn) (hj:r.l[j]? =some nd) (b:Nat) (q:Gph) (w':World) (hb:w.heap.size<=b) (hq:GAt w' b q) (ab:q.cards=r.cards) (ac:q.pns=r.l.take j) (hf:Fr Non w w')=>show ∃x:OpL,∃b' ad:Nat,r.lA=some ⟨b',ad,none⟩/\World.rangeAt w' b' (ad+j*27) x.cells.toList/\x.cells.size=27/\
   Calls zp 17 #[.pointer (some ⟨q.gb,0,none⟩),.agg x.cells] w' (Gu b q (r.l.take (j+1)) w') from by
  obtain ⟨x,b',ad,_,ap,a6,hA,_,hc⟩:=h.xAt hj;obtain ⟨s1,s2⟩:=h.rows.step hj;refine ⟨x,b',ad,hA,fun k v hv=>hf.cell (hc k (List.getElem?_eq_some_iff.1 hv).1 v hv) zq,rfl,?_⟩;rw [Dz hj];exact Gh ac hq (a6.non hf).at (by rw [ap];exact (h.ok nd (List.mem_of_getElem? hj)).1) (hk.fr hf) (by rw [ab,ap];exact s1) (by rw [ap];exact s2))
 have ag:=lh hcs;clear h hk aq bg hcs aj;have af:Hid (∀(g:Gph) (b:Nat) (w':World),w.heap.size<=b->GAt w' b g->g.cards=r.cards->g.pns=r.l->Fr Non w w'->Mj r.cards r.l w (.returned (.pointer (some ⟨g.gb,0,none⟩))) w'):=fun g b w' h1 h2 h3 h4 h5=>⟨g,b,rfl,h1,h2,h3,h4,h5⟩;obtain ⟨N,hN⟩:=Aa r.l.length;rw [hN.out] at c1 al;generalize Mj r.cards r.l w=POST at*;generalize r.cells=CS at*;generalize r.cards=CDS at*;generalize r.lA=LA at*;generalize r.lC=LC at*;generalize r.cA=CA at*;generalize r.cC=CC at*;generalize r.l=l at*;go_enter func13,ntmps13;go_upto_region 1 with (fail)
 have a8:w.heap.size+1<=(w.alloc (.cells CS 32)).heap.size:=by rw [World.size_alloc];exact An5 _
 generalize w.alloc (.cells CS 32)=w0 at*;go_upto_region 2 with (go_at_call 24;(with_reducible refine (kn.out _ f0).mono ?_);rintro _ w2 ⟨g,rfl,hg,az,a3,f2⟩)
 have a1:=f0.trans f2 zr;replace c1:=f2.cell c1 zq;have a2:Hid (g.pns=l.take 0):=by show _=_;unfold Gph.pns;rw [az];rfl
 have ah:Hid (g.cards=CDS):=a3.trans ag.out.symm;obtain ⟨gb,ar⟩:=Aa g.gb;rw [ar.out];obtain ⟨b,ay⟩:=Aa w0.heap.size;rw [ay.out] at hg a8;clear kn az a3 c0 f2 f0 ag ay;go_wp2_with fail
 go_loopw [4] (fun v wr=>∃(j:Nat) (q:Gph),v=.int .i64 (j:Int)/\j<=N/\Hid (GAt wr b q)/\Hid (q.gb=gb)/\Hid (q.cards=CDS)/\Hid (q.pns=l.take j)/\cS wr w.heap.size 1 LA N LC/\Fr Non w wr) (fun v _=>N-(intOf v).toNat)
 case atStart=>exact ⟨0,g,rfl,An4 _,hg,ar.out,ah.out,a2.out,c1,a1⟩
 case round=>
  clear hg ar ah a2 c1 a1;obtain ⟨j,q,rfl,hj,hq,ai,ab,ac,c1,hf⟩:=hrel
  by_cases hlt:j<N
  ·
   obtain ⟨nd,a0⟩:∃nd,l[j]? =some nd:=⟨_,An8 (by rw [hN.out];exact hlt)⟩;obtain ⟨x,bx,ad,rfl,ax,aw,aa⟩:=ka.out j nd a0 b q wr (by omega) hq.out ab.out ac.out hf;rw [ai.out] at aa;replace aa:=lh aa;obtain ⟨i1,i2,i3⟩:=ix j N
   have a4:=Kv (P:=zp) x.cells bx (ad+j*27) underlying44 rfl (by rw [aw];exact hi);have ao:=a4 wr ax;clear a4 aw ka a0;generalize x.cells=XC at*;go_upto_region 6 with (go_at_call 17;(with_reducible refine (aa.out).mono ?_);rintro _ w5 ⟨rfl,q2,a5,av,ak,au,F5⟩)
   have c5:=F5.cell c1 (fun e=>by have h1:b<=w.heap.size:=hq.out.ge e;omega);have a7:=hf.trans F5 (fun k hk e=>by have h1:=hq.out.ge e;omega);have e1:Hid (q2.gb=gb):=av.trans ai.out;have e2:Hid (q2.cards=CDS):=ak.trans ab.out;clear ax ao aa hq ai ab ac F5 hf c1;go_wp2_with fail;go_roundw
   case rel=>exact ⟨j+1,q2,by go_num,by omega,a5,e1.out,e2.out,au,c5,a7⟩
   case measure=>simp [intOf];omega
  ·
   obtain rfl:j=N:=by omega
   have ae:q.pns=l:=by rw [ac.out,List.take_of_length_le (by rw [hN.out];exact An5 _)]
   have hd:=lh (af.out q b wr (by omega) hq.out ab.out ae hf);rw [ai.out] at hd;have t1:decide ((j:Int)<(j:Int))=false:=decide_eq_false (by omega);clear af ka hq ab ac ae;go_wp2_with fail;exact hd.out
end Oq
end
namespace Oq
theorem Am1 (l:List Ag):∀k,k<=l.length->Dq l (fun _=>true) k=(l.take k).map Ag.id:=by
 intro k
 induction k with
 |zero=>intro _;rfl
 |succ k ih=>
  intro hk;have hx:l[k]? =some l[k]:=An8 (by omega);rw [Fy l _ k hx,ih (by omega),Dz hx,List.map_append,if_pos rfl];rfl
theorem Am2 {g:Gph} {l:List Pn} (hl:g.pns=l) {ids:List Id} (h:ids.Perm (Dq g.nodes (fun _=>true) g.nodes.length)):ids.Perm (l.map Pn.id):=by
 subst hl;rw [Am1 _ _ (An5 _),List.take_length] at h;unfold Gph.pns;rw [List.map_map];exact h
theorem Rows.named {cards:List Cd} {l:List Pn} (h:Rows cards l) {ids:List Id} (hp:ids.Perm (l.map Pn.id)) {a:Id} (ha:a∈ids):∃p n,plc l a=some p/\l[p]? =some n/\n.id=a:=by
 obtain ⟨n,hn,rfl⟩:=List.mem_map.1 (hp.mem_iff.1 ha);obtain ⟨p,hp⟩:=List.getElem?_of_mem hn;exact ⟨p,n,(h.ok p n hp).plc,hp,rfl⟩
end Oq
end Go.Proofs.YtihfebhfgliojaaGreatDoor
