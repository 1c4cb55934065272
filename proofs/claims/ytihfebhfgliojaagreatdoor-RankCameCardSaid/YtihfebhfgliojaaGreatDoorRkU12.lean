/-
  Contracts of the functions that the claim's statement reaches, walked one by one (part 12).
  Conditions: as each theorem says.
-/
import Derived.Great.BuildSlice
import Derived.Test.YtihfebhfgliojaaGreatDoorRkU11
set_option maxRecDepth 100000
set_option maxHeartbeats 16000000
open Bool renaming not_false->Ax6,not_true->Ax7,not_eq_true->Ay8
open Int renaming le_refl->Ax9
open List renaming getElem?_eq_getElem->Ax3,getElem?_map->Ax4,take_of_length_le->Ax5,length_map->Ax8,length_append->Ay3,mem_of_getElem?->Ay5,getElem?_of_mem->Ay6,not_mem_nil->Ay7,take_add_one->Ay9
open Nat renaming lt_trans->Ay1,zero_le->Ay2,le_refl->Ay4
open Go.World renaming size_alloc->Ay0
open Go.Proofs.Tryz
open Go.Proofs.Tryz renaming prog->zp
open Go.Lib renaming hid->lh
open List renaming set->zl
open Go.Ending renaming returned->ze
namespace Go.Proofs.YtihfebhfgliojaaGreatDoor
open Go.RowKit
attribute [local go_sem ↓] Go.wp_at_zero Go.wp_at_succ
namespace Oq
attribute [local go_sem] Ax6 Ax7
theorem Ae5 {l:List Pn} {p:Nat->Bool} {d:Int} {k:Nat} {n:Pn} (h:l[k]? =some n):Ca l p d (k+1)=if (n.o.by_==d&&p k)=true then max (Ca l p d k) n.o.sq else Ca l p d k:=by
 show (match l[k]? with|some n=>if (n.o.by_==d&&p k)=true then max (Ca l p d k) n.o.sq else Ca l p d k|none=>Ca l p d k)=_;rw [h]
theorem Sh {l:List Pn} {p:Nat->Bool} {d s:Int} {k:Nat} {n:Pn} (h:l[k]? =some n):Cq l p d s (k+1)=(Cq l p d s k||(n.o.by_==d&&p k&&n.o.sq==s-1)):=by
 show (match l[k]? with|some n=>Cq l p d s k||(n.o.by_==d&&p k&&n.o.sq==s-1)|none=>Cq l p d s k)=_;rw [h]
theorem Ae6 {o:Op} (h:o.chk=0):1<=o.sq/\o.sq<=2147483647:=by
 have h1:=(chk_ok.1 h).2.2.1;unfold Op.numsB at h1;simp only [Bool.and_eq_true] at h1;have h2:=h1.1.1.2;unfold inR at h2;simpa using h2
def bsS (t:TypeId) (len:Nat) (parts:Array (Nat × Value)):=Instr.buildSlice t len parts
theorem Ae7 (n:Nat) (p:Array (Nat × Value)):Instr.buildSlice 117 n p=bsS 117 n p:=rfl
theorem Ae8 (N:Ai) (w:World):(bsS 117 1 #[(0,.agg N.cells.toArray)]).run zp w=.ok (.slice (some ⟨w.heap.size,0,none⟩) 1 1) (w.alloc (.cells N.cells.toArray 114)):=by
 obtain ⟨ht,hinfo,_⟩:=Sf;obtain ⟨i,hi,hz,hs,_⟩:=info_parts hinfo;exact run_buildSlice w 117 114 1 _ _ i _ ht hi hz (by rw [hs];decide) (by rw [hs];decide) (by rw [hs];kernel_rfl)
theorem Ae9 {P:Program} {o:Oper} {a:Act} {K:Act->World->Prop} {Q:Exit->Act->World->Prop} {w:World} (s x:Operand) (t:TypeId)
  (ho:o.op=.call {callee:=.builtin .append,args:=#[s,x],argTypes:=#[t,t]})
  {base size n c:Nat} {e:TypeId} {A:Option Addr} {xs:List Value} {z:Value} {bytes m cx B:Nat} {Ax:Option Addr} {news:List Value}
  (hs:a.eval s=.slice A n c) (hx:a.eval x=.slice Ax m cx)
  (hT:SlT P t e z size bytes) (h:Own w base e size A n c xs) (hr:Rd w B size Ax m news)
  (h1:∀u∈news,u.oneCell'=true) (hbytes:(n+m)*bytes<=140737488355328) (hmax:n+m<=9223372036854775807) (hbase:base<=w.heap.size)
  (hk:∀A' c' w',Own w' base e size A' (n+m) c' (xs++news)->Fr (fun k=>Ae A=some k) w w'->(Ae A'=Ae A\/Ae A'=some w.heap.size)->
   K (a.put o.dst (.slice A' (n+m) c')) w'):Oper.wp P o a w K Q:=by
 obtain ⟨A',c',w',hrun,h2,h3,h4⟩:=Hr (P:=P) (ty:=o.type) (cx:=cx) hT h hr h1 hbytes hmax hbase;unfold Oper.wp execOp;simp only [ho,resolve,invoke,builtin,Sem.run_bind,Sem.run_pure,Result.andThen_ok,List.map_toArray,List.map_cons,List.map_nil,hs,hx,hrun];exact hk A' c' w' h2 h3 h4
attribute [local go_sem ↓] Ju Jv Ae7
theorem Af0:addD.1:=by
 conv=>whnf
 intro r5 r7 r8 r9 gz jb ia jm hs he iv i9 h4 ixx h3 hp i0 g3 iz hm ig h8 ih i8 ho jc h6 iu hr g1 ij hc im g9 hl jo g4 iq io jj h7 g7 ik ib ip g6 jf iwx ht il jl jd hh hd je hn jh ic g0 hy et ec cx d1 df gd dn gk gw e7 e6 fo d6 el ez ff ej e4 em er di fi ef fg f3 ep e8 du dq d5 e9 gp dv fy db fn gi dw fp cq es ee gn dr c9 ck dt cr ed gg ei fz fu co cu fc ds eh ea gt fj ey dh dl ge fb f0 cw dy gv fx dk fq e3 cz c3 fm fs gu dz dg gl i5 ha i7 ir ja g8 jk ie hw gy jn ji iy g5 h5 i6 jg ii c0 gh dj gc de e2 gq dd d4 c8 d9 cm eo f2 cy d2 d3 d7 fk gx ct da gf gr dc d8 h2 en f4 d0 fh gm ek ev eg dx eu cn c4 f9 fl eb dm ft ew dp base g x w y gs m w6 A6 c6 n w7 pb wv a0 a1 a2 a3 lv lt p0 p1 p2 p3 bb w1 wq b0 b1 b2 b3 cl w3 w4 K n0 n1 n2 n3 hK D;have hg:=D.A.hg;have bz:=Ae6 D.A.chk;replace bz:1<=x.sq/\x.sq<=2147483647:=bz;have br:=D.A.few;have hD:=lh D
 have bt:Hid (∀i,i<256->Aq g.pns x.op.past i=(Bd g.pns x.op.past i||C9 g.pns x.op.past i)):=fun i hi=>by
  unfold Aq;simp [hi]
 have bw:Hid (g.pns.length=g.nodes.length):=by show _=_;unfold Gph.pns;rw [Ax8]
 obtain ⟨CX,bf⟩:=Aa x.cells;have e0:Hid (CX[0]? =some (.int .i64 x.by_)):=by show _=_;rw [<- bf.out];rfl
 have e1:Hid (CX[1]? =some (.int .i64 x.sq)):=by show _=_;rw [<- bf.out];rfl
 have hx:Hid (∀wz,Fr Non w4 wz->cI wz w.heap.size 0 x.by_/\cI wz w.heap.size 1 x.sq):=fun wz hf=>by
  have h:=D.bx.fr hf zq;have h0:=h.cell 0;have h1:=h.cell 1;rw [bf.out] at h0 h1;rw [e0.out] at h0;rw [e1.out] at h1;exact ⟨h0,h1⟩
 have a7:Hid (∀wz,Fr Non w4 wz->cS wz g.gb 2 g.nA g.nodes.length g.nC):=fun wz hf=>((hg.fr D.fr).fr hf).blk.cell 2;rw [bf.out];obtain ⟨nn,av⟩:=Aa g.nodes.length;rw [av.out] at a7 br bw;have c2:=a7.out w4 (Fr.refl _ _);clear D;go_wp2_with fail;clear c2
 go_loopw [19,20,158] (fun tl ta v wr=>∃(i:Nat) (la:Int) (ah:Bool),tl=.int .i64 la/\ta=.bool ah/\v=.int .i64 (i:Int)/\i<=nn/\Hid (la=Ca g.pns (Aq g.pns x.op.past) x.by_ i)/\Hid (ah=Cq g.pns (Aq g.pns x.op.past) x.by_ x.sq i)/\Fr Non w4 wr) (fun _ _ v _=>nn-(intOf v).toNat)
 case atStart=>exact ⟨0,0,false,rfl,rfl,rfl,by omega,rfl,rfl,Fr.refl _ _⟩
 case round=>
  obtain ⟨i,la,ah,rfl,rfl,rfl,hi,ai,ak,hf⟩:=hrel
  by_cases hin:i<nn
  ·
   as_aux_lemma=>
   obtain ⟨i1,i2,i3⟩:=ix i nn
   have i4:=iw (i:Int);obtain ⟨nd,bo⟩:∃z,g.nodes[i]? =some z:=⟨_,Ax3 (by rw [av.out];exact hin)⟩;have bq:g.pns[i]? =some nd.pn:=by unfold Gph.pns;rw [Ax4,bo];rfl
   obtain ⟨bn,ab,ci,fw,ad⟩:=hg.cell bo;have af:=lh (Ae5 (p:=Aq g.pns x.op.past) (d:=x.by_) bq);have ae:=lh (Sh (p:=Aq g.pns x.op.past) (d:=x.by_) (s:=x.sq) bq)
   have bu:Hid (∀wz,Fr Non w4 wz->cI wz bn (ab+i*35) nd.x.by_/\cI wz bn (ab+i*35+1) nd.x.sq):=fun wz hf=>by
    have f1:=hD.out.fr.trans hf zr;exact ⟨f1.cell (ad 0 (by omega) _ rfl) zq,f1.cell (ad 1 (by omega) _ rfl) zq⟩
   have kh:=lh (fun wz (hz:Fr Non w4 wz)=>V7 gs 30 [n0,n1,n2,n3] _ i wz hD.out.set (fun j hj=>by
    rw [(hD.out.bn.fr hz zq).cell]
    match j,hj with
    |0,_=>rfl
    |1,_=>rfl
    |2,_=>rfl
    |3,_=>rfl) (by omega))
   obtain ⟨mi,bj⟩:=Aa (Bd g.pns x.op.past i||C9 g.pns x.op.past i);have cj:Hid (Aq g.pns x.op.past i=mi):=(bt.out i (by omega)).trans bj.out;rw [bj.out] at kh;have c2:=a7.out wr hf;rw [ci] at c2;obtain ⟨ao,au⟩:=bu.out wr hf;obtain ⟨x0,x1⟩:=hx.out wr hf;have b8:=iw (x.sq-1);rw [cj.out] at af ae;replace af:Hid (Ca g.pns (Aq g.pns x.op.past) x.by_ (i+1)=if (nd.x.by_==x.by_&&mi)=true then max (Ca g.pns (Aq g.pns x.op.past) x.by_ i) nd.x.sq else Ca g.pns (Aq g.pns x.op.past) x.by_ i):=af;replace ae:Hid (Cq g.pns (Aq g.pns x.op.past) x.by_ x.sq (i+1)=(Cq g.pns (Aq g.pns x.op.past) x.by_ x.sq i||(nd.x.by_==x.by_&&mi&&nd.x.sq==x.sq-1))):=ae;clear bq bo ad ci bt bj cj a7 hg hD
   rcases zb (nd.x.by_==x.by_) with hq|hq
   ·
    rw [hq] at af ae;go_upto_region 46 with (fail)
    clear c2;refine wp_region_held_drew (S:=(fun w'=>cI w' bn (ab+i*35) nd.x.by_/\cI w' w.heap.size 0 x.by_)) (by kernel_rfl) ⟨ao,x0⟩ (fun hS=> ?_);replace hf:=hf.drew;refine tkH 0 hS (h:=tkH 1 hS (h:=tkH 2 hS (h:=tkH 3 hS (h:=tkH 4 hS (h:=tkH 5 hS (h:=tkH 6 hS (h:=tkH 7 hS (h:=tkH 8 hS (h:=tkH 9 hS (h:=tkH 10 hS (h:=?_)))))))))));simp only [zl];refine oG 11 (fun K hK=> ?_);go_simp;go_wp2_with (go_at_call 70;(with_reducible refine (kh.out _ hf).mono ?_);rintro _ _ ⟨rfl,rfl⟩);refine hK.out _ _ hS (fun hZ=> ?_);clear hZ hK K kh;try simp only [Ac,zl]
    refine tkH 12 hS (h:=?_);simp only [zl];refine oD ?_;go_simp;obtain ⟨ao,au⟩:=bu.out wr.drew hf;obtain ⟨x0,x1⟩:=hx.out wr.drew hf;clear hS bu ao x0
    cases mi
    ·
     have ap:Hid (la=Ca g.pns (Aq g.pns x.op.past) x.by_ (i+1)):=by show _=_;rw [af.out,<- ai.out];rfl
     have aq:Hid (ah=Cq g.pns (Aq g.pns x.op.past) x.by_ x.sq (i+1)):=by show _=_;rw [ae.out,<- ak.out];simp
     clear af ae ai ak au x1;go_wp2_with fail;go_roundw
     case rel=>exact ⟨i+1,la,ah,rfl,rfl,by go_num,by omega,ap,aq,hf⟩
     case measure=>simp [intOf];omega
    ·
     have ap:Hid (max la nd.x.sq=Ca g.pns (Aq g.pns x.op.past) x.by_ (i+1)):=by show _=_;rw [af.out,<- ai.out];rfl
     have aq:Hid ((ah||nd.x.sq==x.sq-1)=Cq g.pns (Aq g.pns x.op.past) x.by_ x.sq (i+1)):=by show _=_;rw [ae.out,<- ak.out];simp
     clear af ae ai ak;go_upto_region 48 with (fail)
     generalize wr.drew=w5 at*
     cases ah
     case false=>
      refine wp_region_held_drew (S:=(fun w'=>cI w' bn (ab+i*35+1) nd.x.sq/\cI w' w.heap.size 1 x.sq)) (by kernel_rfl) ⟨au,x1⟩ (fun hS=> ?_);replace hf:=hf.drew;refine tkH 0 hS (h:=tkH 1 hS (h:=tkH 2 hS (h:=tkH 3 hS (h:=tkH 4 hS (h:=tkH 5 hS (h:=tkH 6 hS (h:=tkH 7 hS (h:=tkH 8 hS (h:=tkH 9 hS (h:=tkH 10 hS (h:=tkH 11 hS (h:=?_))))))))))));simp only [zl];refine tkH 12 hS (h:=?_);simp only [zl];refine oD ?_;go_simp;go_wp2_with fail;go_roundw
      case rel=>exact ⟨i+1,max la nd.x.sq,_,rfl,rfl,by go_num,by omega,ap,aq,hf⟩
      case measure=>simp [intOf];omega
     case true=>
      refine wp_region_held_drew (S:=(fun w'=>cI w' bn (ab+i*35+1) nd.x.sq/\cI w' w.heap.size 1 x.sq)) (by kernel_rfl) ⟨au,x1⟩ (fun hS=> ?_);replace hf:=hf.drew;refine tkH 0 hS (h:=tkH 1 hS (h:=skH 2 hS (h:=skH 3 hS (h:=skH 4 hS (h:=skH 5 hS (h:=skH 6 hS (h:=skH 7 hS (h:=skH 8 hS (h:=skH 9 hS (h:=skH 10 hS (h:=tkH 11 hS (h:=?_))))))))))));simp only [zl];refine tkH 12 hS (h:=?_);simp only [zl];refine oD ?_;go_simp;go_wp2_with fail;go_roundw
      case rel=>exact ⟨i+1,max la nd.x.sq,_,rfl,rfl,by go_num,by omega,ap,aq,hf⟩
      case measure=>simp [intOf];omega
   ·
    rw [hq] at af ae;have ap:Hid (la=Ca g.pns (Aq g.pns x.op.past) x.by_ (i+1)):=by show _=_;rw [af.out,<- ai.out];rfl
    have aq:Hid (ah=Cq g.pns (Aq g.pns x.op.past) x.by_ x.sq (i+1)):=by show _=_;rw [ae.out,<- ak.out];simp
    clear af ae ai ak;go_upto_region 46 with (fail)
    clear c2;refine wp_region_held_drew (S:=(fun w'=>cI w' bn (ab+i*35) nd.x.by_/\cI w' w.heap.size 0 x.by_)) (by kernel_rfl) ⟨ao,x0⟩ (fun hS=> ?_);replace hf:=hf.drew;refine tkH 0 hS (h:=tkH 1 hS (h:=tkH 2 hS (h:=tkH 3 hS (h:=tkH 4 hS (h:=tkH 5 hS (h:=tkH 6 hS (h:=tkH 7 hS (h:=tkH 8 hS (h:=skH 9 hS (h:=skH 10 hS (h:=skH 11 hS (h:=?_))))))))))));simp only [zl];refine tkH 12 hS (h:=?_);simp only [zl];refine oD ?_;go_simp;clear hS;go_wp2_with fail;go_roundw
    case rel=>exact ⟨i+1,la,ah,rfl,rfl,by go_num,by omega,ap,aq,hf⟩
    case measure=>simp [intOf];omega
  ·
   obtain rfl:nn=i:=by omega
   have ac:Hid (Bn g.pns (Aq g.pns x.op.past) x.op=(decide (x.sq<=la)||(decide (1<x.sq)&& !ah))):=by
    show _=_;unfold Bn;rw [bw.out];rw [show x.op.by_=x.by_ from rfl,show x.op.sq=x.sq from rfl,<- ai.out,<- ak.out]
   obtain ⟨x0,x1⟩:=hx.out wr hf;obtain ⟨bad,ar⟩:=Aa (decide (x.sq<=la)||(decide (1<x.sq)&& !ah));clear ai ak hi hin hx a7 bw bt x0;go_upto_region 50 with (fail)
   go_cut [212] from 200 to 212 (fun s wc=>wr=wc/\s=.bool bad)
   case first=>
    clear hD ac hg
    as_aux_lemma=>
    rcases zb (decide (x.sq<=la)) with t1|t1
    ·
     have hv:Hid (true=bad):=by show _=_;rw [<- ar.out,t1];rfl
     go_wp2_with fail;go_meet;exact ⟨rfl,hB hv⟩
    ·
     rcases zb (decide (1<x.sq)) with t2|t2
     ·
      have hv:Hid ((!ah)=bad):=by show _=_;rw [<- ar.out,t1,t2];rfl
      go_wp2_with fail;go_meet;exact ⟨rfl,hB hv⟩
     ·
      have hv:Hid (false=bad):=by show _=_;rw [<- ar.out,t1,t2];rfl
      go_wp2_with fail;go_meet;exact ⟨rfl,hB hv⟩
   case rest=>
   obtain ⟨rfl,rfl⟩:=hcut;clear x1;rw [ar.out] at ac
   cases bad
   case true=>
    have bi:=lh (AddPost.bad (base:=base) (w':=wr) (by rw [hD.out.err,if_pos ac.out]) (by decide) (hD.out.fr.trans hf zr));clear hD ac ar hg hf
    as_aux_lemma=>
    go_wp2_with fail
    go_ret
    exact bi.out
   case false=>
    have a4:An g.cards g.pns x.op=0:=by rw [hD.out.err,ac.out];rfl
    have D:=hD.out;obtain ⟨aa,ag⟩:=Aa x.op.name;have bp:aa.ok:=by rw [<- ag.out];exact Na D.A.hok
    have cv:Fr Non w wr:=D.fr.trans hf zr;have bg:=hg.fr cv;have a5:=D.bn.fr hf zq;rw [ag.out] at a5;have cg:cI wr gs 27 aa.b:=a5.cell 27;have cd:cI wr gs 28 aa.s:=a5.cell 28;have cb:cU wr gs 29 aa.u:=a5.cell 29;have c1:wr.cell? ⟨g.gb,1,none⟩=some (.map (some g.mb)):=bg.blk.cell 1;have c2:wr.cell? ⟨g.gb,2,none⟩=some (.slice g.nA nn g.nC):=by rw [<- av.out];exact bg.blk.cell 2
    obtain ⟨w5,a6,b4,ca⟩:=MapAt.store (bg.map.fr ((Fr.refl Non wr).drew) zq) aa bp nn (by omega) (by have:=hg.mfew;have:=hg.few;omega);have f5:Fr (One g.mb) wr.drew w5:=(Fr.refl (One g.mb) wr.drew).grown ca (fun k hk _=>by injection hk with hk;exact hk.symm);have aj:(Instr.mapUpdate 116 (.map (some g.mb)) (.agg aa.V) (.int .i64 (nn:Int))).run zp wr.drew=.ok () w5:=a6;clear a6 ca ac ar;go_upto_region 52 with (fail)
    refine Cr (S:=(fun w'=>cI w' gs 27 aa.b/\cI w' gs 28 aa.s/\cU w' gs 29 aa.u/\w'.cell? ⟨g.gb,1,none⟩=some (.map (some g.mb))/\cS w' g.gb 2 g.nA nn g.nC)) 11 (by kernel_rfl) ?_;have hS:(fun w'=>cI w' gs 27 aa.b/\cI w' gs 28 aa.s/\cU w' gs 29 aa.u/\w'.cell? ⟨g.gb,1,none⟩=some (.map (some g.mb))/\cS w' g.gb 2 g.nA nn g.nC) wr.drew:=⟨cg,cd,cb,c1,c2⟩;obtain ⟨wd,ce⟩:=Aa wr.drew;have fd:Fr Non w4 wd:=by rw [<- ce.out];exact hf.drew
    rw [ce.out] at hS f5 aj ⊢;refine tkG 0 hS (h:=tkG 1 hS (h:=tkG 2 hS (h:=tkG 3 hS (h:=tkG 4 hS (h:=tkG 5 hS (h:=tkG 6 hS (h:=tkG 7 hS (h:=tkG 8 hS (h:=tkG 9 hS (h:=tkG 10 hS (h:=?_)))))))))));simp only [zl];refine Ck (by kernel_rfl) ?_;refine oG 11 (fun K hK=> ?_);go_simp;refine hK.out _ _ trivial (fun hZ=> ?_);clear hZ hK K;try simp only [Ah,zl]
    refine oD ?_;go_simp;clear hS aj cg cd cb c1 c2 bg a5;have cf:Fr Non w wd:=D.fr.trans fd zr;have bl:=hg.fr cf;have ga:g.mb<w.heap.size:=hg.map.lt;have fv:=D.lo1
    have aw:g.gb≠g.mb:=fun e=>by
     have h1:=hg.blk;unfold Blk at h1;rw [e] at h1;exact hg.map.ismap _ _ _ h1
    have bm:¬Ae g.nA=some g.mb:=fun e=>by
     obtain ⟨cs,fr,hb⟩:=hg.own.block e;exact hg.map.ismap _ _ _ hb
    have ba:¬Ae g.nA=some g.gb:=hg.own.ne hg.blk (by decide);have bk:¬Ae g.nA=some gs:=fun e=>by have:=(hg.own.row _ e).2;omega
    have b5:=bl.blk.fr f5 (fun e=>aw e)
    have cp:Blk w5 gs 114 (⟨y,aa,n0,n1,n2,n3,lv⟩:Ai).cells.toArray:=by
     have h1:=(D.bn.fr fd zq).fr f5 (fun e=>by have e':gs=g.mb:=e;omega);rw [ag.out] at h1;exact h1
    have bs:Own w5 base 114 35 g.nA nn g.nC (g.nodes.flatMap Ai.cells):=by
     rw [<- av.out];exact bl.own.fr f5 (fun k hk e=>by have e':k=g.mb:=e;subst e';exact bm hk)
    have c5:w5.cell? ⟨g.gb,2,none⟩=some (.slice g.nA nn g.nC):=by rw [<- av.out];exact b5.cell 2
    have a8:(zp.info? 114).map (·.size)=some (⟨y,aa,n0,n1,n2,n3,lv⟩:Ai).cells.toArray.size:=by
     show _=some 35
     kernel_rfl
    have gj:=Bi (P:=zp) gs 114 underlying114 rfl (cs:=(⟨y,aa,n0,n1,n2,n3,lv⟩:Ai).cells.toArray) a8;have f8:=Ae8 ⟨y,aa,n0,n1,n2,n3,lv⟩;have bd:=Jw ⟨y,aa,n0,n1,n2,n3,lv⟩;have bv:(⟨y,aa,n0,n1,n2,n3,lv⟩:Ai).cells.length=35:=rfl;have al:=lh (fun (A':Option Addr) (c':Nat) (w6 w7:World)=>Ae4 (w4:=w4) (wd:=wd) (w5:=w5) (w6:=w6) (w7:=w7) (A':=A') (c':=c') hg D a4 fd);have b9:base<=w.heap.size:=Nat.le_trans hg.gbase (Nat.le_of_lt hg.blk.lt);have h9:=f5.size;have g2:=cf.size;rw [ag.out,av.out] at al;clear bl D a4 hD hf;go_upto_region 53 with (fail)
    refine Cr (S:=(fun w'=>cS w' g.gb 2 g.nA nn g.nC/\Blk w' gs 114 (⟨y,aa,n0,n1,n2,n3,lv⟩:Ai).cells.toArray)) 10 (by kernel_rfl) ?_;have hS:(fun w'=>cS w' g.gb 2 g.nA nn g.nC/\Blk w' gs 114 (⟨y,aa,n0,n1,n2,n3,lv⟩:Ai).cells.toArray) w5.drew:=⟨c5,cp⟩;obtain ⟨we,ch⟩:=Aa w5.drew;have fe:Fr Non w5 we:=by rw [<- ch.out];exact (Fr.refl Non w5).drew
    have az:=bs.fr fe zr;have be:=b5.fr fe zq;have e5:=fe.size;rw [ch.out] at hS ⊢;refine tkG 0 hS (h:=tkG 1 hS (h:=tkG 2 hS (h:=tkG 3 hS (h:=tkG 4 hS (h:=tkG 5 hS (h:=?_))))));simp only [zl];refine Bl 6 (by kernel_rfl) rfl (fun K hK=> ?_);go_simp;have fa:Fr Non we (we.alloc (.cells (⟨y,aa,n0,n1,n2,n3,lv⟩:Ai).cells.toArray 114)):=(Fr.refl Non we).alloc _;have bh:(fun w'=>cS w' g.gb 2 g.nA nn g.nC/\Blk w' gs 114 (⟨y,aa,n0,n1,n2,n3,lv⟩:Ai).cells.toArray) (we.alloc (.cells (⟨y,aa,n0,n1,n2,n3,lv⟩:Ai).cells.toArray 114)):=⟨fa.cell hS.1 zq,hS.2.fr fa zq⟩;have ax:=az.fr fa zr;have ay:=Rd.blk (n:=1) (size:=35) (l:=(⟨y,aa,n0,n1,n2,n3,lv⟩:Ai).cells) (Blk.new we 114 (⟨y,aa,n0,n1,n2,n3,lv⟩:Ai).cells.toArray) (by rw [bv]);have b6:=be.fr fa zq;have f6:=fe.trans fa zr;refine hK.out _ _ bh (fun hZ=> ?_);clear hZ hK K;try simp only [Ac,zl]
    generalize we.alloc (.cells (⟨y,aa,n0,n1,n2,n3,lv⟩:Ai).cells.toArray 114)=w6 at*;refine Bl 7 (by kernel_rfl) rfl (fun K hK=> ?_);refine Ae9 (base:=base) (.tmp 228) (.tmp 230) 117 (by rfl) (by rfl) (by rfl) Sf ax ay (by intro u hu;exact (Array.all_eq_true'.1 bd) u (by simpa using hu)) (by omega) (by omega) (by have:=f6.size;omega) ?_;intro A' c' w7 a9 f7 cc;have bc:(fun w'=>cS w' g.gb 2 g.nA nn g.nC/\Blk w' gs 114 (⟨y,aa,n0,n1,n2,n3,lv⟩:Ai).cells.toArray) w7:=⟨f7.cell bh.1 ba,bh.2.fr f7 bk⟩;have b7:=b6.fr f7 ba;refine hK.out _ _ bc (fun hZ=> ?_);clear hZ hK K;try simp only [Ac,zl]
    refine Bl 8 (by kernel_rfl) rfl (fun K hK=> ?_);go_simp;refine hK.out _ _ bc (fun hZ=> ?_);clear hZ hK K;try simp only [Ac,zl]
    refine tkG 9 bc (h:=?_);simp only [zl];have bi:=lh (al.out A' c' w6 w7 b4 f5 f6 a9 f7 cc);have c7:cS w7 g.gb 2 g.nA nn g.nC:=bc.1;have z7:w7.frozen? ⟨g.gb,2,none⟩=false:=b7.frozen 2;refine Ck (by kernel_rfl) ?_;refine oG 10 (fun K hK=> ?_);go_simp;refine hK.out _ _ trivial (fun hZ=> ?_);clear hZ hK K;try simp only [Ah,zl]
    refine oD ?_;go_simp;clear hS bh bc a9 f7 cc b7 c7 z7 al b4 f5 f6 ax ay b6 be az fe e5 gj f8 bd;go_wp2_with fail
    go_ret
    exact bi.out
theorem Mi (base:Nat) (g:Gph) (x:OpL) (w:World) (hg:GAt w base g) (hat:x.at w w.heap.size) (hok:x.op.ok) (hkn:KindsAt w):
  Calls zp 17 #[.pointer (some ⟨g.gb,0,none⟩),.agg x.cells] w (AddPost base g x.op w):=
 addA.2 ⟨addB.2 ⟨addC.2 ⟨addD.2 ⟨Af0⟩⟩⟩⟩ base g x w hg hat hok hkn
end Oq
namespace Oq
def sgn (o:Op):Op:={o with r:=Sg.r (sec Bz o.by_.toNat) o.bare,s:=Sg.s (sec Bz o.by_.toNat) o.bare}
theorem Af1 (o:Op) (R S:Nat):({o with r:=R,s:=S}:Op).chk=o.chk:=rfl
theorem Si (o:Op) (R S:Nat):({o with r:=R,s:=S}:Op).bare=o.bare:=rfl
theorem Af2 (o:Op) (R S:Nat):({o with r:=R,s:=S}:Op).id=o.id:=by unfold Op.id;rw [Si]
theorem Af3 (o:Op) (R S:Nat):({o with r:=R,s:=S}:Op).name=o.name:=by
 unfold Op.name;rw [Af2]
theorem Af4 (l:List Pn) (p:Nat->Bool) (o:Op) (R S:Nat):Bn l p ({o with r:=R,s:=S}:Op)=Bn l p o:=rfl
theorem Nb (o:Op):∃R S,sgn o={o with r:=R,s:=S}/\Sg.check (Sg.pub (sec Bz o.by_.toNat)) o.bare R S=true:=
 ⟨_,_,rfl,Sg.takes _ _ (Ay1 (Hz _ _) (by decide))⟩
theorem Af5 (o:Op):(sgn o).by_=o.by_:=by
 obtain ⟨R,S,h,_⟩:=Nb o;rw [h]
theorem Af6 (o:Op):(sgn o).past=o.past:=by
 obtain ⟨R,S,h,_⟩:=Nb o;rw [h]
theorem Af7 {cards:List Cd} {l:List Pn} {o:Op} {c:Cd} (h1:o.chk=0) (h2:plc l o.name=none) (h3:l.length<200) (h4:Ct cards o.by_=some c) (h5:c.s=Sg.pub (sec Bz o.by_.toNat)) (h6:o.kind≠1\/l=[])
  (h7:o.past.any (fun id=>(plc l id).isNone)=false) (h8:clash l o.past=false) (h9:late l o.past<=o.at_) (h10:Bn l (Aq l o.past) o=false):An cards l (sgn o)=0:=by
 obtain ⟨R,S,e,hc⟩:=Nb o;rw [e];unfold An;rw [Af1,Af3,h1,h2,if_neg (by simp),if_neg (by simp),if_neg (by omega)];rw [show ({o with r:=R,s:=S}:Op).by_=o.by_ from rfl,h4];dsimp only;rw [Si,h5,hc,if_neg (by simp),if_neg (by rcases h6 with h|h<;>simp [h]),h7,if_neg (by simp),h8,if_neg (by simp;omega),Af4,h10]
 simp
end Oq
namespace Oq
attribute [local go_sem ↓] Cj Fc
theorem Af8 (x:OpL) (o:Op) (h:x.op=o) (u:Nat) (hu:o.by_.toNat=u) (S:Nat) (hS:sec Bz u=S):({x with r:=Sg.r S x.op.bare,s:=Sg.s S x.op.bare}:OpL).op=sgn o:=by
 rw [Xv,h];unfold sgn;rw [hu,hS]
theorem Af9 {x:OpL} {w:World} {base:Nat} (o:x.own w base) (r s:Nat):({x with r:=r,s:=s}:OpL).own w base:=⟨o.past,o.path,o.nodes,o.body,o.refs,o.guards,o.boxes,o.hist,o.seals⟩
end Oq
section
open Go.RowKit Go.Sort Go.Shelf
namespace Oq
section
variable {α : Type} [Inhabited α] {enc : α -> List Value} {sz : Nat} (hlen : ∀ x, (enc x).length = sz) (hsz : 0 < sz)
include hlen hsz
theorem Sj (xs:List α) {j:Nat} (hj:j<xs.length*sz):(xs.flatMap enc)[j]? =some ((flatK enc sz xs.toArray)[j]!):=by
 rw [get_flatK _ _ _ _ (by simpa using hj)];have hk:j/sz<xs.length:=Nat.div_lt_of_lt_mul (by rwa [Nat.mul_comm] at hj);have hm:j%sz<sz:=Nat.mod_lt _ hsz;have h1:xs[j/sz]? =some xs[j/sz]:=Ax3 hk;have h2:=Gv (f:=enc) (size:=sz) hlen xs (j/sz) (j%sz) _ h1 hm;rw [Nat.mul_comm,Nat.div_add_mod] at h2;rw [h2];have h3:xs.toArray[j/sz]! =xs[j/sz]:=by simp [hk]
 rw [h3];have h4:j%sz<(enc xs[j/sz]).length:=by rw [hlen];exact hm
 rw [Ax3 h4];simp [h4]
theorem Ag0 {w:World} {base c:Nat} {t:TypeId} {g:Nat} {xs:List α} (h:Own w base t sz (some ⟨g,0,none⟩) xs.length c (xs.flatMap enc)):HoldsK enc sz w g 0 xs.toArray:=by
 intro j hj;have hj':j<xs.length*sz:=by simpa using hj
 obtain ⟨cur,hb,hl,hs⟩:=Ad5 h (by
  rcases Nat.eq_zero_or_pos xs.length with h0|h0
  · rw [h0] at hj';simp at hj'
  · exact h0)
 have hf:=Sj hlen hsz xs hj';rw [Nat.zero_add];refine ⟨?_,hb.frozen j⟩;rw [hb.cell j,id,<- hf,<- hl,List.getElem?_take_of_lt hj'];simp
theorem Ag1 {w:World} {base c:Nat} {t:TypeId} {g:Nat} {xs ys:List α} (n:Nat) (os:Array Obj) (h:Own w base t sz (some ⟨g,0,none⟩) xs.length c (xs.flatMap enc)) (hx:0<xs.length) (hl:ys.length=xs.length):
  Own (sortWorldK enc sz w g 0 n ys.toArray os) base t sz (some ⟨g,0,none⟩) ys.length c (ys.flatMap enc):=by
 have hyl:(ys.flatMap enc).length=ys.length*sz:=Gw (f:=enc) hlen ys
 rcases h.2 with ⟨_,h0⟩|⟨g',cap,cur,hv,hb,hg,h1,h2,h3,h4⟩
 · omega
 ·
  injection hv with hA hn' hc
  injection hA with hA
  injection hA with hA
  subst hA;subst hc
  have hs:xs.length*sz<=cur.size:=by
   have h5:=congrArg List.length h4;rw [List.length_take,Array.length_toList,h.1] at h5;rw [<- h5];exact Nat.min_le_right _ _
  have hnew:=Ad6 (n:=n) (os:=os) (d:=flatK enc sz ys.toArray) (show Blk w g t cur from hg);refine ⟨hyl,.inr ⟨g,c,putCells id 0 (flatK enc sz ys.toArray) cur,rfl,hb,hnew,by omega,h2,?_,?_⟩⟩
  · simpa [putCells] using h3
  ·
   rw [<- hyl];exact Ad8 (by rw [hyl];simp) (fun j hj=>Sj hlen hsz ys (by omega)) (by rw [hyl,hl];exact hs)
end
end Oq
end
namespace Oq
theorem Ag2 (l:List Cd):∀v∈l.flatMap Cd.cells,v.oneCell'=true:=Js _ (fun a v hv=>by simp [Cd.cells] at hv;rcases hv with rfl|rfl|rfl|rfl|rfl<;>rfl) l
end Oq
end Go.Proofs.YtihfebhfgliojaaGreatDoor
namespace Go.Proofs
open Go.Shelf Go.RowKit Go.Lib Go.Sort
def Tryz.sortCards_ren:Go.Shelf.Ren:=⟨fun|6=>78|15=>134|14=>133|28=>196|29=>197|20=>188|21=>189|22=>190|23=>191|24=>192|25=>193|26=>194|27=>195|46=>229|47=>230|48=>231|49=>232|50=>233|57=>245|n=>n,fun|22=>26|24=>104|25=>132|3=>3|39=>179|0=>0|53=>233|55=>23|4=>4|46=>227|45=>226|50=>115|5=>5|9=>9|66=>252|70=>255|76=>267|77=>268|n=>n,fun|n=>n⟩
theorem Tryz.sortCards:Go.Proofs.SlLaysF0.n6 zp Tryz.sortCards_ren:={
  mixed:=by kernel_rfl
  f6:=⟨Tryz.f78.name,by decide,Tryz.func78.trans (congrArg some (by kernel_rfl))⟩
  f14:=⟨Tryz.f133.name,by decide,Tryz.func133.trans (congrArg some (by kernel_rfl))⟩
  f15:=Tryz.func134.trans (congrArg some (by kernel_rfl))
  f20:=⟨Tryz.f188.name,by decide,Tryz.func188.trans (congrArg some (by kernel_rfl))⟩
  f21:=⟨Tryz.f189.name,by decide,Tryz.func189.trans (congrArg some (by kernel_rfl))⟩
  f22:=⟨Tryz.f190.name,by decide,Tryz.func190.trans (congrArg some (by kernel_rfl))⟩
  f23:=⟨Tryz.f191.name,by decide,Tryz.func191.trans (congrArg some (by kernel_rfl))⟩
  f24:=⟨Tryz.f192.name,by decide,Tryz.func192.trans (congrArg some (by kernel_rfl))⟩
  f25:=⟨Tryz.f193.name,by decide,Tryz.func193.trans (congrArg some (by kernel_rfl))⟩
  f26:=⟨Tryz.f194.name,by decide,Tryz.func194.trans (congrArg some (by kernel_rfl))⟩
  f27:=⟨Tryz.f195.name,by decide,Tryz.func195.trans (congrArg some (by kernel_rfl))⟩
  f28:=Tryz.func196.trans (congrArg some (by kernel_rfl))
  f29:=Tryz.func197.trans (congrArg some (by kernel_rfl))
  f46:=⟨Tryz.f229.name,by decide,Tryz.func229.trans (congrArg some (by kernel_rfl))⟩
  f47:=Tryz.func230.trans (congrArg some (by kernel_rfl))
  f48:=Tryz.func231.trans (congrArg some (by kernel_rfl))
  f49:=⟨Tryz.f232.name,by decide,Tryz.func232.trans (congrArg some (by kernel_rfl))⟩
  f50:=⟨Tryz.f233.name,by decide,Tryz.func233.trans (congrArg some (by kernel_rfl))⟩
  f57:=⟨Tryz.f245.name,by decide,Tryz.func245.trans (congrArg some (by kernel_rfl))⟩
  t0:=underlying0
  a0:=isAgg0
  z0:=sizeOf0
  v0:=zeroValue0
  t3:=underlying3
  a3:=isAgg3
  z3:=sizeOf3
  v3:=zeroValue3
  t4:=underlying4
  a4:=isAgg4
  z4:=sizeOf4
  v4:=zeroValue4
  t5:=underlying5
  a5:=isAgg5
  z5:=sizeOf5
  v5:=zeroValue5
  t9:=underlying9
  a9:=isAgg9
  z9:=sizeOf9
  v9:=zeroValue9
  t22:=underlying26
  a22:=isAgg26
  z22:=sizeOf26
  v22:=zeroValue26
  t25:=underlying132
  a25:=isAgg132
  z25:=sizeOf132
  v25:=zeroValue132
  t39:=underlying179
  a39:=isAgg179
  z39:=sizeOf179
  v39:=zeroValue179
  t45:=underlying226
  a45:=isAgg226
  z45:=sizeOf226
  v45:=zeroValue226
  t46:=underlying227
  a46:=isAgg227
  z46:=sizeOf227
  v46:=zeroValue227
  t50:=underlying115
  a50:=isAgg115
  z50:=sizeOf115
  v50:=zeroValue115
  t53:=underlying233
  a53:=isAgg233
  z53:=sizeOf233
  v53:=zeroValue233
  t55:=underlying23
  a55:=isAgg23
  z55:=sizeOf23
  v55:=zeroValue23
  t66:=underlying252
  a66:=isAgg252
  z66:=sizeOf252
  v66:=zeroValue252
  t70:=underlying255
  a70:=isAgg255
  z70:=sizeOf255
  v70:=zeroValue255
  t76:=underlying267
  a76:=isAgg267
  z76:=sizeOf267
  v76:=zeroValue267
  t77:=underlying268
  a77:=isAgg268
  z77:=sizeOf268
  v77:=zeroValue268}
end Go.Proofs
namespace Go.Proofs.YtihfebhfgliojaaGreatDoor
open Go.RowKit
attribute [local go_sem ↓] Go.wp_at_zero Go.wp_at_succ
section
open Go.RowKit Go.Sort Go.Shelf
namespace Oq
structure CdR where
 c:Cd
 lo:0<=c.d
 hi:c.d<=1000
instance:Inhabited CdR:=⟨⟨⟨0,0,0,0,0⟩,Ax9 _,by decide⟩⟩
def CdR.cells (x:CdR):List Value:=x.c.cells
def H9 (x y:CdR):Int:=x.c.d-y.c.d
theorem Kd (x y:CdR):ltOf H9 x y=decide (x.c.d<y.c.d):=by
 unfold ltOf H9;rw [Bool.eq_iff_iff,decide_eq_true_iff,decide_eq_true_iff];omega
theorem Ag3:SWO (ltOf H9) where
 irrefl x:=by rw [Kd];simp
 trans x y z h1 h2:=by
  rw [Kd,decide_eq_true_iff] at*;omega
 ntrans x y z h1 h2:=by
  rw [Kd,decide_eq_false_iff_not] at*;omega
theorem Ag4 (x y:Cd) (w:World) (hx0:0<=x.d) (hx1:x.d<=1000) (hy0:0<=y.d) (hy1:y.d<=1000):
  Calls zp 79 #[.agg #[.int .i64 x.d,.int .i64 x.m,.int .u64 (x.l:Int),.int .u64 (x.k:Int),.int .u64 (x.s:Int)],.agg #[.int .i64 y.d,.int .i64 y.m,.int .u64 (y.l:Int),.int .u64 (y.k:Int),.int .u64 (y.s:Int)]] w fun e w'=>e=.returned (.int .i64 (x.d-y.d))/\GrowOf w w':=by
 have hf:=((GrowOf.refl w).alloc (.cells #[.int .i64 x.d,.int .i64 x.m,.int .u64 (x.l:Int),.int .u64 (x.k:Int),.int .u64 (x.s:Int)] 104)).alloc (.cells #[.int .i64 y.d,.int .i64 y.m,.int .u64 (y.l:Int),.int .u64 (y.k:Int),.int .u64 (y.s:Int)] 104);go_enter func79,ntmps79;go_wp2
 go_ret
 exact ⟨rfl,hf⟩
theorem Ag5 (blk off size:Nat) (w:World):CmpLays zp 79 #[] CdR.cells 5 H9 blk off size w:=
 fun _ _ _ _ x y=>Ag4 x.c y.c _ x.lo x.hi y.lo y.hi
theorem Ag6 (base:Nat) (A:Option Addr) (c:Nat) (xs:List CdR) (w:World) (hown:Own w base 104 5 A xs.length c (xs.flatMap CdR.cells)) (hlen:xs.length<=1000000):
  Calls zp 78 #[.slice A xs.length c,.func (.func 79) #[] #[]] w fun e w'=>e=.returned (.tuple #[])/\
   ∃ys:List CdR,ys.Perm xs/\ys.Pairwise (fun x y=>x.c.d<=y.c.d)/\Own w' base 104 5 A ys.length c (ys.flatMap CdR.cells)/\Fr (fun k=>Ae A=some k) w w':=by
 by_cases h0:xs.length=0
 ·
  have hx:xs=[]:=List.eq_nil_of_length_eq_zero h0;subst hx;have hcon:=AnyF.slices_SortFunc_none Tryz.sortCards A c (.func (.func 79) #[] #[]) w;refine Calls.mono hcon ?_;rintro e w' ⟨rfl,rfl⟩;exact ⟨rfl,[],List.Perm.refl _,List.Pairwise.nil,hown,Fr.refl _ _⟩
 ·
  obtain ⟨g,rfl⟩:∃g,A=some ⟨g,0,none⟩:=by
   rcases hown.2 with ⟨_,hn⟩|⟨g,cap,cur,hv,_⟩
   · exact absurd hn h0
   ·
    injection hv with hA _ _
    exact ⟨g,hA⟩
  have hrow:=hown.row g rfl;have eg:∀args w,(callFunc 79 args).run zp w=.ok (.enter 79 args) w:=enters_of func79 (by kernel_rfl) rfl;have hcon:=AnyQ.slices_SortFunc Tryz.sortCards 5 isAgg104 sizeOf104 CdR.cells (fun _=>rfl) (fun x v hv=>by simp [CdR.cells,Cd.cells] at hv;rcases hv with rfl|rfl|rfl|rfl|rfl<;>rfl) H9 Ag3 79 #[] g 0 c xs.toArray w eg (Ag5 g 0 _ w) (Ag0 (enc:=CdR.cells) (fun _=>rfl) (by decide) hown) hrow.2 (by simp;omega)
  refine Calls.mono hcon ?_;rintro e w' ⟨rfl,d',n,os,hp,hs,rfl⟩;have hds:d'.size=xs.length:=by rw [hp.1];simp
  have hperm:d'.toList.Perm xs:=by
   have h1:=hp.2.2
   have e1:d'.extract 0 xs.toArray.size=d':=by
    rw [show xs.toArray.size=d'.size from hp.1.symm];simp
   have e2:xs.toArray.extract 0 xs.toArray.size=xs.toArray:=by simp
   rw [e1,e2] at h1;simpa using h1
  refine ⟨rfl,d'.toList,hperm,?_,?_,?_⟩
  ·
   rw [List.pairwise_iff_getElem];intro i j hi hj hij;have h1:=hs i j (Ay2 _) hij (by rw [<- hp.1];simpa using hj);rw [Kd] at h1;have hi':i<d'.size:=by simpa using hi
   have hj':j<d'.size:=by simpa using hj
   rw [getElem!_pos d' i hi',getElem!_pos d' j hj',decide_eq_false_iff_not] at h1;have h2:d'.toList[i]=d'[i]:=by simp
   have h3:d'.toList[j]=d'[j]:=by simp
   rw [h2,h3];omega
  ·
   have h1:=Ag1 (enc:=CdR.cells) (sz:=5) (fun _=>rfl) (by decide) (ys:=d'.toList) n os hown (by omega) (by simpa using hds);simpa using h1
  · exact (Ad7 w g n _ os).mono (fun k hk e=>by have e':k=g:=e;subst e';rfl)
theorem Ag7 {xs ys:List CdR} (hp:ys.Perm xs) (hs:ys.Pairwise (fun x y=>x.c.d<=y.c.d)) (hx:xs.Pairwise (fun x y=>x.c.d<y.c.d)):ys=xs:=by
 induction xs generalizing ys with
 |nil=>exact List.Perm.eq_nil hp
 |cons x r ih=>
  cases ys with
  |nil=>exact absurd hp.length_eq (by simp)
  |cons y q=>
   rw [List.pairwise_cons] at hs hx
   have hxy:y=x:=by
    have hy:y∈x::r:=hp.subset (by simp)
    rcases List.mem_cons.1 hy with h|h
    · exact h
    ·
     have h1:=hx.1 y h;have hx':x∈y::q:=hp.symm.subset (by simp)
     rcases List.mem_cons.1 hx' with h2|h2
     · exact h2.symm
     ·
      have h3:=hs.1 x h2;omega
   subst hxy;rw [ih (List.perm_cons y|>.1 hp) hs.2 hx.2]
end Oq
end
namespace Oq
def Ke (cards:List Cd) (w:World) (e:Ending) (w':World):Prop:=
 ∃g:Gph,e=.returned (.pointer (some ⟨g.gb,0,none⟩))/\GAt w' w.heap.size g/\g.nodes=[]/\g.cards=cards/\Fr Non w w'
theorem Nc (l:List CdR):l.flatMap CdR.cells=(l.map CdR.c).flatMap Cd.cells:=by
 rw [List.flatMap_map];rfl
theorem Ag8 (B c:Nat) (A:Option Addr) (l:List CdR) (w:World) (hr:Rd w B 5 A l.length (l.flatMap CdR.cells)) (hs:l.Pairwise (fun x y=>x.c.d<y.c.d)) (hlen:l.length<=1000000) (hpos:0<w.heap.size) (hcs:∀x∈l,x.c.s<18446744073709551616):
  Calls zp 24 #[.slice A l.length c] w (Ke (l.map CdR.c) w):=by
 have kc:=lh (Y3 B l.length c A _ w hr (by rw [Nc];exact Ag2 _) hlen)
 have ac:Hid (∀(A1:Option Addr) (c1:Nat) (w1 w4:World),Fr Non w w1->Own w4 w.heap.size 104 5 A1 l.length c1 (l.flatMap CdR.cells)->
   Fr (fun k=>Ae A1=some k) ((w1.alloc (.map #[] 0)).alloc (.cells #[.slice A1 l.length c1,.map (some w1.heap.size),.slice none 0 0] 119)) w4->(∀k,Ae A1=some k->w.heap.size<=k/\k<w1.heap.size)->
   Ke (l.map CdR.c) w (.returned (.pointer (some ⟨w1.heap.size+1,0,none⟩))) w4):=by
  intro A1 c1 w1 w4 f1 o4 f4 aa;have ai:¬Ae A1=some w1.heap.size:=fun e=>by have:=(aa _ e).2;omega
  have af:¬Ae A1=some (w1.heap.size+1):=fun e=>by have:=(aa _ e).2;omega
  have bg:=Blk.new (w1.alloc (.map #[] 0)) 119 #[.slice A1 l.length c1,.map (some w1.heap.size),.slice none 0 0];rw [Ay0] at bg;have hm:=((MapAt.made w1).fr ((Fr.refl Non _).alloc (.cells #[.slice A1 l.length c1,.map (some w1.heap.size),.slice none 0 0] 119)) zq).fr f4 ai;have sz:=f1.size;refine ⟨⟨w1.heap.size+1,w1.heap.size,0,A1,c1,l.map CdR.c,none,0,[]⟩,rfl,?_,rfl,rfl,?_⟩
  ·
   refine ⟨?_,hpos,by show _<=w1.heap.size+1;omega,sz,?_,Own.nil _ _ _ _,Ay2 _,Ay2 _,(fun n hn=>absurd hn (Ay7)),?_,?_,hm,fun n hn=>absurd hn (Ay7)⟩
   ·
    have h1:=bg.fr f4 af;show Blk w4 (w1.heap.size+1) 119 #[.slice A1 (l.map CdR.c).length c1,.map (some w1.heap.size),.slice none 0 0];rw [Ax8];exact h1
   ·
    show Own w4 w.heap.size 104 5 A1 (l.map CdR.c).length c1 ((l.map CdR.c).flatMap Cd.cells);rw [Ax8,<- Nc];exact o4
   ·
    show (l.map CdR.c).length<=1000000;rw [Ax8];exact hlen
   ·
    intro c hc;obtain ⟨x,hx,rfl⟩:=List.mem_map.1 hc;exact hcs x hx
  · exact ((f1.alloc _).alloc _).trans f4 (fun k hk e=>absurd hk (by have:=(aa k e).1;omega))
 generalize Ke (l.map CdR.c) w=POST at*;have ks:=lh (fun (A1:Option Addr) (c1:Nat) (w3:World) (o:Own w3 w.heap.size 104 5 A1 l.length c1 (l.flatMap CdR.cells))=>Ag6 w.heap.size A1 c1 l w3 o hlen);have ab:=lh (fun (ys:List CdR) (hp:ys.Perm l) (hq:ys.Pairwise (fun x y=>x.c.d<=y.c.d))=>Ag7 hp hq hs);clear hr hs hcs;go_enter func24,ntmps24;go_wp2_with fail;refine (kc.out).mono ?_;rintro _ w1 ⟨A1,c1,rfl,o1,f1⟩;have aa:=o1.row;have bg:=Blk.new (w1.alloc (.map #[] 0)) 119 #[.slice A1 l.length c1,.map (some w1.heap.size),.slice none 0 0];rw [Ay0] at bg;have o3:=(o1.alloc (.map #[] 0)).alloc (.cells #[.slice A1 l.length c1,.map (some w1.heap.size),.slice none 0 0] 119);have g0:cS ((w1.alloc (.map #[] 0)).alloc (.cells #[.slice A1 l.length c1,.map (some w1.heap.size),.slice none 0 0] 119)) (w1.heap.size+1) 0 A1 l.length c1:=bg.cell 0;have kq:=lh (ks.out A1 c1 _ o3);have hp:=lh (fun (w4:World) o f=>ac.out A1 c1 w1 w4 f1 o f aa);have ag:=lh f1;clear kc ks ac o1 o3 aa f1 bg;have aj:=@run_makeMap zp;go_wp2_with fail;refine (kq.out).mono ?_;rintro _ w4 ⟨rfl,ys,ad,ae,o4,f4⟩;obtain rfl:=ab.out ys ad ae;have ah:=lh (hp.out w4 o4 f4);clear kq hp ab o4 f4 ad ae ag g0;go_wp2_with fail;exact ah.out
theorem Ag9 (n:Nat):Sg.pub n<18446744073709551616:=Ay1 (Fd.pow_lt _ _) (by decide)
theorem cd_d (d m:Int) (l k s:Nat):(Cd.mk d m l k s).d=d:=rfl
theorem cd_s' (d m:Int) (l k s:Nat):(Cd.mk d m l k s).s=s:=rfl
theorem Kf (k:Nat) (m:Int):(Da k m).d=(k:Int)+1:=cd_d _ _ _ _ _
theorem Ah0 (k:Nat) (m:Int):(Da k m).s=Sg.pub (sec Bz (k+1)):=cd_s' _ _ _ _ _
theorem Nf:∀(l:List Int) (i:Nat),i+l.length<=1000->∃xs:List CdR,xs.map CdR.c=Bm i l/\xs.Pairwise (fun x y=>x.c.d<y.c.d)/\(∀x∈xs,(i:Int)<x.c.d)/\∀x∈xs,x.c.s<18446744073709551616
 |[],i,_=>⟨[],rfl,List.Pairwise.nil,by simp,by simp⟩
 |m::r,i,h=>by
  have h':i+1+r.length<=1000:=by rw [List.length_cons] at h;omega
  have hi:i+1<=1000:=by omega
  obtain ⟨xs,h1,h2,h3,h4⟩:=Nf r (i+1) h';refine ⟨⟨Da i m,by rw [Kf];omega,by rw [Kf];omega⟩::xs,?_,?_,?_,?_⟩
  ·
   show Da i m::xs.map CdR.c=Da i m::Bm (i+1) r;rw [h1]
  ·
   refine List.pairwise_cons.2 ⟨fun x hx=> ?_,h2⟩;show (Da i m).d<x.c.d;rw [Kf];have:=h3 x hx;omega
  ·
   intro x hx
   rcases List.mem_cons.1 hx with rfl|hx
   ·
    show (i:Int)<(Da i m).d;rw [Kf];omega
   ·
    have:=h3 x hx;omega
  ·
   intro x hx
   rcases List.mem_cons.1 hx with rfl|hx
   ·
    show (Da i m).s<_;rw [Ah0];exact Ag9 _
   · exact h4 x hx
theorem Sk (B n c:Nat) (A:Option Addr) (l:List Int) (w:World) (hn:Hid (l.length=n)) (hnm:n<=1000) (hr:Rd w B 5 A n ((Bm 0 l).flatMap Cd.cells)) (hpos:0<w.heap.size):
  Calls zp 24 #[.slice A n c] w (Ke (Bm 0 l) w):=by
 obtain ⟨xs,h1,h2,_,h4⟩:=Nf l 0 (by rw [hn.out];omega)
 have hl:xs.length=n:=by
  have:=congrArg List.length h1;rw [Ax8,Mr,hn.out] at this;exact this
 rw [<- h1] at hr ⊢;rw [<- hl] at hr ⊢;rw [<- Nc] at hr;exact Ag8 B c A xs w hr h2 (by omega) hpos h4
theorem GAt.ge {w:World} {base:Nat} {g:Gph} (h:GAt w base g) {k:Nat} (hk:g.own k):base<=k:=by
 rcases hk with e|e|e
 · rw [e];exact h.gbase
 · rw [e];exact h.mbase
 · exact (h.own.row k e).1
theorem KindsAt.own {w w':World} {base:Nat} {g:Gph} (h:KindsAt w) (hg:GAt w base g) (hf:Fr g.own w w'):KindsAt w':=fun k hk=>hf.cell (h k hk) (fun e=>by have h1:=hg.ge e;have h2:=hg.pos;have h3:base<=0:=h1;omega)
def Hx (base:Nat) (g:Gph) (l:List Pn) (w:World) (e:Ending) (w':World):Prop:=
 e=.returned (.int .i64 0)/\∃g':Gph,GAt w' base g'/\g'.gb=g.gb/\g'.cards=g.cards/\g'.pns=l/\Fr g.own w w'
theorem Sm {base:Nat} {g:Gph} {x:OpL} {w:World} {l:List Pn} {p:Pn} (hl:g.pns=l) (hg:GAt w base g) (hat:x.at w w.heap.size) (hok:x.op.ok) (hkn:KindsAt w) (he:An g.cards l x.op=0) (hp:Be l x.op=p):
  Calls zp 17 #[.pointer (some ⟨g.gb,0,none⟩),.agg x.cells] w (Hx base g (l++[p]) w):=by
 subst hl;refine (Mi base g x w hg hat hok hkn).mono ?_;rintro e w' ⟨rfl,h⟩
 rcases h with ⟨h0,_⟩|⟨_,g',h1,h2,_,h4,h5,h6,_⟩
 · exact absurd he h0
 ·
  refine ⟨by rw [he],g',h1,h2,h4,?_,h6⟩;rw [h5,hp]
theorem Ng {o:Op} (h:o.ok):(sgn o).ok:=by
 have h1:Sg.r (sec Bz o.by_.toNat) o.bare<18446744073709551616:=Ay1 (Sg.r_lt _ _) (by decide);have h2:Sg.s (sec Bz o.by_.toNat) o.bare<18446744073709551616:=Ay1 (Sg.s_lt _ _) (by decide);unfold sgn;generalize Sg.r (sec Bz o.by_.toNat) o.bare=R at*;generalize Sg.s (sec Bz o.by_.toNat) o.bare=S at*;exact {h with r:=h1,s:=h2}
end Oq
namespace Oq
attribute [local go_sem ↓] Cj Fc
attribute [local go_sem] Ax6 Ax7
theorem Rows.step {cards:List Cd} {l:List Pn} (h:Rows cards l) {i:Nat} {n:Pn} (hi:l[i]? =some n):An cards (l.take i) n.o=0/\Be (l.take i) n.o=n:=by
 induction h with
 |nil=>simp at hi
 |snoc l o hl ho ih=>
  rcases Nat.lt_or_ge i l.length with hlt|hge
  ·
   rw [List.getElem?_append_left hlt] at hi;rw [List.take_append_of_le_length (Nat.le_of_lt hlt)];exact ih hi
  ·
   have e:i=l.length:=by
    have:=(List.getElem?_eq_some_iff.1 hi).1;rw [Ay3,List.length_singleton] at this;omega
   subst e;rw [List.getElem?_append_right (Ay4 _),Nat.sub_self] at hi;injection hi with hi
   subst hi;rw [List.take_left']
   · exact ⟨ho,rfl⟩
   · rfl
def Kg (cards:List Cd) (l:List Pn) (w:World) (e:Ending) (w':World):Prop:=
 ∃(g:Gph) (base:Nat),e=.returned (.pointer (some ⟨g.gb,0,none⟩))/\w.heap.size<=base/\GAt w' base g/\g.cards=cards/\g.pns=l/\Fr Non w w'
theorem Jh (base:Nat) (r:RG) (w:World) (h:r.own w base) (hcs:r.cards=Bm 0 [1,2,3,1]) (hpos:0<w.heap.size) (hk:KindsAt w):
  Calls zp 13 #[.agg r.cells] w (Kg r.cards r.l w):=by
 have hi:(zp.info? 44).map (·.size)=some 27:=by kernel_rfl
 have ao:=h.few;have au:r.cards.length=4:=by rw [hcs,Mr];rfl
 have al:=h.cards.sl.rd;rw [au,hcs] at al;have bg:=Blk.new w 32 r.cells;have f0:Fr Non w (w.alloc (.cells r.cells 32)):=(Fr.refl Non w).alloc _;have c0:(w.alloc (.cells r.cells 32)).cell? ⟨w.heap.size,0,none⟩=some (.slice r.cA 4 r.cC):=by rw [<- au];exact bg.cell 0
 have c1:cS (w.alloc (.cells r.cells 32)) w.heap.size 1 r.lA r.l.length r.lC:=bg.cell 1;have kn:=lh (fun (w':World) (hf:Fr Non w w')=>Sk w.heap.size 4 r.cC r.cA [1,2,3,1] w' rfl (by decide) (al.fr hf zr) (Nat.lt_of_lt_of_le hpos hf.size))
 have ka:=lh (fun (j:Nat) (nd:Pn) (hj:r.l[j]? =some nd) (b:Nat) (q:Gph) (w':World) (hb:w.heap.size<=b) (hq:GAt w' b q) (ab:q.cards=r.cards) (ad:q.pns=r.l.take j) (hf:Fr Non w w')=>show ∃x:OpL,∃b' ac:Nat,r.lA=some ⟨b',ac,none⟩/\World.rangeAt w' b' (ac+j*27) x.cells.toList/\x.cells.size=27/\
   Calls zp 17 #[.pointer (some ⟨q.gb,0,none⟩),.agg x.cells] w' (Hx b q (r.l.take (j+1)) w') from by
  obtain ⟨x,b',ac,_,ar,a6,hA,_,hc⟩:=h.xAt hj;obtain ⟨s1,s2⟩:=h.rows.step hj;refine ⟨x,b',ac,hA,fun k v hv=>hf.cell (hc k (List.getElem?_eq_some_iff.1 hv).1 v hv) zq,rfl,?_⟩;rw [Db hj];exact Sm ad hq (a6.non hf).at (by rw [ar];exact (h.ok nd (Ay5 hj)).1) (hk.fr hf) (by rw [ab,ar];exact s1) (by rw [ar];exact s2))
 have af:=lh hcs;clear h hk al bg hcs au;have ah:Hid (∀(g:Gph) (b:Nat) (w':World),w.heap.size<=b->GAt w' b g->g.cards=r.cards->g.pns=r.l->Fr Non w w'->Kg r.cards r.l w (.returned (.pointer (some ⟨g.gb,0,none⟩))) w'):=fun g b w' h1 h2 h3 h4 h5=>⟨g,b,rfl,h1,h2,h3,h4,h5⟩;obtain ⟨N,hN⟩:=Aa r.l.length;rw [hN.out] at c1 ao;generalize Kg r.cards r.l w=POST at*;generalize r.cells=CS at*;generalize r.cards=CDS at*;generalize r.lA=LA at*;generalize r.lC=LC at*;generalize r.cA=CA at*;generalize r.cC=CC at*;generalize r.l=l at*;go_enter func13,ntmps13;go_upto_region 1 with (fail)
 have a8:w.heap.size+1<=(w.alloc (.cells CS 32)).heap.size:=by rw [Ay0];exact Ay4 _
 generalize w.alloc (.cells CS 32)=w0 at*;go_upto_region 2 with (go_at_call 24;(with_reducible refine (kn.out _ f0).mono ?_);rintro _ w2 ⟨g,rfl,hg,aw,ay,f2⟩)
 have a0:=f0.trans f2 zr;replace c1:=f2.cell c1 zq;have a1:Hid (g.pns=l.take 0):=by show _=_;unfold Gph.pns;rw [aw];rfl
 have ae:Hid (g.cards=CDS):=ay.trans af.out.symm;obtain ⟨gb,aj⟩:=Aa g.gb;rw [aj.out];obtain ⟨b,az⟩:=Aa w0.heap.size;rw [az.out] at hg a8;clear kn aw ay c0 f2 f0 af az;go_wp2_with fail
 go_loopw [4] (fun v wr=>∃(j:Nat) (q:Gph),v=.int .i64 (j:Int)/\j<=N/\Hid (GAt wr b q)/\Hid (q.gb=gb)/\Hid (q.cards=CDS)/\Hid (q.pns=l.take j)/\cS wr w.heap.size 1 LA N LC/\Fr Non w wr) (fun v _=>N-(intOf v).toNat)
 case atStart=>exact ⟨0,g,rfl,Ay2 _,hg,aj.out,ae.out,a1.out,c1,a0⟩
 case round=>
  clear hg aj ae a1 c1 a0;obtain ⟨j,q,rfl,hj,hq,ai,ab,ad,c1,hf⟩:=hrel
  by_cases hlt:j<N
  ·
   obtain ⟨nd,a4⟩:∃nd,l[j]? =some nd:=⟨_,Ax3 (by rw [hN.out];exact hlt)⟩;obtain ⟨x,bx,ac,rfl,a3,a2,aa⟩:=ka.out j nd a4 b q wr (by omega) hq.out ab.out ad.out hf;rw [ai.out] at aa;replace aa:=lh aa;obtain ⟨i1,i2,i3⟩:=ix j N
   have ax:=Hc (P:=zp) x.cells bx (ac+j*27) underlying44 rfl (by rw [a2];exact hi);have ak:=ax wr a3;clear ax a2 ka a4;generalize x.cells=XC at*;go_upto_region 6 with (go_at_call 17;(with_reducible refine (aa.out).mono ?_);rintro _ w5 ⟨rfl,q2,a5,ap,av,aq,F5⟩)
   have c5:=F5.cell c1 (fun e=>by have h1:b<=w.heap.size:=hq.out.ge e;omega);have a7:=hf.trans F5 (fun k hk e=>by have h1:=hq.out.ge e;omega);have e1:Hid (q2.gb=gb):=ap.trans ai.out;have e2:Hid (q2.cards=CDS):=av.trans ab.out;clear a3 ak aa hq ai ab ad F5 hf c1;go_wp2_with fail;go_roundw
   case rel=>exact ⟨j+1,q2,by go_num,by omega,a5,e1.out,e2.out,aq,c5,a7⟩
   case measure=>simp [intOf];omega
  ·
   obtain rfl:j=N:=by omega
   have ag:q.pns=l:=by rw [ad.out,Ax5 (by rw [hN.out];exact Ay4 _)]
   have hd:=lh (ah.out q b wr (by omega) hq.out ab.out ag hf);rw [ai.out] at hd;have t1:decide ((j:Int)<(j:Int))=false:=decide_eq_false (by omega);clear ah ka hq ab ad ag;go_wp2_with fail;exact hd.out
end Oq
namespace Oq
def bef (l:List Pn) (a b:Id):Bool:=match plc l a,plc l b with|some i,some j=>(l[j]?.map (fun n=>n.ps i)).getD false|_,_=>false
theorem bef_iff {l:List Pn} {a b:Id}:bef l a b=true<->∃i j m,plc l a=some i/\plc l b=some j/\l[j]? =some m/\m.ps i=true:=by
 unfold bef;constructor
 ·
  intro h
  split at h
  ·
   rename_i i j hi hj;obtain ⟨m,hm,_⟩:=Bk hj;rw [hm] at h;exact ⟨i,j,m,hi,hj,hm,h⟩
  · cases h
 ·
  rintro ⟨i,j,m,h1,h2,h3,h4⟩;rw [h1,h2];dsimp only;rw [h3];exact h4
theorem Gph.level_eq (g:Gph) (a:Id):g.level a=Aj g.pns a:=by
 unfold Gph.level Aj Gph.pns;rw [Gf]
 split
 ·
  rename_i i hi;rw [hi];dsimp only;rw [Ax4,Option.map_map];rfl
 ·
  rename_i hi;rw [hi]
theorem Ah1 {g:Gph} {l:List Pn} (hl:g.pns=l) {a:Id} {p:Nat} {n:Pn} (hp:plc l a=some p) (hn:l[p]? =some n):∃x,g.opOf a=some x/\x.op=n.o:=by
 subst hl;unfold Gph.pns at hp hn;rw [Gf] at hp;rw [Ax4] at hn;obtain ⟨m,hm,rfl⟩:=Option.map_eq_some_iff.1 hn;exact ⟨m.x,by unfold Gph.opOf;rw [hp];dsimp only;rw [hm];rfl,rfl⟩
theorem Rows.named {cards:List Cd} {l:List Pn} (h:Rows cards l) {ids:List Id} (hp:ids.Perm (l.map Pn.id)) {a:Id} (ha:a∈ids):∃p n,plc l a=some p/\l[p]? =some n/\n.id=a:=by
 obtain ⟨n,hn,rfl⟩:=List.mem_map.1 (hp.mem_iff.1 ha);obtain ⟨p,hp⟩:=Ay6 hn;exact ⟨p,n,(h.ok p n hp).plc,hp,rfl⟩
theorem Rows.order {cards:List Cd} {l:List Pn} (h:Rows cards l) {a b:Id} (hab:bef l a b=true):
  a≠b/\bef l b a=false/\Aj l a<Aj l b/\Cf l a<=Cf l b/\∀c,bef l b c=true->bef l a c=true:=by
 obtain ⟨i,j,m,hi,hj,hm,hp⟩:=bef_iff.1 hab;have hlt:=(h.ok j m hm).lt i hp;obtain ⟨n,hn,_⟩:=Bk hi;refine ⟨?_,?_,?_,?_,?_⟩
 ·
  rintro rfl;rw [hi] at hj;injection hj with e
  omega
 ·
  cases hb:bef l b a with
  |false=>rfl
  |true=>
   obtain ⟨i',j',m',h1,h2,h3,h4⟩:=bef_iff.1 hb;rw [hj] at h1;rw [hi] at h2;injection h1 with e1
   injection h2 with e2
   subst e1 e2;have:=(h.ok _ m' h3).lt _ h4;omega
 ·
  rw [Ew hi hn,Ew hj hm];exact h.lev_lt j hm hp hn
 ·
  rw [Fq hi hn,Fq hj hm];exact h.at_le j hm hp hn
 ·
  intro c hc;obtain ⟨i',k,q,h1,h2,h3,h4⟩:=bef_iff.1 hc;rw [hj] at h1;injection h1 with e1
  subst e1;exact bef_iff.2 ⟨i,k,q,hi,h2,h3,h.trans k h3 h4 hm hp⟩
def Ei (l:List Pn) (o:Op):Int:=if clash l o.past=true\/o.at_<late l o.past then 6 else if Bn l (Aq l o.past) o=true then 11 else 0
def Fk (l:List Pn) (o:Op):Int:=if o.past.any (fun id=>(plc l id).isNone)=true then 10 else Ei l o
theorem Ah2 {cards:List Cd} {l:List Pn} {o:Op} (h:o.chk=0) (h2:plc l o.name=none) (h3:l.length<200) (h4:Ct cards o.by_=none):An cards l o=17:=by
 rw [Kb h h2 h3,h4]
theorem Ah3 {cards:List Cd} {l:List Pn} {o:Op} {c:Cd} (h:o.chk=0) (h2:plc l o.name=none) (h3:l.length<200) (h4:Ct cards o.by_=some c) (h5:Sg.check c.s o.bare o.r o.s=false):An cards l o=12:=by
 rw [Kb h h2 h3,h4];dsimp only;rw [if_pos h5]
theorem Ah4 {cards:List Cd} {l:List Pn} {o:Op} {c:Cd} (h:o.chk=0) (h2:plc l o.name=none) (h3:l.length<200) (h4:Ct cards o.by_=some c) (h5:Sg.check c.s o.bare o.r o.s=true):
  An cards l o=if o.kind=1/\l≠[] then 1 else Fk l o:=by
 rw [Kb h h2 h3,h4];dsimp only;rw [if_neg (by rw [h5];simp)];rfl
theorem Ah5 {l:List Pn} {o:Op} {y:Id} (hy:y∈o.past) (h:(plc l y).isNone=true):Fk l o=10:=by
 unfold Fk;rw [if_pos (List.any_eq_true.2 ⟨y,hy,h⟩)]
theorem Ah6 {l:List Pn} {o:Op} (h:∀y∈o.past,∃p,plc l y=some p):Fk l o=Ei l o:=by
 unfold Fk;rw [if_neg];intro e;obtain ⟨y,hy,he⟩:=List.any_eq_true.1 e;obtain ⟨p,hp⟩:=h y hy;rw [hp] at he
 cases he
theorem Nh {l:List Pn} {ids:List Id} {a p:Nat} (h:∀y∈ids,∃p,plc l y=some p) (ha:(Ap l ids)[a]? =some p):∃y,y∈ids/\plc l y=some p:=by
 unfold Ap at ha;rw [Ax4] at ha
 cases hy:ids[a]? with
 |none=>rw [hy] at ha;cases ha
 |some y=>
  rw [hy] at ha;injection ha with ha
  have hm:=Ay5 hy;obtain ⟨q,hq⟩:=h y hm;have ha0:(plc l y).getD 0=p:=ha;rw [hq] at ha0;have ha':q=p:=ha0;subst ha';exact ⟨y,hm,hq⟩
theorem Ni {l:List Pn} {ids:List Id} {y:Id} {p:Nat} (hy:y∈ids) (hp:plc l y=some p):∃a:Nat,(Ap l ids)[a]? =some p:=by
 obtain ⟨a,ha⟩:=Ay6 hy;refine ⟨a,?_⟩;unfold Ap;rw [Ax4,ha];simp [hp]
theorem Ah7 {l:List Pn} {o:Op} (hlen:l.length<=200) (h:∀y∈o.past,∃p,plc l y=some p) {a b p q:Nat} {m:Pn} (h1:(Ap l o.past)[a]? =some p) (h2:(Ap l o.past)[b]? =some q) (h3:l[p]? =some m) (h4:m.ps q=true):Ei l o=6:=by
 obtain ⟨y,hy,hp⟩:=Nh h h1;obtain ⟨z,hz,hq⟩:=Nh h h2;unfold Ei;rw [if_pos (Or.inl (Yn hlen hy hz hp hq h3 h4))]
theorem Ah8 {l:List Pn} {o:Op} (h:∀y∈o.past,∃p,plc l y=some p) {a p:Nat} {m:Pn} (h1:(Ap l o.past)[a]? =some p) (h3:l[p]? =some m) (h4:o.at_<m.o.at_):Ei l o=6:=by
 obtain ⟨y,hy,hp⟩:=Nh h h1;unfold Ei;rw [if_pos (Or.inr (Yp hy hp h3 h4))]
theorem Ah9 {l:List Pn} {o:Op} (h0:0<=o.at_) (h:∀y∈o.past,∃p,plc l y=some p) (h1:∀(a b p q:Nat) (m:Pn),(Ap l o.past)[a]? =some p->(Ap l o.past)[b]? =some q->l[p]? =some m->m.ps q=false)
  (h2:∀(a p:Nat) (m:Pn),(Ap l o.past)[a]? =some p->l[p]? =some m->m.o.at_<=o.at_):Ei l o=if Bn l (Aq l o.past) o=true then 11 else 0:=by
 unfold Ei;rw [if_neg];rintro (e|e)
 ·
  rw [Yo (fun a ha b hb p r m k1 k2 k3=> ?_)] at e
  · cases e
  ·
   obtain ⟨i,hi⟩:=Ni ha k1;obtain ⟨j,hj⟩:=Ni hb k2;exact h1 i j p r m hi hj k3
 ·
  refine Yq h0 h (fun a ha p m k1 k2=> ?_) e;obtain ⟨i,hi⟩:=Ni ha k1;exact h2 i p m hi k2
theorem Sn {cards:List Cd} {l:List Pn} (h:Rows cards l) {ids:List Id} (hids:∀id∈ids,∃p,plc l id=some p):
  Dt (Bt l) (Ap l ids) l.length (fun _=>false)=Aq l ids:=funext (fun q=>Yk h hids q)
end Oq
namespace Oq
attribute [local go_sem ↓] Eu
theorem Ai0 {l:List Pn} {id:Id} (h:∀(j:Nat) (n:Pn),l[j]? =some n->n.id≠id):plc l id=none:=by
 unfold plc;rw [List.findIdx?_eq_none_iff];intro n hn;obtain ⟨j,hj⟩:=Ay6 hn;exact decide_eq_false (h j n hj)
theorem Ai1 {l:List Pn} {id:Id} {k:Nat} {n:Pn} (hk:l[k]? =some n) (he:n.id=id) (h:∀(j:Nat) (n:Pn),j<k->l[j]? =some n->n.id≠id):plc l id=some k:=by
 obtain ⟨hl,rfl⟩:=List.getElem?_eq_some_iff.1 hk;unfold plc;rw [List.findIdx?_eq_some_iff_getElem];refine ⟨hl,decide_eq_true he,fun j hj=> ?_⟩;have:=h j l[j] hj (Ax3 (by omega));simpa using this
theorem Sp {r:RG} {k:Nat} {n:Pn} (h:r.l[k]? =some n):r.ids[k]? =some n.id:=by
 unfold RG.ids;rw [Ax4,h];rfl
theorem Hf (base:Nat) (r:RG) (id:Id) (w:World) (h:r.own w base):
  Calls zp 56 #[.agg r.cells,.agg id.V] w fun e w'=>e=.returned (.int .i64 (Ar r.l id))/\Fr Non w w':=by
 have hr:=h.rdIds;have ai:=h.few;have af:Hid (∀(k:Nat) (n:Pn),r.l[k]? =some n->r.ids[k]? =some n.id):=fun k n hk=>Sp hk;have ah:Hid ((∀(j:Nat) (n:Pn),j<r.l.length->r.l[j]? =some n->n.id≠id)->Ar r.l id= -1):=fun hh=>Yr (Ai0 (fun j n hj=>hh j n (List.getElem?_eq_some_iff.1 hj).1 hj));have ab:Hid (∀(k:Nat) (n:Pn),r.l[k]? =some n->n.id=id->(∀(j:Nat) (n:Pn),j<k->r.l[j]? =some n->n.id≠id)->Ar r.l id=(k:Int)):=fun k n h1 h2 h3=>H4 (Ai1 h1 h2 h3);have bg:=(Blk.new w 32 r.cells).alloc (.cells id.V 38);have bi:=Blk.new (w.alloc (.cells r.cells 32)) 38 id.V;rw [Ay0] at bi;have f0:Fr Non w ((w.alloc (.cells r.cells 32)).alloc (.cells id.V 38)):=((Fr.refl Non w).alloc _).alloc _;have g2:Hid (r.cells[2]? =some (.slice r.iA r.l.length r.iC)):=rfl;have hm:=Lz;clear h;generalize Ar r.l id=R at*;generalize hids:r.ids=ids at*;generalize hl:r.l=l at*;generalize r.iA=A at*;generalize r.iC=C at*;generalize r.cells=CS at*;go_enter func56,ntmps56;go_wp2
 go_loopw [5] (fun v wr=>∃k:Nat,v=.int .i64 (k:Int)/\k<=l.length/\Hid (∀(j:Nat) (n:Pn),j<k->l[j]? =some n->n.id≠id)/\Fr Non ((w.alloc (.cells CS 32)).alloc (.cells id.V 38)) wr) (fun v _=>l.length-(intOf v).toNat)
 case atStart=>exact ⟨0,rfl,by omega,fun j n hj=>absurd hj (Nat.not_lt_zero _),Fr.refl _ _⟩
 case round=>
  obtain ⟨k,rfl,hk,hh,hf⟩:=hrel;have ag:=bg.fr hf zq;have d2:=(ag.cell 2).trans g2.out;have ac:Fr Non w wr:=f0.trans hf zr
  by_cases hlt:k<l.length
  ·
   obtain ⟨n,hn⟩:∃n,l[k]? =some n:=⟨_,Ax3 hlt⟩;obtain ⟨b,aj,rfl,ak,k0,k1,k2⟩:=Id.at (hr.fr ac zr) (af.out k n hn);have ad:=bi.fr hf zq;have c0:=ad.cell 0;have c1:=ad.cell 1;have c2:=ad.cell 2;have aa:=Id.eq_iff n.id id
   by_cases he:Id.eq n.id id=true
   ·
    have hR:Hid (R=(k:Int)):=ab.out k n hn (aa.1 he) hh.out;clear hn af ab ah aa bg bi f0 ag ad hids hl;generalize n.id=y at*;generalize l.length=N at*;obtain ⟨i1,i2,i3⟩:=ix k N
    go_wp2
    go_quiet (fail)
    go_wp2
    go_ret
    exact ⟨by rw [hR.out];rfl,ac.drewN _⟩
   ·
    have he:=Ay8 _▸he
    have ae:Hid (∀(j:Nat) (n:Pn),j<k+1->l[j]? =some n->n.id≠id):=by
     intro j m hj hm
     rcases Nat.lt_or_ge j k with h1|h1
     · exact hh.out j m h1 hm
     ·
      have e:j=k:=by omega
      subst e;rw [hn] at hm;injection hm with hm
      subst hm;intro e;rw [aa.2 e] at he
      cases he
    clear hn af ab ah aa ag ad hids hl hh;generalize n.id=y at*;generalize hN:l.length=N at*;obtain ⟨i1,i2,i3⟩:=ix k N
    clear hN;go_wp2
    go_quiet (fail)
    go_wp2;go_roundw
    case rel=>exact ⟨k+1,by go_num,by omega,ae,hf.drewN _⟩
    case measure=>simp [intOf];omega
  ·
   obtain rfl:k=l.length:=by omega
   have hR:Hid (R= -1):=ah.out hh.out;go_wp2
   go_ret
   exact ⟨by rw [hR.out];rfl,ac⟩
end Oq
namespace Oq
attribute [local go_sem] Ax6 Ax7
theorem Cx (v:Value):Instr.loadAt 32 v=ldS 32 v:=rfl
attribute [local go_sem ↓] Cx Eu
theorem Co:(zp.info? 32).map (·.size)=some 5:=by kernel_rfl
theorem Kh (r:RG):r.ids.length=r.l.length:=by simp [RG.ids]
theorem Nj (base:Nat) (r:RG) (w:World) (h:r.own w base):Calls zp 22 #[.agg r.cells] w (SortPost r.ids r.l.length w):=by
 have hr:=h.rdIds;have hfew:=h.few;have bg:=Blk.new w 32 r.cells;have f0:Fr Non w (w.alloc (.cells r.cells 32)):=(Fr.refl Non w).alloc _;have g2:r.cells[2]? =some (.slice r.iA r.l.length r.iC):=rfl;have c2:=(bg.cell 2).trans g2;have k:=lh (Ix w.heap.size r.l.length r.iC r.iA r.ids (w.alloc (.cells r.cells 32)) (Kh r) (hr.fr f0 zr) (by omega));unfold SortPost at k ⊢;clear bg g2 h;generalize r.cells=CS at*;generalize Az r.ids=IS at*;go_enter func22,ntmps22;go_wp2_with fail;refine k.out.mono ?_;rintro _ w1 ⟨A,c,rfl,o1,f1⟩;go_wp2
 go_ret
 exact ⟨A,c,rfl,o1.lower f0.size,f0.trans f1 zr⟩
def Cs (ids:List Id) (d:Int) (k:Nat):Int:=(ids.take k).foldl (fun n x=>if x.b==d then max n x.s else n) 0
theorem Sq {ids:List Id} {d:Int} {k:Nat} {x:Id} (h:ids[k]? =some x):Cs ids d (k+1)=if x.b==d then max (Cs ids d k) x.s else Cs ids d k:=by
 unfold Cs;rw [Db h,List.foldl_append];rfl
theorem Sr {ids:List Id} {d m:Int} (hm:0<=m) (h:∀x∈ids,x.s<=m) (k:Nat):0<=Cs ids d k/\Cs ids d k<=m:=by
 induction k with
 |zero=>exact ⟨Ax9 _,hm⟩
 |succ k ih=>
  cases hx:ids[k]? with
  |none=>
   have:Cs ids d (k+1)=Cs ids d k:=by
    unfold Cs;rw [Ax5 (by have:=List.getElem?_eq_none_iff.1 hx;omega),Ax5 (by have:=List.getElem?_eq_none_iff.1 hx;omega)]
   rw [this];exact ih
  |some x=>
   rw [Sq hx];have:=h x (Ay5 hx)
   split<;>omega
theorem Ai2 (g:Array Value) (B n c:Nat) (A:Option Addr) (ids:List Id) (d:Int) (w:World) (hn:Hid (ids.length=n)) (hr:Rd w B 3 A n (ids.flatMap Id.cells)) (hnm:n<=1000000) (hs:∀x∈ids,x.s<=2147483647):
  Calls zp 93 #[.agg g,.slice A n c,.int .i64 d] w fun e w'=>e=.returned (.int .i64 (Cs ids d n+1))/\Fr Non w w':=by
 have f0:Fr Non w (w.alloc (.cells g 32)):=(Fr.refl Non w).alloc _;have hr0:=hr.fr f0 zr;have hbd:=lh (fun k=>Sr (ids:=ids) (d:=d) (m:=2147483647) (by omega) hs k);clear hs hr;go_enter func93,ntmps93;go_wp2;generalize w.alloc (.cells g 32)=w0 at*
 go_loopw [7,8] (fun m v wr=>∃k:Nat,v=.int .i64 (k:Int)/\m=.int .i64 (Cs ids d k)/\k<=n/\Fr Non w0 wr) (fun _ v _=>n-(intOf v).toNat)
 case atStart=>exact ⟨0,rfl,rfl,by omega,Fr.refl _ _⟩
 case round=>
  obtain ⟨k,rfl,rfl,hk,hf⟩:=hrel;obtain ⟨b1,b2⟩:=hbd.out k
  by_cases hlt:k<n
  ·
   obtain ⟨y,hy⟩:∃y,ids[k]? =some y:=⟨_,Ax3 (by rw [hn.out];exact hlt)⟩;obtain ⟨b,off,rfl,hbB,k0,k1,k2⟩:=Id.at (hr0.fr hf zr) hy;have hsn:=lh (Sq (d:=d) hy);clear hy;obtain ⟨i1,i2,i3⟩:=ix k n
   rcases zb (y.b==d) with he|he
   ·
    have hsn':Hid (Cs ids d (k+1)=max (Cs ids d k) y.s):=by show _=_;rw [hsn.out,he];rfl
    clear hsn;generalize Cs ids d k=M at*;go_wp2
    all_goals
     go_roundw
     case rel=>exact ⟨k+1,by go_num,by rw [hsn'.out];first|done|(congr 1<;>omega),by omega,hf⟩
     case measure=>simp [intOf];omega
   ·
    have hsn':Hid (Cs ids d (k+1)=Cs ids d k):=by show _=_;rw [hsn.out,he];rfl
    clear hsn;generalize Cs ids d k=M at*;go_wp2;go_roundw
    case rel=>exact ⟨k+1,by go_num,by rw [hsn'.out],by omega,hf⟩
    case measure=>simp [intOf];omega
  ·
   obtain rfl:k=n:=by omega
   have e1:=iw (Cs ids d k+1);obtain ⟨M,hM⟩:=Aa (Cs ids d k);rw [hM.out] at e1 b1 b2;rw [hM.out];go_wp2
   go_ret
   exact ⟨by first|(rw [hM.out];rfl)|rfl,f0.trans hf zr⟩
theorem Ai3 (base:Nat) (r:RG) (B n c:Nat) (A:Option Addr) (ids:List Id) (w:World) (h:r.own w base) (hn:Hid (ids.length=n)) (hr:Rd w B 3 A n (ids.flatMap Id.cells)) (hnm:n<=1000000):
  Calls zp 94 #[.agg r.cells,.slice A n c] w fun e w'=>e=.returned (.int .i64 (late r.l ids))/\Fr Non w w':=by
 have ak:=h.few;have bg:=Blk.new w 32 r.cells;have f0:Fr Non w (w.alloc (.cells r.cells 32)):=(Fr.refl Non w).alloc _;have g1:Hid (r.cells[1]? =some (.slice r.lA r.l.length r.lC)):=rfl;have a1:=hr.fr f0 zr;have kp:=lh (fun (id:Id) (w':World) (hf:Fr Non w w')=>Hf base r id w' (h.non hf))
 have ai:Hid (∀i,i<r.l.length->∃(m:Pn) (b aa:Nat),r.l[i]? =some m/\r.lA=some ⟨b,aa,none⟩/\cI w b (aa+i*27+3) m.o.at_):=by
  intro i hi;obtain ⟨y,b,aa,_,h1,_,h3,_,h4⟩:=h.xAt (Ax3 hi);exact ⟨_,b,aa,Ax3 hi,h3,by rw [<- h1];exact h4 3 (by omega) _ rfl⟩
 have al:Hid (∀k,0<=late r.l (ids.take k)):=by
  intro k
  have mono:∀(l:List Id) (t:Int),0<=t->0<=l.foldl (fun t id=>max t (Cf r.l id)) t:=by
   intro l
   induction l with
   |nil=>intro t ht;exact ht
   |cons y q ih=>intro t ht;exact ih _ (by dsimp only;omega)
  exact mono _ 0 (Ax9 _)
 have hl:=Bi (P:=zp) w.heap.size 32 underlying32 rfl (cs:=r.cells) Co
 have ah:Hid (∀id i,Ar r.l id=(i:Int)->0<=(i:Int)->∀m,r.l[i.toNat]? =some m->Cf r.l id=m.o.at_):=by
  intro id i e hi m hm;unfold Ar at e
  cases hp:plc r.l id with
  |none=>rw [hp] at e;dsimp only at e;omega
  |some p=>
   rw [hp] at e;dsimp only at e;exact Fq hp (by rw [show p=i.toNat by omega];exact hm)
 have ae:Hid (∀id,-1<=Ar r.l id/\Ar r.l id<r.l.length):=by
  intro id;unfold Ar
  cases hp:plc r.l id with
  |none=>exact ⟨Ax9 _,by dsimp only;omega⟩
  |some p=>have:=Dj hp;exact ⟨by dsimp only;omega,by dsimp only;omega⟩
 have ag:Hid (∀id,Ar r.l id<0->Cf r.l id=0):=by
  intro id e;unfold Ar at e
  cases hp:plc r.l id with
  |none=>unfold Cf;rw [hp]
  |some p=>rw [hp] at e;dsimp only at e;omega
 clear h hr;obtain ⟨N,hN⟩:=Aa r.l.length;rw [hN.out] at g1 ai ae ak;generalize r.lA=LA at*;generalize r.lC=LC at*;generalize r.cells=CS at*;generalize r.l=l at*;go_enter func94,ntmps94;go_wp2;generalize w.alloc (.cells CS 32)=w0 at*
 go_loopw [5,6] (fun m v wr=>∃k:Nat,v=.int .i64 (k:Int)/\m=.int .i64 (late l (ids.take k))/\k<=n/\Fr Non w0 wr) (fun _ v _=>n-(intOf v).toNat)
 case atStart=>exact ⟨0,rfl,rfl,by omega,Fr.refl _ _⟩
 case round=>
  obtain ⟨k,rfl,rfl,hk,hf⟩:=hrel
  by_cases hlt:k<n
  ·
   obtain ⟨y,hy⟩:∃y,ids[k]? =some y:=⟨_,Ax3 (by rw [hn.out];exact hlt)⟩;obtain ⟨b,aa,rfl,a4,k0,k1,k2⟩:=Id.at (a1.fr hf zr) hy;have aj:=lh (Qq l ids k hy);have a5:=al.out k;clear hy;obtain ⟨i1,i2,i3⟩:=ix k n
   have az:=(bg.fr hf zq).drew;have ar:Fr Non w wr.drew:=(f0.trans hf zr).drew;have K0:cI wr.drew b (aa+k*3) y.b:=k0;have K1:cI wr.drew b (aa+k*3+1) y.s:=k1;have K2:cU wr.drew b (aa+k*3+2) y.u:=k2;have ax:=lh (kp.out y wr.drew ar);obtain ⟨p1,p2⟩:=ae.out y;have aw:=lh (ah.out y);have av:=lh (ag.out y);clear kp ah ag ae;generalize Ar l y=P at*;go_upto_region 5 with (fail)
   have B0:=az;have ac:=K0;have ab:=K1;have ad:=K2;have a0:=ar;clear az K0 K1 K2 k0 k1 k2 ar;refine wp_region_held_drew (S:=fun w'=>Blk w' w.heap.size 32 CS/\cI w' b (aa+k*3) y.b/\cI w' b (aa+k*3+1) y.s/\cU w' b (aa+k*3+2) y.u) (by kernel_rfl) ⟨B0,ac,ab,ad⟩ (fun hHeld=> ?_);clear hHeld;have uu:=aI B0 (aI ac (aI ab ad));refine tkH 0 uu (h:=tkH 1 uu (h:=tkH 2 uu (h:=tkH 3 uu (h:=tkH 4 uu (h:=?_)))));clear uu;simp only [zl];refine oG 5 (fun K hK=> ?_);go_simp;go_wp2_with (go_at_call 56;(with_reducible refine (ax.out).mono ?_);rintro _ v1 ⟨rfl,af⟩;have B1:=B0.fr af zq;obtain ⟨aq,ap,ao⟩:=zk3 af ac ab ad;have a2:=a0.trans af zr);refine hK.out _ _ ⟨B1,aq,ap,ao⟩ (fun hZ=> ?_);clear hZ hK K;try simp only [Ac,zl]
   refine tkH 6 ⟨B1,aq,ap,ao⟩ (h:=?_);simp only [zl];refine oD ?_;go_simp;clear ax ac ab ad aq ap ao B0 a0;have ay:Fr Non w0 v1:=hf.drew.trans af zr;clear hf af
   rcases Int.lt_or_le P 0 with hP|hP
   ·
    have t:decide (P>=0)=false:=decide_eq_false (by omega);have t2:decide (0<=P)=false:=decide_eq_false (by omega)
    have au:Hid (late l (ids.take k)=late l (ids.take (k+1))):=by
     show _=_;rw [aj.out,av.out hP];omega
    clear aj av aw ai al;go_wp2;go_roundw
    case rel=>exact ⟨k+1,by go_num,by rw [au.out],by omega,ay⟩
    case measure=>simp [intOf];omega
   ·
    obtain ⟨p,rfl⟩:∃p:Nat,P=(p:Int):=⟨P.toNat,by omega⟩;have t:decide ((p:Int)>=0)=true:=decide_eq_true (by omega);have t2:decide (0<=(p:Int))=true:=decide_eq_true (by omega);obtain ⟨m,b2,a3,hm,rfl,cm⟩:=ai.out p (by omega)
    have au:Hid (late l (ids.take (k+1))=max (late l (ids.take k)) m.o.at_):=by
     show _=_;rw [aj.out,aw.out p rfl (by omega) m (by rw [Int.toNat_natCast];exact hm)]
    have c1:=(B1.cell 1).trans g1.out;have a6:=a2.cell cm zq;have p3:(p:Int)<N:=p2;have p4:(p:Int).toNat=p:=by omega
    have p5:(0:Int)<=p:=by omega
    clear aj av aw ai al hm cm p1 p2 B1;generalize m.o.at_=ma at*;generalize late l (ids.take k)=lk at*;go_wp2
    all_goals
     go_roundw
     case rel=>exact ⟨k+1,by go_num,by rw [au.out];first|done|(congr 1<;>omega),by omega,ay⟩
     case measure=>simp [intOf];omega
  ·
   obtain rfl:k=n:=by omega
   have hR:Hid (late l (ids.take k)=late l ids):=by show _=_;rw [Ax5 (by rw [hn.out];omega)]
   rw [hR.out];go_wp2
   go_ret
   exact ⟨rfl,f0.trans hf zr⟩
end Oq
namespace Oq
attribute [local go_sem] Ax6 Ax7
attribute [local go_sem ↓] Eu
def Bp (l:List Id) (w:World) (e:Ending) (w':World):Prop:=∃A c,e=.returned (.slice A l.length c)/\Own w' w.heap.size 38 3 A l.length c (l.flatMap Id.cells)/\Fr Non w w'
theorem SortPost.ids {l:List Id} {n:Nat} {w:World} {e:Ending} {w':World} (h:SortPost l n w e w') (hn:(Az l).length=n):Bp (Az l) w e w':=by
 obtain ⟨A,c,h1,h2,h3⟩:=h;subst hn;exact ⟨A,c,h1,h2,h3⟩
theorem Ai4 {l l':List Id} {k:Nat} {y z:Id} (h:l[k]? =some y) (h':l'[k]? =some z) (hk:l.take k=l'.take k) (e:y=z):l.take (k+1)=l'.take (k+1):=by
 rw [Ay9,Ay9,hk,h,h',e]
theorem Ss (B n c B' m c':Nat) (A A':Option Addr) (l l':List Id) (w:World) (hn:Hid (l.length=n)) (hm:Hid (l'.length=m)) (hr:Rd w B 3 A n (l.flatMap Id.cells)) (hr':Rd w B' 3 A' m (l'.flatMap Id.cells)) (hnm:n<=1000000) (R:Bool) (hR:R=true<->l=l'):
  Calls zp 20 #[.slice A n c,.slice A' m c'] w (Ag R w):=by
 have hRf:Hid (l≠l'->R=false):=fun h=>by cases R with|false=>rfl|true=>exact absurd (hR.1 rfl) h
 have hRt:Hid (l=l'->R=true):=hR.2;clear hR
 by_cases hne:n=m
 ·
  subst hne;have t:((n:Int) !=(n:Int))=false:=by simp
  go_enter func20,ntmps20;go_wp2
  go_loopw [5] (fun v wr=>∃k:Nat,v=.int .i64 (k:Int)/\k<=n/\Hid (l.take k=l'.take k)/\Fr Non w wr) (fun v _=>n-(intOf v).toNat)
  case atStart=>exact ⟨0,rfl,by omega,rfl,Fr.refl _ _⟩
  case round=>
   obtain ⟨k,rfl,hk,hh,hf⟩:=hrel
   by_cases hlt:k<n
   ·
    obtain ⟨y,hy⟩:∃y,l[k]? =some y:=⟨_,Ax3 (by rw [hn.out];exact hlt)⟩;obtain ⟨z,hz⟩:∃y,l'[k]? =some y:=⟨_,Ax3 (by rw [hm.out];exact hlt)⟩;obtain ⟨b,off,rfl,hbB,k0,k1,k2⟩:=Id.at (hr.fr hf zr) hy;obtain ⟨b',off',rfl,hbB',g0,g1,g2⟩:=Id.at (hr'.fr hf zr) hz;have hcase:=Id.eq_iff y z;have hsn:Hid (y=z->l.take (k+1)=l'.take (k+1)):=Ai4 hy hz hh.out;have hno:Hid (y≠z->R=false):=fun e=>hRf.out (fun e'=>by rw [e',hz] at hy;injection hy with hy;exact e hy.symm);clear hy hz;obtain ⟨i1,i2,i3⟩:=ix k n
    have hm:=Lz
    by_cases he:Id.eq y z=true
    ·
     have hfin:=lh (hsn.out (hcase.1 he));clear hsn hno hcase;go_wp2
     go_quiet (fail)
     go_wp2;go_roundw
     case rel=>exact ⟨k+1,by go_num,by omega,hfin,hf.drewN _⟩
     case measure=>simp [intOf];omega
    ·
     have hfin:=lh (hno.out (fun e=>he (hcase.2 e)));have he:=Ay8 _▸he;clear hsn hno hcase;go_wp2
     go_quiet (fail)
     go_wp2
     go_ret
     exact ⟨by rw [hfin.out];rfl,hf.drewN _⟩
   ·
    obtain rfl:k=n:=by omega
    have hfin:Hid (R=true):=by
     have h:=hh.out;rw [Ax5 (by rw [hn.out];omega),Ax5 (by rw [hm.out];omega)] at h;exact hRt.out h
    go_wp2
    go_ret
    exact ⟨by rw [hfin.out];rfl,hf⟩
 ·
  have t:((n:Int) !=(m:Int))=true:=by simp;omega
  have hfin:Hid (R=false):=hRf.out (fun e=>hne (by rw [<- hn.out,<- hm.out,e]));go_enter func20,ntmps20;go_wp2
  go_ret
  exact ⟨by rw [hfin.out];rfl,Fr.refl _ _⟩
end Oq
namespace Oq
attribute [local go_sem] Ax6 Ax7
attribute [local go_sem ↓] Cx
def Cg (l:List Pn) (p:Nat->Bool) (k:Nat):List Id:=(List.range k).filterMap (fun i=>if p i then l[i]?.map Pn.id else none)
theorem St (l:List Pn) (p:Nat->Bool) (k:Nat) {n:Pn} (h:l[k]? =some n):Cg l p (k+1)=Cg l p k++(if p k then [n.id] else []):=by
 unfold Cg;rw [List.range_succ,List.filterMap_append];congr 1
 cases hp:p k<;>simp [hp,h]
theorem Su (l:List Pn) (p:Nat->Bool) (k:Nat):(Cg l p k).length<=k:=by
 unfold Cg;have h:=List.length_filterMap_le (fun i=>if p i then l[i]?.map Pn.id else none) (List.range k);simpa using h
theorem Hg (l:List Id):(Az l).length=l.length:=(E1 l).length_eq
theorem Ai5 {l:List Pn} {id:Id} (h:Ar l id<0) (q:Nat):upB l id q=false:=by
 unfold Ar at h;unfold upB
 cases hp:plc l id with
 |none=>rfl
 |some p=>rw [hp] at h;dsimp only at h;omega
theorem Ai6 {l:List Pn} {id:Id} {p:Nat} {m:Pn} (h:Ar l id=(p:Int)) (hm:l[p]? =some m) (q:Nat):upB l id q=m.ps q:=by
 unfold Ar at h;unfold upB
 cases hp:plc l id with
 |none=>rw [hp] at h;dsimp only at h;omega
 |some i=>
  rw [hp] at h;dsimp only at h ⊢;have e:i=p:=by omega
  subst e;rw [hm];rfl
theorem Sv (l:List Pn) (id:Id): -1<=Ar l id/\Ar l id<l.length:=by
 unfold Ar
 cases hp:plc l id with
 |none=>exact ⟨Ax9 _,by dsimp only;omega⟩
 |some p=>have:=Dj hp;exact ⟨by dsimp only;omega,by dsimp only;omega⟩
theorem RG.own.inAt {w:World} {base:Nat} {r:RG} (h:r.own w base) {p:Nat} (hp:p<r.l.length):
  ∃(m:Pn) (A2:Option Addr) (c2 b off:Nat),r.l[p]? =some m/\r.nA=some ⟨b,off,none⟩/\w.cell? ⟨b,off+p,none⟩=some (.slice A2 r.l.length c2)/\
   ∀i,i<r.l.length->∃b2 off2,A2=some ⟨b2,off2,none⟩/\w.cell? ⟨b2,off2+i,none⟩=some (.bool (m.ps i)):=by
 obtain ⟨x,b,off,h1,h2,h3,_,h4⟩:=h.nAt (Ax3 hp);have hlen:x.bs.length=r.l.length:=by rw [h1,Ha]
 have h4':cS w b (off+p) x.A x.bs.length x.c:=h4;rw [hlen] at h4';refine ⟨_,x.A,x.c,b,off,Ax3 hp,h3,h4',fun i hi=> ?_⟩;have hrd:Rd w w.heap.size 1 x.A x.bs.length (x.bs.map Value.bool):=h2.sl.rd;obtain ⟨b2,off2,u,e1,_,e2,e3⟩:=hrd.at (k:=i) (by omega);rw [Ax4,h1,Qx hi] at e2;injection e2 with e2
 subst e2;exact ⟨b2,off2,e1,e3⟩
theorem RG.own.idAt {w:World} {base:Nat} {r:RG} (h:r.own w base) {i:Nat} (hi:i<r.l.length):
  ∃(m:Pn) (b off:Nat),r.l[i]? =some m/\r.iA=some ⟨b,off,none⟩/\w.cell? ⟨b,off+i*3,none⟩=some (.int .i64 m.id.b)/\w.cell? ⟨b,off+i*3+1,none⟩=some (.int .i64 m.id.s)/\w.cell? ⟨b,off+i*3+2,none⟩=some (.int .u64 (m.id.u:Int)):=by
 obtain ⟨b,off,h1,_,h2,h3,h4⟩:=Id.at h.rdIds (Sp (Ax3 hi));exact ⟨_,b,off,Ax3 hi,h1,h2,h3,h4⟩
theorem Sw (base:Nat) (r:RG) (B n c:Nat) (A:Option Addr) (ids:List Id) (w:World) (h:r.own w base) (hn:Hid (ids.length=n)) (hr:Rd w B 3 A n (ids.flatMap Id.cells)) (hnm:n<=1000000):
  Calls zp 135 #[.agg r.cells,.slice A n c] w (Bp (Az (Cg r.l (Bd r.l ids) r.l.length)) w):=by
 have a8:=h.few;have bg:=Blk.new w 32 r.cells;have f0:Fr Non w (w.alloc (.cells r.cells 32)):=(Fr.refl Non w).alloc _;have g1:Hid (r.cells[1]? =some (.slice r.lA r.l.length r.lC)):=rfl;have g2:Hid (r.cells[2]? =some (.slice r.iA r.l.length r.iC)):=rfl;have g4:Hid (r.cells[4]? =some (.slice r.nA r.l.length r.nC)):=rfl;have kp:=lh (fun (id:Id) (w':World) (hf:Fr Non w w')=>Hf base r id w' (h.non hf));have hl:=Bi (P:=zp) w.heap.size 32 underlying32 rfl (cs:=r.cells) Co;have aq:=lh (fun (p:Nat) (hp:p<r.l.length)=>h.inAt hp);have hid:=lh (fun (p:Nat) (hp:p<r.l.length)=>h.idAt hp);have ab:Hid (∀id,-1<=Ar r.l id/\Ar r.l id<r.l.length):=fun id=>Sv r.l id;have ac:Hid (∀id,Ar r.l id<0->∀q,upB r.l id q=false):=fun id h q=>Ai5 h q;have af:Hid (∀id (p:Nat) m,Ar r.l id=(p:Int)->r.l[p]? =some m->∀q,upB r.l id q=m.ps q):=fun id p m h1 h2 q=>Ai6 h1 h2 q;have a4:Hid (∀k m,r.l[k]? =some m->Cg r.l (Bd r.l ids) (k+1)=Cg r.l (Bd r.l ids) k++(if Bd r.l ids k then [m.id] else [])):=fun k m hm=>St r.l _ k hm;have a7:Hid (∀k,(Cg r.l (Bd r.l ids) k).length<=k):=fun k=>Su _ _ k;have a5:Hid (∀k y,ids[k]? =some y->Bd r.l (ids.take (k+1))=fun q=>Bd r.l (ids.take k) q||upB r.l y q):=fun k y hy=>Qp r.l ids k hy;clear h;generalize r.lA=LA at*;generalize r.lC=LC at*;generalize r.iA=IA at*;generalize r.iC=IC at*;generalize r.nA=NA at*;generalize r.nC=NC at*;generalize r.cells=CS at*;generalize r.l=l at*;obtain ⟨N,hN⟩:=Aa l.length;rw [hN.out] at g1 g2 g4 aq hid ab a8 ⊢;go_enter func135,ntmps135;go_upto_region 1 with (fail)
 generalize w.alloc (.cells CS 32)=w0 at*;go_wp2
 go_loopw [5,6] (fun s v wr=>∃(i:Nat) (Ax:Option Addr) (cx:Nat) (xs:List Id),v=.int .i64 (i:Int)/\s=.slice Ax xs.length cx/\i<=N/\Hid (xs=Cg l (Bd l ids) i)/\Own wr w0.heap.size 38 3 Ax xs.length cx (xs.flatMap Id.cells)/\Fr Non w0 wr) (fun _ v _=>N-(intOf v).toNat)
 case atStart=>exact ⟨0,none,0,[],rfl,rfl,by omega,rfl,Own.nil _ _ _ _,Fr.refl _ _⟩
 case round=>
  obtain ⟨i,Ax,cx,xs,rfl,rfl,hi,ao,ad,hf⟩:=hrel;have bl:Fr Non w wr:=f0.trans hf zr;have q1:=((bg.fr hf zq).cell 1).trans g1.out;have bf:=ad.row;have bx:xs.length<=i:=by rw [ao.out];exact a7.out i
  by_cases hlt:i<N
  ·
   obtain ⟨j1,j2,j3⟩:=ix i N
   obtain ⟨wo,bt⟩:∃wo:World,wo=wr:=⟨_,rfl⟩;subst bt;go_wp2;clear q1
   go_loopw [7,8] (fun s v wi=>∃k:Nat,v=.int .i64 (k:Int)/\s=.bool (Bd l (ids.take k) i)/\k<=n/\Fr Non wo wi) (fun _ v _=>n-(intOf v).toNat)
   case atStart=>exact ⟨0,rfl,rfl,by omega,Fr.refl _ _⟩
   case round=>
    obtain ⟨k,rfl,rfl,hk,ay⟩:=hrel;have av:Fr Non w0 wr:=hf.trans ay zr;have ax:Fr Non w wr:=f0.trans av zr
    by_cases hkn:k<n
    ·
     obtain ⟨y,hy⟩:∃y,ids[k]? =some y:=⟨_,Ax3 (by rw [hn.out];exact hkn)⟩;obtain ⟨b,aw,rfl,bz,k0,k1,k2⟩:=Id.at (hr.fr ax zr) hy;obtain ⟨i1,i2,i3⟩:=ix k n
     have ar:Hid (Bd l (ids.take (k+1)) i=(Bd l (ids.take k) i||upB l y i)):=by show _=_;rw [a5.out k y hy]
     have bk:=lh (kp.out y wr.drew ax.drew);obtain ⟨p1,p2⟩:=ab.out y;have a2:Hid (Ar l y<0->upB l y i=false):=fun e=>ac.out y e i;have a3:Hid (∀(p:Nat) m,Ar l y=(p:Int)->l[p]? =some m->upB l y i=m.ps i):=fun p m h1 h2=>af.out y p m h1 h2 i;have B0:=(bg.fr av zq).drew;have aj:cI wr.drew b (aw+k*3) y.b:=k0;have ag:cI wr.drew b (aw+k*3+1) y.s:=k1;have ak:cU wr.drew b (aw+k*3+2) y.u:=k2;have bn:Fr Non w wr.drew:=ax.drew;clear hy kp ab ac af a5 a4 a7 k0 k1 k2 hid;obtain ⟨a1,a6⟩:=Aa (Bd l (ids.take (k+1)) i);rw [a6.out] at ar;generalize Bd l (ids.take k) i=a0 at*;generalize upB l y i=up at*;generalize Ar l y=P at*;go_upto_region 9 with (fail)
     refine wp_region_held_drew (S:=fun w'=>Blk w' w.heap.size 32 CS/\cI w' b (aw+k*3) y.b/\cI w' b (aw+k*3+1) y.s/\cU w' b (aw+k*3+2) y.u) (by kernel_rfl) ⟨B0,aj,ag,ak⟩ (fun hHeld=> ?_);clear hHeld;have uu:=aI B0 (aI aj (aI ag ak));refine tkH 0 uu (h:=tkH 1 uu (h:=tkH 2 uu (h:=tkH 3 uu (h:=tkH 4 uu (h:=?_)))));clear uu;simp only [zl];refine oG 5 (fun K hK=> ?_);go_simp;go_wp2_with (go_at_call 56;(with_reducible refine (bk.out).mono ?_);rintro _ v1 ⟨rfl,au⟩;have B1:=B0.fr au zq;obtain ⟨bb,ba,a9⟩:=zk3 au aj ag ak;have bj:=bn.trans au zr);refine hK.out _ _ ⟨B1,bb,ba,a9⟩ (fun hZ=> ?_);clear hZ hK K;try simp only [Ac,zl]
     refine tkH 6 ⟨B1,bb,ba,a9⟩ (h:=?_);simp only [zl];refine oD ?_;go_simp;clear bk aj ag ak bb ba a9 B0 bn;have bh:Fr Non wo v1:=ay.drew.trans au zr;have q4:=(B1.cell 4).trans g4.out;clear ay au B1
     cases a0
     case true=>
      have aa:Hid (a1=true):=by show _=_;rw [ar.out];rfl
      clear ar a2 a3 aq;go_wp2;go_roundw
      case rel=>exact ⟨k+1,by go_num,by rw [a6.out,aa.out],by omega,bh⟩
      case measure=>simp [intOf];omega
     case false=>
      rcases Int.lt_or_le P 0 with hP|hP
      ·
       have t:decide (P>=0)=false:=decide_eq_false (by omega);have t2:decide (0<=P)=false:=decide_eq_false (by omega);have aa:Hid (a1=false):=by show _=_;rw [ar.out,a2.out hP];rfl
       clear ar a2 a3 aq;go_wp2;go_roundw
       case rel=>exact ⟨k+1,by go_num,by rw [a6.out,aa.out],by omega,bh⟩
       case measure=>simp [intOf];omega
      ·
       obtain ⟨p,rfl⟩:∃p:Nat,P=(p:Int):=⟨P.toNat,by omega⟩;have t:decide ((p:Int)>=0)=true:=decide_eq_true (by omega);have t2:decide (0<=(p:Int))=true:=decide_eq_true (by omega);obtain ⟨m,A2,c2,b2,bi,hm,rfl,cm,al⟩:=aq.out p (by omega);obtain ⟨b3,br,rfl,bo⟩:=al i hlt;have aa:Hid (a1=m.ps i):=by show _=_;rw [ar.out,a3.out p m rfl hm];rfl
       obtain ⟨b1,b4⟩:=zk2 bj cm bo;have p3:(p:Int)<N:=p2;have p4:(p:Int).toNat=p:=by omega
       have p5:(0:Int)<=p:=by omega
       clear ar a2 a3 aq hm cm bo p1 p2 al;generalize m.ps i=mi at*;go_wp2
       all_goals
        go_roundw
        case rel=>exact ⟨k+1,by go_num,by rw [a6.out,aa.out],by omega,bh⟩
        case measure=>simp [intOf];omega
    ·
     obtain rfl:k=n:=by omega
     have hR:Hid (Bd l (ids.take k) i=Bd l ids i):=by show _=_;rw [Ax5 (by rw [hn.out];omega)]
     obtain ⟨m,b2,bi,hm,rfl,d0,d1,d2⟩:=hid.out i hlt;have ae:=lh (a4.out i m hm);have q2:=((bg.fr av zq).cell 2).trans g2.out;obtain ⟨e0,e1,e2⟩:=zk3 ax d0 d1 d2;have O1:=ad.fr ay zr;rw [hR.out];clear hm a4 a7 a5 ac af ab aq hid kp d0 d1 d2 ay;generalize Bd l ids i=ai at*;generalize m.id=z at*
     cases ai
     case true=>
      have ap:Hid (xs++[z]=Cg l (Bd l ids) (i+1)):=by show _=_;rw [ae.out,<- ao.out];rfl
      have bc:=O1.alloc (.cells z.V 38);have bw:=av.alloc (.cells z.V 38);have bu:=Blk.new wr 38 z.V;have b0:=av.size;clear ae ao hr bg;go_wp2_with (at_builtin;go_loud (refine Bc (base:=w0.heap.size) (.tmp 46) (.tmp 52) 28 rfl rfl rfl rfl Dp bc (Rd.blk (n:=1) (size:=3) bu rfl) (by simp [Value.oneCell']) (by omega) (by omega) (by rw [Ay0];omega) ?_);intro A2 bp w4 be bs bv)
      have bd:Own w4 w0.heap.size 38 3 A2 (xs++[z]).length bp ((xs++[z]).flatMap Id.cells):=by
       rw [Ay3,List.flatMap_append];exact be
      have bq:Fr Non w0 w4:=bw.trans bs (fun j hj e=>by have h5:=(bf j e).1;omega);go_roundw
      case rel=>exact ⟨i+1,A2,bp,xs++[z],by go_num,by rw [Ay3];rfl,by omega,ap,bd,bq⟩
      case measure=>simp [intOf];omega
     case false=>
      have ap:Hid (xs=Cg l (Bd l ids) (i+1)):=by show _=_;rw [ae.out,<- ao.out];simp
      clear ae ao hr bg;go_wp2;go_roundw
      case rel=>exact ⟨i+1,Ax,cx,xs,by go_num,rfl,by omega,ap,O1,av⟩
      case measure=>simp [intOf];omega
  ·
   obtain rfl:i=N:=by omega
   have ks:=lh (Ix wr.heap.size xs.length cx Ax xs wr rfl ad.rd (by omega))
   have az:Hid (∀e w',SortPost xs xs.length wr e w'->Bp (Az (Cg l (Bd l ids) i)) w e w'):=by
    rintro e w' ⟨A5,c5,h1,h2,h3⟩;have bm:(Az xs).length=xs.length:=Hg xs;rw [<- ao.out];exact ⟨A5,c5,by rw [bm];exact h1,by rw [bm];exact h2.lower bl.size,bl.trans h3 zr⟩
   generalize Bp (Az (Cg l (Bd l ids) i)) w=POST at*;clear ao ad hr bg a4 a7 a5 ac af ab aq hid kp;go_wp2_with (go_at_call 48;(with_reducible refine (ks.out).mono ?_);rintro _ w7 ⟨A5,c5,rfl,h5,h6⟩;have ah:=lh (az.out _ _ ⟨A5,c5,rfl,h5,h6⟩);clear ks az h5 h6)
   first|exact ah.out|(go_ret;exact ah.out)
end Oq
end Go.Proofs.YtihfebhfgliojaaGreatDoor
