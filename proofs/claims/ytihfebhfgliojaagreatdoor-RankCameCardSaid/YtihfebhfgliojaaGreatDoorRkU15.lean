/-
  Contracts of the functions that the claim's statement reaches, walked one by one (part 15).
  Conditions: as each theorem says.
-/
import Derived.Lib.SlBytesConst
import Derived.Test.YtihfebhfgliojaaGreatDoorRkU14
set_option maxRecDepth 100000
set_option maxHeartbeats 16000000
open Array renaming length_toList->Az0
open Bool renaming and_eq_true->Ay3
open List renaming not_mem_nil->Ax3,mem_singleton->Ax6,map_append->Ax9,mem_of_getElem?->Ay1,getElem?_of_mem->Ay2,length_append->Ay4,nil_append->Ay5,length_map->Ay6,mem_map_of_mem->Ay7,getElem?_eq_getElem->Ay8,take_of_length_le->Ay9,mem_cons_self->Az1,getElem?_toArray->Az2,mem_cons_of_mem->Az3,pairwise_iff_getElem->Az4,getElem_map->Az5
open Nat renaming le_refl->Ax5,le_trans->Ax7,zero_add->Ax8,zero_le->Ay0,eq_zero_or_pos->Az6
open Go.World renaming size_alloc->Ax4
open Go.Proofs.Tryz
open Go.Proofs.Tryz renaming prog->zp
open Go.Lib renaming hid->lh
open List renaming set->zl
open Go.Ending renaming returned->ze
namespace Go.Proofs.YtihfebhfgliojaaGreatDoor
open Go.RowKit
section
attribute [local go_sem ↓] Go.wp_at_zero Go.wp_at_succ
namespace Oq
attribute [local go_sem] Bool.not_false Bool.not_true
theorem E5 (p v:Value):Instr.storeAt 32 p v=stS 32 p v:=rfl
def bsO (t:TypeId) (len:Nat) (parts:Array (Nat × Value)):=Instr.buildSlice t len parts
theorem Nt (n:Nat) (p:Array (Nat × Value)):Instr.buildSlice 27 n p=bsO 27 n p:=rfl
theorem S9 (x:OpL) (w:World):(bsO 27 1 #[(0,.agg x.cells)]).run zp w=.ok (.slice (some ⟨w.heap.size,0,none⟩) 1 1) (w.alloc (.cells x.cells 44)):=by
 obtain ⟨ht,hinfo,_⟩:=Hh;obtain ⟨i,hi,hz,hs,_⟩:=info_parts hinfo;exact run_buildSlice w 27 44 1 _ _ i _ ht hi hz (by rw [hs];decide) (by rw [hs];decide) (by rw [hs];kernel_rfl)
attribute [local go_sem ↓] Cx Cj E5 Nt
theorem Ta {P:Program} {Q:Exit->Act->World->Prop} {l:List Oper} {md:Region.Mode} {S:World->Prop} {g fuel:Nat} {listed:Array Bool} {a:Act} {w:World} (i j:Nat) {d:Option Tmp} {op:Go.Op} {ty:TypeId} {pos:String} {after:Array Edge} {d':Option Tmp} {op':Go.Op} {ty':TypeId} {pos':String} {after':Array Edge}
  (hr:Region.ready md l.toArray listed=[i,j]) (ho:l[i]? =some ⟨d,op,ty,pos,after,none⟩) (ho':l[j]? =some ⟨d',op',ty',pos',after',none⟩)
  (h:∀K':Act->World->Prop,Shut (∀a w,S w->(S w->C4 P md l.toArray Q S g fuel (listed.setIfInBounds i true) a w)->K' a w)->Oper.wp P ⟨d,op,ty,pos,after,none⟩ a w K' Q)
  (h':∀K':Act->World->Prop,Shut (∀a w,S w->(S w->C4 P md l.toArray Q S g fuel (listed.setIfInBounds j true) a w)->K' a w)->Oper.wp P ⟨d',op',ty',pos',after',none⟩ a w K' Q):
  C4 P md l.toArray Q S g (fuel+1) listed a w:=by
 refine ⟨fun h0=>(by rw [hr] at h0;cases h0),fun k hk=> ?_⟩;rw [hr] at hk
 rcases List.mem_cons.1 hk with rfl|hk
 ·
  refine wpOp_step (o:=⟨d,op,ty,pos,after,none⟩) (by rw [Az2];exact ho) (fun K' hK=> ?_);rw [if_pos (show Region.wanted _ _=true from rfl)];exact h K' (fun a w hS hW=>hK a w ⟨fun _=>hS,hW hS⟩)
 ·
  obtain rfl:=List.mem_singleton.1 hk;refine wpOp_step (o:=⟨d',op',ty',pos',after',none⟩) (by rw [Az2];exact ho') (fun K' hK=> ?_);rw [if_pos (show Region.wanted _ _=true from rfl)];exact h' K' (fun a w hS hW=>hK a w ⟨fun _=>hS,hW hS⟩)
def Hj (base:Nat) (r:RG) (o:Op) (w:World) (e:Ending) (w':World):Prop:=
 ∃r':RG,e=.returned (.tuple #[.agg r'.cells,.int .i64 (An r.cards r.l o)])/\Fr Non w w'/\r'.own w' base/\r'.cards=r.cards/\r'.l=(if An r.cards r.l o=0 then r.l++[Be r.l o] else r.l)
theorem E6 (r:RG):r.cells.all (·.oneCell')=true:=by unfold RG.cells;simp [Value.oneCell']
theorem Nu (x:OpL):∀u∈x.cells.toList,u.oneCell'=true:=by
 intro u hu;have h:=Dr x;rw [Array.all_eq_true'] at h;exact h u (Array.mem_toList_iff.1 hu)
theorem Al4 (l:List OpL):∀u∈l.flatMap (fun x=>x.cells.toList),u.oneCell'=true:=by
 intro u hu;obtain ⟨x,_,hx⟩:=List.mem_flatMap.1 hu;exact Nu x u hx
theorem Tc {α:Type} (f:α->Value) (hf:∀x,(f x).oneCell'=true) (l:List α):∀u∈l.map f,u.oneCell'=true:=by
 intro u hu;obtain ⟨x,_,rfl⟩:=List.mem_map.1 hu;exact hf x
theorem Al5 (base:Nat) (r:RG) (x:OpL) (w:World) (h:r.own w base) (hx:x.lies w base) (hb:base<=w.heap.size) (hok:x.op.ok):
  Calls zp 43 #[.agg r.cells,.agg x.cells] w (Hj base r x.op w):=by
 have ch:=hx.at;have cw:=h.few;have hG:(zp.info? 32).map (·.size)=some r.cells.size:=Co;have cq:(zp.info? 44).map (·.size)=some x.cells.size:=by rw [show x.cells.size=27 from rfl];kernel_rfl
 have hl:=Bi (P:=zp) w.heap.size 32 underlying32 rfl (cs:=r.cells) Co;have e1:=Bi (P:=zp) (w.heap.size+1) 44 underlying44 rfl cq;have bg:=((Blk.new w 32 r.cells).alloc (.cells x.cells 44)).alloc (.cells zG 32);have bx:=(Blk.new (w.alloc (.cells r.cells 32)) 44 x.cells).alloc (.cells zG 32);have br:=Blk.new ((w.alloc (.cells r.cells 32)).alloc (.cells x.cells 44)) 32 zG;rw [Ax4] at bx;rw [Ax4,Ax4] at br;have f0:Fr Non w (((w.alloc (.cells r.cells 32)).alloc (.cells x.cells 44)).alloc (.cells zG 32)):=(((Fr.refl Non w).alloc _).alloc _).alloc _
 have dh:w.heap.size+3<=(((w.alloc (.cells r.cells 32)).alloc (.cells x.cells 44)).alloc (.cells zG 32)).heap.size:=by
  rw [Ax4,Ax4,Ax4];exact Ax5 _
 have kw:=lh (fun (w':World) (hf:Fr Non w w')=>Ak9 base r x w' (h.non hf) (OpL.frame ch hf) hok)
 have dg:Hid (An r.cards r.l x.op≠0->∀w',Fr Non w w'->Hj base r x.op w (.returned (.tuple #[.agg r.cells,.int .i64 (An r.cards r.l x.op)])) w'):=by
  intro he w' hf;exact ⟨r,rfl,hf,h.non hf,rfl,by rw [if_neg he]⟩
 have b6:=E6 r;have cg:=S9 x;have bb:x.cells.size=1*27:=rfl;go_enter func43,ntmps43;go_upto_region 1 with (fail)
 generalize ((w.alloc (.cells r.cells 32)).alloc (.cells x.cells 44)).alloc (.cells zG 32)=w0 at*;unfold Ia at kw;go_upto_region 2 with (go_at_call 16;(with_reducible refine (kw.out _ f0).mono ?_);rintro _ w1 ⟨A1,n1,c1,rfl,c6,f1⟩)
 replace bg:=bg.fr f1 zq;replace bx:=bx.fr f1 zq;replace br:=br.fr f1 zq;have cj:=f0.trans f1 zr;have df:=Ax7 dh f1.size;clear kw
 by_cases he:An r.cards r.l x.op=0
 case neg=>
  have hd:=lh (dg.out he);obtain ⟨E,hE⟩:=Aa (An r.cards r.l x.op);rw [hE.out] at hd he ⊢;have t:(E !=0)=true:=by simp [he]
  have d8:=Br (P:=zp) (w.heap.size+2) 32 hG (old:=zG) rfl b6;generalize Hj base r x.op w=POST at*;clear c6 h hx ch dg hok
  as_aux_lemma=>
  go_wp2_with fail;have c7:=br.setRow (cs:=r.cells);have fz:=cj.setRow (g:=w.heap.size+2) (fun hh=>absurd hh (by omega)) r.cells;have cr:=lh (hd.out _ fz)
  (try simp only [Exit.inBlock,Exit.then])
  refine E2 (t:=32) rfl rfl c7 rfl underlying32 hG rfl ?_;exact cr.out
 case pos=>
 obtain ⟨rfl,au⟩:=c6 he;replace au:=au.lower dh;rw [he];have ao:=(G9 he).past;have kp:=lh (fun (w':World) (hf:Fr Non w w') (ho:Own w' (w.heap.size+3) 3 1 A1 x.op.past.length c1 ((Ap r.l x.op.past).map Qv))=>(S3 base r w'.heap.size x.op.past.length c1 A1 (Ap r.l x.op.past) w' (h.non hf) (by show _=_;rw [Gh]) ho.rd (by have:=hok.past.1;omega)));rw [Sn h.rows ao] at kp;have co:=lh (fun (w':World) (hf:Fr Non w w')=>S5 x x.op.name rfl w' (OpL.frame ch hf) hok)
 have ad:Hid (∀(lA iA uA nA:Option Addr) (lC iC uC nC:Nat) (ns:List InL) (wz:World),Fr Non w wz->
   Own wz (w.heap.size+3) 44 27 lA (r.l.length+1) lC (r.xs.flatMap (fun x=>x.cells.toList)++x.cells.toList)->
   Own wz (w.heap.size+3) 38 3 iA (r.l.length+1) iC (r.ids.flatMap Id.cells++x.op.name.cells)->
   Own wz (w.heap.size+3) 22 1 uA (r.l.length+1) uC (r.us.map UpL.cell++[.slice A1 x.op.past.length c1])->
   Own wz (w.heap.size+3) 3 1 A1 x.op.past.length c1 ((Ap r.l x.op.past).map Qv)->
   Own wz (w.heap.size+3) 108 1 nA (r.l.length+1) nC (ns.map InL.cell)->(∀y∈ns,y.own wz base)->ns.map InL.bs=(Ea r.l).map (· ++[false])++[Cb r.l.length (Aq r.l x.op.past)++[false]]->
   Hj base r x.op w (.returned (.tuple #[.agg #[.slice r.cA r.cards.length r.cC,.slice lA (r.l.length+1) lC,.slice iA (r.l.length+1) iC,.slice uA (r.l.length+1) uC,.slice nA (r.l.length+1) nC],.int .i64 0])) wz):=by
  intro lA iA uA nA lC iC uC nC ns wz hf oL oI oU oa oN on hn;have d2:(Ap r.l x.op.past).length=x.op.past.length:=Gh _ _
  have aj:(UpL.mk A1 c1 (Ap r.l x.op.past)).cell=.slice A1 x.op.past.length c1:=by
   show Value.slice A1 (Ap r.l x.op.past).length c1=_;rw [d2]
  have c5:(r.l++[Be r.l x.op]).length=r.l.length+1:=by rw [Ay4];rfl
  have hm:=Al3 (u:=⟨A1,c1,Ap r.l x.op.past⟩) h hx hok hf (by omega) he oL oI (by rw [aj];exact oU) (by
   show RowAt wz base 3 1 A1 (Ap r.l x.op.past).length c1 ((Ap r.l x.op.past).map Qv);rw [d2];exact (RowAt.of_own oa).lower (by omega)) rfl oN on hn
  refine ⟨_,?_,hf,hm,rfl,by rw [if_pos he];rfl⟩;rw [he];show ze (.tuple #[.agg #[.slice r.cA r.cards.length r.cC,.slice lA (r.l.length+1) lC,.slice iA (r.l.length+1) iC,.slice uA (r.l.length+1) uC,.slice nA (r.l.length+1) nC],.int .i64 0])=ze (.tuple #[.agg #[.slice r.cA r.cards.length r.cC,.slice lA (r.l++[Be r.l x.op]).length lC,.slice iA (r.l++[Be r.l x.op]).length iC,.slice uA (r.l++[Be r.l x.op]).length uC,.slice nA (r.l++[Be r.l x.op]).length nC],.int .i64 0]);rw [c5]
 have ce:=lh h.ops.sl.rd;have a5:=lh h.rdIds;have a4:=lh h.ups.sl.rd;have a9:Hid (∀(i:Nat) (n:Pn),r.l[i]? =some n->∃(x:InL) (b c8:Nat),x.bs=Cb r.l.length n.ps/\x.own w base/\r.nA=some ⟨b,c8,none⟩/\b<w.heap.size/\w.cell? ⟨b,c8+i,none⟩=some x.cell):=fun i n hi=>h.nAt hi;have g0:Hid (r.cells[0]? =some (.slice r.cA r.cards.length r.cC)):=rfl;have g1:Hid (r.cells[1]? =some (.slice r.lA r.l.length r.lC)):=rfl;have g2:Hid (r.cells[2]? =some (.slice r.iA r.l.length r.iC)):=rfl;have g3:Hid (r.cells[3]? =some (.slice r.uA r.l.length r.uC)):=rfl;have g4:Hid (r.cells[4]? =some (.slice r.nA r.l.length r.nC)):=rfl;have bk:=lh (Al4 r.xs);have dl:=lh (Nu x);have b2:=lh (Id.cells_one r.ids);have bp:=lh (Tc UpL.cell (fun _=>rfl) r.us);have bt:=lh (fun (y:InL)=>Tc Value.bool (fun _=>rfl) y.bs);have e4:Hid (x.cells.toList.length=1*27):=rfl;have be:Hid ((Ea r.l).length=r.l.length):=Yf r.l;have a8:Hid (∀(i:Nat) (n:Pn),r.l[i]? =some n->(Ea r.l)[i]? =some (Cb r.l.length n.ps)):=fun i n hi=>Qz hi;clear dg h hx ch ao he hG c6 f1 f0;obtain ⟨NM,du⟩:∃nm,x.op.name=nm:=⟨_,rfl⟩;rw [du] at co ad;clear du;have ew:x.op.past.length<=1000:=hok.past.1;clear hok;generalize Ap r.l x.op.past=UP at*;generalize Aq r.l x.op.past=PS at*;generalize x.op.past.length=M at*;generalize Hj base r x.op w=POST at*;generalize hXL:x.cells.toList=XL at*;generalize r.xs.flatMap (fun x=>x.cells.toList)=LL at*;generalize x.cells=XS at*;generalize r.ids.flatMap Id.cells=IL at*;generalize r.us.map UpL.cell=UL at*;generalize Ea r.l=IR at*;generalize r.cells=CS at*;generalize r.cards.length=nc at*;generalize r.cA=CA at*;generalize r.cC=CC at*;generalize r.lA=LA at*;generalize r.lC=LC at*;generalize r.iA=IA at*;generalize r.iC=IC at*;generalize r.uA=UA at*;generalize r.uC=UC at*;generalize r.nA=NA at*;generalize r.nC=NC at*;generalize r.l=l at*;obtain ⟨N,hN⟩:=Aa l.length;rw [hN.out] at kp ad ce a5 a4 a9 g1 g2 g3 g4 cw be a8;unfold Km at kp;go_upto_region 5 with (go_at_call 61;(with_reducible refine (kp.out _ cj au).mono ?_);rintro _ w2 ⟨A2,c2,rfl,ae,f2⟩)
 have bj:=au.fr f2 zr;replace ae:=ae.lower df;have dv:=cj.trans f2 zr;have dm:=Ax7 df f2.size;replace bg:=bg.fr f2 zq;replace bx:=bx.fr f2 zq;replace br:=br.fr f2 zq;have K:KA w (w2.alloc (.cells zG 32)) w2.heap.size CS XS zG zG:=⟨bg.alloc _,bx.alloc _,br.alloc _,Blk.new w2 32 zG,dm,dv.alloc _⟩;replace bj:=bj.alloc (.cells zG 32);replace ae:=ae.alloc (.cells zG 32);clear bg bx br cj dv au kp f2;go_upto_region 6 with (fail)
 obtain ⟨nb,bl⟩:=Aa w2.heap.size;rw [bl.out] at K ⊢;generalize w2.alloc (.cells zG 32)=w3 at*;clear bl dh df dm w2 w1 w0;have d0:=(K.bg.cell 0).trans g0.out;have n0:cS w3 nb 0 none 0 0:=K.bn.cell 0;have z0:=K.bn.frozen 0;go_upto_region 7 with (fail)
 have K4:=K.set 0 (.slice CA nc CC);replace bj:=Own.setFar (i:=0) bj K.bn (by decide) (.slice CA nc CC);replace ae:=Own.setFar (i:=0) ae K.bn (by decide) (.slice CA nc CC);generalize w3.setCell ⟨nb,0,none⟩ (.slice CA nc CC)=w4 at*;clear K d0 n0 z0 w3;change KA w w4 nb CS XS zG #[.slice CA nc CC,.slice none 0 0,.slice none 0 0,.slice none 0 0,.slice none 0 0] at K4;have ct:=lh ((ce.out).fr K4.fr zr);have eu:=lh ((a5.out).fr K4.fr zr);have ei:=lh ((a4.out).fr K4.fr zr);have cf:w.heap.size+3<=w4.heap.size:=by have h1:=K4.bn.lt;have h2:=K4.nb;omega
 go_cut [8] from 28 to 36 (fun s wc=>s=.slice A2 N c2/\∃lA lC,KA w wc nb CS XS zG #[.slice CA nc CC,.slice lA (N+1) lC,.slice none 0 0,.slice none 0 0,.slice none 0 0]/\Own wc (w.heap.size+3) 44 27 lA (N+1) lC (LL++XL)/\Own wc (w.heap.size+3) 3 1 A1 M c1 (UP.map Qv)/\Own wc (w.heap.size+3) 4 1 A2 N c2 (Dc N PS))
 case first=>
  clear ad co
  as_aux_lemma=>
  have ah:∀wz,Fr Non w4 wz->KA w wz nb CS XS zG #[.slice CA nc CC,.slice none 0 0,.slice none 0 0,.slice none 0 0,.slice none 0 0]:=fun wz hz=>K4.non hz;have B0:=K4.bg;have X0:=K4.bx;have G0:cS w4 w.heap.size 1 LA N LC:=(K4.bg.cell 1).trans g1.out;have P0:cS w4 nb 1 none 0 0:=K4.bn.cell 1;have F0:Fr Non w4 w4.drew:=(Fr.refl Non w4).drew;have bc:∀u∈XS.toList,u.oneCell'=true:=by rw [hXL];exact dl.out
  refine Cr (S:=fun w'=>Blk w' w.heap.size 32 CS/\Blk w' (w.heap.size+1) 44 XS/\cS w' w.heap.size 1 LA N LC/\cS w' nb 1 none 0 0) 9 (by kernel_rfl) ?_;have uu:=aI B0 (aI X0 (aI G0 P0));refine tkG 0 uu (h:=tkG 1 uu (h:=tkG 2 uu (h:=tkG 3 uu (h:=tkG 5 uu (h:=?_)))));clear uu;simp only [zl];refine Ta 4 6 (by kernel_rfl) rfl rfl (fun K hK=> ?_) (fun K hK=> ?_)
  ·
   skip
   refine Ej (base:=w.heap.size+3) (.tmp 29) (.tmp 31) 27 rfl rfl rfl Hh (Own.nil _ _ _ _) (ct.out.fr F0 zr) bk.out (by omega) (by omega) cf ?_;intro lA lC v1 oL fL aa;rw [Ax8,Ay5] at oL;have F1:Fr Non w4 v1:=F0.trans (Hi fL) zr;have a6:∀k,Ae lA=some k->w4.heap.size<=k:=fun k hk=>by rcases aa with e|e;(rw [e] at hk;cases hk);(rw [e] at hk;injection hk with hk;have ep:w4.heap.size=k:=hk;omega)
   have B1:=B0.fr F1 zq;have X1:=X0.fr F1 zq;obtain ⟨G1,P1⟩:=zk2 F1 G0 P0;refine hK.out _ _ ⟨B1,X1,G1,P1⟩ (fun hZ=> ?_);clear hZ hK K;try simp only [Ax8]
   refine Bl 6 (by kernel_rfl) rfl (fun K hK=> ?_);go_simp;have bl:=Blk.new v1 44 XS;have dc:=oL.alloc (.cells XS 44);have F2:Fr Non w4 (v1.alloc (.cells XS 44)):=F1.alloc _;obtain ⟨ga,a1⟩:=Aa v1.heap.size;rw [a1.out] at bl ⊢;generalize v1.alloc (.cells XS 44)=v2 at*;have B2:=B0.fr F2 zq;have X2:=X0.fr F2 zq;obtain ⟨G2,P2⟩:=zk2 F2 G0 P0;refine hK.out _ _ ⟨B2,X2,G2,P2⟩ (fun hZ=> ?_);clear hZ hK K;try simp only [Ac,zl]
   refine Bl 7 (by kernel_rfl) rfl (fun K hK=> ?_);refine Ej (base:=w.heap.size+3) (.tmp 32) (.tmp 34) 27 rfl rfl rfl Hh dc (Rd.blk (n:=1) (size:=27) bl bb) bc (by omega) (by omega) (Ax7 cf F2.size) ?_;intro ax ay v3 b5 da aq;rw [hXL] at b5;have F3:Fr Non w4 v3:=F2.trans da (fun k hk e=>by have h9:=a6 k e;omega);have B3:=B0.fr F3 zq;have X3:=X0.fr F3 zq;obtain ⟨G3,P3⟩:=zk2 F3 G0 P0;refine hK.out _ _ ⟨B3,X3,G3,P3⟩ (fun hZ=> ?_);clear hZ hK K;try simp only [Ac,zl]
   refine tkG 8 ⟨B3,X3,G3,P3⟩ (h:=?_);simp only [zl];have nz:=(ah v3 F3).bn.frozen 1;refine Ck (by kernel_rfl) ?_;refine oG 9 (fun K hK=> ?_);go_simp;have K5:=(ah v3 F3).set 1 (.slice ax (N+1) ay);have b9:=Own.setFar (i:=1) b5 (ah v3 F3).bn (by decide) (.slice ax (N+1) ay);have di:=Own.setFar (i:=1) (bj.fr F3 zr) (ah v3 F3).bn (by decide) (.slice ax (N+1) ay);have dk:=Own.setFar (i:=1) (ae.fr F3 zr) (ah v3 F3).bn (by decide) (.slice ax (N+1) ay);refine hK.out _ _ trivial (fun hZ=> ?_);clear hZ hK K;try simp only [Ac,zl]
   refine oD ?_;go_simp;go_wp2_with fail;go_meet;exact ⟨rfl,ax,ay,K5,b9,di,dk⟩
  ·
   skip
   go_simp;have ai:=(Blk.new w4 44 XS).drew;have F1:Fr Non w4 (w4.alloc (.cells XS 44)).drew:=((Fr.refl Non w4).alloc _).drew;have cn:=F1.size;obtain ⟨ga,a1⟩:=Aa w4.heap.size;have ed:w4.heap.size<=w4.heap.size:=Ax5 _;rw [a1.out] at ai ⊢;generalize (w4.alloc (.cells XS 44)).drew=v1 at*;have B1:=B0.fr F1 zq;have X1:=X0.fr F1 zq;obtain ⟨G1,P1⟩:=zk2 F1 G0 P0;refine hK.out _ _ ⟨B1,X1,G1,P1⟩ (fun hZ=> ?_);clear hZ hK K;try simp only [Ac,zl]
   refine Bl 4 (by kernel_rfl) rfl (fun K hK=> ?_);refine Ej (base:=w.heap.size+3) (.tmp 29) (.tmp 31) 27 rfl rfl rfl Hh (Own.nil _ _ _ _) (ct.out.fr F1 zr) bk.out (by omega) (by omega) (Ax7 cf cn) ?_;intro lA lC v2 oL fL aa;rw [Ax8,Ay5] at oL;have F2:Fr Non w4 v2:=F1.trans (Hi fL) zr;have bl:=ai.fr (Hi fL) zq;have a6:∀k,Ae lA=some k->w4.heap.size<=k:=fun k hk=>by rcases aa with e|e;(rw [e] at hk;cases hk);(rw [e] at hk;injection hk with hk;omega)
   have B2:=B0.fr F2 zq;have X2:=X0.fr F2 zq;obtain ⟨G2,P2⟩:=zk2 F2 G0 P0;refine hK.out _ _ ⟨B2,X2,G2,P2⟩ (fun hZ=> ?_);clear hZ hK K;try simp only [Ax8,Ac,zl]
   refine Bl 7 (by kernel_rfl) rfl (fun K hK=> ?_);refine Ej (base:=w.heap.size+3) (.tmp 32) (.tmp 34) 27 rfl rfl rfl Hh oL (Rd.blk (n:=1) (size:=27) bl bb) bc (by omega) (by omega) (Ax7 cf F2.size) ?_;intro ax ay v3 b5 da aq;rw [hXL] at b5;have F3:Fr Non w4 v3:=F2.trans da (fun k hk e=>by have h9:=a6 k e;omega);have B3:=B0.fr F3 zq;have X3:=X0.fr F3 zq;obtain ⟨G3,P3⟩:=zk2 F3 G0 P0;refine hK.out _ _ ⟨B3,X3,G3,P3⟩ (fun hZ=> ?_);clear hZ hK K;try simp only [Ac,zl]
   refine tkG 8 ⟨B3,X3,G3,P3⟩ (h:=?_);simp only [zl];have nz:=(ah v3 F3).bn.frozen 1;refine Ck (by kernel_rfl) ?_;refine oG 9 (fun K hK=> ?_);go_simp;have K5:=(ah v3 F3).set 1 (.slice ax (N+1) ay);have b9:=Own.setFar (i:=1) b5 (ah v3 F3).bn (by decide) (.slice ax (N+1) ay);have di:=Own.setFar (i:=1) (bj.fr F3 zr) (ah v3 F3).bn (by decide) (.slice ax (N+1) ay);have dk:=Own.setFar (i:=1) (ae.fr F3 zr) (ah v3 F3).bn (by decide) (.slice ax (N+1) ay);refine hK.out _ _ trivial (fun hZ=> ?_);clear hZ hK K;try simp only [Ac,zl]
   refine oD ?_;go_simp;go_wp2_with fail;go_meet;exact ⟨rfl,ax,ay,K5,b9,di,dk⟩
 case rest=>
 obtain ⟨rfl,lA,lC,K5,oL,b4,b3⟩:=hcut;clear bj ae K4 ct cf eu ei bk dl;obtain ⟨w5,eb⟩:∃w5:World,w5=wc:=⟨_,rfl⟩;subst eb;have cn:w.heap.size+3<=w5.heap.size:=by have h1:=K5.bn.lt;have h2:=K5.nb;omega
 have dt:=lh ((a5.out).fr K5.fr zr);go_upto_region 8 with (fail)
 have ah:∀wz,Fr Non w5 wz->KA w wz nb CS XS zG #[.slice CA nc CC,.slice lA (N+1) lC,.slice none 0 0,.slice none 0 0,.slice none 0 0]:=fun wz hz=>K5.non hz;have B0:=K5.bg;have X0:=K5.bx;have G0:cS w5 w.heap.size 2 IA N IC:=(K5.bg.cell 2).trans g2.out;have P0:cS w5 nb 2 none 0 0:=K5.bn.cell 2;have F0:Fr Non w5 w5.drew:=(Fr.refl Non w5).drew;refine Cr (S:=fun w'=>Blk w' w.heap.size 32 CS/\Blk w' (w.heap.size+1) 44 XS/\cS w' w.heap.size 2 IA N IC/\cS w' nb 2 none 0 0) 10 (by kernel_rfl) ?_;have uu:=aI B0 (aI X0 (aI G0 P0));refine tkG 0 uu (h:=tkG 1 uu (h:=tkG 2 uu (h:=tkG 3 uu (h:=tkG 5 uu (h:=?_)))));clear uu;simp only [zl];refine Bl 4 (by kernel_rfl) rfl (fun K hK=> ?_);refine Ej (base:=w.heap.size+3) (.tmp 38) (.tmp 40) 28 rfl rfl rfl Dp (Own.nil _ _ _ _) (dt.out.fr F0 zr) b2.out (by omega) (by omega) cn ?_;intro iA iC v1 oI fI aa;rw [Ax8,Ay5] at oI;have F1:Fr Non w5 v1:=F0.trans (Hi fI) zr;have a6:∀k,Ae iA=some k->w5.heap.size<=k:=fun k hk=>by rcases aa with e|e;(rw [e] at hk;cases hk);(rw [e] at hk;injection hk with hk;have ep:w5.heap.size=k:=hk;omega)
 have B1:=B0.fr F1 zq;have X1:=X0.fr F1 zq;obtain ⟨G1,P1⟩:=zk2 F1 G0 P0;refine hK.out _ _ ⟨B1,X1,G1,P1⟩ (fun hZ=> ?_);clear hZ hK K;try simp only [Ax8,Ac,zl]
 refine Bl 6 (by kernel_rfl) rfl (fun K hK=> ?_);go_simp;go_wp2_with (go_at_call 57;(with_reducible refine (co.out _ ((ah v1 F1).fr)).mono ?_);rintro _ v2 ⟨rfl,f6⟩;have F2:=F1.trans f6 zr;have cm:=oI.fr f6 zr);have B2:=B0.fr F2 zq;have X2:=X0.fr F2 zq;obtain ⟨G2,P2⟩:=zk2 F2 G0 P0;refine hK.out _ _ ⟨B2,X2,G2,P2⟩ (fun hZ=> ?_);clear hZ hK K;try simp only [Ac,zl]
 refine Bl 7 (by kernel_rfl) rfl (fun K hK=> ?_);go_simp;have ai:=Blk.new v2 38 NM.V;have dn:=cm.alloc (.cells NM.V 38);have F3:Fr Non w5 (v2.alloc (.cells NM.V 38)):=F2.alloc _;obtain ⟨ga,a1⟩:=Aa v2.heap.size;rw [a1.out] at ai ⊢;generalize v2.alloc (.cells NM.V 38)=v3 at*;have B3:=B0.fr F3 zq;have X3:=X0.fr F3 zq;obtain ⟨G3,P3⟩:=zk2 F3 G0 P0;refine hK.out _ _ ⟨B3,X3,G3,P3⟩ (fun hZ=> ?_);clear hZ hK K;try simp only [Ac,zl]
 refine Bl 8 (by kernel_rfl) rfl (fun K hK=> ?_);refine Ej (base:=w.heap.size+3) (.tmp 41) (.tmp 44) 28 rfl rfl rfl Dp dn (Rd.blk (n:=1) (size:=3) ai rfl) (by simp [Value.oneCell']) (by omega) (by omega) (Ax7 cn F3.size) ?_;intro ak al v4 dr dz c4;have F4:Fr Non w5 v4:=F3.trans dz (fun k hk e=>by have h9:=a6 k e;omega);have B4:=B0.fr F4 zq;have X4:=X0.fr F4 zq;obtain ⟨G4,P4⟩:=zk2 F4 G0 P0;refine hK.out _ _ ⟨B4,X4,G4,P4⟩ (fun hZ=> ?_);clear hZ hK K;try simp only [Ac,zl]
 refine tkG 9 ⟨B4,X4,G4,P4⟩ (h:=?_);simp only [zl];have nz:=(ah v4 F4).bn.frozen 2;refine Ck (by kernel_rfl) ?_;refine oG 10 (fun K hK=> ?_);go_simp;have K6:=(ah v4 F4).set 2 (.slice ak (N+1) al);have ck:=Own.setFar (i:=2) dr (ah v4 F4).bn (by decide) (.slice ak (N+1) al);have cl:=Own.setFar (i:=2) (oL.fr F4 zr) (ah v4 F4).bn (by decide) (.slice ak (N+1) al);have ds:=Own.setFar (i:=2) (b4.fr F4 zr) (ah v4 F4).bn (by decide) (.slice ak (N+1) al);have dw:=Own.setFar (i:=2) (b3.fr F4 zr) (ah v4 F4).bn (by decide) (.slice ak (N+1) al);refine hK.out _ _ trivial (fun hZ=> ?_);clear hZ hK K;try simp only [Ac,zl]
 refine oD ?_;go_simp;generalize v4.setCell ⟨nb,2,none⟩ (.slice ak (N+1) al)=w6 at*;change KA w w6 nb CS XS zG #[.slice CA nc CC,.slice lA (N+1) lC,.slice ak (N+1) al,.slice none 0 0,.slice none 0 0] at K6;clear ah K5 oL b4 b3 oI cm dn dr fI dz aa c4 a6 F0 F1 F2 F3 F4 B0 B1 B2 B3 B4 X0 X1 X2 X3 X4 G0 G1 G2 G3 G4 P0 P1 P2 P3 P4 f6 ai a1 nz dt b2 a5 co;have cb:w.heap.size+3<=w6.heap.size:=by have h1:=K6.bn.lt;have h2:=K6.nb;omega
 have d1:=lh ((a4.out).fr K6.fr zr);have n3:cS w6 nb 3 none 0 0:=K6.bn.cell 3;have d3:=(K6.bg.cell 3).trans g3.out
 go_upto_region 10 with (first
  |(at_builtin;go_loud (refine Bc (base:=w.heap.size+3) (.tmp 48) (.tmp 50) 29 rfl rfl rfl rfl slIi (Own.nil _ _ _ _) d1.out bp.out (by omega) (by omega) cb ?_);intro uA uC v1 oU fU aa;rw [Ax8,Ay5] at oU;have F1:Fr Non w6 v1:=Hi fU;have a6:∀k,Ae uA=some k->w6.heap.size<=k:=(fun k hk=>by rcases aa with e|e;(rw [e] at hk;cases hk);(rw [e] at hk;injection hk with hk;omega));have ai:=Blk.new v1 22 #[.slice A1 M c1];have ci:=oU.alloc (.cells #[.slice A1 M c1] 22);have F2:Fr Non w6 (v1.alloc (.cells #[.slice A1 M c1] 22)):=F1.alloc _;clear aa fU)
  |(at_builtin;go_loud (refine Bc (base:=w.heap.size+3) (.tmp 51) (.tmp 53) 29 rfl rfl rfl rfl slIi ci (Rd.blk (n:=1) (size:=1) ai rfl) (by simp [Value.oneCell']) (by omega) (by omega) (Ax7 cb F2.size) ?_);intro a2 a3 v2 dq dy aq;have F3:Fr Non w6 v2:=F2.trans dy (fun k hk e=>by have h9:=a6 k e;omega);have K7:=K6.non F3;have n3:cS v2 nb 3 none 0 0:=K7.bn.cell 3;have z3:=K7.bn.frozen 3;clear aq a6 F2 F1 ci oU ai))
 have K8:=K7.set 3 (.slice a2 (N+1) a3)
 have R8:KR (w.heap.size+3) (v2.setCell ⟨nb,3,none⟩ (.slice a2 (N+1) a3)) lA (N+1) lC (LL++XL) ak (N+1) al (IL++NM.cells) a2 (N+1) a3 (UL++[.slice A1 M c1]) A1 M c1 (UP.map Qv) A2 N c2 (Dc N PS):=
  ⟨Own.setFar (cl.fr F3 zr) K7.bn (by decide) _,Own.setFar (ck.fr F3 zr) K7.bn (by decide) _,Own.setFar dq K7.bn (by decide) _,Own.setFar (ds.fr F3 zr) K7.bn (by decide) _,Own.setFar (dw.fr F3 zr) K7.bn (by decide) _⟩
 generalize v2.setCell ⟨nb,3,none⟩ (.slice a2 (N+1) a3)=w8 at*;change KA w w8 nb CS XS zG #[.slice CA nc CC,.slice lA (N+1) lC,.slice ak (N+1) al,.slice a2 (N+1) a3,.slice none 0 0] at K8;clear K6 K7 cl ck dq ds dw n3 z3 d3 F3 dy d1 a4 bp cb;have eo:∀k,Ae A2=some k->k<w8.heap.size:=fun k hk=>(R8.oB.row k hk).2;go_wp2_with fail
 go_loopw [10] (fun v wr=>∃(j:Nat) (nA:Option Addr) (nC:Nat) (ns:List InL),v=.int .i64 (j:Int)/\j<=N/\KA w wr nb CS XS zG #[.slice CA nc CC,.slice lA (N+1) lC,.slice ak (N+1) al,.slice a2 (N+1) a3,.slice nA j nC]/\KR (w.heap.size+3) wr lA (N+1) lC (LL++XL) ak (N+1) al (IL++NM.cells) a2 (N+1) a3 (UL++[.slice A1 M c1]) A1 M c1 (UP.map Qv) A2 N c2 (Dc N PS)/\
  Own wr (w.heap.size+3) 108 1 nA j nC (ns.map InL.cell)/\Hid (∀y∈ns,y.own wr base)/\Hid (ns.map InL.bs=(IR.take j).map (· ++[false]))/\w8.heap.size<=wr.heap.size/\Hid (∀y∈ns,∀k,Ae y.A=some k->w8.heap.size<=k)) (fun v _=>N-(intOf v).toNat)
 case atStart=>exact ⟨0,none,0,[],rfl,by omega,K8,R8,Own.nil _ _ _ _,fun y hy=>absurd hy Ax3,rfl,Ax5 _,fun y hy=>absurd hy Ax3⟩
 case round=>
  obtain ⟨j,nA,nC,ns,rfl,hj,K,R,oN,b1,cg,e3,bw⟩:=hrel;clear K8 R8;have d4:=(K.bg.cell 4).trans g4.out;have dp:w.heap.size+3<=wr.heap.size:=by have h1:=K.bn.lt;have h2:=K.nb;omega
  have cz:=oN.row
  by_cases hlt:j<N
  ·
   obtain ⟨j1,j2,j3⟩:=ix j N
   obtain ⟨n,hn⟩:∃n,l[j]? =some n:=⟨_,Ay8 (by rw [hN.out];exact hlt)⟩;obtain ⟨y,b,c8,cu,dx,rfl,ez,cy⟩:=a9.out j n hn;have dd:y.bs.length=N:=by rw [cu,Ha]
   have ar:Hid ((y.bs++[false]).length=N+1):=by show _=_;rw [Ay4,dd];rfl
   have d5:y.cell=.slice y.A N y.c:=Ns (bs:=y.bs) dd;rw [d5] at cy;have e0:=K.fr.cell cy zq;have bd:Rd w w.heap.size 1 y.A y.bs.length (y.bs.map Value.bool):=dx.sl.rd;rw [dd] at bd;have eh:=lh (bd.fr K.fr zr);have ca:=lh (bt.out y)
   have dj:Hid ((IR.take (j+1)).map (· ++[false])=(IR.take j).map (· ++[false])++[y.bs++[false]]):=by
    show _=_;rw [Db (a8.out j n hn),Ax9,cu];rfl
   have n4:cS wr nb 4 nA j nC:=K.bn.cell 4;clear hn cu dx cy bd d5 a8 a9 ad;go_upto_region 15 with (at_builtin;go_loud (refine Bc (base:=wr.heap.size) (.tmp 63) (.tmp 68) 108 rfl rfl rfl rfl Kl (Own.nil _ _ _ _) eh.out ca.out (by omega) (by omega) (Ax5 _) ?_);intro rA rC v0 oR fR aa;rw [Ax8,Ay5] at oR;have F0:Fr Non wr v0:=Hi fR;have em:=oR.row;clear aa fR)
   have G0:cS v0 nb 4 nA j nC:=F0.cell n4 zq;refine Cr (S:=fun w'=>cS w' nb 4 nA j nC) 8 (by kernel_rfl) ?_;refine tkG 0 G0 (h:=tkG 1 G0 (h:=tkG 2 G0 (h:=?_)));simp only [zl];refine Bl 3 (by kernel_rfl) rfl (fun K' hK=> ?_);go_simp;have az:=(Blk.new v0 4 #[.bool false]).drew;have cv:=oR.alloc (.cells #[.bool false] 4);have F1:Fr Non wr (v0.alloc (.cells #[.bool false] 4)).drew:=(F0.alloc (.cells #[.bool false] 4)).drew;replace cv:Own (v0.alloc (.cells #[.bool false] 4)).drew wr.heap.size 4 1 rA N rC (y.bs.map Value.bool):=cv;obtain ⟨ga,a1⟩:=Aa v0.heap.size;rw [a1.out] at az ⊢;generalize (v0.alloc (.cells #[.bool false] 4)).drew=v1 at*;have G1:=F1.cell n4 zq;refine hK.out _ _ G1 (fun hZ=> ?_);clear hZ hK K';try simp only [Ac,zl]
   refine Bl 4 (by kernel_rfl) rfl (fun K' hK=> ?_);refine Ej (base:=wr.heap.size) (.tmp 72) (.tmp 73) 108 rfl rfl rfl Kl cv (Rd.blk (n:=1) (size:=1) az rfl) (by simp [Value.oneCell']) (by omega) (by omega) F1.size ?_;intro ag af v2 bu ba aq;have F2:Fr Non wr v2:=F1.trans ba (fun k hk e=>by have h9:=(em k e).1;omega);have G2:=F2.cell n4 zq;refine hK.out _ _ G2 (fun hZ=> ?_);clear hZ hK K';try simp only [Ac,zl]
   refine Bl 5 (by kernel_rfl) rfl (fun K' hK=> ?_);go_simp;have aw:=Blk.new v2 108 #[.slice ag (N+1) af];have ek:=bu.alloc (.cells #[.slice ag (N+1) af] 108);have F3:Fr Non wr (v2.alloc (.cells #[.slice ag (N+1) af] 108)):=F2.alloc _;obtain ⟨gb,cx⟩:=Aa v2.heap.size;rw [cx.out] at aw ⊢;generalize v2.alloc (.cells #[.slice ag (N+1) af] 108)=v3 at*;have G3:=F3.cell n4 zq;refine hK.out _ _ G3 (fun hZ=> ?_);clear hZ hK K';try simp only [Ac,zl]
   refine Bl 6 (by kernel_rfl) rfl (fun K' hK=> ?_);have b8:=oN.fr F3 zr;refine Ej (base:=w.heap.size+3) (.tmp 71) (.tmp 75) 30 rfl rfl rfl slBb b8 (Rd.blk (n:=1) (size:=1) aw rfl) (by simp [Value.oneCell']) (by omega) (by omega) (Ax7 dp F3.size) ?_;intro ab ac v5 de ap c3;have K5:=(K.non F3).over ap (fun k e=>(cz k e).1) (fun e=>b8.ne (K.non F3).bn (by decide) e);have R5:=(R.non F3).grow b8 ap;have db:=Own.grow2 ek b8 (by decide) ap;have a0:Hid (∀y∈ns,y.own v5 base):=fun y hy=>InL.own.grow (RowAt.non (b1.out y hy) F3:y.own _ base) b8 ap;have G4:cS v5 nb 4 nA j nC:=K5.bn.cell 4;have ev:=K5.bn.frozen 4;refine hK.out _ _ G4 (fun hZ=> ?_);clear hZ hK K';try simp only [Ac,zl]
   refine tkG 7 G4 (h:=?_);simp only [zl];refine Ck (by kernel_rfl) ?_;refine oG 8 (fun K' hK=> ?_);go_simp;have K6:=K5.set 4 (.slice ab (j+1) ac);have R6:=R5.setFar (i:=4) K5.bn (.slice ab (j+1) ac);have c0:=Own.setFar (i:=4) de K5.bn (by decide) (.slice ab (j+1) ac);have cd:=Own.setFar (i:=4) db K5.bn (by decide) (.slice ab (j+1) ac);rw [S8] at cd;have bf:=S7 (base:=base) cd (by omega) ar.out;have aj:(InL.mk ag af (y.bs++[false])).cell=.slice ag (N+1) af:=Ns ar.out
   have av:Hid (∀z∈ns++[(⟨ag,af,y.bs++[false]⟩:InL)],z.own (v5.setCell ⟨nb,4,none⟩ (.slice ab (j+1) ac)) base):=by
    intro z hz
    rcases List.mem_append.1 hz with h1|h1
    · exact (a0.out z h1).setFar K5.bn _
    ·
     rw [Ax6] at h1;rw [h1];exact bf
   have bh:Hid ((ns++[(⟨ag,af,y.bs++[false]⟩:InL)]).map InL.bs=(IR.take (j+1)).map (· ++[false])):=by
    show _=_;rw [Ax9,cg.out,dj.out];rfl
   have cb:w8.heap.size<=(v5.setCell ⟨nb,4,none⟩ (.slice ab (j+1) ac)).heap.size:=by
    have h1:=F3.size;have h2:=ap.size;simp [World.setCell];omega
   have b7:Hid (∀z∈ns++[(⟨ag,af,y.bs++[false]⟩:InL)],∀k,Ae z.A=some k->w8.heap.size<=k):=by
    intro z hz k hk
    rcases List.mem_append.1 hz with h1|h1
    · exact bw.out z h1 k hk
    ·
     rw [Ax6] at h1;rw [h1] at hk;have:=(bu.row k hk).1;omega
   refine hK.out _ _ trivial (fun hZ=> ?_);clear hZ hK K';try simp only [Ac,zl]
   refine oD ?_;go_simp;go_wp2_with fail;go_roundw
   case rel=>exact ⟨j+1,ab,ac,ns++[⟨ag,af,y.bs++[false]⟩],by go_num,by omega,K6,R6,by rw [Ax9,List.map_cons,List.map_nil,aj];exact c0,av,bh,cb,b7⟩
   case measure=>simp [intOf];omega
  ·
   obtain rfl:j=N:=by omega
   have cp:ns.map InL.bs=IR.map (· ++[false]):=by
    have h1:=cg.out;rwa [Ay9 (by rw [be.out];exact Ax5 _)] at h1
   have ej:Hid (Dc j PS=(Cb j PS).map Value.bool):=rfl;have es:(Cb j PS).length=j:=Ha _ _;have n4:cS wr nb 4 nA j nC:=K.bn.cell 4;have bv:(zp.info? 32).map (·.size)=some 5:=Co;clear a8 a9 cg be bt;go_upto_region 16 with (fail)
   have F0:Fr Non wr wr:=Fr.refl _ _;have G0:=n4;refine Cr (S:=fun w'=>cS w' nb 4 nA j nC) 8 (by kernel_rfl) ?_;refine tkG 0 G0 (h:=tkG 1 G0 (h:=tkG 2 G0 (h:=?_)));simp only [zl];refine Bl 3 (by kernel_rfl) rfl (fun K' hK=> ?_);go_simp;have az:=(Blk.new wr 4 #[.bool false]).drew;have F1:Fr Non wr (wr.alloc (.cells #[.bool false] 4)).drew:=(F0.alloc (.cells #[.bool false] 4)).drew;obtain ⟨ga,a1⟩:=Aa wr.heap.size;rw [a1.out] at az ⊢;generalize (wr.alloc (.cells #[.bool false] 4)).drew=v1 at*;have G1:=F1.cell n4 zq;refine hK.out _ _ G1 (fun hZ=> ?_);clear hZ hK K';try simp only [Ac,zl]
   refine Bl 4 (by kernel_rfl) rfl (fun K' hK=> ?_);have bi:=R.oB.fr F1 zr;refine Ej (base:=w.heap.size+3) (.tmp 80) (.tmp 81) 108 rfl rfl rfl Kl bi (Rd.blk (n:=1) (size:=1) az rfl) (by simp [Value.oneCell']) (by omega) (by omega) (Ax7 dp F1.size) ?_;intro ag af v2 bu ba aq;have K2:=(K.non F1).over ba (fun k e=>(R.oB.row k e).1) (fun e=>bi.ne (K.non F1).bn (by decide) e);have dc:=Own.grow2 (R.oL.fr F1 zr) bi (by decide) ba;have cm:=Own.grow2 (R.oI.fr F1 zr) bi (by decide) ba;have ci:=Own.grow2 (R.oU.fr F1 zr) bi (by decide) ba;have el:=Own.grow2 (R.oA.fr F1 zr) bi (by decide) ba;have d7:=Own.grow2 (oN.fr F1 zr) bi (by decide) ba;have b0:Hid (∀y∈ns,y.own v2 base):=fun y hy=>RowAt.fr (RowAt.non (b1.out y hy) F1) ba (fun _ k hk e=>by have h1:=bw.out y hy k hk;have h2:=eo k e;omega);rw [ej.out] at bu;have G2:cS v2 nb 4 nA j nC:=K2.bn.cell 4;refine hK.out _ _ G2 (fun hZ=> ?_);clear hZ hK K';try simp only [Ac,zl]
   refine Bl 5 (by kernel_rfl) rfl (fun K' hK=> ?_);go_simp;have aw:=Blk.new v2 108 #[.slice ag (j+1) af];have F3:Fr Non v2 (v2.alloc (.cells #[.slice ag (j+1) af] 108)):=(Fr.refl _ _).alloc _;obtain ⟨gb,cx⟩:=Aa v2.heap.size;rw [cx.out] at aw ⊢;generalize v2.alloc (.cells #[.slice ag (j+1) af] 108)=v3 at*;have K3:=K2.non F3;have a7:=d7.fr F3 zr;have G3:cS v3 nb 4 nA j nC:=K3.bn.cell 4;have d9:w.heap.size+3<=v3.heap.size:=by have h1:=K3.bn.lt;have h2:=K3.nb;omega
   refine hK.out _ _ G3 (fun hZ=> ?_);clear hZ hK K';try simp only [Ac,zl]
   refine Bl 6 (by kernel_rfl) rfl (fun K' hK=> ?_);refine Ej (base:=w.heap.size+3) (.tmp 79) (.tmp 83) 30 rfl rfl rfl slBb a7 (Rd.blk (n:=1) (size:=1) aw rfl) (by simp [Value.oneCell']) (by omega) (by omega) d9 ?_;intro ab ac v5 de ap c3;have K5:=K3.over ap (fun k e=>(a7.row k e).1) (fun e=>a7.ne K3.bn (by decide) e);have db:=Own.grow2 (bu.fr F3 zr) a7 (by decide) ap;have b9:=Own.grow2 (dc.fr F3 zr) a7 (by decide) ap;have d6:=Own.grow2 (cm.fr F3 zr) a7 (by decide) ap;have ea:=Own.grow2 (ci.fr F3 zr) a7 (by decide) ap;have er:=Own.grow2 (el.fr F3 zr) a7 (by decide) ap;have a0:Hid (∀y∈ns,y.own v5 base):=fun y hy=>InL.own.grow (RowAt.non (b0.out y hy) F3:y.own _ base) a7 ap;have G4:cS v5 nb 4 nA j nC:=K5.bn.cell 4;have ev:=K5.bn.frozen 4;refine hK.out _ _ G4 (fun hZ=> ?_);clear hZ hK K';try simp only [Ac,zl]
   refine tkG 7 G4 (h:=?_);simp only [zl];refine Ck (by kernel_rfl) ?_;refine oG 8 (fun K' hK=> ?_);go_simp;have K6:=K5.set 4 (.slice ab (j+1) ac);have c0:=Own.setFar (i:=4) de K5.bn (by decide) (.slice ab (j+1) ac);have cd:=Own.setFar (i:=4) db K5.bn (by decide) (.slice ab (j+1) ac);have cl:=Own.setFar (i:=4) b9 K5.bn (by decide) (.slice ab (j+1) ac);have ck:=Own.setFar (i:=4) d6 K5.bn (by decide) (.slice ab (j+1) ac);have en:=Own.setFar (i:=4) ea K5.bn (by decide) (.slice ab (j+1) ac);have ec:=Own.setFar (i:=4) er K5.bn (by decide) (.slice ab (j+1) ac);rw [S8] at cd;have ar:(Cb j PS++[false]).length=j+1:=by rw [Ay4,es];rfl
   have bf:=S7 (base:=base) cd (by omega) ar;have aj:(InL.mk ag af (Cb j PS++[false])).cell=.slice ag (j+1) af:=Ns ar
   have av:∀z∈ns++[(⟨ag,af,Cb j PS++[false]⟩:InL)],z.own (v5.setCell ⟨nb,4,none⟩ (.slice ab (j+1) ac)) base:=by
    intro z hz
    rcases List.mem_append.1 hz with h1|h1
    · exact (a0.out z h1).setFar K5.bn _
    ·
     rw [Ax6] at h1;rw [h1];exact bf
   have bh:(ns++[(⟨ag,af,Cb j PS++[false]⟩:InL)]).map InL.bs=IR.map (· ++[false])++[Cb j PS++[false]]:=by
    rw [Ax9,cp];rfl
   have ef:Own (v5.setCell ⟨nb,4,none⟩ (.slice ab (j+1) ac)) (w.heap.size+3) 108 1 ab (j+1) ac ((ns++[(⟨ag,af,Cb j PS++[false]⟩:InL)]).map InL.cell):=by
    rw [Ax9,List.map_cons,List.map_nil,aj];exact c0
   refine hK.out _ _ trivial (fun hZ=> ?_);clear hZ hK K';try simp only [Ac,zl]
   refine oD ?_;go_simp;generalize v5.setCell ⟨nb,4,none⟩ (.slice ab (j+1) ac)=v6 at*;change KA w v6 nb CS XS zG #[.slice CA nc CC,.slice lA (j+1) lC,.slice ak (j+1) al,.slice a2 (j+1) a3,.slice ab (j+1) ac] at K6;obtain ⟨RR,bm⟩:∃RR:Array Value,RR=#[.slice CA nc CC,.slice lA (j+1) lC,.slice ak (j+1) al,.slice a2 (j+1) a3,.slice ab (j+1) ac]:=⟨_,rfl⟩;have c9:(zp.info? 32).map (·.size)=some RR.size:=by rw [bm];exact bv
   have eg:RR.all (·.oneCell')=true:=by rw [bm];simp [Value.oneCell']
   have et:(zG:Array Value).size=RR.size:=by rw [bm];rfl
   have bo:Hid (∀wz,Fr (One (w.heap.size+2)) v6 wz->POST (.returned (.tuple #[.agg RR,.int .i64 0])) wz):=by
    intro wz hz;have cc:∀(e:TypeId) (sz n c:Nat) (A:Option Addr) (xs:List Value),Own v6 (w.heap.size+3) e sz A n c xs->Own wz (w.heap.size+3) e sz A n c xs:=fun e sz n c A xs ho=>ho.fr hz (fun k hk e'=>by have h1:=(ho.row k hk).1;have e2:k=w.heap.size+2:=e';omega);rw [bm];refine ad.out lA ak a2 ab lC al a3 ac _ wz (K6.fr.trans hz (fun k hk e'=>absurd hk (by have e2:k=w.heap.size+2:=e';omega))) (cc _ _ _ _ _ _ cl) (cc _ _ _ _ _ _ ck) (cc _ _ _ _ _ _ en) (cc _ _ _ _ _ _ ec) (cc _ _ _ _ _ _ ef) ?_ bh;intro y hy;refine RowAt.keepT (av y hy) hz (fun k cs fr hk e'=> ?_);have e2:k=w.heap.size+2:=e';subst e2;have ee:v6.heap[w.heap.size+2]? =some (.cells zG 32 (0,0)):=K6.br;rw [ee] at hk;injection hk with hk
    injection hk with _ ht
    exact absurd ht (by decide)
   rw [<- bm] at K6;have ey:=Bi (P:=zp) nb 32 underlying32 rfl (cs:=RR) c9;have d8:=Br (P:=zp) (w.heap.size+2) 32 c9 (old:=zG) et eg;have bz:=K6.bn;have bq:=K6.br;clear ad bm;go_wp2_with fail;have c7:=bq.setRow (cs:=RR);have cr:=lh (bo.out _ ((Fr.refl (One (w.heap.size+2)) v6).setRow (g:=w.heap.size+2) (fun _=>rfl) RR))
   (try simp only [Exit.inBlock,Exit.then])
   refine E2 (t:=32) rfl rfl c7 rfl underlying32 c9 rfl ?_;exact cr.out
end Oq
namespace Oq
attribute [local go_sem] Bool.not_false Bool.not_true
attribute [local go_sem ↓] Cj Fc
def Nv (b:Int) (w:World) (e:Ending) (w':World):Prop:=
 ∃y:OpL,e=.returned (.agg y.cells)/\y.by_=b/\y.op.ok/\y.own w' w.heap.size/\Fr Non w w'
def smL (b k d ol ro:Int) (pA:Option Addr) (ps:List NdL) (ep of:Id) (bA:Option Addr) (bs:List UInt8):OpL:=
 {OpL.zero with by_:=b,kind:=k,dev:=d,old:=ol,role:=ro,pathA:=pA,pathC:=ps.length,path:=ps,epoch:=ep,of:=of,bodyA:=bA,bodyC:=bs.length,body:=bs}
theorem Hk (p:Nat) (h:p<18446744073709551616):(NdL.mk p none 0 []).nd.ok:=⟨h,Ay0 _,fun _ h=>absurd h Ax3⟩
theorem z64:I64 0:=⟨by decide,by decide⟩
theorem Fx:U64 0:=by decide
theorem Fy {b k d ol ro:Int} {pA bA:Option Addr} {ps:List NdL} {ep of:Id} {bs:List UInt8} (hb:I64 b) (hk:I64 k) (hd:I64 d) (ho:I64 ol) (hr:I64 ro) (hp:ps.length<=1/\∀x∈ps,x.nd.ok) (he:ep.ok) (hf:of.ok) (hbs:bs.length<=1):(smL b k d ol ro pA ps ep of bA bs).op.ok:=by
 refine ⟨hb,z64,hk,z64,⟨Ay0 _,fun _ h=>absurd h Ax3⟩,hd,ho,z64,hr,⟨?_,?_⟩,he,z64,?_,⟨Ay0 _,fun _ h=>absurd h Ax3⟩,hf,
  ⟨Ay0 _,fun _ h=>absurd h Ax3⟩,z64,z64,⟨Ay0 _,fun _ h=>absurd h Ax3⟩,Fx,⟨Ay0 _,fun _ h=>absurd h Ax3⟩,Fx,Fx⟩
 ·
  show (ps.map NdL.nd).length<=1000;rw [Ay6];omega
 ·
  intro x hx;obtain ⟨y,hy,rfl⟩:=List.mem_map.1 (show x∈ps.map NdL.nd from hx);exact hp.2 y hy
 ·
  show bs.length<=1000000;omega
theorem Al6 {b k d ol ro:Int} {pA bA:Option Addr} {ps:List NdL} {ep of:Id} {bs:List UInt8} {w:World} {base:Nat} (hp:Own w base 94 2 pA ps.length ps.length (ps.flatMap NdL.cells)) (hps:∀y∈ps,y.xs=[]/\y.A=none/\y.c=0) (hb:RowAt w base 5 1 bA bs.length bs.length (bs.map Bv)):(smL b k d ol ro pA ps ep of bA bs).own w base:=
 ⟨RowAt.nil _ _ _ _,RowAt.of_own hp,(fun y hy=>by obtain ⟨h1,h2,h3⟩:=hps y hy;rw [h1,h2,h3];exact RowAt.nil _ _ _ _),hb,RowAt.nil _ _ _ _,RowAt.nil _ _ _ _,RowAt.nil _ _ _ _,RowAt.nil _ _ _ _,(fun _ h=>absurd h Ax3)⟩
theorem Own.blk {w:World} {base g:Nat} {t:TypeId} {size n:Nat} {cs:Array Value} (h:Blk w g t cs) (hb:base<=g) (hn:0<n) (hs:cs.size=n*size) (h1:n<9223372036854775807):Own w base t size (some ⟨g,0,none⟩) n n cs.toList:=by
 refine ⟨by rw [Az0,hs],.inr ⟨g,n,cs,rfl,hb,h,Ax5 _,by unfold maxLen;omega,hs,?_⟩⟩;rw [Ay9 (by rw [Az0,hs];exact Ax5 _)]
theorem RowAt.blkF {w:World} {base g:Nat} {t:TypeId} {size n:Nat} {cs:Array Value} {fz:Nat × Nat} (h:w.heap[g]? =some (.cells cs t fz)) (hb:base<=g) (hs:cs.size=n*size) (h1:n<9223372036854775807) (hz:∀j,j<n*size->w.frozen? ⟨g,j,none⟩=false):RowAt w base t size (some ⟨g,0,none⟩) n n cs.toList:=by
 have hl:=(Array.getElem?_eq_some_iff.1 h).1;refine ⟨⟨⟨by rw [Az0,hs],.inr ⟨g,0,rfl,hl,fun j u hu=> ?_⟩⟩,⟨Ax5 _,by omega⟩⟩,.inr ⟨g,cs,fz,rfl,hb,h,hz⟩⟩;rw [Ax8,cell_of_row w g j cs t fz h];simpa using hu
structure Av (w v:World) (nm:Array Value) (y:OpL):Prop where
 b:Blk v w.heap.size 44 y.cells
 r:Blk v (w.heap.size+1) 44 OpL.zero.cells
 n:Blk v (w.heap.size+1+1) 38 nm
 f:Fr Non w v
 sz:w.heap.size+3<=v.heap.size
 own:y.own v (w.heap.size+2)
theorem Av.gen {G:World->Prop} {w v:World} {nm:Array Value} {y:OpL} (s:Av w v nm y) (k:∀v',Av w v' nm y->G v'):G v:=k v s
theorem Av.q {w v:World} {nm:Array Value} {y:OpL} (s:Av w v nm y) (j:Nat) {x:Value} (h:y.cells[j]? =some x):v.cell? ⟨w.heap.size,j,none⟩=some x/\v.frozen? ⟨w.heap.size,j,none⟩=false:=⟨(s.b.cell j).trans h,s.b.frozen j⟩
theorem Av.o {w v:World} {a0 a1 a2:Value} {y:OpL} (s:Av w v #[a0,a1,a2] y):v.cell? ⟨w.heap.size+1+1,0,none⟩=some a0/\v.cell? ⟨w.heap.size+1+1,1,none⟩=some a1/\v.cell? ⟨w.heap.size+1+1,2,none⟩=some a2:=⟨s.n.cell 0,s.n.cell 1,s.n.cell 2⟩
theorem Al7 {b k d ol ro b' k' d' ol' ro':Int} {pA bA:Option Addr} {ps:List NdL} {ep of ep' of':Id} {bs:List UInt8} {v:World} {B:Nat} (h:(smL b k d ol ro pA ps ep of bA bs).own v B):(smL b' k' d' ol' ro' pA ps ep' of' bA bs).own v B:=
 ⟨h.past,h.path,h.nodes,h.body,h.refs,h.guards,h.boxes,h.hist,h.seals⟩
theorem Kn {v:World} {g:Nat} {t:TypeId} {cs:Array Value} (hb:Blk v g t cs) {y:OpL} {B j:Nat} {x:Value} (h:y.own v B) (ht:t=44):y.own (v.setCell ⟨g,j,none⟩ x) B:=by
 subst ht;exact h.keepP ((Fr.refl (One g) v).setOne j x) (Types.one hb) (by decide) (by decide) (by decide) (by decide) (by decide) (by decide) (by decide)
theorem Av.base {w v:World} {nm:Array Value} {y y':OpL} (s:Av w v nm y) (j:Nat) (x:Value) (h:y.cells.setIfInBounds j x=y'.cells) (ho:y'.own (v.setCell ⟨w.heap.size,j,none⟩ x) (w.heap.size+2)):Av w (v.setCell ⟨w.heap.size,j,none⟩ x) nm y' where
 b:=h▸s.b.set j x
 r:=s.r.far (p:=⟨w.heap.size,j,none⟩) (by show w.heap.size+1≠w.heap.size;omega) x
 n:=s.n.far (p:=⟨w.heap.size,j,none⟩) (by show w.heap.size+1+1≠w.heap.size;omega) x
 f:=s.f.setNew (g:=w.heap.size) (Ax5 _) j x
 sz:=by have:=s.sz;first|exact this|(simp [World.setCell];omega)
 own:=ho
theorem Av.set {w v:World} {nm:Array Value} {b k d ol ro b' k' d' ol' ro':Int} {pA bA:Option Addr} {ps:List NdL} {ep of ep' of':Id} {bs:List UInt8} (s:Av w v nm (smL b k d ol ro pA ps ep of bA bs)) (j:Nat) (x:Value)
  (h:(smL b k d ol ro pA ps ep of bA bs).cells.setIfInBounds j x=(smL b' k' d' ol' ro' pA ps ep' of' bA bs).cells:=by first|rfl|(simp [smL,OpL.cells,OpL.zero])):Av w (v.setCell ⟨w.heap.size,j,none⟩ x) nm (smL b' k' d' ol' ro' pA ps ep' of' bA bs):=
 s.base j x h (Al7 (Kn s.b s.own rfl))
theorem Av.alloc {w v:World} {nm:Array Value} {y:OpL} (s:Av w v nm y) (o:Obj):Av w (v.alloc o) nm y:=
 ⟨s.b.alloc _,s.r.alloc _,s.n.alloc _,s.f.alloc _,by rw [Ax4];have:=s.sz;omega,s.own.non ((Fr.refl Non v).alloc o)⟩
theorem Av.path {w v:World} {nm:Array Value} {b k d ol ro:Int} {bA:Option Addr} {ep of:Id} {bs:List UInt8} (s:Av w v nm (smL b k d ol ro none [] ep of bA bs)) (p:Nat) (P:Int) (hP:P=(p:Int)):
  Av w ((v.alloc (.cells #[.int .u64 P,.slice none 0 0] 94)).setCell ⟨w.heap.size,9,none⟩ (.slice (some ⟨v.heap.size,0,none⟩) 1 1)) nm (smL b k d ol ro (some ⟨v.heap.size,0,none⟩) [⟨p,none,0,[]⟩] ep of bA bs):=by
 subst hP;have hs:=s.sz;have s1:=s.alloc (.cells #[.int .u64 (p:Int),.slice none 0 0] 94);refine s1.base 9 _ rfl (Kn s1.b ?_ rfl);have h5:=Own.blk (base:=w.heap.size+2) (n:=1) (size:=2) (Blk.new v 94 #[.int .u64 (p:Int),.slice none 0 0]) (by omega) (by omega) rfl (by omega);have h:=s1.own;exact ⟨h.past,RowAt.of_own h5,(fun y hy=>by rw [List.mem_singleton.1 (show y∈[(⟨p,none,0,[]⟩:NdL)] from hy)];exact RowAt.nil _ _ _ _),h.body,h.refs,h.guards,h.boxes,h.hist,h.seals⟩
theorem Av.body {w v:World} {nm:Array Value} {b k d ol ro:Int} {ep of:Id} (s:Av w v nm (smL b k d ol ro none [] ep of none [])) (x:UInt8) (X:Int) (hX:X=(x.toNat:Int)):
  Av w ((v.alloc (.cells #[.int .u8 X] 5)).setCell ⟨w.heap.size,14,none⟩ (.slice (some ⟨v.heap.size,0,none⟩) 1 1)) nm (smL b k d ol ro none [] ep of (some ⟨v.heap.size,0,none⟩) [x]):=by
 subst hX;have hs:=s.sz;have s1:=s.alloc (.cells #[.int .u8 (x.toNat:Int)] 5);refine s1.base 14 _ rfl (Kn s1.b ?_ rfl);have h5:=Own.blk (base:=w.heap.size+2) (n:=1) (size:=1) (Blk.new v 5 #[.int .u8 (x.toNat:Int)]) (by omega) (by omega) rfl (by omega);have h:=s1.own;exact ⟨h.past,h.path,h.nodes,RowAt.of_own h5,h.refs,h.guards,h.boxes,h.hist,h.seals⟩
theorem Av.bodyF {w v:World} {nm:Array Value} {b k d ol ro:Int} {ep of:Id} (s:Av w v nm (smL b k d ol ro none [] ep of none [])) (x:UInt8) (X:Int) (hX:X=(x.toNat:Int)):
  Av w ((v.alloc (.cells #[.int .u8 X] 5 (1,2))).setCell ⟨w.heap.size,14,none⟩ (.slice (some ⟨v.heap.size,0,none⟩) 1 1)) nm (smL b k d ol ro none [] ep of (some ⟨v.heap.size,0,none⟩) [x]):=by
 subst hX;have hs:=s.sz;have s1:=s.alloc (.cells #[.int .u8 (x.toNat:Int)] 5 (1,2));have aF:=heap_alloc_new v (.cells #[.int .u8 (x.toNat:Int)] 5 (1,2));have hgz:=hs;generalize v.alloc (.cells #[.int .u8 (x.toNat:Int)] 5 (1,2))=v1 at*;generalize v.heap.size=g at*;have h5:RowAt v1 (w.heap.size+2) 5 1 (some ⟨g,0,none⟩) 1 1 [.int .u8 (x.toNat:Int)]:=RowAt.blkF (cs:=#[.int .u8 (x.toNat:Int)]) aF (by omega) rfl (by omega) (fun j hj=>by simp [World.frozen?,aF];omega);have h:=s1.own;refine s1.base 14 _ rfl (Kn s1.b ?_ rfl);exact ⟨h.past,h.path,h.nodes,h5,h.refs,h.guards,h.boxes,h.hist,h.seals⟩
theorem Al8 (b:Int) (n:Nat) (w:World) (hb:I64 b) (hn:n<=1000000):
  Calls zp 91 #[.agg #[.int .i64 b,.int .i64 0,.int .i64 0,.int .i64 0,.slice none 0 0,.int .i64 0,.int .i64 0,.int .i64 0,.int .i64 0,.slice none 0 0,.int .i64 0,.int .i64 0,.int .u64 0,.int .i64 0,.slice none 0 0,.slice none 0 0,.int .i64 0,.int .i64 0,.int .u64 0,.slice none 0 0,.int .i64 0,.int .i64 0,.slice none 0 0,.int .u64 0,.slice none 0 0,.int .u64 0,.int .u64 0],.int .i64 (n:Int)] w (Nv b w):=by
 have hi:(zp.info? 44).map (·.size)=some 27:=by kernel_rfl
 have s0:Av w (((w.alloc (.cells #[.int .i64 b,.int .i64 0,.int .i64 0,.int .i64 0,.slice none 0 0,.int .i64 0,.int .i64 0,.int .i64 0,.int .i64 0,.slice none 0 0,.int .i64 0,.int .i64 0,.int .u64 0,.int .i64 0,.slice none 0 0,.slice none 0 0,.int .i64 0,.int .i64 0,.int .u64 0,.slice none 0 0,.int .i64 0,.int .i64 0,.slice none 0 0,.int .u64 0,.slice none 0 0,.int .u64 0,.int .u64 0] 44)).alloc (.cells zO 44)).alloc (.cells #[.int .i64 (1+(n:Int)%3),.int .i64 1,.int .u64 ((n:Int)/3%3)] 38)) #[.int .i64 (1+(n:Int)%3),.int .i64 1,.int .u64 ((n:Int)/3%3)] (smL b 0 0 0 0 none [] ⟨0,0,0⟩ ⟨0,0,0⟩ none []):=by
  refine ⟨((Blk.new w 44 #[.int .i64 b,.int .i64 0,.int .i64 0,.int .i64 0,.slice none 0 0,.int .i64 0,.int .i64 0,.int .i64 0,.int .i64 0,.slice none 0 0,.int .i64 0,.int .i64 0,.int .u64 0,.int .i64 0,.slice none 0 0,.slice none 0 0,.int .i64 0,.int .i64 0,.int .u64 0,.slice none 0 0,.int .i64 0,.int .i64 0,.slice none 0 0,.int .u64 0,.slice none 0 0,.int .u64 0,.int .u64 0]).alloc (.cells zO 44)).alloc (.cells #[.int .i64 (1+(n:Int)%3),.int .i64 1,.int .u64 ((n:Int)/3%3)] 38),?_,?_,(((Fr.refl Non w).alloc _).alloc _).alloc _,?_,Al6 (Own.nil _ _ _ _) (fun y hy=>absurd hy Ax3) (RowAt.nil _ _ _ _)⟩
  ·
   have r0:=(Blk.new (w.alloc (.cells #[.int .i64 b,.int .i64 0,.int .i64 0,.int .i64 0,.slice none 0 0,.int .i64 0,.int .i64 0,.int .i64 0,.int .i64 0,.slice none 0 0,.int .i64 0,.int .i64 0,.int .u64 0,.int .i64 0,.slice none 0 0,.slice none 0 0,.int .i64 0,.int .i64 0,.int .u64 0,.slice none 0 0,.int .i64 0,.int .i64 0,.slice none 0 0,.int .u64 0,.slice none 0 0,.int .u64 0,.int .u64 0] 44)) 44 zO).alloc (.cells #[.int .i64 (1+(n:Int)%3),.int .i64 1,.int .u64 ((n:Int)/3%3)] 38);rw [Ax4] at r0;exact r0
  ·
   have n0:=Blk.new ((w.alloc (.cells #[.int .i64 b,.int .i64 0,.int .i64 0,.int .i64 0,.slice none 0 0,.int .i64 0,.int .i64 0,.int .i64 0,.int .i64 0,.slice none 0 0,.int .i64 0,.int .i64 0,.int .u64 0,.int .i64 0,.slice none 0 0,.slice none 0 0,.int .i64 0,.int .i64 0,.int .u64 0,.slice none 0 0,.int .i64 0,.int .i64 0,.slice none 0 0,.int .u64 0,.slice none 0 0,.int .u64 0,.int .u64 0] 44)).alloc (.cells zO 44)) 38 #[.int .i64 (1+(n:Int)%3),.int .i64 1,.int .u64 ((n:Int)/3%3)];rw [Ax4,Ax4] at n0;exact n0
  ·
   rw [Ax4,Ax4,Ax4];exact Ax5 _
 have kc:=lh (fun k w'=>I7 k w');have hm:n%8=0\/n%8=1\/n%8=2\/n%8=3\/n%8=4\/n%8=5\/n%8=6\/n%8=7:=by omega
 have ad:Hid (∀(y:OpL) (w1 wz:World),y.by_=b->y.op.ok->y.own w1 (w.heap.size+2)->Fr Non w w1->Fr (One (w.heap.size+1)) w1 wz->Nv b w (.returned (.agg y.cells)) wz):=by
  intro y w1 wz h1 h2 h3 h4 h5;refine ⟨y,rfl,h1,h2,?_,h4.trans h5 (fun k hk e=>absurd hk (by have e2:k=w.heap.size+1:=e;omega))⟩
  have aa:∀(t:TypeId) (sz m c:Nat) (A:Option Addr) (xs:List Value),RowAt w1 (w.heap.size+2) t sz A m c xs->RowAt wz w.heap.size t sz A m c xs:=fun t sz m c A xs ho=>(ho.fr h5 (fun h0 k hk e=>by
   have e2:k=w.heap.size+1:=e
   rcases ho.2 with h6|⟨k',_,_,e3,h6,_⟩
   · exact h0 h6
   ·
    rw [e3] at hk;injection hk with hk
    have a2:k'=k:=hk;omega)).lower (by omega)
  exact ⟨aa _ _ _ _ _ _ h3.past,aa _ _ _ _ _ _ h3.path,(fun z hz=>aa _ _ _ _ _ _ (h3.nodes z hz)),aa _ _ _ _ _ _ h3.body,aa _ _ _ _ _ _ h3.refs,aa _ _ _ _ _ _ h3.guards,aa _ _ _ _ _ _ h3.boxes,aa _ _ _ _ _ _ h3.hist,(fun z hz=>aa _ _ _ _ _ _ (h3.seals z hz))⟩
 generalize Nv b w=POST at*;go_enter func91,ntmps91;go_upto_region 2 with (fail)
 generalize ((w.alloc (.cells #[.int .i64 b,.int .i64 0,.int .i64 0,.int .i64 0,.slice none 0 0,.int .i64 0,.int .i64 0,.int .i64 0,.int .i64 0,.slice none 0 0,.int .i64 0,.int .i64 0,.int .u64 0,.int .i64 0,.slice none 0 0,.slice none 0 0,.int .i64 0,.int .i64 0,.int .u64 0,.slice none 0 0,.int .i64 0,.int .i64 0,.slice none 0 0,.int .u64 0,.slice none 0 0,.int .u64 0,.int .u64 0] 44)).alloc (.cells zO 44)).alloc (.cells #[.int .i64 (1+(n:Int)%3),.int .i64 1,.int .u64 ((n:Int)/3%3)] 38)=w0 at*
 rcases hm with hm|hm|hm|hm|hm|hm|hm|hm
 focus
  have n8:(n:Int)%8=0:=by omega
  obtain ⟨q2,z2⟩:=(s0.alloc (.cells zK 3)).q 2 (x:=.int .i64 0) rfl;go_upto_region 3 with (fail)
  refine Av.gen (G:=fun v'=>Code.wp _ _ _ _ v') ((s0.alloc (.cells zK 3)).set (k':=8) (b':=b) (d':=0) (ol':=0) (ro':=0) (ep':=⟨0,0,0⟩) (of':=⟨0,0,0⟩) 2 (.int .i64 8)) ?_;clear q2 z2 s0;intro w1 s1;obtain ⟨ai,ae⟩:=s1.q 16 (x:=.int .i64 0) rfl;obtain ⟨ag,aj⟩:=s1.q 17 (x:=.int .i64 0) rfl;obtain ⟨af,ah⟩:=s1.q 18 (x:=.int .u64 0) rfl;have c2:=(s1.q 2 (x:=.int .i64 8) rfl).1;obtain ⟨e0,e1,e2⟩:=s1.o;go_upto_region 21 with (fail)
  refine Av.gen (G:=fun v'=>Code.wp _ _ _ _ v') (((s1.set (b':=b) (k':=8) (d':=0) (ol':=0) (ro':=0) (ep':=⟨0,0,0⟩) (of':=⟨1+(n:Int)%3,0,0⟩) 16 (.int .i64 (1+(n:Int)%3))).set (b':=b) (k':=8) (d':=0) (ol':=0) (ro':=0) (ep':=⟨0,0,0⟩) (of':=⟨1+(n:Int)%3,1,0⟩) 17 (.int .i64 1)).set (b':=b) (k':=8) (d':=0) (ol':=0) (ro':=0) (ep':=⟨0,0,0⟩) (of':=⟨1+(n:Int)%3,1,n/3%3⟩) 18 (.int .u64 ((n:Int)/3%3))) ?_;clear c2 e0 e1 e2 s1 ai ae ag aj af ah;intro w2 s2;have c2:=(s2.q 2 (x:=.int .i64 8) rfl).1;obtain ⟨e0,e1,e2⟩:=s2.o;go_upto_region 22 with (go_at_call 49;(with_reducible refine (kc.out 8 _).mono ?_);rintro _ v ⟨rfl,rfl⟩)
  refine Av.gen (G:=fun v'=>Code.wp _ _ _ _ v') s2 ?_;clear c2 e0 e1 e2 s2;intro wz sz;have ab:(smL b 8 (0) (0) (0) none [] ⟨0,0,0⟩ ⟨1+(n:Int)%3,1,n/3%3⟩ none []).op.ok:=Fy hb ⟨by decide,by decide⟩ ⟨by omega,by omega⟩ ⟨by omega,by omega⟩ ⟨by omega,by omega⟩ ⟨by simp,(fun x hx=>absurd hx Ax3)⟩ (Dm _ _ _ ⟨by omega,by omega⟩ ⟨by omega,by omega⟩ (by show _<_;omega)) (Dm _ _ _ ⟨by omega,by omega⟩ ⟨by omega,by omega⟩ (by show _<_;omega)) (by simp);have ac:(smL b 8 (0) (0) (0) none [] ⟨0,0,0⟩ ⟨1+(n:Int)%3,1,n/3%3⟩ none []).by_=b:=rfl;generalize smL b 8 (0) (0) (0) none [] ⟨0,0,0⟩ ⟨1+(n:Int)%3,1,n/3%3⟩ none []=y at*
 rotate_left
 focus
  have n8:(n:Int)%8=1:=by omega
  obtain ⟨q2,z2⟩:=(s0.alloc (.cells zK 3)).q 2 (x:=.int .i64 0) rfl;go_upto_region 3 with (fail)
  refine Av.gen (G:=fun v'=>Code.wp _ _ _ _ v') ((s0.alloc (.cells zK 3)).set (k':=2) (b':=b) (d':=0) (ol':=0) (ro':=0) (ep':=⟨0,0,0⟩) (of':=⟨0,0,0⟩) 2 (.int .i64 2)) ?_;clear q2 z2 s0;intro w1 s1;obtain ⟨q5,z5⟩:=s1.q 5 (x:=.int .i64 0) rfl;have c2:=(s1.q 2 (x:=.int .i64 2) rfl).1;obtain ⟨e0,e1,e2⟩:=s1.o;go_upto_region 6 with (fail)
  refine Av.gen (G:=fun v'=>Code.wp _ _ _ _ v') (s1.set (b':=b) (k':=2) (d':=1+(n:Int)/8%5) (ol':=0) (ro':=0) (ep':=⟨0,0,0⟩) (of':=⟨0,0,0⟩) 5 (.int .i64 (1+(n:Int)/8%5))) ?_;clear c2 e0 e1 e2 s1 q5 z5;intro w2 s2;obtain ⟨q8,z8⟩:=s2.q 8 (x:=.int .i64 0) rfl;have c2:=(s2.q 2 (x:=.int .i64 2) rfl).1;obtain ⟨e0,e1,e2⟩:=s2.o;go_upto_region 21 with (fail)
  refine Av.gen (G:=fun v'=>Code.wp _ _ _ _ v') (s2.set (b':=b) (k':=2) (d':=1+(n:Int)/8%5) (ol':=0) (ro':=1+(n:Int)/40%3) (ep':=⟨0,0,0⟩) (of':=⟨0,0,0⟩) 8 (.int .i64 (1+(n:Int)/40%3))) ?_;clear c2 e0 e1 e2 s2 q8 z8;intro w3 s3;have c2:=(s3.q 2 (x:=.int .i64 2) rfl).1;obtain ⟨e0,e1,e2⟩:=s3.o;go_upto_region 22 with (go_at_call 49;(with_reducible refine (kc.out 2 _).mono ?_);rintro _ v ⟨rfl,rfl⟩)
  obtain ⟨q9,z9⟩:=(s3.alloc (.cells #[.int .u64 (1+(n:Int)/8%90),.slice none 0 0] 94)).q 9 (x:=.slice none 0 0) rfl;go_upto_region 24 with (fail)
  refine Av.gen (G:=fun v'=>Code.wp _ _ _ _ v') (s3.path (1+n/8%90) (1+(n:Int)/8%90) (by omega)) ?_;generalize w3.heap.size=gp;clear c2 e0 e1 e2 q9 z9 s3;intro wz sz;have ab:(smL b 2 (1+(n:Int)/8%5) (0) (1+(n:Int)/40%3) (some ⟨gp,0,none⟩) [⟨1+n/8%90,none,0,[]⟩] ⟨0,0,0⟩ ⟨0,0,0⟩ none []).op.ok:=Fy hb ⟨by decide,by decide⟩ ⟨by omega,by omega⟩ ⟨by omega,by omega⟩ ⟨by omega,by omega⟩ ⟨by simp,(fun x hx=>by rw [Ax6] at hx;subst hx;exact Hk _ (by omega))⟩ (Dm _ _ _ ⟨by omega,by omega⟩ ⟨by omega,by omega⟩ (by show _<_;omega)) (Dm _ _ _ ⟨by omega,by omega⟩ ⟨by omega,by omega⟩ (by show _<_;omega)) (by simp);have ac:(smL b 2 (1+(n:Int)/8%5) (0) (1+(n:Int)/40%3) (some ⟨gp,0,none⟩) [⟨1+n/8%90,none,0,[]⟩] ⟨0,0,0⟩ ⟨0,0,0⟩ none []).by_=b:=rfl;generalize smL b 2 (1+(n:Int)/8%5) (0) (1+(n:Int)/40%3) (some ⟨gp,0,none⟩) [⟨1+n/8%90,none,0,[]⟩] ⟨0,0,0⟩ ⟨0,0,0⟩ none []=y at*
 rotate_left
 focus
  have n8:(n:Int)%8=2:=by omega
  obtain ⟨q2,z2⟩:=(s0.alloc (.cells zK 3)).q 2 (x:=.int .i64 0) rfl;go_upto_region 3 with (fail)
  refine Av.gen (G:=fun v'=>Code.wp _ _ _ _ v') ((s0.alloc (.cells zK 3)).set (k':=3) (b':=b) (d':=0) (ol':=0) (ro':=0) (ep':=⟨0,0,0⟩) (of':=⟨0,0,0⟩) 2 (.int .i64 3)) ?_;clear q2 z2 s0;intro w1 s1;obtain ⟨q5,z5⟩:=s1.q 5 (x:=.int .i64 0) rfl;have c2:=(s1.q 2 (x:=.int .i64 3) rfl).1;obtain ⟨e0,e1,e2⟩:=s1.o;go_upto_region 21 with (fail)
  refine Av.gen (G:=fun v'=>Code.wp _ _ _ _ v') (s1.set (b':=b) (k':=3) (d':=1+(n:Int)/8%5) (ol':=0) (ro':=0) (ep':=⟨0,0,0⟩) (of':=⟨0,0,0⟩) 5 (.int .i64 (1+(n:Int)/8%5))) ?_;clear c2 e0 e1 e2 s1 q5 z5;intro w2 s2;have c2:=(s2.q 2 (x:=.int .i64 3) rfl).1;obtain ⟨e0,e1,e2⟩:=s2.o;go_upto_region 22 with (go_at_call 49;(with_reducible refine (kc.out 3 _).mono ?_);rintro _ v ⟨rfl,rfl⟩)
  obtain ⟨q9,z9⟩:=(s2.alloc (.cells #[.int .u64 (1+(n:Int)/8%90),.slice none 0 0] 94)).q 9 (x:=.slice none 0 0) rfl;go_upto_region 24 with (fail)
  refine Av.gen (G:=fun v'=>Code.wp _ _ _ _ v') (s2.path (1+n/8%90) (1+(n:Int)/8%90) (by omega)) ?_;generalize w2.heap.size=gp;clear c2 e0 e1 e2 q9 z9 s2;intro wz sz;have ab:(smL b 3 (1+(n:Int)/8%5) (0) (0) (some ⟨gp,0,none⟩) [⟨1+n/8%90,none,0,[]⟩] ⟨0,0,0⟩ ⟨0,0,0⟩ none []).op.ok:=Fy hb ⟨by decide,by decide⟩ ⟨by omega,by omega⟩ ⟨by omega,by omega⟩ ⟨by omega,by omega⟩ ⟨by simp,(fun x hx=>by rw [Ax6] at hx;subst hx;exact Hk _ (by omega))⟩ (Dm _ _ _ ⟨by omega,by omega⟩ ⟨by omega,by omega⟩ (by show _<_;omega)) (Dm _ _ _ ⟨by omega,by omega⟩ ⟨by omega,by omega⟩ (by show _<_;omega)) (by simp);have ac:(smL b 3 (1+(n:Int)/8%5) (0) (0) (some ⟨gp,0,none⟩) [⟨1+n/8%90,none,0,[]⟩] ⟨0,0,0⟩ ⟨0,0,0⟩ none []).by_=b:=rfl;generalize smL b 3 (1+(n:Int)/8%5) (0) (0) (some ⟨gp,0,none⟩) [⟨1+n/8%90,none,0,[]⟩] ⟨0,0,0⟩ ⟨0,0,0⟩ none []=y at*
 rotate_left
 focus
  have n8:(n:Int)%8=3:=by omega
  obtain ⟨q2,z2⟩:=(s0.alloc (.cells zK 3)).q 2 (x:=.int .i64 0) rfl;go_upto_region 3 with (fail)
  refine Av.gen (G:=fun v'=>Code.wp _ _ _ _ v') ((s0.alloc (.cells zK 3)).set (k':=4) (b':=b) (d':=0) (ol':=0) (ro':=0) (ep':=⟨0,0,0⟩) (of':=⟨0,0,0⟩) 2 (.int .i64 4)) ?_;clear q2 z2 s0;intro w1 s1;have c2:=(s1.q 2 (x:=.int .i64 4) rfl).1;obtain ⟨e0,e1,e2⟩:=s1.o;go_upto_region 21 with (fail)
  refine Av.gen (G:=fun v'=>Code.wp _ _ _ _ v') s1 ?_;clear c2 e0 e1 e2 s1;intro w2 s2;have c2:=(s2.q 2 (x:=.int .i64 4) rfl).1;obtain ⟨e0,e1,e2⟩:=s2.o;go_upto_region 22 with (go_at_call 49;(with_reducible refine (kc.out 4 _).mono ?_);rintro _ v ⟨rfl,rfl⟩)
  obtain ⟨q9,z9⟩:=(s2.alloc (.cells #[.int .u64 (1+(n:Int)/8%90),.slice none 0 0] 94)).q 9 (x:=.slice none 0 0) rfl;go_upto_region 24 with (fail)
  refine Av.gen (G:=fun v'=>Code.wp _ _ _ _ v') (s2.path (1+n/8%90) (1+(n:Int)/8%90) (by omega)) ?_;generalize w2.heap.size=gp;clear c2 e0 e1 e2 q9 z9 s2;intro wz sz;have ab:(smL b 4 (0) (0) (0) (some ⟨gp,0,none⟩) [⟨1+n/8%90,none,0,[]⟩] ⟨0,0,0⟩ ⟨0,0,0⟩ none []).op.ok:=Fy hb ⟨by decide,by decide⟩ ⟨by omega,by omega⟩ ⟨by omega,by omega⟩ ⟨by omega,by omega⟩ ⟨by simp,(fun x hx=>by rw [Ax6] at hx;subst hx;exact Hk _ (by omega))⟩ (Dm _ _ _ ⟨by omega,by omega⟩ ⟨by omega,by omega⟩ (by show _<_;omega)) (Dm _ _ _ ⟨by omega,by omega⟩ ⟨by omega,by omega⟩ (by show _<_;omega)) (by simp);have ac:(smL b 4 (0) (0) (0) (some ⟨gp,0,none⟩) [⟨1+n/8%90,none,0,[]⟩] ⟨0,0,0⟩ ⟨0,0,0⟩ none []).by_=b:=rfl;generalize smL b 4 (0) (0) (0) (some ⟨gp,0,none⟩) [⟨1+n/8%90,none,0,[]⟩] ⟨0,0,0⟩ ⟨0,0,0⟩ none []=y at*
 rotate_left
 focus
  have n8:(n:Int)%8=4:=by omega
  obtain ⟨q2,z2⟩:=(s0.alloc (.cells zK 3)).q 2 (x:=.int .i64 0) rfl;go_upto_region 3 with (fail)
  refine Av.gen (G:=fun v'=>Code.wp _ _ _ _ v') ((s0.alloc (.cells zK 3)).set (k':=2) (b':=b) (d':=0) (ol':=0) (ro':=0) (ep':=⟨0,0,0⟩) (of':=⟨0,0,0⟩) 2 (.int .i64 2)) ?_;clear q2 z2 s0;intro w1 s1;obtain ⟨q5,z5⟩:=s1.q 5 (x:=.int .i64 0) rfl;have c2:=(s1.q 2 (x:=.int .i64 2) rfl).1;obtain ⟨e0,e1,e2⟩:=s1.o;go_upto_region 6 with (fail)
  refine Av.gen (G:=fun v'=>Code.wp _ _ _ _ v') (s1.set (b':=b) (k':=2) (d':=1+(n:Int)/8%5) (ol':=0) (ro':=0) (ep':=⟨0,0,0⟩) (of':=⟨0,0,0⟩) 5 (.int .i64 (1+(n:Int)/8%5))) ?_;clear c2 e0 e1 e2 s1 q5 z5;intro w2 s2;obtain ⟨q8,z8⟩:=s2.q 8 (x:=.int .i64 0) rfl;have c2:=(s2.q 2 (x:=.int .i64 2) rfl).1;obtain ⟨e0,e1,e2⟩:=s2.o;go_upto_region 21 with (fail)
  refine Av.gen (G:=fun v'=>Code.wp _ _ _ _ v') (s2.set (b':=b) (k':=2) (d':=1+(n:Int)/8%5) (ol':=0) (ro':=1+(n:Int)/40%3) (ep':=⟨0,0,0⟩) (of':=⟨0,0,0⟩) 8 (.int .i64 (1+(n:Int)/40%3))) ?_;clear c2 e0 e1 e2 s2 q8 z8;intro w3 s3;have c2:=(s3.q 2 (x:=.int .i64 2) rfl).1;obtain ⟨e0,e1,e2⟩:=s3.o;go_upto_region 22 with (go_at_call 49;(with_reducible refine (kc.out 2 _).mono ?_);rintro _ v ⟨rfl,rfl⟩)
  obtain ⟨q9,z9⟩:=(s3.alloc (.cells #[.int .u64 (1+(n:Int)/8%90),.slice none 0 0] 94)).q 9 (x:=.slice none 0 0) rfl;go_upto_region 24 with (fail)
  refine Av.gen (G:=fun v'=>Code.wp _ _ _ _ v') (s3.path (1+n/8%90) (1+(n:Int)/8%90) (by omega)) ?_;generalize w3.heap.size=gp;clear c2 e0 e1 e2 q9 z9 s3;intro wz sz;have ab:(smL b 2 (1+(n:Int)/8%5) (0) (1+(n:Int)/40%3) (some ⟨gp,0,none⟩) [⟨1+n/8%90,none,0,[]⟩] ⟨0,0,0⟩ ⟨0,0,0⟩ none []).op.ok:=Fy hb ⟨by decide,by decide⟩ ⟨by omega,by omega⟩ ⟨by omega,by omega⟩ ⟨by omega,by omega⟩ ⟨by simp,(fun x hx=>by rw [Ax6] at hx;subst hx;exact Hk _ (by omega))⟩ (Dm _ _ _ ⟨by omega,by omega⟩ ⟨by omega,by omega⟩ (by show _<_;omega)) (Dm _ _ _ ⟨by omega,by omega⟩ ⟨by omega,by omega⟩ (by show _<_;omega)) (by simp);have ac:(smL b 2 (1+(n:Int)/8%5) (0) (1+(n:Int)/40%3) (some ⟨gp,0,none⟩) [⟨1+n/8%90,none,0,[]⟩] ⟨0,0,0⟩ ⟨0,0,0⟩ none []).by_=b:=rfl;generalize smL b 2 (1+(n:Int)/8%5) (0) (1+(n:Int)/40%3) (some ⟨gp,0,none⟩) [⟨1+n/8%90,none,0,[]⟩] ⟨0,0,0⟩ ⟨0,0,0⟩ none []=y at*
 rotate_left
 focus
  have n8:(n:Int)%8=5:=by omega
  obtain ⟨q2,z2⟩:=(s0.alloc (.cells zK 3)).q 2 (x:=.int .i64 0) rfl;go_upto_region 3 with (fail)
  refine Av.gen (G:=fun v'=>Code.wp _ _ _ _ v') ((s0.alloc (.cells zK 3)).set (k':=6) (b':=b) (d':=0) (ol':=0) (ro':=0) (ep':=⟨0,0,0⟩) (of':=⟨0,0,0⟩) 2 (.int .i64 6)) ?_;clear q2 z2 s0;intro w1 s1;obtain ⟨ar,az⟩:=s1.q 10 (x:=.int .i64 0) rfl;obtain ⟨au,aq⟩:=s1.q 11 (x:=.int .i64 0) rfl;obtain ⟨av,ay⟩:=s1.q 12 (x:=.int .u64 0) rfl;have c2:=(s1.q 2 (x:=.int .i64 6) rfl).1;obtain ⟨e0,e1,e2⟩:=s1.o;go_upto_region 11 with (fail)
  refine Av.gen (G:=fun v'=>Code.wp _ _ _ _ v') (((s1.set (b':=b) (k':=6) (d':=0) (ol':=0) (ro':=0) (ep':=⟨1+(n:Int)%3,0,0⟩) (of':=⟨0,0,0⟩) 10 (.int .i64 (1+(n:Int)%3))).set (b':=b) (k':=6) (d':=0) (ol':=0) (ro':=0) (ep':=⟨1+(n:Int)%3,1,0⟩) (of':=⟨0,0,0⟩) 11 (.int .i64 1)).set (b':=b) (k':=6) (d':=0) (ol':=0) (ro':=0) (ep':=⟨1+(n:Int)%3,1,n/3%3⟩) (of':=⟨0,0,0⟩) 12 (.int .u64 ((n:Int)/3%3))) ?_;clear c2 e0 e1 e2 s1 ar az au aq av ay;intro w2 s2;obtain ⟨ap,al⟩:=(s2.alloc (.cells #[.int .u8 ((n:Int)/8%256)] 5)).q 14 (x:=.slice none 0 0) rfl;have c2:=(s2.q 2 (x:=.int .i64 6) rfl).1;obtain ⟨e0,e1,e2⟩:=s2.o;go_upto_region 21 with (fail)
  refine Av.gen (G:=fun v'=>Code.wp _ _ _ _ v') (s2.body (UInt8.ofNat (n/8)) ((n:Int)/8%256) (by rw [UInt8.toNat_ofNat'];omega)) ?_;generalize w2.heap.size=gb;clear c2 e0 e1 e2 s2 ap al;intro w3 s3;have c2:=(s3.q 2 (x:=.int .i64 6) rfl).1;obtain ⟨e0,e1,e2⟩:=s3.o;go_upto_region 22 with (go_at_call 49;(with_reducible refine (kc.out 6 _).mono ?_);rintro _ v ⟨rfl,rfl⟩)
  refine Av.gen (G:=fun v'=>Code.wp _ _ _ _ v') s3 ?_;clear c2 e0 e1 e2 s3;intro wz sz;have ab:(smL b 6 (0) (0) (0) none [] ⟨1+(n:Int)%3,1,n/3%3⟩ ⟨0,0,0⟩ (some ⟨gb,0,none⟩) [UInt8.ofNat (n/8)]).op.ok:=Fy hb ⟨by decide,by decide⟩ ⟨by omega,by omega⟩ ⟨by omega,by omega⟩ ⟨by omega,by omega⟩ ⟨by simp,(fun x hx=>absurd hx Ax3)⟩ (Dm _ _ _ ⟨by omega,by omega⟩ ⟨by omega,by omega⟩ (by show _<_;omega)) (Dm _ _ _ ⟨by omega,by omega⟩ ⟨by omega,by omega⟩ (by show _<_;omega)) (by simp);have ac:(smL b 6 (0) (0) (0) none [] ⟨1+(n:Int)%3,1,n/3%3⟩ ⟨0,0,0⟩ (some ⟨gb,0,none⟩) [UInt8.ofNat (n/8)]).by_=b:=rfl;generalize smL b 6 (0) (0) (0) none [] ⟨1+(n:Int)%3,1,n/3%3⟩ ⟨0,0,0⟩ (some ⟨gb,0,none⟩) [UInt8.ofNat (n/8)]=y at*
 rotate_left
 focus
  have n8:(n:Int)%8=6:=by omega
  obtain ⟨q2,z2⟩:=(s0.alloc (.cells zK 3)).q 2 (x:=.int .i64 0) rfl;go_upto_region 3 with (fail)
  refine Av.gen (G:=fun v'=>Code.wp _ _ _ _ v') ((s0.alloc (.cells zK 3)).set (k':=7) (b':=b) (d':=0) (ol':=0) (ro':=0) (ep':=⟨0,0,0⟩) (of':=⟨0,0,0⟩) 2 (.int .i64 7)) ?_;clear q2 z2 s0;intro w1 s1;obtain ⟨ai,ae⟩:=s1.q 16 (x:=.int .i64 0) rfl;obtain ⟨ag,aj⟩:=s1.q 17 (x:=.int .i64 0) rfl;obtain ⟨af,ah⟩:=s1.q 18 (x:=.int .u64 0) rfl;have c2:=(s1.q 2 (x:=.int .i64 7) rfl).1;obtain ⟨e0,e1,e2⟩:=s1.o;go_upto_region 14 with (fail)
  refine Av.gen (G:=fun v'=>Code.wp _ _ _ _ v') (((s1.set (b':=b) (k':=7) (d':=0) (ol':=0) (ro':=0) (ep':=⟨0,0,0⟩) (of':=⟨1+(n:Int)%3,0,0⟩) 16 (.int .i64 (1+(n:Int)%3))).set (b':=b) (k':=7) (d':=0) (ol':=0) (ro':=0) (ep':=⟨0,0,0⟩) (of':=⟨1+(n:Int)%3,1,0⟩) 17 (.int .i64 1)).set (b':=b) (k':=7) (d':=0) (ol':=0) (ro':=0) (ep':=⟨0,0,0⟩) (of':=⟨1+(n:Int)%3,1,n/3%3⟩) 18 (.int .u64 ((n:Int)/3%3))) ?_;clear c2 e0 e1 e2 s1 ai ae ag aj af ah;intro w2 s2;obtain ⟨ap,al⟩:=(s2.alloc (.cells #[.int .u8 43] 5 (1,2))).q 14 (x:=.slice none 0 0) rfl;have a0:=fun (w:World) (C:Array Value) (n c:Nat)=>Lib.run_convert_bytes_const (P:=zp) w 39 5 C n c underlying39 underlying5;have c2:=(s2.q 2 (x:=.int .i64 7) rfl).1;obtain ⟨e0,e1,e2⟩:=s2.o;go_upto_region 21 with (fail)
  refine Av.gen (G:=fun v'=>Code.wp _ _ _ _ v') (s2.bodyF (43) (43) rfl) ?_;generalize w2.heap.size=gb;clear c2 e0 e1 e2 s2 ap al;intro w3 s3;have c2:=(s3.q 2 (x:=.int .i64 7) rfl).1;obtain ⟨e0,e1,e2⟩:=s3.o;go_upto_region 22 with (go_at_call 49;(with_reducible refine (kc.out 7 _).mono ?_);rintro _ v ⟨rfl,rfl⟩)
  refine Av.gen (G:=fun v'=>Code.wp _ _ _ _ v') s3 ?_;clear c2 e0 e1 e2 s3;intro wz sz;have ab:(smL b 7 (0) (0) (0) none [] ⟨0,0,0⟩ ⟨1+(n:Int)%3,1,n/3%3⟩ (some ⟨gb,0,none⟩) [43]).op.ok:=Fy hb ⟨by decide,by decide⟩ ⟨by omega,by omega⟩ ⟨by omega,by omega⟩ ⟨by omega,by omega⟩ ⟨by simp,(fun x hx=>absurd hx Ax3)⟩ (Dm _ _ _ ⟨by omega,by omega⟩ ⟨by omega,by omega⟩ (by show _<_;omega)) (Dm _ _ _ ⟨by omega,by omega⟩ ⟨by omega,by omega⟩ (by show _<_;omega)) (by simp);have ac:(smL b 7 (0) (0) (0) none [] ⟨0,0,0⟩ ⟨1+(n:Int)%3,1,n/3%3⟩ (some ⟨gb,0,none⟩) [43]).by_=b:=rfl;generalize smL b 7 (0) (0) (0) none [] ⟨0,0,0⟩ ⟨1+(n:Int)%3,1,n/3%3⟩ (some ⟨gb,0,none⟩) [43]=y at*
 rotate_left
 focus
  have n8:(n:Int)%8=7:=by omega
  obtain ⟨q2,z2⟩:=(s0.alloc (.cells zK 3)).q 2 (x:=.int .i64 0) rfl;go_upto_region 3 with (fail)
  refine Av.gen (G:=fun v'=>Code.wp _ _ _ _ v') ((s0.alloc (.cells zK 3)).set (k':=13) (b':=b) (d':=0) (ol':=0) (ro':=0) (ep':=⟨0,0,0⟩) (of':=⟨0,0,0⟩) 2 (.int .i64 13)) ?_;clear q2 z2 s0;intro w1 s1;obtain ⟨ai,ae⟩:=s1.q 16 (x:=.int .i64 0) rfl;obtain ⟨ag,aj⟩:=s1.q 17 (x:=.int .i64 0) rfl;obtain ⟨af,ah⟩:=s1.q 18 (x:=.int .u64 0) rfl;have c2:=(s1.q 2 (x:=.int .i64 13) rfl).1;obtain ⟨e0,e1,e2⟩:=s1.o;go_upto_region 17 with (fail)
  refine Av.gen (G:=fun v'=>Code.wp _ _ _ _ v') (((s1.set (b':=b) (k':=13) (d':=0) (ol':=0) (ro':=0) (ep':=⟨0,0,0⟩) (of':=⟨1+(n:Int)%3,0,0⟩) 16 (.int .i64 (1+(n:Int)%3))).set (b':=b) (k':=13) (d':=0) (ol':=0) (ro':=0) (ep':=⟨0,0,0⟩) (of':=⟨1+(n:Int)%3,1,0⟩) 17 (.int .i64 1)).set (b':=b) (k':=13) (d':=0) (ol':=0) (ro':=0) (ep':=⟨0,0,0⟩) (of':=⟨1+(n:Int)%3,1,n/3%3⟩) 18 (.int .u64 ((n:Int)/3%3))) ?_;clear c2 e0 e1 e2 s1 ai ae ag aj af ah;intro w2 s2;obtain ⟨q5,z5⟩:=s2.q 5 (x:=.int .i64 0) rfl;have c2:=(s2.q 2 (x:=.int .i64 13) rfl).1;obtain ⟨e0,e1,e2⟩:=s2.o;go_upto_region 18 with (fail)
  refine Av.gen (G:=fun v'=>Code.wp _ _ _ _ v') (s2.set (b':=b) (k':=13) (d':=1+(n:Int)/8%5) (ol':=0) (ro':=0) (ep':=⟨0,0,0⟩) (of':=⟨1+(n:Int)%3,1,n/3%3⟩) 5 (.int .i64 (1+(n:Int)/8%5))) ?_;clear c2 e0 e1 e2 s2 q5 z5;intro w3 s3;obtain ⟨q6,z6⟩:=s3.q 6 (x:=.int .i64 0) rfl;have c2:=(s3.q 2 (x:=.int .i64 13) rfl).1;obtain ⟨e0,e1,e2⟩:=s3.o;go_upto_region 21 with (fail)
  refine Av.gen (G:=fun v'=>Code.wp _ _ _ _ v') (s3.set (b':=b) (k':=13) (d':=1+(n:Int)/8%5) (ol':=1+(n:Int)/40%5) (ro':=0) (ep':=⟨0,0,0⟩) (of':=⟨1+(n:Int)%3,1,n/3%3⟩) 6 (.int .i64 (1+(n:Int)/40%5))) ?_;clear c2 e0 e1 e2 s3 q6 z6;intro w4 s4;have c2:=(s4.q 2 (x:=.int .i64 13) rfl).1;obtain ⟨e0,e1,e2⟩:=s4.o;go_upto_region 22 with (go_at_call 49;(with_reducible refine (kc.out 13 _).mono ?_);rintro _ v ⟨rfl,rfl⟩)
  obtain ⟨q9,z9⟩:=(s4.alloc (.cells #[.int .u64 (1+(n:Int)/8%90),.slice none 0 0] 94)).q 9 (x:=.slice none 0 0) rfl;go_upto_region 24 with (fail)
  refine Av.gen (G:=fun v'=>Code.wp _ _ _ _ v') (s4.path (1+n/8%90) (1+(n:Int)/8%90) (by omega)) ?_;generalize w4.heap.size=gp;clear c2 e0 e1 e2 q9 z9 s4;intro wz sz;have ab:(smL b 13 (1+(n:Int)/8%5) (1+(n:Int)/40%5) (0) (some ⟨gp,0,none⟩) [⟨1+n/8%90,none,0,[]⟩] ⟨0,0,0⟩ ⟨1+(n:Int)%3,1,n/3%3⟩ none []).op.ok:=Fy hb ⟨by decide,by decide⟩ ⟨by omega,by omega⟩ ⟨by omega,by omega⟩ ⟨by omega,by omega⟩ ⟨by simp,(fun x hx=>by rw [Ax6] at hx;subst hx;exact Hk _ (by omega))⟩ (Dm _ _ _ ⟨by omega,by omega⟩ ⟨by omega,by omega⟩ (by show _<_;omega)) (Dm _ _ _ ⟨by omega,by omega⟩ ⟨by omega,by omega⟩ (by show _<_;omega)) (by simp);have ac:(smL b 13 (1+(n:Int)/8%5) (1+(n:Int)/40%5) (0) (some ⟨gp,0,none⟩) [⟨1+n/8%90,none,0,[]⟩] ⟨0,0,0⟩ ⟨1+(n:Int)%3,1,n/3%3⟩ none []).by_=b:=rfl;generalize smL b 13 (1+(n:Int)/8%5) (1+(n:Int)/40%5) (0) (some ⟨gp,0,none⟩) [⟨1+n/8%90,none,0,[]⟩] ⟨0,0,0⟩ ⟨1+(n:Int)%3,1,n/3%3⟩ none []=y at*
 all_goals
  have ao:=Dr y;have ak:(zp.info? 44).map (·.size)=some y.cells.size:=hi;have bz:=sz.b;have rz:=sz.r;have hd:=lh (fun wq hq=>ad.out y wz wq ac ab sz.own sz.f hq);clear ad ab ac sz;generalize y.cells=CS at*;have hl:=Bi (P:=zp) w.heap.size 44 underlying44 rfl ak;have a1:=Br (P:=zp) (w.heap.size+1) 44 ak (old:=OpL.zero.cells) (by have h:=hi;rw [ak] at h;injection h with h;rw [h];rfl) ao;go_wp2_with fail;have aw:=rz.setRow (cs:=CS);have ax:=lh (hd.out _ ((Fr.refl (One (w.heap.size+1)) wz).setRow (g:=w.heap.size+1) (fun _=>rfl) CS))
  (try simp only [Exit.inBlock,Exit.then])
  refine Ez (t:=44) rfl rfl aw rfl underlying44 ak rfl ?_;exact ax.out
end Oq
end
namespace Oq
def Ko (d a v:Int):Op:={base d 1 1 a [] [⟨5,[]⟩] with need:=v}
theorem Al9 {d a:Int} (hd:1<=d/\d<=12) (ha:0<=a/\a<=2147483647):Pre d 1 1 a [] [⟨5,[]⟩]:=by
 refine ⟨⟨by omega,by omega⟩,hd,⟨by omega,by omega⟩,ha,⟨by simp,by simp,List.Pairwise.nil,by simp⟩,⟨by simp,?_,.inr rfl⟩⟩;intro x hx;rw [Ax6] at hx;subst hx;exact ⟨⟨by decide,by decide⟩,by simp,by simp⟩
theorem Am0 {d a v:Int} (hd:1<=d/\d<=12) (ha:0<=a/\a<=2147483647) (hv:0<=v/\v<=20):(Ko d a v).chk=0:=
 Wj (Al9 hd ha) (by unfold inR;simp;omega)
theorem Am1 {cards:List Cd} {d a v:Int} {c:Cd} (hd:1<=d/\d<=12) (ha:0<=a/\a<=2147483647) (hv:0<=v/\v<=20) (hc:Ct cards d=some c) (hs:c.s=Sg.pub (sec Bz d.toNat)):An cards [] (sgn (Ko d a v))=0:=by
 refine Af7 (c:=c) (Am0 hd ha hv) rfl (by simp) hc hs (.inr rfl) rfl ?_ ?_ ?_
 ·
  unfold clash;rw [List.any_eq_false];intro q _;simp [C9,Ko,base]
 ·
  show (0:Int)<=a;exact ha.1
 ·
  unfold Bn;show (decide ((1:Int)<=0)||(decide ((1:Int)<1)&&_))=false;rfl
theorem Td {cards:List Cd} {l:List Pn} (h:Rows cards l) (hok:∀n∈l,n.o.ok/\n.id.ok) {id:Id} (hp:(plc l id).isSome=true):id.ok/\1<=id.s/\id.s<=2147483647:=by
 cases hq:plc l id with
 |none=>rw [hq] at hp;cases hp
 |some i=>
  obtain ⟨n,hn,e⟩:=Bk hq;have k:=h.ok i n hn;have h1:=hok n (Ay1 hn);have h2:=S6 k.chk
  have h3:id.s=n.o.sq:=by
   rw [<- e,k.id];rfl
  exact ⟨e▸h1.2,by omega,by omega⟩
theorem Am2 {cards:List Cd} {l:List Pn} (h:Rows cards l) (ids:List Id):0<=late l ids/\late l ids<=2147483647:=by
 have hat:∀n∈l,n.o.at_<=2147483647:=by
  intro n hn;obtain ⟨i,hi⟩:=Ay2 hn;have h1:=(chk_ok.1 (h.ok i n hi).chk).2.2.1;unfold Op.numsB at h1;simp only [Ay3] at h1;have h3:=h1.1.2;unfold inR at h3;simp only [Ay3,decide_eq_true_eq] at h3;exact h3.2
 refine ⟨?_,Ya l _ (by omega) hat ids⟩;unfold late
 have mono:∀(r:List Id) (t:Int),t<=r.foldl (fun t id=>max t (Cf l id)) t:=by
  intro r
  induction r with
  |nil=>intro t;exact Int.le_refl _
  |cons y r ih=>intro t;exact Int.le_trans (Int.le_max_left _ _) (ih _)
 exact mono ids 0
theorem Te {l:List Pn} {above ids:List Id}:∀(k:Nat) (id:Id),id∈Cm l above ids k->id∈ids/\(plc l id).isSome=true/\Bq above id=false
 |0,id,h=>absurd h Ax3
 |k+1,id,h=>by
  have ih:=Te (l:=l) (above:=above) (ids:=ids) k id;unfold Cm at h
  split at h
  ·
   rename_i y hy
   split at h
   ·
    rename_i hc;simp only [Ay3,Bool.not_eq_true'] at hc
    rcases List.mem_append.1 h with h1|h1
    · exact ih h1
    ·
     rw [Ax6] at h1;rw [h1];exact ⟨Ay1 hy,hc.1.1,hc.1.2⟩
   · exact ih h
  · exact ih h
theorem Am3 {l:List Pn} {ids:List Id} {id:Id} (h:id∈Fw l ids):id∈ids/\(plc l id).isSome=true/\Bq (C5 l ids) id=false:=
 Te _ id ((E1 _).subset h)
theorem Am4 (l:List Pn) (ids:List Id):(Fw l ids).length<=ids.length:=by
 unfold Fw;rw [Hg];exact Nk _ _ _ _
theorem Hl {α:Type} [DecidableEq α]:∀{l m:List α},l.Nodup->(∀x∈l,x∈m)->l.length<=m.length
 |[],_,_,_=>Ay0 _
 |a::l,m,h,hs=>by
  have ha:=hs a (Az1);have hn:=List.nodup_cons.1 h
  have ih:=Hl (l:=l) (m:=m.erase a) hn.2 (fun x hx=>by
   have h1:=hs x (Az3 _ hx);have h2:x≠a:=fun e=>hn.1 (e▸hx);exact (List.mem_erase_of_ne h2).2 h1)
  rw [List.length_erase_of_mem ha] at ih;have hp:=List.length_pos_of_mem ha;show l.length+1<=_;omega
theorem Am5 {cards:List Cd} {l:List Pn} (_h:Rows cards l) {cs:List Id} (hc:ClosedOk l cs):cs.length<=l.length:=by
 have hs:∀id∈cs,id∈l.map Pn.id:=by
  intro id hid;have h1:=hc.2 id hid
  cases hq:plc l id with
  |none=>rw [hq] at h1;cases h1
  |some i=>
   obtain ⟨n,hn,e⟩:=Bk hq;rw [<- e];exact Ay7 (Ay1 hn)
 have:=Hl hc.1 hs;rwa [Ay6] at this
theorem Rows.idAt {cards:List Cd} {l:List Pn} (h:Rows cards l) {i:Nat} {n:Pn} (hi:l[i]? =some n):n.id.b=n.o.by_/\n.id.s=n.o.sq:=by
 rw [(h.ok i n hi).id];exact ⟨rfl,rfl⟩
theorem Rows.nodup {cards:List Cd} {l:List Pn} (h:Rows cards l):(l.map Pn.id).Nodup:=by
 rw [List.Nodup,Az4];intro i j hi hj hij e;rw [Az5,Az5] at e;rw [Ay6] at hi hj;have k1:=(h.ok i _ (Ay8 hi)).plc;have k2:=(h.ok j _ (Ay8 hj)).plc;rw [e,k2] at k1;injection k1 with k1
 omega
theorem Am6 {ids:List Id} (h:ids.Nodup) {i k:Nat} {x:Id} (h1:ids[i]? =some x) (h2:ids[k]? =some x):i=k:=by
 obtain ⟨hi,e1⟩:=List.getElem?_eq_some_iff.1 h1;obtain ⟨hk,e2⟩:=List.getElem?_eq_some_iff.1 h2;rw [List.Nodup,Az4] at h
 rcases Nat.lt_trichotomy i k with hlt|rfl|hlt
 · exact absurd (e1.trans e2.symm) (h i k hi hk hlt)
 · rfl
 · exact absurd (e2.trans e1.symm) (h k i hk hi hlt)
theorem Am7 {l:List Pn} {p:Nat->Bool} {id:Id}:id∈Cg l p l.length<->∃i m,p i=true/\l[i]? =some m/\m.id=id:=by
 constructor
 ·
  intro h;obtain ⟨i,m,_,h1,h2,h3⟩:=Nn l p l.length id h;exact ⟨i,m,h1,h2,h3⟩
 ·
  rintro ⟨i,m,h1,h2,h3⟩;unfold Cg;refine List.mem_filterMap.2 ⟨i,List.mem_range.2 (List.getElem?_eq_some_iff.1 h2).1,?_⟩;rw [if_pos h1,h2];exact congrArg some h3
def Gk (l m:List Pn):Prop:=∀n'∈m,∃n∈l,n.o=n'.o
theorem Rows.take {cards:List Cd} {l:List Pn} (h:Rows cards l):∀i,Rows cards (l.take i):=by
 induction h with
 |nil=>intro i;rw [List.take_nil];exact .nil
 |snoc l o hl ho ih=>
  intro i
  rcases Nat.lt_or_ge l.length i with hi|hi
  ·
   rw [Ay9 (by rw [Ay4,List.length_singleton];omega)];exact .snoc l o hl ho
  ·
   rw [List.take_append_of_le_length hi];exact ih i
theorem Am8 (l:List Pn) (i:Nat):Gk l (l.take i):=fun n hn=>⟨n,List.mem_of_mem_take hn,rfl⟩
theorem Kp {cards:List Cd} {l m:List Pn} (hl:Rows cards l) (hm:Rows cards m) (hs:Gk l m) {id:Id} {j:Nat} {n':Pn} (hj:plc m id=some j) (hn:m[j]? =some n'):
  ∃i n,plc l id=some i/\l[i]? =some n/\n.o=n'.o:=by
 obtain ⟨n,h1,h2⟩:=hs n' (Ay1 hn);obtain ⟨i,hi⟩:=Ay2 h1;have e1:=(hl.ok i n hi).id;have e2:=(hm.ok j n' hn).id;have e3:=(hm.node hn).1 hj;refine ⟨i,n,?_,hi,h2⟩;rw [<- e3,e2,<- h2,<- e1];exact (hl.ok i n hi).plc
theorem Tf {cards:List Cd} {l:List Pn} (h:Rows cards l) {a b:Id} {j:Nat} {n:Pn} (hj:plc l b=some j) (hn:l[j]? =some n):bef l a b=true<->∃id∈n.o.past,id=a\/bef l a id=true:=by
 have k:=h.ok j n hn;rw [bef_iff];constructor
 ·
  rintro ⟨i,j',m,h1,h2,h3,h4⟩;rw [hj] at h2;injection h2 with e
  subst e;rw [hn] at h3;injection h3 with e
  subst e;obtain ⟨id,hid,p,m,h5,h6,h7⟩:=(k.ps i).1 h4;refine ⟨id,hid,?_⟩
  rcases h7 with rfl|h7
  ·
   left;obtain ⟨x,hx,e1⟩:=Bk h5;obtain ⟨y,hy,e2⟩:=Bk h1;rw [hx] at hy;injection hy with e
   rw [<- e1,<- e2,e]
  ·
   right;exact bef_iff.2 ⟨i,p,m,h1,h5,h6,h7⟩
 ·
  rintro ⟨id,hid,h1⟩;obtain ⟨p,hp,hq⟩:=k.par id hid;obtain ⟨m,hm,e⟩:=Bk hq
  rcases h1 with rfl|h1
  · exact ⟨p,j,n,hq,hj,hn,(k.ps p).2 ⟨id,hid,p,m,hq,hm,.inl rfl⟩⟩
  ·
   obtain ⟨i,p',m',h2,h3,h4,h5⟩:=bef_iff.1 h1;exact ⟨i,j,n,h2,hj,hn,(k.ps i).2 ⟨id,hid,p',m',h3,h4,.inr h5⟩⟩
theorem Nw {cards:List Cd} {l m:List Pn} (hl:Rows cards l) (hm:Rows cards m) (hs:Gk l m):∀(j:Nat) (b a:Id),plc m b=some j->bef m a b=bef l a b:=by
 intro j
 induction j using Nat.strongRecOn with
 |_ j ih=>
  intro b a hj;obtain ⟨n',hn',_⟩:=Bk hj;obtain ⟨i,n,hi,hn,ho⟩:=Kp hl hm hs hj hn';rw [Bool.eq_iff_iff,Tf hm hj hn',Tf hl hi hn,ho];constructor
  ·
   rintro ⟨id,hid,h⟩;obtain ⟨p,hp,hq⟩:=(hm.ok j n' hn').par id hid;exact ⟨id,hid,h.imp zq (fun e=>by rw [<- ih p hp id a hq];exact e)⟩
  ·
   rintro ⟨id,hid,h⟩;obtain ⟨p,hp,hq⟩:=(hm.ok j n' hn').par id hid;exact ⟨id,hid,h.imp zq (fun e=>by rw [ih p hp id a hq];exact e)⟩
theorem Am9 {cards:List Cd} {l m:List Pn} (hl:Rows cards l) (hm:Rows cards m) (hs:Gk l m):∀(j:Nat) (b:Id),plc m b=some j->Aj m b=Aj l b:=by
 intro j
 induction j using Nat.strongRecOn with
 |_ j ih=>
  intro b hj;obtain ⟨n',hn',_⟩:=Bk hj;obtain ⟨i,n,hi,hn,ho⟩:=Kp hl hm hs hj hn';rw [Ew hj hn',Ew hi hn,(hm.ok j n' hn').lev,(hl.ok i n hn).lev,ho];refine Ms (fun id hid=> ?_);obtain ⟨p,hp,hq⟩:=(hm.ok j n' hn').par id hid;exact ih p hp id hq
theorem Tg {cards:List Cd} {l m:List Pn} (hl:Rows cards l) (hm:Rows cards m) (hs:Gk l m) {j:Nat} {b:Id} (hj:plc m b=some j):Cf m b=Cf l b:=by
 obtain ⟨n',hn',_⟩:=Bk hj;obtain ⟨i,n,hi,hn,ho⟩:=Kp hl hm hs hj hn';rw [Fq hj hn',Fq hi hn,ho]
theorem An0 {l l':List Pn} {ids:List Id} (h:∀id∈ids,Cf l' id=Cf l id):late l' ids=late l ids:=by
 unfold late
 suffices H:∀t:Int,ids.foldl (fun t id=>max t (Cf l' id)) t=ids.foldl (fun t id=>max t (Cf l id)) t from H 0
 induction ids with
 |nil=>intro t;rfl
 |cons x r ih=>intro t;rw [List.foldl_cons,List.foldl_cons,h x Az1];exact ih (fun y hy=>h y (Az3 _ hy)) _
theorem Th {l:List Pn} {ids:List Id} (hlen:l.length<=200):clash l ids=true<->∃x∈ids,∃y∈ids,bef l x y=true:=by
 unfold clash;rw [List.any_eq_true];constructor
 ·
  rintro ⟨q,_,h⟩;rw [Ay3] at h;obtain ⟨x,hx,h1⟩:=List.any_eq_true.1 h.1;obtain ⟨y,hy,h2⟩:=List.any_eq_true.1 h.2;have h1':plc l x=some q:=by simpa using h1
  obtain ⟨p,m,h3,h4,h5⟩:=upB_iff.1 h2;exact ⟨x,hx,y,hy,bef_iff.2 ⟨q,p,m,h1',h3,h4,h5⟩⟩
 ·
  rintro ⟨x,hx,y,hy,h⟩;obtain ⟨i,j,m,h1,h2,h3,h4⟩:=bef_iff.1 h;have:=Dj h1;refine ⟨i,List.mem_range.2 (by omega),?_⟩;rw [Ay3];exact ⟨List.any_eq_true.2 ⟨x,hx,by rw [h1];exact beq_self_eq_true _⟩,List.any_eq_true.2 ⟨y,hy,upB_iff.2 ⟨j,m,h2,h3,h4⟩⟩⟩
theorem Hm {cards:List Cd} {l:List Pn} (h:Rows cards l) {ids:List Id} {q:Nat} {n:Pn} (hq:l[q]? =some n):Aq l ids q=true<->∃id∈ids,(plc l id).isSome=true/\(id=n.id\/bef l n.id id=true):=by
 rw [Mt h.few (fun p m hm=>(h.ok p m hm).lt)];constructor
 ·
  rintro ⟨id,hid,p,m,h1,h2,h3⟩;refine ⟨id,hid,by rw [h1];rfl,?_⟩
  rcases h3 with rfl|h3
  ·
   rw [hq] at h2;injection h2 with e
   subst e;exact .inl ((h.node hq).1 h1).symm
  · exact .inr (bef_iff.2 ⟨q,p,m,(h.ok q n hq).plc,h1,h2,h3⟩)
 ·
  rintro ⟨id,hid,h1,h2⟩;obtain ⟨p,hp⟩:=Option.isSome_iff_exists.1 h1;obtain ⟨m,hm,_⟩:=Bk hp;refine ⟨id,hid,p,m,hp,hm,?_⟩
  rcases h2 with rfl|h2
  ·
   rw [(h.ok q n hq).plc] at hp;injection hp with e
   exact .inl e
  ·
   obtain ⟨i,j,m',h3,h4,h5,h6⟩:=bef_iff.1 h2;rw [(h.ok q n hq).plc] at h3;injection h3 with e
   subst e;rw [hp] at h4;injection h4 with e
   subst e;rw [hm] at h5;injection h5 with e
   subst e;exact .inr h6
theorem An1 {l:List Pn} {p:Nat->Bool} {d s:Int} (h0:0<s) (h:∀k m,l[k]? =some m->m.o.by_=d->p k=true->m.o.sq<s):∀K,Ca l p d K<s:=by
 intro K
 induction K with
 |zero=>exact h0
 |succ K ih=>
  unfold Ca
  split
  ·
   rename_i n hn
   split
   ·
    rename_i hc;rw [Ay3,beq_iff_eq] at hc;have:=h K n hn hc.1 hc.2;omega
   · exact ih
  · exact ih
theorem An2 {cards:List Cd} {l m:List Pn} {o:Op} (hl:Rows cards l) (hm:Rows cards m) (hp:∀id∈o.past,(plc m id).isSome=true/\(plc l id).isSome=true/\∀a,bef m a id=bef l a id) (h0:Bn l (Aq l o.past) o=false):Bn m (Aq m o.past) o=false:=by
 unfold Bn at h0 ⊢;rw [Bool.or_eq_false_iff,decide_eq_false_iff_not] at h0 ⊢;obtain ⟨h1,h2⟩:=h0
 have key:∀(q:Nat) (n:Pn),m[q]? =some n->Aq m o.past q=true->∃q' n',l[q']? =some n'/\Aq l o.past q'=true/\n'.id=n.id:=by
  intro q n hq hps;obtain ⟨id,hid,_,h4⟩:=(Hm hm hq).1 hps;obtain ⟨_,h6,h7⟩:=hp id hid
  rcases h4 with rfl|h4
  ·
   obtain ⟨q',hq'⟩:=Option.isSome_iff_exists.1 h6;obtain ⟨n',hn',e⟩:=Bk hq';exact ⟨q',n',hn',(Hm hl hn').2 ⟨n.id,hid,h6,.inl e.symm⟩,e⟩
  ·
   rw [h7] at h4;obtain ⟨i,j,x,h8,_⟩:=bef_iff.1 h4;obtain ⟨n',hn',e⟩:=Bk h8;exact ⟨i,n',hn',(Hm hl hn').2 ⟨id,hid,h6,.inr (by rw [e];exact h4)⟩,e⟩
 have yek:∀(q:Nat) (n:Pn),l[q]? =some n->Aq l o.past q=true->∃q' n',m[q']? =some n'/\Aq m o.past q'=true/\n'.id=n.id:=by
  intro q n hq hps;obtain ⟨id,hid,_,h4⟩:=(Hm hl hq).1 hps;obtain ⟨h6,_,h7⟩:=hp id hid
  rcases h4 with rfl|h4
  ·
   obtain ⟨q',hq'⟩:=Option.isSome_iff_exists.1 h6;obtain ⟨n',hn',e⟩:=Bk hq';exact ⟨q',n',hn',(Hm hm hn').2 ⟨n.id,hid,h6,.inl e.symm⟩,e⟩
  ·
   rw [<- h7] at h4;obtain ⟨i,j,x,h8,_⟩:=bef_iff.1 h4;obtain ⟨n',hn',e⟩:=Bk h8;exact ⟨i,n',hn',(Hm hm hn').2 ⟨id,hid,h6,.inr (by rw [e];exact h4)⟩,e⟩
 have h0':0<o.sq:=by
  have:0<=Ca l (Aq l o.past) o.by_ l.length:=by
   have h0:∀K,0<=Ca l (Aq l o.past) o.by_ K:=by
    intro K
    induction K with
    |zero=>exact Int.le_refl _
    |succ K ih=>
     unfold Ca
     split
     ·
      split
      · exact Int.le_trans ih (Int.le_max_left _ _)
      · exact ih
     · exact ih
   exact h0 _
  omega
 constructor
 ·
  refine Int.not_le.2 (An1 h0' (fun k n hk hb hps=> ?_) _);obtain ⟨q',n',h3,h4,h5⟩:=key k n hk hps;obtain ⟨e1,e2⟩:=hm.idAt hk;obtain ⟨e3,e4⟩:=hl.idAt h3;have h6:=Mu (p:=Aq l o.past) (d:=o.by_) (List.getElem?_eq_some_iff.1 h3).1 h3 (by rw [<- e3,h5,e1,hb]) h4;rw [<- e2,<- h5,e4];omega
 ·
  rw [Bool.and_eq_false_iff] at h2 ⊢;refine h2.imp zq (fun e=> ?_);rw [Bool.not_eq_false'] at e ⊢;obtain ⟨k,n,_,h3,h4,h5,h6⟩:=aheadTo_iff.1 e;obtain ⟨q',n',h7,h8,h9⟩:=yek k n h3 h5;obtain ⟨e1,e2⟩:=hl.idAt h3;obtain ⟨e3,e4⟩:=hm.idAt h7;exact aheadTo_iff.2 ⟨q',n',(List.getElem?_eq_some_iff.1 h7).1,h7,by rw [<- e3,h9,e1,h4],h8,by rw [<- e4,h9,e2,h6]⟩
theorem Ti {cards:List Cd} {l:List Pn} {o:Op} (h:An cards l o=0):(∃c,Ct cards o.by_=some c/\Sg.check c.s o.bare o.r o.s=true)/\(o.kind=1->l=[]):=by
 unfold An at h
 by_cases h1:o.chk≠0
 · rw [if_pos h1] at h;exact absurd h h1
 rw [if_neg h1] at h
 by_cases h2:(plc l o.name).isSome=true
 · rw [if_pos h2] at h;omega
 rw [if_neg h2] at h
 by_cases h3:200<=l.length
 · rw [if_pos h3] at h;omega
 rw [if_neg h3] at h
 cases hc:Ct cards o.by_ with
 |none=>rw [hc] at h;dsimp only at h;omega
 |some c=>
  rw [hc] at h;dsimp only at h
  by_cases h4:Sg.check c.s o.bare o.r o.s=false
  · rw [if_pos h4] at h;omega
  rw [if_neg h4] at h
  by_cases h5:o.kind=1/\l≠[]
  · rw [if_pos h5] at h;omega
  refine ⟨⟨c,rfl,Bool.not_eq_false _▸h4⟩,fun hk=> ?_⟩;exact Decidable.byContradiction fun hne=>h5 ⟨hk,hne⟩
theorem Kq {o:Op} (h:o.chk=0):o.past=[]<->o.kind=1:=(chk_ok.1 h).2.2.2.2.2.2
theorem Rows.first {cards:List Cd} {l:List Pn} (h:Rows cards l) {i:Nat} {n:Pn} (hi:l[i]? =some n):n.o.kind=1<->i=0:=by
 constructor
 ·
  intro hk;have h1:=(Ti (h.step hi).1).2 hk;have h2:=(List.getElem?_eq_some_iff.1 hi).1;have h3:=congrArg List.length h1;rw [List.length_take,List.length_nil] at h3;omega
 ·
  rintro rfl;refine (Kq (h.ok 0 n hi).chk).1 ?_
  cases hp:n.o.past with
  |nil=>rfl
  |cons x r=>
   obtain ⟨p,hp,_⟩:=(h.ok 0 n hi).par x (by rw [hp];exact Az1);omega
theorem An3 {cards:List Cd} {l m:List Pn} (hl:Rows cards l) (hm:Rows cards m) (hs:Gk l m) {i:Nat} {n:Pn} (hi:l[i]? =some n) (hnew:plc m n.id=none) (hroom:m.length<200):
  An cards m n.o=if n.o.past.any (fun id=>(plc m id).isNone)=true then 10 else 0:=by
 have k:=hl.ok i n hi;have hstep:=(hl.step hi).1;obtain ⟨⟨c,hc,hsg⟩,hkd⟩:=Ti hstep;have hT:=G9 hstep;have h1:¬n.o.chk≠0:=fun h=>h k.chk;have h2:¬(plc m n.o.name).isSome=true:=by rw [<- k.id,hnew];exact Bool.false_ne_true
 have h5:¬(n.o.kind=1/\m≠[]):=by
  rintro ⟨hk,hne⟩;have e0:=(hl.first hi).1 hk
  cases hm0:m[0]? with
  |none=>
   rw [List.getElem?_eq_none_iff] at hm0;exact hne (List.length_eq_zero_iff.1 (by omega))
  |some n'=>
   have hk':=(hm.first hm0).2 rfl;obtain ⟨j,n2,h6,h7,h8⟩:=Kp hl hm hs (hm.ok 0 n' hm0).plc hm0;rw [<- h8] at hk';have e1:=(hl.first h7).1 hk';rw [e1,<- e0,hi] at h7;injection h7 with h7
   have h9:=(hm.ok 0 n' hm0).plc;have e3:n'.id=n.id:=by rw [(hm.ok 0 n' hm0).id,k.id,h7,h8]
   rw [e3,hnew] at h9
   cases h9
 unfold An;rw [if_neg h1,if_neg h2,if_neg (by omega),hc];dsimp only;rw [if_neg (by rw [hsg];decide),if_neg h5]
 by_cases hp:n.o.past.any (fun id=>(plc m id).isNone)=true
 · rw [if_pos hp,if_pos hp]
 rw [if_neg hp,if_neg hp]
 have hpar:∀id∈n.o.past,∃j,plc m id=some j:=by
  intro id hid
  cases hq:plc m id with
  |some j=>exact ⟨j,rfl⟩
  |none=>exact absurd (List.any_eq_true.2 ⟨id,hid,by rw [hq];rfl⟩) hp
 have hl0:=hl.take i;have hs0:=Am8 l i
 have hbm:∀id∈n.o.past,∀a,bef m a id=bef (l.take i) a id:=by
  intro id hid a;obtain ⟨j,hj⟩:=hpar id hid;obtain ⟨p,hp⟩:=hT.past id hid;rw [Nw hl hm hs j id a hj,Nw hl hl0 hs0 p id a hp]
 have h7:¬(clash m n.o.past=true\/n.o.at_<late m n.o.past):=by
  rintro (h|h)
  ·
   obtain ⟨x,hx,y,hy,hb⟩:=(Th hm.few).1 h;rw [hbm y hy] at hb;have:=(Th hl0.few).2 ⟨x,hx,y,hy,hb⟩;rw [hT.clash] at this
   cases this
  ·
   have e:late m n.o.past=late (l.take i) n.o.past:=An0 (fun id hid=>by
    obtain ⟨j,hj⟩:=hpar id hid;obtain ⟨p,hp⟩:=hT.past id hid;rw [Tg hl hm hs hj,Tg hl hl0 hs0 hp])
   rw [e] at h;exact absurd hT.late (Int.not_le.2 h)
 have h8:Bn m (Aq m n.o.past) n.o=false:=An2 hl0 hm (fun id hid=>by
  obtain ⟨j,hj⟩:=hpar id hid;obtain ⟨p,hp⟩:=hT.past id hid;exact ⟨by rw [hj];rfl,by rw [hp];rfl,hbm id hid⟩) hT.seq
 rw [if_neg h7,h8];rfl
def ready (m:List Pn) (o:Op):Bool:=!o.past.any (fun id=>(plc m id).isNone)
structure Cn (cards:List Cd) (l m:List Pn) (left:List Op):Prop where
 rl:Rows cards l
 rm:Rows cards m
 perm:(m.map Pn.o++left).Perm (l.map Pn.o)
theorem Cn.among {cards:List Cd} {l m:List Pn} {left:List Op} (h:Cn cards l m left):Gk l m:=by
 intro n' hn;have h1:n'.o∈l.map Pn.o:=h.perm.mem_iff.1 (List.mem_append_left _ (Ay7 hn));obtain ⟨n,h2,h3⟩:=List.mem_map.1 h1;exact ⟨n,h2,h3⟩
theorem Rows.names {cards:List Cd} {l:List Pn} (h:Rows cards l):(l.map Pn.o).map Op.name=l.map Pn.id:=by
 rw [List.map_map];refine List.map_congr_left (fun n hn=> ?_);obtain ⟨i,hi⟩:=Ay2 hn;exact (h.ok i n hi).id.symm
theorem Cn.nodup {cards:List Cd} {l m:List Pn} {left:List Op} (h:Cn cards l m left):(m.map Pn.id++left.map Op.name).Nodup:=by
 have h1:=h.perm.map Op.name;rw [Ax9,h.rm.names,h.rl.names] at h1;exact h1.nodup_iff.2 h.rl.nodup
theorem Cn.of {cards:List Cd} {l m:List Pn} {left:List Op} (h:Cn cards l m left) {o:Op} (ho:o∈left):∃(i:Nat) (n:Pn),l[i]? =some n/\n.o=o/\plc m n.id=none:=by
 have h1:o∈l.map Pn.o:=h.perm.mem_iff.1 (List.mem_append_right _ ho);obtain ⟨n,h2,h3⟩:=List.mem_map.1 h1;obtain ⟨i,hi⟩:=Ay2 h2;refine ⟨i,n,hi,h3,?_⟩
 cases hp:plc m n.id with
 |none=>rfl
 |some j=>
  obtain ⟨n',hn',e⟩:=Bk hp;have h4:=(List.nodup_append.1 h.nodup).2.2 n'.id (Ay7 (Ay1 hn')) o.name (Ay7 ho);rw [e,(h.rl.ok i n hi).id,h3] at h4;exact absurd rfl h4
theorem Cn.err {cards:List Cd} {l m:List Pn} {left:List Op} (h:Cn cards l m left) (hlen:l.length<200) {o:Op} (ho:o∈left):An cards m o=if ready m o=true then 0 else 10:=by
 obtain ⟨i,n,h1,rfl,h3⟩:=h.of ho
 have hle:m.length<=l.length:=by
  have:=h.perm.length_eq;rw [Ay4,Ay6,Ay6] at this;omega
 rw [An3 h.rl h.rm h.among h1 h3 (by omega)];unfold ready
 cases n.o.past.any (fun id=>(plc m id).isNone)<;>rfl
theorem Cn.take {cards:List Cd} {l m:List Pn} {left:List Op} (h:Cn cards l m left) (hlen:l.length<200) {k:Nat} {o:Op} (hk:left[k]? =some o) (hr:ready m o=true):Cn cards l (m++[Be m o]) (left.eraseIdx k):=by
 have he:=h.err hlen (Ay1 hk);rw [if_pos hr] at he;refine ⟨h.rl,.snoc m o h.rm he,?_⟩;refine List.Perm.trans ?_ h.perm;rw [Ax9,List.append_assoc];refine List.Perm.append_left _ ?_;obtain ⟨hlt,rfl⟩:=List.getElem?_eq_some_iff.1 hk;rw [List.eraseIdx_eq_take_drop_succ];conv=>rhs;rw [<- List.take_append_drop k left,List.drop_eq_getElem_cons hlt]
 exact (List.perm_middle (a:=left[k]) (l₁:=left.take k) (l₂:=left.drop (k+1))).symm
def Tried (m:List Pn) (left:List Op) (i:Nat):Prop:=
 ∃j,i<=60+14*(14-left.length)+j/\(0<j->60+j<=i/\j<left.length/\∀t,t<j->∀o,left[(i-1-t)%left.length]? =some o->ready m o=false)
theorem Tried.few {m:List Pn} {left:List Op} {i:Nat} (h:Tried m left i) (hlen:left.length<=14) (hne:left≠[]):i<400:=by
 obtain ⟨j,h1,h2⟩:=h;have h3:0<left.length:=List.length_pos_iff.2 hne
 rcases Az6 j with h0|h0
 · omega
 ·
  have:=(h2 h0).2.1;omega
theorem Tried.hit {m m':List Pn} {left:List Op} {i k:Nat} (h:Tried m left i) (hlen:left.length<=14) (hk:k<left.length):Tried m' (left.eraseIdx k) (i+1):=by
 obtain ⟨j,h1,h2⟩:=h;have h3:(left.eraseIdx k).length=left.length-1:=List.length_eraseIdx_of_lt hk;refine ⟨0,?_,fun e=>absurd e (Nat.lt_irrefl 0)⟩;rw [h3]
 rcases Az6 j with h0|h0
 · omega
 ·
  have:=(h2 h0).2.1;omega
theorem Cn.ends {cards:List Cd} {l m:List Pn} (h:Cn cards l m []):(m.map Pn.id).Perm (l.map Pn.id):=by
 have h1:=h.perm.map Op.name;rw [List.append_nil,h.rm.names,h.rl.names] at h1;exact h1
theorem Cn.lev {cards:List Cd} {l m:List Pn} (h:Cn cards l m []) {x:Id} (hx:x∈l.map Pn.id):Aj m x=Aj l x:=by
 obtain ⟨n,h1,rfl⟩:=List.mem_map.1 (h.ends.mem_iff.2 hx);obtain ⟨j,hj⟩:=Ay2 h1;exact Am9 h.rl h.rm h.among j _ (h.rm.ok j n hj).plc
theorem Tj {cards:List Cd} {l:List Pn} (h:Rows cards l) {x id:Id}:id∈Cg l (Bd l [x]) l.length<->bef l id x=true:=by
 rw [Am7,bef_iff];unfold Bd;constructor
 ·
  rintro ⟨i,n,h1,h2,rfl⟩;rw [List.any_cons,List.any_nil,Bool.or_false] at h1;obtain ⟨p,m,h3,h4,h5⟩:=upB_iff.1 h1;exact ⟨i,p,m,(h.ok i n h2).plc,h3,h4,h5⟩
 ·
  rintro ⟨i,j,m,h1,h2,h3,h4⟩;obtain ⟨n,hn,e⟩:=Bk h1;refine ⟨i,n,?_,hn,e⟩;rw [List.any_cons,List.any_nil,Bool.or_false];exact upB_iff.2 ⟨j,m,h2,h3,h4⟩
theorem Cn.past {cards:List Cd} {l m:List Pn} (h:Cn cards l m []) {x:Id} (hx:x∈l.map Pn.id):(Cg m (Bd m [x]) m.length).Perm (Cg l (Bd l [x]) l.length):=by
 obtain ⟨n,h1,rfl⟩:=List.mem_map.1 (h.ends.mem_iff.2 hx);obtain ⟨j,hj⟩:=Ay2 h1;refine (List.perm_ext_iff_of_nodup (Np h.rm _ _) (Np h.rl _ _)).2 fun id=> ?_;rw [Tj h.rm,Tj h.rl,Nw h.rl h.rm h.among j _ _ (h.rm.ok j n hj).plc]
end Oq
end Go.Proofs.YtihfebhfgliojaaGreatDoor
