/-
  Contracts of the functions that the claim's statement reaches, walked one by one (part 14).
  Conditions: as each theorem says.
-/
import Derived.Great.BuildSlice
import Derived.Lib.SlBytesConst
import Derived.Test.YtihfebhfgliojaaGreatDoorGrW13
set_option maxRecDepth 100000
set_option maxHeartbeats 16000000
open Array renaming length_toList->Ao7
open Bool renaming and_eq_true->Ao2,not_false->Ao3,not_true->Ao4,eq_false_or_eq_true->Ap1
open List renaming not_mem_nil->An3,mem_singleton->An6,nil_append->Ao0,map_append->Ao1,length_append->Ao5,length_map->Ao6,mem_of_getElem?->Ao8,getElem?_toArray->Ao9,take_of_length_le->Ap0
open Nat renaming le_refl->An5,le_trans->An7,zero_add->An8,zero_le->An9
open Go.World renaming size_alloc->An4
open Go.Proofs.Tryz
open Go.Proofs.Tryz renaming prog->zp
open Go.Lib renaming hid->lh
open List renaming set->zl
open Go.Ending renaming returned->ze
namespace Go.Proofs.YtihfebhfgliojaaGreatDoor
open Go.RowKit
attribute [local go_sem ↓] Go.wp_at_zero Go.wp_at_succ
namespace Oq
attribute [local go_sem] Ao3 Ao4
theorem Lj (p v:Value):Instr.storeAt 32 p v=stS 32 p v:=rfl
def bsO (t:TypeId) (len:Nat) (parts:Array (Nat × Value)):=Instr.buildSlice t len parts
theorem Rh (n:Nat) (p:Array (Nat × Value)):Instr.buildSlice 27 n p=bsO 27 n p:=rfl
theorem Ae7 (x:OpL) (w:World):(bsO 27 1 #[(0,.agg x.cells)]).run zp w=.ok (.slice (some ⟨w.heap.size,0,none⟩) 1 1) (w.alloc (.cells x.cells 44)):=by
 obtain ⟨ht,hinfo,_⟩:=Gc;obtain ⟨i,hi,hz,hs,_⟩:=info_parts hinfo;exact run_buildSlice w 27 44 1 _ _ i _ ht hi hz (by rw [hs];decide) (by rw [hs];decide) (by rw [hs];kernel_rfl)
attribute [local go_sem ↓] Et Cg Lj Rh
theorem Ri {P:Program} {Q:Exit->Act->World->Prop} {l:List Oper} {md:Region.Mode} {S:World->Prop} {g fuel:Nat} {listed:Array Bool} {a:Act} {w:World} (i j:Nat) {d:Option Tmp} {op:Go.Op} {ty:TypeId} {pos:String} {after:Array Edge} {d':Option Tmp} {op':Go.Op} {ty':TypeId} {pos':String} {after':Array Edge}
  (hr:Region.ready md l.toArray listed=[i,j]) (ho:l[i]? =some ⟨d,op,ty,pos,after,none⟩) (ho':l[j]? =some ⟨d',op',ty',pos',after',none⟩)
  (h:∀K':Act->World->Prop,Shut (∀a w,S w->(S w->Cx P md l.toArray Q S g fuel (listed.setIfInBounds i true) a w)->K' a w)->Oper.wp P ⟨d,op,ty,pos,after,none⟩ a w K' Q)
  (h':∀K':Act->World->Prop,Shut (∀a w,S w->(S w->Cx P md l.toArray Q S g fuel (listed.setIfInBounds j true) a w)->K' a w)->Oper.wp P ⟨d',op',ty',pos',after',none⟩ a w K' Q):
  Cx P md l.toArray Q S g (fuel+1) listed a w:=by
 refine ⟨fun h0=>(by rw [hr] at h0;cases h0),fun k hk=> ?_⟩;rw [hr] at hk
 rcases List.mem_cons.1 hk with rfl|hk
 ·
  refine wpOp_step (o:=⟨d,op,ty,pos,after,none⟩) (by rw [Ao9];exact ho) (fun K' hK=> ?_);rw [if_pos (show Region.wanted _ _=true from rfl)];exact h K' (fun a w hS hW=>hK a w ⟨fun _=>hS,hW hS⟩)
 ·
  obtain rfl:=List.mem_singleton.1 hk;refine wpOp_step (o:=⟨d',op',ty',pos',after',none⟩) (by rw [Ao9];exact ho') (fun K' hK=> ?_);rw [if_pos (show Region.wanted _ _=true from rfl)];exact h' K' (fun a w hS hW=>hK a w ⟨fun _=>hS,hW hS⟩)
def E2 (base:Nat) (r:RG) (o:Op) (w:World) (e:Ending) (w':World):Prop:=
 ∃r':RG,e=.returned (.tuple #[.agg r'.cells,.int .i64 (Ah r.cards r.l o)])/\Fr Non w w'/\r'.own w' base/\r'.cards=r.cards/\r'.l=(if Ah r.cards r.l o=0 then r.l++[Au r.l o] else r.l)
theorem Ed (r:RG):r.cells.all (·.oneCell')=true:=by unfold RG.cells;simp [Value.oneCell']
theorem Rj (x:OpL):∀u∈x.cells.toList,u.oneCell'=true:=by
 intro u hu;have h:=Cn x;rw [Array.all_eq_true'] at h;exact h u (Array.mem_toList_iff.1 hu)
theorem Ae8 (l:List OpL):∀u∈l.flatMap (fun x=>x.cells.toList),u.oneCell'=true:=by
 intro u hu;obtain ⟨x,_,hx⟩:=List.mem_flatMap.1 hu;exact Rj x u hx
theorem Rk {α:Type} (f:α->Value) (hf:∀x,(f x).oneCell'=true) (l:List α):∀u∈l.map f,u.oneCell'=true:=by
 intro u hu;obtain ⟨x,_,rfl⟩:=List.mem_map.1 hu;exact hf x
theorem Ae9 (base:Nat) (r:RG) (x:OpL) (w:World) (h:r.own w base) (hx:x.lies w base) (hb:base<=w.heap.size) (hok:x.op.ok):
  Calls zp 43 #[.agg r.cells,.agg x.cells] w (E2 base r x.op w):=by
 have cn:=hx.at;have dd:=h.few;have hG:(zp.info? 32).map (·.size)=some r.cells.size:=Cz;have cq:(zp.info? 44).map (·.size)=some x.cells.size:=by rw [show x.cells.size=27 from rfl];kernel_rfl
 have hl:=Bb (P:=zp) w.heap.size 32 underlying32 rfl (cs:=r.cells) Cz;have e1:=Bb (P:=zp) (w.heap.size+1) 44 underlying44 rfl cq;have bg:=((Blk.new w 32 r.cells).alloc (.cells x.cells 44)).alloc (.cells zG 32);have bx:=(Blk.new (w.alloc (.cells r.cells 32)) 44 x.cells).alloc (.cells zG 32);have br:=Blk.new ((w.alloc (.cells r.cells 32)).alloc (.cells x.cells 44)) 32 zG;rw [An4] at bx;rw [An4,An4] at br;have f0:Fr Non w (((w.alloc (.cells r.cells 32)).alloc (.cells x.cells 44)).alloc (.cells zG 32)):=(((Fr.refl Non w).alloc _).alloc _).alloc _
 have da:w.heap.size+3<=(((w.alloc (.cells r.cells 32)).alloc (.cells x.cells 44)).alloc (.cells zG 32)).heap.size:=by
  rw [An4,An4,An4];exact An5 _
 have kw:=lh (fun (w':World) (hf:Fr Non w w')=>Re base r x w' (h.non hf) (OpL.frame cn hf) hok)
 have c7:Hid (Ah r.cards r.l x.op≠0->∀w',Fr Non w w'->E2 base r x.op w (.returned (.tuple #[.agg r.cells,.int .i64 (Ah r.cards r.l x.op)])) w'):=by
  intro he w' hf;exact ⟨r,rfl,hf,h.non hf,rfl,by rw [if_neg he]⟩
 have b0:=Ed r;have cm:=Ae7 x;have bc:x.cells.size=1*27:=rfl;go_enter func43,ntmps43;go_upto_region 1 with (fail)
 generalize ((w.alloc (.cells r.cells 32)).alloc (.cells x.cells 44)).alloc (.cells zG 32)=w0 at*;unfold Gb at kw;go_upto_region 2 with (go_at_call 16;(with_reducible refine (kw.out _ f0).mono ?_);rintro _ w1 ⟨A1,n1,c1,rfl,df,f1⟩)
 replace bg:=bg.fr f1 zq;replace bx:=bx.fr f1 zq;replace br:=br.fr f1 zq;have co:=f0.trans f1 zr;have cv:=An7 da f1.size;clear kw
 by_cases he:Ah r.cards r.l x.op=0
 case neg=>
  have hd:=lh (c7.out he);obtain ⟨E,hE⟩:=Aa (Ah r.cards r.l x.op);rw [hE.out] at hd he ⊢;have t:(E !=0)=true:=by simp [he]
  have ea:=Ch (P:=zp) (w.heap.size+2) 32 hG (old:=zG) rfl b0;generalize E2 base r x.op w=POST at*;clear df h hx cn c7 hok
  as_aux_lemma=>
  go_wp2_with fail;have c8:=br.setRow (cs:=r.cells);have fz:=co.setRow (g:=w.heap.size+2) (fun hh=>absurd hh (by omega)) r.cells;have cw:=lh (hd.out _ fz)
  (try simp only [Exit.inBlock,Exit.then])
  refine Fo (t:=32) rfl rfl c8 rfl underlying32 hG rfl ?_;exact cw.out
 case pos=>
 obtain ⟨rfl,a0⟩:=df he;replace a0:=a0.lower da;rw [he];have al:=(Ib he).past;have kp:=lh (fun (w':World) (hf:Fr Non w w') (ho:Own w' (w.heap.size+3) 3 1 A1 x.op.past.length c1 ((Am r.l x.op.past).map Qv))=>(Q8 base r w'.heap.size x.op.past.length c1 A1 (Am r.l x.op.past) w' (h.non hf) (by show _=_;rw [Gx]) ho.rd (by have:=hok.past.1;omega)));rw [Qp h.rows al] at kp;have cj:=lh (fun (w':World) (hf:Fr Non w w')=>Rb x x.op.name rfl w' (OpL.frame cn hf) hok)
 have ad:Hid (∀(lA iA uA nA:Option Addr) (lC iC uC nC:Nat) (ns:List InL) (wz:World),Fr Non w wz->
   Own wz (w.heap.size+3) 44 27 lA (r.l.length+1) lC (r.xs.flatMap (fun x=>x.cells.toList)++x.cells.toList)->
   Own wz (w.heap.size+3) 38 3 iA (r.l.length+1) iC (r.ids.flatMap Id.cells++x.op.name.cells)->
   Own wz (w.heap.size+3) 22 1 uA (r.l.length+1) uC (r.us.map UpL.cell++[.slice A1 x.op.past.length c1])->
   Own wz (w.heap.size+3) 3 1 A1 x.op.past.length c1 ((Am r.l x.op.past).map Qv)->
   Own wz (w.heap.size+3) 108 1 nA (r.l.length+1) nC (ns.map InL.cell)->(∀y∈ns,y.own wz base)->ns.map InL.bs=(Dd r.l).map (· ++[false])++[Bn r.l.length (Aj r.l x.op.past)++[false]]->
   E2 base r x.op w (.returned (.tuple #[.agg #[.slice r.cA r.cards.length r.cC,.slice lA (r.l.length+1) lC,.slice iA (r.l.length+1) iC,.slice uA (r.l.length+1) uC,.slice nA (r.l.length+1) nC],.int .i64 0])) wz):=by
  intro lA iA uA nA lC iC uC nC ns wz hf oL oI oU oa oN on hn;have dn:(Am r.l x.op.past).length=x.op.past.length:=Gx _ _
  have aj:(UpL.mk A1 c1 (Am r.l x.op.past)).cell=.slice A1 x.op.past.length c1:=by
   show Value.slice A1 (Am r.l x.op.past).length c1=_;rw [dn]
  have c6:(r.l++[Au r.l x.op]).length=r.l.length+1:=by rw [Ao5];rfl
  have hm:=Ae6 (u:=⟨A1,c1,Am r.l x.op.past⟩) h hx hok hf (by omega) he oL oI (by rw [aj];exact oU) (by
   show RowAt wz base 3 1 A1 (Am r.l x.op.past).length c1 ((Am r.l x.op.past).map Qv);rw [dn];exact (RowAt.of_own oa).lower (by omega)) rfl oN on hn
  refine ⟨_,?_,hf,hm,rfl,by rw [if_pos he];rfl⟩;rw [he];show ze (.tuple #[.agg #[.slice r.cA r.cards.length r.cC,.slice lA (r.l.length+1) lC,.slice iA (r.l.length+1) iC,.slice uA (r.l.length+1) uC,.slice nA (r.l.length+1) nC],.int .i64 0])=ze (.tuple #[.agg #[.slice r.cA r.cards.length r.cC,.slice lA (r.l++[Au r.l x.op]).length lC,.slice iA (r.l++[Au r.l x.op]).length iC,.slice uA (r.l++[Au r.l x.op]).length uC,.slice nA (r.l++[Au r.l x.op]).length nC],.int .i64 0]);rw [c6]
 have b3:=lh h.ops.sl.rd;have a8:=lh h.rdIds;have a5:=lh h.ups.sl.rd;have ba:Hid (∀(i:Nat) (n:Pn),r.l[i]? =some n->∃(x:InL) (b de:Nat),x.bs=Bn r.l.length n.ps/\x.own w base/\r.nA=some ⟨b,de,none⟩/\b<w.heap.size/\w.cell? ⟨b,de+i,none⟩=some x.cell):=fun i n hi=>h.nAt hi;have g0:Hid (r.cells[0]? =some (.slice r.cA r.cards.length r.cC)):=rfl;have g1:Hid (r.cells[1]? =some (.slice r.lA r.l.length r.lC)):=rfl;have g2:Hid (r.cells[2]? =some (.slice r.iA r.l.length r.iC)):=rfl;have g3:Hid (r.cells[3]? =some (.slice r.uA r.l.length r.uC)):=rfl;have g4:Hid (r.cells[4]? =some (.slice r.nA r.l.length r.nC)):=rfl;have bj:=lh (Ae8 r.xs);have dx:=lh (Rj x);have b7:=lh (Id.cells_one r.ids);have bo:=lh (Rk UpL.cell (fun _=>rfl) r.us);have b9:=lh (fun (y:InL)=>Rk Value.bool (fun _=>rfl) y.bs);have ew:Hid (x.cells.toList.length=1*27):=rfl;have bd:Hid ((Dd r.l).length=r.l.length):=Ww r.l;have a7:Hid (∀(i:Nat) (n:Pn),r.l[i]? =some n->(Dd r.l)[i]? =some (Bn r.l.length n.ps)):=fun i n hi=>O8 hi;clear c7 h hx cn al he hG df f1 f0;obtain ⟨NM,dt⟩:∃nm,x.op.name=nm:=⟨_,rfl⟩;rw [dt] at cj ad;clear dt;have e3:x.op.past.length<=1000:=hok.past.1;clear hok;generalize Am r.l x.op.past=UP at*;generalize Aj r.l x.op.past=PS at*;generalize x.op.past.length=M at*;generalize E2 base r x.op w=POST at*;generalize hXL:x.cells.toList=XL at*;generalize r.xs.flatMap (fun x=>x.cells.toList)=LL at*;generalize x.cells=XS at*;generalize r.ids.flatMap Id.cells=IL at*;generalize r.us.map UpL.cell=UL at*;generalize Dd r.l=IR at*;generalize r.cells=CS at*;generalize r.cards.length=nc at*;generalize r.cA=CA at*;generalize r.cC=CC at*;generalize r.lA=LA at*;generalize r.lC=LC at*;generalize r.iA=IA at*;generalize r.iC=IC at*;generalize r.uA=UA at*;generalize r.uC=UC at*;generalize r.nA=NA at*;generalize r.nC=NC at*;generalize r.l=l at*;obtain ⟨N,hN⟩:=Aa l.length;rw [hN.out] at kp ad b3 a8 a5 ba g1 g2 g3 g4 dd bd a7;unfold I3 at kp;go_upto_region 5 with (go_at_call 61;(with_reducible refine (kp.out _ co a0).mono ?_);rintro _ w2 ⟨A2,c2,rfl,ai,f2⟩)
 have bl:=a0.fr f2 zr;replace ai:=ai.lower cv;have dm:=co.trans f2 zr;have dp:=An7 cv f2.size;replace bg:=bg.fr f2 zq;replace bx:=bx.fr f2 zq;replace br:=br.fr f2 zq;have K:KA w (w2.alloc (.cells zG 32)) w2.heap.size CS XS zG zG:=⟨bg.alloc _,bx.alloc _,br.alloc _,Blk.new w2 32 zG,dp,dm.alloc _⟩;replace bl:=bl.alloc (.cells zG 32);replace ai:=ai.alloc (.cells zG 32);clear bg bx br co dm a0 kp f2;go_upto_region 6 with (fail)
 obtain ⟨nb,be⟩:=Aa w2.heap.size;rw [be.out] at K ⊢;generalize w2.alloc (.cells zG 32)=w3 at*;clear be da cv dp w2 w1 w0;have d0:=(K.bg.cell 0).trans g0.out;have n0:cS w3 nb 0 none 0 0:=K.bn.cell 0;have z0:=K.bn.frozen 0;go_upto_region 7 with (fail)
 have K4:=K.set 0 (.slice CA nc CC);replace bl:=Own.setFar (i:=0) bl K.bn (by decide) (.slice CA nc CC);replace ai:=Own.setFar (i:=0) ai K.bn (by decide) (.slice CA nc CC);generalize w3.setCell ⟨nb,0,none⟩ (.slice CA nc CC)=w4 at*;clear K d0 n0 z0 w3;change KA w w4 nb CS XS zG #[.slice CA nc CC,.slice none 0 0,.slice none 0 0,.slice none 0 0,.slice none 0 0] at K4;have cp:=lh ((b3.out).fr K4.fr zr);have ek:=lh ((a8.out).fr K4.fr zr);have eb:=lh ((a5.out).fr K4.fr zr);have bt:w.heap.size+3<=w4.heap.size:=by have h1:=K4.bn.lt;have h2:=K4.nb;omega
 go_cut [8] from 28 to 36 (fun s wc=>s=.slice A2 N c2/\∃lA lC,KA w wc nb CS XS zG #[.slice CA nc CC,.slice lA (N+1) lC,.slice none 0 0,.slice none 0 0,.slice none 0 0]/\Own wc (w.heap.size+3) 44 27 lA (N+1) lC (LL++XL)/\Own wc (w.heap.size+3) 3 1 A1 M c1 (UP.map Qv)/\Own wc (w.heap.size+3) 4 1 A2 N c2 (Ct N PS))
 case first=>
  clear ad cj
  as_aux_lemma=>
  have ae:∀wz,Fr Non w4 wz->KA w wz nb CS XS zG #[.slice CA nc CC,.slice none 0 0,.slice none 0 0,.slice none 0 0,.slice none 0 0]:=fun wz hz=>K4.non hz;have B0:=K4.bg;have X0:=K4.bx;have G0:cS w4 w.heap.size 1 LA N LC:=(K4.bg.cell 1).trans g1.out;have P0:cS w4 nb 1 none 0 0:=K4.bn.cell 1;have F0:Fr Non w4 w4.drew:=(Fr.refl Non w4).drew;have bb:∀u∈XS.toList,u.oneCell'=true:=by rw [hXL];exact dx.out
  refine Cy (S:=fun w'=>Blk w' w.heap.size 32 CS/\Blk w' (w.heap.size+1) 44 XS/\cS w' w.heap.size 1 LA N LC/\cS w' nb 1 none 0 0) 9 (by kernel_rfl) ?_;have uu:=aI B0 (aI X0 (aI G0 P0));refine tkG 0 uu (h:=tkG 1 uu (h:=tkG 2 uu (h:=tkG 3 uu (h:=tkG 5 uu (h:=?_)))));clear uu;simp only [zl];refine Ri 4 6 (by kernel_rfl) rfl rfl (fun K hK=> ?_) (fun K hK=> ?_)
  ·
   skip
   refine Ea (base:=w.heap.size+3) (.tmp 29) (.tmp 31) 27 rfl rfl rfl Gc (Own.nil _ _ _ _) (cp.out.fr F0 zr) bj.out (by omega) (by omega) bt ?_;intro lA lC v1 oL fL aa;rw [An8,Ao0] at oL;have F1:Fr Non w4 v1:=F0.trans (Gd fL) zr;have a9:∀k,Ab lA=some k->w4.heap.size<=k:=fun k hk=>by rcases aa with e|e;(rw [e] at hk;cases hk);(rw [e] at hk;injection hk with hk;have ej:w4.heap.size=k:=hk;omega)
   have B1:=B0.fr F1 zq;have X1:=X0.fr F1 zq;obtain ⟨G1,P1⟩:=zk2 F1 G0 P0;refine hK.out _ _ ⟨B1,X1,G1,P1⟩ (fun hZ=> ?_);clear hZ hK K;try simp only [An8]
   refine Bf 6 (by kernel_rfl) rfl (fun K hK=> ?_);go_simp;have be:=Blk.new v1 44 XS;have dk:=oL.alloc (.cells XS 44);have F2:Fr Non w4 (v1.alloc (.cells XS 44)):=F1.alloc _;obtain ⟨ga,a1⟩:=Aa v1.heap.size;rw [a1.out] at be ⊢;generalize v1.alloc (.cells XS 44)=v2 at*;have B2:=B0.fr F2 zq;have X2:=X0.fr F2 zq;obtain ⟨G2,P2⟩:=zk2 F2 G0 P0;refine hK.out _ _ ⟨B2,X2,G2,P2⟩ (fun hZ=> ?_);clear hZ hK K;try simp only [Ac,zl]
   refine Bf 7 (by kernel_rfl) rfl (fun K hK=> ?_);refine Ea (base:=w.heap.size+3) (.tmp 32) (.tmp 34) 27 rfl rfl rfl Gc dk (Rd.blk (n:=1) (size:=27) be bc) bb (by omega) (by omega) (An7 bt F2.size) ?_;intro au av v3 ce ct ar;rw [hXL] at ce;have F3:Fr Non w4 v3:=F2.trans ct (fun k hk e=>by have h9:=a9 k e;omega);have B3:=B0.fr F3 zq;have X3:=X0.fr F3 zq;obtain ⟨G3,P3⟩:=zk2 F3 G0 P0;refine hK.out _ _ ⟨B3,X3,G3,P3⟩ (fun hZ=> ?_);clear hZ hK K;try simp only [Ac,zl]
   refine tkG 8 ⟨B3,X3,G3,P3⟩ (h:=?_);simp only [zl];have nz:=(ae v3 F3).bn.frozen 1;refine Cs (by kernel_rfl) ?_;refine oG 9 (fun K hK=> ?_);go_simp;have K5:=(ae v3 F3).set 1 (.slice au (N+1) av);have bv:=Own.setFar (i:=1) ce (ae v3 F3).bn (by decide) (.slice au (N+1) av);have dc:=Own.setFar (i:=1) (bl.fr F3 zr) (ae v3 F3).bn (by decide) (.slice au (N+1) av);have c3:=Own.setFar (i:=1) (ai.fr F3 zr) (ae v3 F3).bn (by decide) (.slice au (N+1) av);refine hK.out _ _ trivial (fun hZ=> ?_);clear hZ hK K;try simp only [Ac,zl]
   refine oD ?_;go_simp;go_wp2_with fail;go_meet;exact ⟨rfl,au,av,K5,bv,dc,c3⟩
  ·
   skip
   go_simp;have ah:=(Blk.new w4 44 XS).drew;have F1:Fr Non w4 (w4.alloc (.cells XS 44)).drew:=((Fr.refl Non w4).alloc _).drew;have ck:=F1.size;obtain ⟨ga,a1⟩:=Aa w4.heap.size;have eg:w4.heap.size<=w4.heap.size:=An5 _;rw [a1.out] at ah ⊢;generalize (w4.alloc (.cells XS 44)).drew=v1 at*;have B1:=B0.fr F1 zq;have X1:=X0.fr F1 zq;obtain ⟨G1,P1⟩:=zk2 F1 G0 P0;refine hK.out _ _ ⟨B1,X1,G1,P1⟩ (fun hZ=> ?_);clear hZ hK K;try simp only [Ac,zl]
   refine Bf 4 (by kernel_rfl) rfl (fun K hK=> ?_);refine Ea (base:=w.heap.size+3) (.tmp 29) (.tmp 31) 27 rfl rfl rfl Gc (Own.nil _ _ _ _) (cp.out.fr F1 zr) bj.out (by omega) (by omega) (An7 bt ck) ?_;intro lA lC v2 oL fL aa;rw [An8,Ao0] at oL;have F2:Fr Non w4 v2:=F1.trans (Gd fL) zr;have be:=ah.fr (Gd fL) zq;have a9:∀k,Ab lA=some k->w4.heap.size<=k:=fun k hk=>by rcases aa with e|e;(rw [e] at hk;cases hk);(rw [e] at hk;injection hk with hk;omega)
   have B2:=B0.fr F2 zq;have X2:=X0.fr F2 zq;obtain ⟨G2,P2⟩:=zk2 F2 G0 P0;refine hK.out _ _ ⟨B2,X2,G2,P2⟩ (fun hZ=> ?_);clear hZ hK K;try simp only [An8,Ac,zl]
   refine Bf 7 (by kernel_rfl) rfl (fun K hK=> ?_);refine Ea (base:=w.heap.size+3) (.tmp 32) (.tmp 34) 27 rfl rfl rfl Gc oL (Rd.blk (n:=1) (size:=27) be bc) bb (by omega) (by omega) (An7 bt F2.size) ?_;intro au av v3 ce ct ar;rw [hXL] at ce;have F3:Fr Non w4 v3:=F2.trans ct (fun k hk e=>by have h9:=a9 k e;omega);have B3:=B0.fr F3 zq;have X3:=X0.fr F3 zq;obtain ⟨G3,P3⟩:=zk2 F3 G0 P0;refine hK.out _ _ ⟨B3,X3,G3,P3⟩ (fun hZ=> ?_);clear hZ hK K;try simp only [Ac,zl]
   refine tkG 8 ⟨B3,X3,G3,P3⟩ (h:=?_);simp only [zl];have nz:=(ae v3 F3).bn.frozen 1;refine Cs (by kernel_rfl) ?_;refine oG 9 (fun K hK=> ?_);go_simp;have K5:=(ae v3 F3).set 1 (.slice au (N+1) av);have bv:=Own.setFar (i:=1) ce (ae v3 F3).bn (by decide) (.slice au (N+1) av);have dc:=Own.setFar (i:=1) (bl.fr F3 zr) (ae v3 F3).bn (by decide) (.slice au (N+1) av);have c3:=Own.setFar (i:=1) (ai.fr F3 zr) (ae v3 F3).bn (by decide) (.slice au (N+1) av);refine hK.out _ _ trivial (fun hZ=> ?_);clear hZ hK K;try simp only [Ac,zl]
   refine oD ?_;go_simp;go_wp2_with fail;go_meet;exact ⟨rfl,au,av,K5,bv,dc,c3⟩
 case rest=>
 obtain ⟨rfl,lA,lC,K5,oL,b1,b4⟩:=hcut;clear bl ai K4 cp bt ek eb bj dx;obtain ⟨w5,ec⟩:∃w5:World,w5=wc:=⟨_,rfl⟩;subst ec;have ck:w.heap.size+3<=w5.heap.size:=by have h1:=K5.bn.lt;have h2:=K5.nb;omega
 have d5:=lh ((a8.out).fr K5.fr zr);go_upto_region 8 with (fail)
 have ae:∀wz,Fr Non w5 wz->KA w wz nb CS XS zG #[.slice CA nc CC,.slice lA (N+1) lC,.slice none 0 0,.slice none 0 0,.slice none 0 0]:=fun wz hz=>K5.non hz;have B0:=K5.bg;have X0:=K5.bx;have G0:cS w5 w.heap.size 2 IA N IC:=(K5.bg.cell 2).trans g2.out;have P0:cS w5 nb 2 none 0 0:=K5.bn.cell 2;have F0:Fr Non w5 w5.drew:=(Fr.refl Non w5).drew;refine Cy (S:=fun w'=>Blk w' w.heap.size 32 CS/\Blk w' (w.heap.size+1) 44 XS/\cS w' w.heap.size 2 IA N IC/\cS w' nb 2 none 0 0) 10 (by kernel_rfl) ?_;have uu:=aI B0 (aI X0 (aI G0 P0));refine tkG 0 uu (h:=tkG 1 uu (h:=tkG 2 uu (h:=tkG 3 uu (h:=tkG 5 uu (h:=?_)))));clear uu;simp only [zl];refine Bf 4 (by kernel_rfl) rfl (fun K hK=> ?_);refine Ea (base:=w.heap.size+3) (.tmp 38) (.tmp 40) 28 rfl rfl rfl C1 (Own.nil _ _ _ _) (d5.out.fr F0 zr) b7.out (by omega) (by omega) ck ?_;intro iA iC v1 oI fI aa;rw [An8,Ao0] at oI;have F1:Fr Non w5 v1:=F0.trans (Gd fI) zr;have a9:∀k,Ab iA=some k->w5.heap.size<=k:=fun k hk=>by rcases aa with e|e;(rw [e] at hk;cases hk);(rw [e] at hk;injection hk with hk;have ej:w5.heap.size=k:=hk;omega)
 have B1:=B0.fr F1 zq;have X1:=X0.fr F1 zq;obtain ⟨G1,P1⟩:=zk2 F1 G0 P0;refine hK.out _ _ ⟨B1,X1,G1,P1⟩ (fun hZ=> ?_);clear hZ hK K;try simp only [An8,Ac,zl]
 refine Bf 6 (by kernel_rfl) rfl (fun K hK=> ?_);go_simp;go_wp2_with (go_at_call 57;(with_reducible refine (cj.out _ ((ae v1 F1).fr)).mono ?_);rintro _ v2 ⟨rfl,f6⟩;have F2:=F1.trans f6 zr;have cg:=oI.fr f6 zr);have B2:=B0.fr F2 zq;have X2:=X0.fr F2 zq;obtain ⟨G2,P2⟩:=zk2 F2 G0 P0;refine hK.out _ _ ⟨B2,X2,G2,P2⟩ (fun hZ=> ?_);clear hZ hK K;try simp only [Ac,zl]
 refine Bf 7 (by kernel_rfl) rfl (fun K hK=> ?_);go_simp;have ah:=Blk.new v2 38 NM.V;have dy:=cg.alloc (.cells NM.V 38);have F3:Fr Non w5 (v2.alloc (.cells NM.V 38)):=F2.alloc _;obtain ⟨ga,a1⟩:=Aa v2.heap.size;rw [a1.out] at ah ⊢;generalize v2.alloc (.cells NM.V 38)=v3 at*;have B3:=B0.fr F3 zq;have X3:=X0.fr F3 zq;obtain ⟨G3,P3⟩:=zk2 F3 G0 P0;refine hK.out _ _ ⟨B3,X3,G3,P3⟩ (fun hZ=> ?_);clear hZ hK K;try simp only [Ac,zl]
 refine Bf 8 (by kernel_rfl) rfl (fun K hK=> ?_);refine Ea (base:=w.heap.size+3) (.tmp 41) (.tmp 44) 28 rfl rfl rfl C1 dy (Rd.blk (n:=1) (size:=3) ah rfl) (by simp [Value.oneCell']) (by omega) (by omega) (An7 ck F3.size) ?_;intro ao ak v4 dw dq c0;have F4:Fr Non w5 v4:=F3.trans dq (fun k hk e=>by have h9:=a9 k e;omega);have B4:=B0.fr F4 zq;have X4:=X0.fr F4 zq;obtain ⟨G4,P4⟩:=zk2 F4 G0 P0;refine hK.out _ _ ⟨B4,X4,G4,P4⟩ (fun hZ=> ?_);clear hZ hK K;try simp only [Ac,zl]
 refine tkG 9 ⟨B4,X4,G4,P4⟩ (h:=?_);simp only [zl];have nz:=(ae v4 F4).bn.frozen 2;refine Cs (by kernel_rfl) ?_;refine oG 10 (fun K hK=> ?_);go_simp;have K6:=(ae v4 F4).set 2 (.slice ao (N+1) ak);have ch:=Own.setFar (i:=2) dw (ae v4 F4).bn (by decide) (.slice ao (N+1) ak);have cl:=Own.setFar (i:=2) (oL.fr F4 zr) (ae v4 F4).bn (by decide) (.slice ao (N+1) ak);have d2:=Own.setFar (i:=2) (b1.fr F4 zr) (ae v4 F4).bn (by decide) (.slice ao (N+1) ak);have dl:=Own.setFar (i:=2) (b4.fr F4 zr) (ae v4 F4).bn (by decide) (.slice ao (N+1) ak);refine hK.out _ _ trivial (fun hZ=> ?_);clear hZ hK K;try simp only [Ac,zl]
 refine oD ?_;go_simp;generalize v4.setCell ⟨nb,2,none⟩ (.slice ao (N+1) ak)=w6 at*;change KA w w6 nb CS XS zG #[.slice CA nc CC,.slice lA (N+1) lC,.slice ao (N+1) ak,.slice none 0 0,.slice none 0 0] at K6;clear ae K5 oL b1 b4 oI cg dy dw fI dq aa c0 a9 F0 F1 F2 F3 F4 B0 B1 B2 B3 B4 X0 X1 X2 X3 X4 G0 G1 G2 G3 G4 P0 P1 P2 P3 P4 f6 ah a1 nz d5 b7 a8 cj;have bu:w.heap.size+3<=w6.heap.size:=by have h1:=K6.bn.lt;have h2:=K6.nb;omega
 have dr:=lh ((a5.out).fr K6.fr zr);have n3:cS w6 nb 3 none 0 0:=K6.bn.cell 3;have d3:=(K6.bg.cell 3).trans g3.out
 go_upto_region 10 with (first
  |(at_builtin;go_loud (refine Aw (base:=w.heap.size+3) (.tmp 48) (.tmp 50) 29 rfl rfl rfl rfl slIi (Own.nil _ _ _ _) dr.out bo.out (by omega) (by omega) bu ?_);intro uA uC v1 oU fU aa;rw [An8,Ao0] at oU;have F1:Fr Non w6 v1:=Gd fU;have a9:∀k,Ab uA=some k->w6.heap.size<=k:=(fun k hk=>by rcases aa with e|e;(rw [e] at hk;cases hk);(rw [e] at hk;injection hk with hk;omega));have ah:=Blk.new v1 22 #[.slice A1 M c1];have ci:=oU.alloc (.cells #[.slice A1 M c1] 22);have F2:Fr Non w6 (v1.alloc (.cells #[.slice A1 M c1] 22)):=F1.alloc _;clear aa fU)
  |(at_builtin;go_loud (refine Aw (base:=w.heap.size+3) (.tmp 51) (.tmp 53) 29 rfl rfl rfl rfl slIi ci (Rd.blk (n:=1) (size:=1) ah rfl) (by simp [Value.oneCell']) (by omega) (by omega) (An7 bu F2.size) ?_);intro a3 a2 v2 ds dz ar;have F3:Fr Non w6 v2:=F2.trans dz (fun k hk e=>by have h9:=a9 k e;omega);have K7:=K6.non F3;have n3:cS v2 nb 3 none 0 0:=K7.bn.cell 3;have z3:=K7.bn.frozen 3;clear ar a9 F2 F1 ci oU ah))
 have K8:=K7.set 3 (.slice a3 (N+1) a2)
 have R8:KR (w.heap.size+3) (v2.setCell ⟨nb,3,none⟩ (.slice a3 (N+1) a2)) lA (N+1) lC (LL++XL) ao (N+1) ak (IL++NM.cells) a3 (N+1) a2 (UL++[.slice A1 M c1]) A1 M c1 (UP.map Qv) A2 N c2 (Ct N PS):=
  ⟨Own.setFar (cl.fr F3 zr) K7.bn (by decide) _,Own.setFar (ch.fr F3 zr) K7.bn (by decide) _,Own.setFar ds K7.bn (by decide) _,Own.setFar (d2.fr F3 zr) K7.bn (by decide) _,Own.setFar (dl.fr F3 zr) K7.bn (by decide) _⟩
 generalize v2.setCell ⟨nb,3,none⟩ (.slice a3 (N+1) a2)=w8 at*;change KA w w8 nb CS XS zG #[.slice CA nc CC,.slice lA (N+1) lC,.slice ao (N+1) ak,.slice a3 (N+1) a2,.slice none 0 0] at K8;clear K6 K7 cl ch ds d2 dl n3 z3 d3 F3 dz dr a5 bo bu;have eh:∀k,Ab A2=some k->k<w8.heap.size:=fun k hk=>(R8.oB.row k hk).2;go_wp2_with fail
 go_loopw [10] (fun v wr=>∃(j:Nat) (nA:Option Addr) (nC:Nat) (ns:List InL),v=.int .i64 (j:Int)/\j<=N/\KA w wr nb CS XS zG #[.slice CA nc CC,.slice lA (N+1) lC,.slice ao (N+1) ak,.slice a3 (N+1) a2,.slice nA j nC]/\KR (w.heap.size+3) wr lA (N+1) lC (LL++XL) ao (N+1) ak (IL++NM.cells) a3 (N+1) a2 (UL++[.slice A1 M c1]) A1 M c1 (UP.map Qv) A2 N c2 (Ct N PS)/\
  Own wr (w.heap.size+3) 108 1 nA j nC (ns.map InL.cell)/\Hid (∀y∈ns,y.own wr base)/\Hid (ns.map InL.bs=(IR.take j).map (· ++[false]))/\w8.heap.size<=wr.heap.size/\Hid (∀y∈ns,∀k,Ab y.A=some k->w8.heap.size<=k)) (fun v _=>N-(intOf v).toNat)
 case atStart=>exact ⟨0,none,0,[],rfl,by omega,K8,R8,Own.nil _ _ _ _,fun y hy=>absurd hy An3,rfl,An5 _,fun y hy=>absurd hy An3⟩
 case round=>
  obtain ⟨j,nA,nC,ns,rfl,hj,K,R,oN,cb,cm,ey,b6⟩:=hrel;clear K8 R8;have d4:=(K.bg.cell 4).trans g4.out;have du:w.heap.size+3<=wr.heap.size:=by have h1:=K.bn.lt;have h2:=K.nb;omega
  have c9:=oN.row
  by_cases hlt:j<N
  ·
   obtain ⟨j1,j2,j3⟩:=ix j N
   obtain ⟨n,hn⟩:∃n,l[j]? =some n:=⟨_,List.getElem?_eq_getElem (by rw [hN.out];exact hlt)⟩;obtain ⟨y,b,de,cz,d1,rfl,e4,cy⟩:=ba.out j n hn;have c4:y.bs.length=N:=by rw [cz,Fw]
   have ax:Hid ((y.bs++[false]).length=N+1):=by show _=_;rw [Ao5,c4];rfl
   have dv:y.cell=.slice y.A N y.c:=Li (bs:=y.bs) c4;rw [dv] at cy;have ez:=K.fr.cell cy zq;have bf:Rd w w.heap.size 1 y.A y.bs.length (y.bs.map Value.bool):=d1.sl.rd;rw [c4] at bf;have ei:=lh (bf.fr K.fr zr);have b5:=lh (b9.out y)
   have dj:Hid ((IR.take (j+1)).map (· ++[false])=(IR.take j).map (· ++[false])++[y.bs++[false]]):=by
    show _=_;rw [Dz (a7.out j n hn),Ao1,cz];rfl
   have n4:cS wr nb 4 nA j nC:=K.bn.cell 4;clear hn cz d1 cy bf dv a7 ba ad;go_upto_region 15 with (at_builtin;go_loud (refine Aw (base:=wr.heap.size) (.tmp 63) (.tmp 68) 108 rfl rfl rfl rfl I2 (Own.nil _ _ _ _) ei.out b5.out (by omega) (by omega) (An5 _) ?_);intro rA rC v0 oR fR aa;rw [An8,Ao0] at oR;have F0:Fr Non wr v0:=Gd fR;have ed:=oR.row;clear aa fR)
   have G0:cS v0 nb 4 nA j nC:=F0.cell n4 zq;refine Cy (S:=fun w'=>cS w' nb 4 nA j nC) 8 (by kernel_rfl) ?_;refine tkG 0 G0 (h:=tkG 1 G0 (h:=tkG 2 G0 (h:=?_)));simp only [zl];refine Bf 3 (by kernel_rfl) rfl (fun K' hK=> ?_);go_simp;have aw:=(Blk.new v0 4 #[.bool false]).drew;have db:=oR.alloc (.cells #[.bool false] 4);have F1:Fr Non wr (v0.alloc (.cells #[.bool false] 4)).drew:=(F0.alloc (.cells #[.bool false] 4)).drew;replace db:Own (v0.alloc (.cells #[.bool false] 4)).drew wr.heap.size 4 1 rA N rC (y.bs.map Value.bool):=db;obtain ⟨ga,a1⟩:=Aa v0.heap.size;rw [a1.out] at aw ⊢;generalize (v0.alloc (.cells #[.bool false] 4)).drew=v1 at*;have G1:=F1.cell n4 zq;refine hK.out _ _ G1 (fun hZ=> ?_);clear hZ hK K';try simp only [Ac,zl]
   refine Bf 4 (by kernel_rfl) rfl (fun K' hK=> ?_);refine Ea (base:=wr.heap.size) (.tmp 72) (.tmp 73) 108 rfl rfl rfl I2 db (Rd.blk (n:=1) (size:=1) aw rfl) (by simp [Value.oneCell']) (by omega) (by omega) F1.size ?_;intro ag af v2 cd a4 ar;have F2:Fr Non wr v2:=F1.trans a4 (fun k hk e=>by have h9:=(ed k e).1;omega);have G2:=F2.cell n4 zq;refine hK.out _ _ G2 (fun hZ=> ?_);clear hZ hK K';try simp only [Ac,zl]
   refine Bf 5 (by kernel_rfl) rfl (fun K' hK=> ?_);go_simp;have aq:=Blk.new v2 108 #[.slice ag (N+1) af];have d7:=cd.alloc (.cells #[.slice ag (N+1) af] 108);have F3:Fr Non wr (v2.alloc (.cells #[.slice ag (N+1) af] 108)):=F2.alloc _;obtain ⟨gb,dh⟩:=Aa v2.heap.size;rw [dh.out] at aq ⊢;generalize v2.alloc (.cells #[.slice ag (N+1) af] 108)=v3 at*;have G3:=F3.cell n4 zq;refine hK.out _ _ G3 (fun hZ=> ?_);clear hZ hK K';try simp only [Ac,zl]
   refine Bf 6 (by kernel_rfl) rfl (fun K' hK=> ?_);have bp:=oN.fr F3 zr;refine Ea (base:=w.heap.size+3) (.tmp 71) (.tmp 75) 30 rfl rfl rfl slBb bp (Rd.blk (n:=1) (size:=1) aq rfl) (by simp [Value.oneCell']) (by omega) (by omega) (An7 du F3.size) ?_;intro ac ab v5 dg ap cx;have K5:=(K.non F3).over ap (fun k e=>(c9 k e).1) (fun e=>bp.ne (K.non F3).bn (by decide) e);have R5:=(R.non F3).grow bp ap;have di:=Own.grow2 d7 bp (by decide) ap;have ay:Hid (∀y∈ns,y.own v5 base):=fun y hy=>InL.own.grow (RowAt.non (cb.out y hy) F3:y.own _ base) bp ap;have G4:cS v5 nb 4 nA j nC:=K5.bn.cell 4;have d8:=K5.bn.frozen 4;refine hK.out _ _ G4 (fun hZ=> ?_);clear hZ hK K';try simp only [Ac,zl]
   refine tkG 7 G4 (h:=?_);simp only [zl];refine Cs (by kernel_rfl) ?_;refine oG 8 (fun K' hK=> ?_);go_simp;have K6:=K5.set 4 (.slice ac (j+1) ab);have R6:=R5.setFar (i:=4) K5.bn (.slice ac (j+1) ab);have c5:=Own.setFar (i:=4) dg K5.bn (by decide) (.slice ac (j+1) ab);have b2:=Own.setFar (i:=4) di K5.bn (by decide) (.slice ac (j+1) ab);rw [Rg] at b2;have bi:=Rf (base:=base) b2 (by omega) ax.out;have aj:(InL.mk ag af (y.bs++[false])).cell=.slice ag (N+1) af:=Li ax.out
   have az:Hid (∀z∈ns++[(⟨ag,af,y.bs++[false]⟩:InL)],z.own (v5.setCell ⟨nb,4,none⟩ (.slice ac (j+1) ab)) base):=by
    intro z hz
    rcases List.mem_append.1 hz with h1|h1
    · exact (ay.out z h1).setFar K5.bn _
    ·
     rw [An6] at h1;rw [h1];exact bi
   have bk:Hid ((ns++[(⟨ag,af,y.bs++[false]⟩:InL)]).map InL.bs=(IR.take (j+1)).map (· ++[false])):=by
    show _=_;rw [Ao1,cm.out,dj.out];rfl
   have bu:w8.heap.size<=(v5.setCell ⟨nb,4,none⟩ (.slice ac (j+1) ab)).heap.size:=by
    have h1:=F3.size;have h2:=ap.size;simp [World.setCell];omega
   have cf:Hid (∀z∈ns++[(⟨ag,af,y.bs++[false]⟩:InL)],∀k,Ab z.A=some k->w8.heap.size<=k):=by
    intro z hz k hk
    rcases List.mem_append.1 hz with h1|h1
    · exact b6.out z h1 k hk
    ·
     rw [An6] at h1;rw [h1] at hk;have:=(cd.row k hk).1;omega
   refine hK.out _ _ trivial (fun hZ=> ?_);clear hZ hK K';try simp only [Ac,zl]
   refine oD ?_;go_simp;go_wp2_with fail;go_roundw
   case rel=>exact ⟨j+1,ac,ab,ns++[⟨ag,af,y.bs++[false]⟩],by go_num,by omega,K6,R6,by rw [Ao1,List.map_cons,List.map_nil,aj];exact c5,az,bk,bu,cf⟩
   case measure=>simp [intOf];omega
  ·
   obtain rfl:j=N:=by omega
   have cu:ns.map InL.bs=IR.map (· ++[false]):=by
    have h1:=cm.out;rwa [Ap0 (by rw [bd.out];exact An5 _)] at h1
   have eo:Hid (Ct j PS=(Bn j PS).map Value.bool):=rfl;have es:(Bn j PS).length=j:=Fw _ _;have n4:cS wr nb 4 nA j nC:=K.bn.cell 4;have cc:(zp.info? 32).map (·.size)=some 5:=Cz;clear a7 ba cm bd b9;go_upto_region 16 with (fail)
   have F0:Fr Non wr wr:=Fr.refl _ _;have G0:=n4;refine Cy (S:=fun w'=>cS w' nb 4 nA j nC) 8 (by kernel_rfl) ?_;refine tkG 0 G0 (h:=tkG 1 G0 (h:=tkG 2 G0 (h:=?_)));simp only [zl];refine Bf 3 (by kernel_rfl) rfl (fun K' hK=> ?_);go_simp;have aw:=(Blk.new wr 4 #[.bool false]).drew;have F1:Fr Non wr (wr.alloc (.cells #[.bool false] 4)).drew:=(F0.alloc (.cells #[.bool false] 4)).drew;obtain ⟨ga,a1⟩:=Aa wr.heap.size;rw [a1.out] at aw ⊢;generalize (wr.alloc (.cells #[.bool false] 4)).drew=v1 at*;have G1:=F1.cell n4 zq;refine hK.out _ _ G1 (fun hZ=> ?_);clear hZ hK K';try simp only [Ac,zl]
   refine Bf 4 (by kernel_rfl) rfl (fun K' hK=> ?_);have bh:=R.oB.fr F1 zr;refine Ea (base:=w.heap.size+3) (.tmp 80) (.tmp 81) 108 rfl rfl rfl I2 bh (Rd.blk (n:=1) (size:=1) aw rfl) (by simp [Value.oneCell']) (by omega) (by omega) (An7 du F1.size) ?_;intro ag af v2 cd a4 ar;have K2:=(K.non F1).over a4 (fun k e=>(R.oB.row k e).1) (fun e=>bh.ne (K.non F1).bn (by decide) e);have dk:=Own.grow2 (R.oL.fr F1 zr) bh (by decide) a4;have cg:=Own.grow2 (R.oI.fr F1 zr) bh (by decide) a4;have ci:=Own.grow2 (R.oU.fr F1 zr) bh (by decide) a4;have d6:=Own.grow2 (R.oA.fr F1 zr) bh (by decide) a4;have ef:=Own.grow2 (oN.fr F1 zr) bh (by decide) a4;have b8:Hid (∀y∈ns,y.own v2 base):=fun y hy=>RowAt.fr (RowAt.non (cb.out y hy) F1) a4 (fun _ k hk e=>by have h1:=b6.out y hy k hk;have h2:=eh k e;omega);rw [eo.out] at cd;have G2:cS v2 nb 4 nA j nC:=K2.bn.cell 4;refine hK.out _ _ G2 (fun hZ=> ?_);clear hZ hK K';try simp only [Ac,zl]
   refine Bf 5 (by kernel_rfl) rfl (fun K' hK=> ?_);go_simp;have aq:=Blk.new v2 108 #[.slice ag (j+1) af];have F3:Fr Non v2 (v2.alloc (.cells #[.slice ag (j+1) af] 108)):=(Fr.refl _ _).alloc _;obtain ⟨gb,dh⟩:=Aa v2.heap.size;rw [dh.out] at aq ⊢;generalize v2.alloc (.cells #[.slice ag (j+1) af] 108)=v3 at*;have K3:=K2.non F3;have a6:=ef.fr F3 zr;have G3:cS v3 nb 4 nA j nC:=K3.bn.cell 4;have d9:w.heap.size+3<=v3.heap.size:=by have h1:=K3.bn.lt;have h2:=K3.nb;omega
   refine hK.out _ _ G3 (fun hZ=> ?_);clear hZ hK K';try simp only [Ac,zl]
   refine Bf 6 (by kernel_rfl) rfl (fun K' hK=> ?_);refine Ea (base:=w.heap.size+3) (.tmp 79) (.tmp 83) 30 rfl rfl rfl slBb a6 (Rd.blk (n:=1) (size:=1) aq rfl) (by simp [Value.oneCell']) (by omega) (by omega) d9 ?_;intro ac ab v5 dg ap cx;have K5:=K3.over ap (fun k e=>(a6.row k e).1) (fun e=>a6.ne K3.bn (by decide) e);have di:=Own.grow2 (cd.fr F3 zr) a6 (by decide) ap;have bv:=Own.grow2 (dk.fr F3 zr) a6 (by decide) ap;have eu:=Own.grow2 (cg.fr F3 zr) a6 (by decide) ap;have ee:=Own.grow2 (ci.fr F3 zr) a6 (by decide) ap;have el:=Own.grow2 (d6.fr F3 zr) a6 (by decide) ap;have ay:Hid (∀y∈ns,y.own v5 base):=fun y hy=>InL.own.grow (RowAt.non (b8.out y hy) F3:y.own _ base) a6 ap;have G4:cS v5 nb 4 nA j nC:=K5.bn.cell 4;have d8:=K5.bn.frozen 4;refine hK.out _ _ G4 (fun hZ=> ?_);clear hZ hK K';try simp only [Ac,zl]
   refine tkG 7 G4 (h:=?_);simp only [zl];refine Cs (by kernel_rfl) ?_;refine oG 8 (fun K' hK=> ?_);go_simp;have K6:=K5.set 4 (.slice ac (j+1) ab);have c5:=Own.setFar (i:=4) dg K5.bn (by decide) (.slice ac (j+1) ab);have b2:=Own.setFar (i:=4) di K5.bn (by decide) (.slice ac (j+1) ab);have cl:=Own.setFar (i:=4) bv K5.bn (by decide) (.slice ac (j+1) ab);have ch:=Own.setFar (i:=4) eu K5.bn (by decide) (.slice ac (j+1) ab);have er:=Own.setFar (i:=4) ee K5.bn (by decide) (.slice ac (j+1) ab);have en:=Own.setFar (i:=4) el K5.bn (by decide) (.slice ac (j+1) ab);rw [Rg] at b2;have ax:(Bn j PS++[false]).length=j+1:=by rw [Ao5,es];rfl
   have bi:=Rf (base:=base) b2 (by omega) ax;have aj:(InL.mk ag af (Bn j PS++[false])).cell=.slice ag (j+1) af:=Li ax
   have az:∀z∈ns++[(⟨ag,af,Bn j PS++[false]⟩:InL)],z.own (v5.setCell ⟨nb,4,none⟩ (.slice ac (j+1) ab)) base:=by
    intro z hz
    rcases List.mem_append.1 hz with h1|h1
    · exact (ay.out z h1).setFar K5.bn _
    ·
     rw [An6] at h1;rw [h1];exact bi
   have bk:(ns++[(⟨ag,af,Bn j PS++[false]⟩:InL)]).map InL.bs=IR.map (· ++[false])++[Bn j PS++[false]]:=by
    rw [Ao1,cu];rfl
   have et:Own (v5.setCell ⟨nb,4,none⟩ (.slice ac (j+1) ab)) (w.heap.size+3) 108 1 ac (j+1) ab ((ns++[(⟨ag,af,Bn j PS++[false]⟩:InL)]).map InL.cell):=by
    rw [Ao1,List.map_cons,List.map_nil,aj];exact c5
   refine hK.out _ _ trivial (fun hZ=> ?_);clear hZ hK K';try simp only [Ac,zl]
   refine oD ?_;go_simp;generalize v5.setCell ⟨nb,4,none⟩ (.slice ac (j+1) ab)=v6 at*;change KA w v6 nb CS XS zG #[.slice CA nc CC,.slice lA (j+1) lC,.slice ao (j+1) ak,.slice a3 (j+1) a2,.slice ac (j+1) ab] at K6;obtain ⟨RR,bm⟩:∃RR:Array Value,RR=#[.slice CA nc CC,.slice lA (j+1) lC,.slice ao (j+1) ak,.slice a3 (j+1) a2,.slice ac (j+1) ab]:=⟨_,rfl⟩;have cr:(zp.info? 32).map (·.size)=some RR.size:=by rw [bm];exact cc
   have ev:RR.all (·.oneCell')=true:=by rw [bm];simp [Value.oneCell']
   have em:(zG:Array Value).size=RR.size:=by rw [bm];rfl
   have bw:Hid (∀wz,Fr (One (w.heap.size+2)) v6 wz->POST (.returned (.tuple #[.agg RR,.int .i64 0])) wz):=by
    intro wz hz;have ca:∀(e:TypeId) (sz n c:Nat) (A:Option Addr) (xs:List Value),Own v6 (w.heap.size+3) e sz A n c xs->Own wz (w.heap.size+3) e sz A n c xs:=fun e sz n c A xs ho=>ho.fr hz (fun k hk e'=>by have h1:=(ho.row k hk).1;have e2:k=w.heap.size+2:=e';omega);rw [bm];refine ad.out lA ao a3 ac lC ak a2 ab _ wz (K6.fr.trans hz (fun k hk e'=>absurd hk (by have e2:k=w.heap.size+2:=e';omega))) (ca _ _ _ _ _ _ cl) (ca _ _ _ _ _ _ ch) (ca _ _ _ _ _ _ er) (ca _ _ _ _ _ _ en) (ca _ _ _ _ _ _ et) ?_ bk;intro y hy;refine RowAt.keepT (az y hy) hz (fun k cs fr hk e'=> ?_);have e2:k=w.heap.size+2:=e';subst e2;have ep:v6.heap[w.heap.size+2]? =some (.cells zG 32 (0,0)):=K6.br;rw [ep] at hk;injection hk with hk
    injection hk with _ ht
    exact absurd ht (by decide)
   rw [<- bm] at K6;have e0:=Bb (P:=zp) nb 32 underlying32 rfl (cs:=RR) cr;have ea:=Ch (P:=zp) (w.heap.size+2) 32 cr (old:=zG) em ev;have bz:=K6.bn;have bq:=K6.br;clear ad bm;go_wp2_with fail;have c8:=bq.setRow (cs:=RR);have cw:=lh (bw.out _ ((Fr.refl (One (w.heap.size+2)) v6).setRow (g:=w.heap.size+2) (fun _=>rfl) RR))
   (try simp only [Exit.inBlock,Exit.then])
   refine Fo (t:=32) rfl rfl c8 rfl underlying32 cr rfl ?_;exact cw.out
end Oq
namespace Oq
attribute [local go_sem] Ao3 Ao4
attribute [local go_sem ↓] Cg Ej
def Lk (b:Int) (w:World) (e:Ending) (w':World):Prop:=
 ∃y:OpL,e=.returned (.agg y.cells)/\y.by_=b/\y.op.ok/\y.own w' w.heap.size/\Fr Non w w'
def smL (b k d ol ro:Int) (pA:Option Addr) (ps:List NdL) (ep of:Id) (bA:Option Addr) (bs:List UInt8):OpL:=
 {OpL.zero with by_:=b,kind:=k,dev:=d,old:=ol,role:=ro,pathA:=pA,pathC:=ps.length,path:=ps,epoch:=ep,of:=of,bodyA:=bA,bodyC:=bs.length,body:=bs}
theorem Ge (p:Nat) (h:p<18446744073709551616):(NdL.mk p none 0 []).nd.ok:=⟨h,An9 _,fun _ h=>absurd h An3⟩
theorem z64:I64 0:=⟨by decide,by decide⟩
theorem E3:U64 0:=by decide
theorem E4 {b k d ol ro:Int} {pA bA:Option Addr} {ps:List NdL} {ep of:Id} {bs:List UInt8} (hb:I64 b) (hk:I64 k) (hd:I64 d) (ho:I64 ol) (hr:I64 ro) (hp:ps.length<=1/\∀x∈ps,x.nd.ok) (he:ep.ok) (hf:of.ok) (hbs:bs.length<=1):(smL b k d ol ro pA ps ep of bA bs).op.ok:=by
 refine ⟨hb,z64,hk,z64,⟨An9 _,fun _ h=>absurd h An3⟩,hd,ho,z64,hr,⟨?_,?_⟩,he,z64,?_,⟨An9 _,fun _ h=>absurd h An3⟩,hf,
  ⟨An9 _,fun _ h=>absurd h An3⟩,z64,z64,⟨An9 _,fun _ h=>absurd h An3⟩,E3,⟨An9 _,fun _ h=>absurd h An3⟩,E3,E3⟩
 ·
  show (ps.map NdL.nd).length<=1000;rw [Ao6];omega
 ·
  intro x hx;obtain ⟨y,hy,rfl⟩:=List.mem_map.1 (show x∈ps.map NdL.nd from hx);exact hp.2 y hy
 ·
  show bs.length<=1000000;omega
theorem Af0 {b k d ol ro:Int} {pA bA:Option Addr} {ps:List NdL} {ep of:Id} {bs:List UInt8} {w:World} {base:Nat} (hp:Own w base 94 2 pA ps.length ps.length (ps.flatMap NdL.cells)) (hps:∀y∈ps,y.xs=[]/\y.A=none/\y.c=0) (hb:RowAt w base 5 1 bA bs.length bs.length (bs.map Bv)):(smL b k d ol ro pA ps ep of bA bs).own w base:=
 ⟨RowAt.nil _ _ _ _,RowAt.of_own hp,(fun y hy=>by obtain ⟨h1,h2,h3⟩:=hps y hy;rw [h1,h2,h3];exact RowAt.nil _ _ _ _),hb,RowAt.nil _ _ _ _,RowAt.nil _ _ _ _,RowAt.nil _ _ _ _,RowAt.nil _ _ _ _,(fun _ h=>absurd h An3)⟩
theorem Own.blk {w:World} {base g:Nat} {t:TypeId} {size n:Nat} {cs:Array Value} (h:Blk w g t cs) (hb:base<=g) (hn:0<n) (hs:cs.size=n*size) (h1:n<9223372036854775807):Own w base t size (some ⟨g,0,none⟩) n n cs.toList:=by
 refine ⟨by rw [Ao7,hs],.inr ⟨g,n,cs,rfl,hb,h,An5 _,by unfold maxLen;omega,hs,?_⟩⟩;rw [Ap0 (by rw [Ao7,hs];exact An5 _)]
theorem RowAt.blkF {w:World} {base g:Nat} {t:TypeId} {size n:Nat} {cs:Array Value} {fz:Nat × Nat} (h:w.heap[g]? =some (.cells cs t fz)) (hb:base<=g) (hs:cs.size=n*size) (h1:n<9223372036854775807) (hz:∀j,j<n*size->w.frozen? ⟨g,j,none⟩=false):RowAt w base t size (some ⟨g,0,none⟩) n n cs.toList:=by
 have hl:=(Array.getElem?_eq_some_iff.1 h).1;refine ⟨⟨⟨by rw [Ao7,hs],.inr ⟨g,0,rfl,hl,fun j u hu=> ?_⟩⟩,⟨An5 _,by omega⟩⟩,.inr ⟨g,cs,fz,rfl,hb,h,hz⟩⟩;rw [An8,cell_of_row w g j cs t fz h];simpa using hu
structure Ap (w v:World) (nm:Array Value) (y:OpL):Prop where
 b:Blk v w.heap.size 44 y.cells
 r:Blk v (w.heap.size+1) 44 OpL.zero.cells
 n:Blk v (w.heap.size+1+1) 38 nm
 f:Fr Non w v
 sz:w.heap.size+3<=v.heap.size
 own:y.own v (w.heap.size+2)
theorem Ap.gen {G:World->Prop} {w v:World} {nm:Array Value} {y:OpL} (s:Ap w v nm y) (k:∀v',Ap w v' nm y->G v'):G v:=k v s
theorem Ap.q {w v:World} {nm:Array Value} {y:OpL} (s:Ap w v nm y) (j:Nat) {x:Value} (h:y.cells[j]? =some x):v.cell? ⟨w.heap.size,j,none⟩=some x/\v.frozen? ⟨w.heap.size,j,none⟩=false:=⟨(s.b.cell j).trans h,s.b.frozen j⟩
theorem Ap.o {w v:World} {a0 a1 a2:Value} {y:OpL} (s:Ap w v #[a0,a1,a2] y):v.cell? ⟨w.heap.size+1+1,0,none⟩=some a0/\v.cell? ⟨w.heap.size+1+1,1,none⟩=some a1/\v.cell? ⟨w.heap.size+1+1,2,none⟩=some a2:=⟨s.n.cell 0,s.n.cell 1,s.n.cell 2⟩
theorem Af1 {b k d ol ro b' k' d' ol' ro':Int} {pA bA:Option Addr} {ps:List NdL} {ep of ep' of':Id} {bs:List UInt8} {v:World} {B:Nat} (h:(smL b k d ol ro pA ps ep of bA bs).own v B):(smL b' k' d' ol' ro' pA ps ep' of' bA bs).own v B:=
 ⟨h.past,h.path,h.nodes,h.body,h.refs,h.guards,h.boxes,h.hist,h.seals⟩
theorem I4 {v:World} {g:Nat} {t:TypeId} {cs:Array Value} (hb:Blk v g t cs) {y:OpL} {B j:Nat} {x:Value} (h:y.own v B) (ht:t=44):y.own (v.setCell ⟨g,j,none⟩ x) B:=by
 subst ht;exact h.keepP ((Fr.refl (One g) v).setOne j x) (Types.one hb) (by decide) (by decide) (by decide) (by decide) (by decide) (by decide) (by decide)
theorem Ap.base {w v:World} {nm:Array Value} {y y':OpL} (s:Ap w v nm y) (j:Nat) (x:Value) (h:y.cells.setIfInBounds j x=y'.cells) (ho:y'.own (v.setCell ⟨w.heap.size,j,none⟩ x) (w.heap.size+2)):Ap w (v.setCell ⟨w.heap.size,j,none⟩ x) nm y' where
 b:=h▸s.b.set j x
 r:=s.r.far (p:=⟨w.heap.size,j,none⟩) (by show w.heap.size+1≠w.heap.size;omega) x
 n:=s.n.far (p:=⟨w.heap.size,j,none⟩) (by show w.heap.size+1+1≠w.heap.size;omega) x
 f:=s.f.setNew (g:=w.heap.size) (An5 _) j x
 sz:=by have:=s.sz;first|exact this|(simp [World.setCell];omega)
 own:=ho
theorem Ap.set {w v:World} {nm:Array Value} {b k d ol ro b' k' d' ol' ro':Int} {pA bA:Option Addr} {ps:List NdL} {ep of ep' of':Id} {bs:List UInt8} (s:Ap w v nm (smL b k d ol ro pA ps ep of bA bs)) (j:Nat) (x:Value)
  (h:(smL b k d ol ro pA ps ep of bA bs).cells.setIfInBounds j x=(smL b' k' d' ol' ro' pA ps ep' of' bA bs).cells:=by first|rfl|(simp [smL,OpL.cells,OpL.zero])):Ap w (v.setCell ⟨w.heap.size,j,none⟩ x) nm (smL b' k' d' ol' ro' pA ps ep' of' bA bs):=
 s.base j x h (Af1 (I4 s.b s.own rfl))
theorem Ap.alloc {w v:World} {nm:Array Value} {y:OpL} (s:Ap w v nm y) (o:Obj):Ap w (v.alloc o) nm y:=
 ⟨s.b.alloc _,s.r.alloc _,s.n.alloc _,s.f.alloc _,by rw [An4];have:=s.sz;omega,s.own.non ((Fr.refl Non v).alloc o)⟩
theorem Ap.path {w v:World} {nm:Array Value} {b k d ol ro:Int} {bA:Option Addr} {ep of:Id} {bs:List UInt8} (s:Ap w v nm (smL b k d ol ro none [] ep of bA bs)) (p:Nat) (P:Int) (hP:P=(p:Int)):
  Ap w ((v.alloc (.cells #[.int .u64 P,.slice none 0 0] 94)).setCell ⟨w.heap.size,9,none⟩ (.slice (some ⟨v.heap.size,0,none⟩) 1 1)) nm (smL b k d ol ro (some ⟨v.heap.size,0,none⟩) [⟨p,none,0,[]⟩] ep of bA bs):=by
 subst hP;have hs:=s.sz;have s1:=s.alloc (.cells #[.int .u64 (p:Int),.slice none 0 0] 94);refine s1.base 9 _ rfl (I4 s1.b ?_ rfl);have h5:=Own.blk (base:=w.heap.size+2) (n:=1) (size:=2) (Blk.new v 94 #[.int .u64 (p:Int),.slice none 0 0]) (by omega) (by omega) rfl (by omega);have h:=s1.own;exact ⟨h.past,RowAt.of_own h5,(fun y hy=>by rw [List.mem_singleton.1 (show y∈[(⟨p,none,0,[]⟩:NdL)] from hy)];exact RowAt.nil _ _ _ _),h.body,h.refs,h.guards,h.boxes,h.hist,h.seals⟩
theorem Ap.body {w v:World} {nm:Array Value} {b k d ol ro:Int} {ep of:Id} (s:Ap w v nm (smL b k d ol ro none [] ep of none [])) (x:UInt8) (X:Int) (hX:X=(x.toNat:Int)):
  Ap w ((v.alloc (.cells #[.int .u8 X] 5)).setCell ⟨w.heap.size,14,none⟩ (.slice (some ⟨v.heap.size,0,none⟩) 1 1)) nm (smL b k d ol ro none [] ep of (some ⟨v.heap.size,0,none⟩) [x]):=by
 subst hX;have hs:=s.sz;have s1:=s.alloc (.cells #[.int .u8 (x.toNat:Int)] 5);refine s1.base 14 _ rfl (I4 s1.b ?_ rfl);have h5:=Own.blk (base:=w.heap.size+2) (n:=1) (size:=1) (Blk.new v 5 #[.int .u8 (x.toNat:Int)]) (by omega) (by omega) rfl (by omega);have h:=s1.own;exact ⟨h.past,h.path,h.nodes,RowAt.of_own h5,h.refs,h.guards,h.boxes,h.hist,h.seals⟩
theorem Ap.bodyF {w v:World} {nm:Array Value} {b k d ol ro:Int} {ep of:Id} (s:Ap w v nm (smL b k d ol ro none [] ep of none [])) (x:UInt8) (X:Int) (hX:X=(x.toNat:Int)):
  Ap w ((v.alloc (.cells #[.int .u8 X] 5 (1,2))).setCell ⟨w.heap.size,14,none⟩ (.slice (some ⟨v.heap.size,0,none⟩) 1 1)) nm (smL b k d ol ro none [] ep of (some ⟨v.heap.size,0,none⟩) [x]):=by
 subst hX;have hs:=s.sz;have s1:=s.alloc (.cells #[.int .u8 (x.toNat:Int)] 5 (1,2));have aF:=heap_alloc_new v (.cells #[.int .u8 (x.toNat:Int)] 5 (1,2));have hgz:=hs;generalize v.alloc (.cells #[.int .u8 (x.toNat:Int)] 5 (1,2))=v1 at*;generalize v.heap.size=g at*;have h5:RowAt v1 (w.heap.size+2) 5 1 (some ⟨g,0,none⟩) 1 1 [.int .u8 (x.toNat:Int)]:=RowAt.blkF (cs:=#[.int .u8 (x.toNat:Int)]) aF (by omega) rfl (by omega) (fun j hj=>by simp [World.frozen?,aF];omega);have h:=s1.own;refine s1.base 14 _ rfl (I4 s1.b ?_ rfl);exact ⟨h.past,h.path,h.nodes,h5,h.refs,h.guards,h.boxes,h.hist,h.seals⟩
theorem Af2 (b:Int) (n:Nat) (w:World) (hb:I64 b) (hn:n<=1000000):
  Calls zp 91 #[.agg #[.int .i64 b,.int .i64 0,.int .i64 0,.int .i64 0,.slice none 0 0,.int .i64 0,.int .i64 0,.int .i64 0,.int .i64 0,.slice none 0 0,.int .i64 0,.int .i64 0,.int .u64 0,.int .i64 0,.slice none 0 0,.slice none 0 0,.int .i64 0,.int .i64 0,.int .u64 0,.slice none 0 0,.int .i64 0,.int .i64 0,.slice none 0 0,.int .u64 0,.slice none 0 0,.int .u64 0,.int .u64 0],.int .i64 (n:Int)] w (Lk b w):=by
 have hi:(zp.info? 44).map (·.size)=some 27:=by kernel_rfl
 have s0:Ap w (((w.alloc (.cells #[.int .i64 b,.int .i64 0,.int .i64 0,.int .i64 0,.slice none 0 0,.int .i64 0,.int .i64 0,.int .i64 0,.int .i64 0,.slice none 0 0,.int .i64 0,.int .i64 0,.int .u64 0,.int .i64 0,.slice none 0 0,.slice none 0 0,.int .i64 0,.int .i64 0,.int .u64 0,.slice none 0 0,.int .i64 0,.int .i64 0,.slice none 0 0,.int .u64 0,.slice none 0 0,.int .u64 0,.int .u64 0] 44)).alloc (.cells zO 44)).alloc (.cells #[.int .i64 (1+(n:Int)%3),.int .i64 1,.int .u64 ((n:Int)/3%3)] 38)) #[.int .i64 (1+(n:Int)%3),.int .i64 1,.int .u64 ((n:Int)/3%3)] (smL b 0 0 0 0 none [] ⟨0,0,0⟩ ⟨0,0,0⟩ none []):=by
  refine ⟨((Blk.new w 44 #[.int .i64 b,.int .i64 0,.int .i64 0,.int .i64 0,.slice none 0 0,.int .i64 0,.int .i64 0,.int .i64 0,.int .i64 0,.slice none 0 0,.int .i64 0,.int .i64 0,.int .u64 0,.int .i64 0,.slice none 0 0,.slice none 0 0,.int .i64 0,.int .i64 0,.int .u64 0,.slice none 0 0,.int .i64 0,.int .i64 0,.slice none 0 0,.int .u64 0,.slice none 0 0,.int .u64 0,.int .u64 0]).alloc (.cells zO 44)).alloc (.cells #[.int .i64 (1+(n:Int)%3),.int .i64 1,.int .u64 ((n:Int)/3%3)] 38),?_,?_,(((Fr.refl Non w).alloc _).alloc _).alloc _,?_,Af0 (Own.nil _ _ _ _) (fun y hy=>absurd hy An3) (RowAt.nil _ _ _ _)⟩
  ·
   have r0:=(Blk.new (w.alloc (.cells #[.int .i64 b,.int .i64 0,.int .i64 0,.int .i64 0,.slice none 0 0,.int .i64 0,.int .i64 0,.int .i64 0,.int .i64 0,.slice none 0 0,.int .i64 0,.int .i64 0,.int .u64 0,.int .i64 0,.slice none 0 0,.slice none 0 0,.int .i64 0,.int .i64 0,.int .u64 0,.slice none 0 0,.int .i64 0,.int .i64 0,.slice none 0 0,.int .u64 0,.slice none 0 0,.int .u64 0,.int .u64 0] 44)) 44 zO).alloc (.cells #[.int .i64 (1+(n:Int)%3),.int .i64 1,.int .u64 ((n:Int)/3%3)] 38);rw [An4] at r0;exact r0
  ·
   have n0:=Blk.new ((w.alloc (.cells #[.int .i64 b,.int .i64 0,.int .i64 0,.int .i64 0,.slice none 0 0,.int .i64 0,.int .i64 0,.int .i64 0,.int .i64 0,.slice none 0 0,.int .i64 0,.int .i64 0,.int .u64 0,.int .i64 0,.slice none 0 0,.slice none 0 0,.int .i64 0,.int .i64 0,.int .u64 0,.slice none 0 0,.int .i64 0,.int .i64 0,.slice none 0 0,.int .u64 0,.slice none 0 0,.int .u64 0,.int .u64 0] 44)).alloc (.cells zO 44)) 38 #[.int .i64 (1+(n:Int)%3),.int .i64 1,.int .u64 ((n:Int)/3%3)];rw [An4,An4] at n0;exact n0
  ·
   rw [An4,An4,An4];exact An5 _
 have kc:=lh (fun k w'=>Gt k w');have hm:n%8=0\/n%8=1\/n%8=2\/n%8=3\/n%8=4\/n%8=5\/n%8=6\/n%8=7:=by omega
 have ah:Hid (∀(y:OpL) (w1 wz:World),y.by_=b->y.op.ok->y.own w1 (w.heap.size+2)->Fr Non w w1->Fr (One (w.heap.size+1)) w1 wz->Lk b w (.returned (.agg y.cells)) wz):=by
  intro y w1 wz h1 h2 h3 h4 h5;refine ⟨y,rfl,h1,h2,?_,h4.trans h5 (fun k hk e=>absurd hk (by have e2:k=w.heap.size+1:=e;omega))⟩
  have aa:∀(t:TypeId) (sz m c:Nat) (A:Option Addr) (xs:List Value),RowAt w1 (w.heap.size+2) t sz A m c xs->RowAt wz w.heap.size t sz A m c xs:=fun t sz m c A xs ho=>(ho.fr h5 (fun h0 k hk e=>by
   have e2:k=w.heap.size+1:=e
   rcases ho.2 with h6|⟨k',_,_,e3,h6,_⟩
   · exact h0 h6
   ·
    rw [e3] at hk;injection hk with hk
    have a0:k'=k:=hk;omega)).lower (by omega)
  exact ⟨aa _ _ _ _ _ _ h3.past,aa _ _ _ _ _ _ h3.path,(fun z hz=>aa _ _ _ _ _ _ (h3.nodes z hz)),aa _ _ _ _ _ _ h3.body,aa _ _ _ _ _ _ h3.refs,aa _ _ _ _ _ _ h3.guards,aa _ _ _ _ _ _ h3.boxes,aa _ _ _ _ _ _ h3.hist,(fun z hz=>aa _ _ _ _ _ _ (h3.seals z hz))⟩
 generalize Lk b w=POST at*;go_enter func91,ntmps91;go_upto_region 2 with (fail)
 generalize ((w.alloc (.cells #[.int .i64 b,.int .i64 0,.int .i64 0,.int .i64 0,.slice none 0 0,.int .i64 0,.int .i64 0,.int .i64 0,.int .i64 0,.slice none 0 0,.int .i64 0,.int .i64 0,.int .u64 0,.int .i64 0,.slice none 0 0,.slice none 0 0,.int .i64 0,.int .i64 0,.int .u64 0,.slice none 0 0,.int .i64 0,.int .i64 0,.slice none 0 0,.int .u64 0,.slice none 0 0,.int .u64 0,.int .u64 0] 44)).alloc (.cells zO 44)).alloc (.cells #[.int .i64 (1+(n:Int)%3),.int .i64 1,.int .u64 ((n:Int)/3%3)] 38)=w0 at*
 rcases hm with hm|hm|hm|hm|hm|hm|hm|hm
 focus
  have n8:(n:Int)%8=0:=by omega
  obtain ⟨q2,z2⟩:=(s0.alloc (.cells zK 3)).q 2 (x:=.int .i64 0) rfl;go_upto_region 3 with (fail)
  refine Ap.gen (G:=fun v'=>Code.wp _ _ _ _ v') ((s0.alloc (.cells zK 3)).set (k':=8) (b':=b) (d':=0) (ol':=0) (ro':=0) (ep':=⟨0,0,0⟩) (of':=⟨0,0,0⟩) 2 (.int .i64 8)) ?_;clear q2 z2 s0;intro w1 s1;obtain ⟨ai,ad⟩:=s1.q 16 (x:=.int .i64 0) rfl;obtain ⟨ae,ag⟩:=s1.q 17 (x:=.int .i64 0) rfl;obtain ⟨af,aj⟩:=s1.q 18 (x:=.int .u64 0) rfl;have c2:=(s1.q 2 (x:=.int .i64 8) rfl).1;obtain ⟨e0,e1,e2⟩:=s1.o;go_upto_region 21 with (fail)
  refine Ap.gen (G:=fun v'=>Code.wp _ _ _ _ v') (((s1.set (b':=b) (k':=8) (d':=0) (ol':=0) (ro':=0) (ep':=⟨0,0,0⟩) (of':=⟨1+(n:Int)%3,0,0⟩) 16 (.int .i64 (1+(n:Int)%3))).set (b':=b) (k':=8) (d':=0) (ol':=0) (ro':=0) (ep':=⟨0,0,0⟩) (of':=⟨1+(n:Int)%3,1,0⟩) 17 (.int .i64 1)).set (b':=b) (k':=8) (d':=0) (ol':=0) (ro':=0) (ep':=⟨0,0,0⟩) (of':=⟨1+(n:Int)%3,1,n/3%3⟩) 18 (.int .u64 ((n:Int)/3%3))) ?_;clear c2 e0 e1 e2 s1 ai ad ae ag af aj;intro w2 s2;have c2:=(s2.q 2 (x:=.int .i64 8) rfl).1;obtain ⟨e0,e1,e2⟩:=s2.o;go_upto_region 22 with (go_at_call 49;(with_reducible refine (kc.out 8 _).mono ?_);rintro _ v ⟨rfl,rfl⟩)
  refine Ap.gen (G:=fun v'=>Code.wp _ _ _ _ v') s2 ?_;clear c2 e0 e1 e2 s2;intro wz sz;have ab:(smL b 8 (0) (0) (0) none [] ⟨0,0,0⟩ ⟨1+(n:Int)%3,1,n/3%3⟩ none []).op.ok:=E4 hb ⟨by decide,by decide⟩ ⟨by omega,by omega⟩ ⟨by omega,by omega⟩ ⟨by omega,by omega⟩ ⟨by simp,(fun x hx=>absurd hx An3)⟩ (Cv _ _ _ ⟨by omega,by omega⟩ ⟨by omega,by omega⟩ (by show _<_;omega)) (Cv _ _ _ ⟨by omega,by omega⟩ ⟨by omega,by omega⟩ (by show _<_;omega)) (by simp);have ac:(smL b 8 (0) (0) (0) none [] ⟨0,0,0⟩ ⟨1+(n:Int)%3,1,n/3%3⟩ none []).by_=b:=rfl;generalize smL b 8 (0) (0) (0) none [] ⟨0,0,0⟩ ⟨1+(n:Int)%3,1,n/3%3⟩ none []=y at*
 rotate_left
 focus
  have n8:(n:Int)%8=1:=by omega
  obtain ⟨q2,z2⟩:=(s0.alloc (.cells zK 3)).q 2 (x:=.int .i64 0) rfl;go_upto_region 3 with (fail)
  refine Ap.gen (G:=fun v'=>Code.wp _ _ _ _ v') ((s0.alloc (.cells zK 3)).set (k':=2) (b':=b) (d':=0) (ol':=0) (ro':=0) (ep':=⟨0,0,0⟩) (of':=⟨0,0,0⟩) 2 (.int .i64 2)) ?_;clear q2 z2 s0;intro w1 s1;obtain ⟨q5,z5⟩:=s1.q 5 (x:=.int .i64 0) rfl;have c2:=(s1.q 2 (x:=.int .i64 2) rfl).1;obtain ⟨e0,e1,e2⟩:=s1.o;go_upto_region 6 with (fail)
  refine Ap.gen (G:=fun v'=>Code.wp _ _ _ _ v') (s1.set (b':=b) (k':=2) (d':=1+(n:Int)/8%5) (ol':=0) (ro':=0) (ep':=⟨0,0,0⟩) (of':=⟨0,0,0⟩) 5 (.int .i64 (1+(n:Int)/8%5))) ?_;clear c2 e0 e1 e2 s1 q5 z5;intro w2 s2;obtain ⟨q8,z8⟩:=s2.q 8 (x:=.int .i64 0) rfl;have c2:=(s2.q 2 (x:=.int .i64 2) rfl).1;obtain ⟨e0,e1,e2⟩:=s2.o;go_upto_region 21 with (fail)
  refine Ap.gen (G:=fun v'=>Code.wp _ _ _ _ v') (s2.set (b':=b) (k':=2) (d':=1+(n:Int)/8%5) (ol':=0) (ro':=1+(n:Int)/40%3) (ep':=⟨0,0,0⟩) (of':=⟨0,0,0⟩) 8 (.int .i64 (1+(n:Int)/40%3))) ?_;clear c2 e0 e1 e2 s2 q8 z8;intro w3 s3;have c2:=(s3.q 2 (x:=.int .i64 2) rfl).1;obtain ⟨e0,e1,e2⟩:=s3.o;go_upto_region 22 with (go_at_call 49;(with_reducible refine (kc.out 2 _).mono ?_);rintro _ v ⟨rfl,rfl⟩)
  obtain ⟨q9,z9⟩:=(s3.alloc (.cells #[.int .u64 (1+(n:Int)/8%90),.slice none 0 0] 94)).q 9 (x:=.slice none 0 0) rfl;go_upto_region 24 with (fail)
  refine Ap.gen (G:=fun v'=>Code.wp _ _ _ _ v') (s3.path (1+n/8%90) (1+(n:Int)/8%90) (by omega)) ?_;generalize w3.heap.size=gp;clear c2 e0 e1 e2 q9 z9 s3;intro wz sz;have ab:(smL b 2 (1+(n:Int)/8%5) (0) (1+(n:Int)/40%3) (some ⟨gp,0,none⟩) [⟨1+n/8%90,none,0,[]⟩] ⟨0,0,0⟩ ⟨0,0,0⟩ none []).op.ok:=E4 hb ⟨by decide,by decide⟩ ⟨by omega,by omega⟩ ⟨by omega,by omega⟩ ⟨by omega,by omega⟩ ⟨by simp,(fun x hx=>by rw [An6] at hx;subst hx;exact Ge _ (by omega))⟩ (Cv _ _ _ ⟨by omega,by omega⟩ ⟨by omega,by omega⟩ (by show _<_;omega)) (Cv _ _ _ ⟨by omega,by omega⟩ ⟨by omega,by omega⟩ (by show _<_;omega)) (by simp);have ac:(smL b 2 (1+(n:Int)/8%5) (0) (1+(n:Int)/40%3) (some ⟨gp,0,none⟩) [⟨1+n/8%90,none,0,[]⟩] ⟨0,0,0⟩ ⟨0,0,0⟩ none []).by_=b:=rfl;generalize smL b 2 (1+(n:Int)/8%5) (0) (1+(n:Int)/40%3) (some ⟨gp,0,none⟩) [⟨1+n/8%90,none,0,[]⟩] ⟨0,0,0⟩ ⟨0,0,0⟩ none []=y at*
 rotate_left
 focus
  have n8:(n:Int)%8=2:=by omega
  obtain ⟨q2,z2⟩:=(s0.alloc (.cells zK 3)).q 2 (x:=.int .i64 0) rfl;go_upto_region 3 with (fail)
  refine Ap.gen (G:=fun v'=>Code.wp _ _ _ _ v') ((s0.alloc (.cells zK 3)).set (k':=3) (b':=b) (d':=0) (ol':=0) (ro':=0) (ep':=⟨0,0,0⟩) (of':=⟨0,0,0⟩) 2 (.int .i64 3)) ?_;clear q2 z2 s0;intro w1 s1;obtain ⟨q5,z5⟩:=s1.q 5 (x:=.int .i64 0) rfl;have c2:=(s1.q 2 (x:=.int .i64 3) rfl).1;obtain ⟨e0,e1,e2⟩:=s1.o;go_upto_region 21 with (fail)
  refine Ap.gen (G:=fun v'=>Code.wp _ _ _ _ v') (s1.set (b':=b) (k':=3) (d':=1+(n:Int)/8%5) (ol':=0) (ro':=0) (ep':=⟨0,0,0⟩) (of':=⟨0,0,0⟩) 5 (.int .i64 (1+(n:Int)/8%5))) ?_;clear c2 e0 e1 e2 s1 q5 z5;intro w2 s2;have c2:=(s2.q 2 (x:=.int .i64 3) rfl).1;obtain ⟨e0,e1,e2⟩:=s2.o;go_upto_region 22 with (go_at_call 49;(with_reducible refine (kc.out 3 _).mono ?_);rintro _ v ⟨rfl,rfl⟩)
  obtain ⟨q9,z9⟩:=(s2.alloc (.cells #[.int .u64 (1+(n:Int)/8%90),.slice none 0 0] 94)).q 9 (x:=.slice none 0 0) rfl;go_upto_region 24 with (fail)
  refine Ap.gen (G:=fun v'=>Code.wp _ _ _ _ v') (s2.path (1+n/8%90) (1+(n:Int)/8%90) (by omega)) ?_;generalize w2.heap.size=gp;clear c2 e0 e1 e2 q9 z9 s2;intro wz sz;have ab:(smL b 3 (1+(n:Int)/8%5) (0) (0) (some ⟨gp,0,none⟩) [⟨1+n/8%90,none,0,[]⟩] ⟨0,0,0⟩ ⟨0,0,0⟩ none []).op.ok:=E4 hb ⟨by decide,by decide⟩ ⟨by omega,by omega⟩ ⟨by omega,by omega⟩ ⟨by omega,by omega⟩ ⟨by simp,(fun x hx=>by rw [An6] at hx;subst hx;exact Ge _ (by omega))⟩ (Cv _ _ _ ⟨by omega,by omega⟩ ⟨by omega,by omega⟩ (by show _<_;omega)) (Cv _ _ _ ⟨by omega,by omega⟩ ⟨by omega,by omega⟩ (by show _<_;omega)) (by simp);have ac:(smL b 3 (1+(n:Int)/8%5) (0) (0) (some ⟨gp,0,none⟩) [⟨1+n/8%90,none,0,[]⟩] ⟨0,0,0⟩ ⟨0,0,0⟩ none []).by_=b:=rfl;generalize smL b 3 (1+(n:Int)/8%5) (0) (0) (some ⟨gp,0,none⟩) [⟨1+n/8%90,none,0,[]⟩] ⟨0,0,0⟩ ⟨0,0,0⟩ none []=y at*
 rotate_left
 focus
  have n8:(n:Int)%8=3:=by omega
  obtain ⟨q2,z2⟩:=(s0.alloc (.cells zK 3)).q 2 (x:=.int .i64 0) rfl;go_upto_region 3 with (fail)
  refine Ap.gen (G:=fun v'=>Code.wp _ _ _ _ v') ((s0.alloc (.cells zK 3)).set (k':=4) (b':=b) (d':=0) (ol':=0) (ro':=0) (ep':=⟨0,0,0⟩) (of':=⟨0,0,0⟩) 2 (.int .i64 4)) ?_;clear q2 z2 s0;intro w1 s1;have c2:=(s1.q 2 (x:=.int .i64 4) rfl).1;obtain ⟨e0,e1,e2⟩:=s1.o;go_upto_region 21 with (fail)
  refine Ap.gen (G:=fun v'=>Code.wp _ _ _ _ v') s1 ?_;clear c2 e0 e1 e2 s1;intro w2 s2;have c2:=(s2.q 2 (x:=.int .i64 4) rfl).1;obtain ⟨e0,e1,e2⟩:=s2.o;go_upto_region 22 with (go_at_call 49;(with_reducible refine (kc.out 4 _).mono ?_);rintro _ v ⟨rfl,rfl⟩)
  obtain ⟨q9,z9⟩:=(s2.alloc (.cells #[.int .u64 (1+(n:Int)/8%90),.slice none 0 0] 94)).q 9 (x:=.slice none 0 0) rfl;go_upto_region 24 with (fail)
  refine Ap.gen (G:=fun v'=>Code.wp _ _ _ _ v') (s2.path (1+n/8%90) (1+(n:Int)/8%90) (by omega)) ?_;generalize w2.heap.size=gp;clear c2 e0 e1 e2 q9 z9 s2;intro wz sz;have ab:(smL b 4 (0) (0) (0) (some ⟨gp,0,none⟩) [⟨1+n/8%90,none,0,[]⟩] ⟨0,0,0⟩ ⟨0,0,0⟩ none []).op.ok:=E4 hb ⟨by decide,by decide⟩ ⟨by omega,by omega⟩ ⟨by omega,by omega⟩ ⟨by omega,by omega⟩ ⟨by simp,(fun x hx=>by rw [An6] at hx;subst hx;exact Ge _ (by omega))⟩ (Cv _ _ _ ⟨by omega,by omega⟩ ⟨by omega,by omega⟩ (by show _<_;omega)) (Cv _ _ _ ⟨by omega,by omega⟩ ⟨by omega,by omega⟩ (by show _<_;omega)) (by simp);have ac:(smL b 4 (0) (0) (0) (some ⟨gp,0,none⟩) [⟨1+n/8%90,none,0,[]⟩] ⟨0,0,0⟩ ⟨0,0,0⟩ none []).by_=b:=rfl;generalize smL b 4 (0) (0) (0) (some ⟨gp,0,none⟩) [⟨1+n/8%90,none,0,[]⟩] ⟨0,0,0⟩ ⟨0,0,0⟩ none []=y at*
 rotate_left
 focus
  have n8:(n:Int)%8=4:=by omega
  obtain ⟨q2,z2⟩:=(s0.alloc (.cells zK 3)).q 2 (x:=.int .i64 0) rfl;go_upto_region 3 with (fail)
  refine Ap.gen (G:=fun v'=>Code.wp _ _ _ _ v') ((s0.alloc (.cells zK 3)).set (k':=2) (b':=b) (d':=0) (ol':=0) (ro':=0) (ep':=⟨0,0,0⟩) (of':=⟨0,0,0⟩) 2 (.int .i64 2)) ?_;clear q2 z2 s0;intro w1 s1;obtain ⟨q5,z5⟩:=s1.q 5 (x:=.int .i64 0) rfl;have c2:=(s1.q 2 (x:=.int .i64 2) rfl).1;obtain ⟨e0,e1,e2⟩:=s1.o;go_upto_region 6 with (fail)
  refine Ap.gen (G:=fun v'=>Code.wp _ _ _ _ v') (s1.set (b':=b) (k':=2) (d':=1+(n:Int)/8%5) (ol':=0) (ro':=0) (ep':=⟨0,0,0⟩) (of':=⟨0,0,0⟩) 5 (.int .i64 (1+(n:Int)/8%5))) ?_;clear c2 e0 e1 e2 s1 q5 z5;intro w2 s2;obtain ⟨q8,z8⟩:=s2.q 8 (x:=.int .i64 0) rfl;have c2:=(s2.q 2 (x:=.int .i64 2) rfl).1;obtain ⟨e0,e1,e2⟩:=s2.o;go_upto_region 21 with (fail)
  refine Ap.gen (G:=fun v'=>Code.wp _ _ _ _ v') (s2.set (b':=b) (k':=2) (d':=1+(n:Int)/8%5) (ol':=0) (ro':=1+(n:Int)/40%3) (ep':=⟨0,0,0⟩) (of':=⟨0,0,0⟩) 8 (.int .i64 (1+(n:Int)/40%3))) ?_;clear c2 e0 e1 e2 s2 q8 z8;intro w3 s3;have c2:=(s3.q 2 (x:=.int .i64 2) rfl).1;obtain ⟨e0,e1,e2⟩:=s3.o;go_upto_region 22 with (go_at_call 49;(with_reducible refine (kc.out 2 _).mono ?_);rintro _ v ⟨rfl,rfl⟩)
  obtain ⟨q9,z9⟩:=(s3.alloc (.cells #[.int .u64 (1+(n:Int)/8%90),.slice none 0 0] 94)).q 9 (x:=.slice none 0 0) rfl;go_upto_region 24 with (fail)
  refine Ap.gen (G:=fun v'=>Code.wp _ _ _ _ v') (s3.path (1+n/8%90) (1+(n:Int)/8%90) (by omega)) ?_;generalize w3.heap.size=gp;clear c2 e0 e1 e2 q9 z9 s3;intro wz sz;have ab:(smL b 2 (1+(n:Int)/8%5) (0) (1+(n:Int)/40%3) (some ⟨gp,0,none⟩) [⟨1+n/8%90,none,0,[]⟩] ⟨0,0,0⟩ ⟨0,0,0⟩ none []).op.ok:=E4 hb ⟨by decide,by decide⟩ ⟨by omega,by omega⟩ ⟨by omega,by omega⟩ ⟨by omega,by omega⟩ ⟨by simp,(fun x hx=>by rw [An6] at hx;subst hx;exact Ge _ (by omega))⟩ (Cv _ _ _ ⟨by omega,by omega⟩ ⟨by omega,by omega⟩ (by show _<_;omega)) (Cv _ _ _ ⟨by omega,by omega⟩ ⟨by omega,by omega⟩ (by show _<_;omega)) (by simp);have ac:(smL b 2 (1+(n:Int)/8%5) (0) (1+(n:Int)/40%3) (some ⟨gp,0,none⟩) [⟨1+n/8%90,none,0,[]⟩] ⟨0,0,0⟩ ⟨0,0,0⟩ none []).by_=b:=rfl;generalize smL b 2 (1+(n:Int)/8%5) (0) (1+(n:Int)/40%3) (some ⟨gp,0,none⟩) [⟨1+n/8%90,none,0,[]⟩] ⟨0,0,0⟩ ⟨0,0,0⟩ none []=y at*
 rotate_left
 focus
  have n8:(n:Int)%8=5:=by omega
  obtain ⟨q2,z2⟩:=(s0.alloc (.cells zK 3)).q 2 (x:=.int .i64 0) rfl;go_upto_region 3 with (fail)
  refine Ap.gen (G:=fun v'=>Code.wp _ _ _ _ v') ((s0.alloc (.cells zK 3)).set (k':=6) (b':=b) (d':=0) (ol':=0) (ro':=0) (ep':=⟨0,0,0⟩) (of':=⟨0,0,0⟩) 2 (.int .i64 6)) ?_;clear q2 z2 s0;intro w1 s1;obtain ⟨aw,az⟩:=s1.q 10 (x:=.int .i64 0) rfl;obtain ⟨av,au⟩:=s1.q 11 (x:=.int .i64 0) rfl;obtain ⟨ar,ax⟩:=s1.q 12 (x:=.int .u64 0) rfl;have c2:=(s1.q 2 (x:=.int .i64 6) rfl).1;obtain ⟨e0,e1,e2⟩:=s1.o;go_upto_region 11 with (fail)
  refine Ap.gen (G:=fun v'=>Code.wp _ _ _ _ v') (((s1.set (b':=b) (k':=6) (d':=0) (ol':=0) (ro':=0) (ep':=⟨1+(n:Int)%3,0,0⟩) (of':=⟨0,0,0⟩) 10 (.int .i64 (1+(n:Int)%3))).set (b':=b) (k':=6) (d':=0) (ol':=0) (ro':=0) (ep':=⟨1+(n:Int)%3,1,0⟩) (of':=⟨0,0,0⟩) 11 (.int .i64 1)).set (b':=b) (k':=6) (d':=0) (ol':=0) (ro':=0) (ep':=⟨1+(n:Int)%3,1,n/3%3⟩) (of':=⟨0,0,0⟩) 12 (.int .u64 ((n:Int)/3%3))) ?_;clear c2 e0 e1 e2 s1 aw az av au ar ax;intro w2 s2;obtain ⟨ao,ap⟩:=(s2.alloc (.cells #[.int .u8 ((n:Int)/8%256)] 5)).q 14 (x:=.slice none 0 0) rfl;have c2:=(s2.q 2 (x:=.int .i64 6) rfl).1;obtain ⟨e0,e1,e2⟩:=s2.o;go_upto_region 21 with (fail)
  refine Ap.gen (G:=fun v'=>Code.wp _ _ _ _ v') (s2.body (UInt8.ofNat (n/8)) ((n:Int)/8%256) (by rw [UInt8.toNat_ofNat'];omega)) ?_;generalize w2.heap.size=gb;clear c2 e0 e1 e2 s2 ao ap;intro w3 s3;have c2:=(s3.q 2 (x:=.int .i64 6) rfl).1;obtain ⟨e0,e1,e2⟩:=s3.o;go_upto_region 22 with (go_at_call 49;(with_reducible refine (kc.out 6 _).mono ?_);rintro _ v ⟨rfl,rfl⟩)
  refine Ap.gen (G:=fun v'=>Code.wp _ _ _ _ v') s3 ?_;clear c2 e0 e1 e2 s3;intro wz sz;have ab:(smL b 6 (0) (0) (0) none [] ⟨1+(n:Int)%3,1,n/3%3⟩ ⟨0,0,0⟩ (some ⟨gb,0,none⟩) [UInt8.ofNat (n/8)]).op.ok:=E4 hb ⟨by decide,by decide⟩ ⟨by omega,by omega⟩ ⟨by omega,by omega⟩ ⟨by omega,by omega⟩ ⟨by simp,(fun x hx=>absurd hx An3)⟩ (Cv _ _ _ ⟨by omega,by omega⟩ ⟨by omega,by omega⟩ (by show _<_;omega)) (Cv _ _ _ ⟨by omega,by omega⟩ ⟨by omega,by omega⟩ (by show _<_;omega)) (by simp);have ac:(smL b 6 (0) (0) (0) none [] ⟨1+(n:Int)%3,1,n/3%3⟩ ⟨0,0,0⟩ (some ⟨gb,0,none⟩) [UInt8.ofNat (n/8)]).by_=b:=rfl;generalize smL b 6 (0) (0) (0) none [] ⟨1+(n:Int)%3,1,n/3%3⟩ ⟨0,0,0⟩ (some ⟨gb,0,none⟩) [UInt8.ofNat (n/8)]=y at*
 rotate_left
 focus
  have n8:(n:Int)%8=6:=by omega
  obtain ⟨q2,z2⟩:=(s0.alloc (.cells zK 3)).q 2 (x:=.int .i64 0) rfl;go_upto_region 3 with (fail)
  refine Ap.gen (G:=fun v'=>Code.wp _ _ _ _ v') ((s0.alloc (.cells zK 3)).set (k':=7) (b':=b) (d':=0) (ol':=0) (ro':=0) (ep':=⟨0,0,0⟩) (of':=⟨0,0,0⟩) 2 (.int .i64 7)) ?_;clear q2 z2 s0;intro w1 s1;obtain ⟨ai,ad⟩:=s1.q 16 (x:=.int .i64 0) rfl;obtain ⟨ae,ag⟩:=s1.q 17 (x:=.int .i64 0) rfl;obtain ⟨af,aj⟩:=s1.q 18 (x:=.int .u64 0) rfl;have c2:=(s1.q 2 (x:=.int .i64 7) rfl).1;obtain ⟨e0,e1,e2⟩:=s1.o;go_upto_region 14 with (fail)
  refine Ap.gen (G:=fun v'=>Code.wp _ _ _ _ v') (((s1.set (b':=b) (k':=7) (d':=0) (ol':=0) (ro':=0) (ep':=⟨0,0,0⟩) (of':=⟨1+(n:Int)%3,0,0⟩) 16 (.int .i64 (1+(n:Int)%3))).set (b':=b) (k':=7) (d':=0) (ol':=0) (ro':=0) (ep':=⟨0,0,0⟩) (of':=⟨1+(n:Int)%3,1,0⟩) 17 (.int .i64 1)).set (b':=b) (k':=7) (d':=0) (ol':=0) (ro':=0) (ep':=⟨0,0,0⟩) (of':=⟨1+(n:Int)%3,1,n/3%3⟩) 18 (.int .u64 ((n:Int)/3%3))) ?_;clear c2 e0 e1 e2 s1 ai ad ae ag af aj;intro w2 s2;obtain ⟨ao,ap⟩:=(s2.alloc (.cells #[.int .u8 43] 5 (1,2))).q 14 (x:=.slice none 0 0) rfl;have a1:=fun (w:World) (C:Array Value) (n c:Nat)=>Lib.run_convert_bytes_const (P:=zp) w 39 5 C n c underlying39 underlying5;have c2:=(s2.q 2 (x:=.int .i64 7) rfl).1;obtain ⟨e0,e1,e2⟩:=s2.o;go_upto_region 21 with (fail)
  refine Ap.gen (G:=fun v'=>Code.wp _ _ _ _ v') (s2.bodyF (43) (43) rfl) ?_;generalize w2.heap.size=gb;clear c2 e0 e1 e2 s2 ao ap;intro w3 s3;have c2:=(s3.q 2 (x:=.int .i64 7) rfl).1;obtain ⟨e0,e1,e2⟩:=s3.o;go_upto_region 22 with (go_at_call 49;(with_reducible refine (kc.out 7 _).mono ?_);rintro _ v ⟨rfl,rfl⟩)
  refine Ap.gen (G:=fun v'=>Code.wp _ _ _ _ v') s3 ?_;clear c2 e0 e1 e2 s3;intro wz sz;have ab:(smL b 7 (0) (0) (0) none [] ⟨0,0,0⟩ ⟨1+(n:Int)%3,1,n/3%3⟩ (some ⟨gb,0,none⟩) [43]).op.ok:=E4 hb ⟨by decide,by decide⟩ ⟨by omega,by omega⟩ ⟨by omega,by omega⟩ ⟨by omega,by omega⟩ ⟨by simp,(fun x hx=>absurd hx An3)⟩ (Cv _ _ _ ⟨by omega,by omega⟩ ⟨by omega,by omega⟩ (by show _<_;omega)) (Cv _ _ _ ⟨by omega,by omega⟩ ⟨by omega,by omega⟩ (by show _<_;omega)) (by simp);have ac:(smL b 7 (0) (0) (0) none [] ⟨0,0,0⟩ ⟨1+(n:Int)%3,1,n/3%3⟩ (some ⟨gb,0,none⟩) [43]).by_=b:=rfl;generalize smL b 7 (0) (0) (0) none [] ⟨0,0,0⟩ ⟨1+(n:Int)%3,1,n/3%3⟩ (some ⟨gb,0,none⟩) [43]=y at*
 rotate_left
 focus
  have n8:(n:Int)%8=7:=by omega
  obtain ⟨q2,z2⟩:=(s0.alloc (.cells zK 3)).q 2 (x:=.int .i64 0) rfl;go_upto_region 3 with (fail)
  refine Ap.gen (G:=fun v'=>Code.wp _ _ _ _ v') ((s0.alloc (.cells zK 3)).set (k':=13) (b':=b) (d':=0) (ol':=0) (ro':=0) (ep':=⟨0,0,0⟩) (of':=⟨0,0,0⟩) 2 (.int .i64 13)) ?_;clear q2 z2 s0;intro w1 s1;obtain ⟨ai,ad⟩:=s1.q 16 (x:=.int .i64 0) rfl;obtain ⟨ae,ag⟩:=s1.q 17 (x:=.int .i64 0) rfl;obtain ⟨af,aj⟩:=s1.q 18 (x:=.int .u64 0) rfl;have c2:=(s1.q 2 (x:=.int .i64 13) rfl).1;obtain ⟨e0,e1,e2⟩:=s1.o;go_upto_region 17 with (fail)
  refine Ap.gen (G:=fun v'=>Code.wp _ _ _ _ v') (((s1.set (b':=b) (k':=13) (d':=0) (ol':=0) (ro':=0) (ep':=⟨0,0,0⟩) (of':=⟨1+(n:Int)%3,0,0⟩) 16 (.int .i64 (1+(n:Int)%3))).set (b':=b) (k':=13) (d':=0) (ol':=0) (ro':=0) (ep':=⟨0,0,0⟩) (of':=⟨1+(n:Int)%3,1,0⟩) 17 (.int .i64 1)).set (b':=b) (k':=13) (d':=0) (ol':=0) (ro':=0) (ep':=⟨0,0,0⟩) (of':=⟨1+(n:Int)%3,1,n/3%3⟩) 18 (.int .u64 ((n:Int)/3%3))) ?_;clear c2 e0 e1 e2 s1 ai ad ae ag af aj;intro w2 s2;obtain ⟨q5,z5⟩:=s2.q 5 (x:=.int .i64 0) rfl;have c2:=(s2.q 2 (x:=.int .i64 13) rfl).1;obtain ⟨e0,e1,e2⟩:=s2.o;go_upto_region 18 with (fail)
  refine Ap.gen (G:=fun v'=>Code.wp _ _ _ _ v') (s2.set (b':=b) (k':=13) (d':=1+(n:Int)/8%5) (ol':=0) (ro':=0) (ep':=⟨0,0,0⟩) (of':=⟨1+(n:Int)%3,1,n/3%3⟩) 5 (.int .i64 (1+(n:Int)/8%5))) ?_;clear c2 e0 e1 e2 s2 q5 z5;intro w3 s3;obtain ⟨q6,z6⟩:=s3.q 6 (x:=.int .i64 0) rfl;have c2:=(s3.q 2 (x:=.int .i64 13) rfl).1;obtain ⟨e0,e1,e2⟩:=s3.o;go_upto_region 21 with (fail)
  refine Ap.gen (G:=fun v'=>Code.wp _ _ _ _ v') (s3.set (b':=b) (k':=13) (d':=1+(n:Int)/8%5) (ol':=1+(n:Int)/40%5) (ro':=0) (ep':=⟨0,0,0⟩) (of':=⟨1+(n:Int)%3,1,n/3%3⟩) 6 (.int .i64 (1+(n:Int)/40%5))) ?_;clear c2 e0 e1 e2 s3 q6 z6;intro w4 s4;have c2:=(s4.q 2 (x:=.int .i64 13) rfl).1;obtain ⟨e0,e1,e2⟩:=s4.o;go_upto_region 22 with (go_at_call 49;(with_reducible refine (kc.out 13 _).mono ?_);rintro _ v ⟨rfl,rfl⟩)
  obtain ⟨q9,z9⟩:=(s4.alloc (.cells #[.int .u64 (1+(n:Int)/8%90),.slice none 0 0] 94)).q 9 (x:=.slice none 0 0) rfl;go_upto_region 24 with (fail)
  refine Ap.gen (G:=fun v'=>Code.wp _ _ _ _ v') (s4.path (1+n/8%90) (1+(n:Int)/8%90) (by omega)) ?_;generalize w4.heap.size=gp;clear c2 e0 e1 e2 q9 z9 s4;intro wz sz;have ab:(smL b 13 (1+(n:Int)/8%5) (1+(n:Int)/40%5) (0) (some ⟨gp,0,none⟩) [⟨1+n/8%90,none,0,[]⟩] ⟨0,0,0⟩ ⟨1+(n:Int)%3,1,n/3%3⟩ none []).op.ok:=E4 hb ⟨by decide,by decide⟩ ⟨by omega,by omega⟩ ⟨by omega,by omega⟩ ⟨by omega,by omega⟩ ⟨by simp,(fun x hx=>by rw [An6] at hx;subst hx;exact Ge _ (by omega))⟩ (Cv _ _ _ ⟨by omega,by omega⟩ ⟨by omega,by omega⟩ (by show _<_;omega)) (Cv _ _ _ ⟨by omega,by omega⟩ ⟨by omega,by omega⟩ (by show _<_;omega)) (by simp);have ac:(smL b 13 (1+(n:Int)/8%5) (1+(n:Int)/40%5) (0) (some ⟨gp,0,none⟩) [⟨1+n/8%90,none,0,[]⟩] ⟨0,0,0⟩ ⟨1+(n:Int)%3,1,n/3%3⟩ none []).by_=b:=rfl;generalize smL b 13 (1+(n:Int)/8%5) (1+(n:Int)/40%5) (0) (some ⟨gp,0,none⟩) [⟨1+n/8%90,none,0,[]⟩] ⟨0,0,0⟩ ⟨1+(n:Int)%3,1,n/3%3⟩ none []=y at*
 all_goals
  have al:=Cn y;have ak:(zp.info? 44).map (·.size)=some y.cells.size:=hi;have bz:=sz.b;have rz:=sz.r;have hd:=lh (fun wq hq=>ah.out y wz wq ac ab sz.own sz.f hq);clear ah ab ac sz;generalize y.cells=CS at*;have hl:=Bb (P:=zp) w.heap.size 44 underlying44 rfl ak;have a2:=Ch (P:=zp) (w.heap.size+1) 44 ak (old:=OpL.zero.cells) (by have h:=hi;rw [ak] at h;injection h with h;rw [h];rfl) al;go_wp2_with fail;have ay:=rz.setRow (cs:=CS);have aq:=lh (hd.out _ ((Fr.refl (One (w.heap.size+1)) wz).setRow (g:=w.heap.size+1) (fun _=>rfl) CS))
  (try simp only [Exit.inBlock,Exit.then])
  refine C8 (t:=44) rfl rfl ay rfl underlying44 ak rfl ?_;exact aq.out
end Oq
namespace Oq
def sgn (o:Op):Op:={o with r:=Sg.r (sec Bd o.by_.toNat) o.bare,s:=Sg.s (sec Bd o.by_.toNat) o.bare}
theorem Ll (o:Op) (R S:Nat):({o with r:=R,s:=S}:Op).chk=o.chk:=rfl
theorem Lm (o:Op) (R S:Nat):({o with r:=R,s:=S}:Op).bare=o.bare:=rfl
theorem Af3 (o:Op) (R S:Nat):({o with r:=R,s:=S}:Op).id=o.id:=by unfold Op.id;rw [Lm]
theorem Ln (o:Op) (R S:Nat):({o with r:=R,s:=S}:Op).name=o.name:=by
 unfold Op.name;rw [Af3]
theorem Af4 (l:List Pn) (p:Nat->Bool) (o:Op) (R S:Nat):Ba l p ({o with r:=R,s:=S}:Op)=Ba l p o:=rfl
theorem E5 (o:Op):∃R S,sgn o={o with r:=R,s:=S}/\Sg.check (Sg.pub (sec Bd o.by_.toNat)) o.bare R S=true:=
 ⟨_,_,rfl,Sg.takes _ _ (Nat.lt_trans (Gw _ _) (by decide))⟩
theorem Gf (o:Op):(sgn o).name=o.name:=by
 obtain ⟨R,S,h,_⟩:=E5 o;rw [h,Ln]
theorem Af5 (o:Op):(sgn o).chk=o.chk:=by
 obtain ⟨R,S,h,_⟩:=E5 o;rw [h,Ll]
theorem I5 (o:Op):(sgn o).by_=o.by_:=by
 obtain ⟨R,S,h,_⟩:=E5 o;rw [h]
theorem Rl (o:Op):(sgn o).sq=o.sq:=by
 obtain ⟨R,S,h,_⟩:=E5 o;rw [h]
theorem Lo (o:Op):(sgn o).at_=o.at_:=by
 obtain ⟨R,S,h,_⟩:=E5 o;rw [h]
theorem Rm (o:Op):(sgn o).past=o.past:=by
 obtain ⟨R,S,h,_⟩:=E5 o;rw [h]
theorem G8 {cards:List Cd} {l:List Pn} {o:Op} {c:Cd} (h1:o.chk=0) (h2:plc l o.name=none) (h3:l.length<200) (h4:Bk cards o.by_=some c) (h5:c.s=Sg.pub (sec Bd o.by_.toNat)) (h6:o.kind≠1\/l=[])
  (h7:o.past.any (fun id=>(plc l id).isNone)=false) (h8:clash l o.past=false) (h9:late l o.past<=o.at_) (h10:Ba l (Aj l o.past) o=false):Ah cards l (sgn o)=0:=by
 obtain ⟨R,S,e,hc⟩:=E5 o;rw [e];unfold Ah;rw [Ll,Ln,h1,h2,if_neg (by simp),if_neg (by simp),if_neg (by omega)];rw [show ({o with r:=R,s:=S}:Op).by_=o.by_ from rfl,h4];dsimp only;rw [Lm,h5,hc,if_neg (by simp),if_neg (by rcases h6 with h|h<;>simp [h]),h7,if_neg (by simp),h8,if_neg (by simp;omega),Af4,h10]
 simp
theorem Af6 {cards:List Cd} {l:List Pn} {o:Op} {c:Cd} (h1:o.chk=0) (h2:plc l o.name=none) (h3:l.length<200) (h4:Bk cards o.by_=some c) (h5:c.s=Sg.pub (sec Bd o.by_.toNat)) (h6:o.kind≠1\/l=[])
  (h7:o.past.any (fun id=>(plc l id).isNone)=true):Ah cards l (sgn o)=10:=by
 obtain ⟨R,S,e,hc⟩:=E5 o;rw [e];unfold Ah;rw [Ll,Ln,h1,h2,if_neg (by simp),if_neg (by simp),if_neg (by omega)];rw [show ({o with r:=R,s:=S}:Op).by_=o.by_ from rfl,h4];dsimp only;rw [Lm,h5,hc,if_neg (by simp),if_neg (by rcases h6 with h|h<;>simp [h]),h7,if_pos rfl]
theorem Af7 {cards:List Cd} {l:List Pn} {o:Op} (h1:o.chk=0) (h2:(plc l o.name).isSome=true):Ah cards l o=5:=by
 unfold Ah;rw [h1,if_neg (by simp),if_pos h2]
def Du (b s a:Int) (past:List Id):Op:={base b s 8 a past [] with of:=⟨1,1,0⟩}
def G9 (b:Int):Op:={base b 1 1 0 [] [] with need:=0}
theorem Lp {b s a:Int} {past:List Id} (hb:1<=b/\b<=12) (hs:1<=s/\s<=2147483647) (ha:0<=a/\a<=2147483647) (hp:past.length<=12/\(∀x∈past,x.named=true)/\Row past/\past≠[]):(Du b s a past).chk=0:=
 Nn (h:=⟨by omega,hb,hs,ha,⟨hp.1,hp.2.1,hp.2.2.1,by simp [hp.2.2.2]⟩,⟨by simp,by simp,.inl rfl⟩⟩) (J4 (x:=⟨1,1,0⟩) ⟨by decide,by decide⟩ ⟨by decide,by decide⟩ (by unfold FP;decide))
theorem Af8 {b:Int} (hb:1<=b/\b<=12):(G9 b).chk=0:=
 J6 (h:=⟨by omega,hb,by omega,by omega,⟨by simp,by simp,List.Pairwise.nil,by simp⟩,⟨by simp,by simp,.inl rfl⟩⟩) (Ao (by omega))
theorem id_lt (o:Op):o.id<FP:=by unfold FP;exact Hs.of_lt _ _
theorem Af9 {b s:Int} {u:Nat} (hb:1<=b/\b<=12) (hs:1<=s/\s<=2147483647) (hu:u<FP):(Id.mk b s u).named=true:=J4 hb hs hu
theorem Lq {o:Op} (hb:1<=o.by_/\o.by_<=12) (hs:1<=o.sq/\o.sq<=2147483647):o.name.named=true:=by
 unfold Op.name;exact Af9 hb hs (id_lt o)
def I6 (d a v:Int):Op:={base d 1 1 a [] [⟨5,[]⟩] with need:=v}
theorem Ag0 {d a:Int} (hd:1<=d/\d<=12) (ha:0<=a/\a<=2147483647):Pre d 1 1 a [] [⟨5,[]⟩]:=by
 refine ⟨⟨by omega,by omega⟩,hd,⟨by omega,by omega⟩,ha,⟨by simp,by simp,List.Pairwise.nil,by simp⟩,⟨by simp,?_,.inr rfl⟩⟩;intro x hx;rw [An6] at hx;subst hx;exact ⟨⟨by decide,by decide⟩,by simp,by simp⟩
theorem Ag1 {d a v:Int} (hd:1<=d/\d<=12) (ha:0<=a/\a<=2147483647) (hv:0<=v/\v<=20):(I6 d a v).chk=0:=
 J6 (Ag0 hd ha) (by unfold inR;simp;omega)
theorem Ag2 {cards:List Cd} {d a v:Int} {c:Cd} (hd:1<=d/\d<=12) (ha:0<=a/\a<=2147483647) (hv:0<=v/\v<=20) (hc:Bk cards d=some c) (hs:c.s=Sg.pub (sec Bd d.toNat)):Ah cards [] (sgn (I6 d a v))=0:=by
 refine G8 (c:=c) (Ag1 hd ha hv) rfl (by simp) hc hs (.inr rfl) rfl ?_ ?_ ?_
 ·
  unfold clash;rw [List.any_eq_false];intro q _;simp [Bu,I6,base]
 ·
  show (0:Int)<=a;exact ha.1
 ·
  unfold Ba;show (decide ((1:Int)<=0)||(decide ((1:Int)<1)&&_))=false;rfl
theorem Rn {cards:List Cd} {l:List Pn} (h:Rows cards l) (hok:∀n∈l,n.o.ok/\n.id.ok) {id:Id} (hp:(plc l id).isSome=true):id.ok/\1<=id.s/\id.s<=2147483647:=by
 cases hq:plc l id with
 |none=>rw [hq] at hp;cases hp
 |some i=>
  obtain ⟨n,hn,e⟩:=Dy hq;have k:=h.ok i n hn;have h1:=hok n (Ao8 hn);have h2:=Rc k.chk
  have h3:id.s=n.o.sq:=by
   rw [<- e,k.id];rfl
  exact ⟨e▸h1.2,by omega,by omega⟩
theorem Ag3 {cards:List Cd} {l:List Pn} (h:Rows cards l) (ids:List Id):0<=late l ids/\late l ids<=2147483647:=by
 have hat:∀n∈l,n.o.at_<=2147483647:=by
  intro n hn;obtain ⟨i,hi⟩:=List.getElem?_of_mem hn;have h1:=(chk_ok.1 (h.ok i n hi).chk).2.2.1;unfold Op.numsB at h1;simp only [Ao2] at h1;have h3:=h1.1.2;unfold inR at h3;simp only [Ao2,decide_eq_true_eq] at h3;exact h3.2
 refine ⟨?_,Wp l _ (by omega) hat ids⟩;unfold late
 have mono:∀(r:List Id) (t:Int),t<=r.foldl (fun t id=>max t (Ca l id)) t:=by
  intro r
  induction r with
  |nil=>intro t;exact Int.le_refl _
  |cons y r ih=>intro t;exact Int.le_trans (Int.le_max_left _ _) (ih _)
 exact mono ids 0
theorem Ro {l:List Pn} {above ids:List Id}:∀(k:Nat) (id:Id),id∈Bz l above ids k->id∈ids/\(plc l id).isSome=true/\Bi above id=false
 |0,id,h=>absurd h An3
 |k+1,id,h=>by
  have ih:=Ro (l:=l) (above:=above) (ids:=ids) k id;unfold Bz at h
  split at h
  ·
   rename_i y hy
   split at h
   ·
    rename_i hc;simp only [Ao2,Bool.not_eq_true'] at hc
    rcases List.mem_append.1 h with h1|h1
    · exact ih h1
    ·
     rw [An6] at h1;rw [h1];exact ⟨Ao8 hy,hc.1.1,hc.1.2⟩
   · exact ih h
  · exact ih h
theorem Ag4 {l:List Pn} {ids:List Id} {id:Id} (h:id∈E1 l ids):id∈ids/\(plc l id).isSome=true/\Bi (Cp l ids) id=false:=
 Ro _ id ((C3 _).subset h)
theorem Ag5 (l:List Pn) (ids:List Id):(E1 l ids).length<=ids.length:=by
 unfold E1;rw [E0];exact Lg _ _ _ _
theorem Rp {α:Type} [DecidableEq α]:∀{l m:List α},l.Nodup->(∀x∈l,x∈m)->l.length<=m.length
 |[],_,_,_=>An9 _
 |a::l,m,h,hs=>by
  have ha:=hs a (List.mem_cons_self);have hn:=List.nodup_cons.1 h
  have ih:=Rp (l:=l) (m:=m.erase a) hn.2 (fun x hx=>by
   have h1:=hs x (List.mem_cons_of_mem _ hx);have h2:x≠a:=fun e=>hn.1 (e▸hx);exact (List.mem_erase_of_ne h2).2 h1)
  rw [List.length_erase_of_mem ha] at ih;have hp:=List.length_pos_of_mem ha;show l.length+1<=_;omega
theorem Ag6 {cards:List Cd} {l:List Pn} (_h:Rows cards l) {cs:List Id} (hc:Eb l cs):cs.length<=l.length:=by
 have hs:∀id∈cs,id∈l.map Pn.id:=by
  intro id hid;have h1:=hc.2 id hid
  cases hq:plc l id with
  |none=>rw [hq] at h1;cases h1
  |some i=>
   obtain ⟨n,hn,e⟩:=Dy hq;rw [<- e];exact List.mem_map_of_mem (Ao8 hn)
 have:=Rp hc.1 hs;rwa [Ao6] at this
end Oq
namespace Oq
attribute [local go_sem ↓] Cg Il Im Ql
attribute [local go_sem] Ao3 Ao4
def addB : PSigma (fun P : Prop => PLift P -> addA.1) := PSigma.mk _ (by
  intro hP;conv => whnf
  intro base g x w ui y wF gs H;obtain ⟨hg, hat, hok, hEC0, hui0, baF, bsF, hgw, hyop, yoF, frF⟩ := H;have hi : (zp.info? 44).map (·.size) = some 27 := by kernel_rfl
  have lpast : x.past.length <= 1000000 := by have h := hok.past.1; rw [show x.op.past = x.past from rfl] at h; omega
  have hlx := Bb (P := zp) w.heap.size 44 underlying44 rfl (cs := x.cells) hi;have kcd := lh (fun w' (h : Fr Non w w') => Nr base g x.by_ w' (hg.fr h) hg.cfew);have kvr := lh (fun (c : Cd) (hc : c.s < 18446744073709551616) w' (h : x.at w' w'.heap.size) => Om c.d c.m c.l c.k c.s x w' h hok hc);have klk := lh (fun w' (h : Fr Non w w') => Pg base g x w' Pp (hg.fr h) (OpL.frame hat h) (fun id hid => hok.past.2 id hid) lpast);have hbad := lh (fun (err : Int) (w' : World) (h : Ah g.cards g.pns x.op = err) (h0 : err ≠ 0) (hf : Fr Non w w') => AddPost.bad (base := base) h h0 hf);have hu64 := Lc x.op
  have hname : Hid (x.op.name = ⟨x.by_, x.sq, ui⟩) := by
    show _ = _;unfold Op.name;rw [hui0];rfl
  have hplc : Hid (plc g.pns x.op.name = Af g.nodes ⟨x.by_, x.sq, ui⟩) := by
    show _ = _;rw [hname.out];exact Fv _ _
  rw [hui0] at hu64;have hidok : (Id.mk x.by_ x.sq ui).ok := ⟨hok.by_, hok.sq, hu64⟩;obtain ⟨CX, hCX⟩ := Aa x.cells;have e0 : Hid (CX[0]? = some (.int .i64 x.by_)) := by show _ = _; rw [<- hCX.out]; rfl
  have e2 : Hid (CX[2]? = some (.int .i64 x.kind)) := by show _ = _; rw [<- hCX.out]; rfl
  rw [hCX.out] at baF hlx kvr klk ⊢;have hok' := lh hok;have hEC := lh hEC0;have hui := lh hui0;have hyop' := lh hyop;unfold En at kcd;unfold Ae at kvr;clear hok hEC0 hui0 hyop;have yo0 := yoF;have n1 : wF.cell? ⟨gs, 27, none⟩ = some (.int .i64 x.by_) := bsF.cell 27;have n2 : wF.cell? ⟨gs, 28, none⟩ = some (.int .i64 x.sq) := bsF.cell 28;have n3 : wF.cell? ⟨gs, 29, none⟩ = some (.int .u64 (ui : Int)) := bsF.cell 29;have hgF := hg.fr frF;have c1 : wF.cell? ⟨g.gb, 1, none⟩ = some (.map (some g.mb)) := hgF.blk.cell 1;have hmap := hgF.map;have hlook : ∀ w', MapAt w' g.mb g.mm (Af g.nodes) -> (Instr.lookup 116 (.map (some g.mb)) (.agg #[.int .i64 x.by_, .int .i64 x.sq, .int .u64 (ui : Int)]) true).run zp w' = .ok (.tuple #[.int .i64 (((Af g.nodes ⟨x.by_, x.sq, ui⟩).getD 0 : Nat) : Int), .bool (Af g.nodes ⟨x.by_, x.sq, ui⟩).isSome]) w' := fun w' h => MapAt.look h _ hidok;go_upto_region 5 with (fail)
  clear hgF
  cases hp : Af g.nodes ⟨x.by_, x.sq, ui⟩
  case some i =>
    rw [hp] at hlook;have hfin := lh (fun w' h => hbad.out 5 w' (Qn hEC.out (by rw [hplc.out, hp]; rfl)) (by decide) h);clear hp hplc hbad hP kcd kvr klk
    as_aux_lemma =>
    refine wp_region_held_drew (S := (fun w' => w'.cell? ⟨gs, 27, none⟩ = some (.int .i64 x.by_) /\ w'.cell? ⟨gs, 28, none⟩ = some (.int .i64 x.sq) /\ w'.cell? ⟨gs, 29, none⟩ = some (.int .u64 (ui : Int)) /\ w'.cell? ⟨g.gb, 1, none⟩ = some (.map (some g.mb)) /\ MapAt w' g.mb g.mm (Af g.nodes))) (by kernel_rfl) ⟨n1, n2, n3, c1, hmap⟩ (fun hS=> ?_);replace frF := frF.drew;refine tkH 0 hS (h:=tkH 1 hS (h:=tkH 2 hS (h:=tkH 3 hS (h:=tkH 4 hS (h:=tkH 5 hS (h:=tkH 6 hS (h:=tkH 7 hS (h:=tkH 8 hS (h:=tkH 9 hS (h:=tkH 10 hS (h:=tkH 11 hS (h:=?_))))))))))));simp only [zl];refine wpAnyH_done (by kernel_rfl) ?_ _;go_simp;go_wp2_with fail
    go_ret
    exact hfin.out _ frF
  case none =>
    rw [hp] at hlook;have hnew : Hid (plc g.pns x.op.name = none) := by show _ = _; rw [hplc.out, hp]
    clear hp hplc;refine wp_region_held_drew (S := (fun w' => w'.cell? ⟨gs, 27, none⟩ = some (.int .i64 x.by_) /\ w'.cell? ⟨gs, 28, none⟩ = some (.int .i64 x.sq) /\ w'.cell? ⟨gs, 29, none⟩ = some (.int .u64 (ui : Int)) /\ w'.cell? ⟨g.gb, 1, none⟩ = some (.map (some g.mb)) /\ MapAt w' g.mb g.mm (Af g.nodes))) (by kernel_rfl) ⟨n1, n2, n3, c1, hmap⟩ (fun hS=> ?_);replace frF := frF.drew;refine tkH 0 hS (h:=tkH 1 hS (h:=tkH 2 hS (h:=tkH 3 hS (h:=tkH 4 hS (h:=tkH 5 hS (h:=tkH 6 hS (h:=tkH 7 hS (h:=tkH 8 hS (h:=tkH 9 hS (h:=tkH 10 hS (h:=tkH 11 hS (h:=?_))))))))))));simp only [zl];refine wpAnyH_done (by kernel_rfl) ?_ _;go_simp;clear hlook hS;replace baF : Blk wF.drew w.heap.size 44 CX := baF.drew;replace bsF := bsF.drew;replace yoF := yo0.non ((Fr.refl Non wF).drew);clear n1 n2 n3 c1 hmap yo0;generalize wF.drew = w2 at *;have hg2 := hg.fr frF;have c2 : w2.cell? ⟨g.gb, 2, none⟩ = some (.slice g.nA g.nodes.length g.nC) := hg2.blk.cell 2;have hlen : Hid (g.pns.length = g.nodes.length) := by show _ = _; unfold Gph.pns; rw [Ao6]
    obtain ⟨nn, hnn⟩ := Aa g.nodes.length;rw [hnn.out] at c2 hlen;clear hg2
    by_cases hfull : 200 <= nn
    case pos =>
      have hb : decide ((200 : Int) <= (nn : Int)) = true := by rw [decide_eq_true_iff]; omega
      have hfin := lh (hbad.out 3 w2 (Qo hEC.out hnew.out (by rw [hlen.out]; exact hfull)) (by decide) frF);clear hbad hP kcd kvr klk hfull
      as_aux_lemma =>
      go_wp2_with fail
      go_ret
      exact hfin.out
    case neg =>
      have hb : decide ((200 : Int) <= (nn : Int)) = false := by rw [decide_eq_false_iff_not]; omega
      have hrest := lh (Iz (cards := g.cards) hEC.out hnew.out (by rw [hlen.out]; omega));have hfew : Hid (nn < 200) := by show _ < _; omega
      clear hfull;have x0 : w2.cell? ⟨w.heap.size, 0, none⟩ = some (.int .i64 x.by_) := (baF.cell 0).trans e0.out;have kc1 := lh (kcd.out w2 frF);clear kcd;have hcard : Hid (Bk g.cards x.op.by_ = g.card x.by_) := rfl
      cases hcd : g.card x.by_
      case none =>
        rw [hcd] at kc1;have hfin := lh (fun w' h => hbad.out 17 w' (by rw [hrest.out, hcard.out, hcd]) (by decide) h);clear hrest hcard hcd hbad hP kvr klk
        as_aux_lemma =>
        have kc2 : Hid (Calls zp 65 #[.pointer (some ⟨g.gb, 0, none⟩), .int .i64 x.by_] w2 fun e w' => e = .returned (.tuple #[.agg #[.int .i64 0, .int .i64 0, .int .u64 0, .int .u64 0, .int .u64 0], .bool false]) /\ Fr Non w2 w') := kc1.out;clear kc1;go_upto_region 11 with (go_at_call 65; (with_reducible refine (kc2.out).mono ?_); rintro _ w3 ⟨rfl, f3⟩)
        have hfin2 := lh (fun w' h => hfin.out w' ((frF.trans f3 (fun _ _ e => e)).trans h (fun _ _ e => e)));go_wp2_with fail
        go_ret
        exact hfin2.out _ ((Fr.refl Non w3).alloc _)
      case some c =>
        have hcdf : g.cards.find? (fun c => c.d == x.by_) = some c := hcd;have hcm := List.mem_of_find?_eq_some hcdf;have hdd : (c.d == x.by_) = true := by have h := List.find?_some hcdf; exact h
        have hcd' : c.d = x.by_ := by simpa using hdd
        rw [hcd] at kc1;have hcs := hg.cok c hcm
        have hrest2 : Hid (Ah g.cards g.pns x.op = if Sg.check c.s x.op.bare x.op.r x.op.s = false then 12
              else if x.op.kind = 1 /\ g.pns ≠ [] then 1
              else if x.op.past.any (fun id => (plc g.pns id).isNone) = true then 10
              else if clash g.pns x.op.past = true \/ x.op.at_ < late g.pns x.op.past then 6
              else if Ba g.pns (Aj g.pns x.op.past) x.op = true then 11
              else 0) := by show _ = _; rw [hrest.out, hcard.out, hcd]
        have kv1 := lh (kvr.out c hcs);clear hrest hcard hcd kvr hcm hdd hcdf;rw [show (x.by_ == c.d) = true by rw [hcd']; simp, Bool.true_and] at kv1;have kc2 : Hid (Calls zp 65 #[.pointer (some ⟨g.gb, 0, none⟩), .int .i64 x.by_] w2 fun e w' => e = .returned (.tuple #[.agg #[.int .i64 c.d, .int .i64 c.m, .int .u64 (c.l : Int), .int .u64 (c.k : Int), .int .u64 (c.s : Int)], .bool true]) /\ Fr Non w2 w') := kc1.out;clear kc1 hcd' hcs;obtain ⟨sb, hsb⟩ := Aa (Sg.check c.s x.op.bare x.op.r x.op.s);rw [hsb.out] at hrest2;rw [show Sg.check c.s x.op.bare x.r x.s = sb from hsb.out] at kv1;clear hsb;go_upto_region 11 with (go_at_call 65; (with_reducible refine (kc2.out).mono ?_); rintro _ w3 ⟨rfl, f3⟩)
        have f4 : Fr Non w2 (w3.alloc (.cells #[.int .i64 c.d, .int .i64 c.m, .int .u64 (c.l : Int), .int .u64 (c.k : Int), .int .u64 (c.s : Int)] 104)) := f3.alloc _;have bcd := Blk.new w3 104 #[.int .i64 c.d, .int .i64 c.m, .int .u64 (c.l : Int), .int .u64 (c.k : Int), .int .u64 (c.s : Int)];have baG := baF.fr f4 (fun e => e);have bsG := bsF.fr f4 (fun e => e);have yoG := yoF.non f4;have frG := frF.trans f4 (fun _ _ e => e);obtain ⟨gc, hgc⟩ := Aa w3.heap.size;rw [hgc.out] at bcd ⊢;generalize w3.alloc (.cells #[.int .i64 c.d, .int .i64 c.m, .int .u64 (c.l : Int), .int .u64 (c.k : Int), .int .u64 (c.s : Int)] 104) = w4 at *;have m0 : w4.cell? ⟨gc, 0, none⟩ = some (.int .i64 c.d) := bcd.cell 0;have m1 : w4.cell? ⟨gc, 1, none⟩ = some (.int .i64 c.m) := bcd.cell 1;have m2 : w4.cell? ⟨gc, 2, none⟩ = some (.int .u64 (c.l : Int)) := bcd.cell 2;have m3 : w4.cell? ⟨gc, 3, none⟩ = some (.int .u64 (c.k : Int)) := bcd.cell 3;have m4 : w4.cell? ⟨gc, 4, none⟩ = some (.int .u64 (c.s : Int)) := bcd.cell 4;have kv2 := lh (kv1.out w4 (OpL.frame hat frG));clear kv1 bcd baF bsF yoF frF f3 f4 hgc x0 kc2
        cases sb
        case false =>
          have hfin := lh (fun w' h => hbad.out 12 w' (by rw [hrest2.out, if_pos rfl]) (by decide) h);clear hrest2 hbad hP klk
          as_aux_lemma =>
          go_wp2_with (go_at_call 66; (with_reducible refine (kv2.out).mono ?_); rintro _ w5 ⟨rfl, f5⟩)
          go_ret
          exact hfin.out _ (frG.trans f5 (fun _ _ e => e))
        case true =>
          have hrest3 : Hid (Ah g.cards g.pns x.op = if x.op.kind = 1 /\ g.pns ≠ [] then 1
                else if x.op.past.any (fun id => (plc g.pns id).isNone) = true then 10
                else if clash g.pns x.op.past = true \/ x.op.at_ < late g.pns x.op.past then 6
                else if Ba g.pns (Aj g.pns x.op.past) x.op = true then 11
                else 0) := by show _ = _; rw [hrest2.out, if_neg (by decide)]
          clear hrest2;go_upto_region 15 with (go_at_call 66; (with_reducible refine (kv2.out).mono ?_); rintro _ w5 ⟨rfl, f5⟩)
          have frH := frG.trans f5 (fun _ _ e => e);have baH := baG.fr f5 (fun e => e);have bsH := bsG.fr f5 (fun e => e);have yoH := yoG.non f5;clear kv2 baG bsG yoG frG f5 m0 m1 m2 m3 m4;have c2' : w5.cell? ⟨g.gb, 2, none⟩ = some (.slice g.nA nn g.nC) := by rw [<- hnn.out]; exact (hg.fr frH).blk.cell 2
          have x2 : w5.cell? ⟨w.heap.size, 2, none⟩ = some (.int .i64 x.kind) := (baH.cell 2).trans e2.out;obtain ⟨kb, hkb⟩ := Aa (x.kind == 1 && decide ((0 : Int) < (nn : Int)));clear c2
          go_cut [6, 73] from 5 (fun n s wc => w5 = wc /\ n = .pointer (some ⟨gs, 0, none⟩) /\ s = .bool kb)
          case first =>
            clear hbad hP klk hrest3
            as_aux_lemma =>
            rcases Ap1 (x.kind == 1) with t1 | t1
            · have hv : Hid (decide ((0 : Int) < (nn : Int)) = kb) := by show _ = _; rw [<- hkb.out, t1]; rfl
              go_wp2_with fail;go_meet;exact ⟨rfl, rfl, congrArg Value.bool (by rw [<- hv.out]; exact decide_eq_decide.2 (by omega))⟩
            · have hv : Hid (false = kb) := by show _ = _; rw [<- hkb.out, t1]; rfl
              go_wp2_with fail;go_meet;exact ⟨rfl, rfl, hB hv⟩
          case rest =>
          obtain ⟨rfl, rfl, rfl⟩ := hcut
          cases kb
          case true =>
            have hfin := lh (fun w' h => hbad.out 1 w' (by
              have h1 := hkb.out;rw [Ao2, beq_iff_eq, decide_eq_true_iff] at h1;rw [hrest3.out, if_pos ⟨h1.1, fun e => by have h2 := hlen.out; rw [e] at h2; simp at h2; omega⟩]) (by decide) h)
            clear hrest3 hbad hP klk
            as_aux_lemma =>
            go_wp2_with fail
            go_ret
            exact hfin.out _ frH
          case false =>
            have hrest4 : Hid (Ah g.cards g.pns x.op = if x.op.past.any (fun id => (plc g.pns id).isNone) = true then 10
                else if clash g.pns x.op.past = true \/ x.op.at_ < late g.pns x.op.past then 6
                else if Ba g.pns (Aj g.pns x.op.past) x.op = true then 11
                else 0) := by
              show _ = _;have h1 := hkb.out;rw [Bool.and_eq_false_iff, beq_eq_false_iff_ne, decide_eq_false_iff_not] at h1
              rw [hrest3.out, if_neg (fun e => by
                rcases h1 with h1 | h1
                · exact h1 e.1
                · refine e.2 (List.eq_nil_of_length_eq_zero ?_)
                  rw [hlen.out];omega)]
            clear hrest3;have kl := lh (klk.out w5 frH);clear klk;have hany := lh (Z9 g x.past);unfold Ik at kl;obtain ⟨m, hm⟩ := Aa (x.past.filter (fun id => !(Af g.nodes id).isSome)).length;rw [hm.out] at kl hany
            by_cases hm0 : m = 0
            case neg =>
              have hb0 : decide (0 < m) = true := by rw [decide_eq_true_iff]; omega
              have hfin := lh (fun w' h => hbad.out 10 w' (by
                rw [hrest4.out, if_pos (by
                  rcases Ap1 (x.op.past.any (fun id => (plc g.pns id).isNone)) with e | e
                  · exact e
                  · exact absurd (hany.out.2 e) hm0)]) (by decide) h)
              clear hrest4 hbad hP hm0
              as_aux_lemma =>
              go_wp2_with (go_at_call 67; (with_reducible refine (kl.out).mono ?_); rintro _ w6 ⟨A6, c6, rfl, r6, f6⟩)
              go_ret
              exact hfin.out _ (frH.trans f6 (fun _ _ e => e))
            case pos =>
              have hb0 : decide (0 < m) = false := by rw [decide_eq_false_iff_not]; omega
              have hall : Hid (x.op.past.any (fun id => (plc g.pns id).isNone) = false) := by
                exact hany.out.1 hm0
              have hrest5 : Hid (Ah g.cards g.pns x.op = if clash g.pns x.op.past = true \/ x.op.at_ < late g.pns x.op.past then 6
                else if Ba g.pns (Aj g.pns x.op.past) x.op = true then 11
                else 0) := by
                show _ = _;rw [hrest4.out, if_neg (by rw [hall.out]; decide)]
              clear hrest4 hany hm0;go_upto_region 19 with (go_at_call 67; (with_reducible refine (kl.out).mono ?_); rintro _ w6 ⟨A6, c6, rfl, r6, f6⟩)
              rename_i K hK;have H : Lb w w6 base g x y gs := ⟨hg, hat, hok'.out, by rw [hCX.out]; exact baH.fr f6 (fun e => e), by rw [hname.out]; exact bsH.fr f6 (fun e => e), hgw, hyop'.out, yoH.non f6, frH.trans f6 (fun _ _ e => e), hEC.out, by rw [hnn.out]; exact hfew.out, hall.out, hnew.out, hrest5.out⟩;have hcx := hCX.out;subst hcx;try clear hg
              try clear hat
              try clear hi
              try clear hlx
              try clear hbad
              try clear hu64
              try clear hname
              try clear hplc
              try clear hidok
              try clear e0
              try clear e2
              try clear hCX
              try clear hok'
              try clear hEC
              try clear hui
              try clear hyop'
              try clear hall
              try clear hrest5
              try clear kl
              try clear hb
              try clear hb0
              try clear hfew
              try clear hlen
              try clear hnn
              try clear hnew
              try clear baH
              try clear bsH
              try clear yoH
              try clear frH
              try clear c2'
              try clear x2
              try clear r6
              try clear f6
              try clear hkb
              try clear hm
              try clear hrest4
              try clear hany
              try clear hm0
              try clear wF
              try clear w2
              try clear w3
              try clear w4
              try clear hnn
              try clear nn
              try clear ui
              try clear c
              try clear gc
              try clear hui
              try clear hbad
              try clear hP0
              revert H;revert hK;revert base g x w y gs K A6 c6 m w6;revert u5 u7 u8 u9 u10 u11 u12 u13 u14 u15 u16 u17 u18 u19 u20 u21 u22 u23 u24 u25 u26 u27 u28 u29 u30 u31 u32 u33 u34 u35 u36 u37 u38 u39 u40 u41 u42 u43 u44 u45 u46 u47 u48 u49 u50 u51 u52 u53 u54 u55 u56 u57 u58 u59 u60 u61 u62 u63 u64 u65 u66 u67 u68 u69 u70 u71 u72 u79 u80 u81 u82 u83 u84 u85 u86 u87 u88 u89 u90 u91 u92 u93 u94 u95 u96 u97 u98 u99 u100 u101 u102 u103 u104 u105 u106 u107 u108 u109 u110 u111 u112 u113 u114 u115 u116 u117 u118 u119 u120 u121 u122 u123 u124 u125 u126 u127 u128 u129 u130 u131 u132 u133 u134 u135 u136 u137 u138 u139 u140 u141 u142 u143 u144 u145 u146 u147 u148 u149 u150 u151 u152 u153 u154 u155 u156 u157 u158 u159 u160 u161 u162 u163 u164 u165 u166 u167 u168 u169 u170 u171 u172 u173 u174 u175 u176 u177 u178 u179 u180 u181 u182 u183 u184 u185 u186 u187 u188 u189 u190 u191 u192 u193 u194 u195 u196 u197 u198 u199 u200 u201 u202 u203 u204 u205 u206 u207 u208 u209 u210 u211 u212 u213 u214 u215 u216 u217 u218 u219 u220 u221 u222 u223 u224 u225 u226 u227 u228 u229 u230 u231 u232 u233;exact hP.down)
end Oq
end Go.Proofs.YtihfebhfgliojaaGreatDoor
