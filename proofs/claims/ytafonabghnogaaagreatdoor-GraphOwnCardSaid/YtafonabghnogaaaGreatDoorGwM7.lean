/-
  Contracts of the functions that the claim's statement reaches, walked one by one (part 7).
  Conditions: as each theorem says.
-/
import Derived.Lib.SliceRun
import Derived.Laws.IdiomCopy
import Derived.Sort.Grow
import Derived.Test.YtafonabghnogaaaGreatDoorGwM2
import Derived.Test.YtafonabghnogaaaGreatDoorGwM3
import Derived.Test.YtafonabghnogaaaGreatDoorGwM6
set_option maxRecDepth 100000
set_option maxHeartbeats 16000000
open List renaming mem_of_getElem?→Ak7,getElem?_eq_getElem→Ak9,length_map→Al0,take_of_length_le→Al1,drop_drop→Al3,take_succ_eq_append_getElem→Al4,any_append→Al5,getElem?_append_left→Al6,any_eq_false→Al7,getElem?_set_self→Al8,length_take→Al9,foldl_append→Am1
open Nat renaming le_refl→Ak8,lt_of_lt_of_le→Am0
open Go.World renaming size_alloc→Ak6,drewN→Al2
namespace Go.Proofs.YtafonabghnogaaaGreatDoor
section
open Go.RowKit
attribute [local go_sem ↓] Go.wp_at_zero Go.wp_at_succ
namespace Oq
attribute [local go_sem ↓] Ch
theorem Ib {α:Type} (f:α→Value) (hf:∀a,(f a).oneCell'=true) (l:List α):∀v∈l.map f,v.oneCell'=true:=by
 intro v hv;obtain ⟨y,_,rfl⟩:=List.mem_map.1 hv;exact hf y
theorem Ic {α:Type} (f:α→List Value) (hf:∀a,∀v∈f a,v.oneCell'=true) (l:List α):∀v∈l.flatMap f,v.oneCell'=true:=by
 intro v hv;obtain ⟨y,_,hy⟩:=List.mem_flatMap.1 hv;exact hf y v hy
theorem O7 (l:List Bx):∀v∈l.flatMap Bx.cells,v.oneCell'=true:=Ic _ (fun a v hv=>by simp [Bx.cells] at hv;rcases hv with rfl|rfl|rfl|rfl<;>rfl) l
theorem We (l:List NdL):∀v∈l.flatMap NdL.cells,v.oneCell'=true:=Ic _ (fun a v hv=>by simp [NdL.cells] at hv;rcases hv with rfl|rfl<;>rfl) l
theorem Wf (l:List SlL):∀v∈l.flatMap SlL.cells,v.oneCell'=true:=Ic _ (fun a v hv=>by simp [SlL.cells] at hv;rcases hv with rfl|rfl|rfl|rfl<;>rfl) l
def Ki (o:Op) (w:World) (r:Ending) (w':World):Prop:=
 ∃y:OpL,r=.returned (.agg y.cells)∧y.op=o∧y.own w' w.heap.size∧Fr Non w w'
theorem O8 (x:OpL) (w:World) (hat:x.at w w.heap.size) (hok:x.op.ok):Calls Tryz.prog 69 #[.agg x.cells] w (Ki x.op w):=by
 have hi:(Tryz.prog.info? 44).map (·.size)=some 27:=by kernel_rfl
 have ai:Blk ((w.alloc (.cells x.cells 44)).alloc (.cells zO 44)) w.heap.size 44 x.cells:=(Blk.new w 44 x.cells).alloc _
 have cc:Blk ((w.alloc (.cells x.cells 44)).alloc (.cells zO 44)) (w.heap.size+1) 44 zO:=by
  have:=Blk.new (w.alloc (.cells x.cells 44)) 44 zO;rwa [Ak6] at this
 have dk:((w.alloc (.cells x.cells 44)).alloc (.cells zO 44)).heap.size=w.heap.size+2:=by rw [Ak6,Ak6]
 have bt:Fr Non w ((w.alloc (.cells x.cells 44)).alloc (.cells zO 44)):=((Fr.refl Non w).alloc _).alloc _;have bn:=OpL.frame hat bt;have cb:x.guards.length≤1000000:=by have h:=hok.guards.1;rw [show x.op.guards=x.guards from rfl] at h;omega
 have di:x.refs.length≤1000000:=by have h:=hok.refs.1;rw [show x.op.refs=x.refs from rfl] at h;omega
 have cr:x.boxes.length≤1000000:=by have h:=hok.boxes.1;rw [show x.op.boxes=x.boxes from rfl] at h;omega
 have dv:x.past.length≤1000000:=by have h:=hok.past.1;rw [show x.op.past=x.past from rfl] at h;omega
 have bs:x.path.length≤1000000:=by have h:=hok.path.1;rw [show x.op.path=x.path.map NdL.nd from rfl,Al0] at h;omega
 have bz:x.hist.length≤1000000:=by have h:=hok.hist.1;rw [show x.op.hist=x.hist.map SlL.sl from rfl,Al0] at h;omega
 have dq:x.body.length≤1000000:=by have h:=hok.body;rw [show x.op.body=x.body from rfl] at h;omega
 have a8:Hid (∀y∈x.path,y.xs.length≤1000000):=fun y hy=>by have h:=(hok.path.2 y.nd (List.mem_map.2 ⟨y,hy,rfl⟩)).2.1;rw [show y.nd.xs=y.xs from rfl] at h;omega
 have a4:Hid (∀y∈x.hist,y.y.length≤1000000):=fun y hy=>by have h:=(hok.hist.2 y.sl (List.mem_map.2 ⟨y,hy,rfl⟩)).2;rw [show y.sl.y=y.y from rfl] at h;omega
 have a1:Hid (∀(y:OpL) (w':World),y.op=x.op→y.own w' w.heap.size→Fr Non w w'→Ki x.op w (.returned (.agg y.cells)) w'):=fun y w' h1 h2 h3=>⟨y,rfl,h1,h2,h3⟩;generalize Ki x.op w=POST at*;go_enter Tryz.func69,Tryz.ntmps69;go_upto_region 1 with (fail)
 generalize ((w.alloc (.cells x.cells 44)).alloc (.cells zO 44))=w0 at*;obtain ⟨CS,a0⟩:=Aa x.cells;rw [a0.out] at ai;have e4:Hid (CS[4]? =some (.slice x.pastA x.past.length x.pastC)):=by show _=_;rw [← a0.out];rfl
 have cm:Hid (CS[14]? =some (.slice x.bodyA x.body.length x.bodyC)):=by show _=_;rw [← a0.out];rfl
 have c6:Hid (CS[15]? =some (.slice x.refsA x.refs.length x.refsC)):=by show _=_;rw [← a0.out];rfl
 have cz:Hid (CS[19]? =some (.slice x.guardsA x.guards.length x.guardsC)):=by show _=_;rw [← a0.out];rfl
 have da:Hid (CS[22]? =some (.slice x.boxesA x.boxes.length x.boxesC)):=by show _=_;rw [← a0.out];rfl
 refine C3 (S:=(fun w'=>Blk w' w.heap.size 44 CS)) 16 (by kernel_rfl) ?_;replace ai:Blk w0.drew w.heap.size 44 CS:=ai.drew;replace cc:=cc.drew;replace bt:=bt.drew;replace bn:=OpL.frame bn ((Fr.refl Non w0).drew);refine tkG 0 ai (h:=?_);simp only [List.set];refine Et (i:=1) (v:=?_) rfl (by kernel_rfl) (by kernel_rfl) (by kernel_rfl) (by kernel_rfl) (fun _ _ _ h=>h) (Or.inl ⟨by kernel_rfl,?_⟩) ai ?_;rotate_left
 focus (intro w' ac;have hB:=ac;have q:w'.cell? ⟨w.heap.size,4,none⟩=some _:=(hB.cell 4).trans e4.out;(try dsimp only at ac);go_simp;(try with_reducible rfl))
 simp only [List.set];refine tkG 3 ai (h:=?_);simp only [List.set];refine Et (i:=4) (v:=?_) rfl (by kernel_rfl) (by kernel_rfl) (by kernel_rfl) (by kernel_rfl) (fun _ _ _ h=>h) (Or.inl ⟨by kernel_rfl,?_⟩) ai ?_;rotate_left
 focus (intro w' ac;have hB:=ac;have q:w'.cell? ⟨w.heap.size,14,none⟩=some _:=(hB.cell 14).trans cm.out;(try dsimp only at ac);go_simp;(try with_reducible rfl))
 simp only [List.set];refine tkG 6 ai (h:=?_);simp only [List.set];refine Et (i:=7) (v:=?_) rfl (by kernel_rfl) (by kernel_rfl) (by kernel_rfl) (by kernel_rfl) (fun _ _ _ h=>h) (Or.inl ⟨by kernel_rfl,?_⟩) ai ?_;rotate_left
 focus (intro w' ac;have hB:=ac;have q:w'.cell? ⟨w.heap.size,15,none⟩=some _:=(hB.cell 15).trans c6.out;(try dsimp only at ac);go_simp;(try with_reducible rfl))
 simp only [List.set];refine tkG 9 ai (h:=?_);simp only [List.set];refine Et (i:=10) (v:=?_) rfl (by kernel_rfl) (by kernel_rfl) (by kernel_rfl) (by kernel_rfl) (fun _ _ _ h=>h) (Or.inl ⟨by kernel_rfl,?_⟩) ai ?_;rotate_left
 focus (intro w' ac;have hB:=ac;have q:w'.cell? ⟨w.heap.size,19,none⟩=some _:=(hB.cell 19).trans cz.out;(try dsimp only at ac);go_simp;(try with_reducible rfl))
 simp only [List.set];refine tkG 12 ai (h:=?_);simp only [List.set];refine Et (i:=13) (v:=?_) rfl (by kernel_rfl) (by kernel_rfl) (by kernel_rfl) (by kernel_rfl) (fun _ _ _ h=>h) (Or.inl ⟨by kernel_rfl,?_⟩) ai ?_;rotate_left
 focus (intro w' ac;have hB:=ac;have q:w'.cell? ⟨w.heap.size,22,none⟩=some _:=(hB.cell 22).trans da.out;(try dsimp only at ac);go_simp;(try with_reducible rfl))
 simp only [List.set];refine Bh 2 (by kernel_rfl) rfl (fun K hK=> ?_);go_simp;go_wp2_with (go_at_call 80;(with_reducible refine (Ox _ _ _ _ _ _ bn.past.rd (Id.cells_one _) (by omega)).mono ?_);rintro _ w1 ⟨A1,c1,rfl,o1,f1⟩;have ca:=ai.fr f1 zq;have ds:=cc.fr f1 zq;have cy:=OpL.frame bn f1;have dp:=bt.trans f1 zr;have eh:=f1.size);refine hK.out _ _ ca (fun hZ=> ?_);clear hZ hK K;try simp only [put_lit2,List.set]
 refine tkG 15 ca (h:=?_);simp only [List.set];refine Bh 5 (by kernel_rfl) rfl (fun K hK=> ?_);go_simp;go_wp2_with (go_at_call 118;(with_reducible refine (Oy _ _ _ _ _ _ cy.body.rd (Ib Bv (fun _=>rfl) _) (by omega)).mono ?_);rintro _ w2 ⟨A2,c2,rfl,o2,f2⟩;have cv:=ca.fr f2 zq;have dt:=ds.fr f2 zq;have c0:=OpL.frame cy f2;have bg:=dp.trans f2 zr;have ei:=f2.size);refine hK.out _ _ cv (fun hZ=> ?_);clear hZ hK K;try simp only [put_lit2,List.set]
 refine Bh 8 (by kernel_rfl) rfl (fun K hK=> ?_);go_simp;go_wp2_with (go_at_call 119;(with_reducible refine (V6 _ _ _ _ _ _ c0.refs.rd (Ib Uv (fun _=>rfl) _) (by omega)).mono ?_);rintro _ w3 ⟨A3,c3,rfl,o3,f3⟩;have cq:=cv.fr f3 zq;have dz:=dt.fr f3 zq;have ch:=OpL.frame c0 f3;have dr:=bg.trans f3 zr;have el:=f3.size);refine hK.out _ _ cq (fun hZ=> ?_);clear hZ hK K;try simp only [put_lit2,List.set]
 refine Bh 11 (by kernel_rfl) rfl (fun K hK=> ?_);go_simp;go_wp2_with (go_at_call 120;(with_reducible refine (V7 _ _ _ _ _ _ ch.guards.rd (Ib Iv (fun _=>rfl) _) (by omega)).mono ?_);rintro _ w4 ⟨A4,c4,rfl,o4,f4⟩;have dd:=cq.fr f4 zq;have dj:=dz.fr f4 zq;have cl:=OpL.frame ch f4;have dg:=dr.trans f4 zr;have d4:=f4.size);refine hK.out _ _ dd (fun hZ=> ?_);clear hZ hK K;try simp only [put_lit2,List.set]
 refine Bh 14 (by kernel_rfl) rfl (fun K hK=> ?_);go_simp;go_wp2_with (go_at_call 121;(with_reducible refine (Oz _ _ _ _ _ _ cl.boxes.rd (O7 _) (by omega)).mono ?_);rintro _ w5 ⟨A5,c5,rfl,o5,f5⟩;have aj:=dd.fr f5 zq;have dx:=dj.fr f5 zq;have eb:=OpL.frame cl f5;have cx:=dg.trans f5 zr;have ek:=f5.size);refine hK.out _ _ aj (fun hZ=> ?_);clear hZ hK K;try simp only [put_lit2,List.set]
 refine Cq (by kernel_rfl) ?_;have k4:w5.cell? ⟨w.heap.size,4,none⟩=some (.slice x.pastA x.past.length x.pastC):=(aj.cell 4).trans e4.out;have z4:=aj.frozen 4;have d5:w5.cell? ⟨w.heap.size,14,none⟩=some (.slice x.bodyA x.body.length x.bodyC):=(aj.cell 14).trans cm.out;have en:=aj.frozen 14;have ea:w5.cell? ⟨w.heap.size,15,none⟩=some (.slice x.refsA x.refs.length x.refsC):=(aj.cell 15).trans c6.out;have ef:=aj.frozen 15;have er:w5.cell? ⟨w.heap.size,19,none⟩=some (.slice x.guardsA x.guards.length x.guardsC):=(aj.cell 19).trans cz.out;have d8:=aj.frozen 19;have ec:w5.cell? ⟨w.heap.size,22,none⟩=some (.slice x.boxesA x.boxes.length x.boxesC):=(aj.cell 22).trans da.out;have d9:=aj.frozen 22;refine oG 16 (fun K hK=> ?_);go_simp;refine hK.out _ _ trivial (fun hZ=> ?_);clear hZ hK K;try simp only [put_lit2,List.set]
 refine oG 17 (fun K hK=> ?_);go_simp;refine hK.out _ _ trivial (fun hZ=> ?_);clear hZ hK K;try simp only [put_lit2,List.set]
 refine oG 18 (fun K hK=> ?_);go_simp;refine hK.out _ _ trivial (fun hZ=> ?_);clear hZ hK K;try simp only [put_lit2,List.set]
 refine oG 19 (fun K hK=> ?_);go_simp;refine hK.out _ _ trivial (fun hZ=> ?_);clear hZ hK K;try simp only [put_lit2,List.set]
 refine oG 20 (fun K hK=> ?_);go_simp;refine hK.out _ _ trivial (fun hZ=> ?_);clear hZ hK K;try simp only [put_lit2,List.set]
 refine oG 21 (fun K hK=> ?_);go_simp;refine hK.out _ _ trivial (fun hZ=> ?_);clear hZ hK K;try simp only [put_lit2,List.set]
 refine oG 22 (fun K hK=> ?_);go_simp;refine hK.out _ _ trivial (fun hZ=> ?_);clear hZ hK K;try simp only [put_lit2,List.set]
 refine oG 23 (fun K hK=> ?_);go_simp;refine hK.out _ _ trivial (fun hZ=> ?_);clear hZ hK K;try simp only [put_lit2,List.set]
 refine oG 24 (fun K hK=> ?_);go_simp;refine hK.out _ _ trivial (fun hZ=> ?_);clear hZ hK K;try simp only [put_lit2,List.set]
 refine oD ?_;go_simp;obtain ⟨b0,al⟩:=Aa ({x with pastA:=A1,pastC:=c1,bodyA:=A2,bodyC:=c2,refsA:=A3,refsC:=c3,guardsA:=A4,guardsC:=c4,boxesA:=A5,boxesC:=c5}:OpL).cells
 have ay:Blk (((((w5.setCell ⟨w.heap.size,4,none⟩ (.slice A1 x.past.length c1)).setCell ⟨w.heap.size,14,none⟩ (.slice A2 x.body.length c2)).setCell ⟨w.heap.size,15,none⟩ (.slice A3 x.refs.length c3)).setCell ⟨w.heap.size,19,none⟩ (.slice A4 x.guards.length c4)).setCell ⟨w.heap.size,22,none⟩ (.slice A5 x.boxes.length c5)) w.heap.size 44 b0:=by
  rw [← al.out];rw [← a0.out] at aj;exact ((((aj.set 4 _).set 14 _).set 15 _).set 19 _).set 22 _
 have au:Fr (One w.heap.size) w5 (((((w5.setCell ⟨w.heap.size,4,none⟩ (.slice A1 x.past.length c1)).setCell ⟨w.heap.size,14,none⟩ (.slice A2 x.body.length c2)).setCell ⟨w.heap.size,15,none⟩ (.slice A3 x.refs.length c3)).setCell ⟨w.heap.size,19,none⟩ (.slice A4 x.guards.length c4)).setCell ⟨w.heap.size,22,none⟩ (.slice A5 x.boxes.length c5)):=(((((Fr.refl (One w.heap.size) w5).setCell (p:=⟨w.heap.size,4,none⟩) (fun _=>rfl) _).setCell (p:=⟨w.heap.size,14,none⟩) (fun _=>rfl) _).setCell (p:=⟨w.heap.size,15,none⟩) (fun _=>rfl) _).setCell (p:=⟨w.heap.size,19,none⟩) (fun _=>rfl) _).setCell (p:=⟨w.heap.size,22,none⟩) (fun _=>rfl) _;have sd:w0.drew.heap.size=w.heap.size+2:=dk;have d3:w.heap.size+2≤(((((w5.setCell ⟨w.heap.size,4,none⟩ (.slice A1 x.past.length c1)).setCell ⟨w.heap.size,14,none⟩ (.slice A2 x.body.length c2)).setCell ⟨w.heap.size,15,none⟩ (.slice A3 x.refs.length c3)).setCell ⟨w.heap.size,19,none⟩ (.slice A4 x.guards.length c4)).setCell ⟨w.heap.size,22,none⟩ (.slice A5 x.boxes.length c5)).heap.size:=by have h1:=au.size;omega
 have cf:=dx.fr au (fun e=>by have e':w.heap.size+1=w.heap.size:=e;omega);have ap:x.at (((((w5.setCell ⟨w.heap.size,4,none⟩ (.slice A1 x.past.length c1)).setCell ⟨w.heap.size,14,none⟩ (.slice A2 x.body.length c2)).setCell ⟨w.heap.size,15,none⟩ (.slice A3 x.refs.length c3)).setCell ⟨w.heap.size,19,none⟩ (.slice A4 x.guards.length c4)).setCell ⟨w.heap.size,22,none⟩ (.slice A5 x.boxes.length c5)) w.heap.size:=(hat.fr cx zr).fr au (fun j hj e=>by have e':j=w.heap.size:=e;omega);have bx:Fr Non w (((((w5.setCell ⟨w.heap.size,4,none⟩ (.slice A1 x.past.length c1)).setCell ⟨w.heap.size,14,none⟩ (.slice A2 x.body.length c2)).setCell ⟨w.heap.size,15,none⟩ (.slice A3 x.refs.length c3)).setCell ⟨w.heap.size,19,none⟩ (.slice A4 x.guards.length c4)).setCell ⟨w.heap.size,22,none⟩ (.slice A5 x.boxes.length c5)):=cx.trans au (fun j hj e=>by have e':j=w.heap.size:=e;omega);have p1:=((o1.fr (((f2.trans f3 zr).trans f4 zr).trans f5 zr) zr).lower (base':=w.heap.size+2) (by omega)).fr au (fun j hj e=>by have h1:=(o1.row j hj).1;have e':j=w.heap.size:=e;omega);have p2:=((o2.fr ((f3.trans f4 zr).trans f5 zr) zr).lower (base':=w.heap.size+2) (by omega)).fr au (fun j hj e=>by have h1:=(o2.row j hj).1;have e':j=w.heap.size:=e;omega);have p3:=((o3.fr (f4.trans f5 zr) zr).lower (base':=w.heap.size+2) (by omega)).fr au (fun j hj e=>by have h1:=(o3.row j hj).1;have e':j=w.heap.size:=e;omega);have p4:=((o4.fr (f5) zr).lower (base':=w.heap.size+2) (by omega)).fr au (fun j hj e=>by have h1:=(o4.row j hj).1;have e':j=w.heap.size:=e;omega);have p5:=(o5.lower (base':=w.heap.size+2) (by omega)).fr au (fun j hj e=>by have h1:=(o5.row j hj).1;have e':j=w.heap.size:=e;omega);clear a0 ai ca cv cq dd aj cc ds dt dz dj dx bt dp bg dr dg cx bn cy c0 ch cl eb f1 f2 f3 f4 f5 au o1 o2 o3 o4 o5 e4 cm c6 cz da k4 d5 ea er ec z4 en ef d8 d9 eh ei el d4 ek sd dk;generalize (((((w5.setCell ⟨w.heap.size,4,none⟩ (.slice A1 x.past.length c1)).setCell ⟨w.heap.size,14,none⟩ (.slice A2 x.body.length c2)).setCell ⟨w.heap.size,15,none⟩ (.slice A3 x.refs.length c3)).setCell ⟨w.heap.size,19,none⟩ (.slice A4 x.guards.length c4)).setCell ⟨w.heap.size,22,none⟩ (.slice A5 x.boxes.length c5))=w6 at*;clear w5 w4 w3 w2 w1 w0;have e9:Hid (b0[9]? =some (.slice x.pathA x.path.length x.pathC)):=by show _=_;rw [← al.out];rfl
 have bi:Hid (b0[24]? =some (.slice x.histA x.hist.length x.histC)):=by show _=_;rw [← al.out];rfl
 go_wp2_with (fail);refine C3 (S:=(fun w'=>Blk w' w.heap.size 44 b0)) 7 (by kernel_rfl) ?_;replace ay:Blk w6.drew w.heap.size 44 b0:=ay.drew;replace cf:=cf.drew;replace bx:=bx.drew;replace ap:=ap.fr ((Fr.refl Non w6).drew) zr;have et:w.heap.size≤w6.drew.heap.size:=bx.size;have es:w.heap.size+2≤w6.drew.heap.size:=by have h1:=d3;exact h1
 replace p1:=p1.drew;replace p2:=p2.drew;replace p3:=p3.drew;replace p4:=p4.drew;replace p5:=p5.drew;refine tkG 0 ay (h:=?_);simp only [List.set];refine Et (i:=1) (v:=?_) rfl (by kernel_rfl) (by kernel_rfl) (by kernel_rfl) (by kernel_rfl) (fun _ _ _ h=>h) (Or.inl ⟨by kernel_rfl,?_⟩) ay ?_;rotate_left
 focus (intro w' ac;have hB:=ac;have q:w'.cell? ⟨w.heap.size,9,none⟩=some _:=(hB.cell 9).trans e9.out;(try dsimp only at ac);go_simp;(try with_reducible rfl))
 simp only [List.set];refine tkG 3 ay (h:=?_);simp only [List.set];refine Et (i:=4) (v:=?_) rfl (by kernel_rfl) (by kernel_rfl) (by kernel_rfl) (by kernel_rfl) (fun _ _ _ h=>h) (Or.inl ⟨by kernel_rfl,?_⟩) ay ?_;rotate_left
 focus (intro w' ac;have hB:=ac;have q:w'.cell? ⟨w.heap.size,24,none⟩=some _:=(hB.cell 24).trans bi.out;(try dsimp only at ac);go_simp;(try with_reducible rfl))
 simp only [List.set];refine Bh 2 (by kernel_rfl) rfl (fun K hK=> ?_);go_simp;go_wp2_with (go_at_call 122;(with_reducible refine (V8 _ _ _ _ _ _ ap.path.rd (We _) (by omega)).mono ?_);rintro _ w7 ⟨A7,c7,rfl,o7,f7⟩;have ce:=ay.fr f7 zq;have dn:=cf.fr f7 zq;have a6:=ap.fr f7 zr;have du:=bx.trans f7 zr;have ev:=f7.size);refine hK.out _ _ ce (fun hZ=> ?_);clear hZ hK K;try simp only [put_lit2,List.set]
 refine tkG 6 ce (h:=?_);simp only [List.set];refine Bh 5 (by kernel_rfl) rfl (fun K hK=> ?_);go_simp;go_wp2_with (go_at_call 123;(with_reducible refine (V9 _ _ _ _ _ _ a6.hist.rd (Wf _) (by omega)).mono ?_);rintro _ w8 ⟨A8,c8,rfl,o8,f8⟩;have az:=ce.fr f8 zq;have dm:=dn.fr f8 zq;have bv:=a6.fr f8 zr;have dl:=du.trans f8 zr;have eu:=f8.size);refine hK.out _ _ az (fun hZ=> ?_);clear hZ hK K;try simp only [put_lit2,List.set]
 refine Cq (by kernel_rfl) ?_;have k9:w8.cell? ⟨w.heap.size,9,none⟩=some (.slice x.pathA x.path.length x.pathC):=(az.cell 9).trans e9.out;have z9:=az.frozen 9;have co:w8.cell? ⟨w.heap.size,24,none⟩=some (.slice x.histA x.hist.length x.histC):=(az.cell 24).trans bi.out;have ep:=az.frozen 24;refine oG 7 (fun K hK=> ?_);go_simp;refine hK.out _ _ trivial (fun hZ=> ?_);clear hZ hK K;try simp only [put_lit2,List.set]
 refine oG 8 (fun K hK=> ?_);go_simp;refine hK.out _ _ trivial (fun hZ=> ?_);clear hZ hK K;try simp only [put_lit2,List.set]
 refine oG 9 (fun K hK=> ?_);go_simp;refine hK.out _ _ trivial (fun hZ=> ?_);clear hZ hK K;try simp only [put_lit2,List.set]
 refine oD ?_;go_simp;obtain ⟨b9,av⟩:=Aa ({x with pastA:=A1,pastC:=c1,bodyA:=A2,bodyC:=c2,refsA:=A3,refsC:=c3,guardsA:=A4,guardsC:=c4,boxesA:=A5,boxesC:=c5,pathA:=A7,pathC:=c7,histA:=A8,histC:=c8}:OpL).cells
 have dc:Blk ((w8.setCell ⟨w.heap.size,9,none⟩ (.slice A7 x.path.length c7)).setCell ⟨w.heap.size,24,none⟩ (.slice A8 x.hist.length c8)) w.heap.size 44 b9:=by
  rw [← av.out];rw [← al.out] at az;exact (az.set 9 _).set 24 _
 have ak:Fr (One w.heap.size) w8 ((w8.setCell ⟨w.heap.size,9,none⟩ (.slice A7 x.path.length c7)).setCell ⟨w.heap.size,24,none⟩ (.slice A8 x.hist.length c8)):=((Fr.refl (One w.heap.size) w8).setCell (p:=⟨w.heap.size,9,none⟩) (fun _=>rfl) _).setCell (p:=⟨w.heap.size,24,none⟩) (fun _=>rfl) _;have dy:=dm.fr ak (fun e=>by have e':w.heap.size+1=w.heap.size:=e;omega);have ba:x.at ((w8.setCell ⟨w.heap.size,9,none⟩ (.slice A7 x.path.length c7)).setCell ⟨w.heap.size,24,none⟩ (.slice A8 x.hist.length c8)) w.heap.size:=bv.fr ak (fun j hj e=>by have e':j=w.heap.size:=e;omega);have dw:Fr Non w ((w8.setCell ⟨w.heap.size,9,none⟩ (.slice A7 x.path.length c7)).setCell ⟨w.heap.size,24,none⟩ (.slice A8 x.hist.length c8)):=dl.trans ak (fun j hj e=>by have e':j=w.heap.size:=e;omega);have bj:=f7.trans f8 zr;have ew:w8.heap.size≤((w8.setCell ⟨w.heap.size,9,none⟩ (.slice A7 x.path.length c7)).setCell ⟨w.heap.size,24,none⟩ (.slice A8 x.hist.length c8)).heap.size:=ak.size;have N6:w.heap.size+2≤w6.drew.heap.size:=es;have b1:∀k,Ab A1=some k→w.heap.size+2≤k∧k<w6.drew.heap.size:=p1.row;have q1:=(p1.fr bj zr).fr ak (fun j hj e=>by have h1:=(b1 j hj).1;have e':j=w.heap.size:=e;omega);have b2:∀k,Ab A2=some k→w.heap.size+2≤k∧k<w6.drew.heap.size:=p2.row;have q2:=(p2.fr bj zr).fr ak (fun j hj e=>by have h1:=(b2 j hj).1;have e':j=w.heap.size:=e;omega);have b3:∀k,Ab A3=some k→w.heap.size+2≤k∧k<w6.drew.heap.size:=p3.row;have q3:=(p3.fr bj zr).fr ak (fun j hj e=>by have h1:=(b3 j hj).1;have e':j=w.heap.size:=e;omega);have b4:∀k,Ab A4=some k→w.heap.size+2≤k∧k<w6.drew.heap.size:=p4.row;have q4:=(p4.fr bj zr).fr ak (fun j hj e=>by have h1:=(b4 j hj).1;have e':j=w.heap.size:=e;omega);have b5:∀k,Ab A5=some k→w.heap.size+2≤k∧k<w6.drew.heap.size:=p5.row;have q5:=(p5.fr bj zr).fr ak (fun j hj e=>by have h1:=(b5 j hj).1;have e':j=w.heap.size:=e;omega);have b7:=o7.row;have b8:=o8.row;have q7:=((o7.lower (base':=w.heap.size+2) N6).fr f8 zr).fr ak (fun j hj e=>by have h1:=(b7 j hj).1;have e':j=w.heap.size:=e;omega);have q8:=(o8.lower (base':=w.heap.size+2) (by omega)).fr ak (fun j hj e=>by have h1:=(b8 j hj).1;have e':j=w.heap.size:=e;omega);clear ay ce az cf dn dm bx du dl ap a6 bv f7 f8 bj ak o7 o8 p1 p2 p3 p4 p5 e9 bi k9 co z9 ep al;generalize ((w8.setCell ⟨w.heap.size,9,none⟩ (.slice A7 x.path.length c7)).setCell ⟨w.heap.size,24,none⟩ (.slice A8 x.hist.length c8))=w9 at*;have e9:Hid (b9[9]? =some (.slice A7 x.path.length c7)):=by show _=_;rw [← av.out];rfl
 have bi:Hid (b9[24]? =some (.slice A8 x.hist.length c8)):=by show _=_;rw [← av.out];rfl
 have k9:w9.cell? ⟨w.heap.size,9,none⟩=some (.slice A7 x.path.length c7):=(dc.cell 9).trans e9.out;obtain ⟨np,b6⟩:=Aa x.path.length;obtain ⟨nh,cd⟩:=Aa x.hist.length;rw [b6.out] at k9 e9 bs q7;rw [cd.out] at bi bz q8;go_wp2_with (fail)
 go_loopw [36] (fun v wr=>∃(k:Nat) (L:List NdL),v=.int .i64 (k:Int)∧k≤np∧Hid (L.map NdL.nd=x.path.map NdL.nd)∧Hid (L.drop k=x.path.drop k)∧Own wr (w.heap.size+2) 103 2 A7 np c7 (L.flatMap NdL.cells)∧Hid (∀y∈L.take k,Own wr w9.heap.size 144 4 y.A y.xs.length y.c (y.xs.flatMap Bx.cells))∧Fr (fun b=>Ab A7=some b) w9 wr) (fun v _=>np-(intOf v).toNat)
 case atStart=>exact ⟨0,x.path,rfl,by omega,rfl,rfl,q7,(fun _ h=>by simp at h),Fr.refl _ _⟩
 case round=>
  obtain ⟨k,L,rfl,hk,ad,ab,af,aa,hf⟩:=hrel
  by_cases hlt:k<np
  ·
   have i1:(0:Int)≤k:=by omega
   have i2:(k:Int)<np:=by omega
   have i3:(k:Int).toNat=k:=by omega
   obtain ⟨y,hy⟩:∃y,x.path[k]? =some y:=⟨_,Ak9 (by rw [b6.out];exact hlt)⟩;have aw:L[k]? =some y:=(Kh ab.out).trans hy;have ao:=Ak7 hy;have cg:=a8.out y ao;obtain ⟨g,hA,ct,eg,ae,be,_⟩:=Own.setAt af (j:=k*2+1) (by omega) (.int .i64 0);have bc:=(ba.nodes y ao).fr hf (fun j hj e=>by have h1:=(b7 j e).1;omega);have d0:wr.cell? ⟨g,k*2+1,none⟩=some (.slice y.A y.xs.length y.c):=ae _ (by rw [Ew (f:=NdL.cells) (fun _=>rfl) L k 1 y aw (by omega)];rfl);have kk:wr.cell? ⟨w.heap.size,9,none⟩=some (.slice A7 np c7):=hf.cell k9 (fun e=>by have h1:w6.drew.heap.size≤w.heap.size:=(b7 _ e).1;omega);have ee:w.heap.size+2≤g:=ct;rw [hA] at kk
   have ag:∀(wv:World) (u:Value),Fr Non wr wv→wv.cell? ⟨g,k*2+1,none⟩=some (.slice y.A y.xs.length y.c)∧wv.frozen? ⟨g,k*2+1,none⟩=false∧Own (wv.setCell ⟨g,k*2+1,none⟩ u) (w.heap.size+2) 103 2 A7 np c7 ((L.flatMap NdL.cells).set (k*2+1) u):=by
    intro wv u bu;obtain ⟨g2,bp,_,_,ej,bf,ci⟩:=Own.setAt (af.fr bu zr) (j:=k*2+1) (by omega) u;rw [hA] at bp;have cu:g=g2:=by injection bp with e;injection e
    subst cu;exact ⟨bu.cell d0 zq,bf,ci⟩
   replace ag:=Lib.hid ag;replace hA:=Lib.hid hA;clear ae be;go_upto_region 6 with (fail)
   refine C3 (S:=(fun w'=>w'.cell? ⟨w.heap.size,9,none⟩=some (.slice (some ⟨g,0,none⟩) np c7)∧w'.cell? ⟨g,k*2+1,none⟩=some (.slice y.A y.xs.length y.c))) 10 (by kernel_rfl) ?_;have hS:(fun w'=>w'.cell? ⟨w.heap.size,9,none⟩=some (.slice (some ⟨g,0,none⟩) np c7)∧w'.cell? ⟨g,k*2+1,none⟩=some (.slice y.A y.xs.length y.c)) wr.drew:=⟨kk,d0⟩;have fd:Fr Non wr wr.drew:=(Fr.refl Non wr).drew;have db:Rd wr.drew w.heap.size 4 y.A y.xs.length (y.xs.flatMap Bx.cells):=And.left (bc.fr fd zr);refine tkG 0 hS (h:=tkG 1 hS (h:=tkG 2 hS (h:=tkG 3 hS (h:=tkG 4 hS (h:=tkG 5 hS (h:=tkG 6 hS (h:=tkG 7 hS (h:=tkG 8 hS (h:=?_)))))))));simp only [List.set];refine Bh 9 (by kernel_rfl) rfl (fun K hK=> ?_);go_simp;go_wp2_with (go_at_call 121;go_loud (with_reducible refine (Oz _ _ _ _ _ _ db (O7 _) cg).mono ?_);rintro _ wv ⟨A',c',rfl,ov,fv⟩);have ax:=fd.trans fv zr;obtain ⟨d1,z1,df⟩:=ag.out wv (.slice A' y.xs.length c') ax;refine hK.out _ _ ⟨ax.cell kk zq,d1⟩ (fun hZ=> ?_);clear hZ hK K;try simp only [put_lit2,List.set]
   refine Cq (by kernel_rfl) ?_;refine oG 10 (fun K hK=> ?_);go_simp;refine hK.out _ _ trivial (fun hZ=> ?_);clear hZ hK K;try simp only [put_lit2,List.set]
   refine oG 11 (fun K hK=> ?_);go_simp;refine hK.out _ _ trivial (fun hZ=> ?_);clear hZ hK K;try simp only [put_lit2,List.set]
   refine oG 12 (fun K hK=> ?_);go_simp;refine hK.out _ _ trivial (fun hZ=> ?_);clear hZ hK K;try simp only [put_lit2,List.set]
   refine oD ?_;go_simp;have ex:∃y':NdL,y'={y with A:=A',c:=c'}:=⟨_,rfl⟩;obtain ⟨y',a5⟩:=ex
   have bb:Own (wv.setCell ⟨g,k*2+1,none⟩ (.slice A' y.xs.length c')) (w.heap.size+2) 103 2 A7 np c7 ((L.set k y').flatMap NdL.cells):=by
    rw [← Ft (f:=NdL.cells) (size:=2) (fun _=>rfl) (j:=1) (by omega) (.slice A' y.xs.length c') y' L k y aw (by rw [a5];rfl)];exact df
   have fs:Fr (One g) wv (wv.setCell ⟨g,k*2+1,none⟩ (.slice A' y.xs.length c')):=(Fr.refl (One g) wv).setCell (p:=⟨g,k*2+1,none⟩) (fun _=>rfl) _;have br:Ab A7=some g:=by rw [hA.out];rfl
   have cw:=hf.size
   have aq:Hid (∀z∈(L.set k y').take (k+1),Own (wv.setCell ⟨g,k*2+1,none⟩ (.slice A' y.xs.length c')) w9.heap.size 144 4 z.A z.xs.length z.c (z.xs.flatMap Bx.cells)):=by
    intro z hz;rw [Kg L k y' aw] at hz;have ed:g<w9.heap.size:=by have h1:=(b7 g br).2;omega
    rcases List.mem_append.1 hz with hz|hz
    · exact ((aa.out z hz).fr ax zr).fr fs (fun j hj e=>by have h1:=((aa.out z hz).row j hj).1;have e':j=g:=e;omega)
    ·
     obtain rfl:=List.mem_singleton.1 hz;subst a5;exact (ov.lower cw).fr fs (fun j hj e=>by have h1:=(ov.row j hj).1;have h2:wr.drew.heap.size=wr.heap.size:=rfl;have e':j=g:=e;omega)
   have bg:Fr (fun b=>Ab A7=some b) w9 (wv.setCell ⟨g,k*2+1,none⟩ (.slice A' y.xs.length c')):=(hf.trans ax (fun _ _ e=>e.elim)).trans fs (fun j hj e=>by have e':j=g:=e;subst e';exact br);have bd:Hid ((L.set k y').map NdL.nd=x.path.map NdL.nd):=(O5 NdL.nd L k aw (by rw [a5];rfl)).trans ad.out;have ar:Hid ((L.set k y').drop (k+1)=x.path.drop (k+1)):=O6 _ _ k y' ab.out;generalize wv.setCell ⟨g,k*2+1,none⟩ (.slice A' y.xs.length c')=ws at*;generalize L.set k y'=L2 at*;go_wp2_with (fail);go_roundw
   case rel=>exact ⟨k+1,L2,by go_num,by omega,bd,ar,bb,aq,bg⟩
   case measure=>simp [intOf];omega
  ·
   obtain rfl:np=k:=by omega
   have a9:L.length=x.path.length:=by have h1:=congrArg List.length ad.out;rwa [Al0,Al0] at h1
   rw [Al1 (by rw [a9,b6.out];exact Ak8 _)] at aa;obtain ⟨bh,c9⟩:∃u,u=wr:=⟨_,rfl⟩;subst c9;have d6:=hf.size;have bq:=dc.fr hf (fun e=>by have h1:w6.drew.heap.size≤w.heap.size:=(b7 _ e).1;omega);have cp:=dy.fr hf (fun e=>by have h1:w6.drew.heap.size≤w.heap.size+1:=(b7 _ e).1;omega);have bo:=ba.fr hf (fun j hj e=>by have h1:=(b7 j e).1;omega);have ck:=dw.trans hf (fun j hj e=>by have h1:=(b7 j e).1;omega);have t1:=q1.fr hf (fun j hj e=>by have h1:=(b1 j hj).2;have h2:=(b7 j e).1;omega);have t2:=q2.fr hf (fun j hj e=>by have h1:=(b2 j hj).2;have h2:=(b7 j e).1;omega);have t3:=q3.fr hf (fun j hj e=>by have h1:=(b3 j hj).2;have h2:=(b7 j e).1;omega);have t4:=q4.fr hf (fun j hj e=>by have h1:=(b4 j hj).2;have h2:=(b7 j e).1;omega);have t5:=q5.fr hf (fun j hj e=>by have h1:=(b5 j hj).2;have h2:=(b7 j e).1;omega);have t8:=q8.fr hf (fun j hj e=>by have h1:=(b8 j hj).1;have h2:=(b7 j e).2;omega);have t7:=af;have a2:=ad;have ah:=aa;have bm:=Lib.hid a9;clear ad aa ab af hlt hk a9 hf dc dy ba dw q1 q2 q3 q4 q5 q7 q8 k9;obtain ⟨L7,d7⟩:∃u,u=L:=⟨_,rfl⟩;subst d7;have co:bh.cell? ⟨w.heap.size,24,none⟩=some (.slice A8 nh c8):=(bq.cell 24).trans bi.out;go_wp2_with (fail)
   go_loopw [55] (fun v wr=>∃(k:Nat) (L:List SlL),v=.int .i64 (k:Int)∧k≤nh∧Hid (L.map SlL.sl=x.hist.map SlL.sl)∧Hid (L.drop k=x.hist.drop k)∧Own wr (w.heap.size+2) 106 4 A8 nh c8 (L.flatMap SlL.cells)∧Hid (∀y∈L.take k,Own wr bh.heap.size 5 1 y.A y.y.length y.c (y.y.map Bv))∧Fr (fun b=>Ab A8=some b) bh wr) (fun v _=>nh-(intOf v).toNat)
   case atStart=>exact ⟨0,x.hist,rfl,by omega,rfl,rfl,t8,(fun _ h=>by simp at h),Fr.refl _ _⟩
   case round=>
    obtain ⟨k,L,rfl,hk,ad,ab,af,aa,hf⟩:=hrel
    by_cases hlt:k<nh
    ·
     have i1:(0:Int)≤k:=by omega
     have i2:(k:Int)<nh:=by omega
     have i3:(k:Int).toNat=k:=by omega
     obtain ⟨y,hy⟩:∃y,x.hist[k]? =some y:=⟨_,Ak9 (by rw [cd.out];exact hlt)⟩;have aw:L[k]? =some y:=(Kh ab.out).trans hy;have ao:=Ak7 hy;have cg:=a4.out y ao;obtain ⟨g,hA,ct,eg,ae,be,_⟩:=Own.setAt af (j:=k*4+3) (by omega) (.int .i64 0);have bc:=(bo.seals y ao).fr hf (fun j hj e=>by have h1:=(b8 j e).1;omega);have d0:wr.cell? ⟨g,k*4+3,none⟩=some (.slice y.A y.y.length y.c):=ae _ (by rw [Ew (f:=SlL.cells) (fun _=>rfl) L k 3 y aw (by omega)];rfl);have kk:wr.cell? ⟨w.heap.size,24,none⟩=some (.slice A8 nh c8):=hf.cell co (fun e=>by have h1:w7.heap.size≤w.heap.size:=(b8 _ e).1;omega);have ee:w.heap.size+2≤g:=ct;rw [hA] at kk
     have ag:∀(wv:World) (u:Value),Fr Non wr wv→wv.cell? ⟨g,k*4+3,none⟩=some (.slice y.A y.y.length y.c)∧wv.frozen? ⟨g,k*4+3,none⟩=false∧Own (wv.setCell ⟨g,k*4+3,none⟩ u) (w.heap.size+2) 106 4 A8 nh c8 ((L.flatMap SlL.cells).set (k*4+3) u):=by
      intro wv u bu;obtain ⟨g2,bp,_,_,ej,bf,ci⟩:=Own.setAt (af.fr bu zr) (j:=k*4+3) (by omega) u;rw [hA] at bp;have cu:g=g2:=by injection bp with e;injection e
      subst cu;exact ⟨bu.cell d0 zq,bf,ci⟩
     replace ag:=Lib.hid ag;replace hA:=Lib.hid hA;clear ae be;go_upto_region 11 with (fail)
     refine C3 (S:=(fun w'=>w'.cell? ⟨w.heap.size,24,none⟩=some (.slice (some ⟨g,0,none⟩) nh c8)∧w'.cell? ⟨g,k*4+3,none⟩=some (.slice y.A y.y.length y.c))) 10 (by kernel_rfl) ?_;have hS:(fun w'=>w'.cell? ⟨w.heap.size,24,none⟩=some (.slice (some ⟨g,0,none⟩) nh c8)∧w'.cell? ⟨g,k*4+3,none⟩=some (.slice y.A y.y.length y.c)) wr.drew:=⟨kk,d0⟩;have fd:Fr Non wr wr.drew:=(Fr.refl Non wr).drew;have db:Rd wr.drew w.heap.size 1 y.A y.y.length (y.y.map Bv):=And.left (bc.fr fd zr);refine tkG 0 hS (h:=tkG 1 hS (h:=tkG 2 hS (h:=tkG 3 hS (h:=tkG 4 hS (h:=tkG 5 hS (h:=tkG 6 hS (h:=tkG 7 hS (h:=tkG 8 hS (h:=?_)))))))));simp only [List.set];refine Bh 9 (by kernel_rfl) rfl (fun K hK=> ?_);go_simp;go_wp2_with (go_at_call 118;go_loud (with_reducible refine (Oy _ _ _ _ _ _ db (Ib Bv (fun _=>rfl) _) cg).mono ?_);rintro _ wv ⟨A',c',rfl,ov,fv⟩);have ax:=fd.trans fv zr;obtain ⟨d1,z1,df⟩:=ag.out wv (.slice A' y.y.length c') ax;refine hK.out _ _ ⟨ax.cell kk zq,d1⟩ (fun hZ=> ?_);clear hZ hK K;try simp only [put_lit2,List.set]
     refine Cq (by kernel_rfl) ?_;refine oG 10 (fun K hK=> ?_);go_simp;refine hK.out _ _ trivial (fun hZ=> ?_);clear hZ hK K;try simp only [put_lit2,List.set]
     refine oG 11 (fun K hK=> ?_);go_simp;refine hK.out _ _ trivial (fun hZ=> ?_);clear hZ hK K;try simp only [put_lit2,List.set]
     refine oG 12 (fun K hK=> ?_);go_simp;refine hK.out _ _ trivial (fun hZ=> ?_);clear hZ hK K;try simp only [put_lit2,List.set]
     refine oD ?_;go_simp;have ex:∃y':SlL,y'={y with A:=A',c:=c'}:=⟨_,rfl⟩;obtain ⟨y',a5⟩:=ex
     have bb:Own (wv.setCell ⟨g,k*4+3,none⟩ (.slice A' y.y.length c')) (w.heap.size+2) 106 4 A8 nh c8 ((L.set k y').flatMap SlL.cells):=by
      rw [← Ft (f:=SlL.cells) (size:=4) (fun _=>rfl) (j:=3) (by omega) (.slice A' y.y.length c') y' L k y aw (by rw [a5];rfl)];exact df
     have fs:Fr (One g) wv (wv.setCell ⟨g,k*4+3,none⟩ (.slice A' y.y.length c')):=(Fr.refl (One g) wv).setCell (p:=⟨g,k*4+3,none⟩) (fun _=>rfl) _;have br:Ab A8=some g:=by rw [hA.out];rfl
     have cw:=hf.size
     have aq:Hid (∀z∈(L.set k y').take (k+1),Own (wv.setCell ⟨g,k*4+3,none⟩ (.slice A' y.y.length c')) bh.heap.size 5 1 z.A z.y.length z.c (z.y.map Bv)):=by
      intro z hz;rw [Kg L k y' aw] at hz;have ed:g<bh.heap.size:=by have h1:=(b8 g br).2;omega
      rcases List.mem_append.1 hz with hz|hz
      · exact ((aa.out z hz).fr ax zr).fr fs (fun j hj e=>by have h1:=((aa.out z hz).row j hj).1;have e':j=g:=e;omega)
      ·
       obtain rfl:=List.mem_singleton.1 hz;subst a5;exact (ov.lower cw).fr fs (fun j hj e=>by have h1:=(ov.row j hj).1;have h2:wr.drew.heap.size=wr.heap.size:=rfl;have e':j=g:=e;omega)
     have bg:Fr (fun b=>Ab A8=some b) bh (wv.setCell ⟨g,k*4+3,none⟩ (.slice A' y.y.length c')):=(hf.trans ax (fun _ _ e=>e.elim)).trans fs (fun j hj e=>by have e':j=g:=e;subst e';exact br);have bd:Hid ((L.set k y').map SlL.sl=x.hist.map SlL.sl):=(O5 SlL.sl L k aw (by rw [a5];rfl)).trans ad.out;have ar:Hid ((L.set k y').drop (k+1)=x.hist.drop (k+1)):=O6 _ _ k y' ab.out;generalize wv.setCell ⟨g,k*4+3,none⟩ (.slice A' y.y.length c')=ws at*;generalize L.set k y'=L2 at*;go_wp2_with (fail);go_roundw
     case rel=>exact ⟨k+1,L2,by go_num,by omega,bd,ar,bb,aq,bg⟩
     case measure=>simp [intOf];omega
    ·
     obtain rfl:nh=k:=by omega
     have a9:L.length=x.hist.length:=by have h1:=congrArg List.length ad.out;rwa [Al0,Al0] at h1
     rw [Al1 (by rw [a9,cd.out];exact Ak8 _)] at aa;obtain ⟨a3,cn⟩:∃u,u=wr:=⟨_,rfl⟩;subst cn;have cj:=bq.fr hf (fun e=>by have h1:w7.heap.size≤w.heap.size:=(b8 _ e).1;omega);have a7:=cp.fr hf (fun e=>by have h1:w7.heap.size≤w.heap.size+1:=(b8 _ e).1;omega);have de:=ck.trans hf (fun j hj e=>by have h1:=(b8 j e).1;omega);have s1:=(t1.fr hf (fun j hj e=>by have h1:=(b1 j hj).2;have h2:=(b8 j e).1;omega)).lower (base':=w.heap.size) (by omega);have s2:=(t2.fr hf (fun j hj e=>by have h1:=(b2 j hj).2;have h2:=(b8 j e).1;omega)).lower (base':=w.heap.size) (by omega);have s3:=(t3.fr hf (fun j hj e=>by have h1:=(b3 j hj).2;have h2:=(b8 j e).1;omega)).lower (base':=w.heap.size) (by omega);have s4:=(t4.fr hf (fun j hj e=>by have h1:=(b4 j hj).2;have h2:=(b8 j e).1;omega)).lower (base':=w.heap.size) (by omega);have s5:=(t5.fr hf (fun j hj e=>by have h1:=(b5 j hj).2;have h2:=(b8 j e).1;omega)).lower (base':=w.heap.size) (by omega);have s7:=(t7.fr hf (fun j hj e=>by have h1:=(b7 j hj).2;have h2:=(b8 j e).1;omega)).lower (base':=w.heap.size) (by omega);have s8:=af.lower (base':=w.heap.size) (by omega);have em:∀j,w9.heap.size≤j→¬(Ab A8=some j):=fun j hj e=>by have h2:=(b8 j e).2;omega
     have r7:Hid (∀y∈L7,Own a3 w.heap.size 144 4 y.A y.xs.length y.c (y.xs.flatMap Bx.cells)):=fun y hy=>((ah.out y hy).fr hf (fun j hj e=>em j ((ah.out y hy).row j hj).1 e)).lower (by omega);have r8:Hid (∀y∈L,Own a3 w.heap.size 5 1 y.A y.y.length y.c (y.y.map Bv)):=fun y hy=>(aa.out y hy).lower (by omega);obtain ⟨v,hv⟩:∃v:OpL,v={x with pastA:=A1,pastC:=c1,bodyA:=A2,bodyC:=c2,refsA:=A3,refsC:=c3,guardsA:=A4,guardsC:=c4,boxesA:=A5,boxesC:=c5,pathA:=A7,pathC:=c7,histA:=A8,histC:=c8,path:=L7,hist:=L}:=⟨_,rfl⟩
     have dh:v.op=x.op:=by
      rw [hv];unfold OpL.op;simp only [a2.out,ad.out]
     have bl:v.own a3 w.heap.size:=by
      rw [b6.out.symm,← bm.out] at s7;rw [cd.out.symm,← a9] at s8;rw [hv];exact ⟨RowAt.of_own s1,RowAt.of_own s7,(fun y hy=>RowAt.of_own (r7.out y hy)),RowAt.of_own s2,RowAt.of_own s3,RowAt.of_own s4,RowAt.of_own s5,RowAt.of_own s8,(fun y hy=>RowAt.of_own (r8.out y hy))⟩
     have d2:Blk a3 w.heap.size 44 v.cells:=by
      have hc:v.cells=b9:=by
       rw [← av.out,hv];unfold OpL.cells;simp only [bm.out,a9]
      rw [hc];exact cj
     clear hv a2 ad r7 r8 s1 s2 s3 s4 s5 s7 s8 ah aa t1 t2 t3 t4 t5 t7 t8;have bk:=Cb v
     have eo:Hid (∀wz,Fr (One (w.heap.size+1)) a3 wz→POST (.returned (.agg v.cells)) wz):=by
      intro wz hz;exact a1.out v wz dh (bl.keep hz ((Types.one a7).mono (fun t e=> .inl e))) (de.trans hz (fun k hk e=>absurd hk (by have e':k=w.heap.size+1:=e;omega)))
     clear dh bl a1;have bw:True:=trivial
     go_wp2_with (first
      |(have _t:=bw;refine M6 rfl 44 (.tmp 1) rfl rfl d2 Tryz.underlying44 rfl hi ?_;clear bw _t)
      |(refine Ey rfl 44 (.tmp 2) (.tmp 71) rfl rfl rfl rfl a7 hi rfl bk ?_;have be:=(Fr.refl (One (w.heap.size+1)) a3).setRow (g:=w.heap.size+1) (fun _=>rfl) v.cells;have bf:=a7.setRow (cs:=v.cells);generalize a3.setRow (w.heap.size+1) v.cells=wz at be bf ⊢;(repeat (first|go_values|go_skip|go_guarded|go_step));exact Dm (t:=44) rfl rfl bf rfl Tryz.underlying44 (by kernel_rfl) rfl (eo.out wz be)))
end Oq
namespace Oq
attribute [local go_sem ↓] Ch Eg
attribute [local go_sem] Bool.not_false Bool.not_true
theorem Gu {P:Program} {t:TypeId} {d:TypeDesc} (cs:Array Value) (b o:Nat) (hu:P.underlying t=some d) (hd:d.isRow=true) (hi:(P.info? t).map (·.size)=some cs.size):
  ∀w',World.rangeAt w' b o cs.toList→(ldS t (.pointer (some ⟨b,o,none⟩))).run P w'=.ok (.agg cs) w':=fun w' h=>by
 have:=run_loadAt_mid (P:=P) w' b o t cs.toList d h hu hd (by rw [hi];simp);unfold ldS;rw [this]
def Gv (r:Option OpL) (w:World) (e:Ending) (w':World):Prop:=
 match r with
 |none=>e=.returned (.tuple #[.agg OpL.zero.cells,.bool false])∧Fr Non w w'
 |some x=>∃y:OpL,e=.returned (.tuple #[.agg y.cells,.bool true])∧y.op=x.op∧y.own w' w.heap.size∧Fr Non w w'
def Gph.opOf (g:Gph) (id:Id):Option OpL:=match Af g.nodes id with|some i=>g.nodes[i]?.map Ah.x|none=>none
theorem Wg (base:Nat) (g:Gph) (id:Id) (w:World) (hg:GAt w base g) (hid:id.ok):Calls Tryz.prog 36 #[.pointer (some ⟨g.gb,0,none⟩),.agg id.V] w (Gv (g.opOf id) w):=by
 have hi:(Tryz.prog.info? 44).map (·.size)=some 27:=by kernel_rfl
 have f1:Fr Non w (w.alloc (.cells id.V 38)):=(Fr.refl Non w).alloc _;have f0:=f1.alloc (.cells zO 44);have af:=(Blk.new w 38 id.V).alloc (.cells zO 44);have br:=Blk.new (w.alloc (.cells id.V 38)) 44 zO;rw [Ak6] at br;have ax:((w.alloc (.cells id.V 38)).alloc (.cells zO 44)).heap.size=w.heap.size+2:=by rw [Ak6,Ak6]
 have ab:=hg.fr f0;generalize hw0:((w.alloc (.cells id.V 38)).alloc (.cells zO 44))=w0 at*;have i0:w0.cell? ⟨w.heap.size,0,none⟩=some (.int .i64 id.b):=af.cell 0;have i1:w0.cell? ⟨w.heap.size,1,none⟩=some (.int .i64 id.s):=af.cell 1;have i2:w0.cell? ⟨w.heap.size,2,none⟩=some (.int .u64 (id.u:Int)):=af.cell 2;have c1:w0.cell? ⟨g.gb,1,none⟩=some (.map (some g.mb)):=ab.blk.cell 1;have c2:w0.cell? ⟨g.gb,2,none⟩=some (.slice g.nA g.nodes.length g.nC):=ab.blk.cell 2;have aa:=ab.map;have ac:=fun (w':World) (h:MapAt w' g.mb g.mm (Af g.nodes))=>MapAt.look h id hid;have ag:Hid (g.opOf id=match Af g.nodes id with|some i=>g.nodes[i]?.map Ah.x|none=>none):=rfl;generalize g.opOf id=R at*
 cases hp:Af g.nodes id
 ·
  have hR:R=none:=by rw [ag.out,hp]
  have al:Hid (∀wz,Fr (One (w.heap.size+1)) w0 wz→Gv R w (.returned (.tuple #[.agg OpL.zero.cells,.bool false])) wz):=by
   intro wz hz;rw [hR];exact ⟨rfl,f0.trans hz (fun k hk e=>absurd hk (by have e':k=w.heap.size+1:=e;omega))⟩
  clear hR ag;generalize Gv R w=POST at*;rw [hp] at ac;clear hg ab af hp;go_enter Tryz.func36,Tryz.ntmps36;go_wp2_with (fail);clear hw0;refine wp_region_held_drew (S:=(fun w'=>w'.cell? ⟨w.heap.size,0,none⟩=some (.int .i64 id.b)∧w'.cell? ⟨w.heap.size,1,none⟩=some (.int .i64 id.s)∧w'.cell? ⟨w.heap.size,2,none⟩=some (.int .u64 (id.u:Int))∧w'.cell? ⟨g.gb,1,none⟩=some (.map (some g.mb))∧MapAt w' g.mb g.mm (Af g.nodes))) (by kernel_rfl) ⟨i0,i1,i2,c1,aa⟩ (fun hHeld=> ?_);clear hHeld;have hS:(fun w'=>w'.cell? ⟨w.heap.size,0,none⟩=some (.int .i64 id.b)∧w'.cell? ⟨w.heap.size,1,none⟩=some (.int .i64 id.s)∧w'.cell? ⟨w.heap.size,2,none⟩=some (.int .u64 (id.u:Int))∧w'.cell? ⟨g.gb,1,none⟩=some (.map (some g.mb))∧MapAt w' g.mb g.mm (Af g.nodes)) w0.drew:=⟨i0,i1,i2,c1,aa⟩;replace f0:=f0.drew;replace br:=br.drew;refine tkH 0 hS (h:=tkH 1 hS (h:=tkH 2 hS (h:=tkH 3 hS (h:=tkH 4 hS (h:=tkH 5 hS (h:=tkH 6 hS (h:=tkH 7 hS (h:=tkH 8 hS (h:=tkH 9 hS (h:=tkH 10 hS (h:=?_)))))))))));simp only [List.set];refine oD ?_;go_simp;have fz:=((Fr.refl (One (w.heap.size+1)) w0).drew).setRow (g:=w.heap.size+1) (fun _=>rfl) zO;have ah:=br.setRow (cs:=zO);have a3:=Cf (P:=Tryz.prog) (t:=44) (old:=zO) (cs:=zO) (w.heap.size+1) 44 hi rfl (Cb OpL.zero);go_wp2_with (fail)
  (try simp only [Exit.inBlock,Exit.then])
  refine Ez (t:=44) rfl rfl ah rfl Tryz.underlying44 (by kernel_rfl) rfl ?_;exact al.out _ fz
 ·
  rename_i i;obtain ⟨n,hn,_⟩:=Fc hp;have hR:R=some n.x:=by rw [ag.out,hp];simp [hn]
  have ay:=hg.few;have aw:i<g.nodes.length:=(List.getElem?_eq_some_iff.1 hn).1;have ai:=(ab.node n (Ak7 hn)).at_;have ao:=(ab.node n (Ak7 hn)).ok;obtain ⟨b,aj,hA,av,hc⟩:=ab.cell hn
  have ar:World.rangeAt w0.drew b (aj+i*35) n.x.cells.toList:=by
   intro j v hv;have hj:j<27:=(List.getElem?_eq_some_iff.1 hv).1;exact hc j (by omega) v (by unfold Ah.cells;rw [Al6 (by show j<27;exact hj)];exact hv)
  have az:=Gu (P:=Tryz.prog) n.x.cells b (aj+i*35) Tryz.underlying44 rfl hi;rw [hA] at c2;have j1:(0:Int)≤i:=by omega
  have j2:(i:Int)<g.nodes.length:=by omega
  have j3:(i:Int).toNat=i:=by omega
  have j4:IntKind.i64.wrap (i:Int)=i:=IntWalk.i64_in _ (by omega);rw [hp] at ac
  have al:Hid (∀(y:OpL) wz,y.op=n.x.op→y.own wz w.heap.size→Fr Non w wz→Gv R w (.returned (.tuple #[.agg y.cells,.bool true])) wz):=by
   intro y wz h1 h2 h3;rw [hR];exact ⟨y,rfl,h1,h2,h3⟩
  clear hR ag hg ab af hp hn aw hc hA av;generalize Gv R w=POST at*;generalize g.nodes.length=nn at*;generalize n.x=x at*;have kc:=Lib.hid (fun w' (h:x.at w' w'.heap.size)=>O8 x w' h ao);obtain ⟨CX,au⟩:=Aa x.cells;rw [au.out] at ar az kc;go_enter Tryz.func36,Tryz.ntmps36;go_wp2_with (fail);clear hw0;have aq:=c2;refine wp_region_held_drew (S:=(fun w'=>w'.cell? ⟨w.heap.size,0,none⟩=some (.int .i64 id.b)∧w'.cell? ⟨w.heap.size,1,none⟩=some (.int .i64 id.s)∧w'.cell? ⟨w.heap.size,2,none⟩=some (.int .u64 (id.u:Int))∧w'.cell? ⟨g.gb,1,none⟩=some (.map (some g.mb))∧MapAt w' g.mb g.mm (Af g.nodes))) (by kernel_rfl) ⟨i0,i1,i2,c1,aa⟩ (fun hHeld=> ?_);clear hHeld;have hS:(fun w'=>w'.cell? ⟨w.heap.size,0,none⟩=some (.int .i64 id.b)∧w'.cell? ⟨w.heap.size,1,none⟩=some (.int .i64 id.s)∧w'.cell? ⟨w.heap.size,2,none⟩=some (.int .u64 (id.u:Int))∧w'.cell? ⟨g.gb,1,none⟩=some (.map (some g.mb))∧MapAt w' g.mb g.mm (Af g.nodes)) w0.drew:=⟨i0,i1,i2,c1,aa⟩;replace f0:=f0.drew;replace br:=br.drew;refine tkH 0 hS (h:=tkH 1 hS (h:=tkH 2 hS (h:=tkH 3 hS (h:=tkH 4 hS (h:=tkH 5 hS (h:=tkH 6 hS (h:=tkH 7 hS (h:=tkH 8 hS (h:=tkH 9 hS (h:=tkH 10 hS (h:=?_)))))))))));simp only [List.set];refine oD ?_;go_simp;replace aq:w0.drew.cell? ⟨g.gb,2,none⟩=some (.slice (some ⟨b,aj,none⟩) nn g.nC):=aq;have ad:=OpL.frame ai ((Fr.refl Non w0).drew)
  go_wp2_with (first
   |(go_at_call 69;(with_reducible refine (kc.out _ ad).mono ?_);rintro _ w1 ⟨y,rfl,a0,ak,fy⟩;have ap:=br.fr fy zq;have ae:=Cb y;have a1:=f0.trans fy zr;have a2:w0.drew.heap.size=w.heap.size+2:=ax)
   |(refine Ey rfl 44 (.tmp 4) (.tmp 28) rfl rfl rfl rfl ap hi rfl ae ?_;have fz:=((Fr.refl (One (w.heap.size+1)) w1)).setRow (g:=w.heap.size+1) (fun _=>rfl) y.cells;have ah:=ap.setRow (cs:=y.cells);generalize w1.setRow (w.heap.size+1) y.cells=wz at fz ah ⊢))
  (try simp only [Exit.inBlock,Exit.then])
  refine Ez (t:=44) rfl rfl ah rfl Tryz.underlying44 (by kernel_rfl) rfl ?_;exact al.out y _ a0 ((ak.keep fz ((Types.one ap).mono (fun t e=> .inl e))).lower (by omega)) (a1.trans fz (fun k hk e=>absurd hk (by have e':k=w.heap.size+1:=e;omega)))
end Oq
namespace Oq
attribute [local go_sem ↓] Ch Eg
def O9:Prop:=∀(base gv:Nat) (A:Option Addr) (c:Nat) (l:List Id) (p:Id→Bool) (w:World),Own w base 38 3 A l.length c (l.flatMap Id.cells)→l.length≤1000000→
 (∀x∈l,∀w':World,Fr (fun k=>Ab A=some k) w w'→Calls Tryz.prog 81 #[.agg x.V,.pointer (some ⟨gv,0,none⟩)] w' (Ae (p x) w'))→
 Calls Tryz.prog 79 #[.slice A l.length c,.func (.func 81) #[] #[.pointer (some ⟨gv,0,none⟩)]] w fun e w'=>
  ∃ys:List Id,ys=l.filter (fun x=> !p x)∧e=.returned (.slice A ys.length c)∧Rd w' w'.heap.size 3 A ys.length (ys.flatMap Id.cells)∧Fr (fun k=>Ab A=some k) w w'
def Ie (l:List Id) (w:World) (e:Ending) (w':World):Prop:=∃A c,e=.returned (.slice A l.length c)∧Rd w' w'.heap.size 3 A l.length (l.flatMap Id.cells)∧Fr Non w w'
theorem Pa (base:Nat) (g:Gph) (x:OpL) (w:World) (hdel:O9) (hg:GAt w base g) (hat:x.at w w.heap.size) (hok:∀id∈x.past,id.ok) (hn:x.past.length≤1000000):
  Calls Tryz.prog 26 #[.pointer (some ⟨g.gb,0,none⟩),.agg x.cells] w (Ie (x.past.filter (fun id=> !(Af g.nodes id).isSome)) w):=by
 have e4:Hid (x.cells[4]? =some (.slice x.pastA x.past.length x.pastC)):=rfl;obtain ⟨CS,hCS⟩:=Aa x.cells;have f0:Fr Non w ((w.alloc (.cells #[.pointer (some ⟨g.gb,0,none⟩)] 34)).alloc (.cells CS 44)):=((Fr.refl Non w).alloc _).alloc _;have bg:=(Blk.new w 34 #[.pointer (some ⟨g.gb,0,none⟩)]).alloc (.cells CS 44);have bx:=Blk.new (w.alloc (.cells #[.pointer (some ⟨g.gb,0,none⟩)] 34)) 44 CS;rw [Ak6] at bx;rw [hCS.out] at e4 ⊢
 have hfin:Hid (∀(ys:List Id) A c w',ys=x.past.filter (fun id=> !(Af g.nodes id).isSome)→Rd w' w'.heap.size 3 A ys.length (ys.flatMap Id.cells)→Fr Non w w'→Ie (x.past.filter (fun id=> !(Af g.nodes id).isSome)) w (.returned (.slice A ys.length c)) w'):=by
  intro ys A c w' h1 h2 h3;subst h1;exact ⟨A,c,rfl,h2,h3⟩
 generalize Ie (x.past.filter (fun id=> !(Af g.nodes id).isSome)) w=POST at*;go_enter Tryz.func26,Tryz.ntmps26;go_upto_region 1 with (fail)
 generalize (w.alloc (.cells #[.pointer (some ⟨g.gb,0,none⟩)] 34)).alloc (.cells CS 44)=w0 at*;have c4:w0.cell? ⟨w.heap.size+1,4,none⟩=some (.slice x.pastA x.past.length x.pastC):=(bx.cell 4).trans e4.out;have kc:=Lib.hid (Ox _ _ x.pastC _ _ w0 (OpL.frame hat f0).past.rd (Id.cells_one _) hn);go_wp2_with (fail);refine (kc.out).mono ?_;rintro _ w1 ⟨A1,c1,rfl,o1,f1⟩;have sz0:=f0.size;have f01:=f0.trans f1 zr;have bg1:=bg.fr f1 zq;have hrow:=o1.row
 have kd:=Lib.hid (hdel w0.heap.size w.heap.size A1 c1 x.past (fun id=>(Af g.nodes id).isSome) w1 o1 hn (fun id hid w' hf=>by
  have hf':Fr Non w w':=f01.trans hf (fun j hj e=>by have h1:=(hrow j e).1;omega);refine (Um base g w.heap.size id w' (hg.fr hf') ?_ (hok id hid));exact (bg1.fr hf (fun e=>by have h1:=(hrow _ e).1;have h2:=bg.lt;omega)).cell 0))
 have hff:Hid (∀w',Fr (fun k=>Ab A1=some k) w1 w'→Fr Non w w'):=fun w' hf=>f01.trans hf (fun j hj e=>by have h1:=(hrow j e).1;omega);clear kc hdel hg hat hok bg bx bg1 o1 f1 f0 f01;go_wp2_with (fail);refine (kd.out).mono ?_;rintro _ w2 ⟨ys,hys,rfl,hrd,hf2⟩;have fin:=Lib.hid (hfin.out ys A1 c1 w2 hys hrd (hff.out w2 hf2));clear hfin hff kd hys hrd hf2;go_wp2_with (fail);exact fin.out
end Oq
end
section
open Go.RowKit
theorem Wh {P:Program} (w:World) (t e ty:TypeId) (z:Value) (ht:P.underlying t=some (.slice e)) (hv:∀w,(zeroValue e).run P w=.ok z w) (b o n c:Nat) (hn:0<n)
  (hc:∀j,j<(Builtin.zeroCells z.cells n).toList.length→(w.cell? ⟨b,o+j,none⟩).isSome=true) (hf:∀j,j<(Builtin.zeroCells z.cells n).toList.length→w.frozen? ⟨b,o+j,none⟩=false)
  (h1:∀v∈(Builtin.zeroCells z.cells n).toList,v.oneCell'=true):
  (Builtin.clear_ #[t] ty #[.slice (some ⟨b,o,none⟩) n c]).run P w=.ok (.tuple #[]) (w.setCells b o (Builtin.zeroCells z.cells n).toList):=by
 have hst:=run_storeCells_cells (P:=P) b o (Builtin.zeroCells z.cells n).toList 0 w (by simpa using hc) (by simpa using hf) h1;simp only [Nat.add_zero] at hst;obtain ⟨m,rfl⟩:∃m,n=m+1:=⟨n-1,by omega⟩;simp [Builtin.clear_,run_underlying ht,hv,hst]
end
section
open Go.RowKit
attribute [local go_sem ↓] Go.wp_at_zero Go.wp_at_succ
theorem Pb (g:Nat):∀(vs:List Value) (o:Nat) (w:World),Fr (One g) w (w.setCells g o vs)
 |[],_,_=>Fr.refl _ _
 |v::vs,o,w=>((Fr.refl (One g) w).setCell (p:=⟨g,o,none⟩) (fun _=>rfl) v).trans (Pb g vs (o+1) _) zr
namespace Oq
theorem Pc {α:Type} (l:List α) (p:α→Bool) (h:l.any p=false):l.filter (fun x=> !p x)=l:=by
 rw [List.filter_eq_self];intro x hx;rw [Al7] at h;simpa using h x hx
theorem Pd {α:Type} (l:List α) (p:α→Bool) {k:Nat} {x:α} (h:l[k]? =some x):(l.take (k+1)).filter p=(l.take k).filter p++(if p x then [x] else []):=by
 obtain ⟨hk,rfl⟩:=List.getElem?_eq_some_iff.1 h;rw [Al4 hk,List.filter_append];congr 1
 cases hp:p l[k]<;>simp [hp]
theorem Own.putId {w:World} {base n c g:Nat} {l:List Id} (h:Own w base 38 3 (some ⟨g,0,none⟩) n c (l.flatMap Id.cells)) {i:Nat} {y:Id} (hy:l[i]? =some y) (hi:i<n) (x:Id):
  (∀j,j<3→(w.cell? ⟨g,i*3+j,none⟩).isSome=true∧w.frozen? ⟨g,i*3+j,none⟩=false)∧
  Own (((w.setCell ⟨g,i*3,none⟩ (.int .i64 x.b)).setCell ⟨g,i*3+1,none⟩ (.int .i64 x.s)).setCell ⟨g,i*3+2,none⟩ (.int .u64 (x.u:Int))) base 38 3 (some ⟨g,0,none⟩) n c ((l.set i x).flatMap Id.cells):=by
 constructor
 ·
  intro j hj;obtain ⟨g2,hA,_,_,hc,hz,_⟩:=Own.setAt h (j:=i*3+j) (by omega) (.int .i64 0);have hgg:g=g2:=by injection hA with e;injection e
  subst hgg;have hl:(l.flatMap Id.cells)[i*3+j]? =y.cells[j]? :=Ew (f:=Id.cells) (fun _=>rfl) l i j y hy hj;have hyj:∃v,y.cells[j]? =some v:=⟨_,Ak9 (by show j<3;exact hj)⟩;obtain ⟨v,hv⟩:=hyj;exact ⟨by rw [hc v (hl.trans hv)];rfl,hz⟩
 ·
  have step:∀(w:World) (xs:List Value) (j:Nat) (u:Value),Own w base 38 3 (some ⟨g,0,none⟩) n c xs→j<n*3→Own (w.setCell ⟨g,j,none⟩ u) base 38 3 (some ⟨g,0,none⟩) n c (xs.set j u):=by
   intro w xs j u h hj;obtain ⟨g2,hA,_,_,_,_,ho⟩:=Own.setAt h (j:=j) hj u;have hgg:g=g2:=by injection hA with e;injection e
   subst hgg;exact ho
  have h1:=step _ _ (i*3) (.int .i64 x.b) h (by omega);have h2:=step _ _ (i*3+1) (.int .i64 x.s) h1 (by omega);have h3:=step _ _ (i*3+2) (.int .u64 (x.u:Int)) h2 (by omega);have e1:(l.flatMap Id.cells).set (i*3) (.int .i64 x.b)=(l.set i ⟨x.b,y.s,y.u⟩).flatMap Id.cells:=Ft (f:=Id.cells) (size:=3) (fun _=>rfl) (j:=0) (by omega) _ _ l i y hy rfl
  have hi1:(l.set i ⟨x.b,y.s,y.u⟩)[i]? =some ⟨x.b,y.s,y.u⟩:=by
   rw [Al8 (List.getElem?_eq_some_iff.1 hy).1]
  have e2:((l.set i ⟨x.b,y.s,y.u⟩).flatMap Id.cells).set (i*3+1) (.int .i64 x.s)=(l.set i ⟨x.b,x.s,y.u⟩).flatMap Id.cells:=by
   have:=Ft (f:=Id.cells) (size:=3) (fun _=>rfl) (j:=1) (by omega) (.int .i64 x.s) ⟨x.b,x.s,y.u⟩ _ i _ hi1 rfl;rwa [List.set_set] at this
  have hi2:(l.set i ⟨x.b,x.s,y.u⟩)[i]? =some ⟨x.b,x.s,y.u⟩:=by
   rw [Al8 (List.getElem?_eq_some_iff.1 hy).1]
  have e3:((l.set i ⟨x.b,x.s,y.u⟩).flatMap Id.cells).set (i*3+2) (.int .u64 (x.u:Int))=(l.set i x).flatMap Id.cells:=by
   have:=Ft (f:=Id.cells) (size:=3) (fun _=>rfl) (j:=2) (by omega) (.int .u64 (x.u:Int)) x _ i _ hi2 rfl;rwa [List.set_set] at this
  rw [e1,e2,e3] at h3;exact h3
theorem Pe (n:Nat):(Builtin.zeroCells (Value.agg #[.int .i64 0,.int .i64 0,.int .u64 0]).cells n).toList.length=n*3:=by
 simp [Builtin.zeroCells,Value.cells]
theorem Wi (n:Nat):∀v∈(Builtin.zeroCells (Value.agg #[.int .i64 0,.int .i64 0,.int .u64 0]).cells n).toList,v.oneCell'=true:=by
 intro v hv;unfold Builtin.zeroCells at hv;rw [Array.toList_map] at hv;obtain ⟨i,_,rfl⟩:=List.mem_map.1 hv;have h:i%3=0∨i%3=1∨i%3=2:=by omega
 show (#[Value.int .i64 0,.int .i64 0,.int .u64 0][i%3]!).oneCell'=true
 rcases h with e|e|e<;>rw [e]<;>rfl
theorem Pf:O9:=by
 intro ba gv A c l p w aa au ah;have a8:=Lib.hid (Up w.heap.size l.length c gv A l p w rfl aa.rd au (fun x hx w' hf=>ah x hx w' (hf.mono (fun _ _ e=>e.elim))));obtain ⟨n,hn⟩:=Aa l.length;have a4:=aa.cap;have a2:=aa.row
 have ag:Hid (∀(ys:List Id) (m:Nat) (w':World),m=ys.length→ys=l.filter (fun x=> !p x)→Rd w' w'.heap.size 3 A m (ys.flatMap Id.cells)→Fr (fun k=>Ab A=some k) w w'→(∃ys:List Id,ys=l.filter (fun x=> !p x)∧Ending.returned (.slice A m c)=.returned (.slice A ys.length c)∧Rd w' w'.heap.size 3 A ys.length (ys.flatMap Id.cells)∧Fr (fun k=>Ab A=some k) w w')):=by
  intro ys m w' h1 h2 h3 h4;subst h1;exact ⟨ys,h2,rfl,h3,h4⟩
 rw [hn.out] at a8 aa a4 au ⊢;go_enter Tryz.func79,Tryz.ntmps79;go_wp2_with (fail);refine (a8.out).mono ?_;rintro e w1 ⟨h,f1⟩;clear a8;have bb:Fr (fun k=>Ab A=some k) w w1:=f1.mono (fun _ _ e=>e.elim);replace aa:=aa.fr f1 zr
 rcases h with ⟨k,id,rfl,hk,hpk,hany⟩|⟨rfl,hany⟩
 ·
  have bs:k<n:=by rw [← hn.out];exact (List.getElem?_eq_some_iff.1 hk).1
  obtain ⟨g,rfl⟩:∃g,A=some ⟨g,0,none⟩:=by
   rcases aa.2 with ⟨_,h0⟩|⟨g,cap,ac,hv,_⟩
   · omega
   ·
    injection hv with hA _ _
    exact ⟨g,hA⟩
  have bj:((k:Int)== -1)=false:=by rw [beq_eq_false_iff_ne];omega
  have ao:Hid (l.take k=(l.take (k+1)).filter (fun x=> !p x)):=by
   show _=_;rw [Pd l _ hk,hpk,Pc _ _ hany];simp
  clear hany hpk hk;go_wp2_with (fail)
  go_loopw [5,6] (fun vi vj wr=>∃(i j:Nat) (ac:List Id),vi=.int .i64 (i:Int)∧vj=.int .i64 (j:Int)∧i<j∧j≤n∧Hid (ac.take i=(l.take j).filter (fun x=> !p x))∧Hid (ac.drop j=l.drop j)∧Own wr ba 38 3 (some ⟨g,0,none⟩) n c (ac.flatMap Id.cells)∧Fr (fun k=>Ab (some ⟨g,0,none⟩)=some k) w wr) (fun _ vj _=>n-(intOf vj).toNat)
  case atStart=>exact ⟨k,k+1,l,rfl,by go_num,by omega,by omega,ao.out,rfl,aa,bb⟩
  case round=>
   obtain ⟨i,j,ac,rfl,rfl,bo,bp,ad,af,ab,hf⟩:=hrel
   have a9:ac.length=n:=by
    have h1:=ab.len;rw [Ex (f:=Id.cells) (size:=3) (fun _=>rfl)] at h1;omega
   by_cases hlt:j<n
   ·
    have i1:(0:Int)≤j:=by omega
    have i2:(j:Int)<n:=by omega
    have i3:(j:Int).toNat=j:=by omega
    have m1:(0:Int)≤i:=by omega
    have m2:(i:Int)<n:=by omega
    have m3:(i:Int).toNat=i:=by omega
    obtain ⟨x,hx⟩:∃x,l[j]? =some x:=⟨_,Ak9 (by rw [hn.out];exact hlt)⟩;obtain ⟨y,hy⟩:∃y,ac[i]? =some y:=⟨_,Ak9 (by rw [a9];omega)⟩;have be:ac[j]? =some x:=(Kh af.out).trans hx;obtain ⟨b,bk,hA,bf,k0,k1,k2⟩:=Id.at ab.rd be;obtain ⟨rfl,rfl⟩:g=b∧0=bk:=by injection hA with e;injection e with e1 e2;exact ⟨e1,e2⟩
    rw [Nat.zero_add] at k0 k1 k2;have aw:=Lib.hid (Pd l (fun x=> !p x) hx);have hc:=Lib.hid (fun w' (h:Fr (fun k=>Ab (some ⟨g,0,none⟩)=some k) w w')=>ah x (Ak7 hx) w' h);have bg:=Lib.hid (fun (wv:World) (hv:Fr Non wr wv)=>Own.putId (ab.fr hv zr) hy (by omega) x);have av:=hf.alloc (.cells x.V 38);have bh:=Blk.new wr 38 x.V;have bd:Fr Non wr (wr.alloc (.cells x.V 38)):=(Fr.refl Non wr).alloc _;have bc:g<wr.heap.size:=bf;have ar:=ab;have bn:=Lib.hid hx;have bi:=Lib.hid hy;have bt:i<l.length:=by rw [hn.out];omega
    clear hx hy be hA bf ab aa a2 ao a9
    have bl:=Lib.hid (show (ac.set i x).drop (j+1)=l.drop (j+1) by
     rw [List.drop_set_of_lt (by omega)];have h2:=congrArg (List.drop 1) af.out;rwa [Al3,Al3] at h2)
    have a0:=Lib.hid (show ac.drop (j+1)=l.drop (j+1) by
     have h2:=congrArg (List.drop 1) af.out;rwa [Al3,Al3] at h2)
    rcases zb (p x) with hp|hp
    ·
     have a3:Hid (ac.take i=(l.take (j+1)).filter (fun x=> !p x)):=by
      show _=_;rw [aw.out,hp,ad.out];simp
     rw [hp] at hc;clear hp aw;go_wp2_with (go_at_call 81;(with_reducible refine (hc.out _ av).mono ?_);rintro _ w2 ⟨rfl,f2⟩);go_roundw
     case rel=>exact ⟨i,j+1,ac,rfl,by go_num,by omega,by omega,a3,a0,(ar.fr bd zr).fr f2 zr,av.trans f2 (fun _ _ e=>e.elim)⟩
     case measure=>simp [intOf];omega
    ·
     have a3:Hid ((ac.set i x).take (i+1)=(l.take (j+1)).filter (fun x=> !p x)):=by
      show _=_;rw [aw.out,hp,Kg ac i x bi.out,ad.out];simp
     rw [hp] at hc;clear hp aw;go_wp2_with (go_at_call 81;(with_reducible refine (hc.out _ av).mono ?_);rintro _ w2 ⟨rfl,f2⟩;obtain ⟨hz,ho⟩:=bg.out w2 (bd.trans f2 zr);have a7:=hz 0 (by omega);have ax:=hz 1 (by omega);have aq:=hz 2 (by omega);obtain ⟨v0,y0⟩:=Option.isSome_iff_exists.1 a7.1;obtain ⟨v1,y1⟩:=Option.isSome_iff_exists.1 ax.1;obtain ⟨v2,y2⟩:=Option.isSome_iff_exists.1 aq.1;have z0:=a7.2;have z1:=ax.2;have z2:=aq.2;rw [Nat.add_zero] at y0 z0;clear hz a7 ax aq bg;have al:=bh.fr f2 zq;have b0:=al.cell 0;have b1:=al.cell 1;have b2:=al.cell 2;replace b0:w2.cell? ⟨wr.heap.size,0,none⟩=some (.int .i64 x.b):=b0;replace b1:w2.cell? ⟨wr.heap.size,1,none⟩=some (.int .i64 x.s):=b1;replace b2:w2.cell? ⟨wr.heap.size,2,none⟩=some (.int .u64 (x.u:Int)):=b2);go_roundw
     case rel=>
      exact ⟨i+1,j+1,ac.set i x,by go_num,by go_num,by omega,by omega,a3,bl,ho,(((av.trans f2 (fun _ _ e=>e.elim)).setCell (p:=⟨g,i*3,none⟩) (fun _=>rfl) _).setCell (p:=⟨g,i*3+1,none⟩) (fun _=>rfl) _).setCell (p:=⟨g,i*3+2,none⟩) (fun _=>rfl) _⟩
     case measure=>simp [intOf];omega
   ·
    obtain rfl:j=n:=by omega
    have bu:(0:Int)≤i:=by omega
    have br:(i:Int)<j:=by omega
    have bv:(i:Int).toNat=i:=by omega
    have bm:=ab.cap;have bq:(i:Int)<c:=by omega
    have bc:=ab.row g rfl
    have ap:Hid (∀vs:List Value,Rd (wr.setCells g (i*3) vs) (wr.setCells g (i*3) vs).heap.size 3 (some ⟨g,0,none⟩) i ((l.filter (fun x=> !p x)).flatMap Id.cells)∧Fr (fun k=>Ab (some ⟨g,0,none⟩)=some k) w (wr.setCells g (i*3) vs)):=by
     intro vs;have fz:=Pb g vs (i*3) wr
     have e1:ac.take i=l.filter (fun x=> !p x):=by
      rw [ad.out,Al1 (by rw [hn.out];exact Ak8 _)]
     have aj:(l.filter (fun x=> !p x)).length=i:=by rw [← e1,Al9];omega
     refine ⟨⟨by rw [Ex (f:=Id.cells) (size:=3) (fun _=>rfl),aj],.inr ⟨g,0,rfl,Am0 bc.2 fz.size,?_⟩⟩,hf.trans fz (fun k _ e=>by have e':k=g:=e;subst e';rfl)⟩;intro q u hu
     have hq:q<i*3:=by
      have h1:=(List.getElem?_eq_some_iff.1 hu).1;rw [Ex (f:=Id.cells) (size:=3) (fun _=>rfl),aj] at h1;exact h1
     rw [Nat.zero_add,World.cell?_setCells_out g vs (i*3) wr ⟨g,q,none⟩ (fun _ _=> .inl hq)];obtain ⟨g2,a6,_,_,a1,_,_⟩:=Own.setAt ab (j:=q) (by omega) (.int .i64 0);have ay:g=g2:=by injection a6 with e;injection e
     subst ay;refine a1 u ?_;rw [← e1] at hu;have ak:ac.flatMap Id.cells=(ac.take i).flatMap Id.cells++(ac.drop i).flatMap Id.cells:=by rw [← List.flatMap_append,List.take_append_drop]
     rw [ak,Al6 (List.getElem?_eq_some_iff.1 hu).1];exact hu
    have ae:Hid (∀q,q<(j-i)*3→(wr.cell? ⟨g,i*3+q,none⟩).isSome=true∧wr.frozen? ⟨g,i*3+q,none⟩=false):=by
     intro q hq;have hm:i*3+q<j*3:=by omega
     obtain ⟨g2,a6,_,_,a1,aq,_⟩:=Own.setAt ab (j:=i*3+q) hm (.int .i64 0);have ay:g=g2:=by injection a6 with e;injection e
     subst ay;have hl:i*3+q<(ac.flatMap Id.cells).length:=by rw [Ex (f:=Id.cells) (size:=3) (fun _=>rfl),a9];exact hm
     exact ⟨by rw [a1 _ (Ak9 hl)];rfl,aq⟩
    have ai:Hid (i=(l.filter (fun x=> !p x)).length):=by
     show _=_
     have e1:ac.take i=l.filter (fun x=> !p x):=by
      rw [ad.out,Al1 (by rw [hn.out];exact Ak8 _)]
     rw [← e1,Al9];omega
    clear ab ad af ah aa ao hf
    have az:(Builtin.clear_ #[28] 0 #[Value.slice (some ⟨g,i*3,none⟩) (j-i) (c-i)]).run Tryz.prog wr=.ok (.tuple #[]) (wr.setCells g (i*3) (Builtin.zeroCells (Value.agg #[.int .i64 0,.int .i64 0,.int .u64 0]).cells (j-i)).toList):=
     Wh wr 28 38 0 _ Tryz.underlying28 (fun _=>Tryz.zeroValue38 _) g (i*3) (j-i) (c-i) (by omega) (fun q hq=>(ae.out q (by rw [Pe] at hq;exact hq)).1) (fun q hq=>(ae.out q (by rw [Pe] at hq;exact hq)).2) (Wi _)
    have a5:=Lib.hid (fun vs=>ag.out (l.filter (fun x=> !p x)) i (wr.setCells g (i*3) vs) ai.out rfl (ap.out vs).1 (ap.out vs).2);clear ae ap ai ag;generalize (Builtin.zeroCells (Value.agg #[.int .i64 0,.int .i64 0,.int .u64 0]).cells (j-i)).toList=ZS at az;go_wp2_with (fail)
    go_ret
    exact a5.out _
 ·
  have a5:=Lib.hid (ag.out l n w1 hn.out.symm (Pc l p hany).symm (by have:=aa.rd;exact this) bb);clear ag ah hany;go_wp2_with (fail)
  go_ret
  exact a5.out
end Oq
namespace Oq
attribute [local go_sem] Bool.not_false Bool.not_true
def Gph.up (g:Gph) (id:Id) (q:Nat):Bool:=match Af g.nodes id with|some i=>(g.nodes[i]?.map (fun n=>n.past q)).getD false|none=>false
def Gph.ups (g:Gph) (ids:List Id) (q:Nat):Bool:=ids.any (fun id=>g.up id q)
theorem Wj (g:Gph) (ids:List Id) (k:Nat) {id:Id} (h:ids[k]? =some id):g.ups (ids.take (k+1))=fun q=>g.ups (ids.take k) q||g.up id q:=by
 funext q;unfold Gph.ups;obtain ⟨hk,rfl⟩:=List.getElem?_eq_some_iff.1 h;rw [Al4 hk,Al5];simp
def Kj (m:Nat→Bool) (w:World) (e:Ending) (w':World):Prop:=∃a0 a1 a2 a3:Nat,e=.returned (.agg #[.int .u64 (a0:Int),.int .u64 (a1:Int),.int .u64 (a2:Int),.int .u64 (a3:Int)])∧An [a0,a1,a2,a3] m∧Fr Non w w'
theorem Wk (base:Nat) (g:Gph) (B n c:Nat) (A:Option Addr) (ids:List Id) (w:World) (hg:GAt w base g) (hn:Hid (ids.length=n)) (hr:Rd w B 3 A n (ids.flatMap Id.cells)) (hnm:n≤1000000) (hok:∀id∈ids,id.ok):
  Calls Tryz.prog 82 #[.pointer (some ⟨g.gb,0,none⟩),.slice A n c] w (Kj (g.ups ids) w):=by
 have f0:Fr Non w ((w.alloc (.cells #[.int .u64 0,.int .u64 0,.int .u64 0,.int .u64 0] 116)).alloc (.cells #[.int .u64 0,.int .u64 0,.int .u64 0,.int .u64 0] 116)):=((Fr.refl Non w).alloc _).alloc _;have br:=(Blk.new w 116 #[.int .u64 0,.int .u64 0,.int .u64 0,.int .u64 0]).alloc (.cells #[.int .u64 0,.int .u64 0,.int .u64 0,.int .u64 0] 116);have bs:=Blk.new (w.alloc (.cells #[.int .u64 0,.int .u64 0,.int .u64 0,.int .u64 0] 116)) 116 #[.int .u64 0,.int .u64 0,.int .u64 0,.int .u64 0];rw [Ak6] at bs;have aj:∀(a0 a1 a2 a3:Nat) (wz:World),An [a0,a1,a2,a3] (g.ups ids)→Fr Non w wz→Kj (g.ups ids) w (.returned (.agg #[.int .u64 (a0:Int),.int .u64 (a1:Int),.int .u64 (a2:Int),.int .u64 (a3:Int)])) wz:=fun a0 a1 a2 a3 wz h1 h2=>⟨a0,a1,a2,a3,rfl,h1,h2⟩;replace aj:=Lib.hid aj;generalize Kj (g.ups ids) w=POST at*;go_enter Tryz.func82,Tryz.ntmps82;go_upto_region 2 with (fail)
 generalize ((w.alloc (.cells #[.int .u64 0,.int .u64 0,.int .u64 0,.int .u64 0] 116)).alloc (.cells #[.int .u64 0,.int .u64 0,.int .u64 0,.int .u64 0] 116))=w0 at*;go_wp2_with (fail)
 go_loopw [12] (fun v wr=>∃(k:Nat) (a0 a1 a2 a3:Nat),v=.int .i64 (k:Int)∧k≤n∧Hid (An [a0,a1,a2,a3] (g.ups (ids.take k)))∧Blk wr (w.heap.size+1) 116 #[.int .u64 (a0:Int),.int .u64 (a1:Int),.int .u64 (a2:Int),.int .u64 (a3:Int)]∧Fr (One (w.heap.size+1)) w0 wr) (fun v _=>n-(intOf v).toNat)
 case atStart=>exact ⟨0,0,0,0,0,rfl,by omega,An.empty,bs,Fr.refl _ _⟩
 case round=>
  obtain ⟨k,a0,a1,a2,a3,rfl,hk,ac,ak,hf⟩:=hrel;have fw:Fr Non w wr:=f0.trans hf (fun j hj e=>by have e':j=w.heap.size+1:=e;omega)
  by_cases hlt:k<n
  ·
   have i1:(0:Int)≤k:=by omega
   have i2:(k:Int)<n:=by omega
   have i3:(k:Int).toNat=k:=by omega
   obtain ⟨id,hid⟩:∃x,ids[k]? =some x:=⟨_,Ak9 (by rw [hn.out];exact hlt)⟩;obtain ⟨b,a9,hA,ba,d0,d1,d2⟩:=Id.at (hr.fr fw zr) hid;have au:=hok id (Ak7 hid);have aw:=Lib.hid (Wj g ids k hid);have fa:Fr Non w (wr.alloc (.cells id.V 38)):=fw.alloc _;have ai:=hg.fr fa;have aq:=Blk.new wr 38 id.V;have ab:=ak.alloc (.cells id.V 38);have al:=hf.alloc (.cells id.V 38);have c2:=ai.blk.cell 2;have c1:=ai.blk.cell 1;have ae:=ai.map;have ag:=fun (w':World) (h:MapAt w' g.mb g.mm (Af g.nodes))=>MapAt.look h id au;have av:Hid (g.up id=fun q=>match Af g.nodes id with|some i=>(g.nodes[i]?.map (fun n=>n.past q)).getD false|none=>false):=rfl;have i4:=aq.cell 0;have i5:=aq.cell 1;have i6:=aq.cell 2;rw [hA];replace hA:=Lib.hid hA;generalize hw1:wr.alloc (.cells id.V 38)=w1 at*;replace c1:w1.cell? ⟨g.gb,1,none⟩=some (.map (some g.mb)):=c1;replace c2:w1.cell? ⟨g.gb,2,none⟩=some (.slice g.nA g.nodes.length g.nC):=c2;replace i4:w1.cell? ⟨wr.heap.size,0,none⟩=some (.int .i64 id.b):=i4;replace i5:w1.cell? ⟨wr.heap.size,1,none⟩=some (.int .i64 id.s):=i5;replace i6:w1.cell? ⟨wr.heap.size,2,none⟩=some (.int .u64 (id.u:Int)):=i6
   cases hp:Af g.nodes id
   ·
    have hm:Hid (g.ups (ids.take (k+1))=g.ups (ids.take k)):=by
     show _=_;rw [aw.out,av.out,hp];simp
    rw [hp] at ag;clear ai aq hp av aw;go_upto_region 5 with (fail)
    try rw [hw1]
    clear hw1;refine wp_region_held_drew (S:=(fun w'=>w'.cell? ⟨wr.heap.size,0,none⟩=some (.int .i64 id.b)∧w'.cell? ⟨wr.heap.size,1,none⟩=some (.int .i64 id.s)∧w'.cell? ⟨wr.heap.size,2,none⟩=some (.int .u64 (id.u:Int))∧w'.cell? ⟨g.gb,1,none⟩=some (.map (some g.mb))∧MapAt w' g.mb g.mm (Af g.nodes))) (by kernel_rfl) ⟨i4,i5,i6,c1,ae⟩ (fun hHeld=> ?_);clear hHeld;have hS:(fun w'=>w'.cell? ⟨wr.heap.size,0,none⟩=some (.int .i64 id.b)∧w'.cell? ⟨wr.heap.size,1,none⟩=some (.int .i64 id.s)∧w'.cell? ⟨wr.heap.size,2,none⟩=some (.int .u64 (id.u:Int))∧w'.cell? ⟨g.gb,1,none⟩=some (.map (some g.mb))∧MapAt w' g.mb g.mm (Af g.nodes)) w1.drew:=⟨i4,i5,i6,c1,ae⟩;replace al:=al.drew;replace ab:=ab.drew;refine tkH 0 hS (h:=tkH 1 hS (h:=tkH 2 hS (h:=tkH 3 hS (h:=tkH 4 hS (h:=tkH 5 hS (h:=tkH 6 hS (h:=tkH 7 hS (h:=tkH 8 hS (h:=tkH 9 hS (h:=tkH 10 hS (h:=?_)))))))))));simp only [List.set];refine oD ?_;go_simp;go_wp2_with (fail);go_roundw
    case rel=>exact ⟨k+1,a0,a1,a2,a3,by go_num,by omega,by show An _ _;rw [hm.out];exact ac.out,ab,al⟩
    case measure=>simp [intOf];omega
   ·
    rename_i i;obtain ⟨nd,ao,_⟩:=Fc hp;have a7:=hg.few;have a6:i<g.nodes.length:=(List.getElem?_eq_some_iff.1 ao).1
    have hm:Hid (g.ups (ids.take (k+1))=fun q=>g.ups (ids.take k) q||nd.past q):=by
     show _=_;rw [aw.out,av.out,hp];simp [ao]
    have ah:Hid (An [nd.a0,nd.a1,nd.a2,nd.a3] nd.past):=(ai.node nd (Ak7 ao)).set;obtain ⟨bn,aa,ay,ar⟩:=ai.setAt ao;have m0:w1.cell? ⟨bn,aa+i*35+30,none⟩=some (.int .u64 (nd.a0:Int)):=ar 0 (by omega);have m1:w1.cell? ⟨bn,aa+i*35+30+1,none⟩=some (.int .u64 (nd.a1:Int)):=ar 1 (by omega);have m2:w1.cell? ⟨bn,aa+i*35+30+2,none⟩=some (.int .u64 (nd.a2:Int)):=ar 2 (by omega);have m3:w1.cell? ⟨bn,aa+i*35+30+3,none⟩=some (.int .u64 (nd.a3:Int)):=ar 3 (by omega);rw [ay] at c2;have j1:(0:Int)≤i:=by omega
    have j2:(i:Int)<g.nodes.length:=by omega
    have j3:(i:Int).toNat=i:=by omega
    have j4:IntKind.i64.wrap (i:Int)=i:=IntWalk.i64_in _ (by omega);rw [hp] at ag;clear ai aq hp av aw ao a6 ay ar;generalize g.nodes.length=nn at*;go_upto_region 5 with (fail)
    try rw [hw1]
    clear hw1;refine wp_region_held_drew (S:=(fun w'=>w'.cell? ⟨wr.heap.size,0,none⟩=some (.int .i64 id.b)∧w'.cell? ⟨wr.heap.size,1,none⟩=some (.int .i64 id.s)∧w'.cell? ⟨wr.heap.size,2,none⟩=some (.int .u64 (id.u:Int))∧w'.cell? ⟨g.gb,1,none⟩=some (.map (some g.mb))∧MapAt w' g.mb g.mm (Af g.nodes))) (by kernel_rfl) ⟨i4,i5,i6,c1,ae⟩ (fun hHeld=> ?_);clear hHeld;have hS:(fun w'=>w'.cell? ⟨wr.heap.size,0,none⟩=some (.int .i64 id.b)∧w'.cell? ⟨wr.heap.size,1,none⟩=some (.int .i64 id.s)∧w'.cell? ⟨wr.heap.size,2,none⟩=some (.int .u64 (id.u:Int))∧w'.cell? ⟨g.gb,1,none⟩=some (.map (some g.mb))∧MapAt w' g.mb g.mm (Af g.nodes)) w1.drew:=⟨i4,i5,i6,c1,ae⟩;replace al:=al.drew;replace ab:=ab.drew;refine tkH 0 hS (h:=tkH 1 hS (h:=tkH 2 hS (h:=tkH 3 hS (h:=tkH 4 hS (h:=tkH 5 hS (h:=tkH 6 hS (h:=tkH 7 hS (h:=tkH 8 hS (h:=tkH 9 hS (h:=tkH 10 hS (h:=?_)))))))))));simp only [List.set];refine oD ?_;go_simp;replace c2:w1.drew.cell? ⟨g.gb,2,none⟩=some (.slice (some ⟨bn,aa,none⟩) nn g.nC):=c2;replace m0:w1.drew.cell? ⟨bn,aa+i*35+30,none⟩=some (.int .u64 (nd.a0:Int)):=m0;replace m1:w1.drew.cell? ⟨bn,aa+i*35+30+1,none⟩=some (.int .u64 (nd.a1:Int)):=m1;replace m2:w1.drew.cell? ⟨bn,aa+i*35+30+2,none⟩=some (.int .u64 (nd.a2:Int)):=m2;replace m3:w1.drew.cell? ⟨bn,aa+i*35+30+3,none⟩=some (.int .u64 (nd.a3:Int)):=m3
    have ax:Em w1.drew (w.heap.size+1) 0 [a0,a1,a2,a3]:=fun j hj=>by
     rw [ab.cell]
     match j,hj with
     |0,_=>rfl
     |1,_=>rfl
     |2,_=>rfl
     |3,_=>rfl
    go_wp2_with (go_at_call 72;go_loud (with_reducible refine (Jp _ _ _ _ [a0,a1,a2,a3] _ _ _ _ (g.ups (ids.take k)) nd.past _ ac.out ah.out ab ax).mono ?_);rintro _ w2 ⟨rfl,az,a5⟩)
    have ap:Hid (An (orW [a0,a1,a2,a3] [nd.a0,nd.a1,nd.a2,nd.a3]) (g.ups (ids.take (k+1)))):=by
     show An _ _;rw [hm.out];exact An.or ac.out ah.out
    go_roundw
    case rel=>exact ⟨k+1,a0|||nd.a0,a1|||nd.a1,a2|||nd.a2,a3|||nd.a3,by go_num,by omega,ap,az,al.transOne a5⟩
    case measure=>simp [intOf];omega
  ·
   obtain rfl:n=k:=by omega
   have af:An [a0,a1,a2,a3] (g.ups ids):=by have h1:=ac.out;rwa [Al1 (by rw [hn.out];exact Ak8 _)] at h1
   have ad:Blk wr w.heap.size 116 #[.int .u64 0,.int .u64 0,.int .u64 0,.int .u64 0]:=br.fr hf (fun e=>by have e':w.heap.size=w.heap.size+1:=e;omega);have s0:wr.cell? ⟨w.heap.size+1,0,none⟩=some (.int .u64 (a0:Int)):=ak.cell 0;have s1:wr.cell? ⟨w.heap.size+1,1,none⟩=some (.int .u64 (a1:Int)):=ak.cell 1;have s2:wr.cell? ⟨w.heap.size+1,2,none⟩=some (.int .u64 (a2:Int)):=ak.cell 2;have s3:wr.cell? ⟨w.heap.size+1,3,none⟩=some (.int .u64 (a3:Int)):=ak.cell 3;have e0:wr.cell? ⟨w.heap.size,0,none⟩=some (.int .u64 0):=ad.cell 0;have e1:wr.cell? ⟨w.heap.size,1,none⟩=some (.int .u64 0):=ad.cell 1;have e2:wr.cell? ⟨w.heap.size,2,none⟩=some (.int .u64 0):=ad.cell 2;have e3:wr.cell? ⟨w.heap.size,3,none⟩=some (.int .u64 0):=ad.cell 3;have z0:wr.frozen? ⟨w.heap.size,0,none⟩=false:=ad.frozen 0;have z1:wr.frozen? ⟨w.heap.size,1,none⟩=false:=ad.frozen 1;have z2:wr.frozen? ⟨w.heap.size,2,none⟩=false:=ad.frozen 2;have z3:wr.frozen? ⟨w.heap.size,3,none⟩=false:=ad.frozen 3;have a4:=(((ad.set 0 (.int .u64 (a0:Int))).set 1 (.int .u64 (a1:Int))).set 2 (.int .u64 (a2:Int))).set 3 (.int .u64 (a3:Int));have fz:=(((fw.setNew (g:=w.heap.size) (Ak8 _) 0 (.int .u64 (a0:Int))).setNew (g:=w.heap.size) (Ak8 _) 1 (.int .u64 (a1:Int))).setNew (g:=w.heap.size) (Ak8 _) 2 (.int .u64 (a2:Int))).setNew (g:=w.heap.size) (Ak8 _) 3 (.int .u64 (a3:Int));have a8:=Lib.hid (aj.out a0 a1 a2 a3 _ af fz);clear af fz ad ak ac hf;go_wp2_with (fail)
   (try simp only [Exit.inBlock,Exit.then])
   refine Dm (t:=116) rfl rfl a4 rfl Tryz.underlying116 (by kernel_rfl) rfl ?_;exact a8.out
end Oq
end
section
open Go.RowKit
namespace Oq
structure Pn where
 o:Op
 id:Id
 ps:Nat→Bool
 lev:Nat
def Ah.pn (n:Ah):Pn:=⟨n.x.op,n.id,n.past,n.lev⟩
def Gph.pns (g:Gph):List Pn:=g.nodes.map Ah.pn
def plc (l:List Pn) (id:Id):Option Nat:=l.findIdx? (fun n=>decide (n.id=id))
theorem Fg (l:List Ah) (id:Id):plc (l.map Ah.pn) id=Af l id:=by
 unfold plc Af;rw [List.findIdx?_map];rfl
theorem Bt {l:List Pn} {id:Id} {i:Nat} (h:plc l id=some i):∃n,l[i]? =some n∧n.id=id:=by
 obtain ⟨hi,h1,_⟩:=List.findIdx?_eq_some_iff_getElem.1 h;exact ⟨l[i],Ak9 hi,by simpa using h1⟩
theorem Di {l:List Pn} {id:Id} {i:Nat} (h:plc l id=some i):i<l.length:=by
 obtain ⟨n,hn,_⟩:=Bt h;exact (List.getElem?_eq_some_iff.1 hn).1
def Bu (l:List Pn) (ids:List Id) (q:Nat):Bool:=ids.any (fun id=>plc l id==some q)
def upB (l:List Pn) (id:Id) (q:Nat):Bool:=match plc l id with|some i=>(l[i]?.map (fun n=>n.ps q)).getD false|none=>false
def Ar (l:List Pn) (ids:List Id) (q:Nat):Bool:=ids.any (fun id=>upB l id q)
def Bk (l:List Pn) (id:Id):Int:=match plc l id with|some i=>(l[i]?.map (fun n=>n.o.at_)).getD 0|none=>0
def late (l:List Pn) (ids:List Id):Int:=ids.foldl (fun t id=>max t (Bk l id)) 0
def Ca (l:List Pn) (id:Id):Nat:=match plc l id with|some i=>(l[i]?.map (fun n=>n.lev)).getD 0|none=>0
def lvl (l:List Pn) (ids:List Id):Nat:=ids.foldl (fun t id=>max t (Ca l id+1)) 1
def clash (l:List Pn) (ids:List Id):Bool:=(List.range 256).any (fun q=>Bu l ids q&&Ar l ids q)
def Bd (l:List Pn) (p:Nat→Bool) (d:Int):Nat→Int
 |0=>0
 |k+1=>match l[k]? with
  |some n=>if (n.o.by_==d&&p k)=true then max (Bd l p d k) n.o.sq else Bd l p d k
  |none=>Bd l p d k
def Br (l:List Pn) (p:Nat→Bool) (d s:Int):Nat→Bool
 |0=>false
 |k+1=>match l[k]? with
  |some n=>Br l p d s k||(n.o.by_==d&&p k&&n.o.sq==s-1)
  |none=>Br l p d s k
def Ag (l:List Pn) (ids:List Id) (q:Nat):Bool:=decide (q<256)&&(Ar l ids q||Bu l ids q)
def Aw (l:List Pn) (p:Nat→Bool) (o:Op):Bool:=decide (o.sq≤Bd l p o.by_ l.length)||(decide (1<o.sq)&& !Br l p o.by_ o.sq l.length)
def Op.name (o:Op):Id:=⟨o.by_,o.sq,o.id⟩
def Bi (cards:List Cd) (d:Int):Option Cd:=cards.find? (fun c=>c.d==d)
def Ai (cards:List Cd) (l:List Pn) (o:Op):Int:=
 if o.chk≠0 then o.chk
 else if (plc l o.name).isSome=true then 5
 else if 200≤l.length then 3
 else match Bi cards o.by_ with
  |none=>17
  |some c=>
   if Sg.check c.s o.bare o.r o.s=false then 12
   else if o.kind=1∧l≠[] then 1
   else if o.past.any (fun id=>(plc l id).isNone)=true then 10
   else if clash l o.past=true∨o.at_<late l o.past then 6
   else if Aw l (Ag l o.past) o=true then 11
   else 0
def Au (l:List Pn) (o:Op):Pn:=⟨o,o.name,Ag l o.past,lvl l o.past⟩
theorem Dz {α:Type} {l:List α} {k:Nat} {x:α} (h:l[k]? =some x):l.take (k+1)=l.take k++[x]:=by
 obtain ⟨hk,rfl⟩:=List.getElem?_eq_some_iff.1 h;rw [Al4 hk]
theorem Wl (l:List Pn) (ids:List Id) (k:Nat) {id:Id} (h:ids[k]? =some id):Bu l (ids.take (k+1))=fun q=>(plc l id==some q)||Bu l (ids.take k) q:=by
 funext q;unfold Bu;rw [Dz h,Al5];simp [Bool.or_comm]
theorem Pg (l:List Pn) (ids:List Id) (k:Nat) {id:Id} (h:ids[k]? =some id):Ar l (ids.take (k+1))=fun q=>Ar l (ids.take k) q||upB l id q:=by
 funext q;unfold Ar;rw [Dz h,Al5];simp
theorem Ph (l:List Pn) (ids:List Id) (k:Nat) {id:Id} (h:ids[k]? =some id):late l (ids.take (k+1))=max (late l (ids.take k)) (Bk l id):=by
 unfold late;rw [Dz h,Am1];rfl
theorem Wm (l:List Pn) (ids:List Id) (k:Nat) {id:Id} (h:ids[k]? =some id):lvl l (ids.take (k+1))=max (lvl l (ids.take k)) (Ca l id+1):=by
 unfold lvl;rw [Dz h,Am1];rfl
theorem Wn (l:List Pn) (m:Int) (hm:0≤m) (h:∀n∈l,n.o.at_≤m) (ids:List Id):late l ids≤m:=by
 have hat:∀id,Bk l id≤m:=by
  intro id;unfold Bk
  split
  ·
   rename_i i hi;obtain ⟨n,hn,_⟩:=Bt hi;rw [hn];exact h n (Ak7 hn)
  · exact hm
 unfold late
 suffices H:∀(t:Int),t≤m→ids.foldl (fun t id=>max t (Bk l id)) t≤m from H 0 hm
 intro t
 induction ids generalizing t with
 |nil=>intro h;exact h
 |cons id r ih=>intro h;exact ih _ (by have:=hat id;dsimp only;omega)
theorem Wo (l:List Pn) (m:Nat) (h:∀n∈l,n.lev≤m) (ids:List Id):lvl l ids≤m+1:=by
 have hat:∀id,Ca l id≤m:=by
  intro id;unfold Ca
  split
  ·
   rename_i i hi;obtain ⟨n,hn,_⟩:=Bt hi;rw [hn];exact h n (Ak7 hn)
  · omega
 unfold lvl
 suffices H:∀(t:Nat),t≤m+1→ids.foldl (fun t id=>max t (Ca l id+1)) t≤m+1 from H 1 (by omega)
 intro t
 induction ids generalizing t with
 |nil=>intro h;exact h
 |cons id r ih=>intro h;exact ih _ (by have:=hat id;dsimp only;omega)
theorem Wp (ws:List Nat) (h:ws.length=4) (k:Nat) (hk:256≤k):((ws.getD (k/64) 0).testBit (k%64))=false:=by
 rw [List.getD_eq_getElem?_getD,List.getElem?_eq_none (by omega)];simp
theorem Wq {n:Ah} {m:Nat→Bool} (h:An n.ws m):n.past=fun q=>decide (q<256)&&m q:=by
 funext q;unfold Ah.past
 by_cases hq:q<256
 ·
  rw [← h.bit q hq];simp [hq]
 ·
  rw [Wp n.ws rfl q (by omega)];simp [hq]
theorem Wr {a0 a1 a2 a3:Nat} {m:Nat→Bool} (h:An [a0,a1,a2,a3] m):(a0==0&&a1==0&&a2==0&&a3==0)=!(List.range 256).any m:=by
 rw [Bool.eq_iff_iff];simp only [Bool.and_eq_true,beq_iff_eq,Bool.not_eq_true',Al7,List.mem_range];constructor
 ·
  rintro ⟨⟨⟨rfl,rfl⟩,rfl⟩,rfl⟩ q hq;rw [h.bit q hq];have hq4:q/64=0∨q/64=1∨q/64=2∨q/64=3:=by omega
  rcases hq4 with e|e|e|e<;>rw [e]<;>simp
 ·
  intro hz
  have key:∀k,k<4→[a0,a1,a2,a3].getD k 0=0:=by
   intro k hk;refine Nat.eq_of_testBit_eq (fun j=> ?_);rw [Nat.zero_testBit]
   by_cases hj:j<64
   ·
    have h1:=h.bit (64*k+j) (by omega);have h2:=hz (64*k+j) (by omega);rw [show (64*k+j)/64=k by omega,show (64*k+j)%64=j by omega] at h1;rw [← h1];simpa using h2
   ·
    have hu:=h.u64 k
    exact Nat.testBit_lt_two_pow (Am0 hu (by
     have:(2:Nat)^64≤2^j:=Nat.pow_le_pow_right (by decide) (by omega);exact Nat.le_trans (by decide) this))
  exact ⟨⟨⟨key 0 (by omega),key 1 (by omega)⟩,key 2 (by omega)⟩,key 3 (by omega)⟩
end Oq
end
section
open Go.RowKit Go.Sort
attribute [local go_sem ↓] Go.wp_at_zero Go.wp_at_succ
namespace Oq
def GrowOf (w w':World):Prop:=∃(q:Nat) (os:Array Obj),w'=grow (w.drewN q) os
theorem GrowOf.refl (w:World):GrowOf w w:=⟨0,#[],by simp [grow,Al2]⟩
theorem GrowOf.trans {a b c:World} (h:GrowOf a b) (k:GrowOf b c):GrowOf a c:=by
 obtain ⟨q,os,rfl⟩:=h;obtain ⟨q',os',rfl⟩:=k;exact ⟨q+q',os++os',by simp [grow,Al2,Array.append_assoc,Nat.add_assoc]⟩
theorem GrowOf.alloc {a b:World} (h:GrowOf a b) (o:Obj):GrowOf a (b.alloc o):=h.trans ⟨0,#[o],by unfold grow Al2 World.alloc;simp⟩
theorem GrowOf.drew {a b:World} (h:GrowOf a b):GrowOf a b.drew:=h.trans ⟨1,#[],by rw [grow_empty];rfl⟩
theorem GrowOf.fr {a b:World} (h:GrowOf a b):Fr Non a b:=by
 obtain ⟨q,os,rfl⟩:=h;refine ⟨rfl,rfl,rfl,?_,?_⟩
 · simp [grow,Al2]
 ·
  intro k hk _;simp only [grow,Al2];rw [Array.getElem?_append_left hk]
theorem Pj (x y:Id) (w:World):
  Calls Tryz.prog 30 #[.agg x.V,.agg y.V] w fun e w'=>e=.returned (.bool (Id.less x y))∧GrowOf w w':=by
 have hf:=((GrowOf.refl w).alloc (.cells x.V 38)).alloc (.cells y.V 38);have hx:=(Blk.new w 38 x.V).alloc (.cells y.V 38);have hy:=Blk.new (w.alloc (.cells x.V 38)) 38 y.V;rw [Ak6] at hy;have hl:=Nf x y;have hl':=Lib.hid hl;clear hl;go_enter Tryz.func30,Tryz.ntmps30;go_upto_region 1 with (fail)
 generalize (w.alloc (.cells x.V 38)).alloc (.cells y.V 38)=w0 at*;have c0:w0.drew.cell? ⟨w.heap.size,0,none⟩=some (.int .i64 x.b):=hx.cell 0;have c1:w0.drew.cell? ⟨w.heap.size,1,none⟩=some (.int .i64 x.s):=hx.cell 1;have c2:w0.drew.cell? ⟨w.heap.size,2,none⟩=some (.int .u64 (x.u:Int)):=hx.cell 2;have d0:w0.drew.cell? ⟨w.heap.size+1,0,none⟩=some (.int .i64 y.b):=hy.cell 0;have d1:w0.drew.cell? ⟨w.heap.size+1,1,none⟩=some (.int .i64 y.s):=hy.cell 1;have d2:w0.drew.cell? ⟨w.heap.size+1,2,none⟩=some (.int .u64 (y.u:Int)):=hy.cell 2
 go_region_held3 (fun w'=>w'.cell? ⟨w.heap.size,0,none⟩=some (.int .i64 x.b)∧w'.cell? ⟨w.heap.size,1,none⟩=some (.int .i64 x.s)∧w'.cell? ⟨w.heap.size,2,none⟩=some (.int .u64 (x.u:Int))∧w'.cell? ⟨w.heap.size+1,0,none⟩=some (.int .i64 y.b)∧w'.cell? ⟨w.heap.size+1,1,none⟩=some (.int .i64 y.s)∧w'.cell? ⟨w.heap.size+1,2,none⟩=some (.int .u64 (y.u:Int))) ((and_intros<;>first|assumption|(refine Ju ?_ _;assumption))) (first
  |(go_at_call 84;(with_reducible refine (Na _ _ _).mono ?_);rintro _ _ ⟨rfl,rfl⟩)
  |(go_at_call 85;(with_reducible refine (Nb _ _ _).mono ?_);rintro _ _ ⟨rfl,rfl⟩)
  |(go_at_call 83;(refine (Nc _ _ _ _ _ (by exact Blk.new _ _ _)).mono ?_);rintro _ _ ⟨rfl,rfl⟩))
 go_wp2
 go_ret
 exact ⟨by rw [← hl'.out];rfl,hf.drew.alloc _⟩
def E1 (x y:Id):Int:=if Id.less x y then-1 else if Id.less y x then 1 else 0
theorem Ws (x y:Id) (w:World):
  Calls Tryz.prog 126 #[.agg x.V,.agg y.V] w fun e w'=>e=.returned (.int .i64 (E1 x y))∧GrowOf w w':=by
 have hf:=((GrowOf.refl w).alloc (.cells x.V 38)).alloc (.cells y.V 38);have hx:=(Blk.new w 38 x.V).alloc (.cells y.V 38);have hy:=Blk.new (w.alloc (.cells x.V 38)) 38 y.V;rw [Ak6] at hy;have k1:=Lib.hid (fun w'=>Pj x y w');have k2:=Lib.hid (fun w'=>Pj y x w');have hv:Hid (E1 x y=if Id.less x y then-1 else if Id.less y x then 1 else 0):=rfl;generalize E1 x y=v at*;generalize hw0:(w.alloc (.cells x.V 38)).alloc (.cells y.V 38)=w0 at*;have c0:w0.cell? ⟨w.heap.size,0,none⟩=some (.int .i64 x.b):=hx.cell 0;have c1:w0.cell? ⟨w.heap.size,1,none⟩=some (.int .i64 x.s):=hx.cell 1;have c2:w0.cell? ⟨w.heap.size,2,none⟩=some (.int .u64 (x.u:Int)):=hx.cell 2;have d0:w0.cell? ⟨w.heap.size+1,0,none⟩=some (.int .i64 y.b):=hy.cell 0;have d1:w0.cell? ⟨w.heap.size+1,1,none⟩=some (.int .i64 y.s):=hy.cell 1;have d2:w0.cell? ⟨w.heap.size+1,2,none⟩=some (.int .u64 (y.u:Int)):=hy.cell 2;generalize Id.less x y=l1 at*;generalize Id.less y x=l2 at*
 cases l1
 ·
  cases l2
  ·
   have hz:Hid (0=v):=by show _=_;rw [hv.out];rfl
   clear hv;go_enter Tryz.func126,Tryz.ntmps126;go_wp2_with (fail);try rw [hw0]
   clear hw0;refine (k1.out _).mono ?_;rintro _ w1 ⟨rfl,g1⟩;have f1:=g1.fr;have h1:=hf.trans g1;replace c0:=f1.cell c0 zq;replace c1:=f1.cell c1 zq;replace c2:=f1.cell c2 zq;replace d0:=f1.cell d0 zq;replace d1:=f1.cell d1 zq;replace d2:=f1.cell d2 zq;clear g1 f1;go_wp2_with (fail);refine (k2.out _).mono ?_;rintro _ w2 ⟨rfl,g2⟩;have h2:=h1.trans g2;go_wp2_with (fail)
   go_ret
   exact ⟨congrArg (fun z=>Ending.returned (.int .i64 z)) hz.out,h2⟩
  ·
   have hz:Hid (1=v):=by show _=_;rw [hv.out];rfl
   clear hv;go_enter Tryz.func126,Tryz.ntmps126;go_wp2_with (fail);try rw [hw0]
   clear hw0;refine (k1.out _).mono ?_;rintro _ w1 ⟨rfl,g1⟩;have f1:=g1.fr;have h1:=hf.trans g1;replace c0:=f1.cell c0 zq;replace c1:=f1.cell c1 zq;replace c2:=f1.cell c2 zq;replace d0:=f1.cell d0 zq;replace d1:=f1.cell d1 zq;replace d2:=f1.cell d2 zq;clear g1 f1;go_wp2_with (fail);refine (k2.out _).mono ?_;rintro _ w2 ⟨rfl,g2⟩;have h2:=h1.trans g2;go_wp2_with (fail)
   go_ret
   exact ⟨congrArg (fun z=>Ending.returned (.int .i64 z)) hz.out,h2⟩
 ·
  have hz:Hid (-1=v):=by show _=_;rw [hv.out];rfl
  clear hv;go_enter Tryz.func126,Tryz.ntmps126;go_wp2_with (fail);try rw [hw0]
  clear hw0;refine (k1.out _).mono ?_;rintro _ w1 ⟨rfl,g1⟩;have h1:=hf.trans g1;go_wp2_with (fail)
  go_ret
  exact ⟨congrArg (fun z=>Ending.returned (.int .i64 z)) hz.out,h1⟩
end Oq
end
end Go.Proofs.YtafonabghnogaaaGreatDoor
