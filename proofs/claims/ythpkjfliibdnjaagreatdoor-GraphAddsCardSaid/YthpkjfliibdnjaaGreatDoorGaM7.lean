/-
  Contracts of the functions that the claim's statement reaches, walked one by one (part 7).
  Conditions: as each theorem says.
-/
import Derived.Lib.SliceRun
import Derived.Laws.IdiomCopy
import Derived.Test.YthpkjfliibdnjaaGreatDoorGaM2
import Derived.Test.YthpkjfliibdnjaaGreatDoorGaM3
import Derived.Test.YthpkjfliibdnjaaGreatDoorGaM6
set_option maxRecDepth 100000
set_option maxHeartbeats 16000000
open List renaming getElem?_eq_getElem→Am7,mem_of_getElem?→Am8,length_map→An0,take_of_length_le→An1,drop_drop→An2,range→An3,take_succ_eq_append_getElem→An5,any_append→An6,getElem?_append_left→An7,any_eq_false→An8,getElem?_set_self→An9,length_take→Ao0,flatMap_append→Ao2,foldl_append→Ao3,length_append→Ao4
open Nat renaming le_refl→Am9,lt_of_lt_of_le→Ao1
open Go.World renaming size_alloc→Am6,rangeAt→An4
namespace Go.Proofs.YthpkjfliibdnjaaGreatDoor
section
open Go.RowKit
attribute [local go_sem ↓] Go.wp_at_zero Go.wp_at_succ
namespace Oq
attribute [local go_sem ↓] Ch
theorem Ig {α:Type} (f:α→Value) (hf:∀a,(f a).oneCell'=true) (l:List α):∀v∈l.map f,v.oneCell'=true:=by
 intro v hv;obtain ⟨y,_,rfl⟩:=List.mem_map.1 hv;exact hf y
theorem Ih {α:Type} (f:α→List Value) (hf:∀a,∀v∈f a,v.oneCell'=true) (l:List α):∀v∈l.flatMap f,v.oneCell'=true:=by
 intro v hv;obtain ⟨y,_,hy⟩:=List.mem_flatMap.1 hv;exact hf y v hy
theorem Pf (l:List Bx):∀v∈l.flatMap Bx.cells,v.oneCell'=true:=Ih _ (fun a v hv=>by simp [Bx.cells] at hv;rcases hv with rfl|rfl|rfl|rfl<;>rfl) l
theorem W5 (l:List NdL):∀v∈l.flatMap NdL.cells,v.oneCell'=true:=Ih _ (fun a v hv=>by simp [NdL.cells] at hv;rcases hv with rfl|rfl<;>rfl) l
theorem W6 (l:List SlL):∀v∈l.flatMap SlL.cells,v.oneCell'=true:=Ih _ (fun a v hv=>by simp [SlL.cells] at hv;rcases hv with rfl|rfl|rfl|rfl<;>rfl) l
def Kn (o:Op) (w:World) (r:Ending) (w':World):Prop:=
 ∃y:OpL,r=.returned (.agg y.cells)∧y.op=o∧y.own w' w.heap.size∧Fr Non w w'
theorem Pg (x:OpL) (w:World) (hat:x.at w w.heap.size) (hok:x.op.ok):Calls Tryz.prog 41 #[.agg x.cells] w (Kn x.op w):=by
 have hi:(Tryz.prog.info? 44).map (·.size)=some 27:=by kernel_rfl
 have ah:Blk ((w.alloc (.cells x.cells 44)).alloc (.cells zO 44)) w.heap.size 44 x.cells:=(Blk.new w 44 x.cells).alloc _
 have cb:Blk ((w.alloc (.cells x.cells 44)).alloc (.cells zO 44)) (w.heap.size+1) 44 zO:=by
  have:=Blk.new (w.alloc (.cells x.cells 44)) 44 zO;rwa [Am6] at this
 have dt:((w.alloc (.cells x.cells 44)).alloc (.cells zO 44)).heap.size=w.heap.size+2:=by rw [Am6,Am6]
 have b0:Fr Non w ((w.alloc (.cells x.cells 44)).alloc (.cells zO 44)):=((Fr.refl Non w).alloc _).alloc _;have bu:=OpL.frame hat b0;have ca:x.guards.length≤1000000:=by have h:=hok.guards.1;rw [show x.op.guards=x.guards from rfl] at h;omega
 have dn:x.refs.length≤1000000:=by have h:=hok.refs.1;rw [show x.op.refs=x.refs from rfl] at h;omega
 have dc:x.boxes.length≤1000000:=by have h:=hok.boxes.1;rw [show x.op.boxes=x.boxes from rfl] at h;omega
 have dy:x.past.length≤1000000:=by have h:=hok.past.1;rw [show x.op.past=x.past from rfl] at h;omega
 have bl:x.path.length≤1000000:=by have h:=hok.path.1;rw [show x.op.path=x.path.map NdL.nd from rfl,An0] at h;omega
 have bp:x.hist.length≤1000000:=by have h:=hok.hist.1;rw [show x.op.hist=x.hist.map SlL.sl from rfl,An0] at h;omega
 have di:x.body.length≤1000000:=by have h:=hok.body;rw [show x.op.body=x.body from rfl] at h;omega
 have a7:Hid (∀y∈x.path,y.xs.length≤1000000):=fun y hy=>by have h:=(hok.path.2 y.nd (List.mem_map.2 ⟨y,hy,rfl⟩)).2.1;rw [show y.nd.xs=y.xs from rfl] at h;omega
 have ba:Hid (∀y∈x.hist,y.y.length≤1000000):=fun y hy=>by have h:=(hok.hist.2 y.sl (List.mem_map.2 ⟨y,hy,rfl⟩)).2;rw [show y.sl.y=y.y from rfl] at h;omega
 have a0:Hid (∀(y:OpL) (w':World),y.op=x.op→y.own w' w.heap.size→Fr Non w w'→Kn x.op w (.returned (.agg y.cells)) w'):=fun y w' h1 h2 h3=>⟨y,rfl,h1,h2,h3⟩;generalize Kn x.op w=POST at*;go_enter Tryz.func41,Tryz.ntmps41;go_upto_region 1 with (fail)
 generalize ((w.alloc (.cells x.cells 44)).alloc (.cells zO 44))=w0 at*;obtain ⟨CS,ay⟩:=Aa x.cells;rw [ay.out] at ah;have e4:Hid (CS[4]? =some (.slice x.pastA x.past.length x.pastC)):=by show _=_;rw [← ay.out];rfl
 have da:Hid (CS[14]? =some (.slice x.bodyA x.body.length x.bodyC)):=by show _=_;rw [← ay.out];rfl
 have co:Hid (CS[15]? =some (.slice x.refsA x.refs.length x.refsC)):=by show _=_;rw [← ay.out];rfl
 have cp:Hid (CS[19]? =some (.slice x.guardsA x.guards.length x.guardsC)):=by show _=_;rw [← ay.out];rfl
 have ch:Hid (CS[22]? =some (.slice x.boxesA x.boxes.length x.boxesC)):=by show _=_;rw [← ay.out];rfl
 refine Cq (S:=(fun w'=>Blk w' w.heap.size 44 CS)) 16 (by kernel_rfl) ?_;replace ah:Blk w0.drew w.heap.size 44 CS:=ah.drew;replace cb:=cb.drew;replace b0:=b0.drew;replace bu:=OpL.frame bu ((Fr.refl Non w0).drew);refine tkG 0 ah (h:=?_);simp only [List.set];refine Et (i:=1) (v:=?_) rfl (by kernel_rfl) (by kernel_rfl) (by kernel_rfl) (by kernel_rfl) (fun _ _ _ h=>h) (Or.inl ⟨by kernel_rfl,?_⟩) ah ?_;rotate_left
 focus (intro w' ab;have hB:=ab;have q:w'.cell? ⟨w.heap.size,4,none⟩=some _:=(hB.cell 4).trans e4.out;(try dsimp only at ab);go_simp;(try with_reducible rfl))
 simp only [List.set];refine tkG 3 ah (h:=?_);simp only [List.set];refine Et (i:=4) (v:=?_) rfl (by kernel_rfl) (by kernel_rfl) (by kernel_rfl) (by kernel_rfl) (fun _ _ _ h=>h) (Or.inl ⟨by kernel_rfl,?_⟩) ah ?_;rotate_left
 focus (intro w' ab;have hB:=ab;have q:w'.cell? ⟨w.heap.size,14,none⟩=some _:=(hB.cell 14).trans da.out;(try dsimp only at ab);go_simp;(try with_reducible rfl))
 simp only [List.set];refine tkG 6 ah (h:=?_);simp only [List.set];refine Et (i:=7) (v:=?_) rfl (by kernel_rfl) (by kernel_rfl) (by kernel_rfl) (by kernel_rfl) (fun _ _ _ h=>h) (Or.inl ⟨by kernel_rfl,?_⟩) ah ?_;rotate_left
 focus (intro w' ab;have hB:=ab;have q:w'.cell? ⟨w.heap.size,15,none⟩=some _:=(hB.cell 15).trans co.out;(try dsimp only at ab);go_simp;(try with_reducible rfl))
 simp only [List.set];refine tkG 9 ah (h:=?_);simp only [List.set];refine Et (i:=10) (v:=?_) rfl (by kernel_rfl) (by kernel_rfl) (by kernel_rfl) (by kernel_rfl) (fun _ _ _ h=>h) (Or.inl ⟨by kernel_rfl,?_⟩) ah ?_;rotate_left
 focus (intro w' ab;have hB:=ab;have q:w'.cell? ⟨w.heap.size,19,none⟩=some _:=(hB.cell 19).trans cp.out;(try dsimp only at ab);go_simp;(try with_reducible rfl))
 simp only [List.set];refine tkG 12 ah (h:=?_);simp only [List.set];refine Et (i:=13) (v:=?_) rfl (by kernel_rfl) (by kernel_rfl) (by kernel_rfl) (by kernel_rfl) (fun _ _ _ h=>h) (Or.inl ⟨by kernel_rfl,?_⟩) ah ?_;rotate_left
 focus (intro w' ab;have hB:=ab;have q:w'.cell? ⟨w.heap.size,22,none⟩=some _:=(hB.cell 22).trans ch.out;(try dsimp only at ab);go_simp;(try with_reducible rfl))
 simp only [List.set];refine Bc 2 (by kernel_rfl) rfl (fun K hK=> ?_);go_simp;go_wp2_with (go_at_call 38;(with_reducible refine (Pa _ _ _ _ _ _ bu.past.rd (Id.cells_one _) (by omega)).mono ?_);rintro _ w1 ⟨A1,c1,rfl,o1,f1⟩;have b6:=ah.fr f1 zq;have dh:=cb.fr f1 zq;have df:=OpL.frame bu f1;have dx:=b0.trans f1 zr;have em:=f1.size);refine hK.out _ _ b6 (fun hZ=> ?_);clear hZ hK K;try simp only [put_lit2,List.set]
 refine tkG 15 b6 (h:=?_);simp only [List.set];refine Bc 5 (by kernel_rfl) rfl (fun K hK=> ?_);go_simp;go_wp2_with (go_at_call 76;(with_reducible refine (Pb _ _ _ _ _ _ df.body.rd (Ig Bv (fun _=>rfl) _) (by omega)).mono ?_);rintro _ w2 ⟨A2,c2,rfl,o2,f2⟩;have cz:=b6.fr f2 zq;have ds:=dh.fr f2 zq;have ct:=OpL.frame df f2;have bh:=dx.trans f2 zr;have d7:=f2.size);refine hK.out _ _ cz (fun hZ=> ?_);clear hZ hK K;try simp only [put_lit2,List.set]
 refine Bc 8 (by kernel_rfl) rfl (fun K hK=> ?_);go_simp;go_wp2_with (go_at_call 77;(with_reducible refine (Wr _ _ _ _ _ _ ct.refs.rd (Ig Uv (fun _=>rfl) _) (by omega)).mono ?_);rintro _ w3 ⟨A3,c3,rfl,o3,f3⟩;have cv:=cz.fr f3 zq;have dz:=ds.fr f3 zq;have cg:=OpL.frame ct f3;have dl:=bh.trans f3 zr;have d3:=f3.size);refine hK.out _ _ cv (fun hZ=> ?_);clear hZ hK K;try simp only [put_lit2,List.set]
 refine Bc 11 (by kernel_rfl) rfl (fun K hK=> ?_);go_simp;go_wp2_with (go_at_call 78;(with_reducible refine (Ws _ _ _ _ _ _ cg.guards.rd (Ig Iv (fun _=>rfl) _) (by omega)).mono ?_);rintro _ w4 ⟨A4,c4,rfl,o4,f4⟩;have cy:=cv.fr f4 zq;have dq:=dz.fr f4 zq;have dd:=OpL.frame cg f4;have dg:=dl.trans f4 zr;have ee:=f4.size);refine hK.out _ _ cy (fun hZ=> ?_);clear hZ hK K;try simp only [put_lit2,List.set]
 refine Bc 14 (by kernel_rfl) rfl (fun K hK=> ?_);go_simp;go_wp2_with (go_at_call 79;(with_reducible refine (Pc _ _ _ _ _ _ dd.boxes.rd (Pf _) (by omega)).mono ?_);rintro _ w5 ⟨A5,c5,rfl,o5,f5⟩;have aj:=cy.fr f5 zq;have dk:=dq.fr f5 zq;have ej:=OpL.frame dd f5;have c0:=dg.trans f5 zr;have el:=f5.size);refine hK.out _ _ aj (fun hZ=> ?_);clear hZ hK K;try simp only [put_lit2,List.set]
 refine Co (by kernel_rfl) ?_;have k4:w5.cell? ⟨w.heap.size,4,none⟩=some (.slice x.pastA x.past.length x.pastC):=(aj.cell 4).trans e4.out;have z4:=aj.frozen 4;have ea:w5.cell? ⟨w.heap.size,14,none⟩=some (.slice x.bodyA x.body.length x.bodyC):=(aj.cell 14).trans da.out;have ep:=aj.frozen 14;have d4:w5.cell? ⟨w.heap.size,15,none⟩=some (.slice x.refsA x.refs.length x.refsC):=(aj.cell 15).trans co.out;have ei:=aj.frozen 15;have er:w5.cell? ⟨w.heap.size,19,none⟩=some (.slice x.guardsA x.guards.length x.guardsC):=(aj.cell 19).trans cp.out;have eh:=aj.frozen 19;have ec:w5.cell? ⟨w.heap.size,22,none⟩=some (.slice x.boxesA x.boxes.length x.boxesC):=(aj.cell 22).trans ch.out;have eb:=aj.frozen 22;refine oG 16 (fun K hK=> ?_);go_simp;refine hK.out _ _ trivial (fun hZ=> ?_);clear hZ hK K;try simp only [put_lit2,List.set]
 refine oG 17 (fun K hK=> ?_);go_simp;refine hK.out _ _ trivial (fun hZ=> ?_);clear hZ hK K;try simp only [put_lit2,List.set]
 refine oG 18 (fun K hK=> ?_);go_simp;refine hK.out _ _ trivial (fun hZ=> ?_);clear hZ hK K;try simp only [put_lit2,List.set]
 refine oG 19 (fun K hK=> ?_);go_simp;refine hK.out _ _ trivial (fun hZ=> ?_);clear hZ hK K;try simp only [put_lit2,List.set]
 refine oG 20 (fun K hK=> ?_);go_simp;refine hK.out _ _ trivial (fun hZ=> ?_);clear hZ hK K;try simp only [put_lit2,List.set]
 refine oG 21 (fun K hK=> ?_);go_simp;refine hK.out _ _ trivial (fun hZ=> ?_);clear hZ hK K;try simp only [put_lit2,List.set]
 refine oG 22 (fun K hK=> ?_);go_simp;refine hK.out _ _ trivial (fun hZ=> ?_);clear hZ hK K;try simp only [put_lit2,List.set]
 refine oG 23 (fun K hK=> ?_);go_simp;refine hK.out _ _ trivial (fun hZ=> ?_);clear hZ hK K;try simp only [put_lit2,List.set]
 refine oG 24 (fun K hK=> ?_);go_simp;refine hK.out _ _ trivial (fun hZ=> ?_);clear hZ hK K;try simp only [put_lit2,List.set]
 refine oD ?_;go_simp;obtain ⟨bk,ar⟩:=Aa ({x with pastA:=A1,pastC:=c1,bodyA:=A2,bodyC:=c2,refsA:=A3,refsC:=c3,guardsA:=A4,guardsC:=c4,boxesA:=A5,boxesC:=c5}:OpL).cells
 have a2:Blk (((((w5.setCell ⟨w.heap.size,4,none⟩ (.slice A1 x.past.length c1)).setCell ⟨w.heap.size,14,none⟩ (.slice A2 x.body.length c2)).setCell ⟨w.heap.size,15,none⟩ (.slice A3 x.refs.length c3)).setCell ⟨w.heap.size,19,none⟩ (.slice A4 x.guards.length c4)).setCell ⟨w.heap.size,22,none⟩ (.slice A5 x.boxes.length c5)) w.heap.size 44 bk:=by
  rw [← ar.out];rw [← ay.out] at aj;exact ((((aj.set 4 _).set 14 _).set 15 _).set 19 _).set 22 _
 have au:Fr (One w.heap.size) w5 (((((w5.setCell ⟨w.heap.size,4,none⟩ (.slice A1 x.past.length c1)).setCell ⟨w.heap.size,14,none⟩ (.slice A2 x.body.length c2)).setCell ⟨w.heap.size,15,none⟩ (.slice A3 x.refs.length c3)).setCell ⟨w.heap.size,19,none⟩ (.slice A4 x.guards.length c4)).setCell ⟨w.heap.size,22,none⟩ (.slice A5 x.boxes.length c5)):=(((((Fr.refl (One w.heap.size) w5).setCell (p:=⟨w.heap.size,4,none⟩) (fun _=>rfl) _).setCell (p:=⟨w.heap.size,14,none⟩) (fun _=>rfl) _).setCell (p:=⟨w.heap.size,15,none⟩) (fun _=>rfl) _).setCell (p:=⟨w.heap.size,19,none⟩) (fun _=>rfl) _).setCell (p:=⟨w.heap.size,22,none⟩) (fun _=>rfl) _;have sd:w0.drew.heap.size=w.heap.size+2:=dt;have d9:w.heap.size+2≤(((((w5.setCell ⟨w.heap.size,4,none⟩ (.slice A1 x.past.length c1)).setCell ⟨w.heap.size,14,none⟩ (.slice A2 x.body.length c2)).setCell ⟨w.heap.size,15,none⟩ (.slice A3 x.refs.length c3)).setCell ⟨w.heap.size,19,none⟩ (.slice A4 x.guards.length c4)).setCell ⟨w.heap.size,22,none⟩ (.slice A5 x.boxes.length c5)).heap.size:=by have h1:=au.size;omega
 have b9:=dk.fr au (fun e=>by have e':w.heap.size+1=w.heap.size:=e;omega);have ao:x.at (((((w5.setCell ⟨w.heap.size,4,none⟩ (.slice A1 x.past.length c1)).setCell ⟨w.heap.size,14,none⟩ (.slice A2 x.body.length c2)).setCell ⟨w.heap.size,15,none⟩ (.slice A3 x.refs.length c3)).setCell ⟨w.heap.size,19,none⟩ (.slice A4 x.guards.length c4)).setCell ⟨w.heap.size,22,none⟩ (.slice A5 x.boxes.length c5)) w.heap.size:=(hat.fr c0 zr).fr au (fun j hj e=>by have e':j=w.heap.size:=e;omega);have bw:Fr Non w (((((w5.setCell ⟨w.heap.size,4,none⟩ (.slice A1 x.past.length c1)).setCell ⟨w.heap.size,14,none⟩ (.slice A2 x.body.length c2)).setCell ⟨w.heap.size,15,none⟩ (.slice A3 x.refs.length c3)).setCell ⟨w.heap.size,19,none⟩ (.slice A4 x.guards.length c4)).setCell ⟨w.heap.size,22,none⟩ (.slice A5 x.boxes.length c5)):=c0.trans au (fun j hj e=>by have e':j=w.heap.size:=e;omega);have p1:=((o1.fr (((f2.trans f3 zr).trans f4 zr).trans f5 zr) zr).lower (base':=w.heap.size+2) (by omega)).fr au (fun j hj e=>by have h1:=(o1.row j hj).1;have e':j=w.heap.size:=e;omega);have p2:=((o2.fr ((f3.trans f4 zr).trans f5 zr) zr).lower (base':=w.heap.size+2) (by omega)).fr au (fun j hj e=>by have h1:=(o2.row j hj).1;have e':j=w.heap.size:=e;omega);have p3:=((o3.fr (f4.trans f5 zr) zr).lower (base':=w.heap.size+2) (by omega)).fr au (fun j hj e=>by have h1:=(o3.row j hj).1;have e':j=w.heap.size:=e;omega);have p4:=((o4.fr (f5) zr).lower (base':=w.heap.size+2) (by omega)).fr au (fun j hj e=>by have h1:=(o4.row j hj).1;have e':j=w.heap.size:=e;omega);have p5:=(o5.lower (base':=w.heap.size+2) (by omega)).fr au (fun j hj e=>by have h1:=(o5.row j hj).1;have e':j=w.heap.size:=e;omega);clear ay ah b6 cz cv cy aj cb dh ds dz dq dk b0 dx bh dl dg c0 bu df ct cg dd ej f1 f2 f3 f4 f5 au o1 o2 o3 o4 o5 e4 da co cp ch k4 ea d4 er ec z4 ep ei eh eb em d7 d3 ee el sd dt;generalize (((((w5.setCell ⟨w.heap.size,4,none⟩ (.slice A1 x.past.length c1)).setCell ⟨w.heap.size,14,none⟩ (.slice A2 x.body.length c2)).setCell ⟨w.heap.size,15,none⟩ (.slice A3 x.refs.length c3)).setCell ⟨w.heap.size,19,none⟩ (.slice A4 x.guards.length c4)).setCell ⟨w.heap.size,22,none⟩ (.slice A5 x.boxes.length c5))=w6 at*;clear w5 w4 w3 w2 w1 w0;have e9:Hid (bk[9]? =some (.slice x.pathA x.path.length x.pathC)):=by show _=_;rw [← ar.out];rfl
 have bi:Hid (bk[24]? =some (.slice x.histA x.hist.length x.histC)):=by show _=_;rw [← ar.out];rfl
 go_wp2_with (fail);refine Cq (S:=(fun w'=>Blk w' w.heap.size 44 bk)) 7 (by kernel_rfl) ?_;replace a2:Blk w6.drew w.heap.size 44 bk:=a2.drew;replace b9:=b9.drew;replace bw:=bw.drew;replace ao:=ao.fr ((Fr.refl Non w6).drew) zr;have et:w.heap.size≤w6.drew.heap.size:=bw.size;have eo:w.heap.size+2≤w6.drew.heap.size:=by have h1:=d9;exact h1
 replace p1:=p1.drew;replace p2:=p2.drew;replace p3:=p3.drew;replace p4:=p4.drew;replace p5:=p5.drew;refine tkG 0 a2 (h:=?_);simp only [List.set];refine Et (i:=1) (v:=?_) rfl (by kernel_rfl) (by kernel_rfl) (by kernel_rfl) (by kernel_rfl) (fun _ _ _ h=>h) (Or.inl ⟨by kernel_rfl,?_⟩) a2 ?_;rotate_left
 focus (intro w' ab;have hB:=ab;have q:w'.cell? ⟨w.heap.size,9,none⟩=some _:=(hB.cell 9).trans e9.out;(try dsimp only at ab);go_simp;(try with_reducible rfl))
 simp only [List.set];refine tkG 3 a2 (h:=?_);simp only [List.set];refine Et (i:=4) (v:=?_) rfl (by kernel_rfl) (by kernel_rfl) (by kernel_rfl) (by kernel_rfl) (fun _ _ _ h=>h) (Or.inl ⟨by kernel_rfl,?_⟩) a2 ?_;rotate_left
 focus (intro w' ab;have hB:=ab;have q:w'.cell? ⟨w.heap.size,24,none⟩=some _:=(hB.cell 24).trans bi.out;(try dsimp only at ab);go_simp;(try with_reducible rfl))
 simp only [List.set];refine Bc 2 (by kernel_rfl) rfl (fun K hK=> ?_);go_simp;go_wp2_with (go_at_call 80;(with_reducible refine (Wt _ _ _ _ _ _ ao.path.rd (W5 _) (by omega)).mono ?_);rintro _ w7 ⟨A7,c7,rfl,o7,f7⟩;have cd:=a2.fr f7 zq;have dw:=b9.fr f7 zq;have a6:=ao.fr f7 zr;have du:=bw.trans f7 zr;have ev:=f7.size);refine hK.out _ _ cd (fun hZ=> ?_);clear hZ hK K;try simp only [put_lit2,List.set]
 refine tkG 6 cd (h:=?_);simp only [List.set];refine Bc 5 (by kernel_rfl) rfl (fun K hK=> ?_);go_simp;go_wp2_with (go_at_call 81;(with_reducible refine (Wu _ _ _ _ _ _ a6.hist.rd (W6 _) (by omega)).mono ?_);rintro _ w8 ⟨A8,c8,rfl,o8,f8⟩;have a1:=cd.fr f8 zq;have dr:=dw.fr f8 zq;have bx:=a6.fr f8 zr;have dj:=du.trans f8 zr;have ew:=f8.size);refine hK.out _ _ a1 (fun hZ=> ?_);clear hZ hK K;try simp only [put_lit2,List.set]
 refine Co (by kernel_rfl) ?_;have k9:w8.cell? ⟨w.heap.size,9,none⟩=some (.slice x.pathA x.path.length x.pathC):=(a1.cell 9).trans e9.out;have z9:=a1.frozen 9;have de:w8.cell? ⟨w.heap.size,24,none⟩=some (.slice x.histA x.hist.length x.histC):=(a1.cell 24).trans bi.out;have d2:=a1.frozen 24;refine oG 7 (fun K hK=> ?_);go_simp;refine hK.out _ _ trivial (fun hZ=> ?_);clear hZ hK K;try simp only [put_lit2,List.set]
 refine oG 8 (fun K hK=> ?_);go_simp;refine hK.out _ _ trivial (fun hZ=> ?_);clear hZ hK K;try simp only [put_lit2,List.set]
 refine oG 9 (fun K hK=> ?_);go_simp;refine hK.out _ _ trivial (fun hZ=> ?_);clear hZ hK K;try simp only [put_lit2,List.set]
 refine oD ?_;go_simp;obtain ⟨cc,ax⟩:=Aa ({x with pastA:=A1,pastC:=c1,bodyA:=A2,bodyC:=c2,refsA:=A3,refsC:=c3,guardsA:=A4,guardsC:=c4,boxesA:=A5,boxesC:=c5,pathA:=A7,pathC:=c7,histA:=A8,histC:=c8}:OpL).cells
 have cr:Blk ((w8.setCell ⟨w.heap.size,9,none⟩ (.slice A7 x.path.length c7)).setCell ⟨w.heap.size,24,none⟩ (.slice A8 x.hist.length c8)) w.heap.size 44 cc:=by
  rw [← ax.out];rw [← ar.out] at a1;exact (a1.set 9 _).set 24 _
 have ak:Fr (One w.heap.size) w8 ((w8.setCell ⟨w.heap.size,9,none⟩ (.slice A7 x.path.length c7)).setCell ⟨w.heap.size,24,none⟩ (.slice A8 x.hist.length c8)):=((Fr.refl (One w.heap.size) w8).setCell (p:=⟨w.heap.size,9,none⟩) (fun _=>rfl) _).setCell (p:=⟨w.heap.size,24,none⟩) (fun _=>rfl) _;have dv:=dr.fr ak (fun e=>by have e':w.heap.size+1=w.heap.size:=e;omega);have bc:x.at ((w8.setCell ⟨w.heap.size,9,none⟩ (.slice A7 x.path.length c7)).setCell ⟨w.heap.size,24,none⟩ (.slice A8 x.hist.length c8)) w.heap.size:=bx.fr ak (fun j hj e=>by have e':j=w.heap.size:=e;omega);have dm:Fr Non w ((w8.setCell ⟨w.heap.size,9,none⟩ (.slice A7 x.path.length c7)).setCell ⟨w.heap.size,24,none⟩ (.slice A8 x.hist.length c8)):=dj.trans ak (fun j hj e=>by have e':j=w.heap.size:=e;omega);have be:=f7.trans f8 zr;have eu:w8.heap.size≤((w8.setCell ⟨w.heap.size,9,none⟩ (.slice A7 x.path.length c7)).setCell ⟨w.heap.size,24,none⟩ (.slice A8 x.hist.length c8)).heap.size:=ak.size;have N6:w.heap.size+2≤w6.drew.heap.size:=eo;have b1:∀k,Ac A1=some k→w.heap.size+2≤k∧k<w6.drew.heap.size:=p1.row;have q1:=(p1.fr be zr).fr ak (fun j hj e=>by have h1:=(b1 j hj).1;have e':j=w.heap.size:=e;omega);have b2:∀k,Ac A2=some k→w.heap.size+2≤k∧k<w6.drew.heap.size:=p2.row;have q2:=(p2.fr be zr).fr ak (fun j hj e=>by have h1:=(b2 j hj).1;have e':j=w.heap.size:=e;omega);have b3:∀k,Ac A3=some k→w.heap.size+2≤k∧k<w6.drew.heap.size:=p3.row;have q3:=(p3.fr be zr).fr ak (fun j hj e=>by have h1:=(b3 j hj).1;have e':j=w.heap.size:=e;omega);have b4:∀k,Ac A4=some k→w.heap.size+2≤k∧k<w6.drew.heap.size:=p4.row;have q4:=(p4.fr be zr).fr ak (fun j hj e=>by have h1:=(b4 j hj).1;have e':j=w.heap.size:=e;omega);have b5:∀k,Ac A5=some k→w.heap.size+2≤k∧k<w6.drew.heap.size:=p5.row;have q5:=(p5.fr be zr).fr ak (fun j hj e=>by have h1:=(b5 j hj).1;have e':j=w.heap.size:=e;omega);have b7:=o7.row;have b8:=o8.row;have q7:=((o7.lower (base':=w.heap.size+2) N6).fr f8 zr).fr ak (fun j hj e=>by have h1:=(b7 j hj).1;have e':j=w.heap.size:=e;omega);have q8:=(o8.lower (base':=w.heap.size+2) (by omega)).fr ak (fun j hj e=>by have h1:=(b8 j hj).1;have e':j=w.heap.size:=e;omega);clear a2 cd a1 b9 dw dr bw du dj ao a6 bx f7 f8 be ak o7 o8 p1 p2 p3 p4 p5 e9 bi k9 de z9 d2 ar;generalize ((w8.setCell ⟨w.heap.size,9,none⟩ (.slice A7 x.path.length c7)).setCell ⟨w.heap.size,24,none⟩ (.slice A8 x.hist.length c8))=w9 at*;have e9:Hid (cc[9]? =some (.slice A7 x.path.length c7)):=by show _=_;rw [← ax.out];rfl
 have bi:Hid (cc[24]? =some (.slice A8 x.hist.length c8)):=by show _=_;rw [← ax.out];rfl
 have k9:w9.cell? ⟨w.heap.size,9,none⟩=some (.slice A7 x.path.length c7):=(cr.cell 9).trans e9.out;obtain ⟨np,cf⟩:=Aa x.path.length;obtain ⟨nh,ce⟩:=Aa x.hist.length;rw [cf.out] at k9 e9 bl q7;rw [ce.out] at bi bp q8;go_wp2_with (fail)
 go_loopw [36] (fun v wr=>∃(k:Nat) (L:List NdL),v=.int .i64 (k:Int)∧k≤np∧Hid (L.map NdL.nd=x.path.map NdL.nd)∧Hid (L.drop k=x.path.drop k)∧Own wr (w.heap.size+2) 71 2 A7 np c7 (L.flatMap NdL.cells)∧Hid (∀y∈L.take k,Own wr w9.heap.size 129 4 y.A y.xs.length y.c (y.xs.flatMap Bx.cells))∧Fr (fun b=>Ac A7=some b) w9 wr) (fun v _=>np-(intOf v).toNat)
 case atStart=>exact ⟨0,x.path,rfl,by omega,rfl,rfl,q7,(fun _ h=>by simp at h),Fr.refl _ _⟩
 case round=>
  obtain ⟨k,L,rfl,hk,ad,ac,af,aa,hf⟩:=hrel
  by_cases hlt:k<np
  ·
   have i1:(0:Int)≤k:=by omega
   have i2:(k:Int)<np:=by omega
   have i3:(k:Int).toNat=k:=by omega
   obtain ⟨y,hy⟩:∃y,x.path[k]? =some y:=⟨_,Am7 (by rw [cf.out];exact hlt)⟩;have av:L[k]? =some y:=(Km ac.out).trans hy;have ap:=Am8 hy;have cm:=a7.out y ap;obtain ⟨g,hA,ck,eg,ae,bj,_⟩:=Own.setAt af (j:=k*2+1) (by omega) (.int .i64 0);have a3:=(bc.nodes y ap).fr hf (fun j hj e=>by have h1:=(b7 j e).1;omega);have d0:wr.cell? ⟨g,k*2+1,none⟩=some (.slice y.A y.xs.length y.c):=ae _ (by rw [Fe (f:=NdL.cells) (fun _=>rfl) L k 1 y av (by omega)];rfl);have kk:wr.cell? ⟨w.heap.size,9,none⟩=some (.slice A7 np c7):=hf.cell k9 (fun e=>by have h1:w6.drew.heap.size≤w.heap.size:=(b7 _ e).1;omega);have d5:w.heap.size+2≤g:=ck;rw [hA] at kk
   have ag:∀(wv:World) (u:Value),Fr Non wr wv→wv.cell? ⟨g,k*2+1,none⟩=some (.slice y.A y.xs.length y.c)∧wv.frozen? ⟨g,k*2+1,none⟩=false∧Own (wv.setCell ⟨g,k*2+1,none⟩ u) (w.heap.size+2) 71 2 A7 np c7 ((L.flatMap NdL.cells).set (k*2+1) u):=by
    intro wv u bz;obtain ⟨g2,bo,_,_,en,bf,cn⟩:=Own.setAt (af.fr bz zr) (j:=k*2+1) (by omega) u;rw [hA] at bo;have c6:g=g2:=by injection bo with e;injection e
    subst c6;exact ⟨bz.cell d0 zq,bf,cn⟩
   replace ag:=Lib.hid ag;replace hA:=Lib.hid hA;clear ae bj;go_upto_region 6 with (fail)
   refine Cq (S:=(fun w'=>w'.cell? ⟨w.heap.size,9,none⟩=some (.slice (some ⟨g,0,none⟩) np c7)∧w'.cell? ⟨g,k*2+1,none⟩=some (.slice y.A y.xs.length y.c))) 10 (by kernel_rfl) ?_;have hS:(fun w'=>w'.cell? ⟨w.heap.size,9,none⟩=some (.slice (some ⟨g,0,none⟩) np c7)∧w'.cell? ⟨g,k*2+1,none⟩=some (.slice y.A y.xs.length y.c)) wr.drew:=⟨kk,d0⟩;have fd:Fr Non wr wr.drew:=(Fr.refl Non wr).drew;have ci:Rd wr.drew w.heap.size 4 y.A y.xs.length (y.xs.flatMap Bx.cells):=And.left (a3.fr fd zr);refine tkG 0 hS (h:=tkG 1 hS (h:=tkG 2 hS (h:=tkG 3 hS (h:=tkG 4 hS (h:=tkG 5 hS (h:=tkG 6 hS (h:=tkG 7 hS (h:=tkG 8 hS (h:=?_)))))))));simp only [List.set];refine Bc 9 (by kernel_rfl) rfl (fun K hK=> ?_);go_simp;go_wp2_with (go_at_call 79;go_loud (with_reducible refine (Pc _ _ _ _ _ _ ci (Pf _) cm).mono ?_);rintro _ wv ⟨A',c',rfl,ov,fv⟩);have aw:=fd.trans fv zr;obtain ⟨d1,z1,c9⟩:=ag.out wv (.slice A' y.xs.length c') aw;refine hK.out _ _ ⟨aw.cell kk zq,d1⟩ (fun hZ=> ?_);clear hZ hK K;try simp only [put_lit2,List.set]
   refine Co (by kernel_rfl) ?_;refine oG 10 (fun K hK=> ?_);go_simp;refine hK.out _ _ trivial (fun hZ=> ?_);clear hZ hK K;try simp only [put_lit2,List.set]
   refine oG 11 (fun K hK=> ?_);go_simp;refine hK.out _ _ trivial (fun hZ=> ?_);clear hZ hK K;try simp only [put_lit2,List.set]
   refine oG 12 (fun K hK=> ?_);go_simp;refine hK.out _ _ trivial (fun hZ=> ?_);clear hZ hK K;try simp only [put_lit2,List.set]
   refine oD ?_;go_simp;have ex:∃y':NdL,y'={y with A:=A',c:=c'}:=⟨_,rfl⟩;obtain ⟨y',a5⟩:=ex
   have a4:Own (wv.setCell ⟨g,k*2+1,none⟩ (.slice A' y.xs.length c')) (w.heap.size+2) 71 2 A7 np c7 ((L.set k y').flatMap NdL.cells):=by
    rw [← Gv (f:=NdL.cells) (size:=2) (fun _=>rfl) (j:=1) (by omega) (.slice A' y.xs.length c') y' L k y av (by rw [a5];rfl)];exact c9
   have fs:Fr (One g) wv (wv.setCell ⟨g,k*2+1,none⟩ (.slice A' y.xs.length c')):=(Fr.refl (One g) wv).setCell (p:=⟨g,k*2+1,none⟩) (fun _=>rfl) _;have bs:Ac A7=some g:=by rw [hA.out];rfl
   have cu:=hf.size
   have al:Hid (∀z∈(L.set k y').take (k+1),Own (wv.setCell ⟨g,k*2+1,none⟩ (.slice A' y.xs.length c')) w9.heap.size 129 4 z.A z.xs.length z.c (z.xs.flatMap Bx.cells)):=by
    intro z hz;rw [Kl L k y' av] at hz;have ef:g<w9.heap.size:=by have h1:=(b7 g bs).2;omega
    rcases List.mem_append.1 hz with hz|hz
    · exact ((aa.out z hz).fr aw zr).fr fs (fun j hj e=>by have h1:=((aa.out z hz).row j hj).1;have e':j=g:=e;omega)
    ·
     obtain rfl:=List.mem_singleton.1 hz;subst a5;exact (ov.lower cu).fr fs (fun j hj e=>by have h1:=(ov.row j hj).1;have h2:wr.drew.heap.size=wr.heap.size:=rfl;have e':j=g:=e;omega)
   have bh:Fr (fun b=>Ac A7=some b) w9 (wv.setCell ⟨g,k*2+1,none⟩ (.slice A' y.xs.length c')):=(hf.trans aw (fun _ _ e=>e.elim)).trans fs (fun j hj e=>by have e':j=g:=e;subst e';exact bs);have bd:Hid ((L.set k y').map NdL.nd=x.path.map NdL.nd):=(Pd NdL.nd L k av (by rw [a5];rfl)).trans ad.out;have aq:Hid ((L.set k y').drop (k+1)=x.path.drop (k+1)):=Pe _ _ k y' ac.out;generalize wv.setCell ⟨g,k*2+1,none⟩ (.slice A' y.xs.length c')=ws at*;generalize L.set k y'=L2 at*;go_wp2_with (fail);go_roundw
   case rel=>exact ⟨k+1,L2,by go_num,by omega,bd,aq,a4,al,bh⟩
   case measure=>simp [intOf];omega
  ·
   obtain rfl:np=k:=by omega
   have bb:L.length=x.path.length:=by have h1:=congrArg List.length ad.out;rwa [An0,An0] at h1
   rw [An1 (by rw [bb,cf.out];exact Am9 _)] at aa;obtain ⟨bg,db⟩:∃u,u=wr:=⟨_,rfl⟩;subst db;have es:=hf.size;have bm:=cr.fr hf (fun e=>by have h1:w6.drew.heap.size≤w.heap.size:=(b7 _ e).1;omega);have cq:=dv.fr hf (fun e=>by have h1:w6.drew.heap.size≤w.heap.size+1:=(b7 _ e).1;omega);have bv:=bc.fr hf (fun j hj e=>by have h1:=(b7 j e).1;omega);have cj:=dm.trans hf (fun j hj e=>by have h1:=(b7 j e).1;omega);have t1:=q1.fr hf (fun j hj e=>by have h1:=(b1 j hj).2;have h2:=(b7 j e).1;omega);have t2:=q2.fr hf (fun j hj e=>by have h1:=(b2 j hj).2;have h2:=(b7 j e).1;omega);have t3:=q3.fr hf (fun j hj e=>by have h1:=(b3 j hj).2;have h2:=(b7 j e).1;omega);have t4:=q4.fr hf (fun j hj e=>by have h1:=(b4 j hj).2;have h2:=(b7 j e).1;omega);have t5:=q5.fr hf (fun j hj e=>by have h1:=(b5 j hj).2;have h2:=(b7 j e).1;omega);have t8:=q8.fr hf (fun j hj e=>by have h1:=(b8 j hj).1;have h2:=(b7 j e).2;omega);have t7:=af;have az:=ad;have ai:=aa;have bt:=Lib.hid bb;clear ad aa ac af hlt hk bb hf cr dv bc dm q1 q2 q3 q4 q5 q7 q8 k9;obtain ⟨L7,ed⟩:∃u,u=L:=⟨_,rfl⟩;subst ed;have de:bg.cell? ⟨w.heap.size,24,none⟩=some (.slice A8 nh c8):=(bm.cell 24).trans bi.out;go_wp2_with (fail)
   go_loopw [55] (fun v wr=>∃(k:Nat) (L:List SlL),v=.int .i64 (k:Int)∧k≤nh∧Hid (L.map SlL.sl=x.hist.map SlL.sl)∧Hid (L.drop k=x.hist.drop k)∧Own wr (w.heap.size+2) 133 4 A8 nh c8 (L.flatMap SlL.cells)∧Hid (∀y∈L.take k,Own wr bg.heap.size 5 1 y.A y.y.length y.c (y.y.map Bv))∧Fr (fun b=>Ac A8=some b) bg wr) (fun v _=>nh-(intOf v).toNat)
   case atStart=>exact ⟨0,x.hist,rfl,by omega,rfl,rfl,t8,(fun _ h=>by simp at h),Fr.refl _ _⟩
   case round=>
    obtain ⟨k,L,rfl,hk,ad,ac,af,aa,hf⟩:=hrel
    by_cases hlt:k<nh
    ·
     have i1:(0:Int)≤k:=by omega
     have i2:(k:Int)<nh:=by omega
     have i3:(k:Int).toNat=k:=by omega
     obtain ⟨y,hy⟩:∃y,x.hist[k]? =some y:=⟨_,Am7 (by rw [ce.out];exact hlt)⟩;have av:L[k]? =some y:=(Km ac.out).trans hy;have ap:=Am8 hy;have cm:=ba.out y ap;obtain ⟨g,hA,ck,eg,ae,bj,_⟩:=Own.setAt af (j:=k*4+3) (by omega) (.int .i64 0);have a3:=(bv.seals y ap).fr hf (fun j hj e=>by have h1:=(b8 j e).1;omega);have d0:wr.cell? ⟨g,k*4+3,none⟩=some (.slice y.A y.y.length y.c):=ae _ (by rw [Fe (f:=SlL.cells) (fun _=>rfl) L k 3 y av (by omega)];rfl);have kk:wr.cell? ⟨w.heap.size,24,none⟩=some (.slice A8 nh c8):=hf.cell de (fun e=>by have h1:w7.heap.size≤w.heap.size:=(b8 _ e).1;omega);have d5:w.heap.size+2≤g:=ck;rw [hA] at kk
     have ag:∀(wv:World) (u:Value),Fr Non wr wv→wv.cell? ⟨g,k*4+3,none⟩=some (.slice y.A y.y.length y.c)∧wv.frozen? ⟨g,k*4+3,none⟩=false∧Own (wv.setCell ⟨g,k*4+3,none⟩ u) (w.heap.size+2) 133 4 A8 nh c8 ((L.flatMap SlL.cells).set (k*4+3) u):=by
      intro wv u bz;obtain ⟨g2,bo,_,_,en,bf,cn⟩:=Own.setAt (af.fr bz zr) (j:=k*4+3) (by omega) u;rw [hA] at bo;have c6:g=g2:=by injection bo with e;injection e
      subst c6;exact ⟨bz.cell d0 zq,bf,cn⟩
     replace ag:=Lib.hid ag;replace hA:=Lib.hid hA;clear ae bj;go_upto_region 11 with (fail)
     refine Cq (S:=(fun w'=>w'.cell? ⟨w.heap.size,24,none⟩=some (.slice (some ⟨g,0,none⟩) nh c8)∧w'.cell? ⟨g,k*4+3,none⟩=some (.slice y.A y.y.length y.c))) 10 (by kernel_rfl) ?_;have hS:(fun w'=>w'.cell? ⟨w.heap.size,24,none⟩=some (.slice (some ⟨g,0,none⟩) nh c8)∧w'.cell? ⟨g,k*4+3,none⟩=some (.slice y.A y.y.length y.c)) wr.drew:=⟨kk,d0⟩;have fd:Fr Non wr wr.drew:=(Fr.refl Non wr).drew;have ci:Rd wr.drew w.heap.size 1 y.A y.y.length (y.y.map Bv):=And.left (a3.fr fd zr);refine tkG 0 hS (h:=tkG 1 hS (h:=tkG 2 hS (h:=tkG 3 hS (h:=tkG 4 hS (h:=tkG 5 hS (h:=tkG 6 hS (h:=tkG 7 hS (h:=tkG 8 hS (h:=?_)))))))));simp only [List.set];refine Bc 9 (by kernel_rfl) rfl (fun K hK=> ?_);go_simp;go_wp2_with (go_at_call 76;go_loud (with_reducible refine (Pb _ _ _ _ _ _ ci (Ig Bv (fun _=>rfl) _) cm).mono ?_);rintro _ wv ⟨A',c',rfl,ov,fv⟩);have aw:=fd.trans fv zr;obtain ⟨d1,z1,c9⟩:=ag.out wv (.slice A' y.y.length c') aw;refine hK.out _ _ ⟨aw.cell kk zq,d1⟩ (fun hZ=> ?_);clear hZ hK K;try simp only [put_lit2,List.set]
     refine Co (by kernel_rfl) ?_;refine oG 10 (fun K hK=> ?_);go_simp;refine hK.out _ _ trivial (fun hZ=> ?_);clear hZ hK K;try simp only [put_lit2,List.set]
     refine oG 11 (fun K hK=> ?_);go_simp;refine hK.out _ _ trivial (fun hZ=> ?_);clear hZ hK K;try simp only [put_lit2,List.set]
     refine oG 12 (fun K hK=> ?_);go_simp;refine hK.out _ _ trivial (fun hZ=> ?_);clear hZ hK K;try simp only [put_lit2,List.set]
     refine oD ?_;go_simp;have ex:∃y':SlL,y'={y with A:=A',c:=c'}:=⟨_,rfl⟩;obtain ⟨y',a5⟩:=ex
     have a4:Own (wv.setCell ⟨g,k*4+3,none⟩ (.slice A' y.y.length c')) (w.heap.size+2) 133 4 A8 nh c8 ((L.set k y').flatMap SlL.cells):=by
      rw [← Gv (f:=SlL.cells) (size:=4) (fun _=>rfl) (j:=3) (by omega) (.slice A' y.y.length c') y' L k y av (by rw [a5];rfl)];exact c9
     have fs:Fr (One g) wv (wv.setCell ⟨g,k*4+3,none⟩ (.slice A' y.y.length c')):=(Fr.refl (One g) wv).setCell (p:=⟨g,k*4+3,none⟩) (fun _=>rfl) _;have bs:Ac A8=some g:=by rw [hA.out];rfl
     have cu:=hf.size
     have al:Hid (∀z∈(L.set k y').take (k+1),Own (wv.setCell ⟨g,k*4+3,none⟩ (.slice A' y.y.length c')) bg.heap.size 5 1 z.A z.y.length z.c (z.y.map Bv)):=by
      intro z hz;rw [Kl L k y' av] at hz;have ef:g<bg.heap.size:=by have h1:=(b8 g bs).2;omega
      rcases List.mem_append.1 hz with hz|hz
      · exact ((aa.out z hz).fr aw zr).fr fs (fun j hj e=>by have h1:=((aa.out z hz).row j hj).1;have e':j=g:=e;omega)
      ·
       obtain rfl:=List.mem_singleton.1 hz;subst a5;exact (ov.lower cu).fr fs (fun j hj e=>by have h1:=(ov.row j hj).1;have h2:wr.drew.heap.size=wr.heap.size:=rfl;have e':j=g:=e;omega)
     have bh:Fr (fun b=>Ac A8=some b) bg (wv.setCell ⟨g,k*4+3,none⟩ (.slice A' y.y.length c')):=(hf.trans aw (fun _ _ e=>e.elim)).trans fs (fun j hj e=>by have e':j=g:=e;subst e';exact bs);have bd:Hid ((L.set k y').map SlL.sl=x.hist.map SlL.sl):=(Pd SlL.sl L k av (by rw [a5];rfl)).trans ad.out;have aq:Hid ((L.set k y').drop (k+1)=x.hist.drop (k+1)):=Pe _ _ k y' ac.out;generalize wv.setCell ⟨g,k*4+3,none⟩ (.slice A' y.y.length c')=ws at*;generalize L.set k y'=L2 at*;go_wp2_with (fail);go_roundw
     case rel=>exact ⟨k+1,L2,by go_num,by omega,bd,aq,a4,al,bh⟩
     case measure=>simp [intOf];omega
    ·
     obtain rfl:nh=k:=by omega
     have bb:L.length=x.hist.length:=by have h1:=congrArg List.length ad.out;rwa [An0,An0] at h1
     rw [An1 (by rw [bb,ce.out];exact Am9 _)] at aa;obtain ⟨a9,cl⟩:∃u,u=wr:=⟨_,rfl⟩;subst cl;have cw:=bm.fr hf (fun e=>by have h1:w7.heap.size≤w.heap.size:=(b8 _ e).1;omega);have a8:=cq.fr hf (fun e=>by have h1:w7.heap.size≤w.heap.size+1:=(b8 _ e).1;omega);have cx:=cj.trans hf (fun j hj e=>by have h1:=(b8 j e).1;omega);have s1:=(t1.fr hf (fun j hj e=>by have h1:=(b1 j hj).2;have h2:=(b8 j e).1;omega)).lower (base':=w.heap.size) (by omega);have s2:=(t2.fr hf (fun j hj e=>by have h1:=(b2 j hj).2;have h2:=(b8 j e).1;omega)).lower (base':=w.heap.size) (by omega);have s3:=(t3.fr hf (fun j hj e=>by have h1:=(b3 j hj).2;have h2:=(b8 j e).1;omega)).lower (base':=w.heap.size) (by omega);have s4:=(t4.fr hf (fun j hj e=>by have h1:=(b4 j hj).2;have h2:=(b8 j e).1;omega)).lower (base':=w.heap.size) (by omega);have s5:=(t5.fr hf (fun j hj e=>by have h1:=(b5 j hj).2;have h2:=(b8 j e).1;omega)).lower (base':=w.heap.size) (by omega);have s7:=(t7.fr hf (fun j hj e=>by have h1:=(b7 j hj).2;have h2:=(b8 j e).1;omega)).lower (base':=w.heap.size) (by omega);have s8:=af.lower (base':=w.heap.size) (by omega);have d6:∀j,w9.heap.size≤j→¬(Ac A8=some j):=fun j hj e=>by have h2:=(b8 j e).2;omega
     have r7:Hid (∀y∈L7,Own a9 w.heap.size 129 4 y.A y.xs.length y.c (y.xs.flatMap Bx.cells)):=fun y hy=>((ai.out y hy).fr hf (fun j hj e=>d6 j ((ai.out y hy).row j hj).1 e)).lower (by omega);have r8:Hid (∀y∈L,Own a9 w.heap.size 5 1 y.A y.y.length y.c (y.y.map Bv)):=fun y hy=>(aa.out y hy).lower (by omega);obtain ⟨v,hv⟩:∃v:OpL,v={x with pastA:=A1,pastC:=c1,bodyA:=A2,bodyC:=c2,refsA:=A3,refsC:=c3,guardsA:=A4,guardsC:=c4,boxesA:=A5,boxesC:=c5,pathA:=A7,pathC:=c7,histA:=A8,histC:=c8,path:=L7,hist:=L}:=⟨_,rfl⟩
     have dp:v.op=x.op:=by
      rw [hv];unfold OpL.op;simp only [az.out,ad.out]
     have br:v.own a9 w.heap.size:=by
      rw [cf.out.symm,← bt.out] at s7;rw [ce.out.symm,← bb] at s8;rw [hv];exact ⟨RowAt.of_own s1,RowAt.of_own s7,(fun y hy=>RowAt.of_own (r7.out y hy)),RowAt.of_own s2,RowAt.of_own s3,RowAt.of_own s4,RowAt.of_own s5,RowAt.of_own s8,(fun y hy=>RowAt.of_own (r8.out y hy))⟩
     have ek:Blk a9 w.heap.size 44 v.cells:=by
      have hc:v.cells=cc:=by
       rw [← ax.out,hv];unfold OpL.cells;simp only [bt.out,bb]
      rw [hc];exact cw
     clear hv az ad r7 r8 s1 s2 s3 s4 s5 s7 s8 ai aa t1 t2 t3 t4 t5 t7 t8;have bq:=Bm v
     have d8:Hid (∀wz,Fr (One (w.heap.size+1)) a9 wz→POST (.returned (.agg v.cells)) wz):=by
      intro wz hz;exact a0.out v wz dp (br.keepP hz (Types.one a8) (by decide) (by decide) (by decide) (by decide) (by decide) (by decide) (by decide)) (cx.trans hz (fun k hk e=>absurd hk (by have e':k=w.heap.size+1:=e;omega)))
     clear dp br a0;have bn:True:=trivial
     go_wp2_with (first
      |(have _t:=bn;refine Ms rfl 44 (.tmp 1) rfl rfl ek Tryz.underlying44 rfl hi ?_;clear bn _t)
      |(refine Fg rfl 44 (.tmp 2) (.tmp 71) rfl rfl rfl rfl a8 hi rfl bq ?_;have bj:=(Fr.refl (One (w.heap.size+1)) a9).setRow (g:=w.heap.size+1) (fun _=>rfl) v.cells;have bf:=a8.setRow (cs:=v.cells);generalize a9.setRow (w.heap.size+1) v.cells=wz at bj bf ⊢;(repeat (first|go_values|go_skip|go_guarded|go_step));exact Cu (t:=44) rfl rfl bf rfl Tryz.underlying44 (by kernel_rfl) rfl (d8.out wz bj)))
end Oq
namespace Oq
attribute [local go_sem ↓] Ch Ea
attribute [local go_sem] Bool.not_false Bool.not_true
theorem Ii {P:Program} {t:TypeId} {d:TypeDesc} (cs:Array Value) (b o:Nat) (hu:P.underlying t=some d) (hd:d.isRow=true) (hi:(P.info? t).map (·.size)=some cs.size):
  ∀w',An4 w' b o cs.toList→(ldS t (.pointer (some ⟨b,o,none⟩))).run P w'=.ok (.agg cs) w':=fun w' h=>by
 have:=run_loadAt_mid (P:=P) w' b o t cs.toList d h hu hd (by rw [hi];simp);unfold ldS;rw [this]
def Ga (r:Option OpL) (w:World) (e:Ending) (w':World):Prop:=
 match r with
 |none=>e=.returned (.tuple #[.agg OpL.zero.cells,.bool false])∧Fr Non w w'
 |some x=>∃y:OpL,e=.returned (.tuple #[.agg y.cells,.bool true])∧y.op=x.op∧y.own w' w.heap.size∧Fr Non w w'
def Gph.opOf (g:Gph) (id:Id):Option OpL:=match Ae g.nodes id with|some i=>g.nodes[i]?.map Af.x|none=>none
theorem W7 (base:Nat) (g:Gph) (id:Id) (w:World) (hg:GAt w base g) (hid:id.ok):Calls Tryz.prog 14 #[.pointer (some ⟨g.gb,0,none⟩),.agg id.V] w (Ga (g.opOf id) w):=by
 have hi:(Tryz.prog.info? 44).map (·.size)=some 27:=by kernel_rfl
 have f1:Fr Non w (w.alloc (.cells id.V 36)):=(Fr.refl Non w).alloc _;have f0:=f1.alloc (.cells zO 44);have ae:=(Blk.new w 36 id.V).alloc (.cells zO 44);have br:=Blk.new (w.alloc (.cells id.V 36)) 44 zO;rw [Am6] at br;have av:((w.alloc (.cells id.V 36)).alloc (.cells zO 44)).heap.size=w.heap.size+2:=by rw [Am6,Am6]
 have ac:=hg.fr f0;generalize hw0:((w.alloc (.cells id.V 36)).alloc (.cells zO 44))=w0 at*;have i0:w0.cell? ⟨w.heap.size,0,none⟩=some (.int .i64 id.b):=ae.cell 0;have i1:w0.cell? ⟨w.heap.size,1,none⟩=some (.int .i64 id.s):=ae.cell 1;have i2:w0.cell? ⟨w.heap.size,2,none⟩=some (.int .u64 (id.u:Int)):=ae.cell 2;have c1:w0.cell? ⟨g.gb,1,none⟩=some (.map (some g.mb)):=ac.blk.cell 1;have c2:w0.cell? ⟨g.gb,2,none⟩=some (.slice g.nA g.nodes.length g.nC):=ac.blk.cell 2;have aa:=ac.map;have ab:=fun (w':World) (h:MapAt w' g.mb g.mm (Ae g.nodes))=>MapAt.look h id hid;have ag:Hid (g.opOf id=match Ae g.nodes id with|some i=>g.nodes[i]?.map Af.x|none=>none):=rfl;generalize g.opOf id=R at*
 cases hp:Ae g.nodes id
 ·
  have hR:R=none:=by rw [ag.out,hp]
  have al:Hid (∀wz,Fr (One (w.heap.size+1)) w0 wz→Ga R w (.returned (.tuple #[.agg OpL.zero.cells,.bool false])) wz):=by
   intro wz hz;rw [hR];exact ⟨rfl,f0.trans hz (fun k hk e=>absurd hk (by have e':k=w.heap.size+1:=e;omega))⟩
  clear hR ag;generalize Ga R w=POST at*;rw [hp] at ab;clear hg ac ae hp;go_enter Tryz.func14,Tryz.ntmps14;go_wp2_with (fail);clear hw0;refine wp_region_held_drew (S:=(fun w'=>w'.cell? ⟨w.heap.size,0,none⟩=some (.int .i64 id.b)∧w'.cell? ⟨w.heap.size,1,none⟩=some (.int .i64 id.s)∧w'.cell? ⟨w.heap.size,2,none⟩=some (.int .u64 (id.u:Int))∧w'.cell? ⟨g.gb,1,none⟩=some (.map (some g.mb))∧MapAt w' g.mb g.mm (Ae g.nodes))) (by kernel_rfl) ⟨i0,i1,i2,c1,aa⟩ (fun hHeld=> ?_);clear hHeld;have hS:(fun w'=>w'.cell? ⟨w.heap.size,0,none⟩=some (.int .i64 id.b)∧w'.cell? ⟨w.heap.size,1,none⟩=some (.int .i64 id.s)∧w'.cell? ⟨w.heap.size,2,none⟩=some (.int .u64 (id.u:Int))∧w'.cell? ⟨g.gb,1,none⟩=some (.map (some g.mb))∧MapAt w' g.mb g.mm (Ae g.nodes)) w0.drew:=⟨i0,i1,i2,c1,aa⟩;replace f0:=f0.drew;replace br:=br.drew;refine tkH 0 hS (h:=tkH 1 hS (h:=tkH 2 hS (h:=tkH 3 hS (h:=tkH 4 hS (h:=tkH 5 hS (h:=tkH 6 hS (h:=tkH 7 hS (h:=tkH 8 hS (h:=tkH 9 hS (h:=tkH 10 hS (h:=?_)))))))))));simp only [List.set];refine oD ?_;go_simp;have fz:=((Fr.refl (One (w.heap.size+1)) w0).drew).setRow (g:=w.heap.size+1) (fun _=>rfl) zO;have ah:=br.setRow (cs:=zO);have a3:=Bf (P:=Tryz.prog) (t:=44) (old:=zO) (cs:=zO) (w.heap.size+1) 44 hi rfl (Bm OpL.zero);go_wp2_with (fail)
  (try simp only [Exit.inBlock,Exit.then])
  refine E0 (t:=44) rfl rfl ah rfl Tryz.underlying44 (by kernel_rfl) rfl ?_;exact al.out _ fz
 ·
  rename_i i;obtain ⟨n,hn,_⟩:=E1 hp;have hR:R=some n.x:=by rw [ag.out,hp];simp [hn]
  have aw:=hg.few;have au:i<g.nodes.length:=(List.getElem?_eq_some_iff.1 hn).1;have ap:=(ac.node n (Am8 hn)).at_;have ak:=(ac.node n (Am8 hn)).ok;obtain ⟨b,ao,hA,a1,hc⟩:=ac.cell hn
  have a0:An4 w0.drew b (ao+i*35) n.x.cells.toList:=by
   intro j v hv;have hj:j<27:=(List.getElem?_eq_some_iff.1 hv).1;exact hc j (by omega) v (by unfold Af.cells;rw [An7 (by show j<27;exact hj)];exact hv)
  have az:=Ii (P:=Tryz.prog) n.x.cells b (ao+i*35) Tryz.underlying44 rfl hi;rw [hA] at c2;have j1:(0:Int)≤i:=by omega
  have j2:(i:Int)<g.nodes.length:=by omega
  have j3:(i:Int).toNat=i:=by omega
  have j4:IntKind.i64.wrap (i:Int)=i:=IntWalk.i64_in _ (by omega);rw [hp] at ab
  have al:Hid (∀(y:OpL) wz,y.op=n.x.op→y.own wz w.heap.size→Fr Non w wz→Ga R w (.returned (.tuple #[.agg y.cells,.bool true])) wz):=by
   intro y wz h1 h2 h3;rw [hR];exact ⟨y,rfl,h1,h2,h3⟩
  clear hR ag hg ac ae hp hn au hc hA a1;generalize Ga R w=POST at*;generalize g.nodes.length=nn at*;generalize n.x=x at*;have kc:=Lib.hid (fun w' (h:x.at w' w'.heap.size)=>Pg x w' h ak);obtain ⟨CX,ax⟩:=Aa x.cells;rw [ax.out] at a0 az kc;go_enter Tryz.func14,Tryz.ntmps14;go_wp2_with (fail);clear hw0;have aq:=c2;refine wp_region_held_drew (S:=(fun w'=>w'.cell? ⟨w.heap.size,0,none⟩=some (.int .i64 id.b)∧w'.cell? ⟨w.heap.size,1,none⟩=some (.int .i64 id.s)∧w'.cell? ⟨w.heap.size,2,none⟩=some (.int .u64 (id.u:Int))∧w'.cell? ⟨g.gb,1,none⟩=some (.map (some g.mb))∧MapAt w' g.mb g.mm (Ae g.nodes))) (by kernel_rfl) ⟨i0,i1,i2,c1,aa⟩ (fun hHeld=> ?_);clear hHeld;have hS:(fun w'=>w'.cell? ⟨w.heap.size,0,none⟩=some (.int .i64 id.b)∧w'.cell? ⟨w.heap.size,1,none⟩=some (.int .i64 id.s)∧w'.cell? ⟨w.heap.size,2,none⟩=some (.int .u64 (id.u:Int))∧w'.cell? ⟨g.gb,1,none⟩=some (.map (some g.mb))∧MapAt w' g.mb g.mm (Ae g.nodes)) w0.drew:=⟨i0,i1,i2,c1,aa⟩;replace f0:=f0.drew;replace br:=br.drew;refine tkH 0 hS (h:=tkH 1 hS (h:=tkH 2 hS (h:=tkH 3 hS (h:=tkH 4 hS (h:=tkH 5 hS (h:=tkH 6 hS (h:=tkH 7 hS (h:=tkH 8 hS (h:=tkH 9 hS (h:=tkH 10 hS (h:=?_)))))))))));simp only [List.set];refine oD ?_;go_simp;replace aq:w0.drew.cell? ⟨g.gb,2,none⟩=some (.slice (some ⟨b,ao,none⟩) nn g.nC):=aq;have af:=OpL.frame ap ((Fr.refl Non w0).drew)
  go_wp2_with (first
   |(go_at_call 41;(with_reducible refine (kc.out _ af).mono ?_);rintro _ w1 ⟨y,rfl,ar,aj,fy⟩;have ai:=br.fr fy zq;have ad:=Bm y;have ay:=f0.trans fy zr;have a2:w0.drew.heap.size=w.heap.size+2:=av)
   |(refine Fg rfl 44 (.tmp 4) (.tmp 28) rfl rfl rfl rfl ai hi rfl ad ?_;have fz:=((Fr.refl (One (w.heap.size+1)) w1)).setRow (g:=w.heap.size+1) (fun _=>rfl) y.cells;have ah:=ai.setRow (cs:=y.cells);generalize w1.setRow (w.heap.size+1) y.cells=wz at fz ah ⊢))
  (try simp only [Exit.inBlock,Exit.then])
  refine E0 (t:=44) rfl rfl ah rfl Tryz.underlying44 (by kernel_rfl) rfl ?_;exact al.out y _ ar ((aj.keepP fz (Types.one ai) (by decide) (by decide) (by decide) (by decide) (by decide) (by decide) (by decide)).lower (by omega)) (ay.trans fz (fun k hk e=>absurd hk (by have e':k=w.heap.size+1:=e;omega)))
end Oq
namespace Oq
attribute [local go_sem ↓] Ch Ea
def Ph:Prop:=∀(base gv:Nat) (A:Option Addr) (c:Nat) (l:List Id) (p:Id→Bool) (w:World),Own w base 36 3 A l.length c (l.flatMap Id.cells)→l.length≤1000000→
 (∀x∈l,∀w':World,Fr (fun k=>Ac A=some k) w w'→Calls Tryz.prog 39 #[.agg x.V,.pointer (some ⟨gv,0,none⟩)] w' (Ad (p x) w'))→
 Calls Tryz.prog 37 #[.slice A l.length c,.func (.func 39) #[] #[.pointer (some ⟨gv,0,none⟩)]] w fun e w'=>
  ∃ys:List Id,ys=l.filter (fun x=> !p x)∧e=.returned (.slice A ys.length c)∧Rd w' w'.heap.size 3 A ys.length (ys.flatMap Id.cells)∧Fr (fun k=>Ac A=some k) w w'
def Gb (l:List Id) (w:World) (e:Ending) (w':World):Prop:=∃A c,e=.returned (.slice A l.length c)∧Rd w' w'.heap.size 3 A l.length (l.flatMap Id.cells)∧Fr Non w w'
theorem Ko (base:Nat) (g:Gph) (x:OpL) (w:World) (hdel:Ph) (hg:GAt w base g) (hat:x.at w w.heap.size) (hok:∀id∈x.past,id.ok) (hn:x.past.length≤1000000):
  Calls Tryz.prog 10 #[.pointer (some ⟨g.gb,0,none⟩),.agg x.cells] w (Gb (x.past.filter (fun id=> !(Ae g.nodes id).isSome)) w):=by
 have e4:Hid (x.cells[4]? =some (.slice x.pastA x.past.length x.pastC)):=rfl;obtain ⟨CS,hCS⟩:=Aa x.cells;have f0:Fr Non w ((w.alloc (.cells #[.pointer (some ⟨g.gb,0,none⟩)] 31)).alloc (.cells CS 44)):=((Fr.refl Non w).alloc _).alloc _;have bg:=(Blk.new w 31 #[.pointer (some ⟨g.gb,0,none⟩)]).alloc (.cells CS 44);have bx:=Blk.new (w.alloc (.cells #[.pointer (some ⟨g.gb,0,none⟩)] 31)) 44 CS;rw [Am6] at bx;rw [hCS.out] at e4 ⊢
 have hfin:Hid (∀(ys:List Id) A c w',ys=x.past.filter (fun id=> !(Ae g.nodes id).isSome)→Rd w' w'.heap.size 3 A ys.length (ys.flatMap Id.cells)→Fr Non w w'→Gb (x.past.filter (fun id=> !(Ae g.nodes id).isSome)) w (.returned (.slice A ys.length c)) w'):=by
  intro ys A c w' h1 h2 h3;subst h1;exact ⟨A,c,rfl,h2,h3⟩
 generalize Gb (x.past.filter (fun id=> !(Ae g.nodes id).isSome)) w=POST at*;go_enter Tryz.func10,Tryz.ntmps10;go_upto_region 1 with (fail)
 generalize (w.alloc (.cells #[.pointer (some ⟨g.gb,0,none⟩)] 31)).alloc (.cells CS 44)=w0 at*;have c4:w0.cell? ⟨w.heap.size+1,4,none⟩=some (.slice x.pastA x.past.length x.pastC):=(bx.cell 4).trans e4.out;have kc:=Lib.hid (Pa _ _ x.pastC _ _ w0 (OpL.frame hat f0).past.rd (Id.cells_one _) hn);go_wp2_with (fail);refine (kc.out).mono ?_;rintro _ w1 ⟨A1,c1,rfl,o1,f1⟩;have sz0:=f0.size;have f01:=f0.trans f1 zr;have bg1:=bg.fr f1 zq;have hrow:=o1.row
 have kd:=Lib.hid (hdel w0.heap.size w.heap.size A1 c1 x.past (fun id=>(Ae g.nodes id).isSome) w1 o1 hn (fun id hid w' hf=>by
  have hf':Fr Non w w':=f01.trans hf (fun j hj e=>by have h1:=(hrow j e).1;omega);refine (U3 base g w.heap.size id w' (hg.fr hf') ?_ (hok id hid));exact (bg1.fr hf (fun e=>by have h1:=(hrow _ e).1;have h2:=bg.lt;omega)).cell 0))
 have hff:Hid (∀w',Fr (fun k=>Ac A1=some k) w1 w'→Fr Non w w'):=fun w' hf=>f01.trans hf (fun j hj e=>by have h1:=(hrow j e).1;omega);clear kc hdel hg hat hok bg bx bg1 o1 f1 f0 f01;go_wp2_with (fail);refine (kd.out).mono ?_;rintro _ w2 ⟨ys,hys,rfl,hrd,hf2⟩;have fin:=Lib.hid (hfin.out ys A1 c1 w2 hys hrd (hff.out w2 hf2));clear hfin hff kd hys hrd hf2;go_wp2_with (fail);exact fin.out
end Oq
end
section
open Go.RowKit
theorem W8 {P:Program} (w:World) (t e ty:TypeId) (z:Value) (ht:P.underlying t=some (.slice e)) (hv:∀w,(zeroValue e).run P w=.ok z w) (b o n c:Nat) (hn:0<n)
  (hc:∀j,j<(Builtin.zeroCells z.cells n).toList.length→(w.cell? ⟨b,o+j,none⟩).isSome=true) (hf:∀j,j<(Builtin.zeroCells z.cells n).toList.length→w.frozen? ⟨b,o+j,none⟩=false)
  (h1:∀v∈(Builtin.zeroCells z.cells n).toList,v.oneCell'=true):
  (Builtin.clear_ #[t] ty #[.slice (some ⟨b,o,none⟩) n c]).run P w=.ok (.tuple #[]) (w.setCells b o (Builtin.zeroCells z.cells n).toList):=by
 have hst:=run_storeCells_cells (P:=P) b o (Builtin.zeroCells z.cells n).toList 0 w (by simpa using hc) (by simpa using hf) h1;simp only [Nat.add_zero] at hst;obtain ⟨m,rfl⟩:∃m,n=m+1:=⟨n-1,by omega⟩;simp [Builtin.clear_,run_underlying ht,hv,hst]
end
section
open Go.RowKit
attribute [local go_sem ↓] Go.wp_at_zero Go.wp_at_succ
theorem Pj (g:Nat):∀(vs:List Value) (o:Nat) (w:World),Fr (One g) w (w.setCells g o vs)
 |[],_,_=>Fr.refl _ _
 |v::vs,o,w=>((Fr.refl (One g) w).setCell (p:=⟨g,o,none⟩) (fun _=>rfl) v).trans (Pj g vs (o+1) _) zr
namespace Oq
theorem Pm {α:Type} (l:List α) (p:α→Bool) (h:l.any p=false):l.filter (fun x=> !p x)=l:=by
 rw [List.filter_eq_self];intro x hx;rw [An8] at h;simpa using h x hx
theorem Po {α:Type} (l:List α) (p:α→Bool) {k:Nat} {x:α} (h:l[k]? =some x):(l.take (k+1)).filter p=(l.take k).filter p++(if p x then [x] else []):=by
 obtain ⟨hk,rfl⟩:=List.getElem?_eq_some_iff.1 h;rw [An5 hk,List.filter_append];congr 1
 cases hp:p l[k]<;>simp [hp]
theorem Own.putId {w:World} {base n c g:Nat} {l:List Id} (h:Own w base 36 3 (some ⟨g,0,none⟩) n c (l.flatMap Id.cells)) {i:Nat} {y:Id} (hy:l[i]? =some y) (hi:i<n) (x:Id):
  (∀j,j<3→(w.cell? ⟨g,i*3+j,none⟩).isSome=true∧w.frozen? ⟨g,i*3+j,none⟩=false)∧
  Own (((w.setCell ⟨g,i*3,none⟩ (.int .i64 x.b)).setCell ⟨g,i*3+1,none⟩ (.int .i64 x.s)).setCell ⟨g,i*3+2,none⟩ (.int .u64 (x.u:Int))) base 36 3 (some ⟨g,0,none⟩) n c ((l.set i x).flatMap Id.cells):=by
 constructor
 ·
  intro j hj;obtain ⟨g2,hA,_,_,hc,hz,_⟩:=Own.setAt h (j:=i*3+j) (by omega) (.int .i64 0);have hgg:g=g2:=by injection hA with e;injection e
  subst hgg;have hl:(l.flatMap Id.cells)[i*3+j]? =y.cells[j]? :=Fe (f:=Id.cells) (fun _=>rfl) l i j y hy hj;have hyj:∃v,y.cells[j]? =some v:=⟨_,Am7 (by show j<3;exact hj)⟩;obtain ⟨v,hv⟩:=hyj;exact ⟨by rw [hc v (hl.trans hv)];rfl,hz⟩
 ·
  have step:∀(w:World) (xs:List Value) (j:Nat) (u:Value),Own w base 36 3 (some ⟨g,0,none⟩) n c xs→j<n*3→Own (w.setCell ⟨g,j,none⟩ u) base 36 3 (some ⟨g,0,none⟩) n c (xs.set j u):=by
   intro w xs j u h hj;obtain ⟨g2,hA,_,_,_,_,ho⟩:=Own.setAt h (j:=j) hj u;have hgg:g=g2:=by injection hA with e;injection e
   subst hgg;exact ho
  have h1:=step _ _ (i*3) (.int .i64 x.b) h (by omega);have h2:=step _ _ (i*3+1) (.int .i64 x.s) h1 (by omega);have h3:=step _ _ (i*3+2) (.int .u64 (x.u:Int)) h2 (by omega);have e1:(l.flatMap Id.cells).set (i*3) (.int .i64 x.b)=(l.set i ⟨x.b,y.s,y.u⟩).flatMap Id.cells:=Gv (f:=Id.cells) (size:=3) (fun _=>rfl) (j:=0) (by omega) _ _ l i y hy rfl
  have hi1:(l.set i ⟨x.b,y.s,y.u⟩)[i]? =some ⟨x.b,y.s,y.u⟩:=by
   rw [An9 (List.getElem?_eq_some_iff.1 hy).1]
  have e2:((l.set i ⟨x.b,y.s,y.u⟩).flatMap Id.cells).set (i*3+1) (.int .i64 x.s)=(l.set i ⟨x.b,x.s,y.u⟩).flatMap Id.cells:=by
   have:=Gv (f:=Id.cells) (size:=3) (fun _=>rfl) (j:=1) (by omega) (.int .i64 x.s) ⟨x.b,x.s,y.u⟩ _ i _ hi1 rfl;rwa [List.set_set] at this
  have hi2:(l.set i ⟨x.b,x.s,y.u⟩)[i]? =some ⟨x.b,x.s,y.u⟩:=by
   rw [An9 (List.getElem?_eq_some_iff.1 hy).1]
  have e3:((l.set i ⟨x.b,x.s,y.u⟩).flatMap Id.cells).set (i*3+2) (.int .u64 (x.u:Int))=(l.set i x).flatMap Id.cells:=by
   have:=Gv (f:=Id.cells) (size:=3) (fun _=>rfl) (j:=2) (by omega) (.int .u64 (x.u:Int)) x _ i _ hi2 rfl;rwa [List.set_set] at this
  rw [e1,e2,e3] at h3;exact h3
theorem Pp (n:Nat):(Builtin.zeroCells (Value.agg #[.int .i64 0,.int .i64 0,.int .u64 0]).cells n).toList.length=n*3:=by
 simp [Builtin.zeroCells,Value.cells]
theorem W9 (n:Nat):∀v∈(Builtin.zeroCells (Value.agg #[.int .i64 0,.int .i64 0,.int .u64 0]).cells n).toList,v.oneCell'=true:=by
 intro v hv;unfold Builtin.zeroCells at hv;rw [Array.toList_map] at hv;obtain ⟨i,_,rfl⟩:=List.mem_map.1 hv;have h:i%3=0∨i%3=1∨i%3=2:=by omega
 show (#[Value.int .i64 0,.int .i64 0,.int .u64 0][i%3]!).oneCell'=true
 rcases h with e|e|e<;>rw [e]<;>rfl
theorem Kp:Ph:=by
 intro a5 gv A c l p w aa aq ah;have ay:=Lib.hid (U6 w.heap.size l.length c gv A l p w rfl aa.rd aq (fun x hx w' hf=>ah x hx w' (hf.mono (fun _ _ e=>e.elim))));obtain ⟨n,hn⟩:=Aa l.length;have a3:=aa.cap;have a9:=aa.row
 have af:Hid (∀(ys:List Id) (m:Nat) (w':World),m=ys.length→ys=l.filter (fun x=> !p x)→Rd w' w'.heap.size 3 A m (ys.flatMap Id.cells)→Fr (fun k=>Ac A=some k) w w'→(∃ys:List Id,ys=l.filter (fun x=> !p x)∧Ending.returned (.slice A m c)=.returned (.slice A ys.length c)∧Rd w' w'.heap.size 3 A ys.length (ys.flatMap Id.cells)∧Fr (fun k=>Ac A=some k) w w')):=by
  intro ys m w' h1 h2 h3 h4;subst h1;exact ⟨ys,h2,rfl,h3,h4⟩
 rw [hn.out] at ay aa a3 aq ⊢;go_enter Tryz.func37,Tryz.ntmps37;go_wp2_with (fail);refine (ay.out).mono ?_;rintro e w1 ⟨h,f1⟩;clear ay;have be:Fr (fun k=>Ac A=some k) w w1:=f1.mono (fun _ _ e=>e.elim);replace aa:=aa.fr f1 zr
 rcases h with ⟨k,id,rfl,hk,hpk,hany⟩|⟨rfl,hany⟩
 ·
  have bo:k<n:=by rw [← hn.out];exact (List.getElem?_eq_some_iff.1 hk).1
  obtain ⟨g,rfl⟩:∃g,A=some ⟨g,0,none⟩:=by
   rcases aa.2 with ⟨_,h0⟩|⟨g,cap,ab,hv,_⟩
   · omega
   ·
    injection hv with hA _ _
    exact ⟨g,hA⟩
  have bk:((k:Int)== -1)=false:=by rw [beq_eq_false_iff_ne];omega
  have al:Hid (l.take k=(l.take (k+1)).filter (fun x=> !p x)):=by
   show _=_;rw [Po l _ hk,hpk,Pm _ _ hany];simp
  clear hany hpk hk;go_wp2_with (fail)
  go_loopw [5,6] (fun vi vj wr=>∃(i j:Nat) (ab:List Id),vi=.int .i64 (i:Int)∧vj=.int .i64 (j:Int)∧i<j∧j≤n∧Hid (ab.take i=(l.take j).filter (fun x=> !p x))∧Hid (ab.drop j=l.drop j)∧Own wr a5 36 3 (some ⟨g,0,none⟩) n c (ab.flatMap Id.cells)∧Fr (fun k=>Ac (some ⟨g,0,none⟩)=some k) w wr) (fun _ vj _=>n-(intOf vj).toNat)
  case atStart=>exact ⟨k,k+1,l,rfl,by go_num,by omega,by omega,al.out,rfl,aa,be⟩
  case round=>
   obtain ⟨i,j,ab,rfl,rfl,bt,br,ad,ag,ac,hf⟩:=hrel
   have a7:ab.length=n:=by
    have h1:=ac.len;rw [Ff (f:=Id.cells) (size:=3) (fun _=>rfl)] at h1;omega
   by_cases hlt:j<n
   ·
    have i1:(0:Int)≤j:=by omega
    have i2:(j:Int)<n:=by omega
    have i3:(j:Int).toNat=j:=by omega
    have m1:(0:Int)≤i:=by omega
    have m2:(i:Int)<n:=by omega
    have m3:(i:Int).toNat=i:=by omega
    obtain ⟨x,hx⟩:∃x,l[j]? =some x:=⟨_,Am7 (by rw [hn.out];exact hlt)⟩;obtain ⟨y,hy⟩:∃y,ab[i]? =some y:=⟨_,Am7 (by rw [a7];omega)⟩;have bg:ab[j]? =some x:=(Km ag.out).trans hx;obtain ⟨b,bj,hA,bd,k0,k1,k2⟩:=Id.at ac.rd bg;obtain ⟨rfl,rfl⟩:g=b∧0=bj:=by injection hA with e;injection e with e1 e2;exact ⟨e1,e2⟩
    rw [Nat.zero_add] at k0 k1 k2;have av:=Lib.hid (Po l (fun x=> !p x) hx);have hc:=Lib.hid (fun w' (h:Fr (fun k=>Ac (some ⟨g,0,none⟩)=some k) w w')=>ah x (Am8 hx) w' h);have bc:=Lib.hid (fun (wv:World) (hv:Fr Non wr wv)=>Own.putId (ac.fr hv zr) hy (by omega) x);have aw:=hf.alloc (.cells x.V 36);have bl:=Blk.new wr 36 x.V;have bf:Fr Non wr (wr.alloc (.cells x.V 36)):=(Fr.refl Non wr).alloc _;have bb:g<wr.heap.size:=bd;have ar:=ac;have bm:=Lib.hid hx;have bi:=Lib.hid hy;have bs:i<l.length:=by rw [hn.out];omega
    clear hx hy bg hA bd ac aa a9 al a7
    have bh:=Lib.hid (show (ab.set i x).drop (j+1)=l.drop (j+1) by
     rw [List.drop_set_of_lt (by omega)];have h2:=congrArg (List.drop 1) ag.out;rwa [An2,An2] at h2)
    have a1:=Lib.hid (show ab.drop (j+1)=l.drop (j+1) by
     have h2:=congrArg (List.drop 1) ag.out;rwa [An2,An2] at h2)
    rcases zb (p x) with hp|hp
    ·
     have ba:Hid (ab.take i=(l.take (j+1)).filter (fun x=> !p x)):=by
      show _=_;rw [av.out,hp,ad.out];simp
     rw [hp] at hc;clear hp av;go_wp2_with (go_at_call 39;(with_reducible refine (hc.out _ aw).mono ?_);rintro _ w2 ⟨rfl,f2⟩);go_roundw
     case rel=>exact ⟨i,j+1,ab,rfl,by go_num,by omega,by omega,ba,a1,(ar.fr bf zr).fr f2 zr,aw.trans f2 (fun _ _ e=>e.elim)⟩
     case measure=>simp [intOf];omega
    ·
     have ba:Hid ((ab.set i x).take (i+1)=(l.take (j+1)).filter (fun x=> !p x)):=by
      show _=_;rw [av.out,hp,Kl ab i x bi.out,ad.out];simp
     rw [hp] at hc;clear hp av;go_wp2_with (go_at_call 39;(with_reducible refine (hc.out _ aw).mono ?_);rintro _ w2 ⟨rfl,f2⟩;obtain ⟨hz,ho⟩:=bc.out w2 (bf.trans f2 zr);have az:=hz 0 (by omega);have a8:=hz 1 (by omega);have au:=hz 2 (by omega);obtain ⟨v0,y0⟩:=Option.isSome_iff_exists.1 az.1;obtain ⟨v1,y1⟩:=Option.isSome_iff_exists.1 a8.1;obtain ⟨v2,y2⟩:=Option.isSome_iff_exists.1 au.1;have z0:=az.2;have z1:=a8.2;have z2:=au.2;rw [Nat.add_zero] at y0 z0;clear hz az a8 au bc;have ap:=bl.fr f2 zq;have b0:=ap.cell 0;have b1:=ap.cell 1;have b2:=ap.cell 2;replace b0:w2.cell? ⟨wr.heap.size,0,none⟩=some (.int .i64 x.b):=b0;replace b1:w2.cell? ⟨wr.heap.size,1,none⟩=some (.int .i64 x.s):=b1;replace b2:w2.cell? ⟨wr.heap.size,2,none⟩=some (.int .u64 (x.u:Int)):=b2);go_roundw
     case rel=>
      exact ⟨i+1,j+1,ab.set i x,by go_num,by go_num,by omega,by omega,ba,bh,ho,(((aw.trans f2 (fun _ _ e=>e.elim)).setCell (p:=⟨g,i*3,none⟩) (fun _=>rfl) _).setCell (p:=⟨g,i*3+1,none⟩) (fun _=>rfl) _).setCell (p:=⟨g,i*3+2,none⟩) (fun _=>rfl) _⟩
     case measure=>simp [intOf];omega
   ·
    obtain rfl:j=n:=by omega
    have bv:(0:Int)≤i:=by omega
    have bu:(i:Int)<j:=by omega
    have bq:(i:Int).toNat=i:=by omega
    have bp:=ac.cap;have bn:(i:Int)<c:=by omega
    have bb:=ac.row g rfl
    have ao:Hid (∀vs:List Value,Rd (wr.setCells g (i*3) vs) (wr.setCells g (i*3) vs).heap.size 3 (some ⟨g,0,none⟩) i ((l.filter (fun x=> !p x)).flatMap Id.cells)∧Fr (fun k=>Ac (some ⟨g,0,none⟩)=some k) w (wr.setCells g (i*3) vs)):=by
     intro vs;have fz:=Pj g vs (i*3) wr
     have e1:ab.take i=l.filter (fun x=> !p x):=by
      rw [ad.out,An1 (by rw [hn.out];exact Am9 _)]
     have aj:(l.filter (fun x=> !p x)).length=i:=by rw [← e1,Ao0];omega
     refine ⟨⟨by rw [Ff (f:=Id.cells) (size:=3) (fun _=>rfl),aj],.inr ⟨g,0,rfl,Ao1 bb.2 fz.size,?_⟩⟩,hf.trans fz (fun k _ e=>by have e':k=g:=e;subst e';rfl)⟩;intro q u hu
     have hq:q<i*3:=by
      have h1:=(List.getElem?_eq_some_iff.1 hu).1;rw [Ff (f:=Id.cells) (size:=3) (fun _=>rfl),aj] at h1;exact h1
     rw [Nat.zero_add,World.cell?_setCells_out g vs (i*3) wr ⟨g,q,none⟩ (fun _ _=> .inl hq)];obtain ⟨g2,a2,_,_,a4,_,_⟩:=Own.setAt ac (j:=q) (by omega) (.int .i64 0);have a0:g=g2:=by injection a2 with e;injection e
     subst a0;refine a4 u ?_;rw [← e1] at hu;have ak:ab.flatMap Id.cells=(ab.take i).flatMap Id.cells++(ab.drop i).flatMap Id.cells:=by rw [← Ao2,List.take_append_drop]
     rw [ak,An7 (List.getElem?_eq_some_iff.1 hu).1];exact hu
    have ae:Hid (∀q,q<(j-i)*3→(wr.cell? ⟨g,i*3+q,none⟩).isSome=true∧wr.frozen? ⟨g,i*3+q,none⟩=false):=by
     intro q hq;have hm:i*3+q<j*3:=by omega
     obtain ⟨g2,a2,_,_,a4,au,_⟩:=Own.setAt ac (j:=i*3+q) hm (.int .i64 0);have a0:g=g2:=by injection a2 with e;injection e
     subst a0;have hl:i*3+q<(ab.flatMap Id.cells).length:=by rw [Ff (f:=Id.cells) (size:=3) (fun _=>rfl),a7];exact hm
     exact ⟨by rw [a4 _ (Am7 hl)];rfl,au⟩
    have ai:Hid (i=(l.filter (fun x=> !p x)).length):=by
     show _=_
     have e1:ab.take i=l.filter (fun x=> !p x):=by
      rw [ad.out,An1 (by rw [hn.out];exact Am9 _)]
     rw [← e1,Ao0];omega
    clear ac ad ag ah aa al hf
    have a6:(Builtin.clear_ #[25] 0 #[Value.slice (some ⟨g,i*3,none⟩) (j-i) (c-i)]).run Tryz.prog wr=.ok (.tuple #[]) (wr.setCells g (i*3) (Builtin.zeroCells (Value.agg #[.int .i64 0,.int .i64 0,.int .u64 0]).cells (j-i)).toList):=
     W8 wr 25 36 0 _ Tryz.underlying25 (fun _=>Tryz.zeroValue36 _) g (i*3) (j-i) (c-i) (by omega) (fun q hq=>(ae.out q (by rw [Pp] at hq;exact hq)).1) (fun q hq=>(ae.out q (by rw [Pp] at hq;exact hq)).2) (W9 _)
    have ax:=Lib.hid (fun vs=>af.out (l.filter (fun x=> !p x)) i (wr.setCells g (i*3) vs) ai.out rfl (ao.out vs).1 (ao.out vs).2);clear ae ao ai af;generalize (Builtin.zeroCells (Value.agg #[.int .i64 0,.int .i64 0,.int .u64 0]).cells (j-i)).toList=ZS at a6;go_wp2_with (fail)
    go_ret
    exact ax.out _
 ·
  have ax:=Lib.hid (af.out l n w1 hn.out.symm (Pm l p hany).symm (by have:=aa.rd;exact this) be);clear af ah hany;go_wp2_with (fail)
  go_ret
  exact ax.out
end Oq
namespace Oq
attribute [local go_sem] Bool.not_false Bool.not_true
def Gph.up (g:Gph) (id:Id) (q:Nat):Bool:=match Ae g.nodes id with|some i=>(g.nodes[i]?.map (fun n=>n.past q)).getD false|none=>false
def Gph.ups (g:Gph) (ids:List Id) (q:Nat):Bool:=ids.any (fun id=>g.up id q)
theorem Xa (g:Gph) (ids:List Id) (k:Nat) {id:Id} (h:ids[k]? =some id):g.ups (ids.take (k+1))=fun q=>g.ups (ids.take k) q||g.up id q:=by
 funext q;unfold Gph.ups;obtain ⟨hk,rfl⟩:=List.getElem?_eq_some_iff.1 h;rw [An5 hk,An6];simp
def Kq (m:Nat→Bool) (w:World) (e:Ending) (w':World):Prop:=∃a0 a1 a2 a3:Nat,e=.returned (.agg #[.int .u64 (a0:Int),.int .u64 (a1:Int),.int .u64 (a2:Int),.int .u64 (a3:Int)])∧Ar [a0,a1,a2,a3] m∧Fr Non w w'
theorem Xb (base:Nat) (g:Gph) (B n c:Nat) (A:Option Addr) (ids:List Id) (w:World) (hg:GAt w base g) (hn:Hid (ids.length=n)) (hr:Rd w B 3 A n (ids.flatMap Id.cells)) (hnm:n≤1000000) (hok:∀id∈ids,id.ok):
  Calls Tryz.prog 97 #[.pointer (some ⟨g.gb,0,none⟩),.slice A n c] w (Kq (g.ups ids) w):=by
 have f0:Fr Non w ((w.alloc (.cells #[.int .u64 0,.int .u64 0,.int .u64 0,.int .u64 0] 91)).alloc (.cells #[.int .u64 0,.int .u64 0,.int .u64 0,.int .u64 0] 91)):=((Fr.refl Non w).alloc _).alloc _;have br:=(Blk.new w 91 #[.int .u64 0,.int .u64 0,.int .u64 0,.int .u64 0]).alloc (.cells #[.int .u64 0,.int .u64 0,.int .u64 0,.int .u64 0] 91);have bs:=Blk.new (w.alloc (.cells #[.int .u64 0,.int .u64 0,.int .u64 0,.int .u64 0] 91)) 91 #[.int .u64 0,.int .u64 0,.int .u64 0,.int .u64 0];rw [Am6] at bs;have aj:∀(a0 a1 a2 a3:Nat) (wz:World),Ar [a0,a1,a2,a3] (g.ups ids)→Fr Non w wz→Kq (g.ups ids) w (.returned (.agg #[.int .u64 (a0:Int),.int .u64 (a1:Int),.int .u64 (a2:Int),.int .u64 (a3:Int)])) wz:=fun a0 a1 a2 a3 wz h1 h2=>⟨a0,a1,a2,a3,rfl,h1,h2⟩;replace aj:=Lib.hid aj;generalize Kq (g.ups ids) w=POST at*;go_enter Tryz.func97,Tryz.ntmps97;go_upto_region 2 with (fail)
 generalize ((w.alloc (.cells #[.int .u64 0,.int .u64 0,.int .u64 0,.int .u64 0] 91)).alloc (.cells #[.int .u64 0,.int .u64 0,.int .u64 0,.int .u64 0] 91))=w0 at*;go_wp2_with (fail)
 go_loopw [12] (fun v wr=>∃(k:Nat) (a0 a1 a2 a3:Nat),v=.int .i64 (k:Int)∧k≤n∧Hid (Ar [a0,a1,a2,a3] (g.ups (ids.take k)))∧Blk wr (w.heap.size+1) 91 #[.int .u64 (a0:Int),.int .u64 (a1:Int),.int .u64 (a2:Int),.int .u64 (a3:Int)]∧Fr (One (w.heap.size+1)) w0 wr) (fun v _=>n-(intOf v).toNat)
 case atStart=>exact ⟨0,0,0,0,0,rfl,by omega,Ar.empty,bs,Fr.refl _ _⟩
 case round=>
  obtain ⟨k,a0,a1,a2,a3,rfl,hk,ac,al,hf⟩:=hrel;have fw:Fr Non w wr:=f0.trans hf (fun j hj e=>by have e':j=w.heap.size+1:=e;omega)
  by_cases hlt:k<n
  ·
   have i1:(0:Int)≤k:=by omega
   have i2:(k:Int)<n:=by omega
   have i3:(k:Int).toNat=k:=by omega
   obtain ⟨id,hid⟩:∃x,ids[k]? =some x:=⟨_,Am7 (by rw [hn.out];exact hlt)⟩;obtain ⟨b,ba,hA,a9,d0,d1,d2⟩:=Id.at (hr.fr fw zr) hid;have ar:=hok id (Am8 hid);have av:=Lib.hid (Xa g ids k hid);have fa:Fr Non w (wr.alloc (.cells id.V 36)):=fw.alloc _;have ai:=hg.fr fa;have aq:=Blk.new wr 36 id.V;have ab:=al.alloc (.cells id.V 36);have ak:=hf.alloc (.cells id.V 36);have c2:=ai.blk.cell 2;have c1:=ai.blk.cell 1;have ae:=ai.map;have af:=fun (w':World) (h:MapAt w' g.mb g.mm (Ae g.nodes))=>MapAt.look h id ar;have aw:Hid (g.up id=fun q=>match Ae g.nodes id with|some i=>(g.nodes[i]?.map (fun n=>n.past q)).getD false|none=>false):=rfl;have i4:=aq.cell 0;have i5:=aq.cell 1;have i6:=aq.cell 2;rw [hA];replace hA:=Lib.hid hA;generalize hw1:wr.alloc (.cells id.V 36)=w1 at*;replace c1:w1.cell? ⟨g.gb,1,none⟩=some (.map (some g.mb)):=c1;replace c2:w1.cell? ⟨g.gb,2,none⟩=some (.slice g.nA g.nodes.length g.nC):=c2;replace i4:w1.cell? ⟨wr.heap.size,0,none⟩=some (.int .i64 id.b):=i4;replace i5:w1.cell? ⟨wr.heap.size,1,none⟩=some (.int .i64 id.s):=i5;replace i6:w1.cell? ⟨wr.heap.size,2,none⟩=some (.int .u64 (id.u:Int)):=i6
   cases hp:Ae g.nodes id
   ·
    have hm:Hid (g.ups (ids.take (k+1))=g.ups (ids.take k)):=by
     show _=_;rw [av.out,aw.out,hp];simp
    rw [hp] at af;clear ai aq hp aw av;go_upto_region 5 with (fail)
    try rw [hw1]
    clear hw1;refine wp_region_held_drew (S:=(fun w'=>w'.cell? ⟨wr.heap.size,0,none⟩=some (.int .i64 id.b)∧w'.cell? ⟨wr.heap.size,1,none⟩=some (.int .i64 id.s)∧w'.cell? ⟨wr.heap.size,2,none⟩=some (.int .u64 (id.u:Int))∧w'.cell? ⟨g.gb,1,none⟩=some (.map (some g.mb))∧MapAt w' g.mb g.mm (Ae g.nodes))) (by kernel_rfl) ⟨i4,i5,i6,c1,ae⟩ (fun hHeld=> ?_);clear hHeld;have hS:(fun w'=>w'.cell? ⟨wr.heap.size,0,none⟩=some (.int .i64 id.b)∧w'.cell? ⟨wr.heap.size,1,none⟩=some (.int .i64 id.s)∧w'.cell? ⟨wr.heap.size,2,none⟩=some (.int .u64 (id.u:Int))∧w'.cell? ⟨g.gb,1,none⟩=some (.map (some g.mb))∧MapAt w' g.mb g.mm (Ae g.nodes)) w1.drew:=⟨i4,i5,i6,c1,ae⟩;replace ak:=ak.drew;replace ab:=ab.drew;refine tkH 0 hS (h:=tkH 1 hS (h:=tkH 2 hS (h:=tkH 3 hS (h:=tkH 4 hS (h:=tkH 5 hS (h:=tkH 6 hS (h:=tkH 7 hS (h:=tkH 8 hS (h:=tkH 9 hS (h:=tkH 10 hS (h:=?_)))))))))));simp only [List.set];refine oD ?_;go_simp;go_wp2_with (fail);go_roundw
    case rel=>exact ⟨k+1,a0,a1,a2,a3,by go_num,by omega,by show Ar _ _;rw [hm.out];exact ac.out,ab,ak⟩
    case measure=>simp [intOf];omega
   ·
    rename_i i;obtain ⟨nd,au,_⟩:=E1 hp;have a5:=hg.few;have a7:i<g.nodes.length:=(List.getElem?_eq_some_iff.1 au).1
    have hm:Hid (g.ups (ids.take (k+1))=fun q=>g.ups (ids.take k) q||nd.past q):=by
     show _=_;rw [av.out,aw.out,hp];simp [au]
    have ag:Hid (Ar [nd.a0,nd.a1,nd.a2,nd.a3] nd.past):=(ai.node nd (Am8 au)).set;obtain ⟨bn,aa,ay,ap⟩:=ai.setAt au;have m0:w1.cell? ⟨bn,aa+i*35+30,none⟩=some (.int .u64 (nd.a0:Int)):=ap 0 (by omega);have m1:w1.cell? ⟨bn,aa+i*35+30+1,none⟩=some (.int .u64 (nd.a1:Int)):=ap 1 (by omega);have m2:w1.cell? ⟨bn,aa+i*35+30+2,none⟩=some (.int .u64 (nd.a2:Int)):=ap 2 (by omega);have m3:w1.cell? ⟨bn,aa+i*35+30+3,none⟩=some (.int .u64 (nd.a3:Int)):=ap 3 (by omega);rw [ay] at c2;have j1:(0:Int)≤i:=by omega
    have j2:(i:Int)<g.nodes.length:=by omega
    have j3:(i:Int).toNat=i:=by omega
    have j4:IntKind.i64.wrap (i:Int)=i:=IntWalk.i64_in _ (by omega);rw [hp] at af;clear ai aq hp aw av au a7 ay ap;generalize g.nodes.length=nn at*;go_upto_region 5 with (fail)
    try rw [hw1]
    clear hw1;refine wp_region_held_drew (S:=(fun w'=>w'.cell? ⟨wr.heap.size,0,none⟩=some (.int .i64 id.b)∧w'.cell? ⟨wr.heap.size,1,none⟩=some (.int .i64 id.s)∧w'.cell? ⟨wr.heap.size,2,none⟩=some (.int .u64 (id.u:Int))∧w'.cell? ⟨g.gb,1,none⟩=some (.map (some g.mb))∧MapAt w' g.mb g.mm (Ae g.nodes))) (by kernel_rfl) ⟨i4,i5,i6,c1,ae⟩ (fun hHeld=> ?_);clear hHeld;have hS:(fun w'=>w'.cell? ⟨wr.heap.size,0,none⟩=some (.int .i64 id.b)∧w'.cell? ⟨wr.heap.size,1,none⟩=some (.int .i64 id.s)∧w'.cell? ⟨wr.heap.size,2,none⟩=some (.int .u64 (id.u:Int))∧w'.cell? ⟨g.gb,1,none⟩=some (.map (some g.mb))∧MapAt w' g.mb g.mm (Ae g.nodes)) w1.drew:=⟨i4,i5,i6,c1,ae⟩;replace ak:=ak.drew;replace ab:=ab.drew;refine tkH 0 hS (h:=tkH 1 hS (h:=tkH 2 hS (h:=tkH 3 hS (h:=tkH 4 hS (h:=tkH 5 hS (h:=tkH 6 hS (h:=tkH 7 hS (h:=tkH 8 hS (h:=tkH 9 hS (h:=tkH 10 hS (h:=?_)))))))))));simp only [List.set];refine oD ?_;go_simp;replace c2:w1.drew.cell? ⟨g.gb,2,none⟩=some (.slice (some ⟨bn,aa,none⟩) nn g.nC):=c2;replace m0:w1.drew.cell? ⟨bn,aa+i*35+30,none⟩=some (.int .u64 (nd.a0:Int)):=m0;replace m1:w1.drew.cell? ⟨bn,aa+i*35+30+1,none⟩=some (.int .u64 (nd.a1:Int)):=m1;replace m2:w1.drew.cell? ⟨bn,aa+i*35+30+2,none⟩=some (.int .u64 (nd.a2:Int)):=m2;replace m3:w1.drew.cell? ⟨bn,aa+i*35+30+3,none⟩=some (.int .u64 (nd.a3:Int)):=m3
    have ax:En w1.drew (w.heap.size+1) 0 [a0,a1,a2,a3]:=fun j hj=>by
     rw [ab.cell]
     match j,hj with
     |0,_=>rfl
     |1,_=>rfl
     |2,_=>rfl
     |3,_=>rfl
    go_wp2_with (go_at_call 46;go_loud (with_reducible refine (J3 _ _ _ _ [a0,a1,a2,a3] _ _ _ _ (g.ups (ids.take k)) nd.past _ ac.out ag.out ab ax).mono ?_);rintro _ w2 ⟨rfl,a4,az⟩)
    have ao:Hid (Ar (orW [a0,a1,a2,a3] [nd.a0,nd.a1,nd.a2,nd.a3]) (g.ups (ids.take (k+1)))):=by
     show Ar _ _;rw [hm.out];exact Ar.or ac.out ag.out
    go_roundw
    case rel=>exact ⟨k+1,a0|||nd.a0,a1|||nd.a1,a2|||nd.a2,a3|||nd.a3,by go_num,by omega,ao,a4,ak.transOne az⟩
    case measure=>simp [intOf];omega
  ·
   obtain rfl:n=k:=by omega
   have ah:Ar [a0,a1,a2,a3] (g.ups ids):=by have h1:=ac.out;rwa [An1 (by rw [hn.out];exact Am9 _)] at h1
   have ad:Blk wr w.heap.size 91 #[.int .u64 0,.int .u64 0,.int .u64 0,.int .u64 0]:=br.fr hf (fun e=>by have e':w.heap.size=w.heap.size+1:=e;omega);have s0:wr.cell? ⟨w.heap.size+1,0,none⟩=some (.int .u64 (a0:Int)):=al.cell 0;have s1:wr.cell? ⟨w.heap.size+1,1,none⟩=some (.int .u64 (a1:Int)):=al.cell 1;have s2:wr.cell? ⟨w.heap.size+1,2,none⟩=some (.int .u64 (a2:Int)):=al.cell 2;have s3:wr.cell? ⟨w.heap.size+1,3,none⟩=some (.int .u64 (a3:Int)):=al.cell 3;have e0:wr.cell? ⟨w.heap.size,0,none⟩=some (.int .u64 0):=ad.cell 0;have e1:wr.cell? ⟨w.heap.size,1,none⟩=some (.int .u64 0):=ad.cell 1;have e2:wr.cell? ⟨w.heap.size,2,none⟩=some (.int .u64 0):=ad.cell 2;have e3:wr.cell? ⟨w.heap.size,3,none⟩=some (.int .u64 0):=ad.cell 3;have z0:wr.frozen? ⟨w.heap.size,0,none⟩=false:=ad.frozen 0;have z1:wr.frozen? ⟨w.heap.size,1,none⟩=false:=ad.frozen 1;have z2:wr.frozen? ⟨w.heap.size,2,none⟩=false:=ad.frozen 2;have z3:wr.frozen? ⟨w.heap.size,3,none⟩=false:=ad.frozen 3;have a8:=(((ad.set 0 (.int .u64 (a0:Int))).set 1 (.int .u64 (a1:Int))).set 2 (.int .u64 (a2:Int))).set 3 (.int .u64 (a3:Int));have fz:=(((fw.setNew (g:=w.heap.size) (Am9 _) 0 (.int .u64 (a0:Int))).setNew (g:=w.heap.size) (Am9 _) 1 (.int .u64 (a1:Int))).setNew (g:=w.heap.size) (Am9 _) 2 (.int .u64 (a2:Int))).setNew (g:=w.heap.size) (Am9 _) 3 (.int .u64 (a3:Int));have a6:=Lib.hid (aj.out a0 a1 a2 a3 _ ah fz);clear ah fz ad al ac hf;go_wp2_with (fail)
   (try simp only [Exit.inBlock,Exit.then])
   refine Cu (t:=91) rfl rfl a8 rfl Tryz.underlying91 (by kernel_rfl) rfl ?_;exact a6.out
end Oq
end
section
open Go.RowKit
namespace Oq
structure Pn where
 o:Op
 id:Id
 ps:Nat→Bool
 lev:Nat
def Af.pn (n:Af):Pn:=⟨n.x.op,n.id,n.past,n.lev⟩
def Gph.pns (g:Gph):List Pn:=g.nodes.map Af.pn
def plc (l:List Pn) (id:Id):Option Nat:=l.findIdx? (fun n=>decide (n.id=id))
theorem Eu (l:List Af) (id:Id):plc (l.map Af.pn) id=Ae l id:=by
 unfold plc Ae;rw [List.findIdx?_map];rfl
theorem Dj {l:List Pn} {id:Id} {i:Nat} (h:plc l id=some i):∃n,l[i]? =some n∧n.id=id:=by
 obtain ⟨hi,h1,_⟩:=List.findIdx?_eq_some_iff_getElem.1 h;exact ⟨l[i],Am7 hi,by simpa using h1⟩
theorem Dk {l:List Pn} {id:Id} {i:Nat} (h:plc l id=some i):i<l.length:=by
 obtain ⟨n,hn,_⟩:=Dj h;exact (List.getElem?_eq_some_iff.1 hn).1
def Bw (l:List Pn) (ids:List Id) (q:Nat):Bool:=ids.any (fun id=>plc l id==some q)
def upB (l:List Pn) (id:Id) (q:Nat):Bool:=match plc l id with|some i=>(l[i]?.map (fun n=>n.ps q)).getD false|none=>false
def Av (l:List Pn) (ids:List Id) (q:Nat):Bool:=ids.any (fun id=>upB l id q)
def Cb (l:List Pn) (id:Id):Int:=match plc l id with|some i=>(l[i]?.map (fun n=>n.o.at_)).getD 0|none=>0
def late (l:List Pn) (ids:List Id):Int:=ids.foldl (fun t id=>max t (Cb l id)) 0
def Bn (l:List Pn) (id:Id):Nat:=match plc l id with|some i=>(l[i]?.map (fun n=>n.lev)).getD 0|none=>0
def lvl (l:List Pn) (ids:List Id):Nat:=ids.foldl (fun t id=>max t (Bn l id+1)) 1
def clash (l:List Pn) (ids:List Id):Bool:=(An3 256).any (fun q=>Bw l ids q&&Av l ids q)
def Bi (l:List Pn) (p:Nat→Bool) (d:Int):Nat→Int
 |0=>0
 |k+1=>match l[k]? with
  |some n=>if (n.o.by_==d&&p k)=true then max (Bi l p d k) n.o.sq else Bi l p d k
  |none=>Bi l p d k
def Bu (l:List Pn) (p:Nat→Bool) (d s:Int):Nat→Bool
 |0=>false
 |k+1=>match l[k]? with
  |some n=>Bu l p d s k||(n.o.by_==d&&p k&&n.o.sq==s-1)
  |none=>Bu l p d s k
def Ai (l:List Pn) (ids:List Id) (q:Nat):Bool:=decide (q<256)&&(Av l ids q||Bw l ids q)
def Ay (l:List Pn) (p:Nat→Bool) (o:Op):Bool:=decide (o.sq≤Bi l p o.by_ l.length)||(decide (1<o.sq)&& !Bu l p o.by_ o.sq l.length)
def Op.name (o:Op):Id:=⟨o.by_,o.sq,o.id⟩
def Bj (cards:List Cd) (d:Int):Option Cd:=cards.find? (fun c=>c.d==d)
def Ag (cards:List Cd) (l:List Pn) (o:Op):Int:=
 if o.chk≠0 then o.chk
 else if (plc l o.name).isSome=true then 5
 else if 200≤l.length then 3
 else match Bj cards o.by_ with
  |none=>17
  |some c=>
   if Sg.check c.s o.bare o.r o.s=false then 12
   else if o.kind=1∧l≠[] then 1
   else if o.past.any (fun id=>(plc l id).isNone)=true then 10
   else if clash l o.past=true∨o.at_<late l o.past then 6
   else if Ay l (Ai l o.past) o=true then 11
   else 0
def As (l:List Pn) (o:Op):Pn:=⟨o,o.name,Ai l o.past,lvl l o.past⟩
theorem Dq {α:Type} {l:List α} {k:Nat} {x:α} (h:l[k]? =some x):l.take (k+1)=l.take k++[x]:=by
 obtain ⟨hk,rfl⟩:=List.getElem?_eq_some_iff.1 h;rw [An5 hk]
theorem Xc (l:List Pn) (ids:List Id) (k:Nat) {id:Id} (h:ids[k]? =some id):Bw l (ids.take (k+1))=fun q=>(plc l id==some q)||Bw l (ids.take k) q:=by
 funext q;unfold Bw;rw [Dq h,An6];simp [Bool.or_comm]
theorem Pq (l:List Pn) (ids:List Id) (k:Nat) {id:Id} (h:ids[k]? =some id):Av l (ids.take (k+1))=fun q=>Av l (ids.take k) q||upB l id q:=by
 funext q;unfold Av;rw [Dq h,An6];simp
theorem Pr (l:List Pn) (ids:List Id) (k:Nat) {id:Id} (h:ids[k]? =some id):late l (ids.take (k+1))=max (late l (ids.take k)) (Cb l id):=by
 unfold late;rw [Dq h,Ao3];rfl
theorem Ps (l:List Pn) (ids:List Id) (k:Nat) {id:Id} (h:ids[k]? =some id):lvl l (ids.take (k+1))=max (lvl l (ids.take k)) (Bn l id+1):=by
 unfold lvl;rw [Dq h,Ao3];rfl
theorem Xd (l:List Pn) (m:Int) (hm:0≤m) (h:∀n∈l,n.o.at_≤m) (ids:List Id):late l ids≤m:=by
 have hat:∀id,Cb l id≤m:=by
  intro id;unfold Cb
  split
  ·
   rename_i i hi;obtain ⟨n,hn,_⟩:=Dj hi;rw [hn];exact h n (Am8 hn)
  · exact hm
 unfold late
 suffices H:∀(t:Int),t≤m→ids.foldl (fun t id=>max t (Cb l id)) t≤m from H 0 hm
 intro t
 induction ids generalizing t with
 |nil=>intro h;exact h
 |cons id r ih=>intro h;exact ih _ (by have:=hat id;dsimp only;omega)
theorem Pt (l:List Pn) (m:Nat) (h:∀n∈l,n.lev≤m) (ids:List Id):lvl l ids≤m+1:=by
 have hat:∀id,Bn l id≤m:=by
  intro id;unfold Bn
  split
  ·
   rename_i i hi;obtain ⟨n,hn,_⟩:=Dj hi;rw [hn];exact h n (Am8 hn)
  · omega
 unfold lvl
 suffices H:∀(t:Nat),t≤m+1→ids.foldl (fun t id=>max t (Bn l id+1)) t≤m+1 from H 1 (by omega)
 intro t
 induction ids generalizing t with
 |nil=>intro h;exact h
 |cons id r ih=>intro h;exact ih _ (by have:=hat id;dsimp only;omega)
theorem Xe (ws:List Nat) (h:ws.length=4) (k:Nat) (hk:256≤k):((ws.getD (k/64) 0).testBit (k%64))=false:=by
 rw [List.getD_eq_getElem?_getD,List.getElem?_eq_none (by omega)];simp
theorem Xf {n:Af} {m:Nat→Bool} (h:Ar n.ws m):n.past=fun q=>decide (q<256)&&m q:=by
 funext q;unfold Af.past
 by_cases hq:q<256
 ·
  rw [← h.bit q hq];simp [hq]
 ·
  rw [Xe n.ws rfl q (by omega)];simp [hq]
theorem Xg {a0 a1 a2 a3:Nat} {m:Nat→Bool} (h:Ar [a0,a1,a2,a3] m):(a0==0&&a1==0&&a2==0&&a3==0)=!(An3 256).any m:=by
 rw [Bool.eq_iff_iff];simp only [Bool.and_eq_true,beq_iff_eq,Bool.not_eq_true',An8,List.mem_range];constructor
 ·
  rintro ⟨⟨⟨rfl,rfl⟩,rfl⟩,rfl⟩ q hq;rw [h.bit q hq];have hq4:q/64=0∨q/64=1∨q/64=2∨q/64=3:=by omega
  rcases hq4 with e|e|e|e<;>rw [e]<;>simp
 ·
  intro hz
  have key:∀k,k<4→[a0,a1,a2,a3].getD k 0=0:=by
   intro k hk;refine Nat.eq_of_testBit_eq (fun j=> ?_);rw [Nat.zero_testBit]
   by_cases hj:j<64
   ·
    have h1:=h.bit (64*k+j) (by omega);have h2:=hz (64*k+j) (by omega);rw [show (64*k+j)/64=k by omega,show (64*k+j)%64=j by omega] at h1;rw [← h1];simpa using h2
   ·
    have hu:=h.u64 k
    exact Nat.testBit_lt_two_pow (Ao1 hu (by
     have:(2:Nat)^64≤2^j:=Nat.pow_le_pow_right (by decide) (by omega);exact Nat.le_trans (by decide) this))
  exact ⟨⟨⟨key 0 (by omega),key 1 (by omega)⟩,key 2 (by omega)⟩,key 3 (by omega)⟩
end Oq
end
section
open Go.RowKit Go.Sort
attribute [local go_sem ↓] Go.wp_at_zero Go.wp_at_succ
namespace Oq
theorem Ij (v:Value):Instr.loadAt 93 v=ldS 93 v:=rfl
theorem Ik (p v:Value):Instr.storeAt 93 p v=stS 93 p v:=rfl
attribute [local go_sem ↓] Ij Ik
def Dr (l:List Af) (p:Nat→Bool) (k:Nat):List Id:=(An3 k).filterMap (fun i=>if p i then l[i]?.map Af.id else none)
theorem Gc (l:List Af) (p:Nat→Bool) (k:Nat) {n:Af} (h:l[k]? =some n):Dr l p (k+1)=Dr l p k++(if p k then [n.id] else []):=by
 unfold Dr;rw [List.range_succ,List.filterMap_append];congr 1
 cases hp:p k<;>simp [hp,h]
theorem Pu (l:List Af) (p:Nat→Bool) (k:Nat):(Dr l p k).length≤k:=by
 unfold Dr;have h:=List.length_filterMap_le (fun i=>if p i then l[i]?.map Af.id else none) (An3 k);simpa using h
theorem Gw (n:Af):n.cells.toArray.all (·.oneCell')=true:=by
 unfold Af.cells OpL.cells;simp [Value.oneCell']
def Il:Prop:=∀(base:Nat) (A:Option Addr) (c:Nat) (xs:List Id) (w:World),Own w base 36 3 A xs.length c (xs.flatMap Id.cells)→xs.length≤1000000→
 Calls Tryz.prog 95 #[.slice A xs.length c,.func (.func 96) #[] #[]] w fun e w'=>e=.returned (.tuple #[])∧
  ∃ys:List Id,ys.Perm xs∧ys.Pairwise (fun x y=>Id.less y x=false)∧Own w' base 36 3 A ys.length c (ys.flatMap Id.cells)∧Fr (fun k=>Ac A=some k) w w'
def Picked (g:Gph) (p:Nat→Bool) (w:World) (e:Ending) (w':World):Prop:=
 ∃A c,∃ids:List Id,e=.returned (.slice A ids.length c)∧ids.Perm (Dr g.nodes p g.nodes.length)∧ids.Pairwise (fun x y=>Id.less y x=false)∧Own w' w.heap.size 36 3 A ids.length c (ids.flatMap Id.cells)∧Fr Non w w'
theorem Pv (base:Nat) (g:Gph) (fid:Nat) (pre post:Array Value) (p:Nat→Bool) (w:World) (hsort:Il) (hg:GAt w base g)
  (heg:∀args w,(callFunc fid args).run Tryz.prog w=.ok (.enter fid args) w)
  (hp:∀(w':World) (i:Nat),Fr Non w w'→i<g.nodes.length→Calls Tryz.prog fid (pre.push (.int .i64 (i:Int))++post) w' (Ad (p i) w')):
  Calls Tryz.prog 51 #[.pointer (some ⟨g.gb,0,none⟩),.func (.func fid) pre post] w (Picked g p w):=by
 have hi:(Tryz.prog.info? 93).map (·.size)=some 35:=by kernel_rfl
 have ak:=hg.few;have c2:w.cell? ⟨g.gb,2,none⟩=some (.slice g.nA g.nodes.length g.nC):=hg.blk.cell 2;obtain ⟨n,hn⟩:=Aa g.nodes.length;rw [hn.out] at c2 ak;replace hp:=Lib.hid hp;go_enter Tryz.func51,Tryz.ntmps51;go_wp2_with (fail)
 go_loopw [5,13] (fun s v wr=>∃(k:Nat) (A:Option Addr) (c:Nat) (xs:List Id),v=.int .i64 (k:Int)∧s=.slice A xs.length c∧k≤n∧Hid (xs=Dr g.nodes p k)∧Own wr w.heap.size 36 3 A xs.length c (xs.flatMap Id.cells)∧Fr Non w wr) (fun _ v _=>n-(intOf v).toNat)
 case atStart=>exact ⟨0,none,0,[],rfl,rfl,by omega,rfl,Own.nil _ _ _ _,Fr.refl _ _⟩
 case round=>
  obtain ⟨k,A,c,xs,rfl,rfl,hk,af,aa,hf⟩:=hrel
  by_cases hlt:k<n
  ·
   have i1:(0:Int)≤k:=by omega
   have i2:(k:Int)<n:=by omega
   have i3:(k:Int).toNat=k:=by omega
   obtain ⟨nd,aw⟩:∃x,g.nodes[k]? =some x:=⟨_,Am7 (by rw [hn.out];exact hlt)⟩;have ap:=Lib.hid (Gc g.nodes p k aw);have a5:xs.length≤k:=by rw [af.out];exact Pu _ _ _
   have av:=hg.fr hf;obtain ⟨b,au,hA,a9,hc⟩:=av.cell aw
   have a2:An4 wr b (au+k*35) nd.cells.toArray.toList:=by
    intro j v hv;have hj:j<35:=(List.getElem?_eq_some_iff.1 hv).1;exact hc j hj v hv
   have a6:=Ii (P:=Tryz.prog) nd.cells.toArray b (au+k*35) Tryz.underlying93 rfl hi;have a1:=Bf (P:=Tryz.prog) (t:=93) (old:=zN) (cs:=nd.cells.toArray) wr.heap.size 93 hi rfl (Gw nd);have aq:=Blk.new wr 93 zN;have a7:Hid (nd.cells.toArray[27]? =some (.int .i64 nd.id.b)):=rfl;have ay:Hid (nd.cells.toArray[28]? =some (.int .i64 nd.id.s)):=rfl;have a0:Hid (nd.cells.toArray[29]? =some (.int .u64 (nd.id.u:Int))):=rfl;have bz:=aq.setRow (cs:=nd.cells.toArray);have fz:=(hf.alloc (.cells zN 93)).setRow (g:=wr.heap.size) (fun h=>by have h1:=hf.size;omega) nd.cells.toArray;have oz:=(aa.alloc (.cells zN 93)).fr ((Fr.refl (One wr.heap.size) _).setRow (g:=wr.heap.size) (fun _=>rfl) nd.cells.toArray) (fun j hj e=>by have h1:=(aa.row j hj).2;have e':j=wr.heap.size:=e;omega);have ae:=aa.row;rw [hA];replace hA:=Lib.hid hA;generalize nd.cells.toArray=CN at*;go_upto_region 5 with (fail)
   generalize (wr.alloc (.cells zN 93)).setRow wr.heap.size CN=w1 at*;have ah:=Lib.hid (hp.out w1 k fz (by rw [hn.out];exact hlt));clear a6 a1 aq a2 hc av;generalize p k=pk at*
   cases pk
   ·
    have ad:Hid (xs=Dr g.nodes p (k+1)):=by show _=_;rw [ap.out,af.out];simp
    go_wp2_with (fail);refine (ah.out).mono ?_;rintro _ w2 ⟨rfl,f2⟩;have ab:=oz.fr f2 zr;have ag:=fz.trans f2 zr;clear oz fz f2 ah;go_wp2_with (fail);go_roundw
    case rel=>exact ⟨k+1,A,c,xs,by go_num,rfl,by omega,ad,ab,ag⟩
    case measure=>simp [intOf];omega
   ·
    have ad:Hid (xs++[nd.id]=Dr g.nodes p (k+1)):=by show _=_;rw [ap.out,af.out];simp
    go_wp2_with (fail);refine (ah.out).mono ?_;rintro _ w2 ⟨rfl,f2⟩;have ab:=oz.fr f2 zr;have ag:=fz.trans f2 zr;have b2:=bz.fr f2 zq;have g0:w2.cell? ⟨wr.heap.size,27,none⟩=some (.int .i64 nd.id.b):=(b2.cell 27).trans a7.out;have g1:w2.cell? ⟨wr.heap.size,28,none⟩=some (.int .i64 nd.id.s):=(b2.cell 28).trans ay.out;have g2:w2.cell? ⟨wr.heap.size,29,none⟩=some (.int .u64 (nd.id.u:Int)):=(b2.cell 29).trans a0.out;have ai:=ab.alloc (.cells nd.id.V 36);have a4:=ag.alloc (.cells nd.id.V 36);have a3:=Blk.new w2 36 nd.id.V;have ba:=ag.size;clear oz fz f2 ah bz b2 ab;go_wp2_with (at_builtin;go_loud (refine Az (base:=w.heap.size) (.tmp 21) (.tmp 24) 25 rfl rfl rfl rfl Cw ai (Rd.blk (n:=1) (size:=3) a3 rfl) (by simp [Value.oneCell']) (by omega) (by omega) (by rw [Am6];omega) ?_);intro A2 ar w4 aj ax a8)
    have al:Own w4 w.heap.size 36 3 A2 (xs++[nd.id]).length ar ((xs++[nd.id]).flatMap Id.cells):=by
     rw [Ao4,Ao2];exact aj
    have az:Fr Non w w4:=a4.trans ax (fun j hj e=>by have h5:=(ae j e).1;omega);go_roundw
    case rel=>exact ⟨k+1,A2,ar,xs++[nd.id],by go_num,by rw [Ao4];rfl,by omega,ad,al,az⟩
    case measure=>simp [intOf];omega
  ·
   obtain rfl:n=k:=by omega
   have ac:=af.out;rw [← hn.out] at ac;have a5:xs.length≤200:=by have h1:=Pu g.nodes p g.nodes.length;rw [← ac,hn.out] at h1;omega
   have kc:=Lib.hid (hsort w.heap.size A c xs wr aa (by omega));have ae:=aa.row
   have ao:Hid (∀(ys:List Id) (wz:World),ys.Perm xs→ys.Pairwise (fun x y=>Id.less y x=false)→Own wz w.heap.size 36 3 A ys.length c (ys.flatMap Id.cells)→Fr (fun k=>Ac A=some k) wr wz→Picked g p w (.returned (.slice A xs.length c)) wz):=by
    intro ys wz h1 h2 h3 h4;rw [← h1.length_eq];exact ⟨A,c,ys,rfl,by rw [← ac];exact h1,h2,h3,hf.trans h4 (fun j hj e=>by have h5:=(ae j e).1;omega)⟩
   generalize Picked g p w=POST at*;clear af ac aa hp heg hg hsort;go_wp2_with (go_at_call 95;go_loud (with_reducible refine (kc.out).mono ?_);rintro _ wz ⟨rfl,ys,h1,h2,h3,h4⟩);exact ao.out ys wz h1 h2 h3 h4
end Oq
end
end Go.Proofs.YthpkjfliibdnjaaGreatDoor
