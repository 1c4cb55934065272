/-
  Contracts of the functions that the claim's statement reaches, walked one by one (part 4).
  Conditions: as each theorem says.
-/
import Derived.Deep.RegionHeld3
import Derived.Deep.DeepCutAuto
import Derived.Deep.RegionLaw
import Derived.Deep.CutBlock
import Derived.Test.YtafonabghnogaaaGreatDoorRows
import Derived.ChangeVars
import Derived.RowKit
import Derived.RangeFuncSeq
import Derived.RangeFuncBound
import Derived.RangeFuncLeaves
import Derived.RangeFuncRecord
import Derived.Shelf.Abstract
import Derived.Test.YtafonabghnogaaaGreatDoorGwM1
import Derived.Test.YtafonabghnogaaaGreatDoorGwM2
import Derived.Test.YtafonabghnogaaaGreatDoorGwM3
set_option maxRecDepth 100000
set_option maxHeartbeats 16000000
open Go.World renaming putObj_heap_other→Ak6,new_ne→Ak7,size_alloc→Ak8,alloc_heap_new→Ak9,putObj_heap_same→Al0
namespace Go.Proofs.YtafonabghnogaaaGreatDoor
section
open Go.RowKit
attribute [local go_sem ↓] Go.wp_at_zero Go.wp_at_succ
namespace Oq
attribute [local go_sem ↓] Ch
theorem Uu (a b:Nat):[a,b].flatMap Pk.num=Pk.num a++Pk.num b:=by simp [List.flatMap_cons]
theorem Uw (a b:Nat) (ha:U64 a) (hb:U64 b) (w:World) (k:Nat) (h:Blk w k 23 #[.int .u64 (a:Int),.int .u64 (b:Int)]):Calls Tryz.prog 108 #[.slice (some ⟨k,0,none⟩) 2 2] w (NewB w (Pk.num a++Pk.num b)):=by
 rw [← Uu];exact J0 w.heap.size 2 2 _ [a,b] _ rfl (Nz h 2 rfl) (Hn ha hb) (by omega)
theorem N3 (x:OpL) (w:World) (hat:x.at w w.heap.size) (hok:x.op.ok):Calls Tryz.prog 88 #[.agg x.cells] w (NewB w x.op.put):=by
 have a2:x.cells.size=27:=rfl;have a3:=Blk.new w 44 x.cells;have ap:=(hat.fr ((Fr.refl Non w).alloc (.cells x.cells 44)) zr).mono (B':=(w.alloc (.cells x.cells 44)).heap.size) (by simp);have a1:=(Fr.refl Non w).alloc (.cells x.cells 44);have aq:=ap;have k1:=Lib.hid (fun w' (h:x.at w' w'.heap.size)=>Hr x w' h hok);have lb:=Op.bare_len x.op hok;have bd:U64 x.r:=hok.r;have bf:U64 x.s:=hok.s;have ac:Hid (x.op.put=x.op.bare++(Pk.num x.r++Pk.num x.s)):=by show _=_;rw [← List.append_assoc];rfl
 obtain ⟨CS,av⟩:=Aa x.cells;have a5:Hid (CS[25]? =some (.int .u64 (x.r:Int))):=by show _=_;rw [← av.out];rfl
 have ba:Hid (CS[26]? =some (.int .u64 (x.s:Int))):=by show _=_;rw [← av.out];rfl
 rw [av.out] at a2 a3 k1 a1 aq;rw [av.out];obtain ⟨D,hD⟩:=Aa x.op.bare;obtain ⟨E,hE⟩:=Aa x.op.put;rw [hD.out] at k1 lb ac;rw [hE.out] at ac;rw [hE.out];have lr:=Pk.num_len x.r;have ls:=Pk.num_len x.s;have k2:=Lib.hid (fun w k h=>Uw x.r x.s bd bf w k h);have lX:(Pk.num x.r++Pk.num x.s).length≤20:=by rw [List.length_append];omega
 obtain ⟨X,hX⟩:=Aa (Pk.num x.r++Pk.num x.s);rw [hX.out] at k2 lX ac;clear hD hE hok hat ap;have hi:(Tryz.prog.info? 44).map (·.size)=some CS.size:=by rw [a2];kernel_rfl
 go_enter Tryz.func88,Tryz.ntmps88;go_upto_region 1 with (fail)
 generalize w.alloc (.cells CS 44)=w0 at*;have ao:Blk w0.drew w.heap.size 44 CS:=a3;have ai:w0.drew.cell? ⟨w.heap.size,25,none⟩=some (.int .u64 (x.r:Int)):=(ao.cell 25).trans a5.out;have ak:w0.drew.cell? ⟨w.heap.size,26,none⟩=some (.int .u64 (x.s:Int)):=(ao.cell 26).trans ba.out;have hl:=Az (P:=Tryz.prog) w.heap.size 44 Tryz.underlying44 rfl hi;have bl:=Ak7 w0 ⟨w.heap.size,25,none⟩ (show w0.cell? _=_ from ai);have bj:=Ak7 w0 ⟨w.heap.size,26,none⟩ (show w0.cell? _=_ from ak);have ad:Fr Non w0.drew (w0.alloc (.cells #[.int .u64 (x.r:Int),.int .u64 (x.s:Int)] 23)).drew:=(Fr.refl Non w0.drew).alloc (.cells #[.int .u64 (x.r:Int),.int .u64 (x.s:Int)] 23);have a8:=ad.cell ai zq;have be:=ad.cell ak zq;have al:x.at w0.drew w0.drew.heap.size:=aq.fr (S:=Non) (Fr.drew (Fr.refl _ _)) zr;have ax:x.at (w0.alloc (.cells #[.int .u64 (x.r:Int),.int .u64 (x.s:Int)] 23)).drew (w0.alloc (.cells #[.int .u64 (x.r:Int),.int .u64 (x.s:Int)] 23)).drew.heap.size:=(al.fr ad zr).mono ad.size;have a7:Blk (w0.alloc (.cells #[.int .u64 (x.r:Int),.int .u64 (x.s:Int)] 23)).drew w0.heap.size 23 #[.int .u64 (x.r:Int),.int .u64 (x.s:Int)]:=(Blk.new w0 23 _).drew
 go_region_held3 (fun w'=>Blk w' w.heap.size 44 CS∧w'.cell? ⟨w.heap.size,25,none⟩=some (.int .u64 (x.r:Int))∧w'.cell? ⟨w.heap.size,26,none⟩=some (.int .u64 (x.s:Int))) ((and_intros<;>first|assumption|exact Blk.alloc (by assumption) _|go_keep)) (first
  |(go_at_call 62;(with_reducible refine (k1.out w0.drew al).mono ?_);rintro _ w1 ⟨A1,c1,rfl,aa,ab⟩;have ar:=ab.cell ai zq;have au:=ab.cell ak zq;have a0:=ao.fr ab zq;have a6:=Ak7 w1 ⟨w.heap.size,25,none⟩ ar;have bg:=Ak7 w1 ⟨w.heap.size,26,none⟩ au;have ag:=Acc.of_new aa ab lb;have az:=Fr.refl Non w0.drew)
  |(go_at_call 62;(with_reducible refine (k1.out _ ax).mono ?_);rintro _ w1 ⟨A1,c1,rfl,aa,ab⟩;have ar:=(ad.trans ab zr).cell ai zq;have au:=(ad.trans ab zr).cell ak zq;have a0:=ao.fr (ad.trans ab zr) zq;have bb:=a7.fr ab zq;have ag:=Acc.of_new aa ab lb;have az:=ad)
  |(go_at_call 108;(with_reducible refine (k2.out _ _ bb).mono ?_);rintro _ w2 ⟨A2,c2,rfl,ae,af⟩;have aj:=ag.step af;have a9:=a0.fr af zq;have bc:=af.cell ar zq;have bh:=af.cell au zq;have z:=(Fr.refl Non w0.drew))
  |(go_at_call 108;(with_reducible refine (k2.out _ _ (Blk.new w1 23 _)).mono ?_);rintro _ w2 ⟨A2,c2,rfl,ae,af⟩;have aj:=(ag.step ((Fr.refl _ _).alloc _)).step af;have aw:=((Fr.refl Non w1).alloc (.cells #[.int .u64 (x.r:Int),.int .u64 (x.s:Int)] 23)).trans af zr;have a9:=a0.fr aw zq;have bc:=aw.cell ar zq;have bh:=aw.cell au zq)
  |((refine Ny (.tmp 4) (.tmp 12) 39 (by rfl) (by rfl) 20 (by rfl) (by rfl) slB aj ae lX (by omega) ?_;intro A3 c3 L3 w3 ay a4;have ah:=az.trans a4 zr;have bk:=ao.fr ah zq;have bi:=ah.cell ai zq;have bm:=ah.cell ak zq)))
 all_goals
  go_wp2
  go_ret
  exact ay.post ((a1.drew).trans az zr) ac.out
theorem Ux (bs:ByteArray):∀(n i:Nat) (r:List UInt8),bs.size-i=n→ByteArray.toList.loop bs i r=r.reverse++bs.data.toList.drop i:=by
 intro n
 induction n with
 |zero=>
  intro i r h;rw [ByteArray.toList.loop,if_neg (by omega),List.drop_of_length_le (by show bs.data.size≤i;have:bs.size=bs.data.size:=rfl;omega),List.append_nil]
 |succ n ih=>
  intro i r h;have hs:bs.size=bs.data.size:=rfl;have hi:i<bs.data.toList.length:=by rw [Array.length_toList];omega
  rw [ByteArray.toList.loop,if_pos (by omega),ih (i+1) _ (by omega),List.drop_eq_getElem_cons hi]
  have:bs.get! i=bs.data.toList[i]:=by
   show bs.data[i]! =_;rw [getElem!_pos bs.data i (by omega)];simp
  rw [this];simp
theorem Uy (bs:ByteArray):bs.toList=bs.data.toList:=by
 unfold ByteArray.toList;rw [Ux bs _ 0 [] rfl];simp
theorem N4 (bs:List UInt8):(str bs).toList=bs:=by rw [Uy];rfl
theorem OpL.frame {x:OpL} {w w':World} (h:x.at w w.heap.size) (hf:Fr Non w w'):x.at w' w'.heap.size:=(h.fr hf zr).mono hf.size
theorem Uz (x y:OpL) (w:World) (hx:x.at w w.heap.size) (hxo:x.op.ok) (hy:y.at w w.heap.size) (hyo:y.op.ok):Calls Tryz.prog 39 #[.agg x.cells,.agg y.cells] w (Ae (x.op.put==y.op.put) w):=by
 have hsx:x.cells.size=27:=rfl;have hsy:y.cells.size=27:=rfl;have hf0:Fr Non w ((w.alloc (.cells x.cells 44)).alloc (.cells y.cells 44)).drew:=(((Fr.refl Non w).alloc _).alloc _).drew;have hb0:Blk ((w.alloc (.cells x.cells 44)).alloc (.cells y.cells 44)).drew w.heap.size 44 x.cells:=((Blk.new w 44 x.cells).alloc _).drew
 have hb1:Blk ((w.alloc (.cells x.cells 44)).alloc (.cells y.cells 44)).drew (w.heap.size+1) 44 y.cells:=by
  have:=(Blk.new (w.alloc (.cells x.cells 44)) 44 y.cells).drew;rwa [Ak8] at this
 have hx0:=OpL.frame hx hf0;have hy0:=OpL.frame hy hf0;have kx:=Lib.hid (fun w' (h:x.at w' w'.heap.size)=>N3 x w' h hxo);have ky:=Lib.hid (fun w' (h:y.at w' w'.heap.size)=>N3 y w' h hyo);obtain ⟨CX,hCX⟩:=Aa x.cells;obtain ⟨CY,hCY⟩:=Aa y.cells;rw [hCX.out,hCY.out] at hf0 hb0 hb1 hx0 hy0;rw [hCX.out] at kx hsx;rw [hCY.out] at ky hsy;rw [hCX.out,hCY.out];obtain ⟨X,hX⟩:=Aa x.op.put;obtain ⟨Y,hY⟩:=Aa y.op.put;rw [hX.out] at kx;rw [hY.out] at ky;rw [hX.out,hY.out];clear hx hy hxo hyo;have hix:(Tryz.prog.info? 44).map (·.size)=some CX.size:=by rw [hsx];kernel_rfl
 have hiy:(Tryz.prog.info? 44).map (·.size)=some CY.size:=by rw [hsy];kernel_rfl
 have hlx:=Az (P:=Tryz.prog) w.heap.size 44 Tryz.underlying44 rfl hix;have hly:=Az (P:=Tryz.prog) (w.heap.size+1) 44 Tryz.underlying44 rfl hiy;go_enter Tryz.func39,Tryz.ntmps39;go_upto_region 1 with (fail)
 generalize (w.alloc (.cells CX 44)).alloc (.cells CY 44)=w0 at*
 go_region_held (fun w'=>Blk w' w.heap.size 44 CX∧Blk w' (w.heap.size+1) 44 CY) ((and_intros<;>assumption)) (first
  |(go_at_call 88;(with_reducible refine (kx.out _ hx0).mono ?_);rintro _ w1 ⟨A1,c1,rfl,hown1,hf1⟩;have hbx1:=hb0.fr hf1 zq;have hby1:=hb1.fr hf1 zq;have q1:=Jh hown1;have hy1:=OpL.frame hy0 hf1)
  |(go_at_call 88;(with_reducible refine (ky.out _ hy1).mono ?_);rintro _ w2 ⟨A2,c2,rfl,hown2,hf2⟩;have hbx2:=hbx1.fr hf2 zq;have hby2:=hby1.fr hf2 zq;have q1:=Jh (hown1.fr hf2 zr);have q2:=Jh hown2))
 all_goals
  go_wp2
  go_ret
  refine ⟨congrArg (fun z=>Ending.returned (.bool z)) ?_,(hf0.trans hf1 zr).trans hf2 zr⟩;rw [N4,N4]
theorem FP_lt:FP<18446744073709551616:=by unfold FP;decide
theorem U64.of {n:Nat} (h:n<FP):U64 n:=Nat.lt_trans h FP_lt
end Oq
end
namespace Oq
end Oq
section
open Go.RowKit
attribute [local go_sem ↓] Go.wp_at_zero Go.wp_at_succ
namespace Oq
attribute [local go_sem] Bool.not_false Bool.not_true
theorem Ht (k:Int) (w:World):Calls Tryz.prog 57 #[.int .i64 k] w fun e w'=>e=.returned (.bool (Dx k))∧w=w':=by
 have hr:Hid (Dx k=(k==1||k==2||k==3||k==4||k==13)):=rfl
 by_cases h1:k=1
 ·
  have f1:=Cs h1;clear h1;go_enter Tryz.func57,Tryz.ntmps57;go_wp2
  go_ret
  exact ⟨by rw [hr.out,f1];rfl,rfl⟩
 have f1:=Cp h1
 by_cases h2:k=2
 ·
  have f2:=Cs h2;clear h1 h2;go_enter Tryz.func57,Tryz.ntmps57;go_wp2
  go_ret
  exact ⟨by rw [hr.out,f1,f2];rfl,rfl⟩
 have f2:=Cp h2
 by_cases h3:k=3
 ·
  have f3:=Cs h3;clear h1 h2 h3;go_enter Tryz.func57,Tryz.ntmps57;go_wp2
  go_ret
  exact ⟨by rw [hr.out,f1,f2,f3];rfl,rfl⟩
 have f3:=Cp h3
 by_cases h4:k=4
 ·
  have f4:=Cs h4;clear h1 h2 h3 h4;go_enter Tryz.func57,Tryz.ntmps57;go_wp2
  go_ret
  exact ⟨by rw [hr.out,f1,f2,f3,f4];rfl,rfl⟩
 have f4:=Cp h4;clear h1 h2 h3 h4;go_enter Tryz.func57,Tryz.ntmps57;go_wp2
 go_ret
 exact ⟨by rw [hr.out,f1,f2,f3,f4];rfl,rfl⟩
def OpL.base (b s k a:Int) (pA:Option Addr) (pC:Nat) (past:List Id) (qA:Option Addr) (qC:Nat) (path:List NdL):OpL:=
 {OpL.zero with by_:=b,sq:=s,kind:=k,at_:=a,pastA:=pA,pastC:=pC,past:=past,pathA:=qA,pathC:=qC,path:=path}
def NdL.gen (y:NdL):Prop:=(1≤y.p∧y.p<FP)∧y.xs.length≤12∧∀b∈y.xs,b.may=true
theorem Bx.gen.may {x:Bx} (h:x.gen):x.may=true:=by
 have h1:=h.t;have h2:=h.e;have h3:=h.y;have h4:=h.g;unfold Bx.may;rw [Nr (by unfold FP;omega),Nr (by unfold FP;omega)];unfold fOk FP;simp;omega
theorem OpL.own.lower {w:World} {base base':Nat} {x:OpL} (h:x.own w base) (hb:base'≤base):x.own w base':=
 ⟨h.past.lower hb,h.path.lower hb,fun y hy=>(h.nodes y hy).lower hb,h.body.lower hb,h.refs.lower hb,h.guards.lower hb,h.boxes.lower hb,h.hist.lower hb,fun y hy=>(h.seals y hy).lower hb⟩
end Oq
end
section
open Go.ChangeShapes Go.WideShapes Go.ChangeAt Go.RowKit
attribute [local go_sem ↓] Go.wp_at_zero Go.wp_at_succ
def kindsL:List Int:=[0,2064,32793,21,16,12,480,640,512,31744,8704,8705,512,33299]
def Fq:Array Value:=(kindsL.map Oq.Iv).toArray
def KindsAt (w:World):Prop:=∀k:Nat,k<14→w.cell? ⟨0,k,none⟩=some (.int .i64 (kindsL.getD k 0))
theorem kinds_named:Tryz.prog.globalNamed "huddle/op.kinds" =some 0:=by kernel_rfl
theorem kinds_type:(Tryz.prog.globals[0]?).map (·.type)=some 159:=by kernel_rfl
theorem U0:Tryz.prog.cellsOf 159=14:=by kernel_rfl
theorem U1:Tryz.prog.cellsOf 3=1:=by kernel_rfl
theorem C8 {H:Type} {enc:TypeId × Value→H} {P:Program} {w:World} {base:Nat} {sp:Nat→Bool} {held:Bool} {fuel:Nat} {t:TypeId} {k:IntKind} {c:Value} {y:DataW H × List MemPlace}
  (ht:P.underlying t=some (.int k)) (h:DataW.trod enc P w base sp held fuel t [c]=some y):∃n,c=.int k n∧y=(.lit (.int k n),[]):=by
 cases fuel with
 |zero=>simp [DataW.trod] at h
 |succ fuel=>
  cases c<;>simp [DataW.trod,ht] at h
  rename_i k' n;obtain ⟨⟨rfl,_⟩,rfl⟩:=h;exact ⟨n,rfl,rfl⟩
theorem U2 {W:World} (h:laidMet Tryz.prog [("huddle/op.kinds",Rows.laid_huddle_op_kinds)] W):W.var? Tryz.prog "huddle/op.kinds" =some Fq:=by
 obtain ⟨ps,⟨g,t,cs,fuel,p,q,hg,ht,hvar,hd,_,_⟩,_⟩:=h;obtain rfl:=Option.some.inj (kinds_named.symm.trans hg);obtain rfl:=Option.some.inj (kinds_type.symm.trans ht);rw [hvar];congr 1;obtain ⟨l⟩:=cs
 cases fuel with
 |zero=>simp [DataW.trod] at hd
 |succ fuel=>
  simp only [DataW.trod,Tryz.underlying159,U0,U1] at hd
  split at hd
  ·
   rename_i hl
   obtain ⟨c0,c1,c2,c3,c4,c5,c6,c7,c8,c9,c10,c11,c12,c13,rfl⟩:∃c0 c1 c2 c3 c4 c5 c6 c7 c8 c9 c10 c11 c12 c13,l=[c0,c1,c2,c3,c4,c5,c6,c7,c8,c9,c10,c11,c12,c13]:=by
    match l,hl with
    |[a0,a1,a2,a3,a4,a5,a6,a7,a8,a9,a10,a11,a12,a13],_=>exact ⟨a0,a1,a2,a3,a4,a5,a6,a7,a8,a9,a10,a11,a12,a13,rfl⟩
   have e:List.range 14=[0,1,2,3,4,5,6,7,8,9,10,11,12,13]:=rfl;rw [e] at hd;simp only [Option.map_eq_some_iff,List.mapM_cons,List.mapM_nil,Option.bind_eq_bind,Option.bind_eq_some_iff,Option.pure_def,Option.some.injEq] at hd;obtain ⟨xs,⟨y0,h0,_,⟨y1,h1,_,⟨y2,h2,_,⟨y3,h3,_,⟨y4,h4,_,⟨y5,h5,_,⟨y6,h6,_,⟨y7,h7,_,⟨y8,h8,_,⟨y9,h9,_,⟨y10,h10,_,⟨y11,h11,_,⟨y12,h12,_,⟨y13,h13,_,rfl,rfl⟩,rfl⟩,rfl⟩,rfl⟩,rfl⟩,rfl⟩,rfl⟩,rfl⟩,rfl⟩,rfl⟩,rfl⟩,rfl⟩,rfl⟩,rfl⟩,hx⟩:=hd;obtain ⟨n0,rfl,rfl⟩:=C8 Tryz.underlying3 h0;obtain ⟨n1,rfl,rfl⟩:=C8 Tryz.underlying3 h1;obtain ⟨n2,rfl,rfl⟩:=C8 Tryz.underlying3 h2;obtain ⟨n3,rfl,rfl⟩:=C8 Tryz.underlying3 h3;obtain ⟨n4,rfl,rfl⟩:=C8 Tryz.underlying3 h4;obtain ⟨n5,rfl,rfl⟩:=C8 Tryz.underlying3 h5;obtain ⟨n6,rfl,rfl⟩:=C8 Tryz.underlying3 h6;obtain ⟨n7,rfl,rfl⟩:=C8 Tryz.underlying3 h7;obtain ⟨n8,rfl,rfl⟩:=C8 Tryz.underlying3 h8;obtain ⟨n9,rfl,rfl⟩:=C8 Tryz.underlying3 h9;obtain ⟨n10,rfl,rfl⟩:=C8 Tryz.underlying3 h10;obtain ⟨n11,rfl,rfl⟩:=C8 Tryz.underlying3 h11;obtain ⟨n12,rfl,rfl⟩:=C8 Tryz.underlying3 h12;obtain ⟨n13,rfl,rfl⟩:=C8 Tryz.underlying3 h13;simp [Rows.laid_huddle_op_kinds] at hx;obtain ⟨⟨rfl,rfl,rfl,rfl,rfl,rfl,rfl,rfl,rfl,rfl,rfl,rfl,rfl,rfl⟩,_⟩:=hx;rfl
  · cases hd
theorem U3 {W:World} (h:laidMetH Tryz.prog [("huddle/op.kinds",Rows.laid_huddle_op_kinds)] W):KindsAt W:=by
 have h':laidMet Tryz.prog [("huddle/op.kinds",Rows.laid_huddle_op_kinds)] W:=h;have hv:=U2 h';intro k hk;have:=World.var?_cell kinds_named hv k;rw [this];unfold Fq;rw [List.getElem?_toArray,List.getElem?_map]
 match k,hk with
 |0,_=>rfl
 |1,_=>rfl
 |2,_=>rfl
 |3,_=>rfl
 |4,_=>rfl
 |5,_=>rfl
 |6,_=>rfl
 |7,_=>rfl
 |8,_=>rfl
 |9,_=>rfl
 |10,_=>rfl
 |11,_=>rfl
 |12,_=>rfl
 |13,_=>rfl
theorem KindsAt.fr {w w':World} (h:KindsAt w) (hf:Fr Non w w'):KindsAt w':=fun k hk=>hf.cell (h k hk) zq
noncomputable def J2 (os:Os):World:=
  {World.holding Tryz.prog os ⟨#[],#[],[]⟩ with heap:=(World.holding Tryz.prog os ⟨#[],#[],[]⟩).heap.modify 0 fun
      | .cells _ t frozen=> .cells Fq t frozen
      |o=>o}
theorem N5 (os:Os) (args:Array Value):((J2 os).forCall (fun _ _=>0) ⟨#[],args,[]⟩).memory.heap[0]? =some (.cells Fq 159 (0,0)):=by kernel_rfl
theorem U4 (os:Os) (args:Array Value):laidMetH Tryz.prog [("huddle/op.kinds",Rows.laid_huddle_op_kinds)] ((J2 os).forCall (fun _ _=>0) ⟨#[],args,[]⟩).memory:=by
 show laidMet _ _ _;refine ⟨_,⟨0,159,Fq,8,[],[],by kernel_rfl,by kernel_rfl,by kernel_rfl,by kernel_rfl,rfl,rfl⟩,by decide,fun b off h=> ?_⟩;have h':MemPlace.cell b off∈(List.range 14).map (fun k=>MemPlace.cell 0 k):=h;obtain ⟨k,hk,e⟩:=List.mem_map.1 h';injection e with e1 e2
 subst e1 e2;refine ⟨⟨_,_,N5 os args⟩,fun u v hc=> ?_⟩;simp only [World.cell?,N5 os args] at hc;have hk':=List.mem_range.1 hk
 have:Fq[k]? =some (.int .i64 (kindsL.getD k 0)):=by
  match k,hk' with
  |0,_=>rfl
  |1,_=>rfl
  |2,_=>rfl
  |3,_=>rfl
  |4,_=>rfl
  |5,_=>rfl
  |6,_=>rfl
  |7,_=>rfl
  |8,_=>rfl
  |9,_=>rfl
  |10,_=>rfl
  |11,_=>rfl
  |12,_=>rfl
  |13,_=>rfl
 simp [this] at hc
namespace Oq
end Oq
end
section
open Go.RowKit
attribute [local go_sem ↓] Go.wp_at_zero Go.wp_at_succ
namespace Oq
attribute [local go_sem ↓] Ch
attribute [local go_sem] Bool.not_false Bool.not_true
theorem Ei:U64 0:=by show (0:Nat)<_;decide
theorem Gp {P:Program} {ops:Array Oper} {rest:List Oper} {o:Oper} {a:Act} {Q:Exit→Act→World→Prop} {w:World} (hg:o.guard=none) (t:TypeId) (p v:Operand) (hop:o.op=Op.store t p v) (hdst:o.dst=none) {g:Nat} {t':TypeId} {old cs:Array Value}
  (hp:a.eval p=.pointer (some ⟨g,0,none⟩)) (hv:a.eval v=.agg cs) (hb:Blk w g t' old) (hi:(P.info? t).map (·.size)=some cs.size) (ho:old.size=cs.size) (h1:cs.all (·.oneCell')=true)
  (hK:∀w2,Blk w2 g t' cs→Fr (One g) w w2→w2.heap.size=w.heap.size→wpList P ops Q rest a w2):wpList P ops Q (o::rest) a w:=
 Ey hg t p v hop hdst hp hv hb hi ho h1 (hK _ hb.setRow ((Fr.refl (One g) w).setRow (fun _=>rfl) cs) (Tu w g cs))
theorem Cb (x:OpL):x.cells.all (·.oneCell')=true:=by unfold OpL.cells;simp [Value.oneCell']
end Oq
end
section
open Go.RowKit Go.Shelf
theorem Fr.putObj {S:Nat→Prop} {a w:World} (h:Fr S a w) {l:Nat} (hl:l<a.heap.size→S l) (o:Obj):Fr S a (w.putObj l o):=
 h.trans (S':=fun k=>k=l) ⟨rfl,rfl,rfl,by simp,fun k _ hk=>Ak6 hk⟩ (fun i hi e=>by subst e;exact hl hi)
theorem Fr.putOne (w:World) (l:Nat) (o:Obj):Fr (fun k=>k=l) w (w.putObj l o):=
 ⟨rfl,rfl,rfl,by simp,fun k _ hk=>Ak6 hk⟩
theorem Fr.obj {S:Nat→Prop} {w w':World} {k:Nat} {o:Obj} (h:Fr S w w') (hk:w.heap[k]? =some o) (hs:¬S k):w'.heap[k]? =some o:=
 (h.block k (Array.getElem?_eq_some_iff.1 hk).1 hs).trans hk
theorem J3 {n m:Nat} {P:Program} {l:Nat} {args:Array Value} {W:World} {R:Ending→World→Prop} (h:YieldAt Fence.wide n P l args W R):YieldAt Fence.wide m P l args W R:=by
 obtain ⟨fn,tmps,assign,body,hy,hR⟩:=h;exact ⟨fn,tmps,assign,body,hy,hR.1,fun c cs _=>hR.2 c cs (room_wide _)⟩
theorem N7 {l n:Nat} {P:Program} {f:FuncId} {args:Array Value} {w:World} {R:Ending→World→Prop} (h:Calls P f args w R):CallsIn (Fence.wide.inRound l) n P f args w R:=callsIn_wide.2 h
theorem U5 {l l' n m:Nat} {P:Program} {f:FuncId} {tmps:Array Value} {assign body:Code} {w:World} {R:Ending→World→Prop} (h:RoundIn Fence.wide n P l f tmps assign body w R):RoundIn (Fence.wide.inRound l') m P l f tmps assign body w R:=
 ⟨h.1,fun c cs _=>h.2 c cs (room_wide _)⟩
def Hu {α:Type} (P:Program) (gf:Nat) (lb:Array Value) (encs:α→Array Value) (xs:List α) (S T:Nat→Prop) (C:Nat) (W0:World):Prop:=
 ∀(l:Nat) (J:Nat→World→Prop),(∀i A B,J i A→Fr S A B→J i B)→J 0 W0→
  (∀i x W,xs[i]? =some x→J i W→C≤W.heap.size→YieldAt Fence.wide 0 P l (encs x) W fun e W'=>e=.returned (.bool true)∧J (i+1) W'∧Fr T W W')→
  Calls P gf (#[.func (.yield l) #[] #[]]++lb) W0 fun e W'=>(∃v,e=.returned v)∧J xs.length W'
def U6 (I:World→Prop) (T:Nat→Prop) (W:World):Exit→Act→World→Prop
 | .normal,_,W'=>I W'∧Fr T W W'
 |_,_,_=>False
theorem Hv {α:Type} {P:Program} {n:Nat} {g:Operand} {ps:Array Tmp} {assign body:Code} {Q:Exit→Act→World→Prop} {a:Act} {w:World} {gf:Nat} {lb:Array Value}
  (hg:a.eval g=.func (.func gf) #[] lb) (eg:∀args w,(callFunc gf args).run P w=.ok (.enter gf args) w)
  {encs:α→Array Value} {xs:List α} {S Tb:Nat→Prop} {C:Nat} (hps:∀x,(encs x).size=ps.size)
  (hseq:∀W1,Fr Non w W1→W1.heap.size=w.heap.size+2→Hu P gf lb encs xs S (fun k=>Tb k∨k=w.heap.size+1) C W1)
  (hS:¬S w.heap.size∧¬S (w.heap.size+1)) (hT:¬Tb w.heap.size∧¬Tb (w.heap.size+1))
  (I:Nat→World→Prop) (hI:∀i A B,I i A→Fr (fun k=>S k∨k=w.heap.size∨k=w.heap.size+1) A B→I i B) (h0:I 0 w)
  (hround:∀(i:Nat) (x:α) (W:World),xs[i]? =some x→
   assign.wpIn (Fence.wide.inRound (w.heap.size+1)) 0 P (Exit.then (fun a' W'=>W'=W∧∀W2,I i W2→C≤W2.heap.size→body.wpIn (Fence.wide.inRound (w.heap.size+1)) 0 P (U6 (I (i+1)) Tb W2) a' W2) (fun _ _ _=>False))
    {tmps:=(ps.zip (encs x)).foldl (fun t (p,v)=>t.setIfInBounds p v) a.tmps,defers:=[]} W)
  (hdone:∀(W:World),I xs.length W→W.heap[w.heap.size]? =some (.deferred (some []))→Q .normal {a with defers:={target:=.collected w.heap.size,args:=#[]}::a.defers} W):
  (Code.rangeFunc g ps assign body).wp P Q a w:=by
 refine (wpIn_wide (n:=n)).1 (wpIn_rangeFunc ?_);intro fn ar;obtain ⟨ab,aa⟩:∃ab:LoopState→Loop,ab=fun st=>{state:=st,pending:=none,fn,tmps:=a.tmps,params:=ps,assign,body,defers:=w.heap.size}:=⟨_,rfl⟩;obtain ⟨W1,ad⟩:∃W1,(w.alloc (.deferred (some []))).alloc (.loop (ab .ready))=W1:=⟨_,rfl⟩
 have aj:W1.heap[w.heap.size+1]? =some (.loop (ab .ready)):=by
  rw [← ad];have:=Ak9 (w.alloc (.deferred (some []))) (.loop (ab .ready));rwa [Ak8] at this
 have ao:W1.heap[w.heap.size]? =some (.deferred (some [])):=by
  rw [← ad];exact (Below.heap_alloc _ _ _ (by simp)).trans (Ak9 w _)
 have ai:Fr Non w W1:=by rw [← ad];exact ((Fr.refl _ _).alloc _).alloc _
 have ak:W1.heap.size=w.heap.size+2:=by rw [← ad];simp
 refine ⟨w.heap.size+1,[{target:=.collected w.heap.size,args:=#[]}],W1,{target:=.fn (.func gf) lb,args:=#[.func (.yield (w.heap.size+1)) #[] #[]]},W1,gf,
  #[.func (.yield (w.heap.size+1)) #[] #[]]++lb,W1,?_,?_,fun _ _=>trivial,?_,fun h=>by simp [Fence.wide] at h,?_⟩
 · rw [← ad,aa];exact run_enterLoop_outer _ _ _ _ _
 ·
  simp only [resolve,hg];simp [go_sem]
 · simp [invoke,go_sem,eg]
 ·
  refine callsIn_wide.2 ((hseq W1 ai ak (w.heap.size+1)
   (fun i W=>I i W∧W.heap[w.heap.size+1]? =some (.loop (ab .ready))∧W.heap[w.heap.size]? =some (.deferred (some [])))
   (fun i A B h hf=>⟨hI i A B h.1 (hf.mono fun _ _ hk=> .inl hk),hf.obj h.2.1 hS.2,hf.obj h.2.2 hS.1⟩)
   ⟨hI 0 w W1 h0 (ai.of_non _),aj,ao⟩ ?_).mono ?_)
  ·
   rintro i x W hx ⟨hi,hl,hk⟩ hC;have av:w.heap.size+1<W.heap.size:=(Array.getElem?_eq_some_iff.1 hl).1;have hy:=run_yield (P:=P) (args:=encs x) hl (by rw [aa];exact hps x);rw [aa] at hy;refine ⟨fn,_,assign,body,hy,roundIn_of_wpIn ar (wpIn_mono (hround i x W hx) ?_)⟩;rintro e a' W' hp
   cases e with
   |normal=> ?_
   |ret=>exact hp.elim
   |exit id=>exact hp.elim
   |goto t=>exact hp.elim
   |panic ch=>exact hp.elim
   |outgrown=>exact hp.elim
   obtain ⟨hW,ac⟩:=hp;subst W';refine ⟨_,run_beginRound hl (by rw [aa]),?_⟩;have al:(W.putObj (w.heap.size+1) (.loop {ab .ready with state:=.busy})).heap[w.heap.size+1]? =some (.loop {ab .ready with state:=.busy}):=Al0 av;have ap:(W.putObj (w.heap.size+1) (.loop {ab .ready with state:=.busy})).heap[w.heap.size]? =some (.deferred (some [])):=(Ak6 (by omega)).trans hk;have ag:Fr (fun k=>k=w.heap.size+1) W (W.putObj (w.heap.size+1) (.loop {ab .ready with state:=.busy})):=Fr.putOne _ _ _;refine wpIn_mono (ac _ (hI i _ _ hi (ag.mono fun _ _ e=> .inr (.inr e))) (by simpa using hC)) ?_;rintro e a3 W3 hp
   cases e with
   |normal=>
    obtain ⟨au,ae⟩:=hp;have ah:=ae.obj al hT.2;have aq:=ae.obj ap hT.1;have hr:=run_endRound (P:=P) none ah;rw [aa] at hr;have af:Fr (fun k=>k=w.heap.size+1) W3 (W3.putObj (w.heap.size+1) (.loop (ab .ready))):=Fr.putOne _ _ _;refine ⟨_,_,hr,rfl,⟨?_,?_,?_⟩,?_⟩
    · rw [aa] at af;exact hI _ _ _ au (af.mono fun _ _ e=> .inr (.inr e))
    · rw [aa];exact Al0 (Array.getElem?_eq_some_iff.1 ah).1
    · exact (Ak6 (by omega)).trans aq
    ·
     rw [aa] at af ag ae;exact ((ag.mono (S':=fun k=>Tb k∨k=w.heap.size+1) fun _ _ e=> .inr e).trans ae fun _ _ e=> .inl e).trans af fun _ _ e=> .inr e
   |ret=>exact hp.elim
   |exit id=>exact hp.elim
   |goto t=>exact hp.elim
   |panic ch=>exact hp.elim
   |outgrown=>exact hp.elim
  ·
   rintro e W2 ⟨⟨v,rfl⟩,hi,hl,hk⟩;refine ⟨none,W2.putObj (w.heap.size+1) (.loop {ab .ready with state:=.exhausted}),?_,hdone _ (hI _ _ _ hi ((Fr.putOne W2 (w.heap.size+1) _).mono fun _ _ e=> .inr (.inr e))) ((Ak6 (by omega)).trans hk)⟩;have h:=run_endLoop (P:=P) hl (by rw [aa];simp);rw [aa] at h ⊢;exact h
end
end Go.Proofs.YtafonabghnogaaaGreatDoor
