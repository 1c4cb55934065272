/-
  Contracts of the functions that the claim's statement reaches, walked one by one (part 14).
  Conditions: as each theorem says.
-/
import Derived.Shelf.SlGeneric
import Derived.Great.BuildSlice
import Derived.Test.YtkanjaikgphjfaaGreatDoorFkN7
import Derived.Test.YtkanjaikgphjfaaGreatDoorFkN11
import Derived.Test.YtkanjaikgphjfaaGreatDoorFkN12
import Derived.Test.YtkanjaikgphjfaaGreatDoorFkN13
set_option maxRecDepth 100000
set_option maxHeartbeats 16000000
open List renaming length_append→An0,getElem?_eq_getElem→An1,mem_of_getElem?→An2,find?_cons_of_neg→An5,not_mem_nil→An6,flatMap_append→An8,getElem?_map→An9,nil_append→Ao0,find?_cons_of_pos→Ao1,take_length→Ao2,eq_nil_of_length_eq_zero→Ao3,pairwise_iff_getElem→Ao4,length_filter_le→Ao5,length_take→Ao6,getElem_mem→Ao7
open Nat renaming le_trans→Am8,zero_add→An3,zero_le→An4,le_refl→An7
open Go.World renaming size_alloc→Am9
namespace Go.Proofs
open Go.Shelf Go.RowKit Go.Lib Go.Sort
def Tryz.sortForks_ren:Go.Shelf.Ren:=⟨fun|6=>36|15=>67|14=>66|28=>119|29=>120|20=>111|21=>112|22=>113|23=>114|24=>115|25=>116|26=>117|27=>118|46=>168|47=>169|48=>170|49=>171|50=>172|57=>202|n=>n,fun|22=>33|24=>36|25=>88|3=>3|39=>123|0=>0|53=>178|55=>39|4=>4|46=>172|45=>171|50=>86|5=>5|9=>9|66=>219|70=>222|76=>239|77=>240|n=>n,fun|n=>n⟩
theorem Tryz.sortForks:Go.Proofs.SlLaysF0.n6 Tryz.prog Tryz.sortForks_ren:={
  mixed:=by kernel_rfl
  f6:=⟨Tryz.f36.name,by decide,Tryz.func36.trans (congrArg some (by kernel_rfl))⟩
  f14:=⟨Tryz.f66.name,by decide,Tryz.func66.trans (congrArg some (by kernel_rfl))⟩
  f15:=Tryz.func67.trans (congrArg some (by kernel_rfl))
  f20:=⟨Tryz.f111.name,by decide,Tryz.func111.trans (congrArg some (by kernel_rfl))⟩
  f21:=⟨Tryz.f112.name,by decide,Tryz.func112.trans (congrArg some (by kernel_rfl))⟩
  f22:=⟨Tryz.f113.name,by decide,Tryz.func113.trans (congrArg some (by kernel_rfl))⟩
  f23:=⟨Tryz.f114.name,by decide,Tryz.func114.trans (congrArg some (by kernel_rfl))⟩
  f24:=⟨Tryz.f115.name,by decide,Tryz.func115.trans (congrArg some (by kernel_rfl))⟩
  f25:=⟨Tryz.f116.name,by decide,Tryz.func116.trans (congrArg some (by kernel_rfl))⟩
  f26:=⟨Tryz.f117.name,by decide,Tryz.func117.trans (congrArg some (by kernel_rfl))⟩
  f27:=⟨Tryz.f118.name,by decide,Tryz.func118.trans (congrArg some (by kernel_rfl))⟩
  f28:=Tryz.func119.trans (congrArg some (by kernel_rfl))
  f29:=Tryz.func120.trans (congrArg some (by kernel_rfl))
  f46:=⟨Tryz.f168.name,by decide,Tryz.func168.trans (congrArg some (by kernel_rfl))⟩
  f47:=Tryz.func169.trans (congrArg some (by kernel_rfl))
  f48:=Tryz.func170.trans (congrArg some (by kernel_rfl))
  f49:=⟨Tryz.f171.name,by decide,Tryz.func171.trans (congrArg some (by kernel_rfl))⟩
  f50:=⟨Tryz.f172.name,by decide,Tryz.func172.trans (congrArg some (by kernel_rfl))⟩
  f57:=⟨Tryz.f202.name,by decide,Tryz.func202.trans (congrArg some (by kernel_rfl))⟩
  t0:=Tryz.underlying0
  a0:=Tryz.isAgg0
  z0:=Tryz.sizeOf0
  v0:=Tryz.zeroValue0
  t3:=Tryz.underlying3
  a3:=Tryz.isAgg3
  z3:=Tryz.sizeOf3
  v3:=Tryz.zeroValue3
  t4:=Tryz.underlying4
  a4:=Tryz.isAgg4
  z4:=Tryz.sizeOf4
  v4:=Tryz.zeroValue4
  t5:=Tryz.underlying5
  a5:=Tryz.isAgg5
  z5:=Tryz.sizeOf5
  v5:=Tryz.zeroValue5
  t9:=Tryz.underlying9
  a9:=Tryz.isAgg9
  z9:=Tryz.sizeOf9
  v9:=Tryz.zeroValue9
  t22:=Tryz.underlying33
  a22:=Tryz.isAgg33
  z22:=Tryz.sizeOf33
  v22:=Tryz.zeroValue33
  t25:=Tryz.underlying88
  a25:=Tryz.isAgg88
  z25:=Tryz.sizeOf88
  v25:=Tryz.zeroValue88
  t39:=Tryz.underlying123
  a39:=Tryz.isAgg123
  z39:=Tryz.sizeOf123
  v39:=Tryz.zeroValue123
  t45:=Tryz.underlying171
  a45:=Tryz.isAgg171
  z45:=Tryz.sizeOf171
  v45:=Tryz.zeroValue171
  t46:=Tryz.underlying172
  a46:=Tryz.isAgg172
  z46:=Tryz.sizeOf172
  v46:=Tryz.zeroValue172
  t50:=Tryz.underlying86
  a50:=Tryz.isAgg86
  z50:=Tryz.sizeOf86
  v50:=Tryz.zeroValue86
  t53:=Tryz.underlying178
  a53:=Tryz.isAgg178
  z53:=Tryz.sizeOf178
  v53:=Tryz.zeroValue178
  t55:=Tryz.underlying39
  a55:=Tryz.isAgg39
  z55:=Tryz.sizeOf39
  v55:=Tryz.zeroValue39
  t66:=Tryz.underlying219
  a66:=Tryz.isAgg219
  z66:=Tryz.sizeOf219
  v66:=Tryz.zeroValue219
  t70:=Tryz.underlying222
  a70:=Tryz.isAgg222
  z70:=Tryz.sizeOf222
  v70:=Tryz.zeroValue222
  t76:=Tryz.underlying239
  a76:=Tryz.isAgg239
  z76:=Tryz.sizeOf239
  v76:=Tryz.zeroValue239
  t77:=Tryz.underlying240
  a77:=Tryz.isAgg240
  z77:=Tryz.sizeOf240
  v77:=Tryz.zeroValue240}
end Go.Proofs
namespace Go.Proofs.YtkanjaikgphjfaaGreatDoor
section
open Go.RowKit Go.Sort Go.Shelf
attribute [local go_sem ↓] Go.wp_at_zero Go.wp_at_succ
namespace Oq
theorem Ai8 (x y:Id) (w:World):
  Calls Tryz.prog 70 #[.agg x.V,.agg y.V] w fun e w'=>e=.returned (.int .i64 (E6 x y))∧GrowOf w w':=by
 have hf:=((GrowOf.refl w).alloc (.cells x.V 41)).alloc (.cells y.V 41);have hx:=(Blk.new w 41 x.V).alloc (.cells y.V 41);have hy:=Blk.new (w.alloc (.cells x.V 41)) 41 y.V;rw [Am9] at hy;have k1:=Lib.hid (fun w'=>Oa x y w');have k2:=Lib.hid (fun w'=>Oa y x w');have hv:Hid (E6 x y=if Id.less x y then-1 else if Id.less y x then 1 else 0):=rfl;generalize E6 x y=v at*;generalize hw0:(w.alloc (.cells x.V 41)).alloc (.cells y.V 41)=w0 at*;have c0:w0.cell? ⟨w.heap.size,0,none⟩=some (.int .i64 x.b):=hx.cell 0;have c1:w0.cell? ⟨w.heap.size,1,none⟩=some (.int .i64 x.s):=hx.cell 1;have c2:w0.cell? ⟨w.heap.size,2,none⟩=some (.int .u64 (x.u:Int)):=hx.cell 2;have d0:w0.cell? ⟨w.heap.size+1,0,none⟩=some (.int .i64 y.b):=hy.cell 0;have d1:w0.cell? ⟨w.heap.size+1,1,none⟩=some (.int .i64 y.s):=hy.cell 1;have d2:w0.cell? ⟨w.heap.size+1,2,none⟩=some (.int .u64 (y.u:Int)):=hy.cell 2;generalize Id.less x y=l1 at*;generalize Id.less y x=l2 at*
 cases l1
 ·
  cases l2
  ·
   have hz:Hid (0=v):=by show _=_;rw [hv.out];rfl
   clear hv;go_enter Tryz.func70,Tryz.ntmps70;go_wp2_with (fail);try rw [hw0]
   clear hw0;refine (k1.out _).mono ?_;rintro _ w1 ⟨rfl,g1⟩;have f1:=g1.fr;have h1:=hf.trans g1;replace c0:=f1.cell c0 zq;replace c1:=f1.cell c1 zq;replace c2:=f1.cell c2 zq;replace d0:=f1.cell d0 zq;replace d1:=f1.cell d1 zq;replace d2:=f1.cell d2 zq;clear g1 f1;go_wp2_with (fail);refine (k2.out _).mono ?_;rintro _ w2 ⟨rfl,g2⟩;have h2:=h1.trans g2;go_wp2_with (fail)
   go_ret
   exact ⟨congrArg (fun z=>Ending.returned (.int .i64 z)) hz.out,h2⟩
  ·
   have hz:Hid (1=v):=by show _=_;rw [hv.out];rfl
   clear hv;go_enter Tryz.func70,Tryz.ntmps70;go_wp2_with (fail);try rw [hw0]
   clear hw0;refine (k1.out _).mono ?_;rintro _ w1 ⟨rfl,g1⟩;have f1:=g1.fr;have h1:=hf.trans g1;replace c0:=f1.cell c0 zq;replace c1:=f1.cell c1 zq;replace c2:=f1.cell c2 zq;replace d0:=f1.cell d0 zq;replace d1:=f1.cell d1 zq;replace d2:=f1.cell d2 zq;clear g1 f1;go_wp2_with (fail);refine (k2.out _).mono ?_;rintro _ w2 ⟨rfl,g2⟩;have h2:=h1.trans g2;go_wp2_with (fail)
   go_ret
   exact ⟨congrArg (fun z=>Ending.returned (.int .i64 z)) hz.out,h2⟩
 ·
  have hz:Hid (-1=v):=by show _=_;rw [hv.out];rfl
  clear hv;go_enter Tryz.func70,Tryz.ntmps70;go_wp2_with (fail);try rw [hw0]
  clear hw0;refine (k1.out _).mono ?_;rintro _ w1 ⟨rfl,g1⟩;have h1:=hf.trans g1;go_wp2_with (fail)
  go_ret
  exact ⟨congrArg (fun z=>Ending.returned (.int .i64 z)) hz.out,h1⟩
theorem Ai9 (blk off size:Nat) (w:World):CmpLays Tryz.prog 70 #[] Id.cells 3 E6 blk off size w:=
 fun _ _ _ _ x y=>Ai8 x y _
theorem Aj0 (base:Nat) (A:Option Addr) (c:Nat) (xs:List Id) (w:World) (hown:Own w base 41 3 A xs.length c (xs.flatMap Id.cells)) (hlen:xs.length≤1000000):
  Calls Tryz.prog 69 #[.slice A xs.length c,.func (.func 70) #[] #[]] w fun e w'=>e=.returned (.tuple #[])∧
  ∃ys:List Id,ys.Perm xs∧ys.Pairwise (fun x y=>Id.less y x=false)∧Own w' base 41 3 A ys.length c (ys.flatMap Id.cells)∧Fr (fun k=>Ac A=some k) w w':=by
 by_cases h0:xs.length=0
 ·
  have hx:xs=[]:=Ao3 h0;subst hx;have hcon:=AnyF.slices_SortFunc_none Tryz.sortIdents A c (.func (.func 70) #[] #[]) w;refine Calls.mono hcon ?_;rintro e w' ⟨rfl,rfl⟩;exact ⟨rfl,[],List.Perm.refl _,List.Pairwise.nil,hown,Fr.refl _ _⟩
 ·
  obtain ⟨g,rfl⟩:∃g,A=some ⟨g,0,none⟩:=by
   rcases hown.2 with ⟨_,hn⟩|⟨g,cap,cur,hv,_⟩
   · exact absurd hn h0
   ·
    injection hv with hA _ _
    exact ⟨g,hA⟩
  have hrow:=hown.row g rfl;have eg:∀args w,(callFunc 70 args).run Tryz.prog w=.ok (.enter 70 args) w:=enters_of Tryz.func70 (by kernel_rfl) rfl;have hcon:=AnyQ.slices_SortFunc Tryz.sortIdents 3 Tryz.isAgg41 Tryz.sizeOf41 Id.cells (fun _=>rfl) (fun x v hv=>by simp [Id.cells] at hv;rcases hv with rfl|rfl|rfl<;>rfl) E6 Z0 70 #[] g 0 c xs.toArray w eg (Ai9 g 0 _ w) (Zy hown) hrow.2 (by simp;omega)
  refine Calls.mono hcon ?_;rintro e w' ⟨rfl,d',n,os,hp,hs,rfl⟩;have hds:d'.size=xs.length:=by rw [hp.1];simp
  have hperm:d'.toList.Perm xs:=by
   have h1:=hp.2.2
   have e1:d'.extract 0 xs.toArray.size=d':=by
    rw [show xs.toArray.size=d'.size from hp.1.symm];simp
   have e2:xs.toArray.extract 0 xs.toArray.size=xs.toArray:=by simp
   rw [e1,e2] at h1;simpa using h1
  refine ⟨rfl,d'.toList,hperm,?_,?_,?_⟩
  ·
   rw [Ao4];intro i j hi hj hij;have h1:=hs i j (An4 _) hij (by rw [← hp.1];simpa using hj);rw [Je] at h1;have hi':i<d'.size:=by simpa using hi
   have hj':j<d'.size:=by simpa using hj
   rw [getElem!_pos d' i hi',getElem!_pos d' j hj'] at h1;simpa using h1
  ·
   have h1:=Zz (ys:=d'.toList) n os hown (by omega) (by simpa using hds);simpa using h1
  · exact (Lt w g n _ os).mono (fun k hk e=>by have e':k=g:=e;subst e';rfl)
def Fm (x y:Int × Int):Int:=Be x.1 y.1
theorem Jp (x y:Int × Int):ltOf Fm x y=decide (x.1<y.1):=by
 unfold ltOf Fm Be;rw [Bool.eq_iff_iff,decide_eq_true_iff,decide_eq_true_iff]
 split
 · omega
 · split<;>omega
theorem Aj1:SWO (ltOf Fm) where
 irrefl x:=by rw [Jp];simp
 trans x y z h1 h2:=by
  rw [Jp,decide_eq_true_iff] at*;omega
 ntrans x y z h1 h2:=by
  rw [Jp,decide_eq_false_iff_not] at*;omega
theorem Aj2 (x y:Int × Int) (w:World):
  Calls Tryz.prog 37 #[.agg #[.int .i64 x.1,.int .i64 x.2],.agg #[.int .i64 y.1,.int .i64 y.2]] w fun e w'=>e=.returned (.int .i64 (Fm x y))∧GrowOf w w':=by
 have hf:=((GrowOf.refl w).alloc (.cells #[.int .i64 x.1,.int .i64 x.2] 36)).alloc (.cells #[.int .i64 y.1,.int .i64 y.2] 36);have hx:=(Blk.new w 36 #[.int .i64 x.1,.int .i64 x.2]).alloc (.cells #[.int .i64 y.1,.int .i64 y.2] 36);have hy:=Blk.new (w.alloc (.cells #[.int .i64 x.1,.int .i64 x.2] 36)) 36 #[.int .i64 y.1,.int .i64 y.2];rw [Am9] at hy;have c0:=hx.cell 0;have d0:=hy.cell 0;have hv:Hid (Fm x y=Be x.1 y.1):=rfl;generalize Fm x y=v at*;go_enter Tryz.func37,Tryz.ntmps37;go_wp2_with (go_at_call 38;(with_reducible refine (Kk _ _ _).mono ?_);rintro _ _ ⟨rfl,rfl⟩)
 go_ret
 exact ⟨by rw [hv.out];rfl,hf⟩
theorem Aj3 (blk off size:Nat) (w:World):CmpLays Tryz.prog 37 #[] Cn 2 Fm blk off size w:=
 fun _ _ _ _ x y=>Aj2 x y _
theorem Aj4 (base:Nat) (A:Option Addr) (c:Nat) (xs:List (Int × Int)) (w:World) (hown:Own w base 36 2 A xs.length c (xs.flatMap Cn)) (hlen:xs.length≤1000000):
  Calls Tryz.prog 36 #[.slice A xs.length c,.func (.func 37) #[] #[]] w fun e w'=>e=.returned (.tuple #[])∧
   ∃ys:List (Int × Int),ys.Perm xs∧ys.Pairwise (fun x y=>x.1≤y.1)∧Own w' base 36 2 A ys.length c (ys.flatMap Cn)∧Fr (fun k=>Ac A=some k) w w':=by
 by_cases h0:xs.length=0
 ·
  have hx:xs=[]:=Ao3 h0;subst hx;have hcon:=AnyF.slices_SortFunc_none Tryz.sortForks A c (.func (.func 37) #[] #[]) w;refine Calls.mono hcon ?_;rintro e w' ⟨rfl,rfl⟩;exact ⟨rfl,[],List.Perm.refl _,List.Pairwise.nil,hown,Fr.refl _ _⟩
 ·
  obtain ⟨g,rfl⟩:∃g,A=some ⟨g,0,none⟩:=by
   rcases hown.2 with ⟨_,hn⟩|⟨g,cap,cur,hv,_⟩
   · exact absurd hn h0
   ·
    injection hv with hA _ _
    exact ⟨g,hA⟩
  have hrow:=hown.row g rfl;have eg:∀args w,(callFunc 37 args).run Tryz.prog w=.ok (.enter 37 args) w:=enters_of Tryz.func37 (by kernel_rfl) rfl;have hcon:=AnyQ.slices_SortFunc Tryz.sortForks 2 Tryz.isAgg36 Tryz.sizeOf36 Cn (fun _=>rfl) (fun x v hv=>by simp [Cn] at hv;rcases hv with rfl|rfl<;>rfl) Fm Aj1 37 #[] g 0 c xs.toArray w eg (Aj3 g 0 _ w) (Rt (enc:=Cn) (fun _=>rfl) (by decide) hown) hrow.2 (by simp;omega)
  refine Calls.mono hcon ?_;rintro e w' ⟨rfl,d',n,os,hp,hs,rfl⟩;have hds:d'.size=xs.length:=by rw [hp.1];simp
  have hperm:d'.toList.Perm xs:=by
   have h1:=hp.2.2
   have e1:d'.extract 0 xs.toArray.size=d':=by
    rw [show xs.toArray.size=d'.size from hp.1.symm];simp
   have e2:xs.toArray.extract 0 xs.toArray.size=xs.toArray:=by simp
   rw [e1,e2] at h1;simpa using h1
  refine ⟨rfl,d'.toList,hperm,?_,?_,?_⟩
  ·
   rw [Ao4];intro i j hi hj hij;have h1:=hs i j (An4 _) hij (by rw [← hp.1];simpa using hj);rw [Jp] at h1;have hi':i<d'.size:=by simpa using hi
   have hj':j<d'.size:=by simpa using hj
   rw [getElem!_pos d' i hi',getElem!_pos d' j hj',decide_eq_false_iff_not] at h1;have h2:d'.toList[i]=d'[i]:=by simp
   have h3:d'.toList[j]=d'[j]:=by simp
   rw [h2,h3];omega
  ·
   have h1:=Ru (enc:=Cn) (sz:=2) (fun _=>rfl) (by decide) (ys:=d'.toList) n os hown (by omega) (by simpa using hds);simpa using h1
  · exact (Lt w g n _ os).mono (fun k hk e=>by have e':k=g:=e;subst e';rfl)
end Oq
end
section
open Go.RowKit Go.Maps
attribute [local go_sem ↓] Go.wp_at_zero Go.wp_at_succ
namespace Oq
attribute [local go_sem] Bool.not_false Bool.not_true
theorem Sv (p v:Value):Instr.storeAt 41 p v=stS 41 p v:=rfl
theorem Sw (p v:Value):Instr.storeAt 36 p v=stS 36 p v:=rfl
attribute [local go_sem ↓] Sv Sw
theorem Jq:(Tryz.prog.info? 41).map (·.size)=some 3:=by kernel_rfl
theorem Mv:(Tryz.prog.info? 36).map (·.size)=some 2:=by kernel_rfl
theorem Mw (a b:Int) (u:Nat):(#[.int .i64 a,.int .i64 b,.int .u64 (u:Int)]:Array Value).all (·.oneCell')=true:=by simp [Value.oneCell']
theorem Mx (a b:Int):(#[.int .i64 a,.int .i64 b]:Array Value).all (·.oneCell')=true:=by simp [Value.oneCell']
theorem slFk:SlT Tryz.prog 33 36 (.agg #[.int .i64 0,.int .i64 0]) 2 16:=⟨Tryz.underlying33,by kernel_rfl,rfl,by decide⟩
theorem Sx (base:Nat) (A:Option Addr) (c:Nat) (xs:List Id) (w:World) (hown:Own w base 41 3 A xs.length c (xs.flatMap Id.cells)) (hlen:xs.length≤1000000):
  Calls Tryz.prog 40 #[.slice A xs.length c] w fun e w'=>e=.returned (.slice A xs.length c)∧Own w' base 41 3 A xs.length c ((An xs).flatMap Id.cells)∧Fr (fun k=>Ac A=some k) w w':=by
 have k:=Lib.hid (Aj0 base A c xs w hown hlen);have hs:Hid (∀ys:List Id,ys.Perm xs→ys.Pairwise (fun x y=>Id.less y x=false)→ys=An xs):=fun ys h1 h2=>Ic h2 h1;have hl:Hid ((An xs).length=xs.length):=(Br xs).length_eq;generalize An xs=S at*;generalize xs.length=n at*;clear hown;go_enter Tryz.func40,Tryz.ntmps40;go_wp2_with (go_at_call 69;(with_reducible refine (k.out).mono ?_);rintro _ w1 ⟨rfl,ys,h1,h2,h3,h4⟩);have hy:=Lib.hid (hs.out ys h1 h2);rw [hy.out,hl.out] at h3
 go_ret
 exact ⟨rfl,h3,h4⟩
def En (ids:List Id) (d m n:Int) (k:Nat):List Id:=(ids.take k).filter (fun x=>x.b==d&&decide (m≤x.s)&&decide (x.s≤n))
theorem Aj5 {ids:List Id} {k:Nat} {x:Id} (h:ids[k]? =some x) (d m n:Int):En ids d m n (k+1)=En ids d m n k++(if (x.b==d&&decide (m≤x.s)&&decide (x.s≤n))=true then [x] else []):=by
 unfold En;rw [Cx h,List.filter_append];congr 1
 by_cases hc:(x.b==d&&decide (m≤x.s)&&decide (x.s≤n))=true
 · rw [List.filter_cons_of_pos (p:=fun x:Id=>x.b==d&&decide (m≤x.s)&&decide (x.s≤n)) hc,if_pos hc];rfl
 · rw [List.filter_cons_of_neg (p:=fun x:Id=>x.b==d&&decide (m≤x.s)&&decide (x.s≤n)) hc,if_neg hc];rfl
theorem Sy (B n c:Nat) (A:Option Addr) (ids:List Id) (d m l:Int) (w:World) (hn:Hid (ids.length=n)) (hr:Rd w B 3 A n (ids.flatMap Id.cells)) (hnm:n≤1000):
  Calls Tryz.prog 39 #[.slice A n c,.int .i64 d,.int .i64 m,.int .i64 l] w (Eb (ofK ids d m l) w):=by
 have ao:Hid (∀k x,ids[k]? =some x→En ids d m l (k+1)=En ids d m l k++(if (x.b==d&&decide (m≤x.s)&&decide (x.s≤l))=true then [x] else [])):=fun k x hx=>Aj5 hx d m l;have ar:Hid (∀k,(En ids d m l k).length≤k):=fun k=>Am8 (Ao5 _ _) (by rw [Ao6];omega);have ap:Hid (An (En ids d m l n)=ofK ids d m l):=by show _=_;rw [← hn.out];unfold En ofK;rw [Ao2]
 have aw:Hid (En ids d m l 0=[]):=rfl;generalize ofK ids d m l=VA at*;generalize En ids d m l=VT at*;go_enter Tryz.func39,Tryz.ntmps39;go_wp2
 go_loopw [9,14] (fun s v wr=>∃(k:Nat) (Ax:Option Addr) (cx:Nat) (xs:List Id),v=.int .i64 (k:Int)∧s=.slice Ax xs.length cx∧k≤n∧Hid (xs=VT k)∧Own wr w.heap.size 41 3 Ax xs.length cx (xs.flatMap Id.cells)∧Fr Non w wr) (fun _ v _=>n-(intOf v).toNat)
 case atStart=>exact ⟨0,none,0,[],rfl,rfl,by omega,aw.out.symm,Own.nil _ _ _ _,Fr.refl _ _⟩
 case round=>
  obtain ⟨k,Ax,cx,xs,rfl,rfl,hk,ai,aa,hf⟩:=hrel;have a0:xs.length≤k:=by rw [ai.out];exact ar.out k
  by_cases hlt:k<n
  ·
   obtain ⟨y,hy⟩:∃y,ids[k]? =some y:=⟨_,An1 (by rw [hn.out];exact hlt)⟩;obtain ⟨b,ay,rfl,az,k0,k1,k2⟩:=Id.at (hr.fr hf zr) hy;have i1:(0:Int)≤k:=by omega
   have i2:(k:Int)<n:=by omega
   have i3:(k:Int).toNat=k:=by omega
   have ab:=ao.out k y hy;rw [← ai.out] at ab;have aj:=Bb (P:=Tryz.prog) wr.heap.size 41 (cs:=y.V) Jq (old:=#[.int .i64 0,.int .i64 0,.int .u64 0]) rfl (Mw _ _ _);have bn:=Blk.new wr 41 #[.int .i64 0,.int .i64 0,.int .u64 0];clear ao hy;go_upto_region 5 with (fail)
   have bz:=bn.setRow (cs:=y.V);have fz:Fr Non wr ((wr.alloc (.cells #[.int .i64 0,.int .i64 0,.int .u64 0] 41)).setRow wr.heap.size y.V):=((Fr.refl Non wr).alloc _).setRow (fun hh=>absurd hh (by omega)) _;have ac:=aa.fr fz zr;have ad:=ac.row;have ae:=hf.trans fz zr;obtain ⟨gi,ax⟩:=Ab wr.heap.size;rw [ax.out] at bz ac ad ae ⊢;clear aj bn fz aa k0 k1 k2 hf;generalize (wr.alloc (.cells #[.int .i64 0,.int .i64 0,.int .u64 0] 41)).setRow gi y.V=w1 at*;have j0:=bz.cell 0;have j1:=bz.cell 1;have j2:=bz.cell 2;clear bz;obtain ⟨TT,al⟩:=Ab (y.b==d&&decide (m≤y.s)&&decide (y.s≤l));rw [al.out] at ab
   go_cut [33] from 18 to 33 (fun s wc=>w1=wc∧s=.bool TT)
   case first=>
    have hT:=al.out
    rcases zb (y.b==d) with t1|t1
    ·
     rcases zb (decide (m≤y.s)) with t2|t2
     ·
      have aq:decide (y.s≥m)=true:=t2
      rcases zb (decide (y.s≤l)) with t3|t3
      all_goals
       rw [t1,t2,t3] at hT;go_wp2_with (fail);go_meet;exact ⟨rfl,by rw [← hT];rfl⟩
     ·
      have aq:decide (y.s≥m)=false:=t2;rw [t1,t2] at hT;go_wp2_with (fail);go_meet;exact ⟨rfl,by rw [← hT];rfl⟩
    ·
     rw [t1] at hT;go_wp2_with (fail);go_meet;exact ⟨rfl,by rw [← hT];rfl⟩
   case rest=>
   obtain ⟨rfl,rfl⟩:=hcut
   cases TT
   ·
    rw [if_neg Bool.false_ne_true,List.append_nil] at ab;replace ab:=Lib.hid ab;go_wp2_with (fail);go_roundw
    case rel=>exact ⟨k+1,Ax,cx,xs,by go_num,rfl,by omega,ab.out.symm,ac,ae⟩
    case measure=>simp [intOf];omega
   ·
    rw [if_pos rfl] at ab;replace ab:=Lib.hid ab;have bF:=Blk.new w1 41 y.V;have a1:=ae.size
    go_wp2_with (first
     |(at_builtin;go_loud (refine Az (base:=w.heap.size) (.tmp 34) (.tmp 36) 25 rfl rfl rfl rfl Cp (ac.alloc (.cells y.V 41)) (Rd.blk (n:=1) (size:=3) bF rfl) (by simp [Value.oneCell']) (by omega) (by omega) (by rw [Am9];omega) ?_);intro A8 c8 w8 ag au av))
    have f8:Fr Non w w8:=(ae.alloc (.cells y.V 41)).trans au (fun j hj e=>by have:=(ad j e).1;omega)
    have af:Own w8 w.heap.size 41 3 A8 (xs++[y]).length c8 ((xs++[y]).flatMap Id.cells):=by
     rw [An0,An8];exact ag
    go_roundw
    case rel=>exact ⟨k+1,A8,c8,xs++[y],by go_num,by rw [An0];rfl,by omega,ab.out.symm,af,f8⟩
    case measure=>simp [intOf];omega
  ·
   obtain rfl:k=n:=by omega
   have ad:=aa.row;have ks:=Lib.hid (Sx w.heap.size Ax cx xs wr aa (by omega));have ah:An xs=VA:=by rw [ai.out,ap.out]
   have ak:Hid (xs.length=VA.length):=by show _=_;rw [← ah,(Br xs).length_eq]
   rw [ah] at ks;unfold Eb;clear aa ah;generalize xs.length=L at*;go_wp2_with (go_at_call 40;(with_reducible refine (ks.out).mono ?_);rintro _ w9 ⟨rfl,o9,f9⟩)
   go_ret
   exact ⟨Ax,cx,by rw [← ak.out];rfl,by rw [← ak.out];exact o9,hf.trans f9 (fun j hj e=>by have:=(ad j e).1;omega)⟩
def Hr (fs:List (Int × Int)) (w:World) (e:Ending) (w':World):Prop:=∃A c,e=.returned (.slice A fs.length c)∧Own w' w.heap.size 36 2 A fs.length c (fs.flatMap Cn)∧Fr Non w w'
def Cs (ids:List Id):Prop:=∀x∈ids,x.ok∧(1≤x.b∧x.b≤12)∧(1≤x.s∧x.s≤1000000)
def RF (f:Int→Option Int) (left:Lit→Bool) (xs:List (Int × Int)):Prop:=(xs.map Prod.fst).Nodup∧∀d i,(d,i)∈xs↔(f d=some i∧left (.int .i64 d)=false)
theorem RF.start {f:Int→Option Int} {left:Lit→Bool} (h:∀d,(f d).isSome=left (.int .i64 d)):RF f left []:=
 ⟨List.nodup_nil,fun d i=>⟨fun h=>absurd h An6,fun ⟨h1,h2⟩=>by rw [← h d,h1] at h2;cases h2⟩⟩
theorem RF.step {f:Int→Option Int} {left:Lit→Bool} {xs:List (Int × Int)} (h:RF f left xs) {x c:Int} (hx:f x=some c) (hl:left (.int .i64 x)=true):RF f (fun z=>left z&& !z.sameKey (.int .i64 x)) (xs++[(x,c)]):=by
 have hs:∀d:Int,(Lit.int .i64 d).sameKey (.int .i64 x)=decide (d=x):=by
  intro d
  by_cases e:d=x
  ·
   subst e;rw [decide_eq_true rfl];exact WideAt.sameKey_self (by simp [WideAt.IsKeyLit])
  ·
   rw [decide_eq_false e];exact sameKey_ne (fun e2=>e (by injection e2))
 refine ⟨?_,fun d i=> ?_⟩
 ·
  rw [List.map_append];refine List.nodup_append.2 ⟨h.1,by simp,fun a ha b hb=> ?_⟩;obtain rfl:=List.mem_singleton.1 (show b∈[x] from hb);rintro rfl;obtain ⟨⟨d,i⟩,h1,rfl⟩:=List.mem_map.1 ha;have:=((h.2 d i).1 h1).2;rw [hl] at this
  cases this
 ·
  rw [List.mem_append,h.2 d i];dsimp only;rw [hs d]
  by_cases e:d=x
  ·
   subst e;rw [hl,decide_eq_true rfl];constructor
   ·
    rintro (⟨_,h2⟩|h2)
    · cases h2
    ·
     have:=List.mem_singleton.1 h2;injection this with _ e2
     subst e2;exact ⟨hx,rfl⟩
   ·
    rintro ⟨h1,_⟩;rw [hx] at h1;injection h1 with h1
    subst h1;exact .inr (List.mem_singleton.2 rfl)
  ·
   rw [decide_eq_false e];constructor
   ·
    rintro (⟨h1,h2⟩|h2)
    · exact ⟨h1,by rw [h2];rfl⟩
    ·
     have:=List.mem_singleton.1 h2;injection this with e2 _
     exact absurd e2 e
   ·
    rintro ⟨h1,h2⟩;exact .inl ⟨h1,by simpa using h2⟩
theorem RF.done {f:Int→Option Int} {left:Lit→Bool} {xs:List (Int × Int)} (h:RF f left xs) (hl:∀kl,left kl=false):∀d i,(d,i)∈xs↔f d=some i:=fun d i=>by
 rw [h.2 d i,hl];exact ⟨fun h=>h.1,fun h=>⟨h,rfl⟩⟩
theorem RF.few {f:Int→Option Int} {left:Lit→Bool} {xs:List (Int × Int)} (h:RF f left xs) (hd:∀d i,f d=some i→1≤d∧d≤12):xs.length≤12:=by
 have hs:∀d∈xs.map Prod.fst,d∈(List.range 12).map (fun (i:Nat)=>(i:Int)+1):=by
  intro d hm;obtain ⟨⟨d',i⟩,h1,rfl⟩:=List.mem_map.1 hm;have h2:=hd d' i ((h.2 d' i).1 h1).1;exact List.mem_map.2 ⟨(d'-1).toNat,List.mem_range.2 (by omega),by omega⟩
 have:=Fy h.1 hs;simpa using this
theorem Aj6 {ids:List Id} (h:Cs ids):∀(k:Nat) (d i:Int),Bp ids k d=some i→1≤d∧d≤12∧1≤i∧i≤1000000:=by
 intro k
 induction k with
 |zero=>intro d i h;cases h
 |succ k ih=>
  intro d i h1
  cases hx:ids[k]? with
  |none=>
   unfold Bp at h1;rw [hx] at h1;exact ih d i h1
  |some x=>
   rw [Mj hx] at h1
   split at h1
   ·
    rename_i hc;injection h1 with h1
    have:=h x (An2 hx);rw [← hc.1,← h1];exact ⟨this.2.1.1,this.2.1.2,this.2.2.1,this.2.2.2⟩
   · exact ih d i h1
theorem Aj7 {H:Type} {S:Nat→Prop} {P:Program} {kt:TypeId} {R:Value→Option (DataW H × List MemPlace)} {w w':World} {b r n:Nat} {D:DataW H} {left:Lit→Bool} {cnt:Nat} (h:w.ranges P kt R b r n D left cnt) (hf:Fr S w w') (hb:¬S b) (hr:¬S r):w'.ranges P kt R b r n D left cnt:=by
 obtain ⟨es,clock,since,seen,c0,h1,q,hs,hD,h2,rest⟩:=h;exact ⟨es,clock,since,seen,c0,(hf.block b (Array.getElem?_eq_some_iff.1 h1).1 hb).trans h1,q,hs,hD,(hf.block r (Array.getElem?_eq_some_iff.1 h2).1 hr).trans h2,rest⟩
def Jr (b:Nat) (key v:Value) (w:World):Prop:=(Instr.lookup 84 (.map (some b)) key false).run Tryz.prog w=.ok v w
theorem Gt (B n c:Nat) (A:Option Addr) (ids:List Id) (gv:Value) (w:World) (hn:Hid (ids.length=n)) (hr:Rd w B 3 A n (ids.flatMap Id.cells)) (hnm:n≤1000) (hok:Cs ids):
  Calls Tryz.prog 12 #[gv,.slice A n c] w (Hr (Aq ids) w):=by
 have ay:Hid (∀k x,ids[k]? =some x→∀f:Int × Int,Am (ids.take (k+1)) f.1 f.2=if f=(x.b,x.s) then Am (ids.take k) x.b x.s+1 else Am (ids.take k) f.1 f.2):=by
  intro k x hx f;rw [Mi hx]
  by_cases e:f=(x.b,x.s)
  ·
   subst e;rw [if_pos rfl,if_pos (by simp)]
  ·
   rw [if_neg e,if_neg (fun hc=>e (by rw [Bool.and_eq_true,beq_iff_eq,beq_iff_eq] at hc;exact Prod.ext hc.1.symm hc.2.symm))];rfl
 have a5:Hid (∀k d s,Am (ids.take k) d s≤k):=fun k d s=>Sd ids k d s;have ba:Hid (∀k x,ids[k]? =some x→∀d,Bp ids (k+1) d=if x.b=d∧1<Am (ids.take (k+1)) x.b x.s∧(Bp ids k d=none∨x.s<(Bp ids k d).getD 0) then some x.s else Bp ids k d):=fun k x hx d=>Mj hx d;have b9:=Lib.hid (Aj6 hok)
 have aq:Hid (∀xs ys:List (Int × Int),(xs.map Prod.fst).Nodup→(∀d i,(d,i)∈xs↔Bp ids n d=some i)→ys.Perm xs→ys.Pairwise (fun a b=>a.1≤b.1)→ys=Aq ids):=by
  intro xs ys h1 h2 h3 h4;rw [← hn.out] at h2;exact Af5 (fun x hx=>by have:=(hok x hx).2.2.1;omega) (fun x hx=>(hok x hx).2.1) h1 h2 h3 h4
 have bh:Hid (∀f:Int × Int,Am (ids.take 0) f.1 f.2=0):=fun f=>rfl;have a7:Hid (∀d,Bp ids 0 d=none):=fun d=>rfl;replace hok:=Lib.hid hok;unfold Hr;generalize Aq ids=FA at*;generalize Bp ids=LT at*;generalize hMT:(fun (k:Nat) (d s:Int)=>Am (ids.take k) d s)=MT at*;have ax:∀(k:Nat) (d s:Int),Am (ids.take k) d s=MT k d s:=fun k d s=>by rw [← hMT]
 simp only [ax] at ay a5 ba bh;clear hMT ax;have b7:=ManyAt.made w;have ap:=LeastAt.made (w.alloc (.map #[] 0));have dm:=@run_makeMap Tryz.prog;go_enter Tryz.func12,Tryz.ntmps12;go_upto_region 3 with (fail)
 have f0:Fr Non w ((w.alloc (.map #[] 0)).alloc (.map #[] 0)):=((Fr.refl Non w).alloc _).alloc _;have a6:ManyAt ((w.alloc (.map #[] 0)).alloc (.map #[] 0)) w.heap.size 0 (fun _=>0):=b7.fr ((Fr.refl Non _).alloc (.map #[] 0)) zq;rw [Am9] at ap;have dl:((w.alloc (.map #[] 0)).alloc (.map #[] 0)).heap.size=w.heap.size+2:=by rw [Am9,Am9]
 try rw [Am9]
 clear b7;generalize (w.alloc (.map #[] 0)).alloc (.map #[] 0)=w0 at*;replace a6:ManyAt w0 w.heap.size 0 (fun f=>MT 0 f.1 f.2):=a6.congr (fun f _=>bh.out f);replace ap:LeastAt w0 (w.heap.size+1) 0 (LT 0):=ap.congr a7.out;go_wp2_with (fail)
 go_loopw [19] (fun v wr=>∃(k m1 m2:Nat),v=.int .i64 (k:Int)∧k≤n∧m1≤k∧m2≤k∧Hid (ManyAt wr w.heap.size m1 (fun f=>MT k f.1 f.2))∧Hid (LeastAt wr (w.heap.size+1) m2 (LT k))∧Fr Non w wr∧w.heap.size+2≤wr.heap.size) (fun v _=>n-(intOf v).toNat)
 case atStart=>exact ⟨0,0,0,rfl,An4 _,An7 _,An7 _,a6,ap,f0,by omega⟩
 case round=>
  clear a6 ap f0 dl bh a7;obtain ⟨k,m1,m2,rfl,hk,dq,dv,hM,hL,hf,b8⟩:=hrel
  by_cases hlt:k<n
  ·
   obtain ⟨y,hy⟩:∃y,ids[k]? =some y:=⟨_,An1 (by rw [hn.out];exact hlt)⟩;obtain ⟨a4,yb,ys⟩:=hok.out y (An2 hy);obtain ⟨b,dr,rfl,d1,k0,k1,k2⟩:=Id.at (hr.fr hf zr) hy;have i1:(0:Int)≤k:=by omega
   have i2:(k:Int)<n:=by omega
   have i3:(k:Int).toNat=k:=by omega
   have bo:=Lib.hid (ay.out k y hy);have aw:=Lib.hid (ba.out k y hy);have dj:MT (k+1) y.b y.s=MT k y.b y.s+1:=by have:=ay.out k y hy (y.b,y.s);rwa [if_pos rfl] at this
   have c1:=a5.out k y.b y.s;have bt:=Bb (P:=Tryz.prog) wr.heap.size 41 (cs:=y.V) Jq (old:=#[.int .i64 0,.int .i64 0,.int .u64 0]) rfl (Mw _ _ _);have bn:=Blk.new wr 41 #[.int .i64 0,.int .i64 0,.int .u64 0];clear ay ba a5 hy;go_upto_region 6 with (fail)
   have bz:=bn.setRow (cs:=y.V);have fz:Fr Non wr ((wr.alloc (.cells #[.int .i64 0,.int .i64 0,.int .u64 0] 41)).setRow wr.heap.size y.V):=((Fr.refl Non wr).alloc _).setRow (fun hh=>absurd hh (by omega)) _;obtain ⟨gi,cp⟩:=Ab wr.heap.size;rw [cp.out] at bz fz ⊢;clear bt bn k0 k1 k2;generalize (wr.alloc (.cells #[.int .i64 0,.int .i64 0,.int .u64 0] 41)).setRow gi y.V=w1 at*;have a0:=bz.cell 0;have a1:=bz.cell 1;have bd:=Bb (P:=Tryz.prog) w1.heap.size 36 (cs:=#[.int .i64 y.b,.int .i64 y.s]) Mv (old:=#[.int .i64 0,.int .i64 0]) rfl (Mx _ _);have bn:=Blk.new w1 36 #[.int .i64 0,.int .i64 0];go_upto_region 7 with (fail)
   have bf:=bn.setRow (cs:=#[.int .i64 y.b,.int .i64 y.s]);have fy:Fr Non w1 ((w1.alloc (.cells #[.int .i64 0,.int .i64 0] 36)).setRow w1.heap.size #[.int .i64 y.b,.int .i64 y.s]):=((Fr.refl Non w1).alloc _).setRow (fun hh=>absurd hh (by omega)) _;have cr:=fz.size;obtain ⟨gf,c5⟩:=Ab w1.heap.size;rw [c5.out] at bf fy cr ⊢;clear bd bn a0 a1;have a9:=bz.fr fy zq;have bj:=fz.trans fy zr;have cf:=hM.out.fr bj zq;have ck:Hid (LeastAt _ _ _ _):=hL.out.fr bj zq;have bv:=hf.trans bj zr;have d2:=bv.size;have dn:=fy.size;have c0:w.heap.size+2≤gi:=by rw [← cp.out];exact b8
   clear hM hL bz fz fy hf;generalize (w1.alloc (.cells #[.int .i64 0,.int .i64 0] 36)).setRow gf #[.int .i64 y.b,.int .i64 y.s]=w2 at*;have cq:=a9.cell 0;have de:=a9.cell 1;have cm:=bf.cell 0;have b6:=bf.cell 1;have b4:okF (y.b,y.s):=⟨a4.1,a4.2.1⟩;have b0:ManyAt w2.drew w.heap.size m1 (fun f=>MT k f.1 f.2):=cf;have ad:=b0.look b4;obtain ⟨st,w3,be,a8,blk,w4,bs,au,ce⟩:=b0.bump b4 (by show MT k y.b y.s≤1000;omega) (by omega);obtain ⟨C,hC⟩:=Ab (MT k y.b y.s);have d3:C≤k:=by rw [← hC.out];exact c1
   have bm:Hid (MT (k+1) y.b y.s=C+1):=by show _=_;rw [dj,hC.out]
   change (Instr.mapEntry 84 (.map (some w.heap.size)) (.agg #[.int .i64 y.b,.int .i64 y.s])).run Tryz.prog w2.drew=.ok (.tuple #[.int .i64 (MT k y.b y.s:Int),.int .i64 st]) w3 at be;change (Instr.lookup 84 (.map (some w.heap.size)) (.agg #[.int .i64 y.b,.int .i64 y.s]) false).run Tryz.prog w2.drew=.ok (.int .i64 (MT k y.b y.s:Int)) w2.drew at ad;change (Instr.lookup 84 (.map (some w.heap.size)) (.agg #[.int .i64 y.b,.int .i64 y.s]) false).run Tryz.prog w3=.ok (.int .i64 (MT k y.b y.s:Int)) w3 at blk;change (Instr.entryStore 84 (.map (some w.heap.size)) (.int .i64 st) (.int .i64 ((MT k y.b y.s:Int)+1))).run Tryz.prog w3=.ok () w4 at bs;rw [hC.out] at be ad blk bs;have af:ManyAt w4 w.heap.size (m1+1) (fun f=>MT (k+1) f.1 f.2):=ce.congr (fun f _=>bo.out f);have e1:IntKind.i64.wrap ((C:Int)+1)=(C:Int)+1:=IntWalk.i64_in _ (by omega);have df:∀w',Jr w.heap.size (.agg #[.int .i64 y.b,.int .i64 y.s]) (.int .i64 (C:Int)) w'→(Instr.lookup 84 (.map (some w.heap.size)) (.agg #[.int .i64 y.b,.int .i64 y.s]) false).run Tryz.prog w'=.ok (.int .i64 (C:Int)) w':=fun _ h=>h;have P0:w2.drew.cell? ⟨gf,0,none⟩=some (.int .i64 y.b):=cm;have R0:w2.drew.cell? ⟨gf,1,none⟩=some (.int .i64 y.s):=b6;have K0:Jr w.heap.size (.agg #[.int .i64 y.b,.int .i64 y.s]) (.int .i64 (C:Int)) w2.drew:=ad;have ai:w.heap.size≠gf:=fun e=>by omega
   have P1:=a8.cell P0 (fun e=>ai e.symm);have R1:=a8.cell R0 (fun e=>ai e.symm);have K1:Jr w.heap.size (.agg #[.int .i64 y.b,.int .i64 y.s]) (.int .i64 (C:Int)) w3:=blk;refine C6 (S:=fun w'=>w'.cell? ⟨gf,0,none⟩=some (.int .i64 y.b)∧w'.cell? ⟨gf,1,none⟩=some (.int .i64 y.s)∧Jr w.heap.size (.agg #[.int .i64 y.b,.int .i64 y.s]) (.int .i64 (C:Int)) w') 6 (by kernel_rfl) ?_;refine tkG 0 ⟨P0,R0,K0⟩ (h:=tkG 1 ⟨P0,R0,K0⟩ (h:=tkG 2 ⟨P0,R0,K0⟩ (h:=tkG 3 ⟨P0,R0,K0⟩ (h:=?_))));simp only [List.set];refine Bn 4 (by kernel_rfl) rfl (fun K hK=> ?_);go_simp;refine hK.out _ _ ⟨P1,R1,K1⟩ (fun hZ=> ?_);clear hZ hK K;try simp only [Aj,List.set]
   refine tkG 5 ⟨P1,R1,K1⟩ (h:=?_);simp only [List.set];refine Cy (by kernel_rfl) ?_;refine oG 6 (fun K hK=> ?_);go_simp;refine hK.out _ _ trivial (fun hZ=> ?_);clear hZ hK K;try simp only [Aj,List.set]
   refine oD ?_;go_simp;have ff:Fr (One w.heap.size) w2 w4:=((Fr.refl (One w.heap.size) w2).drew.trans a8 zr).trans au zr;have cj:=a9.fr ff (fun e=>by have e':gi=w.heap.size:=e;omega);have ca:=bf.fr ff (fun e=>ai.symm e);have al:=ck.out.fr ff (fun e=>by have e':w.heap.size+1=w.heap.size:=e;omega);have bq:Fr Non w w4:=bv.trans ff (fun j hj e=>by have e':j=w.heap.size:=e;omega);have bw:w.heap.size+2≤w4.heap.size:=by have:=ff.size;have:=bf.lt;omega
   have ah:=af.look b4;change (Instr.lookup 84 (.map (some w.heap.size)) (.agg #[.int .i64 y.b,.int .i64 y.s]) false).run Tryz.prog w4=.ok (.int .i64 (MT (k+1) y.b y.s:Int)) w4 at ah;rw [bm.out] at ah;have c6:((C+1:Nat):Int)=(C:Int)+1:=by omega
   rw [c6] at ah;have ds:=ca.cell 0;have dx:=ca.cell 1;have d0:=cj.cell 0;have dy:=cj.cell 1;clear be bs blk ad K0 K1 P0 P1 R0 R1 b0 cf ce ck a9 bf cm b6 cq de a8 au df bv
   by_cases h2:C+1<2
   ·
    have t1:decide ((C:Int)+1<2)=true:=decide_eq_true (by omega);have ak:Hid (LeastAt w4 (w.heap.size+1) m2 (LT (k+1))):=al.congr (fun d=>by rw [aw.out d,if_neg (fun h=>by have:=h.2.1;rw [bm.out] at this;omega)]);replace af:=Lib.hid af;go_wp2_with (fail);go_roundw
    case rel=>exact ⟨k+1,m1+1,m2,by go_num,by omega,by omega,by omega,af.out,ak.out,bq,bw⟩
    case measure=>simp [intOf];omega
   ·
    have t1:decide ((C:Int)+1<2)=false:=decide_eq_false (by omega);have cn:=al.look a4.1;obtain ⟨O,hO⟩:=Ab (LT k y.b);rw [hO.out] at cn;replace af:=Lib.hid af
    have aa:Hid (∀d,LT (k+1) d=if y.b=d∧(O=none∨y.s<O.getD 0) then some y.s else LT k d):=by
     intro d;rw [aw.out d]
     by_cases e:y.b=d
     ·
      subst e;rw [hO.out]
      by_cases hc:O=none∨y.s<O.getD 0
      · rw [if_pos ⟨rfl,by rw [bm.out];omega,hc⟩,if_pos ⟨rfl,hc⟩]
      · rw [if_neg (fun h=>hc h.2.2),if_neg (fun h=>hc h.2)]
     · rw [if_neg (fun h=>e h.1),if_neg (fun h=>e h.1)]
    by_cases hc:O=none∨y.s<O.getD 0
    ·
     obtain ⟨w5,dd,ak,bu⟩:=al.store (x:=y.b) (i:=y.s) a4.1 a4.2.1 (by omega)
     have dh:Hid (LeastAt w5 (w.heap.size+1) (m2+1) (LT (k+1))):=ak.congr (fun d=>by
      rw [aa.out d]
      by_cases e:d=y.b
      · rw [if_pos e,if_pos ⟨e.symm,hc⟩]
      · rw [if_neg e,if_neg (fun h=>e h.1.symm)])
     have dk:Hid (ManyAt w5 w.heap.size (m1+1) (fun f=>MT (k+1) f.1 f.2)):=af.out.fr bu (fun e=>by have e':w.heap.size=w.heap.size+1:=e;omega);have b1:Fr Non w w5:=bq.trans bu (fun j hj e=>by have e':j=w.heap.size+1:=e;omega);have b3:w.heap.size+2≤w5.heap.size:=Am8 bw bu.size
     have tt:(O.isSome=false)∨(O.isSome=true∧decide (y.s<O.getD 0)=true):=by
      cases O with
      |none=>exact .inl rfl
      |some o=>exact .inr ⟨rfl,decide_eq_true (hc.resolve_left (by simp))⟩
     generalize O.isSome=OB at*;generalize O.getD 0=OV at*;clear ak aa hc al
     rcases tt with rfl|⟨rfl,t3⟩
     all_goals
      go_wp2_with (fail);go_roundw
      case rel=>exact ⟨k+1,m1+1,m2+1,by go_num,by omega,by omega,by omega,dk.out,dh.out,b1,b3⟩
      case measure=>simp [intOf];omega
    ·
     have ak:Hid (LeastAt w4 (w.heap.size+1) m2 (LT (k+1))):=al.congr (fun d=>by rw [aa.out d,if_neg (fun h=>hc h.2)])
     have tt:O.isSome=true∧decide (y.s<O.getD 0)=false:=by
      cases O with
      |none=>exact absurd (.inl rfl) hc
      |some o=>exact ⟨rfl,decide_eq_false (fun h=>hc (.inr h))⟩
     obtain ⟨t2,t3⟩:=tt;rw [t2] at cn;generalize O.getD 0=OV at*;clear aa hc al;go_wp2_with (fail);go_roundw
     case rel=>exact ⟨k+1,m1+1,m2,by go_num,by omega,by omega,by omega,af.out,ak.out,bq,bw⟩
     case measure=>simp [intOf];omega
  ·
   obtain rfl:k=n:=by omega
   have t0:decide ((k:Int)<(k:Int))=false:=decide_eq_false (by omega);obtain ⟨nD,D,ho,dp,dt,ac⟩:=hL.out;have a2:=Lib.hid (fun d i h=>(b9.out k d i h));clear ay a5 ba hM hL hr hok b9;generalize wr=wq at*;clear wr
   go_wp2_with (first
    |(at_range;refine wpList_range_own _ rfl _ _ rfl 3 3 (int_keyed Tryz.underlying3) Tryz.underlying85 (plainElem Tryz.prog 3) (w.heap.size+1) nD D rfl ho ?_;intro w5 aj ch cl)
    |go_in)
   have f5:Fr Non wq w5:=(Fr.refl Non wq).grown ch (fun _ hk _=>by cases hk);obtain ⟨gr,a3⟩:=Ab wq.heap.size;rw [a3.out] at aj cl ⊢;have dg:w.heap.size+2≤gr:=by rw [← a3.out];exact b8
   have b1:=hf.trans f5 zr;have c3:gr+1≤w5.heap.size:=by omega
   clear ch ho f5 hf cl
   go_frame
   go_loopw [12] (fun s wr=>∃(ae:Lit→Bool) (bb:Nat) (Ax:Option Addr) (cx:Nat) (xs:List (Int × Int)),s=.slice Ax xs.length cx∧wr.ranges Tryz.prog 3 (plainElem Tryz.prog 3) (w.heap.size+1) gr nD D ae bb∧Hid (RF (LT k) ae xs)∧Own wr w5.heap.size 36 2 Ax xs.length cx (xs.flatMap Cn)∧Fr Non w wr∧w5.heap.size≤wr.heap.size) (fun _ wr=>wr.rangeLeft (w.heap.size+1) gr)
   case atStart=>exact ⟨_,_,none,0,[],rfl,aj,RF.start (fun d=>((ac d).1).symm),Own.nil _ _ _ _,b1,An7 _⟩
   case round=>
    obtain ⟨ae,bb,Ax,cx,xs,rfl,aj,ao,ab,hf,di⟩:=hrel;have cz:=ao.out.few (fun d i h=>⟨(a2.out d i h).1,(a2.out d i h).2.1⟩);have av:=ab.row
    go_wp2_with (first
     |(at_next;refine wpList_next_ranges_ii _ rfl _ rfl 3 3 .i64 .i64 (int_keyed Tryz.underlying3) Tryz.underlying3 Tryz.underlying3 (w.heap.size+1) gr nD D ae bb rfl aj ?_ ?_)
     |go_in)
    ·
     intro cy a7;have cc:=ao.out.done a7;have cg:=ao.out.1;have cb:=Lib.hid (Aj4 w5.heap.size Ax cx xs wr ab (by omega));have c2:=Lib.hid (fun ys h3 h4=>aq.out xs ys cg cc h3 h4);subst cy;clear aj cc cg ab aq ao;have b3:w.heap.size≤w5.heap.size:=by omega
     obtain ⟨L,cd⟩:=Ab xs.length;rw [cd.out] at cb ⊢;go_wp2_with (go_at_call 36;(with_reducible refine (cb.out).mono ?_);rintro _ w9 ⟨rfl,ys,hp,hs,o9,f9⟩);have hy:=Lib.hid (c2.out ys hp hs);rw [hy.out] at o9;have c7:Hid (L=FA.length):=by show _=_;rw [← hy.out,hp.length_eq,cd.out]
     go_ret
     exact ⟨Ax,cx,by rw [← c7.out];rfl,o9.lower b3,hf.trans f9 (fun j hj e=>by have:=(av j e).1;omega)⟩
    ·
     intro x cv w6 bc du dw b5 bk ag bi bp bg dz
     have ci:LT k x=some cv:=by
      have h1:=has_true_of_atKey (bk);rw [(ac x).1] at h1;obtain ⟨c',co⟩:=Option.isSome_iff_exists.1 h1;have h2:=(ac x).2 c' co (.lit (.bool true));rw [bk] at h2
      cases h2
      exact co
     have br:=Lib.hid (ao.out.step ci b5);have f6:Fr (One gr) wr w6:=Jo bp;have ar:=ab.fr f6 (fun j hj e=>by have e':j=gr:=e;have:=(av j hj).1;omega);have c9:Fr Non w w6:=hf.trans f6 (fun j hj e=>by have e':j=gr:=e;omega);have bF:=Blk.new w6 36 #[.int .i64 x,.int .i64 cv];have bl:=ar.row;have cu:w5.heap.size≤w6.heap.size:=Am8 di f6.size;have c4:w6.rangeLeft (w.heap.size+1) gr<wr.rangeLeft (w.heap.size+1) gr:=by rw [ag.left_eq,aj.left_eq];exact bi
     clear aj ab ao ci b5 bk bg
     go_wp2_with (first
      |(at_builtin;go_loud (refine Az (base:=w5.heap.size) (.tmp 66) (.tmp 70) 33 rfl rfl rfl rfl slFk (ar.alloc (.cells #[.int .i64 x,.int .i64 cv] 36)) (Rd.blk (n:=1) (size:=2) bF rfl) (by simp [Value.oneCell']) (by omega) (by omega) (by rw [Am9];omega) ?_);intro A8 c8 w8 b2 db dc))
     have f8:Fr (fun j=>w5.heap.size≤j) w6 w8:=(Fr.of_non ((Fr.refl Non w6).alloc (.cells #[.int .i64 x,.int .i64 cv] 36)) _).trans db (fun j hj e=>(bl j e).1);have cw:Fr Non w w8:=c9.trans f8 (fun j hj e=>by have e':w5.heap.size≤j:=e;omega);have az:=Aj7 ag f8 (fun e=>by have e':w5.heap.size≤w.heap.size+1:=e;omega) (fun e=>by have e':w5.heap.size≤gr:=e;omega)
     have bx:Own w8 w5.heap.size 36 2 A8 (xs++[(x,cv)]).length c8 ((xs++[(x,cv)]).flatMap Cn):=by
      rw [An0,An8];exact b2
     have ct:w5.heap.size≤w8.heap.size:=Am8 cu f8.size;have da:w8.rangeLeft (w.heap.size+1) gr<wr.rangeLeft (w.heap.size+1) gr:=by rw [az.left_eq,← ag.left_eq];exact c4
     exact ⟨⟨_,bc,A8,c8,xs++[(x,cv)],by rw [An0];rfl,az,br,bx,cw,ct⟩,da⟩
theorem Js (B n c:Nat) (A:Option Addr) (ids:List Id) (gv:Value) (w:World) (hn:Hid (ids.length=n)) (hr:Rd w B 3 A n (ids.flatMap Id.cells)) (hnm:n≤1000) (hok:Cs ids):
  Calls Tryz.prog 13 #[gv,.slice A n c] w (Eb (Cc ids) w):=by
 have kf:=Lib.hid (Gt B n c A ids gv w hn hr hnm hok);have ko:=Lib.hid (fun (d m:Int) (w':World) (hf:Fr Non w w')=>Sy B n c A ids d m 4611686018427387904 w' hn (hr.fr hf zr) hnm);have ax:Hid (∀k f,(Aq ids)[k]? =some f→El ids (Aq ids) (k+1)=El ids (Aq ids) k++ofK ids f.1 f.2 4611686018427387904):=fun k f hf=>Af6 ids hf
 have ay:Hid (∀d m:Int,(ofK ids d m 4611686018427387904).length≤1000):=fun d m=>by
  unfold ofK;rw [(Br _).length_eq];exact Am8 (Ao5 _ _) (by rw [hn.out];exact hnm)
 have az:Hid (An (El ids (Aq ids) (Aq ids).length)=Cc ids):=Af7 (fun x hx=>(hok x hx).2.1) (fun x hx=>by have:=(hok x hx).2.2.2;omega);have a7:(Aq ids).length≤12:=by unfold Aq;exact Am8 (List.length_filterMap_le _ _) (by simp)
 have a4:Hid (El ids (Aq ids) 0=[]):=rfl;clear hok hr;unfold Hr at kf;unfold Eb at ko;generalize Cc ids=VA at*;generalize El ids (Aq ids)=VT at*;generalize (fun d m=>ofK ids d m 4611686018427387904)=OF at*;generalize Aq ids=fs at*;obtain ⟨M,hM⟩:=Ab fs.length;rw [hM.out] at kf az a7;go_enter Tryz.func13,Tryz.ntmps13;go_upto_region 2 with (fail)
 go_wp2_with (go_at_call 12;(with_reducible refine (kf.out).mono ?_);rintro _ w1 ⟨A1,c1,rfl,a9,f1⟩)
 go_loopw [5,12] (fun s v wr=>∃(k:Nat) (Ax:Option Addr) (cx:Nat) (xs:List Id),v=.int .i64 (k:Int)∧s=.slice Ax xs.length cx∧k≤M∧xs.length≤1000*k∧Hid (xs=VT k)∧Own wr w1.heap.size 41 3 Ax xs.length cx (xs.flatMap Id.cells)∧Fr Non w1 wr) (fun _ v _=>M-(intOf v).toNat)
 case atStart=>exact ⟨0,none,0,[],rfl,rfl,by omega,An4 _,a4.out.symm,Own.nil _ _ _ _,Fr.refl _ _⟩
 case round=>
  obtain ⟨k,Ax,cx,xs,rfl,rfl,hk,bc,aw,aa,hf⟩:=hrel;have a0:=f1.trans hf zr
  by_cases hlt:k<M
  ·
   obtain ⟨f,ag⟩:∃f,fs[k]? =some f:=⟨_,An1 (by rw [hM.out];exact hlt)⟩;obtain ⟨b4,o4,a1,_,aq⟩:=Dn (f:=Cn) (fun _=>rfl) (by omega) (n:=M) ((a9.fr hf zr).rd) ag;subst a1;have c0:wr.cell? ⟨b4,o4+k*2,none⟩=some (.int .i64 f.1):=aq 0 (by decide) _ rfl;have a6:wr.cell? ⟨b4,o4+k*2+1,none⟩=some (.int .i64 f.2):=aq 1 (by decide) _ rfl;have i1:(0:Int)≤k:=by omega
   have i2:(k:Int)<M:=by omega
   have i3:(k:Int).toNat=k:=by omega
   have ad:=ax.out k f ag;rw [← aw.out] at ad;replace ad:=Lib.hid ad;have aj:=Bb (P:=Tryz.prog) wr.heap.size 36 (cs:=#[.int .i64 f.1,.int .i64 f.2]) Mv (old:=#[.int .i64 0,.int .i64 0]) rfl (Mx _ _);have bn:=Blk.new wr 36 #[.int .i64 0,.int .i64 0];clear ax ag aq;go_upto_region 5 with (fail)
   have bz:=bn.setRow (cs:=#[.int .i64 f.1,.int .i64 f.2]);have fz:Fr Non wr ((wr.alloc (.cells #[.int .i64 0,.int .i64 0] 36)).setRow wr.heap.size #[.int .i64 f.1,.int .i64 f.2]):=((Fr.refl Non wr).alloc _).setRow (fun hh=>absurd hh (by omega)) _;obtain ⟨gi,ba⟩:=Ab wr.heap.size;rw [ba.out] at bz fz ⊢;clear aj bn c0 a6;generalize (wr.alloc (.cells #[.int .i64 0,.int .i64 0] 36)).setRow gi #[.int .i64 f.1,.int .i64 f.2]=w2 at*;have ae:=aa.fr fz zr;have ai:=ae.row;have ak:=hf.trans fz zr;have d0:=bz.cell 0;have d1:=bz.cell 1;have al:=Lib.hid (ko.out f.1 f.2 w2 (f1.trans ak zr));have ap:=ay.out f.1 f.2;obtain ⟨OL,bb⟩:=Ab (ofK ids f.1 f.2 4611686018427387904);rw [bb.out] at al ap ad;obtain ⟨ol,ac⟩:=Ab OL.length;rw [ac.out] at al ap;have ab:=Lib.hid ap;clear ko ay aa bz
   go_wp2_with (first
    |(go_at_call 39;(with_reducible refine (al.out).mono ?_);rintro _ w3 ⟨A3,c3,rfl,a8,f3⟩)
    |(at_builtin;go_loud (refine Az (base:=w1.heap.size) (.tmp 16) (.tmp 22) 25 rfl rfl rfl rfl Cp (ae.fr f3 zr) a8.rd (Id.cells_one _) (by have:=ab.out;omega) (by have:=ab.out;omega) (Am8 ak.size f3.size) ?_);intro A8 c8 w8 au a2 a3))
   have f8:Fr Non w1 w8:=(ak.trans f3 zr).trans a2 (fun j hj e=>by have:=(ai j e).1;omega)
   have ao:Own w8 w1.heap.size 41 3 A8 (xs++OL).length c8 ((xs++OL).flatMap Id.cells):=by
    rw [An0,An8,ac.out];exact au
   have af:(xs++OL).length=xs.length+ol:=by rw [An0,ac.out]
   go_roundw
   case rel=>exact ⟨k+1,A8,c8,xs++OL,by go_num,by rw [af],by omega,by rw [af];have:=ab.out;omega,ad.out.symm,ao,f8⟩
   case measure=>simp [intOf];omega
  ·
   obtain rfl:k=M:=by omega
   have ar:=aa.row;have ks:=Lib.hid (Sx w1.heap.size Ax cx xs wr aa (by omega));have ah:An xs=VA:=by rw [aw.out,az.out]
   have av:Hid (xs.length=VA.length):=by show _=_;rw [← ah,(Br xs).length_eq]
   rw [ah] at ks;unfold Eb;have a5:=f1.size;clear aa ah;generalize xs.length=L at*;go_wp2_with (go_at_call 40;(with_reducible refine (ks.out).mono ?_);rintro _ w9 ⟨rfl,o9,f9⟩)
   go_ret
   exact ⟨Ax,cx,by rw [← av.out];rfl,by rw [← av.out];exact o9.lower a5,a0.trans f9 (fun j hj e=>by have:=(ar j e).1;omega)⟩
end Oq
end
section
open Go.RowKit
attribute [local go_sem ↓] Go.wp_at_zero Go.wp_at_succ
namespace Oq
attribute [local go_sem] Bool.not_false Bool.not_true
attribute [local go_sem ↓] Fz Cg Gs Sv Ah0
theorem Sz (base B n c:Nat) (A:Option Addr) (r:FG) (x:OpL) (hs:List Nat) (w:World) (h:r.own w base) (hx:x.lies w base) (hb:base≤w.heap.size) (hok:x.op.ok) (hp:x.pastA=none∧x.pastC=0∧x.past=[]) (hdev:∃d:Nat,x.by_=(d:Int)∧d≤1000) (hat:0≤x.at_∧x.at_≤3)
    (hn:Hid (hs.length=n)) (hr:Rd w B 1 A n (hs.map Qv)) (hn3:n≤3) (hlt:∀p∈hs,p<r.l.length) (hin:plc r.l (Bf r.l x.op hs).name=none→Ar r.cards r.l (sgn (Bf r.l x.op hs))=0∧FkB (r.l++[As r.l (sgn (Bf r.l x.op hs))])):
    Calls Tryz.prog 29 #[.agg r.cells,.agg x.cells,.slice A n c] w (Ga base r x.op hs w):=by
  have ds:=h.num.few;have hl:=Bi (P:=Tryz.prog) w.heap.size 28 Tryz.underlying28 rfl (cs:=r.cells) Bu
  have s0:Bl w (((w.alloc (.cells r.cells 28)).alloc (.cells x.cells 67)).alloc (.cells #[.slice none 0 0,.slice none 0 0,.slice none 0 0,.slice none 0 0] 28)) r.cells x x.sq x.at_ none 0 0 []:=by
    have f0:Fr Non w (((w.alloc (.cells r.cells 28)).alloc (.cells x.cells 67)).alloc (.cells #[.slice none 0 0,.slice none 0 0,.slice none 0 0,.slice none 0 0] 28)):=(((Fr.refl Non w).alloc _).alloc _).alloc _;have b1:=(Blk.new (w.alloc (.cells r.cells 28)) 67 x.cells).alloc (.cells #[.slice none 0 0,.slice none 0 0,.slice none 0 0,.slice none 0 0] 28);have b2:=Blk.new ((w.alloc (.cells r.cells 28)).alloc (.cells x.cells 67)) 28 #[.slice none 0 0,.slice none 0 0,.slice none 0 0,.slice none 0 0];rw [Am9] at b1;rw [Am9,Am9] at b2
    have ex:x.put x.sq x.at_ none 0 []=x:=by
      obtain ⟨h1,h2,h3⟩:=hp;unfold OpL.put;rw [← h1,← h2,← h3]
    refine ⟨((Blk.new w 28 r.cells).alloc _).alloc _,by rw [ex];exact b1,b2,f0,by simp only [Am9];omega,Own.nil _ _ _ _,rfl⟩
  have kb:=Lib.hid (fun (v:World) (hf:Fr Non w v)=>Si base B n c r A hs v (h.non hf) hn (hr.fr hf zr) (by omega) hlt)
  have ag:Hid (∀p,p<r.l.length→∃(m:Pn) (b ab:Nat),r.l[p]? =some m∧r.lA=some ⟨b,ab,none⟩∧w.cell? ⟨b,ab+p*27,none⟩=some (.int .i64 m.o.by_)∧w.cell? ⟨b,ab+p*27+1,none⟩=some (.int .i64 m.o.sq)∧w.cell? ⟨b,ab+p*27+3,none⟩=some (.int .i64 m.o.at_)):=by
    intro i hi;obtain ⟨y,b,ab,_,h1,_,h3,_,h4⟩:=h.xAt (An1 hi);exact ⟨_,b,ab,An1 hi,h3,by rw [← h1];exact h4 0 (by omega) _ rfl,by rw [← h1];exact h4 1 (by omega) _ rfl,by rw [← h1];exact h4 3 (by omega) _ rfl⟩
  have ao:Hid (∀p,p<r.l.length→∃(m:Pn) (b ab:Nat),r.l[p]? =some m∧r.iA=some ⟨b,ab,none⟩∧w.cell? ⟨b,ab+p*3,none⟩=some (.int .i64 m.id.b)∧w.cell? ⟨b,ab+p*3+1,none⟩=some (.int .i64 m.id.s)∧w.cell? ⟨b,ab+p*3+2,none⟩=some (.int .u64 (m.id.u:Int))):=fun p hp=>h.idAt hp;have bv:Hid (∀m∈r.l,1≤m.o.sq∧m.o.sq≤14):=fun m hm=>⟨h.num.s1 m hm,by have:=h.num.sq m hm;omega⟩;have b3:Hid (∀m∈r.l,m.o.at_≤42):=fun m hm=>by have:=h.num.at_ m hm;omega
  have bp:Hid (∀ys k p m,ys[k]? =some p→r.l[p]? =some m→Cf r.l x.by_ ys (k+1)=if m.o.by_=x.by_ then max (Cf r.l x.by_ ys k) (m.o.sq+1) else Cf r.l x.by_ ys k):=fun ys k p m h1 h2=>Sj h1 h2;have ev:Hid (∀ys k,1≤Cf r.l x.by_ ys k∧Cf r.l x.by_ ys k≤15):=fun ys k=>⟨Mp _ _ _ _,Mo (by omega) (fun p hp m hm _=>by have:=(bv.out m (An2 hm)).2;omega) k⟩;have e7:Hid (∀ys,Cf r.l x.by_ ys 0=1):=fun _=>rfl;replace hlt:=Lib.hid hlt;go_enter Tryz.func29,Tryz.ntmps29;go_upto_region 1 with (fail)
  generalize ((w.alloc (.cells r.cells 28)).alloc (.cells x.cells 67)).alloc (.cells #[.slice none 0 0,.slice none 0 0,.slice none 0 0,.slice none 0 0] 28)=w0 at*;have z1:w0.cell? ⟨w.heap.size+1,1,none⟩=some (.int .i64 x.sq):=s0.b.cell 1;have z2:=s0.b.frozen 1;go_upto_region 2 with (fail)
  have s1:=s0.sq 1;generalize w0.setCell ⟨w.heap.size+1,1,none⟩ (.int .i64 1)=w1 at*;clear s0 z1 z2;have bg:=s1.g;have cr:=s1.sz;go_upto_region 3 with (go_at_call 35;(with_reducible refine (kb.out _ s1.f).mono ?_);rintro _ w2 ⟨ys,A7,c7,rfl,cg,cf,ac,f2⟩)
  replace ac:=F9 ac cr;have s2:=s1.non f2;clear s1 bg kb f2 cr;replace cg:=Lib.hid cg;replace cf:=Lib.hid cf;have g1:Hid (r.cells[1]? =some (.slice r.lA r.l.length r.lC)):=rfl;have g2:Hid (r.cells[2]? =some (.slice r.iA r.l.length r.iC)):=rfl;have g3:Hid (r.cells[3]? =some (.slice r.pA r.l.length r.pC)):=rfl;have aw:=Lib.hid (bp.out ys);have bs:=Lib.hid (ev.out ys);have cx:=Lib.hid (e7.out ys)
  have dv:ys.length≤14:=by
    have:=Fy cg.out.1 (ys:=List.range r.l.length) (fun q hq=>List.mem_range.2 (cf.out q hq));simp at this;omega
  clear bp ev e7;generalize hSQ:Cf r.l x.by_ ys=SQ at*;obtain ⟨M,hM⟩:=Ab ys.length;rw [hM.out] at ac dv ⊢;obtain ⟨N,hN⟩:=Ab r.l.length;rw [hN.out] at g1 g2 g3 ag ao ds hlt cf;obtain ⟨LA,de⟩:=Ab r.lA;rw [de.out] at g1 ag;obtain ⟨IA,ch⟩:=Ab r.iA;rw [ch.out] at g2 ao;obtain ⟨LC,eb⟩:=Ab r.lC;rw [eb.out] at g1;obtain ⟨IC,dm⟩:=Ab r.iC;rw [dm.out] at g2;go_wp2_with (fail)
  go_loopw [8] (fun v wr=>∃k:Nat,v=.int .i64 (k:Int)∧k≤M∧Bl w wr r.cells x (SQ k) x.at_ none 0 0 []∧Own wr (w.heap.size+3) 3 1 A7 M c7 (ys.map Qv)) (fun v _=>M-(intOf v).toNat)
  case atStart=>exact ⟨0,rfl,An4 _,by rw [cx.out];exact s2,ac⟩
  case round=>
    obtain ⟨k,rfl,hk,s3,av⟩:=hrel;clear s2 ac
    by_cases hkM:k<M
    · obtain ⟨p,cu⟩:∃p,ys[k]? =some p:=⟨_,An1 (by rw [hM.out];exact hkM)⟩
      have dk:=cf.out p (An2 cu);obtain ⟨m,b,ab,hm,rfl,c0,c1,c3⟩:=ag.out p dk;obtain ⟨b7,o7,u7,rfl,_,db,d7⟩:=av.rd.at hkM;rw [An9,cu] at db;injection db with db
      subst db;replace d7:wr.cell? ⟨b7,o7+k,none⟩=some (.int .i64 (p:Int)):=d7;have dh:=Lib.hid (aw.out k p m cu hm);have fj:=bs.out k;have fq:=bv.out m (An2 hm);have i1:(0:Int)≤k:=by omega
      have i2:(k:Int)<M:=by omega
      have i3:(k:Int).toNat=k:=by omega
      have p1:(0:Int)≤p:=by omega
      have p2:(p:Int)<N:=by omega
      have p3:(p:Int).toNat=p:=by omega
      have t0:decide ((k:Int)<M)=true:=decide_eq_true i2;have dt:decide (k<M)=true:=decide_eq_true hkM;have e1:IntKind.i64.wrap ((k:Int)+1)=(k:Int)+1:=IntWalk.i64_in _ (by omega);have e2:IntKind.i64.wrap (m.o.sq+1)=m.o.sq+1:=IntWalk.i64_in _ (by omega);go_upto_region 6 with (fail)
      have F0:Fr Non wr wr.drew:=(Fr.refl Non wr).drew;have f3:Fr Non w wr.drew:=s3.f.trans F0 zr;have H0:wr.drew.cell? ⟨w.heap.size,1,none⟩=some (.slice (some ⟨b,ab,none⟩) N LC):=(s3.g.cell 1).trans g1.out;have D0:wr.drew.cell? ⟨b7,o7+k,none⟩=some (.int .i64 (p:Int)):=d7;have E0:wr.drew.cell? ⟨b,ab+p*27,none⟩=some (.int .i64 m.o.by_):=f3.cell c0 zq;have X0:wr.drew.cell? ⟨w.heap.size+1,0,none⟩=some (.int .i64 x.by_):=s3.b.cell 0;refine wp_region_held_drew (S:=fun w'=>w'.cell? ⟨w.heap.size,1,none⟩=some (.slice (some ⟨b,ab,none⟩) N LC)∧w'.cell? ⟨b7,o7+k,none⟩=some (.int .i64 (p:Int))∧w'.cell? ⟨b,ab+p*27,none⟩=some (.int .i64 m.o.by_)∧w'.cell? ⟨w.heap.size+1,0,none⟩=some (.int .i64 x.by_)) (by kernel_rfl) ⟨H0,D0,E0,X0⟩ (fun hHeld=> ?_);clear hHeld;refine tkH 0 ⟨H0,D0,E0,X0⟩ (h:=tkH 1 ⟨H0,D0,E0,X0⟩ (h:=tkH 2 ⟨H0,D0,E0,X0⟩ (h:=tkH 3 ⟨H0,D0,E0,X0⟩ (h:=tkH 4 ⟨H0,D0,E0,X0⟩ (h:=tkH 5 ⟨H0,D0,E0,X0⟩ (h:=tkH 6 ⟨H0,D0,E0,X0⟩ (h:=tkH 7 ⟨H0,D0,E0,X0⟩ (h:=tkH 8 ⟨H0,D0,E0,X0⟩ (h:=tkH 9 ⟨H0,D0,E0,X0⟩ (h:=tkH 10 ⟨H0,D0,E0,X0⟩ (h:=tkH 11 ⟨H0,D0,E0,X0⟩ (h:=?_))))))))))));simp only [List.set];refine oD ?_;go_simp;have s4:=s3.non F0;have af:=av.drew;have ew:=f3.cell c1 zq;generalize wr.drew=w4 at*;clear H0 E0 X0 c0 c3 s3 av f3 d7 ag ao
      by_cases hby:m.o.by_=x.by_
      · rw [if_pos hby] at dh
        have t1:(m.o.by_==x.by_)=true:=beq_iff_eq.2 hby;clear cu hm;go_upto_region 7 with (fail)
        have H0:w4.drew.cell? ⟨w.heap.size,1,none⟩=some (.slice (some ⟨b,ab,none⟩) N LC):=(s4.g.cell 1).trans g1.out;replace D0:w4.drew.cell? ⟨b7,o7+k,none⟩=some (.int .i64 (p:Int)):=D0;have E0:w4.drew.cell? ⟨b,ab+p*27+1,none⟩=some (.int .i64 m.o.sq):=ew;have X0:w4.drew.cell? ⟨w.heap.size+1,1,none⟩=some (.int .i64 (SQ k)):=s4.b.cell 1;refine C6 (S:=fun w'=>w'.cell? ⟨w.heap.size,1,none⟩=some (.slice (some ⟨b,ab,none⟩) N LC)∧w'.cell? ⟨b7,o7+k,none⟩=some (.int .i64 (p:Int))∧w'.cell? ⟨b,ab+p*27+1,none⟩=some (.int .i64 m.o.sq)∧w'.cell? ⟨w.heap.size+1,1,none⟩=some (.int .i64 (SQ k))) 14 (by kernel_rfl) ?_;refine tkG 0 ⟨H0,D0,E0,X0⟩ (h:=tkG 1 ⟨H0,D0,E0,X0⟩ (h:=tkG 2 ⟨H0,D0,E0,X0⟩ (h:=tkG 3 ⟨H0,D0,E0,X0⟩ (h:=tkG 4 ⟨H0,D0,E0,X0⟩ (h:=tkG 5 ⟨H0,D0,E0,X0⟩ (h:=tkG 6 ⟨H0,D0,E0,X0⟩ (h:=tkG 7 ⟨H0,D0,E0,X0⟩ (h:=tkG 8 ⟨H0,D0,E0,X0⟩ (h:=tkG 9 ⟨H0,D0,E0,X0⟩ (h:=tkG 10 ⟨H0,D0,E0,X0⟩ (h:=tkG 11 ⟨H0,D0,E0,X0⟩ (h:=?_))))))))))));simp only [List.set];refine tkG 12 ⟨H0,D0,E0,X0⟩ (h:=tkG 13 ⟨H0,D0,E0,X0⟩ (h:=?_));simp only [List.set];have nz:=s4.b.frozen 1;refine Cy (by kernel_rfl) ?_;refine oG 14 (fun K hK=> ?_);go_simp;refine hK.out _ _ trivial (fun hZ=> ?_);clear hZ hK K;try simp only [Aj,List.set]
        refine oD ?_;go_simp;have s5:=(s4.sq (max (SQ k) (m.o.sq+1))).non (Fr.refl Non _).drew;have be:=(Own.setFar (i:=1) af s4.b (by decide) (.int .i64 (max (SQ k) (m.o.sq+1)))).drew;clear nz H0 D0 E0 X0 s4 af ew;generalize (w4.setCell ⟨w.heap.size+1,1,none⟩ (.int .i64 (max (SQ k) (m.o.sq+1)))).drew=w5 at*;go_wp2_with (fail);go_roundw
        case rel=>exact ⟨k+1,by go_num,by omega,by rw [dh.out];exact s5,be⟩
        case measure=>simp [intOf];omega
      · rw [if_neg hby] at dh
        have t1:(m.o.by_==x.by_)=false:=beq_eq_false_iff_ne.2 hby;clear cu hm;go_wp2_with (fail);go_roundw
        case rel=>exact ⟨k+1,by go_num,by omega,by rw [dh.out];exact s4,af⟩
        case measure=>simp [intOf];omega
    · obtain rfl:k=M:=by omega
      have t0:decide ((k:Int)<k)=false:=decide_eq_false (by omega);have dt:decide (k<k)=false:=decide_eq_false (by omega)
      have en:Hid (SQ k=Ao r.l (Ai r.l (hs.map (nmP r.l))) x.by_ r.l.length+1):=by
        show _=_;rw [← hSQ,← hM.out];exact Ag7 h.rows (by rw [hN.out];omega) cg.out (by intro p hp;rw [hN.out];exact hlt.out p hp) _
      have ez:=bs.out k;obtain ⟨S,hS⟩:=Ab (SQ k);rw [hS.out] at en ez s3;clear aw bs cx hSQ;clear hS;have bc:Hid (late r.l ((hs.take 0).map (nmP r.l))=0):=rfl
      have bh:Hid (∀k p m,hs[k]? =some p→r.l[p]? =some m→late r.l ((hs.take (k+1)).map (nmP r.l))=max (late r.l ((hs.take k).map (nmP r.l))) m.o.at_):=by
        intro k p m hp hm;have h1:(hs.map (nmP r.l))[k]? =some (nmP r.l p):=by rw [An9,hp];rfl
        have h2:=P4 r.l (hs.map (nmP r.l)) k h1;rw [List.map_take,List.map_take];rw [h2,Ek hm,Hf (h.rows.ok p m hm).plc hm]
      have bk:Hid (∀k p m,hs[k]? =some p→r.l[p]? =some m→(hs.take (k+1)).map (nmP r.l)=(hs.take k).map (nmP r.l)++[m.id]):=fun k p m hp hm=>by rw [Cx hp,List.map_append,List.map_cons,List.map_nil,Ek hm]
      have ax:Hid (∀k,0≤late r.l ((hs.take k).map (nmP r.l))∧late r.l ((hs.take k).map (nmP r.l))≤42):=fun k=>⟨Sa _ _,P5 r.l 42 (by omega) b3.out _⟩;have bl:Hid ((hs.take 0).map (nmP r.l)=[]):=rfl;have a4:Hid (late r.l ((hs.take n).map (nmP r.l))=late r.l (hs.map (nmP r.l))):=by show _=_;rw [← hn.out,Ao2]
      have a7:Hid ((hs.take n).map (nmP r.l)=hs.map (nmP r.l)):=by show _=_;rw [← hn.out,Ao2]
      have ej:Hid (∀k,((hs.take k).map (nmP r.l)).length≤k):=fun k=>by rw [List.length_map,Ao6];omega
      obtain ⟨LT,ce⟩:∃LT:Nat→Int,Hid (∀k,LT k=late r.l ((hs.take k).map (nmP r.l))):=⟨_,fun _=>rfl⟩;obtain ⟨NM,c4⟩:∃NM:Nat→List Id,Hid (∀k,NM k=(hs.take k).map (nmP r.l)):=⟨_,fun _=>rfl⟩;replace ax:Hid (∀k,0≤LT k∧LT k≤42):=fun k=>by rw [ce.out];exact ax.out k
      replace bh:Hid (∀k p m,hs[k]? =some p→r.l[p]? =some m→LT (k+1)=max (LT k) m.o.at_):=fun k p m h1 h2=>by rw [ce.out,ce.out];exact bh.out k p m h1 h2
      replace bk:Hid (∀k p m,hs[k]? =some p→r.l[p]? =some m→NM (k+1)=NM k++[m.id]):=fun k p m h1 h2=>by rw [c4.out,c4.out];exact bk.out k p m h1 h2
      replace bl:Hid (NM 0=[]):=(c4.out 0).trans bl.out;replace bc:Hid (LT 0=0):=(ce.out 0).trans bc.out;replace a4:Hid (LT n=late r.l (hs.map (nmP r.l))):=(ce.out n).trans a4.out;replace a7:Hid (NM n=hs.map (nmP r.l)):=(c4.out n).trans a7.out;clear ce c4 ej;generalize wr=wb at*;go_wp2_with (fail)
      go_loopw [9,10] (fun t v wr=>∃(j:Nat) (Ap:Option Addr) (cp:Nat),v=.int .i64 (j:Int)∧t=.int .i64 (LT j)∧j≤n∧Bl w wr r.cells x S x.at_ Ap j cp (NM j)∧Own wr (w.heap.size+3) 3 1 A7 k c7 (ys.map Qv)) (fun _ v _=>n-(intOf v).toNat)
      case atStart=>exact ⟨0,none,0,rfl,by rw [bc.out],An4 _,by rw [bl.out];exact s3,av⟩
      case round=>
        obtain ⟨j,Ap,cp,rfl,rfl,hj,s4,af⟩:=hrel;clear s3 av
        by_cases hjn:j<n
        · obtain ⟨p,cc⟩:∃p,hs[j]? =some p:=⟨_,An1 (by rw [hn.out];exact hjn)⟩
          have dk:=hlt.out p (An2 cc);obtain ⟨m,b,ab,hm,rfl,c0,c1,c3⟩:=ag.out p dk;obtain ⟨m',bi,oi,dc,rfl,d0,d1,d2⟩:=ao.out p dk;obtain rfl:m'=m:=by rw [hm] at dc;injection dc with dc;exact dc.symm
          obtain ⟨b4,o4,u4,rfl,_,di,cj⟩:=hr.at hjn;rw [An9,cc] at di;injection di with di
          subst di;replace cj:w.cell? ⟨b4,o4+j,none⟩=some (.int .i64 (p:Int)):=cj;have d7:=s4.f.cell cj zq;have fw:=Lib.hid (bh.out j p m' cc hm);have er:=Lib.hid (bk.out j p m' cc hm);have d4:=ax.out j;have fq:=b3.out m' (An2 hm);have i1:(0:Int)≤j:=by omega
          have i2:(j:Int)<n:=by omega
          have i3:(j:Int).toNat=j:=by omega
          have p1:(0:Int)≤p:=by omega
          have p2:(p:Int)<N:=by omega
          have p3:(p:Int).toNat=p:=by omega
          have t0:decide ((j:Int)<n)=true:=decide_eq_true i2;have dt:decide (j<n)=true:=decide_eq_true hjn;have e1:IntKind.i64.wrap ((j:Int)+1)=(j:Int)+1:=IntWalk.i64_in _ (by omega);have f4:=s4.f;have cv:=s4.past.row;have fa:=s4.sz;have dr:=Lib.hid cc;clear cc hm c0 c1;go_upto_region 12 with (fail)
          have F0:Fr Non wr wr.drew:=(Fr.refl Non wr).drew;have Hb:wr.cell? ⟨w.heap.size,2,none⟩=some (.slice (some ⟨bi,oi,none⟩) N IC):=(s4.g.cell 2).trans g2.out;have Db:wr.cell? ⟨b4,o4+j,none⟩=some (.int .i64 (p:Int)):=d7;have Ib:=f4.cell d0 zq;have Jb:=f4.cell d1 zq;have Kb:=f4.cell d2 zq;have Pb:wr.cell? ⟨w.heap.size+1,4,none⟩=some (.slice Ap j cp):=by have h9:=s4.b.cell 4;have h8:=s4.len;rw [← h8];exact h9
          have H0:wr.drew.cell? ⟨w.heap.size,2,none⟩=some (.slice (some ⟨bi,oi,none⟩) N IC):=Hb;have D0:wr.drew.cell? ⟨b4,o4+j,none⟩=some (.int .i64 (p:Int)):=Db;have I0:wr.drew.cell? ⟨bi,oi+p*3,none⟩=some (.int .i64 m'.id.b):=Ib;have J0:wr.drew.cell? ⟨bi,oi+p*3+1,none⟩=some (.int .i64 m'.id.s):=Jb;have K0:wr.drew.cell? ⟨bi,oi+p*3+2,none⟩=some (.int .u64 (m'.id.u:Int)):=Kb;have P0:wr.drew.cell? ⟨w.heap.size+1,4,none⟩=some (.slice Ap j cp):=Pb;clear d7 ao ag;refine C6 (S:=fun w'=>w'.cell? ⟨w.heap.size,2,none⟩=some (.slice (some ⟨bi,oi,none⟩) N IC)∧w'.cell? ⟨b4,o4+j,none⟩=some (.int .i64 (p:Int))∧w'.cell? ⟨bi,oi+p*3,none⟩=some (.int .i64 m'.id.b)∧w'.cell? ⟨bi,oi+p*3+1,none⟩=some (.int .i64 m'.id.s)∧w'.cell? ⟨bi,oi+p*3+2,none⟩=some (.int .u64 (m'.id.u:Int))∧w'.cell? ⟨w.heap.size+1,4,none⟩=some (.slice Ap j cp)) 13 (by kernel_rfl) ?_;refine tkG 0 ⟨H0,D0,I0,J0,K0,P0⟩ (h:=tkG 1 ⟨H0,D0,I0,J0,K0,P0⟩ (h:=tkG 2 ⟨H0,D0,I0,J0,K0,P0⟩ (h:=tkG 3 ⟨H0,D0,I0,J0,K0,P0⟩ (h:=tkG 4 ⟨H0,D0,I0,J0,K0,P0⟩ (h:=tkG 5 ⟨H0,D0,I0,J0,K0,P0⟩ (h:=tkG 6 ⟨H0,D0,I0,J0,K0,P0⟩ (h:=tkG 7 ⟨H0,D0,I0,J0,K0,P0⟩ (h:=tkG 8 ⟨H0,D0,I0,J0,K0,P0⟩ (h:=tkG 9 ⟨H0,D0,I0,J0,K0,P0⟩ (h:=?_))))))))));simp only [List.set];refine Bn 10 (by kernel_rfl) rfl (fun K hK=> ?_);go_simp;have a6:=(Blk.new wr 41 m'.id.V).drew;have F1:Fr Non wr (wr.alloc (.cells m'.id.V 41)).drew:=((Fr.refl _ _).alloc _).drew;generalize (wr.alloc (.cells m'.id.V 41)).drew=v1 at*;have H1:=F1.cell Hb zq;have D1:=F1.cell Db zq;have I1:=F1.cell Ib zq;have J1:=F1.cell Jb zq;have K1:=F1.cell Kb zq;have P1:=F1.cell Pb zq;refine hK.out _ _ ⟨H1,D1,I1,J1,K1,P1⟩ (fun hZ=> ?_);clear hZ hK K;try simp only [Aj,List.set]
          have s5:=s4.non F1;refine Bn 11 (by kernel_rfl) rfl (fun K hK=> ?_);refine Dx (base:=w.heap.size+3) (.tmp 55) (.tmp 64) 25 rfl rfl rfl Cp s5.past (Rd.blk (n:=1) (size:=3) a6 rfl) (by simp [Value.oneCell']) (by omega) (by omega) (Am8 fa F1.size) ?_;intro A8 c8 v2 au bm dz;have fS:∀q,Ac Ap=some q→w.heap.size+3≤q:=fun q e=>(cv q e).1;have f8:Fr Non w v2:=s5.f.trans bm (fun q hq e=>by have h9:=fS q e;omega);have H2:=(s5.g.fr bm (fun e=>by have h9:=fS _ e;omega)).cell 2|>.trans g2.out;have D2:=f8.cell cj zq;have I2:=f8.cell d0 zq;have J2:=f8.cell d1 zq;have K2:=f8.cell d2 zq;have P2:v2.cell? ⟨w.heap.size+1,4,none⟩=some (.slice Ap j cp):=by have h9:=(s5.b.fr bm (fun e=>by have h9:=fS _ e;omega)).cell 4;have h8:=s5.len;rw [← h8];exact h9
          refine hK.out _ _ ⟨H2,D2,I2,J2,K2,P2⟩ (fun hZ=> ?_);clear hZ hK K;try simp only [Aj,List.set]
          refine tkG 12 ⟨H2,D2,I2,J2,K2,P2⟩ (h:=?_);simp only [List.set];have nz:=(s5.b.fr bm (fun e=>by have h9:=fS _ e;omega)).frozen 4;refine Cy (by kernel_rfl) ?_;refine oG 13 (fun K hK=> ?_);go_simp;refine hK.out _ _ trivial (fun hZ=> ?_);clear hZ hK K;try simp only [Aj,List.set]
          refine oD ?_;go_simp
          have cy:Own v2 (w.heap.size+3) 41 3 A8 (j+1) c8 ((NM (j+1)).flatMap Id.cells):=by
            rw [er.out,An8];exact au
          have s6:=s5.past! bm fS cy (by rw [er.out,An0,s5.len];rfl);have ar:=Own.setFar (i:=4) (Own.grow2 (af.fr F1 zr) s5.past (by decide) bm) (s5.b.fr bm (fun e=>by have h9:=fS _ e;omega)) (by decide) (.slice A8 (j+1) c8);clear s5 s4 af au cy bm dz a6 F0 F1 f8 f4 fS cv nz Hb Db Ib Jb Kb Pb H0 D0 I0 J0 K0 P0 H1 D1 I1 J1 K1 P1 H2 D2 I2 J2 K2 P2 d0 d1 d2 cj fa;generalize v2.setCell ⟨w.heap.size+1,4,none⟩ (.slice A8 (j+1) c8)=v6 at*;go_upto_region 13 with (fail)
          have F0:Fr Non v6 v6.drew:=(Fr.refl Non v6).drew;have f6:=s6.f;obtain ⟨b8,o8,u8,e8,_,df,d7⟩:=(hr.fr f6 zr).at hjn;injection e8 with e8
          injection e8 with e8 e9
          subst e8;subst e9;rw [An9,dr.out] at df;injection df with df
          subst df;have H0:v6.drew.cell? ⟨w.heap.size,1,none⟩=some (.slice (some ⟨b,ab,none⟩) N LC):=(s6.g.cell 1).trans g1.out;have D0:v6.drew.cell? ⟨b4,o4+j,none⟩=some (.int .i64 (p:Int)):=d7;have E0:v6.drew.cell? ⟨b,ab+p*27+3,none⟩=some (.int .i64 m'.o.at_):=f6.cell c3 zq;refine wp_region_held_drew (S:=fun w'=>w'.cell? ⟨w.heap.size,1,none⟩=some (.slice (some ⟨b,ab,none⟩) N LC)∧w'.cell? ⟨b4,o4+j,none⟩=some (.int .i64 (p:Int))∧w'.cell? ⟨b,ab+p*27+3,none⟩=some (.int .i64 m'.o.at_)) (by kernel_rfl) ⟨H0,D0,E0⟩ (fun hHeld=> ?_);clear hHeld;refine tkH 0 ⟨H0,D0,E0⟩ (h:=tkH 1 ⟨H0,D0,E0⟩ (h:=tkH 2 ⟨H0,D0,E0⟩ (h:=tkH 3 ⟨H0,D0,E0⟩ (h:=tkH 4 ⟨H0,D0,E0⟩ (h:=tkH 5 ⟨H0,D0,E0⟩ (h:=tkH 6 ⟨H0,D0,E0⟩ (h:=tkH 7 ⟨H0,D0,E0⟩ (h:=tkH 8 ⟨H0,D0,E0⟩ (h:=tkH 9 ⟨H0,D0,E0⟩ (h:=tkH 10 ⟨H0,D0,E0⟩ (h:=tkH 11 ⟨H0,D0,E0⟩ (h:=?_))))))))))));simp only [List.set];refine oD ?_;go_simp;have s7:=s6.non F0;have ac:=ar.drew;clear s6 ar F0 f6 H0 D0 E0 c3 d7;generalize v6.drew=v7 at*;go_wp2_with (fail);go_roundw
          case rel=>exact ⟨j+1,A8,c8,by go_num,by rw [fw.out],by omega,s7,ac⟩
          case measure=>simp [intOf];omega
        · obtain rfl:j=n:=by omega
          have t0:decide ((j:Int)<j)=false:=decide_eq_false (by omega);have dt:decide (j<j)=false:=decide_eq_false (by omega);clear bh bk bl bc ag ao;have d4:=ax.out j;obtain ⟨T,hT⟩:=Ab (LT j);rw [hT.out] at a4 d4 ⊢;rw [a7.out] at s4;have e1:IntKind.i64.wrap (x.at_+T)=x.at_+T:=IntWalk.i64_in _ (by omega);have z3:wr.cell? ⟨w.heap.size+1,3,none⟩=some (.int .i64 x.at_):=s4.b.cell 3;have zf:=s4.b.frozen 3;go_upto_region 15 with (fail)
          have s5:=s4.at_ (x.at_+T);have be:=Own.setFar (i:=3) af s4.b (by decide) (.int .i64 (x.at_+T));clear s4 af z3 zf ax a7 hT;generalize wr.setCell ⟨w.heap.size+1,3,none⟩ (.int .i64 (x.at_+T))=v1 at*;have a9:Hid ((hs.map (nmP r.l)).length=j):=by show _=_;rw [List.length_map,hn.out]
          have ks:=Lib.hid (Kp v1.heap.size j cp Ap (hs.map (nmP r.l)) v1 a9.out s5.past.rd (by omega));have z4:v1.cell? ⟨w.heap.size+1,4,none⟩=some (.slice Ap j cp):=by have h9:=s5.b.cell 4;have h8:=s5.len;rw [← h8];exact h9
          have b1:=s5.b;have dl:=s5.sz;go_upto_region 16 with (go_at_call 46;(with_reducible refine (ks.out).mono ?_);rintro _ v2 ⟨A9,c9,rfl,o9,f9⟩;(have z5:=f9.cell z4 zq);(have zf:=(b1.fr f9 zq).frozen 4))
          have s6:=s5.past! f9 (fun _ e=>e.elim) (F9 o9 dl) (by rw [Rw];exact a9.out);have ar:=Own.setFar (i:=4) (be.fr f9 zr) (b1.fr f9 zq) (by decide) (.slice A9 j c9);clear s5 be ks z4 b1 dl z5 zf o9 f9;generalize v2.setCell ⟨w.heap.size+1,4,none⟩ (.slice A9 j c9)=v3 at*
          have da:Hid ((x.put S (x.at_+T) A9 c9 (An (hs.map (nmP r.l)))).op=Bf r.l x.op hs):=by
            show _=_;unfold Bf;show _=({x.op with sq:=Ao r.l (Ai r.l (hs.map (nmP r.l))) x.by_ r.l.length+1,at_:=x.at_+late r.l (hs.map (nmP r.l)),past:=An (hs.map (nmP r.l))}:Op);rw [← en.out,← a4.out];rfl
          have ba:Hid ((x.put S (x.at_+T) A9 c9 (An (hs.map (nmP r.l)))).op.ok):={hok with sq:=(show I64 S from ⟨by omega,by omega⟩),at_:=(show I64 (x.at_+T) from ⟨by omega,by omega⟩),past:=⟨by
              show (An (hs.map (nmP r.l))).length≤1000;rw [Rw,a9.out];omega,fun y hy=>by
              obtain ⟨p,hp,rfl⟩:=List.mem_map.1 ((Br _).mem_iff.1 hy);have fh:p<r.l.length:=by rw [hN.out];exact hlt.out p hp
              rw [Ek (An1 fh)];exact (h.ok _ (Ao7 fh)).2⟩}
          generalize hPS:hs.map (nmP r.l)=PS at*;have bj:Hid (∀(v:World) (CS:Array Value),Bl w v CS x S (x.at_+T) A9 j c9 (An PS)→(x.put S (x.at_+T) A9 c9 (An PS)).lies v base):=fun v _ s=>(hx.non s.f).put (by have h8:=s.len;have h9:=(RowAt.of_own s.past).lies.lower (base':=base) (by omega);rw [h8];exact h9);generalize hY:x.put S (x.at_+T) A9 c9 (An PS)=Y at*;obtain ⟨aa,al⟩:=Ab (Bf r.l x.op hs).name;have eg:Y.op.name=aa:=by rw [da.out,al.out]
          have fb:=Lib.hid (Ac9 Y aa eg v3 ((bj.out v3 _ s6).at) ba.out);have bq:(Tryz.prog.info? 67).map (·.size)=some Y.cells.size:=by rw [show Y.cells.size=27 from rfl];kernel_rfl
          have e0:=Bi (P:=Tryz.prog) (w.heap.size+1) 67 Tryz.underlying67 rfl (cs:=Y.cells) bq;have bx:Blk v3 (w.heap.size+1) 67 Y.cells:=hY▸s6.b;go_upto_region 17 with (go_at_call 55;(with_reducible refine (fb.out).mono ?_);rintro _ v4 ⟨rfl,f4⟩;(have em:=Bb (P:=Tryz.prog) v4.heap.size 41 (cs:=aa.V) Jq (old:=#[.int .i64 0,.int .i64 0,.int .u64 0]) rfl (Mw _ _ _));(have bn:=Blk.new v4 41 #[.int .i64 0,.int .i64 0,.int .u64 0]))
          have bz:=bn.setRow (cs:=aa.V);have fz:Fr Non v4 ((v4.alloc (.cells #[.int .i64 0,.int .i64 0,.int .u64 0] 41)).setRow v4.heap.size aa.V):=((Fr.refl Non v4).alloc _).setRow (fun hh=>absurd hh (by omega)) _;have s7:=(s6.non f4).non fz;have ac:=(ar.fr f4 zr).fr fz zr;have ci:w.heap.size+3≤v4.heap.size:=Am8 s6.sz f4.size;obtain ⟨gi,fv⟩:=Ab v4.heap.size;rw [fv.out] at bz fz s7 ac ci ⊢;clear em bn bx fb f4 s6 ar;generalize (v4.alloc (.cells #[.int .i64 0,.int .i64 0,.int .u64 0] 41)).setRow gi aa.V=v5 at*;clear fz;have a0:=bz.cell 0;have a1:=bz.cell 1;have a2:=bz.cell 2;have fk:=(s7.g.cell 2).trans g2.out;have dj:=Lib.hid (h.rdIds.fr s7.f zr);rw [hN.out,ch.out] at dj;have b6:=Lib.hid (Oo w.heap.size N IC IA r.ids aa v5 (by show _=_;rw [FG.ids_len,hN.out]) dj.out (by omega));have e4:Ct r.ids aa=(plc r.l aa).isSome:=Ag8 r.l aa;rw [e4] at b6;clear e4;unfold Ad at b6
          cases hc:(plc r.l aa).isSome
          case true=>
            rw [hc] at b6
            have e3:Dj r.l x.op hs=r.l:=by
              unfold Dj;rw [al.out,if_pos hc]
            have fs:=Bb (P:=Tryz.prog) (w.heap.size+2) 28 (cs:=r.cells) Bu (old:=#[.slice none 0 0,.slice none 0 0,.slice none 0 0,.slice none 0 0]) rfl (Ez r);have cl:Hid (∀v',Fr Non w v'→Ga base r x.op hs w (.returned (.agg r.cells)) v'):=fun v' hv=>⟨r,rfl,hv,h.non hv,rfl,e3.symm⟩;clear e3 hin hx h e0 bq da ba bj eg dj ac
            as_aux_lemma=>
            go_wp2_with (go_at_call 14;(with_reducible refine (b6.out).mono ?_);rintro _ v6 ⟨rfl,f6⟩;(have s8:=s7.non f6);(have bg:=s8.g);(have br:=s8.r));have d8:=br.setRow (cs:=r.cells);have fz:=s8.f.setRow (g:=w.heap.size+2) (fun hh=>absurd hh (by omega)) r.cells;have ed:=Lib.hid (cl.out _ fz)
            (try simp only [Exit.inBlock,Exit.then])
            refine Eh (t:=28) rfl rfl d8 rfl Tryz.underlying28 Bu rfl ?_;exact ed.out
          case false=>
            rw [hc] at b6
            have bo:plc r.l (Bf r.l x.op hs).name=none:=by
              rw [al.out]
              cases hq:plc r.l aa with
              |none=>rfl
              |some q=>rw [hq] at hc;cases hc
            obtain ⟨cn,e5⟩:=hin bo;obtain ⟨d,fl,fn⟩:=hdev;have fu:Y.by_=(d:Int):=by rw [← hY];exact fl
            have kS:=Lib.hid (fun (v:World) (hl:Y.lies v base)=>Ag6 Y d base v fu fn hl ba.out)
            have bd:Hid (∀(z:OpL) (lA iA pA:Option Addr) (lC iC pC:Nat) (wz:World),Fr Non w wz→z.op=sgn Y.op→z.lies wz base→
                Own wz (w.heap.size+3) 67 27 lA (N+1) lC (r.xs.flatMap (fun x=>x.cells.toList)++z.cells.toList)→
                Own wz (w.heap.size+3) 41 3 iA (N+1) iC (r.ids.flatMap Id.cells++aa.V.toList)→
                Own wz (w.heap.size+3) 22 1 pA (N+1) pC (r.ps.map UpL.cell++[.slice A7 k c7])→
                Own wz (w.heap.size+3) 3 1 A7 k c7 (ys.map Qv)→
                Ga base r x.op hs w (.returned (.agg #[.slice r.cA r.cards.length r.cC,.slice lA (N+1) lC,.slice iA (N+1) iC,.slice pA (N+1) pC])) wz):=by
              intro z lA iA pA lC iC pC wz hf hz dg oL oI oU o7;refine Ah5 h hb hf (by rw [hz,da.out]) dg (by rw [← da.out];exact ba.out) cg.out (by intro p hp;rw [hN.out];exact hlt.out p hp) (by rw [al.out];exact hc) cn e5 hN.out hM.out oL (by rw [al.out];exact oI) oU o7
            have eo:=Lib.hid (h.ops.sl.rd);rw [hN.out,de.out] at eo;have dp:=Lib.hid h.rdIds;rw [hN.out,ch.out] at dp;have d9:=Lib.hid (h.pasts.sl.rd);rw [hN.out] at d9;have cm:=Lib.hid (Ah3 r.xs);have b9:=Lib.hid (Id.cells_one r.ids);have ei:=Lib.hid (Ah4 r.ps);have g0:Hid (r.cells[0]? =some (.slice r.cA r.cards.length r.cC)):=rfl
            have e6:Hid (r.cells=#[.slice r.cA r.cards.length r.cC,.slice LA N LC,.slice IA N IC,.slice r.pA N r.pC]):=by
              show _=_;unfold FG.cells;rw [hN.out,de.out,eb.out,ch.out,dm.out]
            clear cn e5 hin hx h bq da bo al eg dj de eb ch dm en d4 a4 a9 hPS hlt cg cf bv b3 hn hr hp hM hok ez;rw [e6.out] at s7 hl g1 g2 g3 g0;obtain ⟨CA,el⟩:=Ab r.cA;obtain ⟨nc,dy⟩:=Ab r.cards.length;obtain ⟨CC,eh⟩:=Ab r.cC;obtain ⟨PA,ek⟩:=Ab r.pA;obtain ⟨PC,ff⟩:=Ab r.pC;rw [el.out,dy.out,eh.out,ek.out,ff.out] at s7 hl g1 g2 g3 g0;rw [el.out,dy.out,eh.out] at bd;rw [ek.out] at d9;clear e6 el dy eh ek ff;generalize Ga base r x.op hs w=POST at*;generalize r.xs.flatMap (fun x=>x.cells.toList)=LL at*;generalize r.ids.flatMap Id.cells=IL at*;generalize r.ps.map UpL.cell=UL at*;go_upto_region 19 with (go_at_call 14;(with_reducible refine (b6.out).mono ?_);rintro _ v6 ⟨rfl,f6⟩)
            have s8:=s7.non f6;have au:=ac.fr f6 zr;have fd:=bz.fr f6 zq;clear s7 ac bz a0 a1 a2 fk f6 b6;have F0:Fr Non v6 v6.drew:=(Fr.refl Non v6).drew;have ef:=s8.sz;have X0:Blk v6 (w.heap.size+1) 67 Y.cells:=hY▸s8.b;have G0:v6.cell? ⟨w.heap.size,1,none⟩=some (.slice LA N LC):=(s8.g.cell 1).trans g1.out;have fg:=Lib.hid (eo.out.fr s8.f zr);refine C6 (S:=fun w'=>Blk w' (w.heap.size+1) 67 Y.cells∧w'.cell? ⟨w.heap.size,1,none⟩=some (.slice LA N LC)) 8 (by kernel_rfl) ?_;refine tkG 0 ⟨X0,G0⟩ (h:=tkG 1 ⟨X0,G0⟩ (h:=tkG 3 ⟨X0,G0⟩ (h:=?_)));simp only [List.set];refine Bn 2 (by kernel_rfl) rfl (fun K hK=> ?_);refine Dx (base:=w.heap.size+3) (.const (.slice none 0 0)) (.tmp 95) 24 rfl rfl rfl Lx (Own.nil _ _ _ _) (fg.out.fr F0 zr) cm.out (by omega) (by omega) ef ?_;intro lA lC v1 oL fL ae;rw [An3,Ao0] at oL;have F1:Fr Non v6 v1:=F0.trans (Hl fL) zr;have bb:∀k,Ac lA=some k→v6.heap.size≤k:=fun k hk=>by rcases ae with e|e;(rw [e] at hk;cases hk);(rw [e] at hk;injection hk with hk;have fm:v6.heap.size=k:=hk;omega)
            have X1:=X0.fr F1 zq;have G1:=F1.cell G0 zq;refine hK.out _ _ ⟨X1,G1⟩ (fun hZ=> ?_);clear hZ hK K;try simp only [An3,Aj,List.set]
            refine Bn 4 (by kernel_rfl) rfl (fun K hK=> ?_);go_simp;go_wp2_with (go_at_call 56;(with_reducible refine (kS.out _ (bj.out _ _ (s8.non F1))).mono ?_);rintro _ v2 ⟨z,rfl,es,dg,f2⟩;have F2:=F1.trans f2 zr;have eu:=oL.fr f2 zr);have X2:=X0.fr F2 zq;have G2:=F2.cell G0 zq;refine hK.out _ _ ⟨X2,G2⟩ (fun hZ=> ?_);clear hZ hK K;try simp only [Aj,List.set]
            have fo:=Ah1 z;refine Bn 5 (by kernel_rfl) rfl (fun K hK=> ?_);go_simp;have a6:=Blk.new v2 67 z.cells;have du:=eu.alloc (.cells z.cells 67);have F3:Fr Non v6 (v2.alloc (.cells z.cells 67)):=F2.alloc _;have c6:=dg.non ((Fr.refl Non v2).alloc (.cells z.cells 67));obtain ⟨ga,cd⟩:=Ab v2.heap.size;rw [cd.out] at a6 ⊢;generalize v2.alloc (.cells z.cells 67)=v3 at*;have X3:=X0.fr F3 zq;have G3:=F3.cell G0 zq;refine hK.out _ _ ⟨X3,G3⟩ (fun hZ=> ?_);clear hZ hK K;try simp only [Aj,List.set]
            refine Bn 6 (by kernel_rfl) rfl (fun K hK=> ?_);refine Dx (base:=w.heap.size+3) (.tmp 96) (.tmp 99) 24 rfl rfl rfl Lx du (Rd.blk (n:=1) (size:=27) a6 rfl) (Sq z) (by omega) (by omega) (Am8 ef F3.size) ?_;intro ai ah v4 fe ec dw;have F4:Fr Non v6 v4:=F3.trans ec (fun k hk e=>by have h9:=bb k e;omega);have cw:=c6.keepP ec (Types.row du) (by decide) (by decide) (by decide) (by decide) (by decide) (by decide) (by decide);have X4:=X0.fr F4 zq;have G4:=F4.cell G0 zq;refine hK.out _ _ ⟨X4,G4⟩ (fun hZ=> ?_);clear hZ hK K;try simp only [Aj,List.set]
            refine tkG 7 ⟨X4,G4⟩ (h:=?_);simp only [List.set];have s9:=s8.non F4;have nz:=s9.g.frozen 1;refine Cy (by kernel_rfl) ?_;refine oG 8 (fun K hK=> ?_);go_simp;refine hK.out _ _ trivial (fun hZ=> ?_);clear hZ hK K;try simp only [Aj,List.set]
            refine oD ?_;go_simp;have t9:=s9.setG 1 (.slice ai (N+1) ah);have dn:=Own.setFar (i:=1) fe s9.g (by decide) (.slice ai (N+1) ah);have ee:=Own.setFar (i:=1) (au.fr F4 zr) s9.g (by decide) (.slice ai (N+1) ah);have dd:=(fd.fr F4 zq).far (p:=⟨w.heap.size,1,none⟩) (by have h9:=ci;show gi≠w.heap.size;omega) (.slice ai (N+1) ah);have dx:=cw.setG s9.g 1 (.slice ai (N+1) ah);generalize v4.setCell ⟨w.heap.size,1,none⟩ (.slice ai (N+1) ah)=w9 at*;change Bl w w9 #[.slice CA nc CC,.slice ai (N+1) ah,.slice IA N IC,.slice PA N PC] x S (x.at_+T) A9 j c9 (An PS) at t9;clear s9 s8 oL eu du fe fL ec ae dw bb F0 F1 F2 F3 F4 X0 X1 X2 X3 X4 G0 G1 G2 G3 G4 f2 a6 cd nz fg cm eo dg c6 cw fo kS e0 au fd hl bj ef;go_upto_region 20 with (fail)
            have cz:=t9.sz;have ea:=Lib.hid (dp.out.fr t9.f zr)
            go_cut [7] from 102 to 108 (fun s wc=>s=.slice A7 k c7∧∃iA iC,Bl w wc #[.slice CA nc CC,.slice ai (N+1) ah,.slice iA (N+1) iC,.slice PA N PC] x S (x.at_+T) A9 j c9 (An PS)∧Own wc (w.heap.size+3) 41 3 iA (N+1) iC (IL++aa.V.toList)∧Own wc (w.heap.size+3) 67 27 ai (N+1) ah (LL++z.cells.toList)∧Own wc (w.heap.size+3) 3 1 A7 k c7 (ys.map Qv)∧z.lies wc base)
            case first=>
              clear bd
              as_aux_lemma=>
              have F0:Fr Non w9 w9.drew:=(Fr.refl Non w9).drew;have G0:w9.cell? ⟨w.heap.size,2,none⟩=some (.slice IA N IC):=t9.g.cell 2;have I0:w9.cell? ⟨gi,0,none⟩=some (.int .i64 aa.b):=dd.cell 0;have J0:w9.cell? ⟨gi,1,none⟩=some (.int .i64 aa.s):=dd.cell 1;have K0:w9.cell? ⟨gi,2,none⟩=some (.int .u64 (aa.u:Int)):=dd.cell 2;refine C6 (S:=fun w'=>w'.cell? ⟨w.heap.size,2,none⟩=some (.slice IA N IC)∧w'.cell? ⟨gi,0,none⟩=some (.int .i64 aa.b)∧w'.cell? ⟨gi,1,none⟩=some (.int .i64 aa.s)∧w'.cell? ⟨gi,2,none⟩=some (.int .u64 (aa.u:Int))) 7 (by kernel_rfl) ?_;refine tkG 0 ⟨G0,I0,J0,K0⟩ (h:=tkG 1 ⟨G0,I0,J0,K0⟩ (h:=tkG 3 ⟨G0,I0,J0,K0⟩ (h:=?_)));simp only [List.set];refine Ah2 2 4 (by kernel_rfl) rfl rfl (fun K hK=> ?_) (fun K hK=> ?_)
              · skip
                refine Dx (base:=w.heap.size+3) (.const (.slice none 0 0)) (.tmp 103) 25 rfl rfl rfl Cp (Own.nil _ _ _ _) (ea.out.fr F0 zr) b9.out (by omega) (by omega) cz ?_;intro iA iC v1 oI fI ae;rw [An3,Ao0] at oI;have F1:Fr Non w9 v1:=F0.trans (Hl fI) zr;have bb:∀k,Ac iA=some k→w9.heap.size≤k:=fun k hk=>by rcases ae with e|e;(rw [e] at hk;cases hk);(rw [e] at hk;injection hk with hk;have fm:w9.heap.size=k:=hk;omega)
                have G1:=F1.cell G0 zq;have I1:=F1.cell I0 zq;have J1:=F1.cell J0 zq;have K1:=F1.cell K0 zq;refine hK.out _ _ ⟨G1,I1,J1,K1⟩ (fun hZ=> ?_);clear hZ hK K;try simp only [An3,Aj,List.set]
                refine Bn 4 (by kernel_rfl) rfl (fun K hK=> ?_);go_simp;have a6:=Blk.new v1 41 aa.V;have fi:=oI.alloc (.cells aa.V 41);have F2:Fr Non w9 (v1.alloc (.cells aa.V 41)):=F1.alloc _;obtain ⟨ga,cd⟩:=Ab v1.heap.size;rw [cd.out] at a6 ⊢;generalize v1.alloc (.cells aa.V 41)=v2 at*;have G2:=F2.cell G0 zq;have I2:=F2.cell I0 zq;have J2:=F2.cell J0 zq;have K2:=F2.cell K0 zq;refine hK.out _ _ ⟨G2,I2,J2,K2⟩ (fun hZ=> ?_);clear hZ hK K;try simp only [Aj,List.set]
                refine Bn 5 (by kernel_rfl) rfl (fun K hK=> ?_);refine Dx (base:=w.heap.size+3) (.tmp 104) (.tmp 106) 25 rfl rfl rfl Cp fi (Rd.blk (n:=1) (size:=3) a6 rfl) (by simp [Value.oneCell']) (by omega) (by omega) (Am8 cz F2.size) ?_;intro ak aj v3 ep dq bu;have F3:Fr Non w9 v3:=F2.trans dq (fun k hk e=>by have h9:=bb k e;omega);have G3:=F3.cell G0 zq;have I3:=F3.cell I0 zq;have J3:=F3.cell J0 zq;have K3:=F3.cell K0 zq;refine hK.out _ _ ⟨G3,I3,J3,K3⟩ (fun hZ=> ?_);clear hZ hK K;try simp only [Aj,List.set]
                refine tkG 6 ⟨G3,I3,J3,K3⟩ (h:=?_);simp only [List.set];have ad:=t9.non F3;have nz:=ad.g.frozen 2;refine Cy (by kernel_rfl) ?_;refine oG 7 (fun K hK=> ?_);go_simp;have d6:=ad.setG 2 (.slice ak (N+1) aj);have b5:=Own.setFar (i:=2) ep ad.g (by decide) (.slice ak (N+1) aj);have b0:=Own.setFar (i:=2) (dn.fr F3 zr) ad.g (by decide) (.slice ak (N+1) aj);have ca:=Own.setFar (i:=2) (ee.fr F3 zr) ad.g (by decide) (.slice ak (N+1) aj);have bt:=(dx.non F3).setG ad.g 2 (.slice ak (N+1) aj);refine hK.out _ _ trivial (fun hZ=> ?_);clear hZ hK K;try simp only [Aj,List.set]
                refine oD ?_;go_simp;go_wp2_with (fail);go_meet;exact ⟨rfl,ak,aj,d6,b5,b0,ca,bt⟩
              · skip
                go_simp;have az:=(Blk.new w9 41 aa.V).drew;have F1:Fr Non w9 (w9.alloc (.cells aa.V 41)).drew:=((Fr.refl Non w9).alloc _).drew;have dl:=F1.size;obtain ⟨ga,cd⟩:=Ab w9.heap.size;have fp:w9.heap.size≤w9.heap.size:=An7 _;rw [cd.out] at az ⊢;generalize (w9.alloc (.cells aa.V 41)).drew=v1 at*;have G1:=F1.cell G0 zq;have I1:=F1.cell I0 zq;have J1:=F1.cell J0 zq;have K1:=F1.cell K0 zq;refine hK.out _ _ ⟨G1,I1,J1,K1⟩ (fun hZ=> ?_);clear hZ hK K;try simp only [Aj,List.set]
                refine Bn 2 (by kernel_rfl) rfl (fun K hK=> ?_);refine Dx (base:=w.heap.size+3) (.const (.slice none 0 0)) (.tmp 103) 25 rfl rfl rfl Cp (Own.nil _ _ _ _) (ea.out.fr F1 zr) b9.out (by omega) (by omega) (Am8 cz dl) ?_;intro iA iC v2 oI fI ae;rw [An3,Ao0] at oI;have F2:Fr Non w9 v2:=F1.trans (Hl fI) zr;have a6:=az.fr (Hl fI) zq;have bb:∀k,Ac iA=some k→w9.heap.size≤k:=fun k hk=>by rcases ae with e|e;(rw [e] at hk;cases hk);(rw [e] at hk;injection hk with hk;omega)
                have G2:=F2.cell G0 zq;have I2:=F2.cell I0 zq;have J2:=F2.cell J0 zq;have K2:=F2.cell K0 zq;refine hK.out _ _ ⟨G2,I2,J2,K2⟩ (fun hZ=> ?_);clear hZ hK K;try simp only [An3,Aj,List.set]
                refine Bn 5 (by kernel_rfl) rfl (fun K hK=> ?_);refine Dx (base:=w.heap.size+3) (.tmp 104) (.tmp 106) 25 rfl rfl rfl Cp oI (Rd.blk (n:=1) (size:=3) a6 rfl) (by simp [Value.oneCell']) (by omega) (by omega) (Am8 cz F2.size) ?_;intro ak aj v3 ep dq bu;have F3:Fr Non w9 v3:=F2.trans dq (fun k hk e=>by have h9:=bb k e;omega);have G3:=F3.cell G0 zq;have I3:=F3.cell I0 zq;have J3:=F3.cell J0 zq;have K3:=F3.cell K0 zq;refine hK.out _ _ ⟨G3,I3,J3,K3⟩ (fun hZ=> ?_);clear hZ hK K;try simp only [Aj,List.set]
                refine tkG 6 ⟨G3,I3,J3,K3⟩ (h:=?_);simp only [List.set];have ad:=t9.non F3;have nz:=ad.g.frozen 2;refine Cy (by kernel_rfl) ?_;refine oG 7 (fun K hK=> ?_);go_simp;have d6:=ad.setG 2 (.slice ak (N+1) aj);have b5:=Own.setFar (i:=2) ep ad.g (by decide) (.slice ak (N+1) aj);have b0:=Own.setFar (i:=2) (dn.fr F3 zr) ad.g (by decide) (.slice ak (N+1) aj);have ca:=Own.setFar (i:=2) (ee.fr F3 zr) ad.g (by decide) (.slice ak (N+1) aj);have bt:=(dx.non F3).setG ad.g 2 (.slice ak (N+1) aj);refine hK.out _ _ trivial (fun hZ=> ?_);clear hZ hK K;try simp only [Aj,List.set]
                refine oD ?_;go_simp;go_wp2_with (fail);go_meet;exact ⟨rfl,ak,aj,d6,b5,b0,ca,bt⟩
            case rest=>
            obtain ⟨rfl,iA,iC,ad,oI,oL,o7,zl⟩:=hcut;generalize wc=wd at*;clear t9 dn ee dx dd ea cz dp b9;have bw:=ad.sz;have c2:=Lib.hid (d9.out.fr ad.f zr);have d3:=ad.g.cell 3;replace d3:wd.cell? ⟨w.heap.size,3,none⟩=some (.slice PA N PC):=d3
            go_upto_region 22 with (first
              |(at_builtin;go_loud (refine Az (base:=w.heap.size+3) (.const (.slice none 0 0)) (.tmp 110) 26 rfl rfl rfl rfl slIi (Own.nil _ _ _ _) c2.out ei.out (by omega) (by omega) bw ?_);intro pA pC v1 oU fU ae;rw [An3,Ao0] at oU;have F1:Fr Non wd v1:=Hl fU;have bb:∀k,Ac pA=some k→wd.heap.size≤k:=(fun k hk=>by rcases ae with e|e;(rw [e] at hk;cases hk);(rw [e] at hk;injection hk with hk;omega));have az:=Blk.new v1 22 #[.slice A7 k c7];have fc:=oU.alloc (.cells #[.slice A7 k c7] 22);have F2:Fr Non wd (v1.alloc (.cells #[.slice A7 k c7] 22)):=F1.alloc _;clear ae fU)
              |(at_builtin;go_loud (refine Az (base:=w.heap.size+3) (.tmp 111) (.tmp 113) 26 rfl rfl rfl rfl slIi fc (Rd.blk (n:=1) (size:=1) az rfl) (by simp [Value.oneCell']) (by omega) (by omega) (Am8 bw F2.size) ?_);intro ap aq v2 ey et bu;have F3:Fr Non wd v2:=F2.trans et (fun k hk e=>by have h9:=bb k e;omega);have a8:=ad.non F3;have z3:=a8.g.frozen 3;have n3:v2.cell? ⟨w.heap.size,3,none⟩=some (.slice PA N PC):=a8.g.cell 3))
            have cb:=a8.setG 3 (.slice ap (N+1) aq);have ck:=Own.setFar (i:=3) ey a8.g (by decide) (.slice ap (N+1) aq);have cq:=Own.setFar (i:=3) (oI.fr F3 zr) a8.g (by decide) (.slice ap (N+1) aq);have co:=Own.setFar (i:=3) (oL.fr F3 zr) a8.g (by decide) (.slice ap (N+1) aq);have c5:=Own.setFar (i:=3) (o7.fr F3 zr) a8.g (by decide) (.slice ap (N+1) aq);have ct:=(zl.non F3).setG a8.g 3 (.slice ap (N+1) aq);generalize v2.setCell ⟨w.heap.size,3,none⟩ (.slice ap (N+1) aq)=v13 at*;change Bl w v13 #[.slice CA nc CC,.slice ai (N+1) ah,.slice iA (N+1) iC,.slice ap (N+1) aq] x S (x.at_+T) A9 j c9 (An PS) at cb;clear ad a8 oI oL o7 zl oU fc ey et bu F1 F2 F3 az bb d3 n3 z3 c2 bw;have bf:(Tryz.prog.info? 28).map (·.size)=some (#[.slice CA nc CC,.slice ai (N+1) ah,.slice iA (N+1) iC,.slice ap (N+1) aq]:Array Value).size:=Bu;have a3:(#[.slice CA nc CC,.slice ai (N+1) ah,.slice iA (N+1) iC,.slice ap (N+1) aq]:Array Value).all (·.oneCell')=true:=by simp [Value.oneCell']
            have ay:=Lib.hid (bd.out z ai iA ap ah iC aq);obtain ⟨CZ,d5⟩:=Ab (#[.slice CA nc CC,.slice ai (N+1) ah,.slice iA (N+1) iC,.slice ap (N+1) aq]:Array Value);rw [d5.out] at bf a3 ay cb;have fx:=Bi (P:=Tryz.prog) w.heap.size 28 Tryz.underlying28 rfl (cs:=CZ) bf;have ft:=Bb (P:=Tryz.prog) (w.heap.size+2) 28 (cs:=CZ) bf (old:=#[.slice none 0 0,.slice none 0 0,.slice none 0 0,.slice none 0 0]) (by rw [← d5.out];rfl) a3;have bg:=cb.g;have br:=cb.r;clear d5 bd g0 g1 g2 g3 a3;have d8:=br.setRow (cs:=CZ);have fz:=cb.f.setRow (g:=w.heap.size+2) (fun hh=>absurd hh (by omega)) CZ;have fr:=Sn (w:=v13) (g:=w.heap.size+2) CZ;have a5:∀{t size n c:Nat} {A:Option Addr} {xs:List Value},Own v13 (w.heap.size+3) t size A n c xs→Own (v13.setRow (w.heap.size+2) CZ) (w.heap.size+3) t size A n c xs:=fun h=>h.fr fr (fun q hq e=>by have h9:=(h.row q hq).1;have h8:q=w.heap.size+2:=e;omega);have ed:=Lib.hid (ay.out _ fz es (ct.keepP fr (Types.one br) (by decide) (by decide) (by decide) (by decide) (by decide) (by decide) (by decide)) (a5 co) (a5 cq) (a5 ck) (a5 c5));clear ay fz fr a5 co cq ck c5 ct cb es
            as_aux_lemma=>
            go_wp2_with (fail)
            (try simp only [Exit.inBlock,Exit.then])
            refine Eh (t:=28) rfl rfl d8 rfl Tryz.underlying28 bf rfl ?_;exact ed.out
end Oq
end
section
open Go.RowKit
namespace Oq
theorem S1 {cards:List Cd} (hc:cards=Ba 0 [1,2,2,3]) {d:Int} (hd:1≤d∧d≤4):∃c,Cw cards d=some c∧c.s=Sg.pub (sec Bj d.toNat):=by
 subst hc;have h4:d=1∨d=2∨d=3∨d=4:=by omega
 show ∃c,List.find? _ [B1 0 1,B1 1 2,B1 2 2,B1 3 3]=some c∧_
 rcases h4 with rfl|rfl|rfl|rfl
 · exact ⟨B1 0 1,by rw [Ao1 (by rw [Dg];decide)],Hk _ _⟩
 · exact ⟨B1 1 2,by rw [An5 (by rw [Dg];decide),Ao1 (by rw [Dg];decide)],Hk _ _⟩
 · exact ⟨B1 2 2,by rw [An5 (by rw [Dg];decide),An5 (by rw [Dg];decide),Ao1 (by rw [Dg];decide)],Hk _ _⟩
 · exact ⟨B1 3 3,by rw [An5 (by rw [Dg];decide),An5 (by rw [Dg];decide),An5 (by rw [Dg];decide),Ao1 (by rw [Dg];decide)],Hk _ _⟩
def Dy (l:List Pn) (a b:Nat):List Nat:=[a/4%l.length]++(if 0≤Di l ((1:Int)+(a%4:Nat)) l.length∧0<a/64%5 then [(Di l ((1:Int)+(a%4:Nat)) l.length).toNat] else [])++(if b%3=0 then [b/3%l.length] else [])
def E1 (l:List Pn) (a b:Nat):Op:=Cq (if b%2=0 then 7 else 4) ((1:Int)+(a%4:Nat)) 0 ((b/6%4:Nat):Int) [] (nmP l 0) [UInt8.ofNat (65+b/2%3)]
def My (l:List Pn) (a b:Nat):List Pn:=Dj l (E1 l a b) (Cr l (Dy l a b))
def E2 (k0:List Int):Nat→List Pn
 |0=>Dj [] (Ej 1) []
 |j+1=>My (E2 k0 j) (Cm k0 (2*j)) (Cm k0 (2*j+1))
def E3 (k0:List Int):List Pn:=E2 k0 (min 13 (k0.length/2))
theorem S2 {l:List Pn} (hne:l≠[]) (a b:Nat):∀p∈Dy l a b,p<l.length:=by
 have h0:0<l.length:=List.length_pos_iff.2 hne;intro p hp;unfold Dy at hp
 rcases List.mem_append.1 hp with hp|hp
 ·
  rcases List.mem_append.1 hp with hp|hp
  ·
   rw [List.mem_singleton.1 hp];exact Nat.mod_lt _ h0
  ·
   split at hp
   ·
    rename_i hc;rw [List.mem_singleton.1 hp];have:=(Mg l ((1:Int)+(a%4:Nat)) l.length).2;omega
   · cases hp
 ·
  split at hp
  ·
   rw [List.mem_singleton.1 hp];exact Nat.mod_lt _ h0
  · cases hp
theorem S3 (l:List Pn) (a b:Nat):(Dy l a b).length≤3:=by
 unfold Dy;rw [An0,An0]
 split<;>split<;>simp
theorem Aj8 (l:List Pn) (a b:Nat):Dy l a b≠[]:=by
 unfold Dy;simp
theorem Aj9 (l:List Pn) (k b dt:Int) (hs:List Nat) (e:Id) (y:List UInt8):Bf l (Cq k b 0 dt [] e y) hs=Hp l k b dt hs e y:=by
 unfold Bf Hp;rw [Ho,Md];unfold Cq
 by_cases hk:k=7
 ·
  rw [if_pos hk,if_pos hk];rfl
 ·
  rw [if_neg hk,if_neg hk];rfl
theorem S4 {l:List Pn} (hB:FkB l) (h13:l.length≤13) {o:Op} {hs:List Nat} (hb:1≤o.by_∧o.by_≤12) (ha:o.at_≤3):FkB (l++[As l (sgn (Bf l o hs))]):=by
 have hlen:(l++[As l (sgn (Bf l o hs))]).length=l.length+1:=by rw [An0];rfl
 have hsq:(sgn (Bf l o hs)).sq=Ao l (Ai l (hs.map (nmP l))) o.by_ l.length+1:=by rw [Aa9];rfl
 have hat:(sgn (Bf l o hs)).at_=o.at_+late l (hs.map (nmP l)):=by rw [Ab0];rfl
 have hby:(sgn (Bf l o hs)).by_=o.by_:=by rw [Aa8];rfl
 have h1:Ao l (Ai l (hs.map (nmP l))) o.by_ l.length≤l.length:=Mc (by omega) hB.sq _;have h2:=Jk l (Ai l (hs.map (nmP l))) o.by_ l.length;have h3:late l (hs.map (nmP l))≤3*l.length:=P5 l _ (by omega) hB.at_ _;refine ⟨fun n hn=> ?_,fun n hn=> ?_,fun n hn=> ?_,fun n hn=> ?_,by rw [hlen];omega⟩<;>rw [List.mem_append,List.mem_singleton] at hn<;>rcases hn with hn|rfl
 · have:=hB.sq n hn;rw [hlen];omega
 · rw [hlen,Hm,hsq];omega
 · have:=hB.at_ n hn;rw [hlen];omega
 · rw [hlen,Hm,hat];omega
 · exact hB.by_ n hn
 · rw [Hm,hby];exact hb
 · exact hB.s1 n hn
 · rw [Hm,hsq];omega
theorem Ak0 {cards:List Cd} {l:List Pn} (h:Rows cards l) (hB:FkB l) {n:Pn} (hn:n∈l):n.id.named=true:=by
 obtain ⟨i,hi⟩:=List.getElem?_of_mem hn;rw [(h.ok i n hi).id];refine Rr (hB.by_ n hn) ⟨hB.s1 n hn,?_⟩;have:=hB.sq n hn;have:=hB.few;omega
theorem fk_in {cards:List Cd} {l:List Pn} (h:Rows cards l) (hB:FkB l) (hc:cards=Ba 0 [1,2,2,3]) (hne:l≠[]) (h13:l.length≤13) (a b:Nat):
  plc l (Bf l (E1 l a b) (Cr l (Dy l a b))).name=none→Ar cards l (sgn (Bf l (E1 l a b) (Cr l (Dy l a b))))=0∧FkB (l++[As l (sgn (Bf l (E1 l a b) (Cr l (Dy l a b))))]):=by
 intro hnew;have hlt:=S2 hne a b;have h0:0<l.length:=List.length_pos_iff.2 hne;refine ⟨?_,S4 hB h13 (by unfold E1;rw [Ho];omega) (by unfold E1;rw [Md];omega)⟩;unfold E1 at hnew ⊢;rw [Aj9] at hnew ⊢;refine Ae4 h hB (fun b h1 h2=>S1 hc ⟨h1,h2⟩) (Ae0 h (Aj8 l a b) hlt) (R6 _ _ _) (Am8 (Jj _ _ _) (S3 l a b)) (fun p hp=>hlt p (Hn _ hp).1) (fun p hp q hq=>(Hn _ hp).2 q (Hn _ hq).1) ⟨by omega,by omega⟩ ⟨by omega,by omega⟩ ?_ ⟨by simp,by simp⟩ hnew;have hn:l[0]? =some l[0]:=An1 h0;rw [Ek hn];exact Ak0 h hB (Ao7 h0)
theorem Ak1:Bf [] (Ej 1) []=Ej 1:=rfl
theorem Ak2 {cards:List Cd} (hc:cards=Ba 0 [1,2,2,3]):plc [] (Bf [] (Ej 1) []).name=none→Ar cards [] (sgn (Bf [] (Ej 1) []))=0∧FkB ([]++[As [] (sgn (Bf [] (Ej 1) []))]):=by
 intro _;obtain ⟨c,h1,h2⟩:=S1 hc (d:=1) ⟨by decide,by decide⟩;refine ⟨?_,S4 ⟨fun _ hn=>absurd hn An6,fun _ hn=>absurd hn An6,fun _ hn=>absurd hn An6,fun _ hn=>absurd hn An6,by decide⟩ (by decide) (by decide) (by decide)⟩;rw [Ak1];exact Rq (c:=c) (Ab2 (by decide)) rfl (by simp) h1 h2 (.inr rfl) rfl (by show clash [] []=false;unfold clash Ci;simp) (Int.le_refl _) rfl
theorem S5 (l:List Pn) (o:Op) (hs:List Nat):(Dj l o hs).length≤l.length+1:=by
 unfold Dj
 split
 · omega
 ·
  rw [An0];exact An7 _
theorem Ak3 {l:List Pn} (h:l≠[]) (o:Op) (hs:List Nat):Dj l o hs≠[]:=by
 unfold Dj
 split
 · exact h
 · simp
theorem Ht (k0:List Int):∀j,E2 k0 j≠[]
 |0=>by
  show Dj [] (Ej 1) []≠[];unfold Dj;rw [show plc [] (Bf [] (Ej 1) []).name=none from rfl,if_neg (by simp)];simp
 |j+1=>Ak3 (Ht k0 j) _ _
theorem S6 (k0:List Int):∀j,(E2 k0 j).length≤j+1
 |0=>S5 _ _ _
 |j+1=>Am8 (S5 _ _ _) (by have:=S6 k0 j;omega)
end Oq
end
end Go.Proofs.YtkanjaikgphjfaaGreatDoor
