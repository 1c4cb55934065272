/-
  Contracts of the functions that the claim's statement reaches, walked one by one (part 15).
  Conditions: as each theorem says.
-/
import Derived.Shelf.SlSortCmp.InsertionK
import Derived.Shelf.SlSortCmp.NoneTotal
import Derived.Shelf.SlSortCmp.WholeK
import Derived.Ground.SlsfProg
import Derived.Ground.NamesProg
import Derived.Shelf.SlGeneric
import Derived.ChangeKeysEq
import Derived.Test.YtihfebhfgliojaaGreatDoorGrW14
set_option maxRecDepth 100000
set_option maxHeartbeats 16000000
open Array renaming length_toList->Ao0,getElem?_append_left->Ao5,getElem?_modify->Ao6
open Bool renaming not_false->Ao2,not_true->Ao3
open List renaming not_mem_nil->An4,getElem?_eq_getElem->An5,mem_of_getElem?->An7,length->An8,length_take->An9,getElem?_take_of_lt->Ao1,getElem?_map->Ao4
open Nat renaming zero_le->An3,zero_add->An6
open Go.Proofs.Tryz
open Go.Proofs.Tryz renaming prog->zp
open Go.Lib renaming hid->lh
open List renaming set->zl
open Go.Ending renaming returned->ze
namespace Go.Proofs.YtihfebhfgliojaaGreatDoor
attribute [local go_sem ↓] Go.wp_at_zero Go.wp_at_succ
section
open Go.RowKit Go.Sort
namespace Oq
theorem Picked.from {g:Gph} {p:Nat->Bool} {w0 w:World} {e:Ending} {w':World} (h:Picked g p w e w') (hf:Fr Non w0 w):Picked g p w0 e w':=by
 obtain ⟨A,c,ids,h1,h2,h3,h4,h5⟩:=h;exact ⟨A,c,ids,h1,h2,h3,h4.lower hf.size,hf.trans h5 zr⟩
theorem Ag7 (i:Nat) (w:World):Calls zp 75 #[.int .i64 (i:Int)] w (Ae true w):=by
 go_enter func75,ntmps75;go_wp2
 go_ret
 exact ⟨rfl,Fr.refl _ _⟩
theorem Ag8 (base:Nat) (g:Gph) (w:World) (hsort:Io) (hg:GAt w base g):Calls zp 21 #[.pointer (some ⟨g.gb,0,none⟩)] w (Picked g (fun _=>true) w):=by
 have k:=lh (Pr base g 75 #[] #[] (fun _=>true) w hsort hg (enters_of func75 (by kernel_rfl) rfl) (fun w' i _ _=>Ag7 i w'));have hfin:Hid (∀e w',Picked g (fun _=>true) w e w'->Picked g (fun _=>true) w e w'):=fun _ _ h=>h;clear hg hsort;go_enter func21,ntmps21;go_wp2_with fail;refine (k.out).mono ?_;rintro _ w1 ⟨A,c,ids,rfl,h2,h3,h4,h5⟩;have hd:=lh (hfin.out _ _ ⟨A,c,ids,rfl,h2,h3,h4,h5⟩);clear hfin h2 h3 h4 h5 k;go_wp2_with fail
 go_ret
 exact hd.out
theorem Ag9 (base:Nat) (g:Gph) (B n c:Nat) (A:Option Addr) (ids:List Id) (w:World) (hsort:Io) (hg:GAt w base g) (hn:Hid (ids.length=n)) (hr:Rd w B 3 A n (ids.flatMap Id.cells)) (hnm:n<=1000000) (hok:∀id∈ids,id.ok):
  Calls zp 73 #[.pointer (some ⟨g.gb,0,none⟩),.slice A n c] w (Picked g (g.ups ids) w):=by
 have k:=lh (U3 base g B n c A ids w hg hn hr hnm hok);have hlen:=hg.few
 have k2:Hid (∀(a0 a1 a2 a3:Nat) (w1:World),Aq [a0,a1,a2,a3] (g.ups ids)->Fr Non w w1->
   Calls zp 74 #[.pointer (some ⟨g.gb,0,none⟩),.func (.func 70) #[.pointer (some ⟨w1.heap.size,0,none⟩)] #[]] (w1.alloc (.cells #[.int .u64 (a0:Int),.int .u64 (a1:Int),.int .u64 (a2:Int),.int .u64 (a3:Int)] 112)) (Picked g (g.ups ids) w)):=by
  intro a0 a1 a2 a3 w1 hset hf;have hf1:=hf.alloc (.cells #[.int .u64 (a0:Int),.int .u64 (a1:Int),.int .u64 (a2:Int),.int .u64 (a3:Int)] 112);have hb:=Blk.new w1 112 #[.int .u64 (a0:Int),.int .u64 (a1:Int),.int .u64 (a2:Int),.int .u64 (a3:Int)];refine (Pr base g 70 #[.pointer (some ⟨w1.heap.size,0,none⟩)] #[] (g.ups ids) _ hsort (hg.fr hf1) (enters_of func70 (by kernel_rfl) rfl) (fun w' i hw hi=> ?_)).mono (fun e w' h=>h.from hf1);have hb':=hb.fr hw zq;refine (J0 w1.heap.size 0 [a0,a1,a2,a3] (g.ups ids) i w' hset (fun j hj=> ?_) (by omega)).mono (fun e w'' h=>⟨h.1,h.2▸Fr.refl _ _⟩);rw [hb'.cell]
  match j,hj with
  |0,_=>rfl
  |1,_=>rfl
  |2,_=>rfl
  |3,_=>rfl
 have hsh:Hid (∀e w',Picked g (g.ups ids) w e w'->∃A m c,e=.returned (.slice A m c)):=fun _ _ ⟨A,c,xs,h,_⟩=>⟨A,xs.length,c,h⟩;generalize Picked g (g.ups ids) w=POST at*;clear hg hsort hr;go_enter func73,ntmps73;go_wp2_with fail;refine (k.out).mono ?_;rintro _ w1 ⟨a0,a1,a2,a3,rfl,hset,f1⟩;have kk:=lh (k2.out a0 a1 a2 a3 w1 hset f1);clear k k2;go_wp2_with fail;refine (kk.out).mono ?_;intro e w2 h;obtain ⟨A2,m2,c2,rfl⟩:=hsh.out _ _ h;replace h:=lh h;clear kk hsh;go_wp2_with fail;exact h.out
end Oq
end
section
open Go.RowKit Go.Sort Go.Shelf
namespace Oq
instance:Inhabited Id:=⟨⟨0,0,0⟩⟩
theorem Rq (xs:List Id) {j:Nat} (hj:j<xs.length*3):(xs.flatMap Id.cells)[j]? =some ((flatK Id.cells 3 xs.toArray)[j]!):=by
 rw [get_flatK _ _ _ _ (by simpa using hj)];have hk:j/3<xs.length:=by omega
 have h1:xs[j/3]? =some xs[j/3]:=An5 hk;have h2:=E6 (f:=Id.cells) (size:=3) (fun _=>rfl) xs (j/3) (j%3) _ h1 (by omega);rw [show j/3*3+j%3=j by omega] at h2;rw [h2];have h3:xs.toArray[j/3]! =xs[j/3]:=by simp [hk]
 rw [h3];have h4:j%3<(Id.cells xs[j/3]).length:=by show _<3;omega
 rw [An5 h4];simp [h4]
theorem Rr {w:World} {base n c:Nat} {t:TypeId} {g:Nat} {l:List Value} {size:Nat} (h:Own w base t size (some ⟨g,0,none⟩) n c l) (hn:0<n):
  ∃cur,Blk w g t cur/\cur.toList.take (n*size)=l/\n*size<=cur.size:=by
 rcases h.2 with ⟨_,h0⟩|⟨g',cap,cur,hv,hb,hg,h1,h2,h3,h4⟩
 · omega
 ·
  injection hv with hA hn' hc
  injection hA with hA
  injection hA with hA
  subst hA;refine ⟨cur,hg,h4,?_⟩;have h5:=congrArg An8 h4;rw [An9,Ao0,h.1] at h5;omega
theorem Ah0 {w:World} {base c:Nat} {t:TypeId} {g:Nat} {xs:List Id} (h:Own w base t 3 (some ⟨g,0,none⟩) xs.length c (xs.flatMap Id.cells)):HoldsK Id.cells 3 w g 0 xs.toArray:=by
 intro j hj;have hj':j<xs.length*3:=by simpa using hj
 obtain ⟨cur,hb,hl,hs⟩:=Rr h (by omega);have hf:=Rq xs hj';rw [An6];refine ⟨?_,hb.frozen j⟩;rw [hb.cell j,id,<- hf,<- hl,Ao1 hj'];simp
theorem Rs {w:World} {t:TypeId} {g n:Nat} {cur:Array Value} {d:Array Value} {os:Array Obj} (h:Blk w g t cur):
  Blk (grow (putRow id (Sort.ahead w n) g 0 d) os) g t (putCells id 0 d cur):=by
 have hlt:=h.lt;unfold Blk at*;unfold grow putRow mapBlock Sort.ahead;simp only;rw [Ao5 (by simpa using hlt),Ao6,if_pos rfl,h];rfl
theorem Rt (w:World) (g n:Nat) (d:Array Value) (os:Array Obj):Fr (One g) w (grow (putRow id (Sort.ahead w n) g 0 d) os):=by
 refine ⟨rfl,rfl,rfl,?_,?_⟩
 · simp [grow,putRow,mapBlock,Sort.ahead]
 ·
  intro k hk hne;unfold grow putRow mapBlock Sort.ahead;simp only;rw [Ao5 (by simpa using hk),Ao6,if_neg (fun e=>hne e.symm)]
theorem Ru {d cur:Array Value} {l:List Value} (hd:d.size=l.length) (hl:∀j,j<l.length->l[j]? =some d[j]!) (hs:l.length<=cur.size):(putCells id 0 d cur).toList.take l.length=l:=by
 apply List.ext_getElem?;intro j
 by_cases hj:j<l.length
 ·
  rw [Ao1 hj,hl j hj];have hc:j<cur.size:=by omega
  have hjd:j<d.size:=by omega
  simp [putCells,hc,hjd]
 · rw [List.getElem?_take_eq_none (by omega),List.getElem?_eq_none (by omega)]
theorem Ah1 {w:World} {base c:Nat} {t:TypeId} {g:Nat} {xs ys:List Id} (n:Nat) (os:Array Obj) (h:Own w base t 3 (some ⟨g,0,none⟩) xs.length c (xs.flatMap Id.cells)) (hx:0<xs.length) (hl:ys.length=xs.length):
  Own (sortWorldK Id.cells 3 w g 0 n ys.toArray os) base t 3 (some ⟨g,0,none⟩) ys.length c (ys.flatMap Id.cells):=by
 have hyl:(ys.flatMap Id.cells).length=ys.length*3:=E7 (f:=Id.cells) (fun _=>rfl) ys
 rcases h.2 with ⟨_,h0⟩|⟨g',cap,cur,hv,hb,hg,h1,h2,h3,h4⟩
 · omega
 ·
  injection hv with hA hn' hc
  injection hA with hA
  injection hA with hA
  subst hA;subst hc
  have hs:xs.length*3<=cur.size:=by
   have h5:=congrArg An8 h4;rw [An9,Ao0,h.1] at h5;omega
  have hnew:=Rs (n:=n) (os:=os) (d:=flatK Id.cells 3 ys.toArray) (show Blk w g t cur from hg);refine ⟨hyl,.inr ⟨g,c,putCells id 0 (flatK Id.cells 3 ys.toArray) cur,rfl,hb,hnew,by omega,h2,?_,?_⟩⟩
  · simpa [putCells] using h3
  ·
   rw [<- hyl];exact Ru (by rw [hyl];simp) (fun j hj=>Rq ys (by omega)) (by omega)
theorem I7 (x y:Id):ltOf Ev x y=Id.less x y:=by
 unfold ltOf Ev
 cases Id.less x y<;>cases Id.less y x<;>rfl
theorem Ah2:SWO (ltOf Ev) where
 irrefl x:=by rw [I7];exact Id.less_irr x
 trans x y z h1 h2:=by
  rw [I7] at*;exact Id.less_tr h1 h2
 ntrans x y z h1 h2:=by
  rw [I7] at*
  rcases Id.less_f h1 with rfl|h1
  · exact h2
  ·
   rcases Id.less_f h2 with rfl|h2
   · exact Id.less_as h1
   · exact Id.less_as (Id.less_tr h2 h1)
end Oq
end
end Go.Proofs.YtihfebhfgliojaaGreatDoor
namespace Go.Proofs
open Go.Shelf Go.RowKit Go.Lib Go.Sort
def Tryz.sortIdents_ren:Go.Shelf.Ren:=⟨fun|6=>82|15=>134|14=>136|28=>196|29=>197|20=>198|21=>199|22=>200|23=>201|24=>202|25=>203|26=>204|27=>205|46=>234|47=>230|48=>231|49=>235|50=>236|57=>246|n=>n,fun|22=>28|24=>38|25=>134|3=>3|39=>179|0=>0|53=>233|55=>23|4=>4|46=>227|45=>226|50=>115|5=>5|9=>9|66=>252|70=>255|76=>267|77=>268|n=>n,fun|n=>n⟩
theorem Tryz.sortIdents:Go.Proofs.SlLaysF0.n6 zp Tryz.sortIdents_ren:={
  mixed:=by kernel_rfl
  f6:=⟨Tryz.f82.name,by decide,Tryz.func82.trans (congrArg some (by kernel_rfl))⟩
  f14:=⟨Tryz.f136.name,by decide,Tryz.func136.trans (congrArg some (by kernel_rfl))⟩
  f15:=Tryz.func134.trans (congrArg some (by kernel_rfl))
  f20:=⟨Tryz.f198.name,by decide,Tryz.func198.trans (congrArg some (by kernel_rfl))⟩
  f21:=⟨Tryz.f199.name,by decide,Tryz.func199.trans (congrArg some (by kernel_rfl))⟩
  f22:=⟨Tryz.f200.name,by decide,Tryz.func200.trans (congrArg some (by kernel_rfl))⟩
  f23:=⟨Tryz.f201.name,by decide,Tryz.func201.trans (congrArg some (by kernel_rfl))⟩
  f24:=⟨Tryz.f202.name,by decide,Tryz.func202.trans (congrArg some (by kernel_rfl))⟩
  f25:=⟨Tryz.f203.name,by decide,Tryz.func203.trans (congrArg some (by kernel_rfl))⟩
  f26:=⟨Tryz.f204.name,by decide,Tryz.func204.trans (congrArg some (by kernel_rfl))⟩
  f27:=⟨Tryz.f205.name,by decide,Tryz.func205.trans (congrArg some (by kernel_rfl))⟩
  f28:=Tryz.func196.trans (congrArg some (by kernel_rfl))
  f29:=Tryz.func197.trans (congrArg some (by kernel_rfl))
  f46:=⟨Tryz.f234.name,by decide,Tryz.func234.trans (congrArg some (by kernel_rfl))⟩
  f47:=Tryz.func230.trans (congrArg some (by kernel_rfl))
  f48:=Tryz.func231.trans (congrArg some (by kernel_rfl))
  f49:=⟨Tryz.f235.name,by decide,Tryz.func235.trans (congrArg some (by kernel_rfl))⟩
  f50:=⟨Tryz.f236.name,by decide,Tryz.func236.trans (congrArg some (by kernel_rfl))⟩
  f57:=⟨Tryz.f246.name,by decide,Tryz.func246.trans (congrArg some (by kernel_rfl))⟩
  t0:=underlying0
  a0:=isAgg0
  z0:=sizeOf0
  v0:=zeroValue0
  t3:=underlying3
  a3:=isAgg3
  z3:=sizeOf3
  v3:=zeroValue3
  t4:=underlying4
  a4:=isAgg4
  z4:=sizeOf4
  v4:=zeroValue4
  t5:=underlying5
  a5:=isAgg5
  z5:=sizeOf5
  v5:=zeroValue5
  t9:=underlying9
  a9:=isAgg9
  z9:=sizeOf9
  v9:=zeroValue9
  t22:=underlying28
  a22:=isAgg28
  z22:=sizeOf28
  v22:=zeroValue28
  t25:=underlying134
  a25:=isAgg134
  z25:=sizeOf134
  v25:=zeroValue134
  t39:=underlying179
  a39:=isAgg179
  z39:=sizeOf179
  v39:=zeroValue179
  t45:=underlying226
  a45:=isAgg226
  z45:=sizeOf226
  v45:=zeroValue226
  t46:=underlying227
  a46:=isAgg227
  z46:=sizeOf227
  v46:=zeroValue227
  t50:=underlying115
  a50:=isAgg115
  z50:=sizeOf115
  v50:=zeroValue115
  t53:=underlying233
  a53:=isAgg233
  z53:=sizeOf233
  v53:=zeroValue233
  t55:=underlying23
  a55:=isAgg23
  z55:=sizeOf23
  v55:=zeroValue23
  t66:=underlying252
  a66:=isAgg252
  z66:=sizeOf252
  v66:=zeroValue252
  t70:=underlying255
  a70:=isAgg255
  z70:=sizeOf255
  v70:=zeroValue255
  t76:=underlying267
  a76:=isAgg267
  z76:=sizeOf267
  v76:=zeroValue267
  t77:=underlying268
  a77:=isAgg268
  z77:=sizeOf268
  v77:=zeroValue268}
end Go.Proofs
namespace Go.Proofs.YtihfebhfgliojaaGreatDoor
open Go.RowKit
attribute [local go_sem ↓] Go.wp_at_zero Go.wp_at_succ
section
open Go.RowKit Go.Sort Go.Shelf
namespace Oq
theorem Ah3 (blk off size:Nat) (w:World):CmpLays zp 132 #[] Id.cells 3 Ev blk off size w:=
 fun _ _ _ _ x y=>Tx x y _
theorem Rv:Io:=by
 intro base A c xs w hown hlen
 by_cases h0:xs.length=0
 ·
  have hx:xs=[]:=List.eq_nil_of_length_eq_zero h0;subst hx;have hcon:=AnyF.slices_SortFunc_none Tryz.sortIdents A c (.func (.func 132) #[] #[]) w;refine Calls.mono hcon ?_;rintro e w' ⟨rfl,rfl⟩;exact ⟨rfl,[],List.Perm.refl _,List.Pairwise.nil,hown,Fr.refl _ _⟩
 ·
  obtain ⟨g,rfl⟩:∃g,A=some ⟨g,0,none⟩:=by
   rcases hown.2 with ⟨_,hn⟩|⟨g,cap,cur,hv,_⟩
   · exact absurd hn h0
   ·
    injection hv with hA _ _
    exact ⟨g,hA⟩
  have hrow:=hown.row g rfl;have eg:∀args w,(callFunc 132 args).run zp w=.ok (.enter 132 args) w:=enters_of func132 (by kernel_rfl) rfl;have hcon:=AnyQ.slices_SortFunc Tryz.sortIdents 3 isAgg38 sizeOf38 Id.cells (fun _=>rfl) (fun x v hv=>by simp [Id.cells] at hv;rcases hv with rfl|rfl|rfl<;>rfl) Ev Ah2 132 #[] g 0 c xs.toArray w eg (Ah3 g 0 _ w) (Ah0 hown) hrow.2 (by simp;omega)
  refine Calls.mono hcon ?_;rintro e w' ⟨rfl,d',n,os,hp,hs,rfl⟩;have hds:d'.size=xs.length:=by rw [hp.1];simp
  have hperm:d'.toList.Perm xs:=by
   have h1:=hp.2.2
   have e1:d'.extract 0 xs.toArray.size=d':=by
    rw [show xs.toArray.size=d'.size from hp.1.symm];simp
   have e2:xs.toArray.extract 0 xs.toArray.size=xs.toArray:=by simp
   rw [e1,e2] at h1;simpa using h1
  refine ⟨rfl,d'.toList,hperm,?_,?_,?_⟩
  ·
   rw [List.pairwise_iff_getElem];intro i j hi hj hij;have h1:=hs i j (An3 _) hij (by rw [<- hp.1];simpa using hj);rw [I7] at h1;have hi':i<d'.size:=by simpa using hi
   have hj':j<d'.size:=by simpa using hj
   rw [getElem!_pos d' i hi',getElem!_pos d' j hj'] at h1;simpa using h1
  ·
   have h1:=Ah1 (ys:=d'.toList) n os hown (by omega) (by simpa using hds);simpa using h1
  · exact (Rt w g n _ os).mono (fun k hk e=>by have e':k=g:=e;subst e';rfl)
end Oq
end
section
open Go.RowKit Go.Sort
namespace Oq
attribute [local go_sem] Ao2 Ao3
theorem Ah4 {w:World} {g:Nat} {t:TypeId} {ws:List Nat} (h:Blk w g t (ws.map Uv).toArray) (hl:ws.length=4):Em w g 0 ws:=fun j hj=>by
 rw [h.cell,An6,List.getElem?_toArray,Ao4,An5 (by omega)];simp [Uv,List.getD,An5 (show j<ws.length by omega)]
theorem Ah5 {w:World} {g k i v:Nat} {t:TypeId} {ws:List Nat} (h:Blk w g t (ws.map Uv).toArray):Blk ((w.drewN k).setCell ⟨g,i,none⟩ (.int .u64 (v:Int))) g t ((ws.set i v).map Uv).toArray:=by
 have h1:=(h.drewN k).set i (.int .u64 (v:Int));rw [List.map_set];have e:(ws.map Uv).toArray.setIfInBounds i (.int .u64 (v:Int))=((ws.map Uv).set i (Uv v)).toArray:=by simp [Uv]
 rw [<- e];exact h1
end Oq
end
namespace Oq
attribute [local go_sem] Ao2 Ao3
structure LSt (w wr:World) (x y:OpL) (gs pb:Nat) (PW:List Nat) (a0 a1 a2 a3 lv:Nat):Prop where
 bx:Blk wr w.heap.size 44 x.cells
 bn:Blk wr gs 114 (⟨y,x.op.name,0,0,0,0,lv⟩:Ag).cells.toArray
 bp:Blk wr pb 112 (PW.map Uv).toArray
 ba:Blk wr (pb+1) 112 #[.int .u64 (a0:Int),.int .u64 (a1:Int),.int .u64 (a2:Int),.int .u64 (a3:Int)]
 yown:y.own wr w.heap.size
 fr:Fr Non w wr
 lo1:w.heap.size<gs
 lo2:gs<pb
section
variable {w wr w' : World} {x y : OpL} {gs pb : Nat} {PW : List Nat} {a0 a1 a2 a3 lv : Nat}
theorem LSt.non (L:LSt w wr x y gs pb PW a0 a1 a2 a3 lv) (hf:Fr Non wr w'):LSt w w' x y gs pb PW a0 a1 a2 a3 lv:=
 ⟨L.bx.fr hf zq,L.bn.fr hf zq,L.bp.fr hf zq,L.ba.fr hf zq,L.yown.non hf,L.fr.trans hf zr,L.lo1,L.lo2⟩
theorem LSt.par (L:LSt w wr x y gs pb PW a0 a1 a2 a3 lv) {PW':List Nat} (hf:Fr (One pb) wr w') (hb:Blk w' pb 112 (PW'.map Uv).toArray):LSt w w' x y gs pb PW' a0 a1 a2 a3 lv:=by
 have h1:=L.lo1;have h2:=L.lo2;exact ⟨L.bx.fr hf (by unfold One;omega),L.bn.fr hf (by unfold One;omega),hb,L.ba.fr hf (by unfold One;omega),L.yown.keepP hf (Types.one L.bp) (by decide) (by decide) (by decide) (by decide) (by decide) (by decide) (by decide),L.fr.trans hf (fun k hk e=>by have e':k=pb:=e;omega),h1,h2⟩
theorem LSt.abv (L:LSt w wr x y gs pb PW a0 a1 a2 a3 lv) {b0 b1 b2 b3:Nat} (hf:Fr (One (pb+1)) wr w') (hb:Blk w' (pb+1) 112 #[.int .u64 (b0:Int),.int .u64 (b1:Int),.int .u64 (b2:Int),.int .u64 (b3:Int)]):LSt w w' x y gs pb PW b0 b1 b2 b3 lv:=by
 have h1:=L.lo1;have h2:=L.lo2;exact ⟨L.bx.fr hf (by unfold One;omega),L.bn.fr hf (by unfold One;omega),L.bp.fr hf (by unfold One;omega),hb,L.yown.keepP hf (Types.one L.ba) (by decide) (by decide) (by decide) (by decide) (by decide) (by decide) (by decide),L.fr.trans hf (fun k hk e=>by have e':k=pb+1:=e;omega),h1,h2⟩
theorem LSt.lev (L:LSt w wr x y gs pb PW a0 a1 a2 a3 lv) (lv':Nat):LSt w (wr.setCell ⟨gs,34,none⟩ (.int .i64 (lv':Int))) x y gs pb PW a0 a1 a2 a3 lv':=by
 have h1:=L.lo1;have h2:=L.lo2;have hf:=(Fr.refl (One gs) wr).setOne 34 (.int .i64 (lv':Int));exact ⟨L.bx.fr hf (by unfold One;omega),L.bn.set 34 _,L.bp.fr hf (by unfold One;omega),L.ba.fr hf (by unfold One;omega),L.yown.keepP hf (Types.one L.bn) (by decide) (by decide) (by decide) (by decide) (by decide) (by decide) (by decide),L.fr.trans hf (fun k hk e=>by have e':k=gs:=e;omega),h1,h2⟩
end
structure CSt (w wr:World) (base:Nat) (g:Gph) (x y:OpL) (gs pb:Nat) (PW:List Nat) (a0 a1 a2 a3 lv:Nat) (lt:Int) (wa:World):Prop where
 A:Lb w wa base g x y gs
 L:LSt w wr x y gs pb PW a0 a1 a2 a3 lv
 par:Aq PW (Bu g.pns x.op.past)
 abv:Aq [a0,a1,a2,a3] (Av g.pns x.op.past)
 hlt:lt=late g.pns x.op.past
 hlv:lv=lvl g.pns x.op.past
def addC:PSigma (fun P:Prop=>PLift P->addB.1):=PSigma.mk _ (by
 intro hP;conv=>whnf
 intro t5 t7 t8 t9 t10 t11 t12 t13 t14 t15 t16 t17 t18 t19 t20 t21 t22 t23 t24 t25 t26 t27 t28 t29 t30 t31 t32 t33 t34 t35 t36 t37 t38 t39 t40 t41 t42 t43 t44 t45 t46 t47 t48 t49 t50 t51 t52 t53 t54 t55 t56 t57 t58 t59 t60 t61 t62 t63 t64 t65 t66 t67 t68 t69 t70 t71 t72 t79 t80 t81 t82 t83 t84 t85 t86 t87 t88 t89 t90 t91 t92 t93 t94 t95 t96 t97 t98 t99 t100 t101 t102 t103 t104 t105 t106 t107 t108 t109 t110 t111 t112 t113 t114 t115 t116 t117 t118 t119 t120 t121 t122 t123 t124 t125 t126 t127 t128 t129 t130 t131 t132 t133 t134 t135 t136 t137 t138 t139 t140 t141 t142 t143 t144 t145 t146 t147 t148 t149 t150 t151 t152 t153 t154 t155 t156 t157 t158 t159 t160 t161 t162 t163 t164 t165 t166 t167 t168 t169 t170 t171 t172 t173 t174 t175 t176 t177 t178 t179 t180 t181 t182 t183 t184 t185 t186 t187 t188 t189 t190 t191 t192 t193 t194 t195 t196 t197 t198 t199 t200 t201 t202 t203 t204 t205 t206 t207 t208 t209 t210 t211 t212 t213 t214 t215 t216 t217 t218 t219 t220 t221 t222 t223 t224 t225 t226 t227 t228 t229 t230 t231 t232 t233 base g x w y gs hgw lpast m w6 A6 c6 K hK H;have hg:=H.hg;have hok:=H.hok;have hat:=H.hat;have hlen:=hg.few;have hall:=lh H.all;have hH:=lh H;have hpo:x.op.past=x.past:=rfl;obtain ⟨n,hn⟩:=Aa x.past.length;have hnm:n<=1000:=by have h:=hok.past.1;rw [show x.op.past=x.past from rfl,hn.out] at h;exact h
 have L0:LSt w ((w6.alloc (.cells #[.int .u64 0,.int .u64 0,.int .u64 0,.int .u64 0] 112)).alloc (.cells #[.int .u64 0,.int .u64 0,.int .u64 0,.int .u64 0] 112)) x y gs w6.heap.size [0,0,0,0] 0 0 0 0 1:=by
  have f1:Fr Non w6 ((w6.alloc (.cells #[.int .u64 0,.int .u64 0,.int .u64 0,.int .u64 0] 112)).alloc (.cells #[.int .u64 0,.int .u64 0,.int .u64 0,.int .u64 0] 112)):=((Fr.refl Non w6).alloc _).alloc _;have b2:=Blk.new (w6.alloc (.cells #[.int .u64 0,.int .u64 0,.int .u64 0,.int .u64 0] 112)) 112 #[.int .u64 0,.int .u64 0,.int .u64 0,.int .u64 0];rw [World.size_alloc] at b2;exact ⟨H.bx.fr f1 zq,H.bn.fr f1 zq,(Blk.new w6 112 #[.int .u64 0,.int .u64 0,.int .u64 0,.int .u64 0]).alloc _,b2,H.yown.non f1,H.fr.trans f1 zr,hgw,H.bn.lt⟩
 obtain ⟨CX,a9⟩:=Aa x.cells;have e4:Hid (CX[4]? =some (.slice x.pastA n x.pastC)):=by show _=_;rw [<- a9.out,<- hn.out];rfl
 have x4:((w6.alloc (.cells #[.int .u64 0,.int .u64 0,.int .u64 0,.int .u64 0] 112)).alloc (.cells #[.int .u64 0,.int .u64 0,.int .u64 0,.int .u64 0] 112)).cell? ⟨w.heap.size,4,none⟩=some (.slice x.pastA n x.pastC):=by
  have h:=L0.bx.cell 4;rw [a9.out,e4.out] at h;exact h
 rw [a9.out];clear hpo H;go_upto_region 20 with (fail)
 generalize (w6.alloc (.cells #[.int .u64 0,.int .u64 0,.int .u64 0,.int .u64 0] 112)).alloc (.cells #[.int .u64 0,.int .u64 0,.int .u64 0,.int .u64 0] 112)=w7 at*;obtain ⟨pb,br⟩:=Aa w6.heap.size;rw [br.out] at L0 ⊢;go_wp2_with fail
 go_loopw [13,82] (fun tv v wr=>∃(k:Nat) (PW:List Nat) (a0 a1 a2 a3 lv:Nat) (lt:Int),tv=.int .i64 lt/\v=.int .i64 (k:Int)/\k<=n/\Hid (Aq PW (Bu g.pns (x.past.take k)))/\Hid (Aq [a0,a1,a2,a3] (Av g.pns (x.past.take k)))/\Hid (lt=late g.pns (x.past.take k))/\Hid (lv=lvl g.pns (x.past.take k))/\Hid (LSt w wr x y gs pb PW a0 a1 a2 a3 lv)) (fun _ v _=>n-(intOf v).toNat)
 case atStart=>exact ⟨0,[0,0,0,0],0,0,0,0,1,0,rfl,rfl,by omega,Aq.empty,Aq.empty,rfl,rfl,L0⟩
 case round=>
  obtain ⟨k,PW,a0,a1,a2,a3,lv,lt,rfl,rfl,hk,al,aq,ay,au,hL⟩:=hrel
  by_cases hkn:k<n
  ·
   clear hP L0 x4
   as_aux_lemma=>
   have L:=hL.out;obtain ⟨i1,i2,i3⟩:=ix k n
   obtain ⟨id,hid⟩:∃z,x.past[k]? =some z:=⟨_,An5 (by rw [hn.out];exact hkn)⟩;have aw:id.ok:=hok.past.2 id (An7 hid)
   obtain ⟨i,ap⟩:∃i,plc g.pns id=some i:=by
    have h1:=hall.out;rw [List.any_eq_false] at h1;have h2:=h1 id (An7 hid)
    cases h3:plc g.pns id with
    |none=>rw [h3] at h2;exact absurd rfl h2
    |some i=>exact ⟨i,rfl⟩
   have ao:Af g.nodes id=some i:=by rw [<- ap];exact (Fv g.nodes id).symm
   obtain ⟨nd,ar,_⟩:=Fp ao;have b6:i<g.nodes.length:=(List.getElem?_eq_some_iff.1 ar).1;have ah:i<256:=by omega
   have bd:g.pns[i]? =some nd.pn:=by unfold Gph.pns;rw [Ao4,ar];rfl
   have ad:Hid (Aq [nd.a0,nd.a1,nd.a2,nd.a3] nd.past):=(hg.node nd (An7 ar)).set;have bv:=hg.levs nd (An7 ar)
   have ag:Hid (Bu g.pns (x.past.take (k+1))=fun q=>q==i||Bu g.pns (x.past.take k) q):=by
    show _=_;rw [Wn g.pns x.past k hid,ap];funext q;congr 1
    by_cases h:q=i
    · subst h;simp
    ·
     have h':¬i=q:=fun e=>h e.symm;simp only [beq_eq_false_iff_ne.2 h];exact beq_eq_false_iff_ne.2 (fun e=>h' (Option.some.inj e))
   have ai:Hid (Av g.pns (x.past.take (k+1))=fun q=>Av g.pns (x.past.take k) q||nd.past q):=by
    show _=_;rw [Ov g.pns x.past k hid];funext q;unfold upB;rw [ap];simp only [bd];rfl
   have av:Hid (late g.pns (x.past.take (k+1))=max (late g.pns (x.past.take k)) nd.x.at_):=by
    show _=_;rw [Ow g.pns x.past k hid];unfold Ca;rw [ap];simp only [bd];rfl
   have a7:Hid (lvl g.pns (x.past.take (k+1))=max (lvl g.pns (x.past.take k)) (nd.lev+1)):=by
    show _=_;rw [Wo g.pns x.past k hid];unfold Cr;rw [ap];simp only [bd];rfl
   obtain ⟨b,ca,hA,b9,d0,d1,d2⟩:=Id.at (hat.past.1.fr L.fr zr) hid;obtain ⟨bn,aa,bh,b1,aj⟩:=hg.cell ar
   have az:∀w',MapAt w' g.mb g.mm (Af g.nodes)->(Instr.lookup 116 (.map (some g.mb)) (.agg id.V) false).run zp w'=.ok (.int .i64 (i:Int)) w':=fun w' h=>by
    have h1:=MapAt.look1 h id aw;rw [ao] at h1;exact h1
   have ab:Hid (∀wv,Fr Non w wv->wv.cell? ⟨g.gb,1,none⟩=some (.map (some g.mb))/\wv.cell? ⟨g.gb,2,none⟩=some (.slice (some ⟨bn,aa,none⟩) g.nodes.length g.nC)/\MapAt wv g.mb g.mm (Af g.nodes)/\
     wv.cell? ⟨bn,aa+i*35+3,none⟩=some (.int .i64 nd.x.at_)/\wv.cell? ⟨bn,aa+i*35+34,none⟩=some (.int .i64 (nd.lev:Int))/\
     wv.cell? ⟨bn,aa+i*35+30,none⟩=some (.int .u64 (nd.a0:Int))/\wv.cell? ⟨bn,aa+i*35+30+1,none⟩=some (.int .u64 (nd.a1:Int))/\wv.cell? ⟨bn,aa+i*35+30+2,none⟩=some (.int .u64 (nd.a2:Int))/\wv.cell? ⟨bn,aa+i*35+30+3,none⟩=some (.int .u64 (nd.a3:Int))):=by
    intro wv hf;have bi:=hg.fr hf;have hc:∀j,j<35->∀u,nd.cells[j]? =some u->wv.cell? ⟨bn,aa+i*35+j,none⟩=some u:=fun j hj u hu=>hf.cell (aj j hj u hu) zq;refine ⟨bi.blk.cell 1,?_,bi.map,hc 3 (by omega) _ rfl,hc 34 (by omega) _ rfl,hc 30 (by omega) _ rfl,hc 31 (by omega) _ rfl,hc 32 (by omega) _ rfl,hc 33 (by omega) _ rfl⟩;rw [<- bh];exact bi.blk.cell 2
   have b5:g.gb<w.heap.size:=hg.blk.lt;have b8:g.mb<w.heap.size:=hg.map.lt;have L1:=L.non ((Fr.refl Non wr).alloc (.cells id.V 38));have ax:=Blk.new wr 38 id.V;have be:pb<wr.heap.size:=L.bp.lt;rw [hA];replace hA:=lh hA;replace bh:=lh bh;obtain ⟨j1,j2,j3⟩:=ix i g.nodes.length
   have j4:=iw (i:Int);clear hid ap ao ar bd aj hall L b9 hg hat hok b6;go_upto_region 24 with (fail)
   obtain ⟨ib,b0⟩:=Aa wr.heap.size;rw [b0.out] at ax be ⊢;generalize wr.alloc (.cells id.V 38)=w1 at*;have i4:w1.cell? ⟨ib,0,none⟩=some (.int .i64 id.b):=ax.cell 0;have i5:w1.cell? ⟨ib,1,none⟩=some (.int .i64 id.s):=ax.cell 1;have i6:w1.cell? ⟨ib,2,none⟩=some (.int .u64 (id.u:Int)):=ax.cell 2;obtain ⟨c1,c2,ac,-⟩:=ab.out w1 L1.fr;generalize g.nodes.length=nn at*;refine wp_region_held_drew (S:=(fun w'=>w'.cell? ⟨ib,0,none⟩=some (.int .i64 id.b)/\w'.cell? ⟨ib,1,none⟩=some (.int .i64 id.s)/\w'.cell? ⟨ib,2,none⟩=some (.int .u64 (id.u:Int))/\w'.cell? ⟨g.gb,1,none⟩=some (.map (some g.mb))/\w'.cell? ⟨g.gb,2,none⟩=some (.slice (some ⟨bn,aa,none⟩) nn g.nC)/\MapAt w' g.mb g.mm (Af g.nodes))) (by kernel_rfl) ⟨i4,i5,i6,c1,c2,ac⟩ (fun hS=> ?_);refine tkH 0 hS (h:=tkH 1 hS (h:=tkH 2 hS (h:=tkH 3 hS (h:=tkH 4 hS (h:=tkH 5 hS (h:=tkH 6 hS (h:=tkH 7 hS (h:=tkH 8 hS (h:=tkH 9 hS (h:=tkH 10 hS (h:=tkH 11 hS (h:=?_))))))))))));simp only [zl];refine oD ?_;go_simp;clear hS c2;have L2:=L1.non ((Fr.refl Non w1).drew);replace i4:w1.drew.cell? ⟨ib,0,none⟩=some (.int .i64 id.b):=i4;replace i5:w1.drew.cell? ⟨ib,1,none⟩=some (.int .i64 id.s):=i5;replace i6:w1.drew.cell? ⟨ib,2,none⟩=some (.int .u64 (id.u:Int)):=i6;replace c1:w1.drew.cell? ⟨g.gb,1,none⟩=some (.map (some g.mb)):=c1;replace ac:MapAt w1.drew g.mb g.mm (Af g.nodes):=ac;clear L1 ax;go_upto_region 25 with (fail)
   generalize w1.drew=w2 at*;refine wp_region_held_drew (S:=(fun w'=>w'.cell? ⟨ib,0,none⟩=some (.int .i64 id.b)/\w'.cell? ⟨ib,1,none⟩=some (.int .i64 id.s)/\w'.cell? ⟨ib,2,none⟩=some (.int .u64 (id.u:Int))/\w'.cell? ⟨g.gb,1,none⟩=some (.map (some g.mb))/\MapAt w' g.mb g.mm (Af g.nodes))) (by kernel_rfl) ⟨i4,i5,i6,c1,ac⟩ (fun hS=> ?_);refine tkH 0 hS (h:=tkH 1 hS (h:=tkH 2 hS (h:=tkH 3 hS (h:=tkH 4 hS (h:=tkH 5 hS (h:=?_))))));simp only [zl];have L3:=L2.non ((Fr.refl Non w2).drew);have af:w2.drew.cell? ⟨ib,0,none⟩=some (.int .i64 id.b)/\w2.drew.cell? ⟨ib,1,none⟩=some (.int .i64 id.s)/\w2.drew.cell? ⟨ib,2,none⟩=some (.int .u64 (id.u:Int)):=⟨i4,i5,i6⟩;clear L2 hS i4 i5 i6 c1 ac;obtain ⟨w3,bs⟩:=Aa w2.drew;rw [bs.out] at L3 af ⊢;have ae:=Ah4 L3.bp al.out.len;have bt:∀j,j<4->w3.frozen? ⟨pb,0+j,none⟩=false:=fun j _=>L3.bp.frozen _;have kp:=lh (Ub pb 0 PW (Bu g.pns (x.past.take k)) i w3 al.out ae bt ah)
   have bm:Hid (∀qq,LSt w ((w3.drewN qq).setCell ⟨pb,0+i/64,none⟩ (.int .u64 ((PW.getD (i/64) 0|||2^(i%64):Nat):Int))) x y gs pb (PW.set (i/64) (PW.getD (i/64) 0|||2^(i%64))) a0 a1 a2 a3 lv/\Fr (One pb) w3 ((w3.drewN qq).setCell ⟨pb,0+i/64,none⟩ (.int .u64 ((PW.getD (i/64) 0|||2^(i%64):Nat):Int)))):=by
    intro qq;have hf:Fr (One pb) w3 ((w3.drewN qq).setCell ⟨pb,0+i/64,none⟩ (.int .u64 ((PW.getD (i/64) 0|||2^(i%64):Nat):Int))):=((Fr.refl (One pb) w3).drewN qq).setCell (p:=⟨pb,0+i/64,none⟩) (fun _=>rfl) _;exact ⟨L3.par hf (by rw [An6];exact Ah5 L3.bp),hf⟩
   have a8:Hid (Aq (PW.set (i/64) (PW.getD (i/64) 0|||2^(i%64))) (Bu g.pns (x.past.take (k+1)))):=by
    show Aq _ _;rw [ag.out];exact Aq.put al.out ah
   generalize PW.set (i/64) (PW.getD (i/64) 0|||2^(i%64))=PW2 at*;generalize PW.getD (i/64) 0|||2^(i%64)=nv at*;clear ae bt L3 al ag hL;refine oG 6 (fun K hK=> ?_);go_simp;go_wp2_with (go_at_call 68;(with_reducible refine (kp.out).mono ?_);rintro _ w4 ⟨rfl,qq,bk⟩;have bo:=bm.out qq;rw [<- bk] at bo;clear bk bm);obtain ⟨L4,bb⟩:=bo;refine hK.out _ _ ⟨bb.cell af.1 (by show ¬ib=pb;omega),bb.cell af.2.1 (by show ¬ib=pb;omega),bb.cell af.2.2 (by show ¬ib=pb;omega),(ab.out w4 L4.fr).1,(ab.out w4 L4.fr).2.2.1⟩ (fun hZ=> ?_);clear hZ hK K kp bb af bs w3;try simp only [Ac,zl]
   refine oD ?_;go_simp;clear az;obtain ⟨-,-,-,-,-,m0,m1,m2,m3⟩:=ab.out w4 L4.fr
   have ae:Em w4 (pb+1) 0 [a0,a1,a2,a3]:=fun j hj=>by
    rw [L4.ba.cell]
    match j,hj with
    |0,_=>rfl
    |1,_=>rfl
    |2,_=>rfl
    |3,_=>rfl
   have kw:=lh (J1 (pb+1) 0 112 #[.int .u64 (a0:Int),.int .u64 (a1:Int),.int .u64 (a2:Int),.int .u64 (a3:Int)] [a0,a1,a2,a3] nd.a0 nd.a1 nd.a2 nd.a3 (Av g.pns (x.past.take k)) nd.past w4 aq.out ad.out L4.ba ae)
   have a4:Hid (Aq [a0|||nd.a0,a1|||nd.a1,a2|||nd.a2,a3|||nd.a3] (Av g.pns (x.past.take (k+1)))):=by
    show Aq _ _;rw [ai.out];exact Aq.or aq.out ad.out
   have bl:Hid (∀w5,Blk w5 (pb+1) 112 (Hi #[.int .u64 (a0:Int),.int .u64 (a1:Int),.int .u64 (a2:Int),.int .u64 (a3:Int)] 0 (orW [a0,a1,a2,a3] [nd.a0,nd.a1,nd.a2,nd.a3]))->Fr (One (pb+1)) w4 w5->LSt w w5 x y gs pb PW2 (a0|||nd.a0) (a1|||nd.a1) (a2|||nd.a2) (a3|||nd.a3) lv):=fun w5 hb hf=>L4.abv hf hb;clear ae aq ad L4 ai;go_upto_region 27 with (go_at_call 69;go_loud (with_reducible refine (kw.out).mono ?_);rintro _ w5 ⟨rfl,bz,bu⟩;have L5:=bl.out w5 bz bu;clear bz bu bl kw m0 m1 m2 m3)
   obtain ⟨-,-,-,q3,bw,-,-,-,-⟩:=ab.out w5 L5.fr;obtain ⟨bq,a6⟩:=Aa (max lt nd.x.at_)
   have bg:Hid (bq=late g.pns (x.past.take (k+1))):=by
    show _=_;rw [av.out,<- a6.out,<- ay.out]
   clear av ay;go_upto_region 28 with (fail)
   clear q3;have s1:w5.cell? ⟨gs,34,none⟩=some (.int .i64 (lv:Int)):=L5.bn.cell 34;have a5:=iw ((nd.lev:Int)+1);obtain ⟨bc,ak⟩:=Aa (max lv (nd.lev+1))
   have bf:Hid (bc=lvl g.pns (x.past.take (k+1))):=by
    show _=_;rw [a7.out,<- ak.out,<- au.out]
   have bj:Hid (max (lv:Int) ((nd.lev:Int)+1)=(bc:Int)):=by
    show _=_;rw [<- ak.out];omega
   clear a7 au ak;refine Cy (S:=(fun w'=>w'.cell? ⟨gs,34,none⟩=some (.int .i64 (lv:Int))/\w'.cell? ⟨bn,aa+i*35+34,none⟩=some (.int .i64 (nd.lev:Int)))) 9 (by kernel_rfl) ?_;have hS:(fun w'=>w'.cell? ⟨gs,34,none⟩=some (.int .i64 (lv:Int))/\w'.cell? ⟨bn,aa+i*35+34,none⟩=some (.int .i64 (nd.lev:Int))) w5.drew:=⟨s1,bw⟩;have L6:=L5.non ((Fr.refl Non w5).drew);obtain ⟨w6,b3⟩:=Aa w5.drew;rw [b3.out] at hS L6 ⊢;refine tkG 0 hS (h:=tkG 1 hS (h:=tkG 2 hS (h:=tkG 3 hS (h:=tkG 4 hS (h:=tkG 5 hS (h:=tkG 6 hS (h:=tkG 7 hS (h:=tkG 8 hS (h:=?_)))))))));simp only [zl];have b7:w6.frozen? ⟨gs,34,none⟩=false:=L6.bn.frozen 34;replace s1:w6.cell? ⟨gs,34,none⟩=some (.int .i64 (lv:Int)):=hS.1;clear hS L5 bw;refine Cs (by kernel_rfl) ?_;refine oG 9 (fun K hK=> ?_);go_simp;refine hK.out _ _ trivial (fun hZ=> ?_);clear hZ hK K;try simp only [Ad,zl]
   refine oD ?_;go_simp;have L7:=L6.lev bc;rw [<- bj.out] at L7;clear L6 b7 s1 a5 bj;go_wp2_with fail;go_roundw
   case rel=>exact ⟨k+1,PW2,a0|||nd.a0,a1|||nd.a1,a2|||nd.a2,a3|||nd.a3,bc,bq,congrArg _ a6.out,by go_num,by omega,a8,a4,bg,bf,L7⟩
   case measure=>simp [intOf];omega
  ·
   obtain rfl:n=k:=by omega
   have ht:x.past.take n=x.op.past:=List.take_of_length_le (by rw [hn.out];exact Nat.le_refl _);rw [ht] at al aq ay au;have C:CSt w wr base g x y gs pb PW a0 a1 a2 a3 lv lt w6:=⟨hH.out,hL.out,al.out,aq.out,ay.out,au.out⟩;clear al aq ay au hL hH hall L0 x4 e4 hlen hat hok hg ht hk hkn br hn hnm hgw lpast;have b4:=a9.out;subst b4;clear a9;go_upto_region 30 with (fail)
   rename_i QQ KB hKB K2 hK2;clear hKB KB QQ;revert C;revert hK2;revert base g x w y gs w6 w7 wr pb PW a0 a1 a2 a3 lv lt n A6 c6 m K2;revert t5 t7 t8 t9 t10 t14 t17 t18 t19 t20 t21 t22 t23 t24 t25 t26 t27 t28 t29 t30 t31 t32 t33 t34 t35 t36 t37 t38 t39 t40 t41 t42 t43 t44 t45 t46 t47 t48 t49 t50 t51 t52 t53 t54 t55 t56 t57 t58 t59 t60 t61 t62 t63 t64 t65 t66 t67 t68 t69 t70 t71 t72 t126 t127 t128 t129 t130 t131 t132 t133 t134 t135 t136 t137 t138 t139 t140 t141 t142 t143 t144 t145 t146 t147 t148 t149 t150 t151 t152 t153 t154 t155 t156 t157 t158 t159 t160 t161 t162 t163 t164 t165 t166 t167 t168 t169 t170 t171 t172 t173 t174 t175 t176 t177 t178 t179 t180 t181 t182 t183 t184 t185 t186 t187 t188 t189 t190 t191 t192 t193 t194 t195 t196 t197 t198 t199 t200 t201 t202 t203 t204 t205 t206 t207 t208 t209 t210 t211 t212 t213 t214 t215 t216 t217 t218 t219 t220 t221 t222 t223 t224 t225 t226 t227 t228 t229 t230 t231 t232 t233 u15 u16 u84 u85 u86 u87 u88 u89 u90 u91 u92 u93 u94 u95 u96 u97 u98 u99 u100 u101 u102 u103 u104 u105 u106 u107 u108 u109 u110 u111 u112 u113 u114 u115 u116 u117 u118 u119 u120 u121 u122 u123 u124 u125;exact hP.down)
theorem Ah6 (a0 a1 a2 a3 b0 b1 b2 b3:Int) (w:World):(Op.equalIn 10000 112 (.agg #[.int .u64 a0,.int .u64 a1,.int .u64 a2,.int .u64 a3]) (.agg #[.int .u64 b0,.int .u64 b1,.int .u64 b2,.int .u64 b3])).run zp w=.ok (a0==b0&&a1==b1&&a2==b2&&a3==b3) w:=by
 obtain ⟨ht,hinfo,_⟩:=Jr;obtain ⟨i,hi,_⟩:=info_parts hinfo;rw [show (10000:Nat)=9999+1 from rfl,run_equalIn_array w 9999 _ _ underlying112 hi,M7,show List.range 4=[0,1,2,3] from rfl];simp only [Op.eqItems];go_simp
 by_cases h1:a0=b0<;>by_cases h2:a1=b1<;>by_cases h3:a2=b2<;>by_cases h4:a3=b3<;>simp [h1,h2,h3,h4]
theorem Ah7:zp.eqGuardType zp.depth 112=false:=by kernel_rfl
theorem I8 (b:Nat):((b:Int)==0)=(b==0):=by
 rw [Bool.eq_iff_iff,beq_iff_eq,beq_iff_eq];omega
structure DSt (w wr:World) (base:Nat) (g:Gph) (x y:OpL) (gs:Nat) (n0 n1 n2 n3 lv:Nat) (wa:World):Prop where
 A:Lb w wa base g x y gs
 bx:Blk wr w.heap.size 44 x.cells
 bn:Blk wr gs 114 (⟨y,x.op.name,n0,n1,n2,n3,lv⟩:Ag).cells.toArray
 yown:y.own wr w.heap.size
 fr:Fr Non w wr
 lo1:w.heap.size<gs
 set:Aq [n0,n1,n2,n3] (fun q=>Av g.pns x.op.past q||Bu g.pns x.op.past q)
 hlv:lv=lvl g.pns x.op.past
 err:Ah g.cards g.pns x.op=if Ba g.pns (Aj g.pns x.op.past) x.op=true then 11 else 0
def addD:PSigma (fun P:Prop=>PLift P->addC.1):=PSigma.mk _ (by
 intro hP;conv=>whnf
 intro s5 s7 s8 s9 s10 s14 s17 s18 s19 s20 s21 s22 s23 s24 s25 s26 s27 s28 s29 s30 s31 s32 s33 s34 s35 s36 s37 s38 s39 s40 s41 s42 s43 s44 s45 s46 s47 s48 s49 s50 s51 s52 s53 s54 s55 s56 s57 s58 s59 s60 s61 s62 s63 s64 s65 s66 s67 s68 s69 s70 s71 s72 s126 s127 s128 s129 s130 s131 s132 s133 s134 s135 s136 s137 s138 s139 s140 s141 s142 s143 s144 s145 s146 s147 s148 s149 s150 s151 s152 s153 s154 s155 s156 s157 s158 s159 s160 s161 s162 s163 s164 s165 s166 s167 s168 s169 s170 s171 s172 s173 s174 s175 s176 s177 s178 s179 s180 s181 s182 s183 s184 s185 s186 s187 s188 s189 s190 s191 s192 s193 s194 s195 s196 s197 s198 s199 s200 s201 s202 s203 s204 s205 s206 s207 s208 s209 s210 s211 s212 s213 s214 s215 s216 s217 s218 s219 s220 s221 s222 s223 s224 s225 s226 s227 s228 s229 s230 s231 s232 s233 s15 s16 s84 s85 s86 s87 s88 s89 s90 s91 s92 s93 s94 s95 s96 s97 s98 s99 s100 s101 s102 s103 s104 s105 s106 s107 s108 s109 s110 s111 s112 s113 s114 s115 s116 s117 s118 s119 s120 s121 s122 s123 s124 s125 base g x w y gs m w6 A6 c6 n w7 pb wv PW a0 a1 a2 a3 lv lt K hK C;have L:=C.L
 obtain ⟨p0,p1,p2,p3,rfl⟩:∃p0 p1 p2 p3,PW=[p0,p1,p2,p3]:=by
  match PW,C.par.len with
  |[p0,p1,p2,p3],_=>exact ⟨p0,p1,p2,p3,rfl⟩
 have ac:Hid (Aq [p0&&&a0,p1&&&a1,p2&&&a2,p3&&&a3] (fun k=>Bu g.pns x.op.past k&&Av g.pns x.op.past k)):=Aq.and C.par C.abv;have ag:Hid (Aq [a0|||p0,a1|||p1,a2|||p2,a3|||p3] (fun k=>Av g.pns x.op.past k||Bu g.pns x.op.past k)):=Aq.or C.abv C.par;have a8:=C.par.u64;have bc:=C.abv.u64;have hC:=lh C;have hlt:=lh C.hlt;have r0:wv.cell? ⟨pb,0,none⟩=some (.int .u64 (p0:Int)):=L.bp.cell 0;have r1:wv.cell? ⟨pb,1,none⟩=some (.int .u64 (p1:Int)):=L.bp.cell 1;have r2:wv.cell? ⟨pb,2,none⟩=some (.int .u64 (p2:Int)):=L.bp.cell 2;have r3:wv.cell? ⟨pb,3,none⟩=some (.int .u64 (p3:Int)):=L.bp.cell 3;have L1:=L.non ((Fr.refl Non wv).alloc (.cells #[.int .u64 (p0:Int),.int .u64 (p1:Int),.int .u64 (p2:Int),.int .u64 (p3:Int)] 112));have ah:=Blk.new wv 112 #[.int .u64 (p0:Int),.int .u64 (p1:Int),.int .u64 (p2:Int),.int .u64 (p3:Int)];have bi:pb+1<wv.heap.size:=L.ba.lt;have aw:gs<wv.heap.size:=L.bn.lt;obtain ⟨CX,ao⟩:=Aa x.cells;have e3:Hid (CX[3]? =some (.int .i64 x.at_)):=by show _=_;rw [<- ao.out];rfl
 rw [ao.out];obtain ⟨vf,au⟩:∃vf:Nat->Value,vf=fun k=> .int .u64 (((Jx [p0,p1,p2,p3] [a0,a1,a2,a3]).getD k 0:Nat):Int):=⟨_,rfl⟩
 have ap:Hid (Dj #[.int .u64 (p0:Int),.int .u64 (p1:Int),.int .u64 (p2:Int),.int .u64 (p3:Int)] 0 vf 4=#[.int .u64 ((p0&&&a0:Nat):Int),.int .u64 ((p1&&&a1:Nat):Int),.int .u64 ((p2&&&a2:Nat):Int),.int .u64 ((p3&&&a3:Nat):Int)]):=by
  show _=_;rw [au];rfl
 have ar:Hid (∀k,k<4->vf k=.int .u64 (bits .and .u64 (([p0,p1,p2,p3].getD k 0:Nat):Int) (([a0,a1,a2,a3].getD k 0:Nat):Int))):=fun k hk=>by
  rw [au,u64_and_nat _ _ (a8 k) (bc k),<- Jz _ _ k hk]
 have a5:Hid (∀k,k<4->(#[.int .u64 (p0:Int),.int .u64 (p1:Int),.int .u64 (p2:Int),.int .u64 (p3:Int)]:Array Value)[k]? =some (.int .u64 (([p0,p1,p2,p3].getD k 0:Nat):Int))):=fun k hk=>by
  match k,hk with
  |0,_=>rfl
  |1,_=>rfl
  |2,_=>rfl
  |3,_=>rfl
 clear au a8 bc C L;go_upto_region 31 with (fail)
 obtain ⟨bb,bj⟩:=Aa wv.heap.size;rw [bj.out] at ah bi aw ⊢;generalize wv.alloc (.cells #[.int .u64 (p0:Int),.int .u64 (p1:Int),.int .u64 (p2:Int),.int .u64 (p3:Int)] 112)=w1 at*
 have bd:Hid (∀k,k<4->w1.cell? ⟨pb+1,k,none⟩=some (.int .u64 (([a0,a1,a2,a3].getD k 0:Nat):Int))):=fun k hk=>by
  rw [L1.ba.cell]
  match k,hk with
  |0,_=>rfl
  |1,_=>rfl
  |2,_=>rfl
  |3,_=>rfl
 clear r0 r1 r2 r3;go_wp2_with fail
 go_loopw [127] (fun v wr=>∃i:Nat,v=.int .i64 (i:Int)/\i<=4/\Blk wr bb 112 (Dj #[.int .u64 (p0:Int),.int .u64 (p1:Int),.int .u64 (p2:Int),.int .u64 (p3:Int)] 0 vf i)/\Fr (One bb) w1 wr) (fun v _=>4-(intOf v).toNat)
 case atStart=>exact ⟨0,rfl,by omega,ah,Fr.refl _ _⟩
 case round=>
  obtain ⟨i,rfl,bq,ab,hf⟩:=hrel
  by_cases hi:i<4
  ·
   clear hP L1 ah hC hlt ac ag e3 ap
   as_aux_lemma=>
   have i1:(0:Int)<=i:=by omega
   have i2:(i:Int)<4:=by omega
   have i3:(i:Int).toNat=i:=by omega
   have i4:=iw (i:Int);have c1:wr.cell? ⟨bb,i,none⟩=some (.int .u64 (([p0,p1,p2,p3].getD i 0:Nat):Int)):=by rw [ab.cell,Nc _ _ _ _ _ (by omega)];exact a5.out i hi
   have c2:wr.cell? ⟨pb+1,i,none⟩=some (.int .u64 (([a0,a1,a2,a3].getD i 0:Nat):Int)):=hf.cell (bd.out i hi) (by show ¬pb+1=bb;omega);have z1:=ab.frozen i;have bk:=lh (ar.out i hi);generalize [p0,p1,p2,p3].getD i 0=pi at*;generalize [a0,a1,a2,a3].getD i 0=ai at*;go_upto_region 34 with (fail)
   refine Cy (S:=(fun w'=>w'.cell? ⟨bb,i,none⟩=some (.int .u64 (pi:Int))/\w'.cell? ⟨pb+1,i,none⟩=some (.int .u64 (ai:Int)))) 8 (by kernel_rfl) ?_;have hS:(fun w'=>w'.cell? ⟨bb,i,none⟩=some (.int .u64 (pi:Int))/\w'.cell? ⟨pb+1,i,none⟩=some (.int .u64 (ai:Int))) wr.drew:=⟨c1,c2⟩;replace c1:wr.drew.cell? ⟨bb,i,none⟩=some (.int .u64 (pi:Int)):=c1;replace z1:wr.drew.frozen? ⟨bb,i,none⟩=false:=z1;replace ab:Blk wr.drew bb 112 (Dj #[.int .u64 (p0:Int),.int .u64 (p1:Int),.int .u64 (p2:Int),.int .u64 (p3:Int)] 0 vf i):=ab;replace hf:=hf.drew;generalize wr.drew=w2 at*;refine tkG 0 hS (h:=tkG 1 hS (h:=tkG 2 hS (h:=tkG 3 hS (h:=tkG 4 hS (h:=tkG 5 hS (h:=tkG 6 hS (h:=tkG 7 hS (h:=?_))))))));simp only [zl];refine Cs (by kernel_rfl) ?_;refine oG 8 (fun K hK=> ?_);go_simp;refine hK.out _ _ trivial (fun hZ=> ?_);clear hZ hK K;try simp only [Ad,zl]
   refine oD ?_;go_simp
   have ad:Blk (w2.setCell ⟨bb,i,none⟩ (vf i)) bb 112 (Dj #[.int .u64 (p0:Int),.int .u64 (p1:Int),.int .u64 (p2:Int),.int .u64 (p3:Int)] 0 vf (i+1)):=by
    have h1:=ab.set (0+i) (vf i);rw [An6] at h1;show Blk _ _ _ ((Dj #[.int .u64 (p0:Int),.int .u64 (p1:Int),.int .u64 (p2:Int),.int .u64 (p3:Int)] 0 vf i).setIfInBounds (0+i) (vf i));rw [An6];exact h1
   have a7:=hf.setOne i (vf i);rw [bk.out] at ad a7;clear ab hf hS c1 c2 z1 ar;go_wp2_with fail;go_roundw
   case rel=>exact ⟨i+1,by go_num,by omega,ad,a7⟩
   case measure=>simp [intOf];omega
  ·
   obtain rfl:i=4:=by omega
   rw [ap.out] at ab
   have L2:LSt w wr x y gs pb [p0,p1,p2,p3] a0 a1 a2 a3 lv:=by
    have h1:=L1.lo1;have h2:=L1.lo2;have hw:w.heap.size<bb:=by omega
    exact ⟨L1.bx.fr hf (by unfold One;omega),L1.bn.fr hf (by unfold One;omega),L1.bp.fr hf (by unfold One;omega),L1.ba.fr hf (by unfold One;omega),L1.yown.keepP hf (Types.one ah) (by decide) (by decide) (by decide) (by decide) (by decide) (by decide) (by decide),L1.fr.trans hf (fun k hk e=>by have e':k=bb:=e;omega),h1,h2⟩
   have hz:=Wt ac.out;obtain ⟨b0,bg⟩:=Aa (p0&&&a0);obtain ⟨b1,az⟩:=Aa (p1&&&a1);obtain ⟨b2,ad⟩:=Aa (p2&&&a2);obtain ⟨b3,bf⟩:=Aa (p3&&&a3);rw [bg.out,az.out,ad.out,bf.out] at ab hz;obtain ⟨cl,al⟩:=Aa (clash g.pns x.op.past)
   have bo:∀w',(Op.equalIn 10000 112 (.agg #[.int .u64 (b0:Int),.int .u64 (b1:Int),.int .u64 (b2:Int),.int .u64 (b3:Int)]) (.agg #[.int .u64 0,.int .u64 0,.int .u64 0,.int .u64 0])).run zp w'=.ok (!cl) w':=fun w'=>by
    rw [Ah6,I8,I8,I8,I8,hz,<- al.out];rfl
   have hm:=Ah7;have k0:wr.cell? ⟨bb,0,none⟩=some (.int .u64 (b0:Int)):=ab.cell 0;have k1:wr.cell? ⟨bb,1,none⟩=some (.int .u64 (b1:Int)):=ab.cell 1;have k2:wr.cell? ⟨bb,2,none⟩=some (.int .u64 (b2:Int)):=ab.cell 2;have k3:wr.cell? ⟨bb,3,none⟩=some (.int .u64 (b3:Int)):=ab.cell 3
   have x3:wr.cell? ⟨w.heap.size,3,none⟩=some (.int .i64 x.at_):=by
    have h:=L2.bx.cell 3;rw [ao.out,e3.out] at h;exact h
   clear hz bg az ad bf ab hf L1 ah bd ar a5 ap hi bq ac;go_upto_region 36 with (fail)
   obtain ⟨bad,aa⟩:=Aa (cl||decide (x.at_<lt))
   go_cut [147] from 139 to 147 (fun s wc=>wr=wc/\s=.bool bad)
   case first=>
    clear hP L2 hC hlt ag e3
    as_aux_lemma=>
    cases cl
    ·
     have hv:Hid (decide (x.at_<lt)=bad):=by show _=_;rw [<- aa.out];rfl
     go_wp2_with fail;go_meet;exact ⟨rfl,hB hv⟩
    ·
     have hv:Hid (true=bad):=by show _=_;rw [<- aa.out];rfl
     go_wp2_with fail;go_meet;exact ⟨rfl,hB hv⟩
   case rest=>
   obtain ⟨rfl,rfl⟩:=hcut;clear k0 k1 k2 k3 x3 bo hm
   cases bad
   case true=>
    have bm:=lh (AddPost.bad (base:=base) (w':=wr) (by
     rw [hC.out.A.err,if_pos (by
      have h1:=aa.out;rw [Bool.or_eq_true,decide_eq_true_iff] at h1;rw [al.out,<- hlt.out];exact h1)]) (by decide) L2.fr)
    clear hP hC hlt L2 ag aa al
    as_aux_lemma=>
    go_wp2_with fail
    go_ret
    exact bm.out
   case false=>
    have ak:Hid (Ah g.cards g.pns x.op=if Ba g.pns (Aj g.pns x.op.past) x.op=true then 11 else 0):=by
     show _=_
     rw [hC.out.A.err,if_neg (by
      have h1:=aa.out;rw [Bool.or_eq_false_iff,decide_eq_false_iff_not] at h1;rw [al.out,<- hlt.out,h1.1];intro h2
      rcases h2 with h2|h2
      · cases h2
      · exact h1.2 h2)]
    clear aa al hlt;have m0:wr.cell? ⟨pb+1,0,none⟩=some (.int .u64 (a0:Int)):=L2.ba.cell 0;have m1:wr.cell? ⟨pb+1,1,none⟩=some (.int .u64 (a1:Int)):=L2.ba.cell 1;have m2:wr.cell? ⟨pb+1,2,none⟩=some (.int .u64 (a2:Int)):=L2.ba.cell 2;have m3:wr.cell? ⟨pb+1,3,none⟩=some (.int .u64 (a3:Int)):=L2.ba.cell 3;have y0:wr.cell? ⟨gs,30,none⟩=some (.int .u64 0):=L2.bn.cell 30;have y1:wr.cell? ⟨gs,31,none⟩=some (.int .u64 0):=L2.bn.cell 31;have y2:wr.cell? ⟨gs,32,none⟩=some (.int .u64 0):=L2.bn.cell 32;have y3:wr.cell? ⟨gs,33,none⟩=some (.int .u64 0):=L2.bn.cell 33;have z0:wr.frozen? ⟨gs,30,none⟩=false:=L2.bn.frozen 30;have z1:wr.frozen? ⟨gs,31,none⟩=false:=L2.bn.frozen 31;have z2:wr.frozen? ⟨gs,32,none⟩=false:=L2.bn.frozen 32;have z3:wr.frozen? ⟨gs,33,none⟩=false:=L2.bn.frozen 33;have ae:=L2.lo1;have aq:=L2.lo2;have fN:Fr (One gs) wr ((((wr.setCell ⟨gs,30,none⟩ (.int .u64 (a0:Int))).setCell ⟨gs,31,none⟩ (.int .u64 (a1:Int))).setCell ⟨gs,32,none⟩ (.int .u64 (a2:Int))).setCell ⟨gs,33,none⟩ (.int .u64 (a3:Int))):=((((Fr.refl (One gs) wr).setOne 30 _).setOne 31 _).setOne 32 _).setOne 33 _;have bN:Blk ((((wr.setCell ⟨gs,30,none⟩ (.int .u64 (a0:Int))).setCell ⟨gs,31,none⟩ (.int .u64 (a1:Int))).setCell ⟨gs,32,none⟩ (.int .u64 (a2:Int))).setCell ⟨gs,33,none⟩ (.int .u64 (a3:Int))) gs 114 (⟨y,x.op.name,a0,a1,a2,a3,lv⟩:Ag).cells.toArray:=(((L2.bn.set 30 _).set 31 _).set 32 _).set 33 _;have a6:=L2.bx.fr fN (by unfold One;omega);have aj:=L2.bp.fr fN (by unfold One;omega);have yN:=L2.yown.keepP fN (Types.one L2.bn) (by decide) (by decide) (by decide) (by decide) (by decide) (by decide) (by decide);have be:Fr Non w ((((wr.setCell ⟨gs,30,none⟩ (.int .u64 (a0:Int))).setCell ⟨gs,31,none⟩ (.int .u64 (a1:Int))).setCell ⟨gs,32,none⟩ (.int .u64 (a2:Int))).setCell ⟨gs,33,none⟩ (.int .u64 (a3:Int))):=L2.fr.trans fN (fun k hk e=>by have e':k=gs:=e;omega);clear L2;go_upto_region 39 with (fail)
    clear m0 m1 m2 m3 y0 y1 y2 y3 z0 z1 z2 z3 fN;generalize ((((wr.setCell ⟨gs,30,none⟩ (.int .u64 (a0:Int))).setCell ⟨gs,31,none⟩ (.int .u64 (a1:Int))).setCell ⟨gs,32,none⟩ (.int .u64 (a2:Int))).setCell ⟨gs,33,none⟩ (.int .u64 (a3:Int)))=w3 at*;have r0:w3.cell? ⟨pb,0,none⟩=some (.int .u64 (p0:Int)):=aj.cell 0;have r1:w3.cell? ⟨pb,1,none⟩=some (.int .u64 (p1:Int)):=aj.cell 1;have r2:w3.cell? ⟨pb,2,none⟩=some (.int .u64 (p2:Int)):=aj.cell 2;have r3:w3.cell? ⟨pb,3,none⟩=some (.int .u64 (p3:Int)):=aj.cell 3
    have af:Em w3 gs 30 [a0,a1,a2,a3]:=fun j hj=>by
     rw [bN.cell]
     match j,hj with
     |0,_=>rfl
     |1,_=>rfl
     |2,_=>rfl
     |3,_=>rfl
    have kw:=lh (J1 gs 30 114 _ [a0,a1,a2,a3] p0 p1 p2 p3 _ _ w3 hC.out.abv hC.out.par bN af)
    have hD:Hid (∀w4,Blk w4 gs 114 (Hi (⟨y,x.op.name,a0,a1,a2,a3,lv⟩:Ag).cells.toArray 30 (orW [a0,a1,a2,a3] [p0,p1,p2,p3]))->Fr (One gs) w3 w4->DSt w w4 base g x y gs (a0|||p0) (a1|||p1) (a2|||p2) (a3|||p3) lv w6):=by
     intro w4 hb hf;exact ⟨hC.out.A,a6.fr hf (by unfold One;omega),hb,yN.keepP hf (Types.one bN) (by decide) (by decide) (by decide) (by decide) (by decide) (by decide) (by decide),be.trans hf (fun k hk e=>by have e':k=gs:=e;omega),ae,ag.out,hC.out.hlv,ak.out⟩
    clear af bN a6 aj yN be hC ag ak ae aq;go_upto_region 40 with (go_at_call 69;(with_reducible refine (kw.out).mono ?_);rintro _ w4 ⟨rfl,a9,a4⟩)
    have D:=hD.out w4 a9 a4;clear hD a9 a4 kw r0 r1 r2 r3;obtain ⟨n0,bh⟩:=Aa (a0|||p0);obtain ⟨n1,ay⟩:=Aa (a1|||p1);obtain ⟨n2,av⟩:=Aa (a2|||p2);obtain ⟨n3,ax⟩:=Aa (a3|||p3);rw [bh.out,ay.out,av.out,ax.out] at D;clear bh ay av ax e3 aw bi bj;rename_i QQ KB hKB K2 hK2;clear hKB KB QQ;have bl:=ao.out;subst bl;clear ao;revert D;revert hK2;revert base g x w y gs m w6 A6 c6 n w7 pb wv a0 a1 a2 a3 lv lt p0 p1 p2 p3 n0 n1 n2 n3 bb w1 wr b0 b1 b2 b3 cl w3 w4 K2;revert s5 s7 s8 s9 s10 s14 s15 s16 s19 s20 s21 s22 s23 s24 s25 s26 s27 s28 s29 s30 s31 s32 s33 s34 s35 s36 s37 s38 s39 s40 s41 s42 s43 s44 s45 s46 s47 s48 s49 s50 s51 s52 s53 s54 s55 s56 s57 s58 s59 s60 s61 s62 s63 s64 s65 s66 s67 s68 s69 s70 s71 s72 s84 s85 s86 s87 s88 s89 s90 s91 s92 s93 s94 s95 s96 s97 s98 s99 s100 s101 s102 s103 s104 s105 s106 s107 s108 s109 s110 s111 s112 s113 s114 s115 s116 s117 s118 s119 s120 s121 s122 s123 s124 s125 s152 s153 s154 s155 s156 s157 s158 s159 s160 s161 s162 s163 s164 s165 s166 s167 s168 s169 s170 s171 s172 s173 s174 s175 s176 s177 s178 s179 s180 s181 s182 s183 s184 s185 s186 s187 s188 s189 s190 s191 s192 s193 s194 s195 s196 s197 s198 s199 s200 s201 s202 s203 s204 s205 s206 s207 s208 s209 s210 s211 s212 s213 s214 s215 s216 s217 s218 s219 s220 s221 s222 s223 s224 s225 s226 s227 s228 s229 s230 s231 s232 s233 u18 u128 u129 u130 u131 u132 u133 u134 u135 u136 u137 u138 u139 u140 u141 u142 u143 u144 u145 u146;exact hP.down)
end Oq
theorem Own.block {w:World} {base size n c:Nat} {t:TypeId} {A:Option Addr} {xs:List Value} (h:Own w base t size A n c xs) {k:Nat} (hk:Ab A=some k):∃cs fr,w.heap[k]? =some (.cells cs t fr):=by
 rcases h.2 with ⟨hv,_⟩|⟨g,cap,cur,hv,_,hg,_⟩
 ·
  injection hv with hA
  subst hA
  cases hk
 ·
  injection hv with hA
  subst hA;injection hk with hk
  subst hk;exact ⟨_,_,hg⟩
theorem Own.keepT {S:Nat->Prop} {w w':World} {base size n c:Nat} {t:TypeId} {A:Option Addr} {xs:List Value} {P:TypeId->Prop} (h:Own w base t size A n c xs) (hf:Fr S w w') (hS:Oq.Types S w P) (ht:¬P t):Own w' base t size A n c xs:=
 h.fr hf (fun k hk e=>by
  obtain ⟨cs,fr,hb⟩:=h.block hk;exact ht (hS _ _ _ _ hb e))
namespace Oq
theorem MapAt.ismap {w:World} {b m:Nat} {f:Id->Option Nat} (h:MapAt w b m f):∀cs t fr,w.heap[b]? ≠some (.cells cs t fr):=by
 intro cs t fr e;obtain ⟨n,D,ho,_⟩:=h;obtain ⟨es,clock,hbl,_⟩:=ho;rw [e] at hbl
 cases hbl
def Gty (t:TypeId):Prop:=t=119\/t=114
theorem GAt.types {w:World} {base:Nat} {g:Gph} (h:GAt w base g):Types g.own w Gty:=by
 intro k cs t fr hk e
 rcases e with e|e|e
 ·
  subst e;have h1:=h.blk;unfold Blk at h1;rw [hk] at h1;injection h1 with h1
  injection h1 with _ h2
  exact .inl h2
 ·
  subst e;exact absurd hk (h.map.ismap _ _ _)
 · exact .inr (Types.row h.own k cs t fr hk e)
theorem Ah8 {l:List Ag} {n:Ag} (h:Af l n.id=none) (y:Id):(if y=n.id then some l.length else Af l y)=Af (l++[n]) y:=by
 unfold Af at*;rw [List.findIdx?_append]
 by_cases e:y=n.id
 ·
  subst e;rw [if_pos rfl,h];simp
 ·
  rw [if_neg e]
  have h2:([n].findIdx? (fun m=>decide (m.id=y)))=none:=by
   simp [List.findIdx?_cons,show ¬n.id=y from fun e2=>e e2.symm]
  rw [h2]
  cases l.findIdx? (fun m=>decide (m.id=y))<;>simp
theorem Rw:SlT zp 117 114 (.agg zN) 35 392:=⟨underlying117,by kernel_rfl,rfl,by decide⟩
theorem Ah9 {w w4 wd w5 w6 w7 wa:World} {base:Nat} {g:Gph} {x y:OpL} {gs n0 n1 n2 n3 lv:Nat} {A':Option Addr} {c':Nat} (hg:GAt w base g) (D:DSt w w4 base g x y gs n0 n1 n2 n3 lv wa) (herr:Ah g.cards g.pns x.op=0)
  (fd:Fr Non w4 wd) (hm:MapAt w5 g.mb (g.mm+1) (fun z=>if z=x.op.name then some g.nodes.length else Af g.nodes z)) (f5:Fr (One g.mb) wd w5) (f6:Fr Non w5 w6)
  (own7:Own w7 base 114 35 A' (g.nodes.length+1) c' (g.nodes.flatMap Ag.cells++(⟨y,x.op.name,n0,n1,n2,n3,lv⟩:Ag).cells)) (f7:Fr (fun k=>Ab g.nA=some k) w6 w7) (hat:Ab A'=Ab g.nA\/Ab A'=some w6.heap.size):
  AddPost base g x.op w (.returned (.int .i64 0)) (w7.setCell ⟨g.gb,2,none⟩ (.slice A' (g.nodes.length+1) c')):=by
 obtain ⟨N,hN⟩:∃N:Ag,N=⟨y,x.op.name,n0,n1,n2,n3,lv⟩:=⟨_,rfl⟩;have aa:N.id=x.op.name:=by rw [hN]
 have al:N.ws=[n0,n1,n2,n3]:=by rw [hN];rfl
 rw [<- hN] at own7;have ax:=hg.blk.lt;have ag:base<=w.heap.size:=Nat.le_trans hg.gbase (Nat.le_of_lt ax);have ai:Fr Non w wd:=D.fr.trans fd zr;have aw:=hg.fr ai;have ty:=hg.types
 have ab:g.gb≠g.mb:=fun e=>by
  have h1:=hg.blk;unfold Blk at h1;rw [e] at h1;exact hg.map.ismap _ _ _ h1
 have ao:¬Ab g.nA=some g.mb:=fun e=>by
  obtain ⟨cs,fr,hb⟩:=hg.own.block e;exact hg.map.ismap _ _ _ hb
 have aj:¬Ab g.nA=some g.gb:=hg.own.ne hg.blk (by decide)
 have ac:∀{w0:World},Fr Non w0 wd->Fr g.own w0 (w7.setCell ⟨g.gb,2,none⟩ (.slice A' (g.nodes.length+1) c')):=by
  intro w0 h0;have F5:Fr g.own w0 w5:=(Fr.of_non h0 g.own).trans f5 (fun i _ e=> .inr (.inl e));have F6:Fr g.own w0 w6:=F5.trans f6 (fun _ _ e=>e.elim);have F7:Fr g.own w0 w7:=F6.trans f7 (fun i _ e=> .inr (.inr e));exact F7.setCell (p:=⟨g.gb,2,none⟩) (fun _=> .inl rfl) _
 have F8:=ac ai;have au:=ac fd;have av:=(hg.fr D.fr).types
 have b7:Blk w7 g.gb 119 #[.slice g.cA g.cards.length g.cC,.map (some g.mb),.slice g.nA g.nodes.length g.nC]:=
  ((aw.blk.fr f5 (fun e=>ab e)).fr f6 zq).fr f7 aj
 have af:Ab A'≠some g.gb:=own7.ne b7 (by decide);have fz:Fr (One g.gb) w7 (w7.setCell ⟨g.gb,2,none⟩ (.slice A' (g.nodes.length+1) c')):=(Fr.refl _ _).setOne 2 _;have m8:=(((hm.fr f6 zq).fr f7 ao).fr fz (fun e=>ab e.symm))
 have ah:Af g.nodes N.id=none:=by
  rw [aa,<- Fv];exact D.A.new
 have ap:MapAt (w7.setCell ⟨g.gb,2,none⟩ (.slice A' (g.nodes.length+1) c')) g.mb (g.mm+1) (Af (g.nodes++[N])):=by
  have e:(fun z=>if z=x.op.name then some g.nodes.length else Af g.nodes z)=Af (g.nodes++[N]):=by
   funext z;rw [<- aa];exact Ah8 ah z
  rw [<- e];exact m8
 have ad:(g.nodes++[N]).length=g.nodes.length+1:=by simp
 have ak:lv<=g.nodes.length+1:=by
  rw [D.hlv];refine Wq g.pns g.nodes.length (fun n hn=> ?_) _;obtain ⟨m,hm,rfl⟩:=List.mem_map.1 hn;exact hg.levs m hm
 have ae:Aq N.ws N.past:=by
  rw [al];refine ⟨rfl,D.set.u64,fun n hn=> ?_⟩;unfold Ag.past;rw [al]
 have aq:N.past=Aj g.pns x.op.past:=by
  have h1:Aq N.ws (fun q=>Av g.pns x.op.past q||Bu g.pns x.op.past q):=by rw [al];exact D.set
  rw [Ws h1];rfl
 have ar:N.okAt (w7.setCell ⟨g.gb,2,none⟩ (.slice A' (g.nodes.length+1) c')) base:=by
  refine ⟨?_,?_,?_,ae⟩
  ·
   rw [hN];exact (D.yown.keepP au av (by unfold Gty;decide) (by unfold Gty;decide) (by unfold Gty;decide) (by unfold Gty;decide) (by unfold Gty;decide) (by unfold Gty;decide) (by unfold Gty;decide)).lower ag
  ·
   have h1:N.x.op=x.op:=by rw [hN];exact D.A.yop
   rw [h1];exact D.A.hok
  ·
   rw [aa];exact Ec D.A.hok
 refine ⟨by rw [herr],.inr ⟨herr,⟨g.gb,g.mb,g.mm+1,g.cA,g.cC,g.cards,A',c',g.nodes++[N]⟩,?_,rfl,rfl,rfl,?_,F8,?_,N,rfl,?_⟩⟩
 ·
  refine ⟨?_,hg.pos,hg.gbase,hg.mbase,hg.crow.keepT F8 ty (by unfold Gty;decide),?_,?_,?_,?_,hg.cfew,hg.cok,ap,?_⟩
  ·
   show Blk _ g.gb _ #[.slice g.cA g.cards.length g.cC,.map (some g.mb),.slice A' (g.nodes++[N]).length c'];rw [ad];exact b7.set 2 _
  ·
   show Own _ base 114 35 A' (g.nodes++[N]).length c' ((g.nodes++[N]).flatMap Ag.cells);rw [ad,List.flatMap_append,List.flatMap_cons,List.flatMap_nil,List.append_nil];exact own7.setOne af
  ·
   show (g.nodes++[N]).length<=200;have:=D.A.few;omega
  ·
   show g.mm+1<=(g.nodes++[N]).length;have:=hg.mfew;omega
  ·
   intro n hn;show n.lev<=(g.nodes++[N]).length;rw [ad]
   rcases List.mem_append.1 hn with hn|hn
   ·
    have:=hg.levs n hn;omega
   ·
    obtain rfl:=List.mem_singleton.1 hn;rw [hN];exact ak
  ·
   intro n hn
   rcases List.mem_append.1 hn with hn|hn
   ·
    have k:=hg.node n hn;exact ⟨k.own.keepP F8 ty (by unfold Gty;decide) (by unfold Gty;decide) (by unfold Gty;decide) (by unfold Gty;decide) (by unfold Gty;decide) (by unfold Gty;decide) (by unfold Gty;decide),k.ok,k.id,k.set⟩
   ·
    obtain rfl:=List.mem_singleton.1 hn;exact ar
 ·
  show (g.nodes++[N]).map Ag.pn=g.nodes.map Ag.pn++[Au g.pns x.op];rw [List.map_append,List.map_cons,List.map_nil];congr 2;unfold Ag.pn Au;rw [aq,aa];congr 1
  ·
   rw [hN];exact D.A.yop
  ·
   rw [hN];exact D.hlv
 ·
  intro k hk e
  rcases e with e|e|e
  · exact .inl e
  · exact .inr (.inl e)
  ·
   refine .inr (.inr ?_);have e':Ab A'=some k:=e
   rcases hat with h1|h1
   ·
    rw [<- h1];exact e'
   ·
    rw [h1] at e';injection e' with e'
    have:=(ai.size);have h5:=f5.size;have h6:=f6.size;omega
 ·
  rw [hN];exact D.yown.keepP au av (by unfold Gty;decide) (by unfold Gty;decide) (by unfold Gty;decide) (by unfold Gty;decide) (by unfold Gty;decide) (by unfold Gty;decide) (by unfold Gty;decide)
end Oq
namespace Oq
attribute [local go_sem] Ao2 Ao3
theorem Ai0 {l:List Pn} {p:Nat->Bool} {d:Int} {k:Nat} {n:Pn} (h:l[k]? =some n):Bj l p d (k+1)=if (n.o.by_==d&&p k)=true then max (Bj l p d k) n.o.sq else Bj l p d k:=by
 show (match l[k]? with|some n=>if (n.o.by_==d&&p k)=true then max (Bj l p d k) n.o.sq else Bj l p d k|none=>Bj l p d k)=_;rw [h]
theorem Ai1 {o:Op} (h:o.chk=0):1<=o.sq/\o.sq<=2147483647:=by
 have h1:=(chk_ok.1 h).2.2.1;unfold Op.numsB at h1;simp only [Bool.and_eq_true] at h1;have h2:=h1.1.1.2;unfold inR at h2;simpa using h2
def bsS (t:TypeId) (len:Nat) (parts:Array (Nat × Value)):=Instr.buildSlice t len parts
theorem Ai2 (n:Nat) (p:Array (Nat × Value)):Instr.buildSlice 117 n p=bsS 117 n p:=rfl
theorem Ai3 (N:Ag) (w:World):(bsS 117 1 #[(0,.agg N.cells.toArray)]).run zp w=.ok (.slice (some ⟨w.heap.size,0,none⟩) 1 1) (w.alloc (.cells N.cells.toArray 114)):=by
 obtain ⟨ht,hinfo,_⟩:=Rw;obtain ⟨i,hi,hz,hs,_⟩:=info_parts hinfo;exact run_buildSlice w 117 114 1 _ _ i _ ht hi hz (by rw [hs];decide) (by rw [hs];decide) (by rw [hs];kernel_rfl)
theorem Ai4 {P:Program} {o:Oper} {a:Act} {K:Act->World->Prop} {Q:Exit->Act->World->Prop} {w:World} (s x:Operand) (t:TypeId)
  (ho:o.op=.call {callee:=.builtin .append,args:=#[s,x],argTypes:=#[t,t]})
  {base size n c:Nat} {e:TypeId} {A:Option Addr} {xs:List Value} {z:Value} {bytes m cx B:Nat} {Ax:Option Addr} {news:List Value}
  (hs:a.eval s=.slice A n c) (hx:a.eval x=.slice Ax m cx)
  (hT:SlT P t e z size bytes) (h:Own w base e size A n c xs) (hr:Rd w B size Ax m news)
  (h1:∀u∈news,u.oneCell'=true) (hbytes:(n+m)*bytes<=140737488355328) (hmax:n+m<=9223372036854775807) (hbase:base<=w.heap.size)
  (hk:∀A' c' w',Own w' base e size A' (n+m) c' (xs++news)->Fr (fun k=>Ab A=some k) w w'->(Ab A'=Ab A\/Ab A'=some w.heap.size)->
   K (a.put o.dst (.slice A' (n+m) c')) w'):Oper.wp P o a w K Q:=by
 obtain ⟨A',c',w',hrun,h2,h3,h4⟩:=Gm (P:=P) (ty:=o.type) (cx:=cx) hT h hr h1 hbytes hmax hbase;unfold Oper.wp execOp;simp only [ho,resolve,invoke,builtin,Sem.run_bind,Sem.run_pure,Result.andThen_ok,List.map_toArray,List.map_cons,List.map_nil,hs,hx,hrun];exact hk A' c' w' h2 h3 h4
attribute [local go_sem ↓] Il Im Ai2
theorem Ai5:addD.1:=by
 conv=>whnf
 intro r5 r7 r8 r9 il ho jj i0 hn iz ji h5 jh g9 ha ja jd h8 h3 jo i6 hw jm g2 g8 ir ii ie hl ig jp jq ij he g7 i7 h4 ic gz iq hp iu iy i5 ib g1 h9 io i9 jg g5 g0 hd gy g6 ih h6 h7 jb hs de ef gn d5 eb eo ea ei co fw f8 fo fn eh gg gf e3 fz fl f4 fp db di dm d8 e7 ct gd dt fb gu dp c9 dg d7 gm fk e4 es d0 em cn fh f3 cu gq d6 ed gi dj fx gp d9 dx c8 ds d2 d4 fy cm dd gc ey e9 fc fu c3 dl dv gw e2 c0 gl gh gj c4 dn da cv cz en gx hc hh i8 je jk jf hr hm ik jc h2 hy jl iv im ht g3 g4 dy ep ec df cq fq dr ej ck f9 ev fj dz e6 f2 e5 fi e8 dk ee dh eg fg fm ft fv jn dc er cp gr eu gt d3 ge gk du el ga fs cy dw d1 ez cw dq base g x w y gs m w6 A6 c6 n w7 pb wv a0 a1 a2 a3 lv lt p0 p1 p2 p3 bb w1 wq b0 b1 b2 b3 cl w3 w4 K n0 n1 n2 n3 hK D;have hg:=D.A.hg;have cc:=Ai1 D.A.chk;replace cc:1<=x.sq/\x.sq<=2147483647:=cc;have br:=D.A.few;have hD:=lh D
 have bm:Hid (∀i,i<256->Aj g.pns x.op.past i=(Av g.pns x.op.past i||Bu g.pns x.op.past i)):=fun i hi=>by
  unfold Aj;simp [hi]
 have bj:Hid (g.pns.length=g.nodes.length):=by show _=_;unfold Gph.pns;rw [List.length_map]
 obtain ⟨CX,bf⟩:=Aa x.cells;have e0:Hid (CX[0]? =some (.int .i64 x.by_)):=by show _=_;rw [<- bf.out];rfl
 have e1:Hid (CX[1]? =some (.int .i64 x.sq)):=by show _=_;rw [<- bf.out];rfl
 have hx:Hid (∀wz,Fr Non w4 wz->cI wz w.heap.size 0 x.by_/\cI wz w.heap.size 1 x.sq):=fun wz hf=>by
  have h:=D.bx.fr hf zq;have h0:=h.cell 0;have h1:=h.cell 1;rw [bf.out] at h0 h1;rw [e0.out] at h0;rw [e1.out] at h1;exact ⟨h0,h1⟩
 have ba:Hid (∀wz,Fr Non w4 wz->cS wz g.gb 2 g.nA g.nodes.length g.nC):=fun wz hf=>((hg.fr D.fr).fr hf).blk.cell 2;rw [bf.out];obtain ⟨nn,au⟩:=Aa g.nodes.length;rw [au.out] at ba br bj;have c2:=ba.out w4 (Fr.refl _ _);clear D;go_wp2_with fail;clear c2
 go_loopw [19,20,158] (fun tl ta v wr=>∃(i:Nat) (la:Int) (ah:Bool),tl=.int .i64 la/\ta=.bool ah/\v=.int .i64 (i:Int)/\i<=nn/\Hid (la=Bj g.pns (Aj g.pns x.op.past) x.by_ i)/\Hid (ah=Bt g.pns (Aj g.pns x.op.past) x.by_ x.sq i)/\Fr Non w4 wr) (fun _ _ v _=>nn-(intOf v).toNat)
 case atStart=>exact ⟨0,0,false,rfl,rfl,rfl,by omega,rfl,rfl,Fr.refl _ _⟩
 case round=>
  obtain ⟨i,la,ah,rfl,rfl,rfl,hi,aj,ak,hf⟩:=hrel
  by_cases hin:i<nn
  ·
   as_aux_lemma=>
   obtain ⟨i1,i2,i3⟩:=ix i nn
   have i4:=iw (i:Int);obtain ⟨nd,bw⟩:∃z,g.nodes[i]? =some z:=⟨_,An5 (by rw [au.out];exact hin)⟩;have bt:g.pns[i]? =some nd.pn:=by unfold Gph.pns;rw [Ao4,bw];rfl
   obtain ⟨bn,ab,cj,ew,ae⟩:=hg.cell bw;have af:=lh (Ai0 (p:=Aj g.pns x.op.past) (d:=x.by_) bt);have ad:=lh (Q9 (p:=Aj g.pns x.op.past) (d:=x.by_) (s:=x.sq) bt)
   have bi:Hid (∀wz,Fr Non w4 wz->cI wz bn (ab+i*35) nd.x.by_/\cI wz bn (ab+i*35+1) nd.x.sq):=fun wz hf=>by
    have f1:=hD.out.fr.trans hf zr;exact ⟨f1.cell (ae 0 (by omega) _ rfl) zq,f1.cell (ae 1 (by omega) _ rfl) zq⟩
   have kh:=lh (fun wz (hz:Fr Non w4 wz)=>J0 gs 30 [n0,n1,n2,n3] _ i wz hD.out.set (fun j hj=>by
    rw [(hD.out.bn.fr hz zq).cell]
    match j,hj with
    |0,_=>rfl
    |1,_=>rfl
    |2,_=>rfl
    |3,_=>rfl) (by omega))
   obtain ⟨mi,bs⟩:=Aa (Av g.pns x.op.past i||Bu g.pns x.op.past i);have ca:Hid (Aj g.pns x.op.past i=mi):=(bm.out i (by omega)).trans bs.out;rw [bs.out] at kh;have c2:=ba.out wr hf;rw [cj] at c2;obtain ⟨ao,ar⟩:=bi.out wr hf;obtain ⟨x0,x1⟩:=hx.out wr hf;have ch:=iw (x.sq-1);rw [ca.out] at af ad;replace af:Hid (Bj g.pns (Aj g.pns x.op.past) x.by_ (i+1)=if (nd.x.by_==x.by_&&mi)=true then max (Bj g.pns (Aj g.pns x.op.past) x.by_ i) nd.x.sq else Bj g.pns (Aj g.pns x.op.past) x.by_ i):=af;replace ad:Hid (Bt g.pns (Aj g.pns x.op.past) x.by_ x.sq (i+1)=(Bt g.pns (Aj g.pns x.op.past) x.by_ x.sq i||(nd.x.by_==x.by_&&mi&&nd.x.sq==x.sq-1))):=ad;clear bt bw ae cj bm bs ca ba hg hD
   rcases zb (nd.x.by_==x.by_) with hq|hq
   ·
    rw [hq] at af ad;go_upto_region 46 with (fail)
    clear c2;refine wp_region_held_drew (S:=(fun w'=>cI w' bn (ab+i*35) nd.x.by_/\cI w' w.heap.size 0 x.by_)) (by kernel_rfl) ⟨ao,x0⟩ (fun hS=> ?_);replace hf:=hf.drew;refine tkH 0 hS (h:=tkH 1 hS (h:=tkH 2 hS (h:=tkH 3 hS (h:=tkH 4 hS (h:=tkH 5 hS (h:=tkH 6 hS (h:=tkH 7 hS (h:=tkH 8 hS (h:=tkH 9 hS (h:=tkH 10 hS (h:=?_)))))))))));simp only [zl];refine oG 11 (fun K hK=> ?_);go_simp;go_wp2_with (go_at_call 70;(with_reducible refine (kh.out _ hf).mono ?_);rintro _ _ ⟨rfl,rfl⟩);refine hK.out _ _ hS (fun hZ=> ?_);clear hZ hK K kh;try simp only [Ac,zl]
    refine tkH 12 hS (h:=?_);simp only [zl];refine oD ?_;go_simp;obtain ⟨ao,ar⟩:=bi.out wr.drew hf;obtain ⟨x0,x1⟩:=hx.out wr.drew hf;clear hS bi ao x0
    cases mi
    ·
     have ap:Hid (la=Bj g.pns (Aj g.pns x.op.past) x.by_ (i+1)):=by show _=_;rw [af.out,<- aj.out];rfl
     have av:Hid (ah=Bt g.pns (Aj g.pns x.op.past) x.by_ x.sq (i+1)):=by show _=_;rw [ad.out,<- ak.out];simp
     clear af ad aj ak ar x1;go_wp2_with fail;go_roundw
     case rel=>exact ⟨i+1,la,ah,rfl,rfl,by go_num,by omega,ap,av,hf⟩
     case measure=>simp [intOf];omega
    ·
     have ap:Hid (max la nd.x.sq=Bj g.pns (Aj g.pns x.op.past) x.by_ (i+1)):=by show _=_;rw [af.out,<- aj.out];rfl
     have av:Hid ((ah||nd.x.sq==x.sq-1)=Bt g.pns (Aj g.pns x.op.past) x.by_ x.sq (i+1)):=by show _=_;rw [ad.out,<- ak.out];simp
     clear af ad aj ak;go_upto_region 48 with (fail)
     generalize wr.drew=w5 at*
     cases ah
     case false=>
      refine wp_region_held_drew (S:=(fun w'=>cI w' bn (ab+i*35+1) nd.x.sq/\cI w' w.heap.size 1 x.sq)) (by kernel_rfl) ⟨ar,x1⟩ (fun hS=> ?_);replace hf:=hf.drew;refine tkH 0 hS (h:=tkH 1 hS (h:=tkH 2 hS (h:=tkH 3 hS (h:=tkH 4 hS (h:=tkH 5 hS (h:=tkH 6 hS (h:=tkH 7 hS (h:=tkH 8 hS (h:=tkH 9 hS (h:=tkH 10 hS (h:=tkH 11 hS (h:=?_))))))))))));simp only [zl];refine tkH 12 hS (h:=?_);simp only [zl];refine oD ?_;go_simp;go_wp2_with fail;go_roundw
      case rel=>exact ⟨i+1,max la nd.x.sq,_,rfl,rfl,by go_num,by omega,ap,av,hf⟩
      case measure=>simp [intOf];omega
     case true=>
      refine wp_region_held_drew (S:=(fun w'=>cI w' bn (ab+i*35+1) nd.x.sq/\cI w' w.heap.size 1 x.sq)) (by kernel_rfl) ⟨ar,x1⟩ (fun hS=> ?_);replace hf:=hf.drew;refine tkH 0 hS (h:=tkH 1 hS (h:=skH 2 hS (h:=skH 3 hS (h:=skH 4 hS (h:=skH 5 hS (h:=skH 6 hS (h:=skH 7 hS (h:=skH 8 hS (h:=skH 9 hS (h:=skH 10 hS (h:=tkH 11 hS (h:=?_))))))))))));simp only [zl];refine tkH 12 hS (h:=?_);simp only [zl];refine oD ?_;go_simp;go_wp2_with fail;go_roundw
      case rel=>exact ⟨i+1,max la nd.x.sq,_,rfl,rfl,by go_num,by omega,ap,av,hf⟩
      case measure=>simp [intOf];omega
   ·
    rw [hq] at af ad;have ap:Hid (la=Bj g.pns (Aj g.pns x.op.past) x.by_ (i+1)):=by show _=_;rw [af.out,<- aj.out];rfl
    have av:Hid (ah=Bt g.pns (Aj g.pns x.op.past) x.by_ x.sq (i+1)):=by show _=_;rw [ad.out,<- ak.out];simp
    clear af ad aj ak;go_upto_region 46 with (fail)
    clear c2;refine wp_region_held_drew (S:=(fun w'=>cI w' bn (ab+i*35) nd.x.by_/\cI w' w.heap.size 0 x.by_)) (by kernel_rfl) ⟨ao,x0⟩ (fun hS=> ?_);replace hf:=hf.drew;refine tkH 0 hS (h:=tkH 1 hS (h:=tkH 2 hS (h:=tkH 3 hS (h:=tkH 4 hS (h:=tkH 5 hS (h:=tkH 6 hS (h:=tkH 7 hS (h:=tkH 8 hS (h:=skH 9 hS (h:=skH 10 hS (h:=skH 11 hS (h:=?_))))))))))));simp only [zl];refine tkH 12 hS (h:=?_);simp only [zl];refine oD ?_;go_simp;clear hS;go_wp2_with fail;go_roundw
    case rel=>exact ⟨i+1,la,ah,rfl,rfl,by go_num,by omega,ap,av,hf⟩
    case measure=>simp [intOf];omega
  ·
   obtain rfl:nn=i:=by omega
   have ac:Hid (Ba g.pns (Aj g.pns x.op.past) x.op=(decide (x.sq<=la)||(decide (1<x.sq)&& !ah))):=by
    show _=_;unfold Ba;rw [bj.out];rw [show x.op.by_=x.by_ from rfl,show x.op.sq=x.sq from rfl,<- aj.out,<- ak.out]
   obtain ⟨x0,x1⟩:=hx.out wr hf;obtain ⟨bad,aq⟩:=Aa (decide (x.sq<=la)||(decide (1<x.sq)&& !ah));clear aj ak hi hin hx ba bj bm x0;go_upto_region 50 with (fail)
   go_cut [212] from 200 to 212 (fun s wc=>wr=wc/\s=.bool bad)
   case first=>
    clear hD ac hg
    as_aux_lemma=>
    rcases zb (decide (x.sq<=la)) with t1|t1
    ·
     have hv:Hid (true=bad):=by show _=_;rw [<- aq.out,t1];rfl
     go_wp2_with fail;go_meet;exact ⟨rfl,hB hv⟩
    ·
     rcases zb (decide (1<x.sq)) with t2|t2
     ·
      have hv:Hid ((!ah)=bad):=by show _=_;rw [<- aq.out,t1,t2];rfl
      go_wp2_with fail;go_meet;exact ⟨rfl,hB hv⟩
     ·
      have hv:Hid (false=bad):=by show _=_;rw [<- aq.out,t1,t2];rfl
      go_wp2_with fail;go_meet;exact ⟨rfl,hB hv⟩
   case rest=>
   obtain ⟨rfl,rfl⟩:=hcut;clear x1;rw [aq.out] at ac
   cases bad
   case true=>
    have bl:=lh (AddPost.bad (base:=base) (w':=wr) (by rw [hD.out.err,if_pos ac.out]) (by decide) (hD.out.fr.trans hf zr));clear hD ac aq hg hf
    as_aux_lemma=>
    go_wp2_with fail
    go_ret
    exact bl.out
   case false=>
    have bd:Ah g.cards g.pns x.op=0:=by rw [hD.out.err,ac.out];rfl
    have D:=hD.out;obtain ⟨aa,ag⟩:=Aa x.op.name;have bo:aa.ok:=by rw [<- ag.out];exact Ec D.A.hok
    have cr:Fr Non w wr:=D.fr.trans hf zr;have bg:=hg.fr cr;have bc:=D.bn.fr hf zq;rw [ag.out] at bc;have bz:cI wr gs 27 aa.b:=bc.cell 27;have ce:cI wr gs 28 aa.s:=bc.cell 28;have cd:cU wr gs 29 aa.u:=bc.cell 29;have c1:wr.cell? ⟨g.gb,1,none⟩=some (.map (some g.mb)):=bg.blk.cell 1;have c2:wr.cell? ⟨g.gb,2,none⟩=some (.slice g.nA nn g.nC):=by rw [<- au.out];exact bg.blk.cell 2
    obtain ⟨w5,a8,cf,cb⟩:=MapAt.store (bg.map.fr ((Fr.refl Non wr).drew) zq) aa bo nn (by omega) (by have:=hg.mfew;have:=hg.few;omega);have f5:Fr (One g.mb) wr.drew w5:=(Fr.refl (One g.mb) wr.drew).grown cb (fun k hk _=>by injection hk with hk;exact hk.symm);have ai:(Instr.mapUpdate 116 (.map (some g.mb)) (.agg aa.V) (.int .i64 (nn:Int))).run zp wr.drew=.ok () w5:=a8;clear a8 cb ac aq;go_upto_region 52 with (fail)
    refine Cy (S:=(fun w'=>cI w' gs 27 aa.b/\cI w' gs 28 aa.s/\cU w' gs 29 aa.u/\w'.cell? ⟨g.gb,1,none⟩=some (.map (some g.mb))/\cS w' g.gb 2 g.nA nn g.nC)) 11 (by kernel_rfl) ?_;have hS:(fun w'=>cI w' gs 27 aa.b/\cI w' gs 28 aa.s/\cU w' gs 29 aa.u/\w'.cell? ⟨g.gb,1,none⟩=some (.map (some g.mb))/\cS w' g.gb 2 g.nA nn g.nC) wr.drew:=⟨bz,ce,cd,c1,c2⟩;obtain ⟨wd,cg⟩:=Aa wr.drew;have fd:Fr Non w4 wd:=by rw [<- cg.out];exact hf.drew
    rw [cg.out] at hS f5 ai ⊢;refine tkG 0 hS (h:=tkG 1 hS (h:=tkG 2 hS (h:=tkG 3 hS (h:=tkG 4 hS (h:=tkG 5 hS (h:=tkG 6 hS (h:=tkG 7 hS (h:=tkG 8 hS (h:=tkG 9 hS (h:=tkG 10 hS (h:=?_)))))))))));simp only [zl];refine Cs (by kernel_rfl) ?_;refine oG 11 (fun K hK=> ?_);go_simp;refine hK.out _ _ trivial (fun hZ=> ?_);clear hZ hK K;try simp only [Ad,zl]
    refine oD ?_;go_simp;clear hS ai bz ce cd c1 c2 bg bc;have ci:Fr Non w wd:=D.fr.trans fd zr;have bu:=hg.fr ci;have gv:g.mb<w.heap.size:=hg.map.lt;have et:=D.lo1
    have az:g.gb≠g.mb:=fun e=>by
     have h1:=hg.blk;unfold Blk at h1;rw [e] at h1;exact hg.map.ismap _ _ _ h1
    have bp:¬Ab g.nA=some g.mb:=fun e=>by
     obtain ⟨cs,fr,hb⟩:=hg.own.block e;exact hg.map.ismap _ _ _ hb
    have aw:¬Ab g.nA=some g.gb:=hg.own.ne hg.blk (by decide);have bk:¬Ab g.nA=some gs:=fun e=>by have:=(hg.own.row _ e).2;omega
    have b5:=bu.blk.fr f5 (fun e=>az e)
    have cx:Blk w5 gs 114 (⟨y,aa,n0,n1,n2,n3,lv⟩:Ag).cells.toArray:=by
     have h1:=(D.bn.fr fd zq).fr f5 (fun e=>by have e':gs=g.mb:=e;omega);rw [ag.out] at h1;exact h1
    have bv:Own w5 base 114 35 g.nA nn g.nC (g.nodes.flatMap Ag.cells):=by
     rw [<- au.out];exact bu.own.fr f5 (fun k hk e=>by have e':k=g.mb:=e;subst e';exact bp hk)
    have c5:w5.cell? ⟨g.gb,2,none⟩=some (.slice g.nA nn g.nC):=by rw [<- au.out];exact b5.cell 2
    have a4:(zp.info? 114).map (·.size)=some (⟨y,aa,n0,n1,n2,n3,lv⟩:Ag).cells.toArray.size:=by
     show _=some 35
     kernel_rfl
    have f0:=Bb (P:=zp) gs 114 underlying114 rfl (cs:=(⟨y,aa,n0,n1,n2,n3,lv⟩:Ag).cells.toArray) a4;have ff:=Ai3 ⟨y,aa,n0,n1,n2,n3,lv⟩;have a7:=Gz ⟨y,aa,n0,n1,n2,n3,lv⟩;have bq:(⟨y,aa,n0,n1,n2,n3,lv⟩:Ag).cells.length=35:=rfl;have al:=lh (fun (A':Option Addr) (c':Nat) (w6 w7:World)=>Ah9 (w4:=w4) (wd:=wd) (w5:=w5) (w6:=w6) (w7:=w7) (A':=A') (c':=c') hg D bd fd);have b8:base<=w.heap.size:=Nat.le_trans hg.gbase (Nat.le_of_lt hg.blk.lt);have ip:=f5.size;have ia:=ci.size;rw [ag.out,au.out] at al;clear bu D bd hD hf;go_upto_region 53 with (fail)
    refine Cy (S:=(fun w'=>cS w' g.gb 2 g.nA nn g.nC/\Blk w' gs 114 (⟨y,aa,n0,n1,n2,n3,lv⟩:Ag).cells.toArray)) 10 (by kernel_rfl) ?_;have hS:(fun w'=>cS w' g.gb 2 g.nA nn g.nC/\Blk w' gs 114 (⟨y,aa,n0,n1,n2,n3,lv⟩:Ag).cells.toArray) w5.drew:=⟨c5,cx⟩;obtain ⟨we,b9⟩:=Aa w5.drew;have fe:Fr Non w5 we:=by rw [<- b9.out];exact (Fr.refl Non w5).drew
    have a6:=bv.fr fe zr;have be:=b5.fr fe zq;have ek:=fe.size;rw [b9.out] at hS ⊢;refine tkG 0 hS (h:=tkG 1 hS (h:=tkG 2 hS (h:=tkG 3 hS (h:=tkG 4 hS (h:=tkG 5 hS (h:=?_))))));simp only [zl];refine Bf 6 (by kernel_rfl) rfl (fun K hK=> ?_);go_simp;have fa:Fr Non we (we.alloc (.cells (⟨y,aa,n0,n1,n2,n3,lv⟩:Ag).cells.toArray 114)):=(Fr.refl Non we).alloc _;have bh:(fun w'=>cS w' g.gb 2 g.nA nn g.nC/\Blk w' gs 114 (⟨y,aa,n0,n1,n2,n3,lv⟩:Ag).cells.toArray) (we.alloc (.cells (⟨y,aa,n0,n1,n2,n3,lv⟩:Ag).cells.toArray 114)):=⟨fa.cell hS.1 zq,hS.2.fr fa zq⟩;have ax:=a6.fr fa zr;have a5:=Rd.blk (n:=1) (size:=35) (l:=(⟨y,aa,n0,n1,n2,n3,lv⟩:Ag).cells) (Blk.new we 114 (⟨y,aa,n0,n1,n2,n3,lv⟩:Ag).cells.toArray) (by rw [bq]);have b6:=be.fr fa zq;have f6:=fe.trans fa zr;refine hK.out _ _ bh (fun hZ=> ?_);clear hZ hK K;try simp only [Ac,zl]
    generalize we.alloc (.cells (⟨y,aa,n0,n1,n2,n3,lv⟩:Ag).cells.toArray 114)=w6 at*;refine Bf 7 (by kernel_rfl) rfl (fun K hK=> ?_);refine Ai4 (base:=base) (.tmp 228) (.tmp 230) 117 (by rfl) (by rfl) (by rfl) Rw ax a5 (by intro u hu;exact (Array.all_eq_true'.1 a7) u (by simpa using hu)) (by omega) (by omega) (by have:=f6.size;omega) ?_;intro A' c' w7 ay f7 b4;have a9:(fun w'=>cS w' g.gb 2 g.nA nn g.nC/\Blk w' gs 114 (⟨y,aa,n0,n1,n2,n3,lv⟩:Ag).cells.toArray) w7:=⟨f7.cell bh.1 aw,bh.2.fr f7 bk⟩;have b7:=b6.fr f7 aw;refine hK.out _ _ a9 (fun hZ=> ?_);clear hZ hK K;try simp only [Ac,zl]
    refine Bf 8 (by kernel_rfl) rfl (fun K hK=> ?_);go_simp;refine hK.out _ _ a9 (fun hZ=> ?_);clear hZ hK K;try simp only [Ac,zl]
    refine tkG 9 a9 (h:=?_);simp only [zl];have bl:=lh (al.out A' c' w6 w7 cf f5 f6 ay f7 b4);have c7:cS w7 g.gb 2 g.nA nn g.nC:=a9.1;have z7:w7.frozen? ⟨g.gb,2,none⟩=false:=b7.frozen 2;refine Cs (by kernel_rfl) ?_;refine oG 10 (fun K hK=> ?_);go_simp;refine hK.out _ _ trivial (fun hZ=> ?_);clear hZ hK K;try simp only [Ad,zl]
    refine oD ?_;go_simp;clear hS bh a9 ay f7 b4 b7 c7 z7 al cf f5 f6 ax a5 b6 be a6 fe ek f0 ff a7;go_wp2_with fail
    go_ret
    exact bl.out
theorem Hw (base:Nat) (g:Gph) (x:OpL) (w:World) (hg:GAt w base g) (hat:x.at w w.heap.size) (hok:x.op.ok) (hkn:KindsAt w):
  Calls zp 17 #[.pointer (some ⟨g.gb,0,none⟩),.agg x.cells] w (AddPost base g x.op w):=
 addA.2 ⟨addB.2 ⟨addC.2 ⟨addD.2 ⟨Ai5⟩⟩⟩⟩ base g x w hg hat hok hkn
end Oq
namespace Oq
attribute [local go_sem ↓] Cg Ej
def Lr (b s a:Int) (l:List Id) (w:World) (e:Ending) (w':World):Prop:=∃y:OpL,e=.returned (.agg y.cells)/\y.op=sgn (Du b s a (An l))/\y.own w' w.heap.size/\Fr Non w w'
def erL (b s a:Int) (A:Option Addr) (c:Nat) (l:List Id):OpL:={OpL.zero with by_:=b,sq:=s,kind:=8,at_:=a,pastA:=A,pastC:=c,past:=l,of:=⟨1,1,0⟩}
theorem Rx (b s a:Int) (A:Option Addr) (c:Nat) (l:List Id):(erL b s a A c l).op=Du b s a l:=rfl
theorem Ls (x:OpL) (o:Op) (h:x.op=o) (u:Nat) (hu:o.by_.toNat=u) (S:Nat) (hS:sec Bd u=S):({x with r:=Sg.r S x.op.bare,s:=Sg.s S x.op.bare}:OpL).op=sgn o:=by
 rw [Wl,h];unfold sgn;rw [hu,hS]
theorem Ck:I64 0:=⟨by decide,by decide⟩
theorem I64_8:I64 8:=⟨by decide,by decide⟩
theorem I9:I64 1:=⟨by decide,by decide⟩
theorem Ja {b s a : Int} {L : List Id} (hb : 1 <= b /\ b <= 12) (hs : 1 <= s /\ s <= 2147483647) (ha : 0 <= a /\ a <= 2147483647) (hl : L.length <= 1000 /\ ∀ x ∈ L, x.ok) : (Du b s a L).ok :=
  ⟨⟨by show _ <= b; omega, by show b <= _; omega⟩, ⟨by show _ <= s; omega, by show s <= _; omega⟩, I64_8, ⟨by show _ <= a; omega, by show a <= _; omega⟩, hl, Ck, Ck, Ck, Ck,
   ⟨An3 _, fun _ h => absurd h An4⟩, ⟨Ck, Ck, Dn⟩, Ck, An3 _, ⟨An3 _, fun _ h => absurd h An4⟩, ⟨I9, I9, Dn⟩,
   ⟨An3 _, fun _ h => absurd h An4⟩, Ck, Ck, ⟨An3 _, fun _ h => absurd h An4⟩, Dn, ⟨An3 _, fun _ h => absurd h An4⟩, Dn, Dn⟩
theorem Ry {b s a:Int} {A:Option Addr} {c:Nat} {l:List Id} {w:World} {base:Nat} (h:Own w base 38 3 A l.length c (l.flatMap Id.cells)):(erL b s a A c l).own w base:=
 ⟨RowAt.of_own h,RowAt.nil _ _ _ _,(fun _ h=>absurd h An4),RowAt.nil _ _ _ _,RowAt.nil _ _ _ _,RowAt.nil _ _ _ _,RowAt.nil _ _ _ _,RowAt.nil _ _ _ _,(fun _ h=>absurd h An4)⟩
theorem Jb {x:OpL} {w:World} {base:Nat} (o:x.own w base) (r s:Nat):({x with r:=r,s:=s}:OpL).own w base:=⟨o.past,o.path,o.nodes,o.body,o.refs,o.guards,o.boxes,o.hist,o.seals⟩
theorem Lt (b s a:Int) (B n c:Nat) (A:Option Addr) (l:List Id) (w:World) (hb:1<=b/\b<=12) (hs:1<=s/\s<=2147483647) (ha:0<=a/\a<=2147483647) (hn:Hid (l.length=n)) (hr:Rd w B 3 A n (l.flatMap Id.cells)) (hnm:n<=1000) (hok:∀x∈l,x.ok):
  Calls zp 71 #[.int .i64 b,.int .i64 s,.int .i64 a,.slice A n c] w (Lr b s a l w):=by
 have hi:(zp.info? 44).map (·.size)=some 27:=by kernel_rfl
 have ag:(An l).length=n:=(C3 l).length_eq.trans hn.out;have ak:(Du b s a (An l)).ok:=Ja hb hs ha ⟨by omega,fun x hx=>hok x ((C3 l).subset hx)⟩;have f0:Fr Non w (w.alloc (.cells zO 44)):=(Fr.refl Non w).alloc _;have af:=Blk.new w 44 zO;have kS:=lh (fun w' (h:Fr Non w w')=>Fm B n c A l w' hn (hr.fr h zr) (by omega));obtain ⟨u,hu⟩:∃u,b.toNat=u:=⟨_,rfl⟩;have ao:IntKind.u64.wrap b=(u:Int):=by rw [IntKind.wrap_u64];omega
 have kG:Hid (∀(A1:Option Addr) (c1:Nat) (w':World) (aa:Nat),Own w' aa 38 3 A1 n c1 ((An l).flatMap Id.cells)->Calls zp 15 #[.agg #[.int .i64 b,.int .i64 s,.int .i64 8,.int .i64 a,.slice A1 n c1,.int .i64 0,.int .i64 0,.int .i64 0,.int .i64 0,.slice none 0 0,.int .i64 0,.int .i64 0,.int .u64 0,.int .i64 0,.slice none 0 0,.slice none 0 0,.int .i64 1,.int .i64 1,.int .u64 0,.slice none 0 0,.int .i64 0,.int .i64 0,.slice none 0 0,.int .u64 0,.slice none 0 0,.int .u64 0,.int .u64 0]] w' fun r al=>
   ∃y:OpL,r=.returned (.agg y.cells)/\y.op=sgn (Du b s a (An l))/\(∀(S:Nat->Prop) (wz:World),Fr S w' wz->(∀k,Ab A1=some k->¬S k)->y.own wz aa)/\Fr Non w' al):=by
  intro A1 c1 w' aa ho;rw [<- ag] at ho ⊢;have au:=(Ry (b:=b) (s:=s) (a:=a) ho).at;have h:=Ko (erL b s a A1 c1 (An l)) u w' ao (by omega) au (by rw [Rx];exact ak);refine Calls.mono h ?_;rintro r al ⟨h1,h2⟩;exact ⟨_,h1,Ls _ _ (Rx b s a A1 c1 (An l)) u hu _ rfl,(fun S wz hf hs=>Jb (Ry (ho.fr hf hs)) _ _),h2⟩
 have ac:Hid (∀(y:OpL) w',y.op=sgn (Du b s a (An l))->y.own w' w.heap.size->Fr Non w w'->Lr b s a l w (.returned (.agg y.cells)) w'):=fun y w' h1 h2 h3=>⟨y,rfl,h1,h2,h3⟩;unfold SortPost at kS;generalize Lr b s a l w=POST at*;generalize sgn (Du b s a (An l))=OO at*;generalize (An l).flatMap Id.cells=SC at*;clear ak ag hn hr hok ao hu;go_enter func71,ntmps71;go_upto_region 1 with (fail)
 generalize w.alloc (.cells zO 44)=w0 at*;have ar:=f0.size
 go_wp2_with (first
  |(go_at_call 48;(with_reducible refine (kS.out _ f0).mono ?_);rintro _ w1 ⟨A1,c1,rfl,o1,f1⟩;have kg:=lh (kG.out A1 c1 w1 _ o1);have ay:=af.fr f1 zq;have az:=f0.trans f1 zr;have ae:=o1.row;have a0:=af.lt;clear kS kG o1 f1)
  |(go_at_call 15;(with_reducible refine (kg.out).mono ?_);rintro _ w2 ⟨y,rfl,ap,ad,f2⟩;have aj:=ay.fr f2 zq;have aq:=az.trans f2 zr;have ab:=Cn y;have av:Hid (∀wz,Fr (One w.heap.size) w2 wz->POST (.returned (.agg y.cells)) wz):=(fun wz hz=>by
    have aw:Fr Non w wz:=aq.trans hz (fun k hk e=>absurd hk (by have e':k=w.heap.size:=e;omega));have ax:w.heap.size<=w0.heap.size:=ar;exact ac.out y wz ap ((ad (One w.heap.size) wz ((Fr.of_non f2 (One w.heap.size)).trans hz zr) (fun k hk e=>by have h1:=(ae k hk).1;have e':k=w.heap.size:=e;omega)).lower ax) aw);clear kg f2)
  |(refine Ei rfl 44 (.tmp 8) (.tmp 16) rfl rfl rfl rfl aj hi rfl ab ?_;have ai:=(Fr.refl (One w.heap.size) w2).setRow (g:=w.heap.size) (fun _=>rfl) y.cells;have ah:=aj.setRow (cs:=y.cells);generalize w2.setRow w.heap.size y.cells=wz at ai ah ⊢;(repeat (first|go_values|go_skip|go_guarded|go_step));exact C8 (t:=44) rfl rfl ah rfl underlying44 (by kernel_rfl) rfl (av.out wz ai)))
end Oq
namespace Oq
def nxL (y:OpL) (A:Option Addr) (c:Nat) (ids:List Id) (s a:Int):OpL:={y with pastA:=A,pastC:=c,past:=ids,sq:=s,at_:=a}
theorem Ai6 {y:OpL} {A:Option Addr} {c:Nat} {ids:List Id} {s a:Int} (h:y.op.ok) (hi:ids.length<=1000/\∀x∈ids,x.ok) (hs:I64 s) (ha:I64 a):(nxL y A c ids s a).op.ok where
 by_:=h.by_
 sq:=hs
 kind:=h.kind
 at_:=ha
 past:=hi
 dev:=h.dev
 old:=h.old
 mem:=h.mem
 role:=h.role
 path:=h.path
 epoch:=h.epoch
 n:=h.n
 body:=h.body
 refs:=h.refs
 of:=h.of
 guards:=h.guards
 need:=h.need
 wait:=h.wait
 boxes:=h.boxes
 pub:=h.pub
 hist:=h.hist
 r:=h.r
 s:=h.s
theorem Ai7 {y:OpL} {A:Option Addr} {c:Nat} {ids:List Id} {s a:Int} {w:World} {base:Nat} (h:y.own w base) (hi:RowAt w base 38 3 A ids.length c (ids.flatMap Id.cells)):(nxL y A c ids s a).own w base:=
 ⟨hi,h.path,h.nodes,h.body,h.refs,h.guards,h.boxes,h.hist,h.seals⟩
def fsL (d a v:Int) (A:Option Addr):OpL:={OpL.zero with by_:=d,sq:=1,kind:=1,at_:=a,pathA:=A,pathC:=1,path:=[⟨5,none,0,[]⟩],need:=v}
theorem Ai8 {d a v:Int} {A:Option Addr} (hd:I64 d) (ha:I64 a) (hv:I64 v):(fsL d a v A).op.ok:=
 ⟨hd,(show I64 1 from ⟨by decide,by decide⟩),(show I64 1 from ⟨by decide,by decide⟩),ha,⟨An3 _,fun _ h=>absurd h An4⟩,z64,z64,z64,z64,⟨by show (1:Nat)<=1000;decide,fun x hx=>by obtain rfl:=List.mem_singleton.1 hx;exact Ge 5 (by decide)⟩,⟨z64,z64,E3⟩,z64,An3 _,⟨An3 _,fun _ h=>absurd h An4⟩,⟨z64,z64,E3⟩,
  ⟨An3 _,fun _ h=>absurd h An4⟩,hv,z64,⟨An3 _,fun _ h=>absurd h An4⟩,E3,⟨An3 _,fun _ h=>absurd h An4⟩,E3,E3⟩
theorem Ai9 {d a v:Int} {A:Option Addr} {w:World} {base:Nat} (h:RowAt w base 94 2 A 1 1 (([⟨5,none,0,[]⟩]:List NdL).flatMap NdL.cells)):(fsL d a v A).own w base:=
 ⟨RowAt.nil _ _ _ _,h,(fun y hy=>by obtain rfl:=List.mem_singleton.1 hy;exact RowAt.nil _ _ _ _),RowAt.nil _ _ _ _,RowAt.nil _ _ _ _,RowAt.nil _ _ _ _,RowAt.nil _ _ _ _,RowAt.nil _ _ _ _,(fun _ h=>absurd h An4)⟩
theorem OpL.own.opBlk {x:OpL} {w w':World} {base g:Nat} {cs:Array Value} (h:x.own w base) (hb:Blk w g 44 cs) (hf:Fr (One g) w w'):x.own w' base:=
 h.keepP hf (Types.one hb) (by decide) (by decide) (by decide) (by decide) (by decide) (by decide) (by decide)
theorem Lu {w:World} {g i:Nat} (u:Value):Fr (One g) w (w.setCell ⟨g,i,none⟩ u):=(Fr.refl (One g) w).setCell (p:=⟨g,i,none⟩) (fun _=>rfl) u
theorem Dg {w:World} {g:Nat} (cs:Array Value):Fr (One g) w (w.setRow g cs):=(Fr.refl (One g) w).setRow (fun _=>rfl) cs
def Jc (o:Op) (base:Nat) (w:World) (e:Ending) (w':World):Prop:=∃y:OpL,e=.returned (.agg y.cells)/\y.op=sgn o/\y.own w' base/\Fr Non w w'
theorem Lv (x:OpL) (d base:Nat) (w:World) (hd:x.by_=(d:Int)) (hd':d<=1000) (ho:x.own w base) (hok:x.op.ok):
  Calls zp 15 #[.agg x.cells] w (Jc x.op base w):=by
 have h:=Ko x d w (by rw [hd,IntKind.wrap_u64];omega) (by omega) ho.at hok;refine Calls.mono h ?_;rintro r w' ⟨h1,h2⟩;exact ⟨_,h1,Ls x x.op rfl d (by show x.by_.toNat=d;omega) _ rfl,Jb (ho.non h2) _ _,h2⟩
theorem Aj0 {cards:List Cd} (hc:cards=Be 0 [1,2,3,1]) {d:Int} (hd:1<=d/\d<=4):∃c,Bk cards d=some c/\c.s=Sg.pub (sec Bd d.toNat):=by
 subst hc;have h4:d=1\/d=2\/d=3\/d=4:=by omega
 rcases h4 with rfl|rfl|rfl|rfl
 · exact ⟨Bs 0 1,rfl,rfl⟩
 · exact ⟨Bs 1 2,rfl,rfl⟩
 · exact ⟨Bs 2 3,rfl,rfl⟩
 · exact ⟨Bs 3 1,rfl,rfl⟩
theorem Aj1 {cards:List Cd} (hc:cards=Be 0 [1,2,3,1]) {d a v:Int} (hd:1<=d/\d<=4) (ha:0<=a/\a<=4) (hv:0<=v/\v<=4):Ah cards [] (sgn (I6 d a v))=0:=by
 obtain ⟨c,h1,h2⟩:=Aj0 hc hd;exact Ag2 ⟨by omega,by omega⟩ ⟨by omega,by omega⟩ ⟨by omega,by omega⟩ h1 h2
def FewN (o:Op):Prop:=o.past.length<=500/\1<=o.by_/\o.by_<=4
theorem FewN.sgn {o:Op} (h:FewN o):FewN (sgn o):=by
 unfold FewN at*;rw [Rm,I5];exact h
def Lw (cards:List Cd) (l:List Pn) (w:World) (e:Ending) (w':World):Prop:=
 ∃y:OpL,e=.returned (.agg y.cells)/\y.op.ok/\y.own w' w.heap.size/\Fr Non w w'/\(l=[]->Ah cards [] y.op=0)/\FewN y.op
end Oq
section
open Go.RowKit Go.Sort Go.Shelf
namespace Oq
section
variable {α : Type} [Inhabited α] {enc : α -> List Value} {sz : Nat} (hlen : ∀ x, (enc x).length = sz) (hsz : 0 < sz)
include hlen hsz
theorem Rz (xs:List α) {j:Nat} (hj:j<xs.length*sz):(xs.flatMap enc)[j]? =some ((flatK enc sz xs.toArray)[j]!):=by
 rw [get_flatK _ _ _ _ (by simpa using hj)];have hk:j/sz<xs.length:=Nat.div_lt_of_lt_mul (by rwa [Nat.mul_comm] at hj);have hm:j%sz<sz:=Nat.mod_lt _ hsz;have h1:xs[j/sz]? =some xs[j/sz]:=An5 hk;have h2:=E6 (f:=enc) (size:=sz) hlen xs (j/sz) (j%sz) _ h1 hm;rw [Nat.mul_comm,Nat.div_add_mod] at h2;rw [h2];have h3:xs.toArray[j/sz]! =xs[j/sz]:=by simp [hk]
 rw [h3];have h4:j%sz<(enc xs[j/sz]).length:=by rw [hlen];exact hm
 rw [An5 h4];simp [h4]
theorem Aj2 {w:World} {base c:Nat} {t:TypeId} {g:Nat} {xs:List α} (h:Own w base t sz (some ⟨g,0,none⟩) xs.length c (xs.flatMap enc)):HoldsK enc sz w g 0 xs.toArray:=by
 intro j hj;have hj':j<xs.length*sz:=by simpa using hj
 obtain ⟨cur,hb,hl,hs⟩:=Rr h (by
  rcases Nat.eq_zero_or_pos xs.length with h0|h0
  · rw [h0] at hj';simp at hj'
  · exact h0)
 have hf:=Rz hlen hsz xs hj';rw [An6];refine ⟨?_,hb.frozen j⟩;rw [hb.cell j,id,<- hf,<- hl,Ao1 hj'];simp
theorem Aj3 {w:World} {base c:Nat} {t:TypeId} {g:Nat} {xs ys:List α} (n:Nat) (os:Array Obj) (h:Own w base t sz (some ⟨g,0,none⟩) xs.length c (xs.flatMap enc)) (hx:0<xs.length) (hl:ys.length=xs.length):
  Own (sortWorldK enc sz w g 0 n ys.toArray os) base t sz (some ⟨g,0,none⟩) ys.length c (ys.flatMap enc):=by
 have hyl:(ys.flatMap enc).length=ys.length*sz:=E7 (f:=enc) hlen ys
 rcases h.2 with ⟨_,h0⟩|⟨g',cap,cur,hv,hb,hg,h1,h2,h3,h4⟩
 · omega
 ·
  injection hv with hA hn' hc
  injection hA with hA
  injection hA with hA
  subst hA;subst hc
  have hs:xs.length*sz<=cur.size:=by
   have h5:=congrArg An8 h4;rw [An9,Ao0,h.1] at h5;rw [<- h5];exact Nat.min_le_right _ _
  have hnew:=Rs (n:=n) (os:=os) (d:=flatK enc sz ys.toArray) (show Blk w g t cur from hg);refine ⟨hyl,.inr ⟨g,c,putCells id 0 (flatK enc sz ys.toArray) cur,rfl,hb,hnew,by omega,h2,?_,?_⟩⟩
  · simpa [putCells] using h3
  ·
   rw [<- hyl];exact Ru (by rw [hyl];simp) (fun j hj=>Rz hlen hsz ys (by omega)) (by rw [hyl,hl];exact hs)
end
end Oq
end
namespace Oq
theorem Aj4 (l:List Cd):∀v∈l.flatMap Cd.cells,v.oneCell'=true:=Ij _ (fun a v hv=>by simp [Cd.cells] at hv;rcases hv with rfl|rfl|rfl|rfl|rfl<;>rfl) l
end Oq
end Go.Proofs.YtihfebhfgliojaaGreatDoor
