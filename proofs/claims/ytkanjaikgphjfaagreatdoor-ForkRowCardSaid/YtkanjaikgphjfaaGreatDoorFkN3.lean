/-
  Contracts of the functions that the claim's statement reaches, walked one by one (part 3).
  Conditions: as each theorem says.
-/
import Derived.Deep.Cut
import Derived.Deep.RegionHeld3
import Derived.Deep.DrawnRows
import Derived.Test.YtkanjaikgphjfaaGreatDoorFkN1
import Derived.Test.YtkanjaikgphjfaaGreatDoorFkN2
set_option maxRecDepth 100000
set_option maxHeartbeats 16000000
open List renaming length_append→Am8,getElem?_eq_getElem→Am9,mem_of_getElem?→An3,take_of_length_le→An4,append_assoc→An5,take_append_drop→An8,mem_cons_self→An9,length_map→Ao0,pairwise_append→Ao1,all_eq_true→Ao2,find?_append→Ao3,mem_map_of_mem→Ao4,flatMap_cons→Ao5,getElem?_toArray→Ao6
open Nat renaming le_refl→An0,le_trans→An1,mul_add→An6
open Go.World renaming size_alloc→An2,new_ne→An7
namespace Go.Proofs.YtkanjaikgphjfaaGreatDoor
namespace Oq
theorem Id.less_iff (a b:Id):Id.less a b=true↔a.b<b.b∨(a.b=b.b∧(a.s<b.s∨(a.s=b.s∧a.u<b.u))):=by
 unfold Id.less
 by_cases h1:a.b=b.b
 ·
  by_cases h2:a.s=b.s
  · rw [if_pos h1,if_pos h2];simp;omega
  · rw [if_pos h1,if_neg h2];simp;omega
 · rw [if_neg h1];simp;omega
theorem Id.less_irr (a:Id):Id.less a a=false:=by
 cases h:Id.less a a
 · rfl
 · rw [Id.less_iff] at h;omega
theorem Id.less_tr {a b c:Id} (h:Id.less a b=true) (k:Id.less b c=true):Id.less a c=true:=by
 rw [Id.less_iff] at*;omega
theorem Id.less_as {a b:Id} (h:Id.less a b=true):Id.less b a=false:=by
 cases k:Id.less b a
 · rfl
 · rw [Id.less_iff] at*;omega
theorem Id.less_tot (a b:Id):Id.less a b=true∨a=b∨Id.less b a=true:=by
 rw [Id.less_iff,Id.less_iff]
 by_cases h1:a.b=b.b
 ·
  by_cases h2:a.s=b.s
  ·
   by_cases h3:a.u=b.u
   ·
    refine .inr (.inl ?_)
    cases a;cases b;simp_all
   · omega
  · omega
 · omega
theorem Id.less_f {a b:Id} (h:Id.less a b=false):b=a∨Id.less b a=true:=by
 rcases Id.less_tot a b with k|k|k
 · rw [h] at k;cases k
 · exact .inl k.symm
 · exact .inr k
def Row (l:List Id):Prop:=l.Pairwise (fun a b=>Id.less a b=true)
def RowW (l:List Id):Prop:=l.Pairwise (fun a b=>Id.less b a=false)
theorem Row.nodup {l:List Id} (h:Row l):l.Nodup:=h.imp (fun {a b} k e=>by rw [e,Id.less_irr] at k;cases k)
theorem RowW.row {l:List Id} (h:RowW l) (hn:l.Nodup):Row l:=by
 unfold Row RowW at*
 exact (List.Pairwise.and h hn).imp (fun {a b} k=>by
  rcases Id.less_f k.1 with e|e
  · exact absurd e k.2
  · exact e)
theorem Ov (x:Id) (l:List Id):∀k,Bg x l k≤k
 |0=>An0 _
 |k+1=>by
  show (match l[k]? with|some y=>if Id.less x y then Bg x l k else k+1|none=>k+1)≤_
  split
  ·
   split
   · exact An1 (Ov x l k) (Nat.le_succ k)
   · exact An0 _
  · exact An0 _
theorem Ow (x:Id) (l:List Id):∀k,k≤l.length→∀j y,Bg x l k≤j→j<k→l[j]? =some y→Id.less x y=true
 |0,_,j,y,_,h,_=>by omega
 |k+1,hk,j,y,h1,h2,h3=>by
  have he:l[k]? =some l[k]:=Am9 (by omega)
  have hu:Bg x l (k+1)=if Id.less x l[k] then Bg x l k else k+1:=by
   show (match l[k]? with|some y=>if Id.less x y then Bg x l k else k+1|none=>k+1)=_;rw [he]
  rw [hu] at h1
  by_cases hl:Id.less x l[k]=true
  ·
   rw [if_pos hl] at h1
   rcases Nat.lt_or_ge j k with hj|hj
   · exact Ow x l k (by omega) j y h1 hj h3
   ·
    obtain rfl:j=k:=by omega
    rw [he] at h3;injection h3 with h3
    rw [← h3];exact hl
  ·
   rw [if_neg hl] at h1;omega
theorem Ox (x:Id) (l:List Id):∀k,k≤l.length→∀y,0<Bg x l k→l[Bg x l k-1]? =some y→Id.less x y=false
 |0,_,y,h,_=>by exact absurd h (Nat.lt_irrefl 0)
 |k+1,hk,y,h1,h2=>by
  have he:l[k]? =some l[k]:=Am9 (by omega)
  have hu:Bg x l (k+1)=if Id.less x l[k] then Bg x l k else k+1:=by
   show (match l[k]? with|some y=>if Id.less x y then Bg x l k else k+1|none=>k+1)=_;rw [he]
  rw [hu] at h1 h2
  by_cases hl:Id.less x l[k]=true
  ·
   rw [if_pos hl] at h1 h2;exact Ox x l k (by omega) y h1 h2
  ·
   rw [if_neg hl] at h2;rw [Nat.add_sub_cancel,he] at h2;injection h2 with h2
   rw [← h2];exact Bool.not_eq_true _▸hl
theorem U4 (l:List Id) (x:Id):(ins l x).Perm (x::l):=by
 unfold ins;have h:l=l.take (Bg x l l.length)++l.drop (Bg x l l.length):=(An8 _ _).symm;generalize Bg x l l.length=k at*;rw [An5];refine List.Perm.trans List.perm_middle ?_;conv=>rhs;rw [h]
 exact List.Perm.refl _
theorem U5 {l:List Id} (x:Id) (h:RowW l):RowW (ins l x):=by
 have hle:=Ov x l l.length;have hge:=Ow x l l.length (An0 _);have hlt:=Ox x l l.length (An0 _);unfold ins RowW at*;generalize Bg x l l.length=k at*;have hh:l.Pairwise (fun a b=>Id.less b a=false):=h;rw [← An8 k l,Ao1] at h;obtain ⟨h1,h2,h3⟩:=h
 have hb:∀a∈l.take k,Id.less x a=false:=by
  intro a ha;obtain ⟨j,hj,hja⟩:=List.mem_iff_getElem.1 ha;rw [List.length_take] at hj;rw [List.getElem_take] at hja;have hy:l[k-1]? =some l[k-1]:=Am9 (by omega);have hx:=hlt _ (by omega) hy
  rcases Nat.lt_or_ge j (k-1) with hjk|hjk
  ·
   have hp:=List.pairwise_iff_getElem.1 hh j (k-1) (by omega) (by omega) hjk;rw [hja] at hp
   cases hxa:Id.less x a
   · rfl
   ·
    rcases Id.less_f hx with e|e
    · rw [e,hxa] at hp;cases hp
    · rw [Id.less_tr e hxa] at hp;cases hp
  ·
   obtain rfl:j=k-1:=by omega
   rw [← hja];exact hx
 have ha:∀a∈l.drop k,Id.less x a=true:=by
  intro a ha;obtain ⟨j,hj,hja⟩:=List.mem_iff_getElem.1 ha;rw [List.length_drop] at hj;rw [List.getElem_drop] at hja;exact hge (k+j) a (by omega) (by omega) (by rw [← hja];exact Am9 _)
 rw [An5,Ao1];refine ⟨h1,?_,?_⟩
 ·
  rw [List.singleton_append,List.pairwise_cons];exact ⟨fun a h=>Id.less_as (ha a h),h2⟩
 ·
  intro a h b hb'
  rcases List.mem_append.1 hb' with hb'|hb'
  · rw [List.mem_singleton.1 hb'];exact hb a h
  · exact h3 a h b hb'
theorem Kq:∀(l acc:List Id),RowW acc→RowW (l.foldl ins acc)∧(l.foldl ins acc).Perm (acc++l)
 |[],acc,h=>⟨h,by rw [List.append_nil];exact List.Perm.refl _⟩
 |x::l,acc,h=>by
  obtain ⟨h1,h2⟩:=Kq l (ins acc x) (U5 x h);refine ⟨h1,h2.trans ?_⟩;exact ((U4 acc x).append_right l).trans List.perm_middle.symm
theorem G8 (l:List Id):RowW (An l):=(Kq l [] List.Pairwise.nil).1
theorem Br (l:List Id):(An l).Perm l:=(Kq l [] List.Pairwise.nil).2
theorem Oy {l:List Id} (h:l.Nodup):Row (An l):=(G8 l).row ((Br l).nodup_iff.2 h)
theorem RowW.unique:∀{l m:List Id},RowW l→RowW m→l.Perm m→l=m
 |[],m,_,_,h=>by rw [List.Perm.nil_eq h]
 |x::l,[],_,_,h=>by exact absurd h.length_eq (by simp)
 |x::l,y::m,h1,h2,hp=>by
  have h1':=List.pairwise_cons.1 h1;have h2':=List.pairwise_cons.1 h2
  have hxy:x=y:=by
   have hx:x∈y::m:=hp.subset (An9 ..);have hy:y∈x::l:=hp.symm.subset (An9 ..)
   rcases List.mem_cons.1 hx with e|e
   · exact e
   ·
    rcases List.mem_cons.1 hy with e'|e'
    · exact e'.symm
    ·
     have a:=h2'.1 x e;have b:=h1'.1 y e'
     rcases Id.less_f a with c|c
     · exact c.symm
     · rw [c] at b;cases b
  subst hxy;rw [RowW.unique h1'.2 h2'.2 (List.perm_cons x|>.1 hp)]
theorem Ic {l m:List Id} (h:RowW l) (hp:l.Perm m):l=An m:=h.unique (G8 m) (hp.trans (Br m).symm)
def FP:Nat:=2305843009213693951
def inR (n lo hi:Int):Bool:=decide (lo≤n)&&decide (n≤hi)
def B0 (n:Nat):Bool:=decide (1≤n)&&decide (n<FP)
def fOk (n:Nat):Bool:=decide (n<FP)
def Id.named (x:Id):Bool:=inR x.b 1 12&&inR x.s 1 2147483647&&fOk x.u
def Id.zero:Id:=⟨0,0,0⟩
def Bx.may (x:Bx):Bool:=B0 x.t&&B0 x.e&&fOk x.y&&fOk x.g
def E9 (k:Int):Bool:=k==7||k==8||k==12||k==10||k==11||k==13
def Op.bareB (o:Op):Bool:=
 (o.dev==0||o.kind==2||o.kind==3||o.kind==11||o.kind==13)&&(o.old==0||o.kind==13)&&(o.mem==0||o.kind==3||o.kind==5)&&(o.role==0||o.kind==2||o.kind==5)&&
 (o.path.isEmpty||E5 o.kind)&&(Id.eq o.epoch Id.zero||o.kind==6)&&(o.n==0||o.kind==6)&&(o.refs.isEmpty||o.kind==6)&&(o.body.isEmpty||o.kind==6||o.kind==7)&&(Id.eq o.of Id.zero||E9 o.kind)&&
 (o.guards.isEmpty||o.kind==9)&&(o.wait==0||o.kind==9)&&(o.pub==0||o.kind==9)&&(o.need==0||o.kind==9||o.kind==1)&&(o.boxes.isEmpty||o.kind==9||o.kind==10||o.kind==11)&&
 (o.hist.isEmpty||o.kind==2||o.kind==13)
def Op.numsB (o : Op) : Bool :=
  inR o.by_ 1 12 && inR o.sq 1 2147483647 && inR o.at_ 0 2147483647 &&
  (if o.kind = 1 then inR o.need 0 20
   else if o.kind = 2 then inR o.dev 1 12 && inR o.role 1 3
   else if o.kind = 3 then (inR o.dev 1 12 && o.mem == 0) || (o.dev == 0 && inR o.mem 1 8)
   else if o.kind = 4 then true
   else if o.kind = 5 then inR o.mem 1 8 && inR o.role 1 3
   else if o.kind = 6 then o.epoch.named && inR o.n 0 2147483647
   else if o.kind = 9 then inR o.need 1 o.guards.length && inR o.wait 0 2147483647 && B0 o.pub
   else if o.kind = 11 then o.of.named && inR o.dev 1 12
   else if o.kind = 13 then o.of.named && inR o.dev 1 12 && inR o.old 1 12
   else o.of.named)
def Op.itemsB (o:Op):Bool:=
 o.guards.all (fun n=>inR n 1 12)&&o.refs.all fOk&&o.past.all Id.named&&o.path.all (fun x=>B0 x.p&&x.xs.all Bx.may)&&o.boxes.all Bx.may&&o.hist.all (fun x=>x.f.named)
def Op.longB (o : Op) : Bool :=
  o.path.any (fun x => decide (12 < x.xs.length)) || o.hist.any (fun x => decide (208 < x.y.length)) || decide (12 < o.past.length) || decide (5 < o.path.length) || decide (208 < o.body.length) || decide (8 < o.refs.length) || decide (20 < o.hist.length) || decide (6 < o.guards.length) ||
  (if o.kind = 7 then !(decide (1 ≤ o.body.length) && decide (o.body.length ≤ 20))
   else if o.kind = 9 then decide (o.boxes.length ≠ o.guards.length)
   else if o.kind = 10 then !(decide (1 ≤ o.boxes.length) && decide (o.boxes.length ≤ 6))
   else if o.kind = 11 then decide (o.boxes.length ≠ 1) else false)
def Bc {α:Type} (r:α→α→Bool):List α→Bool
 |[]=>true
 |[_]=>true
 |x::y::l=>r x y&&Bc r (y::l)
def Op.rowB (o:Op):Bool:=Bc Id.less o.past&&Bc (fun a b=>decide (a<b)) o.guards
def Op.chk (o:Op):Int:=
 if o.kind<1∨13<o.kind then 1 else if o.bareB=false then 1 else if o.numsB=false then 8 else if o.itemsB=false then 8 else if o.longB=true then 2 else if o.rowB=false then 6 else if decide (o.past=[])≠decide (o.kind=1) then 10 else 0
theorem chk_ok {o:Op}:o.chk=0↔(1≤o.kind∧o.kind≤13)∧o.bareB=true∧o.numsB=true∧o.itemsB=true∧o.longB=false∧o.rowB=true∧(o.past=[]↔o.kind=1):=by
 unfold Op.chk
 by_cases h1:o.kind<1∨13<o.kind
 · rw [if_pos h1];exact ⟨fun h=>absurd h (by decide),fun h=>absurd h.1 (by omega)⟩
 rw [if_neg h1]
 cases h2:o.bareB
 · simp
 cases h3:o.numsB
 · simp
 cases h4:o.itemsB
 · simp
 cases h5:o.longB
 ·
  cases h6:o.rowB
  · simp
  · by_cases h7:o.past=[]<;>by_cases h8:o.kind=1<;>simp [h7,h8]<;>omega
 · simp
theorem Kr {l:List Id} (h:Row l):Bc Id.less l=true:=by
 induction l with
 |nil=>rfl
 |cons x l ih=>
  cases l with
  |nil=>rfl
  |cons y l=>
   have h':=List.pairwise_cons.1 h;show (Id.less x y&&Bc Id.less (y::l))=true;rw [h'.1 y (An9 ..),ih h'.2];rfl
def base (b s k a:Int) (past:List Id) (path:List Nd):Op:={Op.zero with by_:=b,sq:=s,kind:=k,at_:=a,past:=past,path:=path}
structure Pre (b s k a:Int) (past:List Id) (path:List Nd):Prop where
 kind:1≤k∧k≤13
 by_:1≤b∧b≤12
 sq:1≤s∧s≤2147483647
 at_:0≤a∧a≤2147483647
 past:past.length≤12∧(∀x∈past,x.named=true)∧Row past∧(past=[]↔k=1)
 path:path.length≤5∧(∀x∈path,(1≤x.p∧x.p<FP)∧x.xs.length≤12∧∀b∈x.xs,b.may=true)∧(path=[]∨E5 k=true)
section
variable {b s k a : Int} {past : List Id} {path : List Nd}
theorem Pre.path_any (h:Pre b s k a past path):path.any (fun x=>decide (12<x.xs.length))=false:=by
 rw [List.any_eq_false];intro x hx;have:=(h.path.2.1 x hx).2.1;simp;omega
theorem Pre.path_all (h:Pre b s k a past path):path.all (fun x=>B0 x.p&&x.xs.all Bx.may)=true:=by
 rw [Ao2];intro x hx;have h1:=(h.path.2.1 x hx).1;have h2:=(h.path.2.1 x hx).2.2;rw [Bool.and_eq_true,Ao2];exact ⟨by unfold B0;simp;omega,h2⟩
theorem Pre.past_all (h:Pre b s k a past path):past.all Id.named=true:=List.all_eq_true.2 h.past.2.1
theorem Pre.no_path (h:Pre b s k a past path) (hk:E5 k=false):path=[]:=by
 rcases h.path.2.2 with e|e
 · exact e
 · rw [hk] at e;cases e
end
theorem Dt {n lo hi:Int} (h:lo≤n∧n≤hi):inR n lo hi=true:=by unfold inR;simp;exact h
theorem Oz {x:Id} (h1:1≤x.b∧x.b≤12) (h2:1≤x.s∧x.s≤2147483647) (h3:x.u<FP):x.named=true:=by
 unfold Id.named fOk;rw [Dt h1,Dt h2];simp [h3]
theorem O0 {n:Nat} (h:1≤n∧n<FP):B0 n=true:=by unfold B0;simp;exact h
theorem U6 {b s a:Int} {past:List Id} {path:List Nd} (h:Pre b s 1 a past path) {v:Int} (hv:inR v 0 20=true):({base b s 1 a past path with need:=v}:Op).chk=0:=by
 have p1:=h.past_all;have p5:=h.past.1;have p6:=h.path.1;have b1:=Dt h.by_;have b2:=Dt h.sq;have b3:=Dt h.at_;have p7:=Kr h.past.2.2.1;have p8:=h.past.2.2.2;have p2:=h.path_all;have p3:=h.path_any;rw [chk_ok];refine ⟨h.kind,?_,?_,?_,?_,?_,p8⟩
 · simp [Op.bareB,base,Op.zero,Id.eq,Id.zero,E5]
 · simp [Op.numsB,base,Op.zero,b1,b2,b3,hv]
 · unfold Op.itemsB;simp only [base,Op.zero];rw [p1,p2];simp
 · unfold Op.longB;simp only [base,Op.zero];rw [p3];simp;and_intros<;>first|exact decide_eq_false (by omega)|exact decide_eq_true (by omega)|omega
 · simp [Op.rowB,base,Op.zero,p7,Bc]
theorem U7 {b s a:Int} {past:List Id} {path:List Nd} (h:Pre b s 4 a past path)   :({base b s 4 a past path with need:=0}:Op).chk=0:=by
 have p1:=h.past_all;have p5:=h.past.1;have p6:=h.path.1;have b1:=Dt h.by_;have b2:=Dt h.sq;have b3:=Dt h.at_;have p7:=Kr h.past.2.2.1;have p8:=h.past.2.2.2;have p2:=h.path_all;have p3:=h.path_any;rw [chk_ok];refine ⟨h.kind,?_,?_,?_,?_,?_,p8⟩
 · simp [Op.bareB,base,Op.zero,Id.eq,Id.zero,E5]
 · simp [Op.numsB,base,Op.zero,b1,b2,b3]
 · unfold Op.itemsB;simp only [base,Op.zero];rw [p1,p2];simp
 · unfold Op.longB;simp only [base,Op.zero];rw [p3];simp;and_intros<;>first|exact decide_eq_false (by omega)|exact decide_eq_true (by omega)|omega
 · simp [Op.rowB,base,Op.zero,p7,Bc]
theorem U8 {b s a:Int} {past:List Id} {path:List Nd} (h:Pre b s 7 a past path) {e:Id} {y:List UInt8} (he:e.named=true) (hy:1≤y.length∧y.length≤20):({base b s 7 a past path with of:=e,body:=y}:Op).chk=0:=by
 have p1:=h.past_all;have p5:=h.past.1;have p6:=h.path.1;have b1:=Dt h.by_;have b2:=Dt h.sq;have b3:=Dt h.at_;have p7:=Kr h.past.2.2.1;have p8:=h.past.2.2.2;obtain rfl:=h.no_path (by decide);rw [chk_ok];refine ⟨h.kind,?_,?_,?_,?_,?_,p8⟩
 · simp [Op.bareB,base,Op.zero,Id.eq,Id.zero,E9]
 · simp [Op.numsB,base,Op.zero,b1,b2,b3,he]
 · unfold Op.itemsB;simp only [base,Op.zero];rw [p1];simp
 · unfold Op.longB;simp only [base,Op.zero];simp;and_intros<;>first|exact decide_eq_false (by omega)|exact decide_eq_true (by omega)|omega
 · simp [Op.rowB,base,Op.zero,p7,Bc]
end Oq
section
open Go.RowKit
namespace Oq
structure OpL.own (w:World) (base:Nat) (x:OpL):Prop where
 past:RowAt w base 41 3 x.pastA x.past.length x.pastC (x.past.flatMap Id.cells)
 path:RowAt w base 137 2 x.pathA x.path.length x.pathC (x.path.flatMap NdL.cells)
 nodes:∀y∈x.path,RowAt w base 134 4 y.A y.xs.length y.c (y.xs.flatMap Bx.cells)
 body:RowAt w base 5 1 x.bodyA x.body.length x.bodyC (x.body.map Bv)
 refs:RowAt w base 39 1 x.refsA x.refs.length x.refsC (x.refs.map Uv)
 guards:RowAt w base 3 1 x.guardsA x.guards.length x.guardsC (x.guards.map Iv)
 boxes:RowAt w base 134 4 x.boxesA x.boxes.length x.boxesC (x.boxes.flatMap Bx.cells)
 hist:RowAt w base 140 4 x.histA x.hist.length x.histC (x.hist.flatMap SlL.cells)
 seals:∀y∈x.hist,RowAt w base 5 1 y.A y.y.length y.c (y.y.map Bv)
theorem OpL.own.at {w:World} {base:Nat} {x:OpL} (h:x.own w base):x.at w w.heap.size where
 past:=h.past.sl
 path:=h.path.sl
 nodes y hy:=(h.nodes y hy).sl
 body:=h.body.sl
 refs:=h.refs.sl
 guards:=h.guards.sl
 boxes:=h.boxes.sl
 hist:=h.hist.sl
 seals y hy:=(h.seals y hy).sl
theorem RowAt.nil (w:World) (base:Nat) (t:TypeId) (size:Nat):RowAt w base t size none 0 0 []:=⟨SlAt.nil _ _ _,.inl rfl⟩
def OpL.zero:OpL:=
 {by_:=0,sq:=0,kind:=0,at_:=0,pastA:=none,pastC:=0,past:=[],dev:=0,old:=0,mem:=0,role:=0,pathA:=none,pathC:=0,path:=[],epoch:=⟨0,0,0⟩,n:=0,bodyA:=none,bodyC:=0,body:=[],refsA:=none,refsC:=0,refs:=[],of:=⟨0,0,0⟩,guardsA:=none,guardsC:=0,guards:=[],need:=0,wait:=0,boxesA:=none,boxesC:=0,boxes:=[],pub:=0,histA:=none,histC:=0,hist:=[],r:=0,s:=0}
theorem OpL.zero_own (w:World) (base:Nat):OpL.zero.own w base where
 past:=RowAt.nil _ _ _ _
 path:=RowAt.nil _ _ _ _
 nodes y hy:=by cases hy
 body:=RowAt.nil _ _ _ _
 refs:=RowAt.nil _ _ _ _
 guards:=RowAt.nil _ _ _ _
 boxes:=RowAt.nil _ _ _ _
 hist:=RowAt.nil _ _ _ _
 seals y hy:=by cases hy
theorem U9 {P:Program} {fn:Func} {p q:Tmp} {ty t:TypeId} {d:TypeDesc} {cs:Array Value} {g:Nat} {tmps:Array Value} {w:World} (h:fn.results=#[.cell p ty,.tmp q])
  (ha:tmps.getD p undef=.pointer (some ⟨g,0,none⟩)) (hb:Blk w g t cs) (hd:(match d with| .struct _| .array _ _=>true|_=>false)=true) (hu:P.underlying ty=some d)
  (hi:(P.info? ty).map (·.size)=some cs.size):(results fn tmps).run P w=.ok (.tuple #[.agg cs,tmps.getD q undef]) w:=by
 have hl:(loadVar ty ⟨g,0,none⟩).run P w=.ok (.agg cs) w:=run_loadVar_row (P:=P) w g t ty cs (0,0) d hb hu (by cases d<;>first|rfl|exact hd) hi
 unfold results;rw [h];have ha':tmps[p]?.getD undef=.pointer (some ⟨g,0,none⟩):=by simpa using ha
 simp [asAddr,ha',hl]
theorem Fa {P:Program} {fn:Func} {R:Ending→World→Prop} {p q:Tmp} {ty t:TypeId} {d:TypeDesc} {cs:Array Value} {g:Nat} {a:Act} {w:World} (h:fn.results=#[.cell p ty,.tmp q])
  (ha:a.tmps.getD p undef=.pointer (some ⟨g,0,none⟩)) (hb:Blk w g t cs) (hd:(match d with| .struct _| .array _ _=>true|_=>false)=true) (hu:P.underlying ty=some d)
  (hi:(P.info? ty).map (·.size)=some cs.size) (hdef:a.defers=[]) (hR:R (.returned (.tuple #[.agg cs,a.tmps.getD q undef])) w):bodyPost P fn R .ret a w:=
 bodyPost_ret (U9 h ha hb hd hu hi) hdef hR
end Oq
end
section
open Go.RowKit
attribute [local go_sem ↓] Go.wp_at_zero Go.wp_at_succ
namespace Oq
theorem RowAt.keepT {S:Nat→Prop} {w w':World} {base size n c:Nat} {t:TypeId} {A:Option Addr} {xs:List Value} (h:RowAt w base t size A n c xs) (hf:Fr S w w') (hS:∀k cs fr,w.heap[k]? =some (.cells cs t fr)→¬S k):RowAt w' base t size A n c xs:=by
 refine h.fr hf (fun h0 k hk e=> ?_)
 rcases h.2 with hn|⟨k',cs',fr',rfl,_,hb',_⟩
 · exact h0 hn
 ·
  injection hk with hk
  subst hk;exact hS _ _ _ hb' e
def Types (S:Nat→Prop) (w:World) (P:TypeId→Prop):Prop:=∀k cs t fr,w.heap[k]? =some (.cells cs t fr)→S k→P t
theorem Types.not {S:Nat→Prop} {w:World} {P:TypeId→Prop} {t:TypeId} (h:Types S w P) (ht:¬P t):∀k cs fr,w.heap[k]? =some (.cells cs t fr)→¬S k:=fun k cs fr hk e=>ht (h k cs t fr hk e)
def Far (t:TypeId):Prop:=t=67∨False
theorem Types.one {w:World} {g:Nat} {t:TypeId} {cs:Array Value} (h:Blk w g t cs):Types (One g) w (fun t'=>t'=t):=fun k cs' t' fr hk e=>by
 have e':k=g:=e;subst e';unfold Blk at h;rw [hk] at h;injection h with h
 injection h with _ h _
theorem Types.row {w:World} {base size n c:Nat} {t:TypeId} {A:Option Addr} {xs:List Value} (h:Own w base t size A n c xs):Types (fun k=>Ac A=some k) w (fun t'=>t'=t):=fun k cs' t' fr hk e=>by
 rcases h.2 with ⟨hv,_⟩|⟨g,cap,cur,hv,_,hg,_⟩
 ·
  injection hv with hA _ _
  subst hA
  cases e
 ·
  injection hv with hA _ _
  subst hA;injection e with e
  subst e;rw [hk] at hg;injection hg with hg
  injection hg with _ h _
theorem Types.mono {S:Nat→Prop} {w:World} {P Q:TypeId→Prop} (h:Types S w P) (hp:∀t,P t→Q t):Types S w Q:=fun k cs t fr hk e=>hp t (h k cs t fr hk e)
theorem OpL.own.keep {S:Nat→Prop} {w w':World} {base:Nat} {x:OpL} (h:x.own w base) (hf:Fr S w w') (hS:Types S w Far):x.own w' base where
 past:=h.past.keepT hf (hS.not (by unfold Far;decide))
 path:=h.path.keepT hf (hS.not (by unfold Far;decide))
 nodes y hy:=(h.nodes y hy).keepT hf (hS.not (by unfold Far;decide))
 body:=h.body.keepT hf (hS.not (by unfold Far;decide))
 refs:=h.refs.keepT hf (hS.not (by unfold Far;decide))
 guards:=h.guards.keepT hf (hS.not (by unfold Far;decide))
 boxes:=h.boxes.keepT hf (hS.not (by unfold Far;decide))
 hist:=h.hist.keepT hf (hS.not (by unfold Far;decide))
 seals y hy:=(h.seals y hy).keepT hf (hS.not (by unfold Far;decide))
section
variable {S : Nat → Prop} {w0 w w' : World} {B g go i i' : Nat} {L : List Int} {x : OpL}
end
end Oq
end
section
open Go.RowKit
namespace Oq
structure Ah where
 x:OpL
 id:Id
 a0:Nat
 a1:Nat
 a2:Nat
 a3:Nat
 lev:Nat
def Ah.ws (n:Ah):List Nat:=[n.a0,n.a1,n.a2,n.a3]
def Ah.cells (n:Ah):List Value:=n.x.cells.toList++[.int .i64 n.id.b,.int .i64 n.id.s,.int .u64 (n.id.u:Int),.int .u64 (n.a0:Int),.int .u64 (n.a1:Int),.int .u64 (n.a2:Int),.int .u64 (n.a3:Int),.int .i64 (n.lev:Int)]
theorem Ah.len (n:Ah):n.cells.length=35:=rfl
def Ah.past (n:Ah) (k:Nat):Bool:=(n.ws.getD (k/64) 0).testBit (k%64)
structure Gph where
 gb:Nat
 mb:Nat
 mm:Nat
 cA:Option Addr
 cC:Nat
 cards:List Cd
 nA:Option Addr
 nC:Nat
 nodes:List Ah
def Ag (l:List Ah) (id:Id):Option Nat:=l.findIdx? (fun n=>decide (n.id=id))
theorem Ie {l:List Ah} {id:Id} {i:Nat} (h:Ag l id=some i):∃n,l[i]? =some n∧n.id=id:=by
 obtain ⟨hi,h1,_⟩:=List.findIdx?_eq_some_iff_getElem.1 h;exact ⟨l[i],Am9 hi,by simpa using h1⟩
structure Ah.okAt (w:World) (base:Nat) (n:Ah):Prop where
 own:n.x.own w base
 ok:n.x.op.ok
 id:n.id.ok
 set:Av n.ws n.past
theorem Ah.okAt.at_ {w:World} {base:Nat} {n:Ah} (h:n.okAt w base):n.x.at w w.heap.size:=h.own.at
theorem RowAt.non {w w':World} {base size n c:Nat} {t:TypeId} {A:Option Addr} {xs:List Value} (h:RowAt w base t size A n c xs) (hf:Fr Non w w'):RowAt w' base t size A n c xs:=h.fr hf (fun _ _ _ e=>e)
theorem OpL.own.keepP {S:Nat→Prop} {P:TypeId→Prop} {w w':World} {base:Nat} {x:OpL} (h:x.own w base) (hf:Fr S w w') (hS:Types S w P) (h1:¬P 41) (h2:¬P 137) (h3:¬P 134) (h4:¬P 5) (h5:¬P 39) (h6:¬P 3) (h7:¬P 140):x.own w' base where
 past:=h.past.keepT hf (hS.not h1)
 path:=h.path.keepT hf (hS.not h2)
 nodes y hy:=(h.nodes y hy).keepT hf (hS.not h3)
 body:=h.body.keepT hf (hS.not h4)
 refs:=h.refs.keepT hf (hS.not h5)
 guards:=h.guards.keepT hf (hS.not h6)
 boxes:=h.boxes.keepT hf (hS.not h3)
 hist:=h.hist.keepT hf (hS.not h7)
 seals y hy:=(h.seals y hy).keepT hf (hS.not h4)
theorem OpL.own.non {w w':World} {base:Nat} {x:OpL} (h:x.own w base) (hf:Fr Non w w'):x.own w' base:=
 h.keepP (P:=fun _=>False) hf (fun _ _ _ _ _ e=>e.elim) zq zq zq zq zq zq zq
structure GAt (w:World) (base:Nat) (g:Gph):Prop where
 blk:Blk w g.gb 94 #[.slice g.cA g.cards.length g.cC,.map (some g.mb),.slice g.nA g.nodes.length g.nC]
 pos:0<base
 gbase:base≤g.gb
 mbase:base≤g.mb
 crow:Own w base 71 5 g.cA g.cards.length g.cC (g.cards.flatMap Cd.cells)
 own:Own w base 98 35 g.nA g.nodes.length g.nC (g.nodes.flatMap Ah.cells)
 few:g.nodes.length≤200
 mfew:g.mm≤g.nodes.length
 levs:∀n∈g.nodes,n.lev≤g.nodes.length
 cfew:g.cards.length≤1000000
 cok:∀c∈g.cards,c.s<18446744073709551616
 map:MapAt w g.mb g.mm (Ag g.nodes)
 node:∀n∈g.nodes,n.okAt w base
def Gph.own (g:Gph):Nat→Prop:=fun k=>k=g.gb∨k=g.mb∨Ac g.nA=some k
theorem GAt.fr {w w':World} {base:Nat} {g:Gph} (h:GAt w base g) (hf:Fr Non w w'):GAt w' base g where
 blk:=h.blk.fr hf zq
 pos:=h.pos
 gbase:=h.gbase
 mbase:=h.mbase
 crow:=h.crow.fr hf zr
 own:=h.own.fr hf zr
 few:=h.few
 mfew:=h.mfew
 levs:=h.levs
 cfew:=h.cfew
 cok:=h.cok
 map:=h.map.fr hf zq
 node:=fun n hn=>by
  have k:=h.node n hn;exact ⟨k.own.non hf,k.ok,k.id,k.set⟩
theorem GAt.cards {w:World} {base:Nat} {g:Gph} (h:GAt w base g):Rd w w.heap.size 5 g.cA g.cards.length (g.cards.flatMap Cd.cells):=h.crow.rd
theorem GAt.later {S:Nat→Prop} {w w':World} {base:Nat} {g:Gph} (h:GAt w base g) (hf:Fr S w w') (hS:∀k,k<w.heap.size→¬S k):GAt w' base g:=h.fr (hf.mono (fun k hk e=>hS k hk e))
theorem GAt.cell {w:World} {base:Nat} {g:Gph} (h:GAt w base g) {i:Nat} {n:Ah} (hi:g.nodes[i]? =some n):
  ∃b off,g.nA=some ⟨b,off,none⟩∧b<w.heap.size∧∀j,j<35→∀u,n.cells[j]? =some u→w.cell? ⟨b,off+i*35+j,none⟩=some u:=
 Dn (f:=Ah.cells) (fun _=>rfl) (by omega) h.own.rd hi
end Oq
end
section
open Go.RowKit
attribute [local go_sem ↓] Go.wp_at_zero Go.wp_at_succ
namespace Oq
attribute [local go_sem] Bool.not_false Bool.not_true
def Gph.before (g:Gph) (a b:Id):Bool:=match Ag g.nodes a,Ag g.nodes b with|some i,some j=>(g.nodes[j]?.map (fun n=>n.past i)).getD false|_,_=>false
theorem GAt.setAt {w:World} {base:Nat} {g:Gph} (h:GAt w base g) {i:Nat} {n:Ah} (hi:g.nodes[i]? =some n):
  ∃b off,g.nA=some ⟨b,off,none⟩∧E7 w b (off+i*35+30) n.ws:=by
 obtain ⟨b,off,hA,hbB,hc⟩:=h.cell hi;refine ⟨b,off,hA,?_⟩;intro k hk
 match k,hk with
 |0,_=>exact hc 30 (by omega) _ rfl
 |1,_=>exact hc 31 (by omega) _ rfl
 |2,_=>exact hc 32 (by omega) _ rfl
 |3,_=>exact hc 33 (by omega) _ rfl
theorem Va (base:Nat) (g:Gph) (a b:Id) (w:World) (hg:GAt w base g) (ha:a.ok) (hb:b.ok):Calls Tryz.prog 16 #[.pointer (some ⟨g.gb,0,none⟩),.agg a.V,.agg b.V] w fun e w'=>e=.returned (.bool (g.before a b))∧Fr Non w w':=by
 have f1:Fr Non w (w.alloc (.cells a.V 41)):=(Fr.refl Non w).alloc _;have f0:=f1.alloc (.cells b.V 41);have af:=Blk.new w 41 a.V;have ah:=Blk.new (w.alloc (.cells a.V 41)) 41 b.V;rw [An2] at ah;replace af:=af.alloc (.cells b.V 41);have ag:=hg.fr f0;generalize hw0:(w.alloc (.cells a.V 41)).alloc (.cells b.V 41)=w0 at*;have i0:w0.cell? ⟨w.heap.size,0,none⟩=some (.int .i64 a.b):=af.cell 0;have i1:w0.cell? ⟨w.heap.size,1,none⟩=some (.int .i64 a.s):=af.cell 1;have i2:w0.cell? ⟨w.heap.size,2,none⟩=some (.int .u64 (a.u:Int)):=af.cell 2;have k0:w0.cell? ⟨w.heap.size+1,0,none⟩=some (.int .i64 b.b):=ah.cell 0;have k1:w0.cell? ⟨w.heap.size+1,1,none⟩=some (.int .i64 b.s):=ah.cell 1;have k2:w0.cell? ⟨w.heap.size+1,2,none⟩=some (.int .u64 (b.u:Int)):=ah.cell 2;have c1:w0.cell? ⟨g.gb,1,none⟩=some (.map (some g.mb)):=ag.blk.cell 1;have c2:w0.cell? ⟨g.gb,2,none⟩=some (.slice g.nA g.nodes.length g.nC):=ag.blk.cell 2;have ac:=ag.map;have ad:=fun (w':World) (h:MapAt w' g.mb g.mm (Ag g.nodes))=>MapAt.look h a ha;have ae:=fun (w':World) (h:MapAt w' g.mb g.mm (Ag g.nodes))=>MapAt.look h b hb;have ai:Hid (g.before a b=match Ag g.nodes a,Ag g.nodes b with|some i,some j=>(g.nodes[j]?.map (fun n=>n.past i)).getD false|_,_=>false):=rfl;generalize g.before a b=lv at*
 cases hpa:Ag g.nodes a
 ·
  cases hpb:Ag g.nodes b
  focus
   have hv:Hid (false=lv):=by show _=_;rw [ai.out,hpa]
   rw [hpa] at ad;rw [hpb] at ae;clear hg ag af ah ai hpa hpb
  rotate_left
  focus
   have hv:Hid (false=lv):=by show _=_;rw [ai.out,hpa]
   rw [hpa] at ad;rw [hpb] at ae;clear hg ag af ah ai hpa hpb;rename_i j
  all_goals
   go_enter Tryz.func16,Tryz.ntmps16;go_wp2_with (fail);clear hw0;refine wp_region_held_drew (S:=(fun w'=>w'.cell? ⟨w.heap.size,0,none⟩=some (.int .i64 a.b)∧w'.cell? ⟨w.heap.size,1,none⟩=some (.int .i64 a.s)∧w'.cell? ⟨w.heap.size,2,none⟩=some (.int .u64 (a.u:Int))∧w'.cell? ⟨(w.heap.size+1),0,none⟩=some (.int .i64 b.b)∧w'.cell? ⟨(w.heap.size+1),1,none⟩=some (.int .i64 b.s)∧w'.cell? ⟨(w.heap.size+1),2,none⟩=some (.int .u64 (b.u:Int))∧w'.cell? ⟨g.gb,1,none⟩=some (.map (some g.mb))∧MapAt w' g.mb g.mm (Ag g.nodes))) (by kernel_rfl) ⟨i0,i1,i2,k0,k1,k2,c1,ac⟩ (fun hHeld=> ?_);clear hHeld;have ab:(fun w'=>w'.cell? ⟨w.heap.size,0,none⟩=some (.int .i64 a.b)∧w'.cell? ⟨w.heap.size,1,none⟩=some (.int .i64 a.s)∧w'.cell? ⟨w.heap.size,2,none⟩=some (.int .u64 (a.u:Int))∧w'.cell? ⟨(w.heap.size+1),0,none⟩=some (.int .i64 b.b)∧w'.cell? ⟨(w.heap.size+1),1,none⟩=some (.int .i64 b.s)∧w'.cell? ⟨(w.heap.size+1),2,none⟩=some (.int .u64 (b.u:Int))∧w'.cell? ⟨g.gb,1,none⟩=some (.map (some g.mb))∧MapAt w' g.mb g.mm (Ag g.nodes)) w0.drew:=⟨i0,i1,i2,k0,k1,k2,c1,ac⟩;replace f0:=f0.drew;refine tkH 0 ab (h:=tkH 1 ab (h:=tkH 2 ab (h:=tkH 3 ab (h:=tkH 4 ab (h:=tkH 5 ab (h:=tkH 6 ab (h:=tkH 7 ab (h:=tkH 8 ab (h:=tkH 9 ab (h:=tkH 10 ab (h:=?_)))))))))));simp only [List.set];refine oD ?_;go_simp;go_wp2_with (fail);refine wp_region_held_drew (S:=(fun w'=>w'.cell? ⟨w.heap.size,0,none⟩=some (.int .i64 a.b)∧w'.cell? ⟨w.heap.size,1,none⟩=some (.int .i64 a.s)∧w'.cell? ⟨w.heap.size,2,none⟩=some (.int .u64 (a.u:Int))∧w'.cell? ⟨(w.heap.size+1),0,none⟩=some (.int .i64 b.b)∧w'.cell? ⟨(w.heap.size+1),1,none⟩=some (.int .i64 b.s)∧w'.cell? ⟨(w.heap.size+1),2,none⟩=some (.int .u64 (b.u:Int))∧w'.cell? ⟨g.gb,1,none⟩=some (.map (some g.mb))∧MapAt w' g.mb g.mm (Ag g.nodes))) (by kernel_rfl) ⟨i0,i1,i2,k0,k1,k2,c1,ac⟩ (fun hHeld=> ?_);clear hHeld;have aa:(fun w'=>w'.cell? ⟨w.heap.size,0,none⟩=some (.int .i64 a.b)∧w'.cell? ⟨w.heap.size,1,none⟩=some (.int .i64 a.s)∧w'.cell? ⟨w.heap.size,2,none⟩=some (.int .u64 (a.u:Int))∧w'.cell? ⟨(w.heap.size+1),0,none⟩=some (.int .i64 b.b)∧w'.cell? ⟨(w.heap.size+1),1,none⟩=some (.int .i64 b.s)∧w'.cell? ⟨(w.heap.size+1),2,none⟩=some (.int .u64 (b.u:Int))∧w'.cell? ⟨g.gb,1,none⟩=some (.map (some g.mb))∧MapAt w' g.mb g.mm (Ag g.nodes)) w0.drew.drew:=⟨i0,i1,i2,k0,k1,k2,c1,ac⟩;replace f0:=f0.drew;refine tkH 0 aa (h:=tkH 1 aa (h:=tkH 2 aa (h:=tkH 3 aa (h:=tkH 4 aa (h:=tkH 5 aa (h:=tkH 6 aa (h:=tkH 7 aa (h:=tkH 8 aa (h:=tkH 9 aa (h:=tkH 10 aa (h:=?_)))))))))));simp only [List.set];refine oD ?_;go_simp;go_wp2_with (fail)
   go_ret
   exact ⟨congrArg (fun z:Bool=>Ending.returned (.bool z)) hv.out,f0⟩
 ·
  cases hpb:Ag g.nodes b
  ·
   have hv:Hid (false=lv):=by show _=_;rw [ai.out,hpa,hpb]
   rw [hpa] at ad;rw [hpb] at ae;clear hg ag af ah ai hpa hpb;go_enter Tryz.func16,Tryz.ntmps16;go_wp2_with (fail);clear hw0;refine wp_region_held_drew (S:=(fun w'=>w'.cell? ⟨w.heap.size,0,none⟩=some (.int .i64 a.b)∧w'.cell? ⟨w.heap.size,1,none⟩=some (.int .i64 a.s)∧w'.cell? ⟨w.heap.size,2,none⟩=some (.int .u64 (a.u:Int))∧w'.cell? ⟨(w.heap.size+1),0,none⟩=some (.int .i64 b.b)∧w'.cell? ⟨(w.heap.size+1),1,none⟩=some (.int .i64 b.s)∧w'.cell? ⟨(w.heap.size+1),2,none⟩=some (.int .u64 (b.u:Int))∧w'.cell? ⟨g.gb,1,none⟩=some (.map (some g.mb))∧MapAt w' g.mb g.mm (Ag g.nodes))) (by kernel_rfl) ⟨i0,i1,i2,k0,k1,k2,c1,ac⟩ (fun hHeld=> ?_);clear hHeld;have ab:(fun w'=>w'.cell? ⟨w.heap.size,0,none⟩=some (.int .i64 a.b)∧w'.cell? ⟨w.heap.size,1,none⟩=some (.int .i64 a.s)∧w'.cell? ⟨w.heap.size,2,none⟩=some (.int .u64 (a.u:Int))∧w'.cell? ⟨(w.heap.size+1),0,none⟩=some (.int .i64 b.b)∧w'.cell? ⟨(w.heap.size+1),1,none⟩=some (.int .i64 b.s)∧w'.cell? ⟨(w.heap.size+1),2,none⟩=some (.int .u64 (b.u:Int))∧w'.cell? ⟨g.gb,1,none⟩=some (.map (some g.mb))∧MapAt w' g.mb g.mm (Ag g.nodes)) w0.drew:=⟨i0,i1,i2,k0,k1,k2,c1,ac⟩;replace f0:=f0.drew;refine tkH 0 ab (h:=tkH 1 ab (h:=tkH 2 ab (h:=tkH 3 ab (h:=tkH 4 ab (h:=tkH 5 ab (h:=tkH 6 ab (h:=tkH 7 ab (h:=tkH 8 ab (h:=tkH 9 ab (h:=tkH 10 ab (h:=?_)))))))))));simp only [List.set];refine oD ?_;go_simp;go_wp2_with (fail);refine wp_region_held_drew (S:=(fun w'=>w'.cell? ⟨w.heap.size,0,none⟩=some (.int .i64 a.b)∧w'.cell? ⟨w.heap.size,1,none⟩=some (.int .i64 a.s)∧w'.cell? ⟨w.heap.size,2,none⟩=some (.int .u64 (a.u:Int))∧w'.cell? ⟨(w.heap.size+1),0,none⟩=some (.int .i64 b.b)∧w'.cell? ⟨(w.heap.size+1),1,none⟩=some (.int .i64 b.s)∧w'.cell? ⟨(w.heap.size+1),2,none⟩=some (.int .u64 (b.u:Int))∧w'.cell? ⟨g.gb,1,none⟩=some (.map (some g.mb))∧MapAt w' g.mb g.mm (Ag g.nodes))) (by kernel_rfl) ⟨i0,i1,i2,k0,k1,k2,c1,ac⟩ (fun hHeld=> ?_);clear hHeld;have aa:(fun w'=>w'.cell? ⟨w.heap.size,0,none⟩=some (.int .i64 a.b)∧w'.cell? ⟨w.heap.size,1,none⟩=some (.int .i64 a.s)∧w'.cell? ⟨w.heap.size,2,none⟩=some (.int .u64 (a.u:Int))∧w'.cell? ⟨(w.heap.size+1),0,none⟩=some (.int .i64 b.b)∧w'.cell? ⟨(w.heap.size+1),1,none⟩=some (.int .i64 b.s)∧w'.cell? ⟨(w.heap.size+1),2,none⟩=some (.int .u64 (b.u:Int))∧w'.cell? ⟨g.gb,1,none⟩=some (.map (some g.mb))∧MapAt w' g.mb g.mm (Ag g.nodes)) w0.drew.drew:=⟨i0,i1,i2,k0,k1,k2,c1,ac⟩;replace f0:=f0.drew;refine tkH 0 aa (h:=tkH 1 aa (h:=tkH 2 aa (h:=tkH 3 aa (h:=tkH 4 aa (h:=tkH 5 aa (h:=tkH 6 aa (h:=tkH 7 aa (h:=tkH 8 aa (h:=tkH 9 aa (h:=tkH 10 aa (h:=?_)))))))))));simp only [List.set];refine oD ?_;go_simp;go_wp2_with (fail)
   go_ret
   exact ⟨congrArg (fun z:Bool=>Ending.returned (.bool z)) hv.out,f0⟩
  ·
   rename_i i j;obtain ⟨n,hn,_⟩:=Ie hpb;obtain ⟨n',aq,_⟩:=Ie hpa;have hv:Hid (n.past i=lv):=by show _=_;rw [ai.out,hpa,hpb];simp [hn]
   have ap:=hg.few;have au:j<g.nodes.length:=(List.getElem?_eq_some_iff.1 hn).1;have ak:i<g.nodes.length:=(List.getElem?_eq_some_iff.1 aq).1;obtain ⟨bb,ar,hA,al⟩:=ag.setAt hn;have ao:=(hg.node n (An3 hn)).set;rw [hA] at c2;have j1:(0:Int)≤j:=by omega
   have j2:(j:Int)<g.nodes.length:=by omega
   have j3:(j:Int).toNat=j:=by omega
   have j4:IntKind.i64.wrap (j:Int)=j:=IntWalk.i64_in _ (by omega);have aj:i<256:=by omega
   rw [hpa] at ad;rw [hpb] at ae;clear hg ag af ah ai hpa hpb hn aq au ak hA ap;generalize g.nodes.length=nn at*;go_enter Tryz.func16,Tryz.ntmps16;go_wp2_with (fail);clear hw0;refine wp_region_held_drew (S:=(fun w'=>w'.cell? ⟨w.heap.size,0,none⟩=some (.int .i64 a.b)∧w'.cell? ⟨w.heap.size,1,none⟩=some (.int .i64 a.s)∧w'.cell? ⟨w.heap.size,2,none⟩=some (.int .u64 (a.u:Int))∧w'.cell? ⟨(w.heap.size+1),0,none⟩=some (.int .i64 b.b)∧w'.cell? ⟨(w.heap.size+1),1,none⟩=some (.int .i64 b.s)∧w'.cell? ⟨(w.heap.size+1),2,none⟩=some (.int .u64 (b.u:Int))∧w'.cell? ⟨g.gb,1,none⟩=some (.map (some g.mb))∧MapAt w' g.mb g.mm (Ag g.nodes))) (by kernel_rfl) ⟨i0,i1,i2,k0,k1,k2,c1,ac⟩ (fun hHeld=> ?_);clear hHeld;have ab:(fun w'=>w'.cell? ⟨w.heap.size,0,none⟩=some (.int .i64 a.b)∧w'.cell? ⟨w.heap.size,1,none⟩=some (.int .i64 a.s)∧w'.cell? ⟨w.heap.size,2,none⟩=some (.int .u64 (a.u:Int))∧w'.cell? ⟨(w.heap.size+1),0,none⟩=some (.int .i64 b.b)∧w'.cell? ⟨(w.heap.size+1),1,none⟩=some (.int .i64 b.s)∧w'.cell? ⟨(w.heap.size+1),2,none⟩=some (.int .u64 (b.u:Int))∧w'.cell? ⟨g.gb,1,none⟩=some (.map (some g.mb))∧MapAt w' g.mb g.mm (Ag g.nodes)) w0.drew:=⟨i0,i1,i2,k0,k1,k2,c1,ac⟩;replace f0:=f0.drew;refine tkH 0 ab (h:=tkH 1 ab (h:=tkH 2 ab (h:=tkH 3 ab (h:=tkH 4 ab (h:=tkH 5 ab (h:=tkH 6 ab (h:=tkH 7 ab (h:=tkH 8 ab (h:=tkH 9 ab (h:=tkH 10 ab (h:=?_)))))))))));simp only [List.set];refine oD ?_;go_simp;go_wp2_with (fail);refine wp_region_held_drew (S:=(fun w'=>w'.cell? ⟨w.heap.size,0,none⟩=some (.int .i64 a.b)∧w'.cell? ⟨w.heap.size,1,none⟩=some (.int .i64 a.s)∧w'.cell? ⟨w.heap.size,2,none⟩=some (.int .u64 (a.u:Int))∧w'.cell? ⟨(w.heap.size+1),0,none⟩=some (.int .i64 b.b)∧w'.cell? ⟨(w.heap.size+1),1,none⟩=some (.int .i64 b.s)∧w'.cell? ⟨(w.heap.size+1),2,none⟩=some (.int .u64 (b.u:Int))∧w'.cell? ⟨g.gb,1,none⟩=some (.map (some g.mb))∧MapAt w' g.mb g.mm (Ag g.nodes))) (by kernel_rfl) ⟨i0,i1,i2,k0,k1,k2,c1,ac⟩ (fun hHeld=> ?_);clear hHeld;have aa:(fun w'=>w'.cell? ⟨w.heap.size,0,none⟩=some (.int .i64 a.b)∧w'.cell? ⟨w.heap.size,1,none⟩=some (.int .i64 a.s)∧w'.cell? ⟨w.heap.size,2,none⟩=some (.int .u64 (a.u:Int))∧w'.cell? ⟨(w.heap.size+1),0,none⟩=some (.int .i64 b.b)∧w'.cell? ⟨(w.heap.size+1),1,none⟩=some (.int .i64 b.s)∧w'.cell? ⟨(w.heap.size+1),2,none⟩=some (.int .u64 (b.u:Int))∧w'.cell? ⟨g.gb,1,none⟩=some (.map (some g.mb))∧MapAt w' g.mb g.mm (Ag g.nodes)) w0.drew.drew:=⟨i0,i1,i2,k0,k1,k2,c1,ac⟩;replace f0:=f0.drew;refine tkH 0 aa (h:=tkH 1 aa (h:=tkH 2 aa (h:=tkH 3 aa (h:=tkH 4 aa (h:=tkH 5 aa (h:=tkH 6 aa (h:=tkH 7 aa (h:=tkH 8 aa (h:=tkH 9 aa (h:=tkH 10 aa (h:=?_)))))))))));simp only [List.set];refine oD ?_;go_simp;replace c2:w0.drew.drew.cell? ⟨g.gb,2,none⟩=some (.slice (some ⟨bb,ar,none⟩) nn g.nC):=c2;replace al:E7 w0.drew.drew bb (ar+j*35+30) n.ws:=al;go_wp2_with (go_at_call 42;(with_reducible refine (Ol _ _ _ _ i _ ao al aj).mono ?_);rintro _ _ ⟨rfl,rfl⟩)
   go_ret
   exact ⟨congrArg (fun z:Bool=>Ending.returned (.bool z)) hv.out,f0⟩
def Cd.zero:Cd:=⟨0,0,0,0,0⟩
def G9 (c:Cd) (b:Bool) (w:World) (e:Ending) (w':World):Prop:=e=.returned (.tuple #[.agg c.cells.toArray,.bool b])∧Fr Non w w'
def Gph.card (g:Gph) (d:Int):Option Cd:=g.cards.find? (fun c=>c.d==d)
theorem Ks (base:Nat) (g:Gph) (d:Int) (w:World) (hg:GAt w base g) (hn:g.cards.length≤1000000):Calls Tryz.prog 25 #[.pointer (some ⟨g.gb,0,none⟩),.int .i64 d] w (G9 ((g.card d).getD Cd.zero) (g.card d).isSome w):=by
 have hr:=hg.cards;have c0:w.cell? ⟨g.gb,0,none⟩=some (.slice g.cA g.cards.length g.cC):=hg.blk.cell 0;have ab:Hid (g.card d=g.cards.find? (fun c=>c.d==d)):=rfl;generalize g.card d=R at*;clear hg;generalize hl:g.cards=l at*;clear hl;obtain ⟨n,ae⟩:=Ab l.length;rw [ae.out] at hr c0 hn;have f0:Fr Non w (w.alloc (.cells zC 71)):=(Fr.refl Non w).alloc _;have b0:=Blk.new w 71 zC;replace hr:=hr.fr f0 zr;replace c0:=f0.cell c0 zq;go_enter Tryz.func25,Tryz.ntmps25;go_upto_region 1 with (fail)
 generalize w.alloc (.cells zC 71)=w0 at*;go_wp2_with (fail)
 go_loopw [5,13] (fun r v wr=>∃k:Nat,r=.bool false∧v=.int .i64 (k:Int)∧k≤n∧Hid ((l.take k).find? (fun c=>c.d==d)=none)∧Fr Non w0 wr) (fun _ v _=>n-(intOf v).toNat)
 case atStart=>exact ⟨0,rfl,rfl,by omega,rfl,Fr.refl _ _⟩
 case round=>
  obtain ⟨k,rfl,rfl,hk,hh,hf⟩:=hrel
  by_cases hlt:k<n
  ·
   have i1:(0:Int)≤k:=by omega
   have i2:(k:Int)<n:=by omega
   have i3:(k:Int).toNat=k:=by omega
   obtain ⟨c,hc⟩:∃c,l[k]? =some c:=⟨_,Am9 (by rw [ae.out];exact hlt)⟩;obtain ⟨b,ad,hA,ai,aa⟩:=Dn (f:=Cd.cells) (fun _=>rfl) (by omega) (hr.fr hf zr) hc;have d0:wr.cell? ⟨b,ad+k*5,none⟩=some (.int .i64 c.d):=aa 0 (by omega) _ rfl;have d1:wr.cell? ⟨b,ad+k*5+1,none⟩=some (.int .i64 c.m):=aa 1 (by omega) _ rfl;have d2:wr.cell? ⟨b,ad+k*5+2,none⟩=some (.int .u64 (c.l:Int)):=aa 2 (by omega) _ rfl;have d3:wr.cell? ⟨b,ad+k*5+3,none⟩=some (.int .u64 (c.k:Int)):=aa 3 (by omega) _ rfl;have d4:wr.cell? ⟨b,ad+k*5+4,none⟩=some (.int .u64 (c.s:Int)):=aa 4 (by omega) _ rfl;clear aa ai;rw [hA];have b1:=b0.fr hf zq
   rcases zb (c.d==d) with hcd|hcd
   ·
    have hR:Hid (R=some c):=by
     show _=_;rw [ab.out,← An8 k l,Ao3,hh.out,List.drop_eq_getElem_cons (by rw [ae.out];exact hlt)];rw [Am9 (by rw [ae.out];exact hlt)] at hc;rw [Option.some.inj hc];simp [hcd]
    have ac:c.d=d:=by simpa using hcd
    have f1:=f0.trans hf zr
    have af:Hid (∀wz,Fr (One w.heap.size) wr wz→G9 (R.getD Cd.zero) R.isSome w (.returned (.tuple #[.agg #[.int .i64 c.d,.int .i64 c.m,.int .u64 (c.l:Int),.int .u64 (c.k:Int),.int .u64 (c.s:Int)],.bool true])) wz):=by
     intro wz hz;refine ⟨?_,f1.trans hz (fun k hk e=>absurd hk (by have e':k=w.heap.size:=e;omega))⟩;rw [hR.out];rfl
    clear ab hc hh f1;generalize R.getD Cd.zero=RC at*;generalize R.isSome=RS at*;have bz:=b1.alloc (.cells #[.int .i64 c.d,.int .i64 c.m,.int .u64 (c.l:Int),.int .u64 (c.k:Int),.int .u64 (c.s:Int)] 71);have e0:(wr.alloc (.cells #[.int .i64 c.d,.int .i64 c.m,.int .u64 (c.l:Int),.int .u64 (c.k:Int),.int .u64 (c.s:Int)] 71)).cell? ⟨w.heap.size,0,none⟩=some (.int .i64 0):=bz.cell 0;have z0:(wr.alloc (.cells #[.int .i64 c.d,.int .i64 c.m,.int .u64 (c.l:Int),.int .u64 (c.k:Int),.int .u64 (c.s:Int)] 71)).frozen? ⟨w.heap.size,0,none⟩=false:=bz.frozen 0;have e1:(wr.alloc (.cells #[.int .i64 c.d,.int .i64 c.m,.int .u64 (c.l:Int),.int .u64 (c.k:Int),.int .u64 (c.s:Int)] 71)).cell? ⟨w.heap.size,1,none⟩=some (.int .i64 0):=bz.cell 1;have z1:(wr.alloc (.cells #[.int .i64 c.d,.int .i64 c.m,.int .u64 (c.l:Int),.int .u64 (c.k:Int),.int .u64 (c.s:Int)] 71)).frozen? ⟨w.heap.size,1,none⟩=false:=bz.frozen 1;have e2:(wr.alloc (.cells #[.int .i64 c.d,.int .i64 c.m,.int .u64 (c.l:Int),.int .u64 (c.k:Int),.int .u64 (c.s:Int)] 71)).cell? ⟨w.heap.size,2,none⟩=some (.int .u64 0):=bz.cell 2;have z2:(wr.alloc (.cells #[.int .i64 c.d,.int .i64 c.m,.int .u64 (c.l:Int),.int .u64 (c.k:Int),.int .u64 (c.s:Int)] 71)).frozen? ⟨w.heap.size,2,none⟩=false:=bz.frozen 2;have e3:(wr.alloc (.cells #[.int .i64 c.d,.int .i64 c.m,.int .u64 (c.l:Int),.int .u64 (c.k:Int),.int .u64 (c.s:Int)] 71)).cell? ⟨w.heap.size,3,none⟩=some (.int .u64 0):=bz.cell 3;have z3:(wr.alloc (.cells #[.int .i64 c.d,.int .i64 c.m,.int .u64 (c.l:Int),.int .u64 (c.k:Int),.int .u64 (c.s:Int)] 71)).frozen? ⟨w.heap.size,3,none⟩=false:=bz.frozen 3;have e4:(wr.alloc (.cells #[.int .i64 c.d,.int .i64 c.m,.int .u64 (c.l:Int),.int .u64 (c.k:Int),.int .u64 (c.s:Int)] 71)).cell? ⟨w.heap.size,4,none⟩=some (.int .u64 0):=bz.cell 4;have z4:(wr.alloc (.cells #[.int .i64 c.d,.int .i64 c.m,.int .u64 (c.l:Int),.int .u64 (c.k:Int),.int .u64 (c.s:Int)] 71)).frozen? ⟨w.heap.size,4,none⟩=false:=bz.frozen 4;have ag:=(((((bz.set 0 (.int .i64 c.d)).set 1 (.int .i64 c.m)).set 2 (.int .u64 (c.l:Int))).set 3 (.int .u64 (c.k:Int))).set 4 (.int .u64 (c.s:Int)));have fz:=(((((((Fr.refl (One w.heap.size) wr).alloc (.cells #[.int .i64 c.d,.int .i64 c.m,.int .u64 (c.l:Int),.int .u64 (c.k:Int),.int .u64 (c.s:Int)] 71)).setCell (p:=⟨w.heap.size,0,none⟩) (fun _=>rfl) (.int .i64 c.d)).setCell (p:=⟨w.heap.size,1,none⟩) (fun _=>rfl) (.int .i64 c.m)).setCell (p:=⟨w.heap.size,2,none⟩) (fun _=>rfl) (.int .u64 (c.l:Int))).setCell (p:=⟨w.heap.size,3,none⟩) (fun _=>rfl) (.int .u64 (c.k:Int))).setCell (p:=⟨w.heap.size,4,none⟩) (fun _=>rfl) (.int .u64 (c.s:Int)));rw [ac] at af bz fz ag e0 e1 e2 e3 e4 z0 z1 z2 z3 z4;clear b1 bz;go_wp2_with (fail)
    (try simp only [Exit.inBlock,Exit.then])
    refine Fa (t:=71) rfl rfl ag rfl Tryz.underlying71 (by kernel_rfl) rfl ?_;exact af.out _ fz
   ·
    have ah:Hid ((l.take (k+1)).find? (fun c=>c.d==d)=none):=by
     show _=_;rw [List.take_add_one,Ao3,hh.out,hc];simp [hcd]
    have ac:¬c.d=d:=by simpa using hcd
    clear ab hc hh b1;go_wp2_with (fail);go_roundw
    case rel=>exact ⟨k+1,rfl,by go_num,by omega,ah,hf.alloc _⟩
    case measure=>simp [intOf];omega
  ·
   obtain rfl:n=k:=by omega
   have hR:Hid (R=none):=by
    show _=_;rw [ab.out];have h:=hh.out;rwa [An4 (by rw [ae.out];omega)] at h
   have b1:=b0.fr hf zq;have f1:=f0.trans hf zr
   have af:Hid (∀wz,Fr (One w.heap.size) wr wz→G9 (R.getD Cd.zero) R.isSome w (.returned (.tuple #[.agg zC,.bool false])) wz):=by
    intro wz hz;refine ⟨?_,f1.trans hz (fun k hk e=>absurd hk (by have e':k=w.heap.size:=e;omega))⟩;rw [hR.out];rfl
   clear ab hh;generalize R.getD Cd.zero=RC at*;generalize R.isSome=RS at*;have e0:wr.cell? ⟨w.heap.size,0,none⟩=some (.int .i64 0):=b1.cell 0;have z0:wr.frozen? ⟨w.heap.size,0,none⟩=false:=b1.frozen 0;have e1:wr.cell? ⟨w.heap.size,1,none⟩=some (.int .i64 0):=b1.cell 1;have z1:wr.frozen? ⟨w.heap.size,1,none⟩=false:=b1.frozen 1;have e2:wr.cell? ⟨w.heap.size,2,none⟩=some (.int .u64 0):=b1.cell 2;have z2:wr.frozen? ⟨w.heap.size,2,none⟩=false:=b1.frozen 2;have e3:wr.cell? ⟨w.heap.size,3,none⟩=some (.int .u64 0):=b1.cell 3;have z3:wr.frozen? ⟨w.heap.size,3,none⟩=false:=b1.frozen 3;have e4:wr.cell? ⟨w.heap.size,4,none⟩=some (.int .u64 0):=b1.cell 4;have z4:wr.frozen? ⟨w.heap.size,4,none⟩=false:=b1.frozen 4;have ag:=(((((b1.set 0 (.int .i64 0)).set 1 (.int .i64 0)).set 2 (.int .u64 0)).set 3 (.int .u64 0)).set 4 (.int .u64 0));have fz:=((((((Fr.refl (One w.heap.size) wr).setCell (p:=⟨w.heap.size,0,none⟩) (fun _=>rfl) (.int .i64 0)).setCell (p:=⟨w.heap.size,1,none⟩) (fun _=>rfl) (.int .i64 0)).setCell (p:=⟨w.heap.size,2,none⟩) (fun _=>rfl) (.int .u64 0)).setCell (p:=⟨w.heap.size,3,none⟩) (fun _=>rfl) (.int .u64 0)).setCell (p:=⟨w.heap.size,4,none⟩) (fun _=>rfl) (.int .u64 0));go_wp2_with (fail)
   (try simp only [Exit.inBlock,Exit.then])
   refine Fa (t:=71) rfl rfl ag rfl Tryz.underlying71 (by kernel_rfl) rfl ?_;exact af.out _ fz
def Gph.up (g:Gph) (id:Id) (q:Nat):Bool:=match Ag g.nodes id with|some i=>(g.nodes[i]?.map (fun n=>n.past q)).getD false|none=>false
end Oq
namespace Oq
attribute [local go_sem] Kh
theorem Blk.el {w:World} {k:Nat} {t:TypeId} {l:List Int} (h:Blk w k t (l.map Iv).toArray) {i:Nat} {x:Int} (hx:l[i]? =some x):w.cell? ⟨k,i,none⟩=some (.int .i64 x):=by
 rw [h.cell i];simp [hx,Iv]
theorem Ku (B g gp k:Nat) (A0:Option Addr) (c0:Nat) (bs:List UInt8) (l:List Int) (n:Nat) (w:World) (ho:OutAt w B g A0 c0 bs) (hp:Blk w gp 105 #[.pointer (some ⟨g,0,none⟩)]) (hk:Blk w k 3 (l.map Iv).toArray) (hn:Hid (l.length=n)) (hn0:0<n) (hok:∀x∈l,I64 x)
  (hl:bs.length+10*n≤1099511627700) (hn1:n≤1000):
  Calls Tryz.prog 85 #[.slice (some ⟨k,0,none⟩) n n,.pointer (some ⟨gp,0,none⟩)] w (Dd B g A0 (bs++l.flatMap Pk.int) w):=by
 go_enter Tryz.func85,Tryz.ntmps85;go_wp2
 go_loopw [7] (fun v wr=>∃(i:Nat) (A:Option Addr) (c:Nat) (D:List UInt8),v=.int .i64 (i:Int)∧i≤n∧Hid (D=bs++(l.take i).flatMap Pk.int)∧D.length≤bs.length+10*i∧OutAt wr B g A c D∧Au g w A0 wr A∧Blk wr gp 105 #[.pointer (some ⟨g,0,none⟩)]∧Blk wr k 3 (l.map Iv).toArray) (fun v _=>n-(intOf v).toNat)
 case atStart=>exact ⟨0,A0,c0,bs,rfl,by omega,by show _=_;simp,by simp,ho,Au.refl _ _ _,hp,hk⟩
 case round=>
  obtain ⟨i,A,c,D,rfl,hin,hD,hDl,hoi,hst,hpi,hki⟩:=hrel
  by_cases hlt:i<n
  ·
   obtain ⟨x,hx⟩:∃x,l[i]? =some x:=⟨_,Am9 (by rw [hn.out];exact hlt)⟩;have hxo:=hok x (An3 hx);have k0:=Blk.el hki hx;have p0:=hpi.cell 0;have hx':=Lib.hid hx;clear hx;have hxl:=Pk.int_len x;go_wp2_with (fail);refine (Ds B g A c D x _ hoi hxo.1 hxo.2 (by omega)).mono ?_;rintro _ w2 ⟨rfl,A2,c2,ho2,hs2⟩;have hpi2:=hpi.fr hs2.fr (hoi.far hpi (by decide) (by decide));have hki2:=hki.fr hs2.fr (hoi.far hki (by decide) (by decide));clear k0 p0;go_wp2;go_roundw
   case rel=>
    refine ⟨i+1,A2,c2,_,by go_num,by omega,?_,by rw [Am8,An6];omega,ho2,hst.trans hs2,hpi2,hki2⟩;show _=_;rw [hD.out,Dm _ l hx'.out,← An5]
   case measure=>simp [intOf];omega
  ·
   have hi:i=n:=by omega
   subst hi;go_wp2
   go_end0
   refine ⟨rfl,A,c,?_,hst⟩;have e:bs++l.flatMap Pk.int=D:=by rw [hD.out,An4 (by rw [hn.out];omega)]
   rw [e];exact hoi
theorem Vb {α β:Type} (enc:β→List UInt8) (f:α→β) (l:List α):lst enc (l.map f)=lst (fun x=>enc (f x)) l:=by
 unfold lst;rw [Ao0,List.flatMap_map]
theorem Ha {α:Type} {P:α→Prop} {a b:α} (h1:P a) (h2:P b):∀x∈[a,b],P x:=by
 intro x hx
 rcases List.mem_cons.1 hx with rfl|hx
 · exact h1
 · rw [List.mem_singleton.1 hx];exact h2
theorem Ig {α:Type} {P:α→Prop} {a b c d:α} (h1:P a) (h2:P b) (h3:P c) (h4:P d):∀x∈[a,b,c,d],P x:=by
 intro x hx
 rcases List.mem_cons.1 hx with rfl|hx
 · exact h1
 ·
  rcases List.mem_cons.1 hx with rfl|hx
  · exact h2
  · exact Ha h3 h4 x hx
theorem O1 (a b:Int):([a,b].flatMap Pk.int).length≤20:=by
 have h:=Gi (enc:=Pk.int) [a,b] (fun y _=>Pk.int_len y);exact h
theorem O2 (a b c d:Int):([a,b,c,d].flatMap Pk.int).length≤40:=by
 have h:=Gi (enc:=Pk.int) [a,b,c,d] (fun y _=>Pk.int_len y);exact h
def Vc (bs:List UInt8) (w:World) (r:Ending) (w':World):Prop:=
 ∃A c,r=.returned (.pointer (some ⟨w.heap.size+1,0,none⟩))∧OutAt w' w.heap.size (w.heap.size+1) A c bs∧Fr Non w w'
theorem OpL.lens {x:OpL} (hok:x.op.ok):x.past.length≤1000∧x.path.length≤1000∧x.body.length≤1000000∧x.refs.length≤1000∧x.guards.length≤1000∧x.boxes.length≤1000∧x.hist.length≤1000∧(∀y∈x.path,y.nd.ok)∧(∀y∈x.hist,y.f.ok∧y.y.length≤1000000):=by
 refine ⟨hok.past.1,?_,hok.body,hok.refs.1,hok.guards.1,hok.boxes.1,?_,fun y hy=>hok.path.2 _ (Ao4 hy),fun y hy=>hok.hist.2 _ (Ao4 hy)⟩
 ·
  have:=hok.path.1;rwa [show x.op.path=x.path.map NdL.nd from rfl,Ao0] at this
 ·
  have:=hok.hist.1;rwa [show x.op.hist=x.hist.map SlL.sl from rfl,Ao0] at this
theorem Kv (x:OpL) (w:World) (hat:x.at w w.heap.size) (hok:x.op.ok):Calls Tryz.prog 49 #[.agg x.cells] w (Vc x.op.bare w):=by
 obtain ⟨cg,bs,b0,cb,a5,bq,co,ai,aj⟩:=OpL.lens hok;have fq:x.cells.size=27:=rfl;obtain ⟨CS,aa⟩:=Ab x.cells;have e0:Hid (CS[0]? =some (.int .i64 x.by_)):=by show _=_;rw [← aa.out];rfl
 have e1:Hid (CS[1]? =some (.int .i64 x.sq)):=by show _=_;rw [← aa.out];rfl
 have e2:Hid (CS[2]? =some (.int .i64 x.kind)):=by show _=_;rw [← aa.out];rfl
 have e3:Hid (CS[3]? =some (.int .i64 x.at_)):=by show _=_;rw [← aa.out];rfl
 have e4:Hid (CS[4]? =some (.slice x.pastA x.past.length x.pastC)):=by show _=_;rw [← aa.out];rfl
 have e5:Hid (CS[5]? =some (.int .i64 x.dev)):=by show _=_;rw [← aa.out];rfl
 have e6:Hid (CS[6]? =some (.int .i64 x.old)):=by show _=_;rw [← aa.out];rfl
 have e7:Hid (CS[7]? =some (.int .i64 x.mem)):=by show _=_;rw [← aa.out];rfl
 have e8:Hid (CS[8]? =some (.int .i64 x.role)):=by show _=_;rw [← aa.out];rfl
 have e9:Hid (CS[9]? =some (.slice x.pathA x.path.length x.pathC)):=by show _=_;rw [← aa.out];rfl
 have fo:Hid (CS[10]? =some (.int .i64 x.epoch.b)):=by show _=_;rw [← aa.out];rfl
 have ec:Hid (CS[11]? =some (.int .i64 x.epoch.s)):=by show _=_;rw [← aa.out];rfl
 have fe:Hid (CS[12]? =some (.int .u64 (x.epoch.u:Int))):=by show _=_;rw [← aa.out];rfl
 have ey:Hid (CS[13]? =some (.int .i64 x.n)):=by show _=_;rw [← aa.out];rfl
 have fz:Hid (CS[14]? =some (.slice x.bodyA x.body.length x.bodyC)):=by show _=_;rw [← aa.out];rfl
 have er:Hid (CS[15]? =some (.slice x.refsA x.refs.length x.refsC)):=by show _=_;rw [← aa.out];rfl
 have ep:Hid (CS[16]? =some (.int .i64 x.of.b)):=by show _=_;rw [← aa.out];rfl
 have fd:Hid (CS[17]? =some (.int .i64 x.of.s)):=by show _=_;rw [← aa.out];rfl
 have f3:Hid (CS[18]? =some (.int .u64 (x.of.u:Int))):=by show _=_;rw [← aa.out];rfl
 have fx:Hid (CS[19]? =some (.slice x.guardsA x.guards.length x.guardsC)):=by show _=_;rw [← aa.out];rfl
 have em:Hid (CS[20]? =some (.int .i64 x.need)):=by show _=_;rw [← aa.out];rfl
 have gg:Hid (CS[21]? =some (.int .i64 x.wait)):=by show _=_;rw [← aa.out];rfl
 have f5:Hid (CS[22]? =some (.slice x.boxesA x.boxes.length x.boxesC)):=by show _=_;rw [← aa.out];rfl
 have fk:Hid (CS[23]? =some (.int .u64 (x.pub:Int))):=by show _=_;rw [← aa.out];rfl
 have gj:Hid (CS[24]? =some (.slice x.histA x.hist.length x.histC)):=by show _=_;rw [← aa.out];rfl
 rw [aa.out] at fq;rw [aa.out];have ab:Blk ((((w.alloc (.cells CS 67)).alloc (.cells #[.slice none 0 0] 146)).alloc (.cells #[.pointer (some ⟨w.heap.size+1,0,none⟩)] 105)).alloc (.cells #[.func (.func 87) #[] #[.pointer (some ⟨w.heap.size+1+1,0,none⟩)]] 149)) w.heap.size 67 CS:=(((Blk.new w 67 CS).alloc _).alloc _).alloc _
 have dp:OutAt ((((w.alloc (.cells CS 67)).alloc (.cells #[.slice none 0 0] 146)).alloc (.cells #[.pointer (some ⟨w.heap.size+1,0,none⟩)] 105)).alloc (.cells #[.func (.func 87) #[] #[.pointer (some ⟨w.heap.size+1+1,0,none⟩)]] 149)) w.heap.size (w.heap.size+1) none 0 []:=by
  refine ⟨?_,Own.nil _ _ _ _,by omega⟩;have:=((Blk.new (w.alloc (.cells CS 67)) 146 #[.slice none 0 0]).alloc (.cells #[.pointer (some ⟨w.heap.size+1,0,none⟩)] 105)).alloc (.cells #[.func (.func 87) #[] #[.pointer (some ⟨w.heap.size+1+1,0,none⟩)]] 149);rwa [An2] at this
 have ac:Blk ((((w.alloc (.cells CS 67)).alloc (.cells #[.slice none 0 0] 146)).alloc (.cells #[.pointer (some ⟨w.heap.size+1,0,none⟩)] 105)).alloc (.cells #[.func (.func 87) #[] #[.pointer (some ⟨w.heap.size+1+1,0,none⟩)]] 149)) (w.heap.size+1+1) 105 #[.pointer (some ⟨w.heap.size+1,0,none⟩)]:=by
  have:=(Blk.new ((w.alloc (.cells CS 67)).alloc (.cells #[.slice none 0 0] 146)) 105 #[.pointer (some ⟨w.heap.size+1,0,none⟩)]).alloc (.cells #[.func (.func 87) #[] #[.pointer (some ⟨w.heap.size+1+1,0,none⟩)]] 149);rwa [An2,An2] at this
 have ad:Blk ((((w.alloc (.cells CS 67)).alloc (.cells #[.slice none 0 0] 146)).alloc (.cells #[.pointer (some ⟨w.heap.size+1,0,none⟩)] 105)).alloc (.cells #[.func (.func 87) #[] #[.pointer (some ⟨w.heap.size+1+1,0,none⟩)]] 149)) (w.heap.size+1+1+1) 149 #[.func (.func 87) #[] #[.pointer (some ⟨w.heap.size+1+1,0,none⟩)]]:=by
  have:=Blk.new (((w.alloc (.cells CS 67)).alloc (.cells #[.slice none 0 0] 146)).alloc (.cells #[.pointer (some ⟨w.heap.size+1,0,none⟩)] 105)) 149 #[.func (.func 87) #[] #[.pointer (some ⟨w.heap.size+1+1,0,none⟩)]];rwa [An2,An2,An2] at this
 have cw:Fr Non w ((((w.alloc (.cells CS 67)).alloc (.cells #[.slice none 0 0] 146)).alloc (.cells #[.pointer (some ⟨w.heap.size+1,0,none⟩)] 105)).alloc (.cells #[.func (.func 87) #[] #[.pointer (some ⟨w.heap.size+1+1,0,none⟩)]] 149)):=((((Fr.refl _ _).alloc _).alloc _).alloc _).alloc _;have ae:=hat.fr cw zr;have nb:¬RS (w.heap.size+1) none w.heap.size:=by rintro (e|e);omega;cases e
 have np:¬RS (w.heap.size+1) none (w.heap.size+1+1):=by rintro (e|e);omega;cases e
 have nc:¬RS (w.heap.size+1) none (w.heap.size+1+1+1):=by rintro (e|e);omega;cases e
 have nx:∀k,k<w.heap.size→¬RS (w.heap.size+1) none k:=by rintro k hk (e|e);omega;cases e
 obtain ⟨D,hD⟩:=Ab x.op.bare;rw [hD.out];go_enter Tryz.func49,Tryz.ntmps49;go_upto_region 4 with (fail)
 generalize ((((w.alloc (.cells CS 67)).alloc (.cells #[.slice none 0 0] 146)).alloc (.cells #[.pointer (some ⟨w.heap.size+1,0,none⟩)] 105)).alloc (.cells #[.func (.func 87) #[] #[.pointer (some ⟨w.heap.size+1+1,0,none⟩)]] 149))=w0 at*;have cy:=Au.refl (w.heap.size+1) w0 none;have c0:=(ab.cell 0).trans e0.out;have c1:=(ab.cell 1).trans e1.out;have c2:=(ab.cell 2).trans e2.out;have c3:=(ab.cell 3).trans e3.out;have p0:=ac.cell 0;go_wp2_with (fail);refine (Ku w.heap.size (w.heap.size+1) (w.heap.size+1+1) w0.heap.size none 0 [] [x.by_,x.sq,x.kind,x.at_] 4 _ (dp.alloc (.cells #[.int .i64 x.by_,.int .i64 x.sq,.int .i64 x.kind,.int .i64 x.at_] 3)) (ac.alloc (.cells #[.int .i64 x.by_,.int .i64 x.sq,.int .i64 x.kind,.int .i64 x.at_] 3)) (Blk.new w0 3 _) rfl (by omega) (Ig (P:=I64) hok.by_ hok.sq hok.kind hok.at_) (by simp) (by omega)).mono ?_;rintro _ w1 ⟨rfl,A1,gm,bu,df⟩;clear c0 c1 c2 c3 p0;have a2:=(cy.alloc (.cells #[.int .i64 x.by_,.int .i64 x.sq,.int .i64 x.kind,.int .i64 x.at_] 3)).trans df;have f8:([]++[x.by_,x.sq,x.kind,x.at_].flatMap Pk.int).length≤40:=by rw [List.nil_append];exact O2 _ _ _ _
 obtain ⟨D1,d0⟩:=Ab ([]++[x.by_,x.sq,x.kind,x.at_].flatMap Pk.int);rw [d0.out] at bu f8;have dv:=ab.fr a2.fr nb;have cx:=ac.fr a2.fr np;have fg:=ad.fr a2.fr nc;have dl:=ae.fr a2.fr nx;clear dp df cy;have c4:=(dv.cell 4).trans e4.out;have p1:=cx.cell 0;go_wp2_with (fail);refine (Ug w.heap.size (w.heap.size+1) A1 gm D1 x.past x.pastA _ x.pastC _ bu rfl hok.past.2 dl.past.1 (by omega)).mono ?_;rintro _ w2 ⟨rfl,A2,fv,cp,dk⟩;clear c4 p1;have a0:=(a2).trans dk;have f9:(D1++lst Id.bytes x.past).length≤30050:=by rw [Am8];have:=(An1 (C7 x.past (fun y _=>Id.bytes_len y)) (by omega):(lst Id.bytes x.past).length≤30010);omega
 obtain ⟨D2,d7⟩:=Ab (D1++lst Id.bytes x.past);rw [d7.out] at cp f9;have bc:=ab.fr a0.fr nb;have ck:=ac.fr a0.fr np;have eo:=ad.fr a0.fr nc;have el:=ae.fr a0.fr nx;clear dv cx fg dl bu dk a2;have c5:=(bc.cell 5).trans e5.out;have c6:=(bc.cell 6).trans e6.out;have c7:=(bc.cell 7).trans e7.out;have c8:=(bc.cell 8).trans e8.out;have p2:=ck.cell 0;go_wp2_with (fail);refine (Ku w.heap.size (w.heap.size+1) (w.heap.size+1+1) w2.heap.size A2 fv D2 [x.dev,x.old,x.mem,x.role] 4 _ (cp.alloc (.cells #[.int .i64 x.dev,.int .i64 x.old,.int .i64 x.mem,.int .i64 x.role] 3)) (ck.alloc (.cells #[.int .i64 x.dev,.int .i64 x.old,.int .i64 x.mem,.int .i64 x.role] 3)) (Blk.new w2 3 _) rfl (by omega) (Ig (P:=I64) hok.dev hok.old hok.mem hok.role) (by omega) (by omega)).mono ?_;rintro _ w3 ⟨rfl,A3,ea,cr,di⟩;clear c5 c6 c7 c8 p2;have a3:=(a0.alloc (.cells #[.int .i64 x.dev,.int .i64 x.old,.int .i64 x.mem,.int .i64 x.role] 3)).trans di;have f7:(D2++[x.dev,x.old,x.mem,x.role].flatMap Pk.int).length≤30090:=by rw [Am8];have:=(O2 _ _ _ _:([x.dev,x.old,x.mem,x.role].flatMap Pk.int).length≤40);omega
 obtain ⟨D3,de⟩:=Ab (D2++[x.dev,x.old,x.mem,x.role].flatMap Pk.int);rw [de.out] at cr f7;have cz:=ab.fr a3.fr nb;have bx:=ac.fr a3.fr np;have dy:=ad.fr a3.fr nc;have cu:=ae.fr a3.fr nx;clear bc ck eo el cp di a0;have c9:=(cz.cell 9).trans e9.out;have p3:=bx.cell 0;go_wp2_with (fail);refine (Ul w.heap.size (w.heap.size+1) (w.heap.size+1+1) (w.heap.size+1+1+1) A3 ea D3 x.path x.pathA _ x.pathC _ cr rfl ai cu.path.1 (by omega) bx dy cu.nodes).mono ?_;rintro _ w4 ⟨rfl,A4,fu,b4,dt⟩;clear c9 p3;have a1:=(a3).trans dt;have es:(D3++lst (fun x=>x.nd.bytes) x.path).length≤40050100:=by rw [Am8];have:=(An1 (C7 x.path (fun y hy=>Nd.bytes_len _ (ai y hy))) (by omega):(lst (fun x=>x.nd.bytes) x.path).length≤40020010);omega
 obtain ⟨D4,d5⟩:=Ab (D3++lst (fun x=>x.nd.bytes) x.path);rw [d5.out] at b4 es;have br:=ab.fr a1.fr nb;have d6:=ac.fr a1.fr np;have f4:=ad.fr a1.fr nc;have gh:=ae.fr a1.fr nx;clear cz bx dy cu cr dt a3;have ei:=(br.cell 10).trans fo.out;have ge:=(br.cell 11).trans ec.out;have ek:=(br.cell 12).trans fe.out;have p4:=d6.cell 0;go_wp2_with (fail);refine (H7 w.heap.size (w.heap.size+1) A4 fu D4 x.epoch.b x.epoch.s x.epoch.u _ b4 hok.epoch.1.1 hok.epoch.1.2 hok.epoch.2.1.1 hok.epoch.2.1.2 hok.epoch.2.2 (by omega)).mono ?_;rintro _ w5 ⟨rfl,A5,ew,b7,cv⟩;clear ei ge ek p4;have az:=(a1).trans cv;have gn:(D4++Pk.ident x.epoch.b x.epoch.s x.epoch.u).length≤40050130:=by rw [Am8];have:=(Pk.ident_len _ _ _:(Pk.ident x.epoch.b x.epoch.s x.epoch.u).length≤30);omega
 obtain ⟨D5,dw⟩:=Ab (D4++Pk.ident x.epoch.b x.epoch.s x.epoch.u);rw [dw.out] at b7 gn;have d1:=ab.fr az.fr nb;have dn:=ac.fr az.fr np;have fi:=ad.fr az.fr nc;have gb:=ae.fr az.fr nx;clear br d6 f4 gh b4 cv a1;have fh:=(d1.cell 13).trans ey.out;have p5:=dn.cell 0;go_wp2_with (fail);refine (Ds w.heap.size (w.heap.size+1) A5 ew D5 x.n _ b7 hok.n.1 hok.n.2 (by omega)).mono ?_;rintro _ w6 ⟨rfl,A6,ed,bw,d8⟩;clear fh p5;have aw:=(az).trans d8;have gi:(D5++Pk.int x.n).length≤40050140:=by rw [Am8];have:=(Pk.int_len _:(Pk.int x.n).length≤10);omega
 obtain ⟨D6,dc⟩:=Ab (D5++Pk.int x.n);rw [dc.out] at bw gi;have dz:=ab.fr aw.fr nb;have dr:=ac.fr aw.fr np;have f0:=ad.fr aw.fr nc;have dx:=ae.fr aw.fr nx;clear d1 dn fi gb b7 d8 az;have fl:=(dz.cell 14).trans fz.out;have p6:=dr.cell 0;have b3:(convert 60 9 (.slice x.bodyA x.body.length x.bodyC)).run Tryz.prog w6=.ok (.string (str x.body)) w6:=Gd 60 5 9 Tryz.underlying60 Tryz.underlying5 Tryz.underlying9 w6 _ _ _ _ _ dx.body.1;go_wp2_with (fail);refine (N0 w.heap.size (w.heap.size+1) A6 ed D6 x.body _ bw (by omega)).mono ?_;rintro _ w7 ⟨rfl,A7,fs,ct,du⟩;clear fl p6 b3;have ay:=(aw).trans du;have gk:(D6++Pk.text x.body).length≤41050150:=by rw [Am8];have:=(An1 (Pk.text_len _) (by omega):(Pk.text x.body).length≤1000010);omega
 obtain ⟨D7,dd⟩:=Ab (D6++Pk.text x.body);rw [dd.out] at ct gk;have dj:=ab.fr ay.fr nb;have ds:=ac.fr ay.fr np;have fy:=ad.fr ay.fr nc;have d9:=ae.fr ay.fr nx;clear dz dr f0 dx bw du aw;have ga:=(dj.cell 15).trans er.out;have p7:=ds.cell 0;go_wp2_with (fail);refine (Uh w.heap.size (w.heap.size+1) A7 fs D7 x.refs x.refsA _ x.refsC _ ct rfl hok.refs.2 d9.refs.1 (by omega)).mono ?_;rintro _ w8 ⟨rfl,A8,ff,b9,d2⟩;clear ga p7;have av:=(ay).trans d2;have gl:(D7++lst Pk.num x.refs).length≤41060160:=by rw [Am8];have:=(An1 (C7 x.refs (fun y _=>Pk.num_len y)) (by omega):(lst Pk.num x.refs).length≤10010);omega
 obtain ⟨D8,dm⟩:=Ab (D7++lst Pk.num x.refs);rw [dm.out] at b9 gl;have bp:=ab.fr av.fr nb;have db:=ac.fr av.fr np;have fn:=ad.fr av.fr nc;have et:=ae.fr av.fr nx;clear dj ds fy d9 ct d2 ay;have ee:=(bp.cell 16).trans ep.out;have gc:=(bp.cell 17).trans fd.out;have fw:=(bp.cell 18).trans f3.out;have p8:=db.cell 0;go_wp2_with (fail);refine (H7 w.heap.size (w.heap.size+1) A8 ff D8 x.of.b x.of.s x.of.u _ b9 hok.of.1.1 hok.of.1.2 hok.of.2.1.1 hok.of.2.1.2 hok.of.2.2 (by omega)).mono ?_;rintro _ w9 ⟨rfl,A9,f2,b8,d4⟩;clear ee gc fw p8;have ax:=(av).trans d4;have f6:(D8++Pk.ident x.of.b x.of.s x.of.u).length≤41060190:=by rw [Am8];have:=(Pk.ident_len _ _ _:(Pk.ident x.of.b x.of.s x.of.u).length≤30);omega
 obtain ⟨D9,dh⟩:=Ab (D8++Pk.ident x.of.b x.of.s x.of.u);rw [dh.out] at b8 f6;have dg:=ab.fr ax.fr nb;have d3:=ac.fr ax.fr np;have ez:=ad.fr ax.fr nc;have da:=ae.fr ax.fr nx;clear bp db fn et b9 d4 av;have fc:=(dg.cell 19).trans fx.out;have p9:=d3.cell 0;go_wp2_with (fail);refine (Ui w.heap.size (w.heap.size+1) A9 f2 D9 x.guards x.guardsA _ x.guardsC _ b8 rfl hok.guards.2 da.guards.1 (by omega)).mono ?_;rintro _ dq ⟨rfl,fm,bv,ar,bn⟩;clear fc p9;have af:=(ax).trans bn;have cf:(D9++lst Pk.int x.guards).length≤41070200:=by rw [Am8];have:=(An1 (C7 x.guards (fun y _=>Pk.int_len y)) (by omega):(lst Pk.int x.guards).length≤10010);omega
 obtain ⟨bz,bh⟩:=Ab (D9++lst Pk.int x.guards);rw [bh.out] at ar cf;have au:=ab.fr af.fr nb;have aq:=ac.fr af.fr np;have b1:=ad.fr af.fr nc;have cl:=ae.fr af.fr nx;clear dg d3 ez da b8 bn ax;have eu:=(au.cell 20).trans em.out;have ej:=(au.cell 21).trans gg.out;have eb:=aq.cell 0;go_wp2_with (fail);refine (Ku w.heap.size (w.heap.size+1) (w.heap.size+1+1) dq.heap.size fm bv bz [x.need,x.wait] 2 _ (ar.alloc (.cells #[.int .i64 x.need,.int .i64 x.wait] 3)) (aq.alloc (.cells #[.int .i64 x.need,.int .i64 x.wait] 3)) (Blk.new dq 3 _) rfl (by omega) (Ha (P:=I64) hok.need hok.wait) (by omega) (by omega)).mono ?_;rintro _ gq ⟨rfl,fj,cj,ao,bb⟩;clear eu ej eb;have ah:=(af.alloc (.cells #[.int .i64 x.need,.int .i64 x.wait] 3)).trans bb;have cq:(bz++[x.need,x.wait].flatMap Pk.int).length≤41070220:=by rw [Am8];have:=(O1 _ _:([x.need,x.wait].flatMap Pk.int).length≤20);omega
 obtain ⟨ch,bk⟩:=Ab (bz++[x.need,x.wait].flatMap Pk.int);rw [bk.out] at ao cq;have a9:=ab.fr ah.fr nb;have ap:=ac.fr ah.fr np;have bm:=ad.fr ah.fr nc;have a4:=ae.fr ah.fr nx;clear au aq b1 cl ar bb af;have ft:=(a9.cell 22).trans f5.out;have ev:=ap.cell 0;have gd:=bm.cell 0;go_wp2_with (fail);refine (N1 w.heap.size (w.heap.size+1) (w.heap.size+1+1) fj cj ch x.boxes x.boxesA _ x.boxesC _ ao rfl hok.boxes.2 a4.boxes.1 (by omega) ap).mono ?_;rintro _ gs ⟨rfl,fa,b6,al,bd⟩;clear ft ev gd;have ag:=(ah).trans bd;have b2:(ch++lst Bx.bytes x.boxes).length≤41110230:=by rw [Am8];have:=(An1 (C7 x.boxes (fun y _=>Bx.bytes_len y)) (by omega):(lst Bx.bytes x.boxes).length≤40010);omega
 obtain ⟨ca,ba⟩:=Ab (ch++lst Bx.bytes x.boxes);rw [ba.out] at al b2;have bf:=ab.fr ag.fr nb;have be:=ac.fr ag.fr np;have cn:=ad.fr ag.fr nc;have ce:=ae.fr ag.fr nx;clear a9 ap bm a4 ao bd ah;have f1:=(bf.cell 23).trans fk.out;have ef:=be.cell 0;go_wp2_with (fail);refine (Dz w.heap.size (w.heap.size+1) fa b6 ca x.pub _ al hok.pub (by omega)).mono ?_;rintro _ gr ⟨rfl,eh,cm,bl,a6⟩;clear f1 ef;have ak:=(ag).trans a6;have ci:(ca++Pk.num x.pub).length≤41110240:=by rw [Am8];have:=(Pk.num_len _:(Pk.num x.pub).length≤10);omega
 obtain ⟨cs,bo⟩:=Ab (ca++Pk.num x.pub);rw [bo.out] at bl ci;have b5:=ab.fr ak.fr nb;have a7:=ac.fr ak.fr np;have eg:=ad.fr ak.fr nc;have a8:=ae.fr ak.fr nx;clear bf be cn ce al a6 ag;have fp:=(b5.cell 24).trans gj.out;have en:=a7.cell 0;go_wp2_with (fail);refine (Un w.heap.size (w.heap.size+1) (w.heap.size+1+1) eh cm cs x.hist x.histA _ x.histC _ bl rfl aj a8.hist.1 (by omega) a7 a8.seals).mono ?_;rintro _ gp ⟨rfl,fb,cc,bg,bt⟩;clear fp en;have bj:=(ak).trans bt;have cd:(cs++lst (fun x=>x.sl.bytes) x.hist).length≤1041150250:=by rw [Am8];have:=(An1 (C7 x.hist (fun y hy=>Sl.bytes_len _ (aj y hy).2)) (by omega):(lst (fun x=>x.sl.bytes) x.hist).length≤1000040010);omega
 obtain ⟨gf,bi⟩:=Ab (cs++lst (fun x=>x.sl.bytes) x.hist);rw [bi.out] at bg cd;have pz:=(ac.fr bj.fr np).cell 0;go_wp2
 go_ret
 have e:D=gf:=by
  rw [← hD.out,← bi.out,← bo.out,← ba.out,← bk.out,← bh.out,← dh.out,← dm.out,← dd.out,← dc.out,← dw.out,← d5.out,← de.out,← d7.out,← d0.out];unfold Op.bare;simp [OpL.op,Vb,Id.bytes,Ao5]
 rw [e];exact ⟨fb,cc,rfl,bg,cw.trans bj.fr (fun k hk e=>by rcases e with e|e;omega;cases e)⟩
end Oq
namespace Oq
theorem Op.bare_len (o:Op) (h:o.ok):o.bare.length≤1100000000:=by
 have h1:=C7 o.past (fun y _=>Id.bytes_len y);have h2:=C7 o.path (fun y hy=>Nd.bytes_len y (h.path.2 y hy));have h3:=C7 o.refs (fun y _=>Pk.num_len y);have h4:=C7 o.guards (fun y _=>Pk.int_len y);have h5:=C7 o.boxes (fun y _=>Bx.bytes_len y);have h6:=C7 o.hist (fun y hy=>Sl.bytes_len y (h.hist.2 y hy).2);have h7:=Pk.text_len o.body;have g1:=h.past.1;have g2:=h.path.1;have g3:=h.refs.1;have g4:=h.guards.1;have g5:=h.boxes.1;have g6:=h.hist.1;have g7:=h.body;have i1:=Pk.int_len o.by_;have i2:=Pk.int_len o.sq;have i3:=Pk.int_len o.kind;have i4:=Pk.int_len o.at_;have i5:=Pk.int_len o.dev;have i6:=Pk.int_len o.old;have i7:=Pk.int_len o.mem;have i8:=Pk.int_len o.role;have i9:=Pk.int_len o.n;have i10:=Pk.int_len o.need;have i11:=Pk.int_len o.wait;have i12:=Pk.num_len o.pub;have i13:=Id.bytes_len o.epoch;have i14:=Id.bytes_len o.of;unfold Op.bare;simp only [Am8];omega
theorem O3 (x:OpL) (w:World) (hat:x.at w w.heap.size) (hok:x.op.ok):Calls Tryz.prog 52 #[.agg x.cells] w (NewB w x.op.put):=by
 have hsz:x.cells.size=27:=rfl;have hb0:=Blk.new w 67 x.cells;have hat0:=(hat.fr ((Fr.refl Non w).alloc (.cells x.cells 67)) zr).mono (B':=(w.alloc (.cells x.cells 67)).heap.size) (by simp);have hf0:=(Fr.refl Non w).alloc (.cells x.cells 67);have k1:=Lib.hid (Kv x _ hat0 hok);have lb:=Op.bare_len x.op hok;have okr:U64 x.r:=hok.r;have oks:U64 x.s:=hok.s;have eput:Hid (x.op.put=x.op.bare++Pk.num x.r++Pk.num x.s):=rfl;obtain ⟨D,hD⟩:=Ab x.op.bare;obtain ⟨E,hE⟩:=Ab x.op.put;rw [hD.out] at k1 lb eput;rw [hE.out] at eput;rw [hE.out];clear hD hE hok hat;obtain ⟨CS,hCS⟩:=Ab x.cells;have e25:Hid (CS[25]? =some (.int .u64 (x.r:Int))):=by show _=_;rw [← hCS.out];rfl
 have e26:Hid (CS[26]? =some (.int .u64 (x.s:Int))):=by show _=_;rw [← hCS.out];rfl
 rw [hCS.out] at hsz hb0 hat0 k1 hf0;rw [hCS.out];go_enter Tryz.func52,Tryz.ntmps52;have hi:(Tryz.prog.info? 67).map (·.size)=some CS.size:=by rw [hsz];kernel_rfl
 go_wp2_with (refine Kf rfl 67 (.tmp 1) rfl rfl hb0 Tryz.underlying67 rfl hi ?_);refine k1.out.mono ?_;rintro _ w1 ⟨A1,c1,rfl,ho1,hf1⟩;rw [An2] at ho1;rw [An2];have hb1:=hb0.fr hf1 zq;have r25:=(hb1.cell 25).trans e25.out;go_wp2_with (fail);refine (Dz _ _ A1 c1 _ x.r _ ho1 okr (by omega)).mono ?_;rintro _ w2 ⟨rfl,A2,c2,ho2,hs2⟩;have hb2:=hb1.fr hs2.fr (ho1.far hb1 (by decide) (by decide));have r26:=(hb2.cell 26).trans e26.out;have lr:=Pk.num_len x.r;have ls:=Pk.num_len x.s;go_wp2_with (fail);refine (Dz _ _ A2 c2 _ x.s _ ho2 oks (by rw [Am8];omega)).mono ?_;rintro _ w3 ⟨rfl,A3,c3,ho3,hs3⟩;have lE:E.length≤1200000000:=by rw [eput.out];simp only [Am8];omega
 rw [← eput.out] at ho3;go_wp2_with (fail);refine (Ki _ _ A3 c3 _ _ ho3 (by omega)).mono ?_;rintro _ w4 ⟨A4,c4,rfl,hown4,hf4⟩;go_wp2
 go_ret
 have hff:Fr Non w w3:=((hf0.trans hf1 zr).trans (hs2.trans hs3).fr (fun k hk e=>by
  rcases e with e|e
  · omega
  · have:=(ho1.2.1.row k e).1;omega))
 have hz3:=hff.size;exact ⟨A4,c4,rfl,hown4.lower hz3,hff.trans hf4 zr⟩
end Oq
theorem Gk (n:Nat) (w:World) (hn:n<18446744073709551616):
  Calls Tryz.prog 132 #[.int .u64 (n:Int)] w (NewB w (Pk.num n)):=by
 go_enter Tryz.func132,Tryz.ntmps132;go_wp2
 go_loopw [0,3] (fun v s wr=>∃(m f:Nat) (L:List UInt8) (A:Option Addr) (c:Nat),v=.int .u64 (m:Int)∧s=.slice A L.length c∧m<2*128^f∧Hid (Pk.num n=L++Pk.numF (f+1) m)∧L.length+f≤9∧m<18446744073709551616∧
  Own wr w.heap.size 5 1 A L.length c (L.map Bv)∧Fr Non w wr) (fun v _ _=>(intOf v).toNat)
 case atStart=>exact ⟨n,9,[],none,0,rfl,rfl,by simpa using hn,rfl,by simp,hn,Own.nil _ _ _ _,Fr.refl _ _⟩
 case round=>
  obtain ⟨m,f,L,A,c,rfl,rfl,hm,hpre,hlen,hm64,hown,hf⟩:=hrel;have hBs:=hf.size;have hrow:∀k,k<w.heap.size→Ac A=some k→Non k:=fun k hk hA=>by have:=(hown.row k hA).1;omega
  by_cases hlt:m<128
  ·
   go_wp2_with (first|(at_builtin;go_loud (refine Az (.tmp 15) (.tmp 18) 60 rfl rfl rfl rfl slB (hown.alloc _) (Rd.one _ _ _) (by simp [Value.oneCell']) (by omega) (by omega) (by simp;omega) ?_);intro A1 c1 w1 hown1 hf1 hat1))
   go_ret
   refine NewB.mk hown1 rfl ?_ ((hf.alloc _).trans hf1 hrow);rw [hpre.out];simp [Pk.numF,hlt,Bv];omega
  ·
   go_wp2_with (first|(at_builtin;go_loud (refine Az (.tmp 6) (.tmp 11) 60 rfl rfl rfl rfl slB (hown.alloc _) (Rd.one _ _ _) (by simp [Value.oneCell']) (by omega) (by omega) (by simp;omega) ?_);intro A1 c1 w1 hown1 hf1 hat1));go_roundw
   case rel=>
    have hf0:f≠0:=by rintro rfl;omega
    obtain ⟨f',rfl⟩:∃f',f=f'+1:=⟨f-1,by omega⟩;refine ⟨m/128,f',L++[UInt8.ofNat (m%128+128)],A1,c1,by go_num,by simp,?_,?_,?_,by omega,?_,(hf.alloc _).trans hf1 hrow⟩
    · rw [Nat.div_lt_iff_lt_mul (by omega)];rw [Nat.pow_succ] at hm;omega
    ·
     show _=_;rw [hpre.out];conv=>lhs;unfold Pk.numF
     rw [if_neg hlt];simp
    · simp;omega
    ·
     have:=Pk.tn (m%128+128) (by omega)
     have e:(L++[UInt8.ofNat (m%128+128)]).map Bv=L.map Bv++[.int .u8 ((m:Int)%128+128)]:=by
      simp [Bv];omega
     rw [e,Am8];exact hown1
   case measure=>simp [intOf];omega
theorem Eu (n:Int) (w:World) (h0: -9223372036854775808≤n) (h1:n≤9223372036854775807):
  Calls Tryz.prog 134 #[.int .i64 n] w (NewB w (Pk.int n)):=by
 have hfl:=Pk.fold_lt h0 h1
 by_cases hn:n<0
 ·
  have hv:Hid (-(n+1)*2+1=((Pk.fold n:Nat):Int)):=by show _=_;unfold Pk.fold;rw [if_pos hn];omega
  go_enter Tryz.func134,Tryz.ntmps134;go_wp2_with (fail);rw [hv.out];refine (Gk _ _ hfl).mono ?_;rintro _ w1 ⟨A,c,rfl,hown,hf⟩;go_wp2
  go_ret
  exact ⟨A,c,rfl,hown,hf⟩
 ·
  have hv:Hid (n*2=((Pk.fold n:Nat):Int)):=by show _=_;unfold Pk.fold;rw [if_neg hn];omega
  go_enter Tryz.func134,Tryz.ntmps134;go_wp2_with (fail);rw [hv.out];refine (Gk _ _ hfl).mono ?_;rintro _ w1 ⟨A,c,rfl,hown,hf⟩;go_wp2
  go_ret
  exact ⟨A,c,rfl,hown,hf⟩
theorem O4 (l:List UInt8) (w:World) (hl:l.length≤1099511627700):Calls Tryz.prog 135 #[.string (str l)] w (NewB w (Pk.text l)):=by
 have hs:=Eg l;have hil:=Pk.int_len (l.length:Int);go_enter Tryz.func135,Tryz.ntmps135;go_wp2_with (fail);refine (Eu _ _ (by omega) (by omega)).mono ?_;rintro _ w1 ⟨A,c,rfl,hown,hf⟩;clear hs;have hBs:=hf.size;go_wp2_with (first|(at_builtin;go_loud (refine Nb (.tmp 5) (.tmp 6) 60 9 rfl rfl rfl rfl slB Tryz.underlying9 hown (by omega) (by omega) ?_);intro A2 c2 w2 hown2 hf2 hat2))
 go_ret
 exact NewB.mk hown2 rfl (by simp [Pk.text]) (hf.trans hf2 (hown.notNon (An0 _)))
theorem Ih (b s:Int) (u:Nat) (w:World) (b0: -9223372036854775808≤b) (b1:b≤9223372036854775807)
  (s0: -9223372036854775808≤s) (s1:s≤9223372036854775807) (hu:u<18446744073709551616):
  Calls Tryz.prog 131 #[.agg #[.int .i64 b,.int .i64 s,.int .u64 (u:Int)]] w (NewB w (Pk.ident b s u)):=by
 have hb0:=Blk.new w 41 #[.int .i64 b,.int .i64 s,.int .u64 (u:Int)];have l1:=Pk.int_len b;have l2:=Pk.int_len s;have l3:=Pk.num_len u;have c0:=hb0.cell 0;have c1:=hb0.cell 1;have c2:=hb0.cell 2;go_enter Tryz.func131,Tryz.ntmps131;go_wp2
 go_region_held3 (fun w'=>w'.cell? ⟨w.heap.size,0,none⟩=some (.int .i64 b)∧w'.cell? ⟨w.heap.size,1,none⟩=some (.int .i64 s)) (go_keep) (first
  |((refine Jz (.tmp 6) (.tmp 9) 60 (by rfl) (by rfl) (by rfl) (by rfl) slB (hown1.fr hf2 zr) hown2.rd (Gv _) (by omega) (by omega) (by omega) ?_;intro A3 c3 w3 hown3 hf3 hat3;have hb3:=hb2.fr hf3 (hown1.ne hb1 (by decide));have d0:=hb3.cell 0;have d1:=hb3.cell 1))
  |(go_at_call 134;(with_reducible refine (Eu b _ b0 b1).mono ?_);rintro _ w1 ⟨A1,c1,rfl,hown1,hf1⟩;have hb1:=hb0.drew.fr hf1 zq;have d0:=hb1.cell 0;have d1:=hb1.cell 1;have hsz1:=hf1.size)
  |(go_at_call 134;(with_reducible refine (Eu s _ s0 s1).mono ?_);rintro _ w2 ⟨A2,c2,rfl,hown2,hf2⟩;have hb2:=hb1.fr hf2 zq;have d0:=hb2.cell 0;have d1:=hb2.cell 1;have hsz2:=hf2.size))
 have e2:=hb3.cell 2;have hs3:=hf3.size;go_wp2_with (fail);refine (Gk u _ hu).mono ?_;rintro _ w4 ⟨A4,c4,rfl,hown4,hf4⟩;have hs4:=hf4.size;have hown3':=(hown3.fr hf4 zr).lower (base':=w.heap.size) (by simp);go_wp2_with (first|(at_builtin;go_loud (refine Az (.tmp 11) (.tmp 14) 60 rfl rfl rfl rfl slB hown3' hown4.rd (Gv _) (by omega) (by omega) (by simp at hsz1;omega) ?_);intro A5 c5 w5 hown5 hf5 hat5))
 go_ret
 have hff:Fr Non w w4:=(((((Fr.refl _ _).alloc _).drew.trans hf1 zr).trans hf2 zr).trans hf3 (fun k hk e=>by have:=(hown1.row k e).1;simp at this;omega)).trans hf4 zr;exact NewB.mk hown5 rfl (by simp [Pk.ident]) (hff.trans hf5 (hown3'.notNon (An0 _)))
namespace Oq
structure Acc (w0 w:World) (A:Option Addr) (c L K:Nat) (D:List UInt8):Prop where
 own:Own w w0.heap.size 5 1 A L c (D.map Bv)
 fr:Fr Non w0 w
 le:L≤K
section
variable {w0 w w' : World} {A : Option Addr} {c L K : Nat} {D : List UInt8}
theorem Acc.len (h:Acc w0 w A c L K D):L=D.length:=by have:=h.own.len;simpa using this.symm
theorem Acc.nil (w:World):Acc w w none 0 0 0 []:=⟨Own.nil _ _ _ _,Fr.refl _ _,An0 _⟩
theorem Acc.step (h:Acc w0 w A c L K D) (hf:Fr Non w w'):Acc w0 w' A c L K D:=⟨h.own.fr hf zr,h.fr.trans hf zr,h.le⟩
theorem Acc.more (h:Acc w0 w A c L K D) {K':Nat} (hK:K≤K'):Acc w0 w A c L K' D:=⟨h.own,h.fr,An1 h.le hK⟩
theorem Acc.of_new {X:List UInt8} (hown:Own w' w.heap.size 5 1 A X.length c (X.map Bv)) (hf:Fr Non w w') (hX:X.length≤K):Acc w w' A c X.length K X:=⟨hown,hf,hX⟩
theorem Acc.post {w1:World} (h:Acc w0 w A c L K D) (hf:Fr Non w1 w0) {D':List UInt8} (e:D'=D):NewB w1 D' (.returned (.slice A L c)) w:=by
 subst e;have hl:=h.len;subst hl;exact ⟨A,c,rfl,h.own.lower hf.size,hf.trans h.fr zr⟩
end
theorem Cj {P:Program} {ops:Array Oper} {rest:List Oper} {o:Oper} {a:Act} {Q:Exit→Act→World→Prop} {w0 w:World} (s x:Operand) (t:TypeId) (hgd:o.guard=none)
  (ho:o.op=.call {callee:=.builtin .append,args:=#[s,x],argTypes:=#[t,t]})
  {c L K cx base:Nat} {A Ax:Option Addr} {D X:List UInt8} (Kx:Nat)
  (hs:a.eval s=.slice A L c) (hx:a.eval x=.slice Ax X.length cx) (hT:SlT P t 5 (.int .u8 0) 1 1) (h:Acc w0 w A c L K D) (hr:Own w base 5 1 Ax X.length cx (X.map Bv)) (hX:X.length≤Kx) (hK:K+Kx≤1099511627776)
  (hk:∀A' c' L' w',Acc w0 w' A' c' L' (K+Kx) (D++X)→wpList P ops Q rest (a.put o.dst (.slice A' L' c')) w'):wpList P ops Q (o::rest) a w:=by
 have hle:=h.le;refine Az s x t hgd ho hs hx hT h.own hr.rd (Gv _) (by omega) (by omega) h.fr.size ?_;intro A' c' w' hown hf _;rw [← List.map_append] at hown;exact hk A' c' _ w' ⟨hown,h.fr.trans hf (h.own.notNon (An0 _)),by omega⟩
theorem Vd {P:Program} {ops:Array Oper} {o:Oper} {a:Act} {Kt:Act→World→Prop} {Q:Exit→Act→World→Prop} {E:Prop} {w0 w:World} (s x:Operand) (t:TypeId) (hgd:o.guard=none)
  (ho:o.op=.call {callee:=.builtin .append,args:=#[s,x],argTypes:=#[t,t]})
  {c L K cx base:Nat} {A Ax:Option Addr} {D X:List UInt8} (Kx:Nat)
  (hs:a.eval s=.slice A L c) (hx:a.eval x=.slice Ax X.length cx) (hT:SlT P t 5 (.int .u8 0) 1 1) (h:Acc w0 w A c L K D) (hr:Own w base 5 1 Ax X.length cx (X.map Bv)) (hX:X.length≤Kx) (hK:K+Kx≤1099511627776)
  (hk:∀A' c' L' w',Acc w0 w' A' c' L' (K+Kx) (D++X)→Fr Non w0 w'→Kt (a.put o.dst (.slice A' L' c')) w'):
  if Region.wanted o (yielded ops a.tmps)=true then Oper.wp P o a w Kt Q else E:=by
 have hle:=h.le;refine Jz s x t hgd ho hs hx hT h.own hr.rd (Gv _) (by omega) (by omega) h.fr.size ?_;intro A' c' w' hown hf _;rw [← List.map_append] at hown;have hff:=h.fr.trans hf (h.own.notNon (An0 _));exact hk A' c' _ w' ⟨hown,hff,by omega⟩ hff
theorem Ii (B n cl:Nat) (Al:Option Addr) (l:List Int) (w:World) (hn:Hid (l.length=n)) (hr:Rd w B 1 Al n (l.map Iv)) (hok:∀x∈l,I64 x) (hn1:n≤100000):
  Calls Tryz.prog 130 #[.slice Al n cl] w (NewB w (l.flatMap Pk.int)):=by
 go_enter Tryz.func130,Tryz.ntmps130;go_wp2
 go_loopw [3,4] (fun s v wr=>∃(i:Nat) (A:Option Addr) (c L:Nat),v=.int .i64 (i:Int)∧s=.slice A L c∧i≤n∧Acc w wr A c L (10*i) ((l.take i).flatMap Pk.int)) (fun _ v _=>n-(intOf v).toNat)
 case atStart=>exact ⟨0,none,0,0,rfl,rfl,by omega,Acc.nil w⟩
 case round=>
  obtain ⟨i,A,c,L,rfl,rfl,hin,hac⟩:=hrel
  by_cases hlt:i<n
  ·
   obtain ⟨x,hx⟩:∃x,l[i]? =some x:=⟨_,Am9 (by rw [hn.out];exact hlt)⟩;have hxo:=hok x (An3 hx);obtain ⟨b,off,rfl,hb,k0⟩:=H8 (hr.fr hac.fr zr) hx;unfold Iv at k0;have hx':=Lib.hid hx;clear hx;have hxl:=Pk.int_len x;go_wp2_with (fail);refine (Eu x _ hxo.1 hxo.2).mono ?_;rintro _ w1 ⟨A1,c1,rfl,hown1,hf1⟩;have hac1:=hac.step hf1;go_wp2_with (first|(at_builtin;go_loud (refine Cj (.tmp 11) (.tmp 16) 60 rfl rfl 10 rfl rfl slB hac1 hown1 hxl (by omega) ?_);intro A2 c2 L2 w2 hac2));go_roundw
   case rel=>exact ⟨i+1,A2,c2,L2,by go_num,rfl,by omega,by rw [Dm _ l hx'.out,An6];exact hac2⟩
   case measure=>simp [intOf];omega
  ·
   have hi:i=n:=by omega
   subst hi;go_wp2
   go_ret
   refine hac.post (Fr.refl _ _) ?_;rw [An4 (by rw [hn.out];omega)]
theorem O5 (B n cl:Nat) (Al:Option Addr) (l:List Nat) (w:World) (hn:Hid (l.length=n)) (hr:Rd w B 1 Al n (l.map Uv)) (hok:∀x∈l,U64 x) (hn1:n≤100000):
  Calls Tryz.prog 136 #[.slice Al n cl] w (NewB w (l.flatMap Pk.num)):=by
 go_enter Tryz.func136,Tryz.ntmps136;go_wp2
 go_loopw [3,4] (fun s v wr=>∃(i:Nat) (A:Option Addr) (c L:Nat),v=.int .i64 (i:Int)∧s=.slice A L c∧i≤n∧Acc w wr A c L (10*i) ((l.take i).flatMap Pk.num)) (fun _ v _=>n-(intOf v).toNat)
 case atStart=>exact ⟨0,none,0,0,rfl,rfl,by omega,Acc.nil w⟩
 case round=>
  obtain ⟨i,A,c,L,rfl,rfl,hin,hac⟩:=hrel
  by_cases hlt:i<n
  ·
   obtain ⟨x,hx⟩:∃x,l[i]? =some x:=⟨_,Am9 (by rw [hn.out];exact hlt)⟩;have hxo:=hok x (An3 hx);obtain ⟨b,off,rfl,hb,k0⟩:=H8 (hr.fr hac.fr zr) hx;unfold Uv at k0;have hx':=Lib.hid hx;clear hx;have hxl:=Pk.num_len x;go_wp2_with (fail);refine (Gk x _ hxo).mono ?_;rintro _ w1 ⟨A1,c1,rfl,hown1,hf1⟩;have hac1:=hac.step hf1;go_wp2_with (first|(at_builtin;go_loud (refine Cj (.tmp 11) (.tmp 16) 60 rfl rfl 10 rfl rfl slB hac1 hown1 hxl (by omega) ?_);intro A2 c2 L2 w2 hac2));go_roundw
   case rel=>exact ⟨i+1,A2,c2,L2,by go_num,rfl,by omega,by rw [Dm _ l hx'.out,An6];exact hac2⟩
   case measure=>simp [intOf];omega
  ·
   have hi:i=n:=by omega
   subst hi;go_wp2
   go_ret
   refine hac.post (Fr.refl _ _) ?_;rw [An4 (by rw [hn.out];omega)]
theorem Ve {w:World} {k:Nat} {l:List Nat} (h:Blk w k 39 (l.map Uv).toArray) (n:Nat) (hn:l.length=n):Rd w w.heap.size 1 (some ⟨k,0,none⟩) n (l.map Uv):=by
 refine ⟨by simp [hn],.inr ⟨k,0,rfl,h.lt,fun j u hu=> ?_⟩⟩;rw [Nat.zero_add,h.cell j,Ao6];exact hu
theorem Kw {w:World} {k:Nat} {l:List Int} (h:Blk w k 3 (l.map Iv).toArray) (n:Nat) (hn:l.length=n):Rd w w.heap.size 1 (some ⟨k,0,none⟩) n (l.map Iv):=by
 refine ⟨by simp [hn],.inr ⟨k,0,rfl,h.lt,fun j u hu=> ?_⟩⟩;rw [Nat.zero_add,h.cell j,Ao6];exact hu
theorem Vf (x:Bx):[x.t,x.e,x.y,x.g].flatMap Pk.num=x.bytes:=by unfold Bx.bytes;simp [Ao5]
theorem Vg (x:Bx) (hx:x.ok) (w:World) (k:Nat) (h:Blk w k 39 #[.int .u64 (x.t:Int),.int .u64 (x.e:Int),.int .u64 (x.y:Int),.int .u64 (x.g:Int)]):Calls Tryz.prog 136 #[.slice (some ⟨k,0,none⟩) 4 4] w (NewB w x.bytes):=by
 rw [← Vf x];exact O5 w.heap.size 4 4 _ [x.t,x.e,x.y,x.g] _ rfl (Ve h 4 rfl) (Ig hx.1 hx.2.1 hx.2.2.1 hx.2.2.2) (by omega)
theorem O6 (B n cl:Nat) (Al:Option Addr) (l:List Bx) (w:World) (hn:Hid (l.length=n)) (hr:Rd w B 4 Al n (l.flatMap Bx.cells)) (hok:∀x∈l,x.ok) (hn1:n≤100000):
  Calls Tryz.prog 133 #[.slice Al n cl] w (NewB w (lst Bx.bytes l)):=by
 go_enter Tryz.func133,Tryz.ntmps133;go_wp2_with (fail);refine (Eu (n:Int) _ (by omega) (by omega)).mono ?_;rintro _ w0 ⟨A0,c0,rfl,ac,aj⟩;have ap:=Pk.int_len (n:Int);have ag:Acc w w0 A0 c0 (Pk.int (n:Int)).length 10 (Pk.int (n:Int)):=Acc.of_new ac aj ap;go_wp2
 go_loopw [3,4] (fun s v wr=>∃(i:Nat) (A:Option Addr) (c L:Nat),v=.int .i64 (i:Int)∧s=.slice A L c∧i≤n∧Acc w wr A c L (10+40*i) (Pk.int (n:Int)++(l.take i).flatMap Bx.bytes)) (fun _ v _=>n-(intOf v).toNat)
 case atStart=>exact ⟨0,A0,c0,_,rfl,rfl,by omega,by simpa using ag⟩
 case round=>
  obtain ⟨i,A,c,L,rfl,rfl,aq,ab⟩:=hrel
  by_cases hlt:i<n
  ·
   obtain ⟨x,hx⟩:∃x,l[i]? =some x:=⟨_,Am9 (by rw [hn.out];exact hlt)⟩;have kn:=Lib.hid (Vg x (hok x (An3 hx)) (wr.alloc (.cells #[.int .u64 (x.t:Int),.int .u64 (x.e:Int),.int .u64 (x.y:Int),.int .u64 (x.g:Int)] 39)).drew _ (Blk.new wr 39 _).drew);obtain ⟨b,aa,rfl,hb,z0,z1,z2,z3⟩:=Bx.at hr hx;have k0:=ab.fr.cell z0 zq;have k1:=ab.fr.cell z1 zq;have k2:=ab.fr.cell z2 zq;have k3:=ab.fr.cell z3 zq;have ak:=Lib.hid hx;clear hx;have al:=Bx.bytes_len x;have ao:(i:Int)<(n:Int):=by omega
   have ar:(0:Int)≤(i:Int):=by omega
   have n0:=An7 wr ⟨b,aa+i*4,none⟩ (by rw [k0]);have n1:=An7 wr ⟨b,aa+i*4+1,none⟩ (by rw [k1]);have n2:=An7 wr ⟨b,aa+i*4+2,none⟩ (by rw [k2]);have n3:=An7 wr ⟨b,aa+i*4+3,none⟩ (by rw [k3]);go_wp2_with (fail)
   go_region_held3 (fun w'=>w'.cell? ⟨b,aa+i*4,none⟩=some (.int .u64 (x.t:Int))∧w'.cell? ⟨b,aa+i*4+1,none⟩=some (.int .u64 (x.e:Int))∧w'.cell? ⟨b,aa+i*4+2,none⟩=some (.int .u64 (x.y:Int))∧w'.cell? ⟨b,aa+i*4+3,none⟩=some (.int .u64 (x.g:Int))) (go_keep) (first
    |((refine Vd (.tmp 14) (.tmp 36) 60 (by rfl) (by rfl) 40 (by rfl) (by rfl) slB ah ae al (by omega) ?_;intro A3 c3 L3 w3 ai af;have ca:=af.cell z0 zq;have cb:=af.cell z1 zq;have cc:=af.cell z2 zq;have cd:=af.cell z3 zq))
    |(go_at_call 136;(with_reducible refine kn.out.mono ?_);rintro _ w1 ⟨A1,c1,rfl,ae,ad⟩;have ah:=(ab.step ((Fr.refl _ _).alloc _).drew).step ad;have ya:=ad.cell (((Fr.refl Non wr).alloc _).cell k0 zq) zq;have yb:=ad.cell (((Fr.refl Non wr).alloc _).cell k1 zq) zq;have yc:=ad.cell (((Fr.refl Non wr).alloc _).cell k2 zq) zq;have yd:=ad.cell (((Fr.refl Non wr).alloc _).cell k3 zq) zq))
   go_wp2;go_roundw
   case rel=>exact ⟨i+1,A3,c3,L3,by go_num,rfl,by omega,by rw [Dm _ l ak.out,← An5,An6,← Nat.add_assoc];exact ai⟩
   case measure=>simp [intOf];omega
  ·
   have hi:i=n:=by omega
   subst hi;go_wp2
   go_ret
   refine ab.post (Fr.refl _ _) ?_;unfold lst;rw [An4 (by rw [hn.out];omega),hn.out]
end Oq
end
end Go.Proofs.YtkanjaikgphjfaaGreatDoor
