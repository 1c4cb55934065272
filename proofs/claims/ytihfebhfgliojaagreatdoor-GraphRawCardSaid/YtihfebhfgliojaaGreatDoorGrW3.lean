/-
  Contracts of the functions that the claim's statement reaches, walked one by one (part 3).
  Conditions: as each theorem says.
-/
import Derived.Test.YtihfebhfgliojaaGreatDoorGrW2
set_option maxRecDepth 100000
set_option maxHeartbeats 16000000
open Bool renaming and_eq_true->An7
open List renaming getElem?_eq_getElem->An4,take_append_drop->An5,mem_cons_self->An6,mem_of_getElem?->An8,append_assoc->An9,pairwise_append->Ao0,any_eq_false->Ao1,all_eq_true->Ao2,find?_append->Ao4,take_of_length_le->Ao5
open Nat renaming le_refl->An3
open Go.World renaming size_alloc->Ao3
open Go.Proofs.Tryz
open Go.Proofs.Tryz renaming prog->zp
open Go.Lib renaming hid->lh
open List renaming set->zl
open Go.Ending renaming returned->ze
namespace Go.Proofs.YtihfebhfgliojaaGreatDoor
open Go.RowKit
attribute [local go_sem ↓] Go.wp_at_zero Go.wp_at_succ
namespace Oq
theorem Id.less_iff (a b:Id):Id.less a b=true<->a.b<b.b\/(a.b=b.b/\(a.s<b.s\/(a.s=b.s/\a.u<b.u))):=by
 unfold Id.less
 by_cases h1:a.b=b.b
 ·
  by_cases h2:a.s=b.s
  · rw [if_pos h1,if_pos h2];simp;omega
  · rw [if_pos h1,if_neg h2];simp;omega
 · rw [if_neg h1];simp;omega
theorem Id.less_irr (a:Id):Id.less a a=false:=by
 cases h:Id.less a a
 · rfl
 · rw [Id.less_iff] at h;omega
theorem Id.less_tr {a b c:Id} (h:Id.less a b=true) (k:Id.less b c=true):Id.less a c=true:=by
 rw [Id.less_iff] at*;omega
theorem Id.less_as {a b:Id} (h:Id.less a b=true):Id.less b a=false:=by
 cases k:Id.less b a
 · rfl
 · rw [Id.less_iff] at*;omega
theorem Id.less_tot (a b:Id):Id.less a b=true\/a=b\/Id.less b a=true:=by
 rw [Id.less_iff,Id.less_iff]
 by_cases h1:a.b=b.b
 ·
  by_cases h2:a.s=b.s
  ·
   by_cases h3:a.u=b.u
   ·
    refine .inr (.inl ?_)
    cases a;cases b;simp_all
   · omega
  · omega
 · omega
theorem Id.less_f {a b:Id} (h:Id.less a b=false):b=a\/Id.less b a=true:=by
 rcases Id.less_tot a b with k|k|k
 · rw [h] at k;cases k
 · exact .inl k.symm
 · exact .inr k
def Row (l:List Id):Prop:=l.Pairwise (fun a b=>Id.less a b=true)
def RowW (l:List Id):Prop:=l.Pairwise (fun a b=>Id.less b a=false)
theorem RowW.row {l:List Id} (h:RowW l) (hn:l.Nodup):Row l:=by
 unfold Row RowW at*
 exact (List.Pairwise.and h hn).imp (fun {a b} k=>by
  rcases Id.less_f k.1 with e|e
  · exact absurd e k.2
  · exact e)
theorem Ni (x:Id) (l:List Id):∀k,Bm x l k<=k
 |0=>An3 _
 |k+1=>by
  show (match l[k]? with|some y=>if Id.less x y then Bm x l k else k+1|none=>k+1)<=_
  split
  ·
   split
   · exact Nat.le_trans (Ni x l k) (Nat.le_succ k)
   · exact An3 _
  · exact An3 _
theorem Nj (x:Id) (l:List Id):∀k,k<=l.length->∀j y,Bm x l k<=j->j<k->l[j]? =some y->Id.less x y=true
 |0,_,j,y,_,h,_=>by omega
 |k+1,hk,j,y,h1,h2,h3=>by
  have he:l[k]? =some l[k]:=An4 (by omega)
  have hu:Bm x l (k+1)=if Id.less x l[k] then Bm x l k else k+1:=by
   show (match l[k]? with|some y=>if Id.less x y then Bm x l k else k+1|none=>k+1)=_;rw [he]
  rw [hu] at h1
  by_cases hl:Id.less x l[k]=true
  ·
   rw [if_pos hl] at h1
   rcases Nat.lt_or_ge j k with hj|hj
   · exact Nj x l k (by omega) j y h1 hj h3
   ·
    obtain rfl:j=k:=by omega
    rw [he] at h3;injection h3 with h3
    rw [<- h3];exact hl
  ·
   rw [if_neg hl] at h1;omega
theorem Nk (x:Id) (l:List Id):∀k,k<=l.length->∀y,0<Bm x l k->l[Bm x l k-1]? =some y->Id.less x y=false
 |0,_,y,h,_=>by exact absurd h (Nat.lt_irrefl 0)
 |k+1,hk,y,h1,h2=>by
  have he:l[k]? =some l[k]:=An4 (by omega)
  have hu:Bm x l (k+1)=if Id.less x l[k] then Bm x l k else k+1:=by
   show (match l[k]? with|some y=>if Id.less x y then Bm x l k else k+1|none=>k+1)=_;rw [he]
  rw [hu] at h1 h2
  by_cases hl:Id.less x l[k]=true
  ·
   rw [if_pos hl] at h1 h2;exact Nk x l k (by omega) y h1 h2
  ·
   rw [if_neg hl] at h2;rw [Nat.add_sub_cancel,he] at h2;injection h2 with h2
   rw [<- h2];exact Bool.not_eq_true _▸hl
theorem Ui (l:List Id) (x:Id):(ins l x).Perm (x::l):=by
 unfold ins;have h:l=l.take (Bm x l l.length)++l.drop (Bm x l l.length):=(An5 _ _).symm;generalize Bm x l l.length=k at*;rw [An9];refine List.Perm.trans List.perm_middle ?_;conv=>rhs;rw [h]
 exact List.Perm.refl _
theorem Uj {l:List Id} (x:Id) (h:RowW l):RowW (ins l x):=by
 have hle:=Ni x l l.length;have hge:=Nj x l l.length (An3 _);have hlt:=Nk x l l.length (An3 _);unfold ins RowW at*;generalize Bm x l l.length=k at*;have hh:l.Pairwise (fun a b=>Id.less b a=false):=h;rw [<- An5 k l,Ao0] at h;obtain ⟨h1,h2,h3⟩:=h
 have hb:∀a∈l.take k,Id.less x a=false:=by
  intro a ha;obtain ⟨j,hj,hja⟩:=List.mem_iff_getElem.1 ha;rw [List.length_take] at hj;rw [List.getElem_take] at hja;have hy:l[k-1]? =some l[k-1]:=An4 (by omega);have hx:=hlt _ (by omega) hy
  rcases Nat.lt_or_ge j (k-1) with hjk|hjk
  ·
   have hp:=List.pairwise_iff_getElem.1 hh j (k-1) (by omega) (by omega) hjk;rw [hja] at hp
   cases hxa:Id.less x a
   · rfl
   ·
    rcases Id.less_f hx with e|e
    · rw [e,hxa] at hp;cases hp
    · rw [Id.less_tr e hxa] at hp;cases hp
  ·
   obtain rfl:j=k-1:=by omega
   rw [<- hja];exact hx
 have ha:∀a∈l.drop k,Id.less x a=true:=by
  intro a ha;obtain ⟨j,hj,hja⟩:=List.mem_iff_getElem.1 ha;rw [List.length_drop] at hj;rw [List.getElem_drop] at hja;exact hge (k+j) a (by omega) (by omega) (by rw [<- hja];exact An4 _)
 rw [An9,Ao0];refine ⟨h1,?_,?_⟩
 ·
  rw [List.singleton_append,List.pairwise_cons];exact ⟨fun a h=>Id.less_as (ha a h),h2⟩
 ·
  intro a h b hb'
  rcases List.mem_append.1 hb' with hb'|hb'
  · rw [List.mem_singleton.1 hb'];exact hb a h
  · exact h3 a h b hb'
theorem J3:∀(l acc:List Id),RowW acc->RowW (l.foldl ins acc)/\(l.foldl ins acc).Perm (acc++l)
 |[],acc,h=>⟨h,by rw [List.append_nil];exact List.Perm.refl _⟩
 |x::l,acc,h=>by
  obtain ⟨h1,h2⟩:=J3 l (ins acc x) (Uj x h);refine ⟨h1,h2.trans ?_⟩;exact ((Ui acc x).append_right l).trans List.perm_middle.symm
theorem Hl (l:List Id):RowW (An l):=(J3 l [] List.Pairwise.nil).1
theorem C3 (l:List Id):(An l).Perm l:=(J3 l [] List.Pairwise.nil).2
theorem Uk {l:List Id} (h:l.Nodup):Row (An l):=(Hl l).row ((C3 l).nodup_iff.2 h)
theorem RowW.unique:∀{l m:List Id},RowW l->RowW m->l.Perm m->l=m
 |[],m,_,_,h=>by rw [List.Perm.nil_eq h]
 |x::l,[],_,_,h=>by exact absurd h.length_eq (by simp)
 |x::l,y::m,h1,h2,hp=>by
  have h1':=List.pairwise_cons.1 h1;have h2':=List.pairwise_cons.1 h2
  have hxy:x=y:=by
   have hx:x∈y::m:=hp.subset (An6 ..);have hy:y∈x::l:=hp.symm.subset (An6 ..)
   rcases List.mem_cons.1 hx with e|e
   · exact e
   ·
    rcases List.mem_cons.1 hy with e'|e'
    · exact e'.symm
    ·
     have a:=h2'.1 x e;have b:=h1'.1 y e'
     rcases Id.less_f a with c|c
     · exact c.symm
     · rw [c] at b;cases b
  subst hxy;rw [RowW.unique h1'.2 h2'.2 (List.perm_cons x|>.1 hp)]
theorem Nl {l m:List Id} (h:RowW l) (hp:l.Perm m):l=An m:=h.unique (Hl m) (hp.trans (C3 m).symm)
def FP:Nat:=2305843009213693951
def inR (n lo hi:Int):Bool:=decide (lo<=n)&&decide (n<=hi)
def Ar (n:Nat):Bool:=decide (1<=n)&&decide (n<FP)
def fOk (n:Nat):Bool:=decide (n<FP)
def Id.named (x:Id):Bool:=inR x.b 1 12&&inR x.s 1 2147483647&&fOk x.u
def Id.zero:Id:=⟨0,0,0⟩
def Bx.may (x:Bx):Bool:=Ar x.t&&Ar x.e&&fOk x.y&&fOk x.g
def Br (k:Int):Bool:=k==7||k==8||k==12||k==10||k==11||k==13
def Op.bareB (o:Op):Bool:=
 (o.dev==0||o.kind==2||o.kind==3||o.kind==11||o.kind==13)&&(o.old==0||o.kind==13)&&(o.mem==0||o.kind==3||o.kind==5)&&(o.role==0||o.kind==2||o.kind==5)&&
 (o.path.isEmpty||Cl o.kind)&&(Id.eq o.epoch Id.zero||o.kind==6)&&(o.n==0||o.kind==6)&&(o.refs.isEmpty||o.kind==6)&&(o.body.isEmpty||o.kind==6||o.kind==7)&&(Id.eq o.of Id.zero||Br o.kind)&&
 (o.guards.isEmpty||o.kind==9)&&(o.wait==0||o.kind==9)&&(o.pub==0||o.kind==9)&&(o.need==0||o.kind==9||o.kind==1)&&(o.boxes.isEmpty||o.kind==9||o.kind==10||o.kind==11)&&
 (o.hist.isEmpty||o.kind==2||o.kind==13)
def Op.numsB (o : Op) : Bool :=
  inR o.by_ 1 12 && inR o.sq 1 2147483647 && inR o.at_ 0 2147483647 &&
  (if o.kind = 1 then inR o.need 0 20
   else if o.kind = 2 then inR o.dev 1 12 && inR o.role 1 3
   else if o.kind = 3 then (inR o.dev 1 12 && o.mem == 0) || (o.dev == 0 && inR o.mem 1 8)
   else if o.kind = 4 then true
   else if o.kind = 5 then inR o.mem 1 8 && inR o.role 1 3
   else if o.kind = 6 then o.epoch.named && inR o.n 0 2147483647
   else if o.kind = 9 then inR o.need 1 o.guards.length && inR o.wait 0 2147483647 && Ar o.pub
   else if o.kind = 11 then o.of.named && inR o.dev 1 12
   else if o.kind = 13 then o.of.named && inR o.dev 1 12 && inR o.old 1 12
   else o.of.named)
def Op.itemsB (o:Op):Bool:=
 o.guards.all (fun n=>inR n 1 12)&&o.refs.all fOk&&o.past.all Id.named&&o.path.all (fun x=>Ar x.p&&x.xs.all Bx.may)&&o.boxes.all Bx.may&&o.hist.all (fun x=>x.f.named)
def Op.longB (o : Op) : Bool :=
  o.path.any (fun x => decide (12 < x.xs.length)) || o.hist.any (fun x => decide (208 < x.y.length)) || decide (12 < o.past.length) || decide (5 < o.path.length) || decide (208 < o.body.length) || decide (8 < o.refs.length) || decide (20 < o.hist.length) || decide (6 < o.guards.length) ||
  (if o.kind = 7 then !(decide (1 <= o.body.length) && decide (o.body.length <= 20))
   else if o.kind = 9 then decide (o.boxes.length ≠ o.guards.length)
   else if o.kind = 10 then !(decide (1 <= o.boxes.length) && decide (o.boxes.length <= 6))
   else if o.kind = 11 then decide (o.boxes.length ≠ 1) else false)
def Ai {α:Type} (r:α->α->Bool):List α->Bool
 |[]=>true
 |[_]=>true
 |x::y::l=>r x y&&Ai r (y::l)
def Op.rowB (o:Op):Bool:=Ai Id.less o.past&&Ai (fun a b=>decide (a<b)) o.guards
def Op.chk (o:Op):Int:=
 if o.kind<1\/13<o.kind then 1 else if o.bareB=false then 1 else if o.numsB=false then 8 else if o.itemsB=false then 8 else if o.longB=true then 2 else if o.rowB=false then 6 else if decide (o.past=[])≠decide (o.kind=1) then 10 else 0
theorem chk_ok {o:Op}:o.chk=0<->(1<=o.kind/\o.kind<=13)/\o.bareB=true/\o.numsB=true/\o.itemsB=true/\o.longB=false/\o.rowB=true/\(o.past=[]<->o.kind=1):=by
 unfold Op.chk
 by_cases h1:o.kind<1\/13<o.kind
 · rw [if_pos h1];exact ⟨fun h=>absurd h (by decide),fun h=>absurd h.1 (by omega)⟩
 rw [if_neg h1]
 cases h2:o.bareB
 · simp
 cases h3:o.numsB
 · simp
 cases h4:o.itemsB
 · simp
 cases h5:o.longB
 ·
  cases h6:o.rowB
  · simp
  · by_cases h7:o.past=[]<;>by_cases h8:o.kind=1<;>simp [h7,h8]<;>omega
 · simp
theorem Da {l:List Id} (h:Row l):Ai Id.less l=true:=by
 induction l with
 |nil=>rfl
 |cons x l ih=>
  cases l with
  |nil=>rfl
  |cons y l=>
   have h':=List.pairwise_cons.1 h;show (Id.less x y&&Ai Id.less (y::l))=true;rw [h'.1 y (An6 ..),ih h'.2];rfl
def base (b s k a:Int) (past:List Id) (path:List Nd):Op:={Op.zero with by_:=b,sq:=s,kind:=k,at_:=a,past:=past,path:=path}
structure Pre (b s k a:Int) (past:List Id) (path:List Nd):Prop where
 kind:1<=k/\k<=13
 by_:1<=b/\b<=12
 sq:1<=s/\s<=2147483647
 at_:0<=a/\a<=2147483647
 past:past.length<=12/\(∀x∈past,x.named=true)/\Row past/\(past=[]<->k=1)
 path:path.length<=5/\(∀x∈path,(1<=x.p/\x.p<FP)/\x.xs.length<=12/\∀b∈x.xs,b.may=true)/\(path=[]\/Cl k=true)
section
variable {b s k a : Int} {past : List Id} {path : List Nd}
theorem Pre.path_any (h:Pre b s k a past path):path.any (fun x=>decide (12<x.xs.length))=false:=by
 rw [Ao1];intro x hx;have:=(h.path.2.1 x hx).2.1;simp;omega
theorem Pre.path_all (h:Pre b s k a past path):path.all (fun x=>Ar x.p&&x.xs.all Bx.may)=true:=by
 rw [Ao2];intro x hx;have h1:=(h.path.2.1 x hx).1;have h2:=(h.path.2.1 x hx).2.2;rw [An7,Ao2];exact ⟨by unfold Ar;simp;omega,h2⟩
theorem Pre.past_all (h:Pre b s k a past path):past.all Id.named=true:=List.all_eq_true.2 h.past.2.1
theorem Pre.no_path (h:Pre b s k a past path) (hk:Cl k=false):path=[]:=by
 rcases h.path.2.2 with e|e
 · exact e
 · rw [hk] at e;cases e
end
theorem Ao {n lo hi:Int} (h:lo<=n/\n<=hi):inR n lo hi=true:=by unfold inR;simp;exact h
theorem J4 {x:Id} (h1:1<=x.b/\x.b<=12) (h2:1<=x.s/\x.s<=2147483647) (h3:x.u<FP):x.named=true:=by
 unfold Id.named fOk;rw [Ao h1,Ao h2];simp [h3]
theorem J5 {n:Nat} (h:1<=n/\n<FP):Ar n=true:=by unfold Ar;simp;exact h
theorem J6 {b s a:Int} {past:List Id} {path:List Nd} (h:Pre b s 1 a past path) {v:Int} (hv:inR v 0 20=true):({base b s 1 a past path with need:=v}:Op).chk=0:=by
 have p1:=h.past_all;have p5:=h.past.1;have p6:=h.path.1;have b1:=Ao h.by_;have b2:=Ao h.sq;have b3:=Ao h.at_;have p7:=Da h.past.2.2.1;have p8:=h.past.2.2.2;have p2:=h.path_all;have p3:=h.path_any;rw [chk_ok];refine ⟨h.kind,?_,?_,?_,?_,?_,p8⟩
 · simp [Op.bareB,base,Op.zero,Id.eq,Id.zero,Cl]
 · simp [Op.numsB,base,Op.zero,b1,b2,b3,hv]
 · unfold Op.itemsB;simp only [base,Op.zero];rw [p1,p2];simp
 · unfold Op.longB;simp only [base,Op.zero];rw [p3];simp;and_intros<;>first|exact decide_eq_false (by omega)|exact decide_eq_true (by omega)|omega
 · simp [Op.rowB,base,Op.zero,p7,Ai]
theorem Ul {b s a:Int} {past:List Id} {path:List Nd} (h:Pre b s 2 a past path) {d r:Int} (hd:inR d 1 12=true) (hr:inR r 1 3=true):({base b s 2 a past path with dev:=d,role:=r}:Op).chk=0:=by
 have p1:=h.past_all;have p5:=h.past.1;have p6:=h.path.1;have b1:=Ao h.by_;have b2:=Ao h.sq;have b3:=Ao h.at_;have p7:=Da h.past.2.2.1;have p8:=h.past.2.2.2;have p2:=h.path_all;have p3:=h.path_any;rw [chk_ok];refine ⟨h.kind,?_,?_,?_,?_,?_,p8⟩
 · simp [Op.bareB,base,Op.zero,Id.eq,Id.zero,Cl]
 · simp [Op.numsB,base,Op.zero,b1,b2,b3,hd,hr]
 · unfold Op.itemsB;simp only [base,Op.zero];rw [p1,p2];simp
 · unfold Op.longB;simp only [base,Op.zero];rw [p3];simp;and_intros<;>first|exact decide_eq_false (by omega)|exact decide_eq_true (by omega)|omega
 · simp [Op.rowB,base,Op.zero,p7,Ai]
theorem Um {b s a:Int} {past:List Id} {path:List Nd} (h:Pre b s 3 a past path) {m:Int} (hm:inR m 1 8=true):({base b s 3 a past path with dev:=0,mem:=m}:Op).chk=0:=by
 have p1:=h.past_all;have p5:=h.past.1;have p6:=h.path.1;have b1:=Ao h.by_;have b2:=Ao h.sq;have b3:=Ao h.at_;have p7:=Da h.past.2.2.1;have p8:=h.past.2.2.2;have p2:=h.path_all;have p3:=h.path_any;rw [chk_ok];refine ⟨h.kind,?_,?_,?_,?_,?_,p8⟩
 · simp [Op.bareB,base,Op.zero,Id.eq,Id.zero,Cl]
 · simp [Op.numsB,base,Op.zero,b1,b2,b3,hm]
 · unfold Op.itemsB;simp only [base,Op.zero];rw [p1,p2];simp
 · unfold Op.longB;simp only [base,Op.zero];rw [p3];simp;and_intros<;>first|exact decide_eq_false (by omega)|exact decide_eq_true (by omega)|omega
 · simp [Op.rowB,base,Op.zero,p7,Ai]
theorem Un {b s a:Int} {past:List Id} {path:List Nd} (h:Pre b s 3 a past path) {d:Int} (hd:inR d 1 12=true):({base b s 3 a past path with dev:=d}:Op).chk=0:=by
 have p1:=h.past_all;have p5:=h.past.1;have p6:=h.path.1;have b1:=Ao h.by_;have b2:=Ao h.sq;have b3:=Ao h.at_;have p7:=Da h.past.2.2.1;have p8:=h.past.2.2.2;have p2:=h.path_all;have p3:=h.path_any;rw [chk_ok];refine ⟨h.kind,?_,?_,?_,?_,?_,p8⟩
 · simp [Op.bareB,base,Op.zero,Id.eq,Id.zero,Cl]
 · simp [Op.numsB,base,Op.zero,b1,b2,b3,hd]
 · unfold Op.itemsB;simp only [base,Op.zero];rw [p1,p2];simp
 · unfold Op.longB;simp only [base,Op.zero];rw [p3];simp;and_intros<;>first|exact decide_eq_false (by omega)|exact decide_eq_true (by omega)|omega
 · simp [Op.rowB,base,Op.zero,p7,Ai]
theorem Uo {b s a:Int} {past:List Id} {path:List Nd} (h:Pre b s 4 a past path)   :({base b s 4 a past path with need:=0}:Op).chk=0:=by
 have p1:=h.past_all;have p5:=h.past.1;have p6:=h.path.1;have b1:=Ao h.by_;have b2:=Ao h.sq;have b3:=Ao h.at_;have p7:=Da h.past.2.2.1;have p8:=h.past.2.2.2;have p2:=h.path_all;have p3:=h.path_any;rw [chk_ok];refine ⟨h.kind,?_,?_,?_,?_,?_,p8⟩
 · simp [Op.bareB,base,Op.zero,Id.eq,Id.zero,Cl]
 · simp [Op.numsB,base,Op.zero,b1,b2,b3]
 · unfold Op.itemsB;simp only [base,Op.zero];rw [p1,p2];simp
 · unfold Op.longB;simp only [base,Op.zero];rw [p3];simp;and_intros<;>first|exact decide_eq_false (by omega)|exact decide_eq_true (by omega)|omega
 · simp [Op.rowB,base,Op.zero,p7,Ai]
theorem Up {b s a:Int} {past:List Id} {path:List Nd} (h:Pre b s 5 a past path) {m r:Int} (hm:inR m 1 8=true) (hr:inR r 1 3=true):({base b s 5 a past path with mem:=m,role:=r}:Op).chk=0:=by
 have p1:=h.past_all;have p5:=h.past.1;have p6:=h.path.1;have b1:=Ao h.by_;have b2:=Ao h.sq;have b3:=Ao h.at_;have p7:=Da h.past.2.2.1;have p8:=h.past.2.2.2;obtain rfl:=h.no_path (by decide);rw [chk_ok];refine ⟨h.kind,?_,?_,?_,?_,?_,p8⟩
 · simp [Op.bareB,base,Op.zero,Id.eq,Id.zero]
 · simp [Op.numsB,base,Op.zero,b1,b2,b3,hm,hr]
 · unfold Op.itemsB;simp only [base,Op.zero];rw [p1];simp
 · unfold Op.longB;simp only [base,Op.zero];simp;and_intros<;>first|exact decide_eq_false (by omega)|exact decide_eq_true (by omega)|omega
 · simp [Op.rowB,base,Op.zero,p7,Ai]
theorem Uq {b s a:Int} {past:List Id} {path:List Nd} (h:Pre b s 6 a past path) {e:Id} {n:Int} {y:List UInt8} {rf:List Nat} (he:e.named=true) (hn:inR n 0 2147483647=true) (hy:y.length<=208) (hr:rf.length<=8) (hf:∀x∈rf,fOk x=true):({base b s 6 a past path with epoch:=e,n:=n,body:=y,refs:=rf}:Op).chk=0:=by
 have p1:=h.past_all;have p5:=h.past.1;have p6:=h.path.1;have b1:=Ao h.by_;have b2:=Ao h.sq;have b3:=Ao h.at_;have p7:=Da h.past.2.2.1;have p8:=h.past.2.2.2;obtain rfl:=h.no_path (by decide);rw [chk_ok];refine ⟨h.kind,?_,?_,?_,?_,?_,p8⟩
 · simp [Op.bareB,base,Op.zero,Id.eq,Id.zero]
 · simp [Op.numsB,base,Op.zero,b1,b2,b3,he,hn]
 · unfold Op.itemsB;simp only [base,Op.zero];rw [p1];simp;exact hf
 · unfold Op.longB;simp only [base,Op.zero];simp;and_intros<;>first|exact decide_eq_false (by omega)|exact decide_eq_true (by omega)|omega
 · simp [Op.rowB,base,Op.zero,p7,Ai]
theorem Ur {b s a:Int} {past:List Id} {path:List Nd} (h:Pre b s 7 a past path) {e:Id} {y:List UInt8} (he:e.named=true) (hy:1<=y.length/\y.length<=20):({base b s 7 a past path with of:=e,body:=y}:Op).chk=0:=by
 have p1:=h.past_all;have p5:=h.past.1;have p6:=h.path.1;have b1:=Ao h.by_;have b2:=Ao h.sq;have b3:=Ao h.at_;have p7:=Da h.past.2.2.1;have p8:=h.past.2.2.2;obtain rfl:=h.no_path (by decide);rw [chk_ok];refine ⟨h.kind,?_,?_,?_,?_,?_,p8⟩
 · simp [Op.bareB,base,Op.zero,Id.eq,Id.zero,Br]
 · simp [Op.numsB,base,Op.zero,b1,b2,b3,he]
 · unfold Op.itemsB;simp only [base,Op.zero];rw [p1];simp
 · unfold Op.longB;simp only [base,Op.zero];simp;and_intros<;>first|exact decide_eq_false (by omega)|exact decide_eq_true (by omega)|omega
 · simp [Op.rowB,base,Op.zero,p7,Ai]
theorem Us {b s a:Int} {past:List Id} {path:List Nd} (h:Pre b s 9 a past path) {gs:List Int} {n v:Int} {u:Nat} {bx:List Bx} (hg:gs.length<=6/\∀x∈gs,inR x 1 12=true) (hc:Ai (fun a b=>decide (a<b)) gs=true) (hn:inR n 1 gs.length=true) (hv:inR v 0 2147483647=true) (hu:Ar u=true) (hb:bx.length=gs.length/\∀x∈bx,x.may=true):({base b s 9 a past path with guards:=gs,need:=n,wait:=v,pub:=u,boxes:=bx}:Op).chk=0:=by
 have p1:=h.past_all;have p5:=h.past.1;have p6:=h.path.1;have b1:=Ao h.by_;have b2:=Ao h.sq;have b3:=Ao h.at_;have p7:=Da h.past.2.2.1;have p8:=h.past.2.2.2;obtain rfl:=h.no_path (by decide);rw [chk_ok];refine ⟨h.kind,?_,?_,?_,?_,?_,p8⟩
 · simp [Op.bareB,base,Op.zero,Id.eq,Id.zero]
 · simp [Op.numsB,base,Op.zero,b1,b2,b3,hn,hv,hu]
 · unfold Op.itemsB;simp only [base,Op.zero];rw [p1];simp;exact ⟨hg.2,hb.2⟩
 · unfold Op.longB;simp only [base,Op.zero];simp;and_intros<;>first|exact decide_eq_false (by omega)|exact decide_eq_true (by omega)|omega
 · simp [Op.rowB,base,Op.zero,p7,hc]
theorem Ut {b s a:Int} {past:List Id} {path:List Nd} (h:Pre b s 10 a past path) {e:Id} {bx:List Bx} (he:e.named=true) (hb:(1<=bx.length/\bx.length<=6)/\∀x∈bx,x.may=true):({base b s 10 a past path with of:=e,boxes:=bx}:Op).chk=0:=by
 have p1:=h.past_all;have p5:=h.past.1;have p6:=h.path.1;have b1:=Ao h.by_;have b2:=Ao h.sq;have b3:=Ao h.at_;have p7:=Da h.past.2.2.1;have p8:=h.past.2.2.2;obtain rfl:=h.no_path (by decide);rw [chk_ok];refine ⟨h.kind,?_,?_,?_,?_,?_,p8⟩
 · simp [Op.bareB,base,Op.zero,Id.eq,Id.zero,Br]
 · simp [Op.numsB,base,Op.zero,b1,b2,b3,he]
 · unfold Op.itemsB;simp only [base,Op.zero];rw [p1];simp;exact hb.2
 · unfold Op.longB;simp only [base,Op.zero];simp;and_intros<;>first|exact decide_eq_false (by omega)|exact decide_eq_true (by omega)|omega
 · simp [Op.rowB,base,Op.zero,p7,Ai]
theorem Uu {b s a:Int} {past:List Id} {path:List Nd} (h:Pre b s 11 a past path) {e:Id} {d:Int} {bx:List Bx} (he:e.named=true) (hd:inR d 1 12=true) (hb:bx.length=1/\∀x∈bx,x.may=true):({base b s 11 a past path with of:=e,dev:=d,boxes:=bx}:Op).chk=0:=by
 have p1:=h.past_all;have p5:=h.past.1;have p6:=h.path.1;have b1:=Ao h.by_;have b2:=Ao h.sq;have b3:=Ao h.at_;have p7:=Da h.past.2.2.1;have p8:=h.past.2.2.2;obtain rfl:=h.no_path (by decide);rw [chk_ok];refine ⟨h.kind,?_,?_,?_,?_,?_,p8⟩
 · simp [Op.bareB,base,Op.zero,Id.eq,Id.zero,Br]
 · simp [Op.numsB,base,Op.zero,b1,b2,b3,he,hd]
 · unfold Op.itemsB;simp only [base,Op.zero];rw [p1];simp;exact hb.2
 · unfold Op.longB;simp only [base,Op.zero];simp;and_intros<;>first|exact decide_eq_false (by omega)|exact decide_eq_true (by omega)|omega
 · simp [Op.rowB,base,Op.zero,p7,Ai]
theorem Uw {b s a:Int} {past:List Id} {path:List Nd} (h:Pre b s 13 a past path) {e:Id} {d f:Int} (he:e.named=true) (hd:inR d 1 12=true) (hf:inR f 1 12=true):({base b s 13 a past path with of:=e,dev:=d,old:=f}:Op).chk=0:=by
 have p1:=h.past_all;have p5:=h.past.1;have p6:=h.path.1;have b1:=Ao h.by_;have b2:=Ao h.sq;have b3:=Ao h.at_;have p7:=Da h.past.2.2.1;have p8:=h.past.2.2.2;have p2:=h.path_all;have p3:=h.path_any;rw [chk_ok];refine ⟨h.kind,?_,?_,?_,?_,?_,p8⟩
 · simp [Op.bareB,base,Op.zero,Id.eq,Id.zero,Cl,Br]
 · simp [Op.numsB,base,Op.zero,b1,b2,b3,he,hd,hf]
 · unfold Op.itemsB;simp only [base,Op.zero];rw [p1,p2];simp
 · unfold Op.longB;simp only [base,Op.zero];rw [p3];simp;and_intros<;>first|exact decide_eq_false (by omega)|exact decide_eq_true (by omega)|omega
 · simp [Op.rowB,base,Op.zero,p7,Ai]
theorem Nn {b s a:Int} {past:List Id} {path:List Nd} (h:Pre b s 8 a past path) {e:Id} (he:e.named=true):({base b s 8 a past path with of:=e}:Op).chk=0:=by
 have p1:=h.past_all;have p5:=h.past.1;have p6:=h.path.1;have b1:=Ao h.by_;have b2:=Ao h.sq;have b3:=Ao h.at_;have p7:=Da h.past.2.2.1;have p8:=h.past.2.2.2;obtain rfl:=h.no_path (by decide);rw [chk_ok];refine ⟨h.kind,?_,?_,?_,?_,?_,p8⟩
 · simp [Op.bareB,base,Op.zero,Id.eq,Id.zero,Br]
 · simp [Op.numsB,base,Op.zero,b1,b2,b3,he]
 · unfold Op.itemsB;simp only [base,Op.zero];rw [p1];simp
 · unfold Op.longB;simp only [base,Op.zero];simp;and_intros<;>first|exact decide_eq_false (by omega)|exact decide_eq_true (by omega)|omega
 · simp [Op.rowB,base,Op.zero,p7,Ai]
theorem Ux {b s a:Int} {past:List Id} {path:List Nd} (h:Pre b s 12 a past path) {e:Id} (he:e.named=true):({base b s 12 a past path with of:=e}:Op).chk=0:=by
 have p1:=h.past_all;have p5:=h.past.1;have p6:=h.path.1;have b1:=Ao h.by_;have b2:=Ao h.sq;have b3:=Ao h.at_;have p7:=Da h.past.2.2.1;have p8:=h.past.2.2.2;obtain rfl:=h.no_path (by decide);rw [chk_ok];refine ⟨h.kind,?_,?_,?_,?_,?_,p8⟩
 · simp [Op.bareB,base,Op.zero,Id.eq,Id.zero,Br]
 · simp [Op.numsB,base,Op.zero,b1,b2,b3,he]
 · unfold Op.itemsB;simp only [base,Op.zero];rw [p1];simp
 · unfold Op.longB;simp only [base,Op.zero];simp;and_intros<;>first|exact decide_eq_false (by omega)|exact decide_eq_true (by omega)|omega
 · simp [Op.rowB,base,Op.zero,p7,Ai]
theorem Uy {o:Op} (h:o.chk=0) (hk:o.kind=2\/o.kind=13) {l:List Sl} (hl:l.length<=20) (hm:∀x∈l,x.f.named=true/\x.y.length<=208):({o with hist:=l}:Op).chk=0:=by
 rw [chk_ok] at h ⊢;obtain ⟨h1,h2,h3,h4,h5,h6,h7⟩:=h;refine ⟨h1,?_,h3,?_,?_,h6,h7⟩
 ·
  unfold Op.bareB at h2 ⊢;rw [An7] at h2 ⊢;exact ⟨h2.1,by rcases hk with e|e<;>simp [e]⟩
 ·
  unfold Op.itemsB at h4 ⊢;rw [An7] at h4 ⊢;exact ⟨h4.1,List.all_eq_true.2 fun x hx=>(hm x hx).1⟩
 ·
  have e1:l.any (fun x=>decide (208<x.y.length))=false:=by
   rw [Ao1];intro x hx;have:=(hm x hx).2;simp;omega
  unfold Op.longB at h5 ⊢;simp only [Bool.or_eq_false_iff] at h5 ⊢;exact ⟨⟨⟨⟨⟨⟨⟨⟨h5.1.1.1.1.1.1.1.1,e1⟩,h5.1.1.1.1.1.1.2⟩,h5.1.1.1.1.1.2⟩,h5.1.1.1.1.2⟩,h5.1.1.1.2⟩,by simp;omega⟩,h5.1.2⟩,h5.2⟩
end Oq
namespace Oq
structure OpL.own (w:World) (base:Nat) (x:OpL):Prop where
 past:RowAt w base 38 3 x.pastA x.past.length x.pastC (x.past.flatMap Id.cells)
 path:RowAt w base 94 2 x.pathA x.path.length x.pathC (x.path.flatMap NdL.cells)
 nodes:∀y∈x.path,RowAt w base 148 4 y.A y.xs.length y.c (y.xs.flatMap Bx.cells)
 body:RowAt w base 5 1 x.bodyA x.body.length x.bodyC (x.body.map Bv)
 refs:RowAt w base 23 1 x.refsA x.refs.length x.refsC (x.refs.map Uv)
 guards:RowAt w base 3 1 x.guardsA x.guards.length x.guardsC (x.guards.map Iv)
 boxes:RowAt w base 148 4 x.boxesA x.boxes.length x.boxesC (x.boxes.flatMap Bx.cells)
 hist:RowAt w base 97 4 x.histA x.hist.length x.histC (x.hist.flatMap SlL.cells)
 seals:∀y∈x.hist,RowAt w base 5 1 y.A y.y.length y.c (y.y.map Bv)
theorem OpL.own.at {w:World} {base:Nat} {x:OpL} (h:x.own w base):x.at w w.heap.size where
 past:=h.past.sl
 path:=h.path.sl
 nodes y hy:=(h.nodes y hy).sl
 body:=h.body.sl
 refs:=h.refs.sl
 guards:=h.guards.sl
 boxes:=h.boxes.sl
 hist:=h.hist.sl
 seals y hy:=(h.seals y hy).sl
theorem RowAt.nil (w:World) (base:Nat) (t:TypeId) (size:Nat):RowAt w base t size none 0 0 []:=⟨SlAt.nil _ _ _,.inl rfl⟩
def OpL.zero:OpL:=
 {by_:=0,sq:=0,kind:=0,at_:=0,pastA:=none,pastC:=0,past:=[],dev:=0,old:=0,mem:=0,role:=0,pathA:=none,pathC:=0,path:=[],epoch:=⟨0,0,0⟩,n:=0,bodyA:=none,bodyC:=0,body:=[],refsA:=none,refsC:=0,refs:=[],of:=⟨0,0,0⟩,guardsA:=none,guardsC:=0,guards:=[],need:=0,wait:=0,boxesA:=none,boxesC:=0,boxes:=[],pub:=0,histA:=none,histC:=0,hist:=[],r:=0,s:=0}
theorem Uz {P:Program} {fn:Func} {p q:Tmp} {ty t:TypeId} {d:TypeDesc} {cs:Array Value} {g:Nat} {tmps:Array Value} {w:World} (h:fn.results=#[.cell p ty,.tmp q])
  (ha:tmps.getD p undef=.pointer (some ⟨g,0,none⟩)) (hb:Blk w g t cs) (hd:(match d with| .struct _| .array _ _=>true|_=>false)=true) (hu:P.underlying ty=some d)
  (hi:(P.info? ty).map (·.size)=some cs.size):(results fn tmps).run P w=.ok (.tuple #[.agg cs,tmps.getD q undef]) w:=by
 have hl:(loadVar ty ⟨g,0,none⟩).run P w=.ok (.agg cs) w:=run_loadVar_row (P:=P) w g t ty cs (0,0) d hb hu (by cases d<;>first|rfl|exact hd) hi
 unfold results;rw [h];have ha':tmps[p]?.getD undef=.pointer (some ⟨g,0,none⟩):=by simpa using ha
 simp [asAddr,ha',hl]
theorem Fo {P:Program} {fn:Func} {R:Ending->World->Prop} {p q:Tmp} {ty t:TypeId} {d:TypeDesc} {cs:Array Value} {g:Nat} {a:Act} {w:World} (h:fn.results=#[.cell p ty,.tmp q])
  (ha:a.tmps.getD p undef=.pointer (some ⟨g,0,none⟩)) (hb:Blk w g t cs) (hd:(match d with| .struct _| .array _ _=>true|_=>false)=true) (hu:P.underlying ty=some d)
  (hi:(P.info? ty).map (·.size)=some cs.size) (hdef:a.defers=[]) (hR:R (.returned (.tuple #[.agg cs,a.tmps.getD q undef])) w):bodyPost P fn R .ret a w:=
 bodyPost_ret (Uz h ha hb hd hu hi) hdef hR
theorem RowAt.keepT {S:Nat->Prop} {w w':World} {base size n c:Nat} {t:TypeId} {A:Option Addr} {xs:List Value} (h:RowAt w base t size A n c xs) (hf:Fr S w w') (hS:∀k cs fr,w.heap[k]? =some (.cells cs t fr)->¬S k):RowAt w' base t size A n c xs:=by
 refine h.fr hf (fun h0 k hk e=> ?_)
 rcases h.2 with hn|⟨k',cs',fr',rfl,_,hb',_⟩
 · exact h0 hn
 ·
  injection hk with hk
  subst hk;exact hS _ _ _ hb' e
def Types (S:Nat->Prop) (w:World) (P:TypeId->Prop):Prop:=∀k cs t fr,w.heap[k]? =some (.cells cs t fr)->S k->P t
theorem Types.not {S:Nat->Prop} {w:World} {P:TypeId->Prop} {t:TypeId} (h:Types S w P) (ht:¬P t):∀k cs fr,w.heap[k]? =some (.cells cs t fr)->¬S k:=fun k cs fr hk e=>ht (h k cs t fr hk e)
def Far (t:TypeId):Prop:=t=44\/t=87
theorem Types.one {w:World} {g:Nat} {t:TypeId} {cs:Array Value} (h:Blk w g t cs):Types (One g) w (fun t'=>t'=t):=fun k cs' t' fr hk e=>by
 have e':k=g:=e;subst e';unfold Blk at h;rw [hk] at h;injection h with h
 injection h with _ h _
theorem Types.row {w:World} {base size n c:Nat} {t:TypeId} {A:Option Addr} {xs:List Value} (h:Own w base t size A n c xs):Types (fun k=>Ab A=some k) w (fun t'=>t'=t):=fun k cs' t' fr hk e=>by
 rcases h.2 with ⟨hv,_⟩|⟨g,cap,cur,hv,_,hg,_⟩
 ·
  injection hv with hA _ _
  subst hA
  cases e
 ·
  injection hv with hA _ _
  subst hA;injection e with e
  subst e;rw [hk] at hg;injection hg with hg
  injection hg with _ h _
theorem Types.mono {S:Nat->Prop} {w:World} {P Q:TypeId->Prop} (h:Types S w P) (hp:∀t,P t->Q t):Types S w Q:=fun k cs t fr hk e=>hp t (h k cs t fr hk e)
theorem OpL.own.keep {S:Nat->Prop} {w w':World} {base:Nat} {x:OpL} (h:x.own w base) (hf:Fr S w w') (hS:Types S w Far):x.own w' base where
 past:=h.past.keepT hf (hS.not (by unfold Far;decide))
 path:=h.path.keepT hf (hS.not (by unfold Far;decide))
 nodes y hy:=(h.nodes y hy).keepT hf (hS.not (by unfold Far;decide))
 body:=h.body.keepT hf (hS.not (by unfold Far;decide))
 refs:=h.refs.keepT hf (hS.not (by unfold Far;decide))
 guards:=h.guards.keepT hf (hS.not (by unfold Far;decide))
 boxes:=h.boxes.keepT hf (hS.not (by unfold Far;decide))
 hist:=h.hist.keepT hf (hS.not (by unfold Far;decide))
 seals y hy:=(h.seals y hy).keepT hf (hS.not (by unfold Far;decide))
structure Gs (w0 w:World) (B g go:Nat) (L:List Int) (i:Nat) (x:OpL):Prop where
 blk:Blk w go 44 x.cells
 tk:Tk w B g L i
 own:x.own w B
 lo:w0.heap.size<=B/\g<go
 fr:Fr Non w0 w
section
variable {S : Nat -> Prop} {w0 w w' : World} {B g go i i' : Nat} {L : List Int} {x : OpL}
theorem Gs.step (h:Gs w0 w B g go L i x) (hf:Fr S w w') (ht:Tk w' B g L i') (hS:Types S w Far) (hn:¬S go) (hl:∀k,S k->w0.heap.size<=k):Gs w0 w' B g go L i' x:=
 ⟨h.blk.fr hf hn,ht,h.own.keep hf hS,h.lo,h.fr.trans hf (fun k hk e=>absurd hk (by have:=hl k e;omega))⟩
theorem Gs.one (h:Gs w0 w B g go L i x) (hf:Fr (One g) w w') (ht:Tk w' B g L i'):Gs w0 w' B g go L i' x:=by
 have htk:=h.tk;obtain ⟨_,_,hb,_⟩:=htk;have hlo:=h.lo;have hB:=h.tk.le;exact h.step hf ht ((Types.one hb).mono (fun t e=> .inr e)) (by unfold One;omega) (fun k e=>by have e':k=g:=e;omega)
theorem Gs.non (h:Gs w0 w B g go L i x) (hf:Fr Non w w'):Gs w0 w' B g go L i x:=
 h.step hf (h.tk.fr hf zq zr) (fun _ _ _ _ _ e=>e.elim) zq (fun _ e=>e.elim)
theorem Gs.alloc (h:Gs w0 w B g go L i x) (o:Obj):Gs w0 (w.alloc o) B g go L i x:=h.non ((Fr.refl _ _).alloc o)
theorem Gs.drew (h:Gs w0 w B g go L i x):Gs w0 w.drew B g go L i x:=h.non ((Fr.refl _ _).drew)
theorem Gs.drewN (h:Gs w0 w B g go L i x) (n:Nat):Gs w0 (w.drewN n) B g go L i x:=h.non ((Fr.refl _ _).drewN n)
theorem Gs.put (h:Gs w0 w B g go L i x) (j:Nat) (v:Value) (y:OpL) (hy:y.cells=x.cells.setIfInBounds j v) (ho:x.own (w.setCell ⟨go,j,none⟩ v) B->y.own (w.setCell ⟨go,j,none⟩ v) B):Gs w0 (w.setCell ⟨go,j,none⟩ v) B g go L i y:=by
 have hlo:=h.lo;have hf:=(Fr.refl (One go) w).setOne j v;have hB:=h.tk.le;exact ⟨hy▸h.blk.set j v,h.tk.fr hf (by unfold One;omega) (fun k hk e=>by have e':k=go:=e;omega),ho (h.own.keep hf ((Types.one h.blk).mono (fun t e=> .inl e))),h.lo,h.fr.trans hf (fun k hk e=>absurd hk (by have e':k=go:=e;omega))⟩
theorem Gs.dev (h:Gs w0 w B g go L i x) (v:Int):Gs w0 (w.setCell ⟨go,5,none⟩ (.int .i64 v)) B g go L i {x with dev:=v}:=h.put 5 _ _ rfl (fun o=>⟨o.past,o.path,o.nodes,o.body,o.refs,o.guards,o.boxes,o.hist,o.seals⟩)
theorem Gs.old (h:Gs w0 w B g go L i x) (v:Int):Gs w0 (w.setCell ⟨go,6,none⟩ (.int .i64 v)) B g go L i {x with old:=v}:=h.put 6 _ _ rfl (fun o=>⟨o.past,o.path,o.nodes,o.body,o.refs,o.guards,o.boxes,o.hist,o.seals⟩)
theorem Gs.mem (h:Gs w0 w B g go L i x) (v:Int):Gs w0 (w.setCell ⟨go,7,none⟩ (.int .i64 v)) B g go L i {x with mem:=v}:=h.put 7 _ _ rfl (fun o=>⟨o.past,o.path,o.nodes,o.body,o.refs,o.guards,o.boxes,o.hist,o.seals⟩)
theorem Gs.role (h:Gs w0 w B g go L i x) (v:Int):Gs w0 (w.setCell ⟨go,8,none⟩ (.int .i64 v)) B g go L i {x with role:=v}:=h.put 8 _ _ rfl (fun o=>⟨o.past,o.path,o.nodes,o.body,o.refs,o.guards,o.boxes,o.hist,o.seals⟩)
theorem Gs.n (h:Gs w0 w B g go L i x) (v:Int):Gs w0 (w.setCell ⟨go,13,none⟩ (.int .i64 v)) B g go L i {x with n:=v}:=h.put 13 _ _ rfl (fun o=>⟨o.past,o.path,o.nodes,o.body,o.refs,o.guards,o.boxes,o.hist,o.seals⟩)
theorem Gs.need (h:Gs w0 w B g go L i x) (v:Int):Gs w0 (w.setCell ⟨go,20,none⟩ (.int .i64 v)) B g go L i {x with need:=v}:=h.put 20 _ _ rfl (fun o=>⟨o.past,o.path,o.nodes,o.body,o.refs,o.guards,o.boxes,o.hist,o.seals⟩)
theorem Gs.wait (h:Gs w0 w B g go L i x) (v:Int):Gs w0 (w.setCell ⟨go,21,none⟩ (.int .i64 v)) B g go L i {x with wait:=v}:=h.put 21 _ _ rfl (fun o=>⟨o.past,o.path,o.nodes,o.body,o.refs,o.guards,o.boxes,o.hist,o.seals⟩)
theorem Gs.by_ (h:Gs w0 w B g go L i x) (v:Int):Gs w0 (w.setCell ⟨go,0,none⟩ (.int .i64 v)) B g go L i {x with by_:=v}:=h.put 0 _ _ rfl (fun o=>⟨o.past,o.path,o.nodes,o.body,o.refs,o.guards,o.boxes,o.hist,o.seals⟩)
theorem Gs.sq (h:Gs w0 w B g go L i x) (v:Int):Gs w0 (w.setCell ⟨go,1,none⟩ (.int .i64 v)) B g go L i {x with sq:=v}:=h.put 1 _ _ rfl (fun o=>⟨o.past,o.path,o.nodes,o.body,o.refs,o.guards,o.boxes,o.hist,o.seals⟩)
theorem Gs.kind (h:Gs w0 w B g go L i x) (v:Int):Gs w0 (w.setCell ⟨go,2,none⟩ (.int .i64 v)) B g go L i {x with kind:=v}:=h.put 2 _ _ rfl (fun o=>⟨o.past,o.path,o.nodes,o.body,o.refs,o.guards,o.boxes,o.hist,o.seals⟩)
theorem Gs.at_ (h:Gs w0 w B g go L i x) (v:Int):Gs w0 (w.setCell ⟨go,3,none⟩ (.int .i64 v)) B g go L i {x with at_:=v}:=h.put 3 _ _ rfl (fun o=>⟨o.past,o.path,o.nodes,o.body,o.refs,o.guards,o.boxes,o.hist,o.seals⟩)
theorem Gs.pub (h:Gs w0 w B g go L i x) (v:Nat):Gs w0 (w.setCell ⟨go,23,none⟩ (.int .u64 (v:Int))) B g go L i {x with pub:=v}:=h.put 23 _ _ rfl (fun o=>⟨o.past,o.path,o.nodes,o.body,o.refs,o.guards,o.boxes,o.hist,o.seals⟩)
theorem Gs.epoch (h:Gs w0 w B g go L i x) (y:Id):Gs w0 (((w.setCell ⟨go,10,none⟩ (.int .i64 y.b)).setCell ⟨go,11,none⟩ (.int .i64 y.s)).setCell ⟨go,12,none⟩ (.int .u64 (y.u:Int))) B g go L i {x with epoch:=y}:=
 ((h.put 10 (.int .i64 y.b) {x with epoch:=⟨y.b,x.epoch.s,x.epoch.u⟩} rfl (fun o=>⟨o.past,o.path,o.nodes,o.body,o.refs,o.guards,o.boxes,o.hist,o.seals⟩)).put 11 (.int .i64 y.s) {x with epoch:=⟨y.b,y.s,x.epoch.u⟩} rfl (fun o=>⟨o.past,o.path,o.nodes,o.body,o.refs,o.guards,o.boxes,o.hist,o.seals⟩)).put 12 (.int .u64 (y.u:Int)) {x with epoch:=y} rfl (fun o=>⟨o.past,o.path,o.nodes,o.body,o.refs,o.guards,o.boxes,o.hist,o.seals⟩)
theorem Gs.of (h:Gs w0 w B g go L i x) (y:Id):Gs w0 (((w.setCell ⟨go,16,none⟩ (.int .i64 y.b)).setCell ⟨go,17,none⟩ (.int .i64 y.s)).setCell ⟨go,18,none⟩ (.int .u64 (y.u:Int))) B g go L i {x with of:=y}:=
 ((h.put 16 (.int .i64 y.b) {x with of:=⟨y.b,x.of.s,x.of.u⟩} rfl (fun o=>⟨o.past,o.path,o.nodes,o.body,o.refs,o.guards,o.boxes,o.hist,o.seals⟩)).put 17 (.int .i64 y.s) {x with of:=⟨y.b,y.s,x.of.u⟩} rfl (fun o=>⟨o.past,o.path,o.nodes,o.body,o.refs,o.guards,o.boxes,o.hist,o.seals⟩)).put 18 (.int .u64 (y.u:Int)) {x with of:=y} rfl (fun o=>⟨o.past,o.path,o.nodes,o.body,o.refs,o.guards,o.boxes,o.hist,o.seals⟩)
theorem Gs.past (h:Gs w0 w B g go L i x) (l:List Id) (A:Option Addr) (n c:Nat) (hl:l.length=n) (hr:RowAt w B 38 3 A n c (l.flatMap Id.cells)):Gs w0 (w.setCell ⟨go,4,none⟩ (.slice A n c)) B g go L i {x with pastA:=A,pastC:=c,past:=l}:=by
 subst hl;have hf:=(Fr.refl (One go) w).setOne 4 (.slice A l.length c);have ht:=Types.one h.blk;exact h.put 4 _ _ rfl (fun o=>⟨hr.keepT hf (ht.not (by decide)),o.path,o.nodes,o.body,o.refs,o.guards,o.boxes,o.hist,o.seals⟩)
theorem Gs.body (h:Gs w0 w B g go L i x) (l:List UInt8) (A:Option Addr) (n c:Nat) (hl:l.length=n) (hr:RowAt w B 5 1 A n c (l.map Bv)):Gs w0 (w.setCell ⟨go,14,none⟩ (.slice A n c)) B g go L i {x with bodyA:=A,bodyC:=c,body:=l}:=by
 subst hl;have hf:=(Fr.refl (One go) w).setOne 14 (.slice A l.length c);have ht:=Types.one h.blk;exact h.put 14 _ _ rfl (fun o=>⟨o.past,o.path,o.nodes,hr.keepT hf (ht.not (by decide)),o.refs,o.guards,o.boxes,o.hist,o.seals⟩)
theorem Gs.refs (h:Gs w0 w B g go L i x) (l:List Nat) (A:Option Addr) (n c:Nat) (hl:l.length=n) (hr:RowAt w B 23 1 A n c (l.map Uv)):Gs w0 (w.setCell ⟨go,15,none⟩ (.slice A n c)) B g go L i {x with refsA:=A,refsC:=c,refs:=l}:=by
 subst hl;have hf:=(Fr.refl (One go) w).setOne 15 (.slice A l.length c);have ht:=Types.one h.blk;exact h.put 15 _ _ rfl (fun o=>⟨o.past,o.path,o.nodes,o.body,hr.keepT hf (ht.not (by decide)),o.guards,o.boxes,o.hist,o.seals⟩)
theorem Gs.guards (h:Gs w0 w B g go L i x) (l:List Int) (A:Option Addr) (n c:Nat) (hl:l.length=n) (hr:RowAt w B 3 1 A n c (l.map Iv)):Gs w0 (w.setCell ⟨go,19,none⟩ (.slice A n c)) B g go L i {x with guardsA:=A,guardsC:=c,guards:=l}:=by
 subst hl;have hf:=(Fr.refl (One go) w).setOne 19 (.slice A l.length c);have ht:=Types.one h.blk;exact h.put 19 _ _ rfl (fun o=>⟨o.past,o.path,o.nodes,o.body,o.refs,hr.keepT hf (ht.not (by decide)),o.boxes,o.hist,o.seals⟩)
theorem Gs.boxes (h:Gs w0 w B g go L i x) (l:List Bx) (A:Option Addr) (n c:Nat) (hl:l.length=n) (hr:RowAt w B 148 4 A n c (l.flatMap Bx.cells)):Gs w0 (w.setCell ⟨go,22,none⟩ (.slice A n c)) B g go L i {x with boxesA:=A,boxesC:=c,boxes:=l}:=by
 subst hl;have hf:=(Fr.refl (One go) w).setOne 22 (.slice A l.length c);have ht:=Types.one h.blk;exact h.put 22 _ _ rfl (fun o=>⟨o.past,o.path,o.nodes,o.body,o.refs,o.guards,hr.keepT hf (ht.not (by decide)),o.hist,o.seals⟩)
theorem Gs.path (h:Gs w0 w B g go L i x) (l:List NdL) (A:Option Addr) (n c:Nat) (hl:l.length=n) (hr:RowAt w B 94 2 A n c (l.flatMap NdL.cells)) (hn:∀y∈l,RowAt w B 148 4 y.A y.xs.length y.c (y.xs.flatMap Bx.cells)):Gs w0 (w.setCell ⟨go,9,none⟩ (.slice A n c)) B g go L i {x with pathA:=A,pathC:=c,path:=l}:=by
 subst hl;have hf:=(Fr.refl (One go) w).setOne 9 (.slice A l.length c);have ht:=Types.one h.blk;exact h.put 9 _ _ rfl (fun o=>⟨o.past,hr.keepT hf (ht.not (by decide)),fun y hy=>(hn y hy).keepT hf (ht.not (by decide)),o.body,o.refs,o.guards,o.boxes,o.hist,o.seals⟩)
theorem Gs.hist (h:Gs w0 w B g go L i x) (l:List SlL) (A:Option Addr) (n c:Nat) (hl:l.length=n) (hr:RowAt w B 97 4 A n c (l.flatMap SlL.cells)) (hn:∀y∈l,RowAt w B 5 1 y.A y.y.length y.c (y.y.map Bv)):Gs w0 (w.setCell ⟨go,24,none⟩ (.slice A n c)) B g go L i {x with histA:=A,histC:=c,hist:=l}:=by
 subst hl;have hf:=(Fr.refl (One go) w).setOne 24 (.slice A l.length c);have ht:=Types.one h.blk;exact h.put 24 _ _ rfl (fun o=>⟨o.past,o.path,o.nodes,o.body,o.refs,o.guards,o.boxes,hr.keepT hf (ht.not (by decide)),fun y hy=>(hn y hy).keepT hf (ht.not (by decide))⟩)
theorem Gs.past_app {w2:World} (h:Gs w0 w B g go L i x) {n0 c0:Nat} {A0:Option Addr} {v0:List Value} (own1:Own w B 38 3 A0 n0 c0 v0) (hf:Fr (fun k=>Ab A0=some k) w w2) (l:List Id) (A:Option Addr) (n c:Nat) (hl:l.length=n) (own2:Own w2 B 38 3 A n c (l.flatMap Id.cells)):Gs w0 (w2.setCell ⟨go,4,none⟩ (.slice A n c)) B g go L i {x with pastA:=A,pastC:=c,past:=l}:=by
 subst hl;have hlo:=h.lo;have hB:=h.tk.le;have ht:=Types.row own1;have hrow:∀k,Ab A0=some k->B<=k:=fun k hk=>(own1.row k hk).1;have hgo:¬Ab A0=some go:=own1.ne h.blk (by decide);have htk:=h.tk;obtain ⟨_,_,hbt,_⟩:=htk;have hg:¬Ab A0=some g:=own1.ne hbt (by decide);have hb2:=h.blk.fr hf hgo;have hbs:∀k,k<B->¬Ab A0=some k:=fun k hk e=>by have:=hrow k e;omega
 have hf2:=(Fr.refl (One go) w2).setOne 4 (.slice A l.length c);have ht2:=Types.one hb2;have hr:=RowAt.of_own own2;exact ⟨hb2.set 4 _,(h.tk.fr hf hg hbs).fr hf2 (by unfold One;omega) (fun k hk e=>by have e':k=go:=e;omega),⟨hr.keepT hf2 (ht2.not (by decide)),(h.own.path.keepT hf (ht.not (by decide))).keepT hf2 (ht2.not (by decide)),fun y hy=>((h.own.nodes y hy).keepT hf (ht.not (by decide))).keepT hf2 (ht2.not (by decide)),(h.own.body.keepT hf (ht.not (by decide))).keepT hf2 (ht2.not (by decide)),(h.own.refs.keepT hf (ht.not (by decide))).keepT hf2 (ht2.not (by decide)),(h.own.guards.keepT hf (ht.not (by decide))).keepT hf2 (ht2.not (by decide)),(h.own.boxes.keepT hf (ht.not (by decide))).keepT hf2 (ht2.not (by decide)),(h.own.hist.keepT hf (ht.not (by decide))).keepT hf2 (ht2.not (by decide)),fun y hy=>((h.own.seals y hy).keepT hf (ht.not (by decide))).keepT hf2 (ht2.not (by decide))⟩,h.lo,(h.fr.trans hf (fun k hk e=>absurd hk (by have:=hrow k e;omega))).trans hf2 (fun k hk e=>absurd hk (by have e':k=go:=e;omega))⟩
theorem Gs.path_app {w2:World} (h:Gs w0 w B g go L i x) {n0 c0:Nat} {A0:Option Addr} {v0:List Value} (own1:Own w B 94 2 A0 n0 c0 v0) (hf:Fr (fun k=>Ab A0=some k) w w2) (l:List NdL) (A:Option Addr) (n c:Nat) (hl:l.length=n) (own2:Own w2 B 94 2 A n c (l.flatMap NdL.cells)) (hn:∀y∈l,RowAt w B 148 4 y.A y.xs.length y.c (y.xs.flatMap Bx.cells)):Gs w0 (w2.setCell ⟨go,9,none⟩ (.slice A n c)) B g go L i {x with pathA:=A,pathC:=c,path:=l}:=by
 subst hl;have hlo:=h.lo;have hB:=h.tk.le;have ht:=Types.row own1;have hrow:∀k,Ab A0=some k->B<=k:=fun k hk=>(own1.row k hk).1;have hgo:¬Ab A0=some go:=own1.ne h.blk (by decide);have htk:=h.tk;obtain ⟨_,_,hbt,_⟩:=htk;have hg:¬Ab A0=some g:=own1.ne hbt (by decide);have hb2:=h.blk.fr hf hgo;have hbs:∀k,k<B->¬Ab A0=some k:=fun k hk e=>by have:=hrow k e;omega
 have hf2:=(Fr.refl (One go) w2).setOne 9 (.slice A l.length c);have ht2:=Types.one hb2;have hr:=RowAt.of_own own2;exact ⟨hb2.set 9 _,(h.tk.fr hf hg hbs).fr hf2 (by unfold One;omega) (fun k hk e=>by have e':k=go:=e;omega),⟨(h.own.past.keepT hf (ht.not (by decide))).keepT hf2 (ht2.not (by decide)),hr.keepT hf2 (ht2.not (by decide)),fun y hy=>((hn y hy).keepT hf (ht.not (by decide))).keepT hf2 (ht2.not (by decide)),(h.own.body.keepT hf (ht.not (by decide))).keepT hf2 (ht2.not (by decide)),(h.own.refs.keepT hf (ht.not (by decide))).keepT hf2 (ht2.not (by decide)),(h.own.guards.keepT hf (ht.not (by decide))).keepT hf2 (ht2.not (by decide)),(h.own.boxes.keepT hf (ht.not (by decide))).keepT hf2 (ht2.not (by decide)),(h.own.hist.keepT hf (ht.not (by decide))).keepT hf2 (ht2.not (by decide)),fun y hy=>((h.own.seals y hy).keepT hf (ht.not (by decide))).keepT hf2 (ht2.not (by decide))⟩,h.lo,(h.fr.trans hf (fun k hk e=>absurd hk (by have:=hrow k e;omega))).trans hf2 (fun k hk e=>absurd hk (by have e':k=go:=e;omega))⟩
theorem Gs.refs_app {w2:World} (h:Gs w0 w B g go L i x) {n0 c0:Nat} {A0:Option Addr} {v0:List Value} (own1:Own w B 23 1 A0 n0 c0 v0) (hf:Fr (fun k=>Ab A0=some k) w w2) (l:List Nat) (A:Option Addr) (n c:Nat) (hl:l.length=n) (own2:Own w2 B 23 1 A n c (l.map Uv)):Gs w0 (w2.setCell ⟨go,15,none⟩ (.slice A n c)) B g go L i {x with refsA:=A,refsC:=c,refs:=l}:=by
 subst hl;have hlo:=h.lo;have hB:=h.tk.le;have ht:=Types.row own1;have hrow:∀k,Ab A0=some k->B<=k:=fun k hk=>(own1.row k hk).1;have hgo:¬Ab A0=some go:=own1.ne h.blk (by decide);have htk:=h.tk;obtain ⟨_,_,hbt,_⟩:=htk;have hg:¬Ab A0=some g:=own1.ne hbt (by decide);have hb2:=h.blk.fr hf hgo;have hbs:∀k,k<B->¬Ab A0=some k:=fun k hk e=>by have:=hrow k e;omega
 have hf2:=(Fr.refl (One go) w2).setOne 15 (.slice A l.length c);have ht2:=Types.one hb2;have hr:=RowAt.of_own own2;exact ⟨hb2.set 15 _,(h.tk.fr hf hg hbs).fr hf2 (by unfold One;omega) (fun k hk e=>by have e':k=go:=e;omega),⟨(h.own.past.keepT hf (ht.not (by decide))).keepT hf2 (ht2.not (by decide)),(h.own.path.keepT hf (ht.not (by decide))).keepT hf2 (ht2.not (by decide)),fun y hy=>((h.own.nodes y hy).keepT hf (ht.not (by decide))).keepT hf2 (ht2.not (by decide)),(h.own.body.keepT hf (ht.not (by decide))).keepT hf2 (ht2.not (by decide)),hr.keepT hf2 (ht2.not (by decide)),(h.own.guards.keepT hf (ht.not (by decide))).keepT hf2 (ht2.not (by decide)),(h.own.boxes.keepT hf (ht.not (by decide))).keepT hf2 (ht2.not (by decide)),(h.own.hist.keepT hf (ht.not (by decide))).keepT hf2 (ht2.not (by decide)),fun y hy=>((h.own.seals y hy).keepT hf (ht.not (by decide))).keepT hf2 (ht2.not (by decide))⟩,h.lo,(h.fr.trans hf (fun k hk e=>absurd hk (by have:=hrow k e;omega))).trans hf2 (fun k hk e=>absurd hk (by have e':k=go:=e;omega))⟩
theorem Gs.guards_app {w2:World} (h:Gs w0 w B g go L i x) {n0 c0:Nat} {A0:Option Addr} {v0:List Value} (own1:Own w B 3 1 A0 n0 c0 v0) (hf:Fr (fun k=>Ab A0=some k) w w2) (l:List Int) (A:Option Addr) (n c:Nat) (hl:l.length=n) (own2:Own w2 B 3 1 A n c (l.map Iv)):Gs w0 (w2.setCell ⟨go,19,none⟩ (.slice A n c)) B g go L i {x with guardsA:=A,guardsC:=c,guards:=l}:=by
 subst hl;have hlo:=h.lo;have hB:=h.tk.le;have ht:=Types.row own1;have hrow:∀k,Ab A0=some k->B<=k:=fun k hk=>(own1.row k hk).1;have hgo:¬Ab A0=some go:=own1.ne h.blk (by decide);have htk:=h.tk;obtain ⟨_,_,hbt,_⟩:=htk;have hg:¬Ab A0=some g:=own1.ne hbt (by decide);have hb2:=h.blk.fr hf hgo;have hbs:∀k,k<B->¬Ab A0=some k:=fun k hk e=>by have:=hrow k e;omega
 have hf2:=(Fr.refl (One go) w2).setOne 19 (.slice A l.length c);have ht2:=Types.one hb2;have hr:=RowAt.of_own own2;exact ⟨hb2.set 19 _,(h.tk.fr hf hg hbs).fr hf2 (by unfold One;omega) (fun k hk e=>by have e':k=go:=e;omega),⟨(h.own.past.keepT hf (ht.not (by decide))).keepT hf2 (ht2.not (by decide)),(h.own.path.keepT hf (ht.not (by decide))).keepT hf2 (ht2.not (by decide)),fun y hy=>((h.own.nodes y hy).keepT hf (ht.not (by decide))).keepT hf2 (ht2.not (by decide)),(h.own.body.keepT hf (ht.not (by decide))).keepT hf2 (ht2.not (by decide)),(h.own.refs.keepT hf (ht.not (by decide))).keepT hf2 (ht2.not (by decide)),hr.keepT hf2 (ht2.not (by decide)),(h.own.boxes.keepT hf (ht.not (by decide))).keepT hf2 (ht2.not (by decide)),(h.own.hist.keepT hf (ht.not (by decide))).keepT hf2 (ht2.not (by decide)),fun y hy=>((h.own.seals y hy).keepT hf (ht.not (by decide))).keepT hf2 (ht2.not (by decide))⟩,h.lo,(h.fr.trans hf (fun k hk e=>absurd hk (by have:=hrow k e;omega))).trans hf2 (fun k hk e=>absurd hk (by have e':k=go:=e;omega))⟩
theorem Gs.hist_app {w2:World} (h:Gs w0 w B g go L i x) {n0 c0:Nat} {A0:Option Addr} {v0:List Value} (own1:Own w B 97 4 A0 n0 c0 v0) (hf:Fr (fun k=>Ab A0=some k) w w2) (l:List SlL) (A:Option Addr) (n c:Nat) (hl:l.length=n) (own2:Own w2 B 97 4 A n c (l.flatMap SlL.cells)) (hn:∀y∈l,RowAt w B 5 1 y.A y.y.length y.c (y.y.map Bv)):Gs w0 (w2.setCell ⟨go,24,none⟩ (.slice A n c)) B g go L i {x with histA:=A,histC:=c,hist:=l}:=by
 subst hl;have hlo:=h.lo;have hB:=h.tk.le;have ht:=Types.row own1;have hrow:∀k,Ab A0=some k->B<=k:=fun k hk=>(own1.row k hk).1;have hgo:¬Ab A0=some go:=own1.ne h.blk (by decide);have htk:=h.tk;obtain ⟨_,_,hbt,_⟩:=htk;have hg:¬Ab A0=some g:=own1.ne hbt (by decide);have hb2:=h.blk.fr hf hgo;have hbs:∀k,k<B->¬Ab A0=some k:=fun k hk e=>by have:=hrow k e;omega
 have hf2:=(Fr.refl (One go) w2).setOne 24 (.slice A l.length c);have ht2:=Types.one hb2;have hr:=RowAt.of_own own2;exact ⟨hb2.set 24 _,(h.tk.fr hf hg hbs).fr hf2 (by unfold One;omega) (fun k hk e=>by have e':k=go:=e;omega),⟨(h.own.past.keepT hf (ht.not (by decide))).keepT hf2 (ht2.not (by decide)),(h.own.path.keepT hf (ht.not (by decide))).keepT hf2 (ht2.not (by decide)),fun y hy=>((h.own.nodes y hy).keepT hf (ht.not (by decide))).keepT hf2 (ht2.not (by decide)),(h.own.body.keepT hf (ht.not (by decide))).keepT hf2 (ht2.not (by decide)),(h.own.refs.keepT hf (ht.not (by decide))).keepT hf2 (ht2.not (by decide)),(h.own.guards.keepT hf (ht.not (by decide))).keepT hf2 (ht2.not (by decide)),(h.own.boxes.keepT hf (ht.not (by decide))).keepT hf2 (ht2.not (by decide)),hr.keepT hf2 (ht2.not (by decide)),fun y hy=>((hn y hy).keepT hf (ht.not (by decide))).keepT hf2 (ht2.not (by decide))⟩,h.lo,(h.fr.trans hf (fun k hk e=>absurd hk (by have:=hrow k e;omega))).trans hf2 (fun k hk e=>absurd hk (by have e':k=go:=e;omega))⟩
end
end Oq
namespace Oq
structure Ag where
 x:OpL
 id:Id
 a0:Nat
 a1:Nat
 a2:Nat
 a3:Nat
 lev:Nat
def Ag.ws (n:Ag):List Nat:=[n.a0,n.a1,n.a2,n.a3]
def Ag.cells (n:Ag):List Value:=n.x.cells.toList++[.int .i64 n.id.b,.int .i64 n.id.s,.int .u64 (n.id.u:Int),.int .u64 (n.a0:Int),.int .u64 (n.a1:Int),.int .u64 (n.a2:Int),.int .u64 (n.a3:Int),.int .i64 (n.lev:Int)]
theorem Ag.len (n:Ag):n.cells.length=35:=rfl
def Ag.past (n:Ag) (k:Nat):Bool:=(n.ws.getD (k/64) 0).testBit (k%64)
structure Gph where
 gb:Nat
 mb:Nat
 mm:Nat
 cA:Option Addr
 cC:Nat
 cards:List Cd
 nA:Option Addr
 nC:Nat
 nodes:List Ag
def Af (l:List Ag) (id:Id):Option Nat:=l.findIdx? (fun n=>decide (n.id=id))
theorem Fp {l:List Ag} {id:Id} {i:Nat} (h:Af l id=some i):∃n,l[i]? =some n/\n.id=id:=by
 obtain ⟨hi,h1,_⟩:=List.findIdx?_eq_some_iff_getElem.1 h;exact ⟨l[i],An4 hi,by simpa using h1⟩
structure Ag.okAt (w:World) (base:Nat) (n:Ag):Prop where
 own:n.x.own w base
 ok:n.x.op.ok
 id:n.id.ok
 set:Aq n.ws n.past
theorem Ag.okAt.at_ {w:World} {base:Nat} {n:Ag} (h:n.okAt w base):n.x.at w w.heap.size:=h.own.at
theorem RowAt.non {w w':World} {base size n c:Nat} {t:TypeId} {A:Option Addr} {xs:List Value} (h:RowAt w base t size A n c xs) (hf:Fr Non w w'):RowAt w' base t size A n c xs:=h.fr hf (fun _ _ _ e=>e)
theorem OpL.own.keepP {S:Nat->Prop} {P:TypeId->Prop} {w w':World} {base:Nat} {x:OpL} (h:x.own w base) (hf:Fr S w w') (hS:Types S w P) (h1:¬P 38) (h2:¬P 94) (h3:¬P 148) (h4:¬P 5) (h5:¬P 23) (h6:¬P 3) (h7:¬P 97):x.own w' base where
 past:=h.past.keepT hf (hS.not h1)
 path:=h.path.keepT hf (hS.not h2)
 nodes y hy:=(h.nodes y hy).keepT hf (hS.not h3)
 body:=h.body.keepT hf (hS.not h4)
 refs:=h.refs.keepT hf (hS.not h5)
 guards:=h.guards.keepT hf (hS.not h6)
 boxes:=h.boxes.keepT hf (hS.not h3)
 hist:=h.hist.keepT hf (hS.not h7)
 seals y hy:=(h.seals y hy).keepT hf (hS.not h4)
theorem OpL.own.non {w w':World} {base:Nat} {x:OpL} (h:x.own w base) (hf:Fr Non w w'):x.own w' base:=
 h.keepP (P:=fun _=>False) hf (fun _ _ _ _ _ e=>e.elim) zq zq zq zq zq zq zq
structure GAt (w:World) (base:Nat) (g:Gph):Prop where
 blk:Blk w g.gb 119 #[.slice g.cA g.cards.length g.cC,.map (some g.mb),.slice g.nA g.nodes.length g.nC]
 pos:0<base
 gbase:base<=g.gb
 mbase:base<=g.mb
 crow:Own w base 104 5 g.cA g.cards.length g.cC (g.cards.flatMap Cd.cells)
 own:Own w base 114 35 g.nA g.nodes.length g.nC (g.nodes.flatMap Ag.cells)
 few:g.nodes.length<=200
 mfew:g.mm<=g.nodes.length
 levs:∀n∈g.nodes,n.lev<=g.nodes.length
 cfew:g.cards.length<=1000000
 cok:∀c∈g.cards,c.s<18446744073709551616
 map:MapAt w g.mb g.mm (Af g.nodes)
 node:∀n∈g.nodes,n.okAt w base
def Gph.own (g:Gph):Nat->Prop:=fun k=>k=g.gb\/k=g.mb\/Ab g.nA=some k
theorem GAt.fr {w w':World} {base:Nat} {g:Gph} (h:GAt w base g) (hf:Fr Non w w'):GAt w' base g where
 blk:=h.blk.fr hf zq
 pos:=h.pos
 gbase:=h.gbase
 mbase:=h.mbase
 crow:=h.crow.fr hf zr
 own:=h.own.fr hf zr
 few:=h.few
 mfew:=h.mfew
 levs:=h.levs
 cfew:=h.cfew
 cok:=h.cok
 map:=h.map.fr hf zq
 node:=fun n hn=>by
  have k:=h.node n hn;exact ⟨k.own.non hf,k.ok,k.id,k.set⟩
theorem GAt.cards {w:World} {base:Nat} {g:Gph} (h:GAt w base g):Rd w w.heap.size 5 g.cA g.cards.length (g.cards.flatMap Cd.cells):=h.crow.rd
theorem GAt.later {S:Nat->Prop} {w w':World} {base:Nat} {g:Gph} (h:GAt w base g) (hf:Fr S w w') (hS:∀k,k<w.heap.size->¬S k):GAt w' base g:=h.fr (hf.mono (fun k hk e=>hS k hk e))
theorem GAt.cell {w:World} {base:Nat} {g:Gph} (h:GAt w base g) {i:Nat} {n:Ag} (hi:g.nodes[i]? =some n):
  ∃b off,g.nA=some ⟨b,off,none⟩/\b<w.heap.size/\∀j,j<35->∀u,n.cells[j]? =some u->w.cell? ⟨b,off+i*35+j,none⟩=some u:=
 Eu (f:=Ag.cells) (fun _=>rfl) (by omega) h.own.rd hi
end Oq
namespace Oq
attribute [local go_sem] Bool.not_false Bool.not_true
theorem Np (base:Nat) (g:Gph) (w:World) (hg:GAt w base g):Calls zp 18 #[.pointer (some ⟨g.gb,0,none⟩)] w fun e w'=>e=.returned (.int .i64 (g.nodes.length:Int))/\w=w':=by
 have c2:cS w g.gb 2 g.nA g.nodes.length g.nC:=hg.blk.cell 2;generalize g.nodes.length=n at*;clear hg;go_enter func18,ntmps18;go_wp2
 go_ret
 exact ⟨rfl,rfl⟩
def Gph.level (g:Gph) (id:Id):Nat:=match Af g.nodes id with|some i=>(g.nodes[i]?.map Ag.lev).getD 0|none=>0
theorem U0 (base:Nat) (g:Gph) (id:Id) (w:World) (hg:GAt w base g) (hid:id.ok):Calls zp 72 #[.pointer (some ⟨g.gb,0,none⟩),.agg id.V] w fun e w'=>e=.returned (.int .i64 (g.level id:Int))/\GrowOf w w':=by
 have f0:GrowOf w (w.alloc (.cells id.V 38)):=(GrowOf.refl w).alloc _;have hb:=Blk.new w 38 id.V;have i0:cI (w.alloc (.cells id.V 38)) w.heap.size 0 id.b:=hb.cell 0;have i1:cI (w.alloc (.cells id.V 38)) w.heap.size 1 id.s:=hb.cell 1;have i2:cU (w.alloc (.cells id.V 38)) w.heap.size 2 id.u:=hb.cell 2;have ac:=hg.fr f0.fr;have c1:(w.alloc (.cells id.V 38)).cell? ⟨g.gb,1,none⟩=some (.map (some g.mb)):=ac.blk.cell 1;have c2:cS (w.alloc (.cells id.V 38)) g.gb 2 g.nA g.nodes.length g.nC:=ac.blk.cell 2;have aa:=ac.map;have ab:=fun (w':World) (h:MapAt w' g.mb g.mm (Af g.nodes))=>MapAt.look h id hid;have ad:Hid (g.level id=match Af g.nodes id with|some i=>(g.nodes[i]?.map Ag.lev).getD 0|none=>0):=rfl;have al:Hid (∀i,Af g.nodes id=some i->∃n,g.nodes[i]? =some n):=fun i hi=>by obtain ⟨n,h1,_⟩:=Fp hi;exact ⟨n,h1⟩
 have ah:=lh (fun (i:Nat) (n:Ag) (hi:g.nodes[i]? =some n)=>ac.cell hi);generalize g.level id=lv at*
 cases hp:Af g.nodes id
 focus
  have hv:Hid (0=lv):=by show _=_;rw [ad.out,hp]
  rw [hp] at ab;clear hg ac hb ad hp;go_enter func72,ntmps72;go_wp2_with fail;generalize hw0:w.alloc (.cells id.V 38)=w0 at*;clear hw0;refine wp_region_held_drew (S:=(fun w'=>cI w' w.heap.size 0 id.b/\cI w' w.heap.size 1 id.s/\cU w' w.heap.size 2 id.u/\w'.cell? ⟨g.gb,1,none⟩=some (.map (some g.mb))/\MapAt w' g.mb g.mm (Af g.nodes))) (by kernel_rfl) ⟨i0,i1,i2,c1,aa⟩ (fun hS=> ?_);replace f0:=f0.drew
 rotate_left
 focus
  rename_i i;obtain ⟨n,hn,_⟩:=Fp hp;have hv:Hid (n.lev=lv):=by show _=_;rw [ad.out,hp];simp [hn]
  have ak:=hg.few;have aj:i<g.nodes.length:=(List.getElem?_eq_some_iff.1 hn).1;obtain ⟨b,ae,hA,ai,hc⟩:=ac.cell hn;have cl:cI (w.alloc (.cells id.V 38)) b (ae+i*35+34) (n.lev:Int):=hc 34 (by omega) _ rfl;rw [hA] at c2;obtain ⟨j1,j2,j3⟩:=ix i g.nodes.length
  have j4:=iw (i:Int);rw [hp] at ab;clear hg ac hb ad hp hn aj hc hA ai;generalize g.nodes.length=nn at*;go_enter func72,ntmps72;go_wp2_with fail;generalize hw0:w.alloc (.cells id.V 38)=w0 at*;clear hw0;have ag:=c2;have af:=cl;refine wp_region_held_drew (S:=(fun w'=>cI w' w.heap.size 0 id.b/\cI w' w.heap.size 1 id.s/\cU w' w.heap.size 2 id.u/\w'.cell? ⟨g.gb,1,none⟩=some (.map (some g.mb))/\MapAt w' g.mb g.mm (Af g.nodes))) (by kernel_rfl) ⟨i0,i1,i2,c1,aa⟩ (fun hS=> ?_);replace f0:=f0.drew;replace ag:cS w0.drew g.gb 2 (some ⟨b,ae,none⟩) nn g.nC:=ag;replace af:cI w0.drew b (ae+i*35+34) (n.lev:Int):=af
 all_goals
  refine tkH 0 hS (h:=tkH 1 hS (h:=tkH 2 hS (h:=tkH 3 hS (h:=tkH 4 hS (h:=tkH 5 hS (h:=tkH 6 hS (h:=tkH 7 hS (h:=tkH 8 hS (h:=tkH 9 hS (h:=tkH 10 hS (h:=?_)))))))))));simp only [zl];refine oD ?_;go_simp;go_wp2_with fail
  go_ret
  exact ⟨congrArg (fun z:Nat=>ze (.int .i64 (z:Int))) hv.out,f0⟩
theorem U1 (base:Nat) (g:Gph) (id:Id) (w:World) (hg:GAt w base g) (hid:id.ok):Calls zp 72 #[.pointer (some ⟨g.gb,0,none⟩),.agg id.V] w fun e w'=>e=.returned (.int .i64 (g.level id:Int))/\Fr Non w w':=
 (U0 base g id w hg hid).mono fun _ _ h=>⟨h.1,h.2.fr⟩
def Gph.before (g:Gph) (a b:Id):Bool:=match Af g.nodes a,Af g.nodes b with|some i,some j=>(g.nodes[j]?.map (fun n=>n.past i)).getD false|_,_=>false
theorem GAt.setAt {w:World} {base:Nat} {g:Gph} (h:GAt w base g) {i:Nat} {n:Ag} (hi:g.nodes[i]? =some n):
  ∃b off,g.nA=some ⟨b,off,none⟩/\Em w b (off+i*35+30) n.ws:=by
 obtain ⟨b,off,hA,hbB,hc⟩:=h.cell hi;refine ⟨b,off,hA,?_⟩;intro k hk
 match k,hk with
 |0,_=>exact hc 30 (by omega) _ rfl
 |1,_=>exact hc 31 (by omega) _ rfl
 |2,_=>exact hc 32 (by omega) _ rfl
 |3,_=>exact hc 33 (by omega) _ rfl
theorem Nq (base:Nat) (g:Gph) (a b:Id) (w:World) (hg:GAt w base g) (ha:a.ok) (hb:b.ok):Calls zp 35 #[.pointer (some ⟨g.gb,0,none⟩),.agg a.V,.agg b.V] w fun e w'=>e=.returned (.bool (g.before a b))/\Fr Non w w':=by
 have f1:Fr Non w (w.alloc (.cells a.V 38)):=(Fr.refl Non w).alloc _;have f0:=f1.alloc (.cells b.V 38);have af:=Blk.new w 38 a.V;have ai:=Blk.new (w.alloc (.cells a.V 38)) 38 b.V;rw [Ao3] at ai;replace af:=af.alloc (.cells b.V 38);have ah:=hg.fr f0;generalize hw0:(w.alloc (.cells a.V 38)).alloc (.cells b.V 38)=w0 at*;have i0:cI w0 w.heap.size 0 a.b:=af.cell 0;have i1:cI w0 w.heap.size 1 a.s:=af.cell 1;have i2:cU w0 w.heap.size 2 a.u:=af.cell 2;have k0:cI w0 (w.heap.size+1) 0 b.b:=ai.cell 0;have k1:cI w0 (w.heap.size+1) 1 b.s:=ai.cell 1;have k2:cU w0 (w.heap.size+1) 2 b.u:=ai.cell 2;have c1:w0.cell? ⟨g.gb,1,none⟩=some (.map (some g.mb)):=ah.blk.cell 1;have c2:cS w0 g.gb 2 g.nA g.nodes.length g.nC:=ah.blk.cell 2;have ac:=ah.map;have ad:=fun (w':World) (h:MapAt w' g.mb g.mm (Af g.nodes))=>MapAt.look h a ha;have ae:=fun (w':World) (h:MapAt w' g.mb g.mm (Af g.nodes))=>MapAt.look h b hb;have ag:Hid (g.before a b=match Af g.nodes a,Af g.nodes b with|some i,some j=>(g.nodes[j]?.map (fun n=>n.past i)).getD false|_,_=>false):=rfl;generalize g.before a b=lv at*
 cases hpa:Af g.nodes a
 ·
  cases hpb:Af g.nodes b
  focus
   have hv:Hid (false=lv):=by show _=_;rw [ag.out,hpa]
   rw [hpa] at ad;rw [hpb] at ae;clear hg ah af ai ag hpa hpb
  rotate_left
  focus
   have hv:Hid (false=lv):=by show _=_;rw [ag.out,hpa]
   rw [hpa] at ad;rw [hpb] at ae;clear hg ah af ai ag hpa hpb;rename_i j
  all_goals
   go_enter func35,ntmps35;go_wp2_with fail;clear hw0;refine wp_region_held_drew (S:=(fun w'=>cI w' w.heap.size 0 a.b/\cI w' w.heap.size 1 a.s/\cU w' w.heap.size 2 a.u/\cI w' (w.heap.size+1) 0 b.b/\cI w' (w.heap.size+1) 1 b.s/\cU w' (w.heap.size+1) 2 b.u/\w'.cell? ⟨g.gb,1,none⟩=some (.map (some g.mb))/\MapAt w' g.mb g.mm (Af g.nodes))) (by kernel_rfl) ⟨i0,i1,i2,k0,k1,k2,c1,ac⟩ (fun aa=> ?_);replace f0:=f0.drew;refine tkH 0 aa (h:=tkH 1 aa (h:=tkH 2 aa (h:=tkH 3 aa (h:=tkH 4 aa (h:=tkH 5 aa (h:=tkH 6 aa (h:=tkH 7 aa (h:=tkH 8 aa (h:=tkH 9 aa (h:=tkH 10 aa (h:=?_)))))))))));simp only [zl];refine oD ?_;go_simp;go_wp2_with fail;refine wp_region_held_drew (S:=(fun w'=>cI w' w.heap.size 0 a.b/\cI w' w.heap.size 1 a.s/\cU w' w.heap.size 2 a.u/\cI w' (w.heap.size+1) 0 b.b/\cI w' (w.heap.size+1) 1 b.s/\cU w' (w.heap.size+1) 2 b.u/\w'.cell? ⟨g.gb,1,none⟩=some (.map (some g.mb))/\MapAt w' g.mb g.mm (Af g.nodes))) (by kernel_rfl) ⟨i0,i1,i2,k0,k1,k2,c1,ac⟩ (fun ab=> ?_);replace f0:=f0.drew;refine tkH 0 ab (h:=tkH 1 ab (h:=tkH 2 ab (h:=tkH 3 ab (h:=tkH 4 ab (h:=tkH 5 ab (h:=tkH 6 ab (h:=tkH 7 ab (h:=tkH 8 ab (h:=tkH 9 ab (h:=tkH 10 ab (h:=?_)))))))))));simp only [zl];refine oD ?_;go_simp;go_wp2_with fail
   go_ret
   exact ⟨congrArg (fun z:Bool=>ze (.bool z)) hv.out,f0⟩
 ·
  cases hpb:Af g.nodes b
  ·
   have hv:Hid (false=lv):=by show _=_;rw [ag.out,hpa,hpb]
   rw [hpa] at ad;rw [hpb] at ae;clear hg ah af ai ag hpa hpb;go_enter func35,ntmps35;go_wp2_with fail;clear hw0;refine wp_region_held_drew (S:=(fun w'=>cI w' w.heap.size 0 a.b/\cI w' w.heap.size 1 a.s/\cU w' w.heap.size 2 a.u/\cI w' (w.heap.size+1) 0 b.b/\cI w' (w.heap.size+1) 1 b.s/\cU w' (w.heap.size+1) 2 b.u/\w'.cell? ⟨g.gb,1,none⟩=some (.map (some g.mb))/\MapAt w' g.mb g.mm (Af g.nodes))) (by kernel_rfl) ⟨i0,i1,i2,k0,k1,k2,c1,ac⟩ (fun aa=> ?_);replace f0:=f0.drew;refine tkH 0 aa (h:=tkH 1 aa (h:=tkH 2 aa (h:=tkH 3 aa (h:=tkH 4 aa (h:=tkH 5 aa (h:=tkH 6 aa (h:=tkH 7 aa (h:=tkH 8 aa (h:=tkH 9 aa (h:=tkH 10 aa (h:=?_)))))))))));simp only [zl];refine oD ?_;go_simp;go_wp2_with fail;refine wp_region_held_drew (S:=(fun w'=>cI w' w.heap.size 0 a.b/\cI w' w.heap.size 1 a.s/\cU w' w.heap.size 2 a.u/\cI w' (w.heap.size+1) 0 b.b/\cI w' (w.heap.size+1) 1 b.s/\cU w' (w.heap.size+1) 2 b.u/\w'.cell? ⟨g.gb,1,none⟩=some (.map (some g.mb))/\MapAt w' g.mb g.mm (Af g.nodes))) (by kernel_rfl) ⟨i0,i1,i2,k0,k1,k2,c1,ac⟩ (fun ab=> ?_);replace f0:=f0.drew;refine tkH 0 ab (h:=tkH 1 ab (h:=tkH 2 ab (h:=tkH 3 ab (h:=tkH 4 ab (h:=tkH 5 ab (h:=tkH 6 ab (h:=tkH 7 ab (h:=tkH 8 ab (h:=tkH 9 ab (h:=tkH 10 ab (h:=?_)))))))))));simp only [zl];refine oD ?_;go_simp;go_wp2_with fail
   go_ret
   exact ⟨congrArg (fun z:Bool=>ze (.bool z)) hv.out,f0⟩
  ·
   rename_i i j;obtain ⟨n,hn,_⟩:=Fp hpb;obtain ⟨n',aq,_⟩:=Fp hpa;have hv:Hid (n.past i=lv):=by show _=_;rw [ag.out,hpa,hpb];simp [hn]
   have ap:=hg.few;have au:j<g.nodes.length:=(List.getElem?_eq_some_iff.1 hn).1;have al:i<g.nodes.length:=(List.getElem?_eq_some_iff.1 aq).1;obtain ⟨bb,ar,hA,ak⟩:=ah.setAt hn;have ao:=(hg.node n (An8 hn)).set;rw [hA] at c2;obtain ⟨j1,j2,j3⟩:=ix j g.nodes.length
   have j4:=iw (j:Int);have aj:i<256:=by omega
   rw [hpa] at ad;rw [hpb] at ae;clear hg ah af ai ag hpa hpb hn aq au al hA ap;generalize g.nodes.length=nn at*;go_enter func35,ntmps35;go_wp2_with fail;clear hw0;refine wp_region_held_drew (S:=(fun w'=>cI w' w.heap.size 0 a.b/\cI w' w.heap.size 1 a.s/\cU w' w.heap.size 2 a.u/\cI w' (w.heap.size+1) 0 b.b/\cI w' (w.heap.size+1) 1 b.s/\cU w' (w.heap.size+1) 2 b.u/\w'.cell? ⟨g.gb,1,none⟩=some (.map (some g.mb))/\MapAt w' g.mb g.mm (Af g.nodes))) (by kernel_rfl) ⟨i0,i1,i2,k0,k1,k2,c1,ac⟩ (fun aa=> ?_);replace f0:=f0.drew;refine tkH 0 aa (h:=tkH 1 aa (h:=tkH 2 aa (h:=tkH 3 aa (h:=tkH 4 aa (h:=tkH 5 aa (h:=tkH 6 aa (h:=tkH 7 aa (h:=tkH 8 aa (h:=tkH 9 aa (h:=tkH 10 aa (h:=?_)))))))))));simp only [zl];refine oD ?_;go_simp;go_wp2_with fail;refine wp_region_held_drew (S:=(fun w'=>cI w' w.heap.size 0 a.b/\cI w' w.heap.size 1 a.s/\cU w' w.heap.size 2 a.u/\cI w' (w.heap.size+1) 0 b.b/\cI w' (w.heap.size+1) 1 b.s/\cU w' (w.heap.size+1) 2 b.u/\w'.cell? ⟨g.gb,1,none⟩=some (.map (some g.mb))/\MapAt w' g.mb g.mm (Af g.nodes))) (by kernel_rfl) ⟨i0,i1,i2,k0,k1,k2,c1,ac⟩ (fun ab=> ?_);replace f0:=f0.drew;refine tkH 0 ab (h:=tkH 1 ab (h:=tkH 2 ab (h:=tkH 3 ab (h:=tkH 4 ab (h:=tkH 5 ab (h:=tkH 6 ab (h:=tkH 7 ab (h:=tkH 8 ab (h:=tkH 9 ab (h:=tkH 10 ab (h:=?_)))))))))));simp only [zl];refine oD ?_;go_simp;replace c2:cS w0.drew.drew g.gb 2 (some ⟨bb,ar,none⟩) nn g.nC:=c2;replace ak:Em w0.drew.drew bb (ar+j*35+30) n.ws:=ak;go_wp2_with (go_at_call 70;(with_reducible refine (J0 _ _ _ _ i _ ao ak aj).mono ?_);rintro _ _ ⟨rfl,rfl⟩)
   go_ret
   exact ⟨congrArg (fun z:Bool=>ze (.bool z)) hv.out,f0⟩
def Cd.zero:Cd:=⟨0,0,0,0,0⟩
def En (c:Cd) (b:Bool) (w:World) (e:Ending) (w':World):Prop:=e=.returned (.tuple #[.agg c.cells.toArray,.bool b])/\Fr Non w w'
def Gph.card (g:Gph) (d:Int):Option Cd:=g.cards.find? (fun c=>c.d==d)
theorem Nr (base:Nat) (g:Gph) (d:Int) (w:World) (hg:GAt w base g) (hn:g.cards.length<=1000000):Calls zp 65 #[.pointer (some ⟨g.gb,0,none⟩),.int .i64 d] w (En ((g.card d).getD Cd.zero) (g.card d).isSome w):=by
 have hr:=hg.cards;have c0:cS w g.gb 0 g.cA g.cards.length g.cC:=hg.blk.cell 0;have ab:Hid (g.card d=g.cards.find? (fun c=>c.d==d)):=rfl;generalize g.card d=R at*;clear hg;generalize hl:g.cards=l at*;clear hl;obtain ⟨n,ac⟩:=Aa l.length;rw [ac.out] at hr c0 hn;have f0:Fr Non w (w.alloc (.cells zC 104)):=(Fr.refl Non w).alloc _;have b0:=Blk.new w 104 zC;replace hr:=hr.fr f0 zr;replace c0:=f0.cell c0 zq;go_enter func65,ntmps65;go_upto_region 1 with (fail)
 generalize w.alloc (.cells zC 104)=w0 at*;go_wp2_with fail
 go_loopw [5,13] (fun r v wr=>∃k:Nat,r=.bool false/\v=.int .i64 (k:Int)/\k<=n/\Hid ((l.take k).find? (fun c=>c.d==d)=none)/\Fr Non w0 wr) (fun _ v _=>n-(intOf v).toNat)
 case atStart=>exact ⟨0,rfl,rfl,by omega,rfl,Fr.refl _ _⟩
 case round=>
  obtain ⟨k,rfl,rfl,hk,hh,hf⟩:=hrel
  by_cases hlt:k<n
  ·
   obtain ⟨i1,i2,i3⟩:=ix k n
   obtain ⟨c,hc⟩:∃c,l[k]? =some c:=⟨_,An4 (by rw [ac.out];exact hlt)⟩;obtain ⟨b,ae,hA,ai,aa⟩:=Eu (f:=Cd.cells) (fun _=>rfl) (by omega) (hr.fr hf zr) hc;have d0:cI wr b (ae+k*5) c.d:=aa 0 (by omega) _ rfl;have d1:cI wr b (ae+k*5+1) c.m:=aa 1 (by omega) _ rfl;have d2:cU wr b (ae+k*5+2) c.l:=aa 2 (by omega) _ rfl;have d3:cU wr b (ae+k*5+3) c.k:=aa 3 (by omega) _ rfl;have d4:cU wr b (ae+k*5+4) c.s:=aa 4 (by omega) _ rfl;clear aa ai;rw [hA];have b1:=b0.fr hf zq
   rcases zb (c.d==d) with hcd|hcd
   ·
    have hR:Hid (R=some c):=by
     show _=_;rw [ab.out,<- An5 k l,Ao4,hh.out,List.drop_eq_getElem_cons (by rw [ac.out];exact hlt)];rw [An4 (by rw [ac.out];exact hlt)] at hc;rw [Option.some.inj hc];simp [hcd]
    have ad:c.d=d:=by simpa using hcd
    have f1:=f0.trans hf zr
    have ag:Hid (∀wz,Fr (One w.heap.size) wr wz->En (R.getD Cd.zero) R.isSome w (.returned (.tuple #[.agg #[.int .i64 c.d,.int .i64 c.m,.int .u64 (c.l:Int),.int .u64 (c.k:Int),.int .u64 (c.s:Int)],.bool true])) wz):=by
     intro wz hz;refine ⟨?_,f1.trans hz (fun k hk e=>absurd hk (by have e':k=w.heap.size:=e;omega))⟩;rw [hR.out];rfl
    clear ab hc hh f1;generalize R.getD Cd.zero=RC at*;generalize R.isSome=RS at*;have bz:=b1.alloc (.cells #[.int .i64 c.d,.int .i64 c.m,.int .u64 (c.l:Int),.int .u64 (c.k:Int),.int .u64 (c.s:Int)] 104);have e0:cI (wr.alloc (.cells #[.int .i64 c.d,.int .i64 c.m,.int .u64 (c.l:Int),.int .u64 (c.k:Int),.int .u64 (c.s:Int)] 104)) w.heap.size 0 0:=bz.cell 0;have z0:(wr.alloc (.cells #[.int .i64 c.d,.int .i64 c.m,.int .u64 (c.l:Int),.int .u64 (c.k:Int),.int .u64 (c.s:Int)] 104)).frozen? ⟨w.heap.size,0,none⟩=false:=bz.frozen 0;have e1:cI (wr.alloc (.cells #[.int .i64 c.d,.int .i64 c.m,.int .u64 (c.l:Int),.int .u64 (c.k:Int),.int .u64 (c.s:Int)] 104)) w.heap.size 1 0:=bz.cell 1;have z1:(wr.alloc (.cells #[.int .i64 c.d,.int .i64 c.m,.int .u64 (c.l:Int),.int .u64 (c.k:Int),.int .u64 (c.s:Int)] 104)).frozen? ⟨w.heap.size,1,none⟩=false:=bz.frozen 1;have e2:(wr.alloc (.cells #[.int .i64 c.d,.int .i64 c.m,.int .u64 (c.l:Int),.int .u64 (c.k:Int),.int .u64 (c.s:Int)] 104)).cell? ⟨w.heap.size,2,none⟩=some (.int .u64 0):=bz.cell 2;have z2:(wr.alloc (.cells #[.int .i64 c.d,.int .i64 c.m,.int .u64 (c.l:Int),.int .u64 (c.k:Int),.int .u64 (c.s:Int)] 104)).frozen? ⟨w.heap.size,2,none⟩=false:=bz.frozen 2;have e3:(wr.alloc (.cells #[.int .i64 c.d,.int .i64 c.m,.int .u64 (c.l:Int),.int .u64 (c.k:Int),.int .u64 (c.s:Int)] 104)).cell? ⟨w.heap.size,3,none⟩=some (.int .u64 0):=bz.cell 3;have z3:(wr.alloc (.cells #[.int .i64 c.d,.int .i64 c.m,.int .u64 (c.l:Int),.int .u64 (c.k:Int),.int .u64 (c.s:Int)] 104)).frozen? ⟨w.heap.size,3,none⟩=false:=bz.frozen 3;have e4:(wr.alloc (.cells #[.int .i64 c.d,.int .i64 c.m,.int .u64 (c.l:Int),.int .u64 (c.k:Int),.int .u64 (c.s:Int)] 104)).cell? ⟨w.heap.size,4,none⟩=some (.int .u64 0):=bz.cell 4;have z4:(wr.alloc (.cells #[.int .i64 c.d,.int .i64 c.m,.int .u64 (c.l:Int),.int .u64 (c.k:Int),.int .u64 (c.s:Int)] 104)).frozen? ⟨w.heap.size,4,none⟩=false:=bz.frozen 4;have af:=(((((bz.set 0 (.int .i64 c.d)).set 1 (.int .i64 c.m)).set 2 (.int .u64 (c.l:Int))).set 3 (.int .u64 (c.k:Int))).set 4 (.int .u64 (c.s:Int)));have fz:=(((((((Fr.refl (One w.heap.size) wr).alloc (.cells #[.int .i64 c.d,.int .i64 c.m,.int .u64 (c.l:Int),.int .u64 (c.k:Int),.int .u64 (c.s:Int)] 104)).setCell (p:=⟨w.heap.size,0,none⟩) (fun _=>rfl) (.int .i64 c.d)).setCell (p:=⟨w.heap.size,1,none⟩) (fun _=>rfl) (.int .i64 c.m)).setCell (p:=⟨w.heap.size,2,none⟩) (fun _=>rfl) (.int .u64 (c.l:Int))).setCell (p:=⟨w.heap.size,3,none⟩) (fun _=>rfl) (.int .u64 (c.k:Int))).setCell (p:=⟨w.heap.size,4,none⟩) (fun _=>rfl) (.int .u64 (c.s:Int)));rw [ad] at ag bz fz af e0 e1 e2 e3 e4 z0 z1 z2 z3 z4;clear b1 bz;go_wp2_with fail
    (try simp only [Exit.inBlock,Exit.then])
    refine Fo (t:=104) rfl rfl af rfl underlying104 (by kernel_rfl) rfl ?_;exact ag.out _ fz
   ·
    have ah:Hid ((l.take (k+1)).find? (fun c=>c.d==d)=none):=by
     show _=_;rw [List.take_add_one,Ao4,hh.out,hc];simp [hcd]
    have ad:¬c.d=d:=by simpa using hcd
    clear ab hc hh b1;go_wp2_with fail;go_roundw
    case rel=>exact ⟨k+1,rfl,by go_num,by omega,ah,hf.alloc _⟩
    case measure=>simp [intOf];omega
  ·
   obtain rfl:n=k:=by omega
   have hR:Hid (R=none):=by
    show _=_;rw [ab.out];have h:=hh.out;rwa [Ao5 (by rw [ac.out];omega)] at h
   have b1:=b0.fr hf zq;have f1:=f0.trans hf zr
   have ag:Hid (∀wz,Fr (One w.heap.size) wr wz->En (R.getD Cd.zero) R.isSome w (.returned (.tuple #[.agg zC,.bool false])) wz):=by
    intro wz hz;refine ⟨?_,f1.trans hz (fun k hk e=>absurd hk (by have e':k=w.heap.size:=e;omega))⟩;rw [hR.out];rfl
   clear ab hh;generalize R.getD Cd.zero=RC at*;generalize R.isSome=RS at*;have e0:cI wr w.heap.size 0 0:=b1.cell 0;have z0:wr.frozen? ⟨w.heap.size,0,none⟩=false:=b1.frozen 0;have e1:cI wr w.heap.size 1 0:=b1.cell 1;have z1:wr.frozen? ⟨w.heap.size,1,none⟩=false:=b1.frozen 1;have e2:wr.cell? ⟨w.heap.size,2,none⟩=some (.int .u64 0):=b1.cell 2;have z2:wr.frozen? ⟨w.heap.size,2,none⟩=false:=b1.frozen 2;have e3:wr.cell? ⟨w.heap.size,3,none⟩=some (.int .u64 0):=b1.cell 3;have z3:wr.frozen? ⟨w.heap.size,3,none⟩=false:=b1.frozen 3;have e4:wr.cell? ⟨w.heap.size,4,none⟩=some (.int .u64 0):=b1.cell 4;have z4:wr.frozen? ⟨w.heap.size,4,none⟩=false:=b1.frozen 4;have af:=(((((b1.set 0 (.int .i64 0)).set 1 (.int .i64 0)).set 2 (.int .u64 0)).set 3 (.int .u64 0)).set 4 (.int .u64 0));have fz:=((((((Fr.refl (One w.heap.size) wr).setCell (p:=⟨w.heap.size,0,none⟩) (fun _=>rfl) (.int .i64 0)).setCell (p:=⟨w.heap.size,1,none⟩) (fun _=>rfl) (.int .i64 0)).setCell (p:=⟨w.heap.size,2,none⟩) (fun _=>rfl) (.int .u64 0)).setCell (p:=⟨w.heap.size,3,none⟩) (fun _=>rfl) (.int .u64 0)).setCell (p:=⟨w.heap.size,4,none⟩) (fun _=>rfl) (.int .u64 0));go_wp2_with fail
   (try simp only [Exit.inBlock,Exit.then])
   refine Fo (t:=104) rfl rfl af rfl underlying104 (by kernel_rfl) rfl ?_;exact ag.out _ fz
def Gph.up (g:Gph) (id:Id) (q:Nat):Bool:=match Af g.nodes id with|some i=>(g.nodes[i]?.map (fun n=>n.past q)).getD false|none=>false
def Gph.ups (g:Gph) (ids:List Id) (q:Nat):Bool:=ids.any (fun id=>g.up id q)
theorem U2 (g:Gph) (ids:List Id) (k:Nat) {id:Id} (h:ids[k]? =some id):g.ups (ids.take (k+1))=fun q=>g.ups (ids.take k) q||g.up id q:=by
 funext q;unfold Gph.ups;obtain ⟨hk,rfl⟩:=List.getElem?_eq_some_iff.1 h;rw [List.take_succ_eq_append_getElem hk,List.any_append];simp
def J7 (m:Nat->Bool) (w:World) (e:Ending) (w':World):Prop:=∃a0 a1 a2 a3:Nat,e=.returned (.agg #[.int .u64 (a0:Int),.int .u64 (a1:Int),.int .u64 (a2:Int),.int .u64 (a3:Int)])/\Aq [a0,a1,a2,a3] m/\Fr Non w w'
theorem U3 (base:Nat) (g:Gph) (B n c:Nat) (A:Option Addr) (ids:List Id) (w:World) (hg:GAt w base g) (hn:Hid (ids.length=n)) (hr:Rd w B 3 A n (ids.flatMap Id.cells)) (hnm:n<=1000000) (hok:∀id∈ids,id.ok):
  Calls zp 131 #[.pointer (some ⟨g.gb,0,none⟩),.slice A n c] w (J7 (g.ups ids) w):=by
 have f0:Fr Non w ((w.alloc (.cells #[.int .u64 0,.int .u64 0,.int .u64 0,.int .u64 0] 112)).alloc (.cells #[.int .u64 0,.int .u64 0,.int .u64 0,.int .u64 0] 112)):=((Fr.refl Non w).alloc _).alloc _;have br:=(Blk.new w 112 #[.int .u64 0,.int .u64 0,.int .u64 0,.int .u64 0]).alloc (.cells #[.int .u64 0,.int .u64 0,.int .u64 0,.int .u64 0] 112);have bs:=Blk.new (w.alloc (.cells #[.int .u64 0,.int .u64 0,.int .u64 0,.int .u64 0] 112)) 112 #[.int .u64 0,.int .u64 0,.int .u64 0,.int .u64 0];rw [Ao3] at bs;have ai:∀(a0 a1 a2 a3:Nat) (wz:World),Aq [a0,a1,a2,a3] (g.ups ids)->Fr Non w wz->J7 (g.ups ids) w (.returned (.agg #[.int .u64 (a0:Int),.int .u64 (a1:Int),.int .u64 (a2:Int),.int .u64 (a3:Int)])) wz:=fun a0 a1 a2 a3 wz h1 h2=>⟨a0,a1,a2,a3,rfl,h1,h2⟩;replace ai:=lh ai;generalize J7 (g.ups ids) w=POST at*;go_enter func131,ntmps131;go_upto_region 2 with (fail)
 generalize ((w.alloc (.cells #[.int .u64 0,.int .u64 0,.int .u64 0,.int .u64 0] 112)).alloc (.cells #[.int .u64 0,.int .u64 0,.int .u64 0,.int .u64 0] 112))=w0 at*;go_wp2_with fail
 go_loopw [12] (fun v wr=>∃(k:Nat) (a0 a1 a2 a3:Nat),v=.int .i64 (k:Int)/\k<=n/\Hid (Aq [a0,a1,a2,a3] (g.ups (ids.take k)))/\Blk wr (w.heap.size+1) 112 #[.int .u64 (a0:Int),.int .u64 (a1:Int),.int .u64 (a2:Int),.int .u64 (a3:Int)]/\Fr (One (w.heap.size+1)) w0 wr) (fun v _=>n-(intOf v).toNat)
 case atStart=>exact ⟨0,0,0,0,0,rfl,by omega,Aq.empty,bs,Fr.refl _ _⟩
 case round=>
  obtain ⟨k,a0,a1,a2,a3,rfl,hk,ac,ak,hf⟩:=hrel;have fw:Fr Non w wr:=f0.trans hf (fun j hj e=>by have e':j=w.heap.size+1:=e;omega)
  by_cases hlt:k<n
  ·
   obtain ⟨i1,i2,i3⟩:=ix k n
   obtain ⟨id,hid⟩:∃x,ids[k]? =some x:=⟨_,An4 (by rw [hn.out];exact hlt)⟩;obtain ⟨b,ba,hA,a9,d0,d1,d2⟩:=Id.at (hr.fr fw zr) hid;have ar:=hok id (An8 hid);have av:=lh (U2 g ids k hid);have fa:Fr Non w (wr.alloc (.cells id.V 38)):=fw.alloc _;have aj:=hg.fr fa;have aq:=Blk.new wr 38 id.V;have ab:=ak.alloc (.cells id.V 38);have al:=hf.alloc (.cells id.V 38);have c2:=aj.blk.cell 2;have c1:=aj.blk.cell 1;have ae:=aj.map;have af:=fun (w':World) (h:MapAt w' g.mb g.mm (Af g.nodes))=>MapAt.look h id ar;have aw:Hid (g.up id=fun q=>match Af g.nodes id with|some i=>(g.nodes[i]?.map (fun n=>n.past q)).getD false|none=>false):=rfl;have i4:=aq.cell 0;have i5:=aq.cell 1;have i6:=aq.cell 2;rw [hA];replace hA:=lh hA;generalize hw1:wr.alloc (.cells id.V 38)=w1 at*;replace c1:w1.cell? ⟨g.gb,1,none⟩=some (.map (some g.mb)):=c1;replace c2:cS w1 g.gb 2 g.nA g.nodes.length g.nC:=c2;replace i4:cI w1 wr.heap.size 0 id.b:=i4;replace i5:cI w1 wr.heap.size 1 id.s:=i5;replace i6:cU w1 wr.heap.size 2 id.u:=i6
   cases hp:Af g.nodes id
   ·
    have hm:Hid (g.ups (ids.take (k+1))=g.ups (ids.take k)):=by
     show _=_;rw [av.out,aw.out,hp];simp
    rw [hp] at af;clear aj aq hp aw av;go_upto_region 5 with (fail)
    try rw [hw1]
    clear hw1;refine wp_region_held_drew (S:=(fun w'=>cI w' wr.heap.size 0 id.b/\cI w' wr.heap.size 1 id.s/\cU w' wr.heap.size 2 id.u/\w'.cell? ⟨g.gb,1,none⟩=some (.map (some g.mb))/\MapAt w' g.mb g.mm (Af g.nodes))) (by kernel_rfl) ⟨i4,i5,i6,c1,ae⟩ (fun hS=> ?_);replace al:=al.drew;replace ab:=ab.drew;refine tkH 0 hS (h:=tkH 1 hS (h:=tkH 2 hS (h:=tkH 3 hS (h:=tkH 4 hS (h:=tkH 5 hS (h:=tkH 6 hS (h:=tkH 7 hS (h:=tkH 8 hS (h:=tkH 9 hS (h:=tkH 10 hS (h:=?_)))))))))));simp only [zl];refine oD ?_;go_simp;go_wp2_with fail;go_roundw
    case rel=>exact ⟨k+1,a0,a1,a2,a3,by go_num,by omega,by show Aq _ _;rw [hm.out];exact ac.out,ab,al⟩
    case measure=>simp [intOf];omega
   ·
    rename_i i;obtain ⟨nd,ap,_⟩:=Fp hp;have a8:=hg.few;have a7:i<g.nodes.length:=(List.getElem?_eq_some_iff.1 ap).1
    have hm:Hid (g.ups (ids.take (k+1))=fun q=>g.ups (ids.take k) q||nd.past q):=by
     show _=_;rw [av.out,aw.out,hp];simp [ap]
    have ag:Hid (Aq [nd.a0,nd.a1,nd.a2,nd.a3] nd.past):=(aj.node nd (An8 ap)).set;obtain ⟨bn,aa,ay,ao⟩:=aj.setAt ap;have m0:cU w1 bn (aa+i*35+30) nd.a0:=ao 0 (by omega);have m1:cU w1 bn (aa+i*35+30+1) nd.a1:=ao 1 (by omega);have m2:cU w1 bn (aa+i*35+30+2) nd.a2:=ao 2 (by omega);have m3:cU w1 bn (aa+i*35+30+3) nd.a3:=ao 3 (by omega);rw [ay] at c2;obtain ⟨j1,j2,j3⟩:=ix i g.nodes.length
    have j4:=iw (i:Int);rw [hp] at af;clear aj aq hp aw av ap a7 ay ao;generalize g.nodes.length=nn at*;go_upto_region 5 with (fail)
    try rw [hw1]
    clear hw1;refine wp_region_held_drew (S:=(fun w'=>cI w' wr.heap.size 0 id.b/\cI w' wr.heap.size 1 id.s/\cU w' wr.heap.size 2 id.u/\w'.cell? ⟨g.gb,1,none⟩=some (.map (some g.mb))/\MapAt w' g.mb g.mm (Af g.nodes))) (by kernel_rfl) ⟨i4,i5,i6,c1,ae⟩ (fun hS=> ?_);replace al:=al.drew;replace ab:=ab.drew;refine tkH 0 hS (h:=tkH 1 hS (h:=tkH 2 hS (h:=tkH 3 hS (h:=tkH 4 hS (h:=tkH 5 hS (h:=tkH 6 hS (h:=tkH 7 hS (h:=tkH 8 hS (h:=tkH 9 hS (h:=tkH 10 hS (h:=?_)))))))))));simp only [zl];refine oD ?_;go_simp;replace c2:cS w1.drew g.gb 2 (some ⟨bn,aa,none⟩) nn g.nC:=c2;replace m0:cU w1.drew bn (aa+i*35+30) nd.a0:=m0;replace m1:cU w1.drew bn (aa+i*35+30+1) nd.a1:=m1;replace m2:cU w1.drew bn (aa+i*35+30+2) nd.a2:=m2;replace m3:cU w1.drew bn (aa+i*35+30+3) nd.a3:=m3
    have ax:Em w1.drew (w.heap.size+1) 0 [a0,a1,a2,a3]:=fun j hj=>by
     rw [ab.cell]
     match j,hj with
     |0,_=>rfl
     |1,_=>rfl
     |2,_=>rfl
     |3,_=>rfl
    go_wp2_with (go_at_call 69;go_loud (with_reducible refine (J1 _ _ _ _ [a0,a1,a2,a3] _ _ _ _ (g.ups (ids.take k)) nd.past _ ac.out ag.out ab ax).mono ?_);rintro _ w2 ⟨rfl,az,a6⟩)
    have au:Hid (Aq (orW [a0,a1,a2,a3] [nd.a0,nd.a1,nd.a2,nd.a3]) (g.ups (ids.take (k+1)))):=by
     show Aq _ _;rw [hm.out];exact Aq.or ac.out ag.out
    go_roundw
    case rel=>exact ⟨k+1,a0|||nd.a0,a1|||nd.a1,a2|||nd.a2,a3|||nd.a3,by go_num,by omega,au,az,al.transOne a6⟩
    case measure=>simp [intOf];omega
  ·
   obtain rfl:n=k:=by omega
   have ah:Aq [a0,a1,a2,a3] (g.ups ids):=by have h1:=ac.out;rwa [Ao5 (by rw [hn.out];exact An3 _)] at h1
   have ad:Blk wr w.heap.size 112 #[.int .u64 0,.int .u64 0,.int .u64 0,.int .u64 0]:=br.fr hf (fun e=>by have e':w.heap.size=w.heap.size+1:=e;omega);have s0:cU wr (w.heap.size+1) 0 a0:=ak.cell 0;have s1:cU wr (w.heap.size+1) 1 a1:=ak.cell 1;have s2:cU wr (w.heap.size+1) 2 a2:=ak.cell 2;have s3:cU wr (w.heap.size+1) 3 a3:=ak.cell 3;have e0:wr.cell? ⟨w.heap.size,0,none⟩=some (.int .u64 0):=ad.cell 0;have e1:wr.cell? ⟨w.heap.size,1,none⟩=some (.int .u64 0):=ad.cell 1;have e2:wr.cell? ⟨w.heap.size,2,none⟩=some (.int .u64 0):=ad.cell 2;have e3:wr.cell? ⟨w.heap.size,3,none⟩=some (.int .u64 0):=ad.cell 3;have z0:wr.frozen? ⟨w.heap.size,0,none⟩=false:=ad.frozen 0;have z1:wr.frozen? ⟨w.heap.size,1,none⟩=false:=ad.frozen 1;have z2:wr.frozen? ⟨w.heap.size,2,none⟩=false:=ad.frozen 2;have z3:wr.frozen? ⟨w.heap.size,3,none⟩=false:=ad.frozen 3;have a4:=(((ad.set 0 (.int .u64 (a0:Int))).set 1 (.int .u64 (a1:Int))).set 2 (.int .u64 (a2:Int))).set 3 (.int .u64 (a3:Int));have fz:=(((fw.setNew (g:=w.heap.size) (An3 _) 0 (.int .u64 (a0:Int))).setNew (g:=w.heap.size) (An3 _) 1 (.int .u64 (a1:Int))).setNew (g:=w.heap.size) (An3 _) 2 (.int .u64 (a2:Int))).setNew (g:=w.heap.size) (An3 _) 3 (.int .u64 (a3:Int));have a5:=lh (ai.out a0 a1 a2 a3 _ ah fz);clear ah fz ad ak ac hf;go_wp2_with fail
   (try simp only [Exit.inBlock,Exit.then])
   refine C8 (t:=112) rfl rfl a4 rfl underlying112 (by kernel_rfl) rfl ?_;exact a5.out
end Oq
end Go.Proofs.YtihfebhfgliojaaGreatDoor
