/-
  Contracts of the functions that the claim's statement reaches, walked one by one (part 17).
  Conditions: as each theorem says.
-/
import Derived.Sort.AssemblyPlain
import Derived.Test.YtihfebhfgliojaaGreatDoorRkO16
set_option maxRecDepth 100000
set_option maxHeartbeats 16000000
open Array renaming setIfInBounds_comm->At7,size_setIfInBounds->At8,toList_setIfInBounds->At9
open Bool renaming and_eq_true->As8,not_eq_true'->At5
open List renaming prefix_refl->At0,getElem?_cons_zero->At1,mem_cons_self->At2,length_append->At3,length_singleton->At4,getElem?_cons_succ->At6
open Nat renaming le_refl->As7,lt_or_ge->As9
open Go.Proofs.Tryz
open Go.Proofs.Tryz renaming prog->zp
open Go.Lib renaming hid->lh
open List renaming set->zl
open Go.Ending renaming returned->ze
namespace Go.Proofs.YtihfebhfgliojaaGreatDoor
section
open Go.RowKit
namespace Oq
def Bj (l:List Pn) (a b:Id):Bool:=decide (Ak l a<Ak l b)||(Ak l a==Ak l b&&Id.less a b)
theorem rkLess_iff {l:List Pn} {a b:Id}:Bj l a b=true<->Ak l a<Ak l b\/(Ak l a=Ak l b/\Id.less a b=true):=by
 unfold Bj;rw [Bool.or_eq_true,As8,decide_eq_true_iff,beq_iff_eq]
theorem M5 (l:List Pn) (a:Id):Bj l a a=false:=by
 cases h:Bj l a a with
 |false=>rfl
 |true=>
  rcases rkLess_iff.1 h with h|⟨_,h⟩
  · omega
  · rw [Id.less_irr] at h;cases h
theorem Hy {l:List Pn} {a b:Id} (h:Bj l a b=true):Bj l b a=false:=by
 cases h2:Bj l b a with
 |false=>rfl
 |true=>
  rcases rkLess_iff.1 h with h|⟨_,h⟩<;>rcases rkLess_iff.1 h2 with h2|⟨_,h2⟩
  · omega
  · omega
  · omega
  · rw [Id.less_as h] at h2;cases h2
theorem Fx (l:List Pn) (a b:Id):Bj l a b=true\/a=b\/Bj l b a=true:=by
 rcases Nat.lt_trichotomy (Ak l a) (Ak l b) with h|h|h
 · exact .inl (rkLess_iff.2 (.inl h))
 ·
  rcases Id.less_tot a b with h2|h2|h2
  · exact .inl (rkLess_iff.2 (.inr ⟨h,h2⟩))
  · exact .inr (.inl h2)
  · exact .inr (.inr (rkLess_iff.2 (.inr ⟨h.symm,h2⟩)))
 · exact .inr (.inr (rkLess_iff.2 (.inl h)))
theorem Kg {l:List Pn} {a b c:Id} (h1:Bj l a b=true) (h2:Bj l b c=true):Bj l a c=true:=by
 rcases rkLess_iff.1 h1 with h1|⟨e1,h1⟩<;>rcases rkLess_iff.1 h2 with h2|⟨e2,h2⟩
 · exact rkLess_iff.2 (.inl (by omega))
 · exact rkLess_iff.2 (.inl (by omega))
 · exact rkLess_iff.2 (.inl (by omega))
 · exact rkLess_iff.2 (.inr ⟨by omega,Id.less_tr h1 h2⟩)
def RowK (l:List Pn) (ids:List Id):Prop:=ids.Pairwise (fun a b=>Bj l b a=false)
theorem Sm {α:Type} {r:α->α->Prop} (anti:∀a b,r a b->r b a->a=b):∀{xs ys:List α},xs.Pairwise r->ys.Pairwise r->xs.Perm ys->xs=ys
 |[],ys,_,_,h=>(List.Perm.nil_eq h)
 |x::xs,[],_,_,h=>by have:=h.length_eq;simp at this
 |x::xs,y::ys,h1,h2,h=>by
  rw [List.pairwise_cons] at h1 h2
  have hxy:x=y:=by
   have hx:x∈y::ys:=h.mem_iff.1 At2;have hy:y∈x::xs:=h.mem_iff.2 At2
   rcases List.mem_cons.1 hx with e|hx
   · exact e
   rcases List.mem_cons.1 hy with e|hy
   · exact e.symm
   exact anti x y (h1.1 y hy) (h2.1 x hx)
  subst hxy;rw [Sm anti h1.2 h2.2 (List.Perm.cons_inv h)]
theorem RowK.unique {l:List Pn} {xs ys:List Id} (h1:RowK l xs) (h2:RowK l ys) (hp:xs.Perm ys):xs=ys:=
 Sm (fun a b ha hb=>by
  rcases Fx l a b with h|h|h
  · rw [hb] at h;cases h
  · exact h
  · rw [ha] at h;cases h) h1 h2 hp
def E4 (l:List Pn) (x:Id):List Id->List Id
 |[]=>[x]
 |y::r=>if Bj l y x=true then y::E4 l x r else x::y::r
def Af (l:List Pn) (ids:List Id):List Id:=ids.foldl (fun out x=>E4 l x out) []
theorem M6 (l:List Pn) (x:Id):∀ys,(E4 l x ys).Perm (x::ys)
 |[]=>List.Perm.refl _
 |y::r=>by
  unfold E4
  split
  · exact ((M6 l x r).cons y).trans (List.Perm.swap x y r)
  · exact List.Perm.refl _
theorem Sn {l:List Pn} {x:Id}:∀{ys:List Id},RowK l ys->RowK l (E4 l x ys)
 |[],_=>List.pairwise_singleton _ _
 |y::r,h=>by
  have h':=List.pairwise_cons.1 h;unfold E4
  split
  ·
   rename_i hyx;refine List.pairwise_cons.2 ⟨fun z hz=> ?_,Sn h'.2⟩;have hz2:=(M6 l x r).mem_iff.1 hz
   rcases List.mem_cons.1 hz2 with e|hz3
   ·
    rw [e];exact Hy hyx
   · exact h'.1 z hz3
  ·
   rename_i hyx;refine List.pairwise_cons.2 ⟨fun z hz=> ?_,h⟩;have hyx':Bj l y x=false:=Bool.not_eq_true _▸hyx
   rcases List.mem_cons.1 hz with e|hzr
   · rw [e];exact hyx'
   ·
    cases hzx:Bj l z x with
    |false=>rfl
    |true=>
     rcases Fx l x y with h1|h1|h1
     ·
      have h2:=Kg hzx h1;rw [h'.1 z hzr] at h2;cases h2
     ·
      subst h1;rw [h'.1 z hzr] at hzx;cases hzx
     · rw [hyx'] at h1;cases h1
theorem M7 (l:List Pn):∀(ids out:List Id),RowK l out->RowK l (ids.foldl (fun out x=>E4 l x out) out)/\(ids.foldl (fun out x=>E4 l x out) out).Perm (out++ids)
 |[],out,h=>⟨h,by rw [List.append_nil];exact List.Perm.refl _⟩
 |x::r,out,h=>by
  obtain ⟨h1,h2⟩:=M7 l r (E4 l x out) (Sn h);refine ⟨h1,h2.trans ?_⟩;refine ((M6 l x out).append_right r).trans ?_;exact (List.perm_middle (a:=x) (l₁:=out) (l₂:=r)).symm
theorem Hz (l:List Pn) (ids:List Id):RowK l (Af l ids):=(M7 l ids [] List.Pairwise.nil).1
theorem El (l:List Pn) (ids:List Id):(Af l ids).Perm ids:=by
 have:=(M7 l ids [] List.Pairwise.nil).2;rwa [List.nil_append] at this
theorem M8 {l:List Pn} {xs ids:List Id} (h:RowK l xs) (hp:xs.Perm ids):xs=Af l ids:=h.unique (Hz l ids) (hp.trans (El l ids).symm)
theorem Et (l:List Pn) (ids:List Id):(Af l ids).length=ids.length:=(El l ids).length_eq
theorem Sp {l:List Pn} {xs:List Id} (h:RowK l xs):Af l xs=xs:=(M8 h (List.Perm.refl _)).symm
theorem Ak8 {l:List Pn} {all ids:List Id} (hn:all.Nodup) (hi:ids.Nodup) (hs:∀x∈ids,x∈all):Af l ids=(Af l all).filter (fun x=>Bh ids x):=by
 refine (M8 ((Hz l all).filter _) ?_).symm;refine (List.perm_ext_iff_of_nodup ?_ hi).2 fun x=> ?_
 · exact (((El l all).nodup_iff.2 hn).filter _)
 ·
  rw [List.mem_filter,Hf,(El l all).mem_iff];exact ⟨fun h=>h.2,fun h=>⟨hs x h,h⟩⟩
theorem Sq {cards:List Cd} {l:List Pn} (h:Rows cards l) {row:List Id} (hr:RowK l row) (hn:row.Nodup) {i k:Nat} {a b:Id} (hki:k<i) (hk:row[k]? =some a) (hi:row[i]? =some b):a≠b/\bef l b a=false/\Bj l a b=true:=by
 obtain ⟨hk1,e1⟩:=List.getElem?_eq_some_iff.1 hk;obtain ⟨hi1,e2⟩:=List.getElem?_eq_some_iff.1 hi
 have h1:Bj l b a=false:=by
  have:=(List.pairwise_iff_getElem.1 hr) k i hk1 hi1 hki;rwa [e1,e2] at this
 have hne:a≠b:=fun e=>by
  subst e;have:=Se hn hk hi;omega
 refine ⟨hne,?_,?_⟩
 ·
  cases hb:bef l b a with
  |false=>rfl
  |true=>
   have:=(h.order hb).2.2.1;rw [rkLess_iff.2 (.inl this)] at h1
   cases h1
 ·
  rcases Fx l a b with h2|h2|h2
  · exact h2
  · exact absurd h2 hne
  · rw [h1] at h2;cases h2
def Fl (o:Op):Int:=if o.kind=1 then o.by_ else if o.kind=2\/o.kind=13 then o.dev else 0
def As (l:List Pn) (id:Id):Int:=match plc l id with|some i=>(l[i]?.map (fun n=>Fl n.o)).getD 0|none=>0
theorem Sr {l:List Pn} {id:Id} {p:Nat} {m:Pn} (h1:plc l id=some p) (h2:l[p]? =some m):As l id=Fl m.o:=by
 unfold As;rw [h1];dsimp only;rw [h2];rfl
def Ea (l:List Pn) (row:List Id) (d:Int):Option Id:=row.find? (fun x=>decide (0<As l x)&&As l x==d)
def Bb (l:List Pn) (row:List Id):Nat->List Int
 |0=>[]
 |k+1=>match row[k]? with
  |some x=>if (decide (0<As l x)&& !(Bb l row k).contains (As l x))=true then Bb l row k++[As l x] else Bb l row k
  |none=>Bb l row k
def Cc (l:List Pn) (row:List Id):List Int:=Bb l row row.length
theorem Ss {l:List Pn} {row:List Id}:∀(k:Nat) {d:Int},d∈Bb l row k<->0<d/\∃(j:Nat) (x:Id),j<k/\row[j]? =some x/\As l x=d
 |0,d=>by
  unfold Bb;exact ⟨fun h=>(by cases h),fun ⟨_,j,x,h,_⟩=>absurd h (Nat.not_lt_zero j)⟩
 |k+1,d=>by
  have ih:=Ss (l:=l) (row:=row) k (d:=d);unfold Bb
  cases hx:row[k]? with
  |none=>
   dsimp only;rw [ih];constructor
   ·
    rintro ⟨h0,j,x,h1,h2⟩;exact ⟨h0,j,x,by omega,h2⟩
   ·
    rintro ⟨h0,j,x,h1,h2,h3⟩;have:j≠k:=fun e=>by rw [e,hx] at h2;cases h2
    exact ⟨h0,j,x,by omega,h2,h3⟩
  |some y=>
   dsimp only
   have hstep:(∃(j:Nat) (x:Id),j<k+1/\row[j]? =some x/\As l x=d)<->(∃(j:Nat) (x:Id),j<k/\row[j]? =some x/\As l x=d)\/As l y=d:=by
    constructor
    ·
     rintro ⟨j,x,h1,h2,h3⟩
     rcases As9 j k with hj|hj
     · exact .inl ⟨j,x,hj,h2,h3⟩
     ·
      have e:j=k:=by omega
      rw [e,hx] at h2;injection h2 with h2
      exact .inr (by rw [h2];exact h3)
    ·
     rintro (⟨j,x,h1,h2⟩|h)
     · exact ⟨j,x,by omega,h2⟩
     · exact ⟨k,y,by omega,hx,h⟩
   by_cases hc:(decide (0<As l y)&& !(Bb l row k).contains (As l y))=true
   ·
    rw [if_pos hc,List.mem_append,List.mem_singleton,ih,hstep];rw [As8,decide_eq_true_iff] at hc;constructor
    ·
     rintro (⟨h0,h1⟩|rfl)
     · exact ⟨h0,.inl h1⟩
     · exact ⟨hc.1,.inr rfl⟩
    ·
     rintro ⟨h0,h1|h1⟩
     · exact .inl ⟨h0,h1⟩
     · exact .inr h1.symm
   ·
    rw [if_neg hc,ih,hstep];constructor
    ·
     rintro ⟨h0,h1⟩;exact ⟨h0,.inl h1⟩
    ·
     rintro ⟨h0,h1|h1⟩
     · exact ⟨h0,h1⟩
     ·
      refine ⟨h0,?_⟩
      have h2:(Bb l row k).contains (As l y)=true:=by
       cases h3:(Bb l row k).contains (As l y) with
       |true=>rfl
       |false=>exact absurd (by rw [h3,decide_eq_true (by omega:0<As l y)];rfl) hc
      rw [List.contains_iff_mem,h1] at h2;exact (ih.1 h2).2
theorem M9 (l:List Pn) (row:List Id):∀k,(Bb l row k).length<=k
 |0=>As7 _
 |k+1=>by
  have ih:=M9 l row k;unfold Bb
  split
  ·
   split
   ·
    rw [At3,At4];omega
   · omega
  · omega
theorem St (l:List Pn) (row:List Id):∀k,(Bb l row k).Nodup
 |0=>List.nodup_nil
 |k+1=>by
  have ih:=St l row k;unfold Bb
  split
  ·
   rename_i y _
   split
   ·
    rename_i hc;rw [As8,At5] at hc;refine List.nodup_append.2 ⟨ih,by simp,fun a ha b hb=> ?_⟩;obtain rfl:=List.mem_singleton.1 hb;rintro rfl;rw [List.contains_iff_mem.2 ha] at hc
    cases hc.2
   · exact ih
  · exact ih
theorem Kh (l : List Pn) (row : List Id) : ∀ (j k : Nat), j <= k -> Bb l row j <+: Bb l row k
  | j, 0, h => by obtain rfl : j = 0 := by omega
                  exact At0 _
  | j, k + 1, h => by
    rcases As9 k j with hj | hj
    · obtain rfl : j = k + 1 := by omega
      exact At0 _
    · refine (Kh l row j k hj).trans ?_
      conv => rhs; unfold Bb
      split
      · split
        · exact List.prefix_append _ _
        · exact At0 _
      · exact At0 _
theorem Su (l:List Pn) (row:List Id) (n:Nat):∀k,k<=n->Bb l (row.take n) k=Bb l row k
 |0,_=>rfl
 |k+1,h=>by
  unfold Bb;rw [Su l row n k (by omega),List.getElem?_take_of_lt (by omega)]
theorem Ak9 (l:List Pn) (row:List Id) (n:Nat) (hn:n<=row.length):Cc l (row.take n)<+:Cc l row:=by
 unfold Cc;rw [List.length_take,Nat.min_eq_left hn,Su l row n n (As7 _)];exact Kh l row n _ hn
theorem Na {α:Type} {f:α->Bool}:∀{xs:List α} {p:Nat} {x:α},xs[p]? =some x->f x=true->(∀(j:Nat) (y:α),j<p->xs[j]? =some y->f y=false)->xs.find? f=some x
 |[],_,_,h,_,_=>by simp at h
 |a::r,0,x,h,hx,_=>by
  rw [At1] at h;injection h with h
  subst h;rw [List.find?_cons_of_pos hx]
 |a::r,p+1,x,h,hx,hj=>by
  rw [At6] at h;have ha:=hj 0 a (by omega) (by rw [At1]);rw [List.find?_cons_of_neg (by rw [ha];exact Bool.false_ne_true)];exact Na h hx (fun j y hjp hy=>hj (j+1) y (by omega) (by rw [At6];exact hy))
theorem Sv {l:List Pn} {row:List Id}:∀(k i:Nat) (d:Int),(Bb l row k)[i]? =some d->0<d/\∃(p:Nat) (x:Id),p<k/\row[p]? =some x/\As l x=d/\(∀(j:Nat) (y:Id),j<p->row[j]? =some y->As l y≠d)/\(Bb l row p).length=i
 |0,i,d,h=>by unfold Bb at h;simp at h
 |k+1,i,d,h=>by
  have ih:=Sv (l:=l) (row:=row) k i d
  have keep:(Bb l row k)[i]? =some d->0<d/\∃(p:Nat) (x:Id),p<k+1/\row[p]? =some x/\As l x=d/\(∀(j:Nat) (y:Id),j<p->row[j]? =some y->As l y≠d)/\(Bb l row p).length=i:=fun h=>by
   obtain ⟨h0,p,x,h1,h2⟩:=ih h;exact ⟨h0,p,x,by omega,h2⟩
  unfold Bb at h
  cases hx:row[k]? with
  |none=>rw [hx] at h;exact keep h
  |some y=>
   rw [hx] at h;dsimp only at h
   by_cases hc:(decide (0<As l y)&& !(Bb l row k).contains (As l y))=true
   ·
    rw [if_pos hc] at h
    rcases As9 i (Bb l row k).length with hi|hi
    ·
     rw [List.getElem?_append_left hi] at h;exact keep h
    ·
     have hlen:=(List.getElem?_eq_some_iff.1 h).1;rw [At3,At4] at hlen;have e:i=(Bb l row k).length:=by omega
     rw [List.getElem?_append_right hi,e,Nat.sub_self,At1] at h;injection h with h
     rw [As8,decide_eq_true_iff,At5] at hc;refine ⟨by omega,k,y,by omega,hx,h,fun j z hj hz e2=> ?_,e.symm⟩;have hm:As l y∈Bb l row k:=(Ss k).2 ⟨hc.1,j,z,hj,hz,by rw [e2,h]⟩;rw [List.contains_iff_mem.2 hm] at hc
     cases hc.2
   ·
    rw [if_neg hc] at h;exact keep h
theorem Al0 {l:List Pn} {row:List Id} {i:Nat} {d:Int} (h:(Cc l row)[i]? =some d):∃(p:Nat) (x:Id),row[p]? =some x/\Ea l row d=some x/\(Bb l row p).length=i:=by
 obtain ⟨h0,p,x,_,h2,h3,h4,h5⟩:=Sv row.length i d h;refine ⟨p,x,h2,Na h2 ?_ (fun j y hj hy=> ?_),h5⟩
 · rw [h3,decide_eq_true h0,beq_self_eq_true];rfl
 ·
  rw [Bool.and_eq_false_iff];exact .inr (beq_eq_false_iff_ne.2 (h4 j y hj hy))
theorem Al1 {l:List Pn} {row:List Id} {p q:Nat} (h:(Bb l row p).length<(Bb l row q).length):p<q:=by
 rcases As9 p q with h1|h1
 · exact h1
 ·
  have:=(Kh l row q p h1).length_le;omega
end Oq
end
section
open Go.RowKit Go.Sort
section
variable {P : Program} {ops : Array Oper} {Q : Exit -> Act -> World -> Prop} {md : Region.Mode} {S : World -> Prop} {g : Nat}
theorem Al2 {i:Nat} {oi:Oper} {v:Value} (hi:ops[i]? =some oi) (hgi:g≠i)
  (hsel:∀(j:Nat) (o:Oper) cs b,ops[j]? =some o->o.op≠ .select cs b) (hQ:∀c a w,Q (.panic c) (a.put oi.dst v) w->Q (.panic c) a w):
  ∀(fuel:Nat) (listed:Array Bool) (a:Act) (w:World),(listed.getD g true=false->S w)->
   (∀j oj,ops[j]? =some oj->j≠i->listed.getD j true=false->(∀e∈oj.after,Region.binds md e=true->e.on≠i)->oi.apart ops oj=true)->
   i∈Region.ready md ops listed->YieldsIf P ops (fun _=>True) oi v a->
   Ct P md ops Q S g fuel (listed.setIfInBounds i true) (a.put oi.dst v) w->Ct P md ops Q S g (fuel+1) listed a w:=by
 intro fuel
 induction fuel with
 |zero=>
  intro listed a w hS _ hr hy H;refine ⟨fun h=>(by rw [h] at hr;cases hr),fun j hj=> ?_⟩
  by_cases hji:j=i
  · subst hji;exact hy.wpOp hi trivial ⟨fun h0=>hS (by rw [getD_set_ne true (Ne.symm hgi)] at h0;exact h0),H⟩
  ·
   have h0:=ready_mono hj hji;rw [H.1] at h0
   cases h0
 |succ k ih=>
  intro listed a w hS hfree hr hy H;refine ⟨fun h=>(by rw [h] at hr;cases hr),fun j hj=> ?_⟩
  by_cases hji:j=i
  · subst hji;exact hy.wpOp hi trivial ⟨fun h0=>hS (by rw [getD_set_ne true (Ne.symm hgi)] at h0;exact h0),H⟩
  ·
   have hpend:=(mem_ready.1 hr).1;obtain ⟨hjun,oj,hoj,hall⟩:=mem_ready.1 hj
   have hbl:∀e∈oj.after,Region.binds md e=true->e.on≠i:=fun e he hb heq=>by
    have h1:=hall e he hb;rw [heq] at h1
    rcases As9 i listed.size with h'|h'
    · simp [h'] at hpend h1;rw [hpend] at h1;cases h1
    · simp [Array.getElem?_eq_none h'] at h1
   have h1:=H.2 j (ready_mono hj hji);have h2:=wpOp_putIf hoj (hfree j oj hoj hji hjun hbl) (fun cs b=>hsel i oi cs b hi) (fun cs b=>hsel j oj cs b hoj) hQ hy h1
   have hfree':∀m om,ops[m]? =some om->m≠i->(listed.setIfInBounds j true).getD m true=false->
     (∀e∈om.after,Region.binds md e=true->e.on≠i)->oi.apart ops om=true:=fun m om hm hmi hun hno=>by
    refine hfree m om hm hmi ?_ hno
    by_cases hjm:j=m
    · subst hjm;exact hjun
    · rw [getD_set_ne true hjm] at hun;exact hun
   refine wpOp_mono (fun a' w' h3=> ?_) h2;have hS':(listed.setIfInBounds j true).getD g true=false->S w':=fun h0=>h3.2.1 (by rw [At7 _ _ (Ne.symm hji),getD_set_ne true (Ne.symm hgi)];exact h0);refine ⟨hS',ih _ a' w' hS' hfree' (ready_mono hr (Ne.symm hji)) h3.1 ?_⟩;rw [At7 _ _ hji];exact h3.2.2
end
theorem tkP (i:Nat) {P:Program} {Q:Exit->Act->World->Prop} {md:Region.Mode} {S:World->Prop} {gt:Nat} {l:List Oper} {d:Tmp} {op:Go.Op} {ty:TypeId} {pos:String} {after:Array Edge} {g:Option (Nat × Bool)} {v:Value} {fuel:Nat} {listed:Array Bool} {tl:List Value} {ds:List Deferred} {w:World} (hS:S w)
  (h:Ct P md l.toArray Q S gt fuel (listed.setIfInBounds i true) ⟨(tl.set d v).toArray,ds⟩ w) (hi:l[i]? =some ⟨some d,op,ty,pos,after,g⟩:=by rfl)
  (hgate:(gt !=i)=true:=by kernel_rfl)
  (hs:Region.noSelect l.toArray=true:=by kernel_rfl) (hf:Region.free md l.toArray listed i=true:=by kernel_rfl) (hr:(Region.ready md l.toArray listed).contains i=true:=by kernel_rfl)
  (hQ:∀c a w,Q (.panic c) (a.put (some d) v) w->Q (.panic c) a w:=by exact fun _ _ _ h=>h) (hy:YieldsIf P l.toArray (fun _=>True) ⟨some d,op,ty,pos,after,g⟩ v ⟨tl.toArray,ds⟩:=by (refine Or.inl ⟨by kernel_rfl,?_⟩;intro w' _;go_simp;(try with_reducible rfl))):
  Ct P md l.toArray Q S gt (fuel+1) listed ⟨tl.toArray,ds⟩ w:=by
 have hi':l.toArray[i]? =some ⟨some d,op,ty,pos,after,g⟩:=by rw [List.getElem?_toArray];exact hi
 exact Al2 hi' (bne_iff_ne.1 hgate) (Region.noSelect_spec hs) hQ fuel listed _ w (fun _=>hS) (Region.free_spec hi' hf) (by simpa using hr) hy (by rw [Ad];exact h)
namespace Oq
theorem G6 (p v:Value):Instr.storeAt 38 p v=stS 38 p v:=rfl
def Cp (w:World) (g k:Nat) (x:Id):World:=((w.setCell ⟨g,k,none⟩ (.int .i64 x.b)).setCell ⟨g,k+1,none⟩ (.int .i64 x.s)).setCell ⟨g,k+2,none⟩ (.int .u64 (x.u:Int))
theorem Al3 {w:World} {g k:Nat} (x:Id) (h:∀j,j<3->(w.cell? ⟨g,k+j,none⟩).isSome=true/\w.frozen? ⟨g,k+j,none⟩=false):
  (stS 38 (.pointer (some ⟨g,k,none⟩)) (.agg x.V)).run zp w=.ok () (Cp w g k x):=by
 have h0:=h 0 (by omega);have h1:=h 1 (by omega);have h2:=h 2 (by omega);rw [Nat.add_zero] at h0;obtain ⟨v0,y0⟩:=Option.isSome_iff_exists.1 h0.1;obtain ⟨v1,y1⟩:=Option.isSome_iff_exists.1 h1.1;obtain ⟨v2,y2⟩:=Option.isSome_iff_exists.1 h2.1;have z0:=h0.2;have z1:=h1.2;have z2:=h2.2;unfold stS Cp;go_simp
structure Srt (w0 v:World) (base:Nat) (A:Option Addr) (c:Nat) (d:Array Id):Prop where
 own:Own v base 38 3 A d.size c (d.toList.flatMap Id.cells)
 fr:Fr Non w0 v
 ok:∀x∈d.toList,x.ok
 base:w0.heap.size<=base
theorem Srt.non {w0 v v':World} {base c:Nat} {A:Option Addr} {d:Array Id} (h:Srt w0 v base A c d) (hf:Fr Non v v'):Srt w0 v' base A c d:=
 ⟨h.own.fr hf zr,h.fr.trans hf zr,h.ok,h.base⟩
theorem Srt.at {w0 v:World} {base c:Nat} {A:Option Addr} {d:Array Id} (h:Srt w0 v base A c d) {i:Nat} (hi:i<d.size):
  ∃g,A=some ⟨g,0,none⟩/\base<=g/\g<v.heap.size:=by
 rcases h.own.2 with ⟨_,hn⟩|⟨g,cap,cur,hv,_⟩
 · omega
 ·
  injection hv with hA _ _
  exact ⟨g,hA,(h.own.row g (by rw [hA];rfl)).1,(h.own.row g (by rw [hA];rfl)).2⟩
theorem Fy {d:Array Id} {i:Nat} (hi:i<d.size):d.toList[i]? =some d[i]! :=by
 rw [Array.getElem?_toList,Array.getElem?_eq_getElem hi,getElem!_pos d i hi]
theorem Srt.cells {w0 v:World} {base c g:Nat} {d:Array Id} (h:Srt w0 v base (some ⟨g,0,none⟩) c d) {i:Nat} (hi:i<d.size):
  v.cell? ⟨g,i*3,none⟩=some (.int .i64 d[i]!.b)/\v.cell? ⟨g,i*3+1,none⟩=some (.int .i64 d[i]!.s)/\v.cell? ⟨g,i*3+2,none⟩=some (.int .u64 (d[i]!.u:Int)):=by
 obtain ⟨b,off,hA,_,k0,k1,k2⟩:=Id.at h.own.rd (Fy hi);obtain ⟨rfl,rfl⟩:g=b/\0=off:=by injection hA with e;injection e with e1 e2;exact ⟨e1,e2⟩
 rw [Nat.zero_add] at k0 k1 k2;exact ⟨k0,k1,k2⟩
theorem Srt.okAt {w0 v:World} {base c:Nat} {A:Option Addr} {d:Array Id} (h:Srt w0 v base A c d) {i:Nat} (hi:i<d.size):d[i]!.ok:=
 h.ok _ (List.mem_of_getElem? (Fy hi))
theorem Srt.put {w0 v:World} {base c g:Nat} {d:Array Id} (h:Srt w0 v base (some ⟨g,0,none⟩) c d) {i:Nat} (hi:i<d.size) {x:Id} (hx:x.ok):
  (stS 38 (.pointer (some ⟨g,i*3,none⟩)) (.agg x.V)).run zp v=.ok () (Cp v g (i*3) x)/\Srt w0 (Cp v g (i*3) x) base (some ⟨g,0,none⟩) c (d.setIfInBounds i x):=by
 obtain ⟨h1,h2⟩:=Own.putId h.own (Fy hi) hi x;have hg:=(h.own.row g rfl).1;have hb:=h.base;have hnn:∀k:Nat,Fr Non w0 w0:=fun _=>Fr.refl _ _;refine ⟨Al3 x h1,?_,?_,?_,hb⟩
 ·
  rw [At8,At9];exact h2
 · exact ((h.fr.setCell (p:=⟨g,i*3,none⟩) (fun hh=>absurd hh (by show ¬g<_;omega)) _).setCell (p:=⟨g,i*3+1,none⟩) (fun hh=>absurd hh (by show ¬g<_;omega)) _).setCell (p:=⟨g,i*3+2,none⟩) (fun hh=>absurd hh (by show ¬g<_;omega)) _
 ·
  intro z hz;rw [At9] at hz
  rcases List.mem_or_eq_of_mem_set hz with h3|h3
  · exact h.ok z h3
  · rw [h3];exact hx
theorem Srt.swap {w0 v:World} {base c g:Nat} {d:Array Id} (h:Srt w0 v base (some ⟨g,0,none⟩) c d) {i j:Nat} (hi:i<d.size) (hj:j<d.size):
  (stS 38 (.pointer (some ⟨g,i*3,none⟩)) (.agg #[.int .i64 d[j]!.b,.int .i64 d[j]!.s,.int .u64 (d[j]!.u:Int)])).run zp v=.ok () (Cp v g (i*3) d[j]!)/\
  (stS 38 (.pointer (some ⟨g,j*3,none⟩)) (.agg #[.int .i64 d[i]!.b,.int .i64 d[i]!.s,.int .u64 (d[i]!.u:Int)])).run zp (Cp v g (i*3) d[j]!)=.ok () (Cp (Cp v g (i*3) d[j]!) g (j*3) d[i]!)/\
  Srt w0 (Cp (Cp v g (i*3) d[j]!) g (j*3) d[i]!) base (some ⟨g,0,none⟩) c (swp d i j):=by
 obtain ⟨h1,h2⟩:=h.put hi (h.okAt hj);obtain ⟨h3,h4⟩:=h2.put (i:=j) (by rw [At8];exact hj) (h.okAt hi);exact ⟨h1,h3,h4⟩
structure Eu (w0:World) (fid:Nat) (pre post:Array Value) (cmp:Id->Id->Int):Prop where
 enters:∀args w,(callFunc fid args).run zp w=.ok (.enter fid args) w
 tells:∀(x y:Id) (v:World),Fr Non w0 v->x.ok->y.ok->Calls zp fid (pre++(#[.agg x.V,.agg y.V]++post)) v fun e v'=>e=.returned (.int .i64 (cmp x y))/\Fr Non v v'
def Ab (cmp:Id->Id->Int) (x y:Id):Bool:=decide (cmp x y<0)
def Ds (w0:World) (base:Nat) (A:Option Addr) (c:Nat) (d:Array Id) (e:Ending) (v:World):Prop:=e=.returned (.tuple #[])/\Srt w0 v base A c d
end Oq
end
section
open Go.RowKit Go.Sort
attribute [local go_sem ↓] Go.wp_at_zero Go.wp_at_succ
namespace Oq
attribute [local go_sem] Bool.not_false Bool.not_true
attribute [local go_sem ↓] G6
theorem Sw (w0 : World) (base c : Nat) (A : Option Addr) (d : Array Id) (n : Nat) (a b : Nat) (fid : Nat) (pre post : Array Value) (cmp : Id -> Id -> Int) (w : World)
    (hc : Eu w0 fid pre post cmp) (h : Srt w0 w base A c d) (hdn : d.size = n) (hn : n <= 1000) (hab : a <= b) (hb : b <= n) :
    Calls zp 198 #[.slice A n c, .int .i64 a, .int .i64 b, .func (.func fid) pre post] w (Ds w0 base A c (insertionSort (Ab cmp) d a b)) := by
  have eg := hc.enters;have HC := lh hc;have HS := lh h;clear hc h;have hfin : Hid (∀ dz wz, dz = insertionSort (Ab cmp) d a b -> Srt w0 wz base A c dz -> Ds w0 base A c (insertionSort (Ab cmp) d a b) (.returned (.tuple #[])) wz) := fun dz wz e hz => ⟨rfl, e ▸ hz⟩;generalize Ds w0 base A c (insertionSort (Ab cmp) d a b) = POST at *;go_enter func198, ntmps198;have e0 : IntKind.i64.wrap ((a : Int) + 1) = (a : Int) + 1 := IntWalk.i64_in _ (by omega);go_wp2_with fail
  go_loopw [8] (fun v wr => ∃ (i : Nat) (dk : Array Id), v = .int .i64 (i : Int) /\ a < i /\ i <= b + 1 /\ dk.size = n /\ Hid (Srt w0 wr base A c dk) /\ Hid (insOuter (Ab cmp) a b i dk = insertionSort (Ab cmp) d a b)) (fun v _ => b + 1 - (intOf v).toNat)
  case atStart => exact ⟨a + 1, d, by go_num, by omega, by omega, hdn, HS, rfl⟩
  case round =>
    obtain ⟨i, dk, rfl, hai, hib, hsk, hS, hO⟩ := hrel
    by_cases hlt : i < b
    · have i2 : (i : Int) < b := by omega
      have t0 : decide ((i : Int) < b) = true := decide_eq_true i2;have t0n : decide (i < b) = true := decide_eq_true hlt;have e1i : IntKind.i64.wrap ((i : Int) + 1) = (i : Int) + 1 := IntWalk.i64_in _ (by omega);go_wp2_with fail;generalize wr = wo at *
      go_loopw [9] (fun v wr => ∃ (j : Nat) (dj : Array Id), v = .int .i64 (j : Int) /\ a <= j /\ j <= i /\ dj.size = n /\ Hid (Srt w0 wr base A c dj) /\ Hid (insInner (Ab cmp) a j dj = insInner (Ab cmp) a i dk)) (fun v _ => (intOf v).toNat)
      case atStart => exact ⟨i, dk, rfl, by omega, As7 _, hsk, hS, rfl⟩
      case round =>
        clear hS;obtain ⟨j, dj, rfl, haj, hji, hsj, hS, hI⟩ := hrel
        have out : Hid ((j = 0 \/ (a < j && Ab cmp dj[j]! dj[j - 1]!) = false) -> insOuter (Ab cmp) a b (i + 1) dj = insertionSort (Ab cmp) d a b) := fun hs => by
          rw [<- hO.out];conv => rhs; unfold insOuter
          rw [if_pos hlt, <- hI.out]
          cases j with
          | zero => rfl
          | succ j =>
            unfold insInner
            rcases hs with hs | hs
            · omega
            · rw [if_neg (by rw [show j + 1 - 1 = j from rfl] at hs; simp only [gt_iff_lt]; rw [hs]; simp)]
        by_cases hja : a < j
        · obtain ⟨jp, rfl⟩ : ∃ jp, j = jp + 1 := ⟨j - 1, by omega⟩
          obtain ⟨g, rfl, hbg, hgw⟩ := hS.out.at (i := jp + 1) (by omega);have jc : ((jp + 1 : Nat) : Int) = (jp : Int) + 1 := by omega
          rw [jc];have j1 : (0 : Int) <= (jp : Int) + 1 := by omega
          have j2 : (jp : Int) + 1 < n := by omega
          have j3 : ((jp : Int) + 1).toNat = jp + 1 := by omega
          have k1 : (0 : Int) <= jp := by omega
          have k2 : (jp : Int) < n := by omega
          have k3 : (jp : Int).toNat = jp := by omega
          have wj : IntKind.i64.wrap (jp : Int) = (jp : Int) := IntWalk.i64_in _ (by omega);have wj1 : IntKind.i64.wrap ((jp : Int) + 1 - 1) = (jp : Int) := by rw [show (jp : Int) + 1 - 1 = jp by omega]; exact wj
          have u0 : decide ((a : Int) < (jp : Int) + 1) = true := decide_eq_true (by omega);have u0g : decide ((jp : Int) + 1 > (a : Int)) = true := u0;have u0n : decide (a < jp + 1) = true := decide_eq_true hja;go_upto_region 4 with (fail)
          obtain ⟨x, hx⟩ := Aa dj[jp + 1]!;obtain ⟨y, hy⟩ := Aa dj[jp]!;have hcx := hS.out.cells (i := (jp + 1)) (by omega);have hcy := hS.out.cells (i := jp) (by omega);rw [hx.out] at hcx;rw [hy.out] at hcy;have Pa0 : cI wr g ((jp + 1) * 3) x.b := hcx.1;have Pb0 : cI wr g ((jp + 1) * 3 + 1) x.s := hcx.2.1;have Pc0 : cU wr g ((jp + 1) * 3 + 2) x.u := hcx.2.2;have Qa0 : cI wr g (jp * 3) y.b := hcy.1;have Qb0 : cI wr g (jp * 3 + 1) y.s := hcy.2.1;have Qc0 : cU wr g (jp * 3 + 2) y.u := hcy.2.2;have F0 : Fr Non wr wr.drew := (Fr.refl Non wr).drew;have kc := lh (fun (v : World) (hv : Fr Non wr v) => HC.out.tells x y v (hS.out.fr.trans hv (fun _ _ e => e)) (by rw [<- hx.out]; exact hS.out.okAt (by omega)) (by rw [<- hy.out]; exact hS.out.okAt (by omega)))
          rcases Bool.eq_false_or_eq_true (decide (cmp x y < 0)) with cT | cT
          · have hct : Ab cmp dj[jp + 1]! dj[jp]! = true := by rw [hx.out, hy.out]; exact cT
            refine wp_region_held_drew (S := fun w' => cI w' g ((jp + 1) * 3) x.b /\ cI w' g ((jp + 1) * 3 + 1) x.s /\ cU w' g ((jp + 1) * 3 + 2) x.u /\ cI w' g (jp * 3) y.b /\ cI w' g (jp * 3 + 1) y.s /\ cU w' g (jp * 3 + 2) y.u) (by kernel_rfl) ⟨Pa0, Pb0, Pc0, Qa0, Qb0, Qc0⟩ (fun hHeld=> ?_);clear hHeld;have uu:=aI Pa0 (aI Pb0 (aI Pc0 (aI Qa0 (aI Qb0 Qc0))));refine tkH 0 uu (h:=tkH 1 uu (h:=tkH 2 uu (h:=tkH 3 uu (h:=tkH 4 uu (h:=tkH 5 uu (h:=tkH 6 uu (h:=tkH 7 uu (h:=tkH 8 uu (h:=tkH 9 uu (h:=tkH 10 uu (h:=tkH 11 uu (h:=?_))))))))))));clear uu;simp only [zl];refine tkH 12 ⟨Pa0, Pb0, Pc0, Qa0, Qb0, Qc0⟩ (h:=tkH 13 ⟨Pa0, Pb0, Pc0, Qa0, Qb0, Qc0⟩ (h:=?_));simp only [zl];refine He 14 (by kernel_rfl) rfl (by kernel_rfl) (fun K hK => ?_);go_simp;go_wp2_with fail;refine (kc.out _ F0).mono ?_;rintro _ v1 ⟨rfl, f1⟩;have F1 := F0.trans f1 (fun _ _ e => e);have Pa1 := F1.cell Pa0 (fun e => e);have Pb1 := F1.cell Pb0 (fun e => e);have Pc1 := F1.cell Pc0 (fun e => e);have Qa1 := F1.cell Qa0 (fun e => e);have Qb1 := F1.cell Qb0 (fun e => e);have Qc1 := F1.cell Qc0 (fun e => e);refine hK.out _ _ ⟨Pa1, Pb1, Pc1, Qa1, Qb1, Qc1⟩ (fun hZ => ?_);clear hZ hK K;try simp only [Ad, zl]
            refine tkH 15 ⟨Pa1, Pb1, Pc1, Qa1, Qb1, Qc1⟩ (h:=tkH 16 ⟨Pa1, Pb1, Pc1, Qa1, Qb1, Qc1⟩ (h:=?_));simp only [zl];refine wpAnyH_done (by kernel_rfl) ?_ _;go_simp;replace hct := lh hct;go_upto_region 6 with (fail)
            have hS1 := lh (hS.out.non F1);clear hS hcx hcy kc Pa0 Pb0 Pc0 Qa0 Qb0 Qc0 Pa1 Pb1 Pc1 Qa1 Qb1 Qc1 F0 f1 hx hy;generalize v1 = u1 at *;obtain ⟨x, hx⟩ := Aa dj[jp + 1]!;obtain ⟨y, hy⟩ := Aa dj[jp]!;have hcx := hS1.out.cells (i := (jp + 1)) (by omega);have hcy := hS1.out.cells (i := jp) (by omega);rw [hx.out] at hcx;rw [hy.out] at hcy;have Pa0 : cI u1 g ((jp + 1) * 3) x.b := hcx.1;have Pb0 : cI u1 g ((jp + 1) * 3 + 1) x.s := hcx.2.1;have Pc0 : cU u1 g ((jp + 1) * 3 + 2) x.u := hcx.2.2;have Qa0 : cI u1 g (jp * 3) y.b := hcy.1;have Qb0 : cI u1 g (jp * 3 + 1) y.s := hcy.2.1;have Qc0 : cU u1 g (jp * 3 + 2) y.u := hcy.2.2;have F0 : Fr Non u1 u1.drew := (Fr.refl Non u1).drew;have hsw := (show Srt w0 u1.drew base _ c _ from hS1.out.non F0).swap (i := (jp + 1)) (j := jp) (by omega) (by omega);rw [hx.out, hy.out] at hsw;obtain ⟨st1, st2, hsz⟩ := hsw;refine Cn (S := fun w' => cI w' g ((jp + 1) * 3) x.b /\ cI w' g ((jp + 1) * 3 + 1) x.s /\ cU w' g ((jp + 1) * 3 + 2) x.u /\ cI w' g (jp * 3) y.b /\ cI w' g (jp * 3 + 1) y.s /\ cU w' g (jp * 3 + 2) y.u) 15 (by kernel_rfl) ?_;refine tkG 0 ⟨Pa0, Pb0, Pc0, Qa0, Qb0, Qc0⟩ (h:=tkG 1 ⟨Pa0, Pb0, Pc0, Qa0, Qb0, Qc0⟩ (h:=?_));simp only [zl];refine tkP 2 ⟨Pa0, Pb0, Pc0, Qa0, Qb0, Qc0⟩ ?_;simp only [zl];refine tkP 3 ⟨Pa0, Pb0, Pc0, Qa0, Qb0, Qc0⟩ ?_;simp only [zl];refine tkP 4 ⟨Pa0, Pb0, Pc0, Qa0, Qb0, Qc0⟩ ?_;simp only [zl];have uu:=aI Pa0 (aI Pb0 (aI Pc0 (aI Qa0 (aI Qb0 Qc0))));refine tkG 5 uu (h:=tkG 6 uu (h:=tkG 7 uu (h:=tkG 8 uu (h:=tkG 9 uu (h:=?_)))));clear uu;simp only [zl];refine tkP 10 ⟨Pa0, Pb0, Pc0, Qa0, Qb0, Qc0⟩ ?_;simp only [zl];refine tkP 11 ⟨Pa0, Pb0, Pc0, Qa0, Qb0, Qc0⟩ ?_;simp only [zl];refine tkP 12 ⟨Pa0, Pb0, Pc0, Qa0, Qb0, Qc0⟩ ?_;simp only [zl];refine tkG 13 ⟨Pa0, Pb0, Pc0, Qa0, Qb0, Qc0⟩ (h:=tkG 14 ⟨Pa0, Pb0, Pc0, Qa0, Qb0, Qc0⟩ (h:=?_));simp only [zl];refine Ci (by kernel_rfl) ?_;refine He 15 (by kernel_rfl) rfl (by kernel_rfl) (fun K hK => ?_);go_simp;refine hK.out _ _ trivial (fun hZ => ?_);clear hZ hK K;try simp only [Ad, zl]
            refine tkH 16 trivial (h:=?_);simp only [zl];refine He 17 (by kernel_rfl) rfl (by kernel_rfl) (fun K hK => ?_);go_simp;refine hK.out _ _ trivial (fun hZ => ?_);clear hZ hK K;try simp only [Ad, zl]
            refine wpAnyH_done (by kernel_rfl) ?_ _;go_simp;clear st1 st2;generalize Cp (Cp u1.drew g ((jp + 1) * 3) y) g (jp * 3) x = wz at *
            have hI2 : Hid (insInner (Ab cmp) a jp (swp dj (jp + 1) jp) = insInner (Ab cmp) a i dk) := by
              show _ = _;rw [<- hI.out];conv => rhs; unfold insInner
              rw [if_pos (by rw [hct.out, Bool.and_true]; exact decide_eq_true hja)]
            have hsz2 := lh hsz;clear hsz;go_wp2_with fail;go_roundw
            case rel => exact ⟨jp, swp dj (jp + 1) jp, by go_num, by omega, by omega, by rw [size_swp]; exact hsj, hsz2, hI2⟩
            case measure => first | (simp [intOf]; done) | (simp [intOf]; omega)
          · have hct : Ab cmp dj[jp + 1]! dj[jp]! = false := by rw [hx.out, hy.out]; exact cT
            refine wp_region_held_drew (S := fun w' => cI w' g ((jp + 1) * 3) x.b /\ cI w' g ((jp + 1) * 3 + 1) x.s /\ cU w' g ((jp + 1) * 3 + 2) x.u /\ cI w' g (jp * 3) y.b /\ cI w' g (jp * 3 + 1) y.s /\ cU w' g (jp * 3 + 2) y.u) (by kernel_rfl) ⟨Pa0, Pb0, Pc0, Qa0, Qb0, Qc0⟩ (fun hHeld=> ?_);clear hHeld;have uu:=aI Pa0 (aI Pb0 (aI Pc0 (aI Qa0 (aI Qb0 Qc0))));refine tkH 0 uu (h:=tkH 1 uu (h:=tkH 2 uu (h:=tkH 3 uu (h:=tkH 4 uu (h:=tkH 5 uu (h:=tkH 6 uu (h:=tkH 7 uu (h:=tkH 8 uu (h:=tkH 9 uu (h:=tkH 10 uu (h:=tkH 11 uu (h:=?_))))))))))));clear uu;simp only [zl];refine tkH 12 ⟨Pa0, Pb0, Pc0, Qa0, Qb0, Qc0⟩ (h:=tkH 13 ⟨Pa0, Pb0, Pc0, Qa0, Qb0, Qc0⟩ (h:=?_));simp only [zl];refine He 14 (by kernel_rfl) rfl (by kernel_rfl) (fun K hK => ?_);go_simp;go_wp2_with fail;refine (kc.out _ F0).mono ?_;rintro _ v1 ⟨rfl, f1⟩;have F1 := F0.trans f1 (fun _ _ e => e);have Pa1 := F1.cell Pa0 (fun e => e);have Pb1 := F1.cell Pb0 (fun e => e);have Pc1 := F1.cell Pc0 (fun e => e);have Qa1 := F1.cell Qa0 (fun e => e);have Qb1 := F1.cell Qb0 (fun e => e);have Qc1 := F1.cell Qc0 (fun e => e);refine hK.out _ _ ⟨Pa1, Pb1, Pc1, Qa1, Qb1, Qc1⟩ (fun hZ => ?_);clear hZ hK K;try simp only [Ad, zl]
            refine tkH 15 ⟨Pa1, Pb1, Pc1, Qa1, Qb1, Qc1⟩ (h:=tkH 16 ⟨Pa1, Pb1, Pc1, Qa1, Qb1, Qc1⟩ (h:=?_));simp only [zl];refine wpAnyH_done (by kernel_rfl) ?_ _;go_simp;have hO2 := lh (out.out (.inr (by rw [show jp + 1 - 1 = jp from rfl, hct, Bool.and_false])));have hS1 := lh (hS.out.non F1);clear hct out Pa0 Pb0 Pc0 Qa0 Qb0 Qc0 Pa1 Pb1 Pc1 Qa1 Qb1 Qc1;go_wp2_with fail;go_roundw
            case rel => exact ⟨i + 1, dj, by go_num, by omega, by omega, hsj, hS1, hO2⟩
            case measure => first | (simp [intOf]; done) | (simp [intOf]; omega)
        · have hO2 := lh (out.out (.inr (by rw [decide_eq_false hja, Bool.false_and])))
          have u0 : decide ((a : Int) < (j : Int)) = false := decide_eq_false (by omega);have u0g : decide ((j : Int) > (a : Int)) = false := u0;have u0n : decide (a < j) = false := decide_eq_false hja;have F0 : Fr Non wr wr.drew := (Fr.refl Non wr).drew;have hS1 := lh (hS.out.non F0);go_upto_region 4 with (fail)
          have Z0 : True := trivial;refine wp_region_held_drew (S := fun w' => True) (by kernel_rfl) Z0 (fun hHeld=> ?_);clear hHeld;refine tkH 0 Z0 (h:=tkH 1 Z0 (h:=tkH 2 Z0 (h:=tkH 3 Z0 (h:=skH 4 Z0 (h:=skH 5 Z0 (h:=skH 6 Z0 (h:=skH 7 Z0 (h:=skH 8 Z0 (h:=skH 9 Z0 (h:=skH 10 Z0 (h:=skH 11 Z0 (h:=?_))))))))))));simp only [zl];refine skH 12 Z0 (h:=skH 13 Z0 (h:=skH 14 Z0 (h:=skH 15 Z0 (h:=tkH 16 Z0 (h:=?_)))));simp only [zl];refine wpAnyH_done (by kernel_rfl) ?_ _;go_simp;clear Z0;clear out;go_wp2_with fail;go_roundw
          case rel => exact ⟨i + 1, dj, by go_num, by omega, by omega, hsj, hS1, hO2⟩
          case measure => first | (simp [intOf]; done) | (simp [intOf]; omega)
    · have t0 : decide ((i : Int) < b) = false := decide_eq_false (by omega)
      have t0n : decide (i < b) = false := decide_eq_false hlt
      have hd := lh (hfin.out dk wr (by rw [<- hO.out]; (conv => rhs; unfold insOuter); rw [if_neg hlt]) hS.out)
      clear hfin hO;go_wp2_with fail
      go_end0
      exact hd.out
def E5 (w0:World) (base:Nat) (A:Option Addr) (c:Nat) (d:Array Id) (g2:Nat) (s:Nat) (v:Value) (e:Ending) (w':World):Prop:=e=.returned v/\Srt w0 w' base A c d/\Blk w' g2 3 #[.int .i64 (s:Int)]
theorem Srt.cnt {w0 v:World} {base c g2:Nat} {A:Option Addr} {d:Array Id} {cs:Array Value} (h:Srt w0 v base A c d) (hb:Blk v g2 3 cs) (hg:w0.heap.size<=g2) (u:Value):Srt w0 (v.setCell ⟨g2,0,none⟩ u) base A c d:=
 ⟨h.own.setOne (h.own.ne hb (by decide)),h.fr.setCell (p:=⟨g2,0,none⟩) (fun hh=>absurd hh (by show ¬g2<_;omega)) u,h.ok,h.base⟩
theorem Sx {d:Array Id} {lt:Id->Id->Bool} {i j s n:Nat} (hi:i<n) (hj:j<n):(order2 lt d i j s).1<n/\(order2 lt d i j s).2.1<n/\(order2 lt d i j s).2.2<=s+1:=by
 unfold order2
 split
 · exact ⟨hj,hi,As7 _⟩
 · exact ⟨hi,hj,Nat.le_succ _⟩
theorem Al4 (w0:World) (base c:Nat) (A:Option Addr) (d:Array Id) (n:Nat) (i j s g2:Nat) (fid:Nat) (pre post:Array Value) (cmp:Id->Id->Int) (w:World)
  (hc:Eu w0 fid pre post cmp) (h:Srt w0 w base A c d) (hdn:d.size=n) (_hn:n<=1000) (hi:i<n) (hj:j<n) (hs:s<=1000) (hg2:w0.heap.size<=g2) (hb:Blk w g2 3 #[.int .i64 (s:Int)]):
  Calls zp 246 #[.slice A n c,.int .i64 i,.int .i64 j,.pointer (some ⟨g2,0,none⟩),.func (.func fid) pre post] w (E5 w0 base A c d g2 (order2 (Ab cmp) d i j s).2.2 (.tuple #[.int .i64 ((order2 (Ab cmp) d i j s).1:Int),.int .i64 ((order2 (Ab cmp) d i j s).2.1:Int)])):=by
 have eg:=hc.enters;have HC:=lh hc;have HS:=lh h;clear hc h;obtain ⟨g,rfl,ax,aw⟩:=HS.out.at (i:=i) (by omega);have hT:Hid (Ab cmp d[j]! d[i]! =true->∀wz,Srt w0 wz base (some ⟨g,0,none⟩) c d->Blk wz g2 3 #[.int .i64 ((s:Int)+1)]->E5 w0 base (some ⟨g,0,none⟩) c d g2 (order2 (Ab cmp) d i j s).2.2 (.tuple #[.int .i64 ((order2 (Ab cmp) d i j s).1:Int),.int .i64 ((order2 (Ab cmp) d i j s).2.1:Int)]) (.returned (.tuple #[.int .i64 (j:Int),.int .i64 (i:Int)])) wz):=fun h wz h1 h2=>by unfold order2;rw [if_pos h];exact ⟨rfl,h1,h2⟩
 have hF:Hid (Ab cmp d[j]! d[i]! =false->∀wz,Srt w0 wz base (some ⟨g,0,none⟩) c d->Blk wz g2 3 #[.int .i64 (s:Int)]->E5 w0 base (some ⟨g,0,none⟩) c d g2 (order2 (Ab cmp) d i j s).2.2 (.tuple #[.int .i64 ((order2 (Ab cmp) d i j s).1:Int),.int .i64 ((order2 (Ab cmp) d i j s).2.1:Int)]) (.returned (.tuple #[.int .i64 (i:Int),.int .i64 (j:Int)])) wz):=fun h wz h1 h2=>by unfold order2;rw [if_neg (by rw [h];simp)];exact ⟨rfl,h1,h2⟩
 generalize E5 w0 base (some ⟨g,0,none⟩) c d g2 (order2 (Ab cmp) d i j s).2.2 (.tuple #[.int .i64 ((order2 (Ab cmp) d i j s).1:Int),.int .i64 ((order2 (Ab cmp) d i j s).2.1:Int)])=POST at*;go_enter func246,ntmps246;have i1:(0:Int)<=i:=by omega
 have i2:(i:Int)<n:=by omega
 have i3:(i:Int).toNat=i:=by omega
 have j1:(0:Int)<=j:=by omega
 have j2:(j:Int)<n:=by omega
 have j3:(j:Int).toNat=j:=by omega
 have es:IntKind.i64.wrap ((s:Int)+1)=(s:Int)+1:=IntWalk.i64_in _ (by omega);have hS:=HS;clear HS;go_upto_region 1 with (fail)
 obtain ⟨x,hx⟩:=Aa d[j]!;obtain ⟨y,hy⟩:=Aa d[i]!;have ap:=hS.out.cells (i:=j) (by omega);have aq:=hS.out.cells (i:=i) (by omega);rw [hx.out] at ap;rw [hy.out] at aq;have ab:cI w g (j*3) x.b:=ap.1;have af:cI w g (j*3+1) x.s:=ap.2.1;have ad:cU w g (j*3+2) x.u:=ap.2.2;have aa:cI w g (i*3) y.b:=aq.1;have ac:cI w g (i*3+1) y.s:=aq.2.1;have ae:cU w g (i*3+2) y.u:=aq.2.2;have F0:Fr Non w w.drew:=(Fr.refl Non w).drew;have kc:=lh (fun (v:World) (hv:Fr Non w v)=>HC.out.tells x y v (hS.out.fr.trans hv zr) (by rw [<- hx.out];exact hS.out.okAt (by omega)) (by rw [<- hy.out];exact hS.out.okAt (by omega)))
 rcases zb (decide (cmp x y<0)) with cT|cT
 ·
  have ar:Ab cmp d[j]! d[i]! =true:=by rw [hx.out,hy.out];exact cT
  have hd:=lh (hT.out ar);clear hT hF ar;refine wp_region_held_drew (S:=fun w'=>cI w' g (j*3) x.b/\cI w' g (j*3+1) x.s/\cU w' g (j*3+2) x.u/\cI w' g (i*3) y.b/\cI w' g (i*3+1) y.s/\cU w' g (i*3+2) y.u) (by kernel_rfl) ⟨ab,af,ad,aa,ac,ae⟩ (fun hHeld=> ?_);clear hHeld;have uu:=aI ab (aI af (aI ad (aI aa (aI ac ae))));refine tkH 0 uu (h:=tkH 1 uu (h:=tkH 2 uu (h:=tkH 3 uu (h:=tkH 4 uu (h:=tkH 5 uu (h:=tkH 6 uu (h:=tkH 7 uu (h:=tkH 8 uu (h:=?_)))))))));clear uu;simp only [zl];refine oG 9 (fun K hK=> ?_);go_simp;go_wp2_with fail;refine (kc.out _ F0).mono ?_;rintro _ v1 ⟨rfl,f1⟩;have F1:=F0.trans f1 zr;have ag:=F1.cell ab zq;have ai:=F1.cell af zq;have aj:=F1.cell ad zq;have al:=F1.cell aa zq;have ah:=F1.cell ac zq;have ak:=F1.cell ae zq;refine hK.out _ _ ⟨ag,ai,aj,al,ah,ak⟩ (fun hZ=> ?_);clear hZ hK K;try simp only [Ad,zl]
  refine tkH 10 ⟨ag,ai,aj,al,ah,ak⟩ (h:=?_);simp only [zl];refine oD ?_;go_simp;have au:=lh (hS.out.non F1);have ao:=hb.fr F1 zq;have hz:=lh (au.out.cnt ao hg2 (.int .i64 ((s:Int)+1)));have av:Blk (v1.setCell ⟨g2,0,none⟩ (.int .i64 ((s:Int)+1))) g2 3 #[.int .i64 ((s:Int)+1)]:=ao.set 0 _;have az:cI v1 g2 0 (s:Int):=ao.cell 0;have ay:=ao.frozen 0;clear hS ap aq kc ab af ad aa ac ae ag ai aj al ah ak F0 f1 hb ao;go_wp2_with fail;exact hd.out _ hz.out av
 ·
  have ar:Ab cmp d[j]! d[i]! =false:=by rw [hx.out,hy.out];exact cT
  have hd:=lh (hF.out ar);clear hT hF ar;refine wp_region_held_drew (S:=fun w'=>cI w' g (j*3) x.b/\cI w' g (j*3+1) x.s/\cU w' g (j*3+2) x.u/\cI w' g (i*3) y.b/\cI w' g (i*3+1) y.s/\cU w' g (i*3+2) y.u) (by kernel_rfl) ⟨ab,af,ad,aa,ac,ae⟩ (fun hHeld=> ?_);clear hHeld;have uu:=aI ab (aI af (aI ad (aI aa (aI ac ae))));refine tkH 0 uu (h:=tkH 1 uu (h:=tkH 2 uu (h:=tkH 3 uu (h:=tkH 4 uu (h:=tkH 5 uu (h:=tkH 6 uu (h:=tkH 7 uu (h:=tkH 8 uu (h:=?_)))))))));clear uu;simp only [zl];refine oG 9 (fun K hK=> ?_);go_simp;go_wp2_with fail;refine (kc.out _ F0).mono ?_;rintro _ v1 ⟨rfl,f1⟩;have F1:=F0.trans f1 zr;have ag:=F1.cell ab zq;have ai:=F1.cell af zq;have aj:=F1.cell ad zq;have al:=F1.cell aa zq;have ah:=F1.cell ac zq;have ak:=F1.cell ae zq;refine hK.out _ _ ⟨ag,ai,aj,al,ah,ak⟩ (fun hZ=> ?_);clear hZ hK K;try simp only [Ad,zl]
  refine tkH 10 ⟨ag,ai,aj,al,ah,ak⟩ (h:=?_);simp only [zl];refine oD ?_;go_simp;have au:=lh (hS.out.non F1);have ao:=hb.fr F1 zq;clear hS ap aq kc ab af ad aa ac ae ag ai aj al ah ak F0 f1 hb;go_wp2_with fail;exact hd.out _ au.out ao
theorem Al5 (w0:World) (base c:Nat) (A:Option Addr) (d:Array Id) (n:Nat) (i j k s g2:Nat) (fid:Nat) (pre post:Array Value) (cmp:Id->Id->Int) (w:World)
  (hc:Eu w0 fid pre post cmp) (h:Srt w0 w base A c d) (hdn:d.size=n) (hn:n<=1000) (hi:i<n) (hj:j<n) (hk:k<n) (hs:s<=900) (hg2:w0.heap.size<=g2) (hb:Blk w g2 3 #[.int .i64 (s:Int)]):
  Calls zp 236 #[.slice A n c,.int .i64 i,.int .i64 j,.int .i64 k,.pointer (some ⟨g2,0,none⟩),.func (.func fid) pre post] w (E5 w0 base A c d g2 (median (Ab cmp) d i j k s).2 (.int .i64 ((median (Ab cmp) d i j k s).1:Int))):=by
 have eg:=hc.enters;have HC:=lh hc;have HS:=lh h;clear hc h;clear eg;have ko:=lh (fun (i j s:Nat) (v:World) (hS:Srt w0 v base A c d) (h1:i<n) (h2:j<n) (h3:s<=1000) (hb:Blk v g2 3 #[.int .i64 (s:Int)])=>Al4 w0 base c A d n i j s g2 fid pre post cmp v HC.out hS hdn hn h1 h2 h3 hg2 hb);obtain ⟨a1,a2,a3⟩:=Sx (lt:=Ab cmp) (d:=d) (s:=s) hi hj;have hm:Hid (median (Ab cmp) d i j k s=((order2 (Ab cmp) d (order2 (Ab cmp) d i j s).1 (order2 (Ab cmp) d (order2 (Ab cmp) d i j s).2.1 k (order2 (Ab cmp) d i j s).2.2).1 (order2 (Ab cmp) d (order2 (Ab cmp) d i j s).2.1 k (order2 (Ab cmp) d i j s).2.2).2.2).2.1,(order2 (Ab cmp) d (order2 (Ab cmp) d i j s).1 (order2 (Ab cmp) d (order2 (Ab cmp) d i j s).2.1 k (order2 (Ab cmp) d i j s).2.2).1 (order2 (Ab cmp) d (order2 (Ab cmp) d i j s).2.1 k (order2 (Ab cmp) d i j s).2.2).2.2).2.2)):=rfl;rw [hm.out];clear hm;have k1:=lh (ko.out i j s w HS.out hi hj (by omega) hb);obtain ⟨b1,b2,b3⟩:=Sx (lt:=Ab cmp) (d:=d) (s:=(order2 (Ab cmp) d i j s).2.2) a2 hk;have k2:=lh (fun (v:World) (hS:Srt w0 v base A c d) (hb:Blk v g2 3 #[.int .i64 ((order2 (Ab cmp) d i j s).2.2:Int)])=>ko.out (order2 (Ab cmp) d i j s).2.1 k (order2 (Ab cmp) d i j s).2.2 v hS a2 hk (by omega) hb);have k3:=lh (fun (v:World) (hS:Srt w0 v base A c d) (hb:Blk v g2 3 #[.int .i64 ((order2 (Ab cmp) d (order2 (Ab cmp) d i j s).2.1 k (order2 (Ab cmp) d i j s).2.2).2.2:Int)])=>ko.out (order2 (Ab cmp) d i j s).1 (order2 (Ab cmp) d (order2 (Ab cmp) d i j s).2.1 k (order2 (Ab cmp) d i j s).2.2).1 (order2 (Ab cmp) d (order2 (Ab cmp) d i j s).2.1 k (order2 (Ab cmp) d i j s).2.2).2.2 v hS a1 b1 (by omega) hb);clear a1 a2 a3 b1 b2 b3 ko;generalize order2 (Ab cmp) d i j s=r1 at*;generalize order2 (Ab cmp) d r1.2.1 k r1.2.2=r2 at*;generalize order2 (Ab cmp) d r1.1 r2.1 r2.2.2=r3 at*;unfold E5 at k1 k2 k3;have aa:Hid (∀(wz:World),Srt w0 wz base A c d->Blk wz g2 3 #[.int .i64 (r3.2.2:Int)]->E5 w0 base A c d g2 r3.2.2 (.int .i64 (r3.2.1:Int)) (.returned (.int .i64 (r3.2.1:Int))) wz):=fun wz h1 h2=>⟨rfl,h1,h2⟩;generalize E5 w0 base A c d g2 r3.2.2 (.int .i64 (r3.2.1:Int))=POST at*;go_enter func236,ntmps236
 go_wp2_with (first
  |(go_at_call 246;(with_reducible refine (k1.out).mono ?_);rintro _ w1 ⟨rfl,s1,b1⟩)
  |(go_at_call 246;(with_reducible refine (k2.out _ s1 b1).mono ?_);rintro _ w2 ⟨rfl,s2,b2⟩)
  |(go_at_call 246;(with_reducible refine (k3.out _ s2 b2).mono ?_);rintro _ w3 ⟨rfl,s3,b3⟩))
 exact aa.out w3 s3 b3
def Eb (s:Nat):Int:=if s=0 then 1 else if s=12 then 2 else 0
def Ki (w0:World) (base:Nat) (A:Option Addr) (c:Nat) (d:Array Id) (P M:Nat) (e:Ending) (v:World):Prop:=e=.returned (.tuple #[.int .i64 (P:Int),.int .i64 (Eb M)])/\Srt w0 v base A c d
theorem Al6 (w0:World) (base c:Nat) (A:Option Addr) (d:Array Id) (n:Nat) (fid:Nat) (pre post:Array Value) (cmp:Id->Id->Int) (w:World)
  (hc:Eu w0 fid pre post cmp) (h:Srt w0 w base A c d) (hdn:d.size=n) (hn:n<=1000) (h13:n=13\/n=14):
  Calls zp 201 #[.slice A n c,.int .i64 0,.int .i64 n,.func (.func fid) pre post] w (Ki w0 base A c d (median (Ab cmp) d 3 6 9 0).1 (median (Ab cmp) d 3 6 9 0).2):=by
 have eg:=hc.enters;have HC:=lh hc;have HS:=lh h;clear hc h;clear eg;have hl:=hn;have km:=lh (fun (v:World) (g2:Nat) (hS:Srt w0 v base A c d) (h3:w0.heap.size<=g2) (hb:Blk v g2 3 #[.int .i64 ((0:Nat):Int)])=>Al5 w0 base c A d n 3 6 9 0 g2 fid pre post cmp v HC.out hS hdn hn (by omega) (by omega) (by omega) (by omega) h3 hb);unfold E5 at km;generalize median (Ab cmp) d 3 6 9 0=R at*;obtain ⟨P,M⟩:=R
 (try dsimp only at km ⊢)
 have f0:Fr Non w (w.alloc (.cells #[.int .i64 0] 3)):=(Fr.refl Non w).alloc _;have b0:=Blk.new w 3 #[.int .i64 0];have h9:=km.out _ w.heap.size (HS.out.non f0) HS.out.fr.size b0;rw [show ((3:Nat):Int)=3 from rfl,show ((6:Nat):Int)=6 from rfl,show ((9:Nat):Int)=9 from rfl] at h9;replace h9:=lh h9;have k1:=h9;clear h9;have aa:Hid (∀(wz:World) (H:Int),Eb M=H->Srt w0 wz base A c d->Ki w0 base A c d P M (.returned (.tuple #[.int .i64 (P:Int),.int .i64 H])) wz):=fun wz H e h1=>⟨by rw [e],h1⟩;generalize Ki w0 base A c d P M=POST at*;clear km HC hdn HS f0 b0;have ad:(13:Int).tdiv 4=3:=by decide
 have ae:(14:Int).tdiv 4=3:=by decide
 have hH:Hid ((M=0->Eb M=1)/\(M=12->Eb M=2)/\(M≠0->M≠12->Eb M=0)):=⟨fun h=>by unfold Eb;rw [if_pos h],fun h=>by unfold Eb;rw [if_neg (by omega),if_pos h],fun h1 h2=>by unfold Eb;rw [if_neg h1,if_neg h2]⟩
 rcases h13 with rfl|rfl
 ·
  go_enter func201,ntmps201
  by_cases h0:M=0
  ·
   have hd:=lh (fun wz=>aa.out wz 1 (hH.out.1 h0));subst h0;clear hH aa;go_wp2_with (go_at_call 236;(with_reducible refine (k1.out).mono ?_);rintro _ w1 ⟨rfl,s1,b1⟩;have c1:cI w1 w.heap.size 0 0:=b1.cell 0);exact hd.out w1 s1
  ·
   by_cases h12:M=12
   ·
    have hd:=lh (fun wz=>aa.out wz 2 (hH.out.2.1 h12));subst h12;clear hH aa;go_wp2_with (go_at_call 236;(with_reducible refine (k1.out).mono ?_);rintro _ w1 ⟨rfl,s1,b1⟩;have c1:cI w1 w.heap.size 0 12:=b1.cell 0);exact hd.out w1 s1
   ·
    have hd:=lh (fun wz=>aa.out wz 0 (hH.out.2.2 h0 h12));have e1:((M:Int)==0)=false:=beq_eq_false_iff_ne.2 (by omega);have e2:((M:Int)==12)=false:=beq_eq_false_iff_ne.2 (by omega);have ac:=lh h0;have ab:=lh h12;clear hH aa h0 h12;go_wp2_with (go_at_call 236;(with_reducible refine (k1.out).mono ?_);rintro _ w1 ⟨rfl,s1,b1⟩;have c1:cI w1 w.heap.size 0 (M:Int):=b1.cell 0);exact hd.out w1 s1
 ·
  go_enter func201,ntmps201
  by_cases h0:M=0
  ·
   have hd:=lh (fun wz=>aa.out wz 1 (hH.out.1 h0));subst h0;clear hH aa;go_wp2_with (go_at_call 236;(with_reducible refine (k1.out).mono ?_);rintro _ w1 ⟨rfl,s1,b1⟩;have c1:cI w1 w.heap.size 0 0:=b1.cell 0);exact hd.out w1 s1
  ·
   by_cases h12:M=12
   ·
    have hd:=lh (fun wz=>aa.out wz 2 (hH.out.2.1 h12));subst h12;clear hH aa;go_wp2_with (go_at_call 236;(with_reducible refine (k1.out).mono ?_);rintro _ w1 ⟨rfl,s1,b1⟩;have c1:cI w1 w.heap.size 0 12:=b1.cell 0);exact hd.out w1 s1
   ·
    have hd:=lh (fun wz=>aa.out wz 0 (hH.out.2.2 h0 h12));have e1:((M:Int)==0)=false:=beq_eq_false_iff_ne.2 (by omega);have e2:((M:Int)==12)=false:=beq_eq_false_iff_ne.2 (by omega);have ac:=lh h0;have ab:=lh h12;clear hH aa h0 h12;go_wp2_with (go_at_call 236;(with_reducible refine (k1.out).mono ?_);rintro _ w1 ⟨rfl,s1,b1⟩;have c1:cI w1 w.heap.size 0 (M:Int):=b1.cell 0);exact hd.out w1 s1
theorem Al7 {lt:Id->Id->Bool} {d:Array Id} {b i:Nat} (h:i<b) (hl:lt d[i]! d[i-1]! =false):scanSorted lt d b i=scanSorted lt d b (i+1):=by
 conv=>lhs;unfold scanSorted
 rw [if_pos (by rw [hl];simp [h])]
theorem Al8 {lt:Id->Id->Bool} {d:Array Id} {b i:Nat} (h:b<=i\/lt d[i]! d[i-1]! =true):scanSorted lt d b i=i:=by
 unfold scanSorted;rw [if_neg]
 rcases h with h|h
 · simp only [As8,decide_eq_true_eq];omega
 · rw [h];simp
def H4 (w0:World) (base:Nat) (A:Option Addr) (c:Nat) (d:Array Id) (S n:Nat) (e:Ending) (v:World):Prop:=e=.returned (.bool (S==n))/\Srt w0 v base A c d
theorem Al9 (w0:World) (base c:Nat) (A:Option Addr) (d:Array Id) (n:Nat) (a b:Nat) (fid:Nat) (pre post:Array Value) (cmp:Id->Id->Int) (w:World)
  (hc:Eu w0 fid pre post cmp) (h:Srt w0 w base A c d) (hdn:d.size=n) (hn:n<=1000) (hab:a<b) (hb:b<=n) (h50:b<50):
  Calls zp 203 #[.slice A n c,.int .i64 a,.int .i64 b,.func (.func fid) pre post] w (H4 w0 base A c d (scanSorted (Ab cmp) d b (a+1)) b):=by
 have eg:=hc.enters;have HC:=lh hc;have HS:=lh h;clear hc h;obtain ⟨g,rfl,a5,a2⟩:=HS.out.at (i:=a) (by omega);have ao:Hid (∀(wz:World) (i:Nat),scanSorted (Ab cmp) d b (a+1)=i->Srt w0 wz base (some ⟨g,0,none⟩) c d->H4 w0 base (some ⟨g,0,none⟩) c d (scanSorted (Ab cmp) d b (a+1)) b (.returned (.bool (i==b))) wz):=fun wz i e h=>⟨by rw [e],h⟩;have av:Hid (∀i,scanSorted (Ab cmp) d b i=scanSorted (Ab cmp) d b (a+1)->(b<=i\/Ab cmp d[i]! d[i-1]! =true)->scanSorted (Ab cmp) d b (a+1)=i):=fun i e h=>by rw [<- e];exact Al8 h
 generalize H4 w0 base (some ⟨g,0,none⟩) c d (scanSorted (Ab cmp) d b (a+1)) b=POST at*;go_enter func203,ntmps203;have e0:IntKind.i64.wrap ((a:Int)+1)=(a:Int)+1:=IntWalk.i64_in _ (by omega);have eb:IntKind.i64.wrap ((b:Int)-(a:Int))=(b:Int)-(a:Int):=IntWalk.i64_in _ (by omega);have t5:decide ((b:Int)-(a:Int)<50)=true:=decide_eq_true (by omega);go_wp2_with fail
 go_loopw [9,10] (fun v v2 wr=>v=.int .i64 ((a:Int)+1)/\v2=.int .i64 0/\Hid (Srt w0 wr base (some ⟨g,0,none⟩) c d)) (fun _ _ _=>0)
 case atStart=>exact ⟨rfl,rfl,HS⟩
 case round=>
  obtain ⟨rfl,rfl,ay⟩:=hrel;go_wp2_with fail;generalize wr=wo at*
  go_loopw [9] (fun v wr=>∃i:Nat,v=.int .i64 (i:Int)/\a+1<=i/\i<=b/\Hid (Srt w0 wr base (some ⟨g,0,none⟩) c d)/\Hid (scanSorted (Ab cmp) d b i=scanSorted (Ab cmp) d b (a+1))) (fun v _=>b-(intOf v).toNat)
  case atStart=>exact ⟨a+1,by go_num,As7 _,by omega,ay,rfl⟩
  case round=>
   clear ay;obtain ⟨i,rfl,a3,a1,hS,ax⟩:=hrel
   by_cases hlt:i<b
   ·
    obtain ⟨ip,rfl⟩:∃ip,i=ip+1:=⟨i-1,by omega⟩;have jc:((ip+1:Nat):Int)=(ip:Int)+1:=by omega
    rw [jc];have j1:(0:Int)<=(ip:Int)+1:=by omega
    have j2:(ip:Int)+1<n:=by omega
    have j3:((ip:Int)+1).toNat=ip+1:=by omega
    have k1:(0:Int)<=ip:=by omega
    have k2:(ip:Int)<n:=by omega
    have k3:(ip:Int).toNat=ip:=by omega
    have wj:IntKind.i64.wrap (ip:Int)=(ip:Int):=IntWalk.i64_in _ (by omega);have a4:IntKind.i64.wrap ((ip:Int)+1-1)=(ip:Int):=by rw [show (ip:Int)+1-1=ip by omega];exact wj
    have e1:IntKind.i64.wrap ((ip:Int)+1+1)=(ip:Int)+1+1:=IntWalk.i64_in _ (by omega);have u0:decide ((ip:Int)+1<(b:Int))=true:=decide_eq_true (by omega);have a0:decide (ip+1<b)=true:=decide_eq_true hlt;go_upto_region 5 with (fail)
    obtain ⟨x,hx⟩:=Aa d[ip+1]!;obtain ⟨y,hy⟩:=Aa d[ip]!;have ap:=hS.out.cells (i:=(ip+1)) (by omega);have aq:=hS.out.cells (i:=ip) (by omega);rw [hx.out] at ap;rw [hy.out] at aq;have ab:cI wr g ((ip+1)*3) x.b:=ap.1;have af:cI wr g ((ip+1)*3+1) x.s:=ap.2.1;have ad:cU wr g ((ip+1)*3+2) x.u:=ap.2.2;have aa:cI wr g (ip*3) y.b:=aq.1;have ac:cI wr g (ip*3+1) y.s:=aq.2.1;have ae:cU wr g (ip*3+2) y.u:=aq.2.2;have F0:Fr Non wr wr.drew:=(Fr.refl Non wr).drew;have kc:=lh (fun (v:World) (hv:Fr Non wr v)=>HC.out.tells x y v (hS.out.fr.trans hv zr) (by rw [<- hx.out];exact hS.out.okAt (by omega)) (by rw [<- hy.out];exact hS.out.okAt (by omega)))
    rcases zb (decide (cmp x y<0)) with cT|cT
    ·
     have ar:Ab cmp d[ip+1]! d[ip]! =true:=by rw [hx.out,hy.out];exact cT
     have hd:=lh (fun wz=>ao.out wz (ip+1) (av.out (ip+1) ax.out (.inr ar)));have f0:(((ip:Int)+1)==(b:Int))=false:=beq_eq_false_iff_ne.2 (by omega);have az:((ip+1:Nat)==b)=false:=beq_eq_false_iff_ne.2 (by omega);rw [az] at hd;clear ar;refine wp_region_held_drew (S:=fun w'=>cI w' g ((ip+1)*3) x.b/\cI w' g ((ip+1)*3+1) x.s/\cU w' g ((ip+1)*3+2) x.u/\cI w' g (ip*3) y.b/\cI w' g (ip*3+1) y.s/\cU w' g (ip*3+2) y.u) (by kernel_rfl) ⟨ab,af,ad,aa,ac,ae⟩ (fun hHeld=> ?_);clear hHeld;have uu:=aI ab (aI af (aI ad (aI aa (aI ac ae))));refine tkH 0 uu (h:=tkH 1 uu (h:=tkH 2 uu (h:=tkH 3 uu (h:=tkH 4 uu (h:=tkH 5 uu (h:=tkH 6 uu (h:=tkH 7 uu (h:=tkH 8 uu (h:=tkH 9 uu (h:=tkH 10 uu (h:=tkH 11 uu (h:=?_))))))))))));clear uu;simp only [zl];refine tkH 12 ⟨ab,af,ad,aa,ac,ae⟩ (h:=tkH 13 ⟨ab,af,ad,aa,ac,ae⟩ (h:=?_));simp only [zl];refine oG 14 (fun K hK=> ?_);go_simp;go_wp2_with fail;refine (kc.out _ F0).mono ?_;rintro _ v1 ⟨rfl,f1⟩;have F1:=F0.trans f1 zr;have ag:=F1.cell ab zq;have ai:=F1.cell af zq;have aj:=F1.cell ad zq;have al:=F1.cell aa zq;have ah:=F1.cell ac zq;have ak:=F1.cell ae zq;refine hK.out _ _ ⟨ag,ai,aj,al,ah,ak⟩ (fun hZ=> ?_);clear hZ hK K;try simp only [Ad,zl]
     refine tkH 15 ⟨ag,ai,aj,al,ah,ak⟩ (h:=tkH 16 ⟨ag,ai,aj,al,ah,ak⟩ (h:=tkH 17 ⟨ag,ai,aj,al,ah,ak⟩ (h:=?_)));simp only [zl];refine oD ?_;go_simp;have au:=hS.out.non F1;clear ab af ad aa ac ae ag ai aj al ah ak ao av ap aq az;go_wp2_with fail;exact hd.out _ au
    ·
     have ar:Ab cmp d[ip+1]! d[ip]! =false:=by rw [hx.out,hy.out];exact cT
     have aw:Hid (scanSorted (Ab cmp) d b (ip+1+1)=scanSorted (Ab cmp) d b (a+1)):=by
      show _=_;rw [<- ax.out];exact (Al7 hlt ar).symm
     clear ar;refine wp_region_held_drew (S:=fun w'=>cI w' g ((ip+1)*3) x.b/\cI w' g ((ip+1)*3+1) x.s/\cU w' g ((ip+1)*3+2) x.u/\cI w' g (ip*3) y.b/\cI w' g (ip*3+1) y.s/\cU w' g (ip*3+2) y.u) (by kernel_rfl) ⟨ab,af,ad,aa,ac,ae⟩ (fun hHeld=> ?_);clear hHeld;have uu:=aI ab (aI af (aI ad (aI aa (aI ac ae))));refine tkH 0 uu (h:=tkH 1 uu (h:=tkH 2 uu (h:=tkH 3 uu (h:=tkH 4 uu (h:=tkH 5 uu (h:=tkH 6 uu (h:=tkH 7 uu (h:=tkH 8 uu (h:=tkH 9 uu (h:=tkH 10 uu (h:=tkH 11 uu (h:=?_))))))))))));clear uu;simp only [zl];refine tkH 12 ⟨ab,af,ad,aa,ac,ae⟩ (h:=tkH 13 ⟨ab,af,ad,aa,ac,ae⟩ (h:=?_));simp only [zl];refine oG 14 (fun K hK=> ?_);go_simp;go_wp2_with fail;refine (kc.out _ F0).mono ?_;rintro _ v1 ⟨rfl,f1⟩;have F1:=F0.trans f1 zr;have ag:=F1.cell ab zq;have ai:=F1.cell af zq;have aj:=F1.cell ad zq;have al:=F1.cell aa zq;have ah:=F1.cell ac zq;have ak:=F1.cell ae zq;refine hK.out _ _ ⟨ag,ai,aj,al,ah,ak⟩ (fun hZ=> ?_);clear hZ hK K;try simp only [Ad,zl]
     refine tkH 15 ⟨ag,ai,aj,al,ah,ak⟩ (h:=tkH 16 ⟨ag,ai,aj,al,ah,ak⟩ (h:=tkH 17 ⟨ag,ai,aj,al,ah,ak⟩ (h:=?_)));simp only [zl];refine oD ?_;go_simp;have au:=lh (hS.out.non F1);clear ab af ad aa ac ae ag ai aj al ah ak ap aq;go_wp2_with fail;go_roundw
     case rel=>exact ⟨ip+1+1,by go_num,by omega,by omega,au,aw⟩
     case measure=>first|(simp [intOf];done)|(simp [intOf];omega)
   ·
    obtain rfl:i=b:=by omega
    have hd:=lh (fun wz=>ao.out wz i (av.out i ax.out (.inl (As7 _))));rw [beq_self_eq_true] at hd;have u0:decide ((i:Int)<(i:Int))=false:=decide_eq_false (by omega);have a0:decide (i<i)=false:=decide_eq_false hlt;have f0:((i:Int)==(i:Int))=true:=beq_self_eq_true _;have F0:Fr Non wr wr.drew:=(Fr.refl Non wr).drew;have au:=hS.out.non F0;clear ao av;go_upto_region 5 with (fail)
    have Z0:True:=trivial;refine wp_region_held_drew (S:=fun w'=>True) (by kernel_rfl) Z0 (fun hHeld=> ?_);clear hHeld;refine tkH 0 Z0 (h:=tkH 1 Z0 (h:=tkH 2 Z0 (h:=tkH 3 Z0 (h:=skH 4 Z0 (h:=skH 5 Z0 (h:=skH 6 Z0 (h:=skH 7 Z0 (h:=skH 8 Z0 (h:=skH 9 Z0 (h:=skH 10 Z0 (h:=skH 11 Z0 (h:=?_))))))))))));simp only [zl];refine skH 12 Z0 (h:=skH 13 Z0 (h:=skH 14 Z0 (h:=skH 15 Z0 (h:=skH 16 Z0 (h:=tkH 17 Z0 (h:=?_))))));simp only [zl];refine oD ?_;go_simp;clear Z0;go_wp2_with fail;exact hd.out _ au
end Oq
end
end Go.Proofs.YtihfebhfgliojaaGreatDoor
