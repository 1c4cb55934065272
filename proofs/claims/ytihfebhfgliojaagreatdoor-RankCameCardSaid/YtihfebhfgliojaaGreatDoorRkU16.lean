/-
  Contracts of the functions that the claim's statement reaches, walked one by one (part 16).
  Conditions: as each theorem says.
-/
import Derived.Sort.AssemblyPlain
import Derived.Test.YtihfebhfgliojaaGreatDoorRkU15
set_option maxRecDepth 100000
set_option maxHeartbeats 16000000
open Array renaming setIfInBounds_comm->Ax7,size_setIfInBounds->Ax8,toList_setIfInBounds->Ax9
open Bool renaming and_eq_true->Ax5
open List renaming prefix_refl->Ax4,mem_cons_self->Ax6
open Nat renaming le_refl->Ax3
open Go.Proofs.Tryz
open Go.Proofs.Tryz renaming prog->zp
open Go.Lib renaming hid->lh
open List renaming set->zl
open Go.Ending renaming returned->ze
namespace Go.Proofs.YtihfebhfgliojaaGreatDoor
section
open Go.RowKit
namespace Oq
def Bg (l:List Pn) (a b:Id):Bool:=decide (Aj l a<Aj l b)||(Aj l a==Aj l b&&Id.less a b)
theorem rkLess_iff {l:List Pn} {a b:Id}:Bg l a b=true<->Aj l a<Aj l b\/(Aj l a=Aj l b/\Id.less a b=true):=by
 unfold Bg;rw [Bool.or_eq_true,Ax5,decide_eq_true_iff,beq_iff_eq]
theorem An4 (l:List Pn) (a:Id):Bg l a a=false:=by
 cases h:Bg l a a with
 |false=>rfl
 |true=>
  rcases rkLess_iff.1 h with h|⟨_,h⟩
  · omega
  · rw [Id.less_irr] at h;cases h
theorem Nx {l:List Pn} {a b:Id} (h:Bg l a b=true):Bg l b a=false:=by
 cases h2:Bg l b a with
 |false=>rfl
 |true=>
  rcases rkLess_iff.1 h with h|⟨_,h⟩<;>rcases rkLess_iff.1 h2 with h2|⟨_,h2⟩
  · omega
  · omega
  · omega
  · rw [Id.less_as h] at h2;cases h2
theorem Hn (l:List Pn) (a b:Id):Bg l a b=true\/a=b\/Bg l b a=true:=by
 rcases Nat.lt_trichotomy (Aj l a) (Aj l b) with h|h|h
 · exact .inl (rkLess_iff.2 (.inl h))
 ·
  rcases Id.less_tot a b with h2|h2|h2
  · exact .inl (rkLess_iff.2 (.inr ⟨h,h2⟩))
  · exact .inr (.inl h2)
  · exact .inr (.inr (rkLess_iff.2 (.inr ⟨h.symm,h2⟩)))
 · exact .inr (.inr (rkLess_iff.2 (.inl h)))
theorem Ny {l:List Pn} {a b c:Id} (h1:Bg l a b=true) (h2:Bg l b c=true):Bg l a c=true:=by
 rcases rkLess_iff.1 h1 with h1|⟨e1,h1⟩<;>rcases rkLess_iff.1 h2 with h2|⟨e2,h2⟩
 · exact rkLess_iff.2 (.inl (by omega))
 · exact rkLess_iff.2 (.inl (by omega))
 · exact rkLess_iff.2 (.inl (by omega))
 · exact rkLess_iff.2 (.inr ⟨by omega,Id.less_tr h1 h2⟩)
def RowK (l:List Pn) (ids:List Id):Prop:=ids.Pairwise (fun a b=>Bg l b a=false)
theorem Tl {α:Type} {r:α->α->Prop} (anti:∀a b,r a b->r b a->a=b):∀{xs ys:List α},xs.Pairwise r->ys.Pairwise r->xs.Perm ys->xs=ys
 |[],ys,_,_,h=>(List.Perm.nil_eq h)
 |x::xs,[],_,_,h=>by have:=h.length_eq;simp at this
 |x::xs,y::ys,h1,h2,h=>by
  rw [List.pairwise_cons] at h1 h2
  have hxy:x=y:=by
   have hx:x∈y::ys:=h.mem_iff.1 Ax6;have hy:y∈x::xs:=h.mem_iff.2 Ax6
   rcases List.mem_cons.1 hx with e|hx
   · exact e
   rcases List.mem_cons.1 hy with e|hy
   · exact e.symm
   exact anti x y (h1.1 y hy) (h2.1 x hx)
  subst hxy;rw [Tl anti h1.2 h2.2 (List.Perm.cons_inv h)]
theorem RowK.unique {l:List Pn} {xs ys:List Id} (h1:RowK l xs) (h2:RowK l ys) (hp:xs.Perm ys):xs=ys:=
 Tl (fun a b ha hb=>by
  rcases Hn l a b with h|h|h
  · rw [hb] at h;cases h
  · exact h
  · rw [ha] at h;cases h) h1 h2 hp
def De (l:List Pn) (x:Id):List Id->List Id
 |[]=>[x]
 |y::r=>if Bg l y x=true then y::De l x r else x::y::r
def Af (l:List Pn) (ids:List Id):List Id:=ids.foldl (fun out x=>De l x out) []
theorem Nz (l:List Pn) (x:Id):∀ys,(De l x ys).Perm (x::ys)
 |[]=>List.Perm.refl _
 |y::r=>by
  unfold De
  split
  · exact ((Nz l x r).cons y).trans (List.Perm.swap x y r)
  · exact List.Perm.refl _
theorem Tm {l:List Pn} {x:Id}:∀{ys:List Id},RowK l ys->RowK l (De l x ys)
 |[],_=>List.pairwise_singleton _ _
 |y::r,h=>by
  have h':=List.pairwise_cons.1 h;unfold De
  split
  ·
   rename_i hyx;refine List.pairwise_cons.2 ⟨fun z hz=> ?_,Tm h'.2⟩;have hz2:=(Nz l x r).mem_iff.1 hz
   rcases List.mem_cons.1 hz2 with e|hz3
   ·
    rw [e];exact Nx hyx
   · exact h'.1 z hz3
  ·
   rename_i hyx;refine List.pairwise_cons.2 ⟨fun z hz=> ?_,h⟩;have hyx':Bg l y x=false:=Bool.not_eq_true _▸hyx
   rcases List.mem_cons.1 hz with e|hzr
   · rw [e];exact hyx'
   ·
    cases hzx:Bg l z x with
    |false=>rfl
    |true=>
     rcases Hn l x y with h1|h1|h1
     ·
      have h2:=Ny hzx h1;rw [h'.1 z hzr] at h2;cases h2
     ·
      subst h1;rw [h'.1 z hzr] at hzx;cases hzx
     · rw [hyx'] at h1;cases h1
theorem N3 (l:List Pn):∀(ids out:List Id),RowK l out->RowK l (ids.foldl (fun out x=>De l x out) out)/\(ids.foldl (fun out x=>De l x out) out).Perm (out++ids)
 |[],out,h=>⟨h,by rw [List.append_nil];exact List.Perm.refl _⟩
 |x::r,out,h=>by
  obtain ⟨h1,h2⟩:=N3 l r (De l x out) (Tm h);refine ⟨h1,h2.trans ?_⟩;refine ((Nz l x out).append_right r).trans ?_;exact (List.perm_middle (a:=x) (l₁:=out) (l₂:=r)).symm
theorem Kr (l:List Pn) (ids:List Id):RowK l (Af l ids):=(N3 l ids [] List.Pairwise.nil).1
theorem Ek (l:List Pn) (ids:List Id):(Af l ids).Perm ids:=by
 have:=(N3 l ids [] List.Pairwise.nil).2;rwa [List.nil_append] at this
theorem N4 {l:List Pn} {xs ids:List Id} (h:RowK l xs) (hp:xs.Perm ids):xs=Af l ids:=h.unique (Kr l ids) (hp.trans (Ek l ids).symm)
theorem E7 (l:List Pn) (ids:List Id):(Af l ids).length=ids.length:=(Ek l ids).length_eq
theorem An5 {cards:List Cd} {l:List Pn} (h:Rows cards l) {row:List Id} (hr:RowK l row) (hn:row.Nodup) {i k:Nat} {a b:Id} (hki:k<i) (hk:row[k]? =some a) (hi:row[i]? =some b):a≠b/\bef l b a=false/\Bg l a b=true:=by
 obtain ⟨hk1,e1⟩:=List.getElem?_eq_some_iff.1 hk;obtain ⟨hi1,e2⟩:=List.getElem?_eq_some_iff.1 hi
 have h1:Bg l b a=false:=by
  have:=(List.pairwise_iff_getElem.1 hr) k i hk1 hi1 hki;rwa [e1,e2] at this
 have hne:a≠b:=fun e=>by
  subst e;have:=Am6 hn hk hi;omega
 refine ⟨hne,?_,?_⟩
 ·
  cases hb:bef l b a with
  |false=>rfl
  |true=>
   have:=(h.order hb).2.2.1;rw [rkLess_iff.2 (.inl this)] at h1
   cases h1
 ·
  rcases Hn l a b with h2|h2|h2
  · exact h2
  · exact absurd h2 hne
  · rw [h1] at h2;cases h2
def Ec (o:Op):Int:=if o.kind=1 then o.by_ else if o.kind=2\/o.kind=13 then o.dev else 0
def Aw (l:List Pn) (id:Id):Int:=match plc l id with|some i=>(l[i]?.map (fun n=>Ec n.o)).getD 0|none=>0
theorem Ib {l:List Pn} {id:Id} {p:Nat} {m:Pn} (h1:plc l id=some p) (h2:l[p]? =some m):Aw l id=Ec m.o:=by
 unfold Aw;rw [h1];dsimp only;rw [h2];rfl
def Ch (l:List Pn) (row:List Id):Nat->List Int
 |0=>[]
 |k+1=>match row[k]? with
  |some x=>if (decide (0<Aw l x)&& !(Ch l row k).contains (Aw l x))=true then Ch l row k++[Aw l x] else Ch l row k
  |none=>Ch l row k
def Ce (l:List Pn) (row:List Id):List Int:=Ch l row row.length
theorem Ks (l:List Pn) (row:List Id):∀k,(Ch l row k).length<=k
 |0=>Ax3 _
 |k+1=>by
  have ih:=Ks l row k;unfold Ch
  split
  ·
   split
   ·
    rw [List.length_append,List.length_singleton];omega
   · omega
  · omega
theorem Tn (l : List Pn) (row : List Id) : ∀ (j k : Nat), j <= k -> Ch l row j <+: Ch l row k
  | j, 0, h => by obtain rfl : j = 0 := by omega
                  exact Ax4 _
  | j, k + 1, h => by
    rcases Nat.lt_or_ge k j with hj | hj
    · obtain rfl : j = k + 1 := by omega
      exact Ax4 _
    · refine (Tn l row j k hj).trans ?_
      conv => rhs; unfold Ch
      split
      · split
        · exact List.prefix_append _ _
        · exact Ax4 _
      · exact Ax4 _
end Oq
end
section
open Go.RowKit Go.Sort
section
variable {P : Program} {ops : Array Oper} {Q : Exit -> Act -> World -> Prop} {md : Region.Mode} {S : World -> Prop} {g : Nat}
theorem An6 {i:Nat} {oi:Oper} {v:Value} (hi:ops[i]? =some oi) (hgi:g≠i)
  (hsel:∀(j:Nat) (o:Oper) cs b,ops[j]? =some o->o.op≠ .select cs b) (hQ:∀c a w,Q (.panic c) (a.put oi.dst v) w->Q (.panic c) a w):
  ∀(fuel:Nat) (listed:Array Bool) (a:Act) (w:World),(listed.getD g true=false->S w)->
   (∀j oj,ops[j]? =some oj->j≠i->listed.getD j true=false->(∀e∈oj.after,Region.binds md e=true->e.on≠i)->oi.apart ops oj=true)->
   i∈Region.ready md ops listed->YieldsIf P ops (fun _=>True) oi v a->
   C4 P md ops Q S g fuel (listed.setIfInBounds i true) (a.put oi.dst v) w->C4 P md ops Q S g (fuel+1) listed a w:=by
 intro fuel
 induction fuel with
 |zero=>
  intro listed a w hS _ hr hy H;refine ⟨fun h=>(by rw [h] at hr;cases hr),fun j hj=> ?_⟩
  by_cases hji:j=i
  · subst hji;exact hy.wpOp hi trivial ⟨fun h0=>hS (by rw [getD_set_ne true (Ne.symm hgi)] at h0;exact h0),H⟩
  ·
   have h0:=ready_mono hj hji;rw [H.1] at h0
   cases h0
 |succ k ih=>
  intro listed a w hS hfree hr hy H;refine ⟨fun h=>(by rw [h] at hr;cases hr),fun j hj=> ?_⟩
  by_cases hji:j=i
  · subst hji;exact hy.wpOp hi trivial ⟨fun h0=>hS (by rw [getD_set_ne true (Ne.symm hgi)] at h0;exact h0),H⟩
  ·
   have hpend:=(mem_ready.1 hr).1;obtain ⟨hjun,oj,hoj,hall⟩:=mem_ready.1 hj
   have hbl:∀e∈oj.after,Region.binds md e=true->e.on≠i:=fun e he hb heq=>by
    have h1:=hall e he hb;rw [heq] at h1
    rcases Nat.lt_or_ge i listed.size with h'|h'
    · simp [h'] at hpend h1;rw [hpend] at h1;cases h1
    · simp [Array.getElem?_eq_none h'] at h1
   have h1:=H.2 j (ready_mono hj hji);have h2:=wpOp_putIf hoj (hfree j oj hoj hji hjun hbl) (fun cs b=>hsel i oi cs b hi) (fun cs b=>hsel j oj cs b hoj) hQ hy h1
   have hfree':∀m om,ops[m]? =some om->m≠i->(listed.setIfInBounds j true).getD m true=false->
     (∀e∈om.after,Region.binds md e=true->e.on≠i)->oi.apart ops om=true:=fun m om hm hmi hun hno=>by
    refine hfree m om hm hmi ?_ hno
    by_cases hjm:j=m
    · subst hjm;exact hjun
    · rw [getD_set_ne true hjm] at hun;exact hun
   refine wpOp_mono (fun a' w' h3=> ?_) h2;have hS':(listed.setIfInBounds j true).getD g true=false->S w':=fun h0=>h3.2.1 (by rw [Ax7 _ _ (Ne.symm hji),getD_set_ne true (Ne.symm hgi)];exact h0);refine ⟨hS',ih _ a' w' hS' hfree' (ready_mono hr (Ne.symm hji)) h3.1 ?_⟩;rw [Ax7 _ _ hji];exact h3.2.2
end
theorem tkP (i:Nat) {P:Program} {Q:Exit->Act->World->Prop} {md:Region.Mode} {S:World->Prop} {gt:Nat} {l:List Oper} {d:Tmp} {op:Go.Op} {ty:TypeId} {pos:String} {after:Array Edge} {g:Option (Nat × Bool)} {v:Value} {fuel:Nat} {listed:Array Bool} {tl:List Value} {ds:List Deferred} {w:World} (hS:S w)
  (h:C4 P md l.toArray Q S gt fuel (listed.setIfInBounds i true) ⟨(tl.set d v).toArray,ds⟩ w) (hi:l[i]? =some ⟨some d,op,ty,pos,after,g⟩:=by rfl)
  (hgate:(gt !=i)=true:=by kernel_rfl)
  (hs:Region.noSelect l.toArray=true:=by kernel_rfl) (hf:Region.free md l.toArray listed i=true:=by kernel_rfl) (hr:(Region.ready md l.toArray listed).contains i=true:=by kernel_rfl)
  (hQ:∀c a w,Q (.panic c) (a.put (some d) v) w->Q (.panic c) a w:=by exact fun _ _ _ h=>h) (hy:YieldsIf P l.toArray (fun _=>True) ⟨some d,op,ty,pos,after,g⟩ v ⟨tl.toArray,ds⟩:=by (refine Or.inl ⟨by kernel_rfl,?_⟩;intro w' _;go_simp;(try with_reducible rfl))):
  C4 P md l.toArray Q S gt (fuel+1) listed ⟨tl.toArray,ds⟩ w:=by
 have hi':l.toArray[i]? =some ⟨some d,op,ty,pos,after,g⟩:=by rw [List.getElem?_toArray];exact hi
 exact An6 hi' (bne_iff_ne.1 hgate) (Region.noSelect_spec hs) hQ fuel listed _ w (fun _=>hS) (Region.free_spec hi' hf) (by simpa using hr) hy (by rw [Ac];exact h)
namespace Oq
theorem Gl (p v:Value):Instr.storeAt 38 p v=stS 38 p v:=rfl
def Cv (w:World) (g k:Nat) (x:Id):World:=((w.setCell ⟨g,k,none⟩ (.int .i64 x.b)).setCell ⟨g,k+1,none⟩ (.int .i64 x.s)).setCell ⟨g,k+2,none⟩ (.int .u64 (x.u:Int))
theorem An7 {w:World} {g k:Nat} (x:Id) (h:∀j,j<3->(w.cell? ⟨g,k+j,none⟩).isSome=true/\w.frozen? ⟨g,k+j,none⟩=false):
  (stS 38 (.pointer (some ⟨g,k,none⟩)) (.agg x.V)).run zp w=.ok () (Cv w g k x):=by
 have h0:=h 0 (by omega);have h1:=h 1 (by omega);have h2:=h 2 (by omega);rw [Nat.add_zero] at h0;obtain ⟨v0,y0⟩:=Option.isSome_iff_exists.1 h0.1;obtain ⟨v1,y1⟩:=Option.isSome_iff_exists.1 h1.1;obtain ⟨v2,y2⟩:=Option.isSome_iff_exists.1 h2.1;have z0:=h0.2;have z1:=h1.2;have z2:=h2.2;unfold stS Cv;go_simp
structure Srt (w0 v:World) (base:Nat) (A:Option Addr) (c:Nat) (d:Array Id):Prop where
 own:Own v base 38 3 A d.size c (d.toList.flatMap Id.cells)
 fr:Fr Non w0 v
 ok:∀x∈d.toList,x.ok
 base:w0.heap.size<=base
theorem Srt.non {w0 v v':World} {base c:Nat} {A:Option Addr} {d:Array Id} (h:Srt w0 v base A c d) (hf:Fr Non v v'):Srt w0 v' base A c d:=
 ⟨h.own.fr hf zr,h.fr.trans hf zr,h.ok,h.base⟩
theorem Srt.at {w0 v:World} {base c:Nat} {A:Option Addr} {d:Array Id} (h:Srt w0 v base A c d) {i:Nat} (hi:i<d.size):
  ∃g,A=some ⟨g,0,none⟩/\base<=g/\g<v.heap.size:=by
 rcases h.own.2 with ⟨_,hn⟩|⟨g,cap,cur,hv,_⟩
 · omega
 ·
  injection hv with hA _ _
  exact ⟨g,hA,(h.own.row g (by rw [hA];rfl)).1,(h.own.row g (by rw [hA];rfl)).2⟩
theorem Gm {d:Array Id} {i:Nat} (hi:i<d.size):d.toList[i]? =some d[i]! :=by
 rw [Array.getElem?_toList,Array.getElem?_eq_getElem hi,getElem!_pos d i hi]
theorem Srt.cells {w0 v:World} {base c g:Nat} {d:Array Id} (h:Srt w0 v base (some ⟨g,0,none⟩) c d) {i:Nat} (hi:i<d.size):
  v.cell? ⟨g,i*3,none⟩=some (.int .i64 d[i]!.b)/\v.cell? ⟨g,i*3+1,none⟩=some (.int .i64 d[i]!.s)/\v.cell? ⟨g,i*3+2,none⟩=some (.int .u64 (d[i]!.u:Int)):=by
 obtain ⟨b,off,hA,_,k0,k1,k2⟩:=Id.at h.own.rd (Gm hi);obtain ⟨rfl,rfl⟩:g=b/\0=off:=by injection hA with e;injection e with e1 e2;exact ⟨e1,e2⟩
 rw [Nat.zero_add] at k0 k1 k2;exact ⟨k0,k1,k2⟩
theorem Srt.okAt {w0 v:World} {base c:Nat} {A:Option Addr} {d:Array Id} (h:Srt w0 v base A c d) {i:Nat} (hi:i<d.size):d[i]!.ok:=
 h.ok _ (List.mem_of_getElem? (Gm hi))
theorem Srt.put {w0 v:World} {base c g:Nat} {d:Array Id} (h:Srt w0 v base (some ⟨g,0,none⟩) c d) {i:Nat} (hi:i<d.size) {x:Id} (hx:x.ok):
  (stS 38 (.pointer (some ⟨g,i*3,none⟩)) (.agg x.V)).run zp v=.ok () (Cv v g (i*3) x)/\Srt w0 (Cv v g (i*3) x) base (some ⟨g,0,none⟩) c (d.setIfInBounds i x):=by
 obtain ⟨h1,h2⟩:=Own.putId h.own (Gm hi) hi x;have hg:=(h.own.row g rfl).1;have hb:=h.base;have hnn:∀k:Nat,Fr Non w0 w0:=fun _=>Fr.refl _ _;refine ⟨An7 x h1,?_,?_,?_,hb⟩
 ·
  rw [Ax8,Ax9];exact h2
 · exact ((h.fr.setCell (p:=⟨g,i*3,none⟩) (fun hh=>absurd hh (by show ¬g<_;omega)) _).setCell (p:=⟨g,i*3+1,none⟩) (fun hh=>absurd hh (by show ¬g<_;omega)) _).setCell (p:=⟨g,i*3+2,none⟩) (fun hh=>absurd hh (by show ¬g<_;omega)) _
 ·
  intro z hz;rw [Ax9] at hz
  rcases List.mem_or_eq_of_mem_set hz with h3|h3
  · exact h.ok z h3
  · rw [h3];exact hx
theorem Srt.swap {w0 v:World} {base c g:Nat} {d:Array Id} (h:Srt w0 v base (some ⟨g,0,none⟩) c d) {i j:Nat} (hi:i<d.size) (hj:j<d.size):
  (stS 38 (.pointer (some ⟨g,i*3,none⟩)) (.agg #[.int .i64 d[j]!.b,.int .i64 d[j]!.s,.int .u64 (d[j]!.u:Int)])).run zp v=.ok () (Cv v g (i*3) d[j]!)/\
  (stS 38 (.pointer (some ⟨g,j*3,none⟩)) (.agg #[.int .i64 d[i]!.b,.int .i64 d[i]!.s,.int .u64 (d[i]!.u:Int)])).run zp (Cv v g (i*3) d[j]!)=.ok () (Cv (Cv v g (i*3) d[j]!) g (j*3) d[i]!)/\
  Srt w0 (Cv (Cv v g (i*3) d[j]!) g (j*3) d[i]!) base (some ⟨g,0,none⟩) c (swp d i j):=by
 obtain ⟨h1,h2⟩:=h.put hi (h.okAt hj);obtain ⟨h3,h4⟩:=h2.put (i:=j) (by rw [Ax8];exact hj) (h.okAt hi);exact ⟨h1,h3,h4⟩
structure E8 (w0:World) (fid:Nat) (pre post:Array Value) (cmp:Id->Id->Int):Prop where
 enters:∀args w,(callFunc fid args).run zp w=.ok (.enter fid args) w
 tells:∀(x y:Id) (v:World),Fr Non w0 v->x.ok->y.ok->Calls zp fid (pre++(#[.agg x.V,.agg y.V]++post)) v fun e v'=>e=.returned (.int .i64 (cmp x y))/\Fr Non v v'
def Ab (cmp:Id->Id->Int) (x y:Id):Bool:=decide (cmp x y<0)
def Ed (w0:World) (base:Nat) (A:Option Addr) (c:Nat) (d:Array Id) (e:Ending) (v:World):Prop:=e=.returned (.tuple #[])/\Srt w0 v base A c d
end Oq
end
section
open Go.RowKit Go.Sort
attribute [local go_sem ↓] Go.wp_at_zero Go.wp_at_succ
namespace Oq
attribute [local go_sem] Bool.not_false Bool.not_true
attribute [local go_sem ↓] Gl
theorem To (w0:World) (base c:Nat) (A:Option Addr) (d:Array Id) (n:Nat) (a b:Nat) (fid:Nat) (pre post:Array Value) (cmp:Id->Id->Int) (w:World)
  (hc:E8 w0 fid pre post cmp) (h:Srt w0 w base A c d) (hdn:d.size=n) (hn:n<=1000) (hab:a<=b) (hb:b<=n):
  Calls zp 198 #[.slice A n c,.int .i64 a,.int .i64 b,.func (.func fid) pre post] w (Ed w0 base A c (insertionSort (Ab cmp) d a b)):=by
 have eg:=hc.enters;have HC:=lh hc;have HS:=lh h;clear hc h;have au:Hid (∀dz wz,dz=insertionSort (Ab cmp) d a b->Srt w0 wz base A c dz->Ed w0 base A c (insertionSort (Ab cmp) d a b) (.returned (.tuple #[])) wz):=fun dz wz e hz=>⟨rfl,e▸hz⟩;generalize Ed w0 base A c (insertionSort (Ab cmp) d a b)=POST at*;go_enter func198,ntmps198;have e0:=iw ((a:Int)+1);go_wp2_with fail
 go_loopw [8] (fun v wr=>∃(i:Nat) (dk:Array Id),v=.int .i64 (i:Int)/\a<i/\i<=b+1/\dk.size=n/\Hid (Srt w0 wr base A c dk)/\Hid (insOuter (Ab cmp) a b i dk=insertionSort (Ab cmp) d a b)) (fun v _=>b+1-(intOf v).toNat)
 case atStart=>exact ⟨a+1,d,by go_num,by omega,by omega,hdn,HS,rfl⟩
 case round=>
  obtain ⟨i,dk,rfl,bb,ba,a3,hS,hO⟩:=hrel
  by_cases hlt:i<b
  ·
   have i2:(i:Int)<b:=by omega
   have t0:decide ((i:Int)<b)=true:=decide_eq_true i2;have a5:decide (i<b)=true:=decide_eq_true hlt;have a7:=iw ((i:Int)+1);go_wp2_with fail;generalize wr=wo at*
   go_loopw [9] (fun v wr=>∃(j:Nat) (dj:Array Id),v=.int .i64 (j:Int)/\a<=j/\j<=i/\dj.size=n/\Hid (Srt w0 wr base A c dj)/\Hid (insInner (Ab cmp) a j dj=insInner (Ab cmp) a i dk)) (fun v _=>(intOf v).toNat)
   case atStart=>exact ⟨i,dk,rfl,by omega,Ax3 _,a3,hS,rfl⟩
   case round=>
    clear hS;obtain ⟨j,dj,rfl,bd,be,aw,hS,hI⟩:=hrel
    have out:Hid ((j=0\/(a<j&&Ab cmp dj[j]! dj[j-1]!)=false)->insOuter (Ab cmp) a b (i+1) dj=insertionSort (Ab cmp) d a b):=fun hs=>by
     rw [<- hO.out];conv=>rhs;unfold insOuter
     rw [if_pos hlt,<- hI.out]
     cases j with
     |zero=>rfl
     |succ j=>
      unfold insInner
      rcases hs with hs|hs
      · omega
      · rw [if_neg (by rw [show j+1-1=j from rfl] at hs;simp only [gt_iff_lt];rw [hs];simp)]
    by_cases hja:a<j
    ·
     obtain ⟨jp,rfl⟩:∃jp,j=jp+1:=⟨j-1,by omega⟩;obtain ⟨g,rfl,a9,bc⟩:=hS.out.at (i:=jp+1) (by omega);have jc:((jp+1:Nat):Int)=(jp:Int)+1:=by omega
     rw [jc];have j1:(0:Int)<=(jp:Int)+1:=by omega
     have j2:(jp:Int)+1<n:=by omega
     have j3:((jp:Int)+1).toNat=jp+1:=by omega
     obtain ⟨k1,k2,k3⟩:=ix jp n
     have wj:=iw (jp:Int);have a8:IntKind.i64.wrap ((jp:Int)+1-1)=(jp:Int):=by rw [show (jp:Int)+1-1=jp by omega];exact wj
     have u0:decide ((a:Int)<(jp:Int)+1)=true:=decide_eq_true (by omega);have a0:decide ((jp:Int)+1>(a:Int))=true:=u0;have a4:decide (a<jp+1)=true:=decide_eq_true hja;go_upto_region 4 with (fail)
     obtain ⟨x,hx⟩:=Aa dj[jp+1]!;obtain ⟨y,hy⟩:=Aa dj[jp]!;have ag:=hS.out.cells (i:=(jp+1)) (by omega);have ah:=hS.out.cells (i:=jp) (by omega);rw [hx.out] at ag;rw [hy.out] at ah;have ad:cI wr g ((jp+1)*3) x.b:=ag.1;have ac:cI wr g ((jp+1)*3+1) x.s:=ag.2.1;have aa:cU wr g ((jp+1)*3+2) x.u:=ag.2.2;have af:cI wr g (jp*3) y.b:=ah.1;have ab:cI wr g (jp*3+1) y.s:=ah.2.1;have ae:cU wr g (jp*3+2) y.u:=ah.2.2;have F0:Fr Non wr wr.drew:=(Fr.refl Non wr).drew;have kc:=lh (fun (v:World) (hv:Fr Non wr v)=>HC.out.tells x y v (hS.out.fr.trans hv zr) (by rw [<- hx.out];exact hS.out.okAt (by omega)) (by rw [<- hy.out];exact hS.out.okAt (by omega)))
     rcases zb (decide (cmp x y<0)) with cT|cT
     ·
      have ar:Ab cmp dj[jp+1]! dj[jp]! =true:=by rw [hx.out,hy.out];exact cT
      refine wp_region_held_drew (S:=fun w'=>cI w' g ((jp+1)*3) x.b/\cI w' g ((jp+1)*3+1) x.s/\cU w' g ((jp+1)*3+2) x.u/\cI w' g (jp*3) y.b/\cI w' g (jp*3+1) y.s/\cU w' g (jp*3+2) y.u) (by kernel_rfl) ⟨ad,ac,aa,af,ab,ae⟩ (fun hHeld=> ?_);clear hHeld;have uu:=aI ad (aI ac (aI aa (aI af (aI ab ae))));refine tkH 0 uu (h:=tkH 1 uu (h:=tkH 2 uu (h:=tkH 3 uu (h:=tkH 4 uu (h:=tkH 5 uu (h:=tkH 6 uu (h:=tkH 7 uu (h:=tkH 8 uu (h:=tkH 9 uu (h:=tkH 10 uu (h:=tkH 11 uu (h:=?_))))))))))));clear uu;simp only [zl];refine tkH 12 ⟨ad,ac,aa,af,ab,ae⟩ (h:=tkH 13 ⟨ad,ac,aa,af,ab,ae⟩ (h:=?_));simp only [zl];refine oG 14 (fun K hK=> ?_);go_simp;go_wp2_with fail;refine (kc.out _ F0).mono ?_;rintro _ v1 ⟨rfl,f1⟩;have F1:=F0.trans f1 zr;obtain ⟨ak,ao,ap,al,aj,ai⟩:=zk6 F1 ad ac aa af ab ae;refine hK.out _ _ ⟨ak,ao,ap,al,aj,ai⟩ (fun hZ=> ?_);clear hZ hK K;try simp only [Ac,zl]
      refine tkH 15 ⟨ak,ao,ap,al,aj,ai⟩ (h:=tkH 16 ⟨ak,ao,ap,al,aj,ai⟩ (h:=?_));simp only [zl];refine oD ?_;go_simp;replace ar:=lh ar;go_upto_region 6 with (fail)
      have aq:=lh (hS.out.non F1);clear hS ag ah kc ad ac aa af ab ae ak ao ap al aj ai F0 f1 hx hy;generalize v1=u1 at*;obtain ⟨x,hx⟩:=Aa dj[jp+1]!;obtain ⟨y,hy⟩:=Aa dj[jp]!;have ag:=aq.out.cells (i:=(jp+1)) (by omega);have ah:=aq.out.cells (i:=jp) (by omega);rw [hx.out] at ag;rw [hy.out] at ah;have ad:cI u1 g ((jp+1)*3) x.b:=ag.1;have ac:cI u1 g ((jp+1)*3+1) x.s:=ag.2.1;have aa:cU u1 g ((jp+1)*3+2) x.u:=ag.2.2;have af:cI u1 g (jp*3) y.b:=ah.1;have ab:cI u1 g (jp*3+1) y.s:=ah.2.1;have ae:cU u1 g (jp*3+2) y.u:=ah.2.2;have F0:Fr Non u1 u1.drew:=(Fr.refl Non u1).drew;have az:=(show Srt w0 u1.drew base _ c _ from aq.out.non F0).swap (i:=(jp+1)) (j:=jp) (by omega) (by omega);rw [hx.out,hy.out] at az;obtain ⟨a2,a6,ay⟩:=az;refine Cr (S:=fun w'=>cI w' g ((jp+1)*3) x.b/\cI w' g ((jp+1)*3+1) x.s/\cU w' g ((jp+1)*3+2) x.u/\cI w' g (jp*3) y.b/\cI w' g (jp*3+1) y.s/\cU w' g (jp*3+2) y.u) 15 (by kernel_rfl) ?_;refine tkG 0 ⟨ad,ac,aa,af,ab,ae⟩ (h:=tkG 1 ⟨ad,ac,aa,af,ab,ae⟩ (h:=?_));simp only [zl];refine tkP 2 ⟨ad,ac,aa,af,ab,ae⟩ ?_;simp only [zl];refine tkP 3 ⟨ad,ac,aa,af,ab,ae⟩ ?_;simp only [zl];refine tkP 4 ⟨ad,ac,aa,af,ab,ae⟩ ?_;simp only [zl];have uu:=aI ad (aI ac (aI aa (aI af (aI ab ae))));refine tkG 5 uu (h:=tkG 6 uu (h:=tkG 7 uu (h:=tkG 8 uu (h:=tkG 9 uu (h:=?_)))));clear uu;simp only [zl];refine tkP 10 ⟨ad,ac,aa,af,ab,ae⟩ ?_;simp only [zl];refine tkP 11 ⟨ad,ac,aa,af,ab,ae⟩ ?_;simp only [zl];refine tkP 12 ⟨ad,ac,aa,af,ab,ae⟩ ?_;simp only [zl];refine tkG 13 ⟨ad,ac,aa,af,ab,ae⟩ (h:=tkG 14 ⟨ad,ac,aa,af,ab,ae⟩ (h:=?_));simp only [zl];refine Ck (by kernel_rfl) ?_;refine oG 15 (fun K hK=> ?_);go_simp;refine hK.out _ _ trivial (fun hZ=> ?_);clear hZ hK K;try simp only [Ac,zl]
      refine tkH 16 trivial (h:=?_);simp only [zl];refine oG 17 (fun K hK=> ?_);go_simp;refine hK.out _ _ trivial (fun hZ=> ?_);clear hZ hK K;try simp only [Ac,zl]
      refine oD ?_;go_simp;clear a2 a6;generalize Cv (Cv u1.drew g ((jp+1)*3) y) g (jp*3) x=wz at*
      have a1:Hid (insInner (Ab cmp) a jp (swp dj (jp+1) jp)=insInner (Ab cmp) a i dk):=by
       show _=_;rw [<- hI.out];conv=>rhs;unfold insInner
       rw [if_pos (by rw [ar.out,Bool.and_true];exact decide_eq_true hja)]
      have av:=lh ay;clear ay;go_wp2_with fail;go_roundw
      case rel=>exact ⟨jp,swp dj (jp+1) jp,by go_num,by omega,by omega,by rw [size_swp];exact aw,av,a1⟩
      case measure=>first|(simp [intOf];done)|(simp [intOf];omega)
     ·
      have ar:Ab cmp dj[jp+1]! dj[jp]! =false:=by rw [hx.out,hy.out];exact cT
      refine wp_region_held_drew (S:=fun w'=>cI w' g ((jp+1)*3) x.b/\cI w' g ((jp+1)*3+1) x.s/\cU w' g ((jp+1)*3+2) x.u/\cI w' g (jp*3) y.b/\cI w' g (jp*3+1) y.s/\cU w' g (jp*3+2) y.u) (by kernel_rfl) ⟨ad,ac,aa,af,ab,ae⟩ (fun hHeld=> ?_);clear hHeld;have uu:=aI ad (aI ac (aI aa (aI af (aI ab ae))));refine tkH 0 uu (h:=tkH 1 uu (h:=tkH 2 uu (h:=tkH 3 uu (h:=tkH 4 uu (h:=tkH 5 uu (h:=tkH 6 uu (h:=tkH 7 uu (h:=tkH 8 uu (h:=tkH 9 uu (h:=tkH 10 uu (h:=tkH 11 uu (h:=?_))))))))))));clear uu;simp only [zl];refine tkH 12 ⟨ad,ac,aa,af,ab,ae⟩ (h:=tkH 13 ⟨ad,ac,aa,af,ab,ae⟩ (h:=?_));simp only [zl];refine oG 14 (fun K hK=> ?_);go_simp;go_wp2_with fail;refine (kc.out _ F0).mono ?_;rintro _ v1 ⟨rfl,f1⟩;have F1:=F0.trans f1 zr;obtain ⟨ak,ao,ap,al,aj,ai⟩:=zk6 F1 ad ac aa af ab ae;refine hK.out _ _ ⟨ak,ao,ap,al,aj,ai⟩ (fun hZ=> ?_);clear hZ hK K;try simp only [Ac,zl]
      refine tkH 15 ⟨ak,ao,ap,al,aj,ai⟩ (h:=tkH 16 ⟨ak,ao,ap,al,aj,ai⟩ (h:=?_));simp only [zl];refine oD ?_;go_simp;have ax:=lh (out.out (.inr (by rw [show jp+1-1=jp from rfl,ar,Bool.and_false])));have aq:=lh (hS.out.non F1);clear ar out ad ac aa af ab ae ak ao ap al aj ai;go_wp2_with fail;go_roundw
      case rel=>exact ⟨i+1,dj,by go_num,by omega,by omega,aw,aq,ax⟩
      case measure=>first|(simp [intOf];done)|(simp [intOf];omega)
    ·
     have ax:=lh (out.out (.inr (by rw [decide_eq_false hja,Bool.false_and])));have u0:decide ((a:Int)<(j:Int))=false:=decide_eq_false (by omega);have a0:decide ((j:Int)>(a:Int))=false:=u0;have a4:decide (a<j)=false:=decide_eq_false hja;have F0:Fr Non wr wr.drew:=(Fr.refl Non wr).drew;have aq:=lh (hS.out.non F0);go_upto_region 4 with (fail)
     have Z0:True:=trivial;refine wp_region_held_drew (S:=fun w'=>True) (by kernel_rfl) Z0 (fun hHeld=> ?_);clear hHeld;refine tkH 0 Z0 (h:=tkH 1 Z0 (h:=tkH 2 Z0 (h:=tkH 3 Z0 (h:=skH 4 Z0 (h:=skH 5 Z0 (h:=skH 6 Z0 (h:=skH 7 Z0 (h:=skH 8 Z0 (h:=skH 9 Z0 (h:=skH 10 Z0 (h:=skH 11 Z0 (h:=?_))))))))))));simp only [zl];refine skH 12 Z0 (h:=skH 13 Z0 (h:=skH 14 Z0 (h:=skH 15 Z0 (h:=tkH 16 Z0 (h:=?_)))));simp only [zl];refine oD ?_;go_simp;clear Z0;clear out;go_wp2_with fail;go_roundw
     case rel=>exact ⟨i+1,dj,by go_num,by omega,by omega,aw,aq,ax⟩
     case measure=>first|(simp [intOf];done)|(simp [intOf];omega)
  ·
   have t0:decide ((i:Int)<b)=false:=decide_eq_false (by omega);have a5:decide (i<b)=false:=decide_eq_false hlt;have hd:=lh (au.out dk wr (by rw [<- hO.out];(conv=>rhs;unfold insOuter);rw [if_neg hlt]) hS.out);clear au hO;go_wp2_with fail
   go_end0
   exact hd.out
def Fl (w0:World) (base:Nat) (A:Option Addr) (c:Nat) (d:Array Id) (g2:Nat) (s:Nat) (v:Value) (e:Ending) (w':World):Prop:=e=.returned v/\Srt w0 w' base A c d/\Blk w' g2 3 #[.int .i64 (s:Int)]
theorem Srt.cnt {w0 v:World} {base c g2:Nat} {A:Option Addr} {d:Array Id} {cs:Array Value} (h:Srt w0 v base A c d) (hb:Blk v g2 3 cs) (hg:w0.heap.size<=g2) (u:Value):Srt w0 (v.setCell ⟨g2,0,none⟩ u) base A c d:=
 ⟨h.own.setOne (h.own.ne hb (by decide)),h.fr.setCell (p:=⟨g2,0,none⟩) (fun hh=>absurd hh (by show ¬g2<_;omega)) u,h.ok,h.base⟩
theorem Tp {d:Array Id} {lt:Id->Id->Bool} {i j s n:Nat} (hi:i<n) (hj:j<n):(order2 lt d i j s).1<n/\(order2 lt d i j s).2.1<n/\(order2 lt d i j s).2.2<=s+1:=by
 unfold order2
 split
 · exact ⟨hj,hi,Ax3 _⟩
 · exact ⟨hi,hj,Nat.le_succ _⟩
theorem An8 (w0:World) (base c:Nat) (A:Option Addr) (d:Array Id) (n:Nat) (i j s g2:Nat) (fid:Nat) (pre post:Array Value) (cmp:Id->Id->Int) (w:World)
  (hc:E8 w0 fid pre post cmp) (h:Srt w0 w base A c d) (hdn:d.size=n) (_hn:n<=1000) (hi:i<n) (hj:j<n) (hs:s<=1000) (hg2:w0.heap.size<=g2) (hb:Blk w g2 3 #[.int .i64 (s:Int)]):
  Calls zp 246 #[.slice A n c,.int .i64 i,.int .i64 j,.pointer (some ⟨g2,0,none⟩),.func (.func fid) pre post] w (Fl w0 base A c d g2 (order2 (Ab cmp) d i j s).2.2 (.tuple #[.int .i64 ((order2 (Ab cmp) d i j s).1:Int),.int .i64 ((order2 (Ab cmp) d i j s).2.1:Int)])):=by
 have eg:=hc.enters;have HC:=lh hc;have HS:=lh h;clear hc h;obtain ⟨g,rfl,aw,ay⟩:=HS.out.at (i:=i) (by omega);have hT:Hid (Ab cmp d[j]! d[i]! =true->∀wz,Srt w0 wz base (some ⟨g,0,none⟩) c d->Blk wz g2 3 #[.int .i64 ((s:Int)+1)]->Fl w0 base (some ⟨g,0,none⟩) c d g2 (order2 (Ab cmp) d i j s).2.2 (.tuple #[.int .i64 ((order2 (Ab cmp) d i j s).1:Int),.int .i64 ((order2 (Ab cmp) d i j s).2.1:Int)]) (.returned (.tuple #[.int .i64 (j:Int),.int .i64 (i:Int)])) wz):=fun h wz h1 h2=>by unfold order2;rw [if_pos h];exact ⟨rfl,h1,h2⟩
 have hF:Hid (Ab cmp d[j]! d[i]! =false->∀wz,Srt w0 wz base (some ⟨g,0,none⟩) c d->Blk wz g2 3 #[.int .i64 (s:Int)]->Fl w0 base (some ⟨g,0,none⟩) c d g2 (order2 (Ab cmp) d i j s).2.2 (.tuple #[.int .i64 ((order2 (Ab cmp) d i j s).1:Int),.int .i64 ((order2 (Ab cmp) d i j s).2.1:Int)]) (.returned (.tuple #[.int .i64 (i:Int),.int .i64 (j:Int)])) wz):=fun h wz h1 h2=>by unfold order2;rw [if_neg (by rw [h];simp)];exact ⟨rfl,h1,h2⟩
 generalize Fl w0 base (some ⟨g,0,none⟩) c d g2 (order2 (Ab cmp) d i j s).2.2 (.tuple #[.int .i64 ((order2 (Ab cmp) d i j s).1:Int),.int .i64 ((order2 (Ab cmp) d i j s).2.1:Int)])=POST at*;go_enter func246,ntmps246;obtain ⟨i1,i2,i3⟩:=ix i n
 obtain ⟨j1,j2,j3⟩:=ix j n
 have es:=iw ((s:Int)+1);have hS:=HS;clear HS;go_upto_region 1 with (fail)
 obtain ⟨x,hx⟩:=Aa d[j]!;obtain ⟨y,hy⟩:=Aa d[i]!;have ap:=hS.out.cells (i:=j) (by omega);have aq:=hS.out.cells (i:=i) (by omega);rw [hx.out] at ap;rw [hy.out] at aq;have ae:cI w g (j*3) x.b:=ap.1;have ad:cI w g (j*3+1) x.s:=ap.2.1;have ab:cU w g (j*3+2) x.u:=ap.2.2;have aa:cI w g (i*3) y.b:=aq.1;have ac:cI w g (i*3+1) y.s:=aq.2.1;have af:cU w g (i*3+2) y.u:=aq.2.2;have F0:Fr Non w w.drew:=(Fr.refl Non w).drew;have kc:=lh (fun (v:World) (hv:Fr Non w v)=>HC.out.tells x y v (hS.out.fr.trans hv zr) (by rw [<- hx.out];exact hS.out.okAt (by omega)) (by rw [<- hy.out];exact hS.out.okAt (by omega)))
 rcases zb (decide (cmp x y<0)) with cT|cT
 ·
  have ar:Ab cmp d[j]! d[i]! =true:=by rw [hx.out,hy.out];exact cT
  have hd:=lh (hT.out ar);clear hT hF ar;refine wp_region_held_drew (S:=fun w'=>cI w' g (j*3) x.b/\cI w' g (j*3+1) x.s/\cU w' g (j*3+2) x.u/\cI w' g (i*3) y.b/\cI w' g (i*3+1) y.s/\cU w' g (i*3+2) y.u) (by kernel_rfl) ⟨ae,ad,ab,aa,ac,af⟩ (fun hHeld=> ?_);clear hHeld;have uu:=aI ae (aI ad (aI ab (aI aa (aI ac af))));refine tkH 0 uu (h:=tkH 1 uu (h:=tkH 2 uu (h:=tkH 3 uu (h:=tkH 4 uu (h:=tkH 5 uu (h:=tkH 6 uu (h:=tkH 7 uu (h:=tkH 8 uu (h:=?_)))))))));clear uu;simp only [zl];refine oG 9 (fun K hK=> ?_);go_simp;go_wp2_with fail;refine (kc.out _ F0).mono ?_;rintro _ v1 ⟨rfl,f1⟩;have F1:=F0.trans f1 zr;obtain ⟨ag,ak,al,ai,ao,ah⟩:=zk6 F1 ae ad ab aa ac af;refine hK.out _ _ ⟨ag,ak,al,ai,ao,ah⟩ (fun hZ=> ?_);clear hZ hK K;try simp only [Ac,zl]
  refine tkH 10 ⟨ag,ak,al,ai,ao,ah⟩ (h:=?_);simp only [zl];refine oD ?_;go_simp;have au:=lh (hS.out.non F1);have aj:=hb.fr F1 zq;have hz:=lh (au.out.cnt aj hg2 (.int .i64 ((s:Int)+1)));have av:Blk (v1.setCell ⟨g2,0,none⟩ (.int .i64 ((s:Int)+1))) g2 3 #[.int .i64 ((s:Int)+1)]:=aj.set 0 _;have az:cI v1 g2 0 (s:Int):=aj.cell 0;have ax:=aj.frozen 0;clear hS ap aq kc ae ad ab aa ac af ag ak al ai ao ah F0 f1 hb aj;go_wp2_with fail;exact hd.out _ hz.out av
 ·
  have ar:Ab cmp d[j]! d[i]! =false:=by rw [hx.out,hy.out];exact cT
  have hd:=lh (hF.out ar);clear hT hF ar;refine wp_region_held_drew (S:=fun w'=>cI w' g (j*3) x.b/\cI w' g (j*3+1) x.s/\cU w' g (j*3+2) x.u/\cI w' g (i*3) y.b/\cI w' g (i*3+1) y.s/\cU w' g (i*3+2) y.u) (by kernel_rfl) ⟨ae,ad,ab,aa,ac,af⟩ (fun hHeld=> ?_);clear hHeld;have uu:=aI ae (aI ad (aI ab (aI aa (aI ac af))));refine tkH 0 uu (h:=tkH 1 uu (h:=tkH 2 uu (h:=tkH 3 uu (h:=tkH 4 uu (h:=tkH 5 uu (h:=tkH 6 uu (h:=tkH 7 uu (h:=tkH 8 uu (h:=?_)))))))));clear uu;simp only [zl];refine oG 9 (fun K hK=> ?_);go_simp;go_wp2_with fail;refine (kc.out _ F0).mono ?_;rintro _ v1 ⟨rfl,f1⟩;have F1:=F0.trans f1 zr;obtain ⟨ag,ak,al,ai,ao,ah⟩:=zk6 F1 ae ad ab aa ac af;refine hK.out _ _ ⟨ag,ak,al,ai,ao,ah⟩ (fun hZ=> ?_);clear hZ hK K;try simp only [Ac,zl]
  refine tkH 10 ⟨ag,ak,al,ai,ao,ah⟩ (h:=?_);simp only [zl];refine oD ?_;go_simp;have au:=lh (hS.out.non F1);have aj:=hb.fr F1 zq;clear hS ap aq kc ae ad ab aa ac af ag ak al ai ao ah F0 f1 hb;go_wp2_with fail;exact hd.out _ au.out aj
theorem An9 (w0:World) (base c:Nat) (A:Option Addr) (d:Array Id) (n:Nat) (i j k s g2:Nat) (fid:Nat) (pre post:Array Value) (cmp:Id->Id->Int) (w:World)
  (hc:E8 w0 fid pre post cmp) (h:Srt w0 w base A c d) (hdn:d.size=n) (hn:n<=1000) (hi:i<n) (hj:j<n) (hk:k<n) (hs:s<=900) (hg2:w0.heap.size<=g2) (hb:Blk w g2 3 #[.int .i64 (s:Int)]):
  Calls zp 236 #[.slice A n c,.int .i64 i,.int .i64 j,.int .i64 k,.pointer (some ⟨g2,0,none⟩),.func (.func fid) pre post] w (Fl w0 base A c d g2 (median (Ab cmp) d i j k s).2 (.int .i64 ((median (Ab cmp) d i j k s).1:Int))):=by
 have eg:=hc.enters;have HC:=lh hc;have HS:=lh h;clear hc h;clear eg;have ko:=lh (fun (i j s:Nat) (v:World) (hS:Srt w0 v base A c d) (h1:i<n) (h2:j<n) (h3:s<=1000) (hb:Blk v g2 3 #[.int .i64 (s:Int)])=>An8 w0 base c A d n i j s g2 fid pre post cmp v HC.out hS hdn hn h1 h2 h3 hg2 hb);obtain ⟨a1,a2,a3⟩:=Tp (lt:=Ab cmp) (d:=d) (s:=s) hi hj;have hm:Hid (median (Ab cmp) d i j k s=((order2 (Ab cmp) d (order2 (Ab cmp) d i j s).1 (order2 (Ab cmp) d (order2 (Ab cmp) d i j s).2.1 k (order2 (Ab cmp) d i j s).2.2).1 (order2 (Ab cmp) d (order2 (Ab cmp) d i j s).2.1 k (order2 (Ab cmp) d i j s).2.2).2.2).2.1,(order2 (Ab cmp) d (order2 (Ab cmp) d i j s).1 (order2 (Ab cmp) d (order2 (Ab cmp) d i j s).2.1 k (order2 (Ab cmp) d i j s).2.2).1 (order2 (Ab cmp) d (order2 (Ab cmp) d i j s).2.1 k (order2 (Ab cmp) d i j s).2.2).2.2).2.2)):=rfl;rw [hm.out];clear hm;have k1:=lh (ko.out i j s w HS.out hi hj (by omega) hb);obtain ⟨b1,b2,b3⟩:=Tp (lt:=Ab cmp) (d:=d) (s:=(order2 (Ab cmp) d i j s).2.2) a2 hk;have k2:=lh (fun (v:World) (hS:Srt w0 v base A c d) (hb:Blk v g2 3 #[.int .i64 ((order2 (Ab cmp) d i j s).2.2:Int)])=>ko.out (order2 (Ab cmp) d i j s).2.1 k (order2 (Ab cmp) d i j s).2.2 v hS a2 hk (by omega) hb);have k3:=lh (fun (v:World) (hS:Srt w0 v base A c d) (hb:Blk v g2 3 #[.int .i64 ((order2 (Ab cmp) d (order2 (Ab cmp) d i j s).2.1 k (order2 (Ab cmp) d i j s).2.2).2.2:Int)])=>ko.out (order2 (Ab cmp) d i j s).1 (order2 (Ab cmp) d (order2 (Ab cmp) d i j s).2.1 k (order2 (Ab cmp) d i j s).2.2).1 (order2 (Ab cmp) d (order2 (Ab cmp) d i j s).2.1 k (order2 (Ab cmp) d i j s).2.2).2.2 v hS a1 b1 (by omega) hb);clear a1 a2 a3 b1 b2 b3 ko;generalize order2 (Ab cmp) d i j s=r1 at*;generalize order2 (Ab cmp) d r1.2.1 k r1.2.2=r2 at*;generalize order2 (Ab cmp) d r1.1 r2.1 r2.2.2=r3 at*;unfold Fl at k1 k2 k3;have aa:Hid (∀(wz:World),Srt w0 wz base A c d->Blk wz g2 3 #[.int .i64 (r3.2.2:Int)]->Fl w0 base A c d g2 r3.2.2 (.int .i64 (r3.2.1:Int)) (.returned (.int .i64 (r3.2.1:Int))) wz):=fun wz h1 h2=>⟨rfl,h1,h2⟩;generalize Fl w0 base A c d g2 r3.2.2 (.int .i64 (r3.2.1:Int))=POST at*;go_enter func236,ntmps236
 go_wp2_with (first
  |(go_at_call 246;(with_reducible refine (k1.out).mono ?_);rintro _ w1 ⟨rfl,s1,b1⟩)
  |(go_at_call 246;(with_reducible refine (k2.out _ s1 b1).mono ?_);rintro _ w2 ⟨rfl,s2,b2⟩)
  |(go_at_call 246;(with_reducible refine (k3.out _ s2 b2).mono ?_);rintro _ w3 ⟨rfl,s3,b3⟩))
 exact aa.out w3 s3 b3
def El (s:Nat):Int:=if s=0 then 1 else if s=12 then 2 else 0
def Ku (w0:World) (base:Nat) (A:Option Addr) (c:Nat) (d:Array Id) (P M:Nat) (e:Ending) (v:World):Prop:=e=.returned (.tuple #[.int .i64 (P:Int),.int .i64 (El M)])/\Srt w0 v base A c d
theorem Ao0 (w0:World) (base c:Nat) (A:Option Addr) (d:Array Id) (n:Nat) (fid:Nat) (pre post:Array Value) (cmp:Id->Id->Int) (w:World)
  (hc:E8 w0 fid pre post cmp) (h:Srt w0 w base A c d) (hdn:d.size=n) (hn:n<=1000) (h13:n=13\/n=14):
  Calls zp 201 #[.slice A n c,.int .i64 0,.int .i64 n,.func (.func fid) pre post] w (Ku w0 base A c d (median (Ab cmp) d 3 6 9 0).1 (median (Ab cmp) d 3 6 9 0).2):=by
 have eg:=hc.enters;have HC:=lh hc;have HS:=lh h;clear hc h;clear eg;have hl:=hn;have km:=lh (fun (v:World) (g2:Nat) (hS:Srt w0 v base A c d) (h3:w0.heap.size<=g2) (hb:Blk v g2 3 #[.int .i64 ((0:Nat):Int)])=>An9 w0 base c A d n 3 6 9 0 g2 fid pre post cmp v HC.out hS hdn hn (by omega) (by omega) (by omega) (by omega) h3 hb);unfold Fl at km;generalize median (Ab cmp) d 3 6 9 0=R at*;obtain ⟨P,M⟩:=R
 (try dsimp only at km ⊢)
 have f0:Fr Non w (w.alloc (.cells #[.int .i64 0] 3)):=(Fr.refl Non w).alloc _;have b0:=Blk.new w 3 #[.int .i64 0];have h9:=km.out _ w.heap.size (HS.out.non f0) HS.out.fr.size b0;rw [show ((3:Nat):Int)=3 from rfl,show ((6:Nat):Int)=6 from rfl,show ((9:Nat):Int)=9 from rfl] at h9;replace h9:=lh h9;have k1:=h9;clear h9;have aa:Hid (∀(wz:World) (H:Int),El M=H->Srt w0 wz base A c d->Ku w0 base A c d P M (.returned (.tuple #[.int .i64 (P:Int),.int .i64 H])) wz):=fun wz H e h1=>⟨by rw [e],h1⟩;generalize Ku w0 base A c d P M=POST at*;clear km HC hdn HS f0 b0;have ae:(13:Int).tdiv 4=3:=by decide
 have ad:(14:Int).tdiv 4=3:=by decide
 have hH:Hid ((M=0->El M=1)/\(M=12->El M=2)/\(M≠0->M≠12->El M=0)):=⟨fun h=>by unfold El;rw [if_pos h],fun h=>by unfold El;rw [if_neg (by omega),if_pos h],fun h1 h2=>by unfold El;rw [if_neg h1,if_neg h2]⟩
 rcases h13 with rfl|rfl
 ·
  go_enter func201,ntmps201
  by_cases h0:M=0
  ·
   have hd:=lh (fun wz=>aa.out wz 1 (hH.out.1 h0));subst h0;clear hH aa;go_wp2_with (go_at_call 236;(with_reducible refine (k1.out).mono ?_);rintro _ w1 ⟨rfl,s1,b1⟩;have c1:cI w1 w.heap.size 0 0:=b1.cell 0);exact hd.out w1 s1
  ·
   by_cases h12:M=12
   ·
    have hd:=lh (fun wz=>aa.out wz 2 (hH.out.2.1 h12));subst h12;clear hH aa;go_wp2_with (go_at_call 236;(with_reducible refine (k1.out).mono ?_);rintro _ w1 ⟨rfl,s1,b1⟩;have c1:cI w1 w.heap.size 0 12:=b1.cell 0);exact hd.out w1 s1
   ·
    have hd:=lh (fun wz=>aa.out wz 0 (hH.out.2.2 h0 h12));have e1:((M:Int)==0)=false:=beq_eq_false_iff_ne.2 (by omega);have e2:((M:Int)==12)=false:=beq_eq_false_iff_ne.2 (by omega);have ac:=lh h0;have ab:=lh h12;clear hH aa h0 h12;go_wp2_with (go_at_call 236;(with_reducible refine (k1.out).mono ?_);rintro _ w1 ⟨rfl,s1,b1⟩;have c1:cI w1 w.heap.size 0 (M:Int):=b1.cell 0);exact hd.out w1 s1
 ·
  go_enter func201,ntmps201
  by_cases h0:M=0
  ·
   have hd:=lh (fun wz=>aa.out wz 1 (hH.out.1 h0));subst h0;clear hH aa;go_wp2_with (go_at_call 236;(with_reducible refine (k1.out).mono ?_);rintro _ w1 ⟨rfl,s1,b1⟩;have c1:cI w1 w.heap.size 0 0:=b1.cell 0);exact hd.out w1 s1
  ·
   by_cases h12:M=12
   ·
    have hd:=lh (fun wz=>aa.out wz 2 (hH.out.2.1 h12));subst h12;clear hH aa;go_wp2_with (go_at_call 236;(with_reducible refine (k1.out).mono ?_);rintro _ w1 ⟨rfl,s1,b1⟩;have c1:cI w1 w.heap.size 0 12:=b1.cell 0);exact hd.out w1 s1
   ·
    have hd:=lh (fun wz=>aa.out wz 0 (hH.out.2.2 h0 h12));have e1:((M:Int)==0)=false:=beq_eq_false_iff_ne.2 (by omega);have e2:((M:Int)==12)=false:=beq_eq_false_iff_ne.2 (by omega);have ac:=lh h0;have ab:=lh h12;clear hH aa h0 h12;go_wp2_with (go_at_call 236;(with_reducible refine (k1.out).mono ?_);rintro _ w1 ⟨rfl,s1,b1⟩;have c1:cI w1 w.heap.size 0 (M:Int):=b1.cell 0);exact hd.out w1 s1
theorem Ao1 {lt:Id->Id->Bool} {d:Array Id} {b i:Nat} (h:i<b) (hl:lt d[i]! d[i-1]! =false):scanSorted lt d b i=scanSorted lt d b (i+1):=by
 conv=>lhs;unfold scanSorted
 rw [if_pos (by rw [hl];simp [h])]
theorem Ao2 {lt:Id->Id->Bool} {d:Array Id} {b i:Nat} (h:b<=i\/lt d[i]! d[i-1]! =true):scanSorted lt d b i=i:=by
 unfold scanSorted;rw [if_neg]
 rcases h with h|h
 · simp only [Ax5,decide_eq_true_eq];omega
 · rw [h];simp
def Ic (w0:World) (base:Nat) (A:Option Addr) (c:Nat) (d:Array Id) (S n:Nat) (e:Ending) (v:World):Prop:=e=.returned (.bool (S==n))/\Srt w0 v base A c d
theorem Ao3 (w0:World) (base c:Nat) (A:Option Addr) (d:Array Id) (n:Nat) (a b:Nat) (fid:Nat) (pre post:Array Value) (cmp:Id->Id->Int) (w:World)
  (hc:E8 w0 fid pre post cmp) (h:Srt w0 w base A c d) (hdn:d.size=n) (hn:n<=1000) (hab:a<b) (hb:b<=n) (h50:b<50):
  Calls zp 203 #[.slice A n c,.int .i64 a,.int .i64 b,.func (.func fid) pre post] w (Ic w0 base A c d (scanSorted (Ab cmp) d b (a+1)) b):=by
 have eg:=hc.enters;have HC:=lh hc;have HS:=lh h;clear hc h;obtain ⟨g,rfl,a2,a4⟩:=HS.out.at (i:=a) (by omega);have ao:Hid (∀(wz:World) (i:Nat),scanSorted (Ab cmp) d b (a+1)=i->Srt w0 wz base (some ⟨g,0,none⟩) c d->Ic w0 base (some ⟨g,0,none⟩) c d (scanSorted (Ab cmp) d b (a+1)) b (.returned (.bool (i==b))) wz):=fun wz i e h=>⟨by rw [e],h⟩;have av:Hid (∀i,scanSorted (Ab cmp) d b i=scanSorted (Ab cmp) d b (a+1)->(b<=i\/Ab cmp d[i]! d[i-1]! =true)->scanSorted (Ab cmp) d b (a+1)=i):=fun i e h=>by rw [<- e];exact Ao2 h
 generalize Ic w0 base (some ⟨g,0,none⟩) c d (scanSorted (Ab cmp) d b (a+1)) b=POST at*;go_enter func203,ntmps203;have e0:=iw ((a:Int)+1);have eb:=iw ((b:Int)-(a:Int));have t5:decide ((b:Int)-(a:Int)<50)=true:=decide_eq_true (by omega);go_wp2_with fail
 go_loopw [9,10] (fun v v2 wr=>v=.int .i64 ((a:Int)+1)/\v2=.int .i64 0/\Hid (Srt w0 wr base (some ⟨g,0,none⟩) c d)) (fun _ _ _=>0)
 case atStart=>exact ⟨rfl,rfl,HS⟩
 case round=>
  obtain ⟨rfl,rfl,az⟩:=hrel;go_wp2_with fail;generalize wr=wo at*
  go_loopw [9] (fun v wr=>∃i:Nat,v=.int .i64 (i:Int)/\a+1<=i/\i<=b/\Hid (Srt w0 wr base (some ⟨g,0,none⟩) c d)/\Hid (scanSorted (Ab cmp) d b i=scanSorted (Ab cmp) d b (a+1))) (fun v _=>b-(intOf v).toNat)
  case atStart=>exact ⟨a+1,by go_num,Ax3 _,by omega,az,rfl⟩
  case round=>
   clear az;obtain ⟨i,rfl,a5,a3,hS,ax⟩:=hrel
   by_cases hlt:i<b
   ·
    obtain ⟨ip,rfl⟩:∃ip,i=ip+1:=⟨i-1,by omega⟩;have jc:((ip+1:Nat):Int)=(ip:Int)+1:=by omega
    rw [jc];have j1:(0:Int)<=(ip:Int)+1:=by omega
    have j2:(ip:Int)+1<n:=by omega
    have j3:((ip:Int)+1).toNat=ip+1:=by omega
    obtain ⟨k1,k2,k3⟩:=ix ip n
    have wj:=iw (ip:Int);have a1:IntKind.i64.wrap ((ip:Int)+1-1)=(ip:Int):=by rw [show (ip:Int)+1-1=ip by omega];exact wj
    have e1:=iw ((ip:Int)+1+1);have u0:decide ((ip:Int)+1<(b:Int))=true:=decide_eq_true (by omega);have a0:decide (ip+1<b)=true:=decide_eq_true hlt;go_upto_region 5 with (fail)
    obtain ⟨x,hx⟩:=Aa d[ip+1]!;obtain ⟨y,hy⟩:=Aa d[ip]!;have ap:=hS.out.cells (i:=(ip+1)) (by omega);have aq:=hS.out.cells (i:=ip) (by omega);rw [hx.out] at ap;rw [hy.out] at aq;have ae:cI wr g ((ip+1)*3) x.b:=ap.1;have ad:cI wr g ((ip+1)*3+1) x.s:=ap.2.1;have ab:cU wr g ((ip+1)*3+2) x.u:=ap.2.2;have aa:cI wr g (ip*3) y.b:=aq.1;have ac:cI wr g (ip*3+1) y.s:=aq.2.1;have af:cU wr g (ip*3+2) y.u:=aq.2.2;have F0:Fr Non wr wr.drew:=(Fr.refl Non wr).drew;have kc:=lh (fun (v:World) (hv:Fr Non wr v)=>HC.out.tells x y v (hS.out.fr.trans hv zr) (by rw [<- hx.out];exact hS.out.okAt (by omega)) (by rw [<- hy.out];exact hS.out.okAt (by omega)))
    rcases zb (decide (cmp x y<0)) with cT|cT
    ·
     have au:Ab cmp d[ip+1]! d[ip]! =true:=by rw [hx.out,hy.out];exact cT
     have hd:=lh (fun wz=>ao.out wz (ip+1) (av.out (ip+1) ax.out (.inr au)));have f0:(((ip:Int)+1)==(b:Int))=false:=beq_eq_false_iff_ne.2 (by omega);have ay:((ip+1:Nat)==b)=false:=beq_eq_false_iff_ne.2 (by omega);rw [ay] at hd;clear au;refine wp_region_held_drew (S:=fun w'=>cI w' g ((ip+1)*3) x.b/\cI w' g ((ip+1)*3+1) x.s/\cU w' g ((ip+1)*3+2) x.u/\cI w' g (ip*3) y.b/\cI w' g (ip*3+1) y.s/\cU w' g (ip*3+2) y.u) (by kernel_rfl) ⟨ae,ad,ab,aa,ac,af⟩ (fun hHeld=> ?_);clear hHeld;have uu:=aI ae (aI ad (aI ab (aI aa (aI ac af))));refine tkH 0 uu (h:=tkH 1 uu (h:=tkH 2 uu (h:=tkH 3 uu (h:=tkH 4 uu (h:=tkH 5 uu (h:=tkH 6 uu (h:=tkH 7 uu (h:=tkH 8 uu (h:=tkH 9 uu (h:=tkH 10 uu (h:=tkH 11 uu (h:=?_))))))))))));clear uu;simp only [zl];refine tkH 12 ⟨ae,ad,ab,aa,ac,af⟩ (h:=tkH 13 ⟨ae,ad,ab,aa,ac,af⟩ (h:=?_));simp only [zl];refine oG 14 (fun K hK=> ?_);go_simp;go_wp2_with fail;refine (kc.out _ F0).mono ?_;rintro _ v1 ⟨rfl,f1⟩;have F1:=F0.trans f1 zr;obtain ⟨ag,aj,ak,ai,al,ah⟩:=zk6 F1 ae ad ab aa ac af;refine hK.out _ _ ⟨ag,aj,ak,ai,al,ah⟩ (fun hZ=> ?_);clear hZ hK K;try simp only [Ac,zl]
     refine tkH 15 ⟨ag,aj,ak,ai,al,ah⟩ (h:=tkH 16 ⟨ag,aj,ak,ai,al,ah⟩ (h:=tkH 17 ⟨ag,aj,ak,ai,al,ah⟩ (h:=?_)));simp only [zl];refine oD ?_;go_simp;have ar:=hS.out.non F1;clear ae ad ab aa ac af ag aj ak ai al ah ao av ap aq ay;go_wp2_with fail;exact hd.out _ ar
    ·
     have au:Ab cmp d[ip+1]! d[ip]! =false:=by rw [hx.out,hy.out];exact cT
     have aw:Hid (scanSorted (Ab cmp) d b (ip+1+1)=scanSorted (Ab cmp) d b (a+1)):=by
      show _=_;rw [<- ax.out];exact (Ao1 hlt au).symm
     clear au;refine wp_region_held_drew (S:=fun w'=>cI w' g ((ip+1)*3) x.b/\cI w' g ((ip+1)*3+1) x.s/\cU w' g ((ip+1)*3+2) x.u/\cI w' g (ip*3) y.b/\cI w' g (ip*3+1) y.s/\cU w' g (ip*3+2) y.u) (by kernel_rfl) ⟨ae,ad,ab,aa,ac,af⟩ (fun hHeld=> ?_);clear hHeld;have uu:=aI ae (aI ad (aI ab (aI aa (aI ac af))));refine tkH 0 uu (h:=tkH 1 uu (h:=tkH 2 uu (h:=tkH 3 uu (h:=tkH 4 uu (h:=tkH 5 uu (h:=tkH 6 uu (h:=tkH 7 uu (h:=tkH 8 uu (h:=tkH 9 uu (h:=tkH 10 uu (h:=tkH 11 uu (h:=?_))))))))))));clear uu;simp only [zl];refine tkH 12 ⟨ae,ad,ab,aa,ac,af⟩ (h:=tkH 13 ⟨ae,ad,ab,aa,ac,af⟩ (h:=?_));simp only [zl];refine oG 14 (fun K hK=> ?_);go_simp;go_wp2_with fail;refine (kc.out _ F0).mono ?_;rintro _ v1 ⟨rfl,f1⟩;have F1:=F0.trans f1 zr;obtain ⟨ag,aj,ak,ai,al,ah⟩:=zk6 F1 ae ad ab aa ac af;refine hK.out _ _ ⟨ag,aj,ak,ai,al,ah⟩ (fun hZ=> ?_);clear hZ hK K;try simp only [Ac,zl]
     refine tkH 15 ⟨ag,aj,ak,ai,al,ah⟩ (h:=tkH 16 ⟨ag,aj,ak,ai,al,ah⟩ (h:=tkH 17 ⟨ag,aj,ak,ai,al,ah⟩ (h:=?_)));simp only [zl];refine oD ?_;go_simp;have ar:=lh (hS.out.non F1);clear ae ad ab aa ac af ag aj ak ai al ah ap aq;go_wp2_with fail;go_roundw
     case rel=>exact ⟨ip+1+1,by go_num,by omega,by omega,ar,aw⟩
     case measure=>first|(simp [intOf];done)|(simp [intOf];omega)
   ·
    obtain rfl:i=b:=by omega
    have hd:=lh (fun wz=>ao.out wz i (av.out i ax.out (.inl (Ax3 _))));rw [beq_self_eq_true] at hd;have u0:decide ((i:Int)<(i:Int))=false:=decide_eq_false (by omega);have a0:decide (i<i)=false:=decide_eq_false hlt;have f0:((i:Int)==(i:Int))=true:=beq_self_eq_true _;have F0:Fr Non wr wr.drew:=(Fr.refl Non wr).drew;have ar:=hS.out.non F0;clear ao av;go_upto_region 5 with (fail)
    have Z0:True:=trivial;refine wp_region_held_drew (S:=fun w'=>True) (by kernel_rfl) Z0 (fun hHeld=> ?_);clear hHeld;refine tkH 0 Z0 (h:=tkH 1 Z0 (h:=tkH 2 Z0 (h:=tkH 3 Z0 (h:=skH 4 Z0 (h:=skH 5 Z0 (h:=skH 6 Z0 (h:=skH 7 Z0 (h:=skH 8 Z0 (h:=skH 9 Z0 (h:=skH 10 Z0 (h:=skH 11 Z0 (h:=?_))))))))))));simp only [zl];refine skH 12 Z0 (h:=skH 13 Z0 (h:=skH 14 Z0 (h:=skH 15 Z0 (h:=skH 16 Z0 (h:=tkH 17 Z0 (h:=?_))))));simp only [zl];refine oD ?_;go_simp;clear Z0;go_wp2_with fail;exact hd.out _ ar
end Oq
end
end Go.Proofs.YtihfebhfgliojaaGreatDoor
