/-
  Contracts of the functions that the claim's statement reaches, walked one by one (part 1).
  Conditions: as each theorem says.
-/
import Derived.WalkKit
import Derived.WalkSpells
import Derived.WalkLawsBesides
import Derived.Handy
import Derived.Deep.QuietTactic
import Derived.BigQuiet
import Derived.Lib.Hide
import Derived.Deep.Draws
import Derived.Deep.AppendLies
import Derived.Maps.AppendAt
import Derived.Lib.AppendStr
import Derived.Test.YtihfebhfgliojaaGreatDoorRows
import Derived.ProofKit
import Derived.Deep.Slices
import Derived.Deep.Fields
import Derived.Lib.SmallJoins
import Derived.Test.YtihfebhfgliojaaGreatDoorProg
import Derived.Deep.RegionHeld3
import Derived.Deep.DrawnRows
import Derived.Lib.ConvBytes
import Derived.Laws.BitsAllLaws
import Derived.Laws.Tables
import Derived.Deep.Cut
import Derived.Deep.RegionWith
set_option maxRecDepth 100000
set_option maxHeartbeats 16000000
open Array renaming getElem?_modify->An9
open Int renaming emod_lt_of_pos->Aq5
open List renaming eq_nil_of_length_eq_zero->An4,flatMap_cons->An6,getElem?_eq_getElem->Ao0,length_append->Ao1,length_cons->Ao2,map_cons->Ao3,append_nil->Ao4,getElem?_append_left->Ap2,getElem?_append_right->Ap3,map_toArray->Ap4,map_nil->Ap5,flatten_cons->Ap6,range->Aq1,getElem?_take->Aq2,take_succ_cons->Aq3,getElem?_map->Aq4,cons_append->Aq6
open Nat renaming add_mul->An3,le_trans->An5,zero_add->An7,le_refl->Ao6,lt_of_lt_of_le->Ao7,eq_zero_or_pos->Ap1,mod_eq_of_lt->Ap7,mul_comm->Ap8,div_lt_iff_lt_mul->Ap9,pow_succ->Aq0
open Go.World renaming setRow->An8,cells?_some->Ao5,frozen?->Ao8,cell?_of_block->Ao9,block_lt_of_cell?->Ap0
open Go.Proofs.Tryz
open Go.Proofs.Tryz renaming prog->zp
open Go.Lib renaming hid->lh
open List renaming set->zl
open Go.Ending renaming returned->ze
namespace Go.Proofs.YtihfebhfgliojaaGreatDoor
abbrev cI (w:World) (b o:Nat) (v:Int):Prop:=w.cell? ⟨b,o,none⟩=some (.int .i64 v)
abbrev cU (w:World) (b o:Nat) (v:Nat):Prop:=w.cell? ⟨b,o,none⟩=some (.int .u64 (v:Int))
abbrev cS (w:World) (b o:Nat) (A:Option Addr) (n c:Nat):Prop:=w.cell? ⟨b,o,none⟩=some (.slice A n c)
theorem aI {p q:Prop} (a:p) (b:q):p/\q:=⟨a,b⟩
theorem ix (i n:Nat) (h:i<n:=by omega):(0:Int)<=i/\(i:Int)<n/\(i:Int).toNat=i:=⟨by omega,by omega,by omega⟩
theorem iw (x:Int) (h:-9223372036854775808<=x/\x<=9223372036854775807:=by omega):IntKind.i64.wrap x=x:=IntWalk.i64_in x h
theorem hB {a b:Bool} (h:Go.RowKit.Hid (a=b)):Value.bool a=Value.bool b:=congrArg _ h
theorem zq {p : Prop} (e : p) : p := e
theorem zr {α : Type} {β γ : α -> Prop} : ∀ a, β a -> γ a -> γ a := fun _ _ e => e
theorem zb (b : Bool) : b = true \/ b = false := Bool.eq_false_or_eq_true b
abbrev zN : Array Value := #[.int .i64 0, .int .i64 0, .int .i64 0, .int .i64 0, .slice none 0 0, .int .i64 0, .int .i64 0, .int .i64 0, .int .i64 0, .slice none 0 0, .int .i64 0, .int .i64 0, .int .u64 0, .int .i64 0, .slice none 0 0, .slice none 0 0, .int .i64 0, .int .i64 0, .int .u64 0, .slice none 0 0, .int .i64 0, .int .i64 0, .slice none 0 0, .int .u64 0, .slice none 0 0, .int .u64 0, .int .u64 0, .int .i64 0, .int .i64 0, .int .u64 0, .int .u64 0, .int .u64 0, .int .u64 0, .int .u64 0, .int .i64 0]
abbrev zO : Array Value := #[.int .i64 0, .int .i64 0, .int .i64 0, .int .i64 0, .slice none 0 0, .int .i64 0, .int .i64 0, .int .i64 0, .int .i64 0, .slice none 0 0, .int .i64 0, .int .i64 0, .int .u64 0, .int .i64 0, .slice none 0 0, .slice none 0 0, .int .i64 0, .int .i64 0, .int .u64 0, .slice none 0 0, .int .i64 0, .int .i64 0, .slice none 0 0, .int .u64 0, .slice none 0 0, .int .u64 0, .int .u64 0]
abbrev zG : Array Value := #[.slice none 0 0, .slice none 0 0, .slice none 0 0, .slice none 0 0, .slice none 0 0]
abbrev zK : Array Value := #[.int .i64 8, .int .i64 2, .int .i64 3, .int .i64 4, .int .i64 2, .int .i64 6, .int .i64 7, .int .i64 13]
abbrev zC : Array Value := #[.int .i64 0, .int .i64 0, .int .u64 0, .int .u64 0, .int .u64 0]
end Go.Proofs.YtihfebhfgliojaaGreatDoor
namespace Go.Proofs.YtihfebhfgliojaaGreatDoor
open Go.RowKit
attribute [local go_sem ↓] Go.wp_at_zero Go.wp_at_succ
def Bv (u:UInt8):Value:=.int .u8 (u.toNat:Int)
structure Fr (S:Nat->Prop) (w w':World):Prop where
 os:w'.os=w.os
 tape:w'.tape=w.tape
 output:w'.output=w.output
 size:w.heap.size<=w'.heap.size
 block:∀k,k<w.heap.size->¬S k->w'.heap[k]? =w.heap[k]?
section
variable {S S' : Nat -> Prop} {a w w' w'' : World}
theorem Fr.refl (S:Nat->Prop) (w:World):Fr S w w:=⟨rfl,rfl,rfl,Ao6 _,fun _ _ _=>rfl⟩
theorem Fr.trans (h : Fr S a w) (k : Fr S' w w') (hs : ∀ i, i < a.heap.size -> S' i -> S i) : Fr S a w' :=
  ⟨k.os.trans h.os, k.tape.trans h.tape, k.output.trans h.output, An5 h.size k.size,
   fun i hi hn => (k.block i (Ao7 hi h.size) (fun hh => hn (hs i hi hh))).trans (h.block i hi hn)⟩
theorem Fr.mono (h:Fr S a w) (hs:∀i,i<a.heap.size->S i->S' i):Fr S' a w:=
 ⟨h.os,h.tape,h.output,h.size,fun i hi hn=>h.block i hi (fun hh=>hn (hs i hi hh))⟩
theorem Fr.drewN (h:Fr S a w) (n:Nat):Fr S a (w.drewN n):=⟨h.os,h.tape,h.output,h.size,h.block⟩
theorem Fr.drew (h:Fr S a w):Fr S a w.drew:=⟨h.os,h.tape,h.output,h.size,h.block⟩
theorem Fr.alloc (h:Fr S a w) (o:Obj):Fr S a (w.alloc o):=
 h.trans (S':=fun _=>False) ⟨rfl,rfl,rfl,by simp,fun k hk _=>Below.heap_alloc _ _ _ hk⟩ (fun _ _ hf=>hf.elim)
theorem Fr.setCell (h:Fr S a w) {p:Addr} (hp:p.block<a.heap.size->S p.block) (u:Value):Fr S a (w.setCell p u):=
 h.trans (S':=fun k=>k=p.block) ⟨rfl,rfl,rfl,by simp [World.setCell],fun k _ hn=>Below.heap_setCell _ _ _ _ hn⟩ (fun i hi e=>by subst e;exact hp hi)
theorem Fr.grown (h:Fr S a w) {row:Option Nat} (hg:w.grownBy w' row) (hr:∀k,row=some k->k<a.heap.size->S k):Fr S a w':=
 h.trans (S':=fun k=>row=some k) ⟨hg.os,hg.tape,hg.output,hg.size,fun k hk hn=>hg.block k hk (fun e=>hn e.symm)⟩ (fun i hi e=>hr i e hi)
theorem Fr.below {B:Nat} (h:Fr S w w') (hB:B<=w.heap.size) (hs:∀k,k<w.heap.size->S k->B<=k):Below B w w':=
 ⟨h.os,h.tape,h.output,h.size,fun k hk=>h.block k (by omega) (fun hh=>by have:=hs k (by omega) hh;omega)⟩
def Non:Nat->Prop:=fun _=>False
def One (g:Nat):Nat->Prop:=fun k=>k=g
theorem Fr.setOne {g:Nat} (h:Fr (One g) a w) (i:Nat) (u:Value):Fr (One g) a (w.setCell ⟨g,i,none⟩ u):=h.setCell (p:=⟨g,i,none⟩) (fun _=>rfl) u
theorem Fr.setNew (h:Fr S a w) {g:Nat} (hg:a.heap.size<=g) (i:Nat) (u:Value):Fr S a (w.setCell ⟨g,i,none⟩ u):=h.setCell (p:=⟨g,i,none⟩) (fun hh=>absurd hh (by show ¬g<_;omega)) u
theorem Fr.transOne {g:Nat} (h:Fr (One g) a w) (k:Fr (One g) w w'):Fr (One g) a w':=h.trans k (fun _ _ h=>h)
theorem One.not {g k B:Nat} (hB:B<=g) (hk:k<B):¬One g k:=by unfold One;omega
theorem Fr.non (h:Fr Non w w'):Below w.heap.size w w':=h.below (Ao6 _) (fun _ _ hh=>hh.elim)
theorem Fr.of_non (h:Fr Non w w') (S:Nat->Prop):Fr S w w':=h.mono (fun _ _ hh=>hh.elim)
end
def Blk (w:World) (g:Nat) (t:TypeId) (cs:Array Value):Prop:=w.heap[g]? =some (.cells cs t (0,0))
section
variable {S : Nat -> Prop} {w w' : World} {g : Nat} {t : TypeId} {cs : Array Value}
theorem Blk.lt (h:Blk w g t cs):g<w.heap.size:=(Array.getElem?_eq_some_iff.1 h).1
theorem Blk.cell (h:Blk w g t cs) (i:Nat):w.cell? ⟨g,i,none⟩=cs[i]? :=cell_of_row w g i cs t (0,0) h
theorem Blk.frozen (h:Blk w g t cs) (i:Nat):w.frozen? ⟨g,i,none⟩=false:=by
 unfold Blk at h;simp [Ao8,h]
theorem Blk.new (w:World) (t:TypeId) (cs:Array Value):Blk (w.alloc (.cells cs t)) w.heap.size t cs:=heap_alloc_new w _
theorem Blk.drewN (h:Blk w g t cs) (n:Nat):Blk (w.drewN n) g t cs:=h
theorem Blk.drew (h:Blk w g t cs):Blk w.drew g t cs:=h
theorem Blk.alloc (h:Blk w g t cs) (o:Obj):Blk (w.alloc o) g t cs:=(Below.heap_alloc w o g h.lt).trans h
theorem Blk.set (h:Blk w g t cs) (i:Nat) (u:Value):Blk (w.setCell ⟨g,i,none⟩ u) g t (cs.setIfInBounds i u):=by
 unfold Blk at h ⊢;simp [World.setCell,An9,h]
theorem Blk.far (h:Blk w g t cs) {p:Addr} (hp:g≠p.block) (u:Value):Blk (w.setCell p u) g t cs:=(Below.heap_setCell w p u g hp).trans h
theorem Blk.fr (h:Blk w g t cs) (hf:Fr S w w') (hg:¬S g):Blk w' g t cs:=(hf.block g h.lt hg).trans h
theorem Blk.ne {g':Nat} {t':TypeId} {cs':Array Value} (h:Blk w g t cs) (h':Blk w g' t' cs') (hne:t≠t'):g≠g':=by
 rintro rfl;unfold Blk at h h';rw [h] at h';injection h' with h'
 injection h' with _ ht
 exact hne ht
end
def Rd (w:World) (B size:Nat) (A:Option Addr) (n:Nat) (xs:List Value):Prop:=
 xs.length=n*size/\(n=0\/∃b off,A=some ⟨b,off,none⟩/\b<B/\∀j u,xs[j]? =some u->w.cell? ⟨b,off+j,none⟩=some u)
section
variable {S : Nat -> Prop} {w w' : World} {B B' size n : Nat} {A : Option Addr} {xs : List Value}
theorem Rd.nil (w:World) (B size:Nat) (A:Option Addr):Rd w B size A 0 []:=⟨by simp,.inl rfl⟩
theorem Rd.mono (h:Rd w B size A n xs) (hB:B<=B'):Rd w B' size A n xs:=
 ⟨h.1,h.2.imp id fun ⟨b,off,e,hb,hc⟩=>⟨b,off,e,by omega,hc⟩⟩
theorem Rd.keep (h:Rd w B size A n xs) (hk:∀p:Addr,p.block<B->(w.cell? p).isSome->w'.cell? p=w.cell? p):Rd w' B size A n xs:=
 ⟨h.1,h.2.imp id fun ⟨b,off,e,hb,hc⟩=>⟨b,off,e,hb,fun j u hu=>by rw [hk ⟨b,off+j,none⟩ hb (by rw [hc j u hu];rfl)];exact hc j u hu⟩⟩
theorem Rd.fr (h:Rd w B size A n xs) (hf:Fr S w w') (hs:∀k,k<B->¬S k):Rd w' B size A n xs:=
 h.keep fun p hp hc=>by
  obtain ⟨v,hv⟩:=Option.isSome_iff_exists.1 hc;exact Ao9 (hf.block p.block (Ap0 w p hv) (hs _ hp))
theorem Rd.alloc (h:Rd w B size A n xs) (o:Obj):Rd (w.alloc o) B size A n xs:=
 h.fr (S:=Non) ((Fr.refl _ _).alloc o) (fun _ _ hh=>hh)
theorem Rd.drewN (h:Rd w B size A n xs) (k:Nat):Rd (w.drewN k) B size A n xs:=h
theorem Rd.drew (h:Rd w B size A n xs):Rd w.drew B size A n xs:=h
theorem Rd.of_own {base:Nat} {e:TypeId} {c:Nat} (h:w.ownsRow base e size (.slice A n c) n xs):Rd w w.heap.size size A n xs:=by
 refine ⟨h.1,?_⟩
 rcases Ap1 n with h0|h0
 · exact .inl h0
 ·
  obtain ⟨g,cap,hv,_,hlt⟩:=h.form h0;have hA:A=some ⟨g,0,none⟩:=by injection hv
  subst hA;refine .inr ⟨g,0,rfl,hlt,fun j u hu=> ?_⟩;have hc:=h.cells (g:=g) rfl j u hu;have hadd:(⟨g,0,none⟩:Addr).add j=⟨g,0+j,none⟩:=by unfold Addr.add;split<;>simp_all
  rw [hadd] at hc;exact hc
theorem Rd.at (h:Rd w B 1 A n xs) {k:Nat} (hk:k<n):∃b off u,A=some ⟨b,off,none⟩/\b<B/\xs[k]? =some u/\w.cell? ⟨b,off+k,none⟩=some u:=by
 rcases h.2 with h0|⟨b,off,e,hb,hc⟩
 · omega
 ·
  have hl:k<xs.length:=by have:=h.1;omega
  exact ⟨b,off,xs[k],e,hb,Ao0 hl,hc k _ (Ao0 hl)⟩
theorem Rd.news {g o:Nat} (h:Rd w B size (some ⟨g,o,none⟩) n xs):∀j u,xs[j]? =some u->w.cell? ((⟨g,o,none⟩:Addr).add j)=some u:=by
 intro j u hu
 rcases h.2 with h0|⟨b,off,e,hb,hc⟩
 ·
  subst h0;have hn:xs=[]:=An4 (by simpa using h.1);subst hn;simp at hu
 ·
  injection e with e
  injection e with e1 e2
  subst e1 e2;have hadd:(⟨g,o,none⟩:Addr).add j=⟨g,o+j,none⟩:=by unfold Addr.add;split<;>simp_all
  rw [hadd];exact hc j u hu
end
def str (bs:List UInt8):ByteArray:=⟨bs.toArray⟩
theorem Ee (bs:List UInt8):(str bs).size=bs.length:=by simp [str,ByteArray.size]
theorem Gl (bs:List UInt8):∀u∈bs.map Bv,u.oneCell'=true:=by
 intro u hu;obtain ⟨x,_,rfl⟩:=List.mem_map.1 hu;rfl
theorem Hb {P:Program} (src e dst:TypeId) (hs:P.underlying src=some (.slice e)) (he:P.underlying e=some (.int .u8)) (hd:P.underlying dst=some .string)
  (w:World) (B:Nat) (A:Option Addr) (n c:Nat) (bs:List UInt8) (hr:Rd w B 1 A n (bs.map Bv)):
  (convert src dst (.slice A n c)).run P w=.ok (.string (str bs)) w:=by
 have hl:bs.length=n:=by have:=hr.1;simpa using this
 rcases A with _|ad
 ·
  rcases hr.2 with h0|⟨b,off,e,_⟩
  ·
   subst h0;have hb:bs=[]:=An4 hl;subst hb;exact run_convert_bytes_nil w src e hs he _ _ dst hd
  · cases e
 ·
  rcases hr.2 with h0|⟨b,off,he',_,hc⟩
  ·
   subst h0;have hb:bs=[]:=An4 hl;subst hb;rw [run_convert_bytes_string w src dst e _ 0 c hs he hd,run_bytesToString w _ 0 c [] (by simp [loadCells,loadCellsFrom])];rfl
  ·
   injection he' with he'
   subst he';rw [run_convert_bytes_arg w src e hs he b off n c (bs.map fun x=>(x.toNat:Int)) (by simpa using hl) ?_ dst hd]
   ·
    congr 2;simp [strOfNums,str,Function.comp_def]
   ·
    intro i hi;have hi':i<bs.length:=by omega
    rw [hc i (Bv bs[i]) (by simp [hi'])];simp [Bv,List.getD,hi']
theorem Si {P:Program} {fn:Func} {p:Tmp} {ty t:TypeId} {d:TypeDesc} {cs:Array Value} {g:Nat} {tmps:Array Value} {w:World} (h:fn.results=#[.cell p ty])
  (ha:tmps.getD p undef=.pointer (some ⟨g,0,none⟩)) (hb:Blk w g t cs) (hd:(match d with| .struct _| .array _ _=>true|_=>false)=true) (hu:P.underlying ty=some d)
  (hi:(P.info? ty).map (·.size)=some cs.size):(results fn tmps).run P w=.ok (.agg cs) w:=by
 have hl:(loadVar ty ⟨g,0,none⟩).run P w=.ok (.agg cs) w:=run_loadVar_row (P:=P) w g t ty cs (0,0) d hb hu (by cases d<;>first|rfl|exact hd) hi
 unfold results;rw [h];have ha':tmps[p]?.getD undef=.pointer (some ⟨g,0,none⟩):=by simpa using ha
 simp [asAddr,ha',hl]
theorem C8 {P:Program} {fn:Func} {R:Ending->World->Prop} {p:Tmp} {ty t:TypeId} {d:TypeDesc} {cs:Array Value} {g:Nat} {a:Act} {w:World} (h:fn.results=#[.cell p ty])
  (ha:a.tmps.getD p undef=.pointer (some ⟨g,0,none⟩)) (hb:Blk w g t cs) (hd:(match d with| .struct _| .array _ _=>true|_=>false)=true) (hu:P.underlying ty=some d)
  (hi:(P.info? ty).map (·.size)=some cs.size) (hdef:a.defers=[]) (hR:R (.returned (.agg cs)) w):bodyPost P fn R .ret a w:=
 bodyPost_ret (Si h ha hb hd hu hi) hdef hR
theorem Rd.take {w:World} {B n m:Nat} {A:Option Addr} {xs:List Value} (h:Rd w B 1 A n xs) (hm:m<=n):Rd w B 1 A m (xs.take m):=by
 have hl:=h.1;refine ⟨by simp;omega,h.2.elim (fun h0=> .inl (by omega)) (fun ⟨b,off,e,hb,hc⟩=> .inr ⟨b,off,e,hb,fun j u hu=> ?_⟩)⟩;rw [Aq2] at hu
 split at hu
 · exact hc j u hu
 · cases hu
theorem Rd.cells {w:World} {B size n:Nat} {A:Option Addr} {xs:List Value} (h:Rd w B size A n xs) {k:Nat} (hk:k<n):∃b off,A=some ⟨b,off,none⟩/\b<B/\∀j,j<size->∀u,xs[k*size+j]? =some u->w.cell? ⟨b,off+k*size+j,none⟩=some u:=by
 rcases h.2 with h0|⟨b,off,e,hb,hc⟩
 · omega
 · exact ⟨b,off,e,hb,fun j _ u hu=>by rw [Nat.add_assoc];exact hc _ u hu⟩
theorem E6 {α:Type} {f:α->List Value} {size:Nat} (hf:∀x,(f x).length=size):∀(l:List α) (k j:Nat) (x:α),l[k]? =some x->j<size->(l.flatMap f)[k*size+j]? =(f x)[j]?
 |[],k,j,x,h,_=>by cases h
 |y::l,0,j,x,h,hj=>by
  injection h with h;subst h
  rw [An6,Nat.zero_mul,An7,Ap2 (by rw [hf];exact hj)]
 |y::l,k+1,j,x,h,hj=>by
  rw [An6,Ap3 (by rw [hf,An3];omega),hf,show (k+1)*size+j-size=k*size+j by rw [An3];omega];exact E6 hf l k j x h hj
theorem E7 {α:Type} {f:α->List Value} {size:Nat} (hf:∀x,(f x).length=size) (l:List α):(l.flatMap f).length=l.length*size:=by
 induction l with
 |nil=>simp
 |cons y l ih=>rw [An6,Ao1,ih,hf,Ao2,An3];omega
theorem Rd.takeN {w:World} {B size n m:Nat} {A:Option Addr} {xs:List Value} (h:Rd w B size A n xs) (hm:m<=n):Rd w B size A m (xs.take (m*size)):=by
 have hl:=h.1;have hmn:=Nat.mul_le_mul_right size hm;refine ⟨by rw [List.length_take];omega,h.2.elim (fun h0=> .inl (by omega)) (fun ⟨b,off,e,hb,hc⟩=> .inr ⟨b,off,e,hb,fun j u hu=> ?_⟩)⟩;rw [Aq2] at hu
 split at hu
 · exact hc j u hu
 · cases hu
theorem Jj {α:Type} {f:α->List Value} {size:Nat} (hf:∀x,(f x).length=size) (l:List α) (m:Nat):(l.flatMap f).take (m*size)=(l.take m).flatMap f:=by
 induction l generalizing m with
 |nil=>simp
 |cons y l ih=>
  match m with
  |0=>simp
  |m+1=>
   rw [An6,Aq3,An6,List.take_append,hf,List.take_of_length_le (by rw [hf,An3];omega),show (m+1)*size-size=m*size by rw [An3];omega,ih]
def SlT (P:Program) (t e:TypeId) (z:Value) (size bytes:Nat):Prop:=
 P.underlying t=some (.slice e)/\(P.info? e).map (fun i=>(i.zero,i.size,i.bytes))=some (some z,size,bytes)/\z.cells.size=size/\0<size
def Ab (A:Option Addr):Option Nat:=A.map (·.block)
def Own (w:World) (base:Nat) (e:TypeId) (size:Nat) (A:Option Addr) (n c:Nat) (xs:List Value):Prop:=w.ownsRow base e size (.slice A n c) n xs
section
variable {S : Nat -> Prop} {w w' : World} {base size n c : Nat} {e : TypeId} {A : Option Addr} {xs : List Value}
theorem Hc (A:Option Addr) (n c:Nat):(Value.slice A n c).ownBlock=Ab A:=by cases A<;>rfl
theorem Own.nil (w:World) (base:Nat) (e:TypeId) (size:Nat):Own w base e size none 0 0 []:=World.ownsRow_nil w base e size
theorem Own.len (h:Own w base e size A n c xs):xs.length=n*size:=h.1
theorem Own.row (h:Own w base e size A n c xs):∀k,Ab A=some k->base<=k/\k<w.heap.size:=by
 intro k hk;exact World.ownsRow.lt h k (by rw [Hc];exact hk)
theorem Own.fr (h:Own w base e size A n c xs) (hf:Fr S w w') (hs:∀k,Ab A=some k->¬S k):Own w' base e size A n c xs:=by
 refine ⟨h.1,?_⟩
 rcases h.2 with hn|⟨g,cap,cur,hv,hb,hg,rest⟩
 · exact .inl hn
 ·
  refine .inr ⟨g,cap,cur,hv,hb,?_,rest⟩;injection hv with hA _ _
  subst hA;rw [hf.block g (Array.getElem?_eq_some_iff.1 hg).1 (hs g rfl)];exact hg
theorem Own.ne {g:Nat} {t:TypeId} {cs:Array Value} (h:Own w base e size A n c xs) (hb:Blk w g t cs) (hne:e≠t):Ab A≠some g:=by
 rcases h.2 with ⟨hv,_⟩|⟨g',cap,cur,hv,_,hg,_⟩
 · injection hv with hA;subst hA;simp [Ab]
 ·
  injection hv with hA;subst hA
  intro hx;have:g'=g:=by simpa [Ab] using hx
  subst this;exact Blk.ne (t:=e) hg hb hne rfl
theorem Own.setOne {g i:Nat} {u:Value} (h:Own w base e size A n c xs) (hne:Ab A≠some g):Own (w.setCell ⟨g,i,none⟩ u) base e size A n c xs:=
 h.fr ((Fr.refl (One g) w).setOne i u) (fun k hk hg=>hne (by rw [hk];exact congrArg some hg))
theorem Own.alloc (h:Own w base e size A n c xs) (o:Obj):Own (w.alloc o) base e size A n c xs:=
 h.fr (S:=Non) ((Fr.refl _ _).alloc o) (fun _ _ hh=>hh)
theorem Own.drewN (h:Own w base e size A n c xs) (k:Nat):Own (w.drewN k) base e size A n c xs:=h
theorem Own.drew (h:Own w base e size A n c xs):Own w.drew base e size A n c xs:=h
theorem Own.rd (h:Own w base e size A n c xs):Rd w w.heap.size size A n xs:=Rd.of_own h
theorem Own.cap (h:Own w base e size A n c xs):n<=c/\c<=9223372036854775807:=by
 rcases h.2 with ⟨hv,hn⟩|⟨g,cap,cur,hv,_,_,h1,h2,_⟩
 ·
  injection hv with _ _ hc
  omega
 ·
  injection hv with _ _ hc
  subst hc;exact ⟨h1,h2⟩
theorem Own.lower (h:Own w base e size A n c xs) {base':Nat} (hb:base'<=base):Own w base' e size A n c xs:=by
 refine ⟨h.1,?_⟩
 rcases h.2 with hn|⟨g,cap,cur,hv,hb',rest⟩
 · exact .inl hn
 · exact .inr ⟨g,cap,cur,hv,by omega,rest⟩
theorem Rd.one (w:World) (x:Value) (e:TypeId):Rd (w.alloc (.cells #[x] e)) (w.heap.size+1) 1 (some ⟨w.heap.size,0,none⟩) 1 [x]:=by
 refine ⟨rfl,.inr ⟨w.heap.size,0,rfl,by omega,fun j u hu=> ?_⟩⟩;rw [(Blk.new w e #[x]).cell]
 match j,hu with
 |0,hu=>simpa using hu
theorem Sj {P:Program} {t ty:TypeId} {z:Value} {bytes m cx:Nat} {news:List Value} {B:Nat} (hT:SlT P t e z size bytes) (h:Own w base e size A n c xs) (hr:Rd w B size none m news):
  m=0/\news=[]/\(Builtin.append_ #[t,t] ty #[.slice A n c,.slice none m cx]).run P w=.ok (.slice A n c) w:=by
 obtain ⟨ht,hinfo,_⟩:=hT;obtain ⟨i,hi,_,hsz,_⟩:=info_parts hinfo
 have hm:m=0:=by
  rcases hr.2 with h0|⟨_,_,he,_⟩
  · exact h0
  · cases he
 subst hm;refine ⟨rfl,An4 (by simpa using hr.1),?_⟩;have hnc:=h.cap.1
 rcases A with _|ad
 ·
  rcases h.2 with ⟨hv,hn⟩|⟨g,cap,cur,hv,_⟩
  ·
   injection hv with _ _ hc
   subst hc hn;simp [Builtin.append_,run_underlying ht,sizeOf,typeInfo,hi,Builtin.lenOf,Builtin.firstCells]
  · cases hv
 · simp [Builtin.append_,run_underlying ht,sizeOf,typeInfo,hi,Builtin.lenOf,Builtin.firstCells,hnc,storeCells]
theorem Gm {P:Program} {t ty:TypeId} {z:Value} {bytes m cx:Nat} {Ax:Option Addr} {news:List Value} {B:Nat} (hT:SlT P t e z size bytes) (h:Own w base e size A n c xs) (hr:Rd w B size Ax m news)
  (h1:∀u∈news,u.oneCell'=true) (hbytes:(n+m)*bytes<=140737488355328) (hmax:n+m<=9223372036854775807) (hbase:base<=w.heap.size):
  ∃A' c' w',(Builtin.append_ #[t,t] ty #[.slice A n c,.slice Ax m cx]).run P w=.ok (.slice A' (n+m) c') w'/\Own w' base e size A' (n+m) c' (xs++news)/\
   Fr (fun k=>Ab A=some k) w w'/\(Ab A'=Ab A\/Ab A'=some w.heap.size):=by
 rcases Ax with _|ad
 ·
  obtain ⟨rfl,rfl,hrun⟩:=Sj (ty:=ty) (cx:=cx) hT h hr;exact ⟨A,c,w,hrun,by simpa using h,Fr.refl _ _,.inl rfl⟩
 ·
  obtain ⟨ht,hinfo,hzs,hsz⟩:=hT;obtain ⟨i,hi,hz,hsize,hby⟩:=info_parts hinfo
  have hcells:∀j u,news[j]? =some u->w.cell? (ad.add j)=some u:=by
   rcases hr.2 with h0|⟨b,off,he,_,hc⟩
   ·
    subst h0;have hn:news=[]:=An4 (by simpa using hr.1);subst hn;simp
   ·
    injection he with he
    subst he;exact hr.news
  obtain ⟨v',w',hrun,hown,hg,_,hat⟩:=run_append_own_at (P:=P) w base t ty e i z size bytes ht hi hz hsize hby hzs hsz _ n xs h ad m cx news hr.1 hcells h1 hmax hbytes hbase
  have hv:∃A' c',v'=.slice A' (n+m) c':=by
   rcases hown.2 with ⟨hv,hn⟩|⟨g,cap,cur,hv,_⟩
   · exact ⟨_,_,by rw [hv,hn]⟩
   · exact ⟨_,_,hv⟩
  obtain ⟨A',c',rfl⟩:=hv;rw [Hc] at hg hat;rw [Hc] at hat;exact ⟨A',c',w',hrun,hown,⟨hg.os,hg.tape,hg.output,hg.size,fun k hk hn=>hg.block k hk (fun e=>hn e.symm)⟩,hat⟩
end
theorem Aw {P:Program} {ops:Array Oper} {rest:List Oper} {o:Oper} {a:Act} {Q:Exit->Act->World->Prop} {w:World} (s x:Operand) (t:TypeId) (hgd:o.guard=none)
  (ho:o.op=.call {callee:=.builtin .append,args:=#[s,x],argTypes:=#[t,t]})
  {base size n c:Nat} {e:TypeId} {A:Option Addr} {xs:List Value} {z:Value} {bytes m cx B:Nat} {Ax:Option Addr} {news:List Value}
  (hs:a.eval s=.slice A n c) (hx:a.eval x=.slice Ax m cx)
  (hT:SlT P t e z size bytes) (h:Own w base e size A n c xs) (hr:Rd w B size Ax m news)
  (h1:∀u∈news,u.oneCell'=true) (hbytes:(n+m)*bytes<=140737488355328) (hmax:n+m<=9223372036854775807) (hbase:base<=w.heap.size)
  (hk:∀A' c' w',Own w' base e size A' (n+m) c' (xs++news)->Fr (fun k=>Ab A=some k) w w'->(Ab A'=Ab A\/Ab A'=some w.heap.size)->
   wpList P ops Q rest (a.put o.dst (.slice A' (n+m) c')) w'):wpList P ops Q (o::rest) a w:=by
 refine wpList_plain hgd fun K hK=> ?_;obtain ⟨A',c',w',hrun,h2,h3,h4⟩:=Gm (P:=P) (ty:=o.type) (cx:=cx) hT h hr h1 hbytes hmax hbase;unfold Oper.wp execOp;simp only [ho,resolve,invoke,builtin,Sem.run_bind,Sem.run_pure,Result.andThen_ok,Ap4,Ao3,Ap5,hs,hx,hrun];exact hK _ _ (hk A' c' w' h2 h3 h4)
theorem Sk {P:Program} {t u ty e:TypeId} {w w':World} {base n c:Nat} {A:Option Addr} {xs:List Value} {v':Value} {i:TypeInfo} (ht:P.underlying t=some (.slice e)) (hu:P.underlying u=some .string) (hi:P.info? e=some i)
  (hz:i.zero=some (.int .u8 0)) (hsize:i.size=1) (hby:i.bytes=1) (h:Own w base e 1 A n c xs) (s:ByteArray) (hbytes:n+s.size<=140737488355328)
  (hrun:(Builtin.append_ #[t,u] ty #[.slice A n c,.string s]).run P w=.ok v' w') (hnil:v'=.slice none 0 0<->(Value.slice A n c)=.slice none 0 0/\s.size=0):
  v'.ownBlock=Ab A\/v'.ownBlock=some w.heap.size:=by
 rcases h.2 with ⟨hv,hn⟩|⟨g,cap,cur,hv,hbg,hg,hnc,hcm,hcs,htake⟩
 ·
  injection hv with hA _ hc
  subst hA hn hc
  by_cases hs:s.size=0
  · rw [hnil.2 ⟨rfl,hs⟩];exact .inl rfl
  ·
   rw [run_append_nil_string (P:=P) w t u ty e i (.int .u8 0) ht hu hi hz s (by omega) (by omega) (by rw [hby];omega)] at hrun;injection hrun with h1
   subst h1;exact .inr rfl
 ·
  injection hv with hA _ hc
  subst hA hc;have hcs':cur.size=c:=by simpa using hcs
  have hl:xs.length=n:=by simpa using h.1
  by_cases hroom:n+s.size<=c
  ·
   rw [Lib.run_append_room_string (P:=P) w t u ty e i ht hu hi hsize g n c cur hg s hroom (by omega)] at hrun;injection hrun with h1
   subst h1;exact .inl rfl
  ·
   rw [Lib.run_append_grow_string (P:=P) w t u ty e i (.int .u8 0) ht hu hi hz ⟨g,0,none⟩ n c xs (by rw [hsize];omega) (World.ownsRow.cells h (g:=g) rfl) s (by omega) (by omega)
    (by rw [hby];exact growslice_fits (by omega) (by omega))] at hrun
   injection hrun with h1
   subst h1;exact .inr rfl
theorem Sm {P:Program} {t u ty e:TypeId} {w:World} {base n c:Nat} {A:Option Addr} {xs:List Value} (hT:SlT P t e (.int .u8 0) 1 1) (hu:P.underlying u=some .string)
  (h:Own w base e 1 A n c xs) (s:List UInt8) (hbytes:n+s.length<=140737488355328) (hbase:base<=w.heap.size):
  ∃A' c' w',(Builtin.append_ #[t,u] ty #[.slice A n c,.string (str s)]).run P w=.ok (.slice A' (n+s.length) c') w'/\Own w' base e 1 A' (n+s.length) c' (xs++s.map Bv)/\
   Fr (fun k=>Ab A=some k) w w'/\(Ab A'=Ab A\/Ab A'=some w.heap.size):=by
 obtain ⟨ht,hinfo,_,_⟩:=hT;obtain ⟨i,hi,hz,hsize,hby⟩:=info_parts hinfo;obtain ⟨v',w',hrun,hown,hg,hnil⟩:=Lib.run_append_own_string (P:=P) w base t u ty e i ht hu hi hz hsize hby _ n xs h (str s) (by rw [Ee];unfold maxLen;omega) (by rw [Ee];omega) hbase;have hat:=Sk ht hu hi hz hsize hby h (str s) (by rw [Ee];omega) hrun hnil;rw [Ee] at hown
 have hv:∃A' c',v'=.slice A' (n+s.length) c':=by
  rcases hown.2 with ⟨hv,hn⟩|⟨g,cap,cur,hv,_⟩
  · exact ⟨_,_,by rw [hv,hn]⟩
  · exact ⟨_,_,hv⟩
 obtain ⟨A',c',rfl⟩:=hv;rw [Hc] at hg hat;exact ⟨A',c',w',hrun,hown,⟨hg.os,hg.tape,hg.output,hg.size,fun k hk hn=>hg.block k hk (fun e=>hn e.symm)⟩,hat⟩
theorem Mk {P:Program} {ops:Array Oper} {rest:List Oper} {o:Oper} {a:Act} {Q:Exit->Act->World->Prop} {w:World} (s x:Operand) (t u:TypeId) (hgd:o.guard=none)
  (ho:o.op=.call {callee:=.builtin .append,args:=#[s,x],argTypes:=#[t,u]})
  {base n c:Nat} {e:TypeId} {A:Option Addr} {xs:List Value} {l:List UInt8}
  (hs:a.eval s=.slice A n c) (hx:a.eval x=.string (str l))
  (hT:SlT P t e (.int .u8 0) 1 1) (hu:P.underlying u=some .string) (h:Own w base e 1 A n c xs)
  (hbytes:n+l.length<=140737488355328) (hbase:base<=w.heap.size)
  (hk:∀A' c' w',Own w' base e 1 A' (n+l.length) c' (xs++l.map Bv)->Fr (fun k=>Ab A=some k) w w'->(Ab A'=Ab A\/Ab A'=some w.heap.size)->
   wpList P ops Q rest (a.put o.dst (.slice A' (n+l.length) c')) w'):wpList P ops Q (o::rest) a w:=by
 refine wpList_plain hgd fun K hK=> ?_;obtain ⟨A',c',w',hrun,h2,h3,h4⟩:=Sm (P:=P) (ty:=o.type) hT hu h l hbytes hbase;unfold Oper.wp execOp;simp only [ho,resolve,invoke,builtin,Sem.run_bind,Sem.run_pure,Result.andThen_ok,Ap4,Ao3,Ap5,hs,hx,hrun];exact hK _ _ (hk A' c' w' h2 h3 h4)
def RS (g:Nat) (A:Option Addr):Nat->Prop:=fun k=>k=g\/Ab A=some k
structure Ay (g:Nat) (w:World) (A:Option Addr) (w':World) (A':Option Addr):Prop where
 fr:Fr (RS g A) w w'
 row:∀k,Ab A'=some k->Ab A=some k\/w.heap.size<=k
section
variable {g : Nat} {w w1 w2 : World} {A A1 A2 : Option Addr}
theorem Ay.refl (g:Nat) (w:World) (A:Option Addr):Ay g w A w A:=⟨Fr.refl _ _,fun _ h=> .inl h⟩
theorem Ay.trans (h:Ay g w A w1 A1) (k:Ay g w1 A1 w2 A2):Ay g w A w2 A2:=by
 refine ⟨h.fr.trans k.fr (fun i hi hs=> ?_),fun i hi=> ?_⟩
 ·
  rcases hs with e|e
  · exact .inl e
  ·
   rcases h.row i e with e'|e'
   · exact .inr e'
   · omega
 ·
  rcases k.row i hi with e|e
  · exact h.row i e
  ·
   have:=h.fr.size;exact .inr (by omega)
theorem Ay.more {S:Nat->Prop} (h:Ay g w A w1 A1) (hf:Fr S w1 w2) (hs:∀k,k<w1.heap.size->S k->k=g\/w.heap.size<=k):Ay g w A w2 A1:=
 ⟨h.fr.trans hf (fun i hi e=>by rcases hs i (Ao7 hi h.fr.size) e with e|e;exact .inl e;omega),h.row⟩
theorem Ay.alloc (h:Ay g w A w1 A1) (o:Obj):Ay g w A (w1.alloc o) A1:=h.more (S:=Non) ((Fr.refl _ _).alloc o) (fun _ _ e=>e.elim)
theorem Ay.drewN (h:Ay g w A w1 A1) (n:Nat):Ay g w A (w1.drewN n) A1:=h.more (S:=Non) ((Fr.refl _ _).drewN n) (fun _ _ e=>e.elim)
theorem Ay.set (h:Ay g w A w1 A1) (i:Nat) (u:Value):Ay g w A (w1.setCell ⟨g,i,none⟩ u) A1:=h.more ((Fr.refl (One g) w1).setOne i u) (fun _ _ e=> .inl e)
theorem Ay.setNew (h:Ay g w A w1 A1) {b:Nat} (hb:w.heap.size<=b) (i:Nat) (u:Value):Ay g w A (w1.setCell ⟨b,i,none⟩ u) A1:=
 h.more ((Fr.refl (One b) w1).setOne i u) (fun k _ e=> .inr (by have e:k=b:=e;omega))
theorem Ay.app (h:Ay g w A w1 A1) (hf:Fr (fun k=>Ab A1=some k) w1 w2) (hat:Ab A2=Ab A1\/Ab A2=some w1.heap.size):Ay g w A w2 A2:=by
 refine ⟨h.fr.trans hf (fun i hi e=> ?_),fun i hi=> ?_⟩
 ·
  rcases h.row i e with e'|e'
  · exact .inr e'
  · omega
 ·
  rcases hat with e|e
  · rw [e] at hi;exact h.row i hi
  ·
   rw [e] at hi;injection hi with hi
   have:=h.fr.size;exact .inr (by omega)
theorem RS.not {B base size n c:Nat} {e:TypeId} {xs:List Value} {w:World} (h:Own w base e size A n c xs) (hB:B<=base) (hg:B<=g):∀k,k<B->¬RS g A k:=by
 rintro k hk (e|e)
 · omega
 ·
  have:=(h.row k e).1;omega
end
theorem Fg {P:Program} {ops:Array Oper} {o:Oper} {a:Act} {K:Act->World->Prop} {Q:Exit->Act->World->Prop} {E:Prop} {w:World} (s x:Operand) (t:TypeId) (hgd:o.guard=none)
  (ho:o.op=.call {callee:=.builtin .append,args:=#[s,x],argTypes:=#[t,t]})
  {base size n c:Nat} {e:TypeId} {A:Option Addr} {xs:List Value} {z:Value} {bytes m cx B:Nat} {Ax:Option Addr} {news:List Value}
  (hs:a.eval s=.slice A n c) (hx:a.eval x=.slice Ax m cx)
  (hT:SlT P t e z size bytes) (h:Own w base e size A n c xs) (hr:Rd w B size Ax m news)
  (h1:∀u∈news,u.oneCell'=true) (hbytes:(n+m)*bytes<=140737488355328) (hmax:n+m<=9223372036854775807) (hbase:base<=w.heap.size)
  (hk:∀A' c' w',Own w' base e size A' (n+m) c' (xs++news)->Fr (fun k=>Ab A=some k) w w'->(Ab A'=Ab A\/Ab A'=some w.heap.size)->
   K (a.put o.dst (.slice A' (n+m) c')) w'):
  if Region.wanted o (yielded ops a.tmps)=true then Oper.wp P o a w K Q else E:=by
 have hw:Region.wanted o (yielded ops a.tmps)=true:=by simp [Region.wanted,hgd]
 rw [if_pos hw];obtain ⟨A',c',w',hrun,h2,h3,h4⟩:=Gm (P:=P) (ty:=o.type) (cx:=cx) hT h hr h1 hbytes hmax hbase;unfold Oper.wp execOp;simp only [ho,resolve,invoke,builtin,Sem.run_bind,Sem.run_pure,Result.andThen_ok,Ap4,Ao3,Ap5,hs,hx,hrun];exact hk A' c' w' h2 h3 h4
section
open Go.ChangeShapes Go.WideShapes Go.ChangeAt Go.RowKit
theorem Jk {H:Type} {enc:TypeId × Value->H} {P:Program} (hl:laidOutB P=true) {W W':World} {sp:Nat->Bool}:∀(ts:List TypeId) (vs:List Value) (ds:List (DataW H)) (ps:List MemPlace),
  (∀t∈ts,P.readableRec t=true/\t<P.types.size)->DataW.TrodAll enc P W 0 (fun _=>true) true ts vs ds ps->(∀p∈ps,W.sameAt W' p)->(∀p∈ps,sp p.block=true)->
  DataW.TrodAll enc P W' 0 sp true ts vs ds ps
 |[],[],[],_,_,h,_,_=>h
 |[],_::_,_,_,_,h,_,_=>h.elim
 |[],[],_::_,_,_,h,_,_=>h.elim
 |_::_,[],_,_,_,h,_,_=>h.elim
 |_::_,_::_,[],_,_,h,_,_=>h.elim
 |t::ts,v::vs,d::ds,ps,hr,h,hs,hp=>by
  obtain ⟨p,q,h1,h2,rfl⟩:=h;have ht:=hr t (by simp)
  exact ⟨p,q,WideElems.Trod_stays hl ht.1 ht.2 h1 (fun x hx=>hs x (by simp [hx])) (fun x hx=>hp x (by simp [hx])),
   Jk hl ts vs ds q (fun x hx=>hr x (by simp [hx])) h2 (fun x hx=>hs x (by simp [hx])) (fun x hx=>hp x (by simp [hx])),rfl⟩
theorem Sn {H:Type} {enc:TypeId × Value->H} {P:Program} {f:Func} {s:ChangeSpec} {fresh handsOn again:Bool} {W W':World} {args:Array Value} {ds gs:List (DataW H)} {before:List MemPlace} {tb:TypeId}
  (hl:laidOutB P=true) (hr:f.params.toList.all (fun t=>P.readableRec t&&decide (t<P.types.size))=true) (hvars:s.vars=[]) (hres:f.resultTypes=#[tb]) (htb:P.underlying tb=some .bool)
  (hW:DataW.Whole enc P f.params.toList s.vars false W args.toList ds gs before)
  (hfn:(s.fn H ds).results=[.lit (.bool true)]/\(s.fn H ds).args=ds/\(s.fn H ds).vars=[]) (hf:Fr Non W W'):
  s.post enc P f false fresh handsOn again W args (.bool true) W':=by
 have hb:=hf.non;have hlt:∀p∈before,p.block<W.heap.size:=fun p hp=>hW.lt p hp
 have hr':∀t∈f.params.toList,P.readableRec t=true/\t<P.types.size:=fun t ht=>by
  have:=List.all_eq_true.1 hr t ht;simpa using this
 have hW0:=hW;obtain ⟨p,q,hA,hV,rfl,hz,_⟩:=hW0;rw [hvars] at hV
 obtain ⟨rfl,rfl⟩:gs=[]/\q=[]:=by
  cases gs with
  |nil=>exact ⟨rfl,hV⟩
  |cons _ _=>exact hV.elim
 rw [Ao4] at*;have hsame:∀x∈p,W.sameAt W' x:=fun x hx=>hb.same (hlt x hx);have hval:DataW.TrodAll enc P W' 0 (fun _=>true) true f.params.toList args.toList ds p:=Jk hl _ _ _ _ hr' hA hsame (fun _ _=>rfl)
 have hres0:∀(b:Nat) (sp:Nat->Bool) (hd:Bool),DataW.TrodAll enc P W' b sp hd f.resultTypes.toList ((Value.bool true).resultList f.resultTypes.size) (s.fn H ds).results []:=by
  intro b sp hd;rw [hres,hfn.1];exact trodAll_mk1 (shut_bool htb true)
 refine ⟨ds,[],p,[],p,[],hW,by rw [Ao4];exact hres0 _ _ _,?_,?_,World.keptBut_mono (fun x hx=>⟨hx,.inr (.inl hx)⟩) (hb.frame (· ∈p)),fun _=> ?_⟩
 ·
  rw [Ao4,hfn.2.1];exact Jk hl _ _ _ _ hr' hA hsame (fun x hx=>by simpa using hlt x hx)
 ·
  rw [Ao4,hvars,hfn.2.2];exact rfl
 ·
  refine ⟨?_,_,[],p,⟨[]++p,[],trodAll_append hval (hres0 _ _ _),by rw [hvars];exact rfl,by simp,?_,fun h=>by cases h⟩,fun x hx _=>hx⟩
  · exact ok_one hres rfl (okWide_bool_mk htb true)
  ·
   intro b off hp;rw [hb.frozen (hlt _ hp)];exact hz b off hp
theorem Tryz.own:ownKnob zp.godebug=none:=by kernel_rfl
theorem Tryz.laidOut:laidOutB zp=true:=by kernel_rfl
end
section
open Go.ChangeShapes Go.WideShapes Go.ChangeAt Go.RowKit Go.Deep
theorem Sp {n:Int} (h:(Lit.int .i64 n).wf=true): -9223372036854775808<=n/\n<=9223372036854775807:=by
 simpa [Lit.wf,IntKind.min,IntKind.max,IntKind.signed,IntKind.bits] using h
theorem Ml {n:Int} (h:(Lit.int .u64 n).wf=true):∃k:Nat,n=(k:Int)/\k<18446744073709551616:=by
 have h':0<=n/\n<=18446744073709551615:=by simpa [Lit.wf,IntKind.min,IntKind.max,IntKind.signed,IntKind.bits] using h
 exact ⟨n.toNat,by omega,by omega⟩
theorem Sq {α:Type} {f:Nat->Option α} {n:Nat} (h:∀i,i<n->∃x,f i=some x):∃l:List α,l.length=n/\∀i,i<n->l[i]? =f i:=by
 induction n with
 |zero=>exact ⟨[],rfl,fun i hi=>by omega⟩
 |succ n ih=>
  obtain ⟨l,hl,hg⟩:=ih (fun i hi=>h i (by omega));obtain ⟨x,hx⟩:=h n (by omega);refine ⟨l++[x],by simp [hl],fun i hi=> ?_⟩
  rcases Nat.lt_or_ge i n with h1|h1
  · rw [Ap2 (by omega)];exact hg i h1
  · rw [show i=n by omega,Ap3 (by omega),hl,Nat.sub_self,hx];rfl
theorem Mm {size:Nat}:∀(l:List (List Value)) (_:∀c∈l,c.length=size) (j:Nat) (u:Value),l.flatten[j]? =some u->∃c,l[j/size]? =some c/\c[j%size]? =some u
 |[],_,j,u,h=>by simp at h
 |y::l,hl,j,u,h=>by
  have hy:=hl y (by simp);rw [Ap6] at h
  rcases Nat.lt_or_ge j size with h1|h1
  ·
   rw [Ap2 (by omega)] at h;refine ⟨y,?_,?_⟩
   · rw [Nat.div_eq_of_lt h1];rfl
   · rw [Ap7 h1];exact h
  ·
   rw [Ap3 (by omega),hy] at h;obtain ⟨c,hc,hu⟩:=Mm l (fun c hc=>hl c (by simp [hc])) (j-size) u h
   have hpos:0<size:=by
    rcases Ap1 size with h0|h0
    ·
     subst h0;exfalso
     have:l.flatten=[]:=by
      rw [List.flatten_eq_nil_iff];intro c hc;exact An4 (hl c (by simp [hc]))
     rw [this] at h;simp at h
    · exact h0
   refine ⟨c,?_,?_⟩
   · rw [Nat.div_eq_sub_div hpos h1];exact hc
   · rw [Nat.mod_eq_sub_mod h1];exact hu
theorem Mn {size:Nat}:∀(l:List (List Value)) (_:∀c∈l,c.length=size),l.flatten.length=l.length*size
 |[],_=>by simp
 |y::l,hl=>by
  rw [Ap6,Ao1,Mn l (fun c hc=>hl c (by simp [hc])),hl y (by simp),Ao2,An3];omega
section
variable {H : Type} {enc : TypeId × Value -> H} {P : Program} {w : World} {spare : Nat -> Bool} {held : Bool}
theorem Sr {t e:TypeId} {size fuel:Nat} {cs:List Value} {x:DataW H × List MemPlace} (ht:P.underlying t=some (.slice e)) (hsz:P.cellsOf e=size) (hpos:0<size)
  (h:DataW.trod enc P w 0 spare held fuel t cs=some x):
  ∃(A:Option Addr) (n c:Nat) (xs:List (List Value)),cs=[.slice A n c]/\xs.length=n/\n<=c/\c<=9223372036854775807/\Rd w w.heap.size size A n xs.flatten/\
   ∀c'∈xs,c'.length=size/\∃m y,DataW.trod enc P w 0 spare held m e c'=some y:=by
 rcases open_slice ht h with ⟨rfl,_⟩|⟨a,len,cap,m,n,D,Pl,rfl,_,hl,hm,hmm,_,hi⟩
 · exact ⟨none,0,0,[],rfl,rfl,by omega,by omega,Rd.nil _ _ _ _,fun c' hc=>by cases hc⟩
 ·
  have hlm:len<=m:=by rw [hmm];split<;>omega
  rw [hsz] at hi
  obtain ⟨xs,hxl,hxg⟩:=Sq (f:=fun i=>w.cells? 0 (a.add (i*size)) size) (n:=len) (fun i hi'=>by
   obtain ⟨cs',hc,_⟩:=hi i (by omega);exact ⟨cs',hc⟩)
  have hall:∀c'∈xs,c'.length=size/\∃m y,DataW.trod enc P w 0 spare held m e c'=some y:=by
   intro c' hc';obtain ⟨i,hil,rfl⟩:=List.mem_iff_getElem.1 hc';obtain ⟨cs',hc,htr⟩:=hi i (by omega);have hg:=hxg i (by omega);rw [Ao0 hil,hc] at hg;injection hg with hg
   rw [hg];exact ⟨(Ao5 hc).2.1,n,_,htr⟩
  refine ⟨some a,len,cap,xs,rfl,hxl,hl,hm,⟨by rw [Mn xs (fun c hc=>(hall c hc).1),hxl],?_⟩,hall⟩
  rcases Ap1 len with h0|h0
  · exact .inl h0
  ·
   right
   have hcell:∀j u,xs.flatten[j]? =some u->w.cell? (a.add j)=some u:=by
    intro j u hu;obtain ⟨c,hc,hu'⟩:=Mm xs (fun c hc=>(hall c hc).1) j u hu
    have hlt:j/size<len:=by
     have:=(List.getElem?_eq_some_iff.1 hc).1;omega
    obtain ⟨cs',hc',_⟩:=hi (j/size) (by omega);have hg:=hxg (j/size) hlt;rw [hc,hc'] at hg;injection hg with hg
    subst hg;have:=(Ao5 hc').2.2 (j%size) (Nat.mod_lt _ hpos);rw [hu'] at this;rw [<- this];congr 1;unfold Addr.add;have hd:=Nat.div_add_mod j size;rw [Ap8] at hd
    by_cases h1:j/size*size=0<;>by_cases h2:j%size=0<;>by_cases h3:j=0<;>simp [h1,h2,h3]<;>omega
   obtain ⟨c0,hc0,_⟩:=hi 0 (by omega);have h00:=(Ao5 hc0).2.2 0 hpos;have hc0l:=(Ao5 hc0).2.1
   have hsome:w.cell? a=some (c0[0]'(by omega)):=by
    have:(a.add (0*size)).add 0=a:=by simp [Addr.add]
    rw [this] at h00;rw [h00,Ao0]
   obtain ⟨b,off,sp⟩:=a
   have hspot:sp=none:=by
    rcases sp with _|sp
    · rfl
    ·
     simp only [World.cell?] at hsome
     split at hsome<;>simp at hsome
   subst hspot;refine ⟨b,off,rfl,Ap0 w _ hsome,fun j u hu=> ?_⟩;have:=hcell j u hu;have hadd:(⟨b,off,none⟩:Addr).add j=⟨b,off+j,none⟩:=by unfold Addr.add;split<;>simp_all
   rwa [hadd] at this
theorem Mo {α:Type} {f:α->List Value} {Q:α->Prop}:∀(xs:List (List Value)) (_:∀c∈xs,∃o,c=f o/\Q o),∃l:List α,xs=l.map f/\∀o∈l,Q o
 |[],_=>⟨[],rfl,fun _ h=>by cases h⟩
 |c::xs,h=>by
  obtain ⟨o,rfl,hq⟩:=h c (by simp);obtain ⟨l,rfl,hl⟩:=Mo xs (fun c hc=>h c (by simp [hc]));exact ⟨o::l,rfl,fun o' ho=>by rcases List.mem_cons.1 ho with rfl|ho;exact hq;exact hl o' ho⟩
theorem flat1 {α:Type} (f:α->Value) (l:List α):(l.map fun b=>[f b]).flatten=l.map f:=by
 induction l with
 |nil=>rfl
 |cons b l ih=>rw [Ao3,Ap6,ih];rfl
end
section
variable {H : Type} {enc : TypeId × Value -> H} {w : World} {spare : Nat -> Bool} {held : Bool}
theorem Ss {v:Value} {d:DataW H} {p:List MemPlace} {r:Reach} {b0:Nat} (hv:Value.okWide zp w r b0 25 v) (h:DataW.Trod enc zp w 0 spare held 25 v d p):
  ∃R S:Nat,v=.agg #[.int .u64 (R:Int),.int .u64 (S:Int)]/\R<18446744073709551616/\S<18446744073709551616:=by
 obtain ⟨cs,rfl,hsz⟩:=okWide_struct underlying25 hv;obtain ⟨fuel,hf⟩:=h;have c2:zp.cellsOf 25=2:=by kernel_rfl
 have ci:zp.cellsOf 23=1:=by kernel_rfl
 rw [c2] at hsz;have hc:(Value.agg cs).cells=cs:=rfl;rw [hc] at hf;obtain ⟨cl⟩:=cs;obtain ⟨xs,n,_,_,_,hlen,hg⟩:=DataW.trod_struct underlying25 hf
 match cl,hsz with
 |[c0,c1],_=>
  match xs,hlen with
  |[y0,y1],_=>
   have h0:=hg 0 _ rfl;have h1:=hg 1 _ rfl;obtain ⟨d,e0,_,w0⟩:=DataW.trod_int underlying23 h0;obtain ⟨n,e1,_,w1⟩:=DataW.trod_int underlying23 h1;have e0':c0=.int .u64 d:=by simpa [ci] using e0
   have e1':c1=.int .u64 n:=by simpa [ci] using e1
   subst e0' e1';obtain ⟨R,rfl,hR⟩:=Ml w0;obtain ⟨S,rfl,hS⟩:=Ml w1;exact ⟨R,S,rfl,hR,hS⟩
end
end
theorem Aa {α:Type} (x:α):∃y,Hid (x=y):=⟨x,rfl⟩
theorem Mp {bs:List UInt8} {k:Nat} {u:Value} (h:(bs.map Bv)[k]? =some u):∃x:UInt8,bs[k]? =some x/\u=.int .u8 (x.toNat:Int):=by
 rw [Aq4] at h
 cases hx:bs[k]? with
 |none=>rw [hx] at h;cases h
 |some x=>rw [hx] at h;injection h with h;exact ⟨x,rfl,h.symm⟩
theorem Fh {α:Type} {l:List α} {k:Nat} {x:α} (h:l[k]? =some x):l.drop k=x::l.drop (k+1):=by
 obtain ⟨hk,rfl⟩:=List.getElem?_eq_some_iff.1 h;exact List.drop_eq_getElem_cons hk
theorem Cq {a b:Int} (h:a=b):(a==b)=true:=beq_iff_eq.2 h
theorem Cf {a b:Int} (h:¬a=b):(a==b)=false:=beq_eq_false_iff_ne.2 h
theorem Fr.cell {S:Nat->Prop} {w w':World} {p:Addr} {v:Value} (h:Fr S w w') (hc:w.cell? p=some v) (hp:¬S p.block):w'.cell? p=some v:=by
 rw [Ao9 (h.block p.block (Ap0 w p hc) hp)];exact hc
theorem zk2 {w w':World} (f:Fr Non w w') {p0 p1:Addr} {u0 u1:Value} (a0:w.cell? p0=some u0) (a1:w.cell? p1=some u1):w'.cell? p0=some u0/\w'.cell? p1=some u1:=⟨f.cell a0 (fun e=>e),f.cell a1 (fun e=>e)⟩
theorem zk3 {w w':World} (f:Fr Non w w') {p0 p1 p2:Addr} {u0 u1 u2:Value} (a0:w.cell? p0=some u0) (a1:w.cell? p1=some u1) (a2:w.cell? p2=some u2):w'.cell? p0=some u0/\w'.cell? p1=some u1/\w'.cell? p2=some u2:=⟨f.cell a0 (fun e=>e),f.cell a1 (fun e=>e),f.cell a2 (fun e=>e)⟩
theorem zk4 {w w':World} (f:Fr Non w w') {p0 p1 p2 p3:Addr} {u0 u1 u2 u3:Value} (a0:w.cell? p0=some u0) (a1:w.cell? p1=some u1) (a2:w.cell? p2=some u2) (a3:w.cell? p3=some u3):w'.cell? p0=some u0/\w'.cell? p1=some u1/\w'.cell? p2=some u2/\w'.cell? p3=some u3:=⟨f.cell a0 (fun e=>e),f.cell a1 (fun e=>e),f.cell a2 (fun e=>e),f.cell a3 (fun e=>e)⟩
theorem zk5 {w w':World} (f:Fr Non w w') {p0 p1 p2 p3 p4:Addr} {u0 u1 u2 u3 u4:Value} (a0:w.cell? p0=some u0) (a1:w.cell? p1=some u1) (a2:w.cell? p2=some u2) (a3:w.cell? p3=some u3) (a4:w.cell? p4=some u4):w'.cell? p0=some u0/\w'.cell? p1=some u1/\w'.cell? p2=some u2/\w'.cell? p3=some u3/\w'.cell? p4=some u4:=⟨f.cell a0 (fun e=>e),f.cell a1 (fun e=>e),f.cell a2 (fun e=>e),f.cell a3 (fun e=>e),f.cell a4 (fun e=>e)⟩
theorem zk6 {w w':World} (f:Fr Non w w') {p0 p1 p2 p3 p4 p5:Addr} {u0 u1 u2 u3 u4 u5:Value} (a0:w.cell? p0=some u0) (a1:w.cell? p1=some u1) (a2:w.cell? p2=some u2) (a3:w.cell? p3=some u3) (a4:w.cell? p4=some u4) (a5:w.cell? p5=some u5):w'.cell? p0=some u0/\w'.cell? p1=some u1/\w'.cell? p2=some u2/\w'.cell? p3=some u3/\w'.cell? p4=some u4/\w'.cell? p5=some u5:=⟨f.cell a0 (fun e=>e),f.cell a1 (fun e=>e),f.cell a2 (fun e=>e),f.cell a3 (fun e=>e),f.cell a4 (fun e=>e),f.cell a5 (fun e=>e)⟩
theorem zk7 {w w':World} (f:Fr Non w w') {p0 p1 p2 p3 p4 p5 p6:Addr} {u0 u1 u2 u3 u4 u5 u6:Value} (a0:w.cell? p0=some u0) (a1:w.cell? p1=some u1) (a2:w.cell? p2=some u2) (a3:w.cell? p3=some u3) (a4:w.cell? p4=some u4) (a5:w.cell? p5=some u5) (a6:w.cell? p6=some u6):w'.cell? p0=some u0/\w'.cell? p1=some u1/\w'.cell? p2=some u2/\w'.cell? p3=some u3/\w'.cell? p4=some u4/\w'.cell? p5=some u5/\w'.cell? p6=some u6:=⟨f.cell a0 (fun e=>e),f.cell a1 (fun e=>e),f.cell a2 (fun e=>e),f.cell a3 (fun e=>e),f.cell a4 (fun e=>e),f.cell a5 (fun e=>e),f.cell a6 (fun e=>e)⟩
theorem zk8 {w w':World} (f:Fr Non w w') {p0 p1 p2 p3 p4 p5 p6 p7:Addr} {u0 u1 u2 u3 u4 u5 u6 u7:Value} (a0:w.cell? p0=some u0) (a1:w.cell? p1=some u1) (a2:w.cell? p2=some u2) (a3:w.cell? p3=some u3) (a4:w.cell? p4=some u4) (a5:w.cell? p5=some u5) (a6:w.cell? p6=some u6) (a7:w.cell? p7=some u7):w'.cell? p0=some u0/\w'.cell? p1=some u1/\w'.cell? p2=some u2/\w'.cell? p3=some u3/\w'.cell? p4=some u4/\w'.cell? p5=some u5/\w'.cell? p6=some u6/\w'.cell? p7=some u7:=⟨f.cell a0 (fun e=>e),f.cell a1 (fun e=>e),f.cell a2 (fun e=>e),f.cell a3 (fun e=>e),f.cell a4 (fun e=>e),f.cell a5 (fun e=>e),f.cell a6 (fun e=>e),f.cell a7 (fun e=>e)⟩
theorem Mq {P:Program} (src dst e:TypeId) {u:TypeDesc} (hs:P.underlying src=some u) (hd:P.underlying dst=some (.slice e)) (he:P.underlying e=some (.int .u8)) (bs:List UInt8) (w:World):
  ∃c w',(convert src dst (.string (str bs))).run P w=.ok (.slice (some ⟨w.heap.size,0,none⟩) bs.length c) w'/\Rd w' (w.heap.size+1) 1 (some ⟨w.heap.size,0,none⟩) bs.length (bs.map Bv)/\Fr Non w w'/\w'.heap.size=w.heap.size+1/\bs.length<=c/\(bs.length<=1099511627776->c<=9223372036854775807):=by
 have h:=Lib.run_convert_string_bytes w src dst e (str bs) hs hd he;rw [Ee] at h;refine ⟨_,_,h,⟨by simp,.inr ⟨w.heap.size,0,rfl,by omega,fun j v hj=> ?_⟩⟩,⟨rfl,rfl,rfl,?_,fun k hk _=>Lib.bytesWorld_at_old w e (str bs) k hk⟩,Lib.bytesWorld_size w e (str bs),?_⟩
 ·
  rw [Aq4] at hj
  cases hb:bs[j]? with
  |none=>rw [hb] at hj;cases hj
  |some x=>
   rw [hb] at hj;injection hj with hj
   subst hj;obtain ⟨hl,hx⟩:=List.getElem?_eq_some_iff.1 hb;rw [An7,Lib.bytesWorld_cell w e (str bs) j (by rw [Ee];exact hl)];simp [str,List.getD,hl,hx,Bv]
 · rw [Lib.bytesWorld_size];omega
 ·
  refine ⟨grownCap_ge _ _ _ _,fun h=> ?_⟩;exact grownCap_le_maxLen w bs.length 0 e (An5 h (by decide))
theorem slB:SlT zp 39 5 (.int .u8 0) 1 1:=⟨underlying39,by kernel_rfl,rfl,by decide⟩
def NewB (w:World) (bs:List UInt8) (r:Ending) (w':World):Prop:=
 ∃A c,r=.returned (.slice A bs.length c)/\Own w' w.heap.size 5 1 A bs.length c (bs.map Bv)/\Fr Non w w'
theorem NewB.mk {w w':World} {base n c:Nat} {A:Option Addr} {xs:List Value} {bs:List UInt8} (ho:Own w' base 5 1 A n c xs) (hb:base=w.heap.size) (hx:xs=bs.map Bv) (hf:Fr Non w w'):NewB w bs (.returned (.slice A n c)) w':=by
 subst hx hb;have hl:=ho.len;simp at hl;subst hl;exact ⟨A,c,rfl,ho,hf⟩
def C0 (n m:Int):Int:=(if n<0 then-(n+1) else n)%m
theorem Jl {n m:Int} (h:1<=m):0<=C0 n m/\C0 n m<m:=by
 unfold C0;exact ⟨Int.emod_nonneg _ (by omega),Aq5 _ (by omega)⟩
theorem Jm (n m:Int) (w:World) (h0: -9223372036854775808<=n) (h1:n<=9223372036854775807) (hm:1<=m) (hm':m<=9223372036854775807):
  Calls zp 39 #[.int .i64 n,.int .i64 m] w fun e w'=>e=.returned (.int .i64 (C0 n m))/\w=w':=by
 by_cases hn:n<0
 ·
  have he:Hid (C0 n m=(-(n+1)).tmod m):=by
   show _=_;unfold C0;rw [if_pos hn,Int.tmod_eq_emod_of_nonneg (by omega)]
  go_enter func39,ntmps39;go_wp2
  go_ret
  refine ⟨congrArg (fun z=>ze (.int .i64 z)) ?_,rfl⟩;rw [he.out,Int.neg_tmod]
 ·
  have he:Hid (C0 n m=n%m):=by show _=_;unfold C0;rw [if_neg hn]
  go_enter func39,ntmps39;go_wp2
  go_ret
  exact ⟨congrArg (fun z=>ze (.int .i64 z)) he.out.symm,rfl⟩
theorem Own.notNon {w:World} {base size n c B:Nat} {e:TypeId} {A:Option Addr} {xs:List Value} (h:Own w base e size A n c xs) (hB:B<=base):∀k,k<B->Ab A=some k->Non k:=
 fun k hk hA=>by have:=(h.row k hA).1;omega
def Ae (b:Bool) (w:World) (r:Ending) (w':World):Prop:=r=.returned (.bool b)/\Fr Non w w'
namespace Pk
def numF:Nat->Nat->List UInt8
 |0,_=>[]
 |f+1,n=>if n<128 then [UInt8.ofNat n] else UInt8.ofNat (n%128+128)::numF f (n/128)
def num (n:Nat):List UInt8:=numF 10 n
def fold (n:Int):Nat:=if n<0 then (-2*n-1).toNat else (2*n).toNat
def unfold (u:Nat):Int:=if u%2=1 then-((u/2:Nat):Int)-1 else ((u/2:Nat):Int)
def int (n:Int):List UInt8:=num (fold n)
def text (s:List UInt8):List UInt8:=int s.length++s
def bool (b:Bool):List UInt8:=int (if b then 1 else 0)
def ident (b s:Int) (u:Nat):List UInt8:=int b++int s++num u
def go:Nat->Nat->List UInt8->Sum Int (Nat × Nat)
 |_,_,[]=> .inl 9
 |k,u,x::r=>
  if (k=9/\1<x.toNat)\/(x.toNat=0/\0<k) then .inl 7
  else if x.toNat<128 then .inr (u+x.toNat%128*2^(7*k),k+1)
  else go (k+1) (u+x.toNat%128*2^(7*k)) r
def rd (bs:List UInt8) (a:Nat) (e:Int):Nat × Nat × Int:=
 if e=0 then match go 0 0 (bs.drop a) with
  | .inl c=>(0,a,c)
  | .inr (v,k)=>(v,a+k,0)
 else (0,a,e)
theorem fold_lt {n:Int} (h0: -9223372036854775808<=n) (h1:n<=9223372036854775807):fold n<18446744073709551616:=by
 unfold fold;split<;>omega
theorem Mr:∀(f n:Nat),(numF f n).length<=f
 |0,_=>by simp [numF]
 |f+1,n=>by
  unfold numF;split
  · simp
  · have:=Mr f (n/128);simp;omega
theorem num_len (n:Nat):(num n).length<=10:=Mr 10 n
theorem int_len (n:Int):(int n).length<=10:=num_len _
theorem text_len (s:List UInt8):(text s).length<=10+s.length:=by
 unfold text;rw [Ao1];have:=int_len s.length;omega
theorem ident_len (b s:Int) (u:Nat):(ident b s u).length<=30:=by
 unfold ident;simp only [Ao1];have:=int_len b;have:=int_len s;have:=num_len u;omega
theorem tn (n:Nat) (h:n<256):(UInt8.ofNat n).toNat=n:=by
 rw [UInt8.toNat_ofNat'];omega
theorem pow7 (k:Nat):2^(7*(k+1))=2^(7*k)*128:=by
 rw [show 7*(k+1)=7*k+7 from by omega,Nat.pow_add]
theorem go_num (r:List UInt8):∀(f k u m:Nat),k+f=9->m<2*128^f->(0<k->0<m)->
  go k u (numF (f+1) m++r)=.inr (u+m*2^(7*k),k+(numF (f+1) m).length)
 |f,k,u,m,hk,hm,hp=>by
  unfold numF
  by_cases h:m<128
  ·
   rw [if_pos h];simp only [Aq6,List.nil_append,Ao2,List.length_nil,go];rw [tn m (by omega)]
   have h9:¬((k=9/\1<m)\/(m=0/\0<k)):=by
    rintro (⟨h1,h2⟩|⟨h1,h2⟩)
    ·
     have:f=0:=by omega
     subst this;omega
    · have:=hp h2;omega
   rw [if_neg h9,if_pos h,Ap7 h]
  ·
   rw [if_neg h];simp only [Aq6,Ao2,go];rw [tn (m%128+128) (by omega)];have hf:f≠0:=by rintro rfl;omega
   obtain ⟨f',rfl⟩:∃f',f=f'+1:=⟨f-1,by omega⟩;have h9:¬((k=9/\1<m%128+128)\/(m%128+128=0/\0<k)):=by omega
   rw [if_neg h9,if_neg (by omega)]
   have hd:m/128<2*128^f':=by
    rw [Ap9 (by omega)];rw [Aq0] at hm;omega
   rw [go_num r f' (k+1) _ (m/128) (by omega) hd (fun _=>by omega)];have e1:(m%128+128)%128=m%128:=by omega
   rw [e1,pow7]
   have e2:u+m%128*2^(7*k)+m/128*(2^(7*k)*128)=u+m*2^(7*k):=by
    have hm':m*2^(7*k)=(m%128+128*(m/128))*2^(7*k):=by rw [Nat.mod_add_div]
    rw [hm',An3,Ap8 (2^(7*k)) 128,<- Nat.mul_assoc,Ap8 (m/128) 128,Nat.add_assoc]
   rw [e2];congr 2;omega
theorem go_cut:∀(f k u m j:Nat),k+f=9->m<2*128^f->(0<k->0<m)->j<(numF (f+1) m).length->go k u ((numF (f+1) m).take j)=.inl 9
 |f,k,u,m,0,_,_,_,_=>by simp [go]
 |f,k,u,m,j+1,hk,hm,hp,hj=>by
  unfold numF at hj ⊢
  by_cases h:m<128
  · rw [if_pos h] at hj;simp at hj
  ·
   rw [if_neg h] at hj ⊢;have hf:f≠0:=by rintro rfl;omega
   obtain ⟨f',rfl⟩:∃f',f=f'+1:=⟨f-1,by omega⟩;simp only [Aq3,go];rw [tn (m%128+128) (by omega),if_neg (by omega),if_neg (by omega)]
   have hd:m/128<2*128^f':=by
    rw [Ap9 (by omega)];rw [Aq0] at hm;omega
   exact go_cut f' (k+1) _ (m/128) j (by omega) hd (fun _=>by omega) (by simpa using hj)
end Pk
namespace Oq
open Pk
abbrev Rdr (α:Type):=List UInt8->Nat->Int->α × Nat × Int
structure Jn {α:Type} (f:Rdr α) (enc:α->List UInt8) (ok:α->Prop):Prop where
 back:∀bs a x r,ok x->bs.drop a=enc x++r->f bs a 0=(x,a+(enc x).length,0)
 cut:∀bs a x j,ok x->j<(enc x).length->bs.drop a=(enc x).take j->(f bs a 0).2.2=9
 stay:∀bs a e,e≠0->(f bs a e).2.2=e
 inv:∀bs a e,(f bs a e).2.2=0->e=0/\ok (f bs a e).1/\(f bs a e).2.1=a+(enc (f bs a e).1).length/\∃r,bs.drop a=enc (f bs a e).1++r
section
variable {α β : Type}
def seq (f:Rdr α) (g:Rdr β):Rdr (α × β):=fun bs a e=>
 (((f bs a e).1,(g bs (f bs a e).2.1 (f bs a e).2.2).1),(g bs (f bs a e).2.1 (f bs a e).2.2).2)
def Jo (f:Rdr α) (g:α->β):Rdr β:=fun bs a e=>(g (f bs a e).1,(f bs a e).2)
theorem St {f:Rdr α} {g:α->β} {bs:List UInt8} {a a1:Nat} {e e1:Int} {x:α} (h:f bs a e=(x,a1,e1)):Jo f g bs a e=(g x,a1,e1):=by
 unfold Jo;rw [h]
theorem Jn.map {f:Rdr α} {ef:α->List UInt8} {kf:α->Prop} (hf:Jn f ef kf) {g:α->β} {h:β->α} {eb:β->List UInt8} {kb:β->Prop} (hg:∀x,h (g x)=x) (gh:∀y,g (h y)=y) (he:∀y,eb y=ef (h y)) (hk:∀y,kb y<->kf (h y)):Jn (Jo f g) eb kb where
 back bs a x r hx hd:=by
  rw [he] at hd ⊢;rw [St (hf.back bs a (h x) r ((hk _).1 hx) hd),gh]
 cut bs a x j hx hj hd:=by
  rw [he] at hd hj;exact hf.cut bs a (h x) j ((hk _).1 hx) hj hd
 stay:=hf.stay
 inv bs a e h0:=by
  obtain ⟨h1,h2,h3,r,h4⟩:=hf.inv bs a e h0;refine ⟨h1,?_,?_,r,?_⟩
  · rw [hk];show kf (h (g _));rw [hg];exact h2
  · rw [he];show (f bs a e).2.1=a+(ef (h (g _))).length;rw [hg];exact h3
  · rw [he];show bs.drop a=ef (h (g _))++r;rw [hg];exact h4
def loop (f:Rdr α):Nat->List UInt8->Nat->Int->List α × Nat × Int
 |0,_,a,e=>([],a,e)
 |n+1,bs,a,e=>if e=0 then ((f bs a e).1::(loop f n bs (f bs a e).2.1 (f bs a e).2.2).1,(loop f n bs (f bs a e).2.1 (f bs a e).2.2).2) else ([],a,e)
def lst (enc:α->List UInt8) (l:List α):List UInt8:=Pk.int l.length++l.flatMap enc
def I64 (n:Int):Prop:= -9223372036854775808<=n/\n<=9223372036854775807
end
structure Id where
 b:Int
 s:Int
 u:Nat
abbrev Id.V (i:Id):Array Value:=#[.int .i64 i.b,.int .i64 i.s,.int .u64 (i.u:Int)]
structure Bx where
 t:Nat
 e:Nat
 y:Nat
 g:Nat
structure Nd where
 p:Nat
 xs:List Bx
structure Sl where
 f:Id
 y:List UInt8
structure Op where
 by_:Int
 sq:Int
 kind:Int
 at_:Int
 past:List Id
 dev:Int
 old:Int
 mem:Int
 role:Int
 path:List Nd
 epoch:Id
 n:Int
 body:List UInt8
 refs:List Nat
 of:Id
 guards:List Int
 need:Int
 wait:Int
 boxes:List Bx
 pub:Nat
 hist:List Sl
 r:Nat
 s:Nat
abbrev U64 (n:Nat):Prop:=n<18446744073709551616
def Id.bytes (i:Id):List UInt8:=Pk.ident i.b i.s i.u
def Id.ok (i:Id):Prop:=I64 i.b/\I64 i.s/\U64 i.u
def Bx.bytes (x:Bx):List UInt8:=num x.t++num x.e++num x.y++num x.g
def Bx.ok (x:Bx):Prop:=U64 x.t/\U64 x.e/\U64 x.y/\U64 x.g
def Nd.bytes (x:Nd):List UInt8:=num x.p++lst Bx.bytes x.xs
def Nd.ok (x:Nd):Prop:=U64 x.p/\x.xs.length<=1000/\∀b∈x.xs,b.ok
def Sl.bytes (x:Sl):List UInt8:=x.f.bytes++text x.y
def Sl.ok (x:Sl):Prop:=x.f.ok/\x.y.length<=9223372036854775807
end Oq
namespace Oq
def SlAt (w:World) (B size:Nat) (A:Option Addr) (n c:Nat) (xs:List Value):Prop:=Rd w B size A n xs/\n<=c/\c<=9223372036854775807
section
variable {S : Nat -> Prop} {w w' : World} {B B' size n c : Nat} {A : Option Addr} {xs : List Value}
theorem SlAt.fr (h:SlAt w B size A n c xs) (hf:Fr S w w') (hs:∀k,k<B->¬S k):SlAt w' B size A n c xs:=⟨h.1.fr hf hs,h.2⟩
theorem SlAt.mono (h:SlAt w B size A n c xs) (hB:B<=B'):SlAt w B' size A n c xs:=⟨h.1.mono hB,h.2⟩
theorem SlAt.nil (w:World) (B size:Nat):SlAt w B size none 0 0 []:=⟨Rd.nil _ _ _ _,by omega,by omega⟩
theorem SlAt.rd (h:SlAt w B size A n c xs):Rd w B size A n xs:=h.1
end
def Uv (n:Nat):Value:=.int .u64 (n:Int)
def Iv (n:Int):Value:=.int .i64 n
def Id.cells (i:Id):List Value:=[.int .i64 i.b,.int .i64 i.s,.int .u64 (i.u:Int)]
def Bx.cells (x:Bx):List Value:=[.int .u64 (x.t:Int),.int .u64 (x.e:Int),.int .u64 (x.y:Int),.int .u64 (x.g:Int)]
structure NdL where
 p:Nat
 A:Option Addr
 c:Nat
 xs:List Bx
def NdL.nd (x:NdL):Nd:=⟨x.p,x.xs⟩
def NdL.cells (x:NdL):List Value:=[.int .u64 (x.p:Int),.slice x.A x.xs.length x.c]
def NdL.at (w:World) (B:Nat) (x:NdL):Prop:=SlAt w B 4 x.A x.xs.length x.c (x.xs.flatMap Bx.cells)
structure SlL where
 f:Id
 A:Option Addr
 c:Nat
 y:List UInt8
def SlL.sl (x:SlL):Sl:=⟨x.f,x.y⟩
def SlL.cells (x:SlL):List Value:=[.int .i64 x.f.b,.int .i64 x.f.s,.int .u64 (x.f.u:Int),.slice x.A x.y.length x.c]
def SlL.at (w:World) (B:Nat) (x:SlL):Prop:=SlAt w B 1 x.A x.y.length x.c (x.y.map Bv)
structure OpL where
 by_:Int
 sq:Int
 kind:Int
 at_:Int
 pastA:Option Addr
 pastC:Nat
 past:List Id
 dev:Int
 old:Int
 mem:Int
 role:Int
 pathA:Option Addr
 pathC:Nat
 path:List NdL
 epoch:Id
 n:Int
 bodyA:Option Addr
 bodyC:Nat
 body:List UInt8
 refsA:Option Addr
 refsC:Nat
 refs:List Nat
 of:Id
 guardsA:Option Addr
 guardsC:Nat
 guards:List Int
 need:Int
 wait:Int
 boxesA:Option Addr
 boxesC:Nat
 boxes:List Bx
 pub:Nat
 histA:Option Addr
 histC:Nat
 hist:List SlL
 r:Nat
 s:Nat
def OpL.op (x:OpL):Op:=
  {by_:=x.by_,sq:=x.sq,kind:=x.kind,at_:=x.at_,past:=x.past,dev:=x.dev,old:=x.old,mem:=x.mem,role:=x.role,path:=x.path.map NdL.nd,epoch:=x.epoch,n:=x.n,body:=x.body,refs:=x.refs,of:=x.of,
    guards:=x.guards,need:=x.need,wait:=x.wait,boxes:=x.boxes,pub:=x.pub,hist:=x.hist.map SlL.sl,r:=x.r,s:=x.s}
def OpL.cells (x:OpL):Array Value:=
 #[.int .i64 x.by_,.int .i64 x.sq,.int .i64 x.kind,.int .i64 x.at_,.slice x.pastA x.past.length x.pastC,.int .i64 x.dev,.int .i64 x.old,.int .i64 x.mem,.int .i64 x.role,.slice x.pathA x.path.length x.pathC,
  .int .i64 x.epoch.b,.int .i64 x.epoch.s,.int .u64 (x.epoch.u:Int),.int .i64 x.n,.slice x.bodyA x.body.length x.bodyC,.slice x.refsA x.refs.length x.refsC,.int .i64 x.of.b,.int .i64 x.of.s,.int .u64 (x.of.u:Int),
  .slice x.guardsA x.guards.length x.guardsC,.int .i64 x.need,.int .i64 x.wait,.slice x.boxesA x.boxes.length x.boxesC,.int .u64 (x.pub:Int),.slice x.histA x.hist.length x.histC,.int .u64 (x.r:Int),.int .u64 (x.s:Int)]
structure OpL.at (w:World) (B:Nat) (x:OpL):Prop where
 past:SlAt w B 3 x.pastA x.past.length x.pastC (x.past.flatMap Id.cells)
 path:SlAt w B 2 x.pathA x.path.length x.pathC (x.path.flatMap NdL.cells)
 nodes:∀y∈x.path,y.at w B
 body:SlAt w B 1 x.bodyA x.body.length x.bodyC (x.body.map Bv)
 refs:SlAt w B 1 x.refsA x.refs.length x.refsC (x.refs.map Uv)
 guards:SlAt w B 1 x.guardsA x.guards.length x.guardsC (x.guards.map Iv)
 boxes:SlAt w B 4 x.boxesA x.boxes.length x.boxesC (x.boxes.flatMap Bx.cells)
 hist:SlAt w B 4 x.histA x.hist.length x.histC (x.hist.flatMap SlL.cells)
 seals:∀y∈x.hist,y.at w B
section
variable {S : Nat -> Prop} {w w' : World} {B B' : Nat}
theorem NdL.at.fr {x:NdL} (h:x.at w B) (hf:Fr S w w') (hs:∀k,k<B->¬S k):x.at w' B:=SlAt.fr h hf hs
theorem NdL.at.mono {x:NdL} (h:x.at w B) (hB:B<=B'):x.at w B':=SlAt.mono h hB
theorem SlL.at.fr {x:SlL} (h:x.at w B) (hf:Fr S w w') (hs:∀k,k<B->¬S k):x.at w' B:=SlAt.fr h hf hs
theorem SlL.at.mono {x:SlL} (h:x.at w B) (hB:B<=B'):x.at w B':=SlAt.mono h hB
theorem OpL.at.fr {x:OpL} (h:x.at w B) (hf:Fr S w w') (hs:∀k,k<B->¬S k):x.at w' B where
 past:=h.past.fr hf hs
 path:=h.path.fr hf hs
 nodes y hy:=(h.nodes y hy).fr hf hs
 body:=h.body.fr hf hs
 refs:=h.refs.fr hf hs
 guards:=h.guards.fr hf hs
 boxes:=h.boxes.fr hf hs
 hist:=h.hist.fr hf hs
 seals y hy:=(h.seals y hy).fr hf hs
theorem OpL.at.mono {x:OpL} (h:x.at w B) (hB:B<=B'):x.at w B' where
 past:=h.past.mono hB
 path:=h.path.mono hB
 nodes y hy:=(h.nodes y hy).mono hB
 body:=h.body.mono hB
 refs:=h.refs.mono hB
 guards:=h.guards.mono hB
 boxes:=h.boxes.mono hB
 hist:=h.hist.mono hB
 seals y hy:=(h.seals y hy).mono hB
end
structure Op.ok (o:Op):Prop where
 by_:I64 o.by_
 sq:I64 o.sq
 kind:I64 o.kind
 at_:I64 o.at_
 past:o.past.length<=1000/\∀x∈o.past,x.ok
 dev:I64 o.dev
 old:I64 o.old
 mem:I64 o.mem
 role:I64 o.role
 path:o.path.length<=1000/\∀x∈o.path,x.ok
 epoch:o.epoch.ok
 n:I64 o.n
 body:o.body.length<=1000000
 refs:o.refs.length<=1000/\∀x∈o.refs,U64 x
 of:o.of.ok
 guards:o.guards.length<=1000/\∀x∈o.guards,I64 x
 need:I64 o.need
 wait:I64 o.wait
 boxes:o.boxes.length<=1000/\∀x∈o.boxes,x.ok
 pub:U64 o.pub
 hist:o.hist.length<=1000/\∀x∈o.hist,x.f.ok/\x.y.length<=1000000
 r:U64 o.r
 s:U64 o.s
def Op.bare (o:Op):List UInt8:=
 Pk.int o.by_++Pk.int o.sq++Pk.int o.kind++Pk.int o.at_++lst Id.bytes o.past++Pk.int o.dev++Pk.int o.old++Pk.int o.mem++Pk.int o.role++lst Nd.bytes o.path++o.epoch.bytes++Pk.int o.n++Pk.text o.body++
  lst Pk.num o.refs++o.of.bytes++lst Pk.int o.guards++Pk.int o.need++Pk.int o.wait++lst Bx.bytes o.boxes++Pk.num o.pub++lst Sl.bytes o.hist
def Op.put (o:Op):List UInt8:=o.bare++Pk.num o.r++Pk.num o.s
def Op.zero:Op:=
 {by_:=0,sq:=0,kind:=0,at_:=0,past:=[],dev:=0,old:=0,mem:=0,role:=0,path:=[],epoch:=⟨0,0,0⟩,n:=0,body:=[],refs:=[],of:=⟨0,0,0⟩,guards:=[],need:=0,wait:=0,boxes:=[],pub:=0,hist:=[],r:=0,s:=0}
end Oq
section
open Go.ChangeShapes Go.WideShapes Go.ChangeAt Go.RowKit Go.Deep
section
variable {H : Type} {enc : TypeId × Value -> H} {P : Program} {w : World} {spare : Nat -> Bool} {held : Bool}
theorem Ms {t e:TypeId} {v:Value} {d:DataW H} {p:List MemPlace} (ht:P.underlying t=some (.slice e)) (he:P.underlying e=some (.int .i64)) (hsz:P.cellsOf e=1)
  {r:Reach} {b0:Nat} (hv:Value.okWide P w r b0 t v) (h:DataW.Trod enc P w 0 spare held t v d p):
  ∃(A:Option Addr) (c:Nat) (l:List Int),v=.slice A l.length c/\l.length<=c/\c<=9223372036854775807/\Rd w w.heap.size 1 A l.length (l.map Oq.Iv)/\∀x∈l,Oq.I64 x:=by
 obtain ⟨a0,l0,c0,rfl⟩:=okWide_slice ht hv;obtain ⟨fuel,hf⟩:=h;obtain ⟨A,n,c,xs,hcs,hl,hnc,hc,hr,hall⟩:=Sr ht hsz (by omega) hf;have hcs':Value.slice a0 l0 c0=.slice A n c:=by simpa [Value.cells] using hcs
 obtain ⟨l,rfl,hok⟩:=Mo (f:=fun b=>[Oq.Iv b]) (Q:=Oq.I64) xs (fun c' hc'=>by
  obtain ⟨hcl,m,y,hy⟩:=hall c' hc';obtain ⟨z,rfl,_,hz⟩:=DataW.trod_int he hy;exact ⟨z,rfl,Sp hz⟩)
 have hll:l.length=n:=by simpa using hl
 subst hll;refine ⟨A,c,l,hcs',hnc,hc,?_,hok⟩;rw [<- flat1 Oq.Iv l];exact hr
end
end
namespace Oq
def nx (L:List Int) (i:Nat) (m:Int):Int:=match L[i]? with
 |some x=>C0 x 1000000007%m
 |none=>0
theorem Gn (L:List Int) (i:Nat) {m:Int} (h:1<=m):0<=nx L i m/\nx L i m<m:=by
 unfold nx
 split
 · exact ⟨Int.emod_nonneg _ (by omega),Aq5 _ (by omega)⟩
 · omega
def gId (L:List Int) (i:Nat):Id:=⟨1+nx L i 6,1+nx L (i+1) 9,(nx L (i+2) 1000000).toNat⟩
def gBx (L:List Int) (i:Nat):Bx:=⟨(1+nx L i 1000).toNat,(1+nx L (i+1) 1000).toNat,(nx L (i+2) 1000).toNat,(nx L (i+3) 1000).toNat⟩
def Hd (n:Nat) (L:List Int) (i:Nat):List Bx:=(Aq1 n).map fun k=>gBx L (i+4*k)
def gByte (L:List Int) (i:Nat):UInt8:=UInt8.ofNat (nx L i 256).toNat
def Jp (n:Nat) (L:List Int) (i:Nat):List UInt8:=(Aq1 n).map fun k=>gByte L (i+k)
def gRefs (n:Nat) (L:List Int) (i:Nat):List Nat:=(Aq1 n).map fun k=>(nx L (i+k) 1000).toNat
def Id.eq (a b:Id):Bool:=a.b==b.b&&(a.s==b.s&&a.u==b.u)
theorem Id.eq_iff (a b:Id):Id.eq a b=true<->a=b:=by
 cases a;cases b
 simp [Id.eq]
def Bi (l:List Id) (x:Id):Bool:=l.any (fun y=>Id.eq y x)
def Id.less (a b:Id):Bool:=if a.b=b.b then if a.s=b.s then decide (a.u<b.u) else decide (a.s<b.s) else decide (a.b<b.b)
def He (L:List Int) (i:Nat):Nat->List Id
 |0=>[]
 |k+1=>if Bi (He L i k) (gId L (i+3*k)) then He L i k else He L i k++[gId L (i+3*k)]
def Bm (x:Id) (l:List Id):Nat->Nat
 |0=>0
 |k+1=>match l[k]? with
  |some y=>if Id.less x y then Bm x l k else k+1
  |none=>k+1
def ins (l:List Id) (x:Id):List Id:=l.take (Bm x l l.length)++[x]++l.drop (Bm x l l.length)
def An:List Id->List Id:=List.foldl ins []
def gNd (L:List Int) (i:Nat):Nd:=⟨(1+nx L i 1000).toNat,Hd (nx L (i+1) 3).toNat L (i+2)⟩
def Su (L:List Int) (i:Nat):Nat:=i+2+4*(nx L (i+1) 3).toNat
def Gp (L:List Int) (i:Nat):Nat->List Nd × Nat
 |0=>([],i)
 |k+1=>((Gp L i k).1++[gNd L (Gp L i k).2],Su L (Gp L i k).2)
def gSl (L:List Int) (i:Nat):Sl:=⟨gId L i,Jp (8+nx L (i+3) 5).toNat L (i+4)⟩
def Sv (L:List Int) (i:Nat):Nat:=i+4+(8+nx L (i+3) 5).toNat
def Gq (L:List Int) (i:Nat):Nat->List Sl × Nat
 |0=>([],i)
 |k+1=>((Gq L i k).1++[gSl L (Gq L i k).2],Sv L (Gq L i k).2)
def Hf (L:List Int) (i:Nat):Nat->List Int
 |0=>[]
 |k+1=>if nx L (i+k) 2=0\/(k=5/\(Hf L i k).length=0) then Hf L i k++[(k+1:Int)] else Hf L i k
def Cl (k:Int):Bool:=k==1||k==2||k==3||k==4||k==13
def g1 (L:List Int):Op:={Op.zero with kind:=1+nx L 0 13,by_:=1+nx L 1 6,sq:=1+nx L 2 20,at_:=nx L 3 500}
def g2 (L:List Int) (p:Op × Nat):Op × Nat:=
 if p.1.kind=1 then p else ({p.1 with past:=An (He L (p.2+1) (1+nx L p.2 3).toNat)},p.2+1+3*(1+nx L p.2 3).toNat)
def g3 (L:List Int) (p:Op × Nat):Op × Nat:=
 if Cl p.1.kind then ({p.1 with path:=(Gp L (p.2+1) (1+nx L p.2 3).toNat).1},(Gp L (p.2+1) (1+nx L p.2 3).toNat).2) else p
def g4 (L:List Int) (p:Op × Nat):Op × Nat:=
 let i:=p.2
 let o:=p.1
 if o.kind=1 then ({o with need:=nx L i 21},i+1)
 else if o.kind=2 then ({o with dev:=1+nx L i 12,role:=1+nx L (i+1) 3},i+2)
 else if o.kind=3 then (if nx L i 7=0 then ({o with dev:=0,mem:=1+nx L (i+1) 8},i+2) else ({o with dev:=nx L i 7},i+1))
 else if o.kind=5 then ({o with mem:=1+nx L i 8,role:=1+nx L (i+1) 3},i+2)
 else if o.kind=6 then
  let nb:=(8+nx L (i+4) 9).toNat
  let nr:=(nx L (i+5+nb) 3).toNat
  ({o with epoch:=gId L i,n:=nx L (i+3) 5,body:=Jp nb L (i+5),refs:=gRefs nr L (i+6+nb)},i+6+nb+nr)
 else if o.kind=7 then
  let nb:=(1+nx L (i+3) 4).toNat
  ({o with of:=gId L i,body:=Jp nb L (i+4)},i+4+nb)
 else if o.kind=9 then
  let gs:=Hf L i 6
  ({o with guards:=gs,need:=1+nx L (i+6) gs.length,wait:=nx L (i+7) 50,pub:=(1+nx L (i+8) 1000).toNat,boxes:=Hd gs.length L (i+9)},i+9+4*gs.length)
 else if o.kind=10 then
  let nb:=(1+nx L (i+3) 6).toNat
  ({o with of:=gId L i,boxes:=Hd nb L (i+4)},i+4+4*nb)
 else if o.kind=11 then ({o with of:=gId L i,dev:=1+nx L (i+3) 12,boxes:=Hd 1 L (i+4)},i+8)
 else if o.kind=13 then ({o with of:=gId L i,dev:=1+nx L (i+3) 12,old:=1+nx L (i+4) 12},i+5)
 else ({o with of:=(if o.kind=8\/o.kind=12 then gId L i else o.of)},if o.kind=8\/o.kind=12 then i+3 else i)
def g5 (L:List Int) (p:Op × Nat):Op × Nat:=
 if p.1.kind=2\/p.1.kind=13 then ({p.1 with hist:=(Gq L (p.2+1) (nx L p.2 3).toNat).1},(Gq L (p.2+1) (nx L p.2 3).toNat).2) else p
def gen (L:List Int):Op:=(g5 L (g4 L (g3 L (g2 L (g1 L,4))))).1
open Pk
end Oq
theorem Sw {P:Program} {o:Oper} {a:Act} {K:Act->World->Prop} {Q:Exit->Act->World->Prop} {w:World} (t:TypeId) (p:Operand) (hop:o.op=Op.load t p) {g:Nat} {t':TypeId} {cs:Array Value} {d:TypeDesc}
  (hp:a.eval p=.pointer (some ⟨g,0,none⟩)) (hb:Blk w g t' cs) (hu:P.underlying t=some d) (hd:(match d with| .struct _| .array _ _=>true|_=>false)=true) (hi:(P.info? t).map (·.size)=some cs.size)
  (hK:K (a.put o.dst (.agg cs)) w):Oper.wp P o a w K Q:=by
 have hrun:=run_loadVar_row (P:=P) w g t' t cs (0,0) d hb hu hd hi;unfold Oper.wp;simp [execOp,hop,hp,Instr.loadAt,Instr.sureAddr,hrun,Result.andThen];exact hK
theorem Jq {P:Program} {ops:Array Oper} {rest:List Oper} {o:Oper} {a:Act} {Q:Exit->Act->World->Prop} {w:World} (hg:o.guard=none) (t:TypeId) (p:Operand) (hop:o.op=Op.load t p) {g:Nat} {t':TypeId} {cs:Array Value} {d:TypeDesc}
  (hp:a.eval p=.pointer (some ⟨g,0,none⟩)) (hb:Blk w g t' cs) (hu:P.underlying t=some d) (hd:(match d with| .struct _| .array _ _=>true|_=>false)=true) (hi:(P.info? t).map (·.size)=some cs.size)
  (hK:wpList P ops Q rest (a.put o.dst (.agg cs)) w):wpList P ops Q (o::rest) a w:=
 wpList_plain hg fun _ hK'=>Sw t p hop hp hb hu hd hi (hK' _ _ hK)
theorem Blk.setRow {w:World} {g:Nat} {t:TypeId} {old cs:Array Value} (h:Blk w g t old):Blk (w.setRow g cs) g t cs:=by
 unfold Blk at h ⊢;simp [An8,An9,h]
theorem Blk.setRow_far {w:World} {g g':Nat} {t:TypeId} {old cs:Array Value} (h:Blk w g t old) (hn:g≠g'):Blk (w.setRow g' cs) g t old:=by
 unfold Blk at h ⊢;have hn':¬g'=g:=fun e=>hn e.symm;simp [An8,An9,h,hn']
theorem Fr.setRow {S:Nat->Prop} {a w:World} (h:Fr S a w) {g:Nat} (hg:g<a.heap.size->S g) (cs:Array Value):Fr S a (w.setRow g cs):=
 h.trans (S':=fun k=>k=g) ⟨rfl,rfl,rfl,by simp [An8],fun k _ hn=>by
  have hn':¬g=k:=fun e=>hn e.symm;simp [An8,An9,hn']⟩ (fun i hi e=>by subst e;exact hg hi)
theorem Sx (w:World) (g:Nat) (cs:Array Value):(w.setRow g cs).heap.size=w.heap.size:=by simp [An8]
theorem Eh {P:Program} {o:Oper} {a:Act} {K:Act->World->Prop} {Q:Exit->Act->World->Prop} {w:World} (t:TypeId) (p v:Operand) (hop:o.op=Op.store t p v) (hdst:o.dst=none) {g:Nat} {t':TypeId} {old cs:Array Value}
  (hp:a.eval p=.pointer (some ⟨g,0,none⟩)) (hv:a.eval v=.agg cs) (hb:Blk w g t' old) (hi:(P.info? t).map (·.size)=some cs.size) (ho:old.size=cs.size) (h1:cs.all (·.oneCell')=true)
  (hK:K a (w.setRow g cs)):Oper.wp P o a w K Q:=by
 have hrun:=run_storeVar_row (P:=P) w g t' t old cs hb hi ho h1;unfold Oper.wp;simp [execOp,hop,hp,hv,Instr.storeAt,Instr.sureAddr,hrun,Result.andThen];rw [Oper.upon_skip,hdst];exact hK
theorem Ei {P:Program} {ops:Array Oper} {rest:List Oper} {o:Oper} {a:Act} {Q:Exit->Act->World->Prop} {w:World} (hg:o.guard=none) (t:TypeId) (p v:Operand) (hop:o.op=Op.store t p v) (hdst:o.dst=none) {g:Nat} {t':TypeId} {old cs:Array Value}
  (hp:a.eval p=.pointer (some ⟨g,0,none⟩)) (hv:a.eval v=.agg cs) (hb:Blk w g t' old) (hi:(P.info? t).map (·.size)=some cs.size) (ho:old.size=cs.size) (h1:cs.all (·.oneCell')=true)
  (hK:wpList P ops Q rest a (w.setRow g cs)):wpList P ops Q (o::rest) a w:=
 wpList_plain hg fun _ hK'=>Eh t p v hop hdst hp hv hb hi ho h1 (hK' _ _ hK)
def ldS (t:TypeId) (v:Value):=Instr.loadAt t v
theorem Cg (v:Value):Instr.loadAt 44 v=ldS 44 v:=rfl
theorem Bb {P:Program} {t:TypeId} {d:TypeDesc} {cs:Array Value} (g:Nat) (t':TypeId) (hu:P.underlying t=some d) (hd:(match d with| .struct _| .array _ _=>true|_=>false)=true) (hi:(P.info? t).map (·.size)=some cs.size):
  ∀w',Blk w' g t' cs->(ldS t (.pointer (some ⟨g,0,none⟩))).run P w'=.ok (.agg cs) w':=fun w' h=>by
 have hrun:=run_loadVar_row (P:=P) w' g t' t cs (0,0) d h hu hd hi;unfold ldS;simp only [Instr.loadAt,Instr.sureAddr,Sem.run_bind,Sem.run_pure,Result.andThen];exact hrun
def stS (t:TypeId) (p v:Value):=Instr.storeAt t p v
theorem Ej (p v:Value):Instr.storeAt 44 p v=stS 44 p v:=rfl
theorem Sy (p v:Value):Instr.storeAt 148 p v=stS 148 p v:=rfl
theorem Sz (p v:Value):Instr.storeAt 97 p v=stS 97 p v:=rfl
theorem Ch {P:Program} {t:TypeId} {old cs:Array Value} (g:Nat) (t':TypeId) (hi:(P.info? t).map (·.size)=some cs.size) (ho:old.size=cs.size) (h1:cs.all (·.oneCell')=true):
  ∀w',Blk w' g t' old->(stS t (.pointer (some ⟨g,0,none⟩)) (.agg cs)).run P w'=.ok () (w'.setRow g cs):=fun w' h=>by
 have hrun:=run_storeVar_row (P:=P) w' g t' t old cs h hi ho h1;unfold stS;simp only [Instr.storeAt,Instr.sureAddr,Sem.run_bind,Sem.run_pure,Result.andThen];exact hrun
namespace Oq
def RowAt (w:World) (base:Nat) (t:TypeId) (size:Nat) (A:Option Addr) (n c:Nat) (xs:List Value):Prop:=
 SlAt w w.heap.size size A n c xs/\(n=0\/∃k cs fr,A=some ⟨k,0,none⟩/\base<=k/\w.heap[k]? =some (.cells cs t fr)/\∀j,j<n*size->w.frozen? ⟨k,j,none⟩=false)
section
variable {S : Nat -> Prop} {w w' : World} {base base' size n c : Nat} {t : TypeId} {A : Option Addr} {xs : List Value}
theorem S3 {w w':World} {k:Nat} (h:w'.heap[k]? =w.heap[k]?) (j:Nat):w'.frozen? ⟨k,j,none⟩=w.frozen? ⟨k,j,none⟩:=by
 unfold Ao8;rw [h]
theorem RowAt.sl (h:RowAt w base t size A n c xs):SlAt w w.heap.size size A n c xs:=h.1
theorem RowAt.fr (h:RowAt w base t size A n c xs) (hf:Fr S w w') (hs:n≠0->∀k,Ab A=some k->¬S k):RowAt w' base t size A n c xs:=by
 obtain ⟨⟨⟨h1,h2⟩,h3⟩,h4⟩:=h
 rcases h4 with h0|⟨k,cs,fr,rfl,hk,hb,hz⟩
 · exact ⟨⟨⟨h1,.inl h0⟩,h3⟩,.inl h0⟩
 ·
  by_cases h0:n=0
  · exact ⟨⟨⟨h1,.inl h0⟩,h3⟩,.inl h0⟩
  ·
   have hkl:=(Array.getElem?_eq_some_iff.1 hb).1;have hbk:=hf.block k hkl (hs h0 k rfl);refine ⟨⟨⟨h1,?_⟩,h3⟩,.inr ⟨k,cs,fr,rfl,hk,hbk.trans hb,fun j hj=>(S3 hbk j).trans (hz j hj)⟩⟩
   rcases h2 with h2|⟨b,off,e,hlt,hc⟩
   · exact .inl h2
   ·
    injection e with e
    injection e with e1 e2
    subst e1 e2;exact .inr ⟨k,0,rfl,Ao7 hkl hf.size,fun j u hu=>(Ao9 hbk).trans (hc j u hu)⟩
theorem RowAt.lower (h:RowAt w base t size A n c xs) (hb:base'<=base):RowAt w base' t size A n c xs:=
 ⟨h.1,h.2.imp id fun ⟨k,cs,fr,e,hk,r⟩=>⟨k,cs,fr,e,An5 hb hk,r⟩⟩
theorem RowAt.of_own (h:Own w base t size A n c xs):RowAt w base t size A n c xs:=by
 refine ⟨⟨h.rd,h.cap⟩,?_⟩
 rcases h.2 with ⟨hv,hn⟩|⟨g,cap,cur,hv,hb,hg,_⟩
 · exact .inl hn
 ·
  injection hv with hA _ _
  refine .inr ⟨g,cur,(0,0),hA,hb,hg,fun j _=> ?_⟩;simp [Ao8,hg]
theorem RowAt.ne (h:RowAt w base t size A n c xs) {g:Nat} {t':TypeId} {cs:Array Value} {fr:Nat × Nat} (hb:w.heap[g]? =some (.cells cs t' fr)) (ht:t≠t'):n≠0->∀k,Ab A=some k->k≠g:=by
 intro h0 k hk
 rcases h.2 with hn|⟨k',cs',fr',rfl,_,hb',_⟩
 · exact absurd hn h0
 ·
  injection hk with hk
  subst hk;rintro rfl;rw [hb] at hb';injection hb' with hb'
  injection hb' with _ e _
  exact ht e.symm
theorem RowAt.far (h:RowAt w base t size A n c xs) {A':Option Addr} {base2 size2 n2 c2:Nat} {t':TypeId} {xs2:List Value} (ho:Own w base2 t' size2 A' n2 c2 xs2) (ht:t≠t'):n≠0->∀k,Ab A=some k->¬Ab A'=some k:=by
 intro h0 k hk hk'
 rcases ho.2 with ⟨hv,_⟩|⟨g,cap,cur,hv,_,hg,_⟩
 ·
  injection hv with hA _ _
  subst hA
  cases hk'
 ·
  injection hv with hA _ _
  subst hA;injection hk' with hk'
  exact h.ne hg ht h0 k hk hk'.symm
end
theorem Rd.blk {w:World} {k:Nat} {t:TypeId} {size n:Nat} {l:List Value} (h:Blk w k t l.toArray) (hn:l.length=n*size):Rd w w.heap.size size (some ⟨k,0,none⟩) n l:=by
 refine ⟨hn,.inr ⟨k,0,rfl,h.lt,fun j u hu=> ?_⟩⟩;rw [An7,h.cell j,List.getElem?_toArray];exact hu
theorem C1:SlT zp 28 38 (.agg #[.int .i64 0,.int .i64 0,.int .u64 0]) 3 24:=⟨underlying28,by kernel_rfl,rfl,by decide⟩
theorem slBx:SlT zp 41 148 (.agg #[.int .u64 0,.int .u64 0,.int .u64 0,.int .u64 0]) 4 32:=⟨underlying41,by kernel_rfl,rfl,by decide⟩
theorem slNd:SlT zp 36 94 (.agg #[.int .u64 0,.slice none 0 0]) 2 32:=⟨underlying36,by kernel_rfl,rfl,by decide⟩
theorem slSl:SlT zp 42 97 (.agg #[.int .i64 0,.int .i64 0,.int .u64 0,.slice none 0 0]) 4 48:=⟨underlying42,by kernel_rfl,rfl,by decide⟩
theorem Fi:SlT zp 22 3 (.int .i64 0) 1 8:=⟨underlying22,by kernel_rfl,rfl,by decide⟩
theorem Jr:SlT zp 40 23 (.int .u64 0) 1 8:=⟨underlying40,by kernel_rfl,rfl,by decide⟩
section
attribute [local go_sem ↓] Sy
end
theorem Js {P:Program} {w:World} (a:Addr) (m:Mode) (f:Fn) (x y:Array Value):(store a (.func f x y) m).run P w=stored P w a (.func f x y) m:=run_store P w a _ m rfl
attribute [local go_sem] Js
section
attribute [local go_sem ↓] Sz
end
end Oq
def OutAt (w:World) (B g:Nat) (A:Option Addr) (c:Nat) (bs:List UInt8):Prop:=
 Blk w g 207 #[.slice A bs.length c]/\Own w B 5 1 A bs.length c (bs.map Bv)/\B<=g
section
variable {S : Nat -> Prop} {w w' : World} {B g c : Nat} {A : Option Addr} {bs : List UInt8}
theorem OutAt.mk' {n:Nat} {xs:List Value} (hb:Blk w g 207 #[.slice A n c]) (ho:Own w B 5 1 A n c xs) (hB:B<=g) (hx:xs=bs.map Bv):OutAt w B g A c bs:=by
 subst hx;have hl:=ho.len;simp at hl;subst hl;exact ⟨hb,ho,hB⟩
theorem OutAt.ne (h:OutAt w B g A c bs):Ab A≠some g:=h.2.1.ne h.1 (by decide)
theorem OutAt.fr (h:OutAt w B g A c bs) (hf:Fr S w w') (hg:¬S g) (hs:∀k,Ab A=some k->¬S k):OutAt w' B g A c bs:=
 ⟨h.1.fr hf hg,h.2.1.fr hf hs,h.2.2⟩
theorem OutAt.alloc (h:OutAt w B g A c bs) (o:Obj):OutAt (w.alloc o) B g A c bs:=
 h.fr (S:=Non) ((Fr.refl _ _).alloc o) (fun hh=>hh) (fun _ _ hh=>hh)
theorem OutAt.drewN (h:OutAt w B g A c bs) (n:Nat):OutAt (w.drewN n) B g A c bs:=h
theorem OutAt.lt (h:OutAt w B g A c bs):g<w.heap.size:=h.1.lt
theorem OutAt.le (h:OutAt w B g A c bs):B<=g:=h.2.2
theorem OutAt.not (h:OutAt w B g A c bs) {B':Nat} (hB:B'<=B):∀k,k<B'->¬RS g A k:=RS.not h.2.1 hB (An5 hB h.2.2)
theorem OutAt.far (h:OutAt w B g A c bs) {g':Nat} {t:TypeId} {cs:Array Value} (hb:Blk w g' t cs) (h1:t≠207) (h2:t≠5):¬RS g A g':=by
 rintro (e|e)
 · exact (hb.ne h.1 h1) e
 · exact h.2.1.ne hb (Ne.symm h2) e
end
def C9 (B g:Nat) (A:Option Addr) (bs:List UInt8) (w:World) (r:Ending) (w':World):Prop:=
 r=.returned (.tuple #[])/\∃A' c',OutAt w' B g A' c' bs/\Ay g w A w' A'
theorem S4 (m:Nat):bits BinOp.or IntKind.u8 ((m:Int)%256) 128=((m%128+128:Nat):Int):=by
 have e1:(m:Int)%256=((m%256:Nat):Int):=by omega
 rw [e1,show (128:Int)=((128:Nat):Int) from rfl,u8_or_nat _ _ (by omega) (by omega)];congr 1;have h1:m%256=m%128+(m/128%2)*128:=by omega
 rcases Nat.mod_two_eq_zero_or_one (m/128) with h|h
 ·
  rw [h1,h,Nat.zero_mul,Nat.add_zero,Nat.or_comm,nat_join 7 _ _ (by omega) (by omega)];omega
 ·
  rw [h1,h,Nat.one_mul];have h2:m%128+128=128|||m%128:=by rw [nat_join 7 _ _ (by omega) (by omega)];omega
  rw [h2,Nat.or_assoc,Nat.or_comm (m%128) 128,<- Nat.or_assoc,Nat.or_self]
theorem Ek (B g:Nat) (A0:Option Addr) (c0:Nat) (bs:List UInt8) (n:Nat) (w:World) (ho:OutAt w B g A0 c0 bs) (hn:n<18446744073709551616) (hl:bs.length<=1099511627776):
  Calls zp 172 #[.pointer (some ⟨g,0,none⟩),.int .u64 (n:Int)] w (C9 B g A0 (bs++Pk.num n) w):=by
 go_enter func172,ntmps172;go_wp2
 go_loopw [1] (fun v wr=>∃(m f:Nat) (L:List UInt8) (A:Option Addr) (c:Nat),v=.int .u64 (m:Int)/\m<2*128^f/\Hid (bs++Pk.num n=L++Pk.numF (f+1) m)/\L.length+f<=bs.length+9/\m<18446744073709551616/\OutAt wr B g A c L/\Ay g w A0 wr A) (fun v _=>(intOf v).toNat)
 case atStart=>exact ⟨n,9,bs,A0,c0,rfl,by simpa using hn,rfl,by omega,hn,ho,Ay.refl _ _ _⟩
 case round=>
  obtain ⟨m,f,L,A,c,rfl,hm,hpre,hlen,hm64,ho',hf⟩:=hrel;have hne:=ho'.ne;obtain ⟨hb,hown,hB⟩:=ho';have h0:=hb.cell 0;have f0:=hb.frozen 0;have hg:=hb.lt;have hBs:B<=wr.heap.size:=by omega
  by_cases hlt:m<128
  ·
   go_wp2_with (first|(at_builtin;go_loud (refine Aw (.tmp 24) (.tmp 27) 39 rfl rfl rfl rfl slB (hown.alloc _) (Rd.one _ _ _) (by simp [Value.oneCell']) (by omega) (by omega) (by simp;omega) ?_);intro A1 c1 w1 hown1 hf1 hat1;have hb1:=(hb.alloc (.cells #[.int .u8 (m:Int)] 5)).fr hf1 hne;have h1:=hb1.cell 0;have q1:=hb1.frozen 0))
   go_end0
   refine ⟨rfl,A1,c1,OutAt.mk' (hb1.set 0 (.slice A1 (L.length+1) c1)) (hown1.setOne (hown1.ne hb1 (by decide))) hB ?_,((hf.alloc (.cells #[.int .u8 (m:Int)] 5)).app hf1 hat1).set 0 _⟩;rw [hpre.out];simp [Pk.numF,hlt,Bv];omega
  ·
   have hmore:=lh (S4 m);go_wp2_with (first|(at_builtin;go_loud (refine Aw (.tmp 10) (.tmp 14) 39 rfl rfl rfl rfl slB (hown.alloc _) (Rd.one _ _ _) (by simp [Value.oneCell']) (by omega) (by omega) (by simp;omega) ?_);intro A1 c1 w1 hown1 hf1 hat1;have hb1:=(hb.alloc (.cells #[.int .u8 (bits BinOp.or IntKind.u8 ((m:Int)%256) 128)] 5)).fr hf1 hne;have h1:=hb1.cell 0;have q1:=hb1.frozen 0));go_roundw
   case rel=>
    have hf0:f≠0:=by rintro rfl;omega
    obtain ⟨f',rfl⟩:∃f',f=f'+1:=⟨f-1,by omega⟩
    refine ⟨m/128,f',L++[UInt8.ofNat (m%128+128)],A1,c1,by go_num,?_,?_,?_,by omega,OutAt.mk' (hb1.set 0 (.slice A1 (L.length+1) c1)) (hown1.setOne (hown1.ne hb1 (by decide))) hB ?_,
     ((hf.alloc (.cells #[.int .u8 (bits BinOp.or IntKind.u8 ((m:Int)%256) 128)] 5)).app hf1 hat1).set 0 _⟩
    · rw [Ap9 (by omega)];rw [Aq0] at hm;omega
    ·
     show _=_;rw [hpre.out];conv=>lhs;unfold Pk.numF
     rw [if_neg hlt];simp
    · simp;omega
    ·
     rw [hmore.out];have:=Pk.tn (m%128+128) (by omega);simp [Bv];omega
   case measure=>simp [intOf];omega
theorem S5 (n:Int) (h0: -9223372036854775808<=n) (h1:n<=9223372036854775807):
  bits BinOp.xor IntKind.u64 (IntKind.u64.wrap (IntKind.u64.wrap n*2)) (IntKind.u64.wrap (n/9223372036854775808))=(Pk.fold n:Int):=by
 unfold Pk.fold
 by_cases hn:n<0
 ·
  rw [if_pos hn];obtain ⟨k,hk⟩:∃k:Nat,n= -((k:Int)+1):=⟨(-n-1).toNat,by omega⟩;subst hk;have e1:IntKind.u64.wrap (IntKind.u64.wrap (-((k:Int)+1))*2)=((18446744073709551614-2*k:Nat):Int):=by rw [IntKind.wrap_u64,IntKind.wrap_u64];omega
  have e2:IntKind.u64.wrap (-((k:Int)+1)/9223372036854775808)=((18446744073709551615:Nat):Int):=by rw [IntKind.wrap_u64];omega
  rw [e1,e2,u64_xor_nat _ _ (by omega) (by omega)]
  have e3:(18446744073709551614-2*k)^^^18446744073709551615=2*k+1:=by
   have h:=BitVec.toNat_not (x:=BitVec.ofNat 64 (18446744073709551614-2*k));rw [<- BitVec.xor_allOnes,BitVec.toNat_xor,BitVec.toNat_allOnes,BitVec.toNat_ofNat,Ap7 (by omega)] at h;rw [show (18446744073709551615:Nat)=2^64-1 from rfl,h];omega
  rw [e3];omega
 ·
  rw [if_neg hn];have e1:IntKind.u64.wrap (IntKind.u64.wrap n*2)=(((2*n).toNat:Nat):Int):=by rw [IntKind.wrap_u64,IntKind.wrap_u64];omega
  have e2:IntKind.u64.wrap (n/9223372036854775808)=((0:Nat):Int):=by rw [IntKind.wrap_u64];omega
  rw [e1,e2,u64_xor_nat _ _ (by omega) (by omega),Nat.xor_zero]
theorem S6 (n:Int) (w:World) (h0: -9223372036854775808<=n) (h1:n<=9223372036854775807):
  Calls zp 226 #[.int .i64 n] w fun e w'=>e=.returned (.int .u64 (Pk.fold n:Int))/\w=w':=by
 have hx:=lh (S5 n h0 h1);go_enter func226,ntmps226;go_wp2
 go_ret
 exact ⟨congrArg (fun z=>ze (.int .u64 z)) hx.out,rfl⟩
theorem Dm (B g:Nat) (A:Option Addr) (c:Nat) (bs:List UInt8) (n:Int) (w:World) (ho:OutAt w B g A c bs) (h0: -9223372036854775808<=n) (h1:n<=9223372036854775807) (hl:bs.length<=1099511627776):
  Calls zp 170 #[.pointer (some ⟨g,0,none⟩),.int .i64 n] w (C9 B g A (bs++Pk.int n) w):=by
 go_enter func170,ntmps170;go_wp2_with fail;refine (S6 n _ h0 h1).mono ?_;rintro _ w1 ⟨rfl,rfl⟩;go_wp2_with fail;refine (Ek B g A c bs (Pk.fold n) _ ho (Pk.fold_lt h0 h1) hl).mono ?_;rintro _ w1 ⟨rfl,A1,c1,ho1,hf1⟩;go_wp2
 go_end0
 exact ⟨rfl,A1,c1,ho1,hf1⟩
theorem Hg (B g:Nat) (A:Option Addr) (c:Nat) (bs:List UInt8) (b s:Int) (u:Nat) (w:World) (ho:OutAt w B g A c bs) (b0: -9223372036854775808<=b) (b1:b<=9223372036854775807)
  (s0: -9223372036854775808<=s) (s1:s<=9223372036854775807) (hu:u<18446744073709551616) (hl:bs.length<=1099511627700):
  Calls zp 174 #[.pointer (some ⟨g,0,none⟩),.agg #[.int .i64 b,.int .i64 s,.int .u64 (u:Int)]] w (C9 B g A (bs++Pk.ident b s u) w):=by
 have hb0:=Blk.new w 38 #[.int .i64 b,.int .i64 s,.int .u64 (u:Int)];have ho0:=ho.alloc (.cells #[.int .i64 b,.int .i64 s,.int .u64 (u:Int)] 38);have l1:=Pk.int_len b;have l2:=Pk.int_len s;go_enter func174,ntmps174;go_wp2_with fail;refine (Dm B g A c bs b _ ho0 b0 b1 (by omega)).mono ?_;rintro _ w1 ⟨rfl,A1,c1,ho1,hf1⟩;have hb1:=hb0.fr hf1.fr (ho0.far hb0 (by decide) (by decide));have h1:=hb1.cell 1;go_wp2_with fail;refine (Dm B g A1 c1 _ s _ ho1 s0 s1 (by simp;omega)).mono ?_;rintro _ w2 ⟨rfl,A2,c2,ho2,hf2⟩;have hb2:=hb1.fr hf2.fr (ho1.far hb1 (by decide) (by decide));have h2:=hb2.cell 2;go_wp2_with fail;refine (Ek B g A2 c2 _ u _ ho2 hu (by simp;omega)).mono ?_;rintro _ w3 ⟨rfl,A3,c3,ho3,hf3⟩;go_wp2
 go_end0
 refine ⟨rfl,A3,c3,?_,(((Ay.refl g w A).alloc _).trans hf1).trans (hf2.trans hf3)⟩;simpa [Pk.ident] using ho3
theorem Mt (B g:Nat) (A:Option Addr) (c:Nat) (bs l:List UInt8) (w:World) (ho:OutAt w B g A c bs) (hl:bs.length+l.length<=1099511627700):
  Calls zp 178 #[.pointer (some ⟨g,0,none⟩),.string (str l)] w (C9 B g A (bs++Pk.text l) w):=by
 have hs:=Ee l;have hil:=Pk.int_len (l.length:Int);go_enter func178,ntmps178;go_wp2_with fail;refine (Dm B g A c bs _ _ ho (by omega) (by omega) (by omega)).mono ?_;rintro _ w1 ⟨rfl,A1,c1,ho1,hf1⟩;clear hs;generalize hL:bs++Pk.int (l.length:Int)=L at ho1;have hL':=lh hL;have hll:L.length<=bs.length+10:=by rw [<- hL];simp;omega
 clear hL;have hne:=ho1.ne;obtain ⟨hb,hown,hB⟩:=ho1;have h0:=hb.cell 0;have f0:=hb.frozen 0;have hBs:B<=w1.heap.size:=An5 hB (Nat.le_of_lt hb.lt);go_wp2_with (first|(at_builtin;go_loud (refine Mk (.tmp 12) (.tmp 13) 39 9 rfl rfl rfl rfl slB underlying9 hown (by omega) (by omega) ?_);intro A2 c2 w2 hown2 hf2 hat2;have hb2:=hb.fr hf2 hne;have h2:=hb2.cell 0;have q2:=hb2.frozen 0))
 go_end0
 refine ⟨rfl,A2,c2,OutAt.mk' (hb2.set 0 _) (hown2.setOne (hown2.ne hb2 (by decide))) hB ?_,(hf1.app hf2 hat2).set 0 _⟩;rw [<- List.map_append,<- hL'.out];simp [Pk.text]
theorem Mu (B g:Nat) (A:Option Addr) (c:Nat) (bs:List UInt8) (w:World) (ho:OutAt w B g A c bs) (hl:bs.length<=1099511627776):
  Calls zp 127 #[.pointer (some ⟨g,0,none⟩)] w (NewB w bs):=by
 obtain ⟨hb,hown,hB⟩:=ho;have h0:=hb.cell 0;have hnil:=Own.nil w w.heap.size 5 1;go_enter func127,ntmps127;go_wp2_with (first|(at_builtin;go_loud (refine Aw (.const (.slice none 0 0)) (.tmp 6) 39 rfl rfl rfl rfl slB hnil hown.rd (Gl _) (by omega) (by omega) (Ao6 _) ?_);intro A2 c2 w2 hown2 hf2 hat2))
 go_ret
 rw [An7,List.nil_append] at hown2;exact ⟨A2,c2,by rw [<- An7 bs.length];rfl,hown2,hf2.mono (fun k _ hk=>by cases hk)⟩
section
variable {S : Nat -> Prop} {w w' : World} {base g n c : Nat} {A : Option Addr} {bs : List UInt8}
end
namespace Oq
def OpBlk (w:World) (g:Nat):Prop:=∃cs,Blk w g 44 cs/\cs.size=27
theorem OpBlk.cell {w:World} {g:Nat} (h:OpBlk w g) (i:Nat) (hi:i<27):∃v,w.cell? ⟨g,i,none⟩=some v:=by
 obtain ⟨cs,hb,hs⟩:=h;rw [hb.cell i];exact ⟨cs[i],Array.getElem?_eq_getElem (by omega)⟩
theorem OpBlk.frozen {w:World} {g:Nat} (h:OpBlk w g) (i:Nat):w.frozen? ⟨g,i,none⟩=false:=by
 obtain ⟨cs,hb,_⟩:=h;exact hb.frozen i
theorem OpBlk.set {w:World} {g:Nat} (h:OpBlk w g) (i:Nat) (u:Value):OpBlk (w.setCell ⟨g,i,none⟩ u) g:=by
 obtain ⟨cs,hb,hs⟩:=h;exact ⟨_,hb.set i u,by simp [hs]⟩
theorem OpBlk.fr {S:Nat->Prop} {w w':World} {g:Nat} (h:OpBlk w g) (hf:Fr S w w') (hg:¬S g):OpBlk w' g:=by
 obtain ⟨cs,hb,hs⟩:=h;exact ⟨cs,hb.fr hf hg,hs⟩
theorem S7 (p v:Value):Instr.storeAt 3 p v=stS 3 p v:=rfl
theorem S8 (p v:Value):Instr.storeAt 23 p v=stS 23 p v:=rfl
theorem S9 (p v:Value):Instr.storeAt 38 p v=stS 38 p v:=rfl
theorem Ta (p v:Value):Instr.storeAt 25 p v=stS 25 p v:=rfl
theorem Tc (p v:Value):Instr.storeAt 39 p v=stS 39 p v:=rfl
theorem Td (p v:Value):Instr.storeAt 40 p v=stS 40 p v:=rfl
theorem Te (p v:Value):Instr.storeAt 22 p v=stS 22 p v:=rfl
theorem Tf (p v:Value):Instr.storeAt 41 p v=stS 41 p v:=rfl
end Oq
end Go.Proofs.YtihfebhfgliojaaGreatDoor
