/- Contracts of functions, walked (part 1).
Conditions: as each theorem says. -/
import Derived.WalkKit
import Derived.WalkSpells
import Derived.WalkLawsBesides
import Derived.Handy
import Derived.Deep.QuietTactic
import Derived.BigQuiet
import Derived.Lib.Hide
import Derived.Deep.Draws
import Derived.Deep.AppendLies
import Derived.Maps.AppendAt
import Derived.Lib.AppendStr
import Derived.Test.YtmcpnjoomlgmlaaGreatDoorRows
import Derived.ProofKit
import Derived.Deep.Slices
import Derived.Deep.Fields
import Derived.Lib.SmallJoins
import Derived.Test.YtmcpnjoomlgmlaaGreatDoorProg
import Derived.Deep.RegionHeld3
import Derived.Deep.DrawnRows
import Derived.Lib.ConvBytes
import Derived.Laws.BitsAllLaws
set_option maxRecDepth 100000
set_option maxHeartbeats 16000000
open List renaming length_append->A59,flatMap_cons->A61,append_assoc->A62,eq_nil_of_length_eq_zero->A66,length_cons->A67,getElem?_eq_getElem->A69,map_cons->A70,append_nil->A71,take_append_of_le_length->A73,take_length_add_append->A74,getElem?_take->A78,getElem?_append_left->A79,getElem?_append_right->A80,length_take->A82,map_toArray->A83,map_nil->A84,flatten_cons->A85,take_succ_cons->A90,getElem?_map->A91,cons_append->A92,length_drop->A95
open Nat renaming add_assoc->A60,le_refl->A63,lt_or_ge->A64,add_mul->A65,mul_comm->A68,le_trans->A75,eq_zero_or_pos->A77,mul_le_mul_right->A81,mod_eq_of_lt->A86,pow_succ->A87,lt_of_lt_of_le->A88,div_lt_iff_lt_mul->A93,pow_le_pow_right->A94
open Go.World renaming cells?_some->A72,block_lt_of_cell?->A76,cell?_of_block->A89
open Go.Proofs.Tryz
open Go.Proofs.Tryz renaming prog->zp
open Go.Lib renaming hid->lh
open List renaming set->zl
open Go.Ending renaming returned->ze
namespace Go.Proofs.YtmcpnjoomlgmlaaGreatDoor
theorem zeI {a b:Int} (h:a=b):Go.Ending.returned (.int .i64 a)=.returned (.int .i64 b):=by rw [h]
theorem zeB {a b:Bool} (h:a=b):Go.Ending.returned (.bool a)=.returned (.bool b):=by rw [h]
abbrev cI (w:World) (b o:Nat) (v:Int):Prop:=w.cell? ⟨b,o,none⟩=some (.int .i64 v)
abbrev cU (w:World) (b o:Nat) (v:Nat):Prop:=w.cell? ⟨b,o,none⟩=some (.int .u64 (v:Int))
abbrev cS (w:World) (b o:Nat) (A:Option Addr) (n c:Nat):Prop:=w.cell? ⟨b,o,none⟩=some (.slice A n c)
theorem aI {p q:Prop} (a:p) (b:q):p/\q:=⟨a,b⟩
theorem ix (i n:Nat) (h:i<n:=by omega):(0:Int)<=i/\(i:Int)<n/\(i:Int).toNat=i:=⟨by omega,by omega,by omega⟩
theorem iw (x:Int) (h:-9223372036854775808<=x/\x<=9223372036854775807:=by omega):IntKind.i64.wrap x=x:=IntWalk.i64_in x h
theorem hB {a b:Bool} (h:Go.RowKit.Hid (a=b)):Value.bool a=Value.bool b:=congrArg _ h
theorem zq {p : Prop} (e : p) : p := e
theorem zr {α : Type} {β γ : α -> Prop} : ∀ a, β a -> γ a -> γ a := fun _ _ e => e
theorem zb (b : Bool) : b = true \/ b = false := Bool.eq_false_or_eq_true b
abbrev zN : Array Value := #[.int .i64 0, .int .i64 0, .int .i64 0, .int .i64 0, .slice none 0 0, .int .i64 0, .int .i64 0, .int .i64 0, .int .i64 0, .slice none 0 0, .int .i64 0, .int .i64 0, .int .u64 0, .int .i64 0, .slice none 0 0, .slice none 0 0, .int .i64 0, .int .i64 0, .int .u64 0, .slice none 0 0, .int .i64 0, .int .i64 0, .slice none 0 0, .int .u64 0, .slice none 0 0, .int .u64 0, .int .u64 0, .int .i64 0, .int .i64 0, .int .u64 0, .int .u64 0, .int .u64 0, .int .u64 0, .int .u64 0, .int .i64 0]
abbrev zO : Array Value := #[.int .i64 0, .int .i64 0, .int .i64 0, .int .i64 0, .slice none 0 0, .int .i64 0, .int .i64 0, .int .i64 0, .int .i64 0, .slice none 0 0, .int .i64 0, .int .i64 0, .int .u64 0, .int .i64 0, .slice none 0 0, .slice none 0 0, .int .i64 0, .int .i64 0, .int .u64 0, .slice none 0 0, .int .i64 0, .int .i64 0, .slice none 0 0, .int .u64 0, .slice none 0 0, .int .u64 0, .int .u64 0]
abbrev zG : Array Value := #[.slice none 0 0, .slice none 0 0, .slice none 0 0, .slice none 0 0, .slice none 0 0]
abbrev zK : Array Value := #[.int .i64 8, .int .i64 2, .int .i64 3, .int .i64 4, .int .i64 2, .int .i64 6, .int .i64 7, .int .i64 13]
abbrev zC : Array Value := #[.int .i64 0, .int .i64 0, .int .u64 0, .int .u64 0, .int .u64 0]
end Go.Proofs.YtmcpnjoomlgmlaaGreatDoor
namespace Go.Proofs.YtmcpnjoomlgmlaaGreatDoor
open Go.RowKit
def Bv (u:UInt8):Value:=.int .u8 (u.toNat:Int)
structure Fr (S:Nat->Prop) (w w':World):Prop where
 os:w'.os=w.os
 tape:w'.tape=w.tape
 output:w'.output=w.output
 size:w.heap.size<=w'.heap.size
 block:∀k,k<w.heap.size->¬S k->w'.heap[k]? =w.heap[k]?
section
variable {S S' : Nat -> Prop} {a w w' w'' : World}
theorem Fr.refl (S:Nat->Prop) (w:World):Fr S w w:=⟨rfl,rfl,rfl,A63 _,fun _ _ _=>rfl⟩
theorem Fr.trans (h : Fr S a w) (k : Fr S' w w') (hs : ∀ i, i < a.heap.size -> S' i -> S i) : Fr S a w' :=
  ⟨k.os.trans h.os, k.tape.trans h.tape, k.output.trans h.output, A75 h.size k.size,
   fun i hi hn => (k.block i (A88 hi h.size) (fun hh => hn (hs i hi hh))).trans (h.block i hi hn)⟩
theorem Fr.mono (h:Fr S a w) (hs:∀i,i<a.heap.size->S i->S' i):Fr S' a w:=
 ⟨h.os,h.tape,h.output,h.size,fun i hi hn=>h.block i hi (fun hh=>hn (hs i hi hh))⟩
theorem Fr.drewN (h:Fr S a w) (n:Nat):Fr S a (w.drewN n):=⟨h.os,h.tape,h.output,h.size,h.block⟩
theorem Fr.drew (h:Fr S a w):Fr S a w.drew:=⟨h.os,h.tape,h.output,h.size,h.block⟩
theorem Fr.alloc (h:Fr S a w) (o:Obj):Fr S a (w.alloc o):=
 h.trans (S':=fun _=>False) ⟨rfl,rfl,rfl,by simp,fun k hk _=>Below.heap_alloc _ _ _ hk⟩ (fun _ _ hf=>hf.elim)
theorem Fr.setCell (h:Fr S a w) {p:Addr} (hp:p.block<a.heap.size->S p.block) (u:Value):Fr S a (w.setCell p u):=
 h.trans (S':=fun k=>k=p.block) ⟨rfl,rfl,rfl,by simp [World.setCell],fun k _ hn=>Below.heap_setCell _ _ _ _ hn⟩ (fun i hi e=>by subst e;exact hp hi)
theorem Fr.grown (h:Fr S a w) {row:Option Nat} (hg:w.grownBy w' row) (hr:∀k,row=some k->k<a.heap.size->S k):Fr S a w':=
 h.trans (S':=fun k=>row=some k) ⟨hg.os,hg.tape,hg.output,hg.size,fun k hk hn=>hg.block k hk (fun e=>hn e.symm)⟩ (fun i hi e=>hr i e hi)
theorem Fr.below {B:Nat} (h:Fr S w w') (hB:B<=w.heap.size) (hs:∀k,k<w.heap.size->S k->B<=k):Below B w w':=
 ⟨h.os,h.tape,h.output,h.size,fun k hk=>h.block k (by omega) (fun hh=>by have:=hs k (by omega) hh;omega)⟩
def Non:Nat->Prop:=fun _=>False
def One (g:Nat):Nat->Prop:=fun k=>k=g
theorem Fr.setOne {g:Nat} (h:Fr (One g) a w) (i:Nat) (u:Value):Fr (One g) a (w.setCell ⟨g,i,none⟩ u):=h.setCell (p:=⟨g,i,none⟩) (fun _=>rfl) u
theorem Fr.setNew (h:Fr S a w) {g:Nat} (hg:a.heap.size<=g) (i:Nat) (u:Value):Fr S a (w.setCell ⟨g,i,none⟩ u):=h.setCell (p:=⟨g,i,none⟩) (fun hh=>absurd hh (by show ¬g<_;omega)) u
theorem Fr.transOne {g:Nat} (h:Fr (One g) a w) (k:Fr (One g) w w'):Fr (One g) a w':=h.trans k (fun _ _ h=>h)
theorem One.not {g k B:Nat} (hB:B<=g) (hk:k<B):¬One g k:=by unfold One;omega
theorem Fr.non (h:Fr Non w w'):Below w.heap.size w w':=h.below (A63 _) (fun _ _ hh=>hh.elim)
theorem Fr.of_non (h:Fr Non w w') (S:Nat->Prop):Fr S w w':=h.mono (fun _ _ hh=>hh.elim)
end
def Blk (w:World) (g:Nat) (t:TypeId) (cs:Array Value):Prop:=w.heap[g]? =some (.cells cs t (0,0))
section
variable {S : Nat -> Prop} {w w' : World} {g : Nat} {t : TypeId} {cs : Array Value}
theorem Blk.lt (h:Blk w g t cs):g<w.heap.size:=(Array.getElem?_eq_some_iff.1 h).1
theorem Blk.cell (h:Blk w g t cs) (i:Nat):w.cell? ⟨g,i,none⟩=cs[i]? :=cell_of_row w g i cs t (0,0) h
theorem Blk.frozen (h:Blk w g t cs) (i:Nat):w.frozen? ⟨g,i,none⟩=false:=by
 unfold Blk at h;simp [World.frozen?,h]
theorem Blk.new (w:World) (t:TypeId) (cs:Array Value):Blk (w.alloc (.cells cs t)) w.heap.size t cs:=heap_alloc_new w _
theorem Blk.drewN (h:Blk w g t cs) (n:Nat):Blk (w.drewN n) g t cs:=h
theorem Blk.drew (h:Blk w g t cs):Blk w.drew g t cs:=h
theorem Blk.alloc (h:Blk w g t cs) (o:Obj):Blk (w.alloc o) g t cs:=(Below.heap_alloc w o g h.lt).trans h
theorem Blk.set (h:Blk w g t cs) (i:Nat) (u:Value):Blk (w.setCell ⟨g,i,none⟩ u) g t (cs.setIfInBounds i u):=by
 unfold Blk at h ⊢;simp [World.setCell,Array.getElem?_modify,h]
theorem Blk.far (h:Blk w g t cs) {p:Addr} (hp:g≠p.block) (u:Value):Blk (w.setCell p u) g t cs:=(Below.heap_setCell w p u g hp).trans h
theorem Blk.fr (h:Blk w g t cs) (hf:Fr S w w') (hg:¬S g):Blk w' g t cs:=(hf.block g h.lt hg).trans h
theorem Blk.ne {g':Nat} {t':TypeId} {cs':Array Value} (h:Blk w g t cs) (h':Blk w g' t' cs') (hne:t≠t'):g≠g':=by
 rintro rfl;unfold Blk at h h';rw [h] at h';injection h' with h'
 injection h' with _ ht
 exact hne ht
end
def Rd (w:World) (B size:Nat) (A:Option Addr) (n:Nat) (xs:List Value):Prop:=
 xs.length=n*size/\(n=0\/∃b off,A=some ⟨b,off,none⟩/\b<B/\∀j u,xs[j]? =some u->w.cell? ⟨b,off+j,none⟩=some u)
section
variable {S : Nat -> Prop} {w w' : World} {B B' size n : Nat} {A : Option Addr} {xs : List Value}
theorem Rd.nil (w:World) (B size:Nat) (A:Option Addr):Rd w B size A 0 []:=⟨by simp,.inl rfl⟩
theorem Rd.mono (h:Rd w B size A n xs) (hB:B<=B'):Rd w B' size A n xs:=
 ⟨h.1,h.2.imp id fun ⟨b,off,e,hb,hc⟩=>⟨b,off,e,by omega,hc⟩⟩
theorem Rd.keep (h:Rd w B size A n xs) (hk:∀p:Addr,p.block<B->(w.cell? p).isSome->w'.cell? p=w.cell? p):Rd w' B size A n xs:=
 ⟨h.1,h.2.imp id fun ⟨b,off,e,hb,hc⟩=>⟨b,off,e,hb,fun j u hu=>by rw [hk ⟨b,off+j,none⟩ hb (by rw [hc j u hu];rfl)];exact hc j u hu⟩⟩
theorem Rd.fr (h:Rd w B size A n xs) (hf:Fr S w w') (hs:∀k,k<B->¬S k):Rd w' B size A n xs:=
 h.keep fun p hp hc=>by
  obtain ⟨v,hv⟩:=Option.isSome_iff_exists.1 hc;exact A89 (hf.block p.block (A76 w p hv) (hs _ hp))
theorem Rd.alloc (h:Rd w B size A n xs) (o:Obj):Rd (w.alloc o) B size A n xs:=
 h.fr (S:=Non) ((Fr.refl _ _).alloc o) (fun _ _ hh=>hh)
theorem Rd.drewN (h:Rd w B size A n xs) (k:Nat):Rd (w.drewN k) B size A n xs:=h
theorem Rd.drew (h:Rd w B size A n xs):Rd w.drew B size A n xs:=h
theorem Rd.of_own {base:Nat} {e:TypeId} {c:Nat} (h:w.ownsRow base e size (.slice A n c) n xs):Rd w w.heap.size size A n xs:=by
 refine ⟨h.1,?_⟩
 rcases A77 n with h0|h0
 · exact .inl h0
 ·
  obtain ⟨g,cap,hv,_,hlt⟩:=h.form h0;have hA:A=some ⟨g,0,none⟩:=by injection hv
  subst hA;refine .inr ⟨g,0,rfl,hlt,fun j u hu=> ?_⟩;have hc:=h.cells (g:=g) rfl j u hu;have hadd:(⟨g,0,none⟩:Addr).add j=⟨g,0+j,none⟩:=by unfold Addr.add;split<;>simp_all
  rw [hadd] at hc;exact hc
theorem Rd.at (h:Rd w B 1 A n xs) {k:Nat} (hk:k<n):∃b off u,A=some ⟨b,off,none⟩/\b<B/\xs[k]? =some u/\w.cell? ⟨b,off+k,none⟩=some u:=by
 rcases h.2 with h0|⟨b,off,e,hb,hc⟩
 · omega
 ·
  have hl:k<xs.length:=by have:=h.1;omega
  exact ⟨b,off,xs[k],e,hb,A69 hl,hc k _ (A69 hl)⟩
theorem Rd.news {g o:Nat} (h:Rd w B size (some ⟨g,o,none⟩) n xs):∀j u,xs[j]? =some u->w.cell? ((⟨g,o,none⟩:Addr).add j)=some u:=by
 intro j u hu
 rcases h.2 with h0|⟨b,off,e,hb,hc⟩
 ·
  subst h0;have hn:xs=[]:=A66 (by simpa using h.1);subst hn;simp at hu
 ·
  injection e with e
  injection e with e1 e2
  subst e1 e2;have hadd:(⟨g,o,none⟩:Addr).add j=⟨g,o+j,none⟩:=by unfold Addr.add;split<;>simp_all
  rw [hadd];exact hc j u hu
end
def str (bs:List UInt8):ByteArray:=⟨bs.toArray⟩
theorem Ep (bs:List UInt8):(str bs).size=bs.length:=by simp [str,ByteArray.size]
theorem Hk (bs:List UInt8):∀u∈bs.map Bv,u.oneCell'=true:=by
 intro u hu;obtain ⟨x,_,rfl⟩:=List.mem_map.1 hu;rfl
theorem Ii {P:Program} (src e dst:TypeId) (hs:P.underlying src=some (.slice e)) (he:P.underlying e=some (.int .u8)) (hd:P.underlying dst=some .string)
  (w:World) (B:Nat) (A:Option Addr) (n c:Nat) (bs:List UInt8) (hr:Rd w B 1 A n (bs.map Bv)):
  (convert src dst (.slice A n c)).run P w=.ok (.string (str bs)) w:=by
 have hl:bs.length=n:=by have:=hr.1;simpa using this
 rcases A with _|ad
 ·
  rcases hr.2 with h0|⟨b,off,e,_⟩
  ·
   subst h0;have hb:bs=[]:=A66 hl;subst hb;exact run_convert_bytes_nil w src e hs he _ _ dst hd
  · cases e
 ·
  rcases hr.2 with h0|⟨b,off,he',_,hc⟩
  ·
   subst h0;have hb:bs=[]:=A66 hl;subst hb;rw [run_convert_bytes_string w src dst e _ 0 c hs he hd,run_bytesToString w _ 0 c [] (by simp [loadCells,loadCellsFrom])];rfl
  ·
   injection he' with he'
   subst he';rw [run_convert_bytes_arg w src e hs he b off n c (bs.map fun x=>(x.toNat:Int)) (by simpa using hl) ?_ dst hd]
   ·
    congr 2;simp [strOfNums,str,Function.comp_def]
   ·
    intro i hi;have hi':i<bs.length:=by omega
    rw [hc i (Bv bs[i]) (by simp [hi'])];simp [Bv,List.getD,hi']
theorem Rd.part {w:World} {B n:Nat} {A:Option Addr} {xs:List Value} (h:Rd w B 1 A n xs) {lo hi:Nat} (h1:lo<=hi) (h2:hi<=n) (A':Option Addr)
  (hA:lo<hi->A'=A.map (·.add lo)):Rd w B 1 A' (hi-lo) ((xs.drop lo).take (hi-lo)):=by
 have hl:=h.1;refine ⟨by simp;omega,?_⟩
 rcases A64 lo hi with hlt|hge
 ·
  rcases h.2 with h0|⟨b,off,e,hb,hc⟩
  · omega
  ·
   refine .inr ⟨b,off+lo,?_,hb,?_⟩
   ·
    rw [hA hlt,e];simp only [Option.map_some,Addr.add]
    split
    · subst lo;rfl
    · rfl
   ·
    intro j u hu;rw [A78] at hu
    split at hu
    ·
     rw [List.getElem?_drop] at hu;rw [A60];exact hc _ _ hu
    · cases hu
 · exact .inl (by omega)
theorem Wb {P:Program} {fn:Func} {p:Tmp} {ty t:TypeId} {d:TypeDesc} {cs:Array Value} {g:Nat} {tmps:Array Value} {w:World} (h:fn.results=#[.cell p ty])
  (ha:tmps.getD p undef=.pointer (some ⟨g,0,none⟩)) (hb:Blk w g t cs) (hd:(match d with| .struct _| .array _ _=>true|_=>false)=true) (hu:P.underlying ty=some d)
  (hi:(P.info? ty).map (·.size)=some cs.size):(results fn tmps).run P w=.ok (.agg cs) w:=by
 have hl:(loadVar ty ⟨g,0,none⟩).run P w=.ok (.agg cs) w:=run_loadVar_row (P:=P) w g t ty cs (0,0) d hb hu (by cases d<;>first|rfl|exact hd) hi
 unfold results;rw [h];have ha':tmps[p]?.getD undef=.pointer (some ⟨g,0,none⟩):=by simpa using ha
 simp [asAddr,ha',hl]
theorem Ed {P:Program} {fn:Func} {R:Ending->World->Prop} {p:Tmp} {ty t:TypeId} {d:TypeDesc} {cs:Array Value} {g:Nat} {a:Act} {w:World} (h:fn.results=#[.cell p ty])
  (ha:a.tmps.getD p undef=.pointer (some ⟨g,0,none⟩)) (hb:Blk w g t cs) (hd:(match d with| .struct _| .array _ _=>true|_=>false)=true) (hu:P.underlying ty=some d)
  (hi:(P.info? ty).map (·.size)=some cs.size) (hdef:a.defers=[]) (hR:R (.returned (.agg cs)) w):bodyPost P fn R .ret a w:=
 bodyPost_ret (Wb h ha hb hd hu hi) hdef hR
theorem Rd.take {w:World} {B n m:Nat} {A:Option Addr} {xs:List Value} (h:Rd w B 1 A n xs) (hm:m<=n):Rd w B 1 A m (xs.take m):=by
 have hl:=h.1;refine ⟨by simp;omega,h.2.elim (fun h0=> .inl (by omega)) (fun ⟨b,off,e,hb,hc⟩=> .inr ⟨b,off,e,hb,fun j u hu=> ?_⟩)⟩;rw [A78] at hu
 split at hu
 · exact hc j u hu
 · cases hu
theorem Rd.cells {w:World} {B size n:Nat} {A:Option Addr} {xs:List Value} (h:Rd w B size A n xs) {k:Nat} (hk:k<n):∃b off,A=some ⟨b,off,none⟩/\b<B/\∀j,j<size->∀u,xs[k*size+j]? =some u->w.cell? ⟨b,off+k*size+j,none⟩=some u:=by
 rcases h.2 with h0|⟨b,off,e,hb,hc⟩
 · omega
 · exact ⟨b,off,e,hb,fun j _ u hu=>by rw [A60];exact hc _ u hu⟩
theorem G7 {α:Type} {f:α->List Value} {size:Nat} (hf:∀x,(f x).length=size):∀(l:List α) (k j:Nat) (x:α),l[k]? =some x->j<size->(l.flatMap f)[k*size+j]? =(f x)[j]?
 |[],k,j,x,h,_=>by cases h
 |y::l,0,j,x,h,hj=>by
  injection h with h;subst h
  rw [A61,Nat.zero_mul,Nat.zero_add,A79 (by rw [hf];exact hj)]
 |y::l,k+1,j,x,h,hj=>by
  rw [A61,A80 (by rw [hf,A65];omega),hf,show (k+1)*size+j-size=k*size+j by rw [A65];omega];exact G7 hf l k j x h hj
theorem Er {α:Type} {f:α->List Value} {size:Nat} (hf:∀x,(f x).length=size) (l:List α):(l.flatMap f).length=l.length*size:=by
 induction l with
 |nil=>simp
 |cons y l ih=>rw [A61,A59,ih,hf,A67,A65];omega
theorem Rd.takeN {w:World} {B size n m:Nat} {A:Option Addr} {xs:List Value} (h:Rd w B size A n xs) (hm:m<=n):Rd w B size A m (xs.take (m*size)):=by
 have hl:=h.1;have hmn:=A81 size hm;refine ⟨by rw [A82];omega,h.2.elim (fun h0=> .inl (by omega)) (fun ⟨b,off,e,hb,hc⟩=> .inr ⟨b,off,e,hb,fun j u hu=> ?_⟩)⟩;rw [A78] at hu
 split at hu
 · exact hc j u hu
 · cases hu
theorem Ma {α:Type} {f:α->List Value} {size:Nat} (hf:∀x,(f x).length=size) (l:List α) (m:Nat):(l.flatMap f).take (m*size)=(l.take m).flatMap f:=by
 induction l generalizing m with
 |nil=>simp
 |cons y l ih=>
  match m with
  |0=>simp
  |m+1=>
   rw [A61,A90,A61,List.take_append,hf,List.take_of_length_le (by rw [hf,A65];omega),show (m+1)*size-size=m*size by rw [A65];omega,ih]
def SlT (P:Program) (t e:TypeId) (z:Value) (size bytes:Nat):Prop:=
 P.underlying t=some (.slice e)/\(P.info? e).map (fun i=>(i.zero,i.size,i.bytes))=some (some z,size,bytes)/\z.cells.size=size/\0<size
def Ad (A:Option Addr):Option Nat:=A.map (·.block)
def Own (w:World) (base:Nat) (e:TypeId) (size:Nat) (A:Option Addr) (n c:Nat) (xs:List Value):Prop:=w.ownsRow base e size (.slice A n c) n xs
section
variable {S : Nat -> Prop} {w w' : World} {base size n c : Nat} {e : TypeId} {A : Option Addr} {xs : List Value}
theorem Jo (A:Option Addr) (n c:Nat):(Value.slice A n c).ownBlock=Ad A:=by cases A<;>rfl
theorem Own.nil (w:World) (base:Nat) (e:TypeId) (size:Nat):Own w base e size none 0 0 []:=World.ownsRow_nil w base e size
theorem Own.len (h:Own w base e size A n c xs):xs.length=n*size:=h.1
theorem Own.row (h:Own w base e size A n c xs):∀k,Ad A=some k->base<=k/\k<w.heap.size:=by
 intro k hk;exact World.ownsRow.lt h k (by rw [Jo];exact hk)
theorem Own.fr (h:Own w base e size A n c xs) (hf:Fr S w w') (hs:∀k,Ad A=some k->¬S k):Own w' base e size A n c xs:=by
 refine ⟨h.1,?_⟩
 rcases h.2 with hn|⟨g,cap,cur,hv,hb,hg,rest⟩
 · exact .inl hn
 ·
  refine .inr ⟨g,cap,cur,hv,hb,?_,rest⟩;injection hv with hA _ _
  subst hA;rw [hf.block g (Array.getElem?_eq_some_iff.1 hg).1 (hs g rfl)];exact hg
theorem Own.ne {g:Nat} {t:TypeId} {cs:Array Value} (h:Own w base e size A n c xs) (hb:Blk w g t cs) (hne:e≠t):Ad A≠some g:=by
 rcases h.2 with ⟨hv,_⟩|⟨g',cap,cur,hv,_,hg,_⟩
 · injection hv with hA;subst hA;simp [Ad]
 ·
  injection hv with hA;subst hA
  intro hx;have:g'=g:=by simpa [Ad] using hx
  subst this;exact Blk.ne (t:=e) hg hb hne rfl
theorem Own.setOne {g i:Nat} {u:Value} (h:Own w base e size A n c xs) (hne:Ad A≠some g):Own (w.setCell ⟨g,i,none⟩ u) base e size A n c xs:=
 h.fr ((Fr.refl (One g) w).setOne i u) (fun k hk hg=>hne (by rw [hk];exact congrArg some hg))
theorem Own.alloc (h:Own w base e size A n c xs) (o:Obj):Own (w.alloc o) base e size A n c xs:=
 h.fr (S:=Non) ((Fr.refl _ _).alloc o) (fun _ _ hh=>hh)
theorem Own.drewN (h:Own w base e size A n c xs) (k:Nat):Own (w.drewN k) base e size A n c xs:=h
theorem Own.drew (h:Own w base e size A n c xs):Own w.drew base e size A n c xs:=h
theorem Own.rd (h:Own w base e size A n c xs):Rd w w.heap.size size A n xs:=Rd.of_own h
theorem Own.cap (h:Own w base e size A n c xs):n<=c/\c<=9223372036854775807:=by
 rcases h.2 with ⟨hv,hn⟩|⟨g,cap,cur,hv,_,_,h1,h2,_⟩
 ·
  injection hv with _ _ hc
  omega
 ·
  injection hv with _ _ hc
  subst hc;exact ⟨h1,h2⟩
theorem Own.lower (h:Own w base e size A n c xs) {base':Nat} (hb:base'<=base):Own w base' e size A n c xs:=by
 refine ⟨h.1,?_⟩
 rcases h.2 with hn|⟨g,cap,cur,hv,hb',rest⟩
 · exact .inl hn
 · exact .inr ⟨g,cap,cur,hv,by omega,rest⟩
theorem Rd.one (w:World) (x:Value) (e:TypeId):Rd (w.alloc (.cells #[x] e)) (w.heap.size+1) 1 (some ⟨w.heap.size,0,none⟩) 1 [x]:=by
 refine ⟨rfl,.inr ⟨w.heap.size,0,rfl,by omega,fun j u hu=> ?_⟩⟩;rw [(Blk.new w e #[x]).cell]
 match j,hu with
 |0,hu=>simpa using hu
theorem Wc {P:Program} {t ty:TypeId} {z:Value} {bytes m cx:Nat} {news:List Value} {B:Nat} (hT:SlT P t e z size bytes) (h:Own w base e size A n c xs) (hr:Rd w B size none m news):
  m=0/\news=[]/\(Builtin.append_ #[t,t] ty #[.slice A n c,.slice none m cx]).run P w=.ok (.slice A n c) w:=by
 obtain ⟨ht,hinfo,_⟩:=hT;obtain ⟨i,hi,_,hsz,_⟩:=info_parts hinfo
 have hm:m=0:=by
  rcases hr.2 with h0|⟨_,_,he,_⟩
  · exact h0
  · cases he
 subst hm;refine ⟨rfl,A66 (by simpa using hr.1),?_⟩;have hnc:=h.cap.1
 rcases A with _|ad
 ·
  rcases h.2 with ⟨hv,hn⟩|⟨g,cap,cur,hv,_⟩
  ·
   injection hv with _ _ hc
   subst hc hn;simp [Builtin.append_,run_underlying ht,sizeOf,typeInfo,hi,Builtin.lenOf,Builtin.firstCells]
  · cases hv
 · simp [Builtin.append_,run_underlying ht,sizeOf,typeInfo,hi,Builtin.lenOf,Builtin.firstCells,hnc,storeCells]
theorem Ij {P:Program} {t ty:TypeId} {z:Value} {bytes m cx:Nat} {Ax:Option Addr} {news:List Value} {B:Nat} (hT:SlT P t e z size bytes) (h:Own w base e size A n c xs) (hr:Rd w B size Ax m news)
  (h1:∀u∈news,u.oneCell'=true) (hbytes:(n+m)*bytes<=140737488355328) (hmax:n+m<=9223372036854775807) (hbase:base<=w.heap.size):
  ∃A' c' w',(Builtin.append_ #[t,t] ty #[.slice A n c,.slice Ax m cx]).run P w=.ok (.slice A' (n+m) c') w'/\Own w' base e size A' (n+m) c' (xs++news)/\
   Fr (fun k=>Ad A=some k) w w'/\(Ad A'=Ad A\/Ad A'=some w.heap.size):=by
 rcases Ax with _|ad
 ·
  obtain ⟨rfl,rfl,hrun⟩:=Wc (ty:=ty) (cx:=cx) hT h hr;exact ⟨A,c,w,hrun,by simpa using h,Fr.refl _ _,.inl rfl⟩
 ·
  obtain ⟨ht,hinfo,hzs,hsz⟩:=hT;obtain ⟨i,hi,hz,hsize,hby⟩:=info_parts hinfo
  have hcells:∀j u,news[j]? =some u->w.cell? (ad.add j)=some u:=by
   rcases hr.2 with h0|⟨b,off,he,_,hc⟩
   ·
    subst h0;have hn:news=[]:=A66 (by simpa using hr.1);subst hn;simp
   ·
    injection he with he
    subst he;exact hr.news
  obtain ⟨v',w',hrun,hown,hg,_,hat⟩:=run_append_own_at (P:=P) w base t ty e i z size bytes ht hi hz hsize hby hzs hsz _ n xs h ad m cx news hr.1 hcells h1 hmax hbytes hbase
  have hv:∃A' c',v'=.slice A' (n+m) c':=by
   rcases hown.2 with ⟨hv,hn⟩|⟨g,cap,cur,hv,_⟩
   · exact ⟨_,_,by rw [hv,hn]⟩
   · exact ⟨_,_,hv⟩
  obtain ⟨A',c',rfl⟩:=hv;rw [Jo] at hg hat;rw [Jo] at hat;exact ⟨A',c',w',hrun,hown,⟨hg.os,hg.tape,hg.output,hg.size,fun k hk hn=>hg.block k hk (fun e=>hn e.symm)⟩,hat⟩
end
theorem Av {P:Program} {ops:Array Oper} {rest:List Oper} {o:Oper} {a:Act} {Q:Exit->Act->World->Prop} {w:World} (s x:Operand) (t:TypeId) (hgd:o.guard=none)
  (ho:o.op=.call {callee:=.builtin .append,args:=#[s,x],argTypes:=#[t,t]})
  {base size n c:Nat} {e:TypeId} {A:Option Addr} {xs:List Value} {z:Value} {bytes m cx B:Nat} {Ax:Option Addr} {news:List Value}
  (hs:a.eval s=.slice A n c) (hx:a.eval x=.slice Ax m cx)
  (hT:SlT P t e z size bytes) (h:Own w base e size A n c xs) (hr:Rd w B size Ax m news)
  (h1:∀u∈news,u.oneCell'=true) (hbytes:(n+m)*bytes<=140737488355328) (hmax:n+m<=9223372036854775807) (hbase:base<=w.heap.size)
  (hk:∀A' c' w',Own w' base e size A' (n+m) c' (xs++news)->Fr (fun k=>Ad A=some k) w w'->(Ad A'=Ad A\/Ad A'=some w.heap.size)->
   wpList P ops Q rest (a.put o.dst (.slice A' (n+m) c')) w'):wpList P ops Q (o::rest) a w:=by
 refine wpList_plain hgd fun K hK=> ?_;obtain ⟨A',c',w',hrun,h2,h3,h4⟩:=Ij (P:=P) (ty:=o.type) (cx:=cx) hT h hr h1 hbytes hmax hbase;unfold Oper.wp execOp;simp only [ho,resolve,invoke,builtin,Sem.run_bind,Sem.run_pure,Result.andThen_ok,A83,A70,A84,hs,hx,hrun];exact hK _ _ (hk A' c' w' h2 h3 h4)
theorem Wd {P:Program} {t u ty e:TypeId} {w w':World} {base n c:Nat} {A:Option Addr} {xs:List Value} {v':Value} {i:TypeInfo} (ht:P.underlying t=some (.slice e)) (hu:P.underlying u=some .string) (hi:P.info? e=some i)
  (hz:i.zero=some (.int .u8 0)) (hsize:i.size=1) (hby:i.bytes=1) (h:Own w base e 1 A n c xs) (s:ByteArray) (hbytes:n+s.size<=140737488355328)
  (hrun:(Builtin.append_ #[t,u] ty #[.slice A n c,.string s]).run P w=.ok v' w') (hnil:v'=.slice none 0 0<->(Value.slice A n c)=.slice none 0 0/\s.size=0):
  v'.ownBlock=Ad A\/v'.ownBlock=some w.heap.size:=by
 rcases h.2 with ⟨hv,hn⟩|⟨g,cap,cur,hv,hbg,hg,hnc,hcm,hcs,htake⟩
 ·
  injection hv with hA _ hc
  subst hA hn hc
  by_cases hs:s.size=0
  · rw [hnil.2 ⟨rfl,hs⟩];exact .inl rfl
  ·
   rw [run_append_nil_string (P:=P) w t u ty e i (.int .u8 0) ht hu hi hz s (by omega) (by omega) (by rw [hby];omega)] at hrun;injection hrun with h1
   subst h1;exact .inr rfl
 ·
  injection hv with hA _ hc
  subst hA hc;have hcs':cur.size=c:=by simpa using hcs
  have hl:xs.length=n:=by simpa using h.1
  by_cases hroom:n+s.size<=c
  ·
   rw [Lib.run_append_room_string (P:=P) w t u ty e i ht hu hi hsize g n c cur hg s hroom (by omega)] at hrun;injection hrun with h1
   subst h1;exact .inl rfl
  ·
   rw [Lib.run_append_grow_string (P:=P) w t u ty e i (.int .u8 0) ht hu hi hz ⟨g,0,none⟩ n c xs (by rw [hsize];omega) (World.ownsRow.cells h (g:=g) rfl) s (by omega) (by omega)
    (by rw [hby];exact growslice_fits (by omega) (by omega))] at hrun
   injection hrun with h1
   subst h1;exact .inr rfl
theorem We {P:Program} {t u ty e:TypeId} {w:World} {base n c:Nat} {A:Option Addr} {xs:List Value} (hT:SlT P t e (.int .u8 0) 1 1) (hu:P.underlying u=some .string)
  (h:Own w base e 1 A n c xs) (s:List UInt8) (hbytes:n+s.length<=140737488355328) (hbase:base<=w.heap.size):
  ∃A' c' w',(Builtin.append_ #[t,u] ty #[.slice A n c,.string (str s)]).run P w=.ok (.slice A' (n+s.length) c') w'/\Own w' base e 1 A' (n+s.length) c' (xs++s.map Bv)/\
   Fr (fun k=>Ad A=some k) w w'/\(Ad A'=Ad A\/Ad A'=some w.heap.size):=by
 obtain ⟨ht,hinfo,_,_⟩:=hT;obtain ⟨i,hi,hz,hsize,hby⟩:=info_parts hinfo;obtain ⟨v',w',hrun,hown,hg,hnil⟩:=Lib.run_append_own_string (P:=P) w base t u ty e i ht hu hi hz hsize hby _ n xs h (str s) (by rw [Ep];unfold maxLen;omega) (by rw [Ep];omega) hbase;have hat:=Wd ht hu hi hz hsize hby h (str s) (by rw [Ep];omega) hrun hnil;rw [Ep] at hown
 have hv:∃A' c',v'=.slice A' (n+s.length) c':=by
  rcases hown.2 with ⟨hv,hn⟩|⟨g,cap,cur,hv,_⟩
  · exact ⟨_,_,by rw [hv,hn]⟩
  · exact ⟨_,_,hv⟩
 obtain ⟨A',c',rfl⟩:=hv;rw [Jo] at hg hat;exact ⟨A',c',w',hrun,hown,⟨hg.os,hg.tape,hg.output,hg.size,fun k hk hn=>hg.block k hk (fun e=>hn e.symm)⟩,hat⟩
theorem Pe {P:Program} {ops:Array Oper} {rest:List Oper} {o:Oper} {a:Act} {Q:Exit->Act->World->Prop} {w:World} (s x:Operand) (t u:TypeId) (hgd:o.guard=none)
  (ho:o.op=.call {callee:=.builtin .append,args:=#[s,x],argTypes:=#[t,u]})
  {base n c:Nat} {e:TypeId} {A:Option Addr} {xs:List Value} {l:List UInt8}
  (hs:a.eval s=.slice A n c) (hx:a.eval x=.string (str l))
  (hT:SlT P t e (.int .u8 0) 1 1) (hu:P.underlying u=some .string) (h:Own w base e 1 A n c xs)
  (hbytes:n+l.length<=140737488355328) (hbase:base<=w.heap.size)
  (hk:∀A' c' w',Own w' base e 1 A' (n+l.length) c' (xs++l.map Bv)->Fr (fun k=>Ad A=some k) w w'->(Ad A'=Ad A\/Ad A'=some w.heap.size)->
   wpList P ops Q rest (a.put o.dst (.slice A' (n+l.length) c')) w'):wpList P ops Q (o::rest) a w:=by
 refine wpList_plain hgd fun K hK=> ?_;obtain ⟨A',c',w',hrun,h2,h3,h4⟩:=We (P:=P) (ty:=o.type) hT hu h l hbytes hbase;unfold Oper.wp execOp;simp only [ho,resolve,invoke,builtin,Sem.run_bind,Sem.run_pure,Result.andThen_ok,A83,A70,A84,hs,hx,hrun];exact hK _ _ (hk A' c' w' h2 h3 h4)
def RS (g:Nat) (A:Option Addr):Nat->Prop:=fun k=>k=g\/Ad A=some k
structure Bj (g:Nat) (w:World) (A:Option Addr) (w':World) (A':Option Addr):Prop where
 fr:Fr (RS g A) w w'
 row:∀k,Ad A'=some k->Ad A=some k\/w.heap.size<=k
section
variable {g : Nat} {w w1 w2 : World} {A A1 A2 : Option Addr}
theorem Bj.refl (g:Nat) (w:World) (A:Option Addr):Bj g w A w A:=⟨Fr.refl _ _,fun _ h=> .inl h⟩
theorem Bj.trans (h:Bj g w A w1 A1) (k:Bj g w1 A1 w2 A2):Bj g w A w2 A2:=by
 refine ⟨h.fr.trans k.fr (fun i hi hs=> ?_),fun i hi=> ?_⟩
 ·
  rcases hs with e|e
  · exact .inl e
  ·
   rcases h.row i e with e'|e'
   · exact .inr e'
   · omega
 ·
  rcases k.row i hi with e|e
  · exact h.row i e
  ·
   have:=h.fr.size;exact .inr (by omega)
theorem Bj.more {S:Nat->Prop} (h:Bj g w A w1 A1) (hf:Fr S w1 w2) (hs:∀k,k<w1.heap.size->S k->k=g\/w.heap.size<=k):Bj g w A w2 A1:=
 ⟨h.fr.trans hf (fun i hi e=>by rcases hs i (A88 hi h.fr.size) e with e|e;exact .inl e;omega),h.row⟩
theorem Bj.alloc (h:Bj g w A w1 A1) (o:Obj):Bj g w A (w1.alloc o) A1:=h.more (S:=Non) ((Fr.refl _ _).alloc o) (fun _ _ e=>e.elim)
theorem Bj.set (h:Bj g w A w1 A1) (i:Nat) (u:Value):Bj g w A (w1.setCell ⟨g,i,none⟩ u) A1:=h.more ((Fr.refl (One g) w1).setOne i u) (fun _ _ e=> .inl e)
theorem Bj.app (h:Bj g w A w1 A1) (hf:Fr (fun k=>Ad A1=some k) w1 w2) (hat:Ad A2=Ad A1\/Ad A2=some w1.heap.size):Bj g w A w2 A2:=by
 refine ⟨h.fr.trans hf (fun i hi e=> ?_),fun i hi=> ?_⟩
 ·
  rcases h.row i e with e'|e'
  · exact .inr e'
  · omega
 ·
  rcases hat with e|e
  · rw [e] at hi;exact h.row i hi
  ·
   rw [e] at hi;injection hi with hi
   have:=h.fr.size;exact .inr (by omega)
theorem RS.not {B base size n c:Nat} {e:TypeId} {xs:List Value} {w:World} (h:Own w base e size A n c xs) (hB:B<=base) (hg:B<=g):∀k,k<B->¬RS g A k:=by
 rintro k hk (e|e)
 · omega
 ·
  have:=(h.row k e).1;omega
end
theorem Mb {P:Program} {ops:Array Oper} {o:Oper} {a:Act} {K:Act->World->Prop} {Q:Exit->Act->World->Prop} {E:Prop} {w:World} (s x:Operand) (t:TypeId) (hgd:o.guard=none)
  (ho:o.op=.call {callee:=.builtin .append,args:=#[s,x],argTypes:=#[t,t]})
  {base size n c:Nat} {e:TypeId} {A:Option Addr} {xs:List Value} {z:Value} {bytes m cx B:Nat} {Ax:Option Addr} {news:List Value}
  (hs:a.eval s=.slice A n c) (hx:a.eval x=.slice Ax m cx)
  (hT:SlT P t e z size bytes) (h:Own w base e size A n c xs) (hr:Rd w B size Ax m news)
  (h1:∀u∈news,u.oneCell'=true) (hbytes:(n+m)*bytes<=140737488355328) (hmax:n+m<=9223372036854775807) (hbase:base<=w.heap.size)
  (hk:∀A' c' w',Own w' base e size A' (n+m) c' (xs++news)->Fr (fun k=>Ad A=some k) w w'->(Ad A'=Ad A\/Ad A'=some w.heap.size)->
   K (a.put o.dst (.slice A' (n+m) c')) w'):
  if Region.wanted o (yielded ops a.tmps)=true then Oper.wp P o a w K Q else E:=by
 have hw:Region.wanted o (yielded ops a.tmps)=true:=by simp [Region.wanted,hgd]
 rw [if_pos hw];obtain ⟨A',c',w',hrun,h2,h3,h4⟩:=Ij (P:=P) (ty:=o.type) (cx:=cx) hT h hr h1 hbytes hmax hbase;unfold Oper.wp execOp;simp only [ho,resolve,invoke,builtin,Sem.run_bind,Sem.run_pure,Result.andThen_ok,A83,A70,A84,hs,hx,hrun];exact hk A' c' w' h2 h3 h4
section
open Go.ChangeShapes Go.WideShapes Go.ChangeAt Go.RowKit
theorem Mc {H:Type} {enc:TypeId × Value->H} {P:Program} (hl:laidOutB P=true) {W W':World} {sp:Nat->Bool}:∀(ts:List TypeId) (vs:List Value) (ds:List (DataW H)) (ps:List MemPlace),
  (∀t∈ts,P.readableRec t=true/\t<P.types.size)->DataW.TrodAll enc P W 0 (fun _=>true) true ts vs ds ps->(∀p∈ps,W.sameAt W' p)->(∀p∈ps,sp p.block=true)->
  DataW.TrodAll enc P W' 0 sp true ts vs ds ps
 |[],[],[],_,_,h,_,_=>h
 |[],_::_,_,_,_,h,_,_=>h.elim
 |[],[],_::_,_,_,h,_,_=>h.elim
 |_::_,[],_,_,_,h,_,_=>h.elim
 |_::_,_::_,[],_,_,h,_,_=>h.elim
 |t::ts,v::vs,d::ds,ps,hr,h,hs,hp=>by
  obtain ⟨p,q,h1,h2,rfl⟩:=h;have ht:=hr t (by simp)
  exact ⟨p,q,WideElems.Trod_stays hl ht.1 ht.2 h1 (fun x hx=>hs x (by simp [hx])) (fun x hx=>hp x (by simp [hx])),
   Mc hl ts vs ds q (fun x hx=>hr x (by simp [hx])) h2 (fun x hx=>hs x (by simp [hx])) (fun x hx=>hp x (by simp [hx])),rfl⟩
theorem Wf {H:Type} {enc:TypeId × Value->H} {P:Program} {f:Func} {s:ChangeSpec} {fresh handsOn again:Bool} {W W':World} {args:Array Value} {ds gs:List (DataW H)} {before:List MemPlace} {tb:TypeId}
  (hl:laidOutB P=true) (hr:f.params.toList.all (fun t=>P.readableRec t&&decide (t<P.types.size))=true) (hvars:s.vars=[]) (hres:f.resultTypes=#[tb]) (htb:P.underlying tb=some .bool)
  (hW:DataW.Whole enc P f.params.toList s.vars false W args.toList ds gs before)
  (hfn:(s.fn H ds).results=[.lit (.bool true)]/\(s.fn H ds).args=ds/\(s.fn H ds).vars=[]) (hf:Fr Non W W'):
  s.post enc P f false fresh handsOn again W args (.bool true) W':=by
 have hb:=hf.non;have hlt:∀p∈before,p.block<W.heap.size:=fun p hp=>hW.lt p hp
 have hr':∀t∈f.params.toList,P.readableRec t=true/\t<P.types.size:=fun t ht=>by
  have:=List.all_eq_true.1 hr t ht;simpa using this
 have hW0:=hW;obtain ⟨p,q,hA,hV,rfl,hz,_⟩:=hW0;rw [hvars] at hV
 obtain ⟨rfl,rfl⟩:gs=[]/\q=[]:=by
  cases gs with
  |nil=>exact ⟨rfl,hV⟩
  |cons _ _=>exact hV.elim
 rw [A71] at*;have hsame:∀x∈p,W.sameAt W' x:=fun x hx=>hb.same (hlt x hx);have hval:DataW.TrodAll enc P W' 0 (fun _=>true) true f.params.toList args.toList ds p:=Mc hl _ _ _ _ hr' hA hsame (fun _ _=>rfl)
 have hres0:∀(b:Nat) (sp:Nat->Bool) (hd:Bool),DataW.TrodAll enc P W' b sp hd f.resultTypes.toList ((Value.bool true).resultList f.resultTypes.size) (s.fn H ds).results []:=by
  intro b sp hd;rw [hres,hfn.1];exact trodAll_mk1 (shut_bool htb true)
 refine ⟨ds,[],p,[],p,[],hW,by rw [A71];exact hres0 _ _ _,?_,?_,World.keptBut_mono (fun x hx=>⟨hx,.inr (.inl hx)⟩) (hb.frame (· ∈p)),fun _=> ?_⟩
 ·
  rw [A71,hfn.2.1];exact Mc hl _ _ _ _ hr' hA hsame (fun x hx=>by simpa using hlt x hx)
 ·
  rw [A71,hvars,hfn.2.2];exact rfl
 ·
  refine ⟨?_,_,[],p,⟨[]++p,[],trodAll_append hval (hres0 _ _ _),by rw [hvars];exact rfl,by simp,?_,fun h=>by cases h⟩,fun x hx _=>hx⟩
  · exact ok_one hres rfl (okWide_bool_mk htb true)
  ·
   intro b off hp;rw [hb.frozen (hlt _ hp)];exact hz b off hp
theorem Tryz.own:ownKnob zp.godebug=none:=by kernel_rfl
theorem Tryz.laidOut:laidOutB zp=true:=by kernel_rfl
end
section
open Go.ChangeShapes Go.WideShapes Go.ChangeAt Go.RowKit Go.Deep
theorem Wg {n:Int} (h:(Lit.int .i64 n).wf=true): -9223372036854775808<=n/\n<=9223372036854775807:=by
 simpa [Lit.wf,IntKind.min,IntKind.max,IntKind.signed,IntKind.bits] using h
theorem Wh {α:Type} {f:Nat->Option α} {n:Nat} (h:∀i,i<n->∃x,f i=some x):∃l:List α,l.length=n/\∀i,i<n->l[i]? =f i:=by
 induction n with
 |zero=>exact ⟨[],rfl,fun i hi=>by omega⟩
 |succ n ih=>
  obtain ⟨l,hl,hg⟩:=ih (fun i hi=>h i (by omega));obtain ⟨x,hx⟩:=h n (by omega);refine ⟨l++[x],by simp [hl],fun i hi=> ?_⟩
  rcases A64 i n with h1|h1
  · rw [A79 (by omega)];exact hg i h1
  · rw [show i=n by omega,A80 (by omega),hl,Nat.sub_self,hx];rfl
theorem Pf {size:Nat}:∀(l:List (List Value)) (_:∀c∈l,c.length=size) (j:Nat) (u:Value),l.flatten[j]? =some u->∃c,l[j/size]? =some c/\c[j%size]? =some u
 |[],_,j,u,h=>by simp at h
 |y::l,hl,j,u,h=>by
  have hy:=hl y (by simp);rw [A85] at h
  rcases A64 j size with h1|h1
  ·
   rw [A79 (by omega)] at h;refine ⟨y,?_,?_⟩
   · rw [Nat.div_eq_of_lt h1];rfl
   · rw [A86 h1];exact h
  ·
   rw [A80 (by omega),hy] at h;obtain ⟨c,hc,hu⟩:=Pf l (fun c hc=>hl c (by simp [hc])) (j-size) u h
   have hpos:0<size:=by
    rcases A77 size with h0|h0
    ·
     subst h0;exfalso
     have:l.flatten=[]:=by
      rw [List.flatten_eq_nil_iff];intro c hc;exact A66 (hl c (by simp [hc]))
     rw [this] at h;simp at h
    · exact h0
   refine ⟨c,?_,?_⟩
   · rw [Nat.div_eq_sub_div hpos h1];exact hc
   · rw [Nat.mod_eq_sub_mod h1];exact hu
theorem Pg {size:Nat}:∀(l:List (List Value)) (_:∀c∈l,c.length=size),l.flatten.length=l.length*size
 |[],_=>by simp
 |y::l,hl=>by
  rw [A85,A59,Pg l (fun c hc=>hl c (by simp [hc])),hl y (by simp),A67,A65];omega
section
variable {H : Type} {enc : TypeId × Value -> H} {P : Program} {w : World} {spare : Nat -> Bool} {held : Bool}
theorem Wi {t e:TypeId} {size fuel:Nat} {cs:List Value} {x:DataW H × List MemPlace} (ht:P.underlying t=some (.slice e)) (hsz:P.cellsOf e=size) (hpos:0<size)
  (h:DataW.trod enc P w 0 spare held fuel t cs=some x):
  ∃(A:Option Addr) (n c:Nat) (xs:List (List Value)),cs=[.slice A n c]/\xs.length=n/\n<=c/\c<=9223372036854775807/\Rd w w.heap.size size A n xs.flatten/\
   ∀c'∈xs,c'.length=size/\∃m y,DataW.trod enc P w 0 spare held m e c'=some y:=by
 rcases open_slice ht h with ⟨rfl,_⟩|⟨a,len,cap,m,n,D,Pl,rfl,_,hl,hm,hmm,_,hi⟩
 · exact ⟨none,0,0,[],rfl,rfl,by omega,by omega,Rd.nil _ _ _ _,fun c' hc=>by cases hc⟩
 ·
  have hlm:len<=m:=by rw [hmm];split<;>omega
  rw [hsz] at hi
  obtain ⟨xs,hxl,hxg⟩:=Wh (f:=fun i=>w.cells? 0 (a.add (i*size)) size) (n:=len) (fun i hi'=>by
   obtain ⟨cs',hc,_⟩:=hi i (by omega);exact ⟨cs',hc⟩)
  have hall:∀c'∈xs,c'.length=size/\∃m y,DataW.trod enc P w 0 spare held m e c'=some y:=by
   intro c' hc';obtain ⟨i,hil,rfl⟩:=List.mem_iff_getElem.1 hc';obtain ⟨cs',hc,htr⟩:=hi i (by omega);have hg:=hxg i (by omega);rw [A69 hil,hc] at hg;injection hg with hg
   rw [hg];exact ⟨(A72 hc).2.1,n,_,htr⟩
  refine ⟨some a,len,cap,xs,rfl,hxl,hl,hm,⟨by rw [Pg xs (fun c hc=>(hall c hc).1),hxl],?_⟩,hall⟩
  rcases A77 len with h0|h0
  · exact .inl h0
  ·
   right
   have hcell:∀j u,xs.flatten[j]? =some u->w.cell? (a.add j)=some u:=by
    intro j u hu;obtain ⟨c,hc,hu'⟩:=Pf xs (fun c hc=>(hall c hc).1) j u hu
    have hlt:j/size<len:=by
     have:=(List.getElem?_eq_some_iff.1 hc).1;omega
    obtain ⟨cs',hc',_⟩:=hi (j/size) (by omega);have hg:=hxg (j/size) hlt;rw [hc,hc'] at hg;injection hg with hg
    subst hg;have:=(A72 hc').2.2 (j%size) (Nat.mod_lt _ hpos);rw [hu'] at this;rw [<- this];congr 1;unfold Addr.add;have hd:=Nat.div_add_mod j size;rw [A68] at hd
    by_cases h1:j/size*size=0<;>by_cases h2:j%size=0<;>by_cases h3:j=0<;>simp [h1,h2,h3]<;>omega
   obtain ⟨c0,hc0,_⟩:=hi 0 (by omega);have h00:=(A72 hc0).2.2 0 hpos;have hc0l:=(A72 hc0).2.1
   have hsome:w.cell? a=some (c0[0]'(by omega)):=by
    have:(a.add (0*size)).add 0=a:=by simp [Addr.add]
    rw [this] at h00;rw [h00,A69]
   obtain ⟨b,off,sp⟩:=a
   have hspot:sp=none:=by
    rcases sp with _|sp
    · rfl
    ·
     simp only [World.cell?] at hsome
     split at hsome<;>simp at hsome
   subst hspot;refine ⟨b,off,rfl,A76 w _ hsome,fun j u hu=> ?_⟩;have:=hcell j u hu;have hadd:(⟨b,off,none⟩:Addr).add j=⟨b,off+j,none⟩:=by unfold Addr.add;split<;>simp_all
   rwa [hadd] at this
theorem Ph {α:Type} {f:α->List Value} {Q:α->Prop}:∀(xs:List (List Value)) (_:∀c∈xs,∃o,c=f o/\Q o),∃l:List α,xs=l.map f/\∀o∈l,Q o
 |[],_=>⟨[],rfl,fun _ h=>by cases h⟩
 |c::xs,h=>by
  obtain ⟨o,rfl,hq⟩:=h c (by simp);obtain ⟨l,rfl,hl⟩:=Ph xs (fun c hc=>h c (by simp [hc]));exact ⟨o::l,rfl,fun o' ho=>by rcases List.mem_cons.1 ho with rfl|ho;exact hq;exact hl o' ho⟩
theorem flat1 {α:Type} (f:α->Value) (l:List α):(l.map fun b=>[f b]).flatten=l.map f:=by
 induction l with
 |nil=>rfl
 |cons b l ih=>rw [A70,A85,ih];rfl
end
end
section
attribute [local go_sem ↓] Go.wp_at_zero Go.wp_at_succ
theorem Ab {α:Type} (x:α):∃y,Hid (x=y):=⟨x,rfl⟩
theorem Aw {α β γ:Type} (x:α × β × γ):∃y z u,Hid (x=(y,z,u)):=⟨x.1,x.2.1,x.2.2,rfl⟩
theorem Md {bs:List UInt8} {k:Nat} {u:Value} (h:(bs.map Bv)[k]? =some u):∃x:UInt8,bs[k]? =some x/\u=.int .u8 (x.toNat:Int):=by
 rw [A91] at h
 cases hx:bs[k]? with
 |none=>rw [hx] at h;cases h
 |some x=>rw [hx] at h;injection h with h;exact ⟨x,rfl,h.symm⟩
theorem Fx {α:Type} {l:List α} {k:Nat} {x:α} (h:l[k]? =some x):l.drop k=x::l.drop (k+1):=by
 obtain ⟨hk,rfl⟩:=List.getElem?_eq_some_iff.1 h;exact List.drop_eq_getElem_cons hk
theorem E3 {a b:Int} (h:a=b):(a==b)=true:=beq_iff_eq.2 h
theorem Dk {a b:Int} (h:¬a=b):(a==b)=false:=beq_eq_false_iff_ne.2 h
theorem Fr.cell {S:Nat->Prop} {w w':World} {p:Addr} {v:Value} (h:Fr S w w') (hc:w.cell? p=some v) (hp:¬S p.block):w'.cell? p=some v:=by
 rw [A89 (h.block p.block (A76 w p hc) hp)];exact hc
theorem zk2 {w w':World} (f:Fr Non w w') {p0 p1:Addr} {u0 u1:Value} (a0:w.cell? p0=some u0) (a1:w.cell? p1=some u1):w'.cell? p0=some u0/\w'.cell? p1=some u1:=⟨f.cell a0 (fun e=>e),f.cell a1 (fun e=>e)⟩
theorem zk3 {w w':World} (f:Fr Non w w') {p0 p1 p2:Addr} {u0 u1 u2:Value} (a0:w.cell? p0=some u0) (a1:w.cell? p1=some u1) (a2:w.cell? p2=some u2):w'.cell? p0=some u0/\w'.cell? p1=some u1/\w'.cell? p2=some u2:=⟨f.cell a0 (fun e=>e),f.cell a1 (fun e=>e),f.cell a2 (fun e=>e)⟩
theorem zk4 {w w':World} (f:Fr Non w w') {p0 p1 p2 p3:Addr} {u0 u1 u2 u3:Value} (a0:w.cell? p0=some u0) (a1:w.cell? p1=some u1) (a2:w.cell? p2=some u2) (a3:w.cell? p3=some u3):w'.cell? p0=some u0/\w'.cell? p1=some u1/\w'.cell? p2=some u2/\w'.cell? p3=some u3:=⟨f.cell a0 (fun e=>e),f.cell a1 (fun e=>e),f.cell a2 (fun e=>e),f.cell a3 (fun e=>e)⟩
theorem zk5 {w w':World} (f:Fr Non w w') {p0 p1 p2 p3 p4:Addr} {u0 u1 u2 u3 u4:Value} (a0:w.cell? p0=some u0) (a1:w.cell? p1=some u1) (a2:w.cell? p2=some u2) (a3:w.cell? p3=some u3) (a4:w.cell? p4=some u4):w'.cell? p0=some u0/\w'.cell? p1=some u1/\w'.cell? p2=some u2/\w'.cell? p3=some u3/\w'.cell? p4=some u4:=⟨f.cell a0 (fun e=>e),f.cell a1 (fun e=>e),f.cell a2 (fun e=>e),f.cell a3 (fun e=>e),f.cell a4 (fun e=>e)⟩
theorem zk6 {w w':World} (f:Fr Non w w') {p0 p1 p2 p3 p4 p5:Addr} {u0 u1 u2 u3 u4 u5:Value} (a0:w.cell? p0=some u0) (a1:w.cell? p1=some u1) (a2:w.cell? p2=some u2) (a3:w.cell? p3=some u3) (a4:w.cell? p4=some u4) (a5:w.cell? p5=some u5):w'.cell? p0=some u0/\w'.cell? p1=some u1/\w'.cell? p2=some u2/\w'.cell? p3=some u3/\w'.cell? p4=some u4/\w'.cell? p5=some u5:=⟨f.cell a0 (fun e=>e),f.cell a1 (fun e=>e),f.cell a2 (fun e=>e),f.cell a3 (fun e=>e),f.cell a4 (fun e=>e),f.cell a5 (fun e=>e)⟩
theorem zk7 {w w':World} (f:Fr Non w w') {p0 p1 p2 p3 p4 p5 p6:Addr} {u0 u1 u2 u3 u4 u5 u6:Value} (a0:w.cell? p0=some u0) (a1:w.cell? p1=some u1) (a2:w.cell? p2=some u2) (a3:w.cell? p3=some u3) (a4:w.cell? p4=some u4) (a5:w.cell? p5=some u5) (a6:w.cell? p6=some u6):w'.cell? p0=some u0/\w'.cell? p1=some u1/\w'.cell? p2=some u2/\w'.cell? p3=some u3/\w'.cell? p4=some u4/\w'.cell? p5=some u5/\w'.cell? p6=some u6:=⟨f.cell a0 (fun e=>e),f.cell a1 (fun e=>e),f.cell a2 (fun e=>e),f.cell a3 (fun e=>e),f.cell a4 (fun e=>e),f.cell a5 (fun e=>e),f.cell a6 (fun e=>e)⟩
theorem zk8 {w w':World} (f:Fr Non w w') {p0 p1 p2 p3 p4 p5 p6 p7:Addr} {u0 u1 u2 u3 u4 u5 u6 u7:Value} (a0:w.cell? p0=some u0) (a1:w.cell? p1=some u1) (a2:w.cell? p2=some u2) (a3:w.cell? p3=some u3) (a4:w.cell? p4=some u4) (a5:w.cell? p5=some u5) (a6:w.cell? p6=some u6) (a7:w.cell? p7=some u7):w'.cell? p0=some u0/\w'.cell? p1=some u1/\w'.cell? p2=some u2/\w'.cell? p3=some u3/\w'.cell? p4=some u4/\w'.cell? p5=some u5/\w'.cell? p6=some u6/\w'.cell? p7=some u7:=⟨f.cell a0 (fun e=>e),f.cell a1 (fun e=>e),f.cell a2 (fun e=>e),f.cell a3 (fun e=>e),f.cell a4 (fun e=>e),f.cell a5 (fun e=>e),f.cell a6 (fun e=>e),f.cell a7 (fun e=>e)⟩
theorem Pj {P:Program} (src dst e:TypeId) {u:TypeDesc} (hs:P.underlying src=some u) (hd:P.underlying dst=some (.slice e)) (he:P.underlying e=some (.int .u8)) (bs:List UInt8) (w:World):
  ∃c w',(convert src dst (.string (str bs))).run P w=.ok (.slice (some ⟨w.heap.size,0,none⟩) bs.length c) w'/\Rd w' (w.heap.size+1) 1 (some ⟨w.heap.size,0,none⟩) bs.length (bs.map Bv)/\Fr Non w w'/\w'.heap.size=w.heap.size+1/\bs.length<=c/\(bs.length<=1099511627776->c<=9223372036854775807):=by
 have h:=Lib.run_convert_string_bytes w src dst e (str bs) hs hd he;rw [Ep] at h;refine ⟨_,_,h,⟨by simp,.inr ⟨w.heap.size,0,rfl,by omega,fun j v hj=> ?_⟩⟩,⟨rfl,rfl,rfl,?_,fun k hk _=>Lib.bytesWorld_at_old w e (str bs) k hk⟩,Lib.bytesWorld_size w e (str bs),?_⟩
 ·
  rw [A91] at hj
  cases hb:bs[j]? with
  |none=>rw [hb] at hj;cases hj
  |some x=>
   rw [hb] at hj;injection hj with hj
   subst hj;obtain ⟨hl,hx⟩:=List.getElem?_eq_some_iff.1 hb;rw [Nat.zero_add,Lib.bytesWorld_cell w e (str bs) j (by rw [Ep];exact hl)];simp [str,List.getD,hl,hx,Bv]
 · rw [Lib.bytesWorld_size];omega
 ·
  refine ⟨grownCap_ge _ _ _ _,fun h=> ?_⟩;exact grownCap_le_maxLen w bs.length 0 e (A75 h (by decide))
theorem slB:SlT zp 40 5 (.int .u8 0) 1 1:=⟨underlying40,by kernel_rfl,rfl,by decide⟩
def NewB (w:World) (bs:List UInt8) (r:Ending) (w':World):Prop:=
 ∃A c,r=.returned (.slice A bs.length c)/\Own w' w.heap.size 5 1 A bs.length c (bs.map Bv)/\Fr Non w w'
theorem NewB.mk {w w':World} {base n c:Nat} {A:Option Addr} {xs:List Value} {bs:List UInt8} (ho:Own w' base 5 1 A n c xs) (hb:base=w.heap.size) (hx:xs=bs.map Bv) (hf:Fr Non w w'):NewB w bs (.returned (.slice A n c)) w':=by
 subst hx hb;have hl:=ho.len;simp at hl;subst hl;exact ⟨A,c,rfl,ho,hf⟩
def Ee (n m:Int):Int:=(if n<0 then-(n+1) else n)%m
theorem Jp {n m:Int} (h:1<=m):0<=Ee n m/\Ee n m<m:=by
 unfold Ee;exact ⟨Int.emod_nonneg _ (by omega),Int.emod_lt_of_pos _ (by omega)⟩
theorem Pm (n m:Int) (w:World) (h0: -9223372036854775808<=n) (h1:n<=9223372036854775807) (hm:1<=m) (hm':m<=9223372036854775807):
  Calls zp 7 #[.int .i64 n,.int .i64 m] w fun e w'=>e=.returned (.int .i64 (Ee n m))/\w=w':=by
 by_cases hn:n<0
 ·
  have he:Hid (Ee n m=(-(n+1)).tmod m):=by
   show _=_;unfold Ee;rw [if_pos hn,Int.tmod_eq_emod_of_nonneg (by omega)]
  go_enter func7,ntmps7;go_wp2
  go_ret
  refine ⟨zeI ?_,rfl⟩;rw [he.out,Int.neg_tmod]
 ·
  have he:Hid (Ee n m=n%m):=by show _=_;unfold Ee;rw [if_neg hn]
  go_enter func7,ntmps7;go_wp2
  go_ret
  exact ⟨zeI he.out.symm,rfl⟩
theorem Own.notNon {w:World} {base size n c B:Nat} {e:TypeId} {A:Option Addr} {xs:List Value} (h:Own w base e size A n c xs) (hB:B<=base):∀k,k<B->Ad A=some k->Non k:=
 fun k hk hA=>by have:=(h.row k hA).1;omega
def Ae (b:Bool) (w:World) (r:Ending) (w':World):Prop:=r=.returned (.bool b)/\Fr Non w w'
end
namespace Pk
def numF:Nat->Nat->List UInt8
 |0,_=>[]
 |f+1,n=>if n<128 then [UInt8.ofNat n] else UInt8.ofNat (n%128+128)::numF f (n/128)
def num (n:Nat):List UInt8:=numF 10 n
def fold (n:Int):Nat:=if n<0 then (-2*n-1).toNat else (2*n).toNat
def unfold (u:Nat):Int:=if u%2=1 then-((u/2:Nat):Int)-1 else ((u/2:Nat):Int)
def int (n:Int):List UInt8:=num (fold n)
def text (s:List UInt8):List UInt8:=int s.length++s
def bool (b:Bool):List UInt8:=int (if b then 1 else 0)
def ident (b s:Int) (u:Nat):List UInt8:=int b++int s++num u
def go:Nat->Nat->List UInt8->Sum Int (Nat × Nat)
 |_,_,[]=> .inl 9
 |k,u,x::r=>
  if (k=9/\1<x.toNat)\/(x.toNat=0/\0<k) then .inl 7
  else if x.toNat<128 then .inr (u+x.toNat%128*2^(7*k),k+1)
  else go (k+1) (u+x.toNat%128*2^(7*k)) r
def rd (bs:List UInt8) (a:Nat) (e:Int):Nat × Nat × Int:=
 if e=0 then match go 0 0 (bs.drop a) with
  | .inl c=>(0,a,c)
  | .inr (v,k)=>(v,a+k,0)
 else (0,a,e)
theorem fold_lt {n:Int} (h0: -9223372036854775808<=n) (h1:n<=9223372036854775807):fold n<18446744073709551616:=by
 unfold fold;split<;>omega
theorem Wj {n:Int}:unfold (fold n)=n:=by
 unfold fold unfold;split<;>split<;>omega
theorem Wk (u:Nat):fold (unfold u)=u:=by
 unfold unfold;split<;>unfold fold<;>split<;>omega
theorem Wl {u:Nat} (h:u<18446744073709551616): -9223372036854775808<=unfold u/\unfold u<=9223372036854775807:=by
 unfold unfold;split<;>omega
theorem Wm (f n:Nat):numF (f+1) n≠[]:=by unfold numF;split<;>simp
theorem Po (n:Nat):0<(num n).length:=List.length_pos_iff.2 (Wm 9 n)
theorem Pp:∀(f n:Nat),(numF f n).length<=f
 |0,_=>by simp [numF]
 |f+1,n=>by
  unfold numF;split
  · simp
  · have:=Pp f (n/128);simp;omega
theorem num_len (n:Nat):(num n).length<=10:=Pp 10 n
theorem int_len (n:Int):(int n).length<=10:=num_len _
theorem text_len (s:List UInt8):(text s).length<=10+s.length:=by
 unfold text;rw [A59];have:=int_len s.length;omega
theorem ident_len (b s:Int) (u:Nat):(ident b s u).length<=30:=by
 unfold ident;simp only [A59];have:=int_len b;have:=int_len s;have:=num_len u;omega
theorem tn (n:Nat) (h:n<256):(UInt8.ofNat n).toNat=n:=by
 rw [UInt8.toNat_ofNat'];omega
theorem pow7 (k:Nat):2^(7*(k+1))=2^(7*k)*128:=by
 rw [show 7*(k+1)=7*k+7 from by omega,Nat.pow_add]
theorem go_num (r:List UInt8):∀(f k u m:Nat),k+f=9->m<2*128^f->(0<k->0<m)->
  go k u (numF (f+1) m++r)=.inr (u+m*2^(7*k),k+(numF (f+1) m).length)
 |f,k,u,m,hk,hm,hp=>by
  unfold numF
  by_cases h:m<128
  ·
   rw [if_pos h];simp only [A92,List.nil_append,A67,List.length_nil,go];rw [tn m (by omega)]
   have h9:¬((k=9/\1<m)\/(m=0/\0<k)):=by
    rintro (⟨h1,h2⟩|⟨h1,h2⟩)
    ·
     have:f=0:=by omega
     subst this;omega
    · have:=hp h2;omega
   rw [if_neg h9,if_pos h,A86 h]
  ·
   rw [if_neg h];simp only [A92,A67,go];rw [tn (m%128+128) (by omega)];have hf:f≠0:=by rintro rfl;omega
   obtain ⟨f',rfl⟩:∃f',f=f'+1:=⟨f-1,by omega⟩;have h9:¬((k=9/\1<m%128+128)\/(m%128+128=0/\0<k)):=by omega
   rw [if_neg h9,if_neg (by omega)]
   have hd:m/128<2*128^f':=by
    rw [A93 (by omega)];rw [A87] at hm;omega
   rw [go_num r f' (k+1) _ (m/128) (by omega) hd (fun _=>by omega)];have e1:(m%128+128)%128=m%128:=by omega
   rw [e1,pow7]
   have e2:u+m%128*2^(7*k)+m/128*(2^(7*k)*128)=u+m*2^(7*k):=by
    have hm':m*2^(7*k)=(m%128+128*(m/128))*2^(7*k):=by rw [Nat.mod_add_div]
    rw [hm',A65,A68 (2^(7*k)) 128,<- Nat.mul_assoc,A68 (m/128) 128,A60]
   rw [e2];congr 2;omega
theorem go_num0 (n:Nat) (h:n<18446744073709551616) (r:List UInt8):go 0 0 (num n++r)=.inr (n,(num n).length):=by
 have:=go_num r 9 0 0 n rfl (by simpa using h) (fun h=>absurd h (by omega));simpa [num] using this
theorem go_inv:∀(l:List UInt8) (k u v K:Nat),k<=9->go k u l=.inr (v,K)->
  ∃m,m<2*128^(9-k)/\(0<k->0<m)/\v=u+m*2^(7*k)/\K=k+(numF (10-k) m).length/\∃r,l=numF (10-k) m++r
 |[],k,u,v,K,_,h=>by simp [go] at h
 |x::r,k,u,v,K,hk,h=>by
  unfold go at h;have hx:=x.toNat_lt
  by_cases hb:(k=9/\1<x.toNat)\/(x.toNat=0/\0<k)
  · rw [if_pos hb] at h;cases h
  ·
   rw [if_neg hb] at h;have h10:10-k=(9-k)+1:=by omega
   by_cases hl:x.toNat<128
   ·
    rw [if_pos hl] at h;injection h with h;injection h with h1 h2
    refine ⟨x.toNat,?_,fun hp=>by omega,?_,?_,r,?_⟩
    ·
     by_cases h9:k=9
     · subst h9;simp;omega
     ·
      have:128^1<=128^(9-k):=A94 (by omega) (by omega);omega
    · rw [<- h1,A86 hl]
    · rw [h10];unfold numF;rw [if_pos hl];simp [<- h2]
    · rw [h10];unfold numF;rw [if_pos hl];simp
   ·
    rw [if_neg hl] at h;have hk9:k≠9:=by omega
    obtain ⟨m,hm,hp,hv,hK,r',hr⟩:=go_inv r (k+1) _ v K (by omega) h;have hp':=hp (by omega);have hd:(x.toNat%128+128*m)/128=m:=by omega
    have hmod:(x.toNat%128+128*m)%128+128=x.toNat:=by omega
    have h9k:9-k=(9-(k+1))+1:=by omega
    have hnum:numF (10-k) (x.toNat%128+128*m)=x::numF (10-(k+1)) m:=by
     rw [h10];conv=>lhs;unfold numF
     rw [if_neg (by omega),hd,hmod,show 10-(k+1)=9-k from by omega];congr 1;exact UInt8.toNat_inj.1 (tn _ (by omega))
    refine ⟨x.toNat%128+128*m,?_,fun _=>by omega,?_,?_,r',?_⟩
    · rw [h9k,A87];omega
    · rw [hv,pow7,A65,A68 (2^(7*k)) 128,<- Nat.mul_assoc,A68 m 128,A60]
    · rw [hnum,hK];simp;omega
    · rw [hnum,hr];rfl
theorem go_inv0 {l:List UInt8} {v K:Nat} (h:go 0 0 l=.inr (v,K)):v<18446744073709551616/\K=(num v).length/\∃r,l=num v++r:=by
 obtain ⟨m,hm,_,hv,hK,r,hr⟩:=go_inv l 0 0 v K (by omega) h;have:v=m:=by omega
 subst this;exact ⟨by simpa using hm,by simpa [num] using hK,r,by simpa [num] using hr⟩
theorem go_cut:∀(f k u m j:Nat),k+f=9->m<2*128^f->(0<k->0<m)->j<(numF (f+1) m).length->go k u ((numF (f+1) m).take j)=.inl 9
 |f,k,u,m,0,_,_,_,_=>by simp [go]
 |f,k,u,m,j+1,hk,hm,hp,hj=>by
  unfold numF at hj ⊢
  by_cases h:m<128
  · rw [if_pos h] at hj;simp at hj
  ·
   rw [if_neg h] at hj ⊢;have hf:f≠0:=by rintro rfl;omega
   obtain ⟨f',rfl⟩:∃f',f=f'+1:=⟨f-1,by omega⟩;simp only [A90,go];rw [tn (m%128+128) (by omega),if_neg (by omega),if_neg (by omega)]
   have hd:m/128<2*128^f':=by
    rw [A93 (by omega)];rw [A87] at hm;omega
   exact go_cut f' (k+1) _ (m/128) j (by omega) hd (fun _=>by omega) (by simpa using hj)
theorem go_cut0 (n:Nat) (h:n<18446744073709551616) {j:Nat} (hj:j<(num n).length):go 0 0 ((num n).take j)=.inl 9:=
 go_cut 9 0 0 n j rfl (by simpa using h) (fun h=>absurd h (by omega)) hj
theorem go_err:∀(l:List UInt8) (k u:Nat) (c:Int),go k u l=.inl c->c=9\/c=7
 |[],k,u,c,h=>by simp [go] at h;omega
 |x::r,k,u,c,h=>by
  unfold go at h
  split at h
  · injection h with h;omega
  ·
   split at h
   · cases h
   · exact go_err r _ _ c h
theorem rd_ne {bs:List UInt8} {a:Nat} {e:Int} (h:e≠0):rd bs a e=(0,a,e):=by unfold rd;rw [if_neg h]
theorem rd_lt (bs:List UInt8) (a:Nat) (e:Int):(rd bs a e).1<18446744073709551616:=by
 unfold rd
 split
 ·
  split
  · simp
  · rename_i h;exact (go_inv0 h).1
 · simp
theorem Ik {bs:List UInt8} {a n:Nat} {r:List UInt8} (hn:n<18446744073709551616) (h:bs.drop a=num n++r):rd bs a 0=(n,a+(num n).length,0):=by
 unfold rd;rw [if_pos rfl,h,go_num0 n hn]
theorem Me {bs:List UInt8} {a:Nat} {e:Int} (h:(rd bs a e).2.2=0):e=0/\(rd bs a e).2.1=a+(num (rd bs a e).1).length/\∃r,bs.drop a=num (rd bs a e).1++r:=by
 unfold rd at h ⊢
 split at h
 ·
  rename_i he
  split at h
  ·
   rename_i c hc;have hc':c=0:=h
   rcases go_err _ _ _ _ hc with h1|h1<;>omega
  ·
   rename_i v K hg;obtain ⟨_,hK,hr⟩:=go_inv0 hg;rw [if_pos he];exact ⟨he,by show a+K=_;rw [hK],hr⟩
 · rename_i he;exact absurd h he
end Pk
def InAt (w:World) (B g:Nat) (bs:List UInt8) (a:Nat) (e:Int):Prop:=
 ∃A c,Blk w g 169 #[.slice A bs.length c,.int .i64 a,.int .i64 e]/\Rd w B 1 A bs.length (bs.map Bv)/\B<=g/\a<=bs.length/\bs.length<=4611686018427387904/\bs.length<=c
theorem InAt.lt {w:World} {B g:Nat} {bs:List UInt8} {a:Nat} {e:Int} (h:InAt w B g bs a e):g<w.heap.size:=by
 obtain ⟨_,_,h,_⟩:=h;exact h.lt
theorem InAt.fr {S:Nat->Prop} {w w':World} {B g:Nat} {bs:List UInt8} {a:Nat} {e:Int} (h:InAt w B g bs a e) (hf:Fr S w w') (hs:∀k,k<B->¬S k) (hg:¬S g):InAt w' B g bs a e:=by
 obtain ⟨A,c,hb,hr,h1,h2,h3⟩:=h;exact ⟨A,c,hb.fr hf hg,hr.fr hf hs,h1,h2,h3⟩
theorem InAt.alloc {w:World} {B g:Nat} {bs:List UInt8} {a:Nat} {e:Int} (h:InAt w B g bs a e) (o:Obj):InAt (w.alloc o) B g bs a e:=
 h.fr (S:=Non) ((Fr.refl _ _).alloc o) (fun _ _ hh=>hh) (fun hh=>hh)
theorem InAt.drewN {w:World} {B g:Nat} {bs:List UInt8} {a:Nat} {e:Int} (h:InAt w B g bs a e) (n:Nat):InAt (w.drewN n) B g bs a e:=h
def Wn (g:Nat) (s:Value) (a' e':Int) (w:World) (r:Ending) (w':World):Prop:=
 r=.returned (.tuple #[])/\Blk w' g 169 #[s,.int .i64 a',.int .i64 e']/\Fr (One g) w w'
theorem Il (g:Nat) (s:Value) (a e:Int) (a' e':Int) (w:World) (hb:Blk w g 169 #[s,.int .i64 a,.int .i64 e]):
  Calls zp 107 #[.pointer (some ⟨g,0,none⟩),.int .i64 e',.int .i64 a'] w (Wn g s a' e' w):=by
 have h1:=hb.cell 1;have h2:=hb.cell 2;have f1:=hb.frozen 1;have f2:=hb.frozen 2;go_enter func107,ntmps107;go_wp2
 go_end0
 exact ⟨rfl,(hb.set 2 _).set 1 _,((Fr.refl _ _).setOne _ _).setOne _ _⟩
def Pq (B g:Nat) (bs:List UInt8) (v a':Nat) (e':Int) (w:World) (r:Ending) (w':World):Prop:=
 r=.returned (.int .u64 (v:Int))/\InAt w' B g bs a' e'/\Fr (One g) w w'
def G8 (bs:List UInt8) (a j U:Nat):Prop:=Pk.go 0 0 (bs.drop a)=Pk.go j U (bs.drop (a+j))/\U<2^(7*j)
theorem Wo {bs:List UInt8} {a j U:Nat} {x:UInt8} (h:G8 bs a j U) (hx:bs[a+j]? =some x) (hbad:¬((j=9/\1<x.toNat)\/(x.toNat=0/\0<j))) (hl:¬x.toNat<128):
  G8 bs a (j+1) (U+x.toNat%128*2^(7*j)):=by
 refine ⟨?_,?_⟩
 · rw [h.1,Fx hx,Pk.go,if_neg hbad,if_neg hl];rfl
 ·
  have h1:=h.2;have h2:x.toNat%128<=127:=by omega
  have h3:=A81 (2^(7*j)) h2;rw [Pk.pow7];omega
theorem Wp {bs:List UInt8} {a j U:Nat} {x:UInt8} (hj:j<=9) (h:G8 bs a j U) (hbad:¬((j=9/\1<x.toNat)\/(x.toNat=0/\0<j))):
  bits BinOp.or IntKind.u64 (U:Int) (IntKind.u64.wrap ((x.toNat:Int)%128*2^(7*j)))=((U+x.toNat%128*2^(7*j):Nat):Int)/\U+x.toNat%128*2^(7*j)<18446744073709551616:=by
 have hU:=h.2;have hx:=x.toNat_lt
 have hb:x.toNat%128*2^(7*j)+2^(7*j)<=18446744073709551616:=by
  by_cases h9:j=9
  ·
   subst h9;have:x.toNat%128<=1:=by omega
   omega
  ·
   have h1:x.toNat%128<=127:=by omega
   have h2:=A81 (2^(7*j)) h1;have h3:2^(7*j)<=2^56:=A94 (by omega) (by omega);omega
 have e1:(x.toNat:Int)%128*2^(7*j)=((x.toNat%128*2^(7*j):Nat):Int):=by
  rw [Int.natCast_mul,Int.natCast_pow];rfl
 have hpos:0<2^(7*j):=Nat.pow_pos (by omega);rw [e1,IntWalk.u64_in _ ⟨by omega,by omega⟩,u64_or_nat _ _ (by omega) (by omega),Nat.or_comm,nat_join (7*j) _ _ (by simp) hU,Nat.add_comm];exact ⟨rfl,by omega⟩
theorem Wq {bs:List UInt8} {a j U:Nat} {x:UInt8} (h:G8 bs a j U) (hx:bs[a+j]? =some x) (hbad:¬((j=9/\1<x.toNat)\/(x.toNat=0/\0<j))) (hl:x.toNat<128):
  Pk.rd bs a 0=(U+x.toNat%128*2^(7*j),a+(j+1),0):=by
 unfold Pk.rd;rw [if_pos rfl,h.1,Fx hx,Pk.go,if_neg hbad,if_pos hl]
theorem Wr {bs:List UInt8} {a j U:Nat} {x:UInt8} (h:G8 bs a j U) (hx:bs[a+j]? =some x) (hbad:(j=9/\1<x.toNat)\/(x.toNat=0/\0<j)):Pk.rd bs a 0=(0,a,7):=by
 unfold Pk.rd;rw [if_pos rfl,h.1,Fx hx,Pk.go,if_pos hbad]
theorem Ws {bs:List UInt8} {a j U:Nat} (h:G8 bs a j U) (hn:bs.length<=a+j):Pk.rd bs a 0=(0,a,9):=by
 unfold Pk.rd;rw [if_pos rfl,h.1,List.drop_eq_nil_of_le hn,Pk.go]
theorem Wt (B g:Nat) (bs:List UInt8) (a:Nat) (v a':Nat) (e':Int) (w:World) (hin:InAt w B g bs a 0) (hrd:Hid (Pk.rd bs a 0=(v,a',e'))):
  Calls zp 106 #[.pointer (some ⟨g,0,none⟩)] w (Pq B g bs v a' e' w):=by
 obtain ⟨A,c,hb,hr,hB,ha,hn⟩:=hin;generalize hlen0:bs.length=n at*;have aa:=lh hlen0;clear hlen0;have ax:=hn.1;have ai:=lh hn;clear hn;have h0:=hb.cell 0;have h1:=hb.cell 1;have h2:=hb.cell 2;go_enter func106,ntmps106;go_wp2
 go_loopw [4,5] (fun u k wr=>∃(j U:Nat),k=.int .i64 j/\u=.int .u64 U/\j<=9/\a+j<=n/\G8 bs a j U/\Blk wr g 169 #[.slice A n c,.int .i64 (a+j:Nat),.int .i64 0]/\Fr (One g) w wr) (fun _ k _=>10-(intOf k).toNat)
 case atStart=>exact ⟨0,0,rfl,rfl,by omega,by omega,⟨rfl,by simp⟩,hb,Fr.refl _ _⟩
 case round=>
  clear h0 h1 h2;obtain ⟨j,U,rfl,rfl,hj,ay,hrel,ac,hf⟩:=hrel;have h0:=ac.cell 0;have h1:=ac.cell 1;have h2:=ac.cell 2;have f1:=ac.frozen 1
  by_cases hlt:a+j<n
  ·
   obtain ⟨b,aw,u,rfl,au,ap,ar⟩:=(hr.fr hf (fun k hk=>One.not hB hk)).at hlt;obtain ⟨x,ao,rfl⟩:=Md ap;have ah:=lh ao;clear ap ao;have hx:=x.toNat_lt
   by_cases hbad:(j=9/\1<x.toNat)\/(x.toNat=0/\0<j)
   ·
    have ab:=lh (Wr hrel ah.out hbad)
    have ad:((((j:Int)==9)=true/\1<x.toNat)\/(((j:Int)==9)=true/\((x.toNat:Int)==0)=true/\x.toNat<=1/\0<j))\/(((j:Int)==9)=false/\((x.toNat:Int)==0)=true/\0<j):=by
     simp only [beq_iff_eq,beq_eq_false_iff_ne,ne_eq];omega
    clear hbad
    rcases ad with (⟨t1,t2⟩|⟨t1,t2,t3,t4⟩)|⟨t1,t2,t3⟩
    all_goals
     go_wp2
     go_quiet (fail)
     go_wp2
     go_quiet (fail)
     go_wp2_with fail
     all_goals
      refine (Il g _ _ _ _ _ _ ((ac.drewN _).set 1 _)).mono ?_;rintro e w1 ⟨rfl,al,ak⟩;go_wp2
      go_ret
      rw [hrd.out] at ab
      cases ab.out
      have ag:=((hf.drewN _).setOne 1 _).transOne ak;exact ⟨rfl,⟨_,_,(by rw [aa.out];exact al),(by rw [aa.out];exact hr.fr ag (fun k hk=>One.not hB hk)),hB,by rw [aa.out];exact ha,by rw [aa.out];exact ai.out⟩,ag⟩
   ·
    have aj:=Wp hj hrel hbad;have af:=lh aj.1;have aq:=aj.2;clear aj
    by_cases hlast:x.toNat<128
    ·
     have ab:=lh (Wq hrel ah.out hbad hlast)
     have ad:((((j:Int)==9)=true/\((x.toNat:Int)==0)=false/\x.toNat<=1)\/(((j:Int)==9)=false/\((x.toNat:Int)==0)=false))\/(((j:Int)==9)=false/\((x.toNat:Int)==0)=true/\¬0<j):=by
      simp only [beq_iff_eq,beq_eq_false_iff_ne,ne_eq];omega
     clear hbad
     rcases ad with (⟨t1,t2,t3⟩|⟨t1,t2⟩)|⟨t1,t2,t3⟩
     all_goals
      go_wp2
      go_quiet (fail)
      go_wp2
      go_quiet (fail)
      go_wp2
      go_ret
      rw [hrd.out] at ab
      cases ab.out
      exact ⟨congrArg (fun z=>ze (.int .u64 z)) af.out,⟨_,_,(by rw [aa.out];exact (ac.drewN _).set 1 _),(by rw [aa.out];exact hr.fr ((hf.drewN _).setOne 1 _) (fun k hk=>One.not hB hk)),hB,by rw [aa.out];omega,by rw [aa.out];exact ai.out⟩,(hf.drewN _).setOne 1 _⟩
    ·
     have ae:=Wo hrel ah.out hbad hlast;have av:j<9:=by omega
     have t1:((j:Int)==9)=false:=Dk (by omega);have t2:((x.toNat:Int)==0)=false:=Dk (by omega);clear hbad;go_wp2
     go_quiet (fail)
     go_wp2
     go_quiet (fail)
     go_wp2;go_roundw
     case rel=>exact ⟨j+1,_,by go_num,congrArg (fun z=>Value.int .u64 z) af.out,by omega,by omega,ae,(ac.drewN _).set 1 _,(hf.drewN _).setOne 1 _⟩
     case measure=>simp [intOf];omega
  ·
   have ab:=lh (Ws hrel (by rw [aa.out];omega));go_wp2
   go_quiet (fail)
   go_wp2_with fail;refine (Il g _ _ _ _ _ _ (ac.drewN _)).mono ?_;rintro e w1 ⟨rfl,al,ak⟩;go_wp2
   go_ret
   rw [hrd.out] at ab
   cases ab.out
   have ag:=(hf.drewN _).transOne ak;exact ⟨rfl,⟨_,_,(by rw [aa.out];exact al),(by rw [aa.out];exact hr.fr ag (fun k hk=>One.not hB hk)),hB,by rw [aa.out];exact ha,by rw [aa.out];exact ai.out⟩,ag⟩
theorem Hl (B g:Nat) (bs:List UInt8) (a:Nat) (e:Int) (v a':Nat) (e':Int) (w:World) (hin:InAt w B g bs a e) (hrd:Hid (Pk.rd bs a e=(v,a',e'))):
  Calls zp 106 #[.pointer (some ⟨g,0,none⟩)] w (Pq B g bs v a' e' w):=by
 by_cases he:e=0
 ·
  subst he;exact Wt B g bs a v a' e' w hin hrd
 ·
  have hx:=hrd.out;rw [Pk.rd_ne he] at hx
  cases hx
  have hin0:=hin;obtain ⟨A,c,hb,hr,hB,ha,hn⟩:=hin0;have h1:=hb.cell 1;have h2:=hb.cell 2;have t:=Dk he;go_enter func106,ntmps106;go_wp2;refine wp_loop_rounds 1 ?_;rw [rounds_succ];go_wp2
  go_ret
  exact ⟨rfl,hin,Fr.refl _ _⟩
def Gq (B g:Nat) (bs:List UInt8) (v:Value) (a':Nat) (e':Int) (w:World) (r:Ending) (w':World):Prop:=
 r=.returned v/\InAt w' B g bs a' e'/\Fr (One g) w w'
namespace Pk
def rdInt (bs:List UInt8) (a:Nat) (e:Int):Int × Nat × Int:=(unfold (rd bs a e).1,(rd bs a e).2.1,(rd bs a e).2.2)
def rdMany (bs:List UInt8) (a:Nat) (e:Int) (most:Int):Int × Nat × Int:=
 if (rdInt bs a e).1<0\/most<(rdInt bs a e).1 then (0,a,7) else rdInt bs a e
def rdText (bs:List UInt8) (a:Nat) (e:Int):List UInt8 × Nat × Int:=
 if (rd bs a e).2.2≠0 then ([],(rd bs a e).2)
 else if (rd bs a e).1%2=1 then ([],a,7)
 else if bs.length<(rd bs a e).2.1+(rd bs a e).1/2 then ([],a,9)
 else ((bs.drop (rd bs a e).2.1).take ((rd bs a e).1/2),(rd bs a e).2.1+(rd bs a e).1/2,0)
def rdIdent (bs:List UInt8) (a:Nat) (e:Int):(Int × Int × Nat) × Nat × Int:=
 if (rd bs (rdInt bs (rdInt bs a e).2.1 (rdInt bs a e).2.2).2.1 (rdInt bs (rdInt bs a e).2.1 (rdInt bs a e).2.2).2.2).2.2≠0 then
  ((0,0,0),a,(rd bs (rdInt bs (rdInt bs a e).2.1 (rdInt bs a e).2.2).2.1 (rdInt bs (rdInt bs a e).2.1 (rdInt bs a e).2.2).2.2).2.2)
 else (((rdInt bs a e).1,(rdInt bs (rdInt bs a e).2.1 (rdInt bs a e).2.2).1,(rd bs (rdInt bs (rdInt bs a e).2.1 (rdInt bs a e).2.2).2.1 (rdInt bs (rdInt bs a e).2.1 (rdInt bs a e).2.2).2.2).1),
  (rd bs (rdInt bs (rdInt bs a e).2.1 (rdInt bs a e).2.2).2.1 (rdInt bs (rdInt bs a e).2.1 (rdInt bs a e).2.2).2.2).2)
end Pk
theorem Fh (B g:Nat) (bs:List UInt8) (a:Nat) (e:Int) (v a':Nat) (e':Int) (w:World) (hin:InAt w B g bs a e) (hrd:Hid (Pk.rd bs a e=(v,a',e'))):
  Calls zp 59 #[.pointer (some ⟨g,0,none⟩)] w (Gq B g bs (.int .u64 (v:Int)) a' e' w):=by
 go_enter func59,ntmps59;go_wp2_with fail;refine (Hl B g bs a e v a' e' _ hin hrd).mono ?_;rintro _ w1 ⟨rfl,hin1,hf1⟩;go_wp2
 go_ret
 exact ⟨rfl,hin1,hf1⟩
theorem Jq (u:Nat) (h:u<18446744073709551616):bits BinOp.and IntKind.u64 (u:Int) 1=((u%2:Nat):Int):=by
 rw [show (1:Int)=((1:Nat):Int) from rfl,u64_and_nat _ _ h (by omega),nat_mask1]
theorem Wu (a:Nat) (ha:a<9223372036854775808):bits BinOp.xor IntKind.i64 (a:Int) (-1)= -(a:Int)-1:=by
 show IntKind.i64.wrap ((BitVec.ofInt 64 (a:Int)^^^BitVec.ofInt 64 (-1)).toNat:Int)=_;have h1:BitVec.ofInt 64 (-1)=BitVec.allOnes 64:=by decide
 rw [h1,BitVec.xor_allOnes,BitVec.toNat_not,ofInt_u64 a (by omega),IntKind.wrap_i64];omega
theorem xor_zero (a:Nat) (ha:a<9223372036854775808):bits BinOp.xor IntKind.i64 (a:Int) 0=(a:Int):=by
 show IntKind.i64.wrap ((BitVec.ofInt 64 (a:Int)^^^BitVec.ofInt 64 0).toNat:Int)=_;have h1:BitVec.ofInt 64 0=0#64:=by decide
 rw [h1,BitVec.xor_zero,ofInt_u64 a (by omega),IntKind.wrap_i64];omega
theorem Ww (u:Nat) (h:u<18446744073709551616):bits BinOp.xor IntKind.i64 ((u:Int)/2) (wrap64 (-wrap64 (bits BinOp.and IntKind.u64 (u:Int) 1)))=Pk.unfold u:=by
 rw [Jq u h];have e1:(u:Int)/2=((u/2:Nat):Int):=by omega
 rw [e1];unfold Pk.unfold
 by_cases h1:u%2=1
 ·
  rw [if_pos h1,h1,show wrap64 (-wrap64 ((1:Nat):Int))= -1 from by unfold wrap64;omega];exact Wu _ (by omega)
 ·
  rw [if_neg h1,show u%2=0 from by omega,show wrap64 (-wrap64 ((0:Nat):Int))=0 from by unfold wrap64;omega];exact xor_zero _ (by omega)
theorem Wx (u:Nat) (h:u<18446744073709551616) (w:World):
  Calls zp 109 #[.int .u64 (u:Int)] w fun e w'=>e=.returned (.int .i64 (Pk.unfold u))/\w=w':=by
 have hu:=lh (Ww u h);go_enter func109,ntmps109;go_wp2
 go_ret
 exact ⟨zeI hu.out,rfl⟩
theorem Mf {bs:List UInt8} {a:Nat} {e:Int} {v a':Nat} {e':Int} (h:Hid (Pk.rd bs a e=(v,a',e'))):v<18446744073709551616:=by
 have:=Pk.rd_lt bs a e;rw [h.out] at this;exact this
theorem Dl (B g:Nat) (bs:List UInt8) (a:Nat) (e:Int) (v:Int) (a':Nat) (e':Int) (w:World) (hin:InAt w B g bs a e) (hrd:Hid (Pk.rdInt bs a e=(v,a',e'))):
  Calls zp 60 #[.pointer (some ⟨g,0,none⟩)] w (Gq B g bs (.int .i64 v) a' e' w):=by
 obtain ⟨v1,a1,e1,hx⟩:=Aw (Pk.rd bs a e);have hv:=Mf hx;go_enter func60,ntmps60;go_wp2_with fail;refine (Hl B g bs a e v1 a1 e1 _ hin hx).mono ?_;rintro _ w1 ⟨rfl,hin1,hf1⟩;go_wp2_with fail;refine (Wx v1 hv _).mono ?_;rintro _ w2 ⟨rfl,rfl⟩;go_wp2
 go_ret
 have hy:=hrd.out;unfold Pk.rdInt at hy;rw [hx.out] at hy
 cases hy
 exact ⟨rfl,hin1,hf1⟩
theorem E4 (B g:Nat) (bs:List UInt8) (a:Nat) (e:Int) (w:World) (hin:InAt w B g bs a e):
  Calls zp 111 #[.pointer (some ⟨g,0,none⟩)] w fun r w'=>r=.returned (.int .i64 e)/\w=w':=by
 obtain ⟨A,c,hb,hr,hB,ha,hn⟩:=hin;have h2:=hb.cell 2;go_enter func111,ntmps111;go_wp2
 go_ret
 exact ⟨rfl,rfl⟩
theorem Mg (B g:Nat) (bs:List UInt8) (a:Nat) (e:Int) (w:World) (hin:InAt w B g bs a e):
  Calls zp 108 #[.pointer (some ⟨g,0,none⟩)] w (Gq B g bs (.int .i64 ((bs.length-a:Nat):Int)) a e w):=by
 have hin0:=hin;obtain ⟨A,c,hb,hr,hB,ha,hn⟩:=hin0;have h0:=hb.cell 0;have h1:=hb.cell 1;go_enter func108,ntmps108;go_wp2
 go_quiet (fail)
 go_wp2
 go_ret
 refine ⟨zeI (show _=((bs.length-a:Nat):Int) by omega),?_,(Fr.refl _ _).drewN _⟩;exact ⟨_,_,hb.drewN _,hr.drewN _,hB,ha,hn⟩
theorem Hm (B g:Nat) (bs:List UInt8) (a:Nat) (e most:Int) (v:Int) (a':Nat) (e':Int) (w:World) (hin:InAt w B g bs a e) (hrd:Hid (Pk.rdMany bs a e most=(v,a',e'))):
  Calls zp 110 #[.pointer (some ⟨g,0,none⟩),.int .i64 most] w (Gq B g bs (.int .i64 v) a' e' w):=by
 obtain ⟨v1,a1,e1,hx⟩:=Aw (Pk.rdInt bs a e);have hy:=hrd.out;unfold Pk.rdMany at hy;rw [hx.out] at hy;have hy:=lh hy;have hin0:=hin;obtain ⟨A,c,hb,hr,hB,ha,hn⟩:=hin0;have h1:=hb.cell 1
 by_cases hbad:v1<0\/most<v1
 ·
  have hbad':=lh hbad
  rcases hbad with hbad|hbad
  all_goals
   go_enter func110,ntmps110;go_wp2_with fail;refine (Dl B g bs a e v1 a1 e1 _ hin hx).mono ?_;rintro _ w1 ⟨rfl,hin1,hf1⟩;go_wp2_with fail
   all_goals
    obtain ⟨A1,c1,hb1,hr1,_,_,hn⟩:=hin1;refine (Il g _ _ _ _ _ _ hb1).mono ?_;rintro _ w2 ⟨rfl,hb2,hf2⟩;go_wp2
    go_ret
    have hy:=hy.out;rw [if_pos hbad'.out] at hy
    cases hy
    exact ⟨rfl,⟨_,_,hb2,hr1.fr hf2 (fun k hk=>One.not hB hk),hB,ha,hn⟩,hf1.transOne hf2⟩
 ·
  have hbad':=lh hbad;have hb1:¬v1<0:=fun h=>hbad (.inl h);have hb2:¬most<v1:=fun h=>hbad (.inr h);clear hbad;go_enter func110,ntmps110;go_wp2_with fail;refine (Dl B g bs a e v1 a1 e1 _ hin hx).mono ?_;rintro _ w1 ⟨rfl,hin1,hf1⟩;go_wp2
  go_ret
  have hy:=hy.out;rw [if_neg hbad'.out] at hy
  cases hy
  exact ⟨rfl,hin1,hf1⟩
theorem Wy (B g : Nat) (bs : List UInt8) (a : Nat) (e : Int) (v a1 : Nat) (w : World) (hin : InAt w B g bs a e) (hx : Hid (Pk.rd bs a e = (v, a1, 0)))
   (hev : v % 2 = 0) (hle : a1 + v / 2 <= bs.length) :
    Calls zp 57 #[.pointer (some ⟨g, 0, none⟩)] w (Gq B g bs (.string (str ((bs.drop a1).take (v / 2)))) (a1 + v / 2) 0 w) := by
  have hv := Mf hx;have ht : (bits BinOp.and IntKind.u64 (v:Int) 1 != 0) = false := by rw [Jq v hv, hev]; rfl
  have hin0 := hin;obtain ⟨A, c, hb, hr, hB, ha, hn⟩ := hin0;have h1 := hb.cell 1;go_enter func57, ntmps57;go_wp2_with fail;refine (Hl B g bs a e v a1 0 _ hin hx).mono ?_;rintro _ w1 ⟨rfl, hin1, hf1⟩;obtain ⟨A1, c1, hb1, hr1, _, ha1, hn⟩ := hin1;have h0 := hb1.cell 0;have h1 := hb1.cell 1;have h2 := hb1.cell 2;have f1 := hb1.frozen 1;go_wp2_with fail;refine (Mg B g bs a1 0 _ ⟨_, _, hb1, hr1, hB, ha1, hn⟩).mono ?_;rintro _ w2 ⟨rfl, hin2, hf2⟩;clear h0 h1 h2 f1;obtain ⟨A2, c2, hb2, hr2, _, _, _, hc2⟩ := hin2;have h0 := hb2.cell 0;have h1 := hb2.cell 1;have h2 := hb2.cell 2;have f1 := hb2.frozen 1;have hfa : Fr (One g) w2 (w2.setCell ⟨g, 1, none⟩ (.int .i64 ((a1 : Int) + (v : Int) / 2))) := (Fr.refl _ _).setOne 1 _;have hra := hr2.fr hfa (fun k hk => One.not hB hk);have hrp := hra.part (lo := a1) (hi := a1 + v / 2) (by omega) hle (if c2 = a1 then A2 else A2.map (·.add a1)) (fun hlt => if_neg (by omega));rw [<- List.map_drop, <- List.map_take, show a1 + v / 2 - a1 = v / 2 by omega] at hrp
  have hconv : ∀ nq, (convert 40 9 (.slice (if c2 = a1 then A2 else A2.map (·.add a1)) (v / 2) (c2 - a1))).run zp ((w2.setCell ⟨g, 1, none⟩ (.int .i64 ((a1 : Int) + (v : Int) / 2))).drewN nq) = .ok (.string (str ((bs.drop a1).take (v / 2)))) ((w2.setCell ⟨g, 1, none⟩ (.int .i64 ((a1 : Int) + (v : Int) / 2))).drewN nq) :=
    fun nq => Ii 40 5 9 underlying40 underlying5 underlying9 _ B _ _ _ _ (hrp.drewN nq)
  clear hra hrp;go_wp2_with fail
  go_quiet (fail)
  go_wp2
  all_goals go_ret
  all_goals exact ⟨rfl, ⟨_, _, (hb2.set 1 _).drewN _, (hr2.fr hfa (fun k hk => One.not hB hk)).drewN _, hB, by omega, by omega, hc2⟩, ((hf1.transOne hf2).setOne 1 _).drewN _⟩
theorem Wz (B g:Nat) (bs:List UInt8) (a:Nat) (e:Int) (s:List UInt8) (a':Nat) (e':Int) (w:World) (hin:InAt w B g bs a e) (hrd:Hid (Pk.rdText bs a e=(s,a',e'))):
  Calls zp 57 #[.pointer (some ⟨g,0,none⟩)] w (Gq B g bs (.string (str s)) a' e' w):=by
 obtain ⟨v,a1,e1,hx⟩:=Aw (Pk.rd bs a e);have hv:=Mf hx;have hy:=hrd.out;unfold Pk.rdText at hy;rw [hx.out] at hy;have hin0:=hin;obtain ⟨A,c,hb,hr,hB,ha,hn⟩:=hin0;have h1:=hb.cell 1
 by_cases he:e1=0
 ·
  subst he;rw [if_neg (by simp)] at hy
  by_cases hodd:v%2=1
  ·
   rw [if_pos hodd] at hy
   cases hy
   have ht:(bits BinOp.and IntKind.u64 (v:Int) 1 !=0)=true:=by rw [Jq v hv,hodd];rfl
   clear hodd;go_enter func57,ntmps57;go_wp2_with fail;refine (Hl B g bs a e v a1 0 _ hin hx).mono ?_;rintro _ w1 ⟨rfl,hin1,hf1⟩;obtain ⟨A1,c1,hb1,hr1,_,ha1,hn1⟩:=hin1;have h2:=hb1.cell 2;go_wp2_with fail;refine (Il g _ _ _ _ _ _ hb1).mono ?_;rintro _ w2 ⟨rfl,hb2,hf2⟩;go_wp2
   go_ret
   exact ⟨rfl,⟨_,_,hb2,hr1.fr hf2 (fun k hk=>One.not hB hk),hB,ha,hn1⟩,hf1.transOne hf2⟩
  ·
   rw [if_neg hodd] at hy
   by_cases hlong:bs.length<a1+v/2
   ·
    rw [if_pos hlong] at hy
    cases hy
    have ht:(bits BinOp.and IntKind.u64 (v:Int) 1 !=0)=false:=by rw [Jq v hv,show v%2=0 by omega];rfl
    clear hodd;go_enter func57,ntmps57;go_wp2_with fail;refine (Hl B g bs a e v a1 0 _ hin hx).mono ?_;rintro _ w1 ⟨rfl,hin1,hf1⟩;obtain ⟨A1,c1,hb1,hr1,_,ha1,hn1⟩:=hin1;have h2:=hb1.cell 2;go_wp2_with fail;refine (Mg B g bs a1 0 _ ⟨_,_,hb1,hr1,hB,ha1,hn1⟩).mono ?_;rintro _ w2 ⟨rfl,hin2,hf2⟩;obtain ⟨A2,c2,hb2,hr2,_,_,hn2⟩:=hin2;go_wp2_with fail;refine (Il g _ _ _ _ _ _ hb2).mono ?_;rintro _ w3 ⟨rfl,hb3,hf3⟩;go_wp2
    go_ret
    exact ⟨rfl,⟨_,_,hb3,hr2.fr hf3 (fun k hk=>One.not hB hk),hB,ha,hn2⟩,(hf1.transOne hf2).transOne hf3⟩
   ·
    rw [if_neg hlong] at hy
    cases hy
    exact Wy B g bs a e v a1 w hin hx (by omega) (by omega)
 ·
  rw [if_pos he] at hy
  cases hy
  have he':(e' !=0)=true:=by rw [bne,Dk he];rfl
  go_enter func57,ntmps57;go_wp2_with fail;refine (Hl B g bs a e v a' e' _ hin hx).mono ?_;rintro _ w1 ⟨rfl,hin1,hf1⟩;have hin2:=hin1;obtain ⟨A1,c1,hb1,hr1,_,ha1,hn1⟩:=hin2;have h2:=hb1.cell 2;go_wp2
  go_ret
  exact ⟨rfl,hin1,hf1⟩
def Pk.endE (bs:List UInt8) (a:Nat) (e:Int):Int:=if e=0/\a<bs.length then 2 else e
theorem W8 (B g:Nat) (bs:List UInt8) (a:Nat) (e:Int) (w:World) (hin:InAt w B g bs a e):
  Calls zp 70 #[.pointer (some ⟨g,0,none⟩)] w (Gq B g bs (.int .i64 (Pk.endE bs a e)) a e w):=by
 have hin0:=hin;obtain ⟨A,c,hb,hr,hB,ha,hn⟩:=hin0;have h2:=hb.cell 2
 by_cases he:e=0
 ·
  have hz:(e==0)=true:=E3 he;have he':=lh he;clear he
  rcases A64 a bs.length with hlt|hge
  all_goals
   go_enter func70,ntmps70;go_wp2_with fail;refine (Mg B g bs a e _ hin).mono ?_;rintro _ w1 ⟨rfl,hin1,hf1⟩;have hin2:=hin1;obtain ⟨A1,c1,hb1,hr1,_,ha1,hn1⟩:=hin2;have h3:=hb1.cell 2;go_wp2
   go_ret
   refine ⟨zeI ?_,hin1,hf1⟩;unfold Pk.endE;rw [he'.out];simp;omega
 ·
  have hz:(e==0)=false:=Dk he;have hE:Hid (Pk.endE bs a e=e):=if_neg (fun h=>he h.1);clear he;go_enter func70,ntmps70;go_wp2
  go_ret
  exact ⟨zeI hE.out.symm,hin,Fr.refl _ _⟩
def W9 (B g:Nat) (bs:List UInt8) (by_ sq:Int) (sum a':Nat) (e':Int) (w:World) (r:Ending) (w':World):Prop:=
 r=.returned (.agg #[.int .i64 by_,.int .i64 sq,.int .u64 (sum:Int)])/\InAt w' B g bs a' e'/\Fr (One g) w w'
theorem Jr (B g:Nat) (bs:List UInt8) (a:Nat) (e:Int) (by_ sq:Int) (sum a':Nat) (e':Int) (w:World) (hin:InAt w B g bs a e) (hrd:Hid (Pk.rdIdent bs a e=((by_,sq,sum),a',e'))):
  Calls zp 62 #[.pointer (some ⟨g,0,none⟩)] w (W9 B g bs by_ sq sum a' e' w):=by
 obtain ⟨v1,a1,e1,ar⟩:=Aw (Pk.rdInt bs a e);obtain ⟨v2,a2,e2,ao⟩:=Aw (Pk.rdInt bs a1 e1);obtain ⟨v3,a3,e3,ak⟩:=Aw (Pk.rd bs a2 e2);have hy:=hrd.out;unfold Pk.rdIdent at hy;simp only [ar.out,ao.out,ak.out] at hy;have hg:=hin.lt;have aj:=hin;obtain ⟨A,c,hb,hr,hB,ha,hn⟩:=aj;have h1:=hb.cell 1
 by_cases he:e3=0
 ·
  rw [if_neg (by simpa using he)] at hy;have hz:(e3 !=0)=false:=by rw [bne,E3 he];rfl
  clear he;have ag:=lh hy;clear hy;go_enter func62,ntmps62;go_wp2_with fail;refine (Dl B g bs a e v1 a1 e1 _ (hin.alloc _) ar).mono ?_;rintro _ w1 ⟨rfl,ae,al⟩;go_wp2_with fail;refine (Dl B g bs a1 e1 v2 a2 e2 _ ae ao).mono ?_;rintro _ w2 ⟨rfl,ad,ap⟩;go_wp2_with fail;refine (Fh B g bs a2 e2 v3 a3 e3 _ ad ak).mono ?_;rintro _ w3 ⟨rfl,ab,aq⟩;have hf:=(al.transOne ap).transOne aq;have aa:=(Blk.new w 45 #[.int .i64 0,.int .i64 0,.int .u64 0]).fr hf (by unfold One;omega);have af:=ab;obtain ⟨A1,c1,ac,av,_,ax,au⟩:=af;have hs:=aa.lt;have aw:=ac.lt;have g2:=ac.cell 2;have r0:=aa.cell 0;have r1:=aa.cell 1;have r2:=aa.cell 2;have q0:=aa.frozen 0;have q1:=aa.frozen 1;have q2:=aa.frozen 2;go_wp2_with fail
  cases ag.out
  refine Ed (t:=45) rfl rfl ((((aa.set 0 _).set 1 _).set 2 _).alloc _) rfl underlying45 (by kernel_rfl) rfl ?_;have ai:Fr (One w.heap.size) w3 _:=((((Fr.refl _ _).setOne 0 (.int .i64 by_)).setOne 1 (.int .i64 sq)).setOne 2 (.int .u64 sum)).alloc (.cells #[.int .i64 by_,.int .i64 sq,.int .u64 sum] 45);exact ⟨rfl,ab.fr ai (fun k hk=>One.not (A75 hB (Nat.le_of_lt hg)) hk) (by unfold One;omega),((((((Fr.refl _ _).alloc _).transOne hf).setNew (A63 _) _ _).setNew (A63 _) _ _).setNew (A63 _) _ _).alloc _⟩
 ·
  rw [if_pos he] at hy;have hz:(e3 !=0)=true:=by rw [bne,Dk he];rfl
  clear he;have ag:=lh hy;clear hy;go_enter func62,ntmps62;go_wp2_with fail;refine (Dl B g bs a e v1 a1 e1 _ (hin.alloc _) ar).mono ?_;rintro _ w1 ⟨rfl,ae,al⟩;go_wp2_with fail;refine (Dl B g bs a1 e1 v2 a2 e2 _ ae ao).mono ?_;rintro _ w2 ⟨rfl,ad,ap⟩;go_wp2_with fail;refine (Fh B g bs a2 e2 v3 a3 e3 _ ad ak).mono ?_;rintro _ w3 ⟨rfl,ab,aq⟩;have hf:=(al.transOne ap).transOne aq;have aa:=(Blk.new w 45 #[.int .i64 0,.int .i64 0,.int .u64 0]).fr hf (by unfold One;omega);have af:=ab;obtain ⟨A1,c1,ac,av,_,ax,au⟩:=af;have hs:=aa.lt;have aw:=ac.lt;have g1:=ac.cell 1;have g2:=ac.cell 2;have k1:=ac.frozen 1;have r0:=aa.cell 0;have r1:=aa.cell 1;have r2:=aa.cell 2;have q0:=aa.frozen 0;have q1:=aa.frozen 1;have q2:=aa.frozen 2;go_wp2_with fail
  cases ag.out
  refine Ed (t:=45) rfl rfl (((((aa.far (p:=⟨g,1,none⟩) (by show _≠g;omega) _).set 0 _).set 1 _).set 2 _).alloc _) rfl underlying45 (by kernel_rfl) rfl ?_;have ai:Fr (One w.heap.size) (w3.setCell ⟨g,1,none⟩ (.int .i64 a)) _:=((((Fr.refl _ _).setOne 0 (.int .i64 0)).setOne 1 (.int .i64 0)).setOne 2 (.int .u64 0)).alloc (.cells #[.int .i64 v1,.int .i64 v2,.int .u64 v3] 45);have ah:InAt (w3.setCell ⟨g,1,none⟩ (.int .i64 a)) B g bs a e':=⟨_,_,ac.set 1 _,av.fr ((Fr.refl _ _).setOne 1 _) (fun k hk=>One.not hB hk),hB,ha,au⟩;exact ⟨rfl,ah.fr ai (fun k hk=>One.not (by omega) hk) (by unfold One;omega),(((((((Fr.refl _ _).alloc _).transOne hf).setOne 1 _).setNew (A63 _) _ _).setNew (A63 _) _ _).setNew (A63 _) _ _).alloc _⟩
namespace Pk
theorem Pr {bs x r:List UInt8} {a:Nat} (h:bs.drop a=x++r) (hx:0<x.length):a+x.length+r.length=bs.length:=by
 have:=congrArg List.length h;rw [A95,A59] at this;omega
theorem Es {bs x r:List UInt8} {a:Nat} (h:bs.drop a=x++r):bs.drop (a+x.length)=r:=by
 rw [<- List.drop_drop,h,List.drop_left]
theorem Js {bs r:List UInt8} {a:Nat} {n:Int} (h0: -9223372036854775808<=n) (h1:n<=9223372036854775807) (h:bs.drop a=int n++r):rdInt bs a 0=(n,a+(int n).length,0):=by
 unfold rdInt;rw [Ik (fold_lt h0 h1) h,Wj];rfl
theorem Ps {bs r:List UInt8} {a:Nat} {n M:Int} (h0:0<=n) (h1:n<=9223372036854775807) (hM:n<=M) (h:bs.drop a=int n++r):rdMany bs a 0 M=(n,a+(int n).length,0):=by
 unfold rdMany;rw [Js (by omega) h1 h,if_neg (by show ¬(n<0\/M<n);omega)]
theorem Xa {bs s r:List UInt8} {a:Nat} (hs:s.length<=9223372036854775807) (h:bs.drop a=text s++r):rdText bs a 0=(s,a+(text s).length,0):=by
 have hf:fold (s.length:Int)=2*s.length:=by unfold fold;rw [if_neg (by omega)];omega
 have e:text s=num (2*s.length)++s:=by unfold text int;rw [hf]
 rw [e,A62] at h;have hd:=Pr h (Po _);rw [A59] at hd;have hm:=Es h;unfold rdText;rw [Ik (by omega) h,if_neg (by simp),if_neg (by show ¬(2*s.length%2=1);omega),if_neg (by show ¬(bs.length<a+(num (2*s.length)).length+2*s.length/2);omega)];show ((bs.drop (a+(num (2*s.length)).length)).take (2*s.length/2),a+(num (2*s.length)).length+2*s.length/2,(0:Int))=_;rw [hm,show 2*s.length/2=s.length by omega,List.take_left,e,A59,A60]
theorem Xb {bs r:List UInt8} {a:Nat} {b s:Int} {u:Nat} (b0: -9223372036854775808<=b) (b1:b<=9223372036854775807) (s0: -9223372036854775808<=s) (s1:s<=9223372036854775807) (hu:u<18446744073709551616)
  (h:bs.drop a=ident b s u++r):rdIdent bs a 0=((b,s,u),a+(ident b s u).length,0):=by
 unfold ident at h ⊢;rw [A62,A62] at h;have h1:=Js b0 b1 h;have h':=Es h;have h2:=Js s0 s1 h';have h'':=Es h';have h3:=Ik hu h'';unfold rdIdent;simp only [h1,h2,h3];simp [A60]
theorem Xc:unfold 0=0:=by decide
theorem Mh {bs:List UInt8} {a u j:Nat} (hu:u<18446744073709551616) (hj:j<(num u).length) (h:bs.drop a=(num u).take j):rd bs a 0=(0,a,9):=by
 unfold rd;rw [if_pos rfl,h,go_cut0 u hu hj]
theorem Pt {bs:List UInt8} {a j:Nat} {n:Int} (h0: -9223372036854775808<=n) (h1:n<=9223372036854775807) (hj:j<(int n).length) (h:bs.drop a=(int n).take j):rdInt bs a 0=(0,a,9):=by
 have h:=Mh (fold_lt h0 h1) hj h;unfold rdInt;rw [h];show (unfold 0,a,(9:Int))=_;rw [Xc]
end Pk
namespace Oq
open Pk
abbrev Rdr (α:Type):=List UInt8->Nat->Int->α × Nat × Int
structure Cm {α:Type} (f:Rdr α) (enc:α->List UInt8) (ok:α->Prop):Prop where
 back:∀bs a x r,ok x->bs.drop a=enc x++r->f bs a 0=(x,a+(enc x).length,0)
 cut:∀bs a x j,ok x->j<(enc x).length->bs.drop a=(enc x).take j->(f bs a 0).2.2=9
 stay:∀bs a e,e≠0->(f bs a e).2.2=e
 inv:∀bs a e,(f bs a e).2.2=0->e=0/\ok (f bs a e).1/\(f bs a e).2.1=a+(enc (f bs a e).1).length/\∃r,bs.drop a=enc (f bs a e).1++r
section
variable {α β : Type}
def seq (f:Rdr α) (g:Rdr β):Rdr (α × β):=fun bs a e=>
 (((f bs a e).1,(g bs (f bs a e).2.1 (f bs a e).2.2).1),(g bs (f bs a e).2.1 (f bs a e).2.2).2)
theorem Bu {f:Rdr α} {g:Rdr β} {bs:List UInt8} {a a1 a2:Nat} {e e1 e2:Int} {x:α} {y:β} (h:f bs a e=(x,a1,e1)) (k:g bs a1 e1=(y,a2,e2)):seq f g bs a e=((x,y),a2,e2):=by
 unfold seq;rw [h];show ((x,(g bs a1 e1).1),(g bs a1 e1).2)=_;rw [k]
def Gr (f:Rdr α) (g:α->β):Rdr β:=fun bs a e=>(g (f bs a e).1,(f bs a e).2)
theorem Im {f:Rdr α} {g:α->β} {bs:List UInt8} {a a1:Nat} {e e1:Int} {x:α} (h:f bs a e=(x,a1,e1)):Gr f g bs a e=(g x,a1,e1):=by
 unfold Gr;rw [h]
theorem Cm.seq {f:Rdr α} {g:Rdr β} {ef:α->List UInt8} {eg:β->List UInt8} {kf:α->Prop} {kg:β->Prop} (hf:Cm f ef kf) (hg:Cm g eg kg):
  Cm (seq f g) (fun p=>ef p.1++eg p.2) (fun p=>kf p.1/\kg p.2) where
 back bs a x r hx h:=by
  rw [A62] at h;have h1:=hf.back bs a x.1 _ hx.1 h;have h2:=hg.back bs _ x.2 r hx.2 (Es h);rw [Bu h1 h2,A59,A60]
 cut bs a x j hx hj h:=by
  rw [A59] at hj
  rcases A64 j (ef x.1).length with h1|h1
  ·
   rw [A73 (by omega)] at h;have h9:=hf.cut bs a x.1 j hx.1 h1 h;show (g bs _ (f bs a 0).2.2).2.2=9;rw [hg.stay _ _ _ (by rw [h9];decide),h9]
  ·
   have hj':j=(ef x.1).length+(j-(ef x.1).length):=by omega
   rw [hj',A74] at h;have h2:=hf.back bs a x.1 _ hx.1 h;have h3:=hg.cut bs _ x.2 _ hx.2 (by omega) (Es h);show (g bs (f bs a 0).2.1 (f bs a 0).2.2).2.2=9;rw [h2];exact h3
 stay bs a e he:=by
  show (g bs (f bs a e).2.1 (f bs a e).2.2).2.2=e;rw [hg.stay _ _ _ (by rw [hf.stay _ _ _ he];exact he),hf.stay _ _ _ he]
 inv bs a e h:=by
  rcases hX:f bs a e with ⟨x,a1,e1⟩
  rcases hY:g bs a1 e1 with ⟨y,a2,e2⟩
  have hs:=Bu hX hY;rw [hs] at h ⊢;have hi:=hg.inv bs a1 e1;rw [hY] at hi;obtain ⟨h1,h2,h3,r,h4⟩:=hi h;have ki:=hf.inv bs a e;rw [hX] at ki;obtain ⟨k1,k2,k3,s,k4⟩:=ki h1;have k3':a1=a+(ef x).length:=k3;have h3':a2=a1+(eg y).length:=h3;have k4':bs.drop a=ef x++s:=k4;have h5:s=eg y++r:=by rw [<- Es k4',<- k3'];exact h4
  refine ⟨k1,⟨k2,h2⟩,?_,r,?_⟩
  ·
   show a2=a+(ef x++eg y).length;rw [h3',k3',A59,A60]
  ·
   show bs.drop a=ef x++eg y++r;rw [k4',h5,A62]
theorem Cm.map {f:Rdr α} {ef:α->List UInt8} {kf:α->Prop} (hf:Cm f ef kf) {g:α->β} {h:β->α} {eb:β->List UInt8} {kb:β->Prop} (hg:∀x,h (g x)=x) (gh:∀y,g (h y)=y) (he:∀y,eb y=ef (h y)) (hk:∀y,kb y<->kf (h y)):Cm (Gr f g) eb kb where
 back bs a x r hx hd:=by
  rw [he] at hd ⊢;rw [Im (hf.back bs a (h x) r ((hk _).1 hx) hd),gh]
 cut bs a x j hx hj hd:=by
  rw [he] at hd hj;exact hf.cut bs a (h x) j ((hk _).1 hx) hj hd
 stay:=hf.stay
 inv bs a e h0:=by
  obtain ⟨h1,h2,h3,r,h4⟩:=hf.inv bs a e h0;refine ⟨h1,?_,?_,r,?_⟩
  · rw [hk];show kf (h (g _));rw [hg];exact h2
  · rw [he];show (f bs a e).2.1=a+(ef (h (g _))).length;rw [hg];exact h3
  · rw [he];show bs.drop a=ef (h (g _))++r;rw [hg];exact h4
def loop (f:Rdr α):Nat->List UInt8->Nat->Int->List α × Nat × Int
 |0,_,a,e=>([],a,e)
 |n+1,bs,a,e=>if e=0 then ((f bs a e).1::(loop f n bs (f bs a e).2.1 (f bs a e).2.2).1,(loop f n bs (f bs a e).2.1 (f bs a e).2.2).2) else ([],a,e)
def Bk (f:Rdr α):Rdr (List α):=fun bs a e=>loop f (rdMany bs a e 1000).1.toNat bs (rdMany bs a e 1000).2.1 (rdMany bs a e 1000).2.2
def lst (enc:α->List UInt8) (l:List α):List UInt8:=Pk.int l.length++l.flatMap enc
theorem Pu (f:Rdr α) (n:Nat) (bs:List UInt8) (a:Nat) (e:Int):loop f (n+1) bs a e=if e=0 then ((f bs a e).1::(loop f n bs (f bs a e).2.1 (f bs a e).2.2).1,(loop f n bs (f bs a e).2.1 (f bs a e).2.2).2) else ([],a,e):=rfl
theorem Gs (f:Rdr α):∀n bs a e,e≠0->loop f n bs a e=([],a,e)
 |0,_,_,_,_=>rfl
 |n+1,bs,a,e,he=>by rw [Pu,if_neg he]
theorem Jt (f:Rdr α) (n:Nat) (bs:List UInt8) (a:Nat):loop f (n+1) bs a 0=((f bs a 0).1::(loop f n bs (f bs a 0).2.1 (f bs a 0).2.2).1,(loop f n bs (f bs a 0).2.1 (f bs a 0).2.2).2):=by rw [Pu,if_pos rfl]
theorem Pv {f:Rdr α} {ef:α->List UInt8} {kf:α->Prop} (hf:Cm f ef kf) (bs:List UInt8):∀(l:List α) (a:Nat) (r:List UInt8),(∀x∈l,kf x)->bs.drop a=l.flatMap ef++r->loop f l.length bs a 0=(l,a+(l.flatMap ef).length,0)
 |[],a,r,_,_=>rfl
 |x::l,a,r,hk,h=>by
  rw [A61,A62] at h;have h1:=hf.back bs a x _ (hk x (by simp)) h;have h2:=Pv hf bs l _ r (fun y hy=>hk y (by simp [hy])) (Es h);rw [A67,Jt,h1];show (x::(loop f l.length bs (a+(ef x).length) 0).1,(loop f l.length bs (a+(ef x).length) 0).2)=_;rw [h2,A61,A59,A60]
theorem Pw {f:Rdr α} {ef:α->List UInt8} {kf:α->Prop} (hf:Cm f ef kf) (bs:List UInt8):∀(l:List α) (a j:Nat),(∀x∈l,kf x)->j<(l.flatMap ef).length->bs.drop a=(l.flatMap ef).take j->(loop f l.length bs a 0).2.2=9
 |[],a,j,_,hj,_=>by simp at hj
 |x::l,a,j,hk,hj,h=>by
  rw [A61] at h hj;rw [A59] at hj;rw [A67,Jt];show (loop f l.length bs (f bs a 0).2.1 (f bs a 0).2.2).2.2=9
  rcases A64 j (ef x).length with h1|h1
  ·
   rw [A73 (by omega)] at h;have h9:=hf.cut bs a x j (hk x (by simp)) h1 h;rw [h9,Gs _ _ _ _ _ (by decide)]
  ·
   have hj':j=(ef x).length+(j-(ef x).length):=by omega
   rw [hj',A74] at h;rw [hf.back bs a x _ (hk x (by simp)) h];exact Pw hf bs l _ (j-(ef x).length) (fun y hy=>hk y (by simp [hy])) (by omega) (Es h)
theorem Px {f:Rdr α} {ef:α->List UInt8} {kf:α->Prop} (hf:Cm f ef kf) (bs:List UInt8):∀(n a:Nat) (e:Int),(loop f n bs a e).2.2=0->
  e=0/\(loop f n bs a e).1.length=n/\(∀x∈(loop f n bs a e).1,kf x)/\(loop f n bs a e).2.1=a+((loop f n bs a e).1.flatMap ef).length/\∃r,bs.drop a=(loop f n bs a e).1.flatMap ef++r
 |0,a,e,h=>⟨h,rfl,fun _ hx=>(by cases hx),rfl,bs.drop a,rfl⟩
 |n+1,a,e,h=>by
  by_cases he:e=0
  ·
   subst he
   rcases hX:f bs a 0 with ⟨x,a1,e1⟩
   rcases hY:loop f n bs a1 e1 with ⟨l,a2,e2⟩
   have hl:loop f (n+1) bs a 0=(x::l,a2,e2):=by rw [Jt,hX];show (x::(loop f n bs a1 e1).1,(loop f n bs a1 e1).2)=_;rw [hY]
   rw [hl] at h ⊢;have hi:=Px hf bs n a1 e1;rw [hY] at hi;obtain ⟨h1,h2,h3,h4,r,h5⟩:=hi h;have ki:=hf.inv bs a 0;rw [hX] at ki;obtain ⟨k1,k2,k3,s,k4⟩:=ki h1;have k3':a1=a+(ef x).length:=k3;have h4':a2=a1+(l.flatMap ef).length:=h4;have k4':bs.drop a=ef x++s:=k4;have h2':l.length=n:=h2;have h6:s=l.flatMap ef++r:=by rw [<- Es k4',<- k3'];exact h5
   refine ⟨rfl,by show (x::l).length=n+1;simp [h2'],?_,?_,r,?_⟩
   ·
    intro y hy
    rcases List.mem_cons.1 hy with rfl|hy
    · exact k2
    · exact h3 y hy
   ·
    show a2=a+((x::l).flatMap ef).length;rw [h4',k3',A61,A59,A60]
   ·
    show bs.drop a=(x::l).flatMap ef++r;rw [k4',h6,A61,A62]
  ·
   rw [Gs f _ _ _ _ he] at h;exact absurd h he
theorem Mi (bs:List UInt8) (a:Nat) (e:Int) (he:e≠0):rdInt bs a e=(0,a,e):=by unfold rdInt;rw [rd_ne he];show (unfold 0,a,e)=_;rw [show unfold 0=0 by decide]
theorem Xd (bs:List UInt8) (a:Nat) (e M:Int) (hM:0<=M) (he:e≠0):rdMany bs a e M=(0,a,e):=by
 unfold rdMany;rw [Mi _ _ _ he];rw [if_neg (by show ¬((0:Int)<0\/M<0);omega)]
theorem Py {bs:List UInt8} {a:Nat} {e:Int} (h:(rdInt bs a e).2.2=0):e=0/\(-9223372036854775808<=(rdInt bs a e).1/\(rdInt bs a e).1<=9223372036854775807)/\(rdInt bs a e).2.1=a+(int (rdInt bs a e).1).length/\∃r,bs.drop a=int (rdInt bs a e).1++r:=by
 obtain ⟨h1,h2,r,h3⟩:=Me (show (rd bs a e).2.2=0 from h);have hf:int (rdInt bs a e).1=num (rd bs a e).1:=by show num (fold (unfold _))=_;rw [Wk]
 exact ⟨h1,Wl (rd_lt bs a e),by rw [hf];exact h2,r,by rw [hf];exact h3⟩
theorem good_num:Cm rd num (fun n=>n<18446744073709551616) where
 back bs a x r hx h:=Ik hx h
 cut bs a x j hx hj h:=by rw [Mh hx hj h]
 stay bs a e he:=by rw [rd_ne he]
 inv bs a e h:=by
  obtain ⟨h1,h2,h3⟩:=Me h;exact ⟨h1,rd_lt bs a e,h2,h3⟩
def I64 (n:Int):Prop:= -9223372036854775808<=n/\n<=9223372036854775807
theorem good_int:Cm rdInt int I64 where
 back bs a x r hx h:=Js hx.1 hx.2 h
 cut bs a x j hx hj h:=by rw [Pt hx.1 hx.2 hj h]
 stay bs a e he:=by rw [Mi _ _ _ he]
 inv bs a e h:=Py h
theorem Cm.lst {f:Rdr α} {ef:α->List UInt8} {kf:α->Prop} (hf:Cm f ef kf):Cm (Bk f) (lst ef) (fun l=>l.length<=1000/\∀x∈l,kf x) where
 back bs a x r hx h:=by
  unfold Oq.lst at h ⊢;rw [A62] at h;have h1:=Ps (M:=1000) (by omega) (by omega) (by omega) h;have h2:=Pv hf bs x _ r hx.2 (Es h);unfold Bk;rw [h1];show loop f x.length bs _ 0=_;rw [h2,A59,A60]
 cut bs a x j hx hj h:=by
  unfold Oq.lst at h hj;rw [A59] at hj
  rcases A64 j (Pk.int x.length).length with h1|h1
  ·
   rw [A73 (by omega)] at h;have h9:=Pt (by omega) (by omega) h1 h;have hm:rdMany bs a 0 1000=(0,a,9):=by unfold rdMany;rw [h9];rw [if_neg (by show ¬((0:Int)<0\/(1000:Int)<0);omega)]
   unfold Bk;rw [hm];rfl
  ·
   have hj':j=(Pk.int x.length).length+(j-(Pk.int x.length).length):=by omega
   rw [hj',A74] at h;have h2:=Ps (M:=1000) (by omega) (by omega) (by omega) h;unfold Bk;rw [h2];exact Pw hf bs x _ _ hx.2 (by omega) (Es h)
 stay bs a e he:=by
  unfold Bk;rw [Xd _ _ _ _ (by decide) he];rfl
 inv bs a e h:=by
  obtain ⟨h1,h2,h3,h4,r,h5⟩:=Px hf bs _ _ _ h
  have hc:¬((rdInt bs a e).1<0\/1000<(rdInt bs a e).1):=by
   intro hc;have:rdMany bs a e 1000=(0,a,7):=by unfold rdMany;rw [if_pos hc]
   rw [this] at h1;exact absurd (show (7:Int)=0 from h1) (by decide)
  have hm:rdMany bs a e 1000=rdInt bs a e:=by unfold rdMany;rw [if_neg hc]
  rw [hm] at h1 h2;obtain ⟨k1,k2,k3,s,k4⟩:=Py h1;have hl:Bk f bs a e=loop f (rdInt bs a e).1.toNat bs (rdInt bs a e).2.1 (rdInt bs a e).2.2:=by unfold Bk;rw [hm]
  rw [hm] at h3 h4 h5;rw [hl];rw [k3,Es k4] at h5;have hz:((loop f (rdInt bs a e).1.toNat bs (rdInt bs a e).2.1 (rdInt bs a e).2.2).1.length:Int)=(rdInt bs a e).1:=by rw [h2];omega
  refine ⟨k1,⟨by omega,h3⟩,?_,r,?_⟩
  ·
   unfold Oq.lst;rw [hz,A59,h4,k3,A60]
  ·
   unfold Oq.lst;rw [hz,A62,k4,k3,<- h5]
end
structure Id where
 b:Int
 s:Int
 u:Nat
abbrev Id.V (i:Id):Array Value:=#[.int .i64 i.b,.int .i64 i.s,.int .u64 (i.u:Int)]
structure Bx where
 t:Nat
 e:Nat
 y:Nat
 g:Nat
structure Nd where
 p:Nat
 xs:List Bx
structure Sl where
 f:Id
 y:List UInt8
structure Op where
 by_:Int
 sq:Int
 kind:Int
 at_:Int
 past:List Id
 dev:Int
 old:Int
 mem:Int
 role:Int
 path:List Nd
 epoch:Id
 n:Int
 body:List UInt8
 refs:List Nat
 of:Id
 guards:List Int
 need:Int
 wait:Int
 boxes:List Bx
 pub:Nat
 hist:List Sl
 r:Nat
 s:Nat
abbrev U64 (n:Nat):Prop:=n<18446744073709551616
def Id.bytes (i:Id):List UInt8:=Pk.ident i.b i.s i.u
def Id.ok (i:Id):Prop:=I64 i.b/\I64 i.s/\U64 i.u
def Bx.bytes (x:Bx):List UInt8:=num x.t++num x.e++num x.y++num x.g
def Bx.ok (x:Bx):Prop:=U64 x.t/\U64 x.e/\U64 x.y/\U64 x.g
def Nd.bytes (x:Nd):List UInt8:=num x.p++lst Bx.bytes x.xs
def Nd.ok (x:Nd):Prop:=U64 x.p/\x.xs.length<=1000/\∀b∈x.xs,b.ok
def Sl.bytes (x:Sl):List UInt8:=x.f.bytes++text x.y
def Sl.ok (x:Sl):Prop:=x.f.ok/\x.y.length<=9223372036854775807
def Dn:Rdr Id:=Gr rdIdent (fun p=>⟨p.1,p.2.1,p.2.2⟩)
def Ef:Rdr Bx:=Gr (seq (seq (seq rd rd) rd) rd) (fun p=>⟨p.1.1.1,p.1.1.2,p.1.2,p.2⟩)
def Fi:Rdr Nd:=Gr (seq rd (Bk Ef)) (fun p=>⟨p.1,p.2⟩)
def E5:Rdr Sl:=Gr (seq Dn rdText) (fun p=>⟨p.1,p.2⟩)
theorem Xe (bs:List UInt8) (a:Nat) (e:Int) (he:e≠0):rdIdent bs a e=((0,0,0),a,e):=by
 unfold rdIdent;simp only [Mi _ _ _ he,rd_ne he,ne_eq,he,not_false_eq_true,if_true]
theorem good_ident:Cm rdIdent (fun p=>Pk.ident p.1 p.2.1 p.2.2) (fun p=>I64 p.1/\I64 p.2.1/\U64 p.2.2) where
 back bs a x r hx h:=Xb hx.1.1 hx.1.2 hx.2.1.1 hx.2.1.2 hx.2.2 h
 cut bs a x j hx hj h:=by
  have hg:=(good_int.seq good_int).seq good_num;have h9:=hg.cut bs a ((x.1,x.2.1),x.2.2) j ⟨⟨hx.1,hx.2.1⟩,hx.2.2⟩ hj h;have h9':(rd bs (rdInt bs (rdInt bs a 0).2.1 (rdInt bs a 0).2.2).2.1 (rdInt bs (rdInt bs a 0).2.1 (rdInt bs a 0).2.2).2.2).2.2=9:=h9;unfold rdIdent;rw [if_pos (by rw [h9'];decide),h9']
 stay bs a e he:=by rw [Xe _ _ _ he]
 inv bs a e h:=by
  have hc:¬((rd bs (rdInt bs (rdInt bs a e).2.1 (rdInt bs a e).2.2).2.1 (rdInt bs (rdInt bs a e).2.1 (rdInt bs a e).2.2).2.2).2.2≠0):=by
   intro hc;unfold rdIdent at h;rw [if_pos hc] at h;exact hc h
  have hg:=(good_int.seq good_int).seq good_num;obtain ⟨h1,h2,h3,r,h4⟩:=hg.inv bs a e (Decidable.not_not.1 hc);unfold rdIdent;rw [if_neg hc];exact ⟨h1,⟨h2.1.1,h2.1.2,h2.2⟩,h3,r,h4⟩
theorem good_id:Cm Dn Id.bytes Id.ok:=good_ident.map (h:=fun i=>(i.b,i.s,i.u)) (fun _=>rfl) (fun _=>rfl) (fun _=>rfl) (fun _=>Iff.rfl)
theorem good_bx:Cm Ef Bx.bytes Bx.ok:=
 (((good_num.seq good_num).seq good_num).seq good_num).map (h:=fun x=>(((x.t,x.e),x.y),x.g)) (fun _=>rfl) (fun _=>rfl) (fun _=>rfl)
  (fun _=>⟨fun h=>⟨⟨⟨h.1,h.2.1⟩,h.2.2.1⟩,h.2.2.2⟩,fun h=>⟨h.1.1.1,h.1.1.2,h.1.2,h.2⟩⟩)
theorem good_nd:Cm Fi Nd.bytes Nd.ok:=(good_num.seq good_bx.lst).map (h:=fun x=>(x.p,x.xs)) (fun _=>rfl) (fun _=>rfl) (fun _=>rfl) (fun _=>Iff.rfl)
theorem Pz:Cm rdText text (fun s=>s.length<=9223372036854775807) where
 back bs a x r hx h:=Xa hx h
 cut bs a s j hx hj h:=by
  have hf:fold (s.length:Int)=2*s.length:=by unfold fold;rw [if_neg (by omega)];omega
  have e:text s=num (2*s.length)++s:=by unfold text int;rw [hf]
  rw [e] at h hj;rw [A59] at hj
  rcases A64 j (num (2*s.length)).length with h1|h1
  ·
   rw [A73 (by omega)] at h;unfold rdText;rw [Mh (by omega) h1 h,if_pos (show (9:Int)≠0 by decide)]
  ·
   have hj':j=(num (2*s.length)).length+(j-(num (2*s.length)).length):=by omega
   rw [hj',A74] at h;have hd:=Pr h (Po _);rw [A82] at hd;unfold rdText;rw [Ik (by omega) h,if_neg (by simp),if_neg (by show ¬(2*s.length%2=1);omega),if_pos (by show bs.length<a+(num (2*s.length)).length+2*s.length/2;omega)]
 stay bs a e he:=by unfold rdText;rw [rd_ne he,if_pos he]
 inv bs a e h:=by
  unfold rdText at h ⊢
  by_cases h1:(rd bs a e).2.2≠0
  ·
   rw [if_pos h1] at h;exact absurd h h1
  ·
   rw [if_neg h1] at h ⊢
   by_cases h2:(rd bs a e).1%2=1
   ·
    rw [if_pos h2] at h;exact absurd (show (7:Int)=0 from h) (by decide)
   ·
    rw [if_neg h2] at h ⊢
    by_cases h3:bs.length<(rd bs a e).2.1+(rd bs a e).1/2
    ·
     rw [if_pos h3] at h;exact absurd (show (9:Int)=0 from h) (by decide)
    ·
     rw [if_neg h3];obtain ⟨k1,k2,r,k3⟩:=Me (Decidable.not_not.1 h1);have hl:=rd_lt bs a e;have hm:=Es k3;rw [<- k2] at hm;have hlen:((bs.drop (rd bs a e).2.1).take ((rd bs a e).1/2)).length=(rd bs a e).1/2:=by rw [A82,A95];omega
     have hf:Pk.int (((bs.drop (rd bs a e).2.1).take ((rd bs a e).1/2)).length:Nat)=num (rd bs a e).1:=by
      rw [hlen];unfold Pk.int;congr 1;unfold fold;rw [if_neg (by omega)];omega
     have ht:text ((bs.drop (rd bs a e).2.1).take ((rd bs a e).1/2))=num (rd bs a e).1++(bs.drop (rd bs a e).2.1).take ((rd bs a e).1/2):=by unfold text;rw [hf]
     refine ⟨k1,by show List.length _<=_;rw [hlen];omega,?_,bs.drop ((rd bs a e).2.1+(rd bs a e).1/2),?_⟩
     ·
      show (rd bs a e).2.1+(rd bs a e).1/2=a+(text _).length;rw [ht,A59,hlen];omega
     ·
      show bs.drop a=text _++_;rw [ht,A62,<- List.drop_drop,List.take_append_drop,hm];exact k3
theorem good_sl:Cm E5 Sl.bytes Sl.ok:=by
 have h:=good_id.seq Pz;unfold E5;refine Cm.map h (h:=fun x=>(x.f,x.y)) ?_ ?_ ?_ ?_
 · intro x;rfl
 · intro x;rfl
 · intro x;rfl
 ·
  intro x;exact ⟨fun h=>⟨h.1,h.2⟩,fun h=>⟨h.1,h.2⟩⟩
end Oq
namespace Oq
def SlAt (w:World) (B size:Nat) (A:Option Addr) (n c:Nat) (xs:List Value):Prop:=Rd w B size A n xs/\n<=c/\c<=9223372036854775807
section
variable {S : Nat -> Prop} {w w' : World} {B B' size n c : Nat} {A : Option Addr} {xs : List Value}
theorem SlAt.fr (h:SlAt w B size A n c xs) (hf:Fr S w w') (hs:∀k,k<B->¬S k):SlAt w' B size A n c xs:=⟨h.1.fr hf hs,h.2⟩
theorem SlAt.mono (h:SlAt w B size A n c xs) (hB:B<=B'):SlAt w B' size A n c xs:=⟨h.1.mono hB,h.2⟩
theorem SlAt.nil (w:World) (B size:Nat):SlAt w B size none 0 0 []:=⟨Rd.nil _ _ _ _,by omega,by omega⟩
theorem SlAt.rd (h:SlAt w B size A n c xs):Rd w B size A n xs:=h.1
end
def Uv (n:Nat):Value:=.int .u64 (n:Int)
def Iv (n:Int):Value:=.int .i64 n
def Id.cells (i:Id):List Value:=[.int .i64 i.b,.int .i64 i.s,.int .u64 (i.u:Int)]
def Bx.cells (x:Bx):List Value:=[.int .u64 (x.t:Int),.int .u64 (x.e:Int),.int .u64 (x.y:Int),.int .u64 (x.g:Int)]
structure NdL where
 p:Nat
 A:Option Addr
 c:Nat
 xs:List Bx
def NdL.nd (x:NdL):Nd:=⟨x.p,x.xs⟩
def NdL.cells (x:NdL):List Value:=[.int .u64 (x.p:Int),.slice x.A x.xs.length x.c]
def NdL.at (w:World) (B:Nat) (x:NdL):Prop:=SlAt w B 4 x.A x.xs.length x.c (x.xs.flatMap Bx.cells)
structure SlL where
 f:Id
 A:Option Addr
 c:Nat
 y:List UInt8
def SlL.sl (x:SlL):Sl:=⟨x.f,x.y⟩
def SlL.cells (x:SlL):List Value:=[.int .i64 x.f.b,.int .i64 x.f.s,.int .u64 (x.f.u:Int),.slice x.A x.y.length x.c]
def SlL.at (w:World) (B:Nat) (x:SlL):Prop:=SlAt w B 1 x.A x.y.length x.c (x.y.map Bv)
structure OpL where
 by_:Int
 sq:Int
 kind:Int
 at_:Int
 pastA:Option Addr
 pastC:Nat
 past:List Id
 dev:Int
 old:Int
 mem:Int
 role:Int
 pathA:Option Addr
 pathC:Nat
 path:List NdL
 epoch:Id
 n:Int
 bodyA:Option Addr
 bodyC:Nat
 body:List UInt8
 refsA:Option Addr
 refsC:Nat
 refs:List Nat
 of:Id
 guardsA:Option Addr
 guardsC:Nat
 guards:List Int
 need:Int
 wait:Int
 boxesA:Option Addr
 boxesC:Nat
 boxes:List Bx
 pub:Nat
 histA:Option Addr
 histC:Nat
 hist:List SlL
 r:Nat
 s:Nat
def OpL.op (x:OpL):Op:=
  {by_:=x.by_,sq:=x.sq,kind:=x.kind,at_:=x.at_,past:=x.past,dev:=x.dev,old:=x.old,mem:=x.mem,role:=x.role,path:=x.path.map NdL.nd,epoch:=x.epoch,n:=x.n,body:=x.body,refs:=x.refs,of:=x.of,
    guards:=x.guards,need:=x.need,wait:=x.wait,boxes:=x.boxes,pub:=x.pub,hist:=x.hist.map SlL.sl,r:=x.r,s:=x.s}
def OpL.cells (x:OpL):Array Value:=
 #[.int .i64 x.by_,.int .i64 x.sq,.int .i64 x.kind,.int .i64 x.at_,.slice x.pastA x.past.length x.pastC,.int .i64 x.dev,.int .i64 x.old,.int .i64 x.mem,.int .i64 x.role,.slice x.pathA x.path.length x.pathC,
  .int .i64 x.epoch.b,.int .i64 x.epoch.s,.int .u64 (x.epoch.u:Int),.int .i64 x.n,.slice x.bodyA x.body.length x.bodyC,.slice x.refsA x.refs.length x.refsC,.int .i64 x.of.b,.int .i64 x.of.s,.int .u64 (x.of.u:Int),
  .slice x.guardsA x.guards.length x.guardsC,.int .i64 x.need,.int .i64 x.wait,.slice x.boxesA x.boxes.length x.boxesC,.int .u64 (x.pub:Int),.slice x.histA x.hist.length x.histC,.int .u64 (x.r:Int),.int .u64 (x.s:Int)]
structure OpL.at (w:World) (B:Nat) (x:OpL):Prop where
 past:SlAt w B 3 x.pastA x.past.length x.pastC (x.past.flatMap Id.cells)
 path:SlAt w B 2 x.pathA x.path.length x.pathC (x.path.flatMap NdL.cells)
 nodes:∀y∈x.path,y.at w B
 body:SlAt w B 1 x.bodyA x.body.length x.bodyC (x.body.map Bv)
 refs:SlAt w B 1 x.refsA x.refs.length x.refsC (x.refs.map Uv)
 guards:SlAt w B 1 x.guardsA x.guards.length x.guardsC (x.guards.map Iv)
 boxes:SlAt w B 4 x.boxesA x.boxes.length x.boxesC (x.boxes.flatMap Bx.cells)
 hist:SlAt w B 4 x.histA x.hist.length x.histC (x.hist.flatMap SlL.cells)
 seals:∀y∈x.hist,y.at w B
section
variable {S : Nat -> Prop} {w w' : World} {B B' : Nat}
theorem NdL.at.fr {x:NdL} (h:x.at w B) (hf:Fr S w w') (hs:∀k,k<B->¬S k):x.at w' B:=SlAt.fr h hf hs
theorem NdL.at.mono {x:NdL} (h:x.at w B) (hB:B<=B'):x.at w B':=SlAt.mono h hB
theorem SlL.at.fr {x:SlL} (h:x.at w B) (hf:Fr S w w') (hs:∀k,k<B->¬S k):x.at w' B:=SlAt.fr h hf hs
theorem SlL.at.mono {x:SlL} (h:x.at w B) (hB:B<=B'):x.at w B':=SlAt.mono h hB
theorem OpL.at.fr {x:OpL} (h:x.at w B) (hf:Fr S w w') (hs:∀k,k<B->¬S k):x.at w' B where
 past:=h.past.fr hf hs
 path:=h.path.fr hf hs
 nodes y hy:=(h.nodes y hy).fr hf hs
 body:=h.body.fr hf hs
 refs:=h.refs.fr hf hs
 guards:=h.guards.fr hf hs
 boxes:=h.boxes.fr hf hs
 hist:=h.hist.fr hf hs
 seals y hy:=(h.seals y hy).fr hf hs
theorem OpL.at.mono {x:OpL} (h:x.at w B) (hB:B<=B'):x.at w B' where
 past:=h.past.mono hB
 path:=h.path.mono hB
 nodes y hy:=(h.nodes y hy).mono hB
 body:=h.body.mono hB
 refs:=h.refs.mono hB
 guards:=h.guards.mono hB
 boxes:=h.boxes.mono hB
 hist:=h.hist.mono hB
 seals y hy:=(h.seals y hy).mono hB
end
structure Op.ok (o:Op):Prop where
 by_:I64 o.by_
 sq:I64 o.sq
 kind:I64 o.kind
 at_:I64 o.at_
 past:o.past.length<=1000/\∀x∈o.past,x.ok
 dev:I64 o.dev
 old:I64 o.old
 mem:I64 o.mem
 role:I64 o.role
 path:o.path.length<=1000/\∀x∈o.path,x.ok
 epoch:o.epoch.ok
 n:I64 o.n
 body:o.body.length<=1000000
 refs:o.refs.length<=1000/\∀x∈o.refs,U64 x
 of:o.of.ok
 guards:o.guards.length<=1000/\∀x∈o.guards,I64 x
 need:I64 o.need
 wait:I64 o.wait
 boxes:o.boxes.length<=1000/\∀x∈o.boxes,x.ok
 pub:U64 o.pub
 hist:o.hist.length<=1000/\∀x∈o.hist,x.f.ok/\x.y.length<=1000000
 r:U64 o.r
 s:U64 o.s
def Op.bare (o:Op):List UInt8:=
 Pk.int o.by_++Pk.int o.sq++Pk.int o.kind++Pk.int o.at_++lst Id.bytes o.past++Pk.int o.dev++Pk.int o.old++Pk.int o.mem++Pk.int o.role++lst Nd.bytes o.path++o.epoch.bytes++Pk.int o.n++Pk.text o.body++
  lst Pk.num o.refs++o.of.bytes++lst Pk.int o.guards++Pk.int o.need++Pk.int o.wait++lst Bx.bytes o.boxes++Pk.num o.pub++lst Sl.bytes o.hist
def Op.put (o:Op):List UInt8:=o.bare++Pk.num o.r++Pk.num o.s
def Op.zero:Op:=
 {by_:=0,sq:=0,kind:=0,at_:=0,past:=[],dev:=0,old:=0,mem:=0,role:=0,path:=[],epoch:=⟨0,0,0⟩,n:=0,body:=[],refs:=[],of:=⟨0,0,0⟩,guards:=[],need:=0,wait:=0,boxes:=[],pub:=0,hist:=[],r:=0,s:=0}
end Oq
section
open Go.ChangeShapes Go.WideShapes Go.ChangeAt Go.RowKit Go.Deep
section
variable {H : Type} {enc : TypeId × Value -> H} {P : Program} {w : World} {spare : Nat -> Bool} {held : Bool}
theorem Mj {t e:TypeId} {v:Value} {d:DataW H} {p:List MemPlace} (ht:P.underlying t=some (.slice e)) (he:P.underlying e=some (.int .i64)) (hsz:P.cellsOf e=1)
  {r:Reach} {b0:Nat} (hv:Value.okWide P w r b0 t v) (h:DataW.Trod enc P w 0 spare held t v d p):
  ∃(A:Option Addr) (c:Nat) (l:List Int),v=.slice A l.length c/\l.length<=c/\c<=9223372036854775807/\Rd w w.heap.size 1 A l.length (l.map Oq.Iv)/\∀x∈l,Oq.I64 x:=by
 obtain ⟨a0,l0,c0,rfl⟩:=okWide_slice ht hv;obtain ⟨fuel,hf⟩:=h;obtain ⟨A,n,c,xs,hcs,hl,hnc,hc,hr,hall⟩:=Wi ht hsz (by omega) hf;have hcs':Value.slice a0 l0 c0=.slice A n c:=by simpa [Value.cells] using hcs
 obtain ⟨l,rfl,hok⟩:=Ph (f:=fun b=>[Oq.Iv b]) (Q:=Oq.I64) xs (fun c' hc'=>by
  obtain ⟨hcl,m,y,hy⟩:=hall c' hc';obtain ⟨z,rfl,_,hz⟩:=DataW.trod_int he hy;exact ⟨z,rfl,Wg hz⟩)
 have hll:l.length=n:=by simpa using hl
 subst hll;refine ⟨A,c,l,hcs',hnc,hc,?_,hok⟩;rw [<- flat1 Oq.Iv l];exact hr
