/- Contracts of functions, walked (part 2).
Conditions: as each theorem says. -/
import Derived.Laws.Tables
import Derived.Deep.Cut
import Derived.Deep.RegionWith
import Derived.Test.YtmcpnjoomlgmlaaGreatDoorRpM1
set_option maxRecDepth 100000
set_option maxHeartbeats 16000000
open Array renaming getElem?_modify->A71
open List renaming length_append->A61,append_nil->A62,map_append->A63,flatMap_append->A65,flatMap_cons->A66,flatMap_nil->A67,range->A70
open Nat renaming le_trans->A59,zero_add->A60,le_of_lt->A68,le_refl->A69
open Go.World renaming setRow->A64,frozen?->A72,size_alloc->A73
open Go.Proofs.Tryz
open Go.Proofs.Tryz renaming prog->zp
open Go.Lib renaming hid->lh
open List renaming set->zl
open Go.Ending renaming returned->ze
namespace Go.Proofs.YtmcpnjoomlgmlaaGreatDoor
open Go.RowKit
attribute [local go_sem ↓] Go.wp_at_zero Go.wp_at_succ
namespace Oq
def nx (L:List Int) (i:Nat) (m:Int):Int:=match L[i]? with
 |some x=>Ee x 1000000007%m
 |none=>0
def gId (L:List Int) (i:Nat):Id:=⟨1+nx L i 6,1+nx L (i+1) 9,(nx L (i+2) 1000000).toNat⟩
def gBx (L:List Int) (i:Nat):Bx:=⟨(1+nx L i 1000).toNat,(1+nx L (i+1) 1000).toNat,(nx L (i+2) 1000).toNat,(nx L (i+3) 1000).toNat⟩
def Mk (n:Nat) (L:List Int) (i:Nat):List Bx:=(A70 n).map fun k=>gBx L (i+4*k)
def gByte (L:List Int) (i:Nat):UInt8:=UInt8.ofNat (nx L i 256).toNat
def P8 (n:Nat) (L:List Int) (i:Nat):List UInt8:=(A70 n).map fun k=>gByte L (i+k)
def gRefs (n:Nat) (L:List Int) (i:Nat):List Nat:=(A70 n).map fun k=>(nx L (i+k) 1000).toNat
def Id.eq (a b:Id):Bool:=a.b==b.b&&(a.s==b.s&&a.u==b.u)
theorem Id.eq_iff (a b:Id):Id.eq a b=true<->a=b:=by
 cases a;cases b
 simp [Id.eq]
def Bd (l:List Id) (x:Id):Bool:=l.any (fun y=>Id.eq y x)
def Id.less (a b:Id):Bool:=if a.b=b.b then if a.s=b.s then decide (a.u<b.u) else decide (a.s<b.s) else decide (a.b<b.b)
def Bw (x:Id) (l:List Id):Nat->Nat
 |0=>0
 |k+1=>match l[k]? with
  |some y=>if Id.less x y then Bw x l k else k+1
  |none=>k+1
def ins (l:List Id) (x:Id):List Id:=l.take (Bw x l l.length)++[x]++l.drop (Bw x l l.length)
def Ba:List Id->List Id:=List.foldl ins []
def Ju (L:List Int) (i:Nat):Nat->List Int
 |0=>[]
 |k+1=>if nx L (i+k) 2=0\/(k=5/\(Ju L i k).length=0) then Ju L i k++[(k+1:Int)] else Ju L i k
def Hn (k:Int):Bool:=k==1||k==2||k==3||k==4||k==13
def g4 (L:List Int) (p:Op × Nat):Op × Nat:=
 let i:=p.2
 let o:=p.1
 if o.kind=1 then ({o with need:=nx L i 21},i+1)
 else if o.kind=2 then ({o with dev:=1+nx L i 12,role:=1+nx L (i+1) 3},i+2)
 else if o.kind=3 then (if nx L i 7=0 then ({o with dev:=0,mem:=1+nx L (i+1) 8},i+2) else ({o with dev:=nx L i 7},i+1))
 else if o.kind=5 then ({o with mem:=1+nx L i 8,role:=1+nx L (i+1) 3},i+2)
 else if o.kind=6 then
  let nb:=(8+nx L (i+4) 9).toNat
  let nr:=(nx L (i+5+nb) 3).toNat
  ({o with epoch:=gId L i,n:=nx L (i+3) 5,body:=P8 nb L (i+5),refs:=gRefs nr L (i+6+nb)},i+6+nb+nr)
 else if o.kind=7 then
  let nb:=(1+nx L (i+3) 4).toNat
  ({o with of:=gId L i,body:=P8 nb L (i+4)},i+4+nb)
 else if o.kind=9 then
  let gs:=Ju L i 6
  ({o with guards:=gs,need:=1+nx L (i+6) gs.length,wait:=nx L (i+7) 50,pub:=(1+nx L (i+8) 1000).toNat,boxes:=Mk gs.length L (i+9)},i+9+4*gs.length)
 else if o.kind=10 then
  let nb:=(1+nx L (i+3) 6).toNat
  ({o with of:=gId L i,boxes:=Mk nb L (i+4)},i+4+4*nb)
 else if o.kind=11 then ({o with of:=gId L i,dev:=1+nx L (i+3) 12,boxes:=Mk 1 L (i+4)},i+8)
 else if o.kind=13 then ({o with of:=gId L i,dev:=1+nx L (i+3) 12,old:=1+nx L (i+4) 12},i+5)
 else ({o with of:=(if o.kind=8\/o.kind=12 then gId L i else o.of)},if o.kind=8\/o.kind=12 then i+3 else i)
open Pk
structure Op.okR (o:Op):Prop where
 by_:I64 o.by_
 sq:I64 o.sq
 kind:I64 o.kind
 at_:I64 o.at_
 past:(o.past.length<=1000/\∀x∈o.past,Id.ok x)
 dev:I64 o.dev
 old:I64 o.old
 mem:I64 o.mem
 role:I64 o.role
 path:(o.path.length<=1000/\∀x∈o.path,Nd.ok x)
 epoch:Id.ok o.epoch
 n:I64 o.n
 body:o.body.length<=9223372036854775807
 refs:(o.refs.length<=1000/\∀x∈o.refs,U64 x)
 of:Id.ok o.of
 guards:(o.guards.length<=1000/\∀x∈o.guards,I64 x)
 need:I64 o.need
 wait:I64 o.wait
 boxes:(o.boxes.length<=1000/\∀x∈o.boxes,Bx.ok x)
 pub:U64 o.pub
 hist:(o.hist.length<=1000/\∀x∈o.hist,Sl.ok x)
 r:U64 o.r
 s:U64 o.s
def rdAll:Rdr ((((((((((((((((((((((Int × Int) × Int) × Int) × List Id) × Int) × Int) × Int) × Int) × List Nd) × Id) × Int) × List UInt8) × List Nat) × Id) × List Int) × Int) × Int) × List Bx) × Nat) × List Sl) × Nat) × Nat):=seq (seq (seq (seq (seq (seq (seq (seq (seq (seq (seq (seq (seq (seq (seq (seq (seq (seq (seq (seq (seq (seq rdInt rdInt) rdInt) rdInt) (Bk Dn)) rdInt) rdInt) rdInt) rdInt) (Bk Fi)) Dn) rdInt) rdText) (Bk rd)) Dn) (Bk rdInt)) rdInt) rdInt) (Bk Ef)) rd) (Bk E5)) rd) rd
def Ml (p:((((((((((((((((((((((Int × Int) × Int) × Int) × List Id) × Int) × Int) × Int) × Int) × List Nd) × Id) × Int) × List UInt8) × List Nat) × Id) × List Int) × Int) × Int) × List Bx) × Nat) × List Sl) × Nat) × Nat)):Op:=⟨p.1.1.1.1.1.1.1.1.1.1.1.1.1.1.1.1.1.1.1.1.1.1,p.1.1.1.1.1.1.1.1.1.1.1.1.1.1.1.1.1.1.1.1.1.2,p.1.1.1.1.1.1.1.1.1.1.1.1.1.1.1.1.1.1.1.1.2,p.1.1.1.1.1.1.1.1.1.1.1.1.1.1.1.1.1.1.1.2,p.1.1.1.1.1.1.1.1.1.1.1.1.1.1.1.1.1.1.2,p.1.1.1.1.1.1.1.1.1.1.1.1.1.1.1.1.1.2,p.1.1.1.1.1.1.1.1.1.1.1.1.1.1.1.1.2,p.1.1.1.1.1.1.1.1.1.1.1.1.1.1.1.2,p.1.1.1.1.1.1.1.1.1.1.1.1.1.1.2,p.1.1.1.1.1.1.1.1.1.1.1.1.1.2,p.1.1.1.1.1.1.1.1.1.1.1.1.2,p.1.1.1.1.1.1.1.1.1.1.1.2,p.1.1.1.1.1.1.1.1.1.1.2,p.1.1.1.1.1.1.1.1.1.2,p.1.1.1.1.1.1.1.1.2,p.1.1.1.1.1.1.1.2,p.1.1.1.1.1.1.2,p.1.1.1.1.1.2,p.1.1.1.1.2,p.1.1.1.2,p.1.1.2,p.1.2,p.2⟩
def unOp (o:Op):((((((((((((((((((((((Int × Int) × Int) × Int) × List Id) × Int) × Int) × Int) × Int) × List Nd) × Id) × Int) × List UInt8) × List Nat) × Id) × List Int) × Int) × Int) × List Bx) × Nat) × List Sl) × Nat) × Nat):=((((((((((((((((((((((o.by_,o.sq),o.kind),o.at_),o.past),o.dev),o.old),o.mem),o.role),o.path),o.epoch),o.n),o.body),o.refs),o.of),o.guards),o.need),o.wait),o.boxes),o.pub),o.hist),o.r),o.s)
def Gt:Rdr Op:=Gr rdAll Ml
theorem good_op:Cm Gt Op.put Op.okR:=by
 have h:=((((((((((((((((((((((good_int).seq (good_int)).seq (good_int)).seq (good_int)).seq (good_id.lst)).seq (good_int)).seq (good_int)).seq (good_int)).seq (good_int)).seq (good_nd.lst)).seq (good_id)).seq (good_int)).seq (Pz)).seq (good_num.lst)).seq (good_id)).seq (good_int.lst)).seq (good_int)).seq (good_int)).seq (good_bx.lst)).seq (good_num)).seq (good_sl.lst)).seq (good_num)).seq (good_num);refine Cm.map h (g:=Ml) (h:=unOp) (fun _=>rfl) (fun _=>rfl) (fun _=>rfl) ?_;intro o;exact ⟨fun k=>⟨⟨⟨⟨⟨⟨⟨⟨⟨⟨⟨⟨⟨⟨⟨⟨⟨⟨⟨⟨⟨⟨k.by_,k.sq⟩,k.kind⟩,k.at_⟩,k.past⟩,k.dev⟩,k.old⟩,k.mem⟩,k.role⟩,k.path⟩,k.epoch⟩,k.n⟩,k.body⟩,k.refs⟩,k.of⟩,k.guards⟩,k.need⟩,k.wait⟩,k.boxes⟩,k.pub⟩,k.hist⟩,k.r⟩,k.s⟩,fun k=>⟨k.1.1.1.1.1.1.1.1.1.1.1.1.1.1.1.1.1.1.1.1.1.1,k.1.1.1.1.1.1.1.1.1.1.1.1.1.1.1.1.1.1.1.1.1.2,k.1.1.1.1.1.1.1.1.1.1.1.1.1.1.1.1.1.1.1.1.2,k.1.1.1.1.1.1.1.1.1.1.1.1.1.1.1.1.1.1.1.2,k.1.1.1.1.1.1.1.1.1.1.1.1.1.1.1.1.1.1.2,k.1.1.1.1.1.1.1.1.1.1.1.1.1.1.1.1.1.2,k.1.1.1.1.1.1.1.1.1.1.1.1.1.1.1.1.2,k.1.1.1.1.1.1.1.1.1.1.1.1.1.1.1.2,k.1.1.1.1.1.1.1.1.1.1.1.1.1.1.2,k.1.1.1.1.1.1.1.1.1.1.1.1.1.2,k.1.1.1.1.1.1.1.1.1.1.1.1.2,k.1.1.1.1.1.1.1.1.1.1.1.2,k.1.1.1.1.1.1.1.1.1.1.2,k.1.1.1.1.1.1.1.1.1.2,k.1.1.1.1.1.1.1.1.2,k.1.1.1.1.1.1.1.2,k.1.1.1.1.1.1.2,k.1.1.1.1.1.2,k.1.1.1.1.2,k.1.1.1.2,k.1.1.2,k.1.2,k.2⟩⟩
theorem Op.ok.okR {o:Op} (h:o.ok):o.okR where
 by_:=h.by_
 sq:=h.sq
 kind:=h.kind
 at_:=h.at_
 past:=h.past
 dev:=h.dev
 old:=h.old
 mem:=h.mem
 role:=h.role
 path:=h.path
 epoch:=h.epoch
 n:=h.n
 body:=A59 h.body (by decide)
 refs:=h.refs
 of:=h.of
 guards:=h.guards
 need:=h.need
 wait:=h.wait
 boxes:=h.boxes
 pub:=h.pub
 hist:=⟨h.hist.1,fun x hx=>⟨(h.hist.2 x hx).1,A59 (h.hist.2 x hx).2 (by decide)⟩⟩
 r:=h.r
 s:=h.s
def get (bs:List UInt8):Op × Int:=
 if Pk.endE bs (Gt bs 0 0).2.1 (Gt bs 0 0).2.2≠0 then (Op.zero,Pk.endE bs (Gt bs 0 0).2.1 (Gt bs 0 0).2.2) else ((Gt bs 0 0).1,0)
theorem Xf {o:Op} (h:o.okR):get o.put=(o,0):=by
 have hb:=good_op.back o.put 0 o [] h (by rw [List.drop_zero,A62]);unfold get;rw [hb];have he:Pk.endE o.put (0+o.put.length) 0=0:=by unfold Pk.endE;rw [if_neg (by omega)]
 show (if Pk.endE o.put (0+o.put.length) 0≠0 then _ else _)=_;rw [he];rfl
end Oq
theorem Xg {P:Program} {o:Oper} {a:Act} {K:Act->World->Prop} {Q:Exit->Act->World->Prop} {w:World} (t:TypeId) (p:Operand) (hop:o.op=Op.load t p) {g:Nat} {t':TypeId} {cs:Array Value} {d:TypeDesc}
  (hp:a.eval p=.pointer (some ⟨g,0,none⟩)) (hb:Blk w g t' cs) (hu:P.underlying t=some d) (hd:(match d with| .struct _| .array _ _=>true|_=>false)=true) (hi:(P.info? t).map (·.size)=some cs.size)
  (hK:K (a.put o.dst (.agg cs)) w):Oper.wp P o a w K Q:=by
 have hrun:=run_loadVar_row (P:=P) w g t' t cs (0,0) d hb hu hd hi;unfold Oper.wp;simp [execOp,hop,hp,Instr.loadAt,Instr.sureAddr,hrun,Result.andThen];exact hK
theorem Jv {P:Program} {ops:Array Oper} {rest:List Oper} {o:Oper} {a:Act} {Q:Exit->Act->World->Prop} {w:World} (hg:o.guard=none) (t:TypeId) (p:Operand) (hop:o.op=Op.load t p) {g:Nat} {t':TypeId} {cs:Array Value} {d:TypeDesc}
  (hp:a.eval p=.pointer (some ⟨g,0,none⟩)) (hb:Blk w g t' cs) (hu:P.underlying t=some d) (hd:(match d with| .struct _| .array _ _=>true|_=>false)=true) (hi:(P.info? t).map (·.size)=some cs.size)
  (hK:wpList P ops Q rest (a.put o.dst (.agg cs)) w):wpList P ops Q (o::rest) a w:=
 wpList_plain hg fun _ hK'=>Xg t p hop hp hb hu hd hi (hK' _ _ hK)
theorem Blk.setRow {w:World} {g:Nat} {t:TypeId} {old cs:Array Value} (h:Blk w g t old):Blk (w.setRow g cs) g t cs:=by
 unfold Blk at h ⊢;simp [A64,A71,h]
theorem Blk.setRow_far {w:World} {g g':Nat} {t:TypeId} {old cs:Array Value} (h:Blk w g t old) (hn:g≠g'):Blk (w.setRow g' cs) g t old:=by
 unfold Blk at h ⊢;have hn':¬g'=g:=fun e=>hn e.symm;simp [A64,A71,h,hn']
theorem Fr.setRow {S:Nat->Prop} {a w:World} (h:Fr S a w) {g:Nat} (hg:g<a.heap.size->S g) (cs:Array Value):Fr S a (w.setRow g cs):=
 h.trans (S':=fun k=>k=g) ⟨rfl,rfl,rfl,by simp [A64],fun k _ hn=>by
  have hn':¬g=k:=fun e=>hn e.symm;simp [A64,A71,hn']⟩ (fun i hi e=>by subst e;exact hg hi)
theorem Jw {P:Program} {o:Oper} {a:Act} {K:Act->World->Prop} {Q:Exit->Act->World->Prop} {w:World} (t:TypeId) (p v:Operand) (hop:o.op=Op.store t p v) (hdst:o.dst=none) {g:Nat} {t':TypeId} {old cs:Array Value}
  (hp:a.eval p=.pointer (some ⟨g,0,none⟩)) (hv:a.eval v=.agg cs) (hb:Blk w g t' old) (hi:(P.info? t).map (·.size)=some cs.size) (ho:old.size=cs.size) (h1:cs.all (·.oneCell')=true)
  (hK:K a (w.setRow g cs)):Oper.wp P o a w K Q:=by
 have hrun:=run_storeVar_row (P:=P) w g t' t old cs hb hi ho h1;unfold Oper.wp;simp [execOp,hop,hp,hv,Instr.storeAt,Instr.sureAddr,hrun,Result.andThen];rw [Oper.upon_skip,hdst];exact hK
theorem Io {P:Program} {ops:Array Oper} {rest:List Oper} {o:Oper} {a:Act} {Q:Exit->Act->World->Prop} {w:World} (hg:o.guard=none) (t:TypeId) (p v:Operand) (hop:o.op=Op.store t p v) (hdst:o.dst=none) {g:Nat} {t':TypeId} {old cs:Array Value}
  (hp:a.eval p=.pointer (some ⟨g,0,none⟩)) (hv:a.eval v=.agg cs) (hb:Blk w g t' old) (hi:(P.info? t).map (·.size)=some cs.size) (ho:old.size=cs.size) (h1:cs.all (·.oneCell')=true)
  (hK:wpList P ops Q rest a (w.setRow g cs)):wpList P ops Q (o::rest) a w:=
 wpList_plain hg fun _ hK'=>Jw t p v hop hdst hp hv hb hi ho h1 (hK' _ _ hK)
def ldS (t:TypeId) (v:Value):=Instr.loadAt t v
theorem Bq (v:Value):Instr.loadAt 52 v=ldS 52 v:=rfl
theorem Be {P:Program} {t:TypeId} {d:TypeDesc} {cs:Array Value} (g:Nat) (t':TypeId) (hu:P.underlying t=some d) (hd:(match d with| .struct _| .array _ _=>true|_=>false)=true) (hi:(P.info? t).map (·.size)=some cs.size):
  ∀w',Blk w' g t' cs->(ldS t (.pointer (some ⟨g,0,none⟩))).run P w'=.ok (.agg cs) w':=fun w' h=>by
 have hrun:=run_loadVar_row (P:=P) w' g t' t cs (0,0) d h hu hd hi;unfold ldS;simp only [Instr.loadAt,Instr.sureAddr,Sem.run_bind,Sem.run_pure,Result.andThen];exact hrun
def stS (t:TypeId) (p v:Value):=Instr.storeAt t p v
theorem Dx (p v:Value):Instr.storeAt 52 p v=stS 52 p v:=rfl
theorem Xh (p v:Value):Instr.storeAt 103 p v=stS 103 p v:=rfl
theorem Xi (p v:Value):Instr.storeAt 119 p v=stS 119 p v:=rfl
theorem Cf {P:Program} {t:TypeId} {old cs:Array Value} (g:Nat) (t':TypeId) (hi:(P.info? t).map (·.size)=some cs.size) (ho:old.size=cs.size) (h1:cs.all (·.oneCell')=true):
  ∀w',Blk w' g t' old->(stS t (.pointer (some ⟨g,0,none⟩)) (.agg cs)).run P w'=.ok () (w'.setRow g cs):=fun w' h=>by
 have hrun:=run_storeVar_row (P:=P) w' g t' t old cs h hi ho h1;unfold stS;simp only [Instr.storeAt,Instr.sureAddr,Sem.run_bind,Sem.run_pure,Result.andThen];exact hrun
theorem Mm {w:World} {r g:Nat} {cs:Array Value} {i:Nat} {v:Value} (h:w.cell? ⟨g,i,none⟩=some v) (hne:r≠g):(w.setRow r cs).cell? ⟨g,i,none⟩=some v:=
 (Fr.setRow (S:=fun k=>k=r) (Fr.refl _ w) (fun _=>rfl) cs).cell h (fun e=>hne (by have e':g=r:=e;exact e'.symm))
namespace Oq
def RowAt (w:World) (base:Nat) (t:TypeId) (size:Nat) (A:Option Addr) (n c:Nat) (xs:List Value):Prop:=
 SlAt w w.heap.size size A n c xs/\(n=0\/∃k cs fr,A=some ⟨k,0,none⟩/\base<=k/\w.heap[k]? =some (.cells cs t fr)/\∀j,j<n*size->w.frozen? ⟨k,j,none⟩=false)
section
variable {S : Nat -> Prop} {w w' : World} {base base' size n c : Nat} {t : TypeId} {A : Option Addr} {xs : List Value}
theorem Xj {w w':World} {k:Nat} (h:w'.heap[k]? =w.heap[k]?) (j:Nat):w'.frozen? ⟨k,j,none⟩=w.frozen? ⟨k,j,none⟩:=by
 unfold A72;rw [h]
theorem RowAt.sl (h:RowAt w base t size A n c xs):SlAt w w.heap.size size A n c xs:=h.1
theorem RowAt.fr (h:RowAt w base t size A n c xs) (hf:Fr S w w') (hs:n≠0->∀k,Ad A=some k->¬S k):RowAt w' base t size A n c xs:=by
 obtain ⟨⟨⟨h1,h2⟩,h3⟩,h4⟩:=h
 rcases h4 with h0|⟨k,cs,fr,rfl,hk,hb,hz⟩
 · exact ⟨⟨⟨h1,.inl h0⟩,h3⟩,.inl h0⟩
 ·
  by_cases h0:n=0
  · exact ⟨⟨⟨h1,.inl h0⟩,h3⟩,.inl h0⟩
  ·
   have hkl:=(Array.getElem?_eq_some_iff.1 hb).1;have hbk:=hf.block k hkl (hs h0 k rfl);refine ⟨⟨⟨h1,?_⟩,h3⟩,.inr ⟨k,cs,fr,rfl,hk,hbk.trans hb,fun j hj=>(Xj hbk j).trans (hz j hj)⟩⟩
   rcases h2 with h2|⟨b,off,e,hlt,hc⟩
   · exact .inl h2
   ·
    injection e with e
    injection e with e1 e2
    subst e1 e2;exact .inr ⟨k,0,rfl,Nat.lt_of_lt_of_le hkl hf.size,fun j u hu=>(World.cell?_of_block hbk).trans (hc j u hu)⟩
theorem RowAt.lower (h:RowAt w base t size A n c xs) (hb:base'<=base):RowAt w base' t size A n c xs:=
 ⟨h.1,h.2.imp id fun ⟨k,cs,fr,e,hk,r⟩=>⟨k,cs,fr,e,A59 hb hk,r⟩⟩
theorem RowAt.of_own (h:Own w base t size A n c xs):RowAt w base t size A n c xs:=by
 refine ⟨⟨h.rd,h.cap⟩,?_⟩
 rcases h.2 with ⟨hv,hn⟩|⟨g,cap,cur,hv,hb,hg,_⟩
 · exact .inl hn
 ·
  injection hv with hA _ _
  refine .inr ⟨g,cur,(0,0),hA,hb,hg,fun j _=> ?_⟩;simp [A72,hg]
theorem RowAt.ne (h:RowAt w base t size A n c xs) {g:Nat} {t':TypeId} {cs:Array Value} {fr:Nat × Nat} (hb:w.heap[g]? =some (.cells cs t' fr)) (ht:t≠t'):n≠0->∀k,Ad A=some k->k≠g:=by
 intro h0 k hk
 rcases h.2 with hn|⟨k',cs',fr',rfl,_,hb',_⟩
 · exact absurd hn h0
 ·
  injection hk with hk
  subst hk;rintro rfl;rw [hb] at hb';injection hb' with hb'
  injection hb' with _ e _
  exact ht e.symm
theorem RowAt.far (h:RowAt w base t size A n c xs) {A':Option Addr} {base2 size2 n2 c2:Nat} {t':TypeId} {xs2:List Value} (ho:Own w base2 t' size2 A' n2 c2 xs2) (ht:t≠t'):n≠0->∀k,Ad A=some k->¬Ad A'=some k:=by
 intro h0 k hk hk'
 rcases ho.2 with ⟨hv,_⟩|⟨g,cap,cur,hv,_,hg,_⟩
 ·
  injection hv with hA _ _
  subst hA
  cases hk'
 ·
  injection hv with hA _ _
  subst hA;injection hk' with hk'
  exact h.ne hg ht h0 k hk hk'.symm
end
theorem Rd.blk {w:World} {k:Nat} {t:TypeId} {size n:Nat} {l:List Value} (h:Blk w k t l.toArray) (hn:l.length=n*size):Rd w w.heap.size size (some ⟨k,0,none⟩) n l:=by
 refine ⟨hn,.inr ⟨k,0,rfl,h.lt,fun j u hu=> ?_⟩⟩;rw [A60,h.cell j,List.getElem?_toArray];exact hu
theorem Ho {bs:List UInt8} {a a':Nat} {e e' v:Int} (h:Pk.rdMany bs a e 1000=(v,a',e')):0<=v/\v<=1000:=by
 unfold Pk.rdMany at h
 split at h
 · injection h with h;omega
 ·
  rename_i hc;have:v=(Pk.rdInt bs a e).1:=by rw [h]
  omega
theorem Ds:SlT zp 25 45 (.agg #[.int .i64 0,.int .i64 0,.int .u64 0]) 3 24:=⟨underlying25,by kernel_rfl,rfl,by decide⟩
theorem slBx:SlT zp 47 103 (.agg #[.int .u64 0,.int .u64 0,.int .u64 0,.int .u64 0]) 4 32:=⟨underlying47,by kernel_rfl,rfl,by decide⟩
theorem slNd:SlT zp 42 112 (.agg #[.int .u64 0,.slice none 0 0]) 2 32:=⟨underlying42,by kernel_rfl,rfl,by decide⟩
theorem slSl:SlT zp 48 119 (.agg #[.int .i64 0,.int .i64 0,.int .u64 0,.slice none 0 0]) 4 48:=⟨underlying48,by kernel_rfl,rfl,by decide⟩
theorem Da:SlT zp 22 3 (.int .i64 0) 1 8:=⟨underlying22,by kernel_rfl,rfl,by decide⟩
theorem Mn:SlT zp 46 43 (.int .u64 0) 1 8:=⟨underlying46,by kernel_rfl,rfl,by decide⟩
theorem Jx {bs:List UInt8} {a a1:Nat} {e e1:Int} {x:Id} (h:Dn bs a e=(x,a1,e1)):Pk.rdIdent bs a e=((x.b,x.s,x.u),a1,e1):=by
 have h1:x=⟨(Pk.rdIdent bs a e).1.1,(Pk.rdIdent bs a e).1.2.1,(Pk.rdIdent bs a e).1.2.2⟩:=(congrArg Prod.fst h).symm;have h2:(Pk.rdIdent bs a e).2=(a1,e1):=congrArg Prod.snd h;subst h1;rw [<- h2]
def Jy (B g:Nat) (bs:List UInt8) (t:TypeId) (size:Nat) (n:Nat) (cells:List Value) (a':Nat) (e':Int) (w:World) (r:Ending) (w':World):Prop:=
 ∃A c,r=.returned (.slice A n c)/\Own w' w.heap.size t size A n c cells/\InAt w' B g bs a' e'/\Fr (One g) w w'
theorem Hp {α:Type} {f:Rdr α} {bs:List UInt8} {m a a1:Nat} {e1:Int} {xs:List α} {x:α} {r0:List α × Nat × Int} (h:r0=(xs++(loop f (m+1) bs a 0).1,(loop f (m+1) bs a 0).2)) (hx:f bs a 0=(x,a1,e1)):
  r0=((xs++[x])++(loop f m bs a1 e1).1,(loop f m bs a1 e1).2):=by
 rw [h,Jt,hx];simp
theorem Xk (B g:Nat) (bs:List UInt8) (a:Nat) (e:Int) (ys:List Id) (a':Nat) (e':Int) (w:World) (hin:InAt w B g bs a e) (hrd:Hid (Bk Dn bs a e=(ys,a',e'))):
  Calls zp 61 #[.pointer (some ⟨g,0,none⟩),.func (.func 62) #[.pointer (some ⟨g,0,none⟩)] #[]] w (Jy B g bs 45 3 ys.length (ys.flatMap Id.cells) a' e' w):=by
 have hg:=hin.lt;obtain ⟨v,a0,e0,hm⟩:=Aw (Pk.rdMany bs a e 1000);have a2:=Ho hm.out;obtain ⟨M,hM⟩:∃M:Nat,v=(M:Int):=⟨v.toNat,by omega⟩;subst hM
 have ay:Hid ((ys,a',e')=loop Dn M bs a0 e0):=by
  show _=_;rw [<- hrd.out];unfold Bk;rw [hm.out];rfl
 have a5:B<=g:=by obtain ⟨_,_,_,_,h,_⟩:=hin;exact h
 go_enter func61,ntmps61;go_wp2_with fail;refine (Hm B g bs a e 1000 (M:Int) a0 e0 _ hin hm).mono ?_;rintro _ w1 ⟨rfl,ag,ar⟩;go_wp2
 go_loopw [5,6] (fun s v wr=>∃(m:Nat) (A:Option Addr) (c:Nat) (xs:List Id) (ai:Nat) (ei:Int),v=.int .i64 (m:Int)/\s=.slice A xs.length c/\xs.length+m=M/\Hid ((ys,a',e')=(xs++(loop Dn m bs ai ei).1,(loop Dn m bs ai ei).2))/\
  Own wr w.heap.size 45 3 A xs.length c (xs.flatMap Id.cells)/\InAt wr B g bs ai ei/\Fr (One g) w wr) (fun _ v _=>(intOf v).toNat)
 case atStart=>exact ⟨M,none,0,[],a0,e0,rfl,rfl,by simp,by show _=_;rw [ay.out];rfl,Own.nil _ _ _ _,ag,ar⟩
 case round=>
  obtain ⟨m,A,c,xs,ai,ei,rfl,rfl,av,hL,aa,ac,hf⟩:=hrel;have a4:=hf.size
  by_cases hm0:m=0
  ·
   subst hm0;have ab:Hid ((ys,a',e')=(xs,ai,ei)):=by show _=_;rw [hL.out];simp [loop]
   go_wp2
   go_ret
   have h1:ys=xs:=congrArg Prod.fst ab.out;have h2:a'=ai:=congrArg (fun p=>p.2.1) ab.out;have h3:e'=ei:=congrArg (fun p=>p.2.2) ab.out;subst h1 h2 h3;exact ⟨A,c,rfl,aa,ac,hf⟩
  ·
   obtain ⟨m,rfl⟩:∃k,m=k+1:=⟨m-1,by omega⟩;have a3:(0:Int)<((m+1:Nat):Int):=by omega
   by_cases he:ei=0
   ·
    have hz:(ei==0)=true:=E3 he;have al:=lh he;clear he;go_wp2_with fail;refine (E4 B g bs ai ei _ ac).mono ?_;rintro _ _ ⟨rfl,rfl⟩;obtain ⟨x,a1,e1,hx⟩:=Aw (Dn bs ai ei);have az:Hid (Dn bs ai 0=(x,a1,e1)):=by show _=_;rw [<- al.out];exact hx.out
    have h9:=hL.out;rw [al.out] at h9;have aw:=lh (Hp h9 az.out);clear h9;have hi:Hid (Pk.rdIdent bs ai ei=((x.b,x.s,x.u),a1,e1)):=Jx hx.out;go_wp2_with fail;refine (Jr B g bs ai ei x.b x.s x.u a1 e1 _ ac hi).mono ?_;rintro _ wv ⟨rfl,ak,ah⟩;have a6:=ah.size;have ad:=aa.fr ah (fun k hk e=>by have:=(aa.row k hk).1;have e':k=g:=e;omega);have aj:=Rd.blk (n:=1) (size:=3) (Blk.new wv 45 x.V) rfl;have aq:=(Fr.refl Non wv).alloc (.cells x.V 45);have ap:xs.length<=1000:=by omega
    go_wp2_with (first|(at_builtin;go_loud (refine Av (.tmp 18) (.tmp 21) 25 rfl rfl rfl rfl Ds (ad.alloc _) aj (by simp [Value.oneCell']) (by omega) (by omega) (by simp;omega) ?_);intro A2 c2 w2 ae ao ax));have af:=(ak.alloc (.cells x.V 45)).fr ao (fun k hk e=>by have:=(aa.row k e).1;omega) (fun e=>by have:=(aa.row _ e).1;omega);have au:Fr (One g) w w2:=(((hf.transOne ah).alloc _).trans ao (fun k hk e=>by have:=(aa.row k e).1;omega));go_roundw
    case rel=>
     refine ⟨m,A2,c2,xs++[x],a1,e1,by go_num,by simp,by simp;omega,aw,?_,af,au⟩;rw [A65,A66,A67,A62,A61];exact ae
    case measure=>first|(simp [intOf];done)|(simp [intOf];omega)
   ·
    have hz:(ei==0)=false:=Dk he;have ab:Hid ((ys,a',e')=(xs,ai,ei)):=by show _=_;rw [hL.out,Gs _ _ _ _ _ he];simp
    clear he;go_wp2_with fail;refine (E4 B g bs ai ei _ ac).mono ?_;rintro _ _ ⟨rfl,rfl⟩;go_wp2
    go_ret
    have h1:ys=xs:=congrArg Prod.fst ab.out;have h2:a'=ai:=congrArg (fun p=>p.2.1) ab.out;have h3:e'=ei:=congrArg (fun p=>p.2.2) ab.out;subst h1 h2 h3;exact ⟨A,c,rfl,aa,ac,hf⟩
theorem Xl (B g:Nat) (bs:List UInt8) (a:Nat) (e:Int) (ys:List Nat) (a':Nat) (e':Int) (w:World) (hin:InAt w B g bs a e) (hrd:Hid (Bk Pk.rd bs a e=(ys,a',e'))):
  Calls zp 66 #[.pointer (some ⟨g,0,none⟩),.func (.func 59) #[.pointer (some ⟨g,0,none⟩)] #[]] w (Jy B g bs 43 1 ys.length (ys.map Uv) a' e' w):=by
 have hg:=hin.lt;obtain ⟨v,a0,e0,hm⟩:=Aw (Pk.rdMany bs a e 1000);have a2:=Ho hm.out;obtain ⟨M,hM⟩:∃M:Nat,v=(M:Int):=⟨v.toNat,by omega⟩;subst hM
 have ay:Hid ((ys,a',e')=loop Pk.rd M bs a0 e0):=by
  show _=_;rw [<- hrd.out];unfold Bk;rw [hm.out];rfl
 have a5:B<=g:=by obtain ⟨_,_,_,_,h,_⟩:=hin;exact h
 go_enter func66,ntmps66;go_wp2_with fail;refine (Hm B g bs a e 1000 (M:Int) a0 e0 _ hin hm).mono ?_;rintro _ w1 ⟨rfl,ag,ar⟩;go_wp2
 go_loopw [5,6] (fun s v wr=>∃(m:Nat) (A:Option Addr) (c:Nat) (xs:List Nat) (ai:Nat) (ei:Int),v=.int .i64 (m:Int)/\s=.slice A xs.length c/\xs.length+m=M/\Hid ((ys,a',e')=(xs++(loop Pk.rd m bs ai ei).1,(loop Pk.rd m bs ai ei).2))/\
  Own wr w.heap.size 43 1 A xs.length c (xs.map Uv)/\InAt wr B g bs ai ei/\Fr (One g) w wr) (fun _ v _=>(intOf v).toNat)
 case atStart=>exact ⟨M,none,0,[],a0,e0,rfl,rfl,by simp,by show _=_;rw [ay.out];rfl,Own.nil _ _ _ _,ag,ar⟩
 case round=>
  obtain ⟨m,A,c,xs,ai,ei,rfl,rfl,av,hL,aa,ac,hf⟩:=hrel;have a4:=hf.size
  by_cases hm0:m=0
  ·
   subst hm0;have ab:Hid ((ys,a',e')=(xs,ai,ei)):=by show _=_;rw [hL.out];simp [loop]
   go_wp2
   go_ret
   have h1:ys=xs:=congrArg Prod.fst ab.out;have h2:a'=ai:=congrArg (fun p=>p.2.1) ab.out;have h3:e'=ei:=congrArg (fun p=>p.2.2) ab.out;subst h1 h2 h3;exact ⟨A,c,rfl,aa,ac,hf⟩
  ·
   obtain ⟨m,rfl⟩:∃k,m=k+1:=⟨m-1,by omega⟩;have a3:(0:Int)<((m+1:Nat):Int):=by omega
   by_cases he:ei=0
   ·
    have hz:(ei==0)=true:=E3 he;have al:=lh he;clear he;go_wp2_with fail;refine (E4 B g bs ai ei _ ac).mono ?_;rintro _ _ ⟨rfl,rfl⟩;obtain ⟨x,a1,e1,hx⟩:=Aw (Pk.rd bs ai ei);have az:Hid (Pk.rd bs ai 0=(x,a1,e1)):=by show _=_;rw [<- al.out];exact hx.out
    have h9:=hL.out;rw [al.out] at h9;have aw:=lh (Hp h9 az.out);clear h9;go_wp2_with fail;refine (Fh B g bs ai ei x a1 e1 _ ac hx).mono ?_;rintro _ wv ⟨rfl,ak,ah⟩;have a6:=ah.size;have ad:=aa.fr ah (fun k hk e=>by have:=(aa.row k hk).1;have e':k=g:=e;omega);have aj:=Rd.blk (n:=1) (size:=1) (Blk.new wv 43 #[.int .u64 (x:Int)]) rfl;have aq:=(Fr.refl Non wv).alloc (.cells #[.int .u64 (x:Int)] 43);have ap:xs.length<=1000:=by omega
    go_wp2_with (first|(at_builtin;go_loud (refine Av (.tmp 18) (.tmp 21) 46 rfl rfl rfl rfl Mn (ad.alloc _) aj (by simp [Value.oneCell']) (by omega) (by omega) (by simp;omega) ?_);intro A2 c2 w2 ae ao ax));have af:=(ak.alloc (.cells #[.int .u64 (x:Int)] 43)).fr ao (fun k hk e=>by have:=(aa.row k e).1;omega) (fun e=>by have:=(aa.row _ e).1;omega);have au:Fr (One g) w w2:=(((hf.transOne ah).alloc _).trans ao (fun k hk e=>by have:=(aa.row k e).1;omega));go_roundw
    case rel=>
     refine ⟨m,A2,c2,xs++[x],a1,e1,by go_num,by simp,by simp;omega,aw,?_,af,au⟩;rw [A63,List.map_cons,List.map_nil,A61];exact ae
    case measure=>first|(simp [intOf];done)|(simp [intOf];omega)
   ·
    have hz:(ei==0)=false:=Dk he;have ab:Hid ((ys,a',e')=(xs,ai,ei)):=by show _=_;rw [hL.out,Gs _ _ _ _ _ he];simp
    clear he;go_wp2_with fail;refine (E4 B g bs ai ei _ ac).mono ?_;rintro _ _ ⟨rfl,rfl⟩;go_wp2
    go_ret
    have h1:ys=xs:=congrArg Prod.fst ab.out;have h2:a'=ai:=congrArg (fun p=>p.2.1) ab.out;have h3:e'=ei:=congrArg (fun p=>p.2.2) ab.out;subst h1 h2 h3;exact ⟨A,c,rfl,aa,ac,hf⟩
theorem Xm (B g:Nat) (bs:List UInt8) (a:Nat) (e:Int) (ys:List Int) (a':Nat) (e':Int) (w:World) (hin:InAt w B g bs a e) (hrd:Hid (Bk Pk.rdInt bs a e=(ys,a',e'))):
  Calls zp 67 #[.pointer (some ⟨g,0,none⟩),.func (.func 60) #[.pointer (some ⟨g,0,none⟩)] #[]] w (Jy B g bs 3 1 ys.length (ys.map Iv) a' e' w):=by
 have hg:=hin.lt;obtain ⟨v,a0,e0,hm⟩:=Aw (Pk.rdMany bs a e 1000);have a2:=Ho hm.out;obtain ⟨M,hM⟩:∃M:Nat,v=(M:Int):=⟨v.toNat,by omega⟩;subst hM
 have ay:Hid ((ys,a',e')=loop Pk.rdInt M bs a0 e0):=by
  show _=_;rw [<- hrd.out];unfold Bk;rw [hm.out];rfl
 have a5:B<=g:=by obtain ⟨_,_,_,_,h,_⟩:=hin;exact h
 go_enter func67,ntmps67;go_wp2_with fail;refine (Hm B g bs a e 1000 (M:Int) a0 e0 _ hin hm).mono ?_;rintro _ w1 ⟨rfl,ag,ar⟩;go_wp2
 go_loopw [5,6] (fun s v wr=>∃(m:Nat) (A:Option Addr) (c:Nat) (xs:List Int) (ai:Nat) (ei:Int),v=.int .i64 (m:Int)/\s=.slice A xs.length c/\xs.length+m=M/\Hid ((ys,a',e')=(xs++(loop Pk.rdInt m bs ai ei).1,(loop Pk.rdInt m bs ai ei).2))/\
  Own wr w.heap.size 3 1 A xs.length c (xs.map Iv)/\InAt wr B g bs ai ei/\Fr (One g) w wr) (fun _ v _=>(intOf v).toNat)
 case atStart=>exact ⟨M,none,0,[],a0,e0,rfl,rfl,by simp,by show _=_;rw [ay.out];rfl,Own.nil _ _ _ _,ag,ar⟩
 case round=>
  obtain ⟨m,A,c,xs,ai,ei,rfl,rfl,av,hL,aa,ac,hf⟩:=hrel;have a4:=hf.size
  by_cases hm0:m=0
  ·
   subst hm0;have ab:Hid ((ys,a',e')=(xs,ai,ei)):=by show _=_;rw [hL.out];simp [loop]
   go_wp2
   go_ret
   have h1:ys=xs:=congrArg Prod.fst ab.out;have h2:a'=ai:=congrArg (fun p=>p.2.1) ab.out;have h3:e'=ei:=congrArg (fun p=>p.2.2) ab.out;subst h1 h2 h3;exact ⟨A,c,rfl,aa,ac,hf⟩
  ·
   obtain ⟨m,rfl⟩:∃k,m=k+1:=⟨m-1,by omega⟩;have a3:(0:Int)<((m+1:Nat):Int):=by omega
   by_cases he:ei=0
   ·
    have hz:(ei==0)=true:=E3 he;have al:=lh he;clear he;go_wp2_with fail;refine (E4 B g bs ai ei _ ac).mono ?_;rintro _ _ ⟨rfl,rfl⟩;obtain ⟨x,a1,e1,hx⟩:=Aw (Pk.rdInt bs ai ei);have az:Hid (Pk.rdInt bs ai 0=(x,a1,e1)):=by show _=_;rw [<- al.out];exact hx.out
    have h9:=hL.out;rw [al.out] at h9;have aw:=lh (Hp h9 az.out);clear h9;go_wp2_with fail;refine (Dl B g bs ai ei x a1 e1 _ ac hx).mono ?_;rintro _ wv ⟨rfl,ak,ah⟩;have a6:=ah.size;have ad:=aa.fr ah (fun k hk e=>by have:=(aa.row k hk).1;have e':k=g:=e;omega);have aj:=Rd.blk (n:=1) (size:=1) (Blk.new wv 3 #[.int .i64 x]) rfl;have aq:=(Fr.refl Non wv).alloc (.cells #[.int .i64 x] 3);have ap:xs.length<=1000:=by omega
    go_wp2_with (first|(at_builtin;go_loud (refine Av (.tmp 18) (.tmp 21) 22 rfl rfl rfl rfl Da (ad.alloc _) aj (by simp [Value.oneCell']) (by omega) (by omega) (by simp;omega) ?_);intro A2 c2 w2 ae ao ax));have af:=(ak.alloc (.cells #[.int .i64 x] 3)).fr ao (fun k hk e=>by have:=(aa.row k e).1;omega) (fun e=>by have:=(aa.row _ e).1;omega);have au:Fr (One g) w w2:=(((hf.transOne ah).alloc _).trans ao (fun k hk e=>by have:=(aa.row k e).1;omega));go_roundw
    case rel=>
     refine ⟨m,A2,c2,xs++[x],a1,e1,by go_num,by simp,by simp;omega,aw,?_,af,au⟩;rw [A63,List.map_cons,List.map_nil,A61];exact ae
    case measure=>first|(simp [intOf];done)|(simp [intOf];omega)
   ·
    have hz:(ei==0)=false:=Dk he;have ab:Hid ((ys,a',e')=(xs,ai,ei)):=by show _=_;rw [hL.out,Gs _ _ _ _ _ he];simp
    clear he;go_wp2_with fail;refine (E4 B g bs ai ei _ ac).mono ?_;rintro _ _ ⟨rfl,rfl⟩;go_wp2
    go_ret
    have h1:ys=xs:=congrArg Prod.fst ab.out;have h2:a'=ai:=congrArg (fun p=>p.2.1) ab.out;have h3:e'=ei:=congrArg (fun p=>p.2.2) ab.out;subst h1 h2 h3;exact ⟨A,c,rfl,aa,ac,hf⟩
theorem Xn {bs:List UInt8} {a a1 a2 a3 a4 v1 v2 v3 v4:Nat} {e e1 e2 e3 e4:Int} (h1:Pk.rd bs a e=(v1,a1,e1)) (h2:Pk.rd bs a1 e1=(v2,a2,e2)) (h3:Pk.rd bs a2 e2=(v3,a3,e3)) (h4:Pk.rd bs a3 e3=(v4,a4,e4)):Ef bs a e=(⟨v1,v2,v3,v4⟩,a4,e4):=
 Im (Bu (Bu (Bu h1 h2) h3) h4)
section
attribute [local go_sem ↓] Xh
theorem Xo (B g gp:Nat) (bs:List UInt8) (a:Nat) (e:Int) (x:Bx) (a':Nat) (e':Int) (w:World) (hin:InAt w B g bs a e) (hp:Blk w gp 98 #[.pointer (some ⟨g,0,none⟩)]) (hrd:Hid (Ef bs a e=(x,a',e'))):
  Calls zp 58 #[.pointer (some ⟨gp,0,none⟩)] w (Gq B g bs (.agg #[.int .u64 (x.t:Int),.int .u64 (x.e:Int),.int .u64 (x.y:Int),.int .u64 (x.g:Int)]) a' e' w):=by
 obtain ⟨v1,a1,e1,h1⟩:=Aw (Pk.rd bs a e);obtain ⟨v2,a2,e2,h2⟩:=Aw (Pk.rd bs a1 e1);obtain ⟨v3,a3,e3,h3⟩:=Aw (Pk.rd bs a2 e2);obtain ⟨v4,a4,e4,h4⟩:=Aw (Pk.rd bs a3 e3);have hy:=lh ((Xn h1.out h2.out h3.out h4.out).symm.trans hrd.out);have hg:=hin.lt;have hB:B<=g:=by obtain ⟨_,_,_,_,h,_⟩:=hin;exact h
 have ap:gp≠g:=by
  obtain ⟨_,_,hb,_⟩:=hin;exact hp.ne hb (by decide)
 have ax:=hp.lt;have al:w.heap.size≠gp:=by omega
 have nG:¬One g gp:=ap;have nR:¬One g w.heap.size:=by unfold One;omega
 have ad:Blk (w.alloc (.cells #[.int .u64 0,.int .u64 0,.int .u64 0,.int .u64 0] 103)).drew gp 98 #[.pointer (some ⟨g,0,none⟩)]:=(hp.alloc _).drew;have au:Blk (w.alloc (.cells #[.int .u64 0,.int .u64 0,.int .u64 0,.int .u64 0] 103)).drew w.heap.size 103 #[.int .u64 0,.int .u64 0,.int .u64 0,.int .u64 0]:=(Blk.new w _ _).drew;have ah:InAt (w.alloc (.cells #[.int .u64 0,.int .u64 0,.int .u64 0,.int .u64 0] 103)).drew B g bs a e:=(hin.alloc _).drewN 1;have ao:Fr Non w (w.alloc (.cells #[.int .u64 0,.int .u64 0,.int .u64 0,.int .u64 0] 103)).drew:=((Fr.refl _ _).alloc _).drew;have p0:=ad.cell 0;have ay:=Cf (P:=zp) (t:=103) (old:=#[.int .u64 0,.int .u64 0,.int .u64 0,.int .u64 0]) (cs:=#[.int .u64 (v1:Int),.int .u64 (v2:Int),.int .u64 (v3:Int),.int .u64 (v4:Int)]) w.heap.size 103 (by kernel_rfl) rfl (by simp [Value.oneCell']);go_enter func58,ntmps58;go_upto_region 1 with (fail)
 generalize w.alloc (.cells #[.int .u64 0,.int .u64 0,.int .u64 0,.int .u64 0] 103)=w0 at*
 go_region_held3 (fun w'=>w'.cell? ⟨gp,0,none⟩=some (.pointer (some ⟨g,0,none⟩))) ((first|assumption|exact Mm p4 al|go_keep)) (first
  |(go_at_call 59;(with_reducible refine (Fh B g bs a e v1 a1 e1 _ ah h1).mono ?_);rintro _ w1 ⟨rfl,ai,aj⟩;have p1:=(ad.fr aj nG).cell 0)
  |(go_at_call 59;(with_reducible refine (Fh B g bs a1 e1 v2 a2 e2 _ ai h2).mono ?_);rintro _ w2 ⟨rfl,ag,ar⟩;have ab:=aj.transOne ar;have p2:=(ad.fr ab nG).cell 0)
  |(go_at_call 59;(with_reducible refine (Fh B g bs a2 e2 v3 a3 e3 _ ag h3).mono ?_);rintro _ w3 ⟨rfl,af,aq⟩;have ac:=ab.transOne aq;have p3:=(ad.fr ac nG).cell 0)
  |(go_at_call 59;(with_reducible refine (Fh B g bs a3 e3 v4 a4 e4 _ af h4).mono ?_);rintro _ w4 ⟨rfl,ae,av⟩;have aa:=ac.transOne av;have p4:=(ad.fr aa nG).cell 0;have aw:=au.fr aa nR))
 go_wp2
 cases hy.out
 refine Ed (t:=103) rfl rfl aw.setRow rfl underlying103 (by kernel_rfl) rfl ?_;have ak:=(Fr.refl (One w.heap.size) w4).setRow (g:=w.heap.size) (fun _=>rfl) #[.int .u64 (v1:Int),.int .u64 (v2:Int),.int .u64 (v3:Int),.int .u64 (v4:Int)];exact ⟨rfl,ae.fr ak (fun k hk=>One.not (A59 hB (A68 hg)) hk) (by unfold One;omega),((ao.of_non (One g)).transOne aa).trans ak (fun k hk e=>absurd hk (by have e':k=w.heap.size:=e;omega))⟩
end
theorem P9 (B g gp:Nat) (bs:List UInt8) (a:Nat) (e:Int) (ys:List Bx) (a':Nat) (e':Int) (w:World) (hin:InAt w B g bs a e) (hrd:Hid (Bk Ef bs a e=(ys,a',e'))) (hp:Blk w gp 98 #[.pointer (some ⟨g,0,none⟩)]):
  Calls zp 65 #[.pointer (some ⟨g,0,none⟩),.func (.func 58) #[] #[.pointer (some ⟨gp,0,none⟩)]] w (Jy B g bs 103 4 ys.length (ys.flatMap Bx.cells) a' e' w):=by
 have hg:=hin.lt;obtain ⟨v,a0,e0,hm⟩:=Aw (Pk.rdMany bs a e 1000);have a5:=Ho hm.out;obtain ⟨M,hM⟩:∃M:Nat,v=(M:Int):=⟨v.toNat,by omega⟩;subst hM
 have a3:Hid ((ys,a',e')=loop Ef M bs a0 e0):=by
  show _=_;rw [<- hrd.out];unfold Bk;rw [hm.out];rfl
 have a8:B<=g:=by obtain ⟨_,_,_,_,h,_⟩:=hin;exact h
 have nG:¬One g gp:=by
  obtain ⟨_,_,hb,_⟩:=hin;exact hp.ne hb (by decide)
 go_enter func65,ntmps65;go_wp2_with fail;refine (Hm B g bs a e 1000 (M:Int) a0 e0 _ hin hm).mono ?_;rintro _ w1 ⟨rfl,ah,aq⟩;go_wp2
 go_loopw [5,6] (fun s v wr=>∃(m:Nat) (A:Option Addr) (c:Nat) (xs:List Bx) (ai:Nat) (ei:Int),v=.int .i64 (m:Int)/\s=.slice A xs.length c/\xs.length+m=M/\Hid ((ys,a',e')=(xs++(loop Ef m bs ai ei).1,(loop Ef m bs ai ei).2))/\
  Own wr w.heap.size 103 4 A xs.length c (xs.flatMap Bx.cells)/\InAt wr B g bs ai ei/\Fr (One g) w wr/\Blk wr gp 98 #[.pointer (some ⟨g,0,none⟩)]) (fun _ v _=>(intOf v).toNat)
 case atStart=>exact ⟨M,none,0,[],a0,e0,rfl,rfl,by simp,by show _=_;rw [a3.out];rfl,Own.nil _ _ _ _,ah,aq,hp.fr aq nG⟩
 case round=>
  obtain ⟨m,A,c,xs,ai,ei,rfl,rfl,ay,hL,aa,ac,hf,au⟩:=hrel;have a7:=hf.size
  by_cases hm0:m=0
  ·
   subst hm0;have ab:Hid ((ys,a',e')=(xs,ai,ei)):=by show _=_;rw [hL.out];simp [loop]
   go_wp2
   go_ret
   have h1:ys=xs:=congrArg Prod.fst ab.out;have h2:a'=ai:=congrArg (fun p=>p.2.1) ab.out;have h3:e'=ei:=congrArg (fun p=>p.2.2) ab.out;subst h1 h2 h3;exact ⟨A,c,rfl,aa,ac,hf⟩
  ·
   obtain ⟨m,rfl⟩:∃k,m=k+1:=⟨m-1,by omega⟩;have a6:(0:Int)<((m+1:Nat):Int):=by omega
   by_cases he:ei=0
   ·
    have hz:(ei==0)=true:=E3 he;have ar:=lh he;clear he;go_wp2_with fail;refine (E4 B g bs ai ei _ ac).mono ?_;rintro _ _ ⟨rfl,rfl⟩;obtain ⟨x,a1,e1,hx⟩:=Aw (Ef bs ai ei);have a4:Hid (Ef bs ai 0=(x,a1,e1)):=by show _=_;rw [<- ar.out];exact hx.out
    have h9:=hL.out;rw [ar.out] at h9;have az:=lh (Hp h9 a4.out);clear h9;go_wp2_with fail;refine (Xo B g gp bs ai ei x a1 e1 _ ac au hx).mono ?_;rintro _ wv ⟨rfl,ao,af⟩;have a9:=af.size;have ad:=aa.fr af (fun k hk e=>by have:=(aa.row k hk).1;have e':k=g:=e;omega);have al:=Rd.blk (n:=1) (size:=4) (Blk.new wv 103 #[.int .u64 (x.t:Int),.int .u64 (x.e:Int),.int .u64 (x.y:Int),.int .u64 (x.g:Int)]) rfl;have aw:=(Fr.refl Non wv).alloc (.cells #[.int .u64 (x.t:Int),.int .u64 (x.e:Int),.int .u64 (x.y:Int),.int .u64 (x.g:Int)] 103);have av:xs.length<=1000:=by omega
    go_wp2_with (first|(at_builtin;go_loud (refine Av (.tmp 18) (.tmp 21) 47 rfl rfl rfl rfl slBx (ad.alloc _) al (by simp [Value.oneCell']) (by omega) (by omega) (by simp;omega) ?_);intro A2 c2 w2 ae aj a2));have ag:=(ao.alloc (.cells #[.int .u64 (x.t:Int),.int .u64 (x.e:Int),.int .u64 (x.y:Int),.int .u64 (x.g:Int)] 103)).fr aj (fun k hk e=>by have:=(aa.row k e).1;omega) (fun e=>by have:=(aa.row _ e).1;omega);have ax:Fr (One g) w w2:=(((hf.transOne af).alloc _).trans aj (fun k hk e=>by have:=(aa.row k e).1;omega));have ap:=au.fr af nG;have ak:=(ap.alloc (.cells #[.int .u64 (x.t:Int),.int .u64 (x.e:Int),.int .u64 (x.y:Int),.int .u64 (x.g:Int)] 103)).fr aj (fun e=>(ad.ne ap (by decide)) e);go_roundw
    case rel=>
     refine ⟨m,A2,c2,xs++[x],a1,e1,by go_num,by simp,by simp;omega,az,?_,ag,ax,ak⟩;rw [A65,A66,A67,A62,A61];exact ae
    case measure=>first|(simp [intOf];done)|(simp [intOf];omega)
   ·
    have hz:(ei==0)=false:=Dk he;have ab:Hid ((ys,a',e')=(xs,ai,ei)):=by show _=_;rw [hL.out,Gs _ _ _ _ _ he];simp
    clear he;go_wp2_with fail;refine (E4 B g bs ai ei _ ac).mono ?_;rintro _ _ ⟨rfl,rfl⟩;go_wp2
    go_ret
    have h1:ys=xs:=congrArg Prod.fst ab.out;have h2:a'=ai:=congrArg (fun p=>p.2.1) ab.out;have h3:e'=ei:=congrArg (fun p=>p.2.2) ab.out;subst h1 h2 h3;exact ⟨A,c,rfl,aa,ac,hf⟩
theorem Mo {P:Program} {w:World} (a:Addr) (m:Mode) (f:Fn) (x y:Array Value):(store a (.func f x y) m).run P w=stored P w a (.func f x y) m:=run_store P w a _ m rfl
attribute [local go_sem] Mo
theorem Xp {bs s:List UInt8} {a a':Nat} {e e':Int} (h:Pk.rdText bs a e=(s,a',e')):s.length<=bs.length:=by
 unfold Pk.rdText at h
 split at h
 · injection h with h;subst h;simp
 ·
  split at h
  · injection h with h;subst h;simp
  ·
   split at h
   · injection h with h;subst h;simp
   ·
    injection h with h
    subst h;rw [List.length_take,List.length_drop];omega
theorem Xq (bs:List UInt8) (w:World) (hl:bs.length<=1099511627776):
  ∃c w',(convert 9 40 (.string (str bs))).run zp w=.ok (.slice (some ⟨w.heap.size,0,none⟩) bs.length c) w'/\RowAt w' w.heap.size 5 1 (some ⟨w.heap.size,0,none⟩) bs.length c (bs.map Bv)/\Fr Non w w':=by
 have h:=Lib.run_convert_string_bytes w 9 40 5 (str bs) underlying9 underlying40 underlying5;rw [Ep] at h;have hz:=Lib.bytesWorld_size w 5 (str bs);refine ⟨_,_,h,⟨⟨⟨by simp,.inr ⟨w.heap.size,0,rfl,by omega,fun j v hj=> ?_⟩⟩,grownCap_ge _ _ _ _,grownCap_le_maxLen w bs.length 0 5 (A59 hl (by decide))⟩,.inr ⟨w.heap.size,_,_,rfl,A69 _,Lib.bytesWorld_at_new w 5 (str bs),fun j hj=> ?_⟩⟩,⟨rfl,rfl,rfl,by omega,fun k hk _=>Lib.bytesWorld_at_old w 5 (str bs) k hk⟩⟩
 ·
  rw [List.getElem?_map] at hj
  cases hb:bs[j]? with
  |none=>rw [hb] at hj;cases hj
  |some x=>
   rw [hb] at hj;have hj':Bv x=v:=Option.some.inj hj;subst hj';obtain ⟨hl,hx⟩:=List.getElem?_eq_some_iff.1 hb;rw [A60,Lib.bytesWorld_cell w 5 (str bs) j (by rw [Ep];exact hl)];simp [str,List.getD,hl,hx,Bv]
 ·
  have hsz:bs.length<=(Lib.bytesCells w 5 (str bs)).size:=by
   unfold Lib.bytesCells;simp [str]
  have hj':j<(Lib.bytesCells w 5 (str bs)).size:=by omega
  have hb:=Lib.bytesWorld_at_new w 5 (str bs);simp only [A72,hb];simp;omega
def Xr (B g:Nat) (bs s:List UInt8) (a':Nat) (e':Int) (w:World) (r:Ending) (w':World):Prop:=
 ∃A c,r=.returned (.slice A s.length c)/\RowAt w' w.heap.size 5 1 A s.length c (s.map Bv)/\InAt w' B g bs a' e'/\Fr (One g) w w'
theorem Qa (B g gp:Nat) (bs:List UInt8) (a:Nat) (e:Int) (s:List UInt8) (a':Nat) (e':Int) (w:World) (hin:InAt w B g bs a e) (hp:Blk w gp 98 #[.pointer (some ⟨g,0,none⟩)]) (hl:bs.length<=1099511627776) (hrd:Hid (Pk.rdText bs a e=(s,a',e'))):
  Calls zp 56 #[.pointer (some ⟨gp,0,none⟩)] w (Xr B g bs s a' e' w):=by
 have hs:=Xp hrd.out;have hg:=hin.lt;have hB:B<=g:=by obtain ⟨_,_,_,_,h,_⟩:=hin;exact h
 have p0:=hp.cell 0;have hss:=Ep s;go_enter func56,ntmps56;go_wp2_with fail;refine (Wz B g bs a e s a' e' _ hin hrd).mono ?_;rintro _ w1 ⟨rfl,hin1,hf1⟩;obtain ⟨c2,w2,hrun,hrow,hf2⟩:=Xq s w1 (by omega);go_wp2
 go_ret
 exact ⟨_,c2,rfl,hrow.lower hf1.size,hin1.fr hf2 zr zq,hf1.trans hf2 (fun _ _ e=>e.elim)⟩
theorem Xs {bs:List UInt8} {a a1 a2 v1:Nat} {e e1 e2:Int} {l:List Bx} (h1:Pk.rd bs a e=(v1,a1,e1)) (h2:Bk Ef bs a1 e1=(l,a2,e2)):Fi bs a e=(⟨v1,l⟩,a2,e2):=Im (Bu h1 h2)
def Xt (B g:Nat) (bs:List UInt8) (x:Nd) (a':Nat) (e':Int) (w:World) (r:Ending) (w':World):Prop:=
 ∃A c,r=.returned (.agg #[.int .u64 (x.p:Int),.slice A x.xs.length c])/\RowAt w' w.heap.size 103 4 A x.xs.length c (x.xs.flatMap Bx.cells)/\InAt w' B g bs a' e'/\Fr (One g) w w'
theorem Xu (B g gp gc:Nat) (bs:List UInt8) (a:Nat) (e:Int) (x:Nd) (a':Nat) (e':Int) (w:World) (hin:InAt w B g bs a e) (hp:Blk w gp 98 #[.pointer (some ⟨g,0,none⟩)]) (hc:Blk w gc 105 #[.func (.func 58) #[] #[.pointer (some ⟨gp,0,none⟩)]]) (hrd:Hid (Fi bs a e=(x,a',e'))):
  Calls zp 64 #[.pointer (some ⟨gp,0,none⟩),.pointer (some ⟨gc,0,none⟩)] w (Xt B g bs x a' e' w):=by
 obtain ⟨v1,a1,e1,h1⟩:=Aw (Pk.rd bs a e);obtain ⟨l,a2,e2,h2⟩:=Aw (Bk Ef bs a1 e1);have hy:=lh ((Xs h1.out h2.out).symm.trans hrd.out);have hg:=hin.lt;have hB:B<=g:=by obtain ⟨_,_,_,_,h,_⟩:=hin;exact h
 have nG:¬One g gp:=by
  obtain ⟨_,_,hb,_⟩:=hin;exact hp.ne hb (by decide)
 have nC:¬One g gc:=by
  obtain ⟨_,_,hb,_⟩:=hin;exact hc.ne hb (by decide)
 have ar:=hp.lt;have aq:=hc.lt;have av:w.heap.size≠gp:=by omega
 have au:w.heap.size≠gc:=by omega
 have nR:¬One g w.heap.size:=by unfold One;omega
 have ae:Blk (w.alloc (.cells #[.int .u64 0,.slice none 0 0] 112)).drew gp 98 #[.pointer (some ⟨g,0,none⟩)]:=(hp.alloc _).drew;have ai:Blk (w.alloc (.cells #[.int .u64 0,.slice none 0 0] 112)).drew gc 105 #[.func (.func 58) #[] #[.pointer (some ⟨gp,0,none⟩)]]:=(hc.alloc _).drew;have ap:Blk (w.alloc (.cells #[.int .u64 0,.slice none 0 0] 112)).drew w.heap.size 112 #[.int .u64 0,.slice none 0 0]:=(Blk.new w _ _).drew;have aj:InAt (w.alloc (.cells #[.int .u64 0,.slice none 0 0] 112)).drew B g bs a e:=(hin.alloc _).drewN 1;have al:Fr Non w (w.alloc (.cells #[.int .u64 0,.slice none 0 0] 112)).drew:=((Fr.refl _ _).alloc _).drew;have ax:(w.alloc (.cells #[.int .u64 0,.slice none 0 0] 112)).drew.heap.size=w.heap.size+1:=A73 _ _;have p0:=ae.cell 0;have q0:=ai.cell 0;go_enter func64,ntmps64;go_upto_region 1 with (fail)
 generalize w.alloc (.cells #[.int .u64 0,.slice none 0 0] 112)=w0 at*
 go_region_held3 (fun w'=>w'.cell? ⟨gp,0,none⟩=some (.pointer (some ⟨g,0,none⟩))/\w'.cell? ⟨gc,0,none⟩=some (.func (.func 58) #[] #[.pointer (some ⟨gp,0,none⟩)])) ((and_intros<;>first|assumption|go_keep)) (first
  |(go_at_call 59;(with_reducible refine (Fh B g bs a e v1 a1 e1 _ aj h1).mono ?_);rintro _ w1 ⟨rfl,ag,ad⟩;have ak:=ae.fr ad nG;have p1:=ak.cell 0;have q1:=(ai.fr ad nC).cell 0)
  |(go_at_call 65;(with_reducible refine (P9 B g gp bs a1 e1 l a2 e2 _ ag h2 ak).mono ?_);rintro _ w2 ⟨A2,c2,rfl,ab,af,ao⟩;have aa:=ad.transOne ao;have p2:=(ae.fr aa nG).cell 0;have q2:=(ai.fr aa nC).cell 0;have ac:=ap.fr aa nR;have r0:=ac.cell 0;have r1:=ac.cell 1;have z0:=ac.frozen 0;have z1:=ac.frozen 1))
 go_wp2
 cases hy.out
 have aw:=ad.size;refine Ed (t:=112) rfl rfl ((ac.set 0 _).set 1 _) rfl underlying112 (by kernel_rfl) rfl ?_;have ah:Fr (One w.heap.size) w2 _:=((Fr.refl _ _).setOne 0 (.int .u64 (v1:Int))).setOne 1 (.slice A2 l.length c2);exact ⟨A2,c2,rfl,((RowAt.of_own ab).fr ah (fun _ k hk e=>by have:=(ab.row k hk).1;have e':k=w.heap.size:=e;omega)).lower (by omega),af.fr ah (fun k hk=>One.not (A59 hB (A68 hg)) hk) (by unfold One;omega),((al.of_non (One g)).transOne aa).trans ah (fun k hk e=>absurd hk (by have e':k=w.heap.size:=e;omega))⟩
def Xv (B g:Nat) (bs:List UInt8) (ys:List Nd) (a':Nat) (e':Int) (w:World) (r:Ending) (w':World):Prop:=
 ∃A c,∃ls:List NdL,ls.map NdL.nd=ys/\r=.returned (.slice A ls.length c)/\Own w' w.heap.size 112 2 A ls.length c (ls.flatMap NdL.cells)/\(∀y∈ls,RowAt w' w.heap.size 103 4 y.A y.xs.length y.c (y.xs.flatMap Bx.cells))/\InAt w' B g bs a' e'/\Fr (One g) w w'
theorem Xw (B g gp gc:Nat) (bs:List UInt8) (a:Nat) (e:Int) (ys:List Nd) (a':Nat) (e':Int) (w:World) (hin:InAt w B g bs a e) (hrd:Hid (Bk Fi bs a e=(ys,a',e'))) (hp:Blk w gp 98 #[.pointer (some ⟨g,0,none⟩)]) (hc:Blk w gc 105 #[.func (.func 58) #[] #[.pointer (some ⟨gp,0,none⟩)]]):
  Calls zp 63 #[.pointer (some ⟨g,0,none⟩),.func (.func 64) #[] #[.pointer (some ⟨gp,0,none⟩),.pointer (some ⟨gc,0,none⟩)]] w (Xv B g bs ys a' e' w):=by
 have hg:=hin.lt;obtain ⟨v,a0,e0,hm⟩:=Aw (Pk.rdMany bs a e 1000);have bh:=Ho hm.out;obtain ⟨M,hM⟩:∃M:Nat,v=(M:Int):=⟨v.toNat,by omega⟩;subst hM
 have bb:Hid ((ys,a',e')=loop Fi M bs a0 e0):=by
  show _=_;rw [<- hrd.out];unfold Bk;rw [hm.out];rfl
 have bi:B<=g:=by obtain ⟨_,_,_,_,h,_⟩:=hin;exact h
 have nG:¬One g gp:=by
  obtain ⟨_,_,hb,_⟩:=hin;exact hp.ne hb (by decide)
 have nC:¬One g gc:=by
  obtain ⟨_,_,hb,_⟩:=hin;exact hc.ne hb (by decide)
 go_enter func63,ntmps63;go_wp2_with fail;refine (Hm B g bs a e 1000 (M:Int) a0 e0 _ hin hm).mono ?_;rintro _ w1 ⟨rfl,aw,ar⟩;go_wp2
 go_loopw [5,6] (fun s v wr=>∃(m:Nat) (A:Option Addr) (c:Nat) (ls:List NdL) (ai:Nat) (ei:Int),v=.int .i64 (m:Int)/\s=.slice A ls.length c/\ls.length+m=M/\Hid ((ys,a',e')=(ls.map NdL.nd++(loop Fi m bs ai ei).1,(loop Fi m bs ai ei).2))/\
  Own wr w.heap.size 112 2 A ls.length c (ls.flatMap NdL.cells)/\(∀y∈ls,RowAt wr w.heap.size 103 4 y.A y.xs.length y.c (y.xs.flatMap Bx.cells))/\InAt wr B g bs ai ei/\Fr (One g) w wr/\Blk wr gp 98 #[.pointer (some ⟨g,0,none⟩)]/\Blk wr gc 105 #[.func (.func 58) #[] #[.pointer (some ⟨gp,0,none⟩)]]) (fun _ v _=>(intOf v).toNat)
 case atStart=>exact ⟨M,none,0,[],a0,e0,rfl,rfl,by simp,by show _=_;rw [bb.out];rfl,Own.nil _ _ _ _,(fun _ h=>by cases h),aw,ar,hp.fr ar nG,hc.fr ar nC⟩
 case round=>
  obtain ⟨m,A,c,ls,ai,ei,rfl,rfl,a7,hL,aa,ah,ad,hf,ay,a3⟩:=hrel;have ab:=lh ah;clear ah;have a8:=hf.size;have a5:∀A:Option Addr,Hid ((ys,a',e')=(ls.map NdL.nd,ai,ei))->ls.map NdL.nd=ys/\a'=ai/\e'=ei:=fun _ h=>⟨(congrArg Prod.fst h.out).symm,congrArg (fun p=>p.2.1) h.out,congrArg (fun p=>p.2.2) h.out⟩
  by_cases hm0:m=0
  ·
   subst hm0;obtain ⟨h1,h2,h3⟩:=a5 A (by show _=_;rw [hL.out];simp [loop]);have h1:=lh h1;subst h2 h3;go_wp2
   go_ret
   exact ⟨A,c,ls,h1.out,rfl,aa,ab.out,ad,hf⟩
  ·
   obtain ⟨m,rfl⟩:∃k,m=k+1:=⟨m-1,by omega⟩;have bf:(0:Int)<((m+1:Nat):Int):=by omega
   by_cases he:ei=0
   ·
    have hz:(ei==0)=true:=E3 he;have a4:=lh he;clear he;go_wp2_with fail;refine (E4 B g bs ai ei _ ad).mono ?_;rintro _ _ ⟨rfl,rfl⟩;obtain ⟨x,a1,e1,hx⟩:=Aw (Fi bs ai ei);have bc:Hid (Fi bs ai 0=(x,a1,e1)):=by show _=_;rw [<- a4.out];exact hx.out
    have h9:=hL.out;rw [a4.out] at h9;have bd:=lh (Hp h9 bc.out);clear h9;go_wp2_with fail;refine (Xu B g gp gc bs ai ei x a1 e1 _ ad ay a3 hx).mono ?_;rintro _ wv ⟨Ax,cx,rfl,be,av,aj⟩;have bg:=aj.size;have ac:=aa.fr aj (fun k hk e=>by have:=(aa.row k hk).1;have e':k=g:=e;omega);have aq:=Rd.blk (n:=1) (size:=2) (Blk.new wv 112 #[.int .u64 (x.p:Int),.slice Ax x.xs.length cx]) rfl;have az:ls.length<=1000:=by omega
    go_wp2_with (first|(at_builtin;go_loud (refine Av (.tmp 18) (.tmp 21) 42 rfl rfl rfl rfl slNd (ac.alloc _) aq (by simp [Value.oneCell']) (by omega) (by omega) (by simp;omega) ?_);intro A2 c2 w2 al ak ba));have au:=(av.alloc (.cells #[.int .u64 (x.p:Int),.slice Ax x.xs.length cx] 112)).fr ak (fun k hk e=>by have:=(aa.row k e).1;omega) (fun e=>by have:=(aa.row _ e).1;omega);have a6:Fr (One g) w w2:=(((hf.transOne aj).alloc _).trans ak (fun k hk e=>by have:=(aa.row k e).1;omega));have a2:=ay.fr aj nG;have ax:=a3.fr aj nC;have ap:=(a2.alloc (.cells #[.int .u64 (x.p:Int),.slice Ax x.xs.length cx] 112)).fr ak (fun e=>(ac.ne a2 (by decide)) e);have ao:=(ax.alloc (.cells #[.int .u64 (x.p:Int),.slice Ax x.xs.length cx] 112)).fr ak (fun e=>(ac.ne ax (by decide)) e)
    have ag:∀(base n cc:Nat) (Ay:Option Addr) (vs:List Value),RowAt wv base 103 4 Ay n cc vs->RowAt w2 base 103 4 Ay n cc vs:=fun base n cc Ay vs h=>
     (h.fr ((Fr.refl Non wv).alloc (.cells #[.int .u64 (x.p:Int),.slice Ax x.xs.length cx] 112)) (fun _ _ _ e=>e)).fr ak ((h.fr ((Fr.refl Non wv).alloc (.cells #[.int .u64 (x.p:Int),.slice Ax x.xs.length cx] 112)) (fun _ _ _ e=>e)).far (ac.alloc _) (by decide))
    have ae:∀y∈ls++[(⟨x.p,Ax,cx,x.xs⟩:NdL)],RowAt w2 w.heap.size 103 4 y.A y.xs.length y.c (y.xs.flatMap Bx.cells):=by
     intro y hy
     rcases List.mem_append.1 hy with hy|hy
     ·
      have h:=ab.out y hy;obtain ⟨_,_,a9,_⟩:=ad;exact ag _ _ _ _ _ (h.fr aj (fun h0 k hk e=>h.ne a9 (by decide) h0 k hk e))
     ·
      rw [List.mem_singleton.1 hy];exact ag _ _ _ _ _ (be.lower a8)
    have af:=lh ae;clear ae;go_roundw
    case rel=>
     refine ⟨m,A2,c2,ls++[(⟨x.p,Ax,cx,x.xs⟩:NdL)],a1,e1,by go_num,by simp,by simp;omega,?_,?_,af.out,au,a6,ap,ao⟩
     ·
      show _=_;rw [bd.out,A63];rfl
     ·
      rw [A65,A66,A67,A62,A61];exact al
    case measure=>first|(simp [intOf];done)|(simp [intOf];omega)
   ·
    have hz:(ei==0)=false:=Dk he;obtain ⟨h1,h2,h3⟩:=a5 A (by show _=_;rw [hL.out,Gs _ _ _ _ _ he];simp);have h1:=lh h1;clear he;subst h2 h3;go_wp2_with fail;refine (E4 B g bs _ _ _ ad).mono ?_;rintro _ _ ⟨rfl,rfl⟩;go_wp2
    go_ret
    exact ⟨A,c,ls,h1.out,rfl,aa,ab.out,ad,hf⟩
theorem Xx {bs s:List UInt8} {a a1 a2:Nat} {e e1 e2:Int} {i:Id} (h1:Dn bs a e=(i,a1,e1)) (h2:Pk.rdText bs a1 e1=(s,a2,e2)):E5 bs a e=(⟨i,s⟩,a2,e2):=Im (Bu h1 h2)
def Xy (B g:Nat) (bs:List UInt8) (x:Sl) (a':Nat) (e':Int) (w:World) (r:Ending) (w':World):Prop:=
 ∃A c,r=.returned (.agg #[.int .i64 x.f.b,.int .i64 x.f.s,.int .u64 (x.f.u:Int),.slice A x.y.length c])/\RowAt w' w.heap.size 5 1 A x.y.length c (x.y.map Bv)/\InAt w' B g bs a' e'/\Fr (One g) w w'
section
attribute [local go_sem ↓] Xi
theorem Xz (B g gp gc:Nat) (bs:List UInt8) (a:Nat) (e:Int) (x:Sl) (a':Nat) (e':Int) (w:World) (hin:InAt w B g bs a e) (hp:Blk w gp 98 #[.pointer (some ⟨g,0,none⟩)]) (hc:Blk w gc 101 #[.func (.func 56) #[] #[.pointer (some ⟨gp,0,none⟩)]]) (hl:bs.length<=1099511627776) (hrd:Hid (E5 bs a e=(x,a',e'))):
  Calls zp 69 #[.pointer (some ⟨gp,0,none⟩),.pointer (some ⟨gc,0,none⟩)] w (Xy B g bs x a' e' w):=by
 obtain ⟨i,a1,e1,h1⟩:=Aw (Dn bs a e);obtain ⟨s,a2,e2,h2⟩:=Aw (Pk.rdText bs a1 e1);have hi:Hid (Pk.rdIdent bs a e=((i.b,i.s,i.u),a1,e1)):=Jx h1.out;have hy:=lh ((Xx h1.out h2.out).symm.trans hrd.out);have hg:=hin.lt;have hB:B<=g:=by obtain ⟨_,_,_,_,h,_⟩:=hin;exact h
 have nG:¬One g gp:=by
  obtain ⟨_,_,hb,_⟩:=hin;exact hp.ne hb (by decide)
 have nC:¬One g gc:=by
  obtain ⟨_,_,hb,_⟩:=hin;exact hc.ne hb (by decide)
 have av:=hp.lt;have au:=hc.lt;have ao:w.heap.size≠gp:=by omega
 have ai:w.heap.size≠gc:=by omega
 have nR:¬One g w.heap.size:=by unfold One;omega
 have ad:Blk (w.alloc (.cells #[.int .i64 0,.int .i64 0,.int .u64 0,.slice none 0 0] 119)).drew gp 98 #[.pointer (some ⟨g,0,none⟩)]:=(hp.alloc _).drew;have ag:Blk (w.alloc (.cells #[.int .i64 0,.int .i64 0,.int .u64 0,.slice none 0 0] 119)).drew gc 101 #[.func (.func 56) #[] #[.pointer (some ⟨gp,0,none⟩)]]:=(hc.alloc _).drew;have ar:Blk (w.alloc (.cells #[.int .i64 0,.int .i64 0,.int .u64 0,.slice none 0 0] 119)).drew w.heap.size 119 #[.int .i64 0,.int .i64 0,.int .u64 0,.slice none 0 0]:=(Blk.new w _ _).drew;have ah:InAt (w.alloc (.cells #[.int .i64 0,.int .i64 0,.int .u64 0,.slice none 0 0] 119)).drew B g bs a e:=(hin.alloc _).drewN 1;have ap:Fr Non w (w.alloc (.cells #[.int .i64 0,.int .i64 0,.int .u64 0,.slice none 0 0] 119)).drew:=((Fr.refl _ _).alloc _).drew;have ay:(w.alloc (.cells #[.int .i64 0,.int .i64 0,.int .u64 0,.slice none 0 0] 119)).drew.heap.size=w.heap.size+1:=A73 _ _;have p0:=ad.cell 0;have q0:=ag.cell 0;have ax:=fun (A2:Option Addr) (c2:Nat)=>Cf (P:=zp) (t:=119) (old:=#[.int .i64 0,.int .i64 0,.int .u64 0,.slice none 0 0]) (cs:=#[.int .i64 i.b,.int .i64 i.s,.int .u64 (i.u:Int),.slice A2 s.length c2]) w.heap.size 119 (by kernel_rfl) rfl (by simp [Value.oneCell']);go_enter func69,ntmps69;go_upto_region 1 with (fail)
 generalize w.alloc (.cells #[.int .i64 0,.int .i64 0,.int .u64 0,.slice none 0 0] 119)=w0 at*
 go_region_held3 (fun w'=>w'.cell? ⟨gp,0,none⟩=some (.pointer (some ⟨g,0,none⟩))/\w'.cell? ⟨gc,0,none⟩=some (.func (.func 56) #[] #[.pointer (some ⟨gp,0,none⟩)])) ((and_intros<;>first|assumption|exact Mm p2 ao|exact Mm q2 ai|go_keep)) (first
  |(go_at_call 62;(with_reducible refine (Jr B g bs a e i.b i.s i.u a1 e1 _ ah hi).mono ?_);rintro _ w1 ⟨rfl,aj,ac⟩;have ak:=ad.fr ac nG;have p1:=ak.cell 0;have q1:=(ag.fr ac nC).cell 0)
  |(go_at_call 56;(with_reducible refine (Qa B g gp bs a1 e1 s a2 e2 _ aj ak hl h2).mono ?_);rintro _ w2 ⟨A2,c2,rfl,ab,ae,aq⟩;have aa:=ac.transOne aq;have p2:=(ad.fr aa nG).cell 0;have q2:=(ag.fr aa nC).cell 0;have al:=ar.fr aa nR))
 go_wp2
 cases hy.out
 have aw:=ac.size;refine Ed (t:=119) rfl rfl al.setRow rfl underlying119 (by kernel_rfl) rfl ?_;have af:=(Fr.refl (One w.heap.size) w2).setRow (g:=w.heap.size) (fun _=>rfl) #[.int .i64 i.b,.int .i64 i.s,.int .u64 (i.u:Int),.slice A2 s.length c2];refine ⟨A2,c2,rfl,(ab.fr af (fun h0 k hk e=> ?_)).lower (by omega),ae.fr af (fun k hk=>One.not (A59 hB (A68 hg)) hk) (by unfold One;omega),((ap.of_non (One g)).transOne aa).trans af (fun k hk e=>absurd hk (by have e':k=w.heap.size:=e;omega))⟩;exact ab.ne al (by decide) h0 k hk e
end
def Ya (B g:Nat) (bs:List UInt8) (ys:List Sl) (a':Nat) (e':Int) (w:World) (r:Ending) (w':World):Prop:=
 ∃A c,∃ls:List SlL,ls.map SlL.sl=ys/\r=.returned (.slice A ls.length c)/\Own w' w.heap.size 119 4 A ls.length c (ls.flatMap SlL.cells)/\(∀y∈ls,RowAt w' w.heap.size 5 1 y.A y.y.length y.c (y.y.map Bv))/\InAt w' B g bs a' e'/\Fr (One g) w w'
theorem Yc (B g gp gc:Nat) (bs:List UInt8) (a:Nat) (e:Int) (ys:List Sl) (a':Nat) (e':Int) (w:World) (hin:InAt w B g bs a e) (hrd:Hid (Bk E5 bs a e=(ys,a',e'))) (hp:Blk w gp 98 #[.pointer (some ⟨g,0,none⟩)]) (hc:Blk w gc 101 #[.func (.func 56) #[] #[.pointer (some ⟨gp,0,none⟩)]]) (hl:bs.length<=1099511627776):
  Calls zp 68 #[.pointer (some ⟨g,0,none⟩),.func (.func 69) #[] #[.pointer (some ⟨gp,0,none⟩),.pointer (some ⟨gc,0,none⟩)]] w (Ya B g bs ys a' e' w):=by
 have hg:=hin.lt;obtain ⟨v,a0,e0,hm⟩:=Aw (Pk.rdMany bs a e 1000);have bh:=Ho hm.out;obtain ⟨M,hM⟩:∃M:Nat,v=(M:Int):=⟨v.toNat,by omega⟩;subst hM
 have bb:Hid ((ys,a',e')=loop E5 M bs a0 e0):=by
  show _=_;rw [<- hrd.out];unfold Bk;rw [hm.out];rfl
 have bi:B<=g:=by obtain ⟨_,_,_,_,h,_⟩:=hin;exact h
 have nG:¬One g gp:=by
  obtain ⟨_,_,hb,_⟩:=hin;exact hp.ne hb (by decide)
 have nC:¬One g gc:=by
  obtain ⟨_,_,hb,_⟩:=hin;exact hc.ne hb (by decide)
 go_enter func68,ntmps68;go_wp2_with fail;refine (Hm B g bs a e 1000 (M:Int) a0 e0 _ hin hm).mono ?_;rintro _ w1 ⟨rfl,aw,ar⟩;go_wp2
 go_loopw [5,6] (fun s v wr=>∃(m:Nat) (A:Option Addr) (c:Nat) (ls:List SlL) (ai:Nat) (ei:Int),v=.int .i64 (m:Int)/\s=.slice A ls.length c/\ls.length+m=M/\Hid ((ys,a',e')=(ls.map SlL.sl++(loop E5 m bs ai ei).1,(loop E5 m bs ai ei).2))/\
  Own wr w.heap.size 119 4 A ls.length c (ls.flatMap SlL.cells)/\(∀y∈ls,RowAt wr w.heap.size 5 1 y.A y.y.length y.c (y.y.map Bv))/\InAt wr B g bs ai ei/\Fr (One g) w wr/\Blk wr gp 98 #[.pointer (some ⟨g,0,none⟩)]/\Blk wr gc 101 #[.func (.func 56) #[] #[.pointer (some ⟨gp,0,none⟩)]]) (fun _ v _=>(intOf v).toNat)
 case atStart=>exact ⟨M,none,0,[],a0,e0,rfl,rfl,by simp,by show _=_;rw [bb.out];rfl,Own.nil _ _ _ _,(fun _ h=>by cases h),aw,ar,hp.fr ar nG,hc.fr ar nC⟩
 case round=>
  obtain ⟨m,A,c,ls,ai,ei,rfl,rfl,a7,hL,aa,ah,ad,hf,ay,a3⟩:=hrel;have ab:=lh ah;clear ah;have a8:=hf.size;have a5:∀A:Option Addr,Hid ((ys,a',e')=(ls.map SlL.sl,ai,ei))->ls.map SlL.sl=ys/\a'=ai/\e'=ei:=fun _ h=>⟨(congrArg Prod.fst h.out).symm,congrArg (fun p=>p.2.1) h.out,congrArg (fun p=>p.2.2) h.out⟩
  by_cases hm0:m=0
  ·
   subst hm0;obtain ⟨h1,h2,h3⟩:=a5 A (by show _=_;rw [hL.out];simp [loop]);have h1:=lh h1;subst h2 h3;go_wp2
   go_ret
   exact ⟨A,c,ls,h1.out,rfl,aa,ab.out,ad,hf⟩
  ·
   obtain ⟨m,rfl⟩:∃k,m=k+1:=⟨m-1,by omega⟩;have bf:(0:Int)<((m+1:Nat):Int):=by omega
   by_cases he:ei=0
   ·
    have hz:(ei==0)=true:=E3 he;have a4:=lh he;clear he;go_wp2_with fail;refine (E4 B g bs ai ei _ ad).mono ?_;rintro _ _ ⟨rfl,rfl⟩;obtain ⟨x,a1,e1,hx⟩:=Aw (E5 bs ai ei);have bc:Hid (E5 bs ai 0=(x,a1,e1)):=by show _=_;rw [<- a4.out];exact hx.out
    have h9:=hL.out;rw [a4.out] at h9;have bd:=lh (Hp h9 bc.out);clear h9;go_wp2_with fail;refine (Xz B g gp gc bs ai ei x a1 e1 _ ad ay a3 hl hx).mono ?_;rintro _ wv ⟨Ax,cx,rfl,be,av,aj⟩;have bg:=aj.size;have ac:=aa.fr aj (fun k hk e=>by have:=(aa.row k hk).1;have e':k=g:=e;omega);have aq:=Rd.blk (n:=1) (size:=4) (Blk.new wv 119 #[.int .i64 x.f.b,.int .i64 x.f.s,.int .u64 (x.f.u:Int),.slice Ax x.y.length cx]) rfl;have az:ls.length<=1000:=by omega
    go_wp2_with (first|(at_builtin;go_loud (refine Av (.tmp 18) (.tmp 21) 48 rfl rfl rfl rfl slSl (ac.alloc _) aq (by simp [Value.oneCell']) (by omega) (by omega) (by simp;omega) ?_);intro A2 c2 w2 al ak ba));have au:=(av.alloc (.cells #[.int .i64 x.f.b,.int .i64 x.f.s,.int .u64 (x.f.u:Int),.slice Ax x.y.length cx] 119)).fr ak (fun k hk e=>by have:=(aa.row k e).1;omega) (fun e=>by have:=(aa.row _ e).1;omega);have a6:Fr (One g) w w2:=(((hf.transOne aj).alloc _).trans ak (fun k hk e=>by have:=(aa.row k e).1;omega));have a2:=ay.fr aj nG;have ax:=a3.fr aj nC;have ap:=(a2.alloc (.cells #[.int .i64 x.f.b,.int .i64 x.f.s,.int .u64 (x.f.u:Int),.slice Ax x.y.length cx] 119)).fr ak (fun e=>(ac.ne a2 (by decide)) e);have ao:=(ax.alloc (.cells #[.int .i64 x.f.b,.int .i64 x.f.s,.int .u64 (x.f.u:Int),.slice Ax x.y.length cx] 119)).fr ak (fun e=>(ac.ne ax (by decide)) e)
    have ag:∀(base n cc:Nat) (Ay:Option Addr) (vs:List Value),RowAt wv base 5 1 Ay n cc vs->RowAt w2 base 5 1 Ay n cc vs:=fun base n cc Ay vs h=>
     (h.fr ((Fr.refl Non wv).alloc (.cells #[.int .i64 x.f.b,.int .i64 x.f.s,.int .u64 (x.f.u:Int),.slice Ax x.y.length cx] 119)) (fun _ _ _ e=>e)).fr ak ((h.fr ((Fr.refl Non wv).alloc (.cells #[.int .i64 x.f.b,.int .i64 x.f.s,.int .u64 (x.f.u:Int),.slice Ax x.y.length cx] 119)) (fun _ _ _ e=>e)).far (ac.alloc _) (by decide))
    have ae:∀y∈ls++[(⟨x.f,Ax,cx,x.y⟩:SlL)],RowAt w2 w.heap.size 5 1 y.A y.y.length y.c (y.y.map Bv):=by
     intro y hy
     rcases List.mem_append.1 hy with hy|hy
     ·
      have h:=ab.out y hy;obtain ⟨_,_,a9,_⟩:=ad;exact ag _ _ _ _ _ (h.fr aj (fun h0 k hk e=>h.ne a9 (by decide) h0 k hk e))
     ·
      rw [List.mem_singleton.1 hy];exact ag _ _ _ _ _ (be.lower a8)
    have af:=lh ae;clear ae;go_roundw
    case rel=>
     refine ⟨m,A2,c2,ls++[(⟨x.f,Ax,cx,x.y⟩:SlL)],a1,e1,by go_num,by simp,by simp;omega,?_,?_,af.out,au,a6,ap,ao⟩
     ·
      show _=_;rw [bd.out,A63];rfl
     ·
      rw [A65,A66,A67,A62,A61];exact al
    case measure=>first|(simp [intOf];done)|(simp [intOf];omega)
   ·
    have hz:(ei==0)=false:=Dk he;obtain ⟨h1,h2,h3⟩:=a5 A (by show _=_;rw [hL.out,Gs _ _ _ _ _ he];simp);have h1:=lh h1;clear he;subst h2 h3;go_wp2_with fail;refine (E4 B g bs _ _ _ ad).mono ?_;rintro _ _ ⟨rfl,rfl⟩;go_wp2
    go_ret
    exact ⟨A,c,ls,h1.out,rfl,aa,ab.out,ad,hf⟩
end Oq
def OutAt (w:World) (B g:Nat) (A:Option Addr) (c:Nat) (bs:List UInt8):Prop:=
 Blk w g 180 #[.slice A bs.length c]/\Own w B 5 1 A bs.length c (bs.map Bv)/\B<=g
section
variable {S : Nat -> Prop} {w w' : World} {B g c : Nat} {A : Option Addr} {bs : List UInt8}
theorem OutAt.mk' {n:Nat} {xs:List Value} (hb:Blk w g 180 #[.slice A n c]) (ho:Own w B 5 1 A n c xs) (hB:B<=g) (hx:xs=bs.map Bv):OutAt w B g A c bs:=by
 subst hx;have hl:=ho.len;simp at hl;subst hl;exact ⟨hb,ho,hB⟩
theorem OutAt.ne (h:OutAt w B g A c bs):Ad A≠some g:=h.2.1.ne h.1 (by decide)
theorem OutAt.fr (h:OutAt w B g A c bs) (hf:Fr S w w') (hg:¬S g) (hs:∀k,Ad A=some k->¬S k):OutAt w' B g A c bs:=
 ⟨h.1.fr hf hg,h.2.1.fr hf hs,h.2.2⟩
theorem OutAt.alloc (h:OutAt w B g A c bs) (o:Obj):OutAt (w.alloc o) B g A c bs:=
 h.fr (S:=Non) ((Fr.refl _ _).alloc o) (fun hh=>hh) (fun _ _ hh=>hh)
theorem OutAt.not (h:OutAt w B g A c bs) {B':Nat} (hB:B'<=B):∀k,k<B'->¬RS g A k:=RS.not h.2.1 hB (A59 hB h.2.2)
theorem OutAt.far (h:OutAt w B g A c bs) {g':Nat} {t:TypeId} {cs:Array Value} (hb:Blk w g' t cs) (h1:t≠180) (h2:t≠5):¬RS g A g':=by
 rintro (e|e)
 · exact (hb.ne h.1 h1) e
 · exact h.2.1.ne hb (Ne.symm h2) e
end
def Eg (B g:Nat) (A:Option Addr) (bs:List UInt8) (w:World) (r:Ending) (w':World):Prop:=
 r=.returned (.tuple #[])/\∃A' c',OutAt w' B g A' c' bs/\Bj g w A w' A'
theorem Yd (m:Nat):bits BinOp.or IntKind.u8 ((m:Int)%256) 128=((m%128+128:Nat):Int):=by
 have e1:(m:Int)%256=((m%256:Nat):Int):=by omega
 rw [e1,show (128:Int)=((128:Nat):Int) from rfl,u8_or_nat _ _ (by omega) (by omega)];congr 1;have h1:m%256=m%128+(m/128%2)*128:=by omega
 rcases Nat.mod_two_eq_zero_or_one (m/128) with h|h
 ·
  rw [h1,h,Nat.zero_mul,Nat.add_zero,Nat.or_comm,nat_join 7 _ _ (by omega) (by omega)];omega
 ·
  rw [h1,h,Nat.one_mul];have h2:m%128+128=128|||m%128:=by rw [nat_join 7 _ _ (by omega) (by omega)];omega
  rw [h2,Nat.or_assoc,Nat.or_comm (m%128) 128,<- Nat.or_assoc,Nat.or_self]
theorem Fj (B g:Nat) (A0:Option Addr) (c0:Nat) (bs:List UInt8) (n:Nat) (w:World) (ho:OutAt w B g A0 c0 bs) (hn:n<18446744073709551616) (hl:bs.length<=1099511627776):
  Calls zp 99 #[.pointer (some ⟨g,0,none⟩),.int .u64 (n:Int)] w (Eg B g A0 (bs++Pk.num n) w):=by
 go_enter func99,ntmps99;go_wp2
 go_loopw [1] (fun v wr=>∃(m f:Nat) (L:List UInt8) (A:Option Addr) (c:Nat),v=.int .u64 (m:Int)/\m<2*128^f/\Hid (bs++Pk.num n=L++Pk.numF (f+1) m)/\L.length+f<=bs.length+9/\m<18446744073709551616/\OutAt wr B g A c L/\Bj g w A0 wr A) (fun v _=>(intOf v).toNat)
 case atStart=>exact ⟨n,9,bs,A0,c0,rfl,by simpa using hn,rfl,by omega,hn,ho,Bj.refl _ _ _⟩
 case round=>
  obtain ⟨m,f,L,A,c,rfl,hm,hpre,hlen,hm64,ho',hf⟩:=hrel;have hne:=ho'.ne;obtain ⟨hb,hown,hB⟩:=ho';have h0:=hb.cell 0;have f0:=hb.frozen 0;have hg:=hb.lt;have hBs:B<=wr.heap.size:=by omega
  by_cases hlt:m<128
  ·
   go_wp2_with (first|(at_builtin;go_loud (refine Av (.tmp 24) (.tmp 27) 40 rfl rfl rfl rfl slB (hown.alloc _) (Rd.one _ _ _) (by simp [Value.oneCell']) (by omega) (by omega) (by simp;omega) ?_);intro A1 c1 w1 hown1 hf1 hat1;have hb1:=(hb.alloc (.cells #[.int .u8 (m:Int)] 5)).fr hf1 hne;have h1:=hb1.cell 0;have q1:=hb1.frozen 0))
   go_end0
   refine ⟨rfl,A1,c1,OutAt.mk' (hb1.set 0 (.slice A1 (L.length+1) c1)) (hown1.setOne (hown1.ne hb1 (by decide))) hB ?_,((hf.alloc (.cells #[.int .u8 (m:Int)] 5)).app hf1 hat1).set 0 _⟩;rw [hpre.out];simp [Pk.numF,hlt,Bv];omega
  ·
   have hmore:=lh (Yd m);go_wp2_with (first|(at_builtin;go_loud (refine Av (.tmp 10) (.tmp 14) 40 rfl rfl rfl rfl slB (hown.alloc _) (Rd.one _ _ _) (by simp [Value.oneCell']) (by omega) (by omega) (by simp;omega) ?_);intro A1 c1 w1 hown1 hf1 hat1;have hb1:=(hb.alloc (.cells #[.int .u8 (bits BinOp.or IntKind.u8 ((m:Int)%256) 128)] 5)).fr hf1 hne;have h1:=hb1.cell 0;have q1:=hb1.frozen 0));go_roundw
   case rel=>
    have hf0:f≠0:=by rintro rfl;omega
    obtain ⟨f',rfl⟩:∃f',f=f'+1:=⟨f-1,by omega⟩
    refine ⟨m/128,f',L++[UInt8.ofNat (m%128+128)],A1,c1,by go_num,?_,?_,?_,by omega,OutAt.mk' (hb1.set 0 (.slice A1 (L.length+1) c1)) (hown1.setOne (hown1.ne hb1 (by decide))) hB ?_,
     ((hf.alloc (.cells #[.int .u8 (bits BinOp.or IntKind.u8 ((m:Int)%256) 128)] 5)).app hf1 hat1).set 0 _⟩
    · rw [Nat.div_lt_iff_lt_mul (by omega)];rw [Nat.pow_succ] at hm;omega
    ·
     show _=_;rw [hpre.out];conv=>lhs;unfold Pk.numF
     rw [if_neg hlt];simp
    · simp;omega
    ·
     rw [hmore.out];have:=Pk.tn (m%128+128) (by omega);simp [Bv];omega
   case measure=>simp [intOf];omega
theorem Ye (n:Int) (h0: -9223372036854775808<=n) (h1:n<=9223372036854775807):
  bits BinOp.xor IntKind.u64 (IntKind.u64.wrap (IntKind.u64.wrap n*2)) (IntKind.u64.wrap (n/9223372036854775808))=(Pk.fold n:Int):=by
 unfold Pk.fold
 by_cases hn:n<0
 ·
  rw [if_pos hn];obtain ⟨k,hk⟩:∃k:Nat,n= -((k:Int)+1):=⟨(-n-1).toNat,by omega⟩;subst hk;have e1:IntKind.u64.wrap (IntKind.u64.wrap (-((k:Int)+1))*2)=((18446744073709551614-2*k:Nat):Int):=by rw [IntKind.wrap_u64,IntKind.wrap_u64];omega
  have e2:IntKind.u64.wrap (-((k:Int)+1)/9223372036854775808)=((18446744073709551615:Nat):Int):=by rw [IntKind.wrap_u64];omega
  rw [e1,e2,u64_xor_nat _ _ (by omega) (by omega)]
  have e3:(18446744073709551614-2*k)^^^18446744073709551615=2*k+1:=by
   have h:=BitVec.toNat_not (x:=BitVec.ofNat 64 (18446744073709551614-2*k));rw [<- BitVec.xor_allOnes,BitVec.toNat_xor,BitVec.toNat_allOnes,BitVec.toNat_ofNat,Nat.mod_eq_of_lt (by omega)] at h;rw [show (18446744073709551615:Nat)=2^64-1 from rfl,h];omega
  rw [e3];omega
 ·
  rw [if_neg hn];have e1:IntKind.u64.wrap (IntKind.u64.wrap n*2)=(((2*n).toNat:Nat):Int):=by rw [IntKind.wrap_u64,IntKind.wrap_u64];omega
  have e2:IntKind.u64.wrap (n/9223372036854775808)=((0:Nat):Int):=by rw [IntKind.wrap_u64];omega
  rw [e1,e2,u64_xor_nat _ _ (by omega) (by omega),Nat.xor_zero]
theorem Yf (n:Int) (w:World) (h0: -9223372036854775808<=n) (h1:n<=9223372036854775807):
  Calls zp 156 #[.int .i64 n] w fun e w'=>e=.returned (.int .u64 (Pk.fold n:Int))/\w=w':=by
 have hx:=lh (Ye n h0 h1);go_enter func156,ntmps156;go_wp2
 go_ret
 exact ⟨congrArg (fun z=>ze (.int .u64 z)) hx.out,rfl⟩
theorem E6 (B g:Nat) (A:Option Addr) (c:Nat) (bs:List UInt8) (n:Int) (w:World) (ho:OutAt w B g A c bs) (h0: -9223372036854775808<=n) (h1:n<=9223372036854775807) (hl:bs.length<=1099511627776):
  Calls zp 116 #[.pointer (some ⟨g,0,none⟩),.int .i64 n] w (Eg B g A (bs++Pk.int n) w):=by
 go_enter func116,ntmps116;go_wp2_with fail;refine (Yf n _ h0 h1).mono ?_;rintro _ w1 ⟨rfl,rfl⟩;go_wp2_with fail;refine (Fj B g A c bs (Pk.fold n) _ ho (Pk.fold_lt h0 h1) hl).mono ?_;rintro _ w1 ⟨rfl,A1,c1,ho1,hf1⟩;go_wp2
 go_end0
 exact ⟨rfl,A1,c1,ho1,hf1⟩
theorem Jz (B g:Nat) (A:Option Addr) (c:Nat) (bs:List UInt8) (b s:Int) (u:Nat) (w:World) (ho:OutAt w B g A c bs) (b0: -9223372036854775808<=b) (b1:b<=9223372036854775807)
  (s0: -9223372036854775808<=s) (s1:s<=9223372036854775807) (hu:u<18446744073709551616) (hl:bs.length<=1099511627700):
  Calls zp 119 #[.pointer (some ⟨g,0,none⟩),.agg #[.int .i64 b,.int .i64 s,.int .u64 (u:Int)]] w (Eg B g A (bs++Pk.ident b s u) w):=by
 have hb0:=Blk.new w 45 #[.int .i64 b,.int .i64 s,.int .u64 (u:Int)];have ho0:=ho.alloc (.cells #[.int .i64 b,.int .i64 s,.int .u64 (u:Int)] 45);have l1:=Pk.int_len b;have l2:=Pk.int_len s;go_enter func119,ntmps119;go_wp2_with fail;refine (E6 B g A c bs b _ ho0 b0 b1 (by omega)).mono ?_;rintro _ w1 ⟨rfl,A1,c1,ho1,hf1⟩;have hb1:=hb0.fr hf1.fr (ho0.far hb0 (by decide) (by decide));have h1:=hb1.cell 1;go_wp2_with fail;refine (E6 B g A1 c1 _ s _ ho1 s0 s1 (by simp;omega)).mono ?_;rintro _ w2 ⟨rfl,A2,c2,ho2,hf2⟩;have hb2:=hb1.fr hf2.fr (ho1.far hb1 (by decide) (by decide));have h2:=hb2.cell 2;go_wp2_with fail;refine (Fj B g A2 c2 _ u _ ho2 hu (by simp;omega)).mono ?_;rintro _ w3 ⟨rfl,A3,c3,ho3,hf3⟩;go_wp2
 go_end0
 refine ⟨rfl,A3,c3,?_,(((Bj.refl g w A).alloc _).trans hf1).trans (hf2.trans hf3)⟩;simpa [Pk.ident] using ho3
theorem Qc (B g:Nat) (A:Option Addr) (c:Nat) (bs l:List UInt8) (w:World) (ho:OutAt w B g A c bs) (hl:bs.length+l.length<=1099511627700):
  Calls zp 123 #[.pointer (some ⟨g,0,none⟩),.string (str l)] w (Eg B g A (bs++Pk.text l) w):=by
 have hs:=Ep l;have hil:=Pk.int_len (l.length:Int);go_enter func123,ntmps123;go_wp2_with fail;refine (E6 B g A c bs _ _ ho (by omega) (by omega) (by omega)).mono ?_;rintro _ w1 ⟨rfl,A1,c1,ho1,hf1⟩;clear hs;generalize hL:bs++Pk.int (l.length:Int)=L at ho1;have hL':=lh hL;have hll:L.length<=bs.length+10:=by rw [<- hL];simp;omega
 clear hL;have hne:=ho1.ne;obtain ⟨hb,hown,hB⟩:=ho1;have h0:=hb.cell 0;have f0:=hb.frozen 0;have hBs:B<=w1.heap.size:=A59 hB (A68 hb.lt);go_wp2_with (first|(at_builtin;go_loud (refine Pe (.tmp 12) (.tmp 13) 40 9 rfl rfl rfl rfl slB underlying9 hown (by omega) (by omega) ?_);intro A2 c2 w2 hown2 hf2 hat2;have hb2:=hb.fr hf2 hne;have h2:=hb2.cell 0;have q2:=hb2.frozen 0))
 go_end0
 refine ⟨rfl,A2,c2,OutAt.mk' (hb2.set 0 _) (hown2.setOne (hown2.ne hb2 (by decide))) hB ?_,(hf1.app hf2 hat2).set 0 _⟩;rw [<- A63,<- hL'.out];simp [Pk.text]
theorem Mp (B g:Nat) (A:Option Addr) (c:Nat) (bs:List UInt8) (w:World) (ho:OutAt w B g A c bs) (hl:bs.length<=1099511627776):
  Calls zp 73 #[.pointer (some ⟨g,0,none⟩)] w (NewB w bs):=by
 obtain ⟨hb,hown,hB⟩:=ho;have h0:=hb.cell 0;have hnil:=Own.nil w w.heap.size 5 1;go_enter func73,ntmps73;go_wp2_with (first|(at_builtin;go_loud (refine Av (.const (.slice none 0 0)) (.tmp 6) 40 rfl rfl rfl rfl slB hnil hown.rd (Hk _) (by omega) (by omega) (A69 _) ?_);intro A2 c2 w2 hown2 hf2 hat2))
 go_ret
 rw [A60,List.nil_append] at hown2;exact ⟨A2,c2,by rw [<- A60 bs.length];rfl,hown2,hf2.mono (fun k _ hk=>by cases hk)⟩
def Yg (bs:List UInt8) (w:World) (r:Ending) (w':World):Prop:=
 ∃g A c,r=.returned (.pointer (some ⟨g,0,none⟩))/\Blk w' g 169 #[.slice A bs.length c,.int .i64 0,.int .i64 0]/\Own w' w.heap.size 5 1 A bs.length c (bs.map Bv)/\Fr Non w w'/\w.heap.size<=g/\(∀k,Ad A=some k->k<g)/\Hid (bs.length<=4611686018427387904)
theorem Yh (B n c:Nat) (A:Option Addr) (bs:List UInt8) (w:World) (hn:Hid (bs.length=n)) (hr:Rd w B 1 A n (bs.map Bv)) (hl:n<=1099511627776):
  Calls zp 55 #[.slice A n c] w (Yg bs w):=by
 have hnil:=Own.nil w w.heap.size 5 1;go_enter func55,ntmps55;go_wp2_with (first|(at_builtin;go_loud (refine Av (.const (.slice none 0 0)) (.tmp 3) 40 rfl rfl rfl rfl slB hnil hr (Hk _) (by omega) (by omega) (A69 _) ?_);intro A2 c2 w2 hown2 hf2 hat2))
 go_ret
 rw [A60,List.nil_append] at hown2;have hs:=hf2.size;have hb:=Blk.new w2 169 #[.slice A2 (0+n) c2,.int .i64 0,.int .i64 0];have e2:n=bs.length:=hn.out.symm;refine ⟨w2.heap.size,A2,c2,rfl,?_,?_,(hf2.mono (fun k _ hk=>by cases hk)).alloc _,hs,fun k hk=>(hown2.row k hk).2,?_⟩
 · rw [A60] at hb;rw [<- e2];exact hb
 ·
  rw [<- e2];exact hown2.alloc _
 · show _<=_;rw [<- e2];omega
section
variable {S : Nat -> Prop} {w w' : World} {base g n c : Nat} {A : Option Addr} {bs : List UInt8}
theorem Yi (hb:Blk w g 169 #[.slice A bs.length c,.int .i64 0,.int .i64 0]) (ho:Own w base 5 1 A bs.length c (bs.map Bv)) (hg:∀k,Ad A=some k->k<g) (hl:Hid (bs.length<=4611686018427387904)):InAt w g g bs 0 0:=by
 refine ⟨A,c,hb,?_,A69 _,Nat.zero_le _,hl.out,ho.cap.1⟩;have h:=ho.rd;refine ⟨h.1,?_⟩
 rcases h.2 with h0|⟨b,off,rfl,hlt,h2⟩
 · exact .inl h0
 · exact .inr ⟨b,off,rfl,hg b rfl,h2⟩
end
namespace Oq
def OpBlk (w:World) (g:Nat):Prop:=∃cs,Blk w g 52 cs/\cs.size=27
theorem OpBlk.cell {w:World} {g:Nat} (h:OpBlk w g) (i:Nat) (hi:i<27):∃v,w.cell? ⟨g,i,none⟩=some v:=by
 obtain ⟨cs,hb,hs⟩:=h;rw [hb.cell i];exact ⟨cs[i],Array.getElem?_eq_getElem (by omega)⟩
theorem OpBlk.frozen {w:World} {g:Nat} (h:OpBlk w g) (i:Nat):w.frozen? ⟨g,i,none⟩=false:=by
 obtain ⟨cs,hb,_⟩:=h;exact hb.frozen i
theorem OpBlk.set {w:World} {g:Nat} (h:OpBlk w g) (i:Nat) (u:Value):OpBlk (w.setCell ⟨g,i,none⟩ u) g:=by
 obtain ⟨cs,hb,hs⟩:=h;exact ⟨_,hb.set i u,by simp [hs]⟩
theorem OpBlk.fr {S:Nat->Prop} {w w':World} {g:Nat} (h:OpBlk w g) (hf:Fr S w w') (hg:¬S g):OpBlk w' g:=by
 obtain ⟨cs,hb,hs⟩:=h;exact ⟨cs,hb.fr hf hg,hs⟩
theorem Yj (p v:Value):Instr.storeAt 3 p v=stS 3 p v:=rfl
theorem Yk (p v:Value):Instr.storeAt 43 p v=stS 43 p v:=rfl
theorem Yl (p v:Value):Instr.storeAt 45 p v=stS 45 p v:=rfl
theorem Ym (p v:Value):Instr.storeAt 50 p v=stS 50 p v:=rfl
theorem Yn (p v:Value):Instr.storeAt 40 p v=stS 40 p v:=rfl
theorem Yo (p v:Value):Instr.storeAt 46 p v=stS 46 p v:=rfl
theorem Yp (p v:Value):Instr.storeAt 22 p v=stS 22 p v:=rfl
theorem Yq (p v:Value):Instr.storeAt 47 p v=stS 47 p v:=rfl
theorem Fk (g i:Nat) (hi:i<27) (v:Int):∀w',OpBlk w' g->(stS 3 (.pointer (some ⟨g,i,none⟩)) (.int .i64 v)).run zp w'=.ok () (w'.setCell ⟨g,i,none⟩ (.int .i64 v)):=fun w' h=>by
 obtain ⟨u,hu⟩:=h.cell i hi;have hz:=h.frozen i;unfold stS;go_simp
theorem Yr (g i:Nat) (hi:i<27) (v:Int):∀w',OpBlk w' g->(stS 43 (.pointer (some ⟨g,i,none⟩)) (.int .u64 v)).run zp w'=.ok () (w'.setCell ⟨g,i,none⟩ (.int .u64 v)):=fun w' h=>by
 obtain ⟨u,hu⟩:=h.cell i hi;have hz:=h.frozen i;unfold stS;go_simp
theorem Ys (g i:Nat) (hi:i<27) (A:Option Addr) (n c:Nat):∀w',OpBlk w' g->(stS 40 (.pointer (some ⟨g,i,none⟩)) (.slice A n c)).run zp w'=.ok () (w'.setCell ⟨g,i,none⟩ (.slice A n c)):=fun w' h=>by
 obtain ⟨u,hu⟩:=h.cell i hi;have hz:=h.frozen i;unfold stS;go_simp
theorem Yt (g i:Nat) (hi:i<27) (A:Option Addr) (n c:Nat):∀w',OpBlk w' g->(stS 46 (.pointer (some ⟨g,i,none⟩)) (.slice A n c)).run zp w'=.ok () (w'.setCell ⟨g,i,none⟩ (.slice A n c)):=fun w' h=>by
 obtain ⟨u,hu⟩:=h.cell i hi;have hz:=h.frozen i;unfold stS;go_simp
theorem Yu (g i:Nat) (hi:i<27) (A:Option Addr) (n c:Nat):∀w',OpBlk w' g->(stS 22 (.pointer (some ⟨g,i,none⟩)) (.slice A n c)).run zp w'=.ok () (w'.setCell ⟨g,i,none⟩ (.slice A n c)):=fun w' h=>by
 obtain ⟨u,hu⟩:=h.cell i hi;have hz:=h.frozen i;unfold stS;go_simp
theorem Yv (g i:Nat) (hi:i<27) (A:Option Addr) (n c:Nat):∀w',OpBlk w' g->(stS 47 (.pointer (some ⟨g,i,none⟩)) (.slice A n c)).run zp w'=.ok () (w'.setCell ⟨g,i,none⟩ (.slice A n c)):=fun w' h=>by
 obtain ⟨u,hu⟩:=h.cell i hi;have hz:=h.frozen i;unfold stS;go_simp
theorem Yw (g:Nat) (b s u:Int):∀w',OpBlk w' g->(stS 45 (.pointer (some ⟨g,10,none⟩)) (.agg #[.int .i64 b,.int .i64 s,.int .u64 u])).run zp w'=.ok () (((w'.setCell ⟨g,10,none⟩ (.int .i64 b)).setCell ⟨g,11,none⟩ (.int .i64 s)).setCell ⟨g,12,none⟩ (.int .u64 u)):=fun w' h=>by
 obtain ⟨u0,hu0⟩:=h.cell 10 (by omega);obtain ⟨u1,hu1⟩:=h.cell 11 (by omega);obtain ⟨u2,hu2⟩:=h.cell 12 (by omega);have hz0:=h.frozen 10;have hz1:=h.frozen 11;have hz2:=h.frozen 12;unfold stS;go_simp
theorem Yx (g:Nat) (b s u:Int):∀w',OpBlk w' g->(stS 45 (.pointer (some ⟨g,16,none⟩)) (.agg #[.int .i64 b,.int .i64 s,.int .u64 u])).run zp w'=.ok () (((w'.setCell ⟨g,16,none⟩ (.int .i64 b)).setCell ⟨g,17,none⟩ (.int .i64 s)).setCell ⟨g,18,none⟩ (.int .u64 u)):=fun w' h=>by
 obtain ⟨u0,hu0⟩:=h.cell 16 (by omega);obtain ⟨u1,hu1⟩:=h.cell 17 (by omega);obtain ⟨u2,hu2⟩:=h.cell 18 (by omega);have hz0:=h.frozen 16;have hz1:=h.frozen 17;have hz2:=h.frozen 18;unfold stS;go_simp
theorem Yy (g:Nat) (r s:Int):∀w',OpBlk w' g->(stS 50 (.pointer (some ⟨g,25,none⟩)) (.agg #[.int .u64 r,.int .u64 s])).run zp w'=.ok () ((w'.setCell ⟨g,25,none⟩ (.int .u64 r)).setCell ⟨g,26,none⟩ (.int .u64 s)):=fun w' h=>by
 obtain ⟨u0,hu0⟩:=h.cell 25 (by omega);obtain ⟨u1,hu1⟩:=h.cell 26 (by omega);have hz0:=h.frozen 25;have hz1:=h.frozen 26;unfold stS;go_simp
