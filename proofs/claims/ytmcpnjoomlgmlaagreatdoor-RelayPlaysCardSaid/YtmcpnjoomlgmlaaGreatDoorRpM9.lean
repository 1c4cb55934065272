/- Contracts of functions, walked (part 9).
Conditions: as each theorem says. -/
import Derived.Test.YtmcpnjoomlgmlaaGreatDoorRpM8
set_option maxRecDepth 100000
set_option maxHeartbeats 16000000
open List renaming length_append->A59
open Go.Proofs.Tryz
open Go.Proofs.Tryz renaming prog->zp
open Go.Lib renaming hid->lh
open List renaming set->zl
open Go.Ending renaming returned->ze
namespace Go.Proofs.YtmcpnjoomlgmlaaGreatDoor
section
open Go.RowKit Go.Sort
attribute [local go_sem ↓] Go.wp_at_zero Go.wp_at_succ
namespace Oq
theorem Kr (v:Value):Instr.loadAt 134 v=ldS 134 v:=rfl
theorem Ks (p v:Value):Instr.storeAt 134 p v=stS 134 p v:=rfl
attribute [local go_sem ↓] Kr Ks
def Fo (l:List Aj) (p:Nat->Bool) (k:Nat):List Id:=(List.range k).filterMap (fun i=>if p i then l[i]?.map Aj.id else none)
theorem S5 (l:List Aj) (p:Nat->Bool) (k:Nat) {n:Aj} (h:l[k]? =some n):Fo l p (k+1)=Fo l p k++(if p k then [n.id] else []):=by
 unfold Fo;rw [List.range_succ,List.filterMap_append];congr 1
 cases hp:p k<;>simp [hp,h]
theorem S6 (l:List Aj) (p:Nat->Bool) (k:Nat):(Fo l p k).length<=k:=by
 unfold Fo;have h:=List.length_filterMap_le (fun i=>if p i then l[i]?.map Aj.id else none) (List.range k);simpa using h
theorem Iy (n:Aj):n.cells.toArray.all (·.oneCell')=true:=by
 unfold Aj.cells OpL.cells;simp [Value.oneCell']
def Ny:Prop:=∀(base:Nat) (A:Option Addr) (c:Nat) (xs:List Id) (w:World),Own w base 45 3 A xs.length c (xs.flatMap Id.cells)->xs.length<=1000000->
 Calls zp 97 #[.slice A xs.length c,.func (.func 149) #[] #[]] w fun e w'=>e=.returned (.tuple #[])/\
  ∃ys:List Id,ys.Perm xs/\ys.Pairwise (fun x y=>Id.less y x=false)/\Own w' base 45 3 A ys.length c (ys.flatMap Id.cells)/\Fr (fun k=>Ad A=some k) w w'
def Picked (g:Gph) (p:Nat->Bool) (w:World) (e:Ending) (w':World):Prop:=
 ∃A c,∃ids:List Id,e=.returned (.slice A ids.length c)/\ids.Perm (Fo g.nodes p g.nodes.length)/\ids.Pairwise (fun x y=>Id.less y x=false)/\Own w' w.heap.size 45 3 A ids.length c (ids.flatMap Id.cells)/\Fr Non w w'
theorem Ah0 (base:Nat) (g:Gph) (fid:Nat) (pre post:Array Value) (p:Nat->Bool) (w:World) (hsort:Ny) (hg:GAt w base g)
  (heg:∀args w,(callFunc fid args).run zp w=.ok (.enter fid args) w)
  (hp:∀(w':World) (i:Nat),Fr Non w w'->i<g.nodes.length->Calls zp fid (pre.push (.int .i64 (i:Int))++post) w' (Ae (p i) w')):
  Calls zp 95 #[.pointer (some ⟨g.gb,0,none⟩),.func (.func fid) pre post] w (Picked g p w):=by
 have hi:(zp.info? 134).map (·.size)=some 35:=by kernel_rfl
 have aj:=hg.few;have c2:cS w g.gb 2 g.nA g.nodes.length g.nC:=hg.blk.cell 2;obtain ⟨n,hn⟩:=Ab g.nodes.length;rw [hn.out] at c2 aj;replace hp:=lh hp;go_enter func95,ntmps95;go_wp2_with fail
 go_loopw [5,13] (fun s v wr=>∃(k:Nat) (A:Option Addr) (c:Nat) (xs:List Id),v=.int .i64 (k:Int)/\s=.slice A xs.length c/\k<=n/\Hid (xs=Fo g.nodes p k)/\Own wr w.heap.size 45 3 A xs.length c (xs.flatMap Id.cells)/\Fr Non w wr) (fun _ v _=>n-(intOf v).toNat)
 case atStart=>exact ⟨0,none,0,[],rfl,rfl,by omega,rfl,Own.nil _ _ _ _,Fr.refl _ _⟩
 case round=>
  obtain ⟨k,A,c,xs,rfl,rfl,hk,af,aa,hf⟩:=hrel
  by_cases hlt:k<n
  ·
   obtain ⟨i1,i2,i3⟩:=ix k n
   obtain ⟨nd,au⟩:∃x,g.nodes[k]? =some x:=⟨_,List.getElem?_eq_getElem (by rw [hn.out];exact hlt)⟩;have aq:=lh (S5 g.nodes p k au);have a3:xs.length<=k:=by rw [af.out];exact S6 _ _ _
   have aw:=hg.fr hf;obtain ⟨b,av,hA,a9,hc⟩:=aw.cell au
   have a8:World.rangeAt wr b (av+k*35) nd.cells.toArray.toList:=by
    intro j v hv;have hj:j<35:=(List.getElem?_eq_some_iff.1 hv).1;exact hc j hj v hv
   have a7:=Ge (P:=zp) nd.cells.toArray b (av+k*35) underlying134 rfl hi;have a4:=Cf (P:=zp) (t:=134) (old:=zN) (cs:=nd.cells.toArray) wr.heap.size 134 hi rfl (Iy nd);have ar:=Blk.new wr 134 zN;have ay:Hid (nd.cells.toArray[27]? =some (.int .i64 nd.id.b)):=rfl;have a0:Hid (nd.cells.toArray[28]? =some (.int .i64 nd.id.s)):=rfl;have a6:Hid (nd.cells.toArray[29]? =some (.int .u64 (nd.id.u:Int))):=rfl;have bz:=ar.setRow (cs:=nd.cells.toArray);have fz:=(hf.alloc (.cells zN 134)).setRow (g:=wr.heap.size) (fun h=>by have h1:=hf.size;omega) nd.cells.toArray;have oz:=(aa.alloc (.cells zN 134)).fr ((Fr.refl (One wr.heap.size) _).setRow (g:=wr.heap.size) (fun _=>rfl) nd.cells.toArray) (fun j hj e=>by have h1:=(aa.row j hj).2;have e':j=wr.heap.size:=e;omega);have ae:=aa.row;rw [hA];replace hA:=lh hA;generalize nd.cells.toArray=CN at*;go_upto_region 5 with (fail)
   generalize (wr.alloc (.cells zN 134)).setRow wr.heap.size CN=w1 at*;have ag:=lh (hp.out w1 k fz (by rw [hn.out];exact hlt));clear a7 a4 ar a8 hc aw;generalize p k=pk at*
   cases pk
   ·
    have ad:Hid (xs=Fo g.nodes p (k+1)):=by show _=_;rw [aq.out,af.out];simp
    go_wp2_with fail;refine (ag.out).mono ?_;rintro _ w2 ⟨rfl,f2⟩;have ac:=oz.fr f2 zr;have ah:=fz.trans f2 zr;clear oz fz f2 ag;go_wp2_with fail;go_roundw
    case rel=>exact ⟨k+1,A,c,xs,by go_num,rfl,by omega,ad,ac,ah⟩
    case measure=>simp [intOf];omega
   ·
    have ad:Hid (xs++[nd.id]=Fo g.nodes p (k+1)):=by show _=_;rw [aq.out,af.out];simp
    go_wp2_with fail;refine (ag.out).mono ?_;rintro _ w2 ⟨rfl,f2⟩;have ac:=oz.fr f2 zr;have ah:=fz.trans f2 zr;have b2:=bz.fr f2 zq;have g0:cI w2 wr.heap.size 27 nd.id.b:=(b2.cell 27).trans ay.out;have g1:cI w2 wr.heap.size 28 nd.id.s:=(b2.cell 28).trans a0.out;have g2:cU w2 wr.heap.size 29 nd.id.u:=(b2.cell 29).trans a6.out;have al:=ac.alloc (.cells nd.id.V 45);have ax:=ah.alloc (.cells nd.id.V 45);have a5:=Blk.new w2 45 nd.id.V;have ba:=ah.size;clear oz fz f2 ag bz b2 ac;go_wp2_with (at_builtin;go_loud (refine Av (base:=w.heap.size) (.tmp 21) (.tmp 24) 25 rfl rfl rfl rfl Ds al (Rd.blk (n:=1) (size:=3) a5 rfl) (by simp [Value.oneCell']) (by omega) (by omega) (by rw [World.size_alloc];omega) ?_);intro A2 ap w4 ai a1 az)
    have ak:Own w4 w.heap.size 45 3 A2 (xs++[nd.id]).length ap ((xs++[nd.id]).flatMap Id.cells):=by
     rw [A59,List.flatMap_append];exact ai
    have a2:Fr Non w w4:=ax.trans a1 (fun j hj e=>by have h5:=(ae j e).1;omega);go_roundw
    case rel=>exact ⟨k+1,A2,ap,xs++[nd.id],by go_num,by rw [A59];rfl,by omega,ad,ak,a2⟩
    case measure=>simp [intOf];omega
  ·
   obtain rfl:n=k:=by omega
   have ab:=af.out;rw [<- hn.out] at ab;have a3:xs.length<=200:=by have h1:=S6 g.nodes p g.nodes.length;rw [<- ab,hn.out] at h1;omega
   have kc:=lh (hsort w.heap.size A c xs wr aa (by omega));have ae:=aa.row
   have ao:Hid (∀(ys:List Id) (wz:World),ys.Perm xs->ys.Pairwise (fun x y=>Id.less y x=false)->Own wz w.heap.size 45 3 A ys.length c (ys.flatMap Id.cells)->Fr (fun k=>Ad A=some k) wr wz->Picked g p w (.returned (.slice A xs.length c)) wz):=by
    intro ys wz h1 h2 h3 h4;rw [<- h1.length_eq];exact ⟨A,c,ys,rfl,by rw [<- ab];exact h1,h2,h3,hf.trans h4 (fun j hj e=>by have h5:=(ae j e).1;omega)⟩
   generalize Picked g p w=POST at*;clear af ab aa hp heg hg hsort;go_wp2_with (go_at_call 97;go_loud (with_reducible refine (kc.out).mono ?_);rintro _ wz ⟨rfl,ys,h1,h2,h3,h4⟩);exact ao.out ys wz h1 h2 h3 h4
