/-
  Contracts of the functions that the claim's statement reaches, walked one by one (part 9).
  Conditions: as each theorem says.
-/
import Derived.Test.YtgbdljlapmjmnaaGreatDoorRlB8
set_option maxRecDepth 100000
set_option maxHeartbeats 16000000
open List renaming length_append->As9
open Go.Proofs.Tryz
open Go.Proofs.Tryz renaming prog->zp
open Go.Lib renaming hid->lh
open List renaming set->zl
open Go.Ending renaming returned->ze
namespace Go.Proofs.YtgbdljlapmjmnaaGreatDoor
section
open Go.RowKit Go.Sort
attribute [local go_sem ↓] Go.wp_at_zero Go.wp_at_succ
namespace Oq
theorem Js (v:Value):Instr.loadAt 110 v=ldS 110 v:=rfl
theorem Jt (p v:Value):Instr.storeAt 110 p v=stS 110 p v:=rfl
attribute [local go_sem ↓] Js Jt
def Eb (l:List Ag) (p:Nat->Bool) (k:Nat):List Id:=(List.range k).filterMap (fun i=>if p i then l[i]?.map Ag.id else none)
theorem Rf (l:List Ag) (p:Nat->Bool) (k:Nat) {n:Ag} (h:l[k]? =some n):Eb l p (k+1)=Eb l p k++(if p k then [n.id] else []):=by
 unfold Eb;rw [List.range_succ,List.filterMap_append];congr 1
 cases hp:p k<;>simp [hp,h]
theorem Mj (l:List Ag) (p:Nat->Bool) (k:Nat):(Eb l p k).length<=k:=by
 unfold Eb;have h:=List.length_filterMap_le (fun i=>if p i then l[i]?.map Ag.id else none) (List.range k);simpa using h
theorem Hx (n:Ag):n.cells.toArray.all (·.oneCell')=true:=by
 unfold Ag.cells OpL.cells;simp [Value.oneCell']
def Ju:Prop:=∀(base:Nat) (A:Option Addr) (c:Nat) (xs:List Id) (w:World),Own w base 48 3 A xs.length c (xs.flatMap Id.cells)->xs.length<=1000000->
 Calls zp 125 #[.slice A xs.length c,.func (.func 126) #[] #[]] w fun e w'=>e=.returned (.tuple #[])/\
  ∃ys:List Id,ys.Perm xs/\ys.Pairwise (fun x y=>Id.less y x=false)/\Own w' base 48 3 A ys.length c (ys.flatMap Id.cells)/\Fr (fun k=>Ab A=some k) w w'
def Picked (g:Gph) (p:Nat->Bool) (w:World) (e:Ending) (w':World):Prop:=
 ∃A c,∃ids:List Id,e=.returned (.slice A ids.length c)/\ids.Perm (Eb g.nodes p g.nodes.length)/\ids.Pairwise (fun x y=>Id.less y x=false)/\Own w' w.heap.size 48 3 A ids.length c (ids.flatMap Id.cells)/\Fr Non w w'
theorem Rg (base:Nat) (g:Gph) (fid:Nat) (pre post:Array Value) (p:Nat->Bool) (w:World) (hsort:Ju) (hg:GAt w base g)
  (heg:∀args w,(callFunc fid args).run zp w=.ok (.enter fid args) w)
  (hp:∀(w':World) (i:Nat),Fr Non w w'->i<g.nodes.length->Calls zp fid (pre.push (.int .i64 (i:Int))++post) w' (Ae (p i) w')):
  Calls zp 65 #[.pointer (some ⟨g.gb,0,none⟩),.func (.func fid) pre post] w (Picked g p w):=by
 have hi:(zp.info? 110).map (·.size)=some 35:=by kernel_rfl
 have ai:=hg.few;have c2:cS w g.gb 2 g.nA g.nodes.length g.nC:=hg.blk.cell 2;obtain ⟨n,hn⟩:=Aa g.nodes.length;rw [hn.out] at c2 ai;replace hp:=lh hp;go_enter func65,ntmps65;go_wp2_with fail
 go_loopw [5,13] (fun s v wr=>∃(k:Nat) (A:Option Addr) (c:Nat) (xs:List Id),v=.int .i64 (k:Int)/\s=.slice A xs.length c/\k<=n/\Hid (xs=Eb g.nodes p k)/\Own wr w.heap.size 48 3 A xs.length c (xs.flatMap Id.cells)/\Fr Non w wr) (fun _ v _=>n-(intOf v).toNat)
 case atStart=>exact ⟨0,none,0,[],rfl,rfl,by omega,rfl,Own.nil _ _ _ _,Fr.refl _ _⟩
 case round=>
  obtain ⟨k,A,c,xs,rfl,rfl,hk,af,aa,hf⟩:=hrel
  by_cases hlt:k<n
  ·
   obtain ⟨i1,i2,i3⟩:=ix k n
   obtain ⟨nd,ap⟩:∃x,g.nodes[k]? =some x:=⟨_,List.getElem?_eq_getElem (by rw [hn.out];exact hlt)⟩;have ar:=lh (Rf g.nodes p k ap);have a6:xs.length<=k:=by rw [af.out];exact Mj _ _ _
   have aq:=hg.fr hf;obtain ⟨b,av,hA,ba,hc⟩:=aq.cell ap
   have a4:World.rangeAt wr b (av+k*35) nd.cells.toArray.toList:=by
    intro j v hv;have hj:j<35:=(List.getElem?_eq_some_iff.1 hv).1;exact hc j hj v hv
   have a8:=Et (P:=zp) nd.cells.toArray b (av+k*35) underlying110 rfl hi;have ay:=Cl (P:=zp) (t:=110) (old:=zN) (cs:=nd.cells.toArray) wr.heap.size 110 hi rfl (Hx nd);have au:=Blk.new wr 110 zN;have a3:Hid (nd.cells.toArray[27]? =some (.int .i64 nd.id.b)):=rfl;have a0:Hid (nd.cells.toArray[28]? =some (.int .i64 nd.id.s)):=rfl;have a7:Hid (nd.cells.toArray[29]? =some (.int .u64 (nd.id.u:Int))):=rfl;have bz:=au.setRow (cs:=nd.cells.toArray);have fz:=(hf.alloc (.cells zN 110)).setRow (g:=wr.heap.size) (fun h=>by have h1:=hf.size;omega) nd.cells.toArray;have oz:=(aa.alloc (.cells zN 110)).fr ((Fr.refl (One wr.heap.size) _).setRow (g:=wr.heap.size) (fun _=>rfl) nd.cells.toArray) (fun j hj e=>by have h1:=(aa.row j hj).2;have e':j=wr.heap.size:=e;omega);have ad:=aa.row;rw [hA];replace hA:=lh hA;generalize nd.cells.toArray=CN at*;go_upto_region 5 with (fail)
   generalize (wr.alloc (.cells zN 110)).setRow wr.heap.size CN=w1 at*;have ah:=lh (hp.out w1 k fz (by rw [hn.out];exact hlt));clear a8 ay au a4 hc aq;generalize p k=pk at*
   cases pk
   ·
    have ae:Hid (xs=Eb g.nodes p (k+1)):=by show _=_;rw [ar.out,af.out];simp
    go_wp2_with fail;refine (ah.out).mono ?_;rintro _ w2 ⟨rfl,f2⟩;have ab:=oz.fr f2 zr;have ag:=fz.trans f2 zr;clear oz fz f2 ah;go_wp2_with fail;go_roundw
    case rel=>exact ⟨k+1,A,c,xs,by go_num,rfl,by omega,ae,ab,ag⟩
    case measure=>simp [intOf];omega
   ·
    have ae:Hid (xs++[nd.id]=Eb g.nodes p (k+1)):=by show _=_;rw [ar.out,af.out];simp
    go_wp2_with fail;refine (ah.out).mono ?_;rintro _ w2 ⟨rfl,f2⟩;have ab:=oz.fr f2 zr;have ag:=fz.trans f2 zr;have b2:=bz.fr f2 zq;have g0:cI w2 wr.heap.size 27 nd.id.b:=(b2.cell 27).trans a3.out;have g1:cI w2 wr.heap.size 28 nd.id.s:=(b2.cell 28).trans a0.out;have g2:cU w2 wr.heap.size 29 nd.id.u:=(b2.cell 29).trans a7.out;have ao:=ab.alloc (.cells nd.id.V 48);have ax:=ag.alloc (.cells nd.id.V 48);have a2:=Blk.new w2 48 nd.id.V;have a9:=ag.size;clear oz fz f2 ah bz b2 ab;go_wp2_with (at_builtin;go_loud (refine Aw (base:=w.heap.size) (.tmp 21) (.tmp 24) 25 rfl rfl rfl rfl Di ao (Rd.blk (n:=1) (size:=3) a2 rfl) (by simp [Value.oneCell']) (by omega) (by omega) (by rw [World.size_alloc];omega) ?_);intro A2 aw w4 aj a1 a5)
    have al:Own w4 w.heap.size 48 3 A2 (xs++[nd.id]).length aw ((xs++[nd.id]).flatMap Id.cells):=by
     rw [As9,List.flatMap_append];exact aj
    have az:Fr Non w w4:=ax.trans a1 (fun j hj e=>by have h5:=(ad j e).1;omega);go_roundw
    case rel=>exact ⟨k+1,A2,aw,xs++[nd.id],by go_num,by rw [As9];rfl,by omega,ae,al,az⟩
    case measure=>simp [intOf];omega
  ·
   obtain rfl:n=k:=by omega
   have ac:=af.out;rw [<- hn.out] at ac;have a6:xs.length<=200:=by have h1:=Mj g.nodes p g.nodes.length;rw [<- ac,hn.out] at h1;omega
   have kc:=lh (hsort w.heap.size A c xs wr aa (by omega));have ad:=aa.row
   have ak:Hid (∀(ys:List Id) (wz:World),ys.Perm xs->ys.Pairwise (fun x y=>Id.less y x=false)->Own wz w.heap.size 48 3 A ys.length c (ys.flatMap Id.cells)->Fr (fun k=>Ab A=some k) wr wz->Picked g p w (.returned (.slice A xs.length c)) wz):=by
    intro ys wz h1 h2 h3 h4;rw [<- h1.length_eq];exact ⟨A,c,ys,rfl,by rw [<- ac];exact h1,h2,h3,hf.trans h4 (fun j hj e=>by have h5:=(ad j e).1;omega)⟩
   generalize Picked g p w=POST at*;clear af ac aa hp heg hg hsort;go_wp2_with (go_at_call 125;go_loud (with_reducible refine (kc.out).mono ?_);rintro _ wz ⟨rfl,ys,h1,h2,h3,h4⟩);exact ak.out ys wz h1 h2 h3 h4
end Oq
end
end Go.Proofs.YtgbdljlapmjmnaaGreatDoor
