/-
  Contracts of the functions that the claim's statement reaches, walked one by one (part 15).
  Conditions: as each theorem says.
-/
import Derived.ChangeKeysEq
import Derived.Test.YtkanjaikgphjfaaGreatDoorFkN7
import Derived.Test.YtkanjaikgphjfaaGreatDoorFkN11
import Derived.Test.YtkanjaikgphjfaaGreatDoorFkN12
import Derived.Test.YtkanjaikgphjfaaGreatDoorFkN13
import Derived.Test.YtkanjaikgphjfaaGreatDoorFkN14
set_option maxRecDepth 100000
set_option maxHeartbeats 16000000
open Bool renaming not_false→An5,not_true→An6,eq_false_iff→Ao2
open Int renaming tmod_eq_emod_of_nonneg→Ao3,tdiv_eq_ediv_of_nonneg→Ao4
open List renaming not_mem_nil→Am8,getElem?_eq_getElem→An0,mem_of_getElem?→An2,length_append→An7,mem_cons_self→An8,append_nil→An9,getElem?_of_mem→Ao5,length_filter_le→Ao6,length_filterMap_le→Ao7,getElem_map→Ao8,flatMap_cons→Ao9,getElem?_toArray→Ap0
open Nat renaming le_trans→Am9,lt_of_lt_of_le→An3,le_refl→An4,zero_mul→Ao0,add_zero→Ao1
open Go.World renaming size_alloc→An1
namespace Go.Proofs.YtkanjaikgphjfaaGreatDoor
section
open Go.RowKit
attribute [local go_sem ↓] Go.wp_at_zero Go.wp_at_succ
namespace Oq
attribute [local go_sem] An5 An6
attribute [local go_sem ↓] Fz Cg Gs Es
def fg0 (A:Option Addr) (c:Nat) (cs:List Cd):FG:=⟨A,c,cs,none,0,[],none,0,none,0,[],[]⟩
theorem Ak4 {A:Option Addr} {c:Nat} {cs:List Cd} {w:World} {base:Nat} (h:RowAt w base 71 5 A cs.length c (cs.flatMap Cd.cells)) (hf:cs.length≤1000) (hk:∀c∈cs,c.s<18446744073709551616):(fg0 A c cs).own w base where
 cards:=h
 ops:=RowAt.nil _ _ _ _
 each _ hx:=absurd hx Am8
 same:=rfl
 ok _ hx:=absurd hx Am8
 ids:=RowAt.nil _ _ _ _
 pasts:=RowAt.nil _ _ _ _
 eachP _ hx:=absurd hx Am8
 lenP:=rfl
 sameP _ _ _ hx _:=by cases hx
 rows:=Rows.nil
 num:=⟨fun _ hn=>absurd hn Am8,fun _ hn=>absurd hn Am8,fun _ hn=>absurd hn Am8,fun _ hn=>absurd hn Am8,by show 0≤14;decide⟩
 cfew:=hf
 cok:=hk
theorem Ak5:∀c∈Ba 0 [1,2,2,3],c.s<18446744073709551616:=fun c hc=>by
 obtain ⟨xs,h1,_,_,h4⟩:=Lw [1,2,2,3] 0 (by decide);rw [← h1] at hc;obtain ⟨x,hx,rfl⟩:=List.mem_map.1 hc;exact h4 x hx
def Mz (l0:List Int) (w:World) (e:Ending) (w':World):Prop:=
 ∃r:FG,e=.returned (.agg r.cells)∧Fr Non w w'∧r.own w' w.heap.size∧r.cards=Ba 0 [1,2,2,3]∧r.l=E3 l0
def Ak6:OpL:={OpL.zero with by_:=1,sq:=1,kind:=1}
theorem M3:OpL.zero.op.ok:=by
 have z:I64 0:=⟨by decide,by decide⟩;have u:U64 0:=by unfold U64;decide
 have e:∀{α:Type} {P:α→Prop},(([]:List α).length≤1000∧∀x∈([]:List α),P x):=⟨by simp,fun _ h=>absurd h Am8⟩;exact {by_:=z,sq:=z,kind:=z,at_:=z,past:=e,dev:=z,old:=z,mem:=z,role:=z,path:=e,epoch:=⟨z,z,u⟩,n:=z,body:=by decide,refs:=e,of:=⟨z,z,u⟩,guards:=e,need:=z,wait:=z,boxes:=e,pub:=u,hist:=e,r:=u,s:=u}
theorem Gc {w:World} {base:Nat} {x y:OpL} (h:x.lies w base) (h1:y.pastA=x.pastA∧y.pastC=x.pastC∧y.past=x.past) (h2:y.pathA=x.pathA∧y.pathC=x.pathC∧y.path=x.path) (h3:y.bodyA=x.bodyA∧y.bodyC=x.bodyC∧y.body=x.body) (h4:y.refsA=x.refsA∧y.refsC=x.refsC∧y.refs=x.refs) (h5:y.guardsA=x.guardsA∧y.guardsC=x.guardsC∧y.guards=x.guards) (h6:y.boxesA=x.boxesA∧y.boxesC=x.boxesC∧y.boxes=x.boxes) (h7:y.histA=x.histA∧y.histC=x.histC∧y.hist=x.hist):y.lies w base:=by
 obtain ⟨a1,a2,a3⟩:=h1;obtain ⟨b1,b2,b3⟩:=h2;obtain ⟨c1,c2,c3⟩:=h3;obtain ⟨d1,d2,d3⟩:=h4;obtain ⟨e1,e2,e3⟩:=h5;obtain ⟨f1,f2,f3⟩:=h6;obtain ⟨g1,g2,g3⟩:=h7;exact ⟨by rw [a1,a2,a3];exact h.past,by rw [b1,b2,b3];exact h.path,by rw [b3];exact h.nodes,by rw [c1,c2,c3];exact h.body,by rw [d1,d2,d3];exact h.refs,by rw [e1,e2,e3];exact h.guards,by rw [f1,f2,f3];exact h.boxes,by rw [g1,g2,g3];exact h.hist,by rw [g3];exact h.seals⟩
structure Dr (w7 v:World) (base go:Nat) (x:OpL) (A:Option Addr) (n c:Nat) (on:List Nat):Prop where
 b:Blk v go 67 x.cells
 f:Fr Non w7 v
 l:x.lies v base
 os:Own v (go+1) 3 1 A n c (on.map Qv)
 len:on.length=n
 gd:x.guardsA=none∧x.guardsC=0∧x.guards=[]
 gs:w7.heap.size≤go
 sz:go<v.heap.size
theorem Dr.non {w7 v v':World} {base go:Nat} {x:OpL} {A:Option Addr} {n c:Nat} {on:List Nat} (s:Dr w7 v base go x A n c on) (hf:Fr Non v v'):Dr w7 v' base go x A n c on:=
 ⟨s.b.fr hf zq,s.f.trans hf zr,s.l.non hf,s.os.fr hf zr,s.len,s.gd,s.gs,An3 s.sz hf.size⟩
theorem Dr.app {w7 v v':World} {base go:Nat} {x:OpL} {A A':Option Addr} {n c n' c':Nat} {on on':List Nat} (s:Dr w7 v base go x A n c on) (hf:Fr (fun k=>Ac A=some k) v v') (ho:Own v' (go+1) 3 1 A' n' c' (on'.map Qv)) (hl:on'.length=n'):Dr w7 v' base go x A' n' c' on':=
 ⟨s.b.fr hf (fun e=>by have:=(s.os.row _ e).1;omega),s.f.trans hf (fun k hk e=>by have:=(s.os.row k e).1;have:=s.gs;omega),⟨s.l.past.keepT hf ((Types.row s.os).not (by decide)),s.l.path.keepT hf ((Types.row s.os).not (by decide)),fun y hy=>(s.l.nodes y hy).keepT hf ((Types.row s.os).not (by decide)),s.l.body.keepT hf ((Types.row s.os).not (by decide)),s.l.refs.keepT hf ((Types.row s.os).not (by decide)),by (obtain ⟨h1,h2,h3⟩:=s.gd;rw [h1,h2,h3];exact ⟨SlAt.nil _ _ _,.inl rfl⟩),s.l.boxes.keepT hf ((Types.row s.os).not (by decide)),s.l.hist.keepT hf ((Types.row s.os).not (by decide)),fun y hy=>(s.l.seals y hy).keepT hf ((Types.row s.os).not (by decide))⟩,ho,hl,s.gd,s.gs,An3 s.sz hf.size⟩
theorem Dr.setB {w7 v:World} {base go:Nat} {x:OpL} {A:Option Addr} {n c:Nat} {on:List Nat} (s:Dr w7 v base go x A n c on) (j:Nat) (u:Value) (y:OpL) (hc:x.cells.setIfInBounds j u=y.cells) (hg:y.guardsA=none∧y.guardsC=0∧y.guards=[]) (hy:∀v',x.lies v' base→(∀(t:TypeId) (size n c:Nat) (A:Option Addr) (xs:List Value),t≠67→RowLies v base t size A n c xs→RowLies v' base t size A n c xs)→y.lies v' base):Dr w7 (v.setCell ⟨go,j,none⟩ u) base go y A n c on where
 b:=hc▸s.b.set j u
 f:=s.f.setNew (g:=go) (by have:=s.gs;omega) j u
 l:=hy _ (s.l.keepP ((Fr.refl (One go) v).setOne j u) (Types.one s.b) (by decide) (by decide) (by decide) (by decide) (by decide) (by decide) (by decide)) (fun _ _ _ _ _ _ ht h=>h.keepT ((Fr.refl (One go) v).setOne j u) ((Types.one s.b).not ht))
 os:=Own.setFar s.os s.b (by decide) u
 len:=s.len
 gd:=hg
 gs:=s.gs
 sz:=by have:=s.sz;first|exact this|(simp [World.setCell];omega)
theorem Jt (B n c:Nat) (A:Option Addr) (l0:List Int) (w:World) (hn:Hid (l0.length=n)) (hr:Rd w B 1 A n (l0.map Iv)) (hnm:n≤9223372036854775807) (hok:∀x∈l0,I64 x):
  Calls Tryz.prog 9 #[.slice A n c] w (Mz l0 w):=by
 have kc:=Lib.hid (fun (w':World) (hr:Rd w' w'.heap.size 1 (some ⟨w.heap.size+1,0,none⟩) 4 (([1,2,2,3]:List Int).map Iv))=>Wq 4 4 (some ⟨w.heap.size+1,0,none⟩) [1,2,2,3] w' rfl (by decide) hr);have br:=(Blk.new w 28 #[.slice none 0 0,.slice none 0 0,.slice none 0 0,.slice none 0 0]).alloc (.cells #[.int .i64 1,.int .i64 2,.int .i64 2,.int .i64 3] 3);have bi:=Blk.new (w.alloc (.cells #[.slice none 0 0,.slice none 0 0,.slice none 0 0,.slice none 0 0] 28)) 3 #[.int .i64 1,.int .i64 2,.int .i64 2,.int .i64 3];rw [An1] at bi;have f0:Fr Non w ((w.alloc (.cells #[.slice none 0 0,.slice none 0 0,.slice none 0 0,.slice none 0 0] 28)).alloc (.cells #[.int .i64 1,.int .i64 2,.int .i64 2,.int .i64 3] 3)):=((Fr.refl Non w).alloc _).alloc _;go_enter Tryz.func9,Tryz.ntmps9;go_upto_region 1 with (fail)
 generalize hw0:(w.alloc (.cells #[.slice none 0 0,.slice none 0 0,.slice none 0 0,.slice none 0 0] 28)).alloc (.cells #[.int .i64 1,.int .i64 2,.int .i64 2,.int .i64 3] 3)=w0 at*;unfold P3 at kc
 have c4:Rd w0 w0.heap.size 1 (some ⟨w.heap.size+1,0,none⟩) 4 (([1,2,2,3]:List Int).map Iv):=by
  rw [← hw0] at bi ⊢;exact Rd.blk (n:=4) (size:=1) bi rfl
 go_upto_region 2 with (go_at_call 28;(with_reducible refine (kc.out _ c4).mono ?_);rintro _ w1 ⟨A1,c1,rfl,o1,f1⟩;have dh:=f0.trans f1 zr;have bv:=br.fr f1 zq;have bn:=Blk.new w1 28 #[.slice none 0 0,.slice none 0 0,.slice none 0 0,.slice none 0 0];have ap:=Bb (P:=Tryz.prog) w1.heap.size 28 (cs:=#[.slice A1 4 c1,.slice none 0 0,.slice none 0 0,.slice none 0 0]) Bu (old:=#[.slice none 0 0,.slice none 0 0,.slice none 0 0,.slice none 0 0]) rfl (by simp [Value.oneCell']))
 have cy:=(bv.alloc (.cells #[.slice none 0 0,.slice none 0 0,.slice none 0 0,.slice none 0 0] 28)).setRow_far (g':=w1.heap.size) (by have:=bv.lt;omega) (cs:=#[.slice A1 4 c1,.slice none 0 0,.slice none 0 0,.slice none 0 0]);have b5:Blk ((w1.alloc (.cells #[.slice none 0 0,.slice none 0 0,.slice none 0 0,.slice none 0 0] 28)).setRow w1.heap.size #[.slice A1 4 c1,.slice none 0 0,.slice none 0 0,.slice none 0 0]) w1.heap.size 28 (fg0 A1 c1 (Ba 0 [1,2,2,3])).cells:=bn.setRow (cs:=#[.slice A1 4 c1,.slice none 0 0,.slice none 0 0,.slice none 0 0]);have fG:Fr Non w1 ((w1.alloc (.cells #[.slice none 0 0,.slice none 0 0,.slice none 0 0,.slice none 0 0] 28)).setRow w1.heap.size #[.slice A1 4 c1,.slice none 0 0,.slice none 0 0,.slice none 0 0]):=((Fr.refl Non w1).alloc _).setRow (fun hh=>absurd hh (by omega)) _;have ec:w.heap.size<w1.heap.size:=bv.lt;have er:w.heap.size≤w0.heap.size:=f0.size;have f3:=dh.trans fG zr;have ay:(fg0 A1 c1 (Ba 0 [1,2,2,3])).own ((w1.alloc (.cells #[.slice none 0 0,.slice none 0 0,.slice none 0 0,.slice none 0 0] 28)).setRow w1.heap.size #[.slice A1 4 c1,.slice none 0 0,.slice none 0 0,.slice none 0 0]) w.heap.size:=Ak4 ((RowAt.of_own (o1.fr fG zr)).lower (by omega)) (by decide) Ak5;have bt:w1.heap.size<((w1.alloc (.cells #[.slice none 0 0,.slice none 0 0,.slice none 0 0,.slice none 0 0] 28)).setRow w1.heap.size #[.slice A1 4 c1,.slice none 0 0,.slice none 0 0,.slice none 0 0]).heap.size:=b5.lt;clear ap bn bv br o1 fG dh c4 f1;obtain ⟨gv,df⟩:=Ab w1.heap.size;rw [df.out] at b5 ay cy f3 ec bt ⊢;generalize (w1.alloc (.cells #[.slice none 0 0,.slice none 0 0,.slice none 0 0,.slice none 0 0] 28)).setRow gv #[.slice A1 4 c1,.slice none 0 0,.slice none 0 0,.slice none 0 0]=w3 at*;have av:(fg0 A1 c1 (Ba 0 [1,2,2,3])).cards=Ba 0 [1,2,2,3]:=rfl;have cc:(fg0 A1 c1 (Ba 0 [1,2,2,3])).l=[]:=rfl;generalize fg0 A1 c1 (Ba 0 [1,2,2,3])=r0 at*;clear bi kc hw0 f0 er df w1 w0;have dn:=OpL.zero_own w3 w.heap.size;have kp:=Sz w.heap.size w3.heap.size 0 0 none r0 Ak6 [] w3 ay (Gc dn.lies ⟨rfl,rfl,rfl⟩ ⟨rfl,rfl,rfl⟩ ⟨rfl,rfl,rfl⟩ ⟨rfl,rfl,rfl⟩ ⟨rfl,rfl,rfl⟩ ⟨rfl,rfl,rfl⟩ ⟨rfl,rfl,rfl⟩) f3.size {M3 with by_:=(show I64 1 from ⟨by decide,by decide⟩),sq:=(show I64 1 from ⟨by decide,by decide⟩),kind:=(show I64 1 from ⟨by decide,by decide⟩)} ⟨rfl,rfl,rfl⟩ ⟨1,rfl,by omega⟩ ⟨by decide,by decide⟩ rfl (Rd.nil _ _ _ _) (by omega) (fun _ h=>absurd h Am8) (by rw [cc];exact Ak2 av);replace kp:Hid (Calls Tryz.prog 29 #[.agg r0.cells,.agg #[.int .i64 1,.int .i64 1,.int .i64 1,.int .i64 0,.slice none 0 0,.int .i64 0,.int .i64 0,.int .i64 0,.int .i64 0,.slice none 0 0,.int .i64 0,.int .i64 0,.int .u64 0,.int .i64 0,.slice none 0 0,.slice none 0 0,.int .i64 0,.int .i64 0,.int .u64 0,.slice none 0 0,.int .i64 0,.int .i64 0,.slice none 0 0,.int .u64 0,.slice none 0 0,.int .u64 0,.int .u64 0],.slice none 0 0] w3 (Ga w.heap.size r0 (Ej 1) [] w3)):=kp;have hl:=Bi (P:=Tryz.prog) gv 28 Tryz.underlying28 rfl (cs:=r0.cells) Bu;clear dn;go_upto_region 3 with (go_at_call 29;(with_reducible refine (kp.out).mono ?_);rintro _ w4 ⟨r1,rfl,f4,a7,az,a5⟩;(have c3:=b5.fr f4 zq);(have ap:=Bb (P:=Tryz.prog) gv 28 (cs:=r1.cells) Bu (old:=r0.cells) rfl (Ez r1)))
 have a6:=a7.setG c3 r1.cells;have dp:Blk (w4.setRow gv r1.cells) gv 28 r1.cells:=c3.setRow;have dt:=(cy.fr f4 zq).setRow_far (g':=gv) (by omega) (cs:=r1.cells);have f5:=(f3.trans f4 zr).setRow (g:=gv) (fun hh=>absurd hh (by omega)) r1.cells;rw [av] at az;rw [cc] at a5;replace a5:r1.l=E2 l0 0:=a5;clear ap hl kp ay b5 cy f3 bt av cc f4 a7 c3;generalize w4.setRow gv r1.cells=w5 at*;go_wp2_with (fail)
 go_loopw [4] (fun v wr=>∃(j I:Nat) (r:FG),Hid (I=2*j)∧v=.int .i64 (I:Int)∧j≤13∧j≤n/2∧Blk wr gv 28 r.cells∧r.own wr w.heap.size∧r.cards=Ba 0 [1,2,2,3]∧Hid (r.l=E2 l0 j)∧Blk wr w.heap.size 28 #[.slice none 0 0,.slice none 0 0,.slice none 0 0,.slice none 0 0]∧Fr Non w wr) (fun v _=>26-(intOf v).toNat)
 case atStart=>exact ⟨0,0,r1,rfl,rfl,by omega,by omega,dp,a6,az,a5,dt,f5⟩
 case round=>
 clear dp a6 az a5 dt f5;obtain ⟨j,I,r,hI,rfl,hj,e8,bn,ro,b2,a1,br,hf⟩:=hrel;have fd:I≤26:=by have:=hI.out;omega
 have e1:IntKind.i64.wrap ((I:Int)+1)=(I:Int)+1:=IntWalk.i64_in _ (by omega)
 by_cases hgo:I+1<n∧I<26
 ·
  have t1:decide ((I:Int)+1<(n:Int))=true:=decide_eq_true (by omega);have t2:decide ((I:Int)<26)=true:=decide_eq_true (by omega);have k1:=Lib.hid (fun (v:World) (hv:Fr Non w v)=>Ml B n c I A l0 v hn (hr.fr hv zr) hok hnm (by omega))
  have k2:Hid (∀(v:World),Fr Non w v→Calls Tryz.prog 30 #[.slice A n c,.int .i64 ((I:Int)+1)] v fun e w'=>e=.returned (.int .i64 (Cm l0 (I+1):Int))∧Fr Non v w'):=fun v hv=>by
   have h:=Ml B n c (I+1) A l0 v hn (hr.fr hv zr) hok hnm (by omega);rwa [show (((I+1:Nat)):Int)=(I:Int)+1 from by omega] at h
  have aa:Hid (E2 l0 (j+1)=My r.l (Cm l0 I) (Cm l0 (I+1))):=by
   show My (E2 l0 j) (Cm l0 (2*j)) (Cm l0 (2*j+1))=_;rw [a1.out,hI.out]
  have cl:r.l≠[]:=by rw [a1.out];exact Ht l0 j
  have ck:r.l.length≤13:=by rw [a1.out];have:=S6 l0 j;have:=hI.out;omega
  obtain ⟨a,ha⟩:=Ab (Cm l0 I);obtain ⟨b,hb⟩:=Ab (Cm l0 (I+1));rw [ha.out] at k1 aa;rw [hb.out] at k2 aa;have e5:a≤1000000∧b≤1000000:=by rw [← ha.out,← hb.out];exact ⟨Mq _ _,Mq _ _⟩
  clear ha hb hok hr a1
  go_upto_region 8 with (first
   |(go_at_call 30;(with_reducible refine (k1.out _ hf).mono ?_);rintro _ w6 ⟨rfl,f6⟩;(have cq:=hf.trans f6 zr))
   |(go_at_call 30;(with_reducible refine (k2.out _ cq).mono ?_);rintro _ w7 ⟨rfl,f7⟩))
  have b6:=cq.trans f7 zr;have co:=bn.fr (f6.trans f7 zr) zq;have dg:=br.fr (f6.trans f7 zr) zq;have ao:=ro.non (f6.trans f7 zr);clear bn br ro hf f6 f7 cq k1 k2;have bp:Hid (∀v,Fr Non w7 v→Blk v gv 28 r.cells):=fun v hv=>co.fr hv zq;obtain ⟨D,hD⟩:=Ab (a%4);have eo:D<4:=by rw [← hD.out];exact Nat.mod_lt _ (by omega)
  have es:(a:Int).tmod 4=(D:Int):=by rw [Ao3 (by omega),← hD.out];rfl
  have e4:IntKind.i64.wrap (1+(D:Int))=1+(D:Int):=IntWalk.i64_in _ (by omega);have ej:IntKind.i64.wrap (D:Int)=(D:Int):=IntWalk.i64_in _ (by omega);obtain ⟨X1,a3⟩:∃X:OpL,Hid (X={OpL.zero with by_:=(1:Int)+D,kind:=4}):=⟨_,rfl⟩;have bx:X1.cells=#[.int .i64 (1+(D:Int)),.int .i64 0,.int .i64 4,.int .i64 0,.slice none 0 0,.int .i64 0,.int .i64 0,.int .i64 0,.int .i64 0,.slice none 0 0,.int .i64 0,.int .i64 0,.int .u64 0,.int .i64 0,.slice none 0 0,.slice none 0 0,.int .i64 0,.int .i64 0,.int .u64 0,.slice none 0 0,.int .i64 0,.int .i64 0,.slice none 0 0,.int .u64 0,.slice none 0 0,.int .u64 0,.int .u64 0]:=by rw [a3.out];rfl
  have c0:(Tryz.prog.info? 67).map (·.size)=some (#[.int .i64 (1+(D:Int)),.int .i64 0,.int .i64 4,.int .i64 0,.slice none 0 0,.int .i64 0,.int .i64 0,.int .i64 0,.int .i64 0,.slice none 0 0,.int .i64 0,.int .i64 0,.int .u64 0,.int .i64 0,.slice none 0 0,.slice none 0 0,.int .i64 0,.int .i64 0,.int .u64 0,.slice none 0 0,.int .i64 0,.int .i64 0,.slice none 0 0,.int .u64 0,.slice none 0 0,.int .u64 0,.int .u64 0]:Array Value).size:=by show _=some 27;kernel_rfl
  have ap:=Bb (P:=Tryz.prog) (t:=67) w7.heap.size 67 (cs:=#[.int .i64 (1+(D:Int)),.int .i64 0,.int .i64 4,.int .i64 0,.slice none 0 0,.int .i64 0,.int .i64 0,.int .i64 0,.int .i64 0,.slice none 0 0,.int .i64 0,.int .i64 0,.int .u64 0,.int .i64 0,.slice none 0 0,.slice none 0 0,.int .i64 0,.int .i64 0,.int .u64 0,.slice none 0 0,.int .i64 0,.int .i64 0,.slice none 0 0,.int .u64 0,.slice none 0 0,.int .u64 0,.int .u64 0]) c0 (old:=zO) rfl (by rw [← bx];exact Fb X1);have bo:=Blk.new w7 67 zO;go_upto_region 9 with (fail)
  have b1:Blk ((w7.alloc (.cells zO 67)).setRow w7.heap.size #[.int .i64 (1+(D:Int)),.int .i64 0,.int .i64 4,.int .i64 0,.slice none 0 0,.int .i64 0,.int .i64 0,.int .i64 0,.int .i64 0,.slice none 0 0,.int .i64 0,.int .i64 0,.int .u64 0,.int .i64 0,.slice none 0 0,.slice none 0 0,.int .i64 0,.int .i64 0,.int .u64 0,.slice none 0 0,.int .i64 0,.int .i64 0,.slice none 0 0,.int .u64 0,.slice none 0 0,.int .u64 0,.int .u64 0]) w7.heap.size 67 X1.cells:=bx▸bo.setRow;have f8:Fr Non w7 ((w7.alloc (.cells zO 67)).setRow w7.heap.size #[.int .i64 (1+(D:Int)),.int .i64 0,.int .i64 4,.int .i64 0,.slice none 0 0,.int .i64 0,.int .i64 0,.int .i64 0,.int .i64 0,.slice none 0 0,.int .i64 0,.int .i64 0,.int .u64 0,.int .i64 0,.slice none 0 0,.slice none 0 0,.int .i64 0,.int .i64 0,.int .u64 0,.slice none 0 0,.int .i64 0,.int .i64 0,.slice none 0 0,.int .u64 0,.slice none 0 0,.int .u64 0,.int .u64 0]):=((Fr.refl Non w7).alloc _).setRow (fun hh=>absurd hh (by omega)) _;have c2:=b1.lt;clear ap bo;obtain ⟨go,bj⟩:=Ab w7.heap.size;rw [bj.out] at b1 f8 c2 ⊢;generalize (w7.alloc (.cells zO 67)).setRow go #[.int .i64 (1+(D:Int)),.int .i64 0,.int .i64 4,.int .i64 0,.slice none 0 0,.int .i64 0,.int .i64 0,.int .i64 0,.int .i64 0,.slice none 0 0,.int .i64 0,.int .i64 0,.int .u64 0,.int .i64 0,.slice none 0 0,.slice none 0 0,.int .i64 0,.int .i64 0,.int .u64 0,.slice none 0 0,.int .i64 0,.int .i64 0,.slice none 0 0,.int .u64 0,.slice none 0 0,.int .u64 0,.int .u64 0]=w8 at*;have dl:=co.fr f8 zq;have g1:Hid (r.cells[1]? =some (.slice r.lA r.l.length r.lC)):=rfl;have d1:=(dl.cell 1).trans g1.out;have ce:0<r.l.length:=List.length_pos_iff.2 cl;obtain ⟨L,hL⟩:=Ab r.l.length;rw [hL.out] at d1 g1 ce;have d6:((L:Int)==0)=false:=beq_eq_false_iff_ne.2 (by omega);obtain ⟨Q1,bk⟩:=Ab (a/4%L);have db:((a:Int).tdiv 4).tmod (L:Int)=(Q1:Int):=by rw [Ao4 (by omega),Ao3 (by omega),← bk.out];rfl
  have cv:IntKind.i64.wrap (Q1:Int)=(Q1:Int):=IntWalk.i64_in _ (by have:Q1≤a:=(by rw [← bk.out];exact Am9 (Nat.mod_le _ _) (Nat.div_le_self _ _));omega);have c5:(a:Int).tdiv 4=((a/4:Nat):Int):=by rw [Ao4 (by omega)];rfl
  have cm:IntKind.i64.wrap ((a/4:Nat):Int)=((a/4:Nat):Int):=IntWalk.i64_in _ (by omega);have ew:((a/4:Nat):Int).tmod (L:Int)=(Q1:Int):=by rw [← c5];exact db
  have da:(a:Int)/4%(L:Int)=(Q1:Int):=by rw [← bk.out];rfl
  go_upto_region 10 with (fail)
  try rw [da]
  have f9:Fr Non w8 (w8.alloc (.cells #[.int .i64 (Q1:Int)] 3)):=(Fr.refl Non w8).alloc _;have bq:=Blk.new w8 3 #[.int .i64 (Q1:Int)];have dc:X1.lies w7 w.heap.size:=by rw [a3.out];exact Gc (OpL.zero_own w7 w.heap.size).lies ⟨rfl,rfl,rfl⟩ ⟨rfl,rfl,rfl⟩ ⟨rfl,rfl,rfl⟩ ⟨rfl,rfl,rfl⟩ ⟨rfl,rfl,rfl⟩ ⟨rfl,rfl,rfl⟩ ⟨rfl,rfl,rfl⟩
  have s9:Dr w7 (w8.alloc (.cells #[.int .i64 (Q1:Int)] 3)) w.heap.size go X1 (some ⟨w8.heap.size,0,none⟩) 1 1 [Q1]:=⟨b1.fr f9 zq,f8.trans f9 zr,dc.non (f8.trans f9 zr),Own.blk bq (by omega) (by omega) rfl (by omega),rfl,by rw [a3.out];exact ⟨rfl,rfl,rfl⟩,by rw [← bj.out];exact An4 _,An3 c2 f9.size⟩;clear f9 bq dc b1 f8 c2 dl d1 co;obtain ⟨A9,d5⟩:=Ab (some (⟨w8.heap.size,0,none⟩:Addr));rw [d5.out] at s9 ⊢;generalize w8.alloc (.cells #[.int .i64 (Q1:Int)] 3)=w9 at*;have d9:=bp.out w9 s9.f;have kl:=Lib.hid (Ag0 w.heap.size r (1+(D:Int)) w9 (ao.non s9.f));have hl:=Bi (P:=Tryz.prog) gv 28 Tryz.underlying28 rfl (cs:=r.cells) Bu;have o0:w9.cell? ⟨go,0,none⟩=some (.int .i64 (1+(D:Int))):=by have h9:=s9.b.cell 0;rw [bx] at h9;exact h9
  rw [hL.out] at kl;go_upto_region 11 with (go_at_call 31;(with_reducible refine (kl.out).mono ?_);rintro _ cu ⟨rfl,di⟩)
  have a2:=s9.non di;clear s9 di o0 d9 kl;have c6:=Mg r.l (1+(D:Int)) L;obtain ⟨Z,hZ⟩:=Ab (Di r.l (1+(D:Int)) L);rw [hZ.out] at c6 ⊢;obtain ⟨C,hC⟩:∃C:Bool,C=(decide (0≤Z)&&decide (0<a/64%5)):=⟨_,rfl⟩
  have ag:Hid ((if 0≤Z∧0<a/64%5 then [Z.toNat] else [])=if C=true then [Z.toNat] else []):=by
   show _=_;rw [hC]
   by_cases h1:0≤Z∧0<a/64%5
   · rw [if_pos h1,if_pos (by simp [h1])]
   · rw [if_neg h1,if_neg (fun e=>h1 (by simpa using e))]
  go_cut [56] from 49 to 56 (fun t wc=>cu=wc∧t=.bool C)
  case first=>
   have dj:Hid ((a:Int)/64%5=((a/64%5:Nat):Int)):=by show _=_;rfl
   rcases zb (decide (0≤Z)) with z1|z1
   ·
    have d7:decide (Z≥0)=true:=z1
    rcases zb (decide (0<a/64%5)) with u1|u1
    ·
     have u2:decide ((a:Int)/64%5>0)=true:=by rw [dj.out];exact decide_eq_true (by have:=of_decide_eq_true u1;omega)
     have et:decide (0<(a:Int)/64%5)=true:=u2;rw [z1,u1] at hC;go_wp2_with (fail);go_meet;exact ⟨rfl,by rw [hC];rfl⟩
    ·
     have u2:decide ((a:Int)/64%5>0)=false:=by rw [dj.out];exact decide_eq_false (by have:=of_decide_eq_false u1;omega)
     have et:decide (0<(a:Int)/64%5)=false:=u2;rw [z1,u1] at hC;go_wp2_with (fail);go_meet;exact ⟨rfl,by rw [hC];rfl⟩
   ·
    have d7:decide (Z≥0)=false:=z1;rw [z1] at hC;go_wp2_with (fail);go_meet;exact ⟨rfl,by rw [hC];rfl⟩
  case rest=>
  obtain ⟨rfl,rfl⟩:=hcut
  go_upto_if 56 with (fail)
  go_cut [8] from 57 to 60 (fun t wc=>∃A' n' c',t=.slice A' n' c'∧n'≤2∧Dr w7 wc w.heap.size go X1 A' n' c' ([Q1]++(if C=true then [Z.toNat] else [])))
  case first=>
   cases C
   case true=>
    have z1:0≤Z:=by
     have h9:=hC.symm;rw [Bool.and_eq_true] at h9;exact of_decide_eq_true h9.1
    clear hC ag;have bz:=Blk.new cu 3 #[.int .i64 Z];have e3:Hid (Value.int .i64 Z=Qv Z.toNat):=by show Value.int .i64 Z=Value.int .i64 ((Z.toNat:Nat):Int);rw [Int.toNat_of_nonneg z1]
    have so:=a2.os;have sg:=a2.gs;have ss:=a2.sz;go_wp2_with (at_builtin;go_loud (refine Az (base:=go+1) (.tmp 57) (.tmp 59) 22 rfl rfl rfl rfl Fq (so.alloc (.cells #[.int .i64 Z] 3)) (Rd.blk (n:=1) (size:=1) bz rfl) (by simp [Value.oneCell']) (by omega) (by omega) (by rw [An1];omega) ?_);intro A8 c8 v8 ai cw cg);go_meet;refine ⟨A8,2,c8,rfl,by omega,(a2.non ((Fr.refl Non cu).alloc (.cells #[.int .i64 Z] 3))).app cw ?_ rfl⟩;rw [e3.out] at ai;exact ai
   case false=>
    clear hC ag;go_wp2_with (fail);go_meet;exact ⟨A9,1,1,rfl,by omega,a2⟩
  case rest=>
  obtain ⟨ea,d4,eh,rfl,ef,ah⟩:=hcut;clear a2 hC;generalize wc=w11 at*;have dv:Hid ((b:Int)%3=((b%3:Nat):Int)):=by show _=_;rfl
  obtain ⟨cz,aq⟩:∃cz:List Nat,Hid (cz=[Q1]++(if C=true then [Z.toNat] else [])):=⟨_,rfl⟩;rw [← aq.out] at ah;have t3:Hid (((b:Int)%3==0)=decide (b%3=0)):=by show _=_;rw [dv.out,Bool.eq_iff_iff,beq_iff_eq,decide_eq_true_eq];omega
  obtain ⟨ae,ak⟩:∃ae:List Nat,Hid (ae=cz++(if b%3=0 then [b/3%L] else [])):=⟨_,rfl⟩
  go_upto_if 63 with (fail)
  rw [t3.out];obtain ⟨C3,b0⟩:=Ab (decide (b%3=0));rw [b0.out]
  go_cut [8] from 61 to 72 (fun t wc=>∃A' n' c',t=.slice A' n' c'∧n'≤3∧Dr w7 wc w.heap.size go X1 A' n' c' ae)
  case first=>
   cases C3
   case true=>
    have ac:=Lib.hid (ak.out.trans (by rw [if_pos (of_decide_eq_true b0.out)]));have b8:=bp.out w11 ah.f;have d1:=(b8.cell 1).trans g1.out;obtain ⟨Q3,d0⟩:=Ab (b/3%L);have ep:(b:Int)/3%(L:Int)=(Q3:Int):=by rw [← d0.out];rfl
    rw [d0.out] at ac;have bz:=Blk.new w11 3 #[.int .i64 (Q3:Int)];have so:=ah.os;have sg:=ah.gs;have ss:=ah.sz;clear t3;go_wp2_with (at_builtin;(try rw [ep]);go_loud (refine Az (base:=go+1) (.tmp 64) (.tmp 71) 22 rfl rfl rfl rfl Fq (so.alloc (.cells #[.int .i64 (Q3:Int)] 3)) (Rd.blk (n:=1) (size:=1) bz rfl) (by simp [Value.oneCell']) (by omega) (by omega) (by rw [An1];omega) ?_);intro A8 c8 v8 ai cw cg);go_meet;refine ⟨A8,d4+1,c8,rfl,by omega,(ah.non ((Fr.refl Non w11).alloc (.cells #[.int .i64 (Q3:Int)] 3))).app cw ?_ ?_⟩
    ·
     rw [ac.out,List.map_append];exact ai
    ·
     rw [ac.out,An7,ah.len];rfl
   case false=>
    have ac:=Lib.hid (ak.out.trans (by rw [if_neg (of_decide_eq_false b0.out),An9]));clear t3;go_wp2_with (fail);go_meet;exact ⟨ea,d4,eh,rfl,by omega,by rw [ac.out];exact ah⟩
  case rest=>
  obtain ⟨ct,cx,ci,rfl,ek,ar⟩:=hcut;clear ah b0 t3 dv;generalize wc=w12 at*;have bw:Hid (((b:Int)%2==0)=decide (b%2=0)):=by show _=_;rw [Bool.eq_iff_iff,beq_iff_eq,decide_eq_true_eq];omega
  go_upto_if 75 with (fail)
  rw [bw.out];obtain ⟨C2,a0⟩:=Ab (decide (b%2=0));rw [a0.out];obtain ⟨m0,bi,oi,cj,dx,i0,i1,i2⟩:=ao.idAt (i:=0) (by rw [hL.out];exact ce)
  go_cut [] from 73 to 88 (fun wc=>∃x2:OpL,Dr w7 wc w.heap.size go x2 ct cx ci ae∧Hid (x2.op=Cq (if b%2=0 then 7 else 4) (1+(D:Int)) 0 0 [] (nmP r.l 0) [UInt8.ofNat (65+b/2%3)]∧x2.pastA=none∧x2.pastC=0∧x2.past=[]∧x2.by_=1+(D:Int)∧x2.at_=0∧x2.op.ok))
  case first=>
   cases C2
   case true=>
    have hc:=of_decide_eq_true a0.out;clear bw a0;have z2:w12.cell? ⟨go,2,none⟩=some (.int .i64 X1.kind):=ar.b.cell 2;have y2:=ar.b.frozen 2;go_upto_region 17 with (fail)
    have ab:=ar.setB 2 (.int .i64 7) {X1 with kind:=7} rfl ar.gd (fun v' h _=>Gc h ⟨rfl,rfl,rfl⟩ ⟨rfl,rfl,rfl⟩ ⟨rfl,rfl,rfl⟩ ⟨rfl,rfl,rfl⟩ ⟨rfl,rfl,rfl⟩ ⟨rfl,rfl,rfl⟩ ⟨rfl,rfl,rfl⟩);clear z2 y2 ar;generalize w12.setCell ⟨go,2,none⟩ (.int .i64 7)=w13 at*;have g2:Hid (r.cells[2]? =some (.slice r.iA r.l.length r.iC)):=rfl;rw [dx,hL.out] at g2;have d2:=((bp.out w13 ab.f).cell 2).trans g2.out;rw [Ao0,Ao1] at i0 i1 i2;have en:=ab.f.cell i0 zq;have ey:=ab.f.cell i1 zq;have eb:=ab.f.cell i2 zq;have eg:=ab.b.frozen 16;have ev:=ab.b.frozen 17;have em:=ab.b.frozen 18;have eu:w13.cell? ⟨go,16,none⟩=some (.int .i64 X1.of.b):=ab.b.cell 16;have el:w13.cell? ⟨go,17,none⟩=some (.int .i64 X1.of.s):=ab.b.cell 17;have d8:w13.cell? ⟨go,18,none⟩=some (.int .u64 (X1.of.u:Int)):=ab.b.cell 18;go_upto_region 18 with (fail)
    have cb:=ab.setB 16 (.int .i64 m0.id.b) {X1 with kind:=7,of:=⟨m0.id.b,X1.of.s,X1.of.u⟩} rfl ab.gd (fun v' h _=>Gc h ⟨rfl,rfl,rfl⟩ ⟨rfl,rfl,rfl⟩ ⟨rfl,rfl,rfl⟩ ⟨rfl,rfl,rfl⟩ ⟨rfl,rfl,rfl⟩ ⟨rfl,rfl,rfl⟩ ⟨rfl,rfl,rfl⟩);have cr:=cb.setB 17 (.int .i64 m0.id.s) {X1 with kind:=7,of:=⟨m0.id.b,m0.id.s,X1.of.u⟩} rfl cb.gd (fun v' h _=>Gc h ⟨rfl,rfl,rfl⟩ ⟨rfl,rfl,rfl⟩ ⟨rfl,rfl,rfl⟩ ⟨rfl,rfl,rfl⟩ ⟨rfl,rfl,rfl⟩ ⟨rfl,rfl,rfl⟩ ⟨rfl,rfl,rfl⟩);have cp:=cr.setB 18 (.int .u64 (m0.id.u:Int)) {X1 with kind:=7,of:=m0.id} rfl cr.gd (fun v' h _=>Gc h ⟨rfl,rfl,rfl⟩ ⟨rfl,rfl,rfl⟩ ⟨rfl,rfl,rfl⟩ ⟨rfl,rfl,rfl⟩ ⟨rfl,rfl,rfl⟩ ⟨rfl,rfl,rfl⟩ ⟨rfl,rfl,rfl⟩);clear ab cb cr eu el d8 eg ev em en ey eb d2;generalize ((w13.setCell ⟨go,16,none⟩ (.int .i64 m0.id.b)).setCell ⟨go,17,none⟩ (.int .i64 m0.id.s)).setCell ⟨go,18,none⟩ (.int .u64 (m0.id.u:Int))=w16 at*;have b3:=cp.non ((Fr.refl Non w16).alloc (.cells #[.int .u8 (65+(b:Int)/2%3)] 5));have fb:(w16.alloc (.cells #[.int .u8 (65+(b:Int)/2%3)] 5)).cell? ⟨go,14,none⟩=some (.slice X1.bodyA X1.body.length X1.bodyC):=b3.b.cell 14;have e6:=b3.b.frozen 14;have bb:=Blk.new w16 5 #[.int .u8 (65+(b:Int)/2%3)];have b9:=cp.sz;have de:=b6.size;have e9:IntKind.i64.wrap (65+(b:Int)/2%3)=65+(b:Int)/2%3:=IntWalk.i64_in _ (by omega);have fc:IntKind.u8.wrap (65+(b:Int)/2%3)=65+(b:Int)/2%3:=by rw [IntKind.wrap_u8];omega
    go_wp2_with (fail);go_meet;have hU:(UInt8.ofNat (65+b/2%3)).toNat=65+b/2%3:=by rw [UInt8.toNat_ofNat'];omega
    have hV:#[Value.int .u8 (65+(b:Int)/2%3)].toList=[UInt8.ofNat (65+b/2%3)].map Bv:=by
     show [Value.int .u8 (65+(b:Int)/2%3)]=[Value.int .u8 ((UInt8.ofNat (65+b/2%3)).toNat:Int)];rw [hU];rfl
    have ob:RowLies (w16.alloc (.cells #[.int .u8 (65+(b:Int)/2%3)] 5)) w.heap.size 5 1 (some ⟨w16.heap.size,0,none⟩) [UInt8.ofNat (65+b/2%3)].length 1 ([UInt8.ofNat (65+b/2%3)].map Bv):=by
     rw [← hV];exact (RowAt.of_own (Own.blk (base:=w.heap.size) (n:=1) (size:=1) bb (by have:=cp.gs;omega) (by omega) rfl (by omega))).lies
    refine ⟨{X1 with kind:=7,of:=m0.id,bodyA:=some ⟨w16.heap.size,0,none⟩,bodyC:=1,body:=[UInt8.ofNat (65+b/2%3)]},by rw [← World.setCell_alloc_past _ _ _ _ b9];exact b3.setB 14 (.slice (some ⟨w16.heap.size,0,none⟩) 1 1) {X1 with kind:=7,of:=m0.id,bodyA:=some ⟨w16.heap.size,0,none⟩,bodyC:=1,body:=[UInt8.ofNat (65+b/2%3)]} rfl b3.gd (fun v' h keep=>⟨h.past,h.path,h.nodes,keep _ _ _ _ _ _ (by decide) ob,h.refs,h.guards,h.boxes,h.hist,h.seals⟩),?_⟩;show _∧_;rw [a3.out,if_pos hc,Ek cj];have cn:=(ao.ok m0 (An2 cj)).2;exact ⟨rfl,rfl,rfl,rfl,rfl,rfl,{M3 with by_:=(show I64 (1+(D:Int)) from ⟨by omega,by omega⟩),kind:=(show I64 7 from ⟨by decide,by decide⟩),of:=cn,body:=(show 1≤1000000 by decide)}⟩
   case false=>
    have hc:=of_decide_eq_false a0.out;clear bw a0;go_wp2_with (fail);go_meet;refine ⟨X1,ar,?_⟩;show _∧_;rw [a3.out,if_neg hc];exact ⟨rfl,rfl,rfl,rfl,rfl,rfl,{M3 with by_:=(show I64 (1+(D:Int)) from ⟨by omega,by omega⟩),kind:=(show I64 4 from ⟨by decide,by decide⟩)}⟩
  case rest=>
  obtain ⟨x2,bl,ds⟩:=hcut;clear ar a0 bw a3 bx;generalize wc=w18 at*;obtain ⟨aj,bs,ba,bf,bu,ca,a4⟩:=ds.out;replace aj:=Lib.hid aj;have z3:w18.cell? ⟨go,3,none⟩=some (.int .i64 x2.at_):=bl.b.cell 3;have y3:=bl.b.frozen 3;go_upto_region 20 with (fail)
  obtain ⟨TT,b4⟩:=Ab (b/6%4);have c9:(b:Int)/6%4=(TT:Int):=by rw [← b4.out];rfl
  have ez:TT<4:=by rw [← b4.out];exact Nat.mod_lt _ (by omega)
  rw [c9];have af:=bl.setB 3 (.int .i64 (TT:Int)) {x2 with at_:=(TT:Int)} rfl bl.gd (fun v' h _=>Gc h ⟨rfl,rfl,rfl⟩ ⟨rfl,rfl,rfl⟩ ⟨rfl,rfl,rfl⟩ ⟨rfl,rfl,rfl⟩ ⟨rfl,rfl,rfl⟩ ⟨rfl,rfl,rfl⟩ ⟨rfl,rfl,rfl⟩);generalize w18.setCell ⟨go,3,none⟩ (.int .i64 (TT:Int))=w19 at*
  have aw:Hid (({x2 with at_:=(TT:Int)}:OpL).op=E1 r.l a b):=by
   show _=_;show ({x2.op with at_:=(TT:Int)}:Op)=_;unfold E1;rw [aj.out,hD.out,b4.out];unfold Cq
   split<;>rfl
  have be:({x2 with at_:=(TT:Int)}:OpL).op.ok:={a4 with at_:=(show I64 (TT:Int) from ⟨by omega,by omega⟩)};have dk:Hid (({x2 with at_:=(TT:Int)}:OpL).pastA=none∧({x2 with at_:=(TT:Int)}:OpL).pastC=0∧({x2 with at_:=(TT:Int)}:OpL).past=[]):=⟨bs,ba,bf⟩;have bh:∃d:Nat,({x2 with at_:=(TT:Int)}:OpL).by_=(d:Int)∧d≤1000:=⟨1+D,by show x2.by_=_;rw [bu];omega,by omega⟩;have bg:0≤({x2 with at_:=(TT:Int)}:OpL).at_∧({x2 with at_:=(TT:Int)}:OpL).at_≤3:=⟨by show (0:Int)≤TT;omega,by show (TT:Int)≤3;omega⟩;generalize ({x2 with at_:=(TT:Int)}:OpL)=x3 at*;clear ds aj bs ba bf bu ca a4 z3 y3 bl c9 ez
  have ad:Hid (ae=Dy r.l a b):=by
   show _=_;unfold Dy;rw [hL.out,hD.out,bk.out,hZ.out,ag.out,← aq.out,← ak.out]
  have ax:=fk_in ao.rows ao.num b2 cl ck a b;rw [← aw.out,← ad.out] at ax;have au:∀p∈ae,p<r.l.length:=by rw [ad.out];exact S2 cl a b
  have a9:Hid (E2 l0 (j+1)=Dj r.l x3.op (Cr r.l ae)):=by
   show _=_;rw [aa.out,aw.out,ad.out];rfl
  have dr:(Cr r.l ae).length≤3:=Am9 (Jj _ _ _) (by rw [ad.out];exact S3 _ _ _);have a8:∀p∈Cr r.l ae,p<r.l.length:=fun p hp=>au p (Hn _ hp).1;generalize hHS:Cr r.l ae=HS at*
  have kh:Hid (∀v,Fr Non w19 v→Calls Tryz.prog 32 #[.agg r.cells,.slice ct cx ci] v (Jn HS v)):=fun v hv=>by
   rw [← hHS];exact Ag3 w.heap.size v.heap.size cx ci r ct ae v (ao.non (af.f.trans hv zr)) af.len (af.non hv).os.rd (by omega) au
  have de:=b6.size
  have kp:Hid (∀(v:World) (A':Option Addr) (c':Nat),Fr Non w19 v→Own v w.heap.size 3 1 A' HS.length c' (HS.map Qv)→Calls Tryz.prog 29 #[.agg r.cells,.agg x3.cells,.slice A' HS.length c'] v (Ga w.heap.size r x3.op HS v)):=fun v A' c' hv ho=>
   Sz w.heap.size v.heap.size HS.length c' A' r x3 HS v (ao.non (af.f.trans hv zr)) (af.non hv).l (Am9 de ((af.f.trans hv zr).size)) be dk.out bh bg rfl ho.rd dr a8 ax
  have du:Blk w19 gv 28 r.cells:=bp.out w19 af.f;have dz:=dg.fr af.f zq;have cd:=b6.trans af.f zr;have d3:=af.b;have cf:=cd.size;clear ax a8 dr au hHS ad aw be dk bh bg aa ag aq ak af bp ce cm c5 ew db cv da d6 e4 ej es b6 dg ao dx cj i0 i1 i2 c6 eo b4 hD bk hZ hL g1;have V0:Blk w19.drew gv 28 r.cells:=du;have X0:Blk w19.drew go 67 x3.cells:=d3;have F0:Fr Non w19 w19.drew:=(Fr.refl Non w19).drew;have bm:(Tryz.prog.info? 67).map (·.size)=some x3.cells.size:=by rw [show x3.cells.size=27 from rfl];kernel_rfl
  have ei:=Bi (P:=Tryz.prog) go 67 Tryz.underlying67 rfl (cs:=x3.cells) bm;generalize x3.cells=XC at*;refine C6 (S:=fun w'=>Blk w' gv 28 r.cells∧Blk w' go 67 XC) 6 (by kernel_rfl) ?_;refine tkG 0 ⟨V0,X0⟩ (h:=tkG 1 ⟨V0,X0⟩ (h:=tkG 2 ⟨V0,X0⟩ (h:=tkG 3 ⟨V0,X0⟩ (h:=?_))));simp only [List.set];refine Bn 4 (by kernel_rfl) rfl (fun K hK=> ?_);go_simp;go_wp2_with (go_at_call 32;(with_reducible refine (kh.out _ F0).mono ?_);rintro _ v1 ⟨fa,e7,rfl,dm,ch⟩;have V1:=V0.fr ch zq;have X1:=X0.fr ch zq;have F1:=F0.trans ch zr;have dq:=F9 dm (Am9 cf (Fr.size F0)));refine hK.out _ _ ⟨V1,X1⟩ (fun hZ=> ?_);clear hZ hK K;try simp only [Aj,List.set]
  refine Bn 5 (by kernel_rfl) rfl (fun K hK=> ?_);go_simp;go_wp2_with (go_at_call 29;(with_reducible refine (kp.out _ _ _ F1 dq).mono ?_);rintro _ v2 ⟨r2,rfl,b7,bc,bd,dy⟩;have V2:=V1.fr b7 zq;have X2:=X1.fr b7 zq;have F2:=F1.trans b7 zr;have ap:=Bb (P:=Tryz.prog) gv 28 (cs:=r2.cells) Bu (old:=r.cells) rfl (Ez r2));refine hK.out _ _ ⟨V2,X2⟩ (fun hZ=> ?_);clear hZ hK K;try simp only [Aj,List.set]
  have e0:=(dz.fr F2 zq).setRow_far (g':=gv) (by omega) (cs:=r2.cells);have ed:Blk (v2.setRow gv r2.cells) gv 28 r2.cells:=V2.setRow;have al:=bc.setG V2 r2.cells;have fz:=(cd.trans F2 zr).setRow (g:=gv) (fun hh=>absurd hh (by omega)) r2.cells;refine Cy (by kernel_rfl) ?_;refine oG 6 (fun K hK=> ?_);go_simp;refine hK.out _ _ trivial (fun hZ=> ?_);clear hZ hK K;try simp only [Aj,List.set]
  refine oD ?_;go_simp;rw [← a9.out] at dy;rw [b2] at bd;clear V0 V1 V2 X0 X1 X2 F0 F1 F2 bc ap dz du cd d3 kh kp dm dq ei bm a9;generalize v2.setRow gv r2.cells=wz at*;have e2:IntKind.i64.wrap ((I:Int)+2)=(I:Int)+2:=IntWalk.i64_in _ (by omega);go_wp2_with (fail);go_roundw
  case rel=>exact ⟨j+1,I+2,r2,by show I+2=2*(j+1);have:=hI.out;omega,by go_num,by have:=hI.out;omega,by have:=hI.out;omega,ed,al,bd,dy,e0,fz⟩
  case measure=>simp [intOf];omega
 ·
  have dd:Hid (j=min 13 (l0.length/2)):=by
   show _=_;rw [hn.out];have:=hI.out;omega
  have hl:=Bi (P:=Tryz.prog) gv 28 Tryz.underlying28 rfl (cs:=r.cells) Bu;have ee:=Bb (P:=Tryz.prog) w.heap.size 28 (cs:=r.cells) Bu (old:=#[.slice none 0 0,.slice none 0 0,.slice none 0 0,.slice none 0 0]) rfl (Ez r);have c7:=br.setRow (cs:=r.cells);have fz:=hf.setRow (g:=w.heap.size) (fun hh=>absurd hh (by omega)) r.cells;have al:=ro.setG br r.cells;have dw:r.l=E3 l0:=by rw [a1.out,dd.out];rfl
  have hd:Hid (Mz l0 w (.returned (.agg r.cells)) (wr.setRow w.heap.size r.cells)):=⟨r,rfl,fz,al,b2,dw⟩;clear dw b2 ro a1 dd hok hr fz al hf;generalize Mz l0 w=POST at*
  rcases zb (decide ((I:Int)+1<(n:Int))) with t1|t1
  ·
   have t2:decide ((I:Int)<26)=false:=decide_eq_false (by have:=of_decide_eq_true t1;omega);go_wp2_with (fail)
   (try simp only [Exit.inBlock,Exit.then])
   refine Eh (t:=28) rfl rfl c7 rfl Tryz.underlying28 Bu rfl ?_;exact hd.out
  ·
   go_wp2_with (fail)
   (try simp only [Exit.inBlock,Exit.then])
   refine Eh (t:=28) rfl rfl c7 rfl Tryz.underlying28 Bu rfl ?_;exact hd.out
end Oq
namespace Oq
attribute [local go_sem ↓] Cg Es
attribute [local go_sem] An5 An6
theorem Rows.step13 {cards:List Cd} {l:List Pn} (h:Rows cards l) {i:Nat} {n:Pn} (hi:l[i]? =some n):Ar cards (l.take i) n.o=0∧As (l.take i) n.o=n:=by
 induction h with
 |nil=>simp at hi
 |snoc l o hl ho ih=>
  rcases Nat.lt_or_ge i l.length with hlt|hge
  ·
   rw [List.getElem?_append_left hlt] at hi;rw [List.take_append_of_le_length (Nat.le_of_lt hlt)];exact ih hi
  ·
   have e:i=l.length:=by
    have:=(List.getElem?_eq_some_iff.1 hi).1;rw [An7,List.length_singleton] at this;omega
   subst e;rw [List.getElem?_append_right (An4 _),Nat.sub_self] at hi;injection hi with hi
   subst hi;rw [List.take_left']
   · exact ⟨ho,rfl⟩
   · rfl
def M4 (cards:List Cd) (l:List Pn) (w:World) (e:Ending) (w':World):Prop:=
 ∃(g:Gph) (base:Nat),e=.returned (.pointer (some ⟨g.gb,0,none⟩))∧w.heap.size≤base∧GAt w' base g∧g.cards=cards∧g.pns=l∧Fr Non w w'
theorem Ju (base:Nat) (r:FG) (w:World) (h:r.own w base) (hcs:r.cards=Ba 0 [1,2,2,3]) (hpos:0<w.heap.size) (hk:KindsAt w):
  Calls Tryz.prog 10 #[.agg r.cells] w (M4 r.cards r.l w):=by
 have hi:(Tryz.prog.info? 67).map (·.size)=some 27:=by kernel_rfl
 have aj:=h.num.few;have ao:r.cards.length=4:=by rw [hcs,Pz];rfl
 have aq:=h.cards.sl.rd;rw [ao,hcs] at aq;have bg:=Blk.new w 28 r.cells;have f0:Fr Non w (w.alloc (.cells r.cells 28)):=(Fr.refl Non w).alloc _;have c0:(w.alloc (.cells r.cells 28)).cell? ⟨w.heap.size,0,none⟩=some (.slice r.cA 4 r.cC):=by rw [← ao];exact bg.cell 0
 have c1:(w.alloc (.cells r.cells 28)).cell? ⟨w.heap.size,1,none⟩=some (.slice r.lA r.l.length r.lC):=bg.cell 1;have kn:=Lib.hid (fun (w':World) (hf:Fr Non w w')=>Ac3 w.heap.size 4 r.cC r.cA [1,2,2,3] w' rfl (by decide) (aq.fr hf zr) (An3 hpos hf.size))
 have ka:=Lib.hid (fun (j:Nat) (nd:Pn) (hj:r.l[j]? =some nd) (b:Nat) (q:Gph) (w':World) (hb:w.heap.size≤b) (hq:GAt w' b q) (ab:q.cards=r.cards) (ad:q.pns=r.l.take j) (hf:Fr Non w w')=>show ∃x:OpL,∃b' ac:Nat,r.lA=some ⟨b',ac,none⟩∧World.rangeAt w' b' (ac+j*27) x.cells.toList∧x.cells.size=27∧
   Calls Tryz.prog 34 #[.pointer (some ⟨q.gb,0,none⟩),.agg x.cells] w' (Ip b q (r.l.take (j+1)) w') from by
  obtain ⟨x,b',ac,_,ak,a8,hA,_,hc⟩:=h.xAt hj;obtain ⟨s1,s2⟩:=h.rows.step13 hj;refine ⟨x,b',ac,hA,fun k v hv=>hf.cell (hc k (List.getElem?_eq_some_iff.1 hv).1 v hv) zq,rfl,?_⟩;rw [Cx hj];exact Ac4 ad hq (a8.non hf).at (by rw [ak];exact (h.ok nd (An2 hj)).1) (hk.fr hf) (by rw [ab,ak];exact s1) (by rw [ak];exact s2))
 have ah:=Lib.hid hcs;clear h hk aq bg hcs ao;have af:Hid (∀(g:Gph) (b:Nat) (w':World),w.heap.size≤b→GAt w' b g→g.cards=r.cards→g.pns=r.l→Fr Non w w'→M4 r.cards r.l w (.returned (.pointer (some ⟨g.gb,0,none⟩))) w'):=fun g b w' h1 h2 h3 h4 h5=>⟨g,b,rfl,h1,h2,h3,h4,h5⟩;obtain ⟨N,hN⟩:=Ab r.l.length;rw [hN.out] at c1 aj;generalize M4 r.cards r.l w=POST at*;generalize r.cells=CS at*;generalize r.cards=CDS at*;generalize r.lA=LA at*;generalize r.lC=LC at*;generalize r.cA=CA at*;generalize r.cC=CC at*;generalize r.l=l at*;go_enter Tryz.func10,Tryz.ntmps10;go_upto_region 1 with (fail)
 have a7:w.heap.size+1≤(w.alloc (.cells CS 28)).heap.size:=by rw [An1];exact An4 _
 generalize w.alloc (.cells CS 28)=w0 at*;go_upto_region 2 with (go_at_call 33;(with_reducible refine (kn.out _ f0).mono ?_);rintro _ w2 ⟨g,rfl,hg,a2,az,f2⟩)
 have a1:=f0.trans f2 zr;replace c1:=f2.cell c1 zq;have a4:Hid (g.pns=l.take 0):=by show _=_;unfold Gph.pns;rw [a2];rfl
 have ag:Hid (g.cards=CDS):=az.trans ah.out.symm;obtain ⟨gb,ar⟩:=Ab g.gb;rw [ar.out];obtain ⟨b,aw⟩:=Ab w0.heap.size;rw [aw.out] at hg a7;clear kn a2 az c0 f2 f0 ah aw;go_wp2_with (fail)
 go_loopw [4] (fun v wr=>∃(j:Nat) (q:Gph),v=.int .i64 (j:Int)∧j≤N∧Hid (GAt wr b q)∧Hid (q.gb=gb)∧Hid (q.cards=CDS)∧Hid (q.pns=l.take j)∧wr.cell? ⟨w.heap.size,1,none⟩=some (.slice LA N LC)∧Fr Non w wr) (fun v _=>N-(intOf v).toNat)
 case atStart=>exact ⟨0,g,rfl,Nat.zero_le _,hg,ar.out,ag.out,a4.out,c1,a1⟩
 case round=>
  clear hg ar ag a4 c1 a1;obtain ⟨j,q,rfl,hj,hq,ai,ab,ad,c1,hf⟩:=hrel
  by_cases hlt:j<N
  ·
   obtain ⟨nd,ay⟩:∃nd,l[j]? =some nd:=⟨_,An0 (by rw [hN.out];exact hlt)⟩;obtain ⟨x,bx,ac,rfl,ax,a0,aa⟩:=ka.out j nd ay b q wr (by omega) hq.out ab.out ad.out hf;rw [ai.out] at aa;replace aa:=Lib.hid aa;have i1:(0:Int)≤j:=by omega
   have i2:(j:Int)<N:=by omega
   have i3:(j:Int).toNat=j:=by omega
   have a3:=Qi (P:=Tryz.prog) x.cells bx (ac+j*27) Tryz.underlying67 rfl (by rw [a0];exact hi);have ap:=a3 wr ax;clear a3 a0 ka ay;generalize x.cells=XC at*;go_upto_region 6 with (go_at_call 34;(with_reducible refine (aa.out).mono ?_);rintro _ w5 ⟨rfl,q2,a6,av,al,au,F5⟩)
   have c5:=F5.cell c1 (fun e=>by have h1:b≤w.heap.size:=hq.out.ge e;omega);have a5:=hf.trans F5 (fun k hk e=>by have h1:=hq.out.ge e;omega);have e1:Hid (q2.gb=gb):=av.trans ai.out;have e2:Hid (q2.cards=CDS):=al.trans ab.out;clear ax ap aa hq ai ab ad F5 hf c1;go_wp2_with (fail);go_roundw
   case rel=>exact ⟨j+1,q2,by go_num,by omega,a6,e1.out,e2.out,au,c5,a5⟩
   case measure=>simp [intOf];omega
  ·
   obtain rfl:j=N:=by omega
   have ae:q.pns=l:=by rw [ad.out,List.take_of_length_le (by rw [hN.out];exact An4 _)]
   have hd:=Lib.hid (af.out q b wr (by omega) hq.out ab.out ae hf);rw [ai.out] at hd;have t1:decide ((j:Int)<(j:Int))=false:=decide_eq_false (by omega);clear af ka hq ab ad ae;go_wp2_with (fail);exact hd.out
end Oq
namespace Oq
attribute [local go_sem] An5 An6
attribute [local go_sem ↓] Fz Gs
theorem FG.own.fkOk {w:World} {base:Nat} {r:FG} (h:r.own w base):Cs r.ids:=by
 intro x hx;obtain ⟨n,hn,rfl⟩:=List.mem_map.1 hx;obtain ⟨i,hi⟩:=Ao5 hn;have h1:=(h.rows.ok i n hi).id;have h2:=h.num.sq n hn;have h3:=h.num.few;refine ⟨(h.ok n hn).2,?_,?_⟩
 · rw [h1];exact h.num.by_ n hn
 · rw [h1];exact ⟨h.num.s1 n hn,by show n.o.sq≤1000000;omega⟩
theorem Ak7:(E3 ([0,1,1,1,1,7]:List Int)).length=4:=by decide+kernel
theorem Ak8:Aq ((E3 ([0,1,1,1,1,7]:List Int)).map Pn.id)=[(2,1)]:=by decide+kernel
theorem Ak9:(Cc ((E3 ([0,1,1,1,1,7]:List Int)).map Pn.id)).map (fun x=>x.b)=[2,2]:=by decide+kernel
def M5 (w:World) (e:Ending) (w':World):Prop:=
 ∃r:FG,e=.returned (.agg r.cells)∧Fr Non w w'∧r.own w' w.heap.size∧r.cards=Ba 0 [1,2,2,3]∧r.l=E3 ([0,1,1,1,1,7]:List Int)
theorem Al0 (w:World):Calls Tryz.prog 41 #[] w (M5 w):=by
 have br:=(Blk.new w 28 #[.slice none 0 0,.slice none 0 0,.slice none 0 0,.slice none 0 0]).alloc (.cells #[.int .i64 0,.int .i64 1,.int .i64 1,.int .i64 1,.int .i64 1,.int .i64 7] 3);have bi:=Blk.new (w.alloc (.cells #[.slice none 0 0,.slice none 0 0,.slice none 0 0,.slice none 0 0] 28)) 3 #[.int .i64 0,.int .i64 1,.int .i64 1,.int .i64 1,.int .i64 1,.int .i64 7];rw [An1] at bi;have f0:Fr Non w ((w.alloc (.cells #[.slice none 0 0,.slice none 0 0,.slice none 0 0,.slice none 0 0] 28)).alloc (.cells #[.int .i64 0,.int .i64 1,.int .i64 1,.int .i64 1,.int .i64 1,.int .i64 7] 3)):=((Fr.refl Non w).alloc _).alloc _;have km:=Lib.hid (Jt ((w.alloc (.cells #[.slice none 0 0,.slice none 0 0,.slice none 0 0,.slice none 0 0] 28)).alloc (.cells #[.int .i64 0,.int .i64 1,.int .i64 1,.int .i64 1,.int .i64 1,.int .i64 7] 3)).heap.size 6 6 (some ⟨w.heap.size+1,0,none⟩) ([0,1,1,1,1,7]:List Int) ((w.alloc (.cells #[.slice none 0 0,.slice none 0 0,.slice none 0 0,.slice none 0 0] 28)).alloc (.cells #[.int .i64 0,.int .i64 1,.int .i64 1,.int .i64 1,.int .i64 1,.int .i64 7] 3)) rfl (Rd.blk (n:=6) (size:=1) bi rfl) (by decide) (by intro x hx;simp only [List.mem_cons,Am8,or_false] at hx;rcases hx with rfl|rfl|rfl|rfl|rfl|rfl<;>exact ⟨by decide,by decide⟩))
 have hfin:Hid (∀(r:FG) w',Fr Non w w'→r.own w' w.heap.size→r.cards=Ba 0 [1,2,2,3]→r.l=E3 ([0,1,1,1,1,7]:List Int)→M5 w (.returned (.agg r.cells)) w'):=fun r w' h1 h2 h3 h4=>⟨r,rfl,h1,h2,h3,h4⟩;generalize M5 w=POST at*;clear bi;go_enter Tryz.func41,Tryz.ntmps41;go_upto_region 1 with (fail)
 go_wp2_with (go_at_call 9;(with_reducible refine (km.out).mono ?_);rintro _ w2 ⟨r,rfl,f1,ro,hcd,hrl⟩;(have br2:=br.fr f1 zq);(have hst:=Bb (P:=Tryz.prog) w.heap.size 28 (cs:=r.cells) Bu (old:=#[.slice none 0 0,.slice none 0 0,.slice none 0 0,.slice none 0 0]) rfl (Ez r)));have hz2:=br2.setRow (cs:=r.cells);have fz:=(f0.trans f1 zr).setRow (g:=w.heap.size) (fun hh=>absurd hh (by omega)) r.cells;have ownz:=(ro.lower f0.size).setG br2 r.cells;have hd:=Lib.hid (hfin.out r _ fz ownz hcd hrl)
 (try simp only [Exit.inBlock,Exit.then])
 refine Eh (t:=28) rfl rfl hz2 rfl Tryz.underlying28 Bu rfl ?_;exact hd.out
theorem M6 (w:World) (hk:KindsAt w):Calls Tryz.prog 15 #[] w (Ad true w):=by
 have ae:0<w.heap.size:=World.block_lt_of_cell? w _ (hk 0 (by decide));have ks:=Lib.hid (Al0 w);have aj:=Lib.hid (fun (b:Nat) (r:FG) (w':World) (hf:Fr Non w w') (h:r.own w' b) (hcs:r.cards=Ba 0 [1,2,2,3])=>Ju b r w' h hcs (An3 ae hf.size) (hk.fr hf));have af:Hid (∀wz,Fr Non w wz→Ad true w (.returned (.bool true)) wz):=fun wz h=>⟨rfl,h⟩;generalize Ad true w=POST at*;clear hk ae;go_enter Tryz.func15,Tryz.ntmps15;go_upto_region 2 with (go_at_call 41;(with_reducible refine (ks.out).mono ?_);rintro _ w1 ⟨r,rfl,f1,ro,ay,ap⟩;(have bn:=Blk.new w1 28 #[.slice none 0 0,.slice none 0 0,.slice none 0 0,.slice none 0 0]);(have au:=Bb (P:=Tryz.prog) w1.heap.size 28 (cs:=r.cells) Bu (old:=#[.slice none 0 0,.slice none 0 0,.slice none 0 0,.slice none 0 0]) rfl (Ez r)))
 have bg:Blk ((w1.alloc (.cells #[.slice none 0 0,.slice none 0 0,.slice none 0 0,.slice none 0 0] 28)).setRow w1.heap.size r.cells) w1.heap.size 28 r.cells:=bn.setRow;have fG:Fr Non w1 ((w1.alloc (.cells #[.slice none 0 0,.slice none 0 0,.slice none 0 0,.slice none 0 0] 28)).setRow w1.heap.size r.cells):=((Fr.refl Non w1).alloc _).setRow (fun hh=>absurd hh (by omega)) _;have f2:=f1.trans fG zr;have ag:=ro.non fG;obtain ⟨gv,ar⟩:=Ab w1.heap.size;rw [ar.out] at bg f2 ag ⊢;clear au bn fG ro f1;generalize (w1.alloc (.cells #[.slice none 0 0,.slice none 0 0,.slice none 0 0,.slice none 0 0] 28)).setRow gv r.cells=w2 at*;have hl:=Bi (P:=Tryz.prog) gv 28 Tryz.underlying28 rfl (cs:=r.cells) Bu;go_upto_region 3 with (go_at_call 10;(with_reducible refine (aj.out _ r _ f2 ag ay).mono ?_);rintro _ w3 ⟨g,b,rfl,az,hg,ax,a0,f3⟩)
 have aq:=bg.fr f3 zq;have ak:=ag.non f3;have av:=f2.trans f3 zr;clear hg ax a0 az hl bg ag f2 f3 ar aj ks;have aa:Hid (r.l.length=4):=by show _=_;rw [ap];exact Ak7
 have ad:Hid (r.ids=(E3 ([0,1,1,1,1,7]:List Int)).map Pn.id):=by show r.l.map Pn.id=_;rw [ap]
 have ab:r.ids.length=4:=by rw [FG.ids_len];exact aa.out
 have al:Cs r.ids:=ak.fkOk;have ah:=ak.rdIds;rw [aa.out] at ah;have kF:=Lib.hid (fun (gv:Value) (v:World) (hv:Fr Non w3 v)=>Gt w3.heap.size 4 r.iC r.iA r.ids gv v ab (ah.fr hv zr) (by omega) al);have kV:=Lib.hid (fun (gv:Value) (v:World) (hv:Fr Non w3 v)=>Js w3.heap.size 4 r.iC r.iA r.ids gv v ab (ah.fr hv zr) (by omega) al);rw [ad.out,Ak8] at kF;rw [ad.out] at kV;have ac:=Ak9;generalize Cc ((E3 ([0,1,1,1,1,7]:List Int)).map Pn.id)=VS at*;have c1:w3.cell? ⟨gv,1,none⟩=some (.slice r.lA 4 r.lC):=by have h9:=aq.cell 1;rw [show r.cells[1]? =some (.slice r.lA r.l.length r.lC) from rfl,aa.out] at h9;exact h9
 have c2:w3.cell? ⟨gv,2,none⟩=some (.slice r.iA 4 r.iC):=by have h9:=aq.cell 2;rw [show r.cells[2]? =some (.slice r.iA r.l.length r.iC) from rfl,aa.out] at h9;exact h9
 obtain ⟨v0,v1,rfl,a1,aw⟩:∃v0 v1:Id,VS=[v0,v1]∧v0.b=2∧v1.b=2:=by
  rcases VS with _|⟨v0,_|⟨v1,_|⟨v2,t⟩⟩⟩
  · cases ac
  · simp at ac
  · simp at ac;exact ⟨v0,v1,rfl,ac.1,ac.2⟩
  · simp at ac
 have ai:=Fr.refl Non w3
 go_upto_region 7 with (first
  |(go_at_call 12;(with_reducible refine (kF.out _ _ ai).mono ?_);rintro _ w4 ⟨A4,c4,rfl,o4,f4⟩;have d2:=f4.cell c2 zq)
  |(go_at_call 13;(with_reducible refine (kV.out _ _ f4).mono ?_);rintro _ w5 ⟨A5,c5,rfl,o5,f5⟩))
 have ao:Rd w4 w4.heap.size 2 A4 1 [.int .i64 2,.int .i64 1]:=o4.rd;obtain ⟨b4,q4,rfl,_,h4⟩:=ao.cells (k:=0) (by omega);have e0:=f5.cell (h4 0 (by decide) (.int .i64 2) rfl) zq;have e1:=f5.cell (h4 1 (by decide) (.int .i64 1) rfl) zq;rw [Ao0,Ao1] at e0 e1;obtain ⟨b5,q5,rfl,_,i0,_,_⟩:=Id.at o5.rd (show [v0,v1][0]? =some v0 from rfl);obtain ⟨b6,q6,e6,_,j0,_,_⟩:=Id.at o5.rd (show [v0,v1][1]? =some v1 from rfl);injection e6 with e6
 injection e6 with e7 e8
 subst e7;subst e8;rw [a1] at i0;rw [aw] at j0;rw [Ao0,Ao1] at i0;rw [Nat.one_mul] at j0;have fz:=(av.trans f4 zr).trans f5 zr;have hd:=Lib.hid (af.out w5 fz);change Code.wp _ _ _ _ w5;clear af kF kV o4 ao h4 o5 fz ac;go_wp2_with (fail);exact hd.out
end Oq
end
section
open Go.RowKit Go.Maps
attribute [local go_sem ↓] Go.wp_at_zero Go.wp_at_succ
namespace Oq
attribute [local go_sem] An5 An6
attribute [local go_sem ↓] Sw
theorem Jv (p v:Value):Instr.storeAt 52 p v=stS 52 p v:=rfl
attribute [local go_sem ↓] Jv
theorem Ee:(Tryz.prog.info? 52).map (·.size)=some 6:=by kernel_rfl
theorem one6 (x y:Id):(#[.int .i64 x.b,.int .i64 x.s,.int .u64 (x.u:Int),.int .i64 y.b,.int .i64 y.s,.int .u64 (y.u:Int)]:Array Value).all (·.oneCell')=true:=by simp [Value.oneCell']
def Co (o:Option (Id × Id)):Array Value:=match o with|some (x,y)=>#[.int .i64 x.b,.int .i64 x.s,.int .u64 (x.u:Int),.int .i64 y.b,.int .i64 y.s,.int .u64 (y.u:Int)]|none=>#[.int .i64 0,.int .i64 0,.int .u64 0,.int .i64 0,.int .i64 0,.int .u64 0]
def Ef (o:Option (Id × Id)) (w:World) (e:Ending) (w':World):Prop:=e=.returned (.tuple #[.agg (Co o),.bool o.isSome])∧Fr Non w w'
theorem S7 {ids:List Id} {d:Int} {x y:Id} {r:List Id} (h:Cl ids d=x::y::r) (hf:Ak ids d≠0):Ce ids d=some (x,y):=by
 unfold Ce;rw [if_neg hf,h]
theorem S8 {ids:List Id} {d:Int} (hf:Ak ids d=0):Ce ids d=none:=by
 unfold Ce;rw [if_pos hf]
def Eo (ids:List Id) (d n:Int) (k:Nat):List Id:=(ids.take k).filter (fun x=>x.b==d&&x.s==n)
theorem Al1 {ids:List Id} {k:Nat} {x:Id} (h:ids[k]? =some x) (d n:Int):Eo ids d n (k+1)=Eo ids d n k++(if (x.b==d&&x.s==n)=true then [x] else []):=by
 unfold Eo;rw [Cx h,List.filter_append];congr 1
 by_cases hc:(x.b==d&&x.s==n)=true
 · rw [List.filter_cons_of_pos (p:=fun x:Id=>x.b==d&&x.s==n) hc,if_pos hc];rfl
 · rw [List.filter_cons_of_neg (p:=fun x:Id=>x.b==d&&x.s==n) hc,if_neg hc];rfl
theorem Al2 (B n c:Nat) (A:Option Addr) (ids:List Id) (d:Int) (w:World) (hn:Hid (ids.length=n)) (hr:Rd w B 3 A n (ids.flatMap Id.cells)) (hnm:n≤1000) (h0:∀x∈ids,0<x.s):
  Calls Tryz.prog 23 #[.slice A n c,.int .i64 d] w (Ef (Ce ids d) w):=by
 have kf:=Lib.hid (fun (w':World) (hf:Fr Non w w')=>Mt B n c A ids d w' hn (hr.fr hf zr) hnm);have al:Hid (∀k x,ids[k]? =some x→Eo ids d (Ak ids d) (k+1)=Eo ids d (Ak ids d) k++(if (x.b==d&&x.s==Ak ids d)=true then [x] else [])):=fun k x hx=>Al1 hx d _;have a7:Hid (∀k,(Eo ids d (Ak ids d) k).length≤k):=fun k=>Am9 (Ao6 _ _) (by rw [List.length_take];omega)
 have ar:Hid (Ak ids d≠0→∃x y r,An (Eo ids d (Ak ids d) n)=x::y::r∧Ce ids d=some (x,y)):=by
  intro a2;obtain ⟨x,y,r,h1⟩:=Me h0 a2;refine ⟨x,y,r,?_,S7 h1 a2⟩;rw [← hn.out,← h1];unfold Eo Cl;rw [List.take_length]
 have hz:Hid (Ak ids d=0→Ce ids d=none):=fun h=>S8 h;have a8:Hid (Eo ids d (Ak ids d) 0=[]):=rfl;generalize Ce ids d=PK at*;generalize Eo ids d (Ak ids d)=OT at*;generalize Ak ids d=FN at*;have ad:=Blk.new w 52 #[.int .i64 0,.int .i64 0,.int .u64 0,.int .i64 0,.int .i64 0,.int .u64 0];have f0:Fr Non w (w.alloc (.cells #[.int .i64 0,.int .i64 0,.int .u64 0,.int .i64 0,.int .i64 0,.int .u64 0] 52)):=(Fr.refl Non w).alloc _;go_enter Tryz.func23,Tryz.ntmps23;go_upto_region 1 with (fail)
 generalize w.alloc (.cells #[.int .i64 0,.int .i64 0,.int .u64 0,.int .i64 0,.int .i64 0,.int .u64 0] 52)=w0 at*;have a4:=Lib.hid (kf.out w0 f0)
 by_cases hF:FN=0
 ·
  have ax:=hz.out hF;subst ax;have t1:(FN==0)=true:=by rw [hF];rfl
  have ac:=ad;clear al a7 ar hz a8 kf hF;go_upto_region 3 with (go_at_call 45;(with_reducible refine (a4.out).mono ?_);rintro _ _ ⟨rfl,rfl⟩)
  have al:=Bb (P:=Tryz.prog) w.heap.size 52 (cs:=#[.int .i64 0,.int .i64 0,.int .u64 0,.int .i64 0,.int .i64 0,.int .u64 0]) Ee (old:=#[.int .i64 0,.int .i64 0,.int .u64 0,.int .i64 0,.int .i64 0,.int .u64 0]) rfl (by simp [Value.oneCell']);have bz:=ac.setRow (cs:=#[.int .i64 0,.int .i64 0,.int .u64 0,.int .i64 0,.int .i64 0,.int .u64 0]);have fz:Fr (One w.heap.size) w0 (w0.setRow w.heap.size #[.int .i64 0,.int .i64 0,.int .u64 0,.int .i64 0,.int .i64 0,.int .u64 0]):=(Fr.refl (One w.heap.size) w0).setRow (fun _=>rfl) _;have ao:Ef none w (.returned (.tuple #[.agg #[.int .i64 0,.int .i64 0,.int .u64 0,.int .i64 0,.int .i64 0,.int .u64 0],.bool false])) (w0.setRow w.heap.size #[.int .i64 0,.int .i64 0,.int .u64 0,.int .i64 0,.int .i64 0,.int .u64 0]):=⟨rfl,(f0).trans fz (fun k hk e=>absurd hk (by have e':k=w.heap.size:=e;omega))⟩;replace ao:=Lib.hid ao;generalize Ef none w=POST at*;go_wp2_with (fail)
  (try simp only [Exit.inBlock,Exit.then])
  refine Fa (t:=52) rfl rfl bz rfl Tryz.underlying52 Ee rfl ?_;exact ao.out
 ·
  obtain ⟨x,y,r,aq,ax⟩:=ar.out hF;subst ax;have t1:(FN==0)=false:=beq_eq_false_iff_ne.2 hF;replace aq:=Lib.hid aq;clear ar hz kf hF;have bg:=f0.size;go_wp2_with (go_at_call 45;(with_reducible refine (a4.out).mono ?_);rintro _ _ ⟨rfl,rfl⟩)
  go_loopw [7,8] (fun s v wr=>∃(k:Nat) (Ax:Option Addr) (cx:Nat) (xs:List Id),v=.int .i64 (k:Int)∧s=.slice Ax xs.length cx∧k≤n∧Hid (xs=OT k)∧Own wr w0.heap.size 41 3 Ax xs.length cx (xs.flatMap Id.cells)∧Fr Non w0 wr) (fun _ v _=>n-(intOf v).toNat)
  case atStart=>exact ⟨0,none,0,[],rfl,rfl,by omega,a8.out.symm,Own.nil _ _ _ _,Fr.refl _ _⟩
  case round=>
   obtain ⟨k,Ax,cx,xs,rfl,rfl,hk,az,ab,hf⟩:=hrel;have bh:xs.length≤k:=by rw [az.out];exact a7.out k
   have aw:=ab.row;have a6:=f0.trans hf zr
   by_cases hlt:k<n
   ·
    obtain ⟨z,hz⟩:∃z,ids[k]? =some z:=⟨_,An0 (by rw [hn.out];exact hlt)⟩;obtain ⟨b,bd,rfl,bi,k0,k1,k2⟩:=Id.at (hr.fr a6 zr) hz;have i1:(0:Int)≤k:=by omega
    have i2:(k:Int)<n:=by omega
    have i3:(k:Int).toNat=k:=by omega
    have aa:=al.out k z hz;rw [← az.out] at aa;clear al hz
    rcases zb (z.b==d) with t2|t2
    ·
     rcases zb (z.s==FN) with t3|t3
     ·
      rw [t2,t3,if_pos (show (true&&true)=true from rfl)] at aa;replace aa:=Lib.hid aa;have bF:=Blk.new wr 41 z.V;have be:=hf.size
      go_wp2_with (first
       |(at_builtin;go_loud (refine Az (base:=w0.heap.size) (.tmp 37) (.tmp 42) 25 rfl rfl rfl rfl Cp (ab.alloc (.cells z.V 41)) (Rd.blk (n:=1) (size:=3) bF rfl) (by simp [Value.oneCell']) (by omega) (by omega) (by rw [An1];omega) ?_);intro A8 c8 w8 a0 bb bc))
      have f8:Fr Non w0 w8:=(hf.alloc (.cells z.V 41)).trans bb (fun j hj e=>by have:=(aw j e).1;omega)
      have ay:Own w8 w0.heap.size 41 3 A8 (xs++[z]).length c8 ((xs++[z]).flatMap Id.cells):=by
       rw [An7,List.flatMap_append];exact a0
      go_roundw
      case rel=>exact ⟨k+1,A8,c8,xs++[z],by go_num,by rw [An7];rfl,by omega,aa.out.symm,ay,f8⟩
      case measure=>simp [intOf];omega
     ·
      rw [t2,t3,if_neg (by decide),An9] at aa;replace aa:=Lib.hid aa;go_wp2_with (fail);go_roundw
      case rel=>exact ⟨k+1,Ax,cx,xs,by go_num,rfl,by omega,aa.out.symm,ab,hf⟩
      case measure=>simp [intOf];omega
    ·
     rw [t2,if_neg (by simp),An9] at aa;replace aa:=Lib.hid aa;go_wp2_with (fail);go_roundw
     case rel=>exact ⟨k+1,Ax,cx,xs,by go_num,rfl,by omega,aa.out.symm,ab,hf⟩
     case measure=>simp [intOf];omega
   ·
    obtain rfl:k=n:=by omega
    have ks:=Lib.hid (Kp wr.heap.size xs.length cx Ax xs wr rfl ab.rd (by omega));have av:An xs=x::y::r:=by rw [az.out,aq.out]
    have a5:Hid (xs.length=r.length+2):=by show _=_;rw [← (Br xs).length_eq,av];rfl
    unfold SortPost at ks;rw [av,a5.out] at ks;rw [a5.out];clear av ab al;have ae:=ad.fr hf zq;have t0:decide ((k:Int)<(k:Int))=false:=decide_eq_false (by omega);go_upto_region 11 with (go_at_call 46;(with_reducible refine (ks.out).mono ?_);rintro _ w3 ⟨A3,c3,rfl,a3,f3⟩)
    have ac:=ae.fr f3 zq;have au:=a6.trans f3 zr;clear ae;obtain ⟨bx,ox,a9,_,p0,p1,p2⟩:=Id.at (a3).rd (k:=0) (o:=x) rfl;obtain ⟨bj,oy,ap,_,r0,r1,r2⟩:=Id.at (a3).rd (k:=1) (o:=y) rfl;rw [a9] at ap;injection ap with ap
    injection ap with e1 e2
    subst e1 e2;subst a9;have n1:(0:Int)<((r.length+2:Nat):Int):=by omega
    have n2:(1:Int)<((r.length+2:Nat):Int):=by omega
    have n3:0<r.length+2:=by omega
    have n4:1<r.length+2:=by omega
    have a1:(x::y::r).length=r.length+2:=rfl;have al:=Bb (P:=Tryz.prog) w.heap.size 52 (cs:=#[.int .i64 x.b,.int .i64 x.s,.int .u64 (x.u:Int),.int .i64 y.b,.int .i64 y.s,.int .u64 (y.u:Int)]) Ee (old:=#[.int .i64 0,.int .i64 0,.int .u64 0,.int .i64 0,.int .i64 0,.int .u64 0]) rfl (one6 x y)
    have ao:Hid (∀wz,Fr (One w.heap.size) w3 wz→Ef (some (x,y)) w (.returned (.tuple #[.agg #[.int .i64 x.b,.int .i64 x.s,.int .u64 (x.u:Int),.int .i64 y.b,.int .i64 y.s,.int .u64 (y.u:Int)],.bool true])) wz):=by
     intro wz hz;exact ⟨rfl,(au).trans hz (fun k hk e=>absurd hk (by have e':k=w.heap.size:=e;omega))⟩
    obtain ⟨RL,ba⟩:=Ab (r.length+2);try rw [a1]
    rw [ba.out] at n1 n2 n3 n4 ⊢;clear a1;go_upto_region 11 with (fail)
    have ah:w3.drew.cell? ⟨bx,ox,none⟩=some (.int .i64 x.b):=by simpa using p0
    have ak:w3.drew.cell? ⟨bx,ox+1,none⟩=some (.int .i64 x.s):=by simpa using p1
    have aj:w3.drew.cell? ⟨bx,ox+2,none⟩=some (.int .u64 (x.u:Int)):=by simpa using p2
    have ag:w3.drew.cell? ⟨bx,ox+3,none⟩=some (.int .i64 y.b):=by simpa using r0
    have ai:w3.drew.cell? ⟨bx,ox+3+1,none⟩=some (.int .i64 y.s):=by simpa using r1
    have af:w3.drew.cell? ⟨bx,ox+3+2,none⟩=some (.int .u64 (y.u:Int)):=by simpa using r2
    have F0:Fr Non w3 w3.drew:=(Fr.refl Non w3).drew;refine C6 (S:=fun w'=>w'.cell? ⟨bx,ox,none⟩=some (.int .i64 x.b)∧w'.cell? ⟨bx,ox+1,none⟩=some (.int .i64 x.s)∧w'.cell? ⟨bx,ox+2,none⟩=some (.int .u64 (x.u:Int))∧w'.cell? ⟨bx,ox+3,none⟩=some (.int .i64 y.b)∧w'.cell? ⟨bx,ox+3+1,none⟩=some (.int .i64 y.s)∧w'.cell? ⟨bx,ox+3+2,none⟩=some (.int .u64 (y.u:Int))) 7 (by kernel_rfl) ?_;refine tkG 0 ⟨ah,ak,aj,ag,ai,af⟩ (h:=tkG 1 ⟨ah,ak,aj,ag,ai,af⟩ (h:=tkG 2 ⟨ah,ak,aj,ag,ai,af⟩ (h:=tkG 3 ⟨ah,ak,aj,ag,ai,af⟩ (h:=tkG 4 ⟨ah,ak,aj,ag,ai,af⟩ (h:=tkG 5 ⟨ah,ak,aj,ag,ai,af⟩ (h:=tkG 6 ⟨ah,ak,aj,ag,ai,af⟩ (h:=?_)))))));simp only [List.set];refine Cy (by kernel_rfl) ?_;refine oG 7 (fun K hK=> ?_);have bf:=ac.drew;go_simp;have bz:=ac.drew.setRow (cs:=#[.int .i64 x.b,.int .i64 x.s,.int .u64 (x.u:Int),.int .i64 y.b,.int .i64 y.s,.int .u64 (y.u:Int)]);have fz:Fr (One w.heap.size) w3 (w3.drew.setRow w.heap.size #[.int .i64 x.b,.int .i64 x.s,.int .u64 (x.u:Int),.int .i64 y.b,.int .i64 y.s,.int .u64 (y.u:Int)]):=((Fr.refl (One w.heap.size) w3).drew).setRow (fun _=>rfl) _;refine hK.out _ _ trivial (fun hZ=> ?_);clear hZ hK K;try simp only [Aj,List.set]
    refine tkH 8 trivial (h:=?_);simp only [List.set];refine oD ?_;go_simp;go_wp2_with (fail)
    (try simp only [Exit.inBlock,Exit.then])
    refine Fa (t:=52) rfl rfl bz rfl Tryz.underlying52 Ee rfl ?_;exact ao.out _ fz
theorem Jw (B n c:Nat) (A:Option Addr) (ids:List Id) (d:Int) (gv:Value) (w:World) (hn:Hid (ids.length=n)) (hr:Rd w B 3 A n (ids.flatMap Id.cells)) (hnm:n≤1000) (hok:Cs ids):
  Calls Tryz.prog 22 #[gv,.slice A n c,.int .i64 d] w (Ef (Ce ids d) w):=by
 have h0:∀x∈ids,0<x.s:=fun x hx=>by have:=(hok x hx).2.2.1;omega
 have kf:=Lib.hid (fun (w':World) (hf:Fr Non w w')=>Gt B n c A ids gv w' hn (hr.fr hf zr) hnm hok);have ko:=Lib.hid (fun (m:Int) (w':World) (hf:Fr Non w w')=>Sy B n c A ids d m m w' hn (hr.fr hf zr) hnm)
 have ab:Hid (∀(k:Nat) (f:Int × Int),(Aq ids)[k]? =some f→f.1=d→∃x y r,ofK ids d f.2 f.2=x::y::r∧Ce ids d=some (x,y)):=by
  intro k f hf e;obtain ⟨fd,fn⟩:=f;obtain ⟨_,h2,rfl⟩:=mem_forksK.1 (An2 hf);have e':fd=d:=e;subst e';obtain ⟨x,y,r,h1⟩:=Me h0 (show Ak ids fd≠0 by omega);exact ⟨x,y,r,by rw [← h1];exact Af8 fd,S7 h1 (show Ak ids fd≠0 by omega)⟩
 have ap:Hid ((∀(j:Nat) (f:Int × Int),j<(Aq ids).length→(Aq ids)[j]? =some f→f.1≠d)→Ce ids d=none):=by
  intro h;refine S8 ?_
  by_cases hd:1≤d∧d≤12
  ·
   rcases Fx h0 d with ⟨a1,_⟩|⟨a1,_⟩
   · exact a1
   ·
    have hm:(d,Ak ids d)∈Aq ids:=mem_forksK.2 ⟨hd,a1,rfl⟩;obtain ⟨j,hj⟩:=Ao5 hm;exact absurd rfl (h j _ (List.getElem?_eq_some_iff.1 hj).1 hj)
  · exact Af9 h0 (fun x hx=>(hok x hx).2.1) hd
 have bc:(Aq ids).length≤12:=by unfold Aq;exact Am9 (Ao7 _ _) (by simp)
 clear hok hr h0;unfold Hr at kf;unfold Eb at ko;generalize Ce ids d=PK at*;generalize (fun m=>ofK ids d m m)=OF at*;generalize Aq ids=fs at*;obtain ⟨M,hM⟩:=Ab fs.length;rw [hM.out] at kf ap bc;have ac:=Blk.new w 52 #[.int .i64 0,.int .i64 0,.int .u64 0,.int .i64 0,.int .i64 0,.int .u64 0];have f0:Fr Non w (w.alloc (.cells #[.int .i64 0,.int .i64 0,.int .u64 0,.int .i64 0,.int .i64 0,.int .u64 0] 52)):=(Fr.refl Non w).alloc _;go_enter Tryz.func22,Tryz.ntmps22;go_upto_region 1 with (fail)
 generalize w.alloc (.cells #[.int .i64 0,.int .i64 0,.int .u64 0,.int .i64 0,.int .i64 0,.int .u64 0] 52)=w0 at*;have a7:=Lib.hid (kf.out w0 f0);clear kf;go_wp2_with (go_at_call 12;(with_reducible refine (a7.out).mono ?_);rintro _ w1 ⟨A1,c1,rfl,bb,f1⟩);have az:=f0.trans f1 zr;have ae:=ac.fr f1 zq;clear ac a7
 go_loopw [7,15] (fun q v wr=>∃k:Nat,q=.bool false∧v=.int .i64 (k:Int)∧k≤M∧Hid (∀(j:Nat) (f:Int × Int),j<k→fs[j]? =some f→f.1≠d)∧Fr Non w1 wr) (fun _ v _=>M-(intOf v).toNat)
 case atStart=>exact ⟨0,rfl,rfl,Nat.zero_le _,fun j f hj _=>absurd hj (Nat.not_lt_zero j),Fr.refl _ _⟩
 case round=>
  obtain ⟨k,rfl,rfl,hk,aq,hf⟩:=hrel
  by_cases hlt:k<M
  ·
   obtain ⟨f,ar⟩:∃f,fs[k]? =some f:=⟨_,An0 (by rw [hM.out];exact hlt)⟩;obtain ⟨b4,o4,bd,_,a2⟩:=Dn (f:=Cn) (fun _=>rfl) (by omega) (n:=M) ((bb.fr hf zr).rd) ar;subst bd;have c0:wr.cell? ⟨b4,o4+k*2,none⟩=some (.int .i64 f.1):=a2 0 (by decide) _ rfl;have bh:wr.cell? ⟨b4,o4+k*2+1,none⟩=some (.int .i64 f.2):=a2 1 (by decide) _ rfl;have i1:(0:Int)≤k:=by omega
   have i2:(k:Int)<M:=by omega
   have i3:(k:Int).toNat=k:=by omega
   have ax:=Bb (P:=Tryz.prog) wr.heap.size 36 (cs:=#[.int .i64 f.1,.int .i64 f.2]) Mv (old:=#[.int .i64 0,.int .i64 0]) rfl (Mx _ _);have bn:=Blk.new wr 36 #[.int .i64 0,.int .i64 0];have a4:=ab.out k f ar;have al:=Lib.hid ar;clear ar a2;go_upto_region 4 with (fail)
   have bz:=bn.setRow (cs:=#[.int .i64 f.1,.int .i64 f.2]);have fz:Fr Non wr ((wr.alloc (.cells #[.int .i64 0,.int .i64 0] 36)).setRow wr.heap.size #[.int .i64 f.1,.int .i64 f.2]):=((Fr.refl Non wr).alloc _).setRow (fun hh=>absurd hh (by omega)) _;obtain ⟨gi,be⟩:=Ab wr.heap.size;rw [be.out] at bz fz ⊢;clear ax bn c0 bh;generalize (wr.alloc (.cells #[.int .i64 0,.int .i64 0] 36)).setRow gi #[.int .i64 f.1,.int .i64 f.2]=w2 at*;have au:=hf.trans fz zr;have d0:=bz.cell 0;have d1:=bz.cell 1;clear bz
   by_cases he:f.1=d
   ·
    obtain ⟨x,y,r,a5,ay⟩:=a4 he;subst ay;have t1:(f.1==d)=true:=beq_iff_eq.2 he;have a9:=Lib.hid (ko.out f.2 w2 (az.trans au zr));rw [a5] at a9;have ad:=ae.fr au zq;clear ko ab ap aq al a5 he hM;go_upto_region 6 with (go_at_call 39;(with_reducible refine (a9.out).mono ?_);rintro _ w3 ⟨A3,c3,rfl,a6,f3⟩)
    have aa:=ad.fr f3 zq;have aw:=(az.trans au zr).trans f3 zr;clear ad;obtain ⟨bx,ox,a8,_,p0,p1,p2⟩:=Id.at (a6).rd (k:=0) (o:=x) rfl;obtain ⟨bj,oy,av,_,r0,r1,r2⟩:=Id.at (a6).rd (k:=1) (o:=y) rfl;rw [a8] at av;injection av with av
    injection av with e1 e2
    subst e1 e2;subst a8;have n1:(0:Int)<((r.length+2:Nat):Int):=by omega
    have n2:(1:Int)<((r.length+2:Nat):Int):=by omega
    have n3:0<r.length+2:=by omega
    have n4:1<r.length+2:=by omega
    have a3:(x::y::r).length=r.length+2:=rfl;have ba:=Bb (P:=Tryz.prog) w.heap.size 52 (cs:=#[.int .i64 x.b,.int .i64 x.s,.int .u64 (x.u:Int),.int .i64 y.b,.int .i64 y.s,.int .u64 (y.u:Int)]) Ee (old:=#[.int .i64 0,.int .i64 0,.int .u64 0,.int .i64 0,.int .i64 0,.int .u64 0]) rfl (one6 x y)
    have ao:Hid (∀wz,Fr (One w.heap.size) w3 wz→Ef (some (x,y)) w (.returned (.tuple #[.agg #[.int .i64 x.b,.int .i64 x.s,.int .u64 (x.u:Int),.int .i64 y.b,.int .i64 y.s,.int .u64 (y.u:Int)],.bool true])) wz):=by
     intro wz hz;exact ⟨rfl,(aw).trans hz (fun k hk e=>absurd hk (by have e':k=w.heap.size:=e;omega))⟩
    obtain ⟨RL,bf⟩:=Ab (r.length+2);try rw [a3]
    rw [bf.out] at n1 n2 n3 n4 ⊢;clear a3;go_upto_region 6 with (fail)
    have ah:w3.drew.cell? ⟨bx,ox,none⟩=some (.int .i64 x.b):=by simpa using p0
    have ak:w3.drew.cell? ⟨bx,ox+1,none⟩=some (.int .i64 x.s):=by simpa using p1
    have aj:w3.drew.cell? ⟨bx,ox+2,none⟩=some (.int .u64 (x.u:Int)):=by simpa using p2
    have ag:w3.drew.cell? ⟨bx,ox+3,none⟩=some (.int .i64 y.b):=by simpa using r0
    have ai:w3.drew.cell? ⟨bx,ox+3+1,none⟩=some (.int .i64 y.s):=by simpa using r1
    have af:w3.drew.cell? ⟨bx,ox+3+2,none⟩=some (.int .u64 (y.u:Int)):=by simpa using r2
    have F0:Fr Non w3 w3.drew:=(Fr.refl Non w3).drew;refine C6 (S:=fun w'=>w'.cell? ⟨bx,ox,none⟩=some (.int .i64 x.b)∧w'.cell? ⟨bx,ox+1,none⟩=some (.int .i64 x.s)∧w'.cell? ⟨bx,ox+2,none⟩=some (.int .u64 (x.u:Int))∧w'.cell? ⟨bx,ox+3,none⟩=some (.int .i64 y.b)∧w'.cell? ⟨bx,ox+3+1,none⟩=some (.int .i64 y.s)∧w'.cell? ⟨bx,ox+3+2,none⟩=some (.int .u64 (y.u:Int))) 7 (by kernel_rfl) ?_;refine tkG 0 ⟨ah,ak,aj,ag,ai,af⟩ (h:=tkG 1 ⟨ah,ak,aj,ag,ai,af⟩ (h:=tkG 2 ⟨ah,ak,aj,ag,ai,af⟩ (h:=tkG 3 ⟨ah,ak,aj,ag,ai,af⟩ (h:=tkG 4 ⟨ah,ak,aj,ag,ai,af⟩ (h:=tkG 5 ⟨ah,ak,aj,ag,ai,af⟩ (h:=tkG 6 ⟨ah,ak,aj,ag,ai,af⟩ (h:=?_)))))));simp only [List.set];refine Cy (by kernel_rfl) ?_;refine oG 7 (fun K hK=> ?_);have bi:=aa.drew;go_simp;have bz:=aa.drew.setRow (cs:=#[.int .i64 x.b,.int .i64 x.s,.int .u64 (x.u:Int),.int .i64 y.b,.int .i64 y.s,.int .u64 (y.u:Int)]);have fz:Fr (One w.heap.size) w3 (w3.drew.setRow w.heap.size #[.int .i64 x.b,.int .i64 x.s,.int .u64 (x.u:Int),.int .i64 y.b,.int .i64 y.s,.int .u64 (y.u:Int)]):=((Fr.refl (One w.heap.size) w3).drew).setRow (fun _=>rfl) _;refine hK.out _ _ trivial (fun hZ=> ?_);clear hZ hK K;try simp only [Aj,List.set]
    refine tkH 8 trivial (h:=?_);simp only [List.set];refine oD ?_;go_simp;go_wp2_with (fail)
    (try simp only [Exit.inBlock,Exit.then])
    refine Fa (t:=52) rfl rfl bz rfl Tryz.underlying52 Ee rfl ?_;exact ao.out _ fz
   ·
    have t1:(f.1==d)=false:=beq_eq_false_iff_ne.2 he
    have a0:Hid (∀(j:Nat) (f:Int × Int),j<k+1→fs[j]? =some f→f.1≠d):=by
     intro j g hj hg
     rcases Nat.lt_or_ge j k with h1|h1
     · exact aq.out j g h1 hg
     ·
      obtain rfl:j=k:=by omega
      rw [al.out] at hg;injection hg with hg
      rw [← hg];exact he
    clear ko ab ap aq al a4 he hM;go_wp2_with (fail);go_roundw
    case rel=>exact ⟨k+1,rfl,by go_num,by omega,a0,au⟩
    case measure=>simp [intOf];omega
  ·
   obtain rfl:k=M:=by omega
   have ay:=ap.out aq.out;subst ay;have t0:decide ((k:Int)<(k:Int))=false:=decide_eq_false (by omega);have aa:=ae.fr hf zq;have bg:=az.trans hf zr;clear ko ab ap aq hM;have ba:=Bb (P:=Tryz.prog) w.heap.size 52 (cs:=#[.int .i64 0,.int .i64 0,.int .u64 0,.int .i64 0,.int .i64 0,.int .u64 0]) Ee (old:=#[.int .i64 0,.int .i64 0,.int .u64 0,.int .i64 0,.int .i64 0,.int .u64 0]) rfl (by simp [Value.oneCell']);have bz:=aa.setRow (cs:=#[.int .i64 0,.int .i64 0,.int .u64 0,.int .i64 0,.int .i64 0,.int .u64 0]);have fz:Fr (One w.heap.size) wr (wr.setRow w.heap.size #[.int .i64 0,.int .i64 0,.int .u64 0,.int .i64 0,.int .i64 0,.int .u64 0]):=(Fr.refl (One w.heap.size) wr).setRow (fun _=>rfl) _;have ao:Ef none w (.returned (.tuple #[.agg #[.int .i64 0,.int .i64 0,.int .u64 0,.int .i64 0,.int .i64 0,.int .u64 0],.bool false])) (wr.setRow w.heap.size #[.int .i64 0,.int .i64 0,.int .u64 0,.int .i64 0,.int .i64 0,.int .u64 0]):=⟨rfl,(bg).trans fz (fun k hk e=>absurd hk (by have e':k=w.heap.size:=e;omega))⟩;replace ao:=Lib.hid ao;generalize Ef none w=POST at*;go_wp2_with (fail)
   (try simp only [Exit.inBlock,Exit.then])
   refine Fa (t:=52) rfl rfl bz rfl Tryz.underlying52 Ee rfl ?_;exact ao.out
end Oq
end
section
open Go.RowKit
namespace Oq
structure M7 (l:List Pn) (ids ns:List Id):Prop where
 nodup:ns.Nodup
 sub:∀x∈ns,x∈ids
 ok:Cs ns
 okA:Cs ids
 nodupA:ids.Nodup
 len:ns.length≤14
 lenA:ids.length≤14
 some:ns≠[]
theorem Jx {cards:List Cd} {l:List Pn} (h:Rows cards l):(l.map Pn.id).Nodup:=by
 rw [List.Nodup,List.pairwise_iff_getElem];intro i j hi hj hij e;rw [Ao8,Ao8] at e;rw [List.length_map] at hi hj;have k1:=(h.ok i _ (An0 hi)).plc;have k2:=(h.ok j _ (An0 hj)).plc;rw [e,k2] at k1;injection k1 with k1
 omega
theorem M8 {w:World} {base:Nat} {r:FG} (h:r.own w base) {on ys:List Nat} {ns:List Id} (hb:Ey r.l on ys) (hy:∀q∈ys,q<r.l.length) (hne:on≠[]) (hp:ns.Perm (ys.map (nmP r.l))):M7 r.l r.ids ns:=by
 have hat:∀q∈ys,∃n,r.l[q]? =some n∧nmP r.l q=n.id:=fun q hq=>⟨_,An0 (hy q hq),Ek (An0 (hy q hq))⟩
 have hsub:∀x∈ns,x∈r.ids:=fun x hx=>by
  obtain ⟨q,hq,rfl⟩:=List.mem_map.1 (hp.mem_iff.1 hx);obtain ⟨n,h1,h2⟩:=hat q hq;rw [h2];exact List.mem_map.2 ⟨n,An2 h1,rfl⟩
 have hnd:(ys.map (nmP r.l)).Nodup:=by
  rw [List.Nodup,List.pairwise_map];refine hb.1.imp_of_mem (fun {p q} hp hq hpq e=>hpq ?_);obtain ⟨n,hn,e1⟩:=hat p hp;obtain ⟨m,hm,e2⟩:=hat q hq;have k1:=(h.rows.ok p n hn).plc;have k2:=(h.rows.ok q m hm).plc;rw [← e1,e,e2,k2] at k1;injection k1 with k1
  exact k1.symm
 have hlA:r.ids.length≤14:=by rw [FG.ids_len];exact h.num.few
 have hndn:ns.Nodup:=hp.nodup_iff.2 hnd;refine ⟨hndn,hsub,fun x hx=>h.fkOk x (hsub x hx),h.fkOk,Jx h.rows,Am9 (Fy hndn hsub) hlA,hlA,?_⟩;intro e;rw [e] at hp;have h1:=hp.length_eq;rw [List.length_map] at h1;obtain ⟨p,hp2⟩:=List.exists_mem_of_ne_nil on hne;have:=List.length_pos_of_mem ((hb.2 p).2 (.inl hp2));simp at h1;omega
theorem M7.pos {l:List Pn} {ids ns:List Id} (h:M7 l ids ns):∀x∈ns,0<x.s:=fun x hx=>by have:=(h.ok x hx).2.2.1;omega
theorem M9 (ids:List Id):(Cc ids).length≤ids.length:=by
 unfold Cc;rw [(Br _).length_eq];exact Ao6 _ _
theorem S9 (ids:List Id):(Aq ids).length≤12:=by
 unfold Aq;exact Am9 (Ao7 _ _) (by rw [List.length_range];exact An4 _)
theorem Gu (o:Option (Id × Id)):(Co o).size=6:=by rcases o with _|⟨x,y⟩<;>rfl
theorem Na (o:Option (Id × Id)):(Co o).all (·.oneCell')=true:=by rcases o with _|⟨x,y⟩<;>simp [Co,Value.oneCell']
theorem Rows.signed {cards:List Cd} {l:List Pn} (h:Rows cards l):∀n∈l,∃c,Cw cards n.o.by_=some c∧Sg.check c.s n.o.bare n.o.r n.o.s=true:=by
 induction h with
 |nil=>intro n hn;cases hn
 |snoc l o hl ho ih=>
  intro n hn
  rcases List.mem_append.1 hn with h1|h1
  · exact ih n h1
  ·
   have e:n=As l o:=List.mem_singleton.1 h1;subst e;show ∃c,Cw cards o.by_=some c∧Sg.check c.s o.bare o.r o.s=true;unfold Ar at ho
   by_cases h1:o.chk≠0
   · rw [if_pos h1] at ho;exact absurd ho h1
   rw [if_neg h1] at ho
   by_cases h2:(plc l o.name).isSome=true
   · rw [if_pos h2] at ho;omega
   rw [if_neg h2] at ho
   by_cases h3:200≤l.length
   · rw [if_pos h3] at ho;omega
   rw [if_neg h3] at ho
   cases hc:Cw cards o.by_ with
   |none=>rw [hc] at ho;dsimp only at ho;omega
   |some c=>
    rw [hc] at ho;dsimp only at ho
    by_cases h4:Sg.check c.s o.bare o.r o.s=false
    · rw [if_pos h4] at ho;omega
    · exact ⟨c,rfl,(Bool.not_eq_false _).mp h4⟩
theorem Al3 {ids:List Id} (hok:Cs ids) (hnd:ids.Nodup) {d:Int} {x y:Id} (h:Ce ids d=some (x,y)):
  x∈ids∧y∈ids∧x.b=d∧y.b=d∧x.s=y.s∧x≠y∧Id.less x y=true:=by
 unfold Ce at h
 by_cases hf:Ak ids d=0
 · rw [if_pos hf] at h;cases h
 rw [if_neg hf] at h;have h0:∀x∈ids,0<x.s:=fun x hx=>by have:=(hok x hx).2.2.1;omega
 obtain ⟨a,b,r,hr⟩:=Me h0 hf;rw [hr] at h;injection h with h
 injection h with e1 e2
 subst e1 e2;have m1:a∈Cl ids d:=by rw [hr];exact An8
 have m2:b∈Cl ids d:=by rw [hr];exact List.mem_cons_of_mem _ An8
 obtain ⟨a1,a2,a3⟩:=mem_ownK.1 m1;obtain ⟨b1,b2,b3⟩:=mem_ownK.1 m2;have hrow:Row (Cl ids d):=by unfold Cl;exact Oy (hnd.filter _)
 have hnw:(Cl ids d).Nodup:=by unfold Cl;exact (Br _).nodup_iff.2 (hnd.filter _)
 rw [hr] at hrow hnw;refine ⟨a1,b1,a2,b2,by omega,?_,?_⟩
 ·
  rw [List.nodup_cons] at hnw;intro e;exact hnw.1 (by rw [e];exact An8)
 ·
  have hp:List.Pairwise (fun x y=>Id.less x y=true) (a::b::r):=hrow;rw [List.pairwise_cons] at hp;exact hp.1 b An8
theorem Al4 {w:World} {base:Nat} {r:FG} (h:r.own w base) {x y:Id} (hx:x∈r.ids) (hy:y∈r.ids) (hb:x.b=y.b) (hs:x.s=y.s) (hne:x≠y):
  bef r.l x y=false∧bef r.l y x=false∧∃(p q:Nat) (n m:Pn) (c:Cd),plc r.l x=some p∧r.l[p]? =some n∧plc r.l y=some q∧r.l[q]? =some m∧n.o.ok∧m.o.ok∧n.o.by_=x.b∧m.o.by_=x.b∧n.o.sq=m.o.sq∧(n.o.put==m.o.put)=false∧Cw r.cards x.b=some c∧c.s<18446744073709551616∧c.d=x.b∧Sg.check c.s n.o.bare n.o.r n.o.s=true∧Sg.check c.s m.o.bare m.o.r m.o.s=true:=by
 have b1:bef r.l x y=false:=by
  rw [Ao2];intro hq;have:=h.rows.seqLt hb.symm hq;omega
 have b2:bef r.l y x=false:=by
  rw [Ao2];intro hq;have:=h.rows.seqLt hb hq;omega
 obtain ⟨p,n,p1,p2,p3⟩:=h.rows.named (List.Perm.refl _) hx;obtain ⟨q,m,q1,q2,q3⟩:=h.rows.named (List.Perm.refl _) hy;obtain ⟨i1,i2⟩:=h.rows.idAt p2;obtain ⟨j1,j2⟩:=h.rows.idAt q2;rw [p3] at i1 i2;rw [q3] at j1 j2;have mn:=An2 p2;have mm:=An2 q2;obtain ⟨c,c1,c2⟩:=h.rows.signed n mn;obtain ⟨c',c1',c2'⟩:=h.rows.signed m mm;have e:n.o.by_=m.o.by_:=by omega
 rw [← e,c1] at c1';injection c1' with ec
 subst ec;have nid:=(h.rows.ok p n p2).id;have mid:=(h.rows.ok q m q2).id;have ok1:=(h.ok n mn).1;have ok2:=(h.ok m mm).1;refine ⟨b1,b2,p,q,n,m,c,p1,p2,q1,q2,ok1,ok2,i1.symm,by omega,by omega,?_,by rw [i1];exact c1,?_,?_,c2,c2'⟩
 ·
  rw [Ao2];intro hq;have e2:=T0 ok1.okR ok2.okR (eq_of_beq hq);apply hne;rw [← p3,← q3,nid,mid,e2]
 · exact h.cok c (List.mem_of_find?_eq_some c1)
 ·
  have:=List.find?_some c1;rw [i1];exact eq_of_beq this
theorem Ta (x:Id) (w:World):(Op.equalIn 9999 41 (.agg x.V) (.agg x.V)).run Tryz.prog w=.ok true w:=by
 have hS:Tryz.prog.underlying 41=some (.struct (Tryz.prog.fieldsOf 41)):=by kernel_rfl
 have hp:Tryz.prog.stoodInHeld 41=false:=by kernel_rfl
 rw [show (9999:Nat)=9998+1 from rfl,run_equalIn_agg w 9998 41 _ _ hS hp];simp only [Program.fieldsOf,Tryz.underlying41];go_simp
theorem Tc (a b:Id) (w:World):(Op.equalIn 10000 52 (.agg #[.int .i64 a.b,.int .i64 a.s,.int .u64 (a.u:Int),.int .i64 b.b,.int .i64 b.s,.int .u64 (b.u:Int)]) (.agg #[.int .i64 a.b,.int .i64 a.s,.int .u64 (a.u:Int),.int .i64 b.b,.int .i64 b.s,.int .u64 (b.u:Int)])).run Tryz.prog w=.ok true w:=by
 obtain ⟨i,hi⟩:∃i,Tryz.prog.info? 41=some i:=by
  cases h:Tryz.prog.info? 41 with
  |none=>have h9:=Jq;rw [h] at h9;cases h9
  |some i=>exact ⟨i,rfl⟩
 have hce:Tryz.prog.cellsOf 41=3:=by kernel_rfl
 rw [show (10000:Nat)=9999+1 from rfl,run_equalIn_array w 9999 _ _ Tryz.underlying52 hi,hce];have e1:=Ta a w;have e2:=Ta b w;rw [show List.range 2=[0,1] from rfl];simp only [Op.eqItems,Sem.run_bind];go_simp
theorem Td (o:Option (Id × Id)) (w:World):(Op.equalIn 10000 52 (.agg (Co o)) (.agg (Co o))).run Tryz.prog w=.ok true w:=by
 rcases o with _|⟨x,y⟩
 · exact Tc ⟨0,0,0⟩ ⟨0,0,0⟩ w
 · exact Tc x y w
theorem Te:Tryz.prog.eqGuardType Tryz.prog.depth 52=false:=by kernel_rfl
theorem Al5 (a b:Int) (w:World):(Op.equalIn 10000 36 (.agg #[.int .i64 a,.int .i64 b]) (.agg #[.int .i64 a,.int .i64 b])).run Tryz.prog w=.ok true w:=by
 have hS:Tryz.prog.underlying 36=some (.struct (Tryz.prog.fieldsOf 36)):=by kernel_rfl
 have hp:Tryz.prog.stoodInHeld 36=false:=by kernel_rfl
 rw [show (10000:Nat)=9999+1 from rfl,run_equalIn_agg w 9999 36 _ _ hS hp];simp only [Program.fieldsOf,Tryz.underlying36];go_simp
theorem Al6:Tryz.prog.eqGuardType Tryz.prog.depth 36=false:=by kernel_rfl
theorem Al7 (l:List Id):∀k:Nat,(l.flatMap Id.cells).drop (k*3)=(l.drop k).flatMap Id.cells:=by
 induction l with
 |nil=>intro k;simp
 |cons x r ih=>
  intro k
  cases k with
  |zero=>rfl
  |succ k=>
   rw [show (k+1)*3=3+k*3 by omega,Ao9,← List.drop_drop,List.drop_left' (show (Id.cells x).length=3 from rfl),ih k];rfl
theorem Tf (l:List Id):∀k:Nat,(l.flatMap Id.cells).take (k*3)=(l.take k).flatMap Id.cells:=by
 induction l with
 |nil=>intro k;simp
 |cons x r ih=>
  intro k
  cases k with
  |zero=>simp
  |succ k=>
   rw [show (k+1)*3=3+k*3 by omega,Ao9,List.take_add,List.take_left' (show (Id.cells x).length=3 from rfl),List.drop_left' (show (Id.cells x).length=3 from rfl),ih k];rfl
theorem Al8 (l:List Id) (k:Nat):(l.drop k++l.take k).Perm l:=List.perm_append_comm.trans (by rw [List.take_append_drop])
theorem Al9 (p v:Value):Instr.storeAt 71 p v=stS 71 p v:=rfl
theorem Am0 (v:Value):Instr.loadAt 71 v=ldS 71 v:=rfl
theorem Am1:(Tryz.prog.info? 71).map (·.size)=some 5:=by kernel_rfl
theorem Tg (v:Value):Instr.loadAt 52 v=ldS 52 v:=rfl
theorem Th {P:Program} {Q:Exit→Act→World→Prop} {l:List Oper} {md:Region.Mode} {S:World→Prop} {fuel:Nat} {listed:Array Bool} {a:Act} {w:World} (i j:Nat) {d:Option Tmp} {op:Go.Op} {ty:TypeId} {pos:String} {after:Array Edge} {g:Option (Nat × Bool)} {d':Option Tmp} {op':Go.Op} {ty':TypeId} {pos':String} {after':Array Edge} {g':Option (Nat × Bool)}
  (hr:Region.ready md l.toArray listed=[i,j]) (ho:l[i]? =some ⟨d,op,ty,pos,after,g⟩) (ho':l[j]? =some ⟨d',op',ty',pos',after',g'⟩)
  (hw:Region.wanted ⟨d,op,ty,pos,after,g⟩ (yielded l.toArray a.tmps)=true) (hw':Region.wanted ⟨d',op',ty',pos',after',g'⟩ (yielded l.toArray a.tmps)=true)
  (h:∀K':Act→World→Prop,Shut (∀a w,S w→(S w→wpAnyH P md l.toArray Q S fuel (listed.setIfInBounds i true) a w)→K' a w)→Oper.wp P ⟨d,op,ty,pos,after,g⟩ a w K' Q)
  (h':∀K':Act→World→Prop,Shut (∀a w,S w→(S w→wpAnyH P md l.toArray Q S fuel (listed.setIfInBounds j true) a w)→K' a w)→Oper.wp P ⟨d',op',ty',pos',after',g'⟩ a w K' Q):
  wpAnyH P md l.toArray Q S (fuel+1) listed a w:=
 wpAnyH_ready hr (by simp) (AllReadyH.cons (by rw [Ap0];exact ho) (fun K' hK=>by rw [if_pos hw];exact h K' hK) (AllReadyH.cons (by rw [Ap0];exact ho') (fun K' hK=>by rw [if_pos hw'];exact h' K' hK) AllReadyH.nil))
end Oq
end
end Go.Proofs.YtkanjaikgphjfaaGreatDoor
