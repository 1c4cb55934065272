/-
  Contracts of the functions that the claim's statement reaches, walked one by one (part 14).
  Conditions: as each theorem says.
-/
import Derived.Test.YtkanjaikgphjfaaGreatDoorFkM6
import Derived.Test.YtkanjaikgphjfaaGreatDoorFkM10
import Derived.Test.YtkanjaikgphjfaaGreatDoorFkM11
import Derived.Test.YtkanjaikgphjfaaGreatDoorFkM12
import Derived.Test.YtkanjaikgphjfaaGreatDoorFkM13
set_option maxRecDepth 100000
set_option maxHeartbeats 16000000
open Bool renaming not_false→Ag4,not_true→Ag5,and_eq_true→Ah1
open Int renaming tmod_eq_emod_of_nonneg→Ag9,tdiv_eq_ediv_of_nonneg→Ah0
open List renaming not_mem_nil→Af8,getElem?_eq_getElem→Ag0,mem_of_getElem?→Ag6,length_append→Ah2,getElem?_of_mem→Ah3,length_filterMap_le→Ah4,getElem_map→Ah5
open Nat renaming le_trans→Af9,lt_of_lt_of_le→Ag1,le_refl→Ag3,zero_mul→Ag7,add_zero→Ag8
open Go.World renaming size_alloc→Ag2
namespace Go.Proofs.YtkanjaikgphjfaaGreatDoor
section
open Go.RowKit
attribute [local go_sem ↓] Go.wp_at_zero Go.wp_at_succ
namespace Oq
attribute [local go_sem] Ag4 Ag5
attribute [local go_sem ↓] Fg Ce Ga Ep
def fg0 (A:Option Addr) (c:Nat) (cs:List Cd):FG:=⟨A,c,cs,none,0,[],none,0,none,0,[],[]⟩
theorem Ae1 {A:Option Addr} {c:Nat} {cs:List Cd} {w:World} {base:Nat} (h:RowAt w base 71 5 A cs.length c (cs.flatMap Cd.cells)) (hf:cs.length≤1000) (hk:∀c∈cs,c.s<18446744073709551616):(fg0 A c cs).own w base where
 cards:=h
 ops:=RowAt.nil _ _ _ _
 each _ hx:=absurd hx Af8
 same:=rfl
 ok _ hx:=absurd hx Af8
 ids:=RowAt.nil _ _ _ _
 pasts:=RowAt.nil _ _ _ _
 eachP _ hx:=absurd hx Af8
 lenP:=rfl
 sameP _ _ _ hx _:=by cases hx
 rows:=Rows.nil
 num:=⟨fun _ hn=>absurd hn Af8,fun _ hn=>absurd hn Af8,fun _ hn=>absurd hn Af8,fun _ hn=>absurd hn Af8,by show 0≤14;decide⟩
 cfew:=hf
 cok:=hk
theorem Ae2:∀c∈Av 0 [1,2,2,3],c.s<18446744073709551616:=fun c hc=>by
 obtain ⟨xs,h1,_,_,h4⟩:=Kq [1,2,2,3] 0 (by decide);rw [← h1] at hc;obtain ⟨x,hx,rfl⟩:=List.mem_map.1 hc;exact h4 x hx
def Lk (l0:List Int) (w:World) (e:Ending) (w':World):Prop:=
 ∃r:FG,e=.returned (.agg r.cells)∧Fr Non w w'∧r.own w' w.heap.size∧r.cards=Av 0 [1,2,2,3]∧r.l=En l0
def Ae3:OpL:={OpL.zero with by_:=1,sq:=1,kind:=1}
theorem Ll:OpL.zero.op.ok:=by
 have z:I64 0:=⟨by decide,by decide⟩;have u:U64 0:=by unfold U64;decide
 have e:∀{α:Type} {P:α→Prop},(([]:List α).length≤1000∧∀x∈([]:List α),P x):=⟨by simp,fun _ h=>absurd h Af8⟩;exact {by_:=z,sq:=z,kind:=z,at_:=z,past:=e,dev:=z,old:=z,mem:=z,role:=z,path:=e,epoch:=⟨z,z,u⟩,n:=z,body:=by decide,refs:=e,of:=⟨z,z,u⟩,guards:=e,need:=z,wait:=z,boxes:=e,pub:=u,hist:=e,r:=u,s:=u}
theorem Fk {w:World} {base:Nat} {x y:OpL} (h:x.lies w base) (h1:y.pastA=x.pastA∧y.pastC=x.pastC∧y.past=x.past) (h2:y.pathA=x.pathA∧y.pathC=x.pathC∧y.path=x.path) (h3:y.bodyA=x.bodyA∧y.bodyC=x.bodyC∧y.body=x.body) (h4:y.refsA=x.refsA∧y.refsC=x.refsC∧y.refs=x.refs) (h5:y.guardsA=x.guardsA∧y.guardsC=x.guardsC∧y.guards=x.guards) (h6:y.boxesA=x.boxesA∧y.boxesC=x.boxesC∧y.boxes=x.boxes) (h7:y.histA=x.histA∧y.histC=x.histC∧y.hist=x.hist):y.lies w base:=by
 obtain ⟨a1,a2,a3⟩:=h1;obtain ⟨b1,b2,b3⟩:=h2;obtain ⟨c1,c2,c3⟩:=h3;obtain ⟨d1,d2,d3⟩:=h4;obtain ⟨e1,e2,e3⟩:=h5;obtain ⟨f1,f2,f3⟩:=h6;obtain ⟨g1,g2,g3⟩:=h7;exact ⟨by rw [a1,a2,a3];exact h.past,by rw [b1,b2,b3];exact h.path,by rw [b3];exact h.nodes,by rw [c1,c2,c3];exact h.body,by rw [d1,d2,d3];exact h.refs,by rw [e1,e2,e3];exact h.guards,by rw [f1,f2,f3];exact h.boxes,by rw [g1,g2,g3];exact h.hist,by rw [g3];exact h.seals⟩
structure De (w7 v:World) (base go:Nat) (x:OpL) (A:Option Addr) (n c:Nat) (on:List Nat):Prop where
 b:Blk v go 67 x.cells
 f:Fr Non w7 v
 l:x.lies v base
 os:Own v (go+1) 3 1 A n c (on.map Qv)
 len:on.length=n
 gd:x.guardsA=none∧x.guardsC=0∧x.guards=[]
 gs:w7.heap.size≤go
 sz:go<v.heap.size
theorem De.non {w7 v v':World} {base go:Nat} {x:OpL} {A:Option Addr} {n c:Nat} {on:List Nat} (s:De w7 v base go x A n c on) (hf:Fr Non v v'):De w7 v' base go x A n c on:=
 ⟨s.b.fr hf zq,s.f.trans hf zr,s.l.non hf,s.os.fr hf zr,s.len,s.gd,s.gs,Ag1 s.sz hf.size⟩
theorem De.app {w7 v v':World} {base go:Nat} {x:OpL} {A A':Option Addr} {n c n' c':Nat} {on on':List Nat} (s:De w7 v base go x A n c on) (hf:Fr (fun k=>Ab A=some k) v v') (ho:Own v' (go+1) 3 1 A' n' c' (on'.map Qv)) (hl:on'.length=n'):De w7 v' base go x A' n' c' on':=
 ⟨s.b.fr hf (fun e=>by have:=(s.os.row _ e).1;omega),s.f.trans hf (fun k hk e=>by have:=(s.os.row k e).1;have:=s.gs;omega),⟨s.l.past.keepT hf ((Types.row s.os).not (by decide)),s.l.path.keepT hf ((Types.row s.os).not (by decide)),fun y hy=>(s.l.nodes y hy).keepT hf ((Types.row s.os).not (by decide)),s.l.body.keepT hf ((Types.row s.os).not (by decide)),s.l.refs.keepT hf ((Types.row s.os).not (by decide)),by (obtain ⟨h1,h2,h3⟩:=s.gd;rw [h1,h2,h3];exact ⟨SlAt.nil _ _ _,.inl rfl⟩),s.l.boxes.keepT hf ((Types.row s.os).not (by decide)),s.l.hist.keepT hf ((Types.row s.os).not (by decide)),fun y hy=>(s.l.seals y hy).keepT hf ((Types.row s.os).not (by decide))⟩,ho,hl,s.gd,s.gs,Ag1 s.sz hf.size⟩
theorem De.setB {w7 v:World} {base go:Nat} {x:OpL} {A:Option Addr} {n c:Nat} {on:List Nat} (s:De w7 v base go x A n c on) (j:Nat) (u:Value) (y:OpL) (hc:x.cells.setIfInBounds j u=y.cells) (hg:y.guardsA=none∧y.guardsC=0∧y.guards=[]) (hy:∀v',x.lies v' base→(∀(t:TypeId) (size n c:Nat) (A:Option Addr) (xs:List Value),t≠67→RowLies v base t size A n c xs→RowLies v' base t size A n c xs)→y.lies v' base):De w7 (v.setCell ⟨go,j,none⟩ u) base go y A n c on where
 b:=hc▸s.b.set j u
 f:=s.f.setNew (g:=go) (by have:=s.gs;omega) j u
 l:=hy _ (s.l.keepP ((Fr.refl (One go) v).setOne j u) (Types.one s.b) (by decide) (by decide) (by decide) (by decide) (by decide) (by decide) (by decide)) (fun _ _ _ _ _ _ ht h=>h.keepT ((Fr.refl (One go) v).setOne j u) ((Types.one s.b).not ht))
 os:=Own.setFar s.os s.b (by decide) u
 len:=s.len
 gd:=hg
 gs:=s.gs
 sz:=by have:=s.sz;first|exact this|(simp [World.setCell];omega)
theorem I4 (B n c:Nat) (A:Option Addr) (l0:List Int) (w:World) (hn:Hid (l0.length=n)) (hr:Rd w B 1 A n (l0.map Iv)) (hnm:n≤9223372036854775807) (hok:∀x∈l0,I64 x):
  Calls Tryz.prog 9 #[.slice A n c] w (Lk l0 w):=by
 have kc:=Lib.hid (fun (w':World) (hr:Rd w' w'.heap.size 1 (some ⟨w.heap.size+1,0,none⟩) 4 (([1,2,2,3]:List Int).map Iv))=>U3 4 4 (some ⟨w.heap.size+1,0,none⟩) [1,2,2,3] w' rfl (by decide) hr);have br:=(Blk.new w 28 #[.slice none 0 0,.slice none 0 0,.slice none 0 0,.slice none 0 0]).alloc (.cells #[.int .i64 1,.int .i64 2,.int .i64 2,.int .i64 3] 3);have bi:=Blk.new (w.alloc (.cells #[.slice none 0 0,.slice none 0 0,.slice none 0 0,.slice none 0 0] 28)) 3 #[.int .i64 1,.int .i64 2,.int .i64 2,.int .i64 3];rw [Ag2] at bi;have f0:Fr Non w ((w.alloc (.cells #[.slice none 0 0,.slice none 0 0,.slice none 0 0,.slice none 0 0] 28)).alloc (.cells #[.int .i64 1,.int .i64 2,.int .i64 2,.int .i64 3] 3)):=((Fr.refl Non w).alloc _).alloc _;go_enter Tryz.func9,Tryz.ntmps9;go_upto_region 1 with (fail)
 generalize hw0:(w.alloc (.cells #[.slice none 0 0,.slice none 0 0,.slice none 0 0,.slice none 0 0] 28)).alloc (.cells #[.int .i64 1,.int .i64 2,.int .i64 2,.int .i64 3] 3)=w0 at*;unfold Od at kc
 have dq:Rd w0 w0.heap.size 1 (some ⟨w.heap.size+1,0,none⟩) 4 (([1,2,2,3]:List Int).map Iv):=by
  rw [← hw0] at bi ⊢;exact Rd.blk (n:=4) (size:=1) bi rfl
 go_upto_region 2 with (go_at_call 28;(with_reducible refine (kc.out _ dq).mono ?_);rintro _ w1 ⟨A1,c1,rfl,o1,f1⟩;have dx:=f0.trans f1 zr;have b4:=br.fr f1 zq;have bn:=Blk.new w1 28 #[.slice none 0 0,.slice none 0 0,.slice none 0 0,.slice none 0 0];have az:=Bq (P:=Tryz.prog) w1.heap.size 28 (cs:=#[.slice A1 4 c1,.slice none 0 0,.slice none 0 0,.slice none 0 0]) Bp (old:=#[.slice none 0 0,.slice none 0 0,.slice none 0 0,.slice none 0 0]) rfl (by simp [Value.oneCell']))
 have cc:=(b4.alloc (.cells #[.slice none 0 0,.slice none 0 0,.slice none 0 0,.slice none 0 0] 28)).setRow_far (g':=w1.heap.size) (by have:=b4.lt;omega) (cs:=#[.slice A1 4 c1,.slice none 0 0,.slice none 0 0,.slice none 0 0]);have b1:Blk ((w1.alloc (.cells #[.slice none 0 0,.slice none 0 0,.slice none 0 0,.slice none 0 0] 28)).setRow w1.heap.size #[.slice A1 4 c1,.slice none 0 0,.slice none 0 0,.slice none 0 0]) w1.heap.size 28 (fg0 A1 c1 (Av 0 [1,2,2,3])).cells:=bn.setRow (cs:=#[.slice A1 4 c1,.slice none 0 0,.slice none 0 0,.slice none 0 0]);have fG:Fr Non w1 ((w1.alloc (.cells #[.slice none 0 0,.slice none 0 0,.slice none 0 0,.slice none 0 0] 28)).setRow w1.heap.size #[.slice A1 4 c1,.slice none 0 0,.slice none 0 0,.slice none 0 0]):=((Fr.refl Non w1).alloc _).setRow (fun hh=>absurd hh (by omega)) _;have ea:w.heap.size<w1.heap.size:=b4.lt;have ec:w.heap.size≤w0.heap.size:=f0.size;have f3:=dx.trans fG zr;have ap:(fg0 A1 c1 (Av 0 [1,2,2,3])).own ((w1.alloc (.cells #[.slice none 0 0,.slice none 0 0,.slice none 0 0,.slice none 0 0] 28)).setRow w1.heap.size #[.slice A1 4 c1,.slice none 0 0,.slice none 0 0,.slice none 0 0]) w.heap.size:=Ae1 ((RowAt.of_own (o1.fr fG zr)).lower (by omega)) (by decide) Ae2;have bc:w1.heap.size<((w1.alloc (.cells #[.slice none 0 0,.slice none 0 0,.slice none 0 0,.slice none 0 0] 28)).setRow w1.heap.size #[.slice A1 4 c1,.slice none 0 0,.slice none 0 0,.slice none 0 0]).heap.size:=b1.lt;clear az bn b4 br o1 fG dx dq f1;obtain ⟨gv,dg⟩:=Aa w1.heap.size;rw [dg.out] at b1 ap cc f3 ea bc ⊢;generalize (w1.alloc (.cells #[.slice none 0 0,.slice none 0 0,.slice none 0 0,.slice none 0 0] 28)).setRow gv #[.slice A1 4 c1,.slice none 0 0,.slice none 0 0,.slice none 0 0]=w3 at*;have au:(fg0 A1 c1 (Av 0 [1,2,2,3])).cards=Av 0 [1,2,2,3]:=rfl;have cv:(fg0 A1 c1 (Av 0 [1,2,2,3])).l=[]:=rfl;generalize fg0 A1 c1 (Av 0 [1,2,2,3])=r0 at*;clear bi kc hw0 f0 ec dg w1 w0;have d0:=OpL.zero_own w3 w.heap.size;have kp:=Ri w.heap.size w3.heap.size 0 0 none r0 Ae3 [] w3 ap (Fk d0.lies ⟨rfl,rfl,rfl⟩ ⟨rfl,rfl,rfl⟩ ⟨rfl,rfl,rfl⟩ ⟨rfl,rfl,rfl⟩ ⟨rfl,rfl,rfl⟩ ⟨rfl,rfl,rfl⟩ ⟨rfl,rfl,rfl⟩) f3.size {Ll with by_:=(show I64 1 from ⟨by decide,by decide⟩),sq:=(show I64 1 from ⟨by decide,by decide⟩),kind:=(show I64 1 from ⟨by decide,by decide⟩)} ⟨rfl,rfl,rfl⟩ ⟨1,rfl,by omega⟩ ⟨by decide,by decide⟩ rfl (Rd.nil _ _ _ _) (by omega) (fun _ h=>absurd h Af8) (by rw [cv];exact Ad9 au);replace kp:Hid (Calls Tryz.prog 29 #[.agg r0.cells,.agg #[.int .i64 1,.int .i64 1,.int .i64 1,.int .i64 0,.slice none 0 0,.int .i64 0,.int .i64 0,.int .i64 0,.int .i64 0,.slice none 0 0,.int .i64 0,.int .i64 0,.int .u64 0,.int .i64 0,.slice none 0 0,.slice none 0 0,.int .i64 0,.int .i64 0,.int .u64 0,.slice none 0 0,.int .i64 0,.int .i64 0,.slice none 0 0,.int .u64 0,.slice none 0 0,.int .u64 0,.int .u64 0],.slice none 0 0] w3 (Fi w.heap.size r0 (Dt 1) [] w3)):=kp;have hl:=Cf (P:=Tryz.prog) gv 28 Tryz.underlying28 rfl (cs:=r0.cells) Bp;clear d0;go_upto_region 3 with (go_at_call 29;(with_reducible refine (kp.out).mono ?_);rintro _ w4 ⟨r1,rfl,f4,a6,av,a7⟩;(have b7:=b1.fr f4 zq);(have az:=Bq (P:=Tryz.prog) gv 28 (cs:=r1.cells) Bp (old:=r0.cells) rfl (Ek r1)))
 have bh:=a6.setG b7 r1.cells;have dv:Blk (w4.setRow gv r1.cells) gv 28 r1.cells:=b7.setRow;have dm:=(cc.fr f4 zq).setRow_far (g':=gv) (by omega) (cs:=r1.cells);have f5:=(f3.trans f4 zr).setRow (g:=gv) (fun hh=>absurd hh (by omega)) r1.cells;rw [au] at av;rw [cv] at a7;replace a7:r1.l=Em l0 0:=a7;clear az hl kp ap b1 cc f3 bc au cv f4 a6 b7;generalize w4.setRow gv r1.cells=w5 at*;go_wp2_with (fail)
 go_loopw [4] (fun v wr=>∃(j I:Nat) (r:FG),Hid (I=2*j)∧v=.int .i64 (I:Int)∧j≤13∧j≤n/2∧Blk wr gv 28 r.cells∧r.own wr w.heap.size∧r.cards=Av 0 [1,2,2,3]∧Hid (r.l=Em l0 j)∧Blk wr w.heap.size 28 #[.slice none 0 0,.slice none 0 0,.slice none 0 0,.slice none 0 0]∧Fr Non w wr) (fun v _=>26-(intOf v).toNat)
 case atStart=>exact ⟨0,0,r1,rfl,rfl,by omega,by omega,dv,bh,av,a7,dm,f5⟩
 case round=>
 clear dv bh av a7 dm f5;obtain ⟨j,I,r,hI,rfl,hj,e8,bn,ro,bx,a3,br,hf⟩:=hrel;have e5:I≤26:=by have:=hI.out;omega
 have e1:IntKind.i64.wrap ((I:Int)+1)=(I:Int)+1:=IntWalk.i64_in _ (by omega)
 by_cases hgo:I+1<n∧I<26
 ·
  have t1:decide ((I:Int)+1<(n:Int))=true:=decide_eq_true (by omega);have t2:decide ((I:Int)<26)=true:=decide_eq_true (by omega);have k1:=Lib.hid (fun (v:World) (hv:Fr Non w v)=>K9 B n c I A l0 v hn (hr.fr hv zr) hok hnm (by omega))
  have k2:Hid (∀(v:World),Fr Non w v→Calls Tryz.prog 30 #[.slice A n c,.int .i64 ((I:Int)+1)] v fun e w'=>e=.returned (.int .i64 (Cj l0 (I+1):Int))∧Fr Non v w'):=fun v hv=>by
   have h:=K9 B n c (I+1) A l0 v hn (hr.fr hv zr) hok hnm (by omega);rwa [show (((I+1:Nat)):Int)=(I:Int)+1 from by omega] at h
  have aa:Hid (Em l0 (j+1)=Lj r.l (Cj l0 I) (Cj l0 (I+1))):=by
   show Lj (Em l0 j) (Cj l0 (2*j)) (Cj l0 (2*j+1))=_;rw [a3.out,hI.out]
  have cb:r.l≠[]:=by rw [a3.out];exact G6 l0 j
  have b8:r.l.length≤13:=by rw [a3.out];have:=Ro l0 j;have:=hI.out;omega
  obtain ⟨a,ha⟩:=Aa (Cj l0 I);obtain ⟨b,hb⟩:=Aa (Cj l0 (I+1));rw [ha.out] at k1 aa;rw [hb.out] at k2 aa;have fc:a≤1000000∧b≤1000000:=by rw [← ha.out,← hb.out];exact ⟨Le _ _,Le _ _⟩
  clear ha hb hok hr a3
  go_upto_region 8 with (first
   |(go_at_call 30;(with_reducible refine (k1.out _ hf).mono ?_);rintro _ w6 ⟨rfl,f6⟩;(have cm:=hf.trans f6 zr))
   |(go_at_call 30;(with_reducible refine (k2.out _ cm).mono ?_);rintro _ w7 ⟨rfl,f7⟩))
  have b5:=cm.trans f7 zr;have cf:=bn.fr (f6.trans f7 zr) zq;have du:=br.fr (f6.trans f7 zr) zq;have ao:=ro.non (f6.trans f7 zr);clear bn br ro hf f6 f7 cm k1 k2;have bg:Hid (∀v,Fr Non w7 v→Blk v gv 28 r.cells):=fun v hv=>cf.fr hv zq;obtain ⟨D,hD⟩:=Aa (a%4);have d6:D<4:=by rw [← hD.out];exact Nat.mod_lt _ (by omega)
  have eh:(a:Int).tmod 4=(D:Int):=by rw [Ag9 (by omega),← hD.out];rfl
  have e4:IntKind.i64.wrap (1+(D:Int))=1+(D:Int):=IntWalk.i64_in _ (by omega);have d7:IntKind.i64.wrap (D:Int)=(D:Int):=IntWalk.i64_in _ (by omega);obtain ⟨X1,a2⟩:∃X:OpL,Hid (X={OpL.zero with by_:=(1:Int)+D,kind:=4}):=⟨_,rfl⟩;have b3:X1.cells=#[.int .i64 (1+(D:Int)),.int .i64 0,.int .i64 4,.int .i64 0,.slice none 0 0,.int .i64 0,.int .i64 0,.int .i64 0,.int .i64 0,.slice none 0 0,.int .i64 0,.int .i64 0,.int .u64 0,.int .i64 0,.slice none 0 0,.slice none 0 0,.int .i64 0,.int .i64 0,.int .u64 0,.slice none 0 0,.int .i64 0,.int .i64 0,.slice none 0 0,.int .u64 0,.slice none 0 0,.int .u64 0,.int .u64 0]:=by rw [a2.out];rfl
  have cn:(Tryz.prog.info? 67).map (·.size)=some (#[.int .i64 (1+(D:Int)),.int .i64 0,.int .i64 4,.int .i64 0,.slice none 0 0,.int .i64 0,.int .i64 0,.int .i64 0,.int .i64 0,.slice none 0 0,.int .i64 0,.int .i64 0,.int .u64 0,.int .i64 0,.slice none 0 0,.slice none 0 0,.int .i64 0,.int .i64 0,.int .u64 0,.slice none 0 0,.int .i64 0,.int .i64 0,.slice none 0 0,.int .u64 0,.slice none 0 0,.int .u64 0,.int .u64 0]:Array Value).size:=by show _=some 27;kernel_rfl
  have az:=Bq (P:=Tryz.prog) (t:=67) w7.heap.size 67 (cs:=#[.int .i64 (1+(D:Int)),.int .i64 0,.int .i64 4,.int .i64 0,.slice none 0 0,.int .i64 0,.int .i64 0,.int .i64 0,.int .i64 0,.slice none 0 0,.int .i64 0,.int .i64 0,.int .u64 0,.int .i64 0,.slice none 0 0,.slice none 0 0,.int .i64 0,.int .i64 0,.int .u64 0,.slice none 0 0,.int .i64 0,.int .i64 0,.slice none 0 0,.int .u64 0,.slice none 0 0,.int .u64 0,.int .u64 0]) cn (old:=zO) rfl (by rw [← b3];exact Hp X1);have bo:=Blk.new w7 67 zO;go_upto_region 9 with (fail)
  have bv:Blk ((w7.alloc (.cells zO 67)).setRow w7.heap.size #[.int .i64 (1+(D:Int)),.int .i64 0,.int .i64 4,.int .i64 0,.slice none 0 0,.int .i64 0,.int .i64 0,.int .i64 0,.int .i64 0,.slice none 0 0,.int .i64 0,.int .i64 0,.int .u64 0,.int .i64 0,.slice none 0 0,.slice none 0 0,.int .i64 0,.int .i64 0,.int .u64 0,.slice none 0 0,.int .i64 0,.int .i64 0,.slice none 0 0,.int .u64 0,.slice none 0 0,.int .u64 0,.int .u64 0]) w7.heap.size 67 X1.cells:=b3▸bo.setRow;have f8:Fr Non w7 ((w7.alloc (.cells zO 67)).setRow w7.heap.size #[.int .i64 (1+(D:Int)),.int .i64 0,.int .i64 4,.int .i64 0,.slice none 0 0,.int .i64 0,.int .i64 0,.int .i64 0,.int .i64 0,.slice none 0 0,.int .i64 0,.int .i64 0,.int .u64 0,.int .i64 0,.slice none 0 0,.slice none 0 0,.int .i64 0,.int .i64 0,.int .u64 0,.slice none 0 0,.int .i64 0,.int .i64 0,.slice none 0 0,.int .u64 0,.slice none 0 0,.int .u64 0,.int .u64 0]):=((Fr.refl Non w7).alloc _).setRow (fun hh=>absurd hh (by omega)) _;have ci:=bv.lt;clear az bo;obtain ⟨go,a9⟩:=Aa w7.heap.size;rw [a9.out] at bv f8 ci ⊢;generalize (w7.alloc (.cells zO 67)).setRow go #[.int .i64 (1+(D:Int)),.int .i64 0,.int .i64 4,.int .i64 0,.slice none 0 0,.int .i64 0,.int .i64 0,.int .i64 0,.int .i64 0,.slice none 0 0,.int .i64 0,.int .i64 0,.int .u64 0,.int .i64 0,.slice none 0 0,.slice none 0 0,.int .i64 0,.int .i64 0,.int .u64 0,.slice none 0 0,.int .i64 0,.int .i64 0,.slice none 0 0,.int .u64 0,.slice none 0 0,.int .u64 0,.int .u64 0]=w8 at*;have dt:=cf.fr f8 zq;have g1:Hid (r.cells[1]? =some (.slice r.lA r.l.length r.lC)):=rfl;have d1:=(dt.cell 1).trans g1.out;have c0:0<r.l.length:=List.length_pos_iff.2 cb;obtain ⟨L,hL⟩:=Aa r.l.length;rw [hL.out] at d1 g1 c0;have ep:((L:Int)==0)=false:=beq_eq_false_iff_ne.2 (by omega);obtain ⟨Q1,bf⟩:=Aa (a/4%L);have dh:((a:Int).tdiv 4).tmod (L:Int)=(Q1:Int):=by rw [Ah0 (by omega),Ag9 (by omega),← bf.out];rfl
  have c2:IntKind.i64.wrap (Q1:Int)=(Q1:Int):=IntWalk.i64_in _ (by have:Q1≤a:=(by rw [← bf.out];exact Af9 (Nat.mod_le _ _) (Nat.div_le_self _ _));omega);have dj:(a:Int).tdiv 4=((a/4:Nat):Int):=by rw [Ah0 (by omega)];rfl
  have cz:IntKind.i64.wrap ((a/4:Nat):Int)=((a/4:Nat):Int):=IntWalk.i64_in _ (by omega);have ek:((a/4:Nat):Int).tmod (L:Int)=(Q1:Int):=by rw [← dj];exact dh
  have c6:(a:Int)/4%(L:Int)=(Q1:Int):=by rw [← bf.out];rfl
  go_upto_region 10 with (fail)
  try rw [c6]
  have f9:Fr Non w8 (w8.alloc (.cells #[.int .i64 (Q1:Int)] 3)):=(Fr.refl Non w8).alloc _;have bq:=Blk.new w8 3 #[.int .i64 (Q1:Int)];have d3:X1.lies w7 w.heap.size:=by rw [a2.out];exact Fk (OpL.zero_own w7 w.heap.size).lies ⟨rfl,rfl,rfl⟩ ⟨rfl,rfl,rfl⟩ ⟨rfl,rfl,rfl⟩ ⟨rfl,rfl,rfl⟩ ⟨rfl,rfl,rfl⟩ ⟨rfl,rfl,rfl⟩ ⟨rfl,rfl,rfl⟩
  have s9:De w7 (w8.alloc (.cells #[.int .i64 (Q1:Int)] 3)) w.heap.size go X1 (some ⟨w8.heap.size,0,none⟩) 1 1 [Q1]:=⟨bv.fr f9 zq,f8.trans f9 zr,d3.non (f8.trans f9 zr),Own.blk bq (by omega) (by omega) rfl (by omega),rfl,by rw [a2.out];exact ⟨rfl,rfl,rfl⟩,by rw [← a9.out];exact Ag3 _,Ag1 ci f9.size⟩;clear f9 bq d3 bv f8 ci dt d1 cf;obtain ⟨A9,eu⟩:=Aa (some (⟨w8.heap.size,0,none⟩:Addr));rw [eu.out] at s9 ⊢;generalize w8.alloc (.cells #[.int .i64 (Q1:Int)] 3)=w9 at*;have ej:=bg.out w9 s9.f;have kl:=Lib.hid (Aa4 w.heap.size r (1+(D:Int)) w9 (ao.non s9.f));have hl:=Cf (P:=Tryz.prog) gv 28 Tryz.underlying28 rfl (cs:=r.cells) Bp;have o0:w9.cell? ⟨go,0,none⟩=some (.int .i64 (1+(D:Int))):=by have h9:=s9.b.cell 0;rw [b3] at h9;exact h9
  rw [hL.out] at kl;go_upto_region 11 with (go_at_call 31;(with_reducible refine (kl.out).mono ?_);rintro _ cw ⟨rfl,d4⟩)
  have a1:=s9.non d4;clear s9 d4 o0 ej kl;have c5:=K5 r.l (1+(D:Int)) L;obtain ⟨Z,hZ⟩:=Aa (C7 r.l (1+(D:Int)) L);rw [hZ.out] at c5 ⊢;obtain ⟨C,hC⟩:∃C:Bool,C=(decide (0≤Z)&&decide (0<a/64%5)):=⟨_,rfl⟩
  have ai:Hid ((if 0≤Z∧0<a/64%5 then [Z.toNat] else [])=if C=true then [Z.toNat] else []):=by
   show _=_;rw [hC]
   by_cases h1:0≤Z∧0<a/64%5
   · rw [if_pos h1,if_pos (by simp [h1])]
   · rw [if_neg h1,if_neg (fun e=>h1 (by simpa using e))]
  go_cut [56] from 49 to 56 (fun t wc=>cw=wc∧t=.bool C)
  case first=>
   have di:Hid ((a:Int)/64%5=((a/64%5:Nat):Int)):=by show _=_;rfl
   rcases zb (decide (0≤Z)) with z1|z1
   ·
    have er:decide (Z≥0)=true:=z1
    rcases zb (decide (0<a/64%5)) with u1|u1
    ·
     have u2:decide ((a:Int)/64%5>0)=true:=by rw [di.out];exact decide_eq_true (by have:=of_decide_eq_true u1;omega)
     have e0:decide (0<(a:Int)/64%5)=true:=u2;rw [z1,u1] at hC;go_wp2_with (fail);go_meet;exact ⟨rfl,by rw [hC];rfl⟩
    ·
     have u2:decide ((a:Int)/64%5>0)=false:=by rw [di.out];exact decide_eq_false (by have:=of_decide_eq_false u1;omega)
     have e0:decide (0<(a:Int)/64%5)=false:=u2;rw [z1,u1] at hC;go_wp2_with (fail);go_meet;exact ⟨rfl,by rw [hC];rfl⟩
   ·
    have er:decide (Z≥0)=false:=z1;rw [z1] at hC;go_wp2_with (fail);go_meet;exact ⟨rfl,by rw [hC];rfl⟩
  case rest=>
  obtain ⟨rfl,rfl⟩:=hcut
  go_upto_if 56 with (fail)
  go_cut [8] from 57 to 60 (fun t wc=>∃A' n' c',t=.slice A' n' c'∧n'≤2∧De w7 wc w.heap.size go X1 A' n' c' ([Q1]++(if C=true then [Z.toNat] else [])))
  case first=>
   cases C
   case true=>
    have z1:0≤Z:=by
     have h9:=hC.symm;rw [Ah1] at h9;exact of_decide_eq_true h9.1
    clear hC ai;have bz:=Blk.new cw 3 #[.int .i64 Z];have eg:Hid (Value.int .i64 Z=Qv Z.toNat):=by show Value.int .i64 Z=Value.int .i64 ((Z.toNat:Nat):Int);rw [Int.toNat_of_nonneg z1]
    have so:=a1.os;have sg:=a1.gs;have ss:=a1.sz;go_wp2_with (at_builtin;go_loud (refine Au (base:=go+1) (.tmp 57) (.tmp 59) 22 rfl rfl rfl rfl E7 (so.alloc (.cells #[.int .i64 Z] 3)) (Rd.blk (n:=1) (size:=1) bz rfl) (by simp [Value.oneCell']) (by omega) (by omega) (by rw [Ag2];omega) ?_);intro A8 c8 v8 ah ct cj);go_meet;refine ⟨A8,2,c8,rfl,by omega,(a1.non ((Fr.refl Non cw).alloc (.cells #[.int .i64 Z] 3))).app ct ?_ rfl⟩;rw [eg.out] at ah;exact ah
   case false=>
    clear hC ai;go_wp2_with (fail);go_meet;exact ⟨A9,1,1,rfl,by omega,a1⟩
  case rest=>
  obtain ⟨en,dr,ei,rfl,eb,ak⟩:=hcut;clear a1 hC;generalize wc=w11 at*;have dl:Hid ((b:Int)%3=((b%3:Nat):Int)):=by show _=_;rfl
  obtain ⟨cx,ar⟩:∃cx:List Nat,Hid (cx=[Q1]++(if C=true then [Z.toNat] else [])):=⟨_,rfl⟩;rw [← ar.out] at ak;have t3:Hid (((b:Int)%3==0)=decide (b%3=0)):=by show _=_;rw [dl.out,Bool.eq_iff_iff,beq_iff_eq,decide_eq_true_eq];omega
  obtain ⟨ae,al⟩:∃ae:List Nat,Hid (ae=cx++(if b%3=0 then [b/3%L] else [])):=⟨_,rfl⟩
  go_upto_if 63 with (fail)
  rw [t3.out];obtain ⟨C3,b2⟩:=Aa (decide (b%3=0));rw [b2.out]
  go_cut [8] from 61 to 72 (fun t wc=>∃A' n' c',t=.slice A' n' c'∧n'≤3∧De w7 wc w.heap.size go X1 A' n' c' ae)
  case first=>
   cases C3
   case true=>
    have af:=Lib.hid (al.out.trans (by rw [if_pos (of_decide_eq_true b2.out)]));have ck:=bg.out w11 ak.f;have d1:=(ck.cell 1).trans g1.out;obtain ⟨Q3,dy⟩:=Aa (b/3%L);have eo:(b:Int)/3%(L:Int)=(Q3:Int):=by rw [← dy.out];rfl
    rw [dy.out] at af;have bz:=Blk.new w11 3 #[.int .i64 (Q3:Int)];have so:=ak.os;have sg:=ak.gs;have ss:=ak.sz;clear t3;go_wp2_with (at_builtin;(try rw [eo]);go_loud (refine Au (base:=go+1) (.tmp 64) (.tmp 71) 22 rfl rfl rfl rfl E7 (so.alloc (.cells #[.int .i64 (Q3:Int)] 3)) (Rd.blk (n:=1) (size:=1) bz rfl) (by simp [Value.oneCell']) (by omega) (by omega) (by rw [Ag2];omega) ?_);intro A8 c8 v8 ah ct cj);go_meet;refine ⟨A8,dr+1,c8,rfl,by omega,(ak.non ((Fr.refl Non w11).alloc (.cells #[.int .i64 (Q3:Int)] 3))).app ct ?_ ?_⟩
    ·
     rw [af.out,List.map_append];exact ah
    ·
     rw [af.out,Ah2,ak.len];rfl
   case false=>
    have af:=Lib.hid (al.out.trans (by rw [if_neg (of_decide_eq_false b2.out),List.append_nil]));clear t3;go_wp2_with (fail);go_meet;exact ⟨en,dr,ei,rfl,by omega,by rw [af.out];exact ak⟩
  case rest=>
  obtain ⟨ca,cd,c3,rfl,d8,ay⟩:=hcut;clear ak b2 t3 dl;generalize wc=w12 at*;have b0:Hid (((b:Int)%2==0)=decide (b%2=0)):=by show _=_;rw [Bool.eq_iff_iff,beq_iff_eq,decide_eq_true_eq];omega
  go_upto_if 75 with (fail)
  rw [b0.out];obtain ⟨C2,a0⟩:=Aa (decide (b%2=0));rw [a0.out];obtain ⟨m0,bi,oi,ce,ds,i0,i1,i2⟩:=ao.idAt (i:=0) (by rw [hL.out];exact c0)
  go_cut [] from 73 to 88 (fun wc=>∃x2:OpL,De w7 wc w.heap.size go x2 ca cd c3 ae∧Hid (x2.op=Ck (if b%2=0 then 7 else 4) (1+(D:Int)) 0 0 [] (nmP r.l 0) [UInt8.ofNat (65+b/2%3)]∧x2.pastA=none∧x2.pastC=0∧x2.past=[]∧x2.by_=1+(D:Int)∧x2.at_=0∧x2.op.ok))
  case first=>
   cases C2
   case true=>
    have hc:=of_decide_eq_true a0.out;clear b0 a0;have z2:w12.cell? ⟨go,2,none⟩=some (.int .i64 X1.kind):=ay.b.cell 2;have y2:=ay.b.frozen 2;go_upto_region 17 with (fail)
    have ab:=ay.setB 2 (.int .i64 7) {X1 with kind:=7} rfl ay.gd (fun v' h _=>Fk h ⟨rfl,rfl,rfl⟩ ⟨rfl,rfl,rfl⟩ ⟨rfl,rfl,rfl⟩ ⟨rfl,rfl,rfl⟩ ⟨rfl,rfl,rfl⟩ ⟨rfl,rfl,rfl⟩ ⟨rfl,rfl,rfl⟩);clear z2 y2 ay;generalize w12.setCell ⟨go,2,none⟩ (.int .i64 7)=w13 at*;have g2:Hid (r.cells[2]? =some (.slice r.iA r.l.length r.iC)):=rfl;rw [ds,hL.out] at g2;have d2:=((bg.out w13 ab.f).cell 2).trans g2.out;rw [Ag7,Ag8] at i0 i1 i2;have ez:=ab.f.cell i0 zq;have ev:=ab.f.cell i1 zq;have ee:=ab.f.cell i2 zq;have et:=ab.b.frozen 16;have ed:=ab.b.frozen 17;have ew:=ab.b.frozen 18;have em:w13.cell? ⟨go,16,none⟩=some (.int .i64 X1.of.b):=ab.b.cell 16;have d5:w13.cell? ⟨go,17,none⟩=some (.int .i64 X1.of.s):=ab.b.cell 17;have ey:w13.cell? ⟨go,18,none⟩=some (.int .u64 (X1.of.u:Int)):=ab.b.cell 18;go_upto_region 18 with (fail)
    have cp:=ab.setB 16 (.int .i64 m0.id.b) {X1 with kind:=7,of:=⟨m0.id.b,X1.of.s,X1.of.u⟩} rfl ab.gd (fun v' h _=>Fk h ⟨rfl,rfl,rfl⟩ ⟨rfl,rfl,rfl⟩ ⟨rfl,rfl,rfl⟩ ⟨rfl,rfl,rfl⟩ ⟨rfl,rfl,rfl⟩ ⟨rfl,rfl,rfl⟩ ⟨rfl,rfl,rfl⟩);have cl:=cp.setB 17 (.int .i64 m0.id.s) {X1 with kind:=7,of:=⟨m0.id.b,m0.id.s,X1.of.u⟩} rfl cp.gd (fun v' h _=>Fk h ⟨rfl,rfl,rfl⟩ ⟨rfl,rfl,rfl⟩ ⟨rfl,rfl,rfl⟩ ⟨rfl,rfl,rfl⟩ ⟨rfl,rfl,rfl⟩ ⟨rfl,rfl,rfl⟩ ⟨rfl,rfl,rfl⟩);have cq:=cl.setB 18 (.int .u64 (m0.id.u:Int)) {X1 with kind:=7,of:=m0.id} rfl cl.gd (fun v' h _=>Fk h ⟨rfl,rfl,rfl⟩ ⟨rfl,rfl,rfl⟩ ⟨rfl,rfl,rfl⟩ ⟨rfl,rfl,rfl⟩ ⟨rfl,rfl,rfl⟩ ⟨rfl,rfl,rfl⟩ ⟨rfl,rfl,rfl⟩);clear ab cp cl em d5 ey et ed ew ez ev ee d2;generalize ((w13.setCell ⟨go,16,none⟩ (.int .i64 m0.id.b)).setCell ⟨go,17,none⟩ (.int .i64 m0.id.s)).setCell ⟨go,18,none⟩ (.int .u64 (m0.id.u:Int))=w16 at*;have bw:=cq.non ((Fr.refl Non w16).alloc (.cells #[.int .u8 (65+(b:Int)/2%3)] 5));have e9:(w16.alloc (.cells #[.int .u8 (65+(b:Int)/2%3)] 5)).cell? ⟨go,14,none⟩=some (.slice X1.bodyA X1.body.length X1.bodyC):=bw.b.cell 14;have fa:=bw.b.frozen 14;have bb:=Blk.new w16 5 #[.int .u8 (65+(b:Int)/2%3)];have b9:=cq.sz;have dn:=b5.size;have e7:IntKind.i64.wrap (65+(b:Int)/2%3)=65+(b:Int)/2%3:=IntWalk.i64_in _ (by omega);have e6:IntKind.u8.wrap (65+(b:Int)/2%3)=65+(b:Int)/2%3:=by rw [IntKind.wrap_u8];omega
    go_wp2_with (fail);go_meet;have hU:(UInt8.ofNat (65+b/2%3)).toNat=65+b/2%3:=by rw [UInt8.toNat_ofNat'];omega
    have hV:#[Value.int .u8 (65+(b:Int)/2%3)].toList=[UInt8.ofNat (65+b/2%3)].map Bv:=by
     show [Value.int .u8 (65+(b:Int)/2%3)]=[Value.int .u8 ((UInt8.ofNat (65+b/2%3)).toNat:Int)];rw [hU];rfl
    have ob:RowLies (w16.alloc (.cells #[.int .u8 (65+(b:Int)/2%3)] 5)) w.heap.size 5 1 (some ⟨w16.heap.size,0,none⟩) [UInt8.ofNat (65+b/2%3)].length 1 ([UInt8.ofNat (65+b/2%3)].map Bv):=by
     rw [← hV];exact (RowAt.of_own (Own.blk (base:=w.heap.size) (n:=1) (size:=1) bb (by have:=cq.gs;omega) (by omega) rfl (by omega))).lies
    refine ⟨{X1 with kind:=7,of:=m0.id,bodyA:=some ⟨w16.heap.size,0,none⟩,bodyC:=1,body:=[UInt8.ofNat (65+b/2%3)]},by rw [← World.setCell_alloc_past _ _ _ _ b9];exact bw.setB 14 (.slice (some ⟨w16.heap.size,0,none⟩) 1 1) {X1 with kind:=7,of:=m0.id,bodyA:=some ⟨w16.heap.size,0,none⟩,bodyC:=1,body:=[UInt8.ofNat (65+b/2%3)]} rfl bw.gd (fun v' h keep=>⟨h.past,h.path,h.nodes,keep _ _ _ _ _ _ (by decide) ob,h.refs,h.guards,h.boxes,h.hist,h.seals⟩),?_⟩;show _∧_;rw [a2.out,if_pos hc,Dw ce];have cr:=(ao.ok m0 (Ag6 ce)).2;exact ⟨rfl,rfl,rfl,rfl,rfl,rfl,{Ll with by_:=(show I64 (1+(D:Int)) from ⟨by omega,by omega⟩),kind:=(show I64 7 from ⟨by decide,by decide⟩),of:=cr,body:=(show 1≤1000000 by decide)}⟩
   case false=>
    have hc:=of_decide_eq_false a0.out;clear b0 a0;go_wp2_with (fail);go_meet;refine ⟨X1,ay,?_⟩;show _∧_;rw [a2.out,if_neg hc];exact ⟨rfl,rfl,rfl,rfl,rfl,rfl,{Ll with by_:=(show I64 (1+(D:Int)) from ⟨by omega,by omega⟩),kind:=(show I64 4 from ⟨by decide,by decide⟩)}⟩
  case rest=>
  obtain ⟨x2,bd,dw⟩:=hcut;clear ay a0 b0 a2 b3;generalize wc=w18 at*;obtain ⟨ag,bs,bk,bj,bp,cu,bt⟩:=dw.out;replace ag:=Lib.hid ag;have z3:w18.cell? ⟨go,3,none⟩=some (.int .i64 x2.at_):=bd.b.cell 3;have y3:=bd.b.frozen 3;go_upto_region 20 with (fail)
  obtain ⟨TT,b6⟩:=Aa (b/6%4);have dp:(b:Int)/6%4=(TT:Int):=by rw [← b6.out];rfl
  have e3:TT<4:=by rw [← b6.out];exact Nat.mod_lt _ (by omega)
  rw [dp];have ad:=bd.setB 3 (.int .i64 (TT:Int)) {x2 with at_:=(TT:Int)} rfl bd.gd (fun v' h _=>Fk h ⟨rfl,rfl,rfl⟩ ⟨rfl,rfl,rfl⟩ ⟨rfl,rfl,rfl⟩ ⟨rfl,rfl,rfl⟩ ⟨rfl,rfl,rfl⟩ ⟨rfl,rfl,rfl⟩ ⟨rfl,rfl,rfl⟩);generalize w18.setCell ⟨go,3,none⟩ (.int .i64 (TT:Int))=w19 at*
  have aq:Hid (({x2 with at_:=(TT:Int)}:OpL).op=El r.l a b):=by
   show _=_;show ({x2.op with at_:=(TT:Int)}:Op)=_;unfold El;rw [ag.out,hD.out,b6.out];unfold Ck
   split<;>rfl
  have bm:({x2 with at_:=(TT:Int)}:OpL).op.ok:={bt with at_:=(show I64 (TT:Int) from ⟨by omega,by omega⟩)};have db:Hid (({x2 with at_:=(TT:Int)}:OpL).pastA=none∧({x2 with at_:=(TT:Int)}:OpL).pastC=0∧({x2 with at_:=(TT:Int)}:OpL).past=[]):=⟨bs,bk,bj⟩;have ba:∃d:Nat,({x2 with at_:=(TT:Int)}:OpL).by_=(d:Int)∧d≤1000:=⟨1+D,by show x2.by_=_;rw [bp];omega,by omega⟩;have a5:0≤({x2 with at_:=(TT:Int)}:OpL).at_∧({x2 with at_:=(TT:Int)}:OpL).at_≤3:=⟨by show (0:Int)≤TT;omega,by show (TT:Int)≤3;omega⟩;generalize ({x2 with at_:=(TT:Int)}:OpL)=x3 at*;clear dw ag bs bk bj bp cu bt z3 y3 bd dp e3
  have ac:Hid (ae=Dl r.l a b):=by
   show _=_;unfold Dl;rw [hL.out,hD.out,bf.out,hZ.out,ai.out,← ar.out,← al.out]
  have aw:=fk_in ao.rows ao.num bx cb b8 a b;rw [← aq.out,← ac.out] at aw;have ax:∀p∈ae,p<r.l.length:=by rw [ac.out];exact Rk cb a b
  have bl:Hid (Em l0 (j+1)=C8 r.l x3.op (Cl r.l ae)):=by
   show _=_;rw [aa.out,aq.out,ac.out];rfl
  have df:(Cl r.l ae).length≤3:=Af9 (Ir _ _ _) (by rw [ac.out];exact Rl _ _ _);have bu:∀p∈Cl r.l ae,p<r.l.length:=fun p hp=>ax p (Gu _ hp).1;generalize hHS:Cl r.l ae=HS at*
  have kh:Hid (∀v,Fr Non w19 v→Calls Tryz.prog 32 #[.agg r.cells,.slice ca cd c3] v (Iu HS v)):=fun v hv=>by
   rw [← hHS];exact Aa7 w.heap.size v.heap.size cd c3 r ca ae v (ao.non (ad.f.trans hv zr)) ad.len (ad.non hv).os.rd (by omega) ax
  have dn:=b5.size
  have kp:Hid (∀(v:World) (A':Option Addr) (c':Nat),Fr Non w19 v→Own v w.heap.size 3 1 A' HS.length c' (HS.map Qv)→Calls Tryz.prog 29 #[.agg r.cells,.agg x3.cells,.slice A' HS.length c'] v (Fi w.heap.size r x3.op HS v)):=fun v A' c' hv ho=>
   Ri w.heap.size v.heap.size HS.length c' A' r x3 HS v (ao.non (ad.f.trans hv zr)) (ad.non hv).l (Af9 dn ((ad.f.trans hv zr).size)) bm db.out ba a5 rfl ho.rd df bu aw
  have c9:Blk w19 gv 28 r.cells:=bg.out w19 ad.f;have dd:=du.fr ad.f zq;have cg:=b5.trans ad.f zr;have dc:=ad.b;have ch:=cg.size;clear aw bu df ax hHS ac aq bm db ba a5 aa ai ar al ad bg c0 cz dj ek dh c2 c6 ep e4 d7 eh b5 du ao ds ce i0 i1 i2 c5 d6 b6 hD bf hZ hL g1;have V0:Blk w19.drew gv 28 r.cells:=c9;have X0:Blk w19.drew go 67 x3.cells:=dc;have F0:Fr Non w19 w19.drew:=(Fr.refl Non w19).drew;have be:(Tryz.prog.info? 67).map (·.size)=some x3.cells.size:=by rw [show x3.cells.size=27 from rfl];kernel_rfl
  have ef:=Cf (P:=Tryz.prog) go 67 Tryz.underlying67 rfl (cs:=x3.cells) be;generalize x3.cells=XC at*;refine Cw (S:=fun w'=>Blk w' gv 28 r.cells∧Blk w' go 67 XC) 6 (by kernel_rfl) ?_;refine tkG 0 ⟨V0,X0⟩ (h:=tkG 1 ⟨V0,X0⟩ (h:=tkG 2 ⟨V0,X0⟩ (h:=tkG 3 ⟨V0,X0⟩ (h:=?_))));simp only [List.set];refine Bj 4 (by kernel_rfl) rfl (fun K hK=> ?_);go_simp;go_wp2_with (go_at_call 32;(with_reducible refine (kh.out _ F0).mono ?_);rintro _ v1 ⟨fd,fb,rfl,de,co⟩;have V1:=V0.fr co zq;have X1:=X0.fr co zq;have F1:=F0.trans co zr;have dz:=Fh de (Af9 ch (Fr.size F0)));refine hK.out _ _ ⟨V1,X1⟩ (fun hZ=> ?_);clear hZ hK K;try simp only [Ag,List.set]
  refine Bj 5 (by kernel_rfl) rfl (fun K hK=> ?_);go_simp;go_wp2_with (go_at_call 29;(with_reducible refine (kp.out _ _ _ F1 dz).mono ?_);rintro _ v2 ⟨r2,rfl,cy,a4,a8,dk⟩;have V2:=V1.fr cy zq;have X2:=X1.fr cy zq;have F2:=F1.trans cy zr;have az:=Bq (P:=Tryz.prog) gv 28 (cs:=r2.cells) Bp (old:=r.cells) rfl (Ek r2));refine hK.out _ _ ⟨V2,X2⟩ (fun hZ=> ?_);clear hZ hK K;try simp only [Ag,List.set]
  have es:=(dd.fr F2 zq).setRow_far (g':=gv) (by omega) (cs:=r2.cells);have el:Blk (v2.setRow gv r2.cells) gv 28 r2.cells:=V2.setRow;have aj:=a4.setG V2 r2.cells;have fz:=(cg.trans F2 zr).setRow (g:=gv) (fun hh=>absurd hh (by omega)) r2.cells;refine Cr (by kernel_rfl) ?_;refine oG 6 (fun K hK=> ?_);go_simp;refine hK.out _ _ trivial (fun hZ=> ?_);clear hZ hK K;try simp only [Ag,List.set]
  refine oD ?_;go_simp;rw [← bl.out] at dk;rw [bx] at a8;clear V0 V1 V2 X0 X1 X2 F0 F1 F2 a4 az dd c9 cg dc kh kp de dz ef be bl;generalize v2.setRow gv r2.cells=wz at*;have e2:IntKind.i64.wrap ((I:Int)+2)=(I:Int)+2:=IntWalk.i64_in _ (by omega);go_wp2_with (fail);go_roundw
  case rel=>exact ⟨j+1,I+2,r2,by show I+2=2*(j+1);have:=hI.out;omega,by go_num,by have:=hI.out;omega,by have:=hI.out;omega,el,aj,a8,dk,es,fz⟩
  case measure=>simp [intOf];omega
 ·
  have c4:Hid (j=min 13 (l0.length/2)):=by
   show _=_;rw [hn.out];have:=hI.out;omega
  have hl:=Cf (P:=Tryz.prog) gv 28 Tryz.underlying28 rfl (cs:=r.cells) Bp;have d9:=Bq (P:=Tryz.prog) w.heap.size 28 (cs:=r.cells) Bp (old:=#[.slice none 0 0,.slice none 0 0,.slice none 0 0,.slice none 0 0]) rfl (Ek r);have da:=br.setRow (cs:=r.cells);have fz:=hf.setRow (g:=w.heap.size) (fun hh=>absurd hh (by omega)) r.cells;have aj:=ro.setG br r.cells;have c7:r.l=En l0:=by rw [a3.out,c4.out];rfl
  have hd:Hid (Lk l0 w (.returned (.agg r.cells)) (wr.setRow w.heap.size r.cells)):=⟨r,rfl,fz,aj,bx,c7⟩;clear c7 bx ro a3 c4 hok hr fz aj hf;generalize Lk l0 w=POST at*
  rcases zb (decide ((I:Int)+1<(n:Int))) with t1|t1
  ·
   have t2:decide ((I:Int)<26)=false:=decide_eq_false (by have:=of_decide_eq_true t1;omega);go_wp2_with (fail)
   (try simp only [Exit.inBlock,Exit.then])
   refine Dr (t:=28) rfl rfl da rfl Tryz.underlying28 Bp rfl ?_;exact hd.out
  ·
   go_wp2_with (fail)
   (try simp only [Exit.inBlock,Exit.then])
   refine Dr (t:=28) rfl rfl da rfl Tryz.underlying28 Bp rfl ?_;exact hd.out
end Oq
namespace Oq
attribute [local go_sem ↓] Ce Ep
attribute [local go_sem] Ag4 Ag5
theorem Rows.step13 {cards:List Cd} {l:List Pn} (h:Rows cards l) {i:Nat} {n:Pn} (hi:l[i]? =some n):An cards (l.take i) n.o=0∧Aq (l.take i) n.o=n:=by
 induction h with
 |nil=>simp at hi
 |snoc l o hl ho ih=>
  rcases Nat.lt_or_ge i l.length with hlt|hge
  ·
   rw [List.getElem?_append_left hlt] at hi;rw [List.take_append_of_le_length (Nat.le_of_lt hlt)];exact ih hi
  ·
   have e:i=l.length:=by
    have:=(List.getElem?_eq_some_iff.1 hi).1;rw [Ah2,List.length_singleton] at this;omega
   subst e;rw [List.getElem?_append_right (Ag3 _),Nat.sub_self] at hi;injection hi with hi
   subst hi;rw [List.take_left']
   · exact ⟨ho,rfl⟩
   · rfl
def Lm (cards:List Cd) (l:List Pn) (w:World) (e:Ending) (w':World):Prop:=
 ∃(g:Gph) (base:Nat),e=.returned (.pointer (some ⟨g.gb,0,none⟩))∧w.heap.size≤base∧GAt w' base g∧g.cards=cards∧g.pns=l∧Fr Non w w'
theorem I5 (base:Nat) (r:FG) (w:World) (h:r.own w base) (hcs:r.cards=Av 0 [1,2,2,3]) (hpos:0<w.heap.size) (hk:KindsAt w):
  Calls Tryz.prog 10 #[.agg r.cells] w (Lm r.cards r.l w):=by
 have hi:(Tryz.prog.info? 67).map (·.size)=some 27:=by kernel_rfl
 have aq:=h.num.few;have ar:r.cards.length=4:=by rw [hcs,Oc];rfl
 have av:=h.cards.sl.rd;rw [ar,hcs] at av;have bg:=Blk.new w 28 r.cells;have f0:Fr Non w (w.alloc (.cells r.cells 28)):=(Fr.refl Non w).alloc _;have c0:(w.alloc (.cells r.cells 28)).cell? ⟨w.heap.size,0,none⟩=some (.slice r.cA 4 r.cC):=by rw [← ar];exact bg.cell 0
 have c1:(w.alloc (.cells r.cells 28)).cell? ⟨w.heap.size,1,none⟩=some (.slice r.lA r.l.length r.lC):=bg.cell 1;have kn:=Lib.hid (fun (w':World) (hf:Fr Non w w')=>Zg w.heap.size 4 r.cC r.cA [1,2,2,3] w' rfl (by decide) (av.fr hf zr) (Ag1 hpos hf.size))
 have ka:=Lib.hid (fun (j:Nat) (nd:Pn) (hj:r.l[j]? =some nd) (b:Nat) (q:Gph) (w':World) (hb:w.heap.size≤b) (hq:GAt w' b q) (ab:q.cards=r.cards) (ad:q.pns=r.l.take j) (hf:Fr Non w w')=>show ∃x:OpL,∃b' ac:Nat,r.lA=some ⟨b',ac,none⟩∧World.rangeAt w' b' (ac+j*27) x.cells.toList∧x.cells.size=27∧
   Calls Tryz.prog 34 #[.pointer (some ⟨q.gb,0,none⟩),.agg x.cells] w' (Hw b q (r.l.take (j+1)) w') from by
  obtain ⟨x,b',ac,_,aj,a5,hA,_,hc⟩:=h.xAt hj;obtain ⟨s1,s2⟩:=h.rows.step13 hj;refine ⟨x,b',ac,hA,fun k v hv=>hf.cell (hc k (List.getElem?_eq_some_iff.1 hv).1 v hv) zq,rfl,?_⟩;rw [Co hj];exact Zh ad hq (a5.non hf).at (by rw [aj];exact (h.ok nd (Ag6 hj)).1) (hk.fr hf) (by rw [ab,aj];exact s1) (by rw [aj];exact s2))
 have af:=Lib.hid hcs;clear h hk av bg hcs ar;have ah:Hid (∀(g:Gph) (b:Nat) (w':World),w.heap.size≤b→GAt w' b g→g.cards=r.cards→g.pns=r.l→Fr Non w w'→Lm r.cards r.l w (.returned (.pointer (some ⟨g.gb,0,none⟩))) w'):=fun g b w' h1 h2 h3 h4 h5=>⟨g,b,rfl,h1,h2,h3,h4,h5⟩;obtain ⟨N,hN⟩:=Aa r.l.length;rw [hN.out] at c1 aq;generalize Lm r.cards r.l w=POST at*;generalize r.cells=CS at*;generalize r.cards=CDS at*;generalize r.lA=LA at*;generalize r.lC=LC at*;generalize r.cA=CA at*;generalize r.cC=CC at*;generalize r.l=l at*;go_enter Tryz.func10,Tryz.ntmps10;go_upto_region 1 with (fail)
 have a8:w.heap.size+1≤(w.alloc (.cells CS 28)).heap.size:=by rw [Ag2];exact Ag3 _
 generalize w.alloc (.cells CS 28)=w0 at*;go_upto_region 2 with (go_at_call 33;(with_reducible refine (kn.out _ f0).mono ?_);rintro _ w2 ⟨g,rfl,hg,ax,ay,f2⟩)
 have a3:=f0.trans f2 zr;replace c1:=f2.cell c1 zq;have a0:Hid (g.pns=l.take 0):=by show _=_;unfold Gph.pns;rw [ax];rfl
 have ae:Hid (g.cards=CDS):=ay.trans af.out.symm;obtain ⟨gb,ao⟩:=Aa g.gb;rw [ao.out];obtain ⟨b,a4⟩:=Aa w0.heap.size;rw [a4.out] at hg a8;clear kn ax ay c0 f2 f0 af a4;go_wp2_with (fail)
 go_loopw [4] (fun v wr=>∃(j:Nat) (q:Gph),v=.int .i64 (j:Int)∧j≤N∧Hid (GAt wr b q)∧Hid (q.gb=gb)∧Hid (q.cards=CDS)∧Hid (q.pns=l.take j)∧wr.cell? ⟨w.heap.size,1,none⟩=some (.slice LA N LC)∧Fr Non w wr) (fun v _=>N-(intOf v).toNat)
 case atStart=>exact ⟨0,g,rfl,Nat.zero_le _,hg,ao.out,ae.out,a0.out,c1,a3⟩
 case round=>
  clear hg ao ae a0 c1 a3;obtain ⟨j,q,rfl,hj,hq,ai,ab,ad,c1,hf⟩:=hrel
  by_cases hlt:j<N
  ·
   obtain ⟨nd,a1⟩:∃nd,l[j]? =some nd:=⟨_,Ag0 (by rw [hN.out];exact hlt)⟩;obtain ⟨x,bx,ac,rfl,a2,az,aa⟩:=ka.out j nd a1 b q wr (by omega) hq.out ab.out ad.out hf;rw [ai.out] at aa;replace aa:=Lib.hid aa;have i1:(0:Int)≤j:=by omega
   have i2:(j:Int)<N:=by omega
   have i3:(j:Int).toNat=j:=by omega
   have aw:=Vv (P:=Tryz.prog) x.cells bx (ac+j*27) Tryz.underlying67 rfl (by rw [az];exact hi);have al:=aw wr a2;clear aw az ka a1;generalize x.cells=XC at*;go_upto_region 6 with (go_at_call 34;(with_reducible refine (aa.out).mono ?_);rintro _ w5 ⟨rfl,q2,a6,au,ap,ak,F5⟩)
   have c5:=F5.cell c1 (fun e=>by have h1:b≤w.heap.size:=hq.out.ge e;omega);have a7:=hf.trans F5 (fun k hk e=>by have h1:=hq.out.ge e;omega);have e1:Hid (q2.gb=gb):=au.trans ai.out;have e2:Hid (q2.cards=CDS):=ap.trans ab.out;clear a2 al aa hq ai ab ad F5 hf c1;go_wp2_with (fail);go_roundw
   case rel=>exact ⟨j+1,q2,by go_num,by omega,a6,e1.out,e2.out,ak,c5,a7⟩
   case measure=>simp [intOf];omega
  ·
   obtain rfl:j=N:=by omega
   have ag:q.pns=l:=by rw [ad.out,List.take_of_length_le (by rw [hN.out];exact Ag3 _)]
   have hd:=Lib.hid (ah.out q b wr (by omega) hq.out ab.out ag hf);rw [ai.out] at hd;have t1:decide ((j:Int)<(j:Int))=false:=decide_eq_false (by omega);clear ah ka hq ab ad ag;go_wp2_with (fail);exact hd.out
end Oq
namespace Oq
attribute [local go_sem] Ag4 Ag5
attribute [local go_sem ↓] Fg Ga
theorem FG.own.fkOk {w:World} {base:Nat} {r:FG} (h:r.own w base):Eb r.ids:=by
 intro x hx;obtain ⟨n,hn,rfl⟩:=List.mem_map.1 hx;obtain ⟨i,hi⟩:=Ah3 hn;have h1:=(h.rows.ok i n hi).id;have h2:=h.num.sq n hn;have h3:=h.num.few;refine ⟨(h.ok n hn).2,?_,?_⟩
 · rw [h1];exact h.num.by_ n hn
 · rw [h1];exact ⟨h.num.s1 n hn,by show n.o.sq≤1000000;omega⟩
theorem Ae4:(En ([0,1,1,1,1,7]:List Int)).length=4:=by decide+kernel
theorem Ae5:Ah ((En ([0,1,1,1,1,7]:List Int)).map Pn.id)=[(2,1)]:=by decide+kernel
theorem Ae6:(As ((En ([0,1,1,1,1,7]:List Int)).map Pn.id)).map (fun x=>x.b)=[2,2]:=by decide+kernel
def Ln (w:World) (e:Ending) (w':World):Prop:=
 ∃r:FG,e=.returned (.agg r.cells)∧Fr Non w w'∧r.own w' w.heap.size∧r.cards=Av 0 [1,2,2,3]∧r.l=En ([0,1,1,1,1,7]:List Int)
theorem Ae7 (w:World):Calls Tryz.prog 41 #[] w (Ln w):=by
 have br:=(Blk.new w 28 #[.slice none 0 0,.slice none 0 0,.slice none 0 0,.slice none 0 0]).alloc (.cells #[.int .i64 0,.int .i64 1,.int .i64 1,.int .i64 1,.int .i64 1,.int .i64 7] 3);have bi:=Blk.new (w.alloc (.cells #[.slice none 0 0,.slice none 0 0,.slice none 0 0,.slice none 0 0] 28)) 3 #[.int .i64 0,.int .i64 1,.int .i64 1,.int .i64 1,.int .i64 1,.int .i64 7];rw [Ag2] at bi;have f0:Fr Non w ((w.alloc (.cells #[.slice none 0 0,.slice none 0 0,.slice none 0 0,.slice none 0 0] 28)).alloc (.cells #[.int .i64 0,.int .i64 1,.int .i64 1,.int .i64 1,.int .i64 1,.int .i64 7] 3)):=((Fr.refl Non w).alloc _).alloc _;have km:=Lib.hid (I4 ((w.alloc (.cells #[.slice none 0 0,.slice none 0 0,.slice none 0 0,.slice none 0 0] 28)).alloc (.cells #[.int .i64 0,.int .i64 1,.int .i64 1,.int .i64 1,.int .i64 1,.int .i64 7] 3)).heap.size 6 6 (some ⟨w.heap.size+1,0,none⟩) ([0,1,1,1,1,7]:List Int) ((w.alloc (.cells #[.slice none 0 0,.slice none 0 0,.slice none 0 0,.slice none 0 0] 28)).alloc (.cells #[.int .i64 0,.int .i64 1,.int .i64 1,.int .i64 1,.int .i64 1,.int .i64 7] 3)) rfl (Rd.blk (n:=6) (size:=1) bi rfl) (by decide) (by intro x hx;simp only [List.mem_cons,Af8,or_false] at hx;rcases hx with rfl|rfl|rfl|rfl|rfl|rfl<;>exact ⟨by decide,by decide⟩))
 have hfin:Hid (∀(r:FG) w',Fr Non w w'→r.own w' w.heap.size→r.cards=Av 0 [1,2,2,3]→r.l=En ([0,1,1,1,1,7]:List Int)→Ln w (.returned (.agg r.cells)) w'):=fun r w' h1 h2 h3 h4=>⟨r,rfl,h1,h2,h3,h4⟩;generalize Ln w=POST at*;clear bi;go_enter Tryz.func41,Tryz.ntmps41;go_upto_region 1 with (fail)
 go_wp2_with (go_at_call 9;(with_reducible refine (km.out).mono ?_);rintro _ w2 ⟨r,rfl,f1,ro,hcd,hrl⟩;(have br2:=br.fr f1 zq);(have hst:=Bq (P:=Tryz.prog) w.heap.size 28 (cs:=r.cells) Bp (old:=#[.slice none 0 0,.slice none 0 0,.slice none 0 0,.slice none 0 0]) rfl (Ek r)));have hz2:=br2.setRow (cs:=r.cells);have fz:=(f0.trans f1 zr).setRow (g:=w.heap.size) (fun hh=>absurd hh (by omega)) r.cells;have ownz:=(ro.lower f0.size).setG br2 r.cells;have hd:=Lib.hid (hfin.out r _ fz ownz hcd hrl)
 (try simp only [Exit.inBlock,Exit.then])
 refine Dr (t:=28) rfl rfl hz2 rfl Tryz.underlying28 Bp rfl ?_;exact hd.out
theorem Lo (w:World) (hk:KindsAt w):Calls Tryz.prog 15 #[] w (Ac true w):=by
 have ad:0<w.heap.size:=World.block_lt_of_cell? w _ (hk 0 (by decide));have ks:=Lib.hid (Ae7 w);have aj:=Lib.hid (fun (b:Nat) (r:FG) (w':World) (hf:Fr Non w w') (h:r.own w' b) (hcs:r.cards=Av 0 [1,2,2,3])=>I5 b r w' h hcs (Ag1 ad hf.size) (hk.fr hf));have ae:Hid (∀wz,Fr Non w wz→Ac true w (.returned (.bool true)) wz):=fun wz h=>⟨rfl,h⟩;generalize Ac true w=POST at*;clear hk ad;go_enter Tryz.func15,Tryz.ntmps15;go_upto_region 2 with (go_at_call 41;(with_reducible refine (ks.out).mono ?_);rintro _ w1 ⟨r,rfl,f1,ro,ax,ar⟩;(have bn:=Blk.new w1 28 #[.slice none 0 0,.slice none 0 0,.slice none 0 0,.slice none 0 0]);(have az:=Bq (P:=Tryz.prog) w1.heap.size 28 (cs:=r.cells) Bp (old:=#[.slice none 0 0,.slice none 0 0,.slice none 0 0,.slice none 0 0]) rfl (Ek r)))
 have bg:Blk ((w1.alloc (.cells #[.slice none 0 0,.slice none 0 0,.slice none 0 0,.slice none 0 0] 28)).setRow w1.heap.size r.cells) w1.heap.size 28 r.cells:=bn.setRow;have fG:Fr Non w1 ((w1.alloc (.cells #[.slice none 0 0,.slice none 0 0,.slice none 0 0,.slice none 0 0] 28)).setRow w1.heap.size r.cells):=((Fr.refl Non w1).alloc _).setRow (fun hh=>absurd hh (by omega)) _;have f2:=f1.trans fG zr;have ag:=ro.non fG;obtain ⟨gv,al⟩:=Aa w1.heap.size;rw [al.out] at bg f2 ag ⊢;clear az bn fG ro f1;generalize (w1.alloc (.cells #[.slice none 0 0,.slice none 0 0,.slice none 0 0,.slice none 0 0] 28)).setRow gv r.cells=w2 at*;have hl:=Cf (P:=Tryz.prog) gv 28 Tryz.underlying28 rfl (cs:=r.cells) Bp;go_upto_region 3 with (go_at_call 10;(with_reducible refine (aj.out _ r _ f2 ag ax).mono ?_);rintro _ w3 ⟨g,b,rfl,av,hg,au,a1,f3⟩)
 have ao:=bg.fr f3 zq;have ak:=ag.non f3;have a0:=f2.trans f3 zr;clear hg au a1 av hl bg ag f2 f3 al aj ks;have aa:Hid (r.l.length=4):=by show _=_;rw [ar];exact Ae4
 have af:Hid (r.ids=(En ([0,1,1,1,1,7]:List Int)).map Pn.id):=by show r.l.map Pn.id=_;rw [ar]
 have ab:r.ids.length=4:=by rw [FG.ids_len];exact aa.out
 have aq:Eb r.ids:=ak.fkOk;have ai:=ak.rdIds;rw [aa.out] at ai;have kF:=Lib.hid (fun (gv:Value) (v:World) (hv:Fr Non w3 v)=>Gb w3.heap.size 4 r.iC r.iA r.ids gv v ab (ai.fr hv zr) (by omega) aq);have kV:=Lib.hid (fun (gv:Value) (v:World) (hv:Fr Non w3 v)=>G5 w3.heap.size 4 r.iC r.iA r.ids gv v ab (ai.fr hv zr) (by omega) aq);rw [af.out,Ae5] at kF;rw [af.out] at kV;have ac:=Ae6;generalize As ((En ([0,1,1,1,1,7]:List Int)).map Pn.id)=VS at*;have c1:w3.cell? ⟨gv,1,none⟩=some (.slice r.lA 4 r.lC):=by have h9:=ao.cell 1;rw [show r.cells[1]? =some (.slice r.lA r.l.length r.lC) from rfl,aa.out] at h9;exact h9
 have c2:w3.cell? ⟨gv,2,none⟩=some (.slice r.iA 4 r.iC):=by have h9:=ao.cell 2;rw [show r.cells[2]? =some (.slice r.iA r.l.length r.iC) from rfl,aa.out] at h9;exact h9
 obtain ⟨v0,v1,rfl,aw,ay⟩:∃v0 v1:Id,VS=[v0,v1]∧v0.b=2∧v1.b=2:=by
  rcases VS with _|⟨v0,_|⟨v1,_|⟨v2,t⟩⟩⟩
  · cases ac
  · simp at ac
  · simp at ac;exact ⟨v0,v1,rfl,ac.1,ac.2⟩
  · simp at ac
 have ah:=Fr.refl Non w3
 go_upto_region 7 with (first
  |(go_at_call 12;(with_reducible refine (kF.out _ _ ah).mono ?_);rintro _ w4 ⟨A4,c4,rfl,o4,f4⟩;have d2:=f4.cell c2 zq)
  |(go_at_call 13;(with_reducible refine (kV.out _ _ f4).mono ?_);rintro _ w5 ⟨A5,c5,rfl,o5,f5⟩))
 have ap:Rd w4 w4.heap.size 2 A4 1 [.int .i64 2,.int .i64 1]:=o4.rd;obtain ⟨b4,q4,rfl,_,h4⟩:=ap.cells (k:=0) (by omega);have e0:=f5.cell (h4 0 (by decide) (.int .i64 2) rfl) zq;have e1:=f5.cell (h4 1 (by decide) (.int .i64 1) rfl) zq;rw [Ag7,Ag8] at e0 e1;obtain ⟨b5,q5,rfl,_,i0,_,_⟩:=Id.at o5.rd (show [v0,v1][0]? =some v0 from rfl);obtain ⟨b6,q6,e6,_,j0,_,_⟩:=Id.at o5.rd (show [v0,v1][1]? =some v1 from rfl);injection e6 with e6
 injection e6 with e7 e8
 subst e7;subst e8;rw [aw] at i0;rw [ay] at j0;rw [Ag7,Ag8] at i0;rw [Nat.one_mul] at j0;have fz:=(a0.trans f4 zr).trans f5 zr;have hd:=Lib.hid (ae.out w5 fz);change Code.wp _ _ _ _ w5;clear ae kF kV o4 ap h4 o5 fz ac;go_wp2_with (fail);exact hd.out
end Oq
end
section
open Go.RowKit Go.Maps
attribute [local go_sem ↓] Go.wp_at_zero Go.wp_at_succ
namespace Oq
attribute [local go_sem] Ag4 Ag5
attribute [local go_sem ↓] Rf
theorem Rp (p v:Value):Instr.storeAt 52 p v=stS 52 p v:=rfl
attribute [local go_sem ↓] Rp
theorem G7:(Tryz.prog.info? 52).map (·.size)=some 6:=by kernel_rfl
theorem one6 (x y:Id):(#[.int .i64 x.b,.int .i64 x.s,.int .u64 (x.u:Int),.int .i64 y.b,.int .i64 y.s,.int .u64 (y.u:Int)]:Array Value).all (·.oneCell')=true:=by simp [Value.oneCell']
def E4 (o:Option (Id × Id)):Array Value:=match o with|some (x,y)=>#[.int .i64 x.b,.int .i64 x.s,.int .u64 (x.u:Int),.int .i64 y.b,.int .i64 y.s,.int .u64 (y.u:Int)]|none=>#[.int .i64 0,.int .i64 0,.int .u64 0,.int .i64 0,.int .i64 0,.int .u64 0]
def G8 (o:Option (Id × Id)) (w:World) (e:Ending) (w':World):Prop:=e=.returned (.tuple #[.agg (E4 o),.bool o.isSome])∧Fr Non w w'
theorem Rq {ids:List Id} {d:Int} {x y:Id} {r:List Id} (h:Ez ids d=x::y::r) (hf:Am ids d≠0):Dz ids d=some (x,y):=by
 unfold Dz;rw [if_neg hf,h]
theorem Ae8 {ids:List Id} {d:Int} (hf:Am ids d=0):Dz ids d=none:=by
 unfold Dz;rw [if_pos hf]
theorem Ae9 (B n c:Nat) (A:Option Addr) (ids:List Id) (d:Int) (gv:Value) (w:World) (hn:Hid (ids.length=n)) (hr:Rd w B 3 A n (ids.flatMap Id.cells)) (hnm:n≤1000) (hok:Eb ids):
  Calls Tryz.prog 22 #[gv,.slice A n c,.int .i64 d] w (G8 (Dz ids d) w):=by
 have h0:∀x∈ids,0<x.s:=fun x hx=>by have:=(hok x hx).2.2.1;omega
 have kf:=Lib.hid (fun (w':World) (hf:Fr Non w w')=>Gb B n c A ids gv w' hn (hr.fr hf zr) hnm hok);have ko:=Lib.hid (fun (m:Int) (w':World) (hf:Fr Non w w')=>Rh B n c A ids d m m w' hn (hr.fr hf zr) hnm)
 have aa:Hid (∀(k:Nat) (f:Int × Int),(Ah ids)[k]? =some f→f.1=d→∃x y r,ofK ids d f.2 f.2=x::y::r∧Dz ids d=some (x,y)):=by
  intro k f hf e;obtain ⟨fd,fn⟩:=f;obtain ⟨_,h2,rfl⟩:=mem_forksK.1 (Ag6 hf);have e':fd=d:=e;subst e';obtain ⟨x,y,r,h1⟩:=Qq h0 (show Am ids fd≠0 by omega);exact ⟨x,y,r,by rw [← h1];exact Aa2 fd,Rq h1 (show Am ids fd≠0 by omega)⟩
 have aq:Hid ((∀(j:Nat) (f:Int × Int),j<(Ah ids).length→(Ah ids)[j]? =some f→f.1≠d)→Dz ids d=none):=by
  intro h;refine Ae8 ?_
  by_cases hd:1≤d∧d≤12
  ·
   rcases Dx h0 d with ⟨a1,_⟩|⟨a1,_⟩
   · exact a1
   ·
    have hm:(d,Am ids d)∈Ah ids:=mem_forksK.2 ⟨hd,a1,rfl⟩;obtain ⟨j,hj⟩:=Ah3 hm;exact absurd rfl (h j _ (List.getElem?_eq_some_iff.1 hj).1 hj)
  · exact Aa3 h0 (fun x hx=>(hok x hx).2.1) hd
 have ba:(Ah ids).length≤12:=by unfold Ah;exact Af9 (Ah4 _ _) (by simp)
 clear hok hr h0;unfold Iy at kf;unfold Fw at ko;generalize Dz ids d=PK at*;generalize (fun m=>ofK ids d m m)=OF at*;generalize Ah ids=fs at*;obtain ⟨M,hM⟩:=Aa fs.length;rw [hM.out] at kf aq ba;have ad:=Blk.new w 52 #[.int .i64 0,.int .i64 0,.int .u64 0,.int .i64 0,.int .i64 0,.int .u64 0];have f0:Fr Non w (w.alloc (.cells #[.int .i64 0,.int .i64 0,.int .u64 0,.int .i64 0,.int .i64 0,.int .u64 0] 52)):=(Fr.refl Non w).alloc _;go_enter Tryz.func22,Tryz.ntmps22;go_upto_region 1 with (fail)
 generalize w.alloc (.cells #[.int .i64 0,.int .i64 0,.int .u64 0,.int .i64 0,.int .i64 0,.int .u64 0] 52)=w0 at*;have a7:=Lib.hid (kf.out w0 f0);clear kf;go_wp2_with (go_at_call 12;(with_reducible refine (a7.out).mono ?_);rintro _ w1 ⟨A1,c1,rfl,bc,f1⟩);have a2:=f0.trans f1 zr;have ae:=ad.fr f1 zq;clear ad a7
 go_loopw [7,15] (fun q v wr=>∃k:Nat,q=.bool false∧v=.int .i64 (k:Int)∧k≤M∧Hid (∀(j:Nat) (f:Int × Int),j<k→fs[j]? =some f→f.1≠d)∧Fr Non w1 wr) (fun _ v _=>M-(intOf v).toNat)
 case atStart=>exact ⟨0,rfl,rfl,Nat.zero_le _,fun j f hj _=>absurd hj (Nat.not_lt_zero j),Fr.refl _ _⟩
 case round=>
  obtain ⟨k,rfl,rfl,hk,ap,hf⟩:=hrel
  by_cases hlt:k<M
  ·
   obtain ⟨f,av⟩:∃f,fs[k]? =some f:=⟨_,Ag0 (by rw [hM.out];exact hlt)⟩;obtain ⟨b4,o4,bg,_,ay⟩:=Dg (f:=Cz) (fun _=>rfl) (by omega) (n:=M) ((bc.fr hf zr).rd) av;subst bg;have c0:wr.cell? ⟨b4,o4+k*2,none⟩=some (.int .i64 f.1):=ay 0 (by decide) _ rfl;have bf:wr.cell? ⟨b4,o4+k*2+1,none⟩=some (.int .i64 f.2):=ay 1 (by decide) _ rfl;have i1:(0:Int)≤k:=by omega
   have i2:(k:Int)<M:=by omega
   have i3:(k:Int).toNat=k:=by omega
   have aw:=Bq (P:=Tryz.prog) wr.heap.size 36 (cs:=#[.int .i64 f.1,.int .i64 f.2]) Lh (old:=#[.int .i64 0,.int .i64 0]) rfl (Li _ _);have bn:=Blk.new wr 36 #[.int .i64 0,.int .i64 0];have a4:=aa.out k f av;have ak:=Lib.hid av;clear av ay;go_upto_region 4 with (fail)
   have bz:=bn.setRow (cs:=#[.int .i64 f.1,.int .i64 f.2]);have fz:Fr Non wr ((wr.alloc (.cells #[.int .i64 0,.int .i64 0] 36)).setRow wr.heap.size #[.int .i64 f.1,.int .i64 f.2]):=((Fr.refl Non wr).alloc _).setRow (fun hh=>absurd hh (by omega)) _;obtain ⟨gi,bb⟩:=Aa wr.heap.size;rw [bb.out] at bz fz ⊢;clear aw bn c0 bf;generalize (wr.alloc (.cells #[.int .i64 0,.int .i64 0] 36)).setRow gi #[.int .i64 f.1,.int .i64 f.2]=w2 at*;have au:=hf.trans fz zr;have d0:=bz.cell 0;have d1:=bz.cell 1;clear bz
   by_cases he:f.1=d
   ·
    obtain ⟨x,y,r,a9,az⟩:=a4 he;subst az;have t1:(f.1==d)=true:=beq_iff_eq.2 he;have a3:=Lib.hid (ko.out f.2 w2 (a2.trans au zr));rw [a9] at a3;have ac:=ae.fr au zq;clear ko aa aq ap ak a9 he hM;go_upto_region 6 with (go_at_call 39;(with_reducible refine (a3.out).mono ?_);rintro _ w3 ⟨A3,c3,rfl,a6,f3⟩)
    have ab:=ac.fr f3 zq;have ax:=(a2.trans au zr).trans f3 zr;clear ac;obtain ⟨bx,ox,a8,_,p0,p1,p2⟩:=Id.at (a6).rd (k:=0) (o:=x) rfl;obtain ⟨bi,oy,ar,_,r0,r1,r2⟩:=Id.at (a6).rd (k:=1) (o:=y) rfl;rw [a8] at ar;injection ar with ar
    injection ar with e1 e2
    subst e1 e2;subst a8;have n1:(0:Int)<((r.length+2:Nat):Int):=by omega
    have n2:(1:Int)<((r.length+2:Nat):Int):=by omega
    have n3:0<r.length+2:=by omega
    have n4:1<r.length+2:=by omega
    have a5:(x::y::r).length=r.length+2:=rfl;have bh:=Bq (P:=Tryz.prog) w.heap.size 52 (cs:=#[.int .i64 x.b,.int .i64 x.s,.int .u64 (x.u:Int),.int .i64 y.b,.int .i64 y.s,.int .u64 (y.u:Int)]) G7 (old:=#[.int .i64 0,.int .i64 0,.int .u64 0,.int .i64 0,.int .i64 0,.int .u64 0]) rfl (one6 x y)
    have ao:Hid (∀wz,Fr (One w.heap.size) w3 wz→G8 (some (x,y)) w (.returned (.tuple #[.agg #[.int .i64 x.b,.int .i64 x.s,.int .u64 (x.u:Int),.int .i64 y.b,.int .i64 y.s,.int .u64 (y.u:Int)],.bool true])) wz):=by
     intro wz hz;exact ⟨rfl,(ax).trans hz (fun k hk e=>absurd hk (by have e':k=w.heap.size:=e;omega))⟩
    obtain ⟨RL,be⟩:=Aa (r.length+2);try rw [a5]
    rw [be.out] at n1 n2 n3 n4 ⊢;clear a5;go_upto_region 6 with (fail)
    have af:w3.drew.cell? ⟨bx,ox,none⟩=some (.int .i64 x.b):=by simpa using p0
    have ai:w3.drew.cell? ⟨bx,ox+1,none⟩=some (.int .i64 x.s):=by simpa using p1
    have al:w3.drew.cell? ⟨bx,ox+2,none⟩=some (.int .u64 (x.u:Int)):=by simpa using p2
    have ah:w3.drew.cell? ⟨bx,ox+3,none⟩=some (.int .i64 y.b):=by simpa using r0
    have aj:w3.drew.cell? ⟨bx,ox+3+1,none⟩=some (.int .i64 y.s):=by simpa using r1
    have ag:w3.drew.cell? ⟨bx,ox+3+2,none⟩=some (.int .u64 (y.u:Int)):=by simpa using r2
    have F0:Fr Non w3 w3.drew:=(Fr.refl Non w3).drew;refine Cw (S:=fun w'=>w'.cell? ⟨bx,ox,none⟩=some (.int .i64 x.b)∧w'.cell? ⟨bx,ox+1,none⟩=some (.int .i64 x.s)∧w'.cell? ⟨bx,ox+2,none⟩=some (.int .u64 (x.u:Int))∧w'.cell? ⟨bx,ox+3,none⟩=some (.int .i64 y.b)∧w'.cell? ⟨bx,ox+3+1,none⟩=some (.int .i64 y.s)∧w'.cell? ⟨bx,ox+3+2,none⟩=some (.int .u64 (y.u:Int))) 7 (by kernel_rfl) ?_;refine tkG 0 ⟨af,ai,al,ah,aj,ag⟩ (h:=tkG 1 ⟨af,ai,al,ah,aj,ag⟩ (h:=tkG 2 ⟨af,ai,al,ah,aj,ag⟩ (h:=tkG 3 ⟨af,ai,al,ah,aj,ag⟩ (h:=tkG 4 ⟨af,ai,al,ah,aj,ag⟩ (h:=tkG 5 ⟨af,ai,al,ah,aj,ag⟩ (h:=tkG 6 ⟨af,ai,al,ah,aj,ag⟩ (h:=?_)))))));simp only [List.set];refine Cr (by kernel_rfl) ?_;refine oG 7 (fun K hK=> ?_);have bj:=ab.drew;go_simp;have bz:=ab.drew.setRow (cs:=#[.int .i64 x.b,.int .i64 x.s,.int .u64 (x.u:Int),.int .i64 y.b,.int .i64 y.s,.int .u64 (y.u:Int)]);have fz:Fr (One w.heap.size) w3 (w3.drew.setRow w.heap.size #[.int .i64 x.b,.int .i64 x.s,.int .u64 (x.u:Int),.int .i64 y.b,.int .i64 y.s,.int .u64 (y.u:Int)]):=((Fr.refl (One w.heap.size) w3).drew).setRow (fun _=>rfl) _;refine hK.out _ _ trivial (fun hZ=> ?_);clear hZ hK K;try simp only [Ag,List.set]
    refine tkH 8 trivial (h:=?_);simp only [List.set];refine oD ?_;go_simp;go_wp2_with (fail)
    (try simp only [Exit.inBlock,Exit.then])
    refine Hl (t:=52) rfl rfl bz rfl Tryz.underlying52 G7 rfl ?_;exact ao.out _ fz
   ·
    have t1:(f.1==d)=false:=beq_eq_false_iff_ne.2 he
    have a0:Hid (∀(j:Nat) (f:Int × Int),j<k+1→fs[j]? =some f→f.1≠d):=by
     intro j g hj hg
     rcases Nat.lt_or_ge j k with h1|h1
     · exact ap.out j g h1 hg
     ·
      obtain rfl:j=k:=by omega
      rw [ak.out] at hg;injection hg with hg
      rw [← hg];exact he
    clear ko aa aq ap ak a4 he hM;go_wp2_with (fail);go_roundw
    case rel=>exact ⟨k+1,rfl,by go_num,by omega,a0,au⟩
    case measure=>simp [intOf];omega
  ·
   obtain rfl:k=M:=by omega
   have az:=aq.out ap.out;subst az;have t0:decide ((k:Int)<(k:Int))=false:=decide_eq_false (by omega);have ab:=ae.fr hf zq;have bd:=a2.trans hf zr;clear ko aa aq ap hM;have bh:=Bq (P:=Tryz.prog) w.heap.size 52 (cs:=#[.int .i64 0,.int .i64 0,.int .u64 0,.int .i64 0,.int .i64 0,.int .u64 0]) G7 (old:=#[.int .i64 0,.int .i64 0,.int .u64 0,.int .i64 0,.int .i64 0,.int .u64 0]) rfl (by simp [Value.oneCell']);have bz:=ab.setRow (cs:=#[.int .i64 0,.int .i64 0,.int .u64 0,.int .i64 0,.int .i64 0,.int .u64 0]);have fz:Fr (One w.heap.size) wr (wr.setRow w.heap.size #[.int .i64 0,.int .i64 0,.int .u64 0,.int .i64 0,.int .i64 0,.int .u64 0]):=(Fr.refl (One w.heap.size) wr).setRow (fun _=>rfl) _;have ao:G8 none w (.returned (.tuple #[.agg #[.int .i64 0,.int .i64 0,.int .u64 0,.int .i64 0,.int .i64 0,.int .u64 0],.bool false])) (wr.setRow w.heap.size #[.int .i64 0,.int .i64 0,.int .u64 0,.int .i64 0,.int .i64 0,.int .u64 0]):=⟨rfl,(bd).trans fz (fun k hk e=>absurd hk (by have e':k=w.heap.size:=e;omega))⟩;replace ao:=Lib.hid ao;generalize G8 none w=POST at*;go_wp2_with (fail)
   (try simp only [Exit.inBlock,Exit.then])
   refine Hl (t:=52) rfl rfl bz rfl Tryz.underlying52 G7 rfl ?_;exact ao.out
end Oq
end
section
open Go.RowKit
namespace Oq
structure Dp (l:List Pn) (ids ns:List Id):Prop where
 nodup:ns.Nodup
 sub:∀x∈ns,x∈ids
 ok:Eb ns
 okA:Eb ids
 nodupA:ids.Nodup
 len:ns.length≤14
 lenA:ids.length≤14
 some:ns≠[]
theorem Lp {cards:List Cd} {l:List Pn} (h:Rows cards l):(l.map Pn.id).Nodup:=by
 rw [List.Nodup,List.pairwise_iff_getElem];intro i j hi hj hij e;rw [Ah5,Ah5] at e;rw [List.length_map] at hi hj;have k1:=(h.ok i _ (Ag0 hi)).plc;have k2:=(h.ok j _ (Ag0 hj)).plc;rw [e,k2] at k1;injection k1 with k1
 omega
theorem Rr {w:World} {base:Nat} {r:FG} (h:r.own w base) {on ys:List Nat} {ns:List Id} (hb:Ej r.l on ys) (hy:∀q∈ys,q<r.l.length) (hne:on≠[]) (hp:ns.Perm (ys.map (nmP r.l))):Dp r.l r.ids ns:=by
 have hat:∀q∈ys,∃n,r.l[q]? =some n∧nmP r.l q=n.id:=fun q hq=>⟨_,Ag0 (hy q hq),Dw (Ag0 (hy q hq))⟩
 have hsub:∀x∈ns,x∈r.ids:=fun x hx=>by
  obtain ⟨q,hq,rfl⟩:=List.mem_map.1 (hp.mem_iff.1 hx);obtain ⟨n,h1,h2⟩:=hat q hq;rw [h2];exact List.mem_map.2 ⟨n,Ag6 h1,rfl⟩
 have hnd:(ys.map (nmP r.l)).Nodup:=by
  rw [List.Nodup,List.pairwise_map];refine hb.1.imp_of_mem (fun {p q} hp hq hpq e=>hpq ?_);obtain ⟨n,hn,e1⟩:=hat p hp;obtain ⟨m,hm,e2⟩:=hat q hq;have k1:=(h.rows.ok p n hn).plc;have k2:=(h.rows.ok q m hm).plc;rw [← e1,e,e2,k2] at k1;injection k1 with k1
  exact k1.symm
 have hlA:r.ids.length≤14:=by rw [FG.ids_len];exact h.num.few
 have hndn:ns.Nodup:=hp.nodup_iff.2 hnd;refine ⟨hndn,hsub,fun x hx=>h.fkOk x (hsub x hx),h.fkOk,Lp h.rows,Af9 (Ei hndn hsub) hlA,hlA,?_⟩;intro e;rw [e] at hp;have h1:=hp.length_eq;rw [List.length_map] at h1;obtain ⟨p,hp2⟩:=List.exists_mem_of_ne_nil on hne;have:=List.length_pos_of_mem ((hb.2 p).2 (.inl hp2));simp at h1;omega
theorem Dp.pos {l:List Pn} {ids ns:List Id} (h:Dp l ids ns):∀x∈ns,0<x.s:=fun x hx=>by have:=(h.ok x hx).2.2.1;omega
theorem Dp.posA {l:List Pn} {ids ns:List Id} (h:Dp l ids ns):∀x∈ids,0<x.s:=fun x hx=>by have:=(h.okA x hx).2.2.1;omega
theorem Dp.many {l:List Pn} {ids ns:List Id} (h:Dp l ids ns) (d s:Int):Ai ns d s≤Ai ids d s:=by
 unfold Ai
 exact Ei (h.nodup.filter _) (fun x hx=>by
  rw [List.mem_filter] at hx ⊢;exact ⟨h.sub x hx.1,hx.2⟩)
theorem Dp.forks {l:List Pn} {ids ns:List Id} (h:Dp l ids ns) {d n:Int} (hf:(d,n)∈Ah ns):∃m:Int,(d,m)∈Ah ids∧m≤n:=by
 obtain ⟨h1,h2,h3⟩:=mem_forksK.1 hf;rw [h3] at h2;obtain ⟨h4,h5⟩:=Qo h.many h.pos h.posA h.sub h2;exact ⟨_,mem_forksK.2 ⟨h1,h4,rfl⟩,by rw [h3];exact h5⟩
theorem Rs (ids:List Id) (x:Id):Cs ids x=true↔0<Am ids x.b∧Am ids x.b≤x.s:=by
 unfold Cs;rw [Ah1,decide_eq_true_iff,decide_eq_true_iff]
theorem mem_voidN {ids:List Id} {x:Id}:x∈As ids↔x∈ids∧0<Am ids x.b∧Am ids x.b≤x.s:=by
 unfold As;rw [(Cg _).mem_iff,List.mem_filter,Rs]
theorem Dp.void {l:List Pn} {ids ns:List Id} (h:Dp l ids ns) {x:Id} (hx:x∈As ns):x∈As ids:=by
 obtain ⟨h1,h2,h3⟩:=mem_voidN.1 hx;obtain ⟨h4,h5⟩:=Qo h.many h.pos h.posA h.sub h2;exact mem_voidN.2 ⟨h.sub x h1,h4,Int.le_trans h5 h3⟩
theorem I6 (ids:List Id):(As ids).length≤ids.length:=by
 unfold As;rw [(Cg _).length_eq];exact List.length_filter_le _ _
theorem Lq (ids:List Id):(Ah ids).length≤12:=by
 unfold Ah;exact Af9 (Ah4 _ _) (by rw [List.length_range];exact Ag3 _)
theorem Af0 {ids:List Id} (hnd:ids.Nodup):∀k x y,(As ids)[k]? =some x→(As ids)[k+1]? =some y→Id.less x y=true:=by
 intro k x y hx hy;have hnv:(ids.filter (Cs ids)).Nodup:=hnd.filter _;have hrow:=M9 hnv;have h1:=(List.getElem?_eq_some_iff.1 hx);have h2:=(List.getElem?_eq_some_iff.1 hy);obtain ⟨h1,rfl⟩:=h1;obtain ⟨h2,rfl⟩:=h2;exact List.pairwise_iff_getElem.1 hrow k (k+1) h1 h2 (by omega)
theorem Rt (o:Option (Id × Id)):(E4 o).size=6:=by rcases o with _|⟨x,y⟩<;>rfl
theorem Af1 (o:Option (Id × Id)):(E4 o).all (·.oneCell')=true:=by rcases o with _|⟨x,y⟩<;>simp [E4,Value.oneCell']
end Oq
end
end Go.Proofs.YtkanjaikgphjfaaGreatDoor
