/-
  Contracts of the functions that the claim's statement reaches, walked one by one (part 17).
  Conditions: as each theorem says.
-/
import Derived.Test.YtgbdljlapmjmnaaGreatDoorRlA16
set_option maxRecDepth 100000
set_option maxHeartbeats 16000000
open Bool renaming not_false->Ao7,not_true->Ao8
open Int renaming tmod_eq_emod_of_nonneg->Ap1,toNat_of_nonneg->Ap2,tdiv_eq_ediv_of_nonneg->Ap7
open List renaming not_mem_nil->Ao2,mem_of_getElem?->Ap0,map_append->Ap3,length_append->Ap4,getElem?_eq_getElem->Ap5,length_map->Ap6,getElem?_map->Ap8,mem_append_left->Ap9
open Nat renaming le_refl->Ao3,mod_lt->Ao5,le_trans->Ao6,lt_of_lt_of_le->Ao9
open Go.World renaming size_alloc->Ao4
open Go.Proofs.Tryz
open Go.Proofs.Tryz renaming prog->zp
open Go.Lib renaming hid->lh
open List renaming set->zl
open Go.Ending renaming returned->ze
namespace Go.Proofs.YtgbdljlapmjmnaaGreatDoor
section
open Go.RowKit
attribute [local go_sem ↓] Go.wp_at_zero Go.wp_at_succ
namespace Oq
attribute [local go_sem] Ao7 Ao8
attribute [local go_sem ↓] Gm Bi Jt Dl
def fg0 (A:Option Addr) (c:Nat) (cs:List Cd):FG:=⟨A,c,cs,none,0,[],none,0,none,0,[],[]⟩
theorem An0 {A:Option Addr} {c:Nat} {cs:List Cd} {w:World} {base:Nat} (h:RowAt w base 96 5 A cs.length c (cs.flatMap Cd.cells)) (hf:cs.length<=1000) (hk:∀c∈cs,c.s<18446744073709551616):(fg0 A c cs).own w base where
 cards:=h
 ops:=RowAt.nil _ _ _ _
 each _ hx:=absurd hx Ao2
 same:=rfl
 ok _ hx:=absurd hx Ao2
 ids:=RowAt.nil _ _ _ _
 pasts:=RowAt.nil _ _ _ _
 eachP _ hx:=absurd hx Ao2
 lenP:=rfl
 sameP _ _ _ hx _:=by cases hx
 rows:=Rows.nil
 num:=⟨fun _ hn=>absurd hn Ao2,fun _ hn=>absurd hn Ao2,fun _ hn=>absurd hn Ao2,fun _ hn=>absurd hn Ao2,by show 0<=14;decide⟩
 cfew:=hf
 cok:=hk
theorem An1:∀c∈An 0 [1,2,2,3],c.s<18446744073709551616:=fun c hc=>by
 obtain ⟨xs,h1,_,_,h4⟩:=Lx [1,2,2,3] 0 (by decide);rw [<- h1] at hc;obtain ⟨x,hx,rfl⟩:=List.mem_map.1 hc;exact h4 x hx
def Hv (l0:List Int) (w:World) (e:Ending) (w':World):Prop:=
 ∃r:FG,e=.returned (.agg r.cells)/\Fr Non w w'/\r.own w' w.heap.size/\r.cards=An 0 [1,2,2,3]/\r.l=Jx l0
def An2:OpL:={OpL.zero with by_:=1,sq:=1,kind:=1}
theorem Mt:OpL.zero.op.ok:=by
 have z:I64 0:=⟨by decide,by decide⟩;have u:U64 0:=by unfold U64;decide
 have e:∀{α:Type} {P:α->Prop},(([]:List α).length<=1000/\∀x∈([]:List α),P x):=⟨by simp,fun _ h=>absurd h Ao2⟩;exact {by_:=z,sq:=z,kind:=z,at_:=z,past:=e,dev:=z,old:=z,mem:=z,role:=z,path:=e,epoch:=⟨z,z,u⟩,n:=z,body:=by decide,refs:=e,of:=⟨z,z,u⟩,guards:=e,need:=z,wait:=z,boxes:=e,pub:=u,hist:=e,r:=u,s:=u}
theorem Fq {w:World} {base:Nat} {x y:OpL} (h:x.lies w base) (h1:y.pastA=x.pastA/\y.pastC=x.pastC/\y.past=x.past) (h2:y.pathA=x.pathA/\y.pathC=x.pathC/\y.path=x.path) (h3:y.bodyA=x.bodyA/\y.bodyC=x.bodyC/\y.body=x.body) (h4:y.refsA=x.refsA/\y.refsC=x.refsC/\y.refs=x.refs) (h5:y.guardsA=x.guardsA/\y.guardsC=x.guardsC/\y.guards=x.guards) (h6:y.boxesA=x.boxesA/\y.boxesC=x.boxesC/\y.boxes=x.boxes) (h7:y.histA=x.histA/\y.histC=x.histC/\y.hist=x.hist):y.lies w base:=by
 obtain ⟨a1,a2,a3⟩:=h1;obtain ⟨b1,b2,b3⟩:=h2;obtain ⟨c1,c2,c3⟩:=h3;obtain ⟨d1,d2,d3⟩:=h4;obtain ⟨e1,e2,e3⟩:=h5;obtain ⟨f1,f2,f3⟩:=h6;obtain ⟨g1,g2,g3⟩:=h7;exact ⟨by rw [a1,a2,a3];exact h.past,by rw [b1,b2,b3];exact h.path,by rw [b3];exact h.nodes,by rw [c1,c2,c3];exact h.body,by rw [d1,d2,d3];exact h.refs,by rw [e1,e2,e3];exact h.guards,by rw [f1,f2,f3];exact h.boxes,by rw [g1,g2,g3];exact h.hist,by rw [g3];exact h.seals⟩
structure Dr (w7 v:World) (base go:Nat) (x:OpL) (A:Option Addr) (n c:Nat) (on:List Nat):Prop where
 b:Blk v go 55 x.cells
 f:Fr Non w7 v
 l:x.lies v base
 os:Own v (go+1) 3 1 A n c (on.map Qv)
 len:on.length=n
 gd:x.guardsA=none/\x.guardsC=0/\x.guards=[]
 gs:w7.heap.size<=go
 sz:go<v.heap.size
theorem Dr.non {w7 v v':World} {base go:Nat} {x:OpL} {A:Option Addr} {n c:Nat} {on:List Nat} (s:Dr w7 v base go x A n c on) (hf:Fr Non v v'):Dr w7 v' base go x A n c on:=
 ⟨s.b.fr hf zq,s.f.trans hf zr,s.l.non hf,s.os.fr hf zr,s.len,s.gd,s.gs,Ao9 s.sz hf.size⟩
theorem Dr.app {w7 v v':World} {base go:Nat} {x:OpL} {A A':Option Addr} {n c n' c':Nat} {on on':List Nat} (s:Dr w7 v base go x A n c on) (hf:Fr (fun k=>Ab A=some k) v v') (ho:Own v' (go+1) 3 1 A' n' c' (on'.map Qv)) (hl:on'.length=n'):Dr w7 v' base go x A' n' c' on':=
 ⟨s.b.fr hf (fun e=>by have:=(s.os.row _ e).1;omega),s.f.trans hf (fun k hk e=>by have:=(s.os.row k e).1;have:=s.gs;omega),⟨s.l.past.keepT hf ((Types.row s.os).not (by decide)),s.l.path.keepT hf ((Types.row s.os).not (by decide)),fun y hy=>(s.l.nodes y hy).keepT hf ((Types.row s.os).not (by decide)),s.l.body.keepT hf ((Types.row s.os).not (by decide)),s.l.refs.keepT hf ((Types.row s.os).not (by decide)),by (obtain ⟨h1,h2,h3⟩:=s.gd;rw [h1,h2,h3];exact ⟨SlAt.nil _ _ _,.inl rfl⟩),s.l.boxes.keepT hf ((Types.row s.os).not (by decide)),s.l.hist.keepT hf ((Types.row s.os).not (by decide)),fun y hy=>(s.l.seals y hy).keepT hf ((Types.row s.os).not (by decide))⟩,ho,hl,s.gd,s.gs,Ao9 s.sz hf.size⟩
theorem Dr.setB {w7 v:World} {base go:Nat} {x:OpL} {A:Option Addr} {n c:Nat} {on:List Nat} (s:Dr w7 v base go x A n c on) (j:Nat) (u:Value) (y:OpL) (hc:x.cells.setIfInBounds j u=y.cells) (hg:y.guardsA=none/\y.guardsC=0/\y.guards=[]) (hy:∀v',x.lies v' base->(∀(t:TypeId) (size n c:Nat) (A:Option Addr) (xs:List Value),t≠55->RowLies v base t size A n c xs->RowLies v' base t size A n c xs)->y.lies v' base):Dr w7 (v.setCell ⟨go,j,none⟩ u) base go y A n c on where
 b:=hc▸s.b.set j u
 f:=s.f.setNew (g:=go) (by have:=s.gs;omega) j u
 l:=hy _ (s.l.keepP ((Fr.refl (One go) v).setOne j u) (Types.one s.b) (by decide) (by decide) (by decide) (by decide) (by decide) (by decide) (by decide)) (fun _ _ _ _ _ _ ht h=>h.keepT ((Fr.refl (One go) v).setOne j u) ((Types.one s.b).not ht))
 os:=Own.setFar s.os s.b (by decide) u
 len:=s.len
 gd:=hg
 gs:=s.gs
 sz:=by have:=s.sz;first|exact this|(simp [World.setCell];omega)
theorem S1 (B n c:Nat) (A:Option Addr) (l0:List Int) (w:World) (hn:Hid (l0.length=n)) (hr:Rd w B 1 A n (l0.map Iv)) (hnm:n<=9223372036854775807) (hok:∀x∈l0,I64 x):
  Calls zp 10 #[.slice A n c] w (Hv l0 w):=by
 have kc:=lh (fun (w':World) (hr:Rd w' w'.heap.size 1 (some ⟨w.heap.size+1,0,none⟩) 4 (([1,2,2,3]:List Int).map Iv))=>Yb 4 4 (some ⟨w.heap.size+1,0,none⟩) [1,2,2,3] w' rfl (by decide) hr);have br:=(Blk.new w 28 #[.slice none 0 0,.slice none 0 0,.slice none 0 0,.slice none 0 0]).alloc (.cells #[.int .i64 1,.int .i64 2,.int .i64 2,.int .i64 3] 3);have bi:=Blk.new (w.alloc (.cells #[.slice none 0 0,.slice none 0 0,.slice none 0 0,.slice none 0 0] 28)) 3 #[.int .i64 1,.int .i64 2,.int .i64 2,.int .i64 3];rw [Ao4] at bi;have f0:Fr Non w ((w.alloc (.cells #[.slice none 0 0,.slice none 0 0,.slice none 0 0,.slice none 0 0] 28)).alloc (.cells #[.int .i64 1,.int .i64 2,.int .i64 2,.int .i64 3] 3)):=((Fr.refl Non w).alloc _).alloc _;go_enter func10,ntmps10;go_upto_region 1 with (fail)
 generalize hw0:(w.alloc (.cells #[.slice none 0 0,.slice none 0 0,.slice none 0 0,.slice none 0 0] 28)).alloc (.cells #[.int .i64 1,.int .i64 2,.int .i64 2,.int .i64 3] 3)=w0 at*;unfold Pp at kc
 have dz:Rd w0 w0.heap.size 1 (some ⟨w.heap.size+1,0,none⟩) 4 (([1,2,2,3]:List Int).map Iv):=by
  rw [<- hw0] at bi ⊢;exact Rd.blk (n:=4) (size:=1) bi rfl
 go_upto_region 2 with (go_at_call 44;(with_reducible refine (kc.out _ dz).mono ?_);rintro _ w1 ⟨A1,c1,rfl,o1,f1⟩;have di:=f0.trans f1 zr;have bv:=br.fr f1 zq;have bn:=Blk.new w1 28 #[.slice none 0 0,.slice none 0 0,.slice none 0 0,.slice none 0 0];have ay:=Cm (P:=zp) w1.heap.size 28 (cs:=#[.slice A1 4 c1,.slice none 0 0,.slice none 0 0,.slice none 0 0]) Cu (old:=#[.slice none 0 0,.slice none 0 0,.slice none 0 0,.slice none 0 0]) rfl (by simp [Value.oneCell']))
 have cl:=(bv.alloc (.cells #[.slice none 0 0,.slice none 0 0,.slice none 0 0,.slice none 0 0] 28)).setRow_far (g':=w1.heap.size) (by have:=bv.lt;omega) (cs:=#[.slice A1 4 c1,.slice none 0 0,.slice none 0 0,.slice none 0 0]);have b2:Blk ((w1.alloc (.cells #[.slice none 0 0,.slice none 0 0,.slice none 0 0,.slice none 0 0] 28)).setRow w1.heap.size #[.slice A1 4 c1,.slice none 0 0,.slice none 0 0,.slice none 0 0]) w1.heap.size 28 (fg0 A1 c1 (An 0 [1,2,2,3])).cells:=bn.setRow (cs:=#[.slice A1 4 c1,.slice none 0 0,.slice none 0 0,.slice none 0 0]);have fG:Fr Non w1 ((w1.alloc (.cells #[.slice none 0 0,.slice none 0 0,.slice none 0 0,.slice none 0 0] 28)).setRow w1.heap.size #[.slice A1 4 c1,.slice none 0 0,.slice none 0 0,.slice none 0 0]):=((Fr.refl Non w1).alloc _).setRow (fun hh=>absurd hh (by omega)) _;have ee:w.heap.size<w1.heap.size:=bv.lt;have er:w.heap.size<=w0.heap.size:=f0.size;have f3:=di.trans fG zr;have ap:(fg0 A1 c1 (An 0 [1,2,2,3])).own ((w1.alloc (.cells #[.slice none 0 0,.slice none 0 0,.slice none 0 0,.slice none 0 0] 28)).setRow w1.heap.size #[.slice A1 4 c1,.slice none 0 0,.slice none 0 0,.slice none 0 0]) w.heap.size:=An0 ((RowAt.of_own (o1.fr fG zr)).lower (by omega)) (by decide) An1;have bt:w1.heap.size<((w1.alloc (.cells #[.slice none 0 0,.slice none 0 0,.slice none 0 0,.slice none 0 0] 28)).setRow w1.heap.size #[.slice A1 4 c1,.slice none 0 0,.slice none 0 0,.slice none 0 0]).heap.size:=b2.lt;clear ay bn bv br o1 fG di dz f1;obtain ⟨gv,dr⟩:=Aa w1.heap.size;rw [dr.out] at b2 ap cl f3 ee bt ⊢;generalize (w1.alloc (.cells #[.slice none 0 0,.slice none 0 0,.slice none 0 0,.slice none 0 0] 28)).setRow gv #[.slice A1 4 c1,.slice none 0 0,.slice none 0 0,.slice none 0 0]=w3 at*;have au:(fg0 A1 c1 (An 0 [1,2,2,3])).cards=An 0 [1,2,2,3]:=rfl;have cq:(fg0 A1 c1 (An 0 [1,2,2,3])).l=[]:=rfl;generalize fg0 A1 c1 (An 0 [1,2,2,3])=r0 at*;clear bi kc hw0 f0 er dr w1 w0;have d3:=OpL.zero_own w3 w.heap.size;have kp:=Su w.heap.size w3.heap.size 0 0 none r0 An2 [] w3 ap (Fq d3.lies ⟨rfl,rfl,rfl⟩ ⟨rfl,rfl,rfl⟩ ⟨rfl,rfl,rfl⟩ ⟨rfl,rfl,rfl⟩ ⟨rfl,rfl,rfl⟩ ⟨rfl,rfl,rfl⟩ ⟨rfl,rfl,rfl⟩) f3.size {Mt with by_:=(show I64 1 from ⟨by decide,by decide⟩),sq:=(show I64 1 from ⟨by decide,by decide⟩),kind:=(show I64 1 from ⟨by decide,by decide⟩)} ⟨rfl,rfl,rfl⟩ ⟨1,rfl,by omega⟩ ⟨by decide,by decide⟩ rfl (Rd.nil _ _ _ _) (by omega) (fun _ h=>absurd h Ao2) (by rw [cq];exact Am8 au);replace kp:Hid (Calls zp 45 #[.agg r0.cells,.agg #[.int .i64 1,.int .i64 1,.int .i64 1,.int .i64 0,.slice none 0 0,.int .i64 0,.int .i64 0,.int .i64 0,.int .i64 0,.slice none 0 0,.int .i64 0,.int .i64 0,.int .u64 0,.int .i64 0,.slice none 0 0,.slice none 0 0,.int .i64 0,.int .i64 0,.int .u64 0,.slice none 0 0,.int .i64 0,.int .i64 0,.slice none 0 0,.int .u64 0,.slice none 0 0,.int .u64 0,.int .u64 0],.slice none 0 0] w3 (Fo w.heap.size r0 (El 1) [] w3)):=kp;have hl:=Ce (P:=zp) gv 28 underlying28 rfl (cs:=r0.cells) Cu;clear d3;go_upto_region 3 with (go_at_call 45;(with_reducible refine (kp.out).mono ?_);rintro _ w4 ⟨r1,rfl,f4,bj,av,bp⟩;(have cd:=b2.fr f4 zq);(have ay:=Cm (P:=zp) gv 28 (cs:=r1.cells) Cu (old:=r0.cells) rfl (Gn r1)))
 have a6:=bj.setG cd r1.cells;have dv:Blk (w4.setRow gv r1.cells) gv 28 r1.cells:=cd.setRow;have dh:=(cl.fr f4 zq).setRow_far (g':=gv) (by omega) (cs:=r1.cells);have f5:=(f3.trans f4 zr).setRow (g:=gv) (fun hh=>absurd hh (by omega)) r1.cells;rw [au] at av;rw [cq] at bp;replace bp:r1.l=Ex l0 0:=bp;clear ay hl kp ap b2 cl f3 bt au cq f4 bj cd;generalize w4.setRow gv r1.cells=w5 at*;go_wp2_with fail
 go_loopw [4] (fun v wr=>∃(j I:Nat) (r:FG),Hid (I=2*j)/\v=.int .i64 (I:Int)/\j<=13/\j<=n/2/\Blk wr gv 28 r.cells/\r.own wr w.heap.size/\r.cards=An 0 [1,2,2,3]/\Hid (r.l=Ex l0 j)/\Blk wr w.heap.size 28 #[.slice none 0 0,.slice none 0 0,.slice none 0 0,.slice none 0 0]/\Fr Non w wr) (fun v _=>26-(intOf v).toNat)
 case atStart=>exact ⟨0,0,r1,rfl,rfl,by omega,by omega,dv,a6,av,bp,dh,f5⟩
 case round=>
 clear dv a6 av bp dh f5;obtain ⟨j,I,r,hI,rfl,hj,fa,bn,ro,bx,a2,br,hf⟩:=hrel;have e7:I<=26:=by have:=hI.out;omega
 have e1:=iw ((I:Int)+1)
 by_cases hgo:I+1<n/\I<26
 ·
  have t1:decide ((I:Int)+1<(n:Int))=true:=decide_eq_true (by omega);have t2:decide ((I:Int)<26)=true:=decide_eq_true (by omega);have k1:=lh (fun (v:World) (hv:Fr Non w v)=>R7 B n c I A l0 v hn (hr.fr hv zr) hok hnm (by omega))
  have k2:Hid (∀(v:World),Fr Non w v->Calls zp 46 #[.slice A n c,.int .i64 ((I:Int)+1)] v fun e w'=>e=.returned (.int .i64 (Cs l0 (I+1):Int))/\Fr Non v w'):=fun v hv=>by
   have h:=R7 B n c (I+1) A l0 v hn (hr.fr hv zr) hok hnm (by omega);rwa [show (((I+1:Nat)):Int)=(I:Int)+1 from by omega] at h
  have aa:Hid (Ex l0 (j+1)=Mr r.l (Cs l0 I) (Cs l0 (I+1))):=by
   show Mr (Ex l0 j) (Cs l0 (2*j)) (Cs l0 (2*j+1))=_;rw [a2.out,hI.out]
  have ca:r.l≠[]:=by rw [a2.out];exact Ms l0 j
  have cv:r.l.length<=13:=by rw [a2.out];have:=S0 l0 j;have:=hI.out;omega
  obtain ⟨a,ha⟩:=Aa (Cs l0 I);obtain ⟨b,hb⟩:=Aa (Cs l0 (I+1));rw [ha.out] at k1 aa;rw [hb.out] at k2 aa;have e9:a<=1000000/\b<=1000000:=by rw [<- ha.out,<- hb.out];exact ⟨Sd _ _,Sd _ _⟩
  clear ha hb hok hr a2
  go_upto_region 8 with (first
   |(go_at_call 46;(with_reducible refine (k1.out _ hf).mono ?_);rintro _ w6 ⟨rfl,f6⟩;(have co:=hf.trans f6 zr))
   |(go_at_call 46;(with_reducible refine (k2.out _ co).mono ?_);rintro _ w7 ⟨rfl,f7⟩))
  have b5:=co.trans f7 zr;have cn:=bn.fr (f6.trans f7 zr) zq;have dg:=br.fr (f6.trans f7 zr) zq;have ao:=ro.non (f6.trans f7 zr);clear bn br ro hf f6 f7 co k1 k2;have ba:Hid (∀v,Fr Non w7 v->Blk v gv 28 r.cells):=fun v hv=>cn.fr hv zq;obtain ⟨D,hD⟩:=Aa (a%4);have d5:D<4:=by rw [<- hD.out];exact Ao5 _ (by omega)
  have ey:(a:Int).tmod 4=(D:Int):=by rw [Ap1 (by omega),<- hD.out];rfl
  have e4:=iw (1+(D:Int));have ez:=iw (D:Int);obtain ⟨X1,a0⟩:∃X:OpL,Hid (X={OpL.zero with by_:=(1:Int)+D,kind:=4}):=⟨_,rfl⟩;have bw:X1.cells=#[.int .i64 (1+(D:Int)),.int .i64 0,.int .i64 4,.int .i64 0,.slice none 0 0,.int .i64 0,.int .i64 0,.int .i64 0,.int .i64 0,.slice none 0 0,.int .i64 0,.int .i64 0,.int .u64 0,.int .i64 0,.slice none 0 0,.slice none 0 0,.int .i64 0,.int .i64 0,.int .u64 0,.slice none 0 0,.int .i64 0,.int .i64 0,.slice none 0 0,.int .u64 0,.slice none 0 0,.int .u64 0,.int .u64 0]:=by rw [a0.out];rfl
  have ch:(zp.info? 55).map (·.size)=some (#[.int .i64 (1+(D:Int)),.int .i64 0,.int .i64 4,.int .i64 0,.slice none 0 0,.int .i64 0,.int .i64 0,.int .i64 0,.int .i64 0,.slice none 0 0,.int .i64 0,.int .i64 0,.int .u64 0,.int .i64 0,.slice none 0 0,.slice none 0 0,.int .i64 0,.int .i64 0,.int .u64 0,.slice none 0 0,.int .i64 0,.int .i64 0,.slice none 0 0,.int .u64 0,.slice none 0 0,.int .u64 0,.int .u64 0]:Array Value).size:=by show _=some 27;kernel_rfl
  have ay:=Cm (P:=zp) (t:=55) w7.heap.size 55 (cs:=#[.int .i64 (1+(D:Int)),.int .i64 0,.int .i64 4,.int .i64 0,.slice none 0 0,.int .i64 0,.int .i64 0,.int .i64 0,.int .i64 0,.slice none 0 0,.int .i64 0,.int .i64 0,.int .u64 0,.int .i64 0,.slice none 0 0,.slice none 0 0,.int .i64 0,.int .i64 0,.int .u64 0,.slice none 0 0,.int .i64 0,.int .i64 0,.slice none 0 0,.int .u64 0,.slice none 0 0,.int .u64 0,.int .u64 0]) ch (old:=zO) rfl (by rw [<- bw];exact Ej X1);have bo:=Blk.new w7 55 zO;go_upto_region 9 with (fail)
  have b1:Blk ((w7.alloc (.cells zO 55)).setRow w7.heap.size #[.int .i64 (1+(D:Int)),.int .i64 0,.int .i64 4,.int .i64 0,.slice none 0 0,.int .i64 0,.int .i64 0,.int .i64 0,.int .i64 0,.slice none 0 0,.int .i64 0,.int .i64 0,.int .u64 0,.int .i64 0,.slice none 0 0,.slice none 0 0,.int .i64 0,.int .i64 0,.int .u64 0,.slice none 0 0,.int .i64 0,.int .i64 0,.slice none 0 0,.int .u64 0,.slice none 0 0,.int .u64 0,.int .u64 0]) w7.heap.size 55 X1.cells:=bw▸bo.setRow;have f8:Fr Non w7 ((w7.alloc (.cells zO 55)).setRow w7.heap.size #[.int .i64 (1+(D:Int)),.int .i64 0,.int .i64 4,.int .i64 0,.slice none 0 0,.int .i64 0,.int .i64 0,.int .i64 0,.int .i64 0,.slice none 0 0,.int .i64 0,.int .i64 0,.int .u64 0,.int .i64 0,.slice none 0 0,.slice none 0 0,.int .i64 0,.int .i64 0,.int .u64 0,.slice none 0 0,.int .i64 0,.int .i64 0,.slice none 0 0,.int .u64 0,.slice none 0 0,.int .u64 0,.int .u64 0]):=((Fr.refl Non w7).alloc _).setRow (fun hh=>absurd hh (by omega)) _;have cb:=b1.lt;clear ay bo;obtain ⟨go,bm⟩:=Aa w7.heap.size;rw [bm.out] at b1 f8 cb ⊢;generalize (w7.alloc (.cells zO 55)).setRow go #[.int .i64 (1+(D:Int)),.int .i64 0,.int .i64 4,.int .i64 0,.slice none 0 0,.int .i64 0,.int .i64 0,.int .i64 0,.int .i64 0,.slice none 0 0,.int .i64 0,.int .i64 0,.int .u64 0,.int .i64 0,.slice none 0 0,.slice none 0 0,.int .i64 0,.int .i64 0,.int .u64 0,.slice none 0 0,.int .i64 0,.int .i64 0,.slice none 0 0,.int .u64 0,.slice none 0 0,.int .u64 0,.int .u64 0]=w8 at*;have da:=cn.fr f8 zq;have g1:Hid (r.cells[1]? =some (.slice r.lA r.l.length r.lC)):=rfl;have d1:=(da.cell 1).trans g1.out;have b7:0<r.l.length:=List.length_pos_iff.2 ca;obtain ⟨L,hL⟩:=Aa r.l.length;rw [hL.out] at d1 g1 b7;have e3:((L:Int)==0)=false:=beq_eq_false_iff_ne.2 (by omega);obtain ⟨Q1,a8⟩:=Aa (a/4%L);have dk:((a:Int).tdiv 4).tmod (L:Int)=(Q1:Int):=by rw [Ap7 (by omega),Ap1 (by omega),<- a8.out];rfl
  have cy:IntKind.i64.wrap (Q1:Int)=(Q1:Int):=IntWalk.i64_in _ (by have:Q1<=a:=(by rw [<- a8.out];exact Ao6 (Nat.mod_le _ _) (Nat.div_le_self _ _));omega);have dx:(a:Int).tdiv 4=((a/4:Nat):Int):=by rw [Ap7 (by omega)];rfl
  have ce:=iw ((a/4:Nat):Int);have en:((a/4:Nat):Int).tmod (L:Int)=(Q1:Int):=by rw [<- dx];exact dk
  have d0:(a:Int)/4%(L:Int)=(Q1:Int):=by rw [<- a8.out];rfl
  go_upto_region 10 with (fail)
  try rw [d0]
  have f9:Fr Non w8 (w8.alloc (.cells #[.int .i64 (Q1:Int)] 3)):=(Fr.refl Non w8).alloc _;have bq:=Blk.new w8 3 #[.int .i64 (Q1:Int)];have d4:X1.lies w7 w.heap.size:=by rw [a0.out];exact Fq (OpL.zero_own w7 w.heap.size).lies ⟨rfl,rfl,rfl⟩ ⟨rfl,rfl,rfl⟩ ⟨rfl,rfl,rfl⟩ ⟨rfl,rfl,rfl⟩ ⟨rfl,rfl,rfl⟩ ⟨rfl,rfl,rfl⟩ ⟨rfl,rfl,rfl⟩
  have s9:Dr w7 (w8.alloc (.cells #[.int .i64 (Q1:Int)] 3)) w.heap.size go X1 (some ⟨w8.heap.size,0,none⟩) 1 1 [Q1]:=⟨b1.fr f9 zq,f8.trans f9 zr,d4.non (f8.trans f9 zr),Own.blk bq (by omega) (by omega) rfl (by omega),rfl,by rw [a0.out];exact ⟨rfl,rfl,rfl⟩,by rw [<- bm.out];exact Ao3 _,Ao9 cb f9.size⟩;clear f9 bq d4 b1 f8 cb da d1 cn;obtain ⟨A9,ei⟩:=Aa (some (⟨w8.heap.size,0,none⟩:Addr));rw [ei.out] at s9 ⊢;generalize w8.alloc (.cells #[.int .i64 (Q1:Int)] 3)=w9 at*;have em:=ba.out w9 s9.f;have kl:=lh (Aj5 w.heap.size r (1+(D:Int)) w9 (ao.non s9.f));have hl:=Ce (P:=zp) gv 28 underlying28 rfl (cs:=r.cells) Cu;have o0:w9.cell? ⟨go,0,none⟩=some (.int .i64 (1+(D:Int))):=by have h9:=s9.b.cell 0;rw [bw] at h9;exact h9
  rw [hL.out] at kl;go_upto_region 11 with (go_at_call 47;(with_reducible refine (kl.out).mono ?_);rintro _ cm ⟨rfl,dp⟩)
  have a3:=s9.non dp;clear s9 dp o0 em kl;have ds:=Mf r.l (1+(D:Int)) L;obtain ⟨Z,hZ⟩:=Aa (Dg r.l (1+(D:Int)) L);rw [hZ.out] at ds ⊢;obtain ⟨C,hC⟩:∃C:Bool,C=(decide (0<=Z)&&decide (0<a/64%5)):=⟨_,rfl⟩
  have ah:Hid ((if 0<=Z/\0<a/64%5 then [Z.toNat] else [])=if C=true then [Z.toNat] else []):=by
   show _=_;rw [hC]
   by_cases h1:0<=Z/\0<a/64%5
   · rw [if_pos h1,if_pos (by simp [h1])]
   · rw [if_neg h1,if_neg (fun e=>h1 (by simpa using e))]
  go_cut [56] from 49 to 56 (fun t wc=>cm=wc/\t=.bool C)
  case first=>
   have dm:Hid ((a:Int)/64%5=((a/64%5:Nat):Int)):=by show _=_;rfl
   rcases zb (decide (0<=Z)) with z1|z1
   ·
    have el:decide (Z>=0)=true:=z1
    rcases zb (decide (0<a/64%5)) with u1|u1
    ·
     have u2:decide ((a:Int)/64%5>0)=true:=by rw [dm.out];exact decide_eq_true (by have:=of_decide_eq_true u1;omega)
     have ev:decide (0<(a:Int)/64%5)=true:=u2;rw [z1,u1] at hC;go_wp2_with fail;go_meet;exact ⟨rfl,by rw [hC];rfl⟩
    ·
     have u2:decide ((a:Int)/64%5>0)=false:=by rw [dm.out];exact decide_eq_false (by have:=of_decide_eq_false u1;omega)
     have ev:decide (0<(a:Int)/64%5)=false:=u2;rw [z1,u1] at hC;go_wp2_with fail;go_meet;exact ⟨rfl,by rw [hC];rfl⟩
   ·
    have el:decide (Z>=0)=false:=z1;rw [z1] at hC;go_wp2_with fail;go_meet;exact ⟨rfl,by rw [hC];rfl⟩
  case rest=>
  obtain ⟨rfl,rfl⟩:=hcut
  go_upto_if 56 with (fail)
  go_cut [8] from 57 to 60 (fun t wc=>∃A' n' c',t=.slice A' n' c'/\n'<=2/\Dr w7 wc w.heap.size go X1 A' n' c' ([Q1]++(if C=true then [Z.toNat] else [])))
  case first=>
   cases C
   case true=>
    have z1:0<=Z:=by
     have h9:=hC.symm;rw [Bool.and_eq_true] at h9;exact of_decide_eq_true h9.1
    clear hC ah;have bz:=Blk.new cm 3 #[.int .i64 Z];have ed:Hid (Value.int .i64 Z=Qv Z.toNat):=by show Value.int .i64 Z=Value.int .i64 ((Z.toNat:Nat):Int);rw [Ap2 z1]
    have so:=a3.os;have sg:=a3.gs;have ss:=a3.sz;go_wp2_with (at_builtin;go_loud (refine As (base:=go+1) (.tmp 57) (.tmp 59) 22 rfl rfl rfl rfl Eo (so.alloc (.cells #[.int .i64 Z] 3)) (Rd.blk (n:=1) (size:=1) bz rfl) (by simp [Value.oneCell']) (by omega) (by omega) (by rw [Ao4];omega) ?_);intro A8 c8 v8 ai cr cj);go_meet;refine ⟨A8,2,c8,rfl,by omega,(a3.non ((Fr.refl Non cm).alloc (.cells #[.int .i64 Z] 3))).app cr ?_ rfl⟩;rw [ed.out] at ai;exact ai
   case false=>
    clear hC ah;go_wp2_with fail;go_meet;exact ⟨A9,1,1,rfl,by omega,a3⟩
  case rest=>
  obtain ⟨ea,dt,ep,rfl,eb,ag⟩:=hcut;clear a3 hC;generalize wc=w11 at*;have c7:Hid ((b:Int)%3=((b%3:Nat):Int)):=by show _=_;rfl
  obtain ⟨cx,aw⟩:∃cx:List Nat,Hid (cx=[Q1]++(if C=true then [Z.toNat] else [])):=⟨_,rfl⟩;rw [<- aw.out] at ag;have t3:Hid (((b:Int)%3==0)=decide (b%3=0)):=by show _=_;rw [c7.out,Bool.eq_iff_iff,beq_iff_eq,decide_eq_true_eq];omega
  obtain ⟨ad,aj⟩:∃ad:List Nat,Hid (ad=cx++(if b%3=0 then [b/3%L] else [])):=⟨_,rfl⟩
  go_upto_if 63 with (fail)
  rw [t3.out];obtain ⟨C3,b4⟩:=Aa (decide (b%3=0));rw [b4.out]
  go_cut [8] from 61 to 72 (fun t wc=>∃A' n' c',t=.slice A' n' c'/\n'<=3/\Dr w7 wc w.heap.size go X1 A' n' c' ad)
  case first=>
   cases C3
   case true=>
    have af:=lh (aj.out.trans (by rw [if_pos (of_decide_eq_true b4.out)]));have cp:=ba.out w11 ag.f;have d1:=(cp.cell 1).trans g1.out;obtain ⟨Q3,dy⟩:=Aa (b/3%L);have eo:(b:Int)/3%(L:Int)=(Q3:Int):=by rw [<- dy.out];rfl
    rw [dy.out] at af;have bz:=Blk.new w11 3 #[.int .i64 (Q3:Int)];have so:=ag.os;have sg:=ag.gs;have ss:=ag.sz;clear t3;go_wp2_with (at_builtin;(try rw [eo]);go_loud (refine As (base:=go+1) (.tmp 64) (.tmp 71) 22 rfl rfl rfl rfl Eo (so.alloc (.cells #[.int .i64 (Q3:Int)] 3)) (Rd.blk (n:=1) (size:=1) bz rfl) (by simp [Value.oneCell']) (by omega) (by omega) (by rw [Ao4];omega) ?_);intro A8 c8 v8 ai cr cj);go_meet;refine ⟨A8,dt+1,c8,rfl,by omega,(ag.non ((Fr.refl Non w11).alloc (.cells #[.int .i64 (Q3:Int)] 3))).app cr ?_ ?_⟩
    ·
     rw [af.out,Ap3];exact ai
    ·
     rw [af.out,Ap4,ag.len];rfl
   case false=>
    have af:=lh (aj.out.trans (by rw [if_neg (of_decide_eq_false b4.out),List.append_nil]));clear t3;go_wp2_with fail;go_meet;exact ⟨ea,dt,ep,rfl,by omega,by rw [af.out];exact ag⟩
  case rest=>
  obtain ⟨b9,c3,cu,rfl,ej,ar⟩:=hcut;clear ag b4 t3 c7;generalize wc=w12 at*;have b6:Hid (((b:Int)%2==0)=decide (b%2=0)):=by show _=_;rw [Bool.eq_iff_iff,beq_iff_eq,decide_eq_true_eq];omega
  go_upto_if 75 with (fail)
  rw [b6.out];obtain ⟨C2,a1⟩:=Aa (decide (b%2=0));rw [a1.out];obtain ⟨m0,bi,oi,cw,c9,i0,i1,i2⟩:=ao.idAt (i:=0) (by rw [hL.out];exact b7)
  go_cut [] from 73 to 88 (fun wc=>∃x2:OpL,Dr w7 wc w.heap.size go x2 b9 c3 cu ad/\Hid (x2.op=Cj (if b%2=0 then 7 else 4) (1+(D:Int)) 0 0 [] (nmP r.l 0) [UInt8.ofNat (65+b/2%3)]/\x2.pastA=none/\x2.pastC=0/\x2.past=[]/\x2.by_=1+(D:Int)/\x2.at_=0/\x2.op.ok))
  case first=>
   cases C2
   case true=>
    have hc:=of_decide_eq_true a1.out;clear b6 a1;have z2:cI w12 go 2 X1.kind:=ar.b.cell 2;have y2:=ar.b.frozen 2;go_upto_region 17 with (fail)
    have ab:=ar.setB 2 (.int .i64 7) {X1 with kind:=7} rfl ar.gd (fun v' h _=>Fq h ⟨rfl,rfl,rfl⟩ ⟨rfl,rfl,rfl⟩ ⟨rfl,rfl,rfl⟩ ⟨rfl,rfl,rfl⟩ ⟨rfl,rfl,rfl⟩ ⟨rfl,rfl,rfl⟩ ⟨rfl,rfl,rfl⟩);clear z2 y2 ar;generalize w12.setCell ⟨go,2,none⟩ (.int .i64 7)=w13 at*;have g2:Hid (r.cells[2]? =some (.slice r.iA r.l.length r.iC)):=rfl;rw [c9,hL.out] at g2;have d2:=((ba.out w13 ab.f).cell 2).trans g2.out;rw [Nat.zero_mul,Nat.add_zero] at i0 i1 i2;obtain ⟨d9,d6,es⟩:=zk3 ab.f i0 i1 i2;have ew:=ab.b.frozen 16;have eh:=ab.b.frozen 17;have ef:=ab.b.frozen 18;have d7:cI w13 go 16 X1.of.b:=ab.b.cell 16;have ec:cI w13 go 17 X1.of.s:=ab.b.cell 17;have ek:cU w13 go 18 X1.of.u:=ab.b.cell 18;go_upto_region 18 with (fail)
    have cf:=ab.setB 16 (.int .i64 m0.id.b) {X1 with kind:=7,of:=⟨m0.id.b,X1.of.s,X1.of.u⟩} rfl ab.gd (fun v' h _=>Fq h ⟨rfl,rfl,rfl⟩ ⟨rfl,rfl,rfl⟩ ⟨rfl,rfl,rfl⟩ ⟨rfl,rfl,rfl⟩ ⟨rfl,rfl,rfl⟩ ⟨rfl,rfl,rfl⟩ ⟨rfl,rfl,rfl⟩);have cg:=cf.setB 17 (.int .i64 m0.id.s) {X1 with kind:=7,of:=⟨m0.id.b,m0.id.s,X1.of.u⟩} rfl cf.gd (fun v' h _=>Fq h ⟨rfl,rfl,rfl⟩ ⟨rfl,rfl,rfl⟩ ⟨rfl,rfl,rfl⟩ ⟨rfl,rfl,rfl⟩ ⟨rfl,rfl,rfl⟩ ⟨rfl,rfl,rfl⟩ ⟨rfl,rfl,rfl⟩);have b8:=cg.setB 18 (.int .u64 (m0.id.u:Int)) {X1 with kind:=7,of:=m0.id} rfl cg.gd (fun v' h _=>Fq h ⟨rfl,rfl,rfl⟩ ⟨rfl,rfl,rfl⟩ ⟨rfl,rfl,rfl⟩ ⟨rfl,rfl,rfl⟩ ⟨rfl,rfl,rfl⟩ ⟨rfl,rfl,rfl⟩ ⟨rfl,rfl,rfl⟩);clear ab cf cg d7 ec ek ew eh ef d9 d6 es d2;generalize ((w13.setCell ⟨go,16,none⟩ (.int .i64 m0.id.b)).setCell ⟨go,17,none⟩ (.int .i64 m0.id.s)).setCell ⟨go,18,none⟩ (.int .u64 (m0.id.u:Int))=w16 at*;have b0:=b8.non ((Fr.refl Non w16).alloc (.cells #[.int .u8 (65+(b:Int)/2%3)] 5));have fb:cS (w16.alloc (.cells #[.int .u8 (65+(b:Int)/2%3)] 5)) go 14 X1.bodyA X1.body.length X1.bodyC:=b0.b.cell 14;have e5:=b0.b.frozen 14;have bb:=Blk.new w16 5 #[.int .u8 (65+(b:Int)/2%3)];have c2:=b8.sz;have c6:=b5.size;have e8:=iw (65+(b:Int)/2%3);have e6:IntKind.u8.wrap (65+(b:Int)/2%3)=65+(b:Int)/2%3:=by rw [IntKind.wrap_u8];omega
    go_wp2_with fail;go_meet;have hU:(UInt8.ofNat (65+b/2%3)).toNat=65+b/2%3:=by rw [UInt8.toNat_ofNat'];omega
    have hV:#[Value.int .u8 (65+(b:Int)/2%3)].toList=[UInt8.ofNat (65+b/2%3)].map Bv:=by
     show [Value.int .u8 (65+(b:Int)/2%3)]=[Value.int .u8 ((UInt8.ofNat (65+b/2%3)).toNat:Int)];rw [hU];rfl
    have ob:RowLies (w16.alloc (.cells #[.int .u8 (65+(b:Int)/2%3)] 5)) w.heap.size 5 1 (some ⟨w16.heap.size,0,none⟩) [UInt8.ofNat (65+b/2%3)].length 1 ([UInt8.ofNat (65+b/2%3)].map Bv):=by
     rw [<- hV];exact (RowAt.of_own (Own.blk (base:=w.heap.size) (n:=1) (size:=1) bb (by have:=b8.gs;omega) (by omega) rfl (by omega))).lies
    refine ⟨{X1 with kind:=7,of:=m0.id,bodyA:=some ⟨w16.heap.size,0,none⟩,bodyC:=1,body:=[UInt8.ofNat (65+b/2%3)]},by rw [<- World.setCell_alloc_past _ _ _ _ c2];exact b0.setB 14 (.slice (some ⟨w16.heap.size,0,none⟩) 1 1) {X1 with kind:=7,of:=m0.id,bodyA:=some ⟨w16.heap.size,0,none⟩,bodyC:=1,body:=[UInt8.ofNat (65+b/2%3)]} rfl b0.gd (fun v' h keep=>⟨h.past,h.path,h.nodes,keep _ _ _ _ _ _ (by decide) ob,h.refs,h.guards,h.boxes,h.hist,h.seals⟩),?_⟩;show _/\_;rw [a0.out,if_pos hc,Fb cw];have ci:=(ao.ok m0 (Ap0 cw)).2;exact ⟨rfl,rfl,rfl,rfl,rfl,rfl,{Mt with by_:=(show I64 (1+(D:Int)) from ⟨by omega,by omega⟩),kind:=(show I64 7 from ⟨by decide,by decide⟩),of:=ci,body:=(show 1<=1000000 by decide)}⟩
   case false=>
    have hc:=of_decide_eq_false a1.out;clear b6 a1;go_wp2_with fail;go_meet;refine ⟨X1,ar,?_⟩;show _/\_;rw [a0.out,if_neg hc];exact ⟨rfl,rfl,rfl,rfl,rfl,rfl,{Mt with by_:=(show I64 (1+(D:Int)) from ⟨by omega,by omega⟩),kind:=(show I64 4 from ⟨by decide,by decide⟩)}⟩
  case rest=>
  obtain ⟨x2,a9,de⟩:=hcut;clear ar a1 b6 a0 bw;generalize wc=w18 at*;obtain ⟨ak,bk,bg,bl,a5,c0,bf⟩:=de.out;replace ak:=lh ak;have z3:cI w18 go 3 x2.at_:=a9.b.cell 3;have y3:=a9.b.frozen 3;go_upto_region 20 with (fail)
  obtain ⟨TT,b3⟩:=Aa (b/6%4);have du:(b:Int)/6%4=(TT:Int):=by rw [<- b3.out];rfl
  have et:TT<4:=by rw [<- b3.out];exact Ao5 _ (by omega)
  rw [du];have ac:=a9.setB 3 (.int .i64 (TT:Int)) {x2 with at_:=(TT:Int)} rfl a9.gd (fun v' h _=>Fq h ⟨rfl,rfl,rfl⟩ ⟨rfl,rfl,rfl⟩ ⟨rfl,rfl,rfl⟩ ⟨rfl,rfl,rfl⟩ ⟨rfl,rfl,rfl⟩ ⟨rfl,rfl,rfl⟩ ⟨rfl,rfl,rfl⟩);generalize w18.setCell ⟨go,3,none⟩ (.int .i64 (TT:Int))=w19 at*
  have aq:Hid (({x2 with at_:=(TT:Int)}:OpL).op=Ew r.l a b):=by
   show _=_;show ({x2.op with at_:=(TT:Int)}:Op)=_;unfold Ew;rw [ak.out,hD.out,b3.out];unfold Cj
   split<;>rfl
  have bd:({x2 with at_:=(TT:Int)}:OpL).op.ok:={bf with at_:=(show I64 (TT:Int) from ⟨by omega,by omega⟩)};have dl:Hid (({x2 with at_:=(TT:Int)}:OpL).pastA=none/\({x2 with at_:=(TT:Int)}:OpL).pastC=0/\({x2 with at_:=(TT:Int)}:OpL).past=[]):=⟨bk,bg,bl⟩;have a7:∃d:Nat,({x2 with at_:=(TT:Int)}:OpL).by_=(d:Int)/\d<=1000:=⟨1+D,by show x2.by_=_;rw [a5];omega,by omega⟩;have be:0<=({x2 with at_:=(TT:Int)}:OpL).at_/\({x2 with at_:=(TT:Int)}:OpL).at_<=3:=⟨by show (0:Int)<=TT;omega,by show (TT:Int)<=3;omega⟩;generalize ({x2 with at_:=(TT:Int)}:OpL)=x3 at*;clear de ak bk bg bl a5 c0 bf z3 y3 a9 du et
  have ae:Hid (ad=Ea r.l a b):=by
   show _=_;unfold Ea;rw [hL.out,hD.out,a8.out,hZ.out,ah.out,<- aw.out,<- aj.out]
  have az:=fk_in ao.rows ao.num bx ca cv a b;rw [<- aq.out,<- ae.out] at az;have ax:∀p∈ad,p<r.l.length:=by rw [ae.out];exact Sw ca a b
  have bu:Hid (Ex l0 (j+1)=Dh r.l x3.op (Cn r.l ad)):=by
   show _=_;rw [aa.out,aq.out,ae.out];rfl
  have dc:(Cn r.l ad).length<=3:=Ao6 (Jq _ _ _) (by rw [ae.out];exact Sx _ _ _);have bc:∀p∈Cn r.l ad,p<r.l.length:=fun p hp=>ax p (Hn _ hp).1;generalize hHS:Cn r.l ad=HS at*
  have kh:Hid (∀v,Fr Non w19 v->Calls zp 48 #[.agg r.cells,.slice b9 c3 cu] v (Ju HS v)):=fun v hv=>by
   rw [<- hHS];exact Aj9 w.heap.size v.heap.size c3 cu r b9 ad v (ao.non (ac.f.trans hv zr)) ac.len (ac.non hv).os.rd (by omega) ax
  have c6:=b5.size
  have kp:Hid (∀(v:World) (A':Option Addr) (c':Nat),Fr Non w19 v->Own v w.heap.size 3 1 A' HS.length c' (HS.map Qv)->Calls zp 45 #[.agg r.cells,.agg x3.cells,.slice A' HS.length c'] v (Fo w.heap.size r x3.op HS v)):=fun v A' c' hv ho=>
   Su w.heap.size v.heap.size HS.length c' A' r x3 HS v (ao.non (ac.f.trans hv zr)) (ac.non hv).l (Ao6 c6 ((ac.f.trans hv zr).size)) bd dl.out a7 be rfl ho.rd dc bc az
  have c4:Blk w19 gv 28 r.cells:=ba.out w19 ac.f;have dn:=dg.fr ac.f zq;have cc:=b5.trans ac.f zr;have df:=ac.b;have ct:=cc.size;clear az bc dc ax hHS ae aq bd dl a7 be aa ah aw aj ac ba b7 ce dx en dk cy d0 e3 e4 ez ey b5 dg ao c9 cw i0 i1 i2 ds d5 b3 hD a8 hZ hL g1;have V0:Blk w19.drew gv 28 r.cells:=c4;have X0:Blk w19.drew go 55 x3.cells:=df;have F0:Fr Non w19 w19.drew:=(Fr.refl Non w19).drew;have bs:(zp.info? 55).map (·.size)=some x3.cells.size:=by rw [show x3.cells.size=27 from rfl];kernel_rfl
  have eu:=Ce (P:=zp) go 55 underlying55 rfl (cs:=x3.cells) bs;generalize x3.cells=XC at*;refine Dd (S:=fun w'=>Blk w' gv 28 r.cells/\Blk w' go 55 XC) 6 (by kernel_rfl) ?_;have uu:=aI V0 X0;refine tkG 0 uu (h:=tkG 1 uu (h:=tkG 2 uu (h:=tkG 3 uu (h:=?_))));clear uu;simp only [zl];refine Bn 4 (by kernel_rfl) rfl (fun K hK=> ?_);go_simp;go_wp2_with (go_at_call 48;(with_reducible refine (kh.out _ F0).mono ?_);rintro _ v1 ⟨fd,fc,rfl,c5,ck⟩;have V1:=V0.fr ck zq;have X1:=X0.fr ck zq;have F1:=F0.trans ck zr;have db:=Hr c5 (Ao6 ct (Fr.size F0)));refine hK.out _ _ ⟨V1,X1⟩ (fun hZ=> ?_);clear hZ hK K;try simp only [Ai,zl]
  refine Bn 5 (by kernel_rfl) rfl (fun K hK=> ?_);go_simp;go_wp2_with (go_at_call 45;(with_reducible refine (kp.out _ _ _ F1 db).mono ?_);rintro _ v2 ⟨r2,rfl,cz,a4,bh,dq⟩;have V2:=V1.fr cz zq;have X2:=X1.fr cz zq;have F2:=F1.trans cz zr;have ay:=Cm (P:=zp) gv 28 (cs:=r2.cells) Cu (old:=r.cells) rfl (Gn r2));refine hK.out _ _ ⟨V2,X2⟩ (fun hZ=> ?_);clear hZ hK K;try simp only [Ai,zl]
  have e0:=(dn.fr F2 zq).setRow_far (g':=gv) (by omega) (cs:=r2.cells);have d8:Blk (v2.setRow gv r2.cells) gv 28 r2.cells:=V2.setRow;have al:=a4.setG V2 r2.cells;have fz:=(cc.trans F2 zr).setRow (g:=gv) (fun hh=>absurd hh (by omega)) r2.cells;refine Cz (by kernel_rfl) ?_;refine oG 6 (fun K hK=> ?_);go_simp;refine hK.out _ _ trivial (fun hZ=> ?_);clear hZ hK K;try simp only [Ai,zl]
  refine oD ?_;go_simp;rw [<- bu.out] at dq;rw [bx] at bh;clear V0 V1 V2 X0 X1 X2 F0 F1 F2 a4 ay dn c4 cc df kh kp c5 db eu bs bu;generalize v2.setRow gv r2.cells=wz at*;have e2:=iw ((I:Int)+2);go_wp2_with fail;go_roundw
  case rel=>exact ⟨j+1,I+2,r2,by show I+2=2*(j+1);have:=hI.out;omega,by go_num,by have:=hI.out;omega,by have:=hI.out;omega,d8,al,bh,dq,e0,fz⟩
  case measure=>simp [intOf];omega
 ·
  have dj:Hid (j=min 13 (l0.length/2)):=by
   show _=_;rw [hn.out];have:=hI.out;omega
  have hl:=Ce (P:=zp) gv 28 underlying28 rfl (cs:=r.cells) Cu;have eg:=Cm (P:=zp) w.heap.size 28 (cs:=r.cells) Cu (old:=#[.slice none 0 0,.slice none 0 0,.slice none 0 0,.slice none 0 0]) rfl (Gn r);have dw:=br.setRow (cs:=r.cells);have fz:=hf.setRow (g:=w.heap.size) (fun hh=>absurd hh (by omega)) r.cells;have al:=ro.setG br r.cells;have dd:r.l=Jx l0:=by rw [a2.out,dj.out];rfl
  have hd:Hid (Hv l0 w (.returned (.agg r.cells)) (wr.setRow w.heap.size r.cells)):=⟨r,rfl,fz,al,bx,dd⟩;clear dd bx ro a2 dj hok hr fz al hf;generalize Hv l0 w=POST at*
  rcases zb (decide ((I:Int)+1<(n:Int))) with t1|t1
  ·
   have t2:decide ((I:Int)<26)=false:=decide_eq_false (by have:=of_decide_eq_true t1;omega);go_wp2_with fail
   (try simp only [Exit.inBlock,Exit.then])
   refine C6 (t:=28) rfl rfl dw rfl underlying28 Cu rfl ?_;exact hd.out
  ·
   go_wp2_with fail
   (try simp only [Exit.inBlock,Exit.then])
   refine C6 (t:=28) rfl rfl dw rfl underlying28 Cu rfl ?_;exact hd.out
end Oq
namespace Oq
attribute [local go_sem] Ao7 Ao8
attribute [local go_sem ↓] Gm Bi
theorem Mu {cards:List Cd} {l:List Pn} (h:Rows cards l) {p:Nat} {n:Pn} (hp:l[p]? =some n):n.o.put.length<=500000:=Wt (Ws (h.ok p n hp).chk) (by decide)
def PlaceAt (w:World) (base:Nat) (x:FG) (p:Nat) (n:Pn) (y:OpL) (b off:Nat):Prop:=x.l[p]? =some n/\y.op=n.o/\y.op.ok/\y.lies w base/\x.lA=some ⟨b,off,none⟩/\RgAt w b (off+p*27) y.cells.toList
theorem FG.own.place {w:World} {base:Nat} {x:FG} (h:x.own w base) {p:Nat} (hp:p<x.l.length):∃n y b off,PlaceAt w base x p n y b off:=by
 have hn:x.l[p]? =some x.l[p]:=Ap5 hp;obtain ⟨y,b,off,_,h2,h3,h4,_,h6⟩:=h.xAt hn;exact ⟨_,y,b,off,hn,h2,by rw [h2];exact (h.ok _ (Ap0 hn)).1,h3,h4,fun k v hv=>h6 k (List.getElem?_eq_some_iff.1 hv).1 v hv⟩
theorem PlaceAt.non {w w':World} {base p:Nat} {x:FG} {n:Pn} {y:OpL} {b off:Nat} (h:PlaceAt w base x p n y b off) (hf:Fr Non w w'):PlaceAt w' base x p n y b off:=
 ⟨h.1,h.2.1,h.2.2.1,h.2.2.2.1.non hf,h.2.2.2.2.1,h.2.2.2.2.2.fr hf zq⟩
def Jy (cards:List Cd) (l:List Pn) (ps:List Nat) (w:World) (e:Ending) (w':World):Prop:=
 ∃(r:Ae) (b:Nat),e=.returned (.pointer (some ⟨r.rb,0,none⟩))/\w.heap.size<=b/\Hid (r.okAt w' b)/\Hid (r.st=Cr cards l ps ([],[]))/\Hid (r.g.cards=cards)/\Fr Non w w'
theorem An3 (base B np cp:Nat) (x:FG) (Ap:Option Addr) (ps:List Nat) (w:World) (h:x.own w base) (hcs:x.cards=An 0 [1,2,2,3]) (hpn:Hid (ps.length=np)) (hrp:Rd w B 1 Ap np (ps.map Qv)) (hlt:∀p∈ps,p<x.l.length) (hnp:np<=1000000) (hk:KindsAt w) (hpos:0<w.heap.size):
  Calls zp 11 #[.agg x.cells,.slice Ap np cp] w (Jy x.cards x.l ps w):=by
 have ar:(zp.info? 55).map (·.size)=some 27:=by kernel_rfl
 have bg:=Blk.new w 28 x.cells;have f0:Fr Non w (w.alloc (.cells x.cells 28)):=(Fr.refl Non w).alloc _;have ac:0<(w.alloc (.cells x.cells 28)).heap.size:=by rw [Ao4];omega
 have h0:=h.non f0;have a4:=hk.fr f0;have ai:=hrp.fr f0 zr;obtain ⟨gx,a5⟩:=Aa w.heap.size;have al:Hid (∀(r:Ae) (b:Nat) (w':World),w.heap.size<=b->Hid (r.okAt w' b)->Hid (r.st=Cr x.cards x.l ps ([],[]))->Hid (r.g.cards=x.cards)->Fr Non w w'->Jy x.cards x.l ps w (.returned (.pointer (some ⟨r.rb,0,none⟩))) w'):=fun r b w' h1 h2 h3 h4 h5=>⟨r,b,rfl,h1,h2,h3,h4,h5⟩;generalize Jy x.cards x.l ps w=POST at*;have g0:Hid (x.cells[0]? =some (.slice x.cA x.cards.length x.cC)):=rfl;have g1:Hid (x.cells[1]? =some (.slice x.lA x.l.length x.lC)):=rfl;obtain ⟨L,hL⟩:=Aa x.l.length;rw [hL.out] at g1 hlt;have au:x.cards.length=4:=by rw [hcs,It];rfl
 rw [au] at g0;obtain ⟨XG,ba⟩:=Aa x.cells;rw [ba.out] at bg f0 ac h0 a4 ai g0 g1 ⊢;rw [a5.out] at bg;clear h hk hrp;go_enter func11,ntmps11;go_upto_region 1 with (fail)
 try rw [a5.out]
 generalize w.alloc (.cells XG 28)=w0 at*
 have kn:Hid (Calls zp 19 #[.slice x.cA 4 x.cC] w0 (Fp x.cards w0)):=by
  have a1:=h0.cards.sl.rd;rw [au,hcs] at a1;rw [hcs];exact Ss w0.heap.size 4 x.cC x.cA [1,2,2,3] w0 rfl (by decide) a1 ac
 unfold Fp at kn;have c0:cS w0 gx 0 x.cA 4 x.cC:=(bg.cell 0).trans g0.out;have be:w.heap.size<=w0.heap.size:=f0.size;go_upto_region 2 with (go_at_call 19;(with_reducible refine (kn.out).mono ?_);rintro _ w1 ⟨r,rfl,ae,ab,aa,f1⟩)
 obtain ⟨rb,az⟩:=Aa r.rb;rw [az.out];clear kn c0 g0 au ac hpos;go_wp2_with fail
 go_loopw [6] (fun v wr=>∃(i:Nat) (r1:Ae),v=.int .i64 (i:Int)/\i<=np/\Hid (r1.okAt wr w0.heap.size)/\Hid (r1.rb=rb)/\Hid (r1.g.cards=x.cards)/\Hid (r1.st=Cr x.cards x.l (ps.take i) ([],[]))/\Fr Non w0 wr) (fun v _=>np-(intOf v).toNat)
 case atStart=>exact ⟨0,r,rfl,Nat.zero_le _,ae,az,aa,ab,f1⟩
 case round=>
 clear ae ab aa f1;obtain ⟨i,r1,rfl,hi,ae,ad,aa,ab,hf⟩:=hrel
 by_cases hin:i<np
 case neg=>
  obtain rfl:i=np:=by omega
  have hd:=lh (al.out r1 w0.heap.size wr be ae (by show _=_;rw [ab.out,List.take_of_length_le (by rw [hpn.out];exact Ao3 _)]) aa (f0.trans hf zr));rw [ad.out] at hd;clear al ae ab aa;go_wp2_with fail;exact hd.out
 case pos=>
 have t0:decide ((i:Int)<(np:Int))=true:=decide_eq_true (by omega);have bh:decide (i<np)=true:=decide_eq_true hin;obtain ⟨p,hp⟩:∃p,ps[i]? =some p:=⟨_,Ap5 (by rw [hpn.out];exact hin)⟩;have a3:=hlt p (Ap0 hp);obtain ⟨n,y,b,af,bc⟩:=h0.place (p:=p) (by rw [hL.out];exact a3);obtain ⟨hn,ap,av,a0,a2,ah⟩:=bc;obtain ⟨bp,op,u,rfl,_,hu,ao⟩:=ai.at hin;rw [Ap8,hp] at hu;injection hu with hu
 subst hu;replace ao:cI w0 bp (op+i) (p:Int):=ao;obtain ⟨i1,i2,i3⟩:=ix i np
 obtain ⟨p1,p2,p3⟩:=ix p L
 have a7:=Fk (P:=zp) y.cells b (af+p*27) underlying55 rfl ar;have bb:∀w',RgAt w' b (af+p*27) y.cells.toList->(ldS 55 (.pointer (some ⟨b,af+p*27,none⟩))).run zp w'=.ok (.agg y.cells) w':=fun w' h=>a7 w' h;have kp:=lh (fun (w':World) (hf':Fr Non w0 w')=>K5 y w' (a0.non hf').at av);unfold NewB at kp;have a8:Hid (∃m,y.op.put.length=m/\m<=500000):=⟨_,rfl,by rw [ap];exact Mu h0.rows hn⟩;obtain ⟨m,hm,bi⟩:=a8.out;have kt:=lh (fun (A:Option Addr) (c:Nat) (w':World) (hf':Fr Non wr w') (hrd:Rd w' w'.heap.size 1 A m (y.op.put.map Bv))=>Mp w0.heap.size w'.heap.size m c A r1 y.op w' (ae.out.non hf') (a4.fr (hf.trans hf' zr)) hm hrd (by omega) av);unfold TakeRPost at kt;rw [ad.out] at kt;rw [hm] at kp
 have ag:Hid (∀r2:Ae,r2.st=(Bd r1.g.cards r1.st y.op).2->r2.st=Cr x.cards x.l (ps.take (i+1)) ([],[])):=by
  intro r2 h2;rw [h2,aa.out,ab.out,Dp hp,Rw,hn,ap]
 have ay:w0.cell? ⟨gx,1,none⟩=some (.slice (some ⟨b,af,none⟩) L x.lC):=by rw [<- a2];exact (bg.cell 1).trans g1.out
 obtain ⟨YC,a6⟩:=Aa y.cells;rw [a6.out] at ah bb kp;clear a8 hm av a0 a7 ab hp a3 hn ap a2 a6;go_upto_region 7 with (fail)
 obtain ⟨C0,D0⟩:=zk2 hf ay ao;have R0:RgAt wr b (af+p*27) YC.toList:=ah.fr hf zq;have F0:Fr Non wr wr.drew:=(Fr.refl Non wr).drew;have G0:Fr Non w0 wr.drew:=hf.drew;refine wp_region_held_drew (S:=fun w'=>cS w' gx 1 (some ⟨b,af,none⟩) L x.lC/\cI w' bp (op+i) (p:Int)/\RgAt w' b (af+p*27) YC.toList) (by kernel_rfl) ⟨C0,D0,R0⟩ (fun hHeld=> ?_);clear hHeld;have uu:=aI C0 (aI D0 R0);refine tkH 0 uu (h:=tkH 1 uu (h:=tkH 2 uu (h:=tkH 3 uu (h:=tkH 4 uu (h:=tkH 5 uu (h:=tkH 6 uu (h:=tkH 7 uu (h:=tkH 8 uu (h:=?_)))))))));clear uu;simp only [zl];refine oG 9 (fun K hK=> ?_);go_simp;go_wp2_with (go_at_call 23;(with_reducible refine (kp.out _ G0).mono ?_);rintro _ v1 ⟨A5,c5,rfl,a9,bd⟩;have F1:=F0.trans bd zr;obtain ⟨C1,D1⟩:=zk2 F1 C0 D0;have R1:=RgAt.fr (S:=Non) R0 F1 zq;have G1:=hf.trans F1 zr);refine hK.out _ _ ⟨C1,D1,R1⟩ (fun hZ=> ?_);clear hZ hK K;try simp only [Ai,zl]
 refine oG 10 (fun K hK=> ?_);go_simp;go_wp2_with (go_at_call 22;(with_reducible refine (kt.out _ _ _ F1 a9.rd).mono ?_);rintro _ v2 ⟨rfl,r2,ak,aj⟩);have G2:Fr Non w0 v2:=(ae.out.non F1).below ak.out.fr G1 (Ao3 _);obtain ⟨C2,D2⟩:=zk2 G2 ay ao;have R2:RgAt v2 b (af+p*27) YC.toList:=ah.fr G2 zq;refine hK.out _ _ ⟨C2,D2,R2⟩ (fun hZ=> ?_);clear hZ hK K;try simp only [Ai,zl]
 refine oD ?_;go_simp;have ax:=lh (ag.out r2 aj.out);have bf:Hid (r2.okAt v2 w0.heap.size):=ak.out.ok;have aq:Hid (r2.rb=rb):=ak.out.rb.trans ad.out;have aw:Hid (r2.g.cards=x.cards):=ak.out.cards.trans aa.out;clear ag kt kp ak aj ae ad aa;go_wp2_with fail;go_roundw
 case rel=>exact ⟨i+1,r2,by go_num,by omega,bf,aq,aw,ax,G2⟩
 case measure=>simp [intOf];omega
end Oq
namespace Oq
attribute [local go_sem] Ao7 Ao8
attribute [local go_sem ↓] Gm Jt Bi
def lvO (i:Nat):Op:=match (Jx ([0,1]:List Int))[i]? with|some n=>n.o|none=>Op.zero
theorem An4:(Jx ([0,1]:List Int)).length=2:=by decide+kernel
theorem An5:(Bd (An 0 [1,2,2,3]) ([],[]) (lvO 1)).1=0/\(Bd (An 0 [1,2,2,3]) ([],[]) (lvO 1)).2.2.length=1:=by decide+kernel
theorem An6:(Bd (An 0 [1,2,2,3]) (Bd (An 0 [1,2,2,3]) ([],[]) (lvO 1)).2 (lvO 0)).1=0/\(Bd (An 0 [1,2,2,3]) (Bd (An 0 [1,2,2,3]) ([],[]) (lvO 1)).2 (lvO 0)).2.2.length=0/\(Bd (An 0 [1,2,2,3]) (Bd (An 0 [1,2,2,3]) ([],[]) (lvO 1)).2 (lvO 0)).2.1.length=2:=by decide+kernel
theorem An7 (w:World) (hk:KindsAt w):Calls zp 17 #[] w (Af true w):=by
 have au:(zp.info? 55).map (·.size)=some 27:=by kernel_rfl
 have aq:0<w.heap.size:=World.block_lt_of_cell? w _ (hk 0 (by decide));have bi:=Blk.new w 3 #[.int .i64 0,.int .i64 1];have f0:Fr Non w (w.alloc (.cells #[.int .i64 0,.int .i64 1] 3)):=(Fr.refl Non w).alloc _;have km:=lh (S1 (w.alloc (.cells #[.int .i64 0,.int .i64 1] 3)).heap.size 2 2 (some ⟨w.heap.size,0,none⟩) ([0,1]:List Int) (w.alloc (.cells #[.int .i64 0,.int .i64 1] 3)) rfl (Rd.blk (n:=2) (size:=1) bi rfl) (by decide) (by intro x hx;simp only [List.mem_cons,Ao2,or_false] at hx;rcases hx with rfl|rfl<;>exact ⟨by decide,by decide⟩))
 unfold Hv at km;have aw:Hid (∀wz,Fr Non w wz->Af true w (.returned (.bool true)) wz):=fun wz h=>⟨rfl,h⟩;generalize Af true w=POST at*;clear bi;replace hk:=lh hk;go_enter func17,ntmps17;go_upto_region 2 with (go_at_call 10;(with_reducible refine (km.out).mono ?_);rintro _ w1 ⟨r,rfl,f1,ro,ak,a1⟩;(have bn:=Blk.new w1 28 #[.slice none 0 0,.slice none 0 0,.slice none 0 0,.slice none 0 0]);(have a2:=Cm (P:=zp) w1.heap.size 28 (cs:=r.cells) Cu (old:=#[.slice none 0 0,.slice none 0 0,.slice none 0 0,.slice none 0 0]) rfl (Gn r)))
 have bg:Blk ((w1.alloc (.cells #[.slice none 0 0,.slice none 0 0,.slice none 0 0,.slice none 0 0] 28)).setRow w1.heap.size r.cells) w1.heap.size 28 r.cells:=bn.setRow;have fG:Fr Non w1 ((w1.alloc (.cells #[.slice none 0 0,.slice none 0 0,.slice none 0 0,.slice none 0 0] 28)).setRow w1.heap.size r.cells):=((Fr.refl Non w1).alloc _).setRow (fun hh=>absurd hh (by omega)) _;have f2:=(f0.trans f1 zr).trans fG zr;have ad:=ro.non fG;obtain ⟨gv,br⟩:=Aa w1.heap.size;rw [br.out] at bg f2 ⊢;rw [br.out] at ad;clear a2 bn fG ro f1 km;generalize (w1.alloc (.cells #[.slice none 0 0,.slice none 0 0,.slice none 0 0,.slice none 0 0] 28)).setRow gv r.cells=w2 at*;have ab:r.l.length=2:=by rw [a1];exact An4
 have g0:Hid (r.cells[0]? =some (.slice r.cA 4 r.cC)):=by show r.cells[0]? =_;rw [show (4:Nat)=r.cards.length by rw [ak,It];rfl];rfl
 have g1:Hid (r.cells[1]? =some (.slice r.lA 2 r.lC)):=by show r.cells[1]? =_;rw [<- ab];rfl
 have c0:cS w2 gv 0 r.cA 4 r.cC:=(bg.cell 0).trans g0.out
 have kn:Hid (Calls zp 19 #[.slice r.cA 4 r.cC] w2 (Fp r.cards w2)):=by
  have aj:=ad.cards.sl.rd;rw [show r.cards.length=4 by rw [ak,It];rfl,ak] at aj;rw [ak];exact Ss w2.heap.size 4 r.cC r.cA [1,2,2,3] w2 rfl (by decide) aj (Ao9 aq f2.size)
 unfold Fp at kn;go_upto_region 3 with (go_at_call 19;(with_reducible refine (kn.out).mono ?_);rintro _ w3 ⟨s,rfl,hs,a2,bj,f3⟩)
 have b5:=f2.trans f3 zr;have cb:=ad.non f3;have b9:=bg.fr f3 zq;clear kn c0 g0;obtain ⟨sb,bc⟩:=Aa s.rb;rw [bc.out];obtain ⟨n1,y1,b1,o1,a6,bf,a7,b2,a3,bp⟩:=ad.place (p:=1) (by rw [ab];decide);obtain ⟨n0,y0,b0,o0,bd,a4,ba,bo,bh,aj⟩:=ad.place (p:=0) (by rw [ab];decide);obtain ⟨rfl,rfl⟩:b0=b1/\o0=o1:=by rw [bh] at a3;injection a3 with e;injection e with e1 e2;exact ⟨e1,e2⟩
 have c2:w2.cell? ⟨gv,1,none⟩=some (.slice (some ⟨b0,o0,none⟩) 2 r.lC):=by rw [<- bh];exact (bg.cell 1).trans g1.out
 have c1:=f3.cell c2 zq;have be:y1.op=lvO 1:=by rw [bf];unfold lvO;rw [<- a1,a6]
 have bm:y0.op=lvO 0:=by rw [a4];unfold lvO;rw [<- a1,bd]
 have ao:=lh (K5 y1 w3 (b2.non f3).at a7);have al:=lh (fun (w':World) (h:Fr Non w2 w')=>K5 y0 w' (bo.non h).at ba);unfold NewB at ao al;have bl:Hid (∃m,y1.op.put.length=m/\m<=500000):=⟨_,rfl,by rw [bf];exact Mu ad.rows a6⟩;have bz:Hid (∃m,y0.op.put.length=m/\m<=500000):=⟨_,rfl,by rw [a4];exact Mu ad.rows bd⟩;obtain ⟨m1,e1,z1⟩:=bl.out;obtain ⟨m0,e0,z0⟩:=bz.out;have af:=Fk (P:=zp) y1.cells b0 (o0+1*27) underlying55 rfl au w3 (bp.fr f3 zq);have aa:=Fk (P:=zp) y0.cells b0 (o0+0*27) underlying55 rfl au;rw [Nat.zero_mul,Nat.add_zero] at aa aj;rw [Nat.one_mul] at af;rw [e1] at ao;rw [e0] at al;have bb:s.g.cards=An 0 [1,2,2,3]:=by rw [bj.out,ak]
 have ar:=lh (fun (A:Option Addr) (c:Nat) (w':World) (hf:Fr Non w3 w') (hrd:Rd w' w'.heap.size 1 A m1 (y1.op.put.map Bv))=>Mp w2.heap.size w'.heap.size m1 c A s y1.op w' (hs.out.non hf) (hk.out.fr (b5.trans hf zr)) e1 hrd (by omega) a7);have a0:=lh (fun (A:Option Addr) (c:Nat) (s':Ae) (w':World) (hs':s'.okAt w' w2.heap.size) (hf:Fr Non w2 w') (hrd:Rd w' w'.heap.size 1 A m0 (y0.op.put.map Bv))=>Mp w2.heap.size w'.heap.size m0 c A s' y0.op w' hs' (hk.out.fr (f2.trans hf zr)) e0 hrd (by omega) ba);unfold TakeRPost at ar a0;rw [bc.out,a2.out,bb,be] at ar;obtain ⟨bq,bx⟩:=An5;obtain ⟨bv,bk,bt⟩:=An6;rw [bq] at ar;obtain ⟨Y1,ca⟩:=Aa y1.cells;obtain ⟨Y0,b8⟩:=Aa y0.cells;rw [ca.out] at af ao;rw [b8.out] at aa al aj;rw [be] at ao;rw [bm] at al a0;clear bl bz a6 bd bf a4 b2 bo a3 bh g1 a1 ab cb ad bg b9 bp be bm ak bq e1 e0 a7 ba aq;generalize hT1:(Bd (An 0 [1,2,2,3]) ([],[]) (lvO 1)).2=T1 at*;replace hT1:=lh hT1;generalize (lvO 1).put=P1 at*
 go_upto_region 6 with (first
  |(go_at_call 23;(with_reducible refine (ao.out).mono ?_);rintro _ w4 ⟨A4,c4,rfl,o4,f4⟩)
  |(go_at_call 22;(with_reducible refine (ar.out _ _ _ f4 o4.rd).mono ?_);rintro _ w5 ⟨rfl,s5,ap,ag⟩))
 have b3:Fr Non w2 w5:=(hs.out.non f4).below ap.out.fr (f3.trans f4 zr) (Ao3 _);have c5:=b3.cell c2 zq;have ah:Hid (s5.rb=sb):=ap.out.rb.trans bc.out;have a9:Hid (s5.g.cards=An 0 [1,2,2,3]):=ap.out.cards.trans bb;have ac:Hid (s5.okAt w5 w2.heap.size):=ap.out.ok
 have b6:Hid (s5.ws.length=1):=by
  show _=_;have:=congrArg (fun z:List Pn × List Op=>z.2.length) ag.out;unfold Ae.st at this;simp only [Ap6] at this;rw [this,bx]
 have a8:=lh (Jw w2.heap.size s5 w5 ac.out);rw [ah.out,b6.out] at a8;clear ap hs a2 bj ar ao bb f4 o4 af c1 bx;go_upto_region 7 with (go_at_call 13;(with_reducible refine (a8.out).mono ?_);rintro _ w6 ⟨rfl,f6⟩)
 have ay:=b3.trans f6 zr;have c6:=f6.cell c5 zq;have cc:=aa w6 (aj.fr ay zq);have bu:=lh (al.out w6 ay);have a5:=lh (fun (A:Option Addr) (c:Nat) (w':World) (hf:Fr Non w6 w') (hrd:Rd w' w'.heap.size 1 A m0 ((lvO 0).put.map Bv))=>a0.out A c s5 w' (ac.out.non (f6.trans hf zr)) (ay.trans hf zr) hrd);rw [ah.out,ag.out,a9.out,bv] at a5;clear al a0 aa a8 c5 bv;generalize (lvO 0).put=P0 at*
 go_upto_region 8 with (first
  |(go_at_call 23;(with_reducible refine (bu.out).mono ?_);rintro _ w7 ⟨A7,c7,rfl,o7,f7⟩)
  |(go_at_call 22;(with_reducible refine (a5.out _ _ _ f7 o7.rd).mono ?_);rintro _ w8 ⟨rfl,s8,ax,ai⟩))
 have b7:Fr Non w2 w8:=(ac.out.non (f6.trans f7 zr)).below ax.out.fr (ay.trans f7 zr) (Ao3 _);have av:Hid (s8.rb=sb):=ax.out.rb.trans ah.out;have ae:Hid (s8.okAt w8 w2.heap.size):=ax.out.ok
 have cd:Hid (s8.ws.length=0):=by
  show _=_;have:=congrArg (fun z:List Pn × List Op=>z.2.length) ai.out;unfold Ae.st at this;simp only [Ap6] at this;rw [this,bk]
 have b4:Hid (s8.g.pns.length=2):=by
  show _=_;have:=congrArg (fun z:List Pn × List Op=>z.1.length) ai.out;unfold Ae.st at this;dsimp only at this;rw [this,bt]
 have bs:=lh (Jw w2.heap.size s8 w8 ae.out);rw [av.out,cd.out] at bs;have az:=lh (fun (w':World) (h:Fr Non w8 w')=>Mq w2.heap.size s8 w' (ae.out.non h));have bw:(Ar (s8.g.pns.map Pn.id)).length=2:=by rw [Hk,Ap6];exact b4.out
 unfold Ev at az;rw [av.out] at az;generalize Ar (s8.g.pns.map Pn.id)=IS at*;rw [bw] at az;have hd:=lh (fun (w':World) (hf:Fr Non w8 w')=>aw.out w' ((f2.trans b7 zr).trans hf zr));clear ax ai ae ac ag bu a5 o7 c6 cc bk bt aw bw
 go_wp2_with (first
  |(go_at_call 13;(with_reducible refine (bs.out).mono ?_);rintro _ w9 ⟨rfl,f9⟩)
  |(go_at_call 15;(with_reducible refine (az.out _ f9).mono ?_);rintro _ wA ⟨AA,cA,rfl,oA,fA⟩;have hd:=lh (hd.out wA (f9.trans fA zr))))
 exact hd.out
end Oq
namespace Oq
attribute [local go_sem] Ao7 Ao8
attribute [local go_sem ↓] Gm
theorem An8 {L K p:Nat} (hp:p<L):∃j,j<L/\(L-1-j+K)%L=p:=by
 refine ⟨(L-1+K-p)%L,Ao5 _ (by omega),?_⟩;have h1:=Nat.div_add_mod (L-1+K-p) L;have h2:(L-1+K-p)%L<L:=Ao5 _ (by omega);generalize (L-1+K-p)%L=j at*;generalize (L-1+K-p)/L=d at*;have e:L-1-j+K=p+L*d:=by omega
 rw [e,Nat.add_mul_mod_self_left,Nat.mod_eq_of_lt hp]
def Jz (L:Nat) (w:World) (e:Ending) (w':World):Prop:=
 ∃(ps:List Nat) (A:Option Addr) (n c:Nat),e=.returned (.slice A n c)/\Hid (ps.length=n)/\Own w' w.heap.size 3 1 A n c (ps.map Qv)/\Hid (∀p∈ps,p<L)/\Hid (∀p,p<L->p∈ps)/\n<=400/\Fr Non w w'
theorem S2 (base B m c:Nat) (x:FG) (A:Option Addr) (turn:Int) (ag:List Int) (w:World) (h:x.own w base) (hne:x.l≠[]) (ht:I64 turn) (hn:Hid (ag.length=m)) (hr:Rd w B 1 A m (ag.map Iv)) (hok:∀x∈ag,I64 x):
  Calls zp 12 #[.agg x.cells,.int .i64 turn,.slice A m c] w (Jz x.l.length w):=by
 have ak:=h.num.few;have a2:0<x.l.length:=List.length_pos_iff.2 hne;have bg:=Blk.new w 28 x.cells;have f0:Fr Non w (w.alloc (.cells x.cells 28)):=(Fr.refl Non w).alloc _;have g1:Hid (x.cells[1]? =some (.slice x.lA x.l.length x.lC)):=rfl;obtain ⟨L,hL⟩:=Aa x.l.length;rw [hL.out] at g1 ak a2 ⊢;have az:=hr.fr f0 zr;obtain ⟨gx,aq⟩:=Aa w.heap.size;have ac:Hid (∀(ps:List Nat) (A:Option Addr) (n c:Nat) (w':World),Hid (ps.length=n)->Own w' w.heap.size 3 1 A n c (ps.map Qv)->Hid (∀p∈ps,p<L)->Hid (∀p,p<L->p∈ps)->n<=400->Fr Non w w'->Jz L w (.returned (.slice A n c)) w'):=fun ps A n c w' h1 h2 h3 h4 h5 h6=>⟨ps,A,n,c,rfl,h1,h2,h3,h4,h5,h6⟩;generalize Jz L w=POST at*;obtain ⟨XG,ay⟩:=Aa x.cells;rw [ay.out] at bg f0 az g1 ⊢;rw [aq.out] at bg ac;have aj:gx<=w.heap.size:=by rw [aq.out];exact Ao3 _
 clear h hr ay;have av:=lh (fun (v:World)=>J8 turn (L:Int) v ht.1 ht.2 (by omega) (by omega));obtain ⟨K,hK⟩:∃K:Nat,Cv turn (L:Int)=(K:Int):=⟨_,(Ap2 (Gs (n:=turn) (m:=(L:Int)) (by omega)).1).symm⟩;have a8:K<L:=by have:=(Gs (n:=turn) (m:=(L:Int)) (by omega)).2;omega
 rw [hK] at av
 have a5:Hid (∀(q:Int) (v:World),I64 q->∃P:Nat,P<L/\Calls zp 18 #[.int .i64 q,.int .i64 (L:Int)] v fun e w'=>e=.returned (.int .i64 (P:Int))/\v=w'):=by
  intro q v hq;have hb:=Gs (n:=q) (m:=(L:Int)) (by omega);refine ⟨(Cv q (L:Int)).toNat,by omega,?_⟩;have:=J8 q (L:Int) v hq.1 hq.2 (by omega) (by omega);rw [Ap2 hb.1];exact this
 have a9:¬(L:Int)=0:=by omega
 have a4:¬L=0:=by omega
 have bc:((L:Int)==0)=false:=beq_eq_false_iff_ne.2 (by omega);clear hK ht hne;go_enter func12,ntmps12;go_upto_region 1 with (fail)
 try rw [aq.out]
 generalize w.alloc (.cells XG 28)=w0 at*;have c1:cS w0 gx 1 x.lA L x.lC:=(bg.cell 1).trans g1.out;go_upto_region 3 with (go_at_call 18;(with_reducible refine (av.out _).mono ?_);rintro _ _ ⟨rfl,rfl⟩)
 have ar:gx<=w0.heap.size:=Ao6 aj f0.size;clear g1 bg av;go_wp2_with fail
 go_loopw [7,9] (fun s v wr=>∃(i M cq:Nat) (Aq:Option Addr) (ps:List Nat),s=.slice Aq M cq/\v=.int .i64 (i:Int)/\i<=L/\Hid (ps.length=M)/\M<=2*i/\Own wr w0.heap.size 3 1 Aq M cq (ps.map Qv)/\Hid (∀p∈ps,p<L)/\Hid (∀j,j<i->(L-1-j+K)%L∈ps)/\Fr Non w0 wr) (fun s v _=>L-(intOf v).toNat)
 case atStart=>exact ⟨0,0,0,none,[],rfl,rfl,by omega,rfl,by omega,Own.nil _ _ _ _,fun p hp=>absurd hp Ao2,fun j hj=>absurd hj (Nat.not_lt_zero j),Fr.refl _ _⟩
 case round=>
 obtain ⟨i,M,cq,Aq,ps,rfl,rfl,hi,ao,hM,own,ai,ab,hf⟩:=hrel;have cL:=hf.cell c1 zq
 by_cases hin:i<L
 case neg=>
  obtain rfl:i=L:=by omega
  have t0:decide ((i:Int)<(i:Int))=false:=decide_eq_false (by omega);have a7:decide (i<i)=false:=decide_eq_false (by omega);have hd:=lh (ac.out ps Aq M cq wr ao (own.lower ar) ai (fun p hp=>by obtain ⟨j,h1,h2⟩:=An8 (K:=K) hp;rw [<- h2];exact ab.out j h1) (by omega) (f0.trans hf zr));clear ac ab ai own;go_wp2_with fail;exact hd.out
 case pos=>
 have t0:decide ((i:Int)<(L:Int))=true:=decide_eq_true (by omega);have a7:decide (i<L)=true:=decide_eq_true hin;obtain ⟨P,hP⟩:∃P:Nat,Hid ((L-1-i+K)%L=P):=⟨_,rfl⟩;have a6:P<L:=by rw [<- hP.out];exact Ao5 _ (by omega)
 have e1:=iw ((L:Int)-1);have e2:=iw ((L:Int)-1-(i:Int));have e3:=iw ((L:Int)-1-(i:Int)+(K:Int))
 have e4:((L:Int)-1-(i:Int)+(K:Int)).tmod (L:Int)=(P:Int):=by
  rw [Ap1 (by omega),<- hP.out];rw [show (L:Int)-1-(i:Int)+(K:Int)=((L-1-i+K:Nat):Int) by omega];exact (Int.natCast_emod _ _).symm
 have e5:=iw (P:Int);have e6:=iw ((i:Int)+1);have bF:=Blk.new wr 3 #[.int .i64 (P:Int)];have af:=own.cap;have a3:w0.heap.size<=wr.heap.size:=hf.size
 have ae:Hid ((ps++[P]).length=M+1/\(∀p∈ps++[P],p<L)/\(∀j,j<i+1->(L-1-j+K)%L∈ps++[P])/\(ps++[P]).map Qv=ps.map Qv++[.int .i64 (P:Int)]):=by
  refine ⟨by rw [Ap4,ao.out];rfl,fun p hp=> ?_,fun j hj=> ?_,by rw [Ap3];rfl⟩
  ·
   rcases List.mem_append.1 hp with h1|h1
   · exact ai.out p h1
   · rw [List.mem_singleton.1 h1];exact a6
  ·
   rcases Nat.lt_or_ge j i with h1|h1
   · exact Ap9 _ (ab.out j h1)
   ·
    obtain rfl:j=i:=by omega
    rw [hP.out];exact List.mem_append_right _ (List.mem_singleton.2 rfl)
 clear ai ab ao hP;go_upto_region 7 with (at_builtin;go_loud (refine As (base:=w0.heap.size) (.tmp 22) (.tmp 35) 22 rfl rfl rfl rfl Eo (own.alloc (.cells #[.int .i64 (P:Int)] 3)) (Rd.blk (n:=1) (size:=1) bF rfl) (by simp [Value.oneCell']) (by omega) (by omega) (by rw [Ao4];omega) ?_);intro A8 c8 w8 aa a0 ap)
 have f8:Fr Non w0 w8:=(hf.alloc (.cells #[.int .i64 (P:Int)] 3)).trans a0 (fun k hk e=>by have:=(own.row k e).1;omega);obtain ⟨g1,g2,g3,g4⟩:=ae.out;rw [<- g4] at aa;replace g1:=lh g1;replace g2:=lh g2;replace g3:=lh g3;clear g4 ae a0 ap bF own hf a3 cL af;generalize ps++[P]=qs at*;have C0:=f8.cell c1 zq
 by_cases hag:i<m/\i<10
 case neg=>
  have u0:(decide ((i:Int)<(m:Int))=false/\decide (i<m)=false)\/(decide ((i:Int)<(m:Int))=true/\decide ((i:Int)<10)=false/\decide (i<m)=true/\decide (i<10)=false):=by
   by_cases h1:i<m
   · exact .inr ⟨decide_eq_true (by omega),decide_eq_false (by omega),decide_eq_true h1,decide_eq_false (fun h2=>hag ⟨h1,h2⟩)⟩
   · exact .inl ⟨decide_eq_false (by omega),decide_eq_false h1⟩
  rcases u0 with ⟨u0,u0n⟩|⟨u0,u1,u2,u3⟩
  ·
   go_wp2_with fail;go_roundw
   case rel=>exact ⟨i+1,M+1,c8,A8,qs,rfl,by go_num,by omega,g1,by omega,aa,g2,g3,f8⟩
   case measure=>simp [intOf];omega
  ·
   go_wp2_with fail;go_roundw
   case rel=>exact ⟨i+1,M+1,c8,A8,qs,rfl,by go_num,by omega,g1,by omega,aa,g2,g3,f8⟩
   case measure=>simp [intOf];omega
 case pos=>
 have u0:decide ((i:Int)<(m:Int))=true:=decide_eq_true (by omega);have u1:decide ((i:Int)<10)=true:=decide_eq_true (by omega);have u2:decide (i<m)=true:=decide_eq_true hag.1;have u3:decide (i<10)=true:=decide_eq_true hag.2;obtain ⟨q,hq⟩:∃q,ag[i]? =some q:=⟨_,Ap5 (by rw [hn.out];exact hag.1)⟩;obtain ⟨ba,oa,u,rfl,_,hu,d0⟩:=az.at hag.1;rw [Ap8,hq] at hu;injection hu with hu
 subst hu;replace d0:cI w0 ba (oa+i) q:=d0;have D0:=f8.cell d0 zq;obtain ⟨Q,hQ,kQ⟩:=a5.out q w8.drew (hok q (Ap0 hq));replace kQ:=lh kQ;obtain ⟨i1,i2,i3⟩:=ix i m
 have af:=aa.cap;go_upto_region 8 with (fail)
 have F0:Fr Non w8 w8.drew:=(Fr.refl Non w8).drew;refine wp_region_held_drew (S:=fun w'=>cS w' gx 1 x.lA L x.lC/\cI w' ba (oa+i) q) (by kernel_rfl) ⟨C0,D0⟩ (fun hHeld=> ?_);clear hHeld;have uu:=aI C0 D0;refine tkH 0 uu (h:=tkH 1 uu (h:=tkH 2 uu (h:=tkH 3 uu (h:=tkH 4 uu (h:=tkH 5 uu (h:=tkH 6 uu (h:=tkH 7 uu (h:=?_))))))));clear uu;simp only [zl];refine oG 8 (fun K hK=> ?_);go_simp;go_wp2_with (go_at_call 18;(with_reducible refine (kQ.out).mono ?_);rintro _ _ ⟨rfl,rfl⟩);refine hK.out _ _ ⟨C0,D0⟩ (fun hZ=> ?_);clear hZ hK K;try simp only [Ai,zl]
 refine oG 9 (fun K hK=> ?_);go_simp;have a1:=(Blk.new w8 3 #[.int .i64 (Q:Int)]).drew;have F1:Fr Non w8 (w8.alloc (.cells #[.int .i64 (Q:Int)] 3)).drew:=((Fr.refl Non w8).alloc _).drew;obtain ⟨nb,au⟩:=Aa w8.heap.size;rw [au.out] at a1 ⊢;generalize (w8.alloc (.cells #[.int .i64 (Q:Int)] 3)).drew=v1 at*;obtain ⟨C1,D1⟩:=zk2 F1 C0 D0;refine hK.out _ _ ⟨C1,D1⟩ (fun hZ=> ?_);clear hZ hK K;try simp only [Ai,zl]
 refine oG 10 (fun K hK=> ?_);have aw:Fr Non w0 v1:=f8.trans F1 zr;have bb:=aw.size;refine Em (base:=w0.heap.size) (.tmp 45) (.tmp 54) 22 rfl rfl rfl Eo (aa.fr F1 zr) (Rd.blk (n:=1) (size:=1) a1 rfl) (by simp [Value.oneCell']) (by omega) (by omega) (by omega) ?_;intro A9 c9 v2 ah ax al;have f9:Fr Non w0 v2:=aw.trans ax (fun k hk e=>by have:=(aa.row k e).1;omega);obtain ⟨C2,D2⟩:=zk2 f9 c1 d0;refine hK.out _ _ ⟨C2,D2⟩ (fun hZ=> ?_);clear hZ hK K;try simp only [Ai,zl]
 refine tkH 11 ⟨C2,D2⟩ (h:=?_);simp only [zl];refine oD ?_;go_simp;have h1:Hid ((qs++[Q]).length=M+1+1):=by show _=_;rw [Ap4,g1.out];rfl
 have h2:Hid (∀p∈qs++[Q],p<L):=fun p hp=>by
  rcases List.mem_append.1 hp with h1|h1
  · exact g2.out p h1
  · rw [List.mem_singleton.1 h1];exact hQ
 have h3:Hid (∀j,j<i+1->(L-1-j+K)%L∈qs++[Q]):=fun j hj=>Ap9 _ (g3.out j hj);have ad:Own v2 w0.heap.size 3 1 A9 (M+1+1) c9 ((qs++[Q]).map Qv):=by rw [Ap3];exact ah
 clear ah aa ax al g1 g2 g3 kQ;go_wp2_with fail;go_roundw
 case rel=>exact ⟨i+1,M+1+1,c9,A9,qs++[Q],rfl,by go_num,by omega,h1,by omega,ad,h2,h3,f9⟩
 case measure=>simp [intOf];omega
end Oq
end
end Go.Proofs.YtgbdljlapmjmnaaGreatDoor
