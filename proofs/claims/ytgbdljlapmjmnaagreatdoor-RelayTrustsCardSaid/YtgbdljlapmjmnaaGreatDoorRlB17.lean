/-
  Contracts of the functions that the claim's statement reaches, walked one by one (part 17).
  Conditions: as each theorem says.
-/
import Derived.Test.YtgbdljlapmjmnaaGreatDoorRlB16
set_option maxRecDepth 100000
set_option maxHeartbeats 16000000
open Bool renaming not_false->At1,not_true->At2,eq_iff_iff->At9,and_eq_true->Au4,not_eq_true'->Au6,false_ne_true->Au7
open Int renaming tmod_eq_emod_of_nonneg->Au2,tdiv_eq_ediv_of_nonneg->Au3
open List renaming not_mem_nil->As9,getElem?_eq_getElem->At0,mem_of_getElem?->At4,length_map->Au0,mem_map_of_mem->Au1,any_eq_true->Au5
open Nat renaming le_refl->At3,lt_of_lt_of_le->At5,mod_lt->At7,le_trans->At8
open Go.World renaming size_alloc->At6
open Go.Proofs.Tryz
open Go.Proofs.Tryz renaming prog->zp
open Go.Lib renaming hid->lh
open List renaming set->zl
open Go.Ending renaming returned->ze
namespace Go.Proofs.YtgbdljlapmjmnaaGreatDoor
open Go.RowKit
attribute [local go_sem ↓] Go.wp_at_zero Go.wp_at_succ
namespace Oq
attribute [local go_sem] At1 At2
attribute [local go_sem ↓] E9 Be Ia C4
def fg0 (A:Option Addr) (c:Nat) (cs:List Cd):FG:=⟨A,c,cs,none,0,[],none,0,none,0,[],[]⟩
theorem Ao8 {A:Option Addr} {c:Nat} {cs:List Cd} {w:World} {base:Nat} (h:RowAt w base 96 5 A cs.length c (cs.flatMap Cd.cells)) (hf:cs.length<=1000) (hk:∀c∈cs,c.s<18446744073709551616):(fg0 A c cs).own w base where
 cards:=h
 ops:=RowAt.nil _ _ _ _
 each _ hx:=absurd hx As9
 same:=rfl
 ok _ hx:=absurd hx As9
 ids:=RowAt.nil _ _ _ _
 pasts:=RowAt.nil _ _ _ _
 eachP _ hx:=absurd hx As9
 lenP:=rfl
 sameP _ _ _ hx _:=by cases hx
 rows:=Rows.nil
 num:=⟨fun _ hn=>absurd hn As9,fun _ hn=>absurd hn As9,fun _ hn=>absurd hn As9,fun _ hn=>absurd hn As9,by show 0<=14;decide⟩
 cfew:=hf
 cok:=hk
theorem Ao9:∀c∈As 0 [1,2,2,3],c.s<18446744073709551616:=fun c hc=>by
 obtain ⟨xs,h1,_,_,h4⟩:=Mr [1,2,2,3] 0 (by decide);rw [<- h1] at hc;obtain ⟨x,hx,rfl⟩:=List.mem_map.1 hc;exact h4 x hx
def Ha (l0:List Int) (w:World) (e:Ending) (w':World):Prop:=
 ∃r:FG,e=.returned (.agg r.cells)/\Fr Non w w'/\r.own w' w.heap.size/\r.cards=As 0 [1,2,2,3]/\r.l=Kk l0
def Ap0:OpL:={OpL.zero with by_:=1,sq:=1,kind:=1}
theorem Ni:OpL.zero.op.ok:=by
 have z:I64 0:=⟨by decide,by decide⟩;have u:U64 0:=by unfold U64;decide
 have e:∀{α:Type} {P:α->Prop},(([]:List α).length<=1000/\∀x∈([]:List α),P x):=⟨by simp,fun _ h=>absurd h As9⟩;exact {by_:=z,sq:=z,kind:=z,at_:=z,past:=e,dev:=z,old:=z,mem:=z,role:=z,path:=e,epoch:=⟨z,z,u⟩,n:=z,body:=by decide,refs:=e,of:=⟨z,z,u⟩,guards:=e,need:=z,wait:=z,boxes:=e,pub:=u,hist:=e,r:=u,s:=u}
theorem Gj {w:World} {base:Nat} {x y:OpL} (h:x.lies w base) (h1:y.pastA=x.pastA/\y.pastC=x.pastC/\y.past=x.past) (h2:y.pathA=x.pathA/\y.pathC=x.pathC/\y.path=x.path) (h3:y.bodyA=x.bodyA/\y.bodyC=x.bodyC/\y.body=x.body) (h4:y.refsA=x.refsA/\y.refsC=x.refsC/\y.refs=x.refs) (h5:y.guardsA=x.guardsA/\y.guardsC=x.guardsC/\y.guards=x.guards) (h6:y.boxesA=x.boxesA/\y.boxesC=x.boxesC/\y.boxes=x.boxes) (h7:y.histA=x.histA/\y.histC=x.histC/\y.hist=x.hist):y.lies w base:=by
 obtain ⟨a1,a2,a3⟩:=h1;obtain ⟨b1,b2,b3⟩:=h2;obtain ⟨c1,c2,c3⟩:=h3;obtain ⟨d1,d2,d3⟩:=h4;obtain ⟨e1,e2,e3⟩:=h5;obtain ⟨f1,f2,f3⟩:=h6;obtain ⟨g1,g2,g3⟩:=h7;exact ⟨by rw [a1,a2,a3];exact h.past,by rw [b1,b2,b3];exact h.path,by rw [b3];exact h.nodes,by rw [c1,c2,c3];exact h.body,by rw [d1,d2,d3];exact h.refs,by rw [e1,e2,e3];exact h.guards,by rw [f1,f2,f3];exact h.boxes,by rw [g1,g2,g3];exact h.hist,by rw [g3];exact h.seals⟩
structure Ed (w7 v:World) (base go:Nat) (x:OpL) (A:Option Addr) (n c:Nat) (on:List Nat):Prop where
 b:Blk v go 55 x.cells
 f:Fr Non w7 v
 l:x.lies v base
 os:Own v (go+1) 3 1 A n c (on.map Qv)
 len:on.length=n
 gd:x.guardsA=none/\x.guardsC=0/\x.guards=[]
 gs:w7.heap.size<=go
 sz:go<v.heap.size
theorem Ed.non {w7 v v':World} {base go:Nat} {x:OpL} {A:Option Addr} {n c:Nat} {on:List Nat} (s:Ed w7 v base go x A n c on) (hf:Fr Non v v'):Ed w7 v' base go x A n c on:=
 ⟨s.b.fr hf zq,s.f.trans hf zr,s.l.non hf,s.os.fr hf zr,s.len,s.gd,s.gs,At5 s.sz hf.size⟩
theorem Ed.app {w7 v v':World} {base go:Nat} {x:OpL} {A A':Option Addr} {n c n' c':Nat} {on on':List Nat} (s:Ed w7 v base go x A n c on) (hf:Fr (fun k=>Ab A=some k) v v') (ho:Own v' (go+1) 3 1 A' n' c' (on'.map Qv)) (hl:on'.length=n'):Ed w7 v' base go x A' n' c' on':=
 ⟨s.b.fr hf (fun e=>by have:=(s.os.row _ e).1;omega),s.f.trans hf (fun k hk e=>by have:=(s.os.row k e).1;have:=s.gs;omega),⟨s.l.past.keepT hf ((Types.row s.os).not (by decide)),s.l.path.keepT hf ((Types.row s.os).not (by decide)),fun y hy=>(s.l.nodes y hy).keepT hf ((Types.row s.os).not (by decide)),s.l.body.keepT hf ((Types.row s.os).not (by decide)),s.l.refs.keepT hf ((Types.row s.os).not (by decide)),by (obtain ⟨h1,h2,h3⟩:=s.gd;rw [h1,h2,h3];exact ⟨SlAt.nil _ _ _,.inl rfl⟩),s.l.boxes.keepT hf ((Types.row s.os).not (by decide)),s.l.hist.keepT hf ((Types.row s.os).not (by decide)),fun y hy=>(s.l.seals y hy).keepT hf ((Types.row s.os).not (by decide))⟩,ho,hl,s.gd,s.gs,At5 s.sz hf.size⟩
theorem Ed.setB {w7 v:World} {base go:Nat} {x:OpL} {A:Option Addr} {n c:Nat} {on:List Nat} (s:Ed w7 v base go x A n c on) (j:Nat) (u:Value) (y:OpL) (hc:x.cells.setIfInBounds j u=y.cells) (hg:y.guardsA=none/\y.guardsC=0/\y.guards=[]) (hy:∀v',x.lies v' base->(∀(t:TypeId) (size n c:Nat) (A:Option Addr) (xs:List Value),t≠55->RowLies v base t size A n c xs->RowLies v' base t size A n c xs)->y.lies v' base):Ed w7 (v.setCell ⟨go,j,none⟩ u) base go y A n c on where
 b:=hc▸s.b.set j u
 f:=s.f.setNew (g:=go) (by have:=s.gs;omega) j u
 l:=hy _ (s.l.keepP ((Fr.refl (One go) v).setOne j u) (Types.one s.b) (by decide) (by decide) (by decide) (by decide) (by decide) (by decide) (by decide)) (fun _ _ _ _ _ _ ht h=>h.keepT ((Fr.refl (One go) v).setOne j u) ((Types.one s.b).not ht))
 os:=Own.setFar s.os s.b (by decide) u
 len:=s.len
 gd:=hg
 gs:=s.gs
 sz:=by have:=s.sz;first|exact this|(simp [World.setCell];omega)
theorem Nj (B n c:Nat) (A:Option Addr) (l0:List Int) (w:World) (hn:Hid (l0.length=n)) (hr:Rd w B 1 A n (l0.map Iv)) (hnm:n<=9223372036854775807) (hok:∀x∈l0,I64 x):
  Calls zp 10 #[.slice A n c] w (Ha l0 w):=by
 have kc:=lh (fun (w':World) (hr:Rd w' w'.heap.size 1 (some ⟨w.heap.size+1,0,none⟩) 4 (([1,2,2,3]:List Int).map Iv))=>Y3 4 4 (some ⟨w.heap.size+1,0,none⟩) [1,2,2,3] w' rfl (by decide) hr);have br:=(Blk.new w 28 #[.slice none 0 0,.slice none 0 0,.slice none 0 0,.slice none 0 0]).alloc (.cells #[.int .i64 1,.int .i64 2,.int .i64 2,.int .i64 3] 3);have bi:=Blk.new (w.alloc (.cells #[.slice none 0 0,.slice none 0 0,.slice none 0 0,.slice none 0 0] 28)) 3 #[.int .i64 1,.int .i64 2,.int .i64 2,.int .i64 3];rw [At6] at bi;have f0:Fr Non w ((w.alloc (.cells #[.slice none 0 0,.slice none 0 0,.slice none 0 0,.slice none 0 0] 28)).alloc (.cells #[.int .i64 1,.int .i64 2,.int .i64 2,.int .i64 3] 3)):=((Fr.refl Non w).alloc _).alloc _;go_enter func10,ntmps10;go_upto_region 1 with (fail)
 generalize hw0:(w.alloc (.cells #[.slice none 0 0,.slice none 0 0,.slice none 0 0,.slice none 0 0] 28)).alloc (.cells #[.int .i64 1,.int .i64 2,.int .i64 2,.int .i64 3] 3)=w0 at*;unfold Qp at kc
 have dx:Rd w0 w0.heap.size 1 (some ⟨w.heap.size+1,0,none⟩) 4 (([1,2,2,3]:List Int).map Iv):=by
  rw [<- hw0] at bi ⊢;exact Rd.blk (n:=4) (size:=1) bi rfl
 go_upto_region 2 with (go_at_call 44;(with_reducible refine (kc.out _ dx).mono ?_);rintro _ w1 ⟨A1,c1,rfl,o1,f1⟩;have c5:=f0.trans f1 zr;have b6:=br.fr f1 zq;have bn:=Blk.new w1 28 #[.slice none 0 0,.slice none 0 0,.slice none 0 0,.slice none 0 0];have az:=Cl (P:=zp) w1.heap.size 28 (cs:=#[.slice A1 4 c1,.slice none 0 0,.slice none 0 0,.slice none 0 0]) Cv (old:=#[.slice none 0 0,.slice none 0 0,.slice none 0 0,.slice none 0 0]) rfl (by simp [Value.oneCell']))
 have co:=(b6.alloc (.cells #[.slice none 0 0,.slice none 0 0,.slice none 0 0,.slice none 0 0] 28)).setRow_far (g':=w1.heap.size) (by have:=b6.lt;omega) (cs:=#[.slice A1 4 c1,.slice none 0 0,.slice none 0 0,.slice none 0 0]);have bx:Blk ((w1.alloc (.cells #[.slice none 0 0,.slice none 0 0,.slice none 0 0,.slice none 0 0] 28)).setRow w1.heap.size #[.slice A1 4 c1,.slice none 0 0,.slice none 0 0,.slice none 0 0]) w1.heap.size 28 (fg0 A1 c1 (As 0 [1,2,2,3])).cells:=bn.setRow (cs:=#[.slice A1 4 c1,.slice none 0 0,.slice none 0 0,.slice none 0 0]);have fG:Fr Non w1 ((w1.alloc (.cells #[.slice none 0 0,.slice none 0 0,.slice none 0 0,.slice none 0 0] 28)).setRow w1.heap.size #[.slice A1 4 c1,.slice none 0 0,.slice none 0 0,.slice none 0 0]):=((Fr.refl Non w1).alloc _).setRow (fun hh=>absurd hh (by omega)) _;have ea:w.heap.size<w1.heap.size:=b6.lt;have ec:w.heap.size<=w0.heap.size:=f0.size;have f3:=c5.trans fG zr;have aq:(fg0 A1 c1 (As 0 [1,2,2,3])).own ((w1.alloc (.cells #[.slice none 0 0,.slice none 0 0,.slice none 0 0,.slice none 0 0] 28)).setRow w1.heap.size #[.slice A1 4 c1,.slice none 0 0,.slice none 0 0,.slice none 0 0]) w.heap.size:=Ao8 ((RowAt.of_own (o1.fr fG zr)).lower (by omega)) (by decide) Ao9;have bd:w1.heap.size<((w1.alloc (.cells #[.slice none 0 0,.slice none 0 0,.slice none 0 0,.slice none 0 0] 28)).setRow w1.heap.size #[.slice A1 4 c1,.slice none 0 0,.slice none 0 0,.slice none 0 0]).heap.size:=bx.lt;clear az bn b6 br o1 fG c5 dx f1;obtain ⟨gv,d3⟩:=Aa w1.heap.size;rw [d3.out] at bx aq co f3 ea bd ⊢;generalize (w1.alloc (.cells #[.slice none 0 0,.slice none 0 0,.slice none 0 0,.slice none 0 0] 28)).setRow gv #[.slice A1 4 c1,.slice none 0 0,.slice none 0 0,.slice none 0 0]=w3 at*;have aw:(fg0 A1 c1 (As 0 [1,2,2,3])).cards=As 0 [1,2,2,3]:=rfl;have cr:(fg0 A1 c1 (As 0 [1,2,2,3])).l=[]:=rfl;generalize fg0 A1 c1 (As 0 [1,2,2,3])=r0 at*;clear bi kc hw0 f0 ec d3 w1 w0;have d0:=OpL.zero_own w3 w.heap.size;have kp:=Tm w.heap.size w3.heap.size 0 0 none r0 Ap0 [] w3 aq (Gj d0.lies ⟨rfl,rfl,rfl⟩ ⟨rfl,rfl,rfl⟩ ⟨rfl,rfl,rfl⟩ ⟨rfl,rfl,rfl⟩ ⟨rfl,rfl,rfl⟩ ⟨rfl,rfl,rfl⟩ ⟨rfl,rfl,rfl⟩) f3.size {Ni with by_:=(show I64 1 from ⟨by decide,by decide⟩),sq:=(show I64 1 from ⟨by decide,by decide⟩),kind:=(show I64 1 from ⟨by decide,by decide⟩)} ⟨rfl,rfl,rfl⟩ ⟨1,rfl,by omega⟩ ⟨by decide,by decide⟩ rfl (Rd.nil _ _ _ _) (by omega) (fun _ h=>absurd h As9) (by rw [cr];exact Ao6 aw);replace kp:Hid (Calls zp 45 #[.agg r0.cells,.agg #[.int .i64 1,.int .i64 1,.int .i64 1,.int .i64 0,.slice none 0 0,.int .i64 0,.int .i64 0,.int .i64 0,.int .i64 0,.slice none 0 0,.int .i64 0,.int .i64 0,.int .u64 0,.int .i64 0,.slice none 0 0,.slice none 0 0,.int .i64 0,.int .i64 0,.int .u64 0,.slice none 0 0,.int .i64 0,.int .i64 0,.slice none 0 0,.int .u64 0,.slice none 0 0,.int .u64 0,.int .u64 0],.slice none 0 0] w3 (Gi w.heap.size r0 (Ey 1) [] w3)):=kp;have hl:=B0 (P:=zp) gv 28 underlying28 rfl (cs:=r0.cells) Cv;clear d0;go_upto_region 3 with (go_at_call 45;(with_reducible refine (kp.out).mono ?_);rintro _ w4 ⟨r1,rfl,f4,a9,au,bh⟩;(have c0:=bx.fr f4 zq);(have az:=Cl (P:=zp) gv 28 (cs:=r1.cells) Cv (old:=r0.cells) rfl (Gh r1)))
 have bk:=a9.setG c0 r1.cells;have dp:Blk (w4.setRow gv r1.cells) gv 28 r1.cells:=c0.setRow;have di:=(co.fr f4 zq).setRow_far (g':=gv) (by omega) (cs:=r1.cells);have f5:=(f3.trans f4 zr).setRow (g:=gv) (fun hh=>absurd hh (by omega)) r1.cells;rw [aw] at au;rw [cr] at bh;replace bh:r1.l=Fc l0 0:=bh;clear az hl kp aq bx co f3 bd aw cr f4 a9 c0;generalize w4.setRow gv r1.cells=w5 at*;go_wp2_with fail
 go_loopw [4] (fun v wr=>∃(j I:Nat) (r:FG),Hid (I=2*j)/\v=.int .i64 (I:Int)/\j<=13/\j<=n/2/\Blk wr gv 28 r.cells/\r.own wr w.heap.size/\r.cards=As 0 [1,2,2,3]/\Hid (r.l=Fc l0 j)/\Blk wr w.heap.size 28 #[.slice none 0 0,.slice none 0 0,.slice none 0 0,.slice none 0 0]/\Fr Non w wr) (fun v _=>26-(intOf v).toNat)
 case atStart=>exact ⟨0,0,r1,rfl,rfl,by omega,by omega,dp,bk,au,bh,di,f5⟩
 case round=>
 clear dp bk au bh di f5;obtain ⟨j,I,r,hI,rfl,hj,e9,bn,ro,b2,a3,br,hf⟩:=hrel;have fc:I<=26:=by have:=hI.out;omega
 have e1:=iw ((I:Int)+1)
 by_cases hgo:I+1<n/\I<26
 ·
  have t1:decide ((I:Int)+1<(n:Int))=true:=decide_eq_true (by omega);have t2:decide ((I:Int)<26)=true:=decide_eq_true (by omega);have k1:=lh (fun (v:World) (hv:Fr Non w v)=>S5 B n c I A l0 v hn (hr.fr hv zr) hok hnm (by omega))
  have k2:Hid (∀(v:World),Fr Non w v->Calls zp 46 #[.slice A n c,.int .i64 ((I:Int)+1)] v fun e w'=>e=.returned (.int .i64 (C7 l0 (I+1):Int))/\Fr Non v w'):=fun v hv=>by
   have h:=S5 B n c (I+1) A l0 v hn (hr.fr hv zr) hok hnm (by omega);rwa [show (((I+1:Nat)):Int)=(I:Int)+1 from by omega] at h
  have aa:Hid (Fc l0 (j+1)=Nh r.l (C7 l0 I) (C7 l0 (I+1))):=by
   show Nh (Fc l0 j) (C7 l0 (2*j)) (C7 l0 (2*j+1))=_;rw [a3.out,hI.out]
  have ck:r.l≠[]:=by rw [a3.out];exact Kl l0 j
  have ct:r.l.length<=13:=by rw [a3.out];have:=Ts l0 j;have:=hI.out;omega
  obtain ⟨a,ha⟩:=Aa (C7 l0 I);obtain ⟨b,hb⟩:=Aa (C7 l0 (I+1));rw [ha.out] at k1 aa;rw [hb.out] at k2 aa;have fd:a<=1000000/\b<=1000000:=by rw [<- ha.out,<- hb.out];exact ⟨Ta _ _,Ta _ _⟩
  clear ha hb hok hr a3
  go_upto_region 8 with (first
   |(go_at_call 46;(with_reducible refine (k1.out _ hf).mono ?_);rintro _ w6 ⟨rfl,f6⟩;(have cg:=hf.trans f6 zr))
   |(go_at_call 46;(with_reducible refine (k2.out _ cg).mono ?_);rintro _ w7 ⟨rfl,f7⟩))
  have b3:=cg.trans f7 zr;have cv:=bn.fr (f6.trans f7 zr) zq;have dv:=br.fr (f6.trans f7 zr) zq;have ao:=ro.non (f6.trans f7 zr);clear bn br ro hf f6 f7 cg k1 k2;have a7:Hid (∀v,Fr Non w7 v->Blk v gv 28 r.cells):=fun v hv=>cv.fr hv zq;obtain ⟨D,hD⟩:=Aa (a%4);have ei:D<4:=by rw [<- hD.out];exact At7 _ (by omega)
  have e3:(a:Int).tmod 4=(D:Int):=by rw [Au2 (by omega),<- hD.out];rfl
  have e4:=iw (1+(D:Int));have es:=iw (D:Int);obtain ⟨X1,a0⟩:∃X:OpL,Hid (X={OpL.zero with by_:=(1:Int)+D,kind:=4}):=⟨_,rfl⟩;have bv:X1.cells=#[.int .i64 (1+(D:Int)),.int .i64 0,.int .i64 4,.int .i64 0,.slice none 0 0,.int .i64 0,.int .i64 0,.int .i64 0,.int .i64 0,.slice none 0 0,.int .i64 0,.int .i64 0,.int .u64 0,.int .i64 0,.slice none 0 0,.slice none 0 0,.int .i64 0,.int .i64 0,.int .u64 0,.slice none 0 0,.int .i64 0,.int .i64 0,.slice none 0 0,.int .u64 0,.slice none 0 0,.int .u64 0,.int .u64 0]:=by rw [a0.out];rfl
  have cp:(zp.info? 55).map (·.size)=some (#[.int .i64 (1+(D:Int)),.int .i64 0,.int .i64 4,.int .i64 0,.slice none 0 0,.int .i64 0,.int .i64 0,.int .i64 0,.int .i64 0,.slice none 0 0,.int .i64 0,.int .i64 0,.int .u64 0,.int .i64 0,.slice none 0 0,.slice none 0 0,.int .i64 0,.int .i64 0,.int .u64 0,.slice none 0 0,.int .i64 0,.int .i64 0,.slice none 0 0,.int .u64 0,.slice none 0 0,.int .u64 0,.int .u64 0]:Array Value).size:=by show _=some 27;kernel_rfl
  have az:=Cl (P:=zp) (t:=55) w7.heap.size 55 (cs:=#[.int .i64 (1+(D:Int)),.int .i64 0,.int .i64 4,.int .i64 0,.slice none 0 0,.int .i64 0,.int .i64 0,.int .i64 0,.int .i64 0,.slice none 0 0,.int .i64 0,.int .i64 0,.int .u64 0,.int .i64 0,.slice none 0 0,.slice none 0 0,.int .i64 0,.int .i64 0,.int .u64 0,.slice none 0 0,.int .i64 0,.int .i64 0,.slice none 0 0,.int .u64 0,.slice none 0 0,.int .u64 0,.int .u64 0]) cp (old:=zO) rfl (by rw [<- bv];exact Ek X1);have bo:=Blk.new w7 55 zO;go_upto_region 9 with (fail)
  have b4:Blk ((w7.alloc (.cells zO 55)).setRow w7.heap.size #[.int .i64 (1+(D:Int)),.int .i64 0,.int .i64 4,.int .i64 0,.slice none 0 0,.int .i64 0,.int .i64 0,.int .i64 0,.int .i64 0,.slice none 0 0,.int .i64 0,.int .i64 0,.int .u64 0,.int .i64 0,.slice none 0 0,.slice none 0 0,.int .i64 0,.int .i64 0,.int .u64 0,.slice none 0 0,.int .i64 0,.int .i64 0,.slice none 0 0,.int .u64 0,.slice none 0 0,.int .u64 0,.int .u64 0]) w7.heap.size 55 X1.cells:=bv▸bo.setRow;have f8:Fr Non w7 ((w7.alloc (.cells zO 55)).setRow w7.heap.size #[.int .i64 (1+(D:Int)),.int .i64 0,.int .i64 4,.int .i64 0,.slice none 0 0,.int .i64 0,.int .i64 0,.int .i64 0,.int .i64 0,.slice none 0 0,.int .i64 0,.int .i64 0,.int .u64 0,.int .i64 0,.slice none 0 0,.slice none 0 0,.int .i64 0,.int .i64 0,.int .u64 0,.slice none 0 0,.int .i64 0,.int .i64 0,.slice none 0 0,.int .u64 0,.slice none 0 0,.int .u64 0,.int .u64 0]):=((Fr.refl Non w7).alloc _).setRow (fun hh=>absurd hh (by omega)) _;have cq:=b4.lt;clear az bo;obtain ⟨go,bs⟩:=Aa w7.heap.size;rw [bs.out] at b4 f8 cq ⊢;generalize (w7.alloc (.cells zO 55)).setRow go #[.int .i64 (1+(D:Int)),.int .i64 0,.int .i64 4,.int .i64 0,.slice none 0 0,.int .i64 0,.int .i64 0,.int .i64 0,.int .i64 0,.slice none 0 0,.int .i64 0,.int .i64 0,.int .u64 0,.int .i64 0,.slice none 0 0,.slice none 0 0,.int .i64 0,.int .i64 0,.int .u64 0,.slice none 0 0,.int .i64 0,.int .i64 0,.slice none 0 0,.int .u64 0,.slice none 0 0,.int .u64 0,.int .u64 0]=w8 at*;have dc:=cv.fr f8 zq;have g1:Hid (r.cells[1]? =some (.slice r.lA r.l.length r.lC)):=rfl;have d1:=(dc.cell 1).trans g1.out;have b7:0<r.l.length:=List.length_pos_iff.2 ck;obtain ⟨L,hL⟩:=Aa r.l.length;rw [hL.out] at d1 g1 b7;have eb:((L:Int)==0)=false:=beq_eq_false_iff_ne.2 (by omega);obtain ⟨Q1,a6⟩:=Aa (a/4%L);have c9:((a:Int).tdiv 4).tmod (L:Int)=(Q1:Int):=by rw [Au3 (by omega),Au2 (by omega),<- a6.out];rfl
  have ce:IntKind.i64.wrap (Q1:Int)=(Q1:Int):=IntWalk.i64_in _ (by have:Q1<=a:=(by rw [<- a6.out];exact At8 (Nat.mod_le _ _) (Nat.div_le_self _ _));omega);have dw:(a:Int).tdiv 4=((a/4:Nat):Int):=by rw [Au3 (by omega)];rfl
  have cd:=iw ((a/4:Nat):Int);have ez:((a/4:Nat):Int).tmod (L:Int)=(Q1:Int):=by rw [<- dw];exact c9
  have dl:(a:Int)/4%(L:Int)=(Q1:Int):=by rw [<- a6.out];rfl
  go_upto_region 10 with (fail)
  try rw [dl]
  have f9:Fr Non w8 (w8.alloc (.cells #[.int .i64 (Q1:Int)] 3)):=(Fr.refl Non w8).alloc _;have bq:=Blk.new w8 3 #[.int .i64 (Q1:Int)];have ds:X1.lies w7 w.heap.size:=by rw [a0.out];exact Gj (OpL.zero_own w7 w.heap.size).lies ⟨rfl,rfl,rfl⟩ ⟨rfl,rfl,rfl⟩ ⟨rfl,rfl,rfl⟩ ⟨rfl,rfl,rfl⟩ ⟨rfl,rfl,rfl⟩ ⟨rfl,rfl,rfl⟩ ⟨rfl,rfl,rfl⟩
  have s9:Ed w7 (w8.alloc (.cells #[.int .i64 (Q1:Int)] 3)) w.heap.size go X1 (some ⟨w8.heap.size,0,none⟩) 1 1 [Q1]:=⟨b4.fr f9 zq,f8.trans f9 zr,ds.non (f8.trans f9 zr),Own.blk bq (by omega) (by omega) rfl (by omega),rfl,by rw [a0.out];exact ⟨rfl,rfl,rfl⟩,by rw [<- bs.out];exact At3 _,At5 cq f9.size⟩;clear f9 bq ds b4 f8 cq dc d1 cv;obtain ⟨A9,eo⟩:=Aa (some (⟨w8.heap.size,0,none⟩:Addr));rw [eo.out] at s9 ⊢;generalize w8.alloc (.cells #[.int .i64 (Q1:Int)] 3)=w9 at*;have ew:=a7.out w9 s9.f;have kl:=lh (Al3 w.heap.size r (1+(D:Int)) w9 (ao.non s9.f));have hl:=B0 (P:=zp) gv 28 underlying28 rfl (cs:=r.cells) Cv;have o0:w9.cell? ⟨go,0,none⟩=some (.int .i64 (1+(D:Int))):=by have h9:=s9.b.cell 0;rw [bv] at h9;exact h9
  rw [hL.out] at kl;go_upto_region 11 with (go_at_call 47;(with_reducible refine (kl.out).mono ?_);rintro _ cf ⟨rfl,db⟩)
  have a1:=s9.non db;clear s9 db o0 ew kl;have dd:=Mz r.l (1+(D:Int)) L;obtain ⟨Z,hZ⟩:=Aa (Dr r.l (1+(D:Int)) L);rw [hZ.out] at dd ⊢;obtain ⟨C,hC⟩:∃C:Bool,C=(decide (0<=Z)&&decide (0<a/64%5)):=⟨_,rfl⟩
  have ai:Hid ((if 0<=Z/\0<a/64%5 then [Z.toNat] else [])=if C=true then [Z.toNat] else []):=by
   show _=_;rw [hC]
   by_cases h1:0<=Z/\0<a/64%5
   · rw [if_pos h1,if_pos (by simp [h1])]
   · rw [if_neg h1,if_neg (fun e=>h1 (by simpa using e))]
  go_cut [56] from 49 to 56 (fun t wc=>cf=wc/\t=.bool C)
  case first=>
   have d4:Hid ((a:Int)/64%5=((a/64%5:Nat):Int)):=by show _=_;rfl
   rcases zb (decide (0<=Z)) with z1|z1
   ·
    have ey:decide (Z>=0)=true:=z1
    rcases zb (decide (0<a/64%5)) with u1|u1
    ·
     have u2:decide ((a:Int)/64%5>0)=true:=by rw [d4.out];exact decide_eq_true (by have:=of_decide_eq_true u1;omega)
     have ep:decide (0<(a:Int)/64%5)=true:=u2;rw [z1,u1] at hC;go_wp2_with fail;go_meet;exact ⟨rfl,by rw [hC];rfl⟩
    ·
     have u2:decide ((a:Int)/64%5>0)=false:=by rw [d4.out];exact decide_eq_false (by have:=of_decide_eq_false u1;omega)
     have ep:decide (0<(a:Int)/64%5)=false:=u2;rw [z1,u1] at hC;go_wp2_with fail;go_meet;exact ⟨rfl,by rw [hC];rfl⟩
   ·
    have ey:decide (Z>=0)=false:=z1;rw [z1] at hC;go_wp2_with fail;go_meet;exact ⟨rfl,by rw [hC];rfl⟩
  case rest=>
  obtain ⟨rfl,rfl⟩:=hcut
  go_upto_if 56 with (fail)
  go_cut [8] from 57 to 60 (fun t wc=>∃A' n' c',t=.slice A' n' c'/\n'<=2/\Ed w7 wc w.heap.size go X1 A' n' c' ([Q1]++(if C=true then [Z.toNat] else [])))
  case first=>
   cases C
   case true=>
    have z1:0<=Z:=by
     have h9:=hC.symm;rw [Au4] at h9;exact of_decide_eq_true h9.1
    clear hC ai;have bz:=Blk.new cf 3 #[.int .i64 Z];have er:Hid (Value.int .i64 Z=Qv Z.toNat):=by show Value.int .i64 Z=Value.int .i64 ((Z.toNat:Nat):Int);rw [Int.toNat_of_nonneg z1]
    have so:=a1.os;have sg:=a1.gs;have ss:=a1.sz;go_wp2_with (at_builtin;go_loud (refine Aw (base:=go+1) (.tmp 57) (.tmp 59) 22 rfl rfl rfl rfl Ev (so.alloc (.cells #[.int .i64 Z] 3)) (Rd.blk (n:=1) (size:=1) bz rfl) (by simp [Value.oneCell']) (by omega) (by omega) (by rw [At6];omega) ?_);intro A8 c8 v8 aj cx cc);go_meet;refine ⟨A8,2,c8,rfl,by omega,(a1.non ((Fr.refl Non cf).alloc (.cells #[.int .i64 Z] 3))).app cx ?_ rfl⟩;rw [er.out] at aj;exact aj
   case false=>
    clear hC ai;go_wp2_with fail;go_meet;exact ⟨A9,1,1,rfl,by omega,a1⟩
  case rest=>
  obtain ⟨eg,c6,ek,rfl,et,al⟩:=hcut;clear a1 hC;generalize wc=w11 at*;have df:Hid ((b:Int)%3=((b%3:Nat):Int)):=by show _=_;rfl
  obtain ⟨cj,av⟩:∃cj:List Nat,Hid (cj=[Q1]++(if C=true then [Z.toNat] else [])):=⟨_,rfl⟩;rw [<- av.out] at al;have t3:Hid (((b:Int)%3==0)=decide (b%3=0)):=by show _=_;rw [df.out,At9,beq_iff_eq,decide_eq_true_eq];omega
  obtain ⟨ac,ah⟩:∃ac:List Nat,Hid (ac=cj++(if b%3=0 then [b/3%L] else [])):=⟨_,rfl⟩
  go_upto_if 63 with (fail)
  rw [t3.out];obtain ⟨C3,bw⟩:=Aa (decide (b%3=0));rw [bw.out]
  go_cut [8] from 61 to 72 (fun t wc=>∃A' n' c',t=.slice A' n' c'/\n'<=3/\Ed w7 wc w.heap.size go X1 A' n' c' ac)
  case first=>
   cases C3
   case true=>
    have ad:=lh (ah.out.trans (by rw [if_pos (of_decide_eq_true bw.out)]));have b8:=a7.out w11 al.f;have d1:=(b8.cell 1).trans g1.out;obtain ⟨Q3,dg⟩:=Aa (b/3%L);have eu:(b:Int)/3%(L:Int)=(Q3:Int):=by rw [<- dg.out];rfl
    rw [dg.out] at ad;have bz:=Blk.new w11 3 #[.int .i64 (Q3:Int)];have so:=al.os;have sg:=al.gs;have ss:=al.sz;clear t3;go_wp2_with (at_builtin;(try rw [eu]);go_loud (refine Aw (base:=go+1) (.tmp 64) (.tmp 71) 22 rfl rfl rfl rfl Ev (so.alloc (.cells #[.int .i64 (Q3:Int)] 3)) (Rd.blk (n:=1) (size:=1) bz rfl) (by simp [Value.oneCell']) (by omega) (by omega) (by rw [At6];omega) ?_);intro A8 c8 v8 aj cx cc);go_meet;refine ⟨A8,c6+1,c8,rfl,by omega,(al.non ((Fr.refl Non w11).alloc (.cells #[.int .i64 (Q3:Int)] 3))).app cx ?_ ?_⟩
    ·
     rw [ad.out,List.map_append];exact aj
    ·
     rw [ad.out,List.length_append,al.len];rfl
   case false=>
    have ad:=lh (ah.out.trans (by rw [if_neg (of_decide_eq_false bw.out),List.append_nil]));clear t3;go_wp2_with fail;go_meet;exact ⟨eg,c6,ek,rfl,by omega,by rw [ad.out];exact al⟩
  case rest=>
  obtain ⟨ch,cn,cz,rfl,d9,ar⟩:=hcut;clear al bw t3 df;generalize wc=w12 at*;have b5:Hid (((b:Int)%2==0)=decide (b%2=0)):=by show _=_;rw [At9,beq_iff_eq,decide_eq_true_eq];omega
  go_upto_if 75 with (fail)
  rw [b5.out];obtain ⟨C2,a2⟩:=Aa (decide (b%2=0));rw [a2.out];obtain ⟨m0,bi,oi,b9,dr,i0,i1,i2⟩:=ao.idAt (i:=0) (by rw [hL.out];exact b7)
  go_cut [] from 73 to 88 (fun wc=>∃x2:OpL,Ed w7 wc w.heap.size go x2 ch cn cz ac/\Hid (x2.op=Cr (if b%2=0 then 7 else 4) (1+(D:Int)) 0 0 [] (nmP r.l 0) [UInt8.ofNat (65+b/2%3)]/\x2.pastA=none/\x2.pastC=0/\x2.past=[]/\x2.by_=1+(D:Int)/\x2.at_=0/\x2.op.ok))
  case first=>
   cases C2
   case true=>
    have hc:=of_decide_eq_true a2.out;clear b5 a2;have z2:cI w12 go 2 X1.kind:=ar.b.cell 2;have y2:=ar.b.frozen 2;go_upto_region 17 with (fail)
    have ab:=ar.setB 2 (.int .i64 7) {X1 with kind:=7} rfl ar.gd (fun v' h _=>Gj h ⟨rfl,rfl,rfl⟩ ⟨rfl,rfl,rfl⟩ ⟨rfl,rfl,rfl⟩ ⟨rfl,rfl,rfl⟩ ⟨rfl,rfl,rfl⟩ ⟨rfl,rfl,rfl⟩ ⟨rfl,rfl,rfl⟩);clear z2 y2 ar;generalize w12.setCell ⟨go,2,none⟩ (.int .i64 7)=w13 at*;have g2:Hid (r.cells[2]? =some (.slice r.iA r.l.length r.iC)):=rfl;rw [dr,hL.out] at g2;have d2:=((a7.out w13 ab.f).cell 2).trans g2.out;rw [Nat.zero_mul,Nat.add_zero] at i0 i1 i2;obtain ⟨ev,eh,en⟩:=zk3 ab.f i0 i1 i2;have em:=ab.b.frozen 16;have d8:=ab.b.frozen 17;have d5:=ab.b.frozen 18;have ef:cI w13 go 16 X1.of.b:=ab.b.cell 16;have d6:cI w13 go 17 X1.of.s:=ab.b.cell 17;have ed:cU w13 go 18 X1.of.u:=ab.b.cell 18;go_upto_region 18 with (fail)
    have cy:=ab.setB 16 (.int .i64 m0.id.b) {X1 with kind:=7,of:=⟨m0.id.b,X1.of.s,X1.of.u⟩} rfl ab.gd (fun v' h _=>Gj h ⟨rfl,rfl,rfl⟩ ⟨rfl,rfl,rfl⟩ ⟨rfl,rfl,rfl⟩ ⟨rfl,rfl,rfl⟩ ⟨rfl,rfl,rfl⟩ ⟨rfl,rfl,rfl⟩ ⟨rfl,rfl,rfl⟩);have cu:=cy.setB 17 (.int .i64 m0.id.s) {X1 with kind:=7,of:=⟨m0.id.b,m0.id.s,X1.of.u⟩} rfl cy.gd (fun v' h _=>Gj h ⟨rfl,rfl,rfl⟩ ⟨rfl,rfl,rfl⟩ ⟨rfl,rfl,rfl⟩ ⟨rfl,rfl,rfl⟩ ⟨rfl,rfl,rfl⟩ ⟨rfl,rfl,rfl⟩ ⟨rfl,rfl,rfl⟩);have cl:=cu.setB 18 (.int .u64 (m0.id.u:Int)) {X1 with kind:=7,of:=m0.id} rfl cu.gd (fun v' h _=>Gj h ⟨rfl,rfl,rfl⟩ ⟨rfl,rfl,rfl⟩ ⟨rfl,rfl,rfl⟩ ⟨rfl,rfl,rfl⟩ ⟨rfl,rfl,rfl⟩ ⟨rfl,rfl,rfl⟩ ⟨rfl,rfl,rfl⟩);clear ab cy cu ef d6 ed em d8 d5 ev eh en d2;generalize ((w13.setCell ⟨go,16,none⟩ (.int .i64 m0.id.b)).setCell ⟨go,17,none⟩ (.int .i64 m0.id.s)).setCell ⟨go,18,none⟩ (.int .u64 (m0.id.u:Int))=w16 at*;have b0:=cl.non ((Fr.refl Non w16).alloc (.cells #[.int .u8 (65+(b:Int)/2%3)] 5));have e5:cS (w16.alloc (.cells #[.int .u8 (65+(b:Int)/2%3)] 5)) go 14 X1.bodyA X1.body.length X1.bodyC:=b0.b.cell 14;have e6:=b0.b.frozen 14;have bb:=Blk.new w16 5 #[.int .u8 (65+(b:Int)/2%3)];have ci:=cl.sz;have c7:=b3.size;have fb:=iw (65+(b:Int)/2%3);have fa:IntKind.u8.wrap (65+(b:Int)/2%3)=65+(b:Int)/2%3:=by rw [IntKind.wrap_u8];omega
    go_wp2_with fail;go_meet;have hU:(UInt8.ofNat (65+b/2%3)).toNat=65+b/2%3:=by rw [UInt8.toNat_ofNat'];omega
    have hV:#[Value.int .u8 (65+(b:Int)/2%3)].toList=[UInt8.ofNat (65+b/2%3)].map Bv:=by
     show [Value.int .u8 (65+(b:Int)/2%3)]=[Value.int .u8 ((UInt8.ofNat (65+b/2%3)).toNat:Int)];rw [hU];rfl
    have ob:RowLies (w16.alloc (.cells #[.int .u8 (65+(b:Int)/2%3)] 5)) w.heap.size 5 1 (some ⟨w16.heap.size,0,none⟩) [UInt8.ofNat (65+b/2%3)].length 1 ([UInt8.ofNat (65+b/2%3)].map Bv):=by
     rw [<- hV];exact (RowAt.of_own (Own.blk (base:=w.heap.size) (n:=1) (size:=1) bb (by have:=cl.gs;omega) (by omega) rfl (by omega))).lies
    refine ⟨{X1 with kind:=7,of:=m0.id,bodyA:=some ⟨w16.heap.size,0,none⟩,bodyC:=1,body:=[UInt8.ofNat (65+b/2%3)]},by rw [<- World.setCell_alloc_past _ _ _ _ ci];exact b0.setB 14 (.slice (some ⟨w16.heap.size,0,none⟩) 1 1) {X1 with kind:=7,of:=m0.id,bodyA:=some ⟨w16.heap.size,0,none⟩,bodyC:=1,body:=[UInt8.ofNat (65+b/2%3)]} rfl b0.gd (fun v' h keep=>⟨h.past,h.path,h.nodes,keep _ _ _ _ _ _ (by decide) ob,h.refs,h.guards,h.boxes,h.hist,h.seals⟩),?_⟩;show _/\_;rw [a0.out,if_pos hc,Fy b9];have ca:=(ao.ok m0 (At4 b9)).2;exact ⟨rfl,rfl,rfl,rfl,rfl,rfl,{Ni with by_:=(show I64 (1+(D:Int)) from ⟨by omega,by omega⟩),kind:=(show I64 7 from ⟨by decide,by decide⟩),of:=ca,body:=(show 1<=1000000 by decide)}⟩
   case false=>
    have hc:=of_decide_eq_false a2.out;clear b5 a2;go_wp2_with fail;go_meet;refine ⟨X1,ar,?_⟩;show _/\_;rw [a0.out,if_neg hc];exact ⟨rfl,rfl,rfl,rfl,rfl,rfl,{Ni with by_:=(show I64 (1+(D:Int)) from ⟨by omega,by omega⟩),kind:=(show I64 4 from ⟨by decide,by decide⟩)}⟩
  case rest=>
  obtain ⟨x2,ba,dh⟩:=hcut;clear ar a2 b5 a0 bv;generalize wc=w18 at*;obtain ⟨ak,bg,bc,bj,bm,cb,bp⟩:=dh.out;replace ak:=lh ak;have z3:cI w18 go 3 x2.at_:=ba.b.cell 3;have y3:=ba.b.frozen 3;go_upto_region 20 with (fail)
  obtain ⟨TT,b1⟩:=Aa (b/6%4);have dt:(b:Int)/6%4=(TT:Int):=by rw [<- b1.out];rfl
  have ej:TT<4:=by rw [<- b1.out];exact At7 _ (by omega)
  rw [dt];have af:=ba.setB 3 (.int .i64 (TT:Int)) {x2 with at_:=(TT:Int)} rfl ba.gd (fun v' h _=>Gj h ⟨rfl,rfl,rfl⟩ ⟨rfl,rfl,rfl⟩ ⟨rfl,rfl,rfl⟩ ⟨rfl,rfl,rfl⟩ ⟨rfl,rfl,rfl⟩ ⟨rfl,rfl,rfl⟩ ⟨rfl,rfl,rfl⟩);generalize w18.setCell ⟨go,3,none⟩ (.int .i64 (TT:Int))=w19 at*
  have ax:Hid (({x2 with at_:=(TT:Int)}:OpL).op=Fb r.l a b):=by
   show _=_;show ({x2.op with at_:=(TT:Int)}:Op)=_;unfold Fb;rw [ak.out,hD.out,b1.out];unfold Cr
   split<;>rfl
  have a4:({x2 with at_:=(TT:Int)}:OpL).op.ok:={bp with at_:=(show I64 (TT:Int) from ⟨by omega,by omega⟩)};have dj:Hid (({x2 with at_:=(TT:Int)}:OpL).pastA=none/\({x2 with at_:=(TT:Int)}:OpL).pastC=0/\({x2 with at_:=(TT:Int)}:OpL).past=[]):=⟨bg,bc,bj⟩;have a5:∃d:Nat,({x2 with at_:=(TT:Int)}:OpL).by_=(d:Int)/\d<=1000:=⟨1+D,by show x2.by_=_;rw [bm];omega,by omega⟩;have a8:0<=({x2 with at_:=(TT:Int)}:OpL).at_/\({x2 with at_:=(TT:Int)}:OpL).at_<=3:=⟨by show (0:Int)<=TT;omega,by show (TT:Int)<=3;omega⟩;generalize ({x2 with at_:=(TT:Int)}:OpL)=x3 at*;clear dh ak bg bc bj bm cb bp z3 y3 ba dt ej
  have ae:Hid (ac=En r.l a b):=by
   show _=_;unfold En;rw [hL.out,hD.out,a6.out,hZ.out,ai.out,<- av.out,<- ah.out]
  have ap:=fk_in ao.rows ao.num b2 ck ct a b;rw [<- ax.out,<- ae.out] at ap;have ay:∀p∈ac,p<r.l.length:=by rw [ae.out];exact To ck a b
  have be:Hid (Fc l0 (j+1)=Ds r.l x3.op (Cu r.l ac)):=by
   show _=_;rw [aa.out,ax.out,ae.out];rfl
  have dy:(Cu r.l ac).length<=3:=At8 (Kd _ _ _) (by rw [ae.out];exact Tp _ _ _);have bl:∀p∈Cu r.l ac,p<r.l.length:=fun p hp=>ay p (H7 _ hp).1;generalize hHS:Cu r.l ac=HS at*
  have kh:Hid (∀v,Fr Non w19 v->Calls zp 48 #[.agg r.cells,.slice ch cn cz] v (Kh HS v)):=fun v hv=>by
   rw [<- hHS];exact Al7 w.heap.size v.heap.size cn cz r ch ac v (ao.non (af.f.trans hv zr)) af.len (af.non hv).os.rd (by omega) ay
  have c7:=b3.size
  have kp:Hid (∀(v:World) (A':Option Addr) (c':Nat),Fr Non w19 v->Own v w.heap.size 3 1 A' HS.length c' (HS.map Qv)->Calls zp 45 #[.agg r.cells,.agg x3.cells,.slice A' HS.length c'] v (Gi w.heap.size r x3.op HS v)):=fun v A' c' hv ho=>
   Tm w.heap.size v.heap.size HS.length c' A' r x3 HS v (ao.non (af.f.trans hv zr)) (af.non hv).l (At8 c7 ((af.f.trans hv zr).size)) a4 dj.out a5 a8 rfl ho.rd dy bl ap
  have de:Blk w19 gv 28 r.cells:=a7.out w19 af.f;have dz:=dv.fr af.f zq;have c3:=b3.trans af.f zr;have dm:=af.b;have c2:=c3.size;clear ap bl dy ay hHS ae ax a4 dj a5 a8 aa ai av ah af a7 b7 cd dw ez c9 ce dl eb e4 es e3 b3 dv ao dr b9 i0 i1 i2 dd ei b1 hD a6 hZ hL g1;have V0:Blk w19.drew gv 28 r.cells:=de;have X0:Blk w19.drew go 55 x3.cells:=dm;have F0:Fr Non w19 w19.drew:=(Fr.refl Non w19).drew;have bu:(zp.info? 55).map (·.size)=some x3.cells.size:=by rw [show x3.cells.size=27 from rfl];kernel_rfl
  have d7:=B0 (P:=zp) go 55 underlying55 rfl (cs:=x3.cells) bu;generalize x3.cells=XC at*;refine Dn (S:=fun w'=>Blk w' gv 28 r.cells/\Blk w' go 55 XC) 6 (by kernel_rfl) ?_;have uu:=aI V0 X0;refine tkG 0 uu (h:=tkG 1 uu (h:=tkG 2 uu (h:=tkG 3 uu (h:=?_))));clear uu;simp only [zl];refine Bs 4 (by kernel_rfl) rfl (fun K hK=> ?_);go_simp;go_wp2_with (go_at_call 48;(with_reducible refine (kh.out _ F0).mono ?_);rintro _ v1 ⟨e8,e7,rfl,dn,cw⟩;have V1:=V0.fr cw zq;have X1:=X0.fr cw zq;have F1:=F0.trans cw zr;have dk:=Ie dn (At8 c2 (Fr.size F0)));refine hK.out _ _ ⟨V1,X1⟩ (fun hZ=> ?_);clear hZ hK K;try simp only [Ai,zl]
  refine Bs 5 (by kernel_rfl) rfl (fun K hK=> ?_);go_simp;go_wp2_with (go_at_call 45;(with_reducible refine (kp.out _ _ _ F1 dk).mono ?_);rintro _ v2 ⟨r2,rfl,cm,bt,bf,dq⟩;have V2:=V1.fr cm zq;have X2:=X1.fr cm zq;have F2:=F1.trans cm zr;have az:=Cl (P:=zp) gv 28 (cs:=r2.cells) Cv (old:=r.cells) rfl (Gh r2));refine hK.out _ _ ⟨V2,X2⟩ (fun hZ=> ?_);clear hZ hK K;try simp only [Ai,zl]
  have e0:=(dz.fr F2 zq).setRow_far (g':=gv) (by omega) (cs:=r2.cells);have ee:Blk (v2.setRow gv r2.cells) gv 28 r2.cells:=V2.setRow;have ag:=bt.setG V2 r2.cells;have fz:=(c3.trans F2 zr).setRow (g:=gv) (fun hh=>absurd hh (by omega)) r2.cells;refine De (by kernel_rfl) ?_;refine oG 6 (fun K hK=> ?_);go_simp;refine hK.out _ _ trivial (fun hZ=> ?_);clear hZ hK K;try simp only [Ai,zl]
  refine oD ?_;go_simp;rw [<- be.out] at dq;rw [b2] at bf;clear V0 V1 V2 X0 X1 X2 F0 F1 F2 bt az dz de c3 dm kh kp dn dk d7 bu be;generalize v2.setRow gv r2.cells=wz at*;have e2:=iw ((I:Int)+2);go_wp2_with fail;go_roundw
  case rel=>exact ⟨j+1,I+2,r2,by show I+2=2*(j+1);have:=hI.out;omega,by go_num,by have:=hI.out;omega,by have:=hI.out;omega,ee,ag,bf,dq,e0,fz⟩
  case measure=>simp [intOf];omega
 ·
  have c4:Hid (j=min 13 (l0.length/2)):=by
   show _=_;rw [hn.out];have:=hI.out;omega
  have hl:=B0 (P:=zp) gv 28 underlying28 rfl (cs:=r.cells) Cv;have el:=Cl (P:=zp) w.heap.size 28 (cs:=r.cells) Cv (old:=#[.slice none 0 0,.slice none 0 0,.slice none 0 0,.slice none 0 0]) rfl (Gh r);have da:=br.setRow (cs:=r.cells);have fz:=hf.setRow (g:=w.heap.size) (fun hh=>absurd hh (by omega)) r.cells;have ag:=ro.setG br r.cells;have du:r.l=Kk l0:=by rw [a3.out,c4.out];rfl
  have hd:Hid (Ha l0 w (.returned (.agg r.cells)) (wr.setRow w.heap.size r.cells)):=⟨r,rfl,fz,ag,b2,du⟩;clear du b2 ro a3 c4 hok hr fz ag hf;generalize Ha l0 w=POST at*
  rcases zb (decide ((I:Int)+1<(n:Int))) with t1|t1
  ·
   have t2:decide ((I:Int)<26)=false:=decide_eq_false (by have:=of_decide_eq_true t1;omega);go_wp2_with fail
   (try simp only [Exit.inBlock,Exit.then])
   refine C9 (t:=28) rfl rfl da rfl underlying28 Cv rfl ?_;exact hd.out
  ·
   go_wp2_with fail
   (try simp only [Exit.inBlock,Exit.then])
   refine C9 (t:=28) rfl rfl da rfl underlying28 Cv rfl ?_;exact hd.out
end Oq
namespace Oq
attribute [local go_sem] At1 At2
attribute [local go_sem ↓] E9 Be
theorem Km {cards:List Cd} {l:List Pn} (h:Rows cards l) {p:Nat} {n:Pn} (hp:l[p]? =some n):n.o.put.length<=500000:=Pr (Pq (h.ok p n hp).chk) (by decide)
def PlaceAt (w:World) (base:Nat) (x:FG) (p:Nat) (n:Pn) (y:OpL) (b off:Nat):Prop:=x.l[p]? =some n/\y.op=n.o/\y.op.ok/\y.lies w base/\x.lA=some ⟨b,off,none⟩/\RgAt w b (off+p*27) y.cells.toList
theorem FG.own.place {w:World} {base:Nat} {x:FG} (h:x.own w base) {p:Nat} (hp:p<x.l.length):∃n y b off,PlaceAt w base x p n y b off:=by
 have hn:x.l[p]? =some x.l[p]:=At0 hp;obtain ⟨y,b,off,_,h2,h3,h4,_,h6⟩:=h.xAt hn;exact ⟨_,y,b,off,hn,h2,by rw [h2];exact (h.ok _ (At4 hn)).1,h3,h4,fun k v hv=>h6 k (List.getElem?_eq_some_iff.1 hv).1 v hv⟩
theorem PlaceAt.non {w w':World} {base p:Nat} {x:FG} {n:Pn} {y:OpL} {b off:Nat} (h:PlaceAt w base x p n y b off) (hf:Fr Non w w'):PlaceAt w' base x p n y b off:=
 ⟨h.1,h.2.1,h.2.2.1,h.2.2.2.1.non hf,h.2.2.2.2.1,h.2.2.2.2.2.fr hf zq⟩
def Ij (cards:List Cd) (l:List Pn) (ps:List Nat) (w:World) (e:Ending) (w':World):Prop:=
 ∃(r:Ad) (b:Nat),e=.returned (.pointer (some ⟨r.rb,0,none⟩))/\w.heap.size<=b/\Hid (r.okAt w' b)/\Hid (r.st=Cj cards l ps ([],[]))/\Hid (r.g.cards=cards)/\Fr Non w w'
theorem Tt (base B np cp:Nat) (x:FG) (Ap:Option Addr) (ps:List Nat) (w:World) (h:x.own w base) (hcs:x.cards=As 0 [1,2,2,3]) (hpn:Hid (ps.length=np)) (hrp:Rd w B 1 Ap np (ps.map Qv)) (hlt:∀p∈ps,p<x.l.length) (hnp:np<=1000000) (hk:KindsAt w) (hpos:0<w.heap.size):
  Calls zp 11 #[.agg x.cells,.slice Ap np cp] w (Ij x.cards x.l ps w):=by
 have aw:(zp.info? 55).map (·.size)=some 27:=by kernel_rfl
 have bg:=Blk.new w 28 x.cells;have f0:Fr Non w (w.alloc (.cells x.cells 28)):=(Fr.refl Non w).alloc _;have ac:0<(w.alloc (.cells x.cells 28)).heap.size:=by rw [At6];omega
 have h0:=h.non f0;have ay:=hk.fr f0;have aj:=hrp.fr f0 zr;obtain ⟨gx,a8⟩:=Aa w.heap.size;have ai:Hid (∀(r:Ad) (b:Nat) (w':World),w.heap.size<=b->Hid (r.okAt w' b)->Hid (r.st=Cj x.cards x.l ps ([],[]))->Hid (r.g.cards=x.cards)->Fr Non w w'->Ij x.cards x.l ps w (.returned (.pointer (some ⟨r.rb,0,none⟩))) w'):=fun r b w' h1 h2 h3 h4 h5=>⟨r,b,rfl,h1,h2,h3,h4,h5⟩;generalize Ij x.cards x.l ps w=POST at*;have g0:Hid (x.cells[0]? =some (.slice x.cA x.cards.length x.cC)):=rfl;have g1:Hid (x.cells[1]? =some (.slice x.lA x.l.length x.lC)):=rfl;obtain ⟨L,hL⟩:=Aa x.l.length;rw [hL.out] at g1 hlt;have ap:x.cards.length=4:=by rw [hcs,Hr];rfl
 rw [ap] at g0;obtain ⟨XG,bd⟩:=Aa x.cells;rw [bd.out] at bg f0 ac h0 ay aj g0 g1 ⊢;rw [a8.out] at bg;clear h hk hrp;go_enter func11,ntmps11;go_upto_region 1 with (fail)
 try rw [a8.out]
 generalize w.alloc (.cells XG 28)=w0 at*
 have kn:Hid (Calls zp 19 #[.slice x.cA 4 x.cC] w0 (Fa x.cards w0)):=by
  have a7:=h0.cards.sl.rd;rw [ap,hcs] at a7;rw [hcs];exact Nf w0.heap.size 4 x.cC x.cA [1,2,2,3] w0 rfl (by decide) a7 ac
 unfold Fa at kn;have c0:cS w0 gx 0 x.cA 4 x.cC:=(bg.cell 0).trans g0.out;have a9:w.heap.size<=w0.heap.size:=f0.size;go_upto_region 2 with (go_at_call 19;(with_reducible refine (kn.out).mono ?_);rintro _ w1 ⟨r,rfl,ae,ab,aa,f1⟩)
 obtain ⟨rb,a0⟩:=Aa r.rb;rw [a0.out];clear kn c0 g0 ap ac hpos;go_wp2_with fail
 go_loopw [6] (fun v wr=>∃(i:Nat) (r1:Ad),v=.int .i64 (i:Int)/\i<=np/\Hid (r1.okAt wr w0.heap.size)/\Hid (r1.rb=rb)/\Hid (r1.g.cards=x.cards)/\Hid (r1.st=Cj x.cards x.l (ps.take i) ([],[]))/\Fr Non w0 wr) (fun v _=>np-(intOf v).toNat)
 case atStart=>exact ⟨0,r,rfl,Nat.zero_le _,ae,a0,aa,ab,f1⟩
 case round=>
 clear ae ab aa f1;obtain ⟨i,r1,rfl,hi,ae,ad,aa,ab,hf⟩:=hrel
 by_cases hin:i<np
 case neg=>
  obtain rfl:i=np:=by omega
  have hd:=lh (ai.out r1 w0.heap.size wr a9 ae (by show _=_;rw [ab.out,List.take_of_length_le (by rw [hpn.out];exact At3 _)]) aa (f0.trans hf zr));rw [ad.out] at hd;clear ai ae ab aa;go_wp2_with fail;exact hd.out
 case pos=>
 have t0:decide ((i:Int)<(np:Int))=true:=decide_eq_true (by omega);have bh:decide (i<np)=true:=decide_eq_true hin;obtain ⟨p,hp⟩:∃p,ps[i]? =some p:=⟨_,At0 (by rw [hpn.out];exact hin)⟩;have a5:=hlt p (At4 hp);obtain ⟨n,y,b,ag,bf⟩:=h0.place (p:=p) (by rw [hL.out];exact a5);obtain ⟨hn,ar,ax,a4,a2,ah⟩:=bf;obtain ⟨bp,op,u,rfl,_,hu,ao⟩:=aj.at hin;rw [List.getElem?_map,hp] at hu;injection hu with hu
 subst hu;replace ao:cI w0 bp (op+i) (p:Int):=ao;obtain ⟨i1,i2,i3⟩:=ix i np
 obtain ⟨p1,p2,p3⟩:=ix p L
 have a1:=Et (P:=zp) y.cells b (ag+p*27) underlying55 rfl aw;have ba:∀w',RgAt w' b (ag+p*27) y.cells.toList->(ldS 55 (.pointer (some ⟨b,ag+p*27,none⟩))).run zp w'=.ok (.agg y.cells) w':=fun w' h=>a1 w' h;have kp:=lh (fun (w':World) (hf':Fr Non w0 w')=>Gw y w' (a4.non hf').at ax);unfold NewB at kp;have a3:Hid (∃m,y.op.put.length=m/\m<=500000):=⟨_,rfl,by rw [ar];exact Km h0.rows hn⟩;obtain ⟨m,hm,bi⟩:=a3.out;have kt:=lh (fun (A:Option Addr) (c:Nat) (w':World) (hf':Fr Non wr w') (hrd:Rd w' w'.heap.size 1 A m (y.op.put.map Bv))=>Ii w0.heap.size w'.heap.size m c A r1 y.op w' (ae.out.non hf') (ay.fr (hf.trans hf' zr)) hm hrd (by omega) ax);unfold TakeRPost at kt;rw [ad.out] at kt;rw [hm] at kp
 have af:Hid (∀r2:Ad,r2.st=(Az r1.g.cards r1.st y.op).2->r2.st=Cj x.cards x.l (ps.take (i+1)) ([],[])):=by
  intro r2 h2;rw [h2,aa.out,ab.out,Dd hp,Sx,hn,ar]
 have a6:w0.cell? ⟨gx,1,none⟩=some (.slice (some ⟨b,ag,none⟩) L x.lC):=by rw [<- a2];exact (bg.cell 1).trans g1.out
 obtain ⟨YC,az⟩:=Aa y.cells;rw [az.out] at ah ba kp;clear a3 hm ax a4 a1 ab hp a5 hn ar a2 az;go_upto_region 7 with (fail)
 obtain ⟨C0,D0⟩:=zk2 hf a6 ao;have R0:RgAt wr b (ag+p*27) YC.toList:=ah.fr hf zq;have F0:Fr Non wr wr.drew:=(Fr.refl Non wr).drew;have G0:Fr Non w0 wr.drew:=hf.drew;refine wp_region_held_drew (S:=fun w'=>cS w' gx 1 (some ⟨b,ag,none⟩) L x.lC/\cI w' bp (op+i) (p:Int)/\RgAt w' b (ag+p*27) YC.toList) (by kernel_rfl) ⟨C0,D0,R0⟩ (fun hHeld=> ?_);clear hHeld;have uu:=aI C0 (aI D0 R0);refine tkH 0 uu (h:=tkH 1 uu (h:=tkH 2 uu (h:=tkH 3 uu (h:=tkH 4 uu (h:=tkH 5 uu (h:=tkH 6 uu (h:=tkH 7 uu (h:=tkH 8 uu (h:=?_)))))))));clear uu;simp only [zl];refine oG 9 (fun K hK=> ?_);go_simp;go_wp2_with (go_at_call 23;(with_reducible refine (kp.out _ G0).mono ?_);rintro _ v1 ⟨A5,c5,rfl,bc,be⟩;have F1:=F0.trans be zr;obtain ⟨C1,D1⟩:=zk2 F1 C0 D0;have R1:=RgAt.fr (S:=Non) R0 F1 zq;have G1:=hf.trans F1 zr);refine hK.out _ _ ⟨C1,D1,R1⟩ (fun hZ=> ?_);clear hZ hK K;try simp only [Ai,zl]
 refine oG 10 (fun K hK=> ?_);go_simp;go_wp2_with (go_at_call 22;(with_reducible refine (kt.out _ _ _ F1 bc.rd).mono ?_);rintro _ v2 ⟨rfl,r2,ak,al⟩);have G2:Fr Non w0 v2:=(ae.out.non F1).below ak.out.fr G1 (At3 _);obtain ⟨C2,D2⟩:=zk2 G2 a6 ao;have R2:RgAt v2 b (ag+p*27) YC.toList:=ah.fr G2 zq;refine hK.out _ _ ⟨C2,D2,R2⟩ (fun hZ=> ?_);clear hZ hK K;try simp only [Ai,zl]
 refine oD ?_;go_simp;have aq:=lh (af.out r2 al.out);have bb:Hid (r2.okAt v2 w0.heap.size):=ak.out.ok;have au:Hid (r2.rb=rb):=ak.out.rb.trans ad.out;have av:Hid (r2.g.cards=x.cards):=ak.out.cards.trans aa.out;clear af kt kp ak al ae ad aa;go_wp2_with fail;go_roundw
 case rel=>exact ⟨i+1,r2,by go_num,by omega,bb,au,av,aq,G2⟩
 case measure=>simp [intOf];omega
end Oq
namespace Oq
attribute [local go_sem] At1 At2
attribute [local go_sem ↓] E9 Ia Be
def lvO (i:Nat):Op:=match (Kk ([0,1]:List Int))[i]? with|some n=>n.o|none=>Op.zero
theorem Ap1:(Kk ([0,1]:List Int)).length=2:=by decide+kernel
theorem Ap2:(Az (As 0 [1,2,2,3]) ([],[]) (lvO 1)).1=0/\(Az (As 0 [1,2,2,3]) ([],[]) (lvO 1)).2.2.length=1:=by decide+kernel
theorem Ap3:(Az (As 0 [1,2,2,3]) (Az (As 0 [1,2,2,3]) ([],[]) (lvO 1)).2 (lvO 0)).1=0/\(Az (As 0 [1,2,2,3]) (Az (As 0 [1,2,2,3]) ([],[]) (lvO 1)).2 (lvO 0)).2.2.length=0/\(Az (As 0 [1,2,2,3]) (Az (As 0 [1,2,2,3]) ([],[]) (lvO 1)).2 (lvO 0)).2.1.length=2:=by decide+kernel
theorem Tu (w:World) (hk:KindsAt w):Calls zp 17 #[] w (Ae true w):=by
 have aw:(zp.info? 55).map (·.size)=some 27:=by kernel_rfl
 have ar:0<w.heap.size:=World.block_lt_of_cell? w _ (hk 0 (by decide));have bi:=Blk.new w 3 #[.int .i64 0,.int .i64 1];have f0:Fr Non w (w.alloc (.cells #[.int .i64 0,.int .i64 1] 3)):=(Fr.refl Non w).alloc _;have km:=lh (Nj (w.alloc (.cells #[.int .i64 0,.int .i64 1] 3)).heap.size 2 2 (some ⟨w.heap.size,0,none⟩) ([0,1]:List Int) (w.alloc (.cells #[.int .i64 0,.int .i64 1] 3)) rfl (Rd.blk (n:=2) (size:=1) bi rfl) (by decide) (by intro x hx;simp only [List.mem_cons,As9,or_false] at hx;rcases hx with rfl|rfl<;>exact ⟨by decide,by decide⟩))
 unfold Ha at km;have ap:Hid (∀wz,Fr Non w wz->Ae true w (.returned (.bool true)) wz):=fun wz h=>⟨rfl,h⟩;generalize Ae true w=POST at*;clear bi;replace hk:=lh hk;go_enter func17,ntmps17;go_upto_region 2 with (go_at_call 10;(with_reducible refine (km.out).mono ?_);rintro _ w1 ⟨r,rfl,f1,ro,al,a2⟩;(have bn:=Blk.new w1 28 #[.slice none 0 0,.slice none 0 0,.slice none 0 0,.slice none 0 0]);(have ay:=Cl (P:=zp) w1.heap.size 28 (cs:=r.cells) Cv (old:=#[.slice none 0 0,.slice none 0 0,.slice none 0 0,.slice none 0 0]) rfl (Gh r)))
 have bg:Blk ((w1.alloc (.cells #[.slice none 0 0,.slice none 0 0,.slice none 0 0,.slice none 0 0] 28)).setRow w1.heap.size r.cells) w1.heap.size 28 r.cells:=bn.setRow;have fG:Fr Non w1 ((w1.alloc (.cells #[.slice none 0 0,.slice none 0 0,.slice none 0 0,.slice none 0 0] 28)).setRow w1.heap.size r.cells):=((Fr.refl Non w1).alloc _).setRow (fun hh=>absurd hh (by omega)) _;have f2:=(f0.trans f1 zr).trans fG zr;have ad:=ro.non fG;obtain ⟨gv,b3⟩:=Aa w1.heap.size;rw [b3.out] at bg f2 ⊢;rw [b3.out] at ad;clear ay bn fG ro f1 km;generalize (w1.alloc (.cells #[.slice none 0 0,.slice none 0 0,.slice none 0 0,.slice none 0 0] 28)).setRow gv r.cells=w2 at*;have aa:r.l.length=2:=by rw [a2];exact Ap1
 have g0:Hid (r.cells[0]? =some (.slice r.cA 4 r.cC)):=by show r.cells[0]? =_;rw [show (4:Nat)=r.cards.length by rw [al,Hr];rfl];rfl
 have g1:Hid (r.cells[1]? =some (.slice r.lA 2 r.lC)):=by show r.cells[1]? =_;rw [<- aa];rfl
 have c0:cS w2 gv 0 r.cA 4 r.cC:=(bg.cell 0).trans g0.out
 have kn:Hid (Calls zp 19 #[.slice r.cA 4 r.cC] w2 (Fa r.cards w2)):=by
  have ao:=ad.cards.sl.rd;rw [show r.cards.length=4 by rw [al,Hr];rfl,al] at ao;rw [al];exact Nf w2.heap.size 4 r.cC r.cA [1,2,2,3] w2 rfl (by decide) ao (At5 ar f2.size)
 unfold Fa at kn;go_upto_region 3 with (go_at_call 19;(with_reducible refine (kn.out).mono ?_);rintro _ w3 ⟨s,rfl,hs,ay,bv,f3⟩)
 have b9:=f2.trans f3 zr;have b4:=ad.non f3;have b7:=bg.fr f3 zq;clear kn c0 g0;obtain ⟨sb,bc⟩:=Aa s.rb;rw [bc.out];obtain ⟨n1,y1,b1,o1,a3,a9,a5,bt,be,bp⟩:=ad.place (p:=1) (by rw [aa];decide);obtain ⟨n0,y0,b0,o0,a6,bf,a4,bz,a7,ao⟩:=ad.place (p:=0) (by rw [aa];decide);obtain ⟨rfl,rfl⟩:b0=b1/\o0=o1:=by rw [a7] at be;injection be with e;injection e with e1 e2;exact ⟨e1,e2⟩
 have c2:w2.cell? ⟨gv,1,none⟩=some (.slice (some ⟨b0,o0,none⟩) 2 r.lC):=by rw [<- a7];exact (bg.cell 1).trans g1.out
 have c1:=f3.cell c2 zq;have ba:y1.op=lvO 1:=by rw [a9];unfold lvO;rw [<- a2,a3]
 have bw:y0.op=lvO 0:=by rw [bf];unfold lvO;rw [<- a2,a6]
 have ak:=lh (Gw y1 w3 (bt.non f3).at a5);have aj:=lh (fun (w':World) (h:Fr Non w2 w')=>Gw y0 w' (bz.non h).at a4);unfold NewB at ak aj;have bj:Hid (∃m,y1.op.put.length=m/\m<=500000):=⟨_,rfl,by rw [a9];exact Km ad.rows a3⟩;have bk:Hid (∃m,y0.op.put.length=m/\m<=500000):=⟨_,rfl,by rw [bf];exact Km ad.rows a6⟩;obtain ⟨m1,e1,z1⟩:=bj.out;obtain ⟨m0,e0,z0⟩:=bk.out;have ag:=Et (P:=zp) y1.cells b0 (o0+1*27) underlying55 rfl aw w3 (bp.fr f3 zq);have ab:=Et (P:=zp) y0.cells b0 (o0+0*27) underlying55 rfl aw;rw [Nat.zero_mul,Nat.add_zero] at ab ao;rw [Nat.one_mul] at ag;rw [e1] at ak;rw [e0] at aj;have bd:s.g.cards=As 0 [1,2,2,3]:=by rw [bv.out,al]
 have av:=lh (fun (A:Option Addr) (c:Nat) (w':World) (hf:Fr Non w3 w') (hrd:Rd w' w'.heap.size 1 A m1 (y1.op.put.map Bv))=>Ii w2.heap.size w'.heap.size m1 c A s y1.op w' (hs.out.non hf) (hk.out.fr (b9.trans hf zr)) e1 hrd (by omega) a5);have az:=lh (fun (A:Option Addr) (c:Nat) (s':Ad) (w':World) (hs':s'.okAt w' w2.heap.size) (hf:Fr Non w2 w') (hrd:Rd w' w'.heap.size 1 A m0 (y0.op.put.map Bv))=>Ii w2.heap.size w'.heap.size m0 c A s' y0.op w' hs' (hk.out.fr (f2.trans hf zr)) e0 hrd (by omega) a4);unfold TakeRPost at av az;rw [bc.out,ay.out,bd,ba] at av;obtain ⟨bm,br⟩:=Ap2;obtain ⟨bo,bs,bx⟩:=Ap3;rw [bm] at av;obtain ⟨Y1,b8⟩:=Aa y1.cells;obtain ⟨Y0,b6⟩:=Aa y0.cells;rw [b8.out] at ag ak;rw [b6.out] at ab aj ao;rw [ba] at ak;rw [bw] at aj az;clear bj bk a3 a6 a9 bf bt bz be a7 g1 a2 aa b4 ad bg b7 bp ba bw al bm e1 e0 a5 a4 ar;generalize hT1:(Az (As 0 [1,2,2,3]) ([],[]) (lvO 1)).2=T1 at*;replace hT1:=lh hT1;generalize (lvO 1).put=P1 at*
 go_upto_region 6 with (first
  |(go_at_call 23;(with_reducible refine (ak.out).mono ?_);rintro _ w4 ⟨A4,c4,rfl,o4,f4⟩)
  |(go_at_call 22;(with_reducible refine (av.out _ _ _ f4 o4.rd).mono ?_);rintro _ w5 ⟨rfl,s5,aq,af⟩))
 have bq:Fr Non w2 w5:=(hs.out.non f4).below aq.out.fr (f3.trans f4 zr) (At3 _);have c5:=bq.cell c2 zq;have ah:Hid (s5.rb=sb):=aq.out.rb.trans bc.out;have bh:Hid (s5.g.cards=As 0 [1,2,2,3]):=aq.out.cards.trans bd;have ac:Hid (s5.okAt w5 w2.heap.size):=aq.out.ok
 have cc:Hid (s5.ws.length=1):=by
  show _=_;have:=congrArg (fun z:List Pn × List Op=>z.2.length) af.out;unfold Ad.st at this;simp only [Au0] at this;rw [this,br]
 have a8:=lh (Kj w2.heap.size s5 w5 ac.out);rw [ah.out,cc.out] at a8;clear aq hs ay bv av ak bd f4 o4 ag c1 br;go_upto_region 7 with (go_at_call 13;(with_reducible refine (a8.out).mono ?_);rintro _ w6 ⟨rfl,f6⟩)
 have ax:=bq.trans f6 zr;have c6:=f6.cell c5 zq;have cd:=ab w6 (ao.fr ax zq);have bu:=lh (aj.out w6 ax);have bb:=lh (fun (A:Option Addr) (c:Nat) (w':World) (hf:Fr Non w6 w') (hrd:Rd w' w'.heap.size 1 A m0 ((lvO 0).put.map Bv))=>az.out A c s5 w' (ac.out.non (f6.trans hf zr)) (ax.trans hf zr) hrd);rw [ah.out,af.out,bh.out,bo] at bb;clear aj az ab a8 c5 bo;generalize (lvO 0).put=P0 at*
 go_upto_region 8 with (first
  |(go_at_call 23;(with_reducible refine (bu.out).mono ?_);rintro _ w7 ⟨A7,c7,rfl,o7,f7⟩)
  |(go_at_call 22;(with_reducible refine (bb.out _ _ _ f7 o7.rd).mono ?_);rintro _ w8 ⟨rfl,s8,a1,ai⟩))
 have cb:Fr Non w2 w8:=(ac.out.non (f6.trans f7 zr)).below a1.out.fr (ax.trans f7 zr) (At3 _);have au:Hid (s8.rb=sb):=a1.out.rb.trans ah.out;have ae:Hid (s8.okAt w8 w2.heap.size):=a1.out.ok
 have b5:Hid (s8.ws.length=0):=by
  show _=_;have:=congrArg (fun z:List Pn × List Op=>z.2.length) ai.out;unfold Ad.st at this;simp only [Au0] at this;rw [this,bs]
 have ca:Hid (s8.g.pns.length=2):=by
  show _=_;have:=congrArg (fun z:List Pn × List Op=>z.1.length) ai.out;unfold Ad.st at this;dsimp only at this;rw [this,bx]
 have b2:=lh (Kj w2.heap.size s8 w8 ae.out);rw [au.out,b5.out] at b2;have a0:=lh (fun (w':World) (h:Fr Non w8 w')=>Ng w2.heap.size s8 w' (ae.out.non h));have bl:(Ao (s8.g.pns.map Pn.id)).length=2:=by rw [H4,Au0];exact ca.out
 unfold Ez at a0;rw [au.out] at a0;generalize Ao (s8.g.pns.map Pn.id)=IS at*;rw [bl] at a0;have hd:=lh (fun (w':World) (hf:Fr Non w8 w')=>ap.out w' ((f2.trans cb zr).trans hf zr));clear a1 ai ae ac af bu bb o7 c6 cd bs bx ap bl
 go_wp2_with (first
  |(go_at_call 13;(with_reducible refine (b2.out).mono ?_);rintro _ w9 ⟨rfl,f9⟩)
  |(go_at_call 15;(with_reducible refine (a0.out _ f9).mono ?_);rintro _ wA ⟨AA,cA,rfl,oA,fA⟩;have hd:=lh (hd.out wA (f9.trans fA zr))))
 exact hd.out
end Oq
namespace Oq
attribute [local go_sem] At1 At2
attribute [local go_sem ↓] E9
end Oq
namespace Oq
end Oq
namespace Sg
theorem y37g (P m inv y k:Nat) (hP:1+P*m=inv*36) (h:P*k+y=y*37) (hy:y<P):y=0:=by
 have h1:P*k=36*y:=by omega
 have h2:y+P*(m*y)=P*(inv*k):=by
  have h3:(1+P*m)*y=inv*(P*k):=by rw [hP,h1,Nat.mul_assoc]
  rw [Nat.add_mul,Nat.one_mul,Nat.mul_assoc] at h3;rw [h3,Nat.mul_left_comm]
 have h3:(y+P*(m*y))%P=(P*(inv*k))%P:=congrArg (· %P) h2;rw [Nat.add_mul_mod_self_left,Nat.mul_mod_right,Nat.mod_eq_of_lt hy] at h3;exact h3
theorem y37p (P m inv y:Nat) (hP:1+P*m=inv*36) (hy:y<P) (h0:y≠0):y*37%P≠y:=by
 intro h;have e:=Nat.div_add_mod (y*37) P;rw [h] at e;exact h0 (y37g P m inv y _ hP e hy)
theorem y37 (y:Nat) (hy:y<2305843009213693951) (h0:y≠0):y*37%2305843009213693951≠y:=y37p 2305843009213693951 17 1088870309906466588 y (by decide) hy h0
theorem Ap4 (S:Nat):37^(S+1)%2305843009213693951=37^S%2305843009213693951*37%2305843009213693951:=by
 rw [Nat.pow_succ,Nat.mul_mod (37^S),Nat.mul_mod (37^S%2305843009213693951),Nat.mod_mod]
theorem Ap5 {S:Nat} (hS:S<2305843009213693950):Fd.pow 37 ((S+1)%2305843009213693950)≠Fd.pow 37 S:=by
 have hlt:(S+1)%2305843009213693950<18446744073709551616:=by have:=At7 (S+1) (show 0<2305843009213693950 by omega);omega
 rw [Fd.pow_eq _ _ hlt,Fd.pow_eq _ _ (show S<18446744073709551616 by omega),Qh,Ap4];exact y37 _ (At7 _ (by omega)) (Qi S)
theorem Tv {p R S:Nat} {L:List UInt8} (h:check p L R S=true):Fd.pow 37 S=Fd.mul R (Fd.pow p (e R p L)):=by
 unfold check at h;simp only [Au4,beq_iff_eq] at h;exact h.2
theorem check_next {p R S:Nat} {L:List UInt8} (hS:S<2305843009213693950) (h:check p L R S=true):check p L R ((S+1)%2305843009213693950)=false:=by
 cases hc:check p L R ((S+1)%2305843009213693950) with
 |false=>rfl
 |true=>exact absurd ((Tv hc).trans (Tv h).symm) (Ap5 hS)
end Sg
namespace Oq
def Bi (o:Op):Op:={o with s:=(o.s+1)%2305843009213693950}
theorem Ap6 (o:Op):(Bi o).name=o.name:=rfl
theorem Ap7 {p:Nat} {o:Op} (hs:o.s<2305843009213693950) (h:Sg.check p o.bare o.r o.s=true):Sg.check p (Bi o).bare (Bi o).r (Bi o).s=false:=by
 have h1:=Sg.check_next hs h;have e1:(Bi o).bare=o.bare:=rfl;have e2:(Bi o).r=o.r:=rfl;have e3:(Bi o).s=(o.s+1)%2305843009213693950:=rfl;rw [e1,e2,e3];exact h1
theorem Ap8 {cards:List Cd} {m:List Pn} {o:Op} {c:Cd} (hchk:(Bi o).chk=0) (hnew:plc m o.name=none) (hroom:m.length<200) (hc:Ea cards o.by_=some c) (hs:o.s<2305843009213693950) (hsg:Sg.check c.s o.bare o.r o.s=true):Aj cards m (Bi o)=12:=by
 have hck:=Ap7 hs hsg;unfold Aj;rw [if_neg (fun h=>h hchk),if_neg (by rw [Ap6,hnew];simp),if_neg (by omega)];rw [show Ea cards (Bi o).by_=some c from hc];dsimp only;rw [if_pos hck]
def Au (l:List Pn) (q:Nat):Op:=match l[q]? with|some n=>n.o|none=>Op.zero
def opB (l:List Pn) (q:Nat × Bool):Op:=if q.2=true then Bi (Au l q.1) else Au l q.1
theorem B2 {l:List Pn} {q:Nat} {n:Pn} (h:l[q]? =some n):Au l q=n.o:=by unfold Au;rw [h]
theorem Nk (l m:List Pn) (q:Nat × Bool):ready m (opB l q)=ready m (Au l q.1):=by unfold opB;split<;>rfl
def Ca (l:List Pn) (K:List Nat) (p:Nat):Bool:=(Au l p).past.all (fun id=>K.any (fun q=>Id.eq (Au l q).name id))
structure Bm (cards:List Cd) (l:List Pn) (K:List Nat) (W:List (Nat × Bool)) (m:List Pn) (ws:List Op):Prop where
 rl:Rows cards l
 rm:Rows cards m
 km:m.map Pn.o=K.map (Au l)
 ww:ws=W.map (opB l)
 kl:∀q∈K,q<l.length
 wl:∀q∈W,q.1<l.length
 nodup:(K++W.map Prod.fst).Nodup
theorem Bm.among {cards:List Cd} {l m:List Pn} {K:List Nat} {W:List (Nat × Bool)} {ws:List Op} (h:Bm cards l K W m ws):E7 l m:=by
 intro n' hn;have h1:n'.o∈K.map (Au l):=by rw [<- h.km];exact Au1 hn
 obtain ⟨q,hq,e⟩:=List.mem_map.1 h1;have hlt:=h.kl q hq;exact ⟨l[q],List.getElem_mem _,by rw [<- e,B2 (At0 hlt)]⟩
theorem Bm.has {cards:List Cd} {l m:List Pn} {K:List Nat} {W:List (Nat × Bool)} {ws:List Op} (h:Bm cards l K W m ws) (id:Id):(plc m id).isSome=K.any (fun q=>Id.eq (Au l q).name id):=by
 rw [At9,Au5];constructor
 ·
  intro hs
  cases hp:plc m id with
  |none=>rw [hp] at hs;cases hs
  |some j=>
   obtain ⟨n',hn',e⟩:=Bo hp;have h1:n'.o∈K.map (Au l):=by rw [<- h.km];exact Au1 (At4 hn')
   obtain ⟨q,hq,e2⟩:=List.mem_map.1 h1;exact ⟨q,hq,(Id.eq_iff _ _).2 (by rw [e2,<- (h.rm.ok j n' hn').id,e])⟩
 ·
  rintro ⟨q,hq,e⟩;have e':=(Id.eq_iff _ _).1 e;have h1:Au l q∈m.map Pn.o:=by rw [h.km];exact Au1 hq
  obtain ⟨n',hn',e2⟩:=List.mem_map.1 h1;obtain ⟨j,hj⟩:=List.getElem?_of_mem hn';have:=(h.rm.ok j n' hj).plc;rw [(h.rm.ok j n' hj).id,e2,e'] at this;rw [this];rfl
theorem Bm.free {cards:List Cd} {l m:List Pn} {K:List Nat} {W:List (Nat × Bool)} {ws:List Op} (h:Bm cards l K W m ws) (q:Nat × Bool):ready m (opB l q)=Ca l K q.1:=by
 rw [Nk];unfold ready Ca;rw [At9,Au6,List.any_eq_false,List.all_eq_true];refine forall_congr' (fun id=>forall_congr' (fun _=> ?_));rw [<- h.has id]
 cases plc m id with
 |none=>exact ⟨fun h=>absurd rfl h,fun h=>by cases h⟩
 |some i=>exact ⟨fun _=>rfl,fun _=>Au7⟩
theorem Hc {cards:List Cd} {l:List Pn} (h:Rows cards l) {p q:Nat} (hp:p<l.length) (hq:q<l.length) (e:(Au l p).name=(Au l q).name):p=q:=by
 have h1:l[p]? =some l[p]:=At0 hp;have h2:l[q]? =some l[q]:=At0 hq;rw [B2 h1,B2 h2,<- (h.ok p _ h1).id,<- (h.ok q _ h2).id] at e;have k1:=(h.ok p _ h1).plc;rw [e,(h.ok q _ h2).plc] at k1;injection k1 with k1
 exact k1.symm
theorem Bm.err {cards:List Cd} {l m:List Pn} {K:List Nat} {W:List (Nat × Bool)} {ws:List Op} (h:Bm cards l K W m ws) (hB:∀n∈l,n.o.s<2305843009213693950/\(Bi n.o).chk=0) (hlen:l.length<200) {q:Nat × Bool} (hq:q.1<l.length) (hn:q.1∉K) (hr:Ca l K q.1=true):Aj cards m (opB l q)=if q.2=true then 12 else 0:=by
 have h1:l[q.1]? =some l[q.1]:=At0 hq
 have hnew:plc m l[q.1].o.name=none:=by
  cases hp:plc m l[q.1].o.name with
  |none=>rfl
  |some j=>
   exfalso;have h2:(plc m l[q.1].o.name).isSome=true:=by rw [hp];rfl
   rw [h.has,Au5] at h2;obtain ⟨p,hp2,e⟩:=h2;have e':=(Id.eq_iff _ _).1 e;rw [<- B2 h1] at e';exact hn (Hc h.rl (h.kl p hp2) hq e'▸hp2)
 have hroom:m.length<200:=by
  have hk:K.Nodup:=(List.nodup_append.1 h.nodup).1;have e1:m.length=K.length:=by have:=congrArg List.length h.km;simpa using this
  have e2:K.length<=(List.range l.length).length:=E8 hk (fun x hx=>List.mem_range.2 (h.kl x hx));rw [List.length_range] at e2;omega
 have hid:=(h.rl.ok _ _ h1).id;have hrd:ready m l[q.1].o=true:=by rw [<- B2 h1,<- Nk l m q,h.free];exact hr
 have he:Aj cards m l[q.1].o=0:=by
  rw [Kc h.rl h.rm h.among h1 (by rw [hid];exact hnew) hroom,if_neg];unfold ready at hrd;rw [Au6] at hrd;rw [hrd];exact Au7
 unfold opB;rw [B2 h1]
 by_cases hb:q.2=true
 ·
  rw [if_pos hb,if_pos hb];obtain ⟨⟨c,hc,hsg⟩,_⟩:=Ka he;obtain ⟨b1,b2⟩:=hB _ (At4 h1);exact Ap8 b2 hnew hroom hc b1 hsg
 ·
  rw [if_neg hb,if_neg hb];exact he
end Oq
namespace Oq
attribute [local go_sem] At1 At2
attribute [local go_sem ↓] Be C4
end Oq
namespace Oq
end Oq
end Go.Proofs.YtgbdljlapmjmnaaGreatDoor
