/-
  Contracts of the functions that the claim's statement reaches, walked one by one (part 17).
  Conditions: as each theorem says.
-/
import Derived.Sort.AssemblyPlain
import Derived.Test.YtgbdljlapmjmnaaGreatDoorRlG16
set_option maxRecDepth 100000
set_option maxHeartbeats 16000000
open Array renaming setIfInBounds_comm->A28,size_setIfInBounds->A29,toList_setIfInBounds->A30
open Bool renaming not_false->A04,not_true->A05,eq_iff_iff->A14,not_eq_true'->A19,false_ne_true->A25
open Int renaming tmod_eq_emod_of_nonneg->A11,tdiv_eq_ediv_of_nonneg->A20
open List renaming not_mem_nil->A01,mem_of_getElem?->A02,getElem?_eq_getElem->A03,getElem?_of_mem->A08,length_map->A13,map_append->A15,length_append->A16,take_of_length_le->A21,getElem?_map->A22,mem_append_right->A23,any_eq_false->A24,mem_cons_self->A26,mem_map_of_mem->A27
open Nat renaming mod_lt->A06,le_refl->A07,lt_of_lt_of_le->A09,le_trans->A12,add_zero->A17,lt_or_ge->A18
open Go.World renaming size_alloc->A10
open Go.Proofs.Tryz
open Go.Proofs.Tryz renaming prog->zp
open Go.Lib renaming hid->lh
open List renaming set->zl
open Go.Ending renaming returned->ze
namespace Go.Proofs.YtgbdljlapmjmnaaGreatDoor
open Go.RowKit
attribute [local go_sem ↓] Go.wp_at_zero Go.wp_at_succ
namespace Oq
attribute [local go_sem] A04 A05
attribute [local go_sem ↓] Gk Bo Iz Dn
def fg0 (A:Option Addr) (c:Nat) (cs:List Cd):FG:=⟨A,c,cs,none,0,[],none,0,none,0,[],[]⟩
theorem Au0 {A:Option Addr} {c:Nat} {cs:List Cd} {w:World} {base:Nat} (h:RowAt w base 96 5 A cs.length c (cs.flatMap Cd.cells)) (hf:cs.length<=1000) (hk:∀c∈cs,c.s<18446744073709551616):(fg0 A c cs).own w base where
 cards:=h
 ops:=RowAt.nil _ _ _ _
 each _ hx:=absurd hx A01
 same:=rfl
 ok _ hx:=absurd hx A01
 ids:=RowAt.nil _ _ _ _
 pasts:=RowAt.nil _ _ _ _
 eachP _ hx:=absurd hx A01
 lenP:=rfl
 sameP _ _ _ hx _:=by cases hx
 rows:=Rows.nil
 num:=⟨fun _ hn=>absurd hn A01,fun _ hn=>absurd hn A01,fun _ hn=>absurd hn A01,fun _ hn=>absurd hn A01,by show 0<=14;decide⟩
 cfew:=hf
 cok:=hk
theorem Au1:∀c∈Bb 0 [1,2,2,3],c.s<18446744073709551616:=fun c hc=>by
 obtain ⟨xs,h1,_,_,h4⟩:=Nj [1,2,2,3] 0 (by decide);rw [<- h1] at hc;obtain ⟨x,hx,rfl⟩:=List.mem_map.1 hc;exact h4 x hx
def Hv (l0:List Int) (w:World) (e:Ending) (w':World):Prop:=
 ∃r:FG,e=.returned (.agg r.cells)/\Fr Non w w'/\r.own w' w.heap.size/\r.cards=Bb 0 [1,2,2,3]/\r.l=K9 l0
def Au2:OpL:={OpL.zero with by_:=1,sq:=1,kind:=1}
theorem Og:OpL.zero.op.ok:=by
 have z:I64 0:=⟨by decide,by decide⟩;have u:U64 0:=by unfold U64;decide
 have e:∀{α:Type} {P:α->Prop},(([]:List α).length<=1000/\∀x∈([]:List α),P x):=⟨by simp,fun _ h=>absurd h A01⟩;exact {by_:=z,sq:=z,kind:=z,at_:=z,past:=e,dev:=z,old:=z,mem:=z,role:=z,path:=e,epoch:=⟨z,z,u⟩,n:=z,body:=by decide,refs:=e,of:=⟨z,z,u⟩,guards:=e,need:=z,wait:=z,boxes:=e,pub:=u,hist:=e,r:=u,s:=u}
theorem G6 {w:World} {base:Nat} {x y:OpL} (h:x.lies w base) (h1:y.pastA=x.pastA/\y.pastC=x.pastC/\y.past=x.past) (h2:y.pathA=x.pathA/\y.pathC=x.pathC/\y.path=x.path) (h3:y.bodyA=x.bodyA/\y.bodyC=x.bodyC/\y.body=x.body) (h4:y.refsA=x.refsA/\y.refsC=x.refsC/\y.refs=x.refs) (h5:y.guardsA=x.guardsA/\y.guardsC=x.guardsC/\y.guards=x.guards) (h6:y.boxesA=x.boxesA/\y.boxesC=x.boxesC/\y.boxes=x.boxes) (h7:y.histA=x.histA/\y.histC=x.histC/\y.hist=x.hist):y.lies w base:=by
 obtain ⟨a1,a2,a3⟩:=h1;obtain ⟨b1,b2,b3⟩:=h2;obtain ⟨c1,c2,c3⟩:=h3;obtain ⟨d1,d2,d3⟩:=h4;obtain ⟨e1,e2,e3⟩:=h5;obtain ⟨f1,f2,f3⟩:=h6;obtain ⟨g1,g2,g3⟩:=h7;exact ⟨by rw [a1,a2,a3];exact h.past,by rw [b1,b2,b3];exact h.path,by rw [b3];exact h.nodes,by rw [c1,c2,c3];exact h.body,by rw [d1,d2,d3];exact h.refs,by rw [e1,e2,e3];exact h.guards,by rw [f1,f2,f3];exact h.boxes,by rw [g1,g2,g3];exact h.hist,by rw [g3];exact h.seals⟩
structure Ep (w7 v:World) (base go:Nat) (x:OpL) (A:Option Addr) (n c:Nat) (on:List Nat):Prop where
 b:Blk v go 55 x.cells
 f:Fr Non w7 v
 l:x.lies v base
 os:Own v (go+1) 3 1 A n c (on.map Qv)
 len:on.length=n
 gd:x.guardsA=none/\x.guardsC=0/\x.guards=[]
 gs:w7.heap.size<=go
 sz:go<v.heap.size
theorem Ep.non {w7 v v':World} {base go:Nat} {x:OpL} {A:Option Addr} {n c:Nat} {on:List Nat} (s:Ep w7 v base go x A n c on) (hf:Fr Non v v'):Ep w7 v' base go x A n c on:=
 ⟨s.b.fr hf zq,s.f.trans hf zr,s.l.non hf,s.os.fr hf zr,s.len,s.gd,s.gs,A09 s.sz hf.size⟩
theorem Ep.app {w7 v v':World} {base go:Nat} {x:OpL} {A A':Option Addr} {n c n' c':Nat} {on on':List Nat} (s:Ep w7 v base go x A n c on) (hf:Fr (fun k=>Ac A=some k) v v') (ho:Own v' (go+1) 3 1 A' n' c' (on'.map Qv)) (hl:on'.length=n'):Ep w7 v' base go x A' n' c' on':=
 ⟨s.b.fr hf (fun e=>by have:=(s.os.row _ e).1;omega),s.f.trans hf (fun k hk e=>by have:=(s.os.row k e).1;have:=s.gs;omega),⟨s.l.past.keepT hf ((Types.row s.os).not (by decide)),s.l.path.keepT hf ((Types.row s.os).not (by decide)),fun y hy=>(s.l.nodes y hy).keepT hf ((Types.row s.os).not (by decide)),s.l.body.keepT hf ((Types.row s.os).not (by decide)),s.l.refs.keepT hf ((Types.row s.os).not (by decide)),by (obtain ⟨h1,h2,h3⟩:=s.gd;rw [h1,h2,h3];exact ⟨SlAt.nil _ _ _,.inl rfl⟩),s.l.boxes.keepT hf ((Types.row s.os).not (by decide)),s.l.hist.keepT hf ((Types.row s.os).not (by decide)),fun y hy=>(s.l.seals y hy).keepT hf ((Types.row s.os).not (by decide))⟩,ho,hl,s.gd,s.gs,A09 s.sz hf.size⟩
theorem Ep.setB {w7 v:World} {base go:Nat} {x:OpL} {A:Option Addr} {n c:Nat} {on:List Nat} (s:Ep w7 v base go x A n c on) (j:Nat) (u:Value) (y:OpL) (hc:x.cells.setIfInBounds j u=y.cells) (hg:y.guardsA=none/\y.guardsC=0/\y.guards=[]) (hy:∀v',x.lies v' base->(∀(t:TypeId) (size n c:Nat) (A:Option Addr) (xs:List Value),t≠55->RowLies v base t size A n c xs->RowLies v' base t size A n c xs)->y.lies v' base):Ep w7 (v.setCell ⟨go,j,none⟩ u) base go y A n c on where
 b:=hc▸s.b.set j u
 f:=s.f.setNew (g:=go) (by have:=s.gs;omega) j u
 l:=hy _ (s.l.keepP ((Fr.refl (One go) v).setOne j u) (Types.one s.b) (by decide) (by decide) (by decide) (by decide) (by decide) (by decide) (by decide)) (fun _ _ _ _ _ _ ht h=>h.keepT ((Fr.refl (One go) v).setOne j u) ((Types.one s.b).not ht))
 os:=Own.setFar s.os s.b (by decide) u
 len:=s.len
 gd:=hg
 gs:=s.gs
 sz:=by have:=s.sz;first|exact this|(simp [World.setCell];omega)
theorem Oh (B n c:Nat) (A:Option Addr) (l0:List Int) (w:World) (hn:Hid (l0.length=n)) (hr:Rd w B 1 A n (l0.map Iv)) (hnm:n<=9223372036854775807) (hok:∀x∈l0,I64 x):
  Calls zp 10 #[.slice A n c] w (Hv l0 w):=by
 have kc:=lh (fun (w':World) (hr:Rd w' w'.heap.size 1 (some ⟨w.heap.size+1,0,none⟩) 4 (([1,2,2,3]:List Int).map Iv))=>Aa8 4 4 (some ⟨w.heap.size+1,0,none⟩) [1,2,2,3] w' rfl (by decide) hr);have br:=(Blk.new w 28 #[.slice none 0 0,.slice none 0 0,.slice none 0 0,.slice none 0 0]).alloc (.cells #[.int .i64 1,.int .i64 2,.int .i64 2,.int .i64 3] 3);have bi:=Blk.new (w.alloc (.cells #[.slice none 0 0,.slice none 0 0,.slice none 0 0,.slice none 0 0] 28)) 3 #[.int .i64 1,.int .i64 2,.int .i64 2,.int .i64 3];rw [A10] at bi;have f0:Fr Non w ((w.alloc (.cells #[.slice none 0 0,.slice none 0 0,.slice none 0 0,.slice none 0 0] 28)).alloc (.cells #[.int .i64 1,.int .i64 2,.int .i64 2,.int .i64 3] 3)):=((Fr.refl Non w).alloc _).alloc _;go_enter func10,ntmps10;go_upto_region 1 with (fail)
 generalize hw0:(w.alloc (.cells #[.slice none 0 0,.slice none 0 0,.slice none 0 0,.slice none 0 0] 28)).alloc (.cells #[.int .i64 1,.int .i64 2,.int .i64 2,.int .i64 3] 3)=w0 at*;unfold Rk at kc
 have dn:Rd w0 w0.heap.size 1 (some ⟨w.heap.size+1,0,none⟩) 4 (([1,2,2,3]:List Int).map Iv):=by
  rw [<- hw0] at bi ⊢;exact Rd.blk (n:=4) (size:=1) bi rfl
 go_upto_region 2 with (go_at_call 44;(with_reducible refine (kc.out _ dn).mono ?_);rintro _ w1 ⟨A1,c1,rfl,o1,f1⟩;have dm:=f0.trans f1 zr;have bw:=br.fr f1 zq;have bn:=Blk.new w1 28 #[.slice none 0 0,.slice none 0 0,.slice none 0 0,.slice none 0 0];have az:=Cy (P:=zp) w1.heap.size 28 (cs:=#[.slice A1 4 c1,.slice none 0 0,.slice none 0 0,.slice none 0 0]) Dd (old:=#[.slice none 0 0,.slice none 0 0,.slice none 0 0,.slice none 0 0]) rfl (by simp [Value.oneCell']))
 have cc:=(bw.alloc (.cells #[.slice none 0 0,.slice none 0 0,.slice none 0 0,.slice none 0 0] 28)).setRow_far (g':=w1.heap.size) (by have:=bw.lt;omega) (cs:=#[.slice A1 4 c1,.slice none 0 0,.slice none 0 0,.slice none 0 0]);have b0:Blk ((w1.alloc (.cells #[.slice none 0 0,.slice none 0 0,.slice none 0 0,.slice none 0 0] 28)).setRow w1.heap.size #[.slice A1 4 c1,.slice none 0 0,.slice none 0 0,.slice none 0 0]) w1.heap.size 28 (fg0 A1 c1 (Bb 0 [1,2,2,3])).cells:=bn.setRow (cs:=#[.slice A1 4 c1,.slice none 0 0,.slice none 0 0,.slice none 0 0]);have fG:Fr Non w1 ((w1.alloc (.cells #[.slice none 0 0,.slice none 0 0,.slice none 0 0,.slice none 0 0] 28)).setRow w1.heap.size #[.slice A1 4 c1,.slice none 0 0,.slice none 0 0,.slice none 0 0]):=((Fr.refl Non w1).alloc _).setRow (fun hh=>absurd hh (by omega)) _;have en:w.heap.size<w1.heap.size:=bw.lt;have e3:w.heap.size<=w0.heap.size:=f0.size;have f3:=dm.trans fG zr;have ax:(fg0 A1 c1 (Bb 0 [1,2,2,3])).own ((w1.alloc (.cells #[.slice none 0 0,.slice none 0 0,.slice none 0 0,.slice none 0 0] 28)).setRow w1.heap.size #[.slice A1 4 c1,.slice none 0 0,.slice none 0 0,.slice none 0 0]) w.heap.size:=Au0 ((RowAt.of_own (o1.fr fG zr)).lower (by omega)) (by decide) Au1;have bt:w1.heap.size<((w1.alloc (.cells #[.slice none 0 0,.slice none 0 0,.slice none 0 0,.slice none 0 0] 28)).setRow w1.heap.size #[.slice A1 4 c1,.slice none 0 0,.slice none 0 0,.slice none 0 0]).heap.size:=b0.lt;clear az bn bw br o1 fG dm dn f1;obtain ⟨gv,df⟩:=Aa w1.heap.size;rw [df.out] at b0 ax cc f3 en bt ⊢;generalize (w1.alloc (.cells #[.slice none 0 0,.slice none 0 0,.slice none 0 0,.slice none 0 0] 28)).setRow gv #[.slice A1 4 c1,.slice none 0 0,.slice none 0 0,.slice none 0 0]=w3 at*;have au:(fg0 A1 c1 (Bb 0 [1,2,2,3])).cards=Bb 0 [1,2,2,3]:=rfl;have cz:(fg0 A1 c1 (Bb 0 [1,2,2,3])).l=[]:=rfl;generalize fg0 A1 c1 (Bb 0 [1,2,2,3])=r0 at*;clear bi kc hw0 f0 e3 df w1 w0;have dv:=OpL.zero_own w3 w.heap.size;have kp:=Uh w.heap.size w3.heap.size 0 0 none r0 Au2 [] w3 ax (G6 dv.lies ⟨rfl,rfl,rfl⟩ ⟨rfl,rfl,rfl⟩ ⟨rfl,rfl,rfl⟩ ⟨rfl,rfl,rfl⟩ ⟨rfl,rfl,rfl⟩ ⟨rfl,rfl,rfl⟩ ⟨rfl,rfl,rfl⟩) f3.size {Og with by_:=(show I64 1 from ⟨by decide,by decide⟩),sq:=(show I64 1 from ⟨by decide,by decide⟩),kind:=(show I64 1 from ⟨by decide,by decide⟩)} ⟨rfl,rfl,rfl⟩ ⟨1,rfl,by omega⟩ ⟨by decide,by decide⟩ rfl (Rd.nil _ _ _ _) (by omega) (fun _ h=>absurd h A01) (by rw [cz];exact At8 au);replace kp:Hid (Calls zp 45 #[.agg r0.cells,.agg #[.int .i64 1,.int .i64 1,.int .i64 1,.int .i64 0,.slice none 0 0,.int .i64 0,.int .i64 0,.int .i64 0,.int .i64 0,.slice none 0 0,.int .i64 0,.int .i64 0,.int .u64 0,.int .i64 0,.slice none 0 0,.slice none 0 0,.int .i64 0,.int .i64 0,.int .u64 0,.slice none 0 0,.int .i64 0,.int .i64 0,.slice none 0 0,.int .u64 0,.slice none 0 0,.int .u64 0,.int .u64 0],.slice none 0 0] w3 (Gy w.heap.size r0 (Fh 1) [] w3)):=kp;have hl:=Ci (P:=zp) gv 28 underlying28 rfl (cs:=r0.cells) Dd;clear dv;go_upto_region 3 with (go_at_call 45;(with_reducible refine (kp.out).mono ?_);rintro _ w4 ⟨r1,rfl,f4,bj,ar,bm⟩;(have ct:=b0.fr f4 zq);(have az:=Cy (P:=zp) gv 28 (cs:=r1.cells) Dd (old:=r0.cells) rfl (Gx r1)))
 have a9:=bj.setG ct r1.cells;have dg:Blk (w4.setRow gv r1.cells) gv 28 r1.cells:=ct.setRow;have c4:=(cc.fr f4 zq).setRow_far (g':=gv) (by omega) (cs:=r1.cells);have f5:=(f3.trans f4 zr).setRow (g:=gv) (fun hh=>absurd hh (by omega)) r1.cells;rw [au] at ar;rw [cz] at bm;replace bm:r1.l=Fv l0 0:=bm;clear az hl kp ax b0 cc f3 bt au cz f4 bj ct;generalize w4.setRow gv r1.cells=w5 at*;go_wp2_with fail
 go_loopw [4] (fun v wr=>∃(j I:Nat) (r:FG),Hid (I=2*j)/\v=.int .i64 (I:Int)/\j<=13/\j<=n/2/\Blk wr gv 28 r.cells/\r.own wr w.heap.size/\r.cards=Bb 0 [1,2,2,3]/\Hid (r.l=Fv l0 j)/\Blk wr w.heap.size 28 #[.slice none 0 0,.slice none 0 0,.slice none 0 0,.slice none 0 0]/\Fr Non w wr) (fun v _=>26-(intOf v).toNat)
 case atStart=>exact ⟨0,0,r1,rfl,rfl,by omega,by omega,dg,a9,ar,bm,c4,f5⟩
 case round=>
 clear dg a9 ar bm c4 f5;obtain ⟨j,I,r,hI,rfl,hj,fd,bn,ro,bx,a0,br,hf⟩:=hrel;have e8:I<=26:=by have:=hI.out;omega
 have e1:=iw ((I:Int)+1)
 by_cases hgo:I+1<n/\I<26
 ·
  have t1:decide ((I:Int)+1<(n:Int))=true:=decide_eq_true (by omega);have t2:decide ((I:Int)<26)=true:=decide_eq_true (by omega);have k1:=lh (fun (v:World) (hv:Fr Non w v)=>N1 B n c I A l0 v hn (hr.fr hv zr) hok hnm (by omega))
  have k2:Hid (∀(v:World),Fr Non w v->Calls zp 46 #[.slice A n c,.int .i64 ((I:Int)+1)] v fun e w'=>e=.returned (.int .i64 (Da l0 (I+1):Int))/\Fr Non v w'):=fun v hv=>by
   have h:=N1 B n c (I+1) A l0 v hn (hr.fr hv zr) hok hnm (by omega);rwa [show (((I+1:Nat)):Int)=(I:Int)+1 from by omega] at h
  have aa:Hid (Fv l0 (j+1)=Of r.l (Da l0 I) (Da l0 (I+1))):=by
   show Of (Fv l0 j) (Da l0 (2*j)) (Da l0 (2*j+1))=_;rw [a0.out,hI.out]
  have cn:r.l≠[]:=by rw [a0.out];exact La l0 j
  have c2:r.l.length<=13:=by rw [a0.out];have:=Un l0 j;have:=hI.out;omega
  obtain ⟨a,ha⟩:=Aa (Da l0 I);obtain ⟨b,hb⟩:=Aa (Da l0 (I+1));rw [ha.out] at k1 aa;rw [hb.out] at k2 aa;have e9:a<=1000000/\b<=1000000:=by rw [<- ha.out,<- hb.out];exact ⟨N8 _ _,N8 _ _⟩
  clear ha hb hok hr a0
  go_upto_region 8 with (first
   |(go_at_call 46;(with_reducible refine (k1.out _ hf).mono ?_);rintro _ w6 ⟨rfl,f6⟩;(have cb:=hf.trans f6 zr))
   |(go_at_call 46;(with_reducible refine (k2.out _ cb).mono ?_);rintro _ w7 ⟨rfl,f7⟩))
  have bv:=cb.trans f7 zr;have cd:=bn.fr (f6.trans f7 zr) zq;have da:=br.fr (f6.trans f7 zr) zq;have ao:=ro.non (f6.trans f7 zr);clear bn br ro hf f6 f7 cb k1 k2;have bd:Hid (∀v,Fr Non w7 v->Blk v gv 28 r.cells):=fun v hv=>cd.fr hv zq;obtain ⟨D,hD⟩:=Aa (a%4);have ev:D<4:=by rw [<- hD.out];exact A06 _ (by omega)
  have eu:(a:Int).tmod 4=(D:Int):=by rw [A11 (by omega),<- hD.out];rfl
  have e4:=iw (1+(D:Int));have ek:=iw (D:Int);obtain ⟨X1,a1⟩:∃X:OpL,Hid (X={OpL.zero with by_:=(1:Int)+D,kind:=4}):=⟨_,rfl⟩;have b5:X1.cells=#[.int .i64 (1+(D:Int)),.int .i64 0,.int .i64 4,.int .i64 0,.slice none 0 0,.int .i64 0,.int .i64 0,.int .i64 0,.int .i64 0,.slice none 0 0,.int .i64 0,.int .i64 0,.int .u64 0,.int .i64 0,.slice none 0 0,.slice none 0 0,.int .i64 0,.int .i64 0,.int .u64 0,.slice none 0 0,.int .i64 0,.int .i64 0,.slice none 0 0,.int .u64 0,.slice none 0 0,.int .u64 0,.int .u64 0]:=by rw [a1.out];rfl
  have cl:(zp.info? 55).map (·.size)=some (#[.int .i64 (1+(D:Int)),.int .i64 0,.int .i64 4,.int .i64 0,.slice none 0 0,.int .i64 0,.int .i64 0,.int .i64 0,.int .i64 0,.slice none 0 0,.int .i64 0,.int .i64 0,.int .u64 0,.int .i64 0,.slice none 0 0,.slice none 0 0,.int .i64 0,.int .i64 0,.int .u64 0,.slice none 0 0,.int .i64 0,.int .i64 0,.slice none 0 0,.int .u64 0,.slice none 0 0,.int .u64 0,.int .u64 0]:Array Value).size:=by show _=some 27;kernel_rfl
  have az:=Cy (P:=zp) (t:=55) w7.heap.size 55 (cs:=#[.int .i64 (1+(D:Int)),.int .i64 0,.int .i64 4,.int .i64 0,.slice none 0 0,.int .i64 0,.int .i64 0,.int .i64 0,.int .i64 0,.slice none 0 0,.int .i64 0,.int .i64 0,.int .u64 0,.int .i64 0,.slice none 0 0,.slice none 0 0,.int .i64 0,.int .i64 0,.int .u64 0,.slice none 0 0,.int .i64 0,.int .i64 0,.slice none 0 0,.int .u64 0,.slice none 0 0,.int .u64 0,.int .u64 0]) cl (old:=zO) rfl (by rw [<- b5];exact Ex X1);have bo:=Blk.new w7 55 zO;go_upto_region 9 with (fail)
  have b1:Blk ((w7.alloc (.cells zO 55)).setRow w7.heap.size #[.int .i64 (1+(D:Int)),.int .i64 0,.int .i64 4,.int .i64 0,.slice none 0 0,.int .i64 0,.int .i64 0,.int .i64 0,.int .i64 0,.slice none 0 0,.int .i64 0,.int .i64 0,.int .u64 0,.int .i64 0,.slice none 0 0,.slice none 0 0,.int .i64 0,.int .i64 0,.int .u64 0,.slice none 0 0,.int .i64 0,.int .i64 0,.slice none 0 0,.int .u64 0,.slice none 0 0,.int .u64 0,.int .u64 0]) w7.heap.size 55 X1.cells:=b5▸bo.setRow;have f8:Fr Non w7 ((w7.alloc (.cells zO 55)).setRow w7.heap.size #[.int .i64 (1+(D:Int)),.int .i64 0,.int .i64 4,.int .i64 0,.slice none 0 0,.int .i64 0,.int .i64 0,.int .i64 0,.int .i64 0,.slice none 0 0,.int .i64 0,.int .i64 0,.int .u64 0,.int .i64 0,.slice none 0 0,.slice none 0 0,.int .i64 0,.int .i64 0,.int .u64 0,.slice none 0 0,.int .i64 0,.int .i64 0,.slice none 0 0,.int .u64 0,.slice none 0 0,.int .u64 0,.int .u64 0]):=((Fr.refl Non w7).alloc _).setRow (fun hh=>absurd hh (by omega)) _;have cy:=b1.lt;clear az bo;obtain ⟨go,ba⟩:=Aa w7.heap.size;rw [ba.out] at b1 f8 cy ⊢;generalize (w7.alloc (.cells zO 55)).setRow go #[.int .i64 (1+(D:Int)),.int .i64 0,.int .i64 4,.int .i64 0,.slice none 0 0,.int .i64 0,.int .i64 0,.int .i64 0,.int .i64 0,.slice none 0 0,.int .i64 0,.int .i64 0,.int .u64 0,.int .i64 0,.slice none 0 0,.slice none 0 0,.int .i64 0,.int .i64 0,.int .u64 0,.slice none 0 0,.int .i64 0,.int .i64 0,.slice none 0 0,.int .u64 0,.slice none 0 0,.int .u64 0,.int .u64 0]=w8 at*;have c6:=cd.fr f8 zq;have g1:Hid (r.cells[1]? =some (.slice r.lA r.l.length r.lC)):=rfl;have d1:=(c6.cell 1).trans g1.out;have cv:0<r.l.length:=List.length_pos_iff.2 cn;obtain ⟨L,hL⟩:=Aa r.l.length;rw [hL.out] at d1 g1 cv;have ef:((L:Int)==0)=false:=beq_eq_false_iff_ne.2 (by omega);obtain ⟨Q1,bp⟩:=Aa (a/4%L);have de:((a:Int).tdiv 4).tmod (L:Int)=(Q1:Int):=by rw [A20 (by omega),A11 (by omega),<- bp.out];rfl
  have b7:IntKind.i64.wrap (Q1:Int)=(Q1:Int):=IntWalk.i64_in _ (by have:Q1<=a:=(by rw [<- bp.out];exact A12 (Nat.mod_le _ _) (Nat.div_le_self _ _));omega);have d0:(a:Int).tdiv 4=((a/4:Nat):Int):=by rw [A20 (by omega)];rfl
  have cq:=iw ((a/4:Nat):Int);have ei:((a/4:Nat):Int).tmod (L:Int)=(Q1:Int):=by rw [<- d0];exact de
  have c7:(a:Int)/4%(L:Int)=(Q1:Int):=by rw [<- bp.out];rfl
  go_upto_region 10 with (fail)
  try rw [c7]
  have f9:Fr Non w8 (w8.alloc (.cells #[.int .i64 (Q1:Int)] 3)):=(Fr.refl Non w8).alloc _;have bq:=Blk.new w8 3 #[.int .i64 (Q1:Int)];have d4:X1.lies w7 w.heap.size:=by rw [a1.out];exact G6 (OpL.zero_own w7 w.heap.size).lies ⟨rfl,rfl,rfl⟩ ⟨rfl,rfl,rfl⟩ ⟨rfl,rfl,rfl⟩ ⟨rfl,rfl,rfl⟩ ⟨rfl,rfl,rfl⟩ ⟨rfl,rfl,rfl⟩ ⟨rfl,rfl,rfl⟩
  have s9:Ep w7 (w8.alloc (.cells #[.int .i64 (Q1:Int)] 3)) w.heap.size go X1 (some ⟨w8.heap.size,0,none⟩) 1 1 [Q1]:=⟨b1.fr f9 zq,f8.trans f9 zr,d4.non (f8.trans f9 zr),Own.blk bq (by omega) (by omega) rfl (by omega),rfl,by rw [a1.out];exact ⟨rfl,rfl,rfl⟩,by rw [<- ba.out];exact A07 _,A09 cy f9.size⟩;clear f9 bq d4 b1 f8 cy c6 d1 cd;obtain ⟨A9,ee⟩:=Aa (some (⟨w8.heap.size,0,none⟩:Addr));rw [ee.out] at s9 ⊢;generalize w8.alloc (.cells #[.int .i64 (Q1:Int)] 3)=w9 at*;have d6:=bd.out w9 s9.f;have kl:=lh (Aq8 w.heap.size r (1+(D:Int)) w9 (ao.non s9.f));have hl:=Ci (P:=zp) gv 28 underlying28 rfl (cs:=r.cells) Dd;have o0:w9.cell? ⟨go,0,none⟩=some (.int .i64 (1+(D:Int))):=by have h9:=s9.b.cell 0;rw [b5] at h9;exact h9
  rw [hL.out] at kl;go_upto_region 11 with (go_at_call 47;(with_reducible refine (kl.out).mono ?_);rintro _ cf ⟨rfl,dw⟩)
  have a3:=s9.non dw;clear s9 dw o0 d6 kl;have c5:=Nv r.l (1+(D:Int)) L;obtain ⟨Z,hZ⟩:=Aa (Ef r.l (1+(D:Int)) L);rw [hZ.out] at c5 ⊢;obtain ⟨C,hC⟩:∃C:Bool,C=(decide (0<=Z)&&decide (0<a/64%5)):=⟨_,rfl⟩
  have al:Hid ((if 0<=Z/\0<a/64%5 then [Z.toNat] else [])=if C=true then [Z.toNat] else []):=by
   show _=_;rw [hC]
   by_cases h1:0<=Z/\0<a/64%5
   · rw [if_pos h1,if_pos (by simp [h1])]
   · rw [if_neg h1,if_neg (fun e=>h1 (by simpa using e))]
  go_cut [56] from 49 to 56 (fun t wc=>cf=wc/\t=.bool C)
  case first=>
   have dk:Hid ((a:Int)/64%5=((a/64%5:Nat):Int)):=by show _=_;rfl
   rcases zb (decide (0<=Z)) with z1|z1
   ·
    have eg:decide (Z>=0)=true:=z1
    rcases zb (decide (0<a/64%5)) with u1|u1
    ·
     have u2:decide ((a:Int)/64%5>0)=true:=by rw [dk.out];exact decide_eq_true (by have:=of_decide_eq_true u1;omega)
     have d7:decide (0<(a:Int)/64%5)=true:=u2;rw [z1,u1] at hC;go_wp2_with fail;go_meet;exact ⟨rfl,by rw [hC];rfl⟩
    ·
     have u2:decide ((a:Int)/64%5>0)=false:=by rw [dk.out];exact decide_eq_false (by have:=of_decide_eq_false u1;omega)
     have d7:decide (0<(a:Int)/64%5)=false:=u2;rw [z1,u1] at hC;go_wp2_with fail;go_meet;exact ⟨rfl,by rw [hC];rfl⟩
   ·
    have eg:decide (Z>=0)=false:=z1;rw [z1] at hC;go_wp2_with fail;go_meet;exact ⟨rfl,by rw [hC];rfl⟩
  case rest=>
  obtain ⟨rfl,rfl⟩:=hcut
  go_upto_if 56 with (fail)
  go_cut [8] from 57 to 60 (fun t wc=>∃A' n' c',t=.slice A' n' c'/\n'<=2/\Ep w7 wc w.heap.size go X1 A' n' c' ([Q1]++(if C=true then [Z.toNat] else [])))
  case first=>
   cases C
   case true=>
    have z1:0<=Z:=by
     have h9:=hC.symm;rw [Bool.and_eq_true] at h9;exact of_decide_eq_true h9.1
    clear hC al;have bz:=Blk.new cf 3 #[.int .i64 Z];have d9:Hid (Value.int .i64 Z=Qv Z.toNat):=by show Value.int .i64 Z=Value.int .i64 ((Z.toNat:Nat):Int);rw [Int.toNat_of_nonneg z1]
    have so:=a3.os;have sg:=a3.gs;have ss:=a3.sz;go_wp2_with (at_builtin;go_loud (refine Ba (base:=go+1) (.tmp 57) (.tmp 59) 22 rfl rfl rfl rfl Ds (so.alloc (.cells #[.int .i64 Z] 3)) (Rd.blk (n:=1) (size:=1) bz rfl) (by simp [Value.oneCell']) (by omega) (by omega) (by rw [A10];omega) ?_);intro A8 c8 v8 ah ci cu);go_meet;refine ⟨A8,2,c8,rfl,by omega,(a3.non ((Fr.refl Non cf).alloc (.cells #[.int .i64 Z] 3))).app ci ?_ rfl⟩;rw [d9.out] at ah;exact ah
   case false=>
    clear hC al;go_wp2_with fail;go_meet;exact ⟨A9,1,1,rfl,by omega,a3⟩
  case rest=>
  obtain ⟨ew,dc,eb,rfl,d8,ag⟩:=hcut;clear a3 hC;generalize wc=w11 at*;have dt:Hid ((b:Int)%3=((b%3:Nat):Int)):=by show _=_;rfl
  obtain ⟨c3,aq⟩:∃c3:List Nat,Hid (c3=[Q1]++(if C=true then [Z.toNat] else [])):=⟨_,rfl⟩;rw [<- aq.out] at ag;have t3:Hid (((b:Int)%3==0)=decide (b%3=0)):=by show _=_;rw [dt.out,A14,beq_iff_eq,decide_eq_true_eq];omega
  obtain ⟨ad,aj⟩:∃ad:List Nat,Hid (ad=c3++(if b%3=0 then [b/3%L] else [])):=⟨_,rfl⟩
  go_upto_if 63 with (fail)
  rw [t3.out];obtain ⟨C3,b2⟩:=Aa (decide (b%3=0));rw [b2.out]
  go_cut [8] from 61 to 72 (fun t wc=>∃A' n' c',t=.slice A' n' c'/\n'<=3/\Ep w7 wc w.heap.size go X1 A' n' c' ad)
  case first=>
   cases C3
   case true=>
    have af:=lh (aj.out.trans (by rw [if_pos (of_decide_eq_true b2.out)]));have cp:=bd.out w11 ag.f;have d1:=(cp.cell 1).trans g1.out;obtain ⟨Q3,di⟩:=Aa (b/3%L);have ea:(b:Int)/3%(L:Int)=(Q3:Int):=by rw [<- di.out];rfl
    rw [di.out] at af;have bz:=Blk.new w11 3 #[.int .i64 (Q3:Int)];have so:=ag.os;have sg:=ag.gs;have ss:=ag.sz;clear t3;go_wp2_with (at_builtin;(try rw [ea]);go_loud (refine Ba (base:=go+1) (.tmp 64) (.tmp 71) 22 rfl rfl rfl rfl Ds (so.alloc (.cells #[.int .i64 (Q3:Int)] 3)) (Rd.blk (n:=1) (size:=1) bz rfl) (by simp [Value.oneCell']) (by omega) (by omega) (by rw [A10];omega) ?_);intro A8 c8 v8 ah ci cu);go_meet;refine ⟨A8,dc+1,c8,rfl,by omega,(ag.non ((Fr.refl Non w11).alloc (.cells #[.int .i64 (Q3:Int)] 3))).app ci ?_ ?_⟩
    ·
     rw [af.out,A15];exact ah
    ·
     rw [af.out,A16,ag.len];rfl
   case false=>
    have af:=lh (aj.out.trans (by rw [if_neg (of_decide_eq_false b2.out),List.append_nil]));clear t3;go_wp2_with fail;go_meet;exact ⟨ew,dc,eb,rfl,by omega,by rw [af.out];exact ag⟩
  case rest=>
  obtain ⟨cj,cg,cr,rfl,el,ay⟩:=hcut;clear ag b2 t3 dt;generalize wc=w12 at*;have b3:Hid (((b:Int)%2==0)=decide (b%2=0)):=by show _=_;rw [A14,beq_iff_eq,decide_eq_true_eq];omega
  go_upto_if 75 with (fail)
  rw [b3.out];obtain ⟨C2,a2⟩:=Aa (decide (b%2=0));rw [a2.out];obtain ⟨m0,bi,oi,ck,dx,i0,i1,i2⟩:=ao.idAt (i:=0) (by rw [hL.out];exact cv)
  go_cut [] from 73 to 88 (fun wc=>∃x2:OpL,Ep w7 wc w.heap.size go x2 cj cg cr ad/\Hid (x2.op=Dc (if b%2=0 then 7 else 4) (1+(D:Int)) 0 0 [] (nmP r.l 0) [UInt8.ofNat (65+b/2%3)]/\x2.pastA=none/\x2.pastC=0/\x2.past=[]/\x2.by_=1+(D:Int)/\x2.at_=0/\x2.op.ok))
  case first=>
   cases C2
   case true=>
    have hc:=of_decide_eq_true a2.out;clear b3 a2;have z2:cI w12 go 2 X1.kind:=ay.b.cell 2;have y2:=ay.b.frozen 2;go_upto_region 17 with (fail)
    have ab:=ay.setB 2 (.int .i64 7) {X1 with kind:=7} rfl ay.gd (fun v' h _=>G6 h ⟨rfl,rfl,rfl⟩ ⟨rfl,rfl,rfl⟩ ⟨rfl,rfl,rfl⟩ ⟨rfl,rfl,rfl⟩ ⟨rfl,rfl,rfl⟩ ⟨rfl,rfl,rfl⟩ ⟨rfl,rfl,rfl⟩);clear z2 y2 ay;generalize w12.setCell ⟨go,2,none⟩ (.int .i64 7)=w13 at*;have g2:Hid (r.cells[2]? =some (.slice r.iA r.l.length r.iC)):=rfl;rw [dx,hL.out] at g2;have d2:=((bd.out w13 ab.f).cell 2).trans g2.out;rw [Nat.zero_mul,A17] at i0 i1 i2;obtain ⟨es,em,eh⟩:=zk3 ab.f i0 i1 i2;have ec:=ab.b.frozen 16;have et:=ab.b.frozen 17;have d5:=ab.b.frozen 18;have ey:cI w13 go 16 X1.of.b:=ab.b.cell 16;have ej:cI w13 go 17 X1.of.s:=ab.b.cell 17;have eo:cU w13 go 18 X1.of.u:=ab.b.cell 18;go_upto_region 18 with (fail)
    have b8:=ab.setB 16 (.int .i64 m0.id.b) {X1 with kind:=7,of:=⟨m0.id.b,X1.of.s,X1.of.u⟩} rfl ab.gd (fun v' h _=>G6 h ⟨rfl,rfl,rfl⟩ ⟨rfl,rfl,rfl⟩ ⟨rfl,rfl,rfl⟩ ⟨rfl,rfl,rfl⟩ ⟨rfl,rfl,rfl⟩ ⟨rfl,rfl,rfl⟩ ⟨rfl,rfl,rfl⟩);have c0:=b8.setB 17 (.int .i64 m0.id.s) {X1 with kind:=7,of:=⟨m0.id.b,m0.id.s,X1.of.u⟩} rfl b8.gd (fun v' h _=>G6 h ⟨rfl,rfl,rfl⟩ ⟨rfl,rfl,rfl⟩ ⟨rfl,rfl,rfl⟩ ⟨rfl,rfl,rfl⟩ ⟨rfl,rfl,rfl⟩ ⟨rfl,rfl,rfl⟩ ⟨rfl,rfl,rfl⟩);have ch:=c0.setB 18 (.int .u64 (m0.id.u:Int)) {X1 with kind:=7,of:=m0.id} rfl c0.gd (fun v' h _=>G6 h ⟨rfl,rfl,rfl⟩ ⟨rfl,rfl,rfl⟩ ⟨rfl,rfl,rfl⟩ ⟨rfl,rfl,rfl⟩ ⟨rfl,rfl,rfl⟩ ⟨rfl,rfl,rfl⟩ ⟨rfl,rfl,rfl⟩);clear ab b8 c0 ey ej eo ec et d5 es em eh d2;generalize ((w13.setCell ⟨go,16,none⟩ (.int .i64 m0.id.b)).setCell ⟨go,17,none⟩ (.int .i64 m0.id.s)).setCell ⟨go,18,none⟩ (.int .u64 (m0.id.u:Int))=w16 at*;have b4:=ch.non ((Fr.refl Non w16).alloc (.cells #[.int .u8 (65+(b:Int)/2%3)] 5));have e5:cS (w16.alloc (.cells #[.int .u8 (65+(b:Int)/2%3)] 5)) go 14 X1.bodyA X1.body.length X1.bodyC:=b4.b.cell 14;have e7:=b4.b.frozen 14;have bb:=Blk.new w16 5 #[.int .u8 (65+(b:Int)/2%3)];have co:=ch.sz;have dj:=bv.size;have fc:=iw (65+(b:Int)/2%3);have e6:IntKind.u8.wrap (65+(b:Int)/2%3)=65+(b:Int)/2%3:=by rw [IntKind.wrap_u8];omega
    go_wp2_with fail;go_meet;have hU:(UInt8.ofNat (65+b/2%3)).toNat=65+b/2%3:=by rw [UInt8.toNat_ofNat'];omega
    have hV:#[Value.int .u8 (65+(b:Int)/2%3)].toList=[UInt8.ofNat (65+b/2%3)].map Bv:=by
     show [Value.int .u8 (65+(b:Int)/2%3)]=[Value.int .u8 ((UInt8.ofNat (65+b/2%3)).toNat:Int)];rw [hU];rfl
    have ob:RowLies (w16.alloc (.cells #[.int .u8 (65+(b:Int)/2%3)] 5)) w.heap.size 5 1 (some ⟨w16.heap.size,0,none⟩) [UInt8.ofNat (65+b/2%3)].length 1 ([UInt8.ofNat (65+b/2%3)].map Bv):=by
     rw [<- hV];exact (RowAt.of_own (Own.blk (base:=w.heap.size) (n:=1) (size:=1) bb (by have:=ch.gs;omega) (by omega) rfl (by omega))).lies
    refine ⟨{X1 with kind:=7,of:=m0.id,bodyA:=some ⟨w16.heap.size,0,none⟩,bodyC:=1,body:=[UInt8.ofNat (65+b/2%3)]},by rw [<- World.setCell_alloc_past _ _ _ _ co];exact b4.setB 14 (.slice (some ⟨w16.heap.size,0,none⟩) 1 1) {X1 with kind:=7,of:=m0.id,bodyA:=some ⟨w16.heap.size,0,none⟩,bodyC:=1,body:=[UInt8.ofNat (65+b/2%3)]} rfl b4.gd (fun v' h keep=>⟨h.past,h.path,h.nodes,keep _ _ _ _ _ _ (by decide) ob,h.refs,h.guards,h.boxes,h.hist,h.seals⟩),?_⟩;show _/\_;rw [a1.out,if_pos hc,Cv ck];have cm:=(ao.ok m0 (A02 ck)).2;exact ⟨rfl,rfl,rfl,rfl,rfl,rfl,{Og with by_:=(show I64 (1+(D:Int)) from ⟨by omega,by omega⟩),kind:=(show I64 7 from ⟨by decide,by decide⟩),of:=cm,body:=(show 1<=1000000 by decide)}⟩
   case false=>
    have hc:=of_decide_eq_false a2.out;clear b3 a2;go_wp2_with fail;go_meet;refine ⟨X1,ay,?_⟩;show _/\_;rw [a1.out,if_neg hc];exact ⟨rfl,rfl,rfl,rfl,rfl,rfl,{Og with by_:=(show I64 (1+(D:Int)) from ⟨by omega,by omega⟩),kind:=(show I64 4 from ⟨by decide,by decide⟩)}⟩
  case rest=>
  obtain ⟨x2,bh,dp⟩:=hcut;clear ay a2 b3 a1 b5;generalize wc=w18 at*;obtain ⟨ak,a7,bu,bs,bf,b9,bk⟩:=dp.out;replace ak:=lh ak;have z3:cI w18 go 3 x2.at_:=bh.b.cell 3;have y3:=bh.b.frozen 3;go_upto_region 20 with (fail)
  obtain ⟨TT,b6⟩:=Aa (b/6%4);have dy:(b:Int)/6%4=(TT:Int):=by rw [<- b6.out];rfl
  have ep:TT<4:=by rw [<- b6.out];exact A06 _ (by omega)
  rw [dy];have ac:=bh.setB 3 (.int .i64 (TT:Int)) {x2 with at_:=(TT:Int)} rfl bh.gd (fun v' h _=>G6 h ⟨rfl,rfl,rfl⟩ ⟨rfl,rfl,rfl⟩ ⟨rfl,rfl,rfl⟩ ⟨rfl,rfl,rfl⟩ ⟨rfl,rfl,rfl⟩ ⟨rfl,rfl,rfl⟩ ⟨rfl,rfl,rfl⟩);generalize w18.setCell ⟨go,3,none⟩ (.int .i64 (TT:Int))=w19 at*
  have ap:Hid (({x2 with at_:=(TT:Int)}:OpL).op=Fu r.l a b):=by
   show _=_;show ({x2.op with at_:=(TT:Int)}:Op)=_;unfold Fu;rw [ak.out,hD.out,b6.out];unfold Dc
   split<;>rfl
  have a4:({x2 with at_:=(TT:Int)}:OpL).op.ok:={bk with at_:=(show I64 (TT:Int) from ⟨by omega,by omega⟩)};have ds:Hid (({x2 with at_:=(TT:Int)}:OpL).pastA=none/\({x2 with at_:=(TT:Int)}:OpL).pastC=0/\({x2 with at_:=(TT:Int)}:OpL).past=[]):=⟨a7,bu,bs⟩;have bc:∃d:Nat,({x2 with at_:=(TT:Int)}:OpL).by_=(d:Int)/\d<=1000:=⟨1+D,by show x2.by_=_;rw [bf];omega,by omega⟩;have bl:0<=({x2 with at_:=(TT:Int)}:OpL).at_/\({x2 with at_:=(TT:Int)}:OpL).at_<=3:=⟨by show (0:Int)<=TT;omega,by show (TT:Int)<=3;omega⟩;generalize ({x2 with at_:=(TT:Int)}:OpL)=x3 at*;clear dp ak a7 bu bs bf b9 bk z3 y3 bh dy ep
  have ae:Hid (ad=E2 r.l a b):=by
   show _=_;unfold E2;rw [hL.out,hD.out,bp.out,hZ.out,al.out,<- aq.out,<- aj.out]
  have av:=fk_in ao.rows ao.num bx cn c2 a b;rw [<- ap.out,<- ae.out] at av;have aw:∀p∈ad,p<r.l.length:=by rw [ae.out];exact Uj cn a b
  have bg:Hid (Fv l0 (j+1)=Eg r.l x3.op (Di r.l ad)):=by
   show _=_;rw [aa.out,ap.out,ae.out];rfl
  have dr:(Di r.l ad).length<=3:=A12 (Kz _ _ _) (by rw [ae.out];exact Uk _ _ _);have a5:∀p∈Di r.l ad,p<r.l.length:=fun p hp=>aw p (Iw _ hp).1;generalize hHS:Di r.l ad=HS at*
  have kh:Hid (∀v,Fr Non w19 v->Calls zp 48 #[.agg r.cells,.slice cj cg cr] v (K6 HS v)):=fun v hv=>by
   rw [<- hHS];exact Ar1 w.heap.size v.heap.size cg cr r cj ad v (ao.non (ac.f.trans hv zr)) ac.len (ac.non hv).os.rd (by omega) aw
  have dj:=bv.size
  have kp:Hid (∀(v:World) (A':Option Addr) (c':Nat),Fr Non w19 v->Own v w.heap.size 3 1 A' HS.length c' (HS.map Qv)->Calls zp 45 #[.agg r.cells,.agg x3.cells,.slice A' HS.length c'] v (Gy w.heap.size r x3.op HS v)):=fun v A' c' hv ho=>
   Uh w.heap.size v.heap.size HS.length c' A' r x3 HS v (ao.non (ac.f.trans hv zr)) (ac.non hv).l (A12 dj ((ac.f.trans hv zr).size)) a4 ds.out bc bl rfl ho.rd dr a5 av
  have dd:Blk w19 gv 28 r.cells:=bd.out w19 ac.f;have d3:=da.fr ac.f zq;have ce:=bv.trans ac.f zr;have dz:=ac.b;have cw:=ce.size;clear av a5 dr aw hHS ae ap a4 ds bc bl aa al aq aj ac bd cv cq d0 ei de b7 c7 ef e4 ek eu bv da ao dx ck i0 i1 i2 c5 ev b6 hD bp hZ hL g1;have V0:Blk w19.drew gv 28 r.cells:=dd;have X0:Blk w19.drew go 55 x3.cells:=dz;have F0:Fr Non w19 w19.drew:=(Fr.refl Non w19).drew;have a8:(zp.info? 55).map (·.size)=some x3.cells.size:=by rw [show x3.cells.size=27 from rfl];kernel_rfl
  have ed:=Ci (P:=zp) go 55 underlying55 rfl (cs:=x3.cells) a8;generalize x3.cells=XC at*;refine C9 (S:=fun w'=>Blk w' gv 28 r.cells/\Blk w' go 55 XC) 6 (by kernel_rfl) ?_;have uu:=aI V0 X0;refine tkG 0 uu (h:=tkG 1 uu (h:=tkG 2 uu (h:=tkG 3 uu (h:=?_))));clear uu;simp only [zl];refine Cc 4 (by kernel_rfl) rfl (fun K hK=> ?_);go_simp;go_wp2_with (go_at_call 48;(with_reducible refine (kh.out _ F0).mono ?_);rintro _ v1 ⟨fa,fb,rfl,c9,ca⟩;have V1:=V0.fr ca zq;have X1:=X0.fr ca zq;have F1:=F0.trans ca zr;have db:=Gw c9 (A12 cw (Fr.size F0)));refine hK.out _ _ ⟨V1,X1⟩ (fun hZ=> ?_);clear hZ hK K;try simp only [Ae,zl]
  refine Cc 5 (by kernel_rfl) rfl (fun K hK=> ?_);go_simp;go_wp2_with (go_at_call 45;(with_reducible refine (kp.out _ _ _ F1 db).mono ?_);rintro _ v2 ⟨r2,rfl,cx,a6,be,dl⟩;have V2:=V1.fr cx zq;have X2:=X1.fr cx zq;have F2:=F1.trans cx zr;have az:=Cy (P:=zp) gv 28 (cs:=r2.cells) Dd (old:=r.cells) rfl (Gx r2));refine hK.out _ _ ⟨V2,X2⟩ (fun hZ=> ?_);clear hZ hK K;try simp only [Ae,zl]
  have ez:=(d3.fr F2 zq).setRow_far (g':=gv) (by omega) (cs:=r2.cells);have er:Blk (v2.setRow gv r2.cells) gv 28 r2.cells:=V2.setRow;have ai:=a6.setG V2 r2.cells;have fz:=(ce.trans F2 zr).setRow (g:=gv) (fun hh=>absurd hh (by omega)) r2.cells;refine C5 (by kernel_rfl) ?_;refine oG 6 (fun K hK=> ?_);go_simp;refine hK.out _ _ trivial (fun hZ=> ?_);clear hZ hK K;try simp only [Ae,zl]
  refine oD ?_;go_simp;rw [<- bg.out] at dl;rw [bx] at be;clear V0 V1 V2 X0 X1 X2 F0 F1 F2 a6 az d3 dd ce dz kh kp c9 db ed a8 bg;generalize v2.setRow gv r2.cells=wz at*;have e2:=iw ((I:Int)+2);go_wp2_with fail;go_roundw
  case rel=>exact ⟨j+1,I+2,r2,by show I+2=2*(j+1);have:=hI.out;omega,by go_num,by have:=hI.out;omega,by have:=hI.out;omega,er,ai,be,dl,ez,fz⟩
  case measure=>simp [intOf];omega
 ·
  have dh:Hid (j=min 13 (l0.length/2)):=by
   show _=_;rw [hn.out];have:=hI.out;omega
  have hl:=Ci (P:=zp) gv 28 underlying28 rfl (cs:=r.cells) Dd;have e0:=Cy (P:=zp) w.heap.size 28 (cs:=r.cells) Dd (old:=#[.slice none 0 0,.slice none 0 0,.slice none 0 0,.slice none 0 0]) rfl (Gx r);have dq:=br.setRow (cs:=r.cells);have fz:=hf.setRow (g:=w.heap.size) (fun hh=>absurd hh (by omega)) r.cells;have ai:=ro.setG br r.cells;have du:r.l=K9 l0:=by rw [a0.out,dh.out];rfl
  have hd:Hid (Hv l0 w (.returned (.agg r.cells)) (wr.setRow w.heap.size r.cells)):=⟨r,rfl,fz,ai,bx,du⟩;clear du bx ro a0 dh hok hr fz ai hf;generalize Hv l0 w=POST at*
  rcases zb (decide ((I:Int)+1<(n:Int))) with t1|t1
  ·
   have t2:decide ((I:Int)<26)=false:=decide_eq_false (by have:=of_decide_eq_true t1;omega);go_wp2_with fail
   (try simp only [Exit.inBlock,Exit.then])
   refine Dy (t:=28) rfl rfl dq rfl underlying28 Dd rfl ?_;exact hd.out
  ·
   go_wp2_with fail
   (try simp only [Exit.inBlock,Exit.then])
   refine Dy (t:=28) rfl rfl dq rfl underlying28 Dd rfl ?_;exact hd.out
end Oq
namespace Oq
attribute [local go_sem] A04 A05
attribute [local go_sem ↓] Gk Bo
theorem I7 {cards:List Cd} {l:List Pn} (h:Rows cards l) {p:Nat} {n:Pn} (hp:l[p]? =some n):n.o.put.length<=500000:=Zg (Zf (h.ok p n hp).chk) (by decide)
def PlaceAt (w:World) (base:Nat) (x:FG) (p:Nat) (n:Pn) (y:OpL) (b off:Nat):Prop:=x.l[p]? =some n/\y.op=n.o/\y.op.ok/\y.lies w base/\x.lA=some ⟨b,off,none⟩/\RgAt w b (off+p*27) y.cells.toList
theorem FG.own.place {w:World} {base:Nat} {x:FG} (h:x.own w base) {p:Nat} (hp:p<x.l.length):∃n y b off,PlaceAt w base x p n y b off:=by
 have hn:x.l[p]? =some x.l[p]:=A03 hp;obtain ⟨y,b,off,_,h2,h3,h4,_,h6⟩:=h.xAt hn;exact ⟨_,y,b,off,hn,h2,by rw [h2];exact (h.ok _ (A02 hn)).1,h3,h4,fun k v hv=>h6 k (List.getElem?_eq_some_iff.1 hv).1 v hv⟩
theorem PlaceAt.non {w w':World} {base p:Nat} {x:FG} {n:Pn} {y:OpL} {b off:Nat} (h:PlaceAt w base x p n y b off) (hf:Fr Non w w'):PlaceAt w' base x p n y b off:=
 ⟨h.1,h.2.1,h.2.2.1,h.2.2.2.1.non hf,h.2.2.2.2.1,h.2.2.2.2.2.fr hf zq⟩
def I8 (cards:List Cd) (l:List Pn) (ps:List Nat) (w:World) (e:Ending) (w':World):Prop:=
 ∃(r:Ad) (b:Nat),e=.returned (.pointer (some ⟨r.rb,0,none⟩))/\w.heap.size<=b/\Hid (r.okAt w' b)/\Hid (r.st=Bj cards l ps ([],[]))/\Hid (r.g.cards=cards)/\Fr Non w w'
theorem Uo (base B np cp:Nat) (x:FG) (Ap:Option Addr) (ps:List Nat) (w:World) (h:x.own w base) (hcs:x.cards=Bb 0 [1,2,2,3]) (hpn:Hid (ps.length=np)) (hrp:Rd w B 1 Ap np (ps.map Qv)) (hlt:∀p∈ps,p<x.l.length) (hnp:np<=1000000) (hk:KindsAt w) (hpos:0<w.heap.size):
  Calls zp 11 #[.agg x.cells,.slice Ap np cp] w (I8 x.cards x.l ps w):=by
 have av:(zp.info? 55).map (·.size)=some 27:=by kernel_rfl
 have bg:=Blk.new w 28 x.cells;have f0:Fr Non w (w.alloc (.cells x.cells 28)):=(Fr.refl Non w).alloc _;have ac:0<(w.alloc (.cells x.cells 28)).heap.size:=by rw [A10];omega
 have h0:=h.non f0;have a7:=hk.fr f0;have aj:=hrp.fr f0 zr;obtain ⟨gx,a4⟩:=Aa w.heap.size;have ai:Hid (∀(r:Ad) (b:Nat) (w':World),w.heap.size<=b->Hid (r.okAt w' b)->Hid (r.st=Bj x.cards x.l ps ([],[]))->Hid (r.g.cards=x.cards)->Fr Non w w'->I8 x.cards x.l ps w (.returned (.pointer (some ⟨r.rb,0,none⟩))) w'):=fun r b w' h1 h2 h3 h4 h5=>⟨r,b,rfl,h1,h2,h3,h4,h5⟩;generalize I8 x.cards x.l ps w=POST at*;have g0:Hid (x.cells[0]? =some (.slice x.cA x.cards.length x.cC)):=rfl;have g1:Hid (x.cells[1]? =some (.slice x.lA x.l.length x.lC)):=rfl;obtain ⟨L,hL⟩:=Aa x.l.length;rw [hL.out] at g1 hlt;have au:x.cards.length=4:=by rw [hcs,Kc];rfl
 rw [au] at g0;obtain ⟨XG,a9⟩:=Aa x.cells;rw [a9.out] at bg f0 ac h0 a7 aj g0 g1 ⊢;rw [a4.out] at bg;clear h hk hrp;go_enter func11,ntmps11;go_upto_region 1 with (fail)
 try rw [a4.out]
 generalize w.alloc (.cells XG 28)=w0 at*
 have kn:Hid (Calls zp 19 #[.slice x.cA 4 x.cC] w0 (Gz x.cards w0)):=by
  have a3:=h0.cards.sl.rd;rw [au,hcs] at a3;rw [hcs];exact Uf w0.heap.size 4 x.cC x.cA [1,2,2,3] w0 rfl (by decide) a3 ac
 unfold Gz at kn;have c0:cS w0 gx 0 x.cA 4 x.cC:=(bg.cell 0).trans g0.out;have bd:w.heap.size<=w0.heap.size:=f0.size;go_upto_region 2 with (go_at_call 19;(with_reducible refine (kn.out).mono ?_);rintro _ w1 ⟨r,rfl,ae,ab,aa,f1⟩)
 obtain ⟨rb,a2⟩:=Aa r.rb;rw [a2.out];clear kn c0 g0 au ac hpos;go_wp2_with fail
 go_loopw [6] (fun v wr=>∃(i:Nat) (r1:Ad),v=.int .i64 (i:Int)/\i<=np/\Hid (r1.okAt wr w0.heap.size)/\Hid (r1.rb=rb)/\Hid (r1.g.cards=x.cards)/\Hid (r1.st=Bj x.cards x.l (ps.take i) ([],[]))/\Fr Non w0 wr) (fun v _=>np-(intOf v).toNat)
 case atStart=>exact ⟨0,r,rfl,Nat.zero_le _,ae,a2,aa,ab,f1⟩
 case round=>
 clear ae ab aa f1;obtain ⟨i,r1,rfl,hi,ae,ad,aa,ab,hf⟩:=hrel
 by_cases hin:i<np
 case neg=>
  obtain rfl:i=np:=by omega
  have hd:=lh (ai.out r1 w0.heap.size wr bd ae (by show _=_;rw [ab.out,A21 (by rw [hpn.out];exact A07 _)]) aa (f0.trans hf zr));rw [ad.out] at hd;clear ai ae ab aa;go_wp2_with fail;exact hd.out
 case pos=>
 have t0:decide ((i:Int)<(np:Int))=true:=decide_eq_true (by omega);have bi:decide (i<np)=true:=decide_eq_true hin;obtain ⟨p,hp⟩:∃p,ps[i]? =some p:=⟨_,A03 (by rw [hpn.out];exact hin)⟩;have az:=hlt p (A02 hp);obtain ⟨n,y,b,ag,bc⟩:=h0.place (p:=p) (by rw [hL.out];exact az);obtain ⟨hn,ar,aq,a0,a1,ah⟩:=bc;obtain ⟨bp,op,u,rfl,_,hu,ao⟩:=aj.at hin;rw [A22,hp] at hu;injection hu with hu
 subst hu;replace ao:cI w0 bp (op+i) (p:Int):=ao;obtain ⟨i1,i2,i3⟩:=ix i np
 obtain ⟨p1,p2,p3⟩:=ix p L
 have a6:=Gt (P:=zp) y.cells b (ag+p*27) underlying55 rfl av;have bf:∀w',RgAt w' b (ag+p*27) y.cells.toList->(ldS 55 (.pointer (some ⟨b,ag+p*27,none⟩))).run zp w'=.ok (.agg y.cells) w':=fun w' h=>a6 w' h;have kp:=lh (fun (w':World) (hf':Fr Non w0 w')=>Ml y w' (a0.non hf').at aq);unfold NewB at kp;have a5:Hid (∃m,y.op.put.length=m/\m<=500000):=⟨_,rfl,by rw [ar];exact I7 h0.rows hn⟩;obtain ⟨m,hm,bh⟩:=a5.out;have kt:=lh (fun (A:Option Addr) (c:Nat) (w':World) (hf':Fr Non wr w') (hrd:Rd w' w'.heap.size 1 A m (y.op.put.map Bv))=>Hu w0.heap.size w'.heap.size m c A r1 y.op w' (ae.out.non hf') (a7.fr (hf.trans hf' zr)) hm hrd (by omega) aq);unfold TakeRPost at kt;rw [ad.out] at kt;rw [hm] at kp
 have af:Hid (∀r2:Ad,r2.st=(Bl r1.g.cards r1.st y.op).2->r2.st=Bj x.cards x.l (ps.take (i+1)) ([],[])):=by
  intro r2 h2;rw [h2,aa.out,ab.out,Dm hp,Iu,hn,ar]
 have a8:w0.cell? ⟨gx,1,none⟩=some (.slice (some ⟨b,ag,none⟩) L x.lC):=by rw [<- a1];exact (bg.cell 1).trans g1.out
 obtain ⟨YC,ay⟩:=Aa y.cells;rw [ay.out] at ah bf kp;clear a5 hm aq a0 a6 ab hp az hn ar a1 ay;go_upto_region 7 with (fail)
 obtain ⟨C0,D0⟩:=zk2 hf a8 ao;have R0:RgAt wr b (ag+p*27) YC.toList:=ah.fr hf zq;have F0:Fr Non wr wr.drew:=(Fr.refl Non wr).drew;have G0:Fr Non w0 wr.drew:=hf.drew;refine wp_region_held_drew (S:=fun w'=>cS w' gx 1 (some ⟨b,ag,none⟩) L x.lC/\cI w' bp (op+i) (p:Int)/\RgAt w' b (ag+p*27) YC.toList) (by kernel_rfl) ⟨C0,D0,R0⟩ (fun hHeld=> ?_);clear hHeld;have uu:=aI C0 (aI D0 R0);refine tkH 0 uu (h:=tkH 1 uu (h:=tkH 2 uu (h:=tkH 3 uu (h:=tkH 4 uu (h:=tkH 5 uu (h:=tkH 6 uu (h:=tkH 7 uu (h:=tkH 8 uu (h:=?_)))))))));clear uu;simp only [zl];refine oG 9 (fun K hK=> ?_);go_simp;go_wp2_with (go_at_call 23;(with_reducible refine (kp.out _ G0).mono ?_);rintro _ v1 ⟨A5,c5,rfl,be,ba⟩;have F1:=F0.trans ba zr;obtain ⟨C1,D1⟩:=zk2 F1 C0 D0;have R1:=RgAt.fr (S:=Non) R0 F1 zq;have G1:=hf.trans F1 zr);refine hK.out _ _ ⟨C1,D1,R1⟩ (fun hZ=> ?_);clear hZ hK K;try simp only [Ae,zl]
 refine oG 10 (fun K hK=> ?_);go_simp;go_wp2_with (go_at_call 22;(with_reducible refine (kt.out _ _ _ F1 be.rd).mono ?_);rintro _ v2 ⟨rfl,r2,al,ak⟩);have G2:Fr Non w0 v2:=(ae.out.non F1).below al.out.fr G1 (A07 _);obtain ⟨C2,D2⟩:=zk2 G2 a8 ao;have R2:RgAt v2 b (ag+p*27) YC.toList:=ah.fr G2 zq;refine hK.out _ _ ⟨C2,D2,R2⟩ (fun hZ=> ?_);clear hZ hK K;try simp only [Ae,zl]
 refine oD ?_;go_simp;have ap:=lh (af.out r2 ak.out);have bb:Hid (r2.okAt v2 w0.heap.size):=al.out.ok;have aw:Hid (r2.rb=rb):=al.out.rb.trans ad.out;have ax:Hid (r2.g.cards=x.cards):=al.out.cards.trans aa.out;clear af kt kp al ak ae ad aa;go_wp2_with fail;go_roundw
 case rel=>exact ⟨i+1,r2,by go_num,by omega,bb,aw,ax,ap,G2⟩
 case measure=>simp [intOf];omega
end Oq
namespace Oq
attribute [local go_sem] A04 A05
attribute [local go_sem ↓] Gk Iz Bo
def lvO (i:Nat):Op:=match (K9 ([0,1]:List Int))[i]? with|some n=>n.o|none=>Op.zero
theorem Au3:(K9 ([0,1]:List Int)).length=2:=by decide+kernel
theorem Au4:(Bl (Bb 0 [1,2,2,3]) ([],[]) (lvO 1)).1=0/\(Bl (Bb 0 [1,2,2,3]) ([],[]) (lvO 1)).2.2.length=1:=by decide+kernel
theorem Au5:(Bl (Bb 0 [1,2,2,3]) (Bl (Bb 0 [1,2,2,3]) ([],[]) (lvO 1)).2 (lvO 0)).1=0/\(Bl (Bb 0 [1,2,2,3]) (Bl (Bb 0 [1,2,2,3]) ([],[]) (lvO 1)).2 (lvO 0)).2.2.length=0/\(Bl (Bb 0 [1,2,2,3]) (Bl (Bb 0 [1,2,2,3]) ([],[]) (lvO 1)).2 (lvO 0)).2.1.length=2:=by decide+kernel
theorem Up (w:World) (hk:KindsAt w):Calls zp 17 #[] w (Ag true w):=by
 have au:(zp.info? 55).map (·.size)=some 27:=by kernel_rfl
 have ar:0<w.heap.size:=World.block_lt_of_cell? w _ (hk 0 (by decide));have bi:=Blk.new w 3 #[.int .i64 0,.int .i64 1];have f0:Fr Non w (w.alloc (.cells #[.int .i64 0,.int .i64 1] 3)):=(Fr.refl Non w).alloc _;have km:=lh (Oh (w.alloc (.cells #[.int .i64 0,.int .i64 1] 3)).heap.size 2 2 (some ⟨w.heap.size,0,none⟩) ([0,1]:List Int) (w.alloc (.cells #[.int .i64 0,.int .i64 1] 3)) rfl (Rd.blk (n:=2) (size:=1) bi rfl) (by decide) (by intro x hx;simp only [List.mem_cons,A01,or_false] at hx;rcases hx with rfl|rfl<;>exact ⟨by decide,by decide⟩))
 unfold Hv at km;have ap:Hid (∀wz,Fr Non w wz->Ag true w (.returned (.bool true)) wz):=fun wz h=>⟨rfl,h⟩;generalize Ag true w=POST at*;clear bi;replace hk:=lh hk;go_enter func17,ntmps17;go_upto_region 2 with (go_at_call 10;(with_reducible refine (km.out).mono ?_);rintro _ w1 ⟨r,rfl,f1,ro,ak,a1⟩;(have bn:=Blk.new w1 28 #[.slice none 0 0,.slice none 0 0,.slice none 0 0,.slice none 0 0]);(have ay:=Cy (P:=zp) w1.heap.size 28 (cs:=r.cells) Dd (old:=#[.slice none 0 0,.slice none 0 0,.slice none 0 0,.slice none 0 0]) rfl (Gx r)))
 have bg:Blk ((w1.alloc (.cells #[.slice none 0 0,.slice none 0 0,.slice none 0 0,.slice none 0 0] 28)).setRow w1.heap.size r.cells) w1.heap.size 28 r.cells:=bn.setRow;have fG:Fr Non w1 ((w1.alloc (.cells #[.slice none 0 0,.slice none 0 0,.slice none 0 0,.slice none 0 0] 28)).setRow w1.heap.size r.cells):=((Fr.refl Non w1).alloc _).setRow (fun hh=>absurd hh (by omega)) _;have f2:=(f0.trans f1 zr).trans fG zr;have ad:=ro.non fG;obtain ⟨gv,br⟩:=Aa w1.heap.size;rw [br.out] at bg f2 ⊢;rw [br.out] at ad;clear ay bn fG ro f1 km;generalize (w1.alloc (.cells #[.slice none 0 0,.slice none 0 0,.slice none 0 0,.slice none 0 0] 28)).setRow gv r.cells=w2 at*;have ab:r.l.length=2:=by rw [a1];exact Au3
 have g0:Hid (r.cells[0]? =some (.slice r.cA 4 r.cC)):=by show r.cells[0]? =_;rw [show (4:Nat)=r.cards.length by rw [ak,Kc];rfl];rfl
 have g1:Hid (r.cells[1]? =some (.slice r.lA 2 r.lC)):=by show r.cells[1]? =_;rw [<- ab];rfl
 have c0:cS w2 gv 0 r.cA 4 r.cC:=(bg.cell 0).trans g0.out
 have kn:Hid (Calls zp 19 #[.slice r.cA 4 r.cC] w2 (Gz r.cards w2)):=by
  have al:=ad.cards.sl.rd;rw [show r.cards.length=4 by rw [ak,Kc];rfl,ak] at al;rw [ak];exact Uf w2.heap.size 4 r.cC r.cA [1,2,2,3] w2 rfl (by decide) al (A09 ar f2.size)
 unfold Gz at kn;go_upto_region 3 with (go_at_call 19;(with_reducible refine (kn.out).mono ?_);rintro _ w3 ⟨s,rfl,hs,ay,bp,f3⟩)
 have b4:=f2.trans f3 zr;have b9:=ad.non f3;have cd:=bg.fr f3 zq;clear kn c0 g0;obtain ⟨sb,ba⟩:=Aa s.rb;rw [ba.out];obtain ⟨n1,y1,b1,o1,a6,a3,a4,bu,bh,bq⟩:=ad.place (p:=1) (by rw [ab];decide);obtain ⟨n0,y0,b0,o0,bd,a8,bf,bm,be,al⟩:=ad.place (p:=0) (by rw [ab];decide);obtain ⟨rfl,rfl⟩:b0=b1/\o0=o1:=by rw [be] at bh;injection bh with e;injection e with e1 e2;exact ⟨e1,e2⟩
 have c2:w2.cell? ⟨gv,1,none⟩=some (.slice (some ⟨b0,o0,none⟩) 2 r.lC):=by rw [<- be];exact (bg.cell 1).trans g1.out
 have c1:=f3.cell c2 zq;have bb:y1.op=lvO 1:=by rw [a3];unfold lvO;rw [<- a1,a6]
 have bw:y0.op=lvO 0:=by rw [a8];unfold lvO;rw [<- a1,bd]
 have ao:=lh (Ml y1 w3 (bu.non f3).at a4);have aj:=lh (fun (w':World) (h:Fr Non w2 w')=>Ml y0 w' (bm.non h).at bf);unfold NewB at ao aj;have bo:Hid (∃m,y1.op.put.length=m/\m<=500000):=⟨_,rfl,by rw [a3];exact I7 ad.rows a6⟩;have b3:Hid (∃m,y0.op.put.length=m/\m<=500000):=⟨_,rfl,by rw [a8];exact I7 ad.rows bd⟩;obtain ⟨m1,e1,z1⟩:=bo.out;obtain ⟨m0,e0,z0⟩:=b3.out;have ag:=Gt (P:=zp) y1.cells b0 (o0+1*27) underlying55 rfl au w3 (bq.fr f3 zq);have ac:=Gt (P:=zp) y0.cells b0 (o0+0*27) underlying55 rfl au;rw [Nat.zero_mul,A17] at ac al;rw [Nat.one_mul] at ag;rw [e1] at ao;rw [e0] at aj;have a7:s.g.cards=Bb 0 [1,2,2,3]:=by rw [bp.out,ak]
 have av:=lh (fun (A:Option Addr) (c:Nat) (w':World) (hf:Fr Non w3 w') (hrd:Rd w' w'.heap.size 1 A m1 (y1.op.put.map Bv))=>Hu w2.heap.size w'.heap.size m1 c A s y1.op w' (hs.out.non hf) (hk.out.fr (b4.trans hf zr)) e1 hrd (by omega) a4);have a2:=lh (fun (A:Option Addr) (c:Nat) (s':Ad) (w':World) (hs':s'.okAt w' w2.heap.size) (hf:Fr Non w2 w') (hrd:Rd w' w'.heap.size 1 A m0 (y0.op.put.map Bv))=>Hu w2.heap.size w'.heap.size m0 c A s' y0.op w' hs' (hk.out.fr (f2.trans hf zr)) e0 hrd (by omega) bf);unfold TakeRPost at av a2;rw [ba.out,ay.out,a7,bb] at av;obtain ⟨bk,bx⟩:=Au4;obtain ⟨b2,bs,bj⟩:=Au5;rw [bk] at av;obtain ⟨Y1,cc⟩:=Aa y1.cells;obtain ⟨Y0,cb⟩:=Aa y0.cells;rw [cc.out] at ag ao;rw [cb.out] at ac aj al;rw [bb] at ao;rw [bw] at aj a2;clear bo b3 a6 bd a3 a8 bu bm bh be g1 a1 ab b9 ad bg cd bq bb bw ak bk e1 e0 a4 bf ar;generalize hT1:(Bl (Bb 0 [1,2,2,3]) ([],[]) (lvO 1)).2=T1 at*;replace hT1:=lh hT1;generalize (lvO 1).put=P1 at*
 go_upto_region 6 with (first
  |(go_at_call 23;(with_reducible refine (ao.out).mono ?_);rintro _ w4 ⟨A4,c4,rfl,o4,f4⟩)
  |(go_at_call 22;(with_reducible refine (av.out _ _ _ f4 o4.rd).mono ?_);rintro _ w5 ⟨rfl,s5,aw,ae⟩))
 have bv:Fr Non w2 w5:=(hs.out.non f4).below aw.out.fr (f3.trans f4 zr) (A07 _);have c5:=bv.cell c2 zq;have af:Hid (s5.rb=sb):=aw.out.rb.trans ba.out;have a5:Hid (s5.g.cards=Bb 0 [1,2,2,3]):=aw.out.cards.trans a7;have aa:Hid (s5.okAt w5 w2.heap.size):=aw.out.ok
 have b6:Hid (s5.ws.length=1):=by
  show _=_;have:=congrArg (fun z:List Pn × List Op=>z.2.length) ae.out;unfold Ad.st at this;simp only [A13] at this;rw [this,bx]
 have bc:=lh (Od w2.heap.size s5 w5 aa.out);rw [af.out,b6.out] at bc;clear aw hs ay bp av ao a7 f4 o4 ag c1 bx;go_upto_region 7 with (go_at_call 13;(with_reducible refine (bc.out).mono ?_);rintro _ w6 ⟨rfl,f6⟩)
 have ax:=bv.trans f6 zr;have c6:=f6.cell c5 zq;have b8:=ac w6 (al.fr ax zq);have bl:=lh (aj.out w6 ax);have a9:=lh (fun (A:Option Addr) (c:Nat) (w':World) (hf:Fr Non w6 w') (hrd:Rd w' w'.heap.size 1 A m0 ((lvO 0).put.map Bv))=>a2.out A c s5 w' (aa.out.non (f6.trans hf zr)) (ax.trans hf zr) hrd);rw [af.out,ae.out,a5.out,b2] at a9;clear aj a2 ac bc c5 b2;generalize (lvO 0).put=P0 at*
 go_upto_region 8 with (first
  |(go_at_call 23;(with_reducible refine (bl.out).mono ?_);rintro _ w7 ⟨A7,c7,rfl,o7,f7⟩)
  |(go_at_call 22;(with_reducible refine (a9.out _ _ _ f7 o7.rd).mono ?_);rintro _ w8 ⟨rfl,s8,a0,ai⟩))
 have ca:Fr Non w2 w8:=(aa.out.non (f6.trans f7 zr)).below a0.out.fr (ax.trans f7 zr) (A07 _);have aq:Hid (s8.rb=sb):=a0.out.rb.trans af.out;have ah:Hid (s8.okAt w8 w2.heap.size):=a0.out.ok
 have b5:Hid (s8.ws.length=0):=by
  show _=_;have:=congrArg (fun z:List Pn × List Op=>z.2.length) ai.out;unfold Ad.st at this;simp only [A13] at this;rw [this,bs]
 have b7:Hid (s8.g.pns.length=2):=by
  show _=_;have:=congrArg (fun z:List Pn × List Op=>z.1.length) ai.out;unfold Ad.st at this;dsimp only at this;rw [this,bj]
 have bt:=lh (Od w2.heap.size s8 w8 ah.out);rw [aq.out,b5.out] at bt;have az:=lh (fun (w':World) (h:Fr Non w8 w')=>Oe w2.heap.size s8 w' (ah.out.non h));have bz:(Ak (s8.g.pns.map Pn.id)).length=2:=by rw [Fc,A13];exact b7.out
 unfold Eo at az;rw [aq.out] at az;generalize Ak (s8.g.pns.map Pn.id)=IS at*;rw [bz] at az;have hd:=lh (fun (w':World) (hf:Fr Non w8 w')=>ap.out w' ((f2.trans ca zr).trans hf zr));clear a0 ai ah aa ae bl a9 o7 c6 b8 bs bj ap bz
 go_wp2_with (first
  |(go_at_call 13;(with_reducible refine (bt.out).mono ?_);rintro _ w9 ⟨rfl,f9⟩)
  |(go_at_call 15;(with_reducible refine (az.out _ f9).mono ?_);rintro _ wA ⟨AA,cA,rfl,oA,fA⟩;have hd:=lh (hd.out wA (f9.trans fA zr))))
 exact hd.out
end Oq
namespace Oq
attribute [local go_sem] A04 A05
attribute [local go_sem ↓] Gk
def Gl {α:Type} (ys:List α) (a:Nat):List α:=ys.drop a++ys.take a
theorem Uq {α:Type} (ys:List α) (a:Nat):(Gl ys a).Perm ys:=by
 unfold Gl;have h:=List.perm_append_comm (l₁:=ys.drop a) (l₂:=ys.take a);rwa [List.take_append_drop] at h
theorem Au6 {α:Type} (ys:List α) {a i:Nat} (ha:a<ys.length) (hi:i<ys.length):(Gl ys a)[i]? =ys[(i+a)%ys.length]? :=by
 unfold Gl;have hd:(ys.drop a).length=ys.length-a:=List.length_drop
 rcases A18 i (ys.length-a) with h|h
 · rw [List.getElem?_append_left (by omega),List.getElem?_drop,Nat.mod_eq_of_lt (by omega),Nat.add_comm]
 ·
  rw [List.getElem?_append_right (by omega),hd,List.getElem?_take_of_lt (by omega)];congr 1;rw [Nat.mod_eq_sub_mod (by omega),Nat.mod_eq_of_lt (by omega)];omega
def I9 (l:List Pn) (w:World) (e:Ending) (w':World):Prop:=∃(on ys:List Nat) (ns:List Id) (A:Option Addr) (c:Nat),e=.returned (.slice A ns.length c)/\Ft l on ys/\(∀q∈ys,q<l.length)/\on≠[]/\ns.Perm (ys.map (nmP l))/\Own w' w.heap.size 48 3 A ns.length c (ns.flatMap Id.cells)/\Fr Non w w'
theorem Oi (base B n c:Nat) (A:Option Addr) (l0:List Int) (r:FG) (w:World) (h:r.own w base) (hne:r.l≠[]) (hn:Hid (l0.length=n)) (hr:Rd w B 1 A n (l0.map Iv)) (hnm:n<=9223372036854775807) (hok:∀x∈l0,I64 x):
  Calls zp 36 #[.agg r.cells,.slice A n c] w (I9 r.l w):=by
 have a9:=h.num.few;have bg:=Blk.new w 28 r.cells;have f0:Fr Non w (w.alloc (.cells r.cells 28)):=(Fr.refl Non w).alloc _;have g1:Hid (r.cells[1]? =some (.slice r.lA r.l.length r.lC)):=rfl;have g2:Hid (r.cells[2]? =some (.slice r.iA r.l.length r.iC)):=rfl;have bn:0<r.l.length:=List.length_pos_iff.2 hne;have bb:=lh (fun (v:World) (i:Nat) (hv:Fr Non w v) (hi:i<=1000)=>N1 B n c i A l0 v hn (hr.fr hv zr) hok hnm hi);have ay:Hid (∀v,Fr Non w v->Calls zp 46 #[.slice A n c,.int .i64 0] v fun e w'=>e=.returned (.int .i64 (Da l0 0:Int))/\Fr Non v w'):=fun v hv=>bb.out v 0 hv (by omega);have kb:=lh (fun (v:World) (A':Option Addr) (c':Nat) (on:List Nat) (hf:Fr Non w v) (ho:Rd v v.heap.size 1 A' 3 (on.map Qv)) (h3:on.length=3) (hlt:∀p∈on,p<r.l.length)=>Tv base v.heap.size 3 c' r A' on v (h.non hf) h3 ho (by omega) hlt);have ag:Hid (∀p,p<r.l.length->∃(m:Pn) (b off:Nat),r.l[p]? =some m/\r.iA=some ⟨b,off,none⟩/\cI w b (off+p*3) m.id.b/\cI w b (off+p*3+1) m.id.s/\cU w b (off+p*3+2) m.id.u):=fun p hp=>h.idAt hp;have hl:=Ci (P:=zp) w.heap.size 28 underlying28 rfl (cs:=r.cells) Dd;have bq:=lh (N8 l0);clear h hr hok;obtain ⟨L,hL⟩:=Aa r.l.length;rw [hL.out] at g1 g2 a9 bn ag;have b4:((L:Int)==0)=false:=beq_eq_false_iff_ne.2 (by omega);have b6:¬(L:Int)=0:=by omega
 have bv:¬L=0:=by omega
 go_enter func36,ntmps36;go_upto_region 1 with (fail)
 have b9:=f0.size;generalize w.alloc (.cells r.cells 28)=w0 at*;have bu:w.heap.size+1<=w0.heap.size:=bg.lt;go_wp2_with fail
 go_loopw [5,6] (fun s v wr=>∃(i:Nat) (Ax:Option Addr) (cx:Nat) (on:List Nat),v=.int .i64 (i:Int)/\s=.slice Ax i cx/\i<=3/\Hid (on.length=i)/\Hid (∀p∈on,p<L)/\Own wr w0.heap.size 3 1 Ax i cx (on.map Qv)/\Fr Non w0 wr) (fun _ v _=>3-(intOf v).toNat)
 case atStart=>exact ⟨0,none,0,[],rfl,rfl,by omega,rfl,fun _ hp=>absurd hp A01,Own.nil _ _ _ _,Fr.refl _ _⟩
 case round=>
  obtain ⟨i,Ax,cx,on,rfl,rfl,hi,al,ao,aa,hf⟩:=hrel;have af:Fr Non w wr:=f0.trans hf zr
  by_cases hi3:i<3
  ·
   have t0:decide ((i:Int)<3)=true:=decide_eq_true (by omega);have e1:=iw ((i:Int)+1);have kq:=lh (bb.out wr.drew i af.drew (by omega));have a4:=bq.out i;obtain ⟨a,ha⟩:=Aa (Da l0 i);rw [ha.out] at kq a4;obtain ⟨P,hP⟩:=Aa (a%L);have bx:P<L:=by rw [<- hP.out];exact A06 _ bn
   have ai:(a:Int)%(L:Int)=(P:Int):=by rw [<- hP.out];rfl
   have bh:(a:Int).tmod (L:Int)=(P:Int):=by rw [A11 (by omega)];exact ai
   have e2:=iw (P:Int);go_upto_region 5 with (fail)
   have G0:cS wr.drew w.heap.size 1 r.lA L r.lC:=((bg.fr hf.drew zq).cell 1).trans g1.out;have F0:Fr Non wr wr.drew:=(Fr.refl Non wr).drew;clear ag;refine wp_region_held_drew (S:=fun w'=>cS w' w.heap.size 1 r.lA L r.lC) (by kernel_rfl) G0 (fun hHeld=> ?_);clear hHeld;refine tkH 0 G0 (h:=tkH 1 G0 (h:=tkH 2 G0 (h:=tkH 4 G0 (h:=tkH 5 G0 (h:=tkH 6 G0 (h:=?_))))));simp only [zl];refine oG 3 (fun K hK=> ?_);go_simp;go_wp2_with (go_at_call 46;(with_reducible refine (kq.out).mono ?_);rintro _ v1 ⟨rfl,bf⟩;have G1:=bf.cell G0 zq;have F1:=F0.trans bf zr);refine hK.out _ _ G1 (fun hZ=> ?_);clear hZ hK K;try simp only [Ae,zl]
   refine tkH 7 G1 (h:=?_);simp only [zl];refine oG 8 (fun K hK=> ?_);go_simp;try rw [ai]
   have au:=Blk.new v1 3 #[.int .i64 (P:Int)];have fa:=(Fr.refl Non v1).alloc (.cells #[.int .i64 (P:Int)] 3);have F2:=F1.trans fa zr;have G2:=fa.cell G1 zq;have ae:=(aa.fr F2 zr);have ad:=ae.row;have cc:=hf.size;have b8:=F2.size;refine hK.out _ _ G2 (fun hZ=> ?_);clear hZ hK K;try simp only [Ae,zl]
   generalize v1.alloc (.cells #[.int .i64 (P:Int)] 3)=v2 at*;refine oG 9 (fun K hK=> ?_);refine E1 (base:=w0.heap.size) (.tmp 15) (.tmp 23) 22 rfl rfl rfl Ds ae (Rd.blk (n:=1) (size:=1) au rfl) (by simp [Value.oneCell']) (by omega) (by omega) (by omega) ?_;intro A8 c8 v3 ac ah aq;have F3:=(hf.trans F2 zr).trans ah (fun q hq e=>by have h9:=(ad q e).1;omega);have G3:=ah.cell G2 (fun e=>by have h9:w0.heap.size<=w.heap.size:=(ad _ e).1;omega);refine hK.out _ _ G3 (fun hZ=> ?_);clear hZ hK K;try simp only [Ae,zl]
   refine tkH 10 G3 (h:=?_);simp only [zl];refine oD ?_;go_simp
   have ap:Own v3 w0.heap.size 3 1 A8 (i+1) c8 ((on++[P]).map Qv):=by
    rw [A15];exact ac
   have be:Hid (∀p∈on++[P],p<L):=fun p hp=>by
    rcases List.mem_append.1 hp with hp|hp
    · exact ao.out p hp
    · rw [List.mem_singleton.1 hp];exact bx
   clear ac ah aq aa ae ad G0 G1 G2 G3 F0 F1 F2 fa hf kq au;go_wp2_with fail;go_roundw
   case rel=>exact ⟨i+1,A8,c8,on++[P],by go_num,rfl,by omega,by (show (on++[P]).length=i+1);rw [A16,al.out];rfl,be.out,ap,F3⟩
   case measure=>simp [intOf];omega
  ·
   obtain rfl:i=3:=by omega
   have t0:decide (((3:Nat):Int)<3)=false:=by decide
   have bp:=bg.fr hf zq;have bl:=lh (kb.out wr Ax cx on af aa.rd al.out (by rw [hL.out];exact ao.out));go_upto_region 7 with (go_at_call 89;(with_reducible refine (bl.out).mono ?_);rintro _ w2 ⟨ys,A7,c7,rfl,a0,ar,ab,f2⟩)
   have a8:0<ys.length:=by
    have h3:on≠[]:=by intro e;rw [e] at al;have:=al.out;simp at this
    obtain ⟨p,hp⟩:=List.exists_mem_of_ne_nil on h3;exact List.length_pos_of_mem ((a0.2 p).2 (.inl hp))
   have bw:ys.length<=14:=by
    have:=Gv a0.1 (ys:=List.range r.l.length) (fun q hq=>List.mem_range.2 (ar q hq));rw [List.length_range,hL.out] at this;omega
   have aw:Hid (∀(ns:List Id) A c w',ns.Perm (ys.map (nmP r.l))->Own w' w.heap.size 48 3 A ns.length c (ns.flatMap Id.cells)->Fr Non w w'->I9 r.l w (.returned (.slice A ns.length c)) w'):=fun ns A c w' h1 h2 h3=>⟨on,ys,ns,A,c,rfl,a0,ar,(by intro e;rw [e] at al;have:=al.out;simp at this),h1,h2,h3⟩;generalize I9 r.l w=POST at*;rw [hL.out] at ar;replace ar:=lh ar;have ba:=af.trans f2 zr;have bo:=bp.fr f2 zq;have b5:=hf.size;clear kb bl bb a0 aa hf af bp f2 al ao bg hl;obtain ⟨M,hM⟩:=Aa ys.length;rw [hM.out] at ab a8 bw ⊢;have kq:=lh (ay.out w2 ba);have a4:=bq.out 0;obtain ⟨a,ha⟩:=Aa (Da l0 0);rw [ha.out] at kq a4;have ca:¬(M:Int)=0:=by omega
   have bz:¬M=0:=by omega
   obtain ⟨P,hP⟩:=Aa (a%M);have bt:P<M:=by rw [<- hP.out];exact A06 _ a8
   have ai:(a:Int)%(M:Int)=(P:Int):=by rw [<- hP.out];rfl
   have eP:=iw (P:Int);go_upto_region 8 with (go_at_call 46;(with_reducible refine (kq.out).mono ?_);rintro _ w3 ⟨rfl,f3⟩)
   try rw [ai]
   have ac:=ab.fr f3 zr;have bc:=ba.trans f3 zr;have br:=bo.fr f3 zq;have a5:w.heap.size<w3.heap.size:=br.lt
   have a6:Hid (∀i,i<M->(Gl ys P)[i]? =ys[(i+P)%M]?):=fun i hi=>by
    have:=Au6 ys (a:=P) (i:=i) (by rw [hM.out];exact bt) (by rw [hM.out];exact hi);rw [hM.out] at this;exact this
   have bk:Hid ((Gl ys P).length=M):=(Uq ys P).length_eq.trans hM.out;have b0:Hid (((Gl ys P).map (nmP r.l)).Perm (ys.map (nmP r.l))):=(Uq ys P).map _;generalize Gl ys P=RK at*;clear ab bo ba f3 kq ay a4 ha hP ai;go_wp2_with fail
   go_loopw [9,10] (fun s v wr=>∃(i:Nat) (Ax:Option Addr) (cx:Nat),v=.int .i64 (i:Int)/\s=.slice Ax i cx/\i<=M/\Own wr w3.heap.size 48 3 Ax i cx (((RK.take i).map (nmP r.l)).flatMap Id.cells)/\Own wr w0.heap.size 3 1 A7 M c7 (ys.map Qv)/\Fr Non w3 wr) (fun _ v _=>M-(intOf v).toNat)
   case atStart=>exact ⟨0,none,0,rfl,rfl,by omega,Own.nil _ _ _ _,Gw ac (by omega),Fr.refl _ _⟩
   case round=>
    obtain ⟨i,Ax,cx,rfl,rfl,hi,aa,ab,hf⟩:=hrel;have af:Fr Non w wr:=bc.trans hf zr
    by_cases hiM:i<M
    ·
     have t0:decide ((i:Int)<M)=true:=decide_eq_true (by omega);have bs:decide (i<M)=true:=decide_eq_true hiM;have e1:=iw ((i:Int)+1);have e3:=iw ((i:Int)+(P:Int));obtain ⟨Q,hQ⟩:=Aa ((i+P)%M);have bj:Q<M:=by rw [<- hQ.out];exact A06 _ a8
     have ai:((i:Int)+(P:Int))%(M:Int)=(Q:Int):=by rw [<- hQ.out];rfl
     have bh:((i:Int)+(P:Int)).tmod (M:Int)=(Q:Int):=by rw [A11 (by omega)];exact ai
     have e4:=iw (Q:Int);obtain ⟨y,hy⟩:∃y,ys[Q]? =some y:=⟨_,A03 (by rw [hM.out];exact bj)⟩;have bm:RK[i]? =some y:=by rw [a6.out i hiM,hQ.out];exact hy
     have b1:=ar.out y (A02 hy);obtain ⟨m',bi,oi,hm,b2,d0,d1,d2⟩:=ag.out y b1;obtain ⟨b7,o7,u7,rfl,_,a3,d7⟩:=ab.rd.at bj;rw [A22,hy] at a3;injection a3 with a3
     subst a3;replace d7:cI wr b7 (o7+Q) (y:Int):=d7;have hnm:=Cv hm;have a2:Hid ((RK.take (i+1)).map (nmP r.l)=(RK.take i).map (nmP r.l)++[m'.id]):=by show _=_;rw [Dm bm,A15,List.map_cons,List.map_nil,hnm]
     obtain ⟨q1,q2,q3⟩:=ix Q M
     obtain ⟨p1,p2,p3⟩:=ix y L
     have a7:=g2.out;rw [b2] at a7;have bd:=aa.row;have cb:=hf.size;go_upto_region 12 with (fail)
     have Hb:cS wr w.heap.size 2 (some ⟨bi,oi,none⟩) L r.iC:=((br.fr hf zq).cell 2).trans a7;have F0:Fr Non wr wr.drew:=(Fr.refl Non wr).drew;have Yb:=d7;obtain ⟨Ib,Jb,Kb⟩:=zk3 af d0 d1 d2;have H0:cS wr.drew w.heap.size 2 (some ⟨bi,oi,none⟩) L r.iC:=Hb;have Y0:cI wr.drew b7 (o7+Q) (y:Int):=Yb;have I0:cI wr.drew bi (oi+y*3) m'.id.b:=Ib;have J0:cI wr.drew bi (oi+y*3+1) m'.id.s:=Jb;have K0:cU wr.drew bi (oi+y*3+2) m'.id.u:=Kb;have az:Hid (∀q,Ac (some (⟨b7,o7,none⟩:Addr))=some q->Ac Ax≠some q):=fun q h1 h2=>Own.ne2 ab aa (by decide) q h1 h2;clear ag hy bm hnm a7 hm;refine wp_region_held_drew (S:=fun w'=>cS w' w.heap.size 2 (some ⟨bi,oi,none⟩) L r.iC/\cI w' b7 (o7+Q) (y:Int)/\cI w' bi (oi+y*3) m'.id.b/\cI w' bi (oi+y*3+1) m'.id.s/\cU w' bi (oi+y*3+2) m'.id.u) (by kernel_rfl) ⟨H0,Y0,I0,J0,K0⟩ (fun hHeld=> ?_);clear hHeld;have uu:=aI H0 (aI Y0 (aI I0 (aI J0 K0)));refine tkH 0 uu (h:=tkH 1 uu (h:=tkH 2 uu (h:=tkH 3 uu (h:=tkH 4 uu (h:=tkH 5 uu (h:=tkH 6 uu (h:=tkH 7 uu (h:=tkH 8 uu (h:=tkH 9 uu (h:=?_))))))))));clear uu;simp only [zl];try simp only [e3,bh,ai,e4]
     have uu:=aI H0 (aI Y0 (aI I0 (aI J0 K0)));refine tkH 10 uu (h:=tkH 11 uu (h:=tkH 12 uu (h:=tkH 13 uu (h:=?_))));clear uu;simp only [zl];refine oG 14 (fun K hK=> ?_);go_simp;have au:=(Blk.new wr 48 m'.id.V).drew;have F1:Fr Non wr (wr.alloc (.cells m'.id.V 48)).drew:=((Fr.refl _ _).alloc _).drew;generalize (wr.alloc (.cells m'.id.V 48)).drew=v1 at*;obtain ⟨H1,Y1,I1,J1,K1⟩:=zk5 F1 Hb Yb Ib Jb Kb;refine hK.out _ _ ⟨H1,Y1,I1,J1,K1⟩ (fun hZ=> ?_);clear hZ hK K;try simp only [Ae,zl]
     have aj:=aa.fr F1 zr;have ak:=ab.fr F1 zr;have b3:=F1.size;refine oG 15 (fun K hK=> ?_);refine E1 (base:=w3.heap.size) (.tmp 39) (.tmp 53) 25 rfl rfl rfl Dr aj (Rd.blk (n:=1) (size:=3) au rfl) (by simp [Value.oneCell']) (by omega) (by omega) (by omega) ?_;intro A8 c8 v2 ac ah aq;have fS:∀q,Ac Ax=some q->w3.heap.size<=q:=fun q e=>(bd q e).1;have F3:Fr Non w3 v2:=(hf.trans F1 zr).trans ah (fun q hq e=>by have h9:=fS q e;omega);have a1:Fr Non w v2:=bc.trans F3 zr;have H2:=ah.cell H1 (fun e=>by have h9:w3.heap.size<=w.heap.size:=fS _ e;have h8:=a5;omega);have Y2:=ah.cell Y1 (fun e=>az.out b7 rfl e);obtain ⟨I2,J2,K2⟩:=zk3 a1 d0 d1 d2;refine hK.out _ _ ⟨H2,Y2,I2,J2,K2⟩ (fun hZ=> ?_);clear hZ hK K;try simp only [Ae,zl]
     refine tkH 16 ⟨H2,Y2,I2,J2,K2⟩ (h:=?_);simp only [zl];refine oD ?_;go_simp
     have ap:Own v2 w3.heap.size 48 3 A8 (i+1) c8 (((RK.take (i+1)).map (nmP r.l)).flatMap Id.cells):=by
      rw [a2.out,List.flatMap_append];exact ac
     have av:Own v2 w0.heap.size 3 1 (some ⟨b7,o7,none⟩) M c7 (ys.map Qv):=ak.fr ah (fun q h1 h2=>az.out q h1 h2);clear ac ak aa aj ab ah aq au H0 Y0 I0 J0 K0 H1 Y1 I1 J1 K1 H2 Y2 I2 J2 K2 Hb Yb Ib Jb Kb F0 F1 hf af a1 a2;go_wp2_with fail;go_roundw
     case rel=>exact ⟨i+1,A8,c8,by go_num,rfl,by omega,ap,av,F3⟩
     case measure=>simp [intOf];omega
    ·
     obtain rfl:i=M:=by omega
     have t0:decide ((i:Int)<i)=false:=decide_eq_false (by omega);have bs:decide (i<i)=false:=decide_eq_false (by omega);have ax:((RK.take i).map (nmP r.l)).length=i:=by rw [A13,List.length_take,bk.out];omega
     have a2:RK.take i=RK:=by rw [<- bk.out,List.take_length]
     have hd:=lh (aw.out ((RK.take i).map (nmP r.l)) Ax cx wr (by rw [a2];exact b0.out) (by rw [ax];exact Gw aa bc.size) af);rw [ax] at hd;clear aw aa ab;go_wp2_with fail;exact hd.out
end Oq
namespace Oq
theorem Av.kept {cards:List Cd} {l m:List Pn} {C ws:List Op} (h:Av cards l C m ws) {o:Op} (ho:o∈C) (hw:o∉ws):(plc m o.name).isSome=true:=by
 rcases List.mem_append.1 (h.perm.mem_iff.2 ho) with h1|h1
 ·
  obtain ⟨n,k1,rfl⟩:=List.mem_map.1 h1;obtain ⟨j,hj⟩:=A08 k1;have:=(h.rm.ok j n hj).plc;rw [(h.rm.ok j n hj).id] at this;rw [this];rfl
 · exact absurd h1 hw
theorem Av.closed {cards:List Cd} {l m:List Pn} {C ws:List Op} (h:Av cards l C m ws) (hst:∀o∈ws,ready m o=false) (hcl:∀o∈C,∀id∈o.past,∃o'∈C,o'.name=id):ws=[]:=by
 have hno:∀(i:Nat) (n:Pn),l[i]? =some n->n.o∉ws:=by
  intro i
  induction i using Nat.strongRecOn with
  |_ i ih=>
   intro n hi hin;have hc:n.o∈C:=h.perm.mem_iff.1 (A23 _ hin)
   have hr:ready m n.o=true:=by
    unfold ready;rw [A19,A24];intro id hid;obtain ⟨p,hp,hq⟩:=(h.rl.ok i n hi).par id hid;obtain ⟨o',ho',e⟩:=hcl n.o hc id hid;obtain ⟨n2,hn2,rfl⟩:=h.sub o' ho';obtain ⟨q,hq2⟩:=A08 hn2;have k1:=(h.rl.ok q n2 hq2).plc;rw [(h.rl.ok q n2 hq2).id,e,hq] at k1;injection k1 with k1
    have hk:=h.kept ho' (ih q (by omega) n2 hq2);rw [e] at hk
    cases hpl:plc m id with
    |none=>rw [hpl] at hk;cases hk
    |some j=>exact A25
   rw [hst n.o hin] at hr
   cases hr
 cases ws with
 |nil=>rfl
 |cons o r=>
  obtain ⟨n,hn,rfl⟩:=h.sub o (h.perm.mem_iff.1 (A23 _ A26));obtain ⟨i,hi⟩:=A08 hn;exact absurd A26 (hno i n hi)
theorem Au7 {cards:List Cd} {l m:List Pn} {C:List Op} (h:Av cards l C m []) (hlen:l.length<200) {ps:List Nat} (hps:∀p∈ps,p<l.length) (hnd:ps.Nodup) (hnew:∀p∈ps,∀n,l[p]? =some n->n.o∉C)
  (hpar:∀(k p:Nat) (n:Pn),ps[k]? =some p->l[p]? =some n->∀id∈n.o.past,(∃o∈C,o.name=id)\/∃(j q:Nat) (n':Pn),j<k/\ps[j]? =some q/\l[q]? =some n'/\n'.id=id):
  ∀k,k<=ps.length->∃(mk:List Pn) (Ck:List Op),Bj cards l (ps.take k) (m,[])=(mk,[])/\Av cards l Ck mk []/\mk.length=m.length+k/\(∀o,o∈Ck<->o∈C\/∃(j q:Nat) (n':Pn),j<k/\ps[j]? =some q/\l[q]? =some n'/\o=n'.o)/\
   ∀(p:Nat) (n:Pn),ps[k]? =some p->l[p]? =some n->Bl cards (mk,[]) n.o=(0,(mk++[Aw mk n.o],[])):=by
 have aa:∀k (mk:List Pn) (Ck:List Op),Av cards l Ck mk []->(∀o,o∈Ck<->o∈C\/∃(j q:Nat) (n':Pn),j<k/\ps[j]? =some q/\l[q]? =some n'/\o=n'.o)->∀(p:Nat) (n:Pn),ps[k]? =some p->l[p]? =some n->plc mk n.id=none/\ready mk n.o=true:=by
  intro k mk Ck hI hC p n hk hp;have ah:=(hI.rl.ok p n hp).id
  have ak:n.o∉Ck:=fun hc=>by
   rcases (hC n.o).1 hc with h1|⟨j,q,n',hj,h2,h3,e⟩
   · exact hnew p (A02 hk) n hp h1
   ·
    have k1:=(hI.rl.ok q n' h3).plc;have k2:=(hI.rl.ok p n hp).plc;rw [(hI.rl.ok q n' h3).id,<- e,<- ah,k2] at k1;injection k1 with k1
    subst k1;obtain ⟨g1,e1⟩:=List.getElem?_eq_some_iff.1 h2;obtain ⟨g2,e2⟩:=List.getElem?_eq_some_iff.1 hk;exact List.pairwise_iff_getElem.1 hnd j k g1 g2 hj (e1.trans e2.symm)
  constructor
  ·
   cases hpl:plc mk n.id with
   |none=>rfl
   |some j=>
    exfalso;obtain ⟨n',ad,e⟩:=Bp hpl;obtain ⟨n2,k1,k2⟩:=hI.among n' (A02 ad);obtain ⟨q,hq⟩:=A08 k1;have q1:=(hI.rl.ok q n2 hq).plc;have q2:=(hI.rl.ok p n hp).plc;rw [(hI.rl.ok q n2 hq).id,k2,<- (hI.rm.ok j n' ad).id,e,q2] at q1;injection q1 with q1
    rw [<- q1,hp] at hq;injection hq with hq
    refine ak ?_;rw [hq,k2];exact hI.perm.mem_iff.1 (List.mem_append_left _ (A27 (A02 ad)))
  ·
   unfold ready;rw [A19,A24];intro id ae
   have aj:∃o∈Ck,o.name=id:=by
    rcases hpar k p n hk hp id ae with ⟨o,ho,e⟩|⟨j,q,n',hj,h2,h3,e⟩
    · exact ⟨o,(hC o).2 (.inl ho),e⟩
    · exact ⟨n'.o,(hC n'.o).2 (.inr ⟨j,q,n',hj,h2,h3,rfl⟩),by rw [<- (hI.rl.ok q n' h3).id,e]⟩
   obtain ⟨o,ho,e⟩:=aj;have af:=hI.kept ho A01;rw [e] at af
   cases hpl:plc mk id with
   |none=>rw [hpl] at af;cases af
   |some j=>exact A25
 intro k
 induction k with
 |zero=>
  intro _;refine ⟨m,C,rfl,h,rfl,fun o=>⟨.inl,fun ho=>ho.elim id (fun ⟨j,_,_,hj,_⟩=>absurd hj (Nat.not_lt_zero j))⟩,fun p n hk hp=> ?_⟩;obtain ⟨h1,h2⟩:=aa 0 m C h (fun o=>⟨.inl,fun ho=>ho.elim id (fun ⟨j,_,_,hj,_⟩=>absurd hj (Nat.not_lt_zero j))⟩) p n hk hp;exact (h.one hlen hp h1 h2).1
 |succ k ih=>
  intro hk;obtain ⟨mk,Ck,h1,h2,h3,h4,h5⟩:=ih (by omega);have ac:ps[k]? =some ps[k]:=A03 (by omega);have ai:=hps ps[k] (List.getElem_mem _);have ab:l[ps[k]]? =some l[ps[k]]:=A03 ai;obtain ⟨s1,s2⟩:=aa k mk Ck h2 h4 _ _ ac ab;obtain ⟨e,C',g1,g2⟩:=h2.one hlen ab s1 s2
  have ag:∀o,o∈C'<->o∈C\/∃(j q:Nat) (n':Pn),j<k+1/\ps[j]? =some q/\l[q]? =some n'/\o=n'.o:=fun o=>by
   rw [g2,h4];constructor
   ·
    rintro ((h|⟨j,q,n',hj,r1,r2,r3⟩)|h)
    · exact .inl h
    · exact .inr ⟨j,q,n',by omega,r1,r2,r3⟩
    · exact .inr ⟨k,_,_,by omega,ac,ab,h⟩
   ·
    rintro (h|⟨j,q,n',hj,r1,r2,r3⟩)
    · exact .inl (.inl h)
    ·
     rcases A18 j k with hlt|hge
     · exact .inl (.inr ⟨j,q,n',hlt,r1,r2,r3⟩)
     ·
      have ej:j=k:=by omega
      subst ej;rw [ac] at r1;injection r1 with r1
      rw [<- r1,ab] at r2;injection r2 with r2
      exact .inr (by rw [r3,<- r2])
  refine ⟨mk++[Aw mk l[ps[k]].o],C',?_,g1,by rw [A16,h3];rfl,ag,fun p n hkk hp=> ?_⟩
  ·
   rw [List.take_succ_eq_append_getElem (by omega),Iu,h1,ab];dsimp only;rw [e]
  ·
   obtain ⟨t1,t2⟩:=aa (k+1) _ C' g1 ag p n hkk hp;exact (g1.one hlen hp t1 t2).1
def Ao (l:List Pn) (has:List Id):List Id:=(Dp l (Ak (l.map Pn.id))).filter (fun x=> !Bd has x)
theorem forIds_mem {l:List Pn} {has:List Id} {x:Id}:x∈Ao l has<->x∈l.map Pn.id/\x∉has:=by
 unfold Ao;rw [List.mem_filter,(Fe _ _).mem_iff,(Cf _).mem_iff];refine and_congr_right (fun _=> ?_);rw [A19,Bool.eq_false_iff];exact ⟨fun hn hin=>hn ((E9 _ _).2 hin),fun hn hin=>hn ((E9 _ _).1 hin)⟩
theorem Ur {cards:List Cd} {l:List Pn} (h:Rows cards l) (has:List Id):(Ao l has).Nodup:=by
 unfold Ao;refine List.Pairwise.filter _ ?_;exact (Fe _ _).nodup_iff.2 ((Cf _).nodup_iff.2 h.nodup)
theorem Au8 (l:List Pn) (has:List Id):RowK l (Ao l has):=by
 unfold Ao RowK;exact List.Pairwise.filter _ (N0 _ _)
theorem Au9 {cards:List Cd} {l:List Pn} (h:Rows cards l) {has:List Id} {k p:Nat} {x id:Id} {n:Pn} (hk:(Ao l has)[k]? =some x) (hp:plc l x=some p) (hn:l[p]? =some n) (hid:id∈n.o.past):
  id∈has\/∃j,j<k/\(Ao l has)[j]? =some id:=by
 by_cases hh:id∈has
 · exact .inl hh
 refine .inr ?_;have hb:bef l id x=true:=(Nl h hp hn).2 ⟨id,hid,.inl rfl⟩;have hl:De l id x=true:=rkLess_iff.2 (.inl (h.order hb).2.2.1);obtain ⟨q,_,hq⟩:=(h.ok p n hn).par id hid;obtain ⟨n2,hn2,e⟩:=Bp hq;have hm:id∈Ao l has:=forIds_mem.2 ⟨by rw [<- e];exact A27 (A02 hn2),hh⟩;obtain ⟨j,hj⟩:=A08 hm;refine ⟨j,?_,hj⟩
 rcases Nat.lt_trichotomy j k with a|a|a
 · exact a
 ·
  subst a;rw [hk] at hj;injection hj with hj
  rw [hj,Tr] at hl
  cases hl
 ·
  obtain ⟨g1,e1⟩:=List.getElem?_eq_some_iff.1 hk;obtain ⟨g2,e2⟩:=List.getElem?_eq_some_iff.1 hj;have:=(List.pairwise_iff_getElem.1 (Au8 l has)) k j g1 g2 a;rw [e1,e2,hl] at this
  cases this
end Oq
namespace Oq
attribute [local go_sem] A04 A05
attribute [local go_sem ↓] Gd
theorem Av0 (l:List Id) (x:Id):l.any (fun y=>Id.eq x y)=Bd l x:=by
 rw [A14,E9,List.any_eq_true];constructor
 ·
  rintro ⟨y,hy,e⟩;rw [(Id.eq_iff _ _).1 e];exact hy
 ·
  intro h;exact ⟨x,h,(Id.eq_iff _ _).2 rfl⟩
theorem Av1 (B n c:Nat) (A:Option Addr) (l:List Id) (x:Id) (w:World) (hn:Hid (l.length=n)) (hr:Rd w B 3 A n (l.flatMap Id.cells)) (hnm:n<=1000000):
  Calls zp 134 #[.slice A n c,.agg x.V] w (fun e w'=>(∃i:Int,e=.returned (.int .i64 i)/\decide (0<=i)=Bd l x)/\Fr Non w w'):=by
 have bx:=Blk.new w 48 x.V;have f0:Fr Non w (w.alloc (.cells x.V 48)):=(Fr.refl Non w).alloc _;have ah:=hr.fr f0 zr;obtain ⟨xb,ag⟩:=Aa w.heap.size;rw [ag.out] at bx;have ab:Hid (l.any (fun y=>Id.eq x y)=Bd l x):=Av0 l x;clear hr;go_enter func134,ntmps134;go_upto_region 1 with (fail)
 try rw [ag.out]
 generalize w.alloc (.cells x.V 48)=w0 at*;go_wp2_with fail
 go_loopw [8] (fun v wr=>∃k:Nat,v=.int .i64 (k:Int)/\k<=n/\Hid ((l.take k).any (fun y=>Id.eq x y)=false)/\Fr Non w0 wr) (fun v _=>n-(intOf v).toNat)
 case atStart=>exact ⟨0,rfl,by omega,rfl,Fr.refl _ _⟩
 case round=>
  obtain ⟨k,rfl,hk,hh,hf⟩:=hrel
  by_cases hlt:k<n
  ·
   obtain ⟨i1,i2,i3⟩:=ix k n
   obtain ⟨y,hy⟩:∃y,l[k]? =some y:=⟨_,A03 (by rw [hn.out];exact hlt)⟩;obtain ⟨b,af,rfl,aj,k0,k1,k2⟩:=Id.at (ah.fr hf zr) hy;have ae:=lh (M5 l (fun y=>Id.eq x y) hy);have aa:Hid (Id.eq x y=true->Bd l x=true):=fun h=>by rw [<- ab.out];exact List.any_eq_true.2 ⟨y,A02 hy,h⟩
   clear hy;obtain ⟨E,hE⟩:=Aa (Id.eq x y);go_upto_region 4 with (fail)
   have ad:=bx.fr hf zq;have X0:cI wr xb 0 x.b:=ad.cell 0;have Y0:cI wr xb 1 x.s:=ad.cell 1;have Z0:cU wr xb 2 x.u:=ad.cell 2;have P0:=k0;have Q0:=k1;have R0:=k2;have F0:Fr Non wr wr.drew:=(Fr.refl Non wr).drew;have G0:=hf.drew;clear k0 k1 k2 ad;refine wp_region_held_drew (S:=fun w'=>cI w' xb 0 x.b/\cI w' xb 1 x.s/\cU w' xb 2 x.u/\cI w' b (af+k*3) y.b/\cI w' b (af+k*3+1) y.s/\cU w' b (af+k*3+2) y.u) (by kernel_rfl) ⟨X0,Y0,Z0,P0,Q0,R0⟩ (fun hHeld=> ?_);clear hHeld;have uu:=aI X0 (aI Y0 (aI Z0 (aI P0 (aI Q0 R0))));refine tkH 0 uu (h:=tkH 1 uu (h:=tkH 2 uu (h:=tkH 3 uu (h:=tkH 4 uu (h:=tkH 5 uu (h:=?_))))));clear uu;simp only [zl];refine oD ?_;go_simp;have ai:Id.eq x y=true\/Id.eq x y=false:=by cases Id.eq x y<;>simp
   rcases ai with hp|hp
   ·
    have he:=lh (aa.out hp);rw [hp] at ae;try rw [hp]
    clear aa hE;go_wp2_with fail
    go_ret
    exact ⟨⟨(k:Int),rfl,by rw [he.out];exact decide_eq_true (by omega)⟩,f0.trans G0 zr⟩
   ·
    rw [hp] at ae;try rw [hp]
    clear aa hE;go_wp2_with fail;go_roundw
    case rel=>exact ⟨k+1,by go_num,by omega,by show _=_;rw [ae.out,hh.out];rfl,G0⟩
    case measure=>simp [intOf];omega
  ·
   obtain rfl:k=n:=by omega
   have ac:Bd l x=false:=by have h:=hh.out;rw [A21 (by rw [hn.out];omega)] at h;rw [<- ab.out];exact h
   go_wp2
   go_ret
   exact ⟨⟨-1,rfl,by rw [ac];rfl⟩,f0.trans hf zr⟩
theorem Av2 (B n c:Nat) (A:Option Addr) (l:List Id) (x:Id) (w:World) (hn:Hid (l.length=n)) (hr:Rd w B 3 A n (l.flatMap Id.cells)) (hnm:n<=1000000):
  Calls zp 91 #[.slice A n c,.agg x.V] w (Ag (Bd l x) w):=by
 have bx:=Blk.new w 48 x.V;have f0:Fr Non w (w.alloc (.cells x.V 48)):=(Fr.refl Non w).alloc _;have kx:=lh (Av1 B n c A l x _ hn (hr.fr f0 zr) hnm);have hfin:Hid (∀(i:Int) w',decide (0<=i)=Bd l x->Fr Non w w'->Ag (Bd l x) w (.returned (.bool (decide (0<=i)))) w'):=fun i w' h hf=>⟨by rw [h],hf⟩;generalize Ag (Bd l x) w=POST at*;have c0:cI (w.alloc (.cells x.V 48)) w.heap.size 0 x.b:=bx.cell 0;have c1:cI (w.alloc (.cells x.V 48)) w.heap.size 1 x.s:=bx.cell 1;have c2:cU (w.alloc (.cells x.V 48)) w.heap.size 2 x.u:=bx.cell 2;clear hr hn hnm bx;go_enter func91,ntmps91;go_upto_region 1 with (fail)
 generalize w.alloc (.cells x.V 48)=w0 at*;go_wp2_with (go_at_call 134;(with_reducible refine (kx.out).mono ?_);rintro _ w1 ⟨⟨i,rfl,hd0⟩,f1⟩;(have hd:=lh (hfin.out i w1 hd0 (f0.trans f1 zr)));clear hd0);exact hd.out
end Oq
section
open Go.RowKit Go.Sort
section
variable {P : Program} {ops : Array Oper} {Q : Exit -> Act -> World -> Prop} {md : Region.Mode} {S : World -> Prop} {g : Nat}
theorem Av3 {i:Nat} {oi:Oper} {v:Value} (hi:ops[i]? =some oi) (hgi:g≠i)
  (hsel:∀(j:Nat) (o:Oper) cs b,ops[j]? =some o->o.op≠ .select cs b) (hQ:∀c a w,Q (.panic c) (a.put oi.dst v) w->Q (.panic c) a w):
  ∀(fuel:Nat) (listed:Array Bool) (a:Act) (w:World),(listed.getD g true=false->S w)->
   (∀j oj,ops[j]? =some oj->j≠i->listed.getD j true=false->(∀e∈oj.after,Region.binds md e=true->e.on≠i)->oi.apart ops oj=true)->
   i∈Region.ready md ops listed->YieldsIf P ops (fun _=>True) oi v a->
   C8 P md ops Q S g fuel (listed.setIfInBounds i true) (a.put oi.dst v) w->C8 P md ops Q S g (fuel+1) listed a w:=by
 intro fuel
 induction fuel with
 |zero=>
  intro listed a w hS _ hr hy H;refine ⟨fun h=>(by rw [h] at hr;cases hr),fun j hj=> ?_⟩
  by_cases hji:j=i
  · subst hji;exact hy.wpOp hi trivial ⟨fun h0=>hS (by rw [getD_set_ne true (Ne.symm hgi)] at h0;exact h0),H⟩
  ·
   have h0:=ready_mono hj hji;rw [H.1] at h0
   cases h0
 |succ k ih=>
  intro listed a w hS hfree hr hy H;refine ⟨fun h=>(by rw [h] at hr;cases hr),fun j hj=> ?_⟩
  by_cases hji:j=i
  · subst hji;exact hy.wpOp hi trivial ⟨fun h0=>hS (by rw [getD_set_ne true (Ne.symm hgi)] at h0;exact h0),H⟩
  ·
   have hpend:=(mem_ready.1 hr).1;obtain ⟨hjun,oj,hoj,hall⟩:=mem_ready.1 hj
   have hbl:∀e∈oj.after,Region.binds md e=true->e.on≠i:=fun e he hb heq=>by
    have h1:=hall e he hb;rw [heq] at h1
    rcases A18 i listed.size with h'|h'
    · simp [h'] at hpend h1;rw [hpend] at h1;cases h1
    · simp [Array.getElem?_eq_none h'] at h1
   have h1:=H.2 j (ready_mono hj hji);have h2:=wpOp_putIf hoj (hfree j oj hoj hji hjun hbl) (fun cs b=>hsel i oi cs b hi) (fun cs b=>hsel j oj cs b hoj) hQ hy h1
   have hfree':∀m om,ops[m]? =some om->m≠i->(listed.setIfInBounds j true).getD m true=false->
     (∀e∈om.after,Region.binds md e=true->e.on≠i)->oi.apart ops om=true:=fun m om hm hmi hun hno=>by
    refine hfree m om hm hmi ?_ hno
    by_cases hjm:j=m
    · subst hjm;exact hjun
    · rw [getD_set_ne true hjm] at hun;exact hun
   refine wpOp_mono (fun a' w' h3=> ?_) h2;have hS':(listed.setIfInBounds j true).getD g true=false->S w':=fun h0=>h3.2.1 (by rw [A28 _ _ (Ne.symm hji),getD_set_ne true (Ne.symm hgi)];exact h0);refine ⟨hS',ih _ a' w' hS' hfree' (ready_mono hr (Ne.symm hji)) h3.1 ?_⟩;rw [A28 _ _ hji];exact h3.2.2
end
theorem tkP (i:Nat) {P:Program} {Q:Exit->Act->World->Prop} {md:Region.Mode} {S:World->Prop} {gt:Nat} {l:List Oper} {d:Tmp} {op:Go.Op} {ty:TypeId} {pos:String} {after:Array Edge} {g:Option (Nat × Bool)} {v:Value} {fuel:Nat} {listed:Array Bool} {tl:List Value} {ds:List Deferred} {w:World} (hS:S w)
  (h:C8 P md l.toArray Q S gt fuel (listed.setIfInBounds i true) ⟨(tl.set d v).toArray,ds⟩ w) (hi:l[i]? =some ⟨some d,op,ty,pos,after,g⟩:=by rfl)
  (hgate:(gt !=i)=true:=by kernel_rfl)
  (hs:Region.noSelect l.toArray=true:=by kernel_rfl) (hf:Region.free md l.toArray listed i=true:=by kernel_rfl) (hr:(Region.ready md l.toArray listed).contains i=true:=by kernel_rfl)
  (hQ:∀c a w,Q (.panic c) (a.put (some d) v) w->Q (.panic c) a w:=by exact fun _ _ _ h=>h) (hy:YieldsIf P l.toArray (fun _=>True) ⟨some d,op,ty,pos,after,g⟩ v ⟨tl.toArray,ds⟩:=by (refine Or.inl ⟨by kernel_rfl,?_⟩;intro w' _;go_simp;(try with_reducible rfl))):
  C8 P md l.toArray Q S gt (fuel+1) listed ⟨tl.toArray,ds⟩ w:=by
 have hi':l.toArray[i]? =some ⟨some d,op,ty,pos,after,g⟩:=by rw [List.getElem?_toArray];exact hi
 exact Av3 hi' (bne_iff_ne.1 hgate) (Region.noSelect_spec hs) hQ fuel listed _ w (fun _=>hS) (Region.free_spec hi' hf) (by simpa using hr) hy (by rw [Ae];exact h)
namespace Oq
theorem Oj (p v:Value):Instr.storeAt 48 p v=stS 48 p v:=rfl
def Cx (w:World) (g k:Nat) (x:Id):World:=((w.setCell ⟨g,k,none⟩ (.int .i64 x.b)).setCell ⟨g,k+1,none⟩ (.int .i64 x.s)).setCell ⟨g,k+2,none⟩ (.int .u64 (x.u:Int))
theorem Av4 {w:World} {g k:Nat} (x:Id) (h:∀j,j<3->(w.cell? ⟨g,k+j,none⟩).isSome=true/\w.frozen? ⟨g,k+j,none⟩=false):
  (stS 48 (.pointer (some ⟨g,k,none⟩)) (.agg x.V)).run zp w=.ok () (Cx w g k x):=by
 have h0:=h 0 (by omega);have h1:=h 1 (by omega);have h2:=h 2 (by omega);rw [A17] at h0;obtain ⟨v0,y0⟩:=Option.isSome_iff_exists.1 h0.1;obtain ⟨v1,y1⟩:=Option.isSome_iff_exists.1 h1.1;obtain ⟨v2,y2⟩:=Option.isSome_iff_exists.1 h2.1;have z0:=h0.2;have z1:=h1.2;have z2:=h2.2;unfold stS Cx;go_simp
structure Srt (w0 v:World) (base:Nat) (A:Option Addr) (c:Nat) (d:Array Id):Prop where
 own:Own v base 48 3 A d.size c (d.toList.flatMap Id.cells)
 fr:Fr Non w0 v
 ok:∀x∈d.toList,x.ok
 base:w0.heap.size<=base
theorem Srt.non {w0 v v':World} {base c:Nat} {A:Option Addr} {d:Array Id} (h:Srt w0 v base A c d) (hf:Fr Non v v'):Srt w0 v' base A c d:=
 ⟨h.own.fr hf zr,h.fr.trans hf zr,h.ok,h.base⟩
theorem Srt.at {w0 v:World} {base c:Nat} {A:Option Addr} {d:Array Id} (h:Srt w0 v base A c d) {i:Nat} (hi:i<d.size):
  ∃g,A=some ⟨g,0,none⟩/\base<=g/\g<v.heap.size:=by
 rcases h.own.2 with ⟨_,hn⟩|⟨g,cap,cur,hv,_⟩
 · omega
 ·
  injection hv with hA _ _
  exact ⟨g,hA,(h.own.row g (by rw [hA];rfl)).1,(h.own.row g (by rw [hA];rfl)).2⟩
theorem G7 {d:Array Id} {i:Nat} (hi:i<d.size):d.toList[i]? =some d[i]! :=by
 rw [Array.getElem?_toList,Array.getElem?_eq_getElem hi,getElem!_pos d i hi]
theorem Srt.cells {w0 v:World} {base c g:Nat} {d:Array Id} (h:Srt w0 v base (some ⟨g,0,none⟩) c d) {i:Nat} (hi:i<d.size):
  v.cell? ⟨g,i*3,none⟩=some (.int .i64 d[i]!.b)/\v.cell? ⟨g,i*3+1,none⟩=some (.int .i64 d[i]!.s)/\v.cell? ⟨g,i*3+2,none⟩=some (.int .u64 (d[i]!.u:Int)):=by
 obtain ⟨b,off,hA,_,k0,k1,k2⟩:=Id.at h.own.rd (G7 hi);obtain ⟨rfl,rfl⟩:g=b/\0=off:=by injection hA with e;injection e with e1 e2;exact ⟨e1,e2⟩
 rw [Nat.zero_add] at k0 k1 k2;exact ⟨k0,k1,k2⟩
theorem Srt.okAt {w0 v:World} {base c:Nat} {A:Option Addr} {d:Array Id} (h:Srt w0 v base A c d) {i:Nat} (hi:i<d.size):d[i]!.ok:=
 h.ok _ (A02 (G7 hi))
theorem Srt.put {w0 v:World} {base c g:Nat} {d:Array Id} (h:Srt w0 v base (some ⟨g,0,none⟩) c d) {i:Nat} (hi:i<d.size) {x:Id} (hx:x.ok):
  (stS 48 (.pointer (some ⟨g,i*3,none⟩)) (.agg x.V)).run zp v=.ok () (Cx v g (i*3) x)/\Srt w0 (Cx v g (i*3) x) base (some ⟨g,0,none⟩) c (d.setIfInBounds i x):=by
 obtain ⟨h1,h2⟩:=Own.putId h.own (G7 hi) hi x;have hg:=(h.own.row g rfl).1;have hb:=h.base;have hnn:∀k:Nat,Fr Non w0 w0:=fun _=>Fr.refl _ _;refine ⟨Av4 x h1,?_,?_,?_,hb⟩
 ·
  rw [A29,A30];exact h2
 · exact ((h.fr.setCell (p:=⟨g,i*3,none⟩) (fun hh=>absurd hh (by show ¬g<_;omega)) _).setCell (p:=⟨g,i*3+1,none⟩) (fun hh=>absurd hh (by show ¬g<_;omega)) _).setCell (p:=⟨g,i*3+2,none⟩) (fun hh=>absurd hh (by show ¬g<_;omega)) _
 ·
  intro z hz;rw [A30] at hz
  rcases List.mem_or_eq_of_mem_set hz with h3|h3
  · exact h.ok z h3
  · rw [h3];exact hx
theorem Srt.swap {w0 v:World} {base c g:Nat} {d:Array Id} (h:Srt w0 v base (some ⟨g,0,none⟩) c d) {i j:Nat} (hi:i<d.size) (hj:j<d.size):
  (stS 48 (.pointer (some ⟨g,i*3,none⟩)) (.agg #[.int .i64 d[j]!.b,.int .i64 d[j]!.s,.int .u64 (d[j]!.u:Int)])).run zp v=.ok () (Cx v g (i*3) d[j]!)/\
  (stS 48 (.pointer (some ⟨g,j*3,none⟩)) (.agg #[.int .i64 d[i]!.b,.int .i64 d[i]!.s,.int .u64 (d[i]!.u:Int)])).run zp (Cx v g (i*3) d[j]!)=.ok () (Cx (Cx v g (i*3) d[j]!) g (j*3) d[i]!)/\
  Srt w0 (Cx (Cx v g (i*3) d[j]!) g (j*3) d[i]!) base (some ⟨g,0,none⟩) c (swp d i j):=by
 obtain ⟨h1,h2⟩:=h.put hi (h.okAt hj);obtain ⟨h3,h4⟩:=h2.put (i:=j) (by rw [A29];exact hj) (h.okAt hi);exact ⟨h1,h3,h4⟩
structure Fi (w0:World) (fid:Nat) (pre post:Array Value) (cmp:Id->Id->Int):Prop where
 enters:∀args w,(callFunc fid args).run zp w=.ok (.enter fid args) w
 tells:∀(x y:Id) (v:World),Fr Non w0 v->x.ok->y.ok->Calls zp fid (pre++(#[.agg x.V,.agg y.V]++post)) v fun e v'=>e=.returned (.int .i64 (cmp x y))/\Fr Non v v'
def Ab (cmp:Id->Id->Int) (x y:Id):Bool:=decide (cmp x y<0)
def Eh (w0:World) (base:Nat) (A:Option Addr) (c:Nat) (d:Array Id) (e:Ending) (v:World):Prop:=e=.returned (.tuple #[])/\Srt w0 v base A c d
end Oq
end
end Go.Proofs.YtgbdljlapmjmnaaGreatDoor
