/- Contracts of functions, walked (part 17).
Conditions: as each theorem says. -/
import Derived.Sort.AssemblyPlain
import Derived.Test.YtmcpnjoomlgmlaaGreatDoorRpM16
set_option maxRecDepth 100000
set_option maxHeartbeats 16000000
open Array renaming setIfInBounds_comm->A78,size_setIfInBounds->A79,toList_setIfInBounds->A80
open Bool renaming not_false->A61,not_true->A62,eq_iff_iff->A71
open Int renaming tmod_eq_emod_of_nonneg->A67,tdiv_eq_ediv_of_nonneg->A74
open List renaming not_mem_nil->A59,mem_of_getElem?->A60,getElem?_eq_getElem->A69,length_map->A70,map_append->A72,length_append->A75,take_of_length_le->A76,getElem?_map->A77
open Nat renaming mod_lt->A63,le_refl->A64,lt_of_lt_of_le->A65,le_trans->A68,add_zero->A73
open Go.World renaming size_alloc->A66
open Go.Proofs.Tryz
open Go.Proofs.Tryz renaming prog->zp
open Go.Lib renaming hid->lh
open List renaming set->zl
open Go.Ending renaming returned->ze
namespace Go.Proofs.YtmcpnjoomlgmlaaGreatDoor
open Go.RowKit
attribute [local go_sem ↓] Go.wp_at_zero Go.wp_at_succ
namespace Oq
attribute [local go_sem] A61 A62
attribute [local go_sem ↓] Gi Bq Lk Dx
def fg0 (A:Option Addr) (c:Nat) (cs:List Cd):FG:=⟨A,c,cs,none,0,[],none,0,none,0,[],[]⟩
theorem Ax6 {A:Option Addr} {c:Nat} {cs:List Cd} {w:World} {base:Nat} (h:RowAt w base 141 5 A cs.length c (cs.flatMap Cd.cells)) (hf:cs.length<=1000) (hk:∀c∈cs,c.s<18446744073709551616):(fg0 A c cs).own w base where
 cards:=h
 ops:=RowAt.nil _ _ _ _
 each _ hx:=absurd hx A59
 same:=rfl
 ok _ hx:=absurd hx A59
 ids:=RowAt.nil _ _ _ _
 pasts:=RowAt.nil _ _ _ _
 eachP _ hx:=absurd hx A59
 lenP:=rfl
 sameP _ _ _ hx _:=by cases hx
 rows:=Rows.nil
 num:=⟨fun _ hn=>absurd hn A59,fun _ hn=>absurd hn A59,fun _ hn=>absurd hn A59,fun _ hn=>absurd hn A59,by show 0<=14;decide⟩
 cfew:=hf
 cok:=hk
theorem Ax7:∀c∈Bb 0 [1,2,2,3],c.s<18446744073709551616:=fun c hc=>by
 obtain ⟨xs,h1,_,_,h4⟩:=N5 [1,2,2,3] 0 (by decide);rw [<- h1] at hc;obtain ⟨x,hx,rfl⟩:=List.mem_map.1 hc;exact h4 x hx
def Jg (l0:List Int) (w:World) (e:Ending) (w':World):Prop:=
 ∃r:FG,e=.returned (.agg r.cells)/\Fr Non w w'/\r.own w' w.heap.size/\r.cards=Bb 0 [1,2,2,3]/\r.l=Lq l0
def Ax8:OpL:={OpL.zero with by_:=1,sq:=1,kind:=1}
theorem O5:OpL.zero.op.ok:=by
 have z:I64 0:=⟨by decide,by decide⟩;have u:U64 0:=by unfold U64;decide
 have e:∀{α:Type} {P:α->Prop},(([]:List α).length<=1000/\∀x∈([]:List α),P x):=⟨by simp,fun _ h=>absurd h A59⟩;exact {by_:=z,sq:=z,kind:=z,at_:=z,past:=e,dev:=z,old:=z,mem:=z,role:=z,path:=e,epoch:=⟨z,z,u⟩,n:=z,body:=by decide,refs:=e,of:=⟨z,z,u⟩,guards:=e,need:=z,wait:=z,boxes:=e,pub:=u,hist:=e,r:=u,s:=u}
theorem Hg {w:World} {base:Nat} {x y:OpL} (h:x.lies w base) (h1:y.pastA=x.pastA/\y.pastC=x.pastC/\y.past=x.past) (h2:y.pathA=x.pathA/\y.pathC=x.pathC/\y.path=x.path) (h3:y.bodyA=x.bodyA/\y.bodyC=x.bodyC/\y.body=x.body) (h4:y.refsA=x.refsA/\y.refsC=x.refsC/\y.refs=x.refs) (h5:y.guardsA=x.guardsA/\y.guardsC=x.guardsC/\y.guards=x.guards) (h6:y.boxesA=x.boxesA/\y.boxesC=x.boxesC/\y.boxes=x.boxes) (h7:y.histA=x.histA/\y.histC=x.histC/\y.hist=x.hist):y.lies w base:=by
 obtain ⟨a1,a2,a3⟩:=h1;obtain ⟨b1,b2,b3⟩:=h2;obtain ⟨c1,c2,c3⟩:=h3;obtain ⟨d1,d2,d3⟩:=h4;obtain ⟨e1,e2,e3⟩:=h5;obtain ⟨f1,f2,f3⟩:=h6;obtain ⟨g1,g2,g3⟩:=h7;exact ⟨by rw [a1,a2,a3];exact h.past,by rw [b1,b2,b3];exact h.path,by rw [b3];exact h.nodes,by rw [c1,c2,c3];exact h.body,by rw [d1,d2,d3];exact h.refs,by rw [e1,e2,e3];exact h.guards,by rw [f1,f2,f3];exact h.boxes,by rw [g1,g2,g3];exact h.hist,by rw [g3];exact h.seals⟩
structure Ey (w7 v:World) (base go:Nat) (x:OpL) (A:Option Addr) (n c:Nat) (on:List Nat):Prop where
 b:Blk v go 52 x.cells
 f:Fr Non w7 v
 l:x.lies v base
 os:Own v (go+1) 3 1 A n c (on.map Qv)
 len:on.length=n
 gd:x.guardsA=none/\x.guardsC=0/\x.guards=[]
 gs:w7.heap.size<=go
 sz:go<v.heap.size
theorem Ey.non {w7 v v':World} {base go:Nat} {x:OpL} {A:Option Addr} {n c:Nat} {on:List Nat} (s:Ey w7 v base go x A n c on) (hf:Fr Non v v'):Ey w7 v' base go x A n c on:=
 ⟨s.b.fr hf zq,s.f.trans hf zr,s.l.non hf,s.os.fr hf zr,s.len,s.gd,s.gs,A65 s.sz hf.size⟩
theorem Ey.app {w7 v v':World} {base go:Nat} {x:OpL} {A A':Option Addr} {n c n' c':Nat} {on on':List Nat} (s:Ey w7 v base go x A n c on) (hf:Fr (fun k=>Ad A=some k) v v') (ho:Own v' (go+1) 3 1 A' n' c' (on'.map Qv)) (hl:on'.length=n'):Ey w7 v' base go x A' n' c' on':=
 ⟨s.b.fr hf (fun e=>by have:=(s.os.row _ e).1;omega),s.f.trans hf (fun k hk e=>by have:=(s.os.row k e).1;have:=s.gs;omega),⟨s.l.past.keepT hf ((Types.row s.os).not (by decide)),s.l.path.keepT hf ((Types.row s.os).not (by decide)),fun y hy=>(s.l.nodes y hy).keepT hf ((Types.row s.os).not (by decide)),s.l.body.keepT hf ((Types.row s.os).not (by decide)),s.l.refs.keepT hf ((Types.row s.os).not (by decide)),by (obtain ⟨h1,h2,h3⟩:=s.gd;rw [h1,h2,h3];exact ⟨SlAt.nil _ _ _,.inl rfl⟩),s.l.boxes.keepT hf ((Types.row s.os).not (by decide)),s.l.hist.keepT hf ((Types.row s.os).not (by decide)),fun y hy=>(s.l.seals y hy).keepT hf ((Types.row s.os).not (by decide))⟩,ho,hl,s.gd,s.gs,A65 s.sz hf.size⟩
theorem Ey.setB {w7 v:World} {base go:Nat} {x:OpL} {A:Option Addr} {n c:Nat} {on:List Nat} (s:Ey w7 v base go x A n c on) (j:Nat) (u:Value) (y:OpL) (hc:x.cells.setIfInBounds j u=y.cells) (hg:y.guardsA=none/\y.guardsC=0/\y.guards=[]) (hy:∀v',x.lies v' base->(∀(t:TypeId) (size n c:Nat) (A:Option Addr) (xs:List Value),t≠52->RowLies v base t size A n c xs->RowLies v' base t size A n c xs)->y.lies v' base):Ey w7 (v.setCell ⟨go,j,none⟩ u) base go y A n c on where
 b:=hc▸s.b.set j u
 f:=s.f.setNew (g:=go) (by have:=s.gs;omega) j u
 l:=hy _ (s.l.keepP ((Fr.refl (One go) v).setOne j u) (Types.one s.b) (by decide) (by decide) (by decide) (by decide) (by decide) (by decide) (by decide)) (fun _ _ _ _ _ _ ht h=>h.keepT ((Fr.refl (One go) v).setOne j u) ((Types.one s.b).not ht))
 os:=Own.setFar s.os s.b (by decide) u
 len:=s.len
 gd:=hg
 gs:=s.gs
 sz:=by have:=s.sz;first|exact this|(simp [World.setCell];omega)
theorem Vi (B n c:Nat) (A:Option Addr) (l0:List Int) (w:World) (hn:Hid (l0.length=n)) (hr:Rd w B 1 A n (l0.map Iv)) (hnm:n<=9223372036854775807) (hok:∀x∈l0,I64 x):
  Calls zp 5 #[.slice A n c] w (Jg l0 w):=by
 have kc:=lh (fun (w':World) (hr:Rd w' w'.heap.size 1 (some ⟨w.heap.size+1,0,none⟩) 4 (([1,2,2,3]:List Int).map Iv))=>Ae0 4 4 (some ⟨w.heap.size+1,0,none⟩) [1,2,2,3] w' rfl (by decide) hr);have br:=(Blk.new w 28 #[.slice none 0 0,.slice none 0 0,.slice none 0 0,.slice none 0 0]).alloc (.cells #[.int .i64 1,.int .i64 2,.int .i64 2,.int .i64 3] 3);have bi:=Blk.new (w.alloc (.cells #[.slice none 0 0,.slice none 0 0,.slice none 0 0,.slice none 0 0] 28)) 3 #[.int .i64 1,.int .i64 2,.int .i64 2,.int .i64 3];rw [A66] at bi;have f0:Fr Non w ((w.alloc (.cells #[.slice none 0 0,.slice none 0 0,.slice none 0 0,.slice none 0 0] 28)).alloc (.cells #[.int .i64 1,.int .i64 2,.int .i64 2,.int .i64 3] 3)):=((Fr.refl Non w).alloc _).alloc _;go_enter func5,ntmps5;go_upto_region 1 with (fail)
 generalize hw0:(w.alloc (.cells #[.slice none 0 0,.slice none 0 0,.slice none 0 0,.slice none 0 0] 28)).alloc (.cells #[.int .i64 1,.int .i64 2,.int .i64 2,.int .i64 3] 3)=w0 at*;unfold Sm at kc
 have dd:Rd w0 w0.heap.size 1 (some ⟨w.heap.size+1,0,none⟩) 4 (([1,2,2,3]:List Int).map Iv):=by
  rw [<- hw0] at bi ⊢;exact Rd.blk (n:=4) (size:=1) bi rfl
 go_upto_region 2 with (go_at_call 31;(with_reducible refine (kc.out _ dd).mono ?_);rintro _ w1 ⟨A1,c1,rfl,o1,f1⟩;have df:=f0.trans f1 zr;have b6:=br.fr f1 zq;have bn:=Blk.new w1 28 #[.slice none 0 0,.slice none 0 0,.slice none 0 0,.slice none 0 0];have ar:=Cf (P:=zp) w1.heap.size 28 (cs:=#[.slice A1 4 c1,.slice none 0 0,.slice none 0 0,.slice none 0 0]) Dg (old:=#[.slice none 0 0,.slice none 0 0,.slice none 0 0,.slice none 0 0]) rfl (by simp [Value.oneCell']))
 have b8:=(b6.alloc (.cells #[.slice none 0 0,.slice none 0 0,.slice none 0 0,.slice none 0 0] 28)).setRow_far (g':=w1.heap.size) (by have:=b6.lt;omega) (cs:=#[.slice A1 4 c1,.slice none 0 0,.slice none 0 0,.slice none 0 0]);have b4:Blk ((w1.alloc (.cells #[.slice none 0 0,.slice none 0 0,.slice none 0 0,.slice none 0 0] 28)).setRow w1.heap.size #[.slice A1 4 c1,.slice none 0 0,.slice none 0 0,.slice none 0 0]) w1.heap.size 28 (fg0 A1 c1 (Bb 0 [1,2,2,3])).cells:=bn.setRow (cs:=#[.slice A1 4 c1,.slice none 0 0,.slice none 0 0,.slice none 0 0]);have fG:Fr Non w1 ((w1.alloc (.cells #[.slice none 0 0,.slice none 0 0,.slice none 0 0,.slice none 0 0] 28)).setRow w1.heap.size #[.slice A1 4 c1,.slice none 0 0,.slice none 0 0,.slice none 0 0]):=((Fr.refl Non w1).alloc _).setRow (fun hh=>absurd hh (by omega)) _;have ez:w.heap.size<w1.heap.size:=b6.lt;have d5:w.heap.size<=w0.heap.size:=f0.size;have f3:=df.trans fG zr;have av:(fg0 A1 c1 (Bb 0 [1,2,2,3])).own ((w1.alloc (.cells #[.slice none 0 0,.slice none 0 0,.slice none 0 0,.slice none 0 0] 28)).setRow w1.heap.size #[.slice A1 4 c1,.slice none 0 0,.slice none 0 0,.slice none 0 0]) w.heap.size:=Ax6 ((RowAt.of_own (o1.fr fG zr)).lower (by omega)) (by decide) Ax7;have a7:w1.heap.size<((w1.alloc (.cells #[.slice none 0 0,.slice none 0 0,.slice none 0 0,.slice none 0 0] 28)).setRow w1.heap.size #[.slice A1 4 c1,.slice none 0 0,.slice none 0 0,.slice none 0 0]).heap.size:=b4.lt;clear ar bn b6 br o1 fG df dd f1;obtain ⟨gv,dw⟩:=Ab w1.heap.size;rw [dw.out] at b4 av b8 f3 ez a7 ⊢;generalize (w1.alloc (.cells #[.slice none 0 0,.slice none 0 0,.slice none 0 0,.slice none 0 0] 28)).setRow gv #[.slice A1 4 c1,.slice none 0 0,.slice none 0 0,.slice none 0 0]=w3 at*;have ap:(fg0 A1 c1 (Bb 0 [1,2,2,3])).cards=Bb 0 [1,2,2,3]:=rfl;have cm:(fg0 A1 c1 (Bb 0 [1,2,2,3])).l=[]:=rfl;generalize fg0 A1 c1 (Bb 0 [1,2,2,3])=r0 at*;clear bi kc hw0 f0 d5 dw w1 w0;have c7:=OpL.zero_own w3 w.heap.size;have kp:=Vb w.heap.size w3.heap.size 0 0 none r0 Ax8 [] w3 av (Hg c7.lies ⟨rfl,rfl,rfl⟩ ⟨rfl,rfl,rfl⟩ ⟨rfl,rfl,rfl⟩ ⟨rfl,rfl,rfl⟩ ⟨rfl,rfl,rfl⟩ ⟨rfl,rfl,rfl⟩ ⟨rfl,rfl,rfl⟩) f3.size {O5 with by_:=(show I64 1 from ⟨by decide,by decide⟩),sq:=(show I64 1 from ⟨by decide,by decide⟩),kind:=(show I64 1 from ⟨by decide,by decide⟩)} ⟨rfl,rfl,rfl⟩ ⟨1,rfl,by omega⟩ ⟨by decide,by decide⟩ rfl (Rd.nil _ _ _ _) (by omega) (fun _ h=>absurd h A59) (by rw [cm];exact Ax4 ap);replace kp:Hid (Calls zp 32 #[.agg r0.cells,.agg #[.int .i64 1,.int .i64 1,.int .i64 1,.int .i64 0,.slice none 0 0,.int .i64 0,.int .i64 0,.int .i64 0,.int .i64 0,.slice none 0 0,.int .i64 0,.int .i64 0,.int .u64 0,.int .i64 0,.slice none 0 0,.slice none 0 0,.int .i64 0,.int .i64 0,.int .u64 0,.slice none 0 0,.int .i64 0,.int .i64 0,.slice none 0 0,.int .u64 0,.slice none 0 0,.int .u64 0,.int .u64 0],.slice none 0 0] w3 (Hf w.heap.size r0 (Fs 1) [] w3)):=kp;have hl:=Be (P:=zp) gv 28 underlying28 rfl (cs:=r0.cells) Dg;clear c7;go_upto_region 3 with (go_at_call 32;(with_reducible refine (kp.out).mono ?_);rintro _ w4 ⟨r1,rfl,f4,bt,az,bg⟩;(have ct:=b4.fr f4 zq);(have ar:=Cf (P:=zp) gv 28 (cs:=r1.cells) Dg (old:=r0.cells) rfl (Ic r1)))
 have be:=bt.setG ct r1.cells;have dn:Blk (w4.setRow gv r1.cells) gv 28 r1.cells:=ct.setRow;have du:=(b8.fr f4 zq).setRow_far (g':=gv) (by omega) (cs:=r1.cells);have f5:=(f3.trans f4 zr).setRow (g:=gv) (fun hh=>absurd hh (by omega)) r1.cells;rw [ap] at az;rw [cm] at bg;replace bg:r1.l=Gn l0 0:=bg;clear ar hl kp av b4 b8 f3 a7 ap cm f4 bt ct;generalize w4.setRow gv r1.cells=w5 at*;go_wp2_with fail
 go_loopw [4] (fun v wr=>∃(j I:Nat) (r:FG),Hid (I=2*j)/\v=.int .i64 (I:Int)/\j<=13/\j<=n/2/\Blk wr gv 28 r.cells/\r.own wr w.heap.size/\r.cards=Bb 0 [1,2,2,3]/\Hid (r.l=Gn l0 j)/\Blk wr w.heap.size 28 #[.slice none 0 0,.slice none 0 0,.slice none 0 0,.slice none 0 0]/\Fr Non w wr) (fun v _=>26-(intOf v).toNat)
 case atStart=>exact ⟨0,0,r1,rfl,rfl,by omega,by omega,dn,be,az,bg,du,f5⟩
 case round=>
 clear dn be az bg du f5;obtain ⟨j,I,r,hI,rfl,hj,e5,bn,ro,b0,a3,br,hf⟩:=hrel;have fd:I<=26:=by have:=hI.out;omega
 have e1:=iw ((I:Int)+1)
 by_cases hgo:I+1<n/\I<26
 ·
  have t1:decide ((I:Int)+1<(n:Int))=true:=decide_eq_true (by omega);have t2:decide ((I:Int)<26)=true:=decide_eq_true (by omega);have k1:=lh (fun (v:World) (hv:Fr Non w v)=>Ol B n c I A l0 v hn (hr.fr hv zr) hok hnm (by omega))
  have k2:Hid (∀(v:World),Fr Non w v->Calls zp 33 #[.slice A n c,.int .i64 ((I:Int)+1)] v fun e w'=>e=.returned (.int .i64 (Dh l0 (I+1):Int))/\Fr Non v w'):=fun v hv=>by
   have h:=Ol B n c (I+1) A l0 v hn (hr.fr hv zr) hok hnm (by omega);rwa [show (((I+1:Nat)):Int)=(I:Int)+1 from by omega] at h
  have aa:Hid (Gn l0 (j+1)=O3 r.l (Dh l0 I) (Dh l0 (I+1))):=by
   show O3 (Gn l0 j) (Dh l0 (2*j)) (Dh l0 (2*j+1))=_;rw [a3.out,hI.out]
  have cg:r.l≠[]:=by rw [a3.out];exact O4 l0 j
  have ci:r.l.length<=13:=by rw [a3.out];have:=Vh l0 j;have:=hI.out;omega
  obtain ⟨a,ha⟩:=Ab (Dh l0 I);obtain ⟨b,hb⟩:=Ab (Dh l0 (I+1));rw [ha.out] at k1 aa;rw [hb.out] at k2 aa;have fb:a<=1000000/\b<=1000000:=by rw [<- ha.out,<- hb.out];exact ⟨Ou _ _,Ou _ _⟩
  clear ha hb hok hr a3
  go_upto_region 8 with (first
   |(go_at_call 33;(with_reducible refine (k1.out _ hf).mono ?_);rintro _ w6 ⟨rfl,f6⟩;(have cn:=hf.trans f6 zr))
   |(go_at_call 33;(with_reducible refine (k2.out _ cn).mono ?_);rintro _ w7 ⟨rfl,f7⟩))
  have b2:=cn.trans f7 zr;have b7:=bn.fr (f6.trans f7 zr) zq;have dt:=br.fr (f6.trans f7 zr) zq;have ao:=ro.non (f6.trans f7 zr);clear bn br ro hf f6 f7 cn k1 k2;have bl:Hid (∀v,Fr Non w7 v->Blk v gv 28 r.cells):=fun v hv=>b7.fr hv zq;obtain ⟨D,hD⟩:=Ab (a%4);have er:D<4:=by rw [<- hD.out];exact A63 _ (by omega)
  have em:(a:Int).tmod 4=(D:Int):=by rw [A67 (by omega),<- hD.out];rfl
  have e4:=iw (1+(D:Int));have ev:=iw (D:Int);obtain ⟨X1,a1⟩:∃X:OpL,Hid (X={OpL.zero with by_:=(1:Int)+D,kind:=4}):=⟨_,rfl⟩;have bx:X1.cells=#[.int .i64 (1+(D:Int)),.int .i64 0,.int .i64 4,.int .i64 0,.slice none 0 0,.int .i64 0,.int .i64 0,.int .i64 0,.int .i64 0,.slice none 0 0,.int .i64 0,.int .i64 0,.int .u64 0,.int .i64 0,.slice none 0 0,.slice none 0 0,.int .i64 0,.int .i64 0,.int .u64 0,.slice none 0 0,.int .i64 0,.int .i64 0,.slice none 0 0,.int .u64 0,.slice none 0 0,.int .u64 0,.int .u64 0]:=by rw [a1.out];rfl
  have cl:(zp.info? 52).map (·.size)=some (#[.int .i64 (1+(D:Int)),.int .i64 0,.int .i64 4,.int .i64 0,.slice none 0 0,.int .i64 0,.int .i64 0,.int .i64 0,.int .i64 0,.slice none 0 0,.int .i64 0,.int .i64 0,.int .u64 0,.int .i64 0,.slice none 0 0,.slice none 0 0,.int .i64 0,.int .i64 0,.int .u64 0,.slice none 0 0,.int .i64 0,.int .i64 0,.slice none 0 0,.int .u64 0,.slice none 0 0,.int .u64 0,.int .u64 0]:Array Value).size:=by show _=some 27;kernel_rfl
  have ar:=Cf (P:=zp) (t:=52) w7.heap.size 52 (cs:=#[.int .i64 (1+(D:Int)),.int .i64 0,.int .i64 4,.int .i64 0,.slice none 0 0,.int .i64 0,.int .i64 0,.int .i64 0,.int .i64 0,.slice none 0 0,.int .i64 0,.int .i64 0,.int .u64 0,.int .i64 0,.slice none 0 0,.slice none 0 0,.int .i64 0,.int .i64 0,.int .u64 0,.slice none 0 0,.int .i64 0,.int .i64 0,.slice none 0 0,.int .u64 0,.slice none 0 0,.int .u64 0,.int .u64 0]) cl (old:=zO) rfl (by rw [<- bx];exact E8 X1);have bo:=Blk.new w7 52 zO;go_upto_region 9 with (fail)
  have b1:Blk ((w7.alloc (.cells zO 52)).setRow w7.heap.size #[.int .i64 (1+(D:Int)),.int .i64 0,.int .i64 4,.int .i64 0,.slice none 0 0,.int .i64 0,.int .i64 0,.int .i64 0,.int .i64 0,.slice none 0 0,.int .i64 0,.int .i64 0,.int .u64 0,.int .i64 0,.slice none 0 0,.slice none 0 0,.int .i64 0,.int .i64 0,.int .u64 0,.slice none 0 0,.int .i64 0,.int .i64 0,.slice none 0 0,.int .u64 0,.slice none 0 0,.int .u64 0,.int .u64 0]) w7.heap.size 52 X1.cells:=bx▸bo.setRow;have f8:Fr Non w7 ((w7.alloc (.cells zO 52)).setRow w7.heap.size #[.int .i64 (1+(D:Int)),.int .i64 0,.int .i64 4,.int .i64 0,.slice none 0 0,.int .i64 0,.int .i64 0,.int .i64 0,.int .i64 0,.slice none 0 0,.int .i64 0,.int .i64 0,.int .u64 0,.int .i64 0,.slice none 0 0,.slice none 0 0,.int .i64 0,.int .i64 0,.int .u64 0,.slice none 0 0,.int .i64 0,.int .i64 0,.slice none 0 0,.int .u64 0,.slice none 0 0,.int .u64 0,.int .u64 0]):=((Fr.refl Non w7).alloc _).setRow (fun hh=>absurd hh (by omega)) _;have c3:=b1.lt;clear ar bo;obtain ⟨go,bk⟩:=Ab w7.heap.size;rw [bk.out] at b1 f8 c3 ⊢;generalize (w7.alloc (.cells zO 52)).setRow go #[.int .i64 (1+(D:Int)),.int .i64 0,.int .i64 4,.int .i64 0,.slice none 0 0,.int .i64 0,.int .i64 0,.int .i64 0,.int .i64 0,.slice none 0 0,.int .i64 0,.int .i64 0,.int .u64 0,.int .i64 0,.slice none 0 0,.slice none 0 0,.int .i64 0,.int .i64 0,.int .u64 0,.slice none 0 0,.int .i64 0,.int .i64 0,.slice none 0 0,.int .u64 0,.slice none 0 0,.int .u64 0,.int .u64 0]=w8 at*;have dl:=b7.fr f8 zq;have g1:Hid (r.cells[1]? =some (.slice r.lA r.l.length r.lC)):=rfl;have d1:=(dl.cell 1).trans g1.out;have cx:0<r.l.length:=List.length_pos_iff.2 cg;obtain ⟨L,hL⟩:=Ab r.l.length;rw [hL.out] at d1 g1 cx;have et:((L:Int)==0)=false:=beq_eq_false_iff_ne.2 (by omega);obtain ⟨Q1,bh⟩:=Ab (a/4%L);have db:((a:Int).tdiv 4).tmod (L:Int)=(Q1:Int):=by rw [A74 (by omega),A67 (by omega),<- bh.out];rfl
  have b9:IntKind.i64.wrap (Q1:Int)=(Q1:Int):=IntWalk.i64_in _ (by have:Q1<=a:=(by rw [<- bh.out];exact A68 (Nat.mod_le _ _) (Nat.div_le_self _ _));omega);have dv:(a:Int).tdiv 4=((a/4:Nat):Int):=by rw [A74 (by omega)];rfl
  have cp:=iw ((a/4:Nat):Int);have e3:((a/4:Nat):Int).tmod (L:Int)=(Q1:Int):=by rw [<- dv];exact db
  have c9:(a:Int)/4%(L:Int)=(Q1:Int):=by rw [<- bh.out];rfl
  go_upto_region 10 with (fail)
  try rw [c9]
  have f9:Fr Non w8 (w8.alloc (.cells #[.int .i64 (Q1:Int)] 3)):=(Fr.refl Non w8).alloc _;have bq:=Blk.new w8 3 #[.int .i64 (Q1:Int)];have dz:X1.lies w7 w.heap.size:=by rw [a1.out];exact Hg (OpL.zero_own w7 w.heap.size).lies ⟨rfl,rfl,rfl⟩ ⟨rfl,rfl,rfl⟩ ⟨rfl,rfl,rfl⟩ ⟨rfl,rfl,rfl⟩ ⟨rfl,rfl,rfl⟩ ⟨rfl,rfl,rfl⟩ ⟨rfl,rfl,rfl⟩
  have s9:Ey w7 (w8.alloc (.cells #[.int .i64 (Q1:Int)] 3)) w.heap.size go X1 (some ⟨w8.heap.size,0,none⟩) 1 1 [Q1]:=⟨b1.fr f9 zq,f8.trans f9 zr,dz.non (f8.trans f9 zr),Own.blk bq (by omega) (by omega) rfl (by omega),rfl,by rw [a1.out];exact ⟨rfl,rfl,rfl⟩,by rw [<- bk.out];exact A64 _,A65 c3 f9.size⟩;clear f9 bq dz b1 f8 c3 dl d1 b7;obtain ⟨A9,ej⟩:=Ab (some (⟨w8.heap.size,0,none⟩:Addr));rw [ej.out] at s9 ⊢;generalize w8.alloc (.cells #[.int .i64 (Q1:Int)] 3)=w9 at*;have ep:=bl.out w9 s9.f;have kl:=lh (Au4 w.heap.size r (1+(D:Int)) w9 (ao.non s9.f));have hl:=Be (P:=zp) gv 28 underlying28 rfl (cs:=r.cells) Dg;have o0:w9.cell? ⟨go,0,none⟩=some (.int .i64 (1+(D:Int))):=by have h9:=s9.b.cell 0;rw [bx] at h9;exact h9
  rw [hL.out] at kl;go_upto_region 11 with (go_at_call 34;(with_reducible refine (kl.out).mono ?_);rintro _ cc ⟨rfl,dm⟩)
  have a0:=s9.non dm;clear s9 dm o0 ep kl;have da:=Od r.l (1+(D:Int)) L;obtain ⟨Z,hZ⟩:=Ab (Em r.l (1+(D:Int)) L);rw [hZ.out] at da ⊢;obtain ⟨C,hC⟩:∃C:Bool,C=(decide (0<=Z)&&decide (0<a/64%5)):=⟨_,rfl⟩
  have ah:Hid ((if 0<=Z/\0<a/64%5 then [Z.toNat] else [])=if C=true then [Z.toNat] else []):=by
   show _=_;rw [hC]
   by_cases h1:0<=Z/\0<a/64%5
   · rw [if_pos h1,if_pos (by simp [h1])]
   · rw [if_neg h1,if_neg (fun e=>h1 (by simpa using e))]
  go_cut [56] from 49 to 56 (fun t wc=>cc=wc/\t=.bool C)
  case first=>
   have dx:Hid ((a:Int)/64%5=((a/64%5:Nat):Int)):=by show _=_;rfl
   rcases zb (decide (0<=Z)) with z1|z1
   ·
    have ey:decide (Z>=0)=true:=z1
    rcases zb (decide (0<a/64%5)) with u1|u1
    ·
     have u2:decide ((a:Int)/64%5>0)=true:=by rw [dx.out];exact decide_eq_true (by have:=of_decide_eq_true u1;omega)
     have d7:decide (0<(a:Int)/64%5)=true:=u2;rw [z1,u1] at hC;go_wp2_with fail;go_meet;exact ⟨rfl,by rw [hC];rfl⟩
    ·
     have u2:decide ((a:Int)/64%5>0)=false:=by rw [dx.out];exact decide_eq_false (by have:=of_decide_eq_false u1;omega)
     have d7:decide (0<(a:Int)/64%5)=false:=u2;rw [z1,u1] at hC;go_wp2_with fail;go_meet;exact ⟨rfl,by rw [hC];rfl⟩
   ·
    have ey:decide (Z>=0)=false:=z1;rw [z1] at hC;go_wp2_with fail;go_meet;exact ⟨rfl,by rw [hC];rfl⟩
  case rest=>
  obtain ⟨rfl,rfl⟩:=hcut
  go_upto_if 56 with (fail)
  go_cut [8] from 57 to 60 (fun t wc=>∃A' n' c',t=.slice A' n' c'/\n'<=2/\Ey w7 wc w.heap.size go X1 A' n' c' ([Q1]++(if C=true then [Z.toNat] else [])))
  case first=>
   cases C
   case true=>
    have z1:0<=Z:=by
     have h9:=hC.symm;rw [Bool.and_eq_true] at h9;exact of_decide_eq_true h9.1
    clear hC ah;have bz:=Blk.new cc 3 #[.int .i64 Z];have d8:Hid (Value.int .i64 Z=Qv Z.toNat):=by show Value.int .i64 Z=Value.int .i64 ((Z.toNat:Nat):Int);rw [Int.toNat_of_nonneg z1]
    have so:=a0.os;have sg:=a0.gs;have ss:=a0.sz;go_wp2_with (at_builtin;go_loud (refine Av (base:=go+1) (.tmp 57) (.tmp 59) 22 rfl rfl rfl rfl Da (so.alloc (.cells #[.int .i64 Z] 3)) (Rd.blk (n:=1) (size:=1) bz rfl) (by simp [Value.oneCell']) (by omega) (by omega) (by rw [A66];omega) ?_);intro A8 c8 v8 al cq cv);go_meet;refine ⟨A8,2,c8,rfl,by omega,(a0.non ((Fr.refl Non cc).alloc (.cells #[.int .i64 Z] 3))).app cq ?_ rfl⟩;rw [d8.out] at al;exact al
   case false=>
    clear hC ah;go_wp2_with fail;go_meet;exact ⟨A9,1,1,rfl,by omega,a0⟩
  case rest=>
  obtain ⟨ek,c6,ea,rfl,eg,ai⟩:=hcut;clear a0 hC;generalize wc=w11 at*;have dj:Hid ((b:Int)%3=((b%3:Nat):Int)):=by show _=_;rfl
  obtain ⟨ce,au⟩:∃ce:List Nat,Hid (ce=[Q1]++(if C=true then [Z.toNat] else [])):=⟨_,rfl⟩;rw [<- au.out] at ai;have t3:Hid (((b:Int)%3==0)=decide (b%3=0)):=by show _=_;rw [dj.out,A71,beq_iff_eq,decide_eq_true_eq];omega
  obtain ⟨ad,ak⟩:∃ad:List Nat,Hid (ad=ce++(if b%3=0 then [b/3%L] else [])):=⟨_,rfl⟩
  go_upto_if 63 with (fail)
  rw [t3.out];obtain ⟨C3,b3⟩:=Ab (decide (b%3=0));rw [b3.out]
  go_cut [8] from 61 to 72 (fun t wc=>∃A' n' c',t=.slice A' n' c'/\n'<=3/\Ey w7 wc w.heap.size go X1 A' n' c' ad)
  case first=>
   cases C3
   case true=>
    have af:=lh (ak.out.trans (by rw [if_pos (of_decide_eq_true b3.out)]));have cz:=bl.out w11 ai.f;have d1:=(cz.cell 1).trans g1.out;obtain ⟨Q3,d0⟩:=Ab (b/3%L);have ei:(b:Int)/3%(L:Int)=(Q3:Int):=by rw [<- d0.out];rfl
    rw [d0.out] at af;have bz:=Blk.new w11 3 #[.int .i64 (Q3:Int)];have so:=ai.os;have sg:=ai.gs;have ss:=ai.sz;clear t3;go_wp2_with (at_builtin;(try rw [ei]);go_loud (refine Av (base:=go+1) (.tmp 64) (.tmp 71) 22 rfl rfl rfl rfl Da (so.alloc (.cells #[.int .i64 (Q3:Int)] 3)) (Rd.blk (n:=1) (size:=1) bz rfl) (by simp [Value.oneCell']) (by omega) (by omega) (by rw [A66];omega) ?_);intro A8 c8 v8 al cq cv);go_meet;refine ⟨A8,c6+1,c8,rfl,by omega,(ai.non ((Fr.refl Non w11).alloc (.cells #[.int .i64 (Q3:Int)] 3))).app cq ?_ ?_⟩
    ·
     rw [af.out,A72];exact al
    ·
     rw [af.out,A75,ai.len];rfl
   case false=>
    have af:=lh (ak.out.trans (by rw [if_neg (of_decide_eq_false b3.out),List.append_nil]));clear t3;go_wp2_with fail;go_meet;exact ⟨ek,c6,ea,rfl,by omega,by rw [af.out];exact ai⟩
  case rest=>
  obtain ⟨cr,cw,cu,rfl,eb,ax⟩:=hcut;clear ai b3 t3 dj;generalize wc=w12 at*;have bw:Hid (((b:Int)%2==0)=decide (b%2=0)):=by show _=_;rw [A71,beq_iff_eq,decide_eq_true_eq];omega
  go_upto_if 75 with (fail)
  rw [bw.out];obtain ⟨C2,a2⟩:=Ab (decide (b%2=0));rw [a2.out];obtain ⟨m0,bi,oi,cf,ds,i0,i1,i2⟩:=ao.idAt (i:=0) (by rw [hL.out];exact cx)
  go_cut [] from 73 to 88 (fun wc=>∃x2:OpL,Ey w7 wc w.heap.size go x2 cr cw cu ad/\Hid (x2.op=Dj (if b%2=0 then 7 else 4) (1+(D:Int)) 0 0 [] (nmP r.l 0) [UInt8.ofNat (65+b/2%3)]/\x2.pastA=none/\x2.pastC=0/\x2.past=[]/\x2.by_=1+(D:Int)/\x2.at_=0/\x2.op.ok))
  case first=>
   cases C2
   case true=>
    have hc:=of_decide_eq_true a2.out;clear bw a2;have z2:cI w12 go 2 X1.kind:=ax.b.cell 2;have y2:=ax.b.frozen 2;go_upto_region 17 with (fail)
    have ab:=ax.setB 2 (.int .i64 7) {X1 with kind:=7} rfl ax.gd (fun v' h _=>Hg h ⟨rfl,rfl,rfl⟩ ⟨rfl,rfl,rfl⟩ ⟨rfl,rfl,rfl⟩ ⟨rfl,rfl,rfl⟩ ⟨rfl,rfl,rfl⟩ ⟨rfl,rfl,rfl⟩ ⟨rfl,rfl,rfl⟩);clear z2 y2 ax;generalize w12.setCell ⟨go,2,none⟩ (.int .i64 7)=w13 at*;have g2:Hid (r.cells[2]? =some (.slice r.iA r.l.length r.iC)):=rfl;rw [ds,hL.out] at g2;have d2:=((bl.out w13 ab.f).cell 2).trans g2.out;rw [Nat.zero_mul,A73] at i0 i1 i2;obtain ⟨ef,ew,en⟩:=zk3 ab.f i0 i1 i2;have el:=ab.b.frozen 16;have ec:=ab.b.frozen 17;have eu:=ab.b.frozen 18;have eo:cI w13 go 16 X1.of.b:=ab.b.cell 16;have d6:cI w13 go 17 X1.of.s:=ab.b.cell 17;have es:cU w13 go 18 X1.of.u:=ab.b.cell 18;go_upto_region 18 with (fail)
    have cd:=ab.setB 16 (.int .i64 m0.id.b) {X1 with kind:=7,of:=⟨m0.id.b,X1.of.s,X1.of.u⟩} rfl ab.gd (fun v' h _=>Hg h ⟨rfl,rfl,rfl⟩ ⟨rfl,rfl,rfl⟩ ⟨rfl,rfl,rfl⟩ ⟨rfl,rfl,rfl⟩ ⟨rfl,rfl,rfl⟩ ⟨rfl,rfl,rfl⟩ ⟨rfl,rfl,rfl⟩);have ck:=cd.setB 17 (.int .i64 m0.id.s) {X1 with kind:=7,of:=⟨m0.id.b,m0.id.s,X1.of.u⟩} rfl cd.gd (fun v' h _=>Hg h ⟨rfl,rfl,rfl⟩ ⟨rfl,rfl,rfl⟩ ⟨rfl,rfl,rfl⟩ ⟨rfl,rfl,rfl⟩ ⟨rfl,rfl,rfl⟩ ⟨rfl,rfl,rfl⟩ ⟨rfl,rfl,rfl⟩);have c2:=ck.setB 18 (.int .u64 (m0.id.u:Int)) {X1 with kind:=7,of:=m0.id} rfl ck.gd (fun v' h _=>Hg h ⟨rfl,rfl,rfl⟩ ⟨rfl,rfl,rfl⟩ ⟨rfl,rfl,rfl⟩ ⟨rfl,rfl,rfl⟩ ⟨rfl,rfl,rfl⟩ ⟨rfl,rfl,rfl⟩ ⟨rfl,rfl,rfl⟩);clear ab cd ck eo d6 es el ec eu ef ew en d2;generalize ((w13.setCell ⟨go,16,none⟩ (.int .i64 m0.id.b)).setCell ⟨go,17,none⟩ (.int .i64 m0.id.s)).setCell ⟨go,18,none⟩ (.int .u64 (m0.id.u:Int))=w16 at*;have bv:=c2.non ((Fr.refl Non w16).alloc (.cells #[.int .u8 (65+(b:Int)/2%3)] 5));have e7:cS (w16.alloc (.cells #[.int .u8 (65+(b:Int)/2%3)] 5)) go 14 X1.bodyA X1.body.length X1.bodyC:=bv.b.cell 14;have e6:=bv.b.frozen 14;have bb:=Blk.new w16 5 #[.int .u8 (65+(b:Int)/2%3)];have cy:=c2.sz;have dk:=b2.size;have fa:=iw (65+(b:Int)/2%3);have fc:IntKind.u8.wrap (65+(b:Int)/2%3)=65+(b:Int)/2%3:=by rw [IntKind.wrap_u8];omega
    go_wp2_with fail;go_meet;have hU:(UInt8.ofNat (65+b/2%3)).toNat=65+b/2%3:=by rw [UInt8.toNat_ofNat'];omega
    have hV:#[Value.int .u8 (65+(b:Int)/2%3)].toList=[UInt8.ofNat (65+b/2%3)].map Bv:=by
     show [Value.int .u8 (65+(b:Int)/2%3)]=[Value.int .u8 ((UInt8.ofNat (65+b/2%3)).toNat:Int)];rw [hU];rfl
    have ob:RowLies (w16.alloc (.cells #[.int .u8 (65+(b:Int)/2%3)] 5)) w.heap.size 5 1 (some ⟨w16.heap.size,0,none⟩) [UInt8.ofNat (65+b/2%3)].length 1 ([UInt8.ofNat (65+b/2%3)].map Bv):=by
     rw [<- hV];exact (RowAt.of_own (Own.blk (base:=w.heap.size) (n:=1) (size:=1) bb (by have:=c2.gs;omega) (by omega) rfl (by omega))).lies
    refine ⟨{X1 with kind:=7,of:=m0.id,bodyA:=some ⟨w16.heap.size,0,none⟩,bodyC:=1,body:=[UInt8.ofNat (65+b/2%3)]},by rw [<- World.setCell_alloc_past _ _ _ _ cy];exact bv.setB 14 (.slice (some ⟨w16.heap.size,0,none⟩) 1 1) {X1 with kind:=7,of:=m0.id,bodyA:=some ⟨w16.heap.size,0,none⟩,bodyC:=1,body:=[UInt8.ofNat (65+b/2%3)]} rfl bv.gd (fun v' h keep=>⟨h.past,h.path,h.nodes,keep _ _ _ _ _ _ (by decide) ob,h.refs,h.guards,h.boxes,h.hist,h.seals⟩),?_⟩;show _/\_;rw [a1.out,if_pos hc,Gh cf];have c0:=(ao.ok m0 (A60 cf)).2;exact ⟨rfl,rfl,rfl,rfl,rfl,rfl,{O5 with by_:=(show I64 (1+(D:Int)) from ⟨by omega,by omega⟩),kind:=(show I64 7 from ⟨by decide,by decide⟩),of:=c0,body:=(show 1<=1000000 by decide)}⟩
   case false=>
    have hc:=of_decide_eq_false a2.out;clear bw a2;go_wp2_with fail;go_meet;refine ⟨X1,ax,?_⟩;show _/\_;rw [a1.out,if_neg hc];exact ⟨rfl,rfl,rfl,rfl,rfl,rfl,{O5 with by_:=(show I64 (1+(D:Int)) from ⟨by omega,by omega⟩),kind:=(show I64 4 from ⟨by decide,by decide⟩)}⟩
  case rest=>
  obtain ⟨x2,bu,dc⟩:=hcut;clear ax a2 bw a1 bx;generalize wc=w18 at*;obtain ⟨ag,bs,bp,bj,bm,co,a8⟩:=dc.out;replace ag:=lh ag;have z3:cI w18 go 3 x2.at_:=bu.b.cell 3;have y3:=bu.b.frozen 3;go_upto_region 20 with (fail)
  obtain ⟨TT,b5⟩:=Ab (b/6%4);have dq:(b:Int)/6%4=(TT:Int):=by rw [<- b5.out];rfl
  have d9:TT<4:=by rw [<- b5.out];exact A63 _ (by omega)
  rw [dq];have ac:=bu.setB 3 (.int .i64 (TT:Int)) {x2 with at_:=(TT:Int)} rfl bu.gd (fun v' h _=>Hg h ⟨rfl,rfl,rfl⟩ ⟨rfl,rfl,rfl⟩ ⟨rfl,rfl,rfl⟩ ⟨rfl,rfl,rfl⟩ ⟨rfl,rfl,rfl⟩ ⟨rfl,rfl,rfl⟩ ⟨rfl,rfl,rfl⟩);generalize w18.setCell ⟨go,3,none⟩ (.int .i64 (TT:Int))=w19 at*
  have aw:Hid (({x2 with at_:=(TT:Int)}:OpL).op=Gm r.l a b):=by
   show _=_;show ({x2.op with at_:=(TT:Int)}:Op)=_;unfold Gm;rw [ag.out,hD.out,b5.out];unfold Dj
   split<;>rfl
  have bf:({x2 with at_:=(TT:Int)}:OpL).op.ok:={a8 with at_:=(show I64 (TT:Int) from ⟨by omega,by omega⟩)};have dh:Hid (({x2 with at_:=(TT:Int)}:OpL).pastA=none/\({x2 with at_:=(TT:Int)}:OpL).pastC=0/\({x2 with at_:=(TT:Int)}:OpL).past=[]):=⟨bs,bp,bj⟩;have a5:∃d:Nat,({x2 with at_:=(TT:Int)}:OpL).by_=(d:Int)/\d<=1000:=⟨1+D,by show x2.by_=_;rw [bm];omega,by omega⟩;have a9:0<=({x2 with at_:=(TT:Int)}:OpL).at_/\({x2 with at_:=(TT:Int)}:OpL).at_<=3:=⟨by show (0:Int)<=TT;omega,by show (TT:Int)<=3;omega⟩;generalize ({x2 with at_:=(TT:Int)}:OpL)=x3 at*;clear dc ag bs bp bj bm co a8 z3 y3 bu dq d9
  have ae:Hid (ad=Fc r.l a b):=by
   show _=_;unfold Fc;rw [hL.out,hD.out,bh.out,hZ.out,ah.out,<- au.out,<- ak.out]
  have aq:=fk_in ao.rows ao.num b0 cg ci a b;rw [<- aw.out,<- ae.out] at aq;have ay:∀p∈ad,p<r.l.length:=by rw [ae.out];exact Vd cg a b
  have a6:Hid (Gn l0 (j+1)=En r.l x3.op (Dm r.l ad)):=by
   show _=_;rw [aa.out,aw.out,ae.out];rfl
  have d4:(Dm r.l ad).length<=3:=A68 (Lh _ _ _) (by rw [ae.out];exact Ve _ _ _);have a4:∀p∈Dm r.l ad,p<r.l.length:=fun p hp=>ay p (I9 _ hp).1;generalize hHS:Dm r.l ad=HS at*
  have kh:Hid (∀v,Fr Non w19 v->Calls zp 35 #[.agg r.cells,.slice cr cw cu] v (Lm HS v)):=fun v hv=>by
   rw [<- hHS];exact Au7 w.heap.size v.heap.size cw cu r cr ad v (ao.non (ac.f.trans hv zr)) ac.len (ac.non hv).os.rd (by omega) ay
  have dk:=b2.size
  have kp:Hid (∀(v:World) (A':Option Addr) (c':Nat),Fr Non w19 v->Own v w.heap.size 3 1 A' HS.length c' (HS.map Qv)->Calls zp 32 #[.agg r.cells,.agg x3.cells,.slice A' HS.length c'] v (Hf w.heap.size r x3.op HS v)):=fun v A' c' hv ho=>
   Vb w.heap.size v.heap.size HS.length c' A' r x3 HS v (ao.non (ac.f.trans hv zr)) (ac.non hv).l (A68 dk ((ac.f.trans hv zr).size)) bf dh.out a5 a9 rfl ho.rd d4 a4 aq
  have d3:Blk w19 gv 28 r.cells:=bl.out w19 ac.f;have dp:=dt.fr ac.f zq;have cb:=b2.trans ac.f zr;have dy:=ac.b;have cj:=cb.size;clear aq a4 d4 ay hHS ae aw bf dh a5 a9 aa ah au ak ac bl cx cp dv e3 db b9 c9 et e4 ev em b2 dt ao ds cf i0 i1 i2 da er b5 hD bh hZ hL g1;have V0:Blk w19.drew gv 28 r.cells:=d3;have X0:Blk w19.drew go 52 x3.cells:=dy;have F0:Fr Non w19 w19.drew:=(Fr.refl Non w19).drew;have bc:(zp.info? 52).map (·.size)=some x3.cells.size:=by rw [show x3.cells.size=27 from rfl];kernel_rfl
  have eh:=Be (P:=zp) go 52 underlying52 rfl (cs:=x3.cells) bc;generalize x3.cells=XC at*;refine Cv (S:=fun w'=>Blk w' gv 28 r.cells/\Blk w' go 52 XC) 6 (by kernel_rfl) ?_;refine tkM 0 4 ⟨V0,X0⟩ (h:=?_);refine Bo 4 (by kernel_rfl) rfl (fun K hK=> ?_);go_simp;go_wp2_with (go_at_call 35;(with_reducible refine (kh.out _ F0).mono ?_);rintro _ v1 ⟨e8,e9,rfl,c4,ca⟩;have V1:=V0.fr ca zq;have X1:=X0.fr ca zq;have F1:=F0.trans ca zr;have c5:=He c4 (A68 cj (Fr.size F0)));refine hK.out _ _ ⟨V1,X1⟩ (fun hZ=> ?_);clear hZ hK K;try simp only [Ah,zl]
  refine Bo 5 (by kernel_rfl) rfl (fun K hK=> ?_);go_simp;go_wp2_with (go_at_call 32;(with_reducible refine (kp.out _ _ _ F1 c5).mono ?_);rintro _ v2 ⟨r2,rfl,ch,bd,ba,dr⟩;have V2:=V1.fr ch zq;have X2:=X1.fr ch zq;have F2:=F1.trans ch zr;have ar:=Cf (P:=zp) gv 28 (cs:=r2.cells) Dg (old:=r.cells) rfl (Ic r2));refine hK.out _ _ ⟨V2,X2⟩ (fun hZ=> ?_);clear hZ hK K;try simp only [Ah,zl]
  have ed:=(dp.fr F2 zq).setRow_far (g':=gv) (by omega) (cs:=r2.cells);have e0:Blk (v2.setRow gv r2.cells) gv 28 r2.cells:=V2.setRow;have aj:=bd.setG V2 r2.cells;have fz:=(cb.trans F2 zr).setRow (g:=gv) (fun hh=>absurd hh (by omega)) r2.cells;refine Cp (by kernel_rfl) ?_;refine stT 6 (h:=?_);refine oD ?_;go_simp;rw [<- a6.out] at dr;rw [b0] at ba;clear V0 V1 V2 X0 X1 X2 F0 F1 F2 bd ar dp d3 cb dy kh kp c4 c5 eh bc a6;generalize v2.setRow gv r2.cells=wz at*;have e2:=iw ((I:Int)+2);go_wp2_with fail;go_roundw
  case rel=>exact ⟨j+1,I+2,r2,by show I+2=2*(j+1);have:=hI.out;omega,by go_num,by have:=hI.out;omega,by have:=hI.out;omega,e0,aj,ba,dr,ed,fz⟩
  case measure=>simp [intOf];omega
 ·
  have de:Hid (j=min 13 (l0.length/2)):=by
   show _=_;rw [hn.out];have:=hI.out;omega
  have hl:=Be (P:=zp) gv 28 underlying28 rfl (cs:=r.cells) Dg;have ee:=Cf (P:=zp) w.heap.size 28 (cs:=r.cells) Dg (old:=#[.slice none 0 0,.slice none 0 0,.slice none 0 0,.slice none 0 0]) rfl (Ic r);have di:=br.setRow (cs:=r.cells);have fz:=hf.setRow (g:=w.heap.size) (fun hh=>absurd hh (by omega)) r.cells;have aj:=ro.setG br r.cells;have dg:r.l=Lq l0:=by rw [a3.out,de.out];rfl
  have hd:Hid (Jg l0 w (.returned (.agg r.cells)) (wr.setRow w.heap.size r.cells)):=⟨r,rfl,fz,aj,b0,dg⟩;clear dg b0 ro a3 de hok hr fz aj hf;generalize Jg l0 w=POST at*
  rcases zb (decide ((I:Int)+1<(n:Int))) with t1|t1
  ·
   have t2:decide ((I:Int)<26)=false:=decide_eq_false (by have:=of_decide_eq_true t1;omega);go_wp2_with fail
   (try simp only [Exit.inBlock,Exit.then])
   refine Ed (t:=28) rfl rfl di rfl underlying28 Dg rfl ?_;exact hd.out
  ·
   go_wp2_with fail
   (try simp only [Exit.inBlock,Exit.then])
   refine Ed (t:=28) rfl rfl di rfl underlying28 Dg rfl ?_;exact hd.out
end Oq
namespace Oq
attribute [local go_sem] A61 A62
attribute [local go_sem ↓] Gi Bq
theorem Jh {cards:List Cd} {l:List Pn} (h:Rows cards l) {p:Nat} {n:Pn} (hp:l[p]? =some n):n.o.put.length<=500000:=Rm (Rl (h.ok p n hp).chk) (by decide)
theorem Ax9 {cards:List Cd} {l:List Pn} (h:Rows cards l) {p:Nat} {n:Pn} (hp:l[p]? =some n) (s:Nat):({n.o with s:=s}:Op).put.length<=500000:=Rm (k:=20) (o:={n.o with s:=s}) (by have:=Rl (h.ok p n hp).chk;exact ⟨this.past,this.path,this.refs,this.guards,this.boxes,this.hist,this.nodes,this.body,this.seals⟩) (by decide)
def PlaceAt (w:World) (base:Nat) (x:FG) (p:Nat) (n:Pn) (y:OpL) (b off:Nat):Prop:=x.l[p]? =some n/\y.op=n.o/\y.op.ok/\y.lies w base/\x.lA=some ⟨b,off,none⟩/\RgAt w b (off+p*27) y.cells.toList
theorem FG.own.place {w:World} {base:Nat} {x:FG} (h:x.own w base) {p:Nat} (hp:p<x.l.length):∃n y b off,PlaceAt w base x p n y b off:=by
 have hn:x.l[p]? =some x.l[p]:=A69 hp;obtain ⟨y,b,off,_,h2,h3,h4,_,h6⟩:=h.xAt hn;exact ⟨_,y,b,off,hn,h2,by rw [h2];exact (h.ok _ (A60 hn)).1,h3,h4,fun k v hv=>h6 k (List.getElem?_eq_some_iff.1 hv).1 v hv⟩
theorem PlaceAt.non {w w':World} {base p:Nat} {x:FG} {n:Pn} {y:OpL} {b off:Nat} (h:PlaceAt w base x p n y b off) (hf:Fr Non w w'):PlaceAt w' base x p n y b off:=
 ⟨h.1,h.2.1,h.2.2.1,h.2.2.2.1.non hf,h.2.2.2.2.1,h.2.2.2.2.2.fr hf zq⟩
def Lr (cards:List Cd) (l:List Pn) (ps:List Nat) (w:World) (e:Ending) (w':World):Prop:=
 ∃(r:Ag) (b:Nat),e=.returned (.pointer (some ⟨r.rb,0,none⟩))/\w.heap.size<=b/\Hid (r.okAt w' b)/\Hid (r.st=Gg cards l ps ([],[]))/\Hid (r.g.cards=cards)/\Fr Non w w'
theorem Ay0 (base B np cp:Nat) (x:FG) (Ap:Option Addr) (ps:List Nat) (w:World) (h:x.own w base) (hcs:x.cards=Bb 0 [1,2,2,3]) (hpn:Hid (ps.length=np)) (hrp:Rd w B 1 Ap np (ps.map Qv)) (hlt:∀p∈ps,p<x.l.length) (hnp:np<=1000000) (hk:KindsAt w) (hpos:0<w.heap.size):
  Calls zp 22 #[.agg x.cells,.slice Ap np cp] w (Lr x.cards x.l ps w):=by
 have aw:(zp.info? 52).map (·.size)=some 27:=by kernel_rfl
 have bg:=Blk.new w 28 x.cells;have f0:Fr Non w (w.alloc (.cells x.cells 28)):=(Fr.refl Non w).alloc _;have ac:0<(w.alloc (.cells x.cells 28)).heap.size:=by rw [A66];omega
 have h0:=h.non f0;have a1:=hk.fr f0;have ai:=hrp.fr f0 zr;obtain ⟨gx,a3⟩:=Ab w.heap.size;have ak:Hid (∀(r:Ag) (b:Nat) (w':World),w.heap.size<=b->Hid (r.okAt w' b)->Hid (r.st=Gg x.cards x.l ps ([],[]))->Hid (r.g.cards=x.cards)->Fr Non w w'->Lr x.cards x.l ps w (.returned (.pointer (some ⟨r.rb,0,none⟩))) w'):=fun r b w' h1 h2 h3 h4 h5=>⟨r,b,rfl,h1,h2,h3,h4,h5⟩;generalize Lr x.cards x.l ps w=POST at*;have g0:Hid (x.cells[0]? =some (.slice x.cA x.cards.length x.cC)):=rfl;have g1:Hid (x.cells[1]? =some (.slice x.lA x.l.length x.lC)):=rfl;obtain ⟨L,hL⟩:=Ab x.l.length;rw [hL.out] at g1 hlt;have au:x.cards.length=4:=by rw [hcs,It];rfl
 rw [au] at g0;obtain ⟨XG,a9⟩:=Ab x.cells;rw [a9.out] at bg f0 ac h0 a1 ai g0 g1 ⊢;rw [a3.out] at bg;clear h hk hrp;go_enter func22,ntmps22;go_upto_region 1 with (fail)
 try rw [a3.out]
 generalize w.alloc (.cells XG 28)=w0 at*
 have kn:Hid (Calls zp 6 #[.slice x.cA 4 x.cC] w0 (Gl x.cards w0)):=by
  have a2:=h0.cards.sl.rd;rw [au,hcs] at a2;rw [hcs];exact Oz w0.heap.size 4 x.cC x.cA [1,2,2,3] w0 rfl (by decide) a2 ac
 unfold Gl at kn;have c0:cS w0 gx 0 x.cA 4 x.cC:=(bg.cell 0).trans g0.out;have be:w.heap.size<=w0.heap.size:=f0.size;go_upto_region 2 with (go_at_call 6;(with_reducible refine (kn.out).mono ?_);rintro _ w1 ⟨r,rfl,af,ab,aa,f1⟩)
 obtain ⟨rb,a0⟩:=Ab r.rb;rw [a0.out];clear kn c0 g0 au ac hpos;go_wp2_with fail
 go_loopw [6] (fun v wr=>∃(i:Nat) (r1:Ag),v=.int .i64 (i:Int)/\i<=np/\Hid (r1.okAt wr w0.heap.size)/\Hid (r1.rb=rb)/\Hid (r1.g.cards=x.cards)/\Hid (r1.st=Gg x.cards x.l (ps.take i) ([],[]))/\Fr Non w0 wr) (fun v _=>np-(intOf v).toNat)
 case atStart=>exact ⟨0,r,rfl,Nat.zero_le _,af,a0,aa,ab,f1⟩
 case round=>
 clear af ab aa f1;obtain ⟨i,r1,rfl,hi,af,ad,aa,ab,hf⟩:=hrel
 by_cases hin:i<np
 case neg=>
  obtain rfl:i=np:=by omega
  have hd:=lh (ak.out r1 w0.heap.size wr be af (by show _=_;rw [ab.out,A76 (by rw [hpn.out];exact A64 _)]) aa (f0.trans hf zr));rw [ad.out] at hd;clear ak af ab aa;go_wp2_with fail;exact hd.out
 case pos=>
 have t0:decide ((i:Int)<(np:Int))=true:=decide_eq_true (by omega);have bh:decide (i<np)=true:=decide_eq_true hin;obtain ⟨p,hp⟩:∃p,ps[i]? =some p:=⟨_,A69 (by rw [hpn.out];exact hin)⟩;have a6:=hlt p (A60 hp);obtain ⟨n,y,b,ae,bc⟩:=h0.place (p:=p) (by rw [hL.out];exact a6);obtain ⟨hn,ax,ar,a8,a4,ah⟩:=bc;obtain ⟨bp,op,u,rfl,_,hu,ao⟩:=ai.at hin;rw [A77,hp] at hu;injection hu with hu
 subst hu;replace ao:cI w0 bp (op+i) (p:Int):=ao;obtain ⟨i1,i2,i3⟩:=ix i np
 obtain ⟨p1,p2,p3⟩:=ix p L
 have a7:=Ge (P:=zp) y.cells b (ae+p*27) underlying52 rfl aw;have bf:∀w',RgAt w' b (ae+p*27) y.cells.toList->(ldS 52 (.pointer (some ⟨b,ae+p*27,none⟩))).run zp w'=.ok (.agg y.cells) w':=fun w' h=>a7 w' h;have kp:=lh (fun (w':World) (hf':Fr Non w0 w')=>Hy y w' (a8.non hf').at ar);unfold NewB at kp;have ay:Hid (∃m,y.op.put.length=m/\m<=500000):=⟨_,rfl,by rw [ax];exact Jh h0.rows hn⟩;obtain ⟨m,hm,bi⟩:=ay.out;have kt:=lh (fun (A:Option Addr) (c:Nat) (w':World) (hf':Fr Non wr w') (hrd:Rd w' w'.heap.size 1 A m (y.op.put.map Bv))=>Lp w0.heap.size w'.heap.size m c A r1 y.op w' (af.out.non hf') (a1.fr (hf.trans hf' zr)) hm hrd (by omega) ar);unfold TakeRPost at kt;rw [ad.out] at kt;rw [hm] at kp
 have ag:Hid (∀r2:Ag,r2.st=(Bp r1.g.cards r1.st y.op).2->r2.st=Gg x.cards x.l (ps.take (i+1)) ([],[])):=by
  intro r2 h2;rw [h2,aa.out,ab.out,Df hp,Uh,hn,ax]
 have a5:w0.cell? ⟨gx,1,none⟩=some (.slice (some ⟨b,ae,none⟩) L x.lC):=by rw [<- a4];exact (bg.cell 1).trans g1.out
 obtain ⟨YC,az⟩:=Ab y.cells;rw [az.out] at ah bf kp;clear ay hm ar a8 a7 ab hp a6 hn ax a4 az;go_upto_region 7 with (fail)
 obtain ⟨C0,D0⟩:=zk2 hf a5 ao;have R0:RgAt wr b (ae+p*27) YC.toList:=ah.fr hf zq;have F0:Fr Non wr wr.drew:=(Fr.refl Non wr).drew;have G0:Fr Non w0 wr.drew:=hf.drew;refine wp_region_held_drew (S:=fun w'=>cS w' gx 1 (some ⟨b,ae,none⟩) L x.lC/\cI w' bp (op+i) (p:Int)/\RgAt w' b (ae+p*27) YC.toList) (by kernel_rfl) ⟨C0,D0,R0⟩ (fun uu=> ?_);refine tkN 0 9 uu (h:=?_);clear uu;refine oG 9 (fun K hK=> ?_);go_simp;go_wp2_with (go_at_call 20;(with_reducible refine (kp.out _ G0).mono ?_);rintro _ v1 ⟨A5,c5,rfl,ba,bb⟩;have F1:=F0.trans bb zr;obtain ⟨C1,D1⟩:=zk2 F1 C0 D0;have R1:=RgAt.fr (S:=Non) R0 F1 zq;have G1:=hf.trans F1 zr);refine hK.out _ _ ⟨C1,D1,R1⟩ (fun hZ=> ?_);clear hZ hK K;try simp only [Ah,zl]
 refine oG 10 (fun K hK=> ?_);go_simp;go_wp2_with (go_at_call 9;(with_reducible refine (kt.out _ _ _ F1 ba.rd).mono ?_);rintro _ v2 ⟨rfl,r2,aj,al⟩);have G2:Fr Non w0 v2:=(af.out.non F1).below aj.out.fr G1 (A64 _);obtain ⟨C2,D2⟩:=zk2 G2 a5 ao;have R2:RgAt v2 b (ae+p*27) YC.toList:=ah.fr G2 zq;refine hK.out _ _ ⟨C2,D2,R2⟩ (fun hZ=> ?_);clear hZ hK K;try simp only [Ah,zl]
 refine oD ?_;go_simp;have ap:=lh (ag.out r2 al.out);have bd:Hid (r2.okAt v2 w0.heap.size):=aj.out.ok;have av:Hid (r2.rb=rb):=aj.out.rb.trans ad.out;have aq:Hid (r2.g.cards=x.cards):=aj.out.cards.trans aa.out;clear ag kt kp aj al af ad aa;go_wp2_with fail;go_roundw
 case rel=>exact ⟨i+1,r2,by go_num,by omega,bd,av,aq,ap,G2⟩
 case measure=>simp [intOf];omega
end Oq
namespace Oq
attribute [local go_sem] A61 A62
attribute [local go_sem ↓] Gi Lk Bq
def lvO (i:Nat):Op:=match (Lq ([0,1]:List Int))[i]? with|some n=>n.o|none=>Op.zero
theorem Ay1:(Lq ([0,1]:List Int)).length=2:=by decide+kernel
theorem Ay2:(Bp (Bb 0 [1,2,2,3]) ([],[]) (lvO 1)).1=0/\(Bp (Bb 0 [1,2,2,3]) ([],[]) (lvO 1)).2.2.length=1:=by decide+kernel
theorem Ay3:(Bp (Bb 0 [1,2,2,3]) (Bp (Bb 0 [1,2,2,3]) ([],[]) (lvO 1)).2 (lvO 0)).1=0/\(Bp (Bb 0 [1,2,2,3]) (Bp (Bb 0 [1,2,2,3]) ([],[]) (lvO 1)).2 (lvO 0)).2.2.length=0/\(Bp (Bb 0 [1,2,2,3]) (Bp (Bb 0 [1,2,2,3]) ([],[]) (lvO 1)).2 (lvO 0)).2.1.length=2:=by decide+kernel
theorem Ay4 (w:World) (hk:KindsAt w):Calls zp 21 #[] w (Ae true w):=by
 have aw:(zp.info? 52).map (·.size)=some 27:=by kernel_rfl
 have av:0<w.heap.size:=World.block_lt_of_cell? w _ (hk 0 (by decide));have bi:=Blk.new w 3 #[.int .i64 0,.int .i64 1];have f0:Fr Non w (w.alloc (.cells #[.int .i64 0,.int .i64 1] 3)):=(Fr.refl Non w).alloc _;have km:=lh (Vi (w.alloc (.cells #[.int .i64 0,.int .i64 1] 3)).heap.size 2 2 (some ⟨w.heap.size,0,none⟩) ([0,1]:List Int) (w.alloc (.cells #[.int .i64 0,.int .i64 1] 3)) rfl (Rd.blk (n:=2) (size:=1) bi rfl) (by decide) (by intro x hx;simp only [List.mem_cons,A59,or_false] at hx;rcases hx with rfl|rfl<;>exact ⟨by decide,by decide⟩))
 unfold Jg at km;have ar:Hid (∀wz,Fr Non w wz->Ae true w (.returned (.bool true)) wz):=fun wz h=>⟨rfl,h⟩;generalize Ae true w=POST at*;clear bi;replace hk:=lh hk;go_enter func21,ntmps21;go_upto_region 2 with (go_at_call 5;(with_reducible refine (km.out).mono ?_);rintro _ w1 ⟨r,rfl,f1,ro,al,a2⟩;(have bn:=Blk.new w1 28 #[.slice none 0 0,.slice none 0 0,.slice none 0 0,.slice none 0 0]);(have a0:=Cf (P:=zp) w1.heap.size 28 (cs:=r.cells) Dg (old:=#[.slice none 0 0,.slice none 0 0,.slice none 0 0,.slice none 0 0]) rfl (Ic r)))
 have bg:Blk ((w1.alloc (.cells #[.slice none 0 0,.slice none 0 0,.slice none 0 0,.slice none 0 0] 28)).setRow w1.heap.size r.cells) w1.heap.size 28 r.cells:=bn.setRow;have fG:Fr Non w1 ((w1.alloc (.cells #[.slice none 0 0,.slice none 0 0,.slice none 0 0,.slice none 0 0] 28)).setRow w1.heap.size r.cells):=((Fr.refl Non w1).alloc _).setRow (fun hh=>absurd hh (by omega)) _;have f2:=(f0.trans f1 zr).trans fG zr;have ad:=ro.non fG;obtain ⟨gv,bt⟩:=Ab w1.heap.size;rw [bt.out] at bg f2 ⊢;rw [bt.out] at ad;clear a0 bn fG ro f1 km;generalize (w1.alloc (.cells #[.slice none 0 0,.slice none 0 0,.slice none 0 0,.slice none 0 0] 28)).setRow gv r.cells=w2 at*;have aa:r.l.length=2:=by rw [a2];exact Ay1
 have g0:Hid (r.cells[0]? =some (.slice r.cA 4 r.cC)):=by show r.cells[0]? =_;rw [show (4:Nat)=r.cards.length by rw [al,It];rfl];rfl
 have g1:Hid (r.cells[1]? =some (.slice r.lA 2 r.lC)):=by show r.cells[1]? =_;rw [<- aa];rfl
 have c0:cS w2 gv 0 r.cA 4 r.cC:=(bg.cell 0).trans g0.out
 have kn:Hid (Calls zp 6 #[.slice r.cA 4 r.cC] w2 (Gl r.cards w2)):=by
  have ak:=ad.cards.sl.rd;rw [show r.cards.length=4 by rw [al,It];rfl,al] at ak;rw [al];exact Oz w2.heap.size 4 r.cC r.cA [1,2,2,3] w2 rfl (by decide) ak (A65 av f2.size)
 unfold Gl at kn;go_upto_region 3 with (go_at_call 6;(with_reducible refine (kn.out).mono ?_);rintro _ w3 ⟨s,rfl,hs,a0,b2,f3⟩)
 have b9:=f2.trans f3 zr;have b4:=ad.non f3;have b5:=bg.fr f3 zq;clear kn c0 g0;obtain ⟨sb,a5⟩:=Ab s.rb;rw [a5.out];obtain ⟨n1,y1,b1,o1,ba,bc,bd,br,a9,bo⟩:=ad.place (p:=1) (by rw [aa];decide);obtain ⟨n0,y0,b0,o0,a3,be,a6,bz,bf,ak⟩:=ad.place (p:=0) (by rw [aa];decide);obtain ⟨rfl,rfl⟩:b0=b1/\o0=o1:=by rw [bf] at a9;injection a9 with e;injection e with e1 e2;exact ⟨e1,e2⟩
 have c2:w2.cell? ⟨gv,1,none⟩=some (.slice (some ⟨b0,o0,none⟩) 2 r.lC):=by rw [<- bf];exact (bg.cell 1).trans g1.out
 have c1:=f3.cell c2 zq;have a4:y1.op=lvO 1:=by rw [bc];unfold lvO;rw [<- a2,ba]
 have b3:y0.op=lvO 0:=by rw [be];unfold lvO;rw [<- a2,a3]
 have ao:=lh (Hy y1 w3 (br.non f3).at bd);have aj:=lh (fun (w':World) (h:Fr Non w2 w')=>Hy y0 w' (bz.non h).at a6);unfold NewB at ao aj;have bu:Hid (∃m,y1.op.put.length=m/\m<=500000):=⟨_,rfl,by rw [bc];exact Jh ad.rows ba⟩;have bp:Hid (∃m,y0.op.put.length=m/\m<=500000):=⟨_,rfl,by rw [be];exact Jh ad.rows a3⟩;obtain ⟨m1,e1,z1⟩:=bu.out;obtain ⟨m0,e0,z0⟩:=bp.out;have ae:=Ge (P:=zp) y1.cells b0 (o0+1*27) underlying52 rfl aw w3 (bo.fr f3 zq);have ac:=Ge (P:=zp) y0.cells b0 (o0+0*27) underlying52 rfl aw;rw [Nat.zero_mul,A73] at ac ak;rw [Nat.one_mul] at ae;rw [e1] at ao;rw [e0] at aj;have a7:s.g.cards=Bb 0 [1,2,2,3]:=by rw [b2.out,al]
 have ap:=lh (fun (A:Option Addr) (c:Nat) (w':World) (hf:Fr Non w3 w') (hrd:Rd w' w'.heap.size 1 A m1 (y1.op.put.map Bv))=>Lp w2.heap.size w'.heap.size m1 c A s y1.op w' (hs.out.non hf) (hk.out.fr (b9.trans hf zr)) e1 hrd (by omega) bd);have ay:=lh (fun (A:Option Addr) (c:Nat) (s':Ag) (w':World) (hs':s'.okAt w' w2.heap.size) (hf:Fr Non w2 w') (hrd:Rd w' w'.heap.size 1 A m0 (y0.op.put.map Bv))=>Lp w2.heap.size w'.heap.size m0 c A s' y0.op w' hs' (hk.out.fr (f2.trans hf zr)) e0 hrd (by omega) a6);unfold TakeRPost at ap ay;rw [a5.out,a0.out,a7,a4] at ap;obtain ⟨bq,bw⟩:=Ay2;obtain ⟨bm,bl,bv⟩:=Ay3;rw [bq] at ap;obtain ⟨Y1,b8⟩:=Ab y1.cells;obtain ⟨Y0,b6⟩:=Ab y0.cells;rw [b8.out] at ae ao;rw [b6.out] at ac aj ak;rw [a4] at ao;rw [b3] at aj ay;clear bu bp ba a3 bc be br bz a9 bf g1 a2 aa b4 ad bg b5 bo a4 b3 al bq e1 e0 bd a6 av;generalize hT1:(Bp (Bb 0 [1,2,2,3]) ([],[]) (lvO 1)).2=T1 at*;replace hT1:=lh hT1;generalize (lvO 1).put=P1 at*
 go_upto_region 6 with (first
  |(go_at_call 20;(with_reducible refine (ao.out).mono ?_);rintro _ w4 ⟨A4,c4,rfl,o4,f4⟩)
  |(go_at_call 9;(with_reducible refine (ap.out _ _ _ f4 o4.rd).mono ?_);rintro _ w5 ⟨rfl,s5,au,ai⟩))
 have bs:Fr Non w2 w5:=(hs.out.non f4).below au.out.fr (f3.trans f4 zr) (A64 _);have c5:=bs.cell c2 zq;have af:Hid (s5.rb=sb):=au.out.rb.trans a5.out;have bh:Hid (s5.g.cards=Bb 0 [1,2,2,3]):=au.out.cards.trans a7;have ab:Hid (s5.okAt w5 w2.heap.size):=au.out.ok
 have cc:Hid (s5.ws.length=1):=by
  show _=_;have:=congrArg (fun z:List Pn × List Op=>z.2.length) ai.out;unfold Ag.st at this;simp only [A70] at this;rw [this,bw]
 have bb:=lh (O2 w2.heap.size s5 w5 ab.out);rw [af.out,cc.out] at bb;clear au hs a0 b2 ap ao a7 f4 o4 ae c1 bw;go_upto_region 7 with (go_at_call 11;(with_reducible refine (bb.out).mono ?_);rintro _ w6 ⟨rfl,f6⟩)
 have a1:=bs.trans f6 zr;have c6:=f6.cell c5 zq;have b7:=ac w6 (ak.fr a1 zq);have bk:=lh (aj.out w6 a1);have a8:=lh (fun (A:Option Addr) (c:Nat) (w':World) (hf:Fr Non w6 w') (hrd:Rd w' w'.heap.size 1 A m0 ((lvO 0).put.map Bv))=>ay.out A c s5 w' (ab.out.non (f6.trans hf zr)) (a1.trans hf zr) hrd);rw [af.out,ai.out,bh.out,bm] at a8;clear aj ay ac bb c5 bm;generalize (lvO 0).put=P0 at*
 go_upto_region 8 with (first
  |(go_at_call 20;(with_reducible refine (bk.out).mono ?_);rintro _ w7 ⟨A7,c7,rfl,o7,f7⟩)
  |(go_at_call 9;(with_reducible refine (a8.out _ _ _ f7 o7.rd).mono ?_);rintro _ w8 ⟨rfl,s8,az,ah⟩))
 have ca:Fr Non w2 w8:=(ab.out.non (f6.trans f7 zr)).below az.out.fr (a1.trans f7 zr) (A64 _);have aq:Hid (s8.rb=sb):=az.out.rb.trans af.out;have ag:Hid (s8.okAt w8 w2.heap.size):=az.out.ok
 have cd:Hid (s8.ws.length=0):=by
  show _=_;have:=congrArg (fun z:List Pn × List Op=>z.2.length) ah.out;unfold Ag.st at this;simp only [A70] at this;rw [this,bl]
 have cb:Hid (s8.g.pns.length=2):=by
  show _=_;have:=congrArg (fun z:List Pn × List Op=>z.1.length) ah.out;unfold Ag.st at this;dsimp only at this;rw [this,bv]
 have bx:=lh (O2 w2.heap.size s8 w8 ag.out);rw [aq.out,cd.out] at bx;have ax:=lh (fun (w':World) (h:Fr Non w8 w')=>U9 w2.heap.size s8 w' (ag.out.non h));have bj:(Ba (s8.g.pns.map Pn.id)).length=2:=by rw [I7,A70];exact cb.out
 unfold Ek at ax;rw [aq.out] at ax;generalize Ba (s8.g.pns.map Pn.id)=IS at*;rw [bj] at ax;have hd:=lh (fun (w':World) (hf:Fr Non w8 w')=>ar.out w' ((f2.trans ca zr).trans hf zr));clear az ah ag ab ai bk a8 o7 c6 b7 bl bv ar bj
 go_wp2_with (first
  |(go_at_call 11;(with_reducible refine (bx.out).mono ?_);rintro _ w9 ⟨rfl,f9⟩)
  |(go_at_call 13;(with_reducible refine (ax.out _ f9).mono ?_);rintro _ wA ⟨AA,cA,rfl,oA,fA⟩;have hd:=lh (hd.out wA (f9.trans fA zr))))
 exact hd.out
end Oq
namespace Oq
attribute [local go_sem] A61 A62
attribute [local go_sem ↓] Gi
def G6 {α:Type} (ys:List α) (a:Nat):List α:=ys.drop a++ys.take a
theorem Vj {α:Type} (ys:List α) (a:Nat):(G6 ys a).Perm ys:=by
 unfold G6;have h:=List.perm_append_comm (l₁:=ys.drop a) (l₂:=ys.take a);rwa [List.take_append_drop] at h
theorem Ay5 {α:Type} (ys:List α) {a i:Nat} (ha:a<ys.length) (hi:i<ys.length):(G6 ys a)[i]? =ys[(i+a)%ys.length]? :=by
 unfold G6;have hd:(ys.drop a).length=ys.length-a:=List.length_drop
 rcases Nat.lt_or_ge i (ys.length-a) with h|h
 · rw [List.getElem?_append_left (by omega),List.getElem?_drop,Nat.mod_eq_of_lt (by omega),Nat.add_comm]
 ·
  rw [List.getElem?_append_right (by omega),hd,List.getElem?_take_of_lt (by omega)];congr 1;rw [Nat.mod_eq_sub_mod (by omega),Nat.mod_eq_of_lt (by omega)];omega
def Ls (l:List Pn) (w:World) (e:Ending) (w':World):Prop:=∃(on ys:List Nat) (ns:List Id) (A:Option Addr) (c:Nat),e=.returned (.slice A ns.length c)/\Gz l on ys/\(∀q∈ys,q<l.length)/\on≠[]/\ns.Perm (ys.map (nmP l))/\Own w' w.heap.size 45 3 A ns.length c (ns.flatMap Id.cells)/\Fr Non w w'
theorem Ay6 (base B n c:Nat) (A:Option Addr) (l0:List Int) (r:FG) (w:World) (h:r.own w base) (hne:r.l≠[]) (hn:Hid (l0.length=n)) (hr:Rd w B 1 A n (l0.map Iv)) (hnm:n<=9223372036854775807) (hok:∀x∈l0,I64 x):
  Calls zp 16 #[.agg r.cells,.slice A n c] w (Ls r.l w):=by
 have be:=h.num.few;have bg:=Blk.new w 28 r.cells;have f0:Fr Non w (w.alloc (.cells r.cells 28)):=(Fr.refl Non w).alloc _;have g1:Hid (r.cells[1]? =some (.slice r.lA r.l.length r.lC)):=rfl;have g2:Hid (r.cells[2]? =some (.slice r.iA r.l.length r.iC)):=rfl;have bm:0<r.l.length:=List.length_pos_iff.2 hne;have a8:=lh (fun (v:World) (i:Nat) (hv:Fr Non w v) (hi:i<=1000)=>Ol B n c i A l0 v hn (hr.fr hv zr) hok hnm hi);have az:Hid (∀v,Fr Non w v->Calls zp 33 #[.slice A n c,.int .i64 0] v fun e w'=>e=.returned (.int .i64 (Dh l0 0:Int))/\Fr Non v w'):=fun v hv=>a8.out v 0 hv (by omega);have kb:=lh (fun (v:World) (A':Option Addr) (c':Nat) (on:List Nat) (hf:Fr Non w v) (ho:Rd v v.heap.size 1 A' 3 (on.map Qv)) (h3:on.length=3) (hlt:∀p∈on,p<r.l.length)=>Uq base v.heap.size 3 c' r A' on v (h.non hf) h3 ho (by omega) hlt);have ag:Hid (∀p,p<r.l.length->∃(m:Pn) (b off:Nat),r.l[p]? =some m/\r.iA=some ⟨b,off,none⟩/\cI w b (off+p*3) m.id.b/\cI w b (off+p*3+1) m.id.s/\cU w b (off+p*3+2) m.id.u):=fun p hp=>h.idAt hp;have hl:=Be (P:=zp) w.heap.size 28 underlying28 rfl (cs:=r.cells) Dg;have bl:=lh (Ou l0);clear h hr hok;obtain ⟨L,hL⟩:=Ab r.l.length;rw [hL.out] at g1 g2 be bm ag;have b9:((L:Int)==0)=false:=beq_eq_false_iff_ne.2 (by omega);have b8:¬(L:Int)=0:=by omega
 have bv:¬L=0:=by omega
 go_enter func16,ntmps16;go_upto_region 1 with (fail)
 have cb:=f0.size;generalize w.alloc (.cells r.cells 28)=w0 at*;have bu:w.heap.size+1<=w0.heap.size:=bg.lt;go_wp2_with fail
 go_loopw [5,6] (fun s v wr=>∃(i:Nat) (Ax:Option Addr) (cx:Nat) (on:List Nat),v=.int .i64 (i:Int)/\s=.slice Ax i cx/\i<=3/\Hid (on.length=i)/\Hid (∀p∈on,p<L)/\Own wr w0.heap.size 3 1 Ax i cx (on.map Qv)/\Fr Non w0 wr) (fun _ v _=>3-(intOf v).toNat)
 case atStart=>exact ⟨0,none,0,[],rfl,rfl,by omega,rfl,fun _ hp=>absurd hp A59,Own.nil _ _ _ _,Fr.refl _ _⟩
 case round=>
  obtain ⟨i,Ax,cx,on,rfl,rfl,hi,ap,aq,aa,hf⟩:=hrel;have af:Fr Non w wr:=f0.trans hf zr
  by_cases hi3:i<3
  ·
   have t0:decide ((i:Int)<3)=true:=decide_eq_true (by omega);have e1:=iw ((i:Int)+1);have kq:=lh (a8.out wr.drew i af.drew (by omega));have a0:=bl.out i;obtain ⟨a,ha⟩:=Ab (Dh l0 i);rw [ha.out] at kq a0;obtain ⟨P,hP⟩:=Ab (a%L);have b1:P<L:=by rw [<- hP.out];exact A63 _ bm
   have aj:(a:Int)%(L:Int)=(P:Int):=by rw [<- hP.out];rfl
   have bh:(a:Int).tmod (L:Int)=(P:Int):=by rw [A67 (by omega)];exact aj
   have e2:=iw (P:Int);go_upto_region 5 with (fail)
   have G0:cS wr.drew w.heap.size 1 r.lA L r.lC:=((bg.fr hf.drew zq).cell 1).trans g1.out;have F0:Fr Non wr wr.drew:=(Fr.refl Non wr).drew;clear ag;refine wp_region_held_drew (S:=fun w'=>cS w' w.heap.size 1 r.lA L r.lC) (by kernel_rfl) G0 (fun hHeld=> ?_);clear hHeld;refine tkN 0 3 G0 (h:=tkN 4 3 G0 (h:=?_));refine oG 3 (fun K hK=> ?_);go_simp;go_wp2_with (go_at_call 33;(with_reducible refine (kq.out).mono ?_);rintro _ v1 ⟨rfl,bf⟩;have G1:=bf.cell G0 zq;have F1:=F0.trans bf zr);refine hK.out _ _ G1 (fun hZ=> ?_);clear hZ hK K;try simp only [Ah,zl]
   refine tkN 7 1 G1 (h:=?_);refine oG 8 (fun K hK=> ?_);go_simp;try rw [aj]
   have ay:=Blk.new v1 3 #[.int .i64 (P:Int)];have fa:=(Fr.refl Non v1).alloc (.cells #[.int .i64 (P:Int)] 3);have F2:=F1.trans fa zr;have G2:=fa.cell G1 zq;have ad:=(aa.fr F2 zr);have ae:=ad.row;have b4:=hf.size;have cc:=F2.size;refine hK.out _ _ G2 (fun hZ=> ?_);clear hZ hK K;try simp only [Ah,zl]
   generalize v1.alloc (.cells #[.int .i64 (P:Int)] 3)=v2 at*;refine oG 9 (fun K hK=> ?_);refine Du (base:=w0.heap.size) (.tmp 15) (.tmp 23) 22 rfl rfl rfl Da ad (Rd.blk (n:=1) (size:=1) ay rfl) (by simp [Value.oneCell']) (by omega) (by omega) (by omega) ?_;intro A8 c8 v3 ac ah ao;have F3:=(hf.trans F2 zr).trans ah (fun q hq e=>by have h9:=(ae q e).1;omega);have G3:=ah.cell G2 (fun e=>by have h9:w0.heap.size<=w.heap.size:=(ae _ e).1;omega);refine hK.out _ _ G3 (fun hZ=> ?_);clear hZ hK K;try simp only [Ah,zl]
   refine tkN 10 1 G3 (h:=?_);refine oD ?_;go_simp
   have al:Own v3 w0.heap.size 3 1 A8 (i+1) c8 ((on++[P]).map Qv):=by
    rw [A72];exact ac
   have bb:Hid (∀p∈on++[P],p<L):=fun p hp=>by
    rcases List.mem_append.1 hp with hp|hp
    · exact aq.out p hp
    · rw [List.mem_singleton.1 hp];exact b1
   clear ac ah ao aa ad ae G0 G1 G2 G3 F0 F1 F2 fa hf kq ay;go_wp2_with fail;go_roundw
   case rel=>exact ⟨i+1,A8,c8,on++[P],by go_num,rfl,by omega,by (show (on++[P]).length=i+1);rw [A75,ap.out];rfl,bb.out,al,F3⟩
   case measure=>simp [intOf];omega
  ·
   obtain rfl:i=3:=by omega
   have t0:decide (((3:Nat):Int)<3)=false:=by decide
   have bq:=bg.fr hf zq;have bn:=lh (kb.out wr Ax cx on af aa.rd ap.out (by rw [hL.out];exact aq.out));go_upto_region 7 with (go_at_call 47;(with_reducible refine (bn.out).mono ?_);rintro _ w2 ⟨ys,A7,c7,rfl,a3,ar,ab,f2⟩)
   have a9:0<ys.length:=by
    have h3:on≠[]:=by intro e;rw [e] at ap;have:=ap.out;simp at this
    obtain ⟨p,hp⟩:=List.exists_mem_of_ne_nil on h3;exact List.length_pos_of_mem ((a3.2 p).2 (.inl hp))
   have bw:ys.length<=14:=by
    have:=Fp a3.1 (ys:=List.range r.l.length) (fun q hq=>List.mem_range.2 (ar q hq));rw [List.length_range,hL.out] at this;omega
   have ax:Hid (∀(ns:List Id) A c w',ns.Perm (ys.map (nmP r.l))->Own w' w.heap.size 45 3 A ns.length c (ns.flatMap Id.cells)->Fr Non w w'->Ls r.l w (.returned (.slice A ns.length c)) w'):=fun ns A c w' h1 h2 h3=>⟨on,ys,ns,A,c,rfl,a3,ar,(by intro e;rw [e] at ap;have:=ap.out;simp at this),h1,h2,h3⟩;generalize Ls r.l w=POST at*;rw [hL.out] at ar;replace ar:=lh ar;have a7:=af.trans f2 zr;have bp:=bq.fr f2 zq;have ca:=hf.size;clear kb bn a8 a3 aa hf af bq f2 ap aq bg hl;obtain ⟨M,hM⟩:=Ab ys.length;rw [hM.out] at ab a9 bw ⊢;have kq:=lh (az.out w2 a7);have a0:=bl.out 0;obtain ⟨a,ha⟩:=Ab (Dh l0 0);rw [ha.out] at kq a0;have b5:¬(M:Int)=0:=by omega
   have b2:¬M=0:=by omega
   obtain ⟨P,hP⟩:=Ab (a%M);have bs:P<M:=by rw [<- hP.out];exact A63 _ a9
   have aj:(a:Int)%(M:Int)=(P:Int):=by rw [<- hP.out];rfl
   have eP:=iw (P:Int);go_upto_region 8 with (go_at_call 33;(with_reducible refine (kq.out).mono ?_);rintro _ w3 ⟨rfl,f3⟩)
   try rw [aj]
   have ac:=ab.fr f3 zr;have bc:=a7.trans f3 zr;have bj:=bp.fr f3 zq;have a5:w.heap.size<w3.heap.size:=bj.lt
   have bd:Hid (∀i,i<M->(G6 ys P)[i]? =ys[(i+P)%M]?):=fun i hi=>by
    have:=Ay5 ys (a:=P) (i:=i) (by rw [hM.out];exact bs) (by rw [hM.out];exact hi);rw [hM.out] at this;exact this
   have br:Hid ((G6 ys P).length=M):=(Vj ys P).length_eq.trans hM.out;have bx:Hid (((G6 ys P).map (nmP r.l)).Perm (ys.map (nmP r.l))):=(Vj ys P).map _;generalize G6 ys P=RK at*;clear ab bp a7 f3 kq az a0 ha hP aj;go_wp2_with fail
   go_loopw [9,10] (fun s v wr=>∃(i:Nat) (Ax:Option Addr) (cx:Nat),v=.int .i64 (i:Int)/\s=.slice Ax i cx/\i<=M/\Own wr w3.heap.size 45 3 Ax i cx (((RK.take i).map (nmP r.l)).flatMap Id.cells)/\Own wr w0.heap.size 3 1 A7 M c7 (ys.map Qv)/\Fr Non w3 wr) (fun _ v _=>M-(intOf v).toNat)
   case atStart=>exact ⟨0,none,0,rfl,rfl,by omega,Own.nil _ _ _ _,He ac (by omega),Fr.refl _ _⟩
   case round=>
    obtain ⟨i,Ax,cx,rfl,rfl,hi,aa,ab,hf⟩:=hrel;have af:Fr Non w wr:=bc.trans hf zr
    by_cases hiM:i<M
    ·
     have t0:decide ((i:Int)<M)=true:=decide_eq_true (by omega);have bt:decide (i<M)=true:=decide_eq_true hiM;have e1:=iw ((i:Int)+1);have e3:=iw ((i:Int)+(P:Int));obtain ⟨Q,hQ⟩:=Ab ((i+P)%M);have bk:Q<M:=by rw [<- hQ.out];exact A63 _ a9
     have aj:((i:Int)+(P:Int))%(M:Int)=(Q:Int):=by rw [<- hQ.out];rfl
     have bh:((i:Int)+(P:Int)).tmod (M:Int)=(Q:Int):=by rw [A67 (by omega)];exact aj
     have e4:=iw (Q:Int);obtain ⟨y,hy⟩:∃y,ys[Q]? =some y:=⟨_,A69 (by rw [hM.out];exact bk)⟩;have bo:RK[i]? =some y:=by rw [bd.out i hiM,hQ.out];exact hy
     have b0:=ar.out y (A60 hy);obtain ⟨m',bi,oi,hm,bz,d0,d1,d2⟩:=ag.out y b0;obtain ⟨b7,o7,u7,rfl,_,a2,d7⟩:=ab.rd.at bk;rw [A77,hy] at a2;injection a2 with a2
     subst a2;replace d7:cI wr b7 (o7+Q) (y:Int):=d7;have hnm:=Gh hm;have a4:Hid ((RK.take (i+1)).map (nmP r.l)=(RK.take i).map (nmP r.l)++[m'.id]):=by show _=_;rw [Df bo,A72,List.map_cons,List.map_nil,hnm]
     obtain ⟨q1,q2,q3⟩:=ix Q M
     obtain ⟨p1,p2,p3⟩:=ix y L
     have ba:=g2.out;rw [bz] at ba;have a6:=aa.row;have b3:=hf.size;go_upto_region 12 with (fail)
     have Hb:cS wr w.heap.size 2 (some ⟨bi,oi,none⟩) L r.iC:=((bj.fr hf zq).cell 2).trans ba;have F0:Fr Non wr wr.drew:=(Fr.refl Non wr).drew;have Yb:=d7;obtain ⟨Ib,Jb,Kb⟩:=zk3 af d0 d1 d2;have H0:cS wr.drew w.heap.size 2 (some ⟨bi,oi,none⟩) L r.iC:=Hb;have Y0:cI wr.drew b7 (o7+Q) (y:Int):=Yb;have I0:cI wr.drew bi (oi+y*3) m'.id.b:=Ib;have J0:cI wr.drew bi (oi+y*3+1) m'.id.s:=Jb;have K0:cU wr.drew bi (oi+y*3+2) m'.id.u:=Kb;have aw:Hid (∀q,Ad (some (⟨b7,o7,none⟩:Addr))=some q->Ad Ax≠some q):=fun q h1 h2=>Own.ne2 ab aa (by decide) q h1 h2;clear ag hy bo hnm ba hm;refine wp_region_held_drew (S:=fun w'=>cS w' w.heap.size 2 (some ⟨bi,oi,none⟩) L r.iC/\cI w' b7 (o7+Q) (y:Int)/\cI w' bi (oi+y*3) m'.id.b/\cI w' bi (oi+y*3+1) m'.id.s/\cU w' bi (oi+y*3+2) m'.id.u) (by kernel_rfl) ⟨H0,Y0,I0,J0,K0⟩ (fun uu=> ?_);refine tkN 0 10 uu (h:=?_);clear uu;try simp only [e3,bh,aj,e4]
     refine tkN 10 4 ⟨H0,Y0,I0,J0,K0⟩ (h:=?_);refine oG 14 (fun K hK=> ?_);go_simp;have ay:=(Blk.new wr 45 m'.id.V).drew;have F1:Fr Non wr (wr.alloc (.cells m'.id.V 45)).drew:=((Fr.refl _ _).alloc _).drew;generalize (wr.alloc (.cells m'.id.V 45)).drew=v1 at*;obtain ⟨H1,Y1,I1,J1,K1⟩:=zk5 F1 Hb Yb Ib Jb Kb;refine hK.out _ _ ⟨H1,Y1,I1,J1,K1⟩ (fun hZ=> ?_);clear hZ hK K;try simp only [Ah,zl]
     have ai:=aa.fr F1 zr;have ak:=ab.fr F1 zr;have b6:=F1.size;refine oG 15 (fun K hK=> ?_);refine Du (base:=w3.heap.size) (.tmp 39) (.tmp 53) 25 rfl rfl rfl Ds ai (Rd.blk (n:=1) (size:=3) ay rfl) (by simp [Value.oneCell']) (by omega) (by omega) (by omega) ?_;intro A8 c8 v2 ac ah ao;have fS:∀q,Ad Ax=some q->w3.heap.size<=q:=fun q e=>(a6 q e).1;have F3:Fr Non w3 v2:=(hf.trans F1 zr).trans ah (fun q hq e=>by have h9:=fS q e;omega);have a1:Fr Non w v2:=bc.trans F3 zr;have H2:=ah.cell H1 (fun e=>by have h9:w3.heap.size<=w.heap.size:=fS _ e;have h8:=a5;omega);have Y2:=ah.cell Y1 (fun e=>aw.out b7 rfl e);obtain ⟨I2,J2,K2⟩:=zk3 a1 d0 d1 d2;refine hK.out _ _ ⟨H2,Y2,I2,J2,K2⟩ (fun uu=> ?_);clear hK K;try simp only [Ah,zl]
     refine tkN 16 1 uu (h:=?_);clear uu;refine oD ?_;go_simp
     have al:Own v2 w3.heap.size 45 3 A8 (i+1) c8 (((RK.take (i+1)).map (nmP r.l)).flatMap Id.cells):=by
      rw [a4.out,List.flatMap_append];exact ac
     have av:Own v2 w0.heap.size 3 1 (some ⟨b7,o7,none⟩) M c7 (ys.map Qv):=ak.fr ah (fun q h1 h2=>aw.out q h1 h2);clear ac ak aa ai ab ah ao ay H0 Y0 I0 J0 K0 H1 Y1 I1 J1 K1 H2 Y2 I2 J2 K2 Hb Yb Ib Jb Kb F0 F1 hf af a1 a4;go_wp2_with fail;go_roundw
     case rel=>exact ⟨i+1,A8,c8,by go_num,rfl,by omega,al,av,F3⟩
     case measure=>simp [intOf];omega
    ·
     obtain rfl:i=M:=by omega
     have t0:decide ((i:Int)<i)=false:=decide_eq_false (by omega);have bt:decide (i<i)=false:=decide_eq_false (by omega);have au:((RK.take i).map (nmP r.l)).length=i:=by rw [A70,List.length_take,br.out];omega
     have a4:RK.take i=RK:=by rw [<- br.out,List.take_length]
     have hd:=lh (ax.out ((RK.take i).map (nmP r.l)) Ax cx wr (by rw [a4];exact bx.out) (by rw [au];exact He aa bc.size) af);rw [au] at hd;clear ax aa ab;go_wp2_with fail;exact hd.out
end Oq
namespace Oq
theorem Cb.kept {cards:List Cd} {l m:List Pn} {C ws:List Op} (h:Cb cards l C m ws) {o:Op} (ho:o∈C) (hw:o∉ws):(plc m o.name).isSome=true:=by
 rcases List.mem_append.1 (h.perm.mem_iff.2 ho) with h1|h1
 ·
  obtain ⟨n,k1,rfl⟩:=List.mem_map.1 h1;obtain ⟨j,hj⟩:=List.getElem?_of_mem k1;have:=(h.rm.ok j n hj).plc;rw [(h.rm.ok j n hj).id] at this;rw [this];rfl
 · exact absurd h1 hw
def Fe (l:List Pn) (has:List Id):List Id:=(Ck l (Ba (l.map Pn.id))).filter (fun x=> !Bd has x)
theorem forIds_mem {l:List Pn} {has:List Id} {x:Id}:x∈Fe l has<->x∈l.map Pn.id/\x∉has:=by
 unfold Fe;rw [List.mem_filter,(Gj _ _).mem_iff,(Dt _).mem_iff];refine and_congr_right (fun _=> ?_);rw [Bool.not_eq_true',Bool.eq_false_iff];exact ⟨fun hn hin=>hn ((Hu _ _).2 hin),fun hn hin=>hn ((Hu _ _).1 hin)⟩
end Oq
namespace Oq
attribute [local go_sem] A61 A62
attribute [local go_sem ↓] Fz
theorem Ay7 (l:List Id) (x:Id):l.any (fun y=>Id.eq x y)=Bd l x:=by
 rw [A71,Hu,List.any_eq_true];constructor
 ·
  rintro ⟨y,hy,e⟩;rw [(Id.eq_iff _ _).1 e];exact hy
 ·
  intro h;exact ⟨x,h,(Id.eq_iff _ _).2 rfl⟩
theorem Ay8 (B n c:Nat) (A:Option Addr) (l:List Id) (x:Id) (w:World) (hn:Hid (l.length=n)) (hr:Rd w B 3 A n (l.flatMap Id.cells)) (hnm:n<=1000000):
  Calls zp 98 #[.slice A n c,.agg x.V] w (fun e w'=>(∃i:Int,e=.returned (.int .i64 i)/\decide (0<=i)=Bd l x)/\Fr Non w w'):=by
 have bx:=Blk.new w 45 x.V;have f0:Fr Non w (w.alloc (.cells x.V 45)):=(Fr.refl Non w).alloc _;have ai:=hr.fr f0 zr;obtain ⟨xb,ag⟩:=Ab w.heap.size;rw [ag.out] at bx;have ac:Hid (l.any (fun y=>Id.eq x y)=Bd l x):=Ay7 l x;clear hr;go_enter func98,ntmps98;go_upto_region 1 with (fail)
 try rw [ag.out]
 generalize w.alloc (.cells x.V 45)=w0 at*;go_wp2_with fail
 go_loopw [8] (fun v wr=>∃k:Nat,v=.int .i64 (k:Int)/\k<=n/\Hid ((l.take k).any (fun y=>Id.eq x y)=false)/\Fr Non w0 wr) (fun v _=>n-(intOf v).toNat)
 case atStart=>exact ⟨0,rfl,by omega,rfl,Fr.refl _ _⟩
 case round=>
  obtain ⟨k,rfl,hk,hh,hf⟩:=hrel
  by_cases hlt:k<n
  ·
   obtain ⟨i1,i2,i3⟩:=ix k n
   obtain ⟨y,hy⟩:∃y,l[k]? =some y:=⟨_,A69 (by rw [hn.out];exact hlt)⟩;obtain ⟨b,ae,rfl,aj,k0,k1,k2⟩:=Id.at (ai.fr hf zr) hy;have af:=lh (Nt l (fun y=>Id.eq x y) hy);have aa:Hid (Id.eq x y=true->Bd l x=true):=fun h=>by rw [<- ac.out];exact List.any_eq_true.2 ⟨y,A60 hy,h⟩
   clear hy;obtain ⟨E,hE⟩:=Ab (Id.eq x y);go_upto_region 4 with (fail)
   have ad:=bx.fr hf zq;have X0:cI wr xb 0 x.b:=ad.cell 0;have Y0:cI wr xb 1 x.s:=ad.cell 1;have Z0:cU wr xb 2 x.u:=ad.cell 2;have P0:=k0;have Q0:=k1;have R0:=k2;have F0:Fr Non wr wr.drew:=(Fr.refl Non wr).drew;have G0:=hf.drew;clear k0 k1 k2 ad;refine wp_region_held_drew (S:=fun w'=>cI w' xb 0 x.b/\cI w' xb 1 x.s/\cU w' xb 2 x.u/\cI w' b (ae+k*3) y.b/\cI w' b (ae+k*3+1) y.s/\cU w' b (ae+k*3+2) y.u) (by kernel_rfl) ⟨X0,Y0,Z0,P0,Q0,R0⟩ (fun uu=> ?_);refine tkN 0 6 uu (h:=?_);clear uu;refine oD ?_;go_simp;have ah:Id.eq x y=true\/Id.eq x y=false:=by cases Id.eq x y<;>simp
   rcases ah with hp|hp
   ·
    have he:=lh (aa.out hp);rw [hp] at af;try rw [hp]
    clear aa hE;go_wp2_with fail
    go_ret
    exact ⟨⟨(k:Int),rfl,by rw [he.out];exact decide_eq_true (by omega)⟩,f0.trans G0 zr⟩
   ·
    rw [hp] at af;try rw [hp]
    clear aa hE;go_wp2_with fail;go_roundw
    case rel=>exact ⟨k+1,by go_num,by omega,by show _=_;rw [af.out,hh.out];rfl,G0⟩
    case measure=>simp [intOf];omega
  ·
   obtain rfl:k=n:=by omega
   have ab:Bd l x=false:=by have h:=hh.out;rw [A76 (by rw [hn.out];omega)] at h;rw [<- ac.out];exact h
   go_wp2
   go_ret
   exact ⟨⟨-1,rfl,by rw [ab];rfl⟩,f0.trans hf zr⟩
theorem Ay9 (B n c:Nat) (A:Option Addr) (l:List Id) (x:Id) (w:World) (hn:Hid (l.length=n)) (hr:Rd w B 3 A n (l.flatMap Id.cells)) (hnm:n<=1000000):
  Calls zp 49 #[.slice A n c,.agg x.V] w (Ae (Bd l x) w):=by
 have bx:=Blk.new w 45 x.V;have f0:Fr Non w (w.alloc (.cells x.V 45)):=(Fr.refl Non w).alloc _;have kx:=lh (Ay8 B n c A l x _ hn (hr.fr f0 zr) hnm);have hfin:Hid (∀(i:Int) w',decide (0<=i)=Bd l x->Fr Non w w'->Ae (Bd l x) w (.returned (.bool (decide (0<=i)))) w'):=fun i w' h hf=>⟨by rw [h],hf⟩;generalize Ae (Bd l x) w=POST at*;have c0:cI (w.alloc (.cells x.V 45)) w.heap.size 0 x.b:=bx.cell 0;have c1:cI (w.alloc (.cells x.V 45)) w.heap.size 1 x.s:=bx.cell 1;have c2:cU (w.alloc (.cells x.V 45)) w.heap.size 2 x.u:=bx.cell 2;clear hr hn hnm bx;go_enter func49,ntmps49;go_upto_region 1 with (fail)
 generalize w.alloc (.cells x.V 45)=w0 at*;go_wp2_with (go_at_call 98;(with_reducible refine (kx.out).mono ?_);rintro _ w1 ⟨⟨i,rfl,hd0⟩,f1⟩;(have hd:=lh (hfin.out i w1 hd0 (f0.trans f1 zr)));clear hd0);exact hd.out
end Oq
section
open Go.RowKit Go.Sort
section
variable {P : Program} {ops : Array Oper} {Q : Exit -> Act -> World -> Prop} {md : Region.Mode} {S : World -> Prop} {g : Nat}
theorem Az0 {i:Nat} {oi:Oper} {v:Value} (hi:ops[i]? =some oi) (hgi:g≠i)
  (hsel:∀(j:Nat) (o:Oper) cs b,ops[j]? =some o->o.op≠ .select cs b) (hQ:∀c a w,Q (.panic c) (a.put oi.dst v) w->Q (.panic c) a w):
  ∀(fuel:Nat) (listed:Array Bool) (a:Act) (w:World),(listed.getD g true=false->S w)->
   (∀j oj,ops[j]? =some oj->j≠i->listed.getD j true=false->(∀e∈oj.after,Region.binds md e=true->e.on≠i)->oi.apart ops oj=true)->
   i∈Region.ready md ops listed->YieldsIf P ops (fun _=>True) oi v a->
   Co P md ops Q S g fuel (listed.setIfInBounds i true) (a.put oi.dst v) w->Co P md ops Q S g (fuel+1) listed a w:=by
 intro fuel
 induction fuel with
 |zero=>
  intro listed a w hS _ hr hy H;refine ⟨fun h=>(by rw [h] at hr;cases hr),fun j hj=> ?_⟩
  by_cases hji:j=i
  · subst hji;exact hy.wpOp hi trivial ⟨fun h0=>hS (by rw [getD_set_ne true (Ne.symm hgi)] at h0;exact h0),H⟩
  ·
   have h0:=ready_mono hj hji;rw [H.1] at h0
   cases h0
 |succ k ih=>
  intro listed a w hS hfree hr hy H;refine ⟨fun h=>(by rw [h] at hr;cases hr),fun j hj=> ?_⟩
  by_cases hji:j=i
  · subst hji;exact hy.wpOp hi trivial ⟨fun h0=>hS (by rw [getD_set_ne true (Ne.symm hgi)] at h0;exact h0),H⟩
  ·
   have hpend:=(mem_ready.1 hr).1;obtain ⟨hjun,oj,hoj,hall⟩:=mem_ready.1 hj
   have hbl:∀e∈oj.after,Region.binds md e=true->e.on≠i:=fun e he hb heq=>by
    have h1:=hall e he hb;rw [heq] at h1
    rcases Nat.lt_or_ge i listed.size with h'|h'
    · simp [h'] at hpend h1;rw [hpend] at h1;cases h1
    · simp [Array.getElem?_eq_none h'] at h1
   have h1:=H.2 j (ready_mono hj hji);have h2:=wpOp_putIf hoj (hfree j oj hoj hji hjun hbl) (fun cs b=>hsel i oi cs b hi) (fun cs b=>hsel j oj cs b hoj) hQ hy h1
   have hfree':∀m om,ops[m]? =some om->m≠i->(listed.setIfInBounds j true).getD m true=false->
     (∀e∈om.after,Region.binds md e=true->e.on≠i)->oi.apart ops om=true:=fun m om hm hmi hun hno=>by
    refine hfree m om hm hmi ?_ hno
    by_cases hjm:j=m
    · subst hjm;exact hjun
    · rw [getD_set_ne true hjm] at hun;exact hun
   refine wpOp_mono (fun a' w' h3=> ?_) h2;have hS':(listed.setIfInBounds j true).getD g true=false->S w':=fun h0=>h3.2.1 (by rw [A78 _ _ (Ne.symm hji),getD_set_ne true (Ne.symm hgi)];exact h0);refine ⟨hS',ih _ a' w' hS' hfree' (ready_mono hr (Ne.symm hji)) h3.1 ?_⟩;rw [A78 _ _ hji];exact h3.2.2
end
theorem tkP (i:Nat) {P:Program} {Q:Exit->Act->World->Prop} {md:Region.Mode} {S:World->Prop} {gt:Nat} {l:List Oper} {d:Tmp} {op:Go.Op} {ty:TypeId} {pos:String} {after:Array Edge} {g:Option (Nat × Bool)} {v:Value} {fuel:Nat} {listed:Array Bool} {tl:List Value} {ds:List Deferred} {w:World} (hS:S w)
  (h:Co P md l.toArray Q S gt fuel (listed.setIfInBounds i true) ⟨(tl.set d v).toArray,ds⟩ w) (hi:l[i]? =some ⟨some d,op,ty,pos,after,g⟩:=by rfl)
  (hgate:(gt !=i)=true:=by kernel_rfl)
  (hs:Region.noSelect l.toArray=true:=by kernel_rfl) (hf:Region.free md l.toArray listed i=true:=by kernel_rfl) (hr:(Region.ready md l.toArray listed).contains i=true:=by kernel_rfl)
  (hQ:∀c a w,Q (.panic c) (a.put (some d) v) w->Q (.panic c) a w:=by exact fun _ _ _ h=>h) (hy:YieldsIf P l.toArray (fun _=>True) ⟨some d,op,ty,pos,after,g⟩ v ⟨tl.toArray,ds⟩:=by (refine Or.inl ⟨by kernel_rfl,?_⟩;intro w' _;go_simp;(try with_reducible rfl))):
  Co P md l.toArray Q S gt (fuel+1) listed ⟨tl.toArray,ds⟩ w:=by
 have hi':l.toArray[i]? =some ⟨some d,op,ty,pos,after,g⟩:=by rw [List.getElem?_toArray];exact hi
 exact Az0 hi' (bne_iff_ne.1 hgate) (Region.noSelect_spec hs) hQ fuel listed _ w (fun _=>hS) (Region.free_spec hi' hf) (by simpa using hr) hy (by rw [Ah];exact h)
namespace Oq
theorem O6 (p v:Value):Instr.storeAt 45 p v=stS 45 p v:=rfl
def Cy (w:World) (g k:Nat) (x:Id):World:=((w.setCell ⟨g,k,none⟩ (.int .i64 x.b)).setCell ⟨g,k+1,none⟩ (.int .i64 x.s)).setCell ⟨g,k+2,none⟩ (.int .u64 (x.u:Int))
theorem Az1 {w:World} {g k:Nat} (x:Id) (h:∀j,j<3->(w.cell? ⟨g,k+j,none⟩).isSome=true/\w.frozen? ⟨g,k+j,none⟩=false):
  (stS 45 (.pointer (some ⟨g,k,none⟩)) (.agg x.V)).run zp w=.ok () (Cy w g k x):=by
 have h0:=h 0 (by omega);have h1:=h 1 (by omega);have h2:=h 2 (by omega);rw [A73] at h0;obtain ⟨v0,y0⟩:=Option.isSome_iff_exists.1 h0.1;obtain ⟨v1,y1⟩:=Option.isSome_iff_exists.1 h1.1;obtain ⟨v2,y2⟩:=Option.isSome_iff_exists.1 h2.1;have z0:=h0.2;have z1:=h1.2;have z2:=h2.2;unfold stS Cy;go_simp
structure Srt (w0 v:World) (base:Nat) (A:Option Addr) (c:Nat) (d:Array Id):Prop where
 own:Own v base 45 3 A d.size c (d.toList.flatMap Id.cells)
 fr:Fr Non w0 v
 ok:∀x∈d.toList,x.ok
 base:w0.heap.size<=base
theorem Srt.non {w0 v v':World} {base c:Nat} {A:Option Addr} {d:Array Id} (h:Srt w0 v base A c d) (hf:Fr Non v v'):Srt w0 v' base A c d:=
 ⟨h.own.fr hf zr,h.fr.trans hf zr,h.ok,h.base⟩
theorem Srt.at {w0 v:World} {base c:Nat} {A:Option Addr} {d:Array Id} (h:Srt w0 v base A c d) {i:Nat} (hi:i<d.size):
  ∃g,A=some ⟨g,0,none⟩/\base<=g/\g<v.heap.size:=by
 rcases h.own.2 with ⟨_,hn⟩|⟨g,cap,cur,hv,_⟩
 · omega
 ·
  injection hv with hA _ _
  exact ⟨g,hA,(h.own.row g (by rw [hA];rfl)).1,(h.own.row g (by rw [hA];rfl)).2⟩
theorem Hh {d:Array Id} {i:Nat} (hi:i<d.size):d.toList[i]? =some d[i]! :=by
 rw [Array.getElem?_toList,Array.getElem?_eq_getElem hi,getElem!_pos d i hi]
theorem Srt.cells {w0 v:World} {base c g:Nat} {d:Array Id} (h:Srt w0 v base (some ⟨g,0,none⟩) c d) {i:Nat} (hi:i<d.size):
  v.cell? ⟨g,i*3,none⟩=some (.int .i64 d[i]!.b)/\v.cell? ⟨g,i*3+1,none⟩=some (.int .i64 d[i]!.s)/\v.cell? ⟨g,i*3+2,none⟩=some (.int .u64 (d[i]!.u:Int)):=by
 obtain ⟨b,off,hA,_,k0,k1,k2⟩:=Id.at h.own.rd (Hh hi);obtain ⟨rfl,rfl⟩:g=b/\0=off:=by injection hA with e;injection e with e1 e2;exact ⟨e1,e2⟩
 rw [Nat.zero_add] at k0 k1 k2;exact ⟨k0,k1,k2⟩
theorem Srt.okAt {w0 v:World} {base c:Nat} {A:Option Addr} {d:Array Id} (h:Srt w0 v base A c d) {i:Nat} (hi:i<d.size):d[i]!.ok:=
 h.ok _ (A60 (Hh hi))
theorem Srt.put {w0 v:World} {base c g:Nat} {d:Array Id} (h:Srt w0 v base (some ⟨g,0,none⟩) c d) {i:Nat} (hi:i<d.size) {x:Id} (hx:x.ok):
  (stS 45 (.pointer (some ⟨g,i*3,none⟩)) (.agg x.V)).run zp v=.ok () (Cy v g (i*3) x)/\Srt w0 (Cy v g (i*3) x) base (some ⟨g,0,none⟩) c (d.setIfInBounds i x):=by
 obtain ⟨h1,h2⟩:=Own.putId h.own (Hh hi) hi x;have hg:=(h.own.row g rfl).1;have hb:=h.base;have hnn:∀k:Nat,Fr Non w0 w0:=fun _=>Fr.refl _ _;refine ⟨Az1 x h1,?_,?_,?_,hb⟩
 ·
  rw [A79,A80];exact h2
 · exact ((h.fr.setCell (p:=⟨g,i*3,none⟩) (fun hh=>absurd hh (by show ¬g<_;omega)) _).setCell (p:=⟨g,i*3+1,none⟩) (fun hh=>absurd hh (by show ¬g<_;omega)) _).setCell (p:=⟨g,i*3+2,none⟩) (fun hh=>absurd hh (by show ¬g<_;omega)) _
 ·
  intro z hz;rw [A80] at hz
  rcases List.mem_or_eq_of_mem_set hz with h3|h3
  · exact h.ok z h3
  · rw [h3];exact hx
theorem Srt.swap {w0 v:World} {base c g:Nat} {d:Array Id} (h:Srt w0 v base (some ⟨g,0,none⟩) c d) {i j:Nat} (hi:i<d.size) (hj:j<d.size):
  (stS 45 (.pointer (some ⟨g,i*3,none⟩)) (.agg #[.int .i64 d[j]!.b,.int .i64 d[j]!.s,.int .u64 (d[j]!.u:Int)])).run zp v=.ok () (Cy v g (i*3) d[j]!)/\
  (stS 45 (.pointer (some ⟨g,j*3,none⟩)) (.agg #[.int .i64 d[i]!.b,.int .i64 d[i]!.s,.int .u64 (d[i]!.u:Int)])).run zp (Cy v g (i*3) d[j]!)=.ok () (Cy (Cy v g (i*3) d[j]!) g (j*3) d[i]!)/\
  Srt w0 (Cy (Cy v g (i*3) d[j]!) g (j*3) d[i]!) base (some ⟨g,0,none⟩) c (swp d i j):=by
 obtain ⟨h1,h2⟩:=h.put hi (h.okAt hj);obtain ⟨h3,h4⟩:=h2.put (i:=j) (by rw [A79];exact hj) (h.okAt hi);exact ⟨h1,h3,h4⟩
structure Fu (w0:World) (fid:Nat) (pre post:Array Value) (cmp:Id->Id->Int):Prop where
 enters:∀args w,(callFunc fid args).run zp w=.ok (.enter fid args) w
 tells:∀(x y:Id) (v:World),Fr Non w0 v->x.ok->y.ok->Calls zp fid (pre++(#[.agg x.V,.agg y.V]++post)) v fun e v'=>e=.returned (.int .i64 (cmp x y))/\Fr Non v v'
def Ac (cmp:Id->Id->Int) (x y:Id):Bool:=decide (cmp x y<0)
def Eo (w0:World) (base:Nat) (A:Option Addr) (c:Nat) (d:Array Id) (e:Ending) (v:World):Prop:=e=.returned (.tuple #[])/\Srt w0 v base A c d
