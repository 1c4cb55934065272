/-
  Contracts of the functions that the claim's statement reaches, walked one by one (part 17).
  Conditions: as each theorem says.
-/
import Derived.Sort.AssemblyPlain
import Derived.Test.YtmcpnjoomlgmlaaGreatDoorRwM16
set_option maxRecDepth 100000
set_option maxHeartbeats 16000000
open Array renaming setIfInBounds_comm->A00,size_setIfInBounds->A01,toList_setIfInBounds->A02
open Bool renaming not_false->Ax7,not_true->Ax8,eq_iff_iff->Ay9,not_eq_true'->Az8
open Int renaming tmod_eq_emod_of_nonneg->Ay0,toNat_of_nonneg->Ay8,tdiv_eq_ediv_of_nonneg->Az5
open List renaming not_mem_nil->Ax3,mem_of_getElem?->Ax5,map_append->Ay2,getElem?_eq_getElem->Ay3,length_append->Ay5,length_map->Ay6,getElem?_of_mem->Ay7,getElem?_map->Az1,mem_append_right->Az4,take_of_length_le->Az6,mem_append_left->Az7,mem_cons_self->Az9
open Nat renaming mod_lt->Ax4,le_refl->Ax6,le_trans->Ay1,lt_of_lt_of_le->Ay4,add_zero->Az0,lt_or_ge->Az2,mod_eq_of_lt->Az3
open Go.World renaming size_alloc->Ax9
open Go.Proofs.Tryz
open Go.Proofs.Tryz renaming prog->zp
open Go.Lib renaming hid->lh
open List renaming set->zl
open Go.Ending renaming returned->ze
namespace Go.Proofs.YtmcpnjoomlgmlaaGreatDoor
open Go.RowKit
attribute [local go_sem ↓] Go.wp_at_zero Go.wp_at_succ
namespace Oq
attribute [local go_sem] Ax7 Ax8
attribute [local go_sem ↓] Hm Bo Kk Di
def fg0 (A:Option Addr) (c:Nat) (cs:List Cd):FG:=⟨A,c,cs,none,0,[],none,0,none,0,[],[]⟩
theorem As5 {A:Option Addr} {c:Nat} {cs:List Cd} {w:World} {base:Nat} (h:RowAt w base 141 5 A cs.length c (cs.flatMap Cd.cells)) (hf:cs.length<=1000) (hk:∀c∈cs,c.s<18446744073709551616):(fg0 A c cs).own w base where
 cards:=h
 ops:=RowAt.nil _ _ _ _
 each _ hx:=absurd hx Ax3
 same:=rfl
 ok _ hx:=absurd hx Ax3
 ids:=RowAt.nil _ _ _ _
 pasts:=RowAt.nil _ _ _ _
 eachP _ hx:=absurd hx Ax3
 lenP:=rfl
 sameP _ _ _ hx _:=by cases hx
 rows:=Rows.nil
 num:=⟨fun _ hn=>absurd hn Ax3,fun _ hn=>absurd hn Ax3,fun _ hn=>absurd hn Ax3,fun _ hn=>absurd hn Ax3,by show 0<=14;decide⟩
 cfew:=hf
 cok:=hk
theorem As6:∀c∈Av 0 [1,2,2,3],c.s<18446744073709551616:=fun c hc=>by
 obtain ⟨xs,h1,_,_,h4⟩:=M4 [1,2,2,3] 0 (by decide);rw [<- h1] at hc;obtain ⟨x,hx,rfl⟩:=List.mem_map.1 hc;exact h4 x hx
def Ip (l0:List Int) (w:World) (e:Ending) (w':World):Prop:=
 ∃r:FG,e=.returned (.agg r.cells)/\Fr Non w w'/\r.own w' w.heap.size/\r.cards=Av 0 [1,2,2,3]/\r.l=Kn l0
def As7:OpL:={OpL.zero with by_:=1,sq:=1,kind:=1}
theorem N2:OpL.zero.op.ok:=by
 have z:I64 0:=⟨by decide,by decide⟩;have u:U64 0:=by unfold U64;decide
 have e:∀{α:Type} {P:α->Prop},(([]:List α).length<=1000/\∀x∈([]:List α),P x):=⟨by simp,fun _ h=>absurd h Ax3⟩;exact {by_:=z,sq:=z,kind:=z,at_:=z,past:=e,dev:=z,old:=z,mem:=z,role:=z,path:=e,epoch:=⟨z,z,u⟩,n:=z,body:=by decide,refs:=e,of:=⟨z,z,u⟩,guards:=e,need:=z,wait:=z,boxes:=e,pub:=u,hist:=e,r:=u,s:=u}
theorem Gu {w:World} {base:Nat} {x y:OpL} (h:x.lies w base) (h1:y.pastA=x.pastA/\y.pastC=x.pastC/\y.past=x.past) (h2:y.pathA=x.pathA/\y.pathC=x.pathC/\y.path=x.path) (h3:y.bodyA=x.bodyA/\y.bodyC=x.bodyC/\y.body=x.body) (h4:y.refsA=x.refsA/\y.refsC=x.refsC/\y.refs=x.refs) (h5:y.guardsA=x.guardsA/\y.guardsC=x.guardsC/\y.guards=x.guards) (h6:y.boxesA=x.boxesA/\y.boxesC=x.boxesC/\y.boxes=x.boxes) (h7:y.histA=x.histA/\y.histC=x.histC/\y.hist=x.hist):y.lies w base:=by
 obtain ⟨a1,a2,a3⟩:=h1;obtain ⟨b1,b2,b3⟩:=h2;obtain ⟨c1,c2,c3⟩:=h3;obtain ⟨d1,d2,d3⟩:=h4;obtain ⟨e1,e2,e3⟩:=h5;obtain ⟨f1,f2,f3⟩:=h6;obtain ⟨g1,g2,g3⟩:=h7;exact ⟨by rw [a1,a2,a3];exact h.past,by rw [b1,b2,b3];exact h.path,by rw [b3];exact h.nodes,by rw [c1,c2,c3];exact h.body,by rw [d1,d2,d3];exact h.refs,by rw [e1,e2,e3];exact h.guards,by rw [f1,f2,f3];exact h.boxes,by rw [g1,g2,g3];exact h.hist,by rw [g3];exact h.seals⟩
structure Eh (w7 v:World) (base go:Nat) (x:OpL) (A:Option Addr) (n c:Nat) (on:List Nat):Prop where
 b:Blk v go 52 x.cells
 f:Fr Non w7 v
 l:x.lies v base
 os:Own v (go+1) 3 1 A n c (on.map Qv)
 len:on.length=n
 gd:x.guardsA=none/\x.guardsC=0/\x.guards=[]
 gs:w7.heap.size<=go
 sz:go<v.heap.size
theorem Eh.non {w7 v v':World} {base go:Nat} {x:OpL} {A:Option Addr} {n c:Nat} {on:List Nat} (s:Eh w7 v base go x A n c on) (hf:Fr Non v v'):Eh w7 v' base go x A n c on:=
 ⟨s.b.fr hf zq,s.f.trans hf zr,s.l.non hf,s.os.fr hf zr,s.len,s.gd,s.gs,Ay4 s.sz hf.size⟩
theorem Eh.app {w7 v v':World} {base go:Nat} {x:OpL} {A A':Option Addr} {n c n' c':Nat} {on on':List Nat} (s:Eh w7 v base go x A n c on) (hf:Fr (fun k=>Ac A=some k) v v') (ho:Own v' (go+1) 3 1 A' n' c' (on'.map Qv)) (hl:on'.length=n'):Eh w7 v' base go x A' n' c' on':=
 ⟨s.b.fr hf (fun e=>by have:=(s.os.row _ e).1;omega),s.f.trans hf (fun k hk e=>by have:=(s.os.row k e).1;have:=s.gs;omega),⟨s.l.past.keepT hf ((Types.row s.os).not (by decide)),s.l.path.keepT hf ((Types.row s.os).not (by decide)),fun y hy=>(s.l.nodes y hy).keepT hf ((Types.row s.os).not (by decide)),s.l.body.keepT hf ((Types.row s.os).not (by decide)),s.l.refs.keepT hf ((Types.row s.os).not (by decide)),by (obtain ⟨h1,h2,h3⟩:=s.gd;rw [h1,h2,h3];exact ⟨SlAt.nil _ _ _,.inl rfl⟩),s.l.boxes.keepT hf ((Types.row s.os).not (by decide)),s.l.hist.keepT hf ((Types.row s.os).not (by decide)),fun y hy=>(s.l.seals y hy).keepT hf ((Types.row s.os).not (by decide))⟩,ho,hl,s.gd,s.gs,Ay4 s.sz hf.size⟩
theorem Eh.setB {w7 v:World} {base go:Nat} {x:OpL} {A:Option Addr} {n c:Nat} {on:List Nat} (s:Eh w7 v base go x A n c on) (j:Nat) (u:Value) (y:OpL) (hc:x.cells.setIfInBounds j u=y.cells) (hg:y.guardsA=none/\y.guardsC=0/\y.guards=[]) (hy:∀v',x.lies v' base->(∀(t:TypeId) (size n c:Nat) (A:Option Addr) (xs:List Value),t≠52->RowLies v base t size A n c xs->RowLies v' base t size A n c xs)->y.lies v' base):Eh w7 (v.setCell ⟨go,j,none⟩ u) base go y A n c on where
 b:=hc▸s.b.set j u
 f:=s.f.setNew (g:=go) (by have:=s.gs;omega) j u
 l:=hy _ (s.l.keepP ((Fr.refl (One go) v).setOne j u) (Types.one s.b) (by decide) (by decide) (by decide) (by decide) (by decide) (by decide) (by decide)) (fun _ _ _ _ _ _ ht h=>h.keepT ((Fr.refl (One go) v).setOne j u) ((Types.one s.b).not ht))
 os:=Own.setFar s.os s.b (by decide) u
 len:=s.len
 gd:=hg
 gs:=s.gs
 sz:=by have:=s.sz;first|exact this|(simp [World.setCell];omega)
theorem T7 (B n c:Nat) (A:Option Addr) (l0:List Int) (w:World) (hn:Hid (l0.length=n)) (hr:Rd w B 1 A n (l0.map Iv)) (hnm:n<=9223372036854775807) (hok:∀x∈l0,I64 x):
  Calls zp 5 #[.slice A n c] w (Ip l0 w):=by
 have kc:=lh (fun (w':World) (hr:Rd w' w'.heap.size 1 (some ⟨w.heap.size+1,0,none⟩) 4 (([1,2,2,3]:List Int).map Iv))=>Zz 4 4 (some ⟨w.heap.size+1,0,none⟩) [1,2,2,3] w' rfl (by decide) hr);have br:=(Blk.new w 28 #[.slice none 0 0,.slice none 0 0,.slice none 0 0,.slice none 0 0]).alloc (.cells #[.int .i64 1,.int .i64 2,.int .i64 2,.int .i64 3] 3);have bi:=Blk.new (w.alloc (.cells #[.slice none 0 0,.slice none 0 0,.slice none 0 0,.slice none 0 0] 28)) 3 #[.int .i64 1,.int .i64 2,.int .i64 2,.int .i64 3];rw [Ax9] at bi;have f0:Fr Non w ((w.alloc (.cells #[.slice none 0 0,.slice none 0 0,.slice none 0 0,.slice none 0 0] 28)).alloc (.cells #[.int .i64 1,.int .i64 2,.int .i64 2,.int .i64 3] 3)):=((Fr.refl Non w).alloc _).alloc _;go_enter func5,ntmps5;go_upto_region 1 with (fail)
 generalize hw0:(w.alloc (.cells #[.slice none 0 0,.slice none 0 0,.slice none 0 0,.slice none 0 0] 28)).alloc (.cells #[.int .i64 1,.int .i64 2,.int .i64 2,.int .i64 3] 3)=w0 at*;unfold Qz at kc
 have di:Rd w0 w0.heap.size 1 (some ⟨w.heap.size+1,0,none⟩) 4 (([1,2,2,3]:List Int).map Iv):=by
  rw [<- hw0] at bi ⊢;exact Rd.blk (n:=4) (size:=1) bi rfl
 go_upto_region 2 with (go_at_call 31;(with_reducible refine (kc.out _ di).mono ?_);rintro _ w1 ⟨A1,c1,rfl,o1,f1⟩;have dm:=f0.trans f1 zr;have b5:=br.fr f1 zq;have bn:=Blk.new w1 28 #[.slice none 0 0,.slice none 0 0,.slice none 0 0,.slice none 0 0];have ap:=Ch (P:=zp) w1.heap.size 28 (cs:=#[.slice A1 4 c1,.slice none 0 0,.slice none 0 0,.slice none 0 0]) De (old:=#[.slice none 0 0,.slice none 0 0,.slice none 0 0,.slice none 0 0]) rfl (by simp [Value.oneCell']))
 have b7:=(b5.alloc (.cells #[.slice none 0 0,.slice none 0 0,.slice none 0 0,.slice none 0 0] 28)).setRow_far (g':=w1.heap.size) (by have:=b5.lt;omega) (cs:=#[.slice A1 4 c1,.slice none 0 0,.slice none 0 0,.slice none 0 0]);have b3:Blk ((w1.alloc (.cells #[.slice none 0 0,.slice none 0 0,.slice none 0 0,.slice none 0 0] 28)).setRow w1.heap.size #[.slice A1 4 c1,.slice none 0 0,.slice none 0 0,.slice none 0 0]) w1.heap.size 28 (fg0 A1 c1 (Av 0 [1,2,2,3])).cells:=bn.setRow (cs:=#[.slice A1 4 c1,.slice none 0 0,.slice none 0 0,.slice none 0 0]);have fG:Fr Non w1 ((w1.alloc (.cells #[.slice none 0 0,.slice none 0 0,.slice none 0 0,.slice none 0 0] 28)).setRow w1.heap.size #[.slice A1 4 c1,.slice none 0 0,.slice none 0 0,.slice none 0 0]):=((Fr.refl Non w1).alloc _).setRow (fun hh=>absurd hh (by omega)) _;have ed:w.heap.size<w1.heap.size:=b5.lt;have ej:w.heap.size<=w0.heap.size:=f0.size;have f3:=dm.trans fG zr;have az:(fg0 A1 c1 (Av 0 [1,2,2,3])).own ((w1.alloc (.cells #[.slice none 0 0,.slice none 0 0,.slice none 0 0,.slice none 0 0] 28)).setRow w1.heap.size #[.slice A1 4 c1,.slice none 0 0,.slice none 0 0,.slice none 0 0]) w.heap.size:=As5 ((RowAt.of_own (o1.fr fG zr)).lower (by omega)) (by decide) As6;have ba:w1.heap.size<((w1.alloc (.cells #[.slice none 0 0,.slice none 0 0,.slice none 0 0,.slice none 0 0] 28)).setRow w1.heap.size #[.slice A1 4 c1,.slice none 0 0,.slice none 0 0,.slice none 0 0]).heap.size:=b3.lt;clear ap bn b5 br o1 fG dm di f1;obtain ⟨gv,da⟩:=Aa w1.heap.size;rw [da.out] at b3 az b7 f3 ed ba ⊢;generalize (w1.alloc (.cells #[.slice none 0 0,.slice none 0 0,.slice none 0 0,.slice none 0 0] 28)).setRow gv #[.slice A1 4 c1,.slice none 0 0,.slice none 0 0,.slice none 0 0]=w3 at*;have aw:(fg0 A1 c1 (Av 0 [1,2,2,3])).cards=Av 0 [1,2,2,3]:=rfl;have ca:(fg0 A1 c1 (Av 0 [1,2,2,3])).l=[]:=rfl;generalize fg0 A1 c1 (Av 0 [1,2,2,3])=r0 at*;clear bi kc hw0 f0 ej da w1 w0;have dn:=OpL.zero_own w3 w.heap.size;have kp:=Tz w.heap.size w3.heap.size 0 0 none r0 As7 [] w3 az (Gu dn.lies ⟨rfl,rfl,rfl⟩ ⟨rfl,rfl,rfl⟩ ⟨rfl,rfl,rfl⟩ ⟨rfl,rfl,rfl⟩ ⟨rfl,rfl,rfl⟩ ⟨rfl,rfl,rfl⟩ ⟨rfl,rfl,rfl⟩) f3.size {N2 with by_:=(show I64 1 from ⟨by decide,by decide⟩),sq:=(show I64 1 from ⟨by decide,by decide⟩),kind:=(show I64 1 from ⟨by decide,by decide⟩)} ⟨rfl,rfl,rfl⟩ ⟨1,rfl,by omega⟩ ⟨by decide,by decide⟩ rfl (Rd.nil _ _ _ _) (by omega) (fun _ h=>absurd h Ax3) (by rw [ca];exact As3 aw);replace kp:Hid (Calls zp 32 #[.agg r0.cells,.agg #[.int .i64 1,.int .i64 1,.int .i64 1,.int .i64 0,.slice none 0 0,.int .i64 0,.int .i64 0,.int .i64 0,.int .i64 0,.slice none 0 0,.int .i64 0,.int .i64 0,.int .u64 0,.int .i64 0,.slice none 0 0,.slice none 0 0,.int .i64 0,.int .i64 0,.int .u64 0,.slice none 0 0,.int .i64 0,.int .i64 0,.slice none 0 0,.int .u64 0,.slice none 0 0,.int .u64 0,.int .u64 0],.slice none 0 0] w3 (Gs w.heap.size r0 (E7 1) [] w3)):=kp;have hl:=Bs (P:=zp) gv 28 underlying28 rfl (cs:=r0.cells) De;clear dn;go_upto_region 3 with (go_at_call 32;(with_reducible refine (kp.out).mono ?_);rintro _ w4 ⟨r1,rfl,f4,bl,au,bh⟩;(have cb:=b3.fr f4 zq);(have ap:=Ch (P:=zp) gv 28 (cs:=r1.cells) De (old:=r0.cells) rfl (Ho r1)))
 have bc:=bl.setG cb r1.cells;have du:Blk (w4.setRow gv r1.cells) gv 28 r1.cells:=cb.setRow;have dg:=(b7.fr f4 zq).setRow_far (g':=gv) (by omega) (cs:=r1.cells);have f5:=(f3.trans f4 zr).setRow (g:=gv) (fun hh=>absurd hh (by omega)) r1.cells;rw [aw] at au;rw [ca] at bh;replace bh:r1.l=Fk l0 0:=bh;clear ap hl kp az b3 b7 f3 ba aw ca f4 bl cb;generalize w4.setRow gv r1.cells=w5 at*;go_wp2_with fail
 go_loopw [4] (fun v wr=>∃(j I:Nat) (r:FG),Hid (I=2*j)/\v=.int .i64 (I:Int)/\j<=13/\j<=n/2/\Blk wr gv 28 r.cells/\r.own wr w.heap.size/\r.cards=Av 0 [1,2,2,3]/\Hid (r.l=Fk l0 j)/\Blk wr w.heap.size 28 #[.slice none 0 0,.slice none 0 0,.slice none 0 0,.slice none 0 0]/\Fr Non w wr) (fun v _=>26-(intOf v).toNat)
 case atStart=>exact ⟨0,0,r1,rfl,rfl,by omega,by omega,du,bc,au,bh,dg,f5⟩
 case round=>
 clear du bc au bh dg f5;obtain ⟨j,I,r,hI,rfl,hj,e9,bn,ro,b4,a0,br,hf⟩:=hrel;have fc:I<=26:=by have:=hI.out;omega
 have e1:=iw ((I:Int)+1)
 by_cases hgo:I+1<n/\I<26
 ·
  have t1:decide ((I:Int)+1<(n:Int))=true:=decide_eq_true (by omega);have t2:decide ((I:Int)<26)=true:=decide_eq_true (by omega);have k1:=lh (fun (v:World) (hv:Fr Non w v)=>Nl B n c I A l0 v hn (hr.fr hv zr) hok hnm (by omega))
  have k2:Hid (∀(v:World),Fr Non w v->Calls zp 33 #[.slice A n c,.int .i64 ((I:Int)+1)] v fun e w'=>e=.returned (.int .i64 (Cz l0 (I+1):Int))/\Fr Non v w'):=fun v hv=>by
   have h:=Nl B n c (I+1) A l0 v hn (hr.fr hv zr) hok hnm (by omega);rwa [show (((I+1:Nat)):Int)=(I:Int)+1 from by omega] at h
  have aa:Hid (Fk l0 (j+1)=N0 r.l (Cz l0 I) (Cz l0 (I+1))):=by
   show N0 (Fk l0 j) (Cz l0 (2*j)) (Cz l0 (2*j+1))=_;rw [a0.out,hI.out]
  have cm:r.l≠[]:=by rw [a0.out];exact N1 l0 j
  have cv:r.l.length<=13:=by rw [a0.out];have:=T6 l0 j;have:=hI.out;omega
  obtain ⟨a,ha⟩:=Aa (Cz l0 I);obtain ⟨b,hb⟩:=Aa (Cz l0 (I+1));rw [ha.out] at k1 aa;rw [hb.out] at k2 aa;have fa:a<=1000000/\b<=1000000:=by rw [<- ha.out,<- hb.out];exact ⟨Ns _ _,Ns _ _⟩
  clear ha hb hok hr a0
  go_upto_region 8 with (first
   |(go_at_call 33;(with_reducible refine (k1.out _ hf).mono ?_);rintro _ w6 ⟨rfl,f6⟩;(have cy:=hf.trans f6 zr))
   |(go_at_call 33;(with_reducible refine (k2.out _ cy).mono ?_);rintro _ w7 ⟨rfl,f7⟩))
  have b6:=cy.trans f7 zr;have c0:=bn.fr (f6.trans f7 zr) zq;have dc:=br.fr (f6.trans f7 zr) zq;have ao:=ro.non (f6.trans f7 zr);clear bn br ro hf f6 f7 cy k1 k2;have bs:Hid (∀v,Fr Non w7 v->Blk v gv 28 r.cells):=fun v hv=>c0.fr hv zq;obtain ⟨D,hD⟩:=Aa (a%4);have er:D<4:=by rw [<- hD.out];exact Ax4 _ (by omega)
  have eg:(a:Int).tmod 4=(D:Int):=by rw [Ay0 (by omega),<- hD.out];rfl
  have e4:=iw (1+(D:Int));have d6:=iw (D:Int);obtain ⟨X1,a1⟩:∃X:OpL,Hid (X={OpL.zero with by_:=(1:Int)+D,kind:=4}):=⟨_,rfl⟩;have bw:X1.cells=#[.int .i64 (1+(D:Int)),.int .i64 0,.int .i64 4,.int .i64 0,.slice none 0 0,.int .i64 0,.int .i64 0,.int .i64 0,.int .i64 0,.slice none 0 0,.int .i64 0,.int .i64 0,.int .u64 0,.int .i64 0,.slice none 0 0,.slice none 0 0,.int .i64 0,.int .i64 0,.int .u64 0,.slice none 0 0,.int .i64 0,.int .i64 0,.slice none 0 0,.int .u64 0,.slice none 0 0,.int .u64 0,.int .u64 0]:=by rw [a1.out];rfl
  have c2:(zp.info? 52).map (·.size)=some (#[.int .i64 (1+(D:Int)),.int .i64 0,.int .i64 4,.int .i64 0,.slice none 0 0,.int .i64 0,.int .i64 0,.int .i64 0,.int .i64 0,.slice none 0 0,.int .i64 0,.int .i64 0,.int .u64 0,.int .i64 0,.slice none 0 0,.slice none 0 0,.int .i64 0,.int .i64 0,.int .u64 0,.slice none 0 0,.int .i64 0,.int .i64 0,.slice none 0 0,.int .u64 0,.slice none 0 0,.int .u64 0,.int .u64 0]:Array Value).size:=by show _=some 27;kernel_rfl
  have ap:=Ch (P:=zp) (t:=52) w7.heap.size 52 (cs:=#[.int .i64 (1+(D:Int)),.int .i64 0,.int .i64 4,.int .i64 0,.slice none 0 0,.int .i64 0,.int .i64 0,.int .i64 0,.int .i64 0,.slice none 0 0,.int .i64 0,.int .i64 0,.int .u64 0,.int .i64 0,.slice none 0 0,.slice none 0 0,.int .i64 0,.int .i64 0,.int .u64 0,.slice none 0 0,.int .i64 0,.int .i64 0,.slice none 0 0,.int .u64 0,.slice none 0 0,.int .u64 0,.int .u64 0]) c2 (old:=zO) rfl (by rw [<- bw];exact Ds X1);have bo:=Blk.new w7 52 zO;go_upto_region 9 with (fail)
  have b1:Blk ((w7.alloc (.cells zO 52)).setRow w7.heap.size #[.int .i64 (1+(D:Int)),.int .i64 0,.int .i64 4,.int .i64 0,.slice none 0 0,.int .i64 0,.int .i64 0,.int .i64 0,.int .i64 0,.slice none 0 0,.int .i64 0,.int .i64 0,.int .u64 0,.int .i64 0,.slice none 0 0,.slice none 0 0,.int .i64 0,.int .i64 0,.int .u64 0,.slice none 0 0,.int .i64 0,.int .i64 0,.slice none 0 0,.int .u64 0,.slice none 0 0,.int .u64 0,.int .u64 0]) w7.heap.size 52 X1.cells:=bw▸bo.setRow;have f8:Fr Non w7 ((w7.alloc (.cells zO 52)).setRow w7.heap.size #[.int .i64 (1+(D:Int)),.int .i64 0,.int .i64 4,.int .i64 0,.slice none 0 0,.int .i64 0,.int .i64 0,.int .i64 0,.int .i64 0,.slice none 0 0,.int .i64 0,.int .i64 0,.int .u64 0,.int .i64 0,.slice none 0 0,.slice none 0 0,.int .i64 0,.int .i64 0,.int .u64 0,.slice none 0 0,.int .i64 0,.int .i64 0,.slice none 0 0,.int .u64 0,.slice none 0 0,.int .u64 0,.int .u64 0]):=((Fr.refl Non w7).alloc _).setRow (fun hh=>absurd hh (by omega)) _;have ct:=b1.lt;clear ap bo;obtain ⟨go,a8⟩:=Aa w7.heap.size;rw [a8.out] at b1 f8 ct ⊢;generalize (w7.alloc (.cells zO 52)).setRow go #[.int .i64 (1+(D:Int)),.int .i64 0,.int .i64 4,.int .i64 0,.slice none 0 0,.int .i64 0,.int .i64 0,.int .i64 0,.int .i64 0,.slice none 0 0,.int .i64 0,.int .i64 0,.int .u64 0,.int .i64 0,.slice none 0 0,.slice none 0 0,.int .i64 0,.int .i64 0,.int .u64 0,.slice none 0 0,.int .i64 0,.int .i64 0,.slice none 0 0,.int .u64 0,.slice none 0 0,.int .u64 0,.int .u64 0]=w8 at*;have dw:=c0.fr f8 zq;have g1:Hid (r.cells[1]? =some (.slice r.lA r.l.length r.lC)):=rfl;have d1:=(dw.cell 1).trans g1.out;have b9:0<r.l.length:=List.length_pos_iff.2 cm;obtain ⟨L,hL⟩:=Aa r.l.length;rw [hL.out] at d1 g1 b9;have ef:((L:Int)==0)=false:=beq_eq_false_iff_ne.2 (by omega);obtain ⟨Q1,be⟩:=Aa (a/4%L);have dx:((a:Int).tdiv 4).tmod (L:Int)=(Q1:Int):=by rw [Az5 (by omega),Ay0 (by omega),<- be.out];rfl
  have cj:IntKind.i64.wrap (Q1:Int)=(Q1:Int):=IntWalk.i64_in _ (by have:Q1<=a:=(by rw [<- be.out];exact Ay1 (Nat.mod_le _ _) (Nat.div_le_self _ _));omega);have dr:(a:Int).tdiv 4=((a/4:Nat):Int):=by rw [Az5 (by omega)];rfl
  have cq:=iw ((a/4:Nat):Int);have d5:((a/4:Nat):Int).tmod (L:Int)=(Q1:Int):=by rw [<- dr];exact dx
  have ds:(a:Int)/4%(L:Int)=(Q1:Int):=by rw [<- be.out];rfl
  go_upto_region 10 with (fail)
  try rw [ds]
  have f9:Fr Non w8 (w8.alloc (.cells #[.int .i64 (Q1:Int)] 3)):=(Fr.refl Non w8).alloc _;have bq:=Blk.new w8 3 #[.int .i64 (Q1:Int)];have c7:X1.lies w7 w.heap.size:=by rw [a1.out];exact Gu (OpL.zero_own w7 w.heap.size).lies ⟨rfl,rfl,rfl⟩ ⟨rfl,rfl,rfl⟩ ⟨rfl,rfl,rfl⟩ ⟨rfl,rfl,rfl⟩ ⟨rfl,rfl,rfl⟩ ⟨rfl,rfl,rfl⟩ ⟨rfl,rfl,rfl⟩
  have s9:Eh w7 (w8.alloc (.cells #[.int .i64 (Q1:Int)] 3)) w.heap.size go X1 (some ⟨w8.heap.size,0,none⟩) 1 1 [Q1]:=⟨b1.fr f9 zq,f8.trans f9 zr,c7.non (f8.trans f9 zr),Own.blk bq (by omega) (by omega) rfl (by omega),rfl,by rw [a1.out];exact ⟨rfl,rfl,rfl⟩,by rw [<- a8.out];exact Ax6 _,Ay4 ct f9.size⟩;clear f9 bq c7 b1 f8 ct dw d1 c0;obtain ⟨A9,en⟩:=Aa (some (⟨w8.heap.size,0,none⟩:Addr));rw [en.out] at s9 ⊢;generalize w8.alloc (.cells #[.int .i64 (Q1:Int)] 3)=w9 at*;have eb:=bs.out w9 s9.f;have kl:=lh (Ap1 w.heap.size r (1+(D:Int)) w9 (ao.non s9.f));have hl:=Bs (P:=zp) gv 28 underlying28 rfl (cs:=r.cells) De;have o0:w9.cell? ⟨go,0,none⟩=some (.int .i64 (1+(D:Int))):=by have h9:=s9.b.cell 0;rw [bw] at h9;exact h9
  rw [hL.out] at kl;go_upto_region 11 with (go_at_call 34;(with_reducible refine (kl.out).mono ?_);rintro _ cl ⟨rfl,dh⟩)
  have a2:=s9.non dh;clear s9 dh o0 eb kl;have dj:=Ng r.l (1+(D:Int)) L;obtain ⟨Z,hZ⟩:=Aa (Dx r.l (1+(D:Int)) L);rw [hZ.out] at dj ⊢;obtain ⟨C,hC⟩:∃C:Bool,C=(decide (0<=Z)&&decide (0<a/64%5)):=⟨_,rfl⟩
  have aj:Hid ((if 0<=Z/\0<a/64%5 then [Z.toNat] else [])=if C=true then [Z.toNat] else []):=by
   show _=_;rw [hC]
   by_cases h1:0<=Z/\0<a/64%5
   · rw [if_pos h1,if_pos (by simp [h1])]
   · rw [if_neg h1,if_neg (fun e=>h1 (by simpa using e))]
  go_cut [56] from 49 to 56 (fun t wc=>cl=wc/\t=.bool C)
  case first=>
   have c4:Hid ((a:Int)/64%5=((a/64%5:Nat):Int)):=by show _=_;rfl
   rcases zb (decide (0<=Z)) with z1|z1
   ·
    have ea:decide (Z>=0)=true:=z1
    rcases zb (decide (0<a/64%5)) with u1|u1
    ·
     have u2:decide ((a:Int)/64%5>0)=true:=by rw [c4.out];exact decide_eq_true (by have:=of_decide_eq_true u1;omega)
     have ei:decide (0<(a:Int)/64%5)=true:=u2;rw [z1,u1] at hC;go_wp2_with fail;go_meet;exact ⟨rfl,by rw [hC];rfl⟩
    ·
     have u2:decide ((a:Int)/64%5>0)=false:=by rw [c4.out];exact decide_eq_false (by have:=of_decide_eq_false u1;omega)
     have ei:decide (0<(a:Int)/64%5)=false:=u2;rw [z1,u1] at hC;go_wp2_with fail;go_meet;exact ⟨rfl,by rw [hC];rfl⟩
   ·
    have ea:decide (Z>=0)=false:=z1;rw [z1] at hC;go_wp2_with fail;go_meet;exact ⟨rfl,by rw [hC];rfl⟩
  case rest=>
  obtain ⟨rfl,rfl⟩:=hcut
  go_upto_if 56 with (fail)
  go_cut [8] from 57 to 60 (fun t wc=>∃A' n' c',t=.slice A' n' c'/\n'<=2/\Eh w7 wc w.heap.size go X1 A' n' c' ([Q1]++(if C=true then [Z.toNat] else [])))
  case first=>
   cases C
   case true=>
    have z1:0<=Z:=by
     have h9:=hC.symm;rw [Bool.and_eq_true] at h9;exact of_decide_eq_true h9.1
    clear hC aj;have bz:=Blk.new cl 3 #[.int .i64 Z];have ez:Hid (Value.int .i64 Z=Qv Z.toNat):=by show Value.int .i64 Z=Value.int .i64 ((Z.toNat:Nat):Int);rw [Ay8 z1]
    have so:=a2.os;have sg:=a2.gs;have ss:=a2.sz;go_wp2_with (at_builtin;go_loud (refine Au (base:=go+1) (.tmp 57) (.tmp 59) 22 rfl rfl rfl rfl E4 (so.alloc (.cells #[.int .i64 Z] 3)) (Rd.blk (n:=1) (size:=1) bz rfl) (by simp [Value.oneCell']) (by omega) (by omega) (by rw [Ax9];omega) ?_);intro A8 c8 v8 ai cc cn);go_meet;refine ⟨A8,2,c8,rfl,by omega,(a2.non ((Fr.refl Non cl).alloc (.cells #[.int .i64 Z] 3))).app cc ?_ rfl⟩;rw [ez.out] at ai;exact ai
   case false=>
    clear hC aj;go_wp2_with fail;go_meet;exact ⟨A9,1,1,rfl,by omega,a2⟩
  case rest=>
  obtain ⟨e0,dk,ep,rfl,ew,al⟩:=hcut;clear a2 hC;generalize wc=w11 at*;have dz:Hid ((b:Int)%3=((b%3:Nat):Int)):=by show _=_;rfl
  obtain ⟨cz,ay⟩:∃cz:List Nat,Hid (cz=[Q1]++(if C=true then [Z.toNat] else [])):=⟨_,rfl⟩;rw [<- ay.out] at al;have t3:Hid (((b:Int)%3==0)=decide (b%3=0)):=by show _=_;rw [dz.out,Ay9,beq_iff_eq,decide_eq_true_eq];omega
  obtain ⟨ad,ah⟩:∃ad:List Nat,Hid (ad=cz++(if b%3=0 then [b/3%L] else [])):=⟨_,rfl⟩
  go_upto_if 63 with (fail)
  rw [t3.out];obtain ⟨C3,b2⟩:=Aa (decide (b%3=0));rw [b2.out]
  go_cut [8] from 61 to 72 (fun t wc=>∃A' n' c',t=.slice A' n' c'/\n'<=3/\Eh w7 wc w.heap.size go X1 A' n' c' ad)
  case first=>
   cases C3
   case true=>
    have ae:=lh (ah.out.trans (by rw [if_pos (of_decide_eq_true b2.out)]));have b8:=bs.out w11 al.f;have d1:=(b8.cell 1).trans g1.out;obtain ⟨Q3,c6⟩:=Aa (b/3%L);have ev:(b:Int)/3%(L:Int)=(Q3:Int):=by rw [<- c6.out];rfl
    rw [c6.out] at ae;have bz:=Blk.new w11 3 #[.int .i64 (Q3:Int)];have so:=al.os;have sg:=al.gs;have ss:=al.sz;clear t3;go_wp2_with (at_builtin;(try rw [ev]);go_loud (refine Au (base:=go+1) (.tmp 64) (.tmp 71) 22 rfl rfl rfl rfl E4 (so.alloc (.cells #[.int .i64 (Q3:Int)] 3)) (Rd.blk (n:=1) (size:=1) bz rfl) (by simp [Value.oneCell']) (by omega) (by omega) (by rw [Ax9];omega) ?_);intro A8 c8 v8 ai cc cn);go_meet;refine ⟨A8,dk+1,c8,rfl,by omega,(al.non ((Fr.refl Non w11).alloc (.cells #[.int .i64 (Q3:Int)] 3))).app cc ?_ ?_⟩
    ·
     rw [ae.out,Ay2];exact ai
    ·
     rw [ae.out,Ay5,al.len];rfl
   case false=>
    have ae:=lh (ah.out.trans (by rw [if_neg (of_decide_eq_false b2.out),List.append_nil]));clear t3;go_wp2_with fail;go_meet;exact ⟨e0,dk,ep,rfl,by omega,by rw [ae.out];exact al⟩
  case rest=>
  obtain ⟨c3,ci,cd,rfl,e3,ax⟩:=hcut;clear al b2 t3 dz;generalize wc=w12 at*;have b0:Hid (((b:Int)%2==0)=decide (b%2=0)):=by show _=_;rw [Ay9,beq_iff_eq,decide_eq_true_eq];omega
  go_upto_if 75 with (fail)
  rw [b0.out];obtain ⟨C2,a3⟩:=Aa (decide (b%2=0));rw [a3.out];obtain ⟨m0,bi,oi,ch,dd,i0,i1,i2⟩:=ao.idAt (i:=0) (by rw [hL.out];exact b9)
  go_cut [] from 73 to 88 (fun wc=>∃x2:OpL,Eh w7 wc w.heap.size go x2 c3 ci cd ad/\Hid (x2.op=C4 (if b%2=0 then 7 else 4) (1+(D:Int)) 0 0 [] (nmP r.l 0) [UInt8.ofNat (65+b/2%3)]/\x2.pastA=none/\x2.pastC=0/\x2.past=[]/\x2.by_=1+(D:Int)/\x2.at_=0/\x2.op.ok))
  case first=>
   cases C2
   case true=>
    have hc:=of_decide_eq_true a3.out;clear b0 a3;have z2:cI w12 go 2 X1.kind:=ax.b.cell 2;have y2:=ax.b.frozen 2;go_upto_region 17 with (fail)
    have ab:=ax.setB 2 (.int .i64 7) {X1 with kind:=7} rfl ax.gd (fun v' h _=>Gu h ⟨rfl,rfl,rfl⟩ ⟨rfl,rfl,rfl⟩ ⟨rfl,rfl,rfl⟩ ⟨rfl,rfl,rfl⟩ ⟨rfl,rfl,rfl⟩ ⟨rfl,rfl,rfl⟩ ⟨rfl,rfl,rfl⟩);clear z2 y2 ax;generalize w12.setCell ⟨go,2,none⟩ (.int .i64 7)=w13 at*;have g2:Hid (r.cells[2]? =some (.slice r.iA r.l.length r.iC)):=rfl;rw [dd,hL.out] at g2;have d2:=((bs.out w13 ab.f).cell 2).trans g2.out;rw [Nat.zero_mul,Az0] at i0 i1 i2;obtain ⟨ey,eh,eo⟩:=zk3 ab.f i0 i1 i2;have d9:=ab.b.frozen 16;have ek:=ab.b.frozen 17;have es:=ab.b.frozen 18;have ec:cI w13 go 16 X1.of.b:=ab.b.cell 16;have el:cI w13 go 17 X1.of.s:=ab.b.cell 17;have em:cU w13 go 18 X1.of.u:=ab.b.cell 18;go_upto_region 18 with (fail)
    have cu:=ab.setB 16 (.int .i64 m0.id.b) {X1 with kind:=7,of:=⟨m0.id.b,X1.of.s,X1.of.u⟩} rfl ab.gd (fun v' h _=>Gu h ⟨rfl,rfl,rfl⟩ ⟨rfl,rfl,rfl⟩ ⟨rfl,rfl,rfl⟩ ⟨rfl,rfl,rfl⟩ ⟨rfl,rfl,rfl⟩ ⟨rfl,rfl,rfl⟩ ⟨rfl,rfl,rfl⟩);have cw:=cu.setB 17 (.int .i64 m0.id.s) {X1 with kind:=7,of:=⟨m0.id.b,m0.id.s,X1.of.u⟩} rfl cu.gd (fun v' h _=>Gu h ⟨rfl,rfl,rfl⟩ ⟨rfl,rfl,rfl⟩ ⟨rfl,rfl,rfl⟩ ⟨rfl,rfl,rfl⟩ ⟨rfl,rfl,rfl⟩ ⟨rfl,rfl,rfl⟩ ⟨rfl,rfl,rfl⟩);have cp:=cw.setB 18 (.int .u64 (m0.id.u:Int)) {X1 with kind:=7,of:=m0.id} rfl cw.gd (fun v' h _=>Gu h ⟨rfl,rfl,rfl⟩ ⟨rfl,rfl,rfl⟩ ⟨rfl,rfl,rfl⟩ ⟨rfl,rfl,rfl⟩ ⟨rfl,rfl,rfl⟩ ⟨rfl,rfl,rfl⟩ ⟨rfl,rfl,rfl⟩);clear ab cu cw ec el em d9 ek es ey eh eo d2;generalize ((w13.setCell ⟨go,16,none⟩ (.int .i64 m0.id.b)).setCell ⟨go,17,none⟩ (.int .i64 m0.id.s)).setCell ⟨go,18,none⟩ (.int .u64 (m0.id.u:Int))=w16 at*;have bx:=cp.non ((Fr.refl Non w16).alloc (.cells #[.int .u8 (65+(b:Int)/2%3)] 5));have e5:cS (w16.alloc (.cells #[.int .u8 (65+(b:Int)/2%3)] 5)) go 14 X1.bodyA X1.body.length X1.bodyC:=bx.b.cell 14;have e8:=bx.b.frozen 14;have bb:=Blk.new w16 5 #[.int .u8 (65+(b:Int)/2%3)];have cf:=cp.sz;have dt:=b6.size;have fb:=iw (65+(b:Int)/2%3);have e6:IntKind.u8.wrap (65+(b:Int)/2%3)=65+(b:Int)/2%3:=by rw [IntKind.wrap_u8];omega
    go_wp2_with fail;go_meet;have hU:(UInt8.ofNat (65+b/2%3)).toNat=65+b/2%3:=by rw [UInt8.toNat_ofNat'];omega
    have hV:#[Value.int .u8 (65+(b:Int)/2%3)].toList=[UInt8.ofNat (65+b/2%3)].map Bv:=by
     show [Value.int .u8 (65+(b:Int)/2%3)]=[Value.int .u8 ((UInt8.ofNat (65+b/2%3)).toNat:Int)];rw [hU];rfl
    have ob:RowLies (w16.alloc (.cells #[.int .u8 (65+(b:Int)/2%3)] 5)) w.heap.size 5 1 (some ⟨w16.heap.size,0,none⟩) [UInt8.ofNat (65+b/2%3)].length 1 ([UInt8.ofNat (65+b/2%3)].map Bv):=by
     rw [<- hV];exact (RowAt.of_own (Own.blk (base:=w.heap.size) (n:=1) (size:=1) bb (by have:=cp.gs;omega) (by omega) rfl (by omega))).lies
    refine ⟨{X1 with kind:=7,of:=m0.id,bodyA:=some ⟨w16.heap.size,0,none⟩,bodyC:=1,body:=[UInt8.ofNat (65+b/2%3)]},by rw [<- World.setCell_alloc_past _ _ _ _ cf];exact bx.setB 14 (.slice (some ⟨w16.heap.size,0,none⟩) 1 1) {X1 with kind:=7,of:=m0.id,bodyA:=some ⟨w16.heap.size,0,none⟩,bodyC:=1,body:=[UInt8.ofNat (65+b/2%3)]} rfl bx.gd (fun v' h keep=>⟨h.past,h.path,h.nodes,keep _ _ _ _ _ _ (by decide) ob,h.refs,h.guards,h.boxes,h.hist,h.seals⟩),?_⟩;show _/\_;rw [a1.out,if_pos hc,Dg ch];have co:=(ao.ok m0 (Ax5 ch)).2;exact ⟨rfl,rfl,rfl,rfl,rfl,rfl,{N2 with by_:=(show I64 (1+(D:Int)) from ⟨by omega,by omega⟩),kind:=(show I64 7 from ⟨by decide,by decide⟩),of:=co,body:=(show 1<=1000000 by decide)}⟩
   case false=>
    have hc:=of_decide_eq_false a3.out;clear b0 a3;go_wp2_with fail;go_meet;refine ⟨X1,ax,?_⟩;show _/\_;rw [a1.out,if_neg hc];exact ⟨rfl,rfl,rfl,rfl,rfl,rfl,{N2 with by_:=(show I64 (1+(D:Int)) from ⟨by omega,by omega⟩),kind:=(show I64 4 from ⟨by decide,by decide⟩)}⟩
  case rest=>
  obtain ⟨x2,a4,c9⟩:=hcut;clear ax a3 b0 a1 bw;generalize wc=w18 at*;obtain ⟨ag,bp,a9,bt,a6,ce,a5⟩:=c9.out;replace ag:=lh ag;have z3:cI w18 go 3 x2.at_:=a4.b.cell 3;have y3:=a4.b.frozen 3;go_upto_region 20 with (fail)
  obtain ⟨TT,bv⟩:=Aa (b/6%4);have d0:(b:Int)/6%4=(TT:Int):=by rw [<- bv.out];rfl
  have d8:TT<4:=by rw [<- bv.out];exact Ax4 _ (by omega)
  rw [d0];have af:=a4.setB 3 (.int .i64 (TT:Int)) {x2 with at_:=(TT:Int)} rfl a4.gd (fun v' h _=>Gu h ⟨rfl,rfl,rfl⟩ ⟨rfl,rfl,rfl⟩ ⟨rfl,rfl,rfl⟩ ⟨rfl,rfl,rfl⟩ ⟨rfl,rfl,rfl⟩ ⟨rfl,rfl,rfl⟩ ⟨rfl,rfl,rfl⟩);generalize w18.setCell ⟨go,3,none⟩ (.int .i64 (TT:Int))=w19 at*
  have ar:Hid (({x2 with at_:=(TT:Int)}:OpL).op=Fj r.l a b):=by
   show _=_;show ({x2.op with at_:=(TT:Int)}:Op)=_;unfold Fj;rw [ag.out,hD.out,bv.out];unfold C4
   split<;>rfl
  have bm:({x2 with at_:=(TT:Int)}:OpL).op.ok:={a5 with at_:=(show I64 (TT:Int) from ⟨by omega,by omega⟩)};have dq:Hid (({x2 with at_:=(TT:Int)}:OpL).pastA=none/\({x2 with at_:=(TT:Int)}:OpL).pastC=0/\({x2 with at_:=(TT:Int)}:OpL).past=[]):=⟨bp,a9,bt⟩;have bd:∃d:Nat,({x2 with at_:=(TT:Int)}:OpL).by_=(d:Int)/\d<=1000:=⟨1+D,by show x2.by_=_;rw [a6];omega,by omega⟩;have a7:0<=({x2 with at_:=(TT:Int)}:OpL).at_/\({x2 with at_:=(TT:Int)}:OpL).at_<=3:=⟨by show (0:Int)<=TT;omega,by show (TT:Int)<=3;omega⟩;generalize ({x2 with at_:=(TT:Int)}:OpL)=x3 at*;clear c9 ag bp a9 bt a6 ce a5 z3 y3 a4 d0 d8
  have ac:Hid (ad=Et r.l a b):=by
   show _=_;unfold Et;rw [hL.out,hD.out,be.out,hZ.out,aj.out,<- ay.out,<- ah.out]
  have aq:=fk_in ao.rows ao.num b4 cm cv a b;rw [<- ar.out,<- ac.out] at aq;have av:∀p∈ad,p<r.l.length:=by rw [ac.out];exact T2 cm a b
  have bj:Hid (Fk l0 (j+1)=Dz r.l x3.op (C8 r.l ad)):=by
   show _=_;rw [aa.out,ar.out,ac.out];rfl
  have c5:(C8 r.l ad).length<=3:=Ay1 (Kh _ _ _) (by rw [ac.out];exact T3 _ _ _);have bu:∀p∈C8 r.l ad,p<r.l.length:=fun p hp=>av p (Ii _ hp).1;generalize hHS:C8 r.l ad=HS at*
  have kh:Hid (∀v,Fr Non w19 v->Calls zp 35 #[.agg r.cells,.slice c3 ci cd] v (Kl HS v)):=fun v hv=>by
   rw [<- hHS];exact Ap4 w.heap.size v.heap.size ci cd r c3 ad v (ao.non (af.f.trans hv zr)) af.len (af.non hv).os.rd (by omega) av
  have dt:=b6.size
  have kp:Hid (∀(v:World) (A':Option Addr) (c':Nat),Fr Non w19 v->Own v w.heap.size 3 1 A' HS.length c' (HS.map Qv)->Calls zp 32 #[.agg r.cells,.agg x3.cells,.slice A' HS.length c'] v (Gs w.heap.size r x3.op HS v)):=fun v A' c' hv ho=>
   Tz w.heap.size v.heap.size HS.length c' A' r x3 HS v (ao.non (af.f.trans hv zr)) (af.non hv).l (Ay1 dt ((af.f.trans hv zr).size)) bm dq.out bd a7 rfl ho.rd c5 bu aq
  have d4:Blk w19 gv 28 r.cells:=bs.out w19 af.f;have dp:=dc.fr af.f zq;have ck:=b6.trans af.f zr;have dl:=af.b;have cg:=ck.size;clear aq bu c5 av hHS ac ar bm dq bd a7 aa aj ay ah af bs b9 cq dr d5 dx cj ds ef e4 d6 eg b6 dc ao dd ch i0 i1 i2 dj er bv hD be hZ hL g1;have V0:Blk w19.drew gv 28 r.cells:=d4;have X0:Blk w19.drew go 52 x3.cells:=dl;have F0:Fr Non w19 w19.drew:=(Fr.refl Non w19).drew;have bf:(zp.info? 52).map (·.size)=some x3.cells.size:=by rw [show x3.cells.size=27 from rfl];kernel_rfl
  have et:=Bs (P:=zp) go 52 underlying52 rfl (cs:=x3.cells) bf;generalize x3.cells=XC at*;refine Cx (S:=fun w'=>Blk w' gv 28 r.cells/\Blk w' go 52 XC) 6 (by kernel_rfl) ?_;have uu:=aI V0 X0;refine tkG 0 uu (h:=tkG 1 uu (h:=tkG 2 uu (h:=tkG 3 uu (h:=?_))));clear uu;simp only [zl];refine Bt 4 (by kernel_rfl) rfl (fun K hK=> ?_);go_simp;go_wp2_with (go_at_call 35;(with_reducible refine (kh.out _ F0).mono ?_);rintro _ v1 ⟨e7,fd,rfl,de,cx⟩;have V1:=V0.fr cx zq;have X1:=X0.fr cx zq;have F1:=F0.trans cx zr;have d3:=Gr de (Ay1 cg (Fr.size F0)));refine hK.out _ _ ⟨V1,X1⟩ (fun hZ=> ?_);clear hZ hK K;try simp only [Ad,zl]
  refine Bt 5 (by kernel_rfl) rfl (fun K hK=> ?_);go_simp;go_wp2_with (go_at_call 32;(with_reducible refine (kp.out _ _ _ F1 d3).mono ?_);rintro _ v2 ⟨r2,rfl,cr,bg,bk,df⟩;have V2:=V1.fr cr zq;have X2:=X1.fr cr zq;have F2:=F1.trans cr zr;have ap:=Ch (P:=zp) gv 28 (cs:=r2.cells) De (old:=r.cells) rfl (Ho r2));refine hK.out _ _ ⟨V2,X2⟩ (fun hZ=> ?_);clear hZ hK K;try simp only [Ad,zl]
  have ee:=(dp.fr F2 zq).setRow_far (g':=gv) (by omega) (cs:=r2.cells);have eu:Blk (v2.setRow gv r2.cells) gv 28 r2.cells:=V2.setRow;have ak:=bg.setG V2 r2.cells;have fz:=(ck.trans F2 zr).setRow (g:=gv) (fun hh=>absurd hh (by omega)) r2.cells;refine Cs (by kernel_rfl) ?_;refine oG 6 (fun K hK=> ?_);go_simp;refine hK.out _ _ trivial (fun hZ=> ?_);clear hZ hK K;try simp only [Ad,zl]
  refine oD ?_;go_simp;rw [<- bj.out] at df;rw [b4] at bk;clear V0 V1 V2 X0 X1 X2 F0 F1 F2 bg ap dp d4 ck dl kh kp de d3 et bf bj;generalize v2.setRow gv r2.cells=wz at*;have e2:=iw ((I:Int)+2);go_wp2_with fail;go_roundw
  case rel=>exact ⟨j+1,I+2,r2,by show I+2=2*(j+1);have:=hI.out;omega,by go_num,by have:=hI.out;omega,by have:=hI.out;omega,eu,ak,bk,df,ee,fz⟩
  case measure=>simp [intOf];omega
 ·
  have dy:Hid (j=min 13 (l0.length/2)):=by
   show _=_;rw [hn.out];have:=hI.out;omega
  have hl:=Bs (P:=zp) gv 28 underlying28 rfl (cs:=r.cells) De;have d7:=Ch (P:=zp) w.heap.size 28 (cs:=r.cells) De (old:=#[.slice none 0 0,.slice none 0 0,.slice none 0 0,.slice none 0 0]) rfl (Ho r);have db:=br.setRow (cs:=r.cells);have fz:=hf.setRow (g:=w.heap.size) (fun hh=>absurd hh (by omega)) r.cells;have ak:=ro.setG br r.cells;have dv:r.l=Kn l0:=by rw [a0.out,dy.out];rfl
  have hd:Hid (Ip l0 w (.returned (.agg r.cells)) (wr.setRow w.heap.size r.cells)):=⟨r,rfl,fz,ak,b4,dv⟩;clear dv b4 ro a0 dy hok hr fz ak hf;generalize Ip l0 w=POST at*
  rcases zb (decide ((I:Int)+1<(n:Int))) with t1|t1
  ·
   have t2:decide ((I:Int)<26)=false:=decide_eq_false (by have:=of_decide_eq_true t1;omega);go_wp2_with fail
   (try simp only [Exit.inBlock,Exit.then])
   refine Dn (t:=28) rfl rfl db rfl underlying28 De rfl ?_;exact hd.out
  ·
   go_wp2_with fail
   (try simp only [Exit.inBlock,Exit.then])
   refine Dn (t:=28) rfl rfl db rfl underlying28 De rfl ?_;exact hd.out
end Oq
namespace Oq
attribute [local go_sem] Ax7 Ax8
attribute [local go_sem ↓] Hm Bo
theorem Ko {cards:List Cd} {l:List Pn} (h:Rows cards l) {p:Nat} {n:Pn} (hp:l[p]? =some n):n.o.put.length<=500000:=Yt (Ys (h.ok p n hp).chk) (by decide)
def PlaceAt (w:World) (base:Nat) (x:FG) (p:Nat) (n:Pn) (y:OpL) (b off:Nat):Prop:=x.l[p]? =some n/\y.op=n.o/\y.op.ok/\y.lies w base/\x.lA=some ⟨b,off,none⟩/\RgAt w b (off+p*27) y.cells.toList
theorem FG.own.place {w:World} {base:Nat} {x:FG} (h:x.own w base) {p:Nat} (hp:p<x.l.length):∃n y b off,PlaceAt w base x p n y b off:=by
 have hn:x.l[p]? =some x.l[p]:=Ay3 hp;obtain ⟨y,b,off,_,h2,h3,h4,_,h6⟩:=h.xAt hn;exact ⟨_,y,b,off,hn,h2,by rw [h2];exact (h.ok _ (Ax5 hn)).1,h3,h4,fun k v hv=>h6 k (List.getElem?_eq_some_iff.1 hv).1 v hv⟩
theorem PlaceAt.non {w w':World} {base p:Nat} {x:FG} {n:Pn} {y:OpL} {b off:Nat} (h:PlaceAt w base x p n y b off) (hf:Fr Non w w'):PlaceAt w' base x p n y b off:=
 ⟨h.1,h.2.1,h.2.2.1,h.2.2.2.1.non hf,h.2.2.2.2.1,h.2.2.2.2.2.fr hf zq⟩
def Kp (cards:List Cd) (l:List Pn) (ps:List Nat) (w:World) (e:Ending) (w':World):Prop:=
 ∃(r:Ai) (b:Nat),e=.returned (.pointer (some ⟨r.rb,0,none⟩))/\w.heap.size<=b/\Hid (r.okAt w' b)/\Hid (r.st=Cy cards l ps ([],[]))/\Hid (r.g.cards=cards)/\Fr Non w w'
theorem As8 (base B np cp:Nat) (x:FG) (Ap:Option Addr) (ps:List Nat) (w:World) (h:x.own w base) (hcs:x.cards=Av 0 [1,2,2,3]) (hpn:Hid (ps.length=np)) (hrp:Rd w B 1 Ap np (ps.map Qv)) (hlt:∀p∈ps,p<x.l.length) (hnp:np<=1000000) (hk:KindsAt w) (hpos:0<w.heap.size):
  Calls zp 22 #[.agg x.cells,.slice Ap np cp] w (Kp x.cards x.l ps w):=by
 have ax:(zp.info? 52).map (·.size)=some 27:=by kernel_rfl
 have bg:=Blk.new w 28 x.cells;have f0:Fr Non w (w.alloc (.cells x.cells 28)):=(Fr.refl Non w).alloc _;have ac:0<(w.alloc (.cells x.cells 28)).heap.size:=by rw [Ax9];omega
 have h0:=h.non f0;have az:=hk.fr f0;have al:=hrp.fr f0 zr;obtain ⟨gx,a1⟩:=Aa w.heap.size;have ai:Hid (∀(r:Ai) (b:Nat) (w':World),w.heap.size<=b->Hid (r.okAt w' b)->Hid (r.st=Cy x.cards x.l ps ([],[]))->Hid (r.g.cards=x.cards)->Fr Non w w'->Kp x.cards x.l ps w (.returned (.pointer (some ⟨r.rb,0,none⟩))) w'):=fun r b w' h1 h2 h3 h4 h5=>⟨r,b,rfl,h1,h2,h3,h4,h5⟩;generalize Kp x.cards x.l ps w=POST at*;have g0:Hid (x.cells[0]? =some (.slice x.cA x.cards.length x.cC)):=rfl;have g1:Hid (x.cells[1]? =some (.slice x.lA x.l.length x.lC)):=rfl;obtain ⟨L,hL⟩:=Aa x.l.length;rw [hL.out] at g1 hlt;have ar:x.cards.length=4:=by rw [hcs,Jq];rfl
 rw [ar] at g0;obtain ⟨XG,bf⟩:=Aa x.cells;rw [bf.out] at bg f0 ac h0 az al g0 g1 ⊢;rw [a1.out] at bg;clear h hk hrp;go_enter func22,ntmps22;go_upto_region 1 with (fail)
 try rw [a1.out]
 generalize w.alloc (.cells XG 28)=w0 at*
 have kn:Hid (Calls zp 6 #[.slice x.cA 4 x.cC] w0 (Gt x.cards w0)):=by
  have ay:=h0.cards.sl.rd;rw [ar,hcs] at ay;rw [hcs];exact Tw w0.heap.size 4 x.cC x.cA [1,2,2,3] w0 rfl (by decide) ay ac
 unfold Gt at kn;have c0:cS w0 gx 0 x.cA 4 x.cC:=(bg.cell 0).trans g0.out;have bc:w.heap.size<=w0.heap.size:=f0.size;go_upto_region 2 with (go_at_call 6;(with_reducible refine (kn.out).mono ?_);rintro _ w1 ⟨r,rfl,ag,ab,aa,f1⟩)
 obtain ⟨rb,a3⟩:=Aa r.rb;rw [a3.out];clear kn c0 g0 ar ac hpos;go_wp2_with fail
 go_loopw [6] (fun v wr=>∃(i:Nat) (r1:Ai),v=.int .i64 (i:Int)/\i<=np/\Hid (r1.okAt wr w0.heap.size)/\Hid (r1.rb=rb)/\Hid (r1.g.cards=x.cards)/\Hid (r1.st=Cy x.cards x.l (ps.take i) ([],[]))/\Fr Non w0 wr) (fun v _=>np-(intOf v).toNat)
 case atStart=>exact ⟨0,r,rfl,Nat.zero_le _,ag,a3,aa,ab,f1⟩
 case round=>
 clear ag ab aa f1;obtain ⟨i,r1,rfl,hi,ag,ad,aa,ab,hf⟩:=hrel
 by_cases hin:i<np
 case neg=>
  obtain rfl:i=np:=by omega
  have hd:=lh (ai.out r1 w0.heap.size wr bc ag (by show _=_;rw [ab.out,Az6 (by rw [hpn.out];exact Ax6 _)]) aa (f0.trans hf zr));rw [ad.out] at hd;clear ai ag ab aa;go_wp2_with fail;exact hd.out
 case pos=>
 have t0:decide ((i:Int)<(np:Int))=true:=decide_eq_true (by omega);have bi:decide (i<np)=true:=decide_eq_true hin;obtain ⟨p,hp⟩:∃p,ps[i]? =some p:=⟨_,Ay3 (by rw [hpn.out];exact hin)⟩;have a0:=hlt p (Ax5 hp);obtain ⟨n,y,b,ae,a9⟩:=h0.place (p:=p) (by rw [hL.out];exact a0);obtain ⟨hn,au,ap,a4,a8,ah⟩:=a9;obtain ⟨bp,op,u,rfl,_,hu,ao⟩:=al.at hin;rw [Az1,hp] at hu;injection hu with hu
 subst hu;replace ao:cI w0 bp (op+i) (p:Int):=ao;obtain ⟨i1,i2,i3⟩:=ix i np
 obtain ⟨p1,p2,p3⟩:=ix p L
 have a5:=Gm (P:=zp) y.cells b (ae+p*27) underlying52 rfl ax;have bb:∀w',RgAt w' b (ae+p*27) y.cells.toList->(ldS 52 (.pointer (some ⟨b,ae+p*27,none⟩))).run zp w'=.ok (.agg y.cells) w':=fun w' h=>a5 w' h;have kp:=lh (fun (w':World) (hf':Fr Non w0 w')=>Lx y w' (a4.non hf').at ap);unfold NewB at kp;have a7:Hid (∃m,y.op.put.length=m/\m<=500000):=⟨_,rfl,by rw [au];exact Ko h0.rows hn⟩;obtain ⟨m,hm,bh⟩:=a7.out;have kt:=lh (fun (A:Option Addr) (c:Nat) (w':World) (hf':Fr Non wr w') (hrd:Rd w' w'.heap.size 1 A m (y.op.put.map Bv))=>Nz w0.heap.size w'.heap.size m c A r1 y.op w' (ag.out.non hf') (az.fr (hf.trans hf' zr)) hm hrd (by omega) ap);unfold TakeRPost at kt;rw [ad.out] at kt;rw [hm] at kp
 have af:Hid (∀r2:Ai,r2.st=(Bk r1.g.cards r1.st y.op).2->r2.st=Cy x.cards x.l (ps.take (i+1)) ([],[])):=by
  intro r2 h2;rw [h2,aa.out,ab.out,Dd hp,S4,hn,au]
 have a2:w0.cell? ⟨gx,1,none⟩=some (.slice (some ⟨b,ae,none⟩) L x.lC):=by rw [<- a8];exact (bg.cell 1).trans g1.out
 obtain ⟨YC,a6⟩:=Aa y.cells;rw [a6.out] at ah bb kp;clear a7 hm ap a4 a5 ab hp a0 hn au a8 a6;go_upto_region 7 with (fail)
 obtain ⟨C0,D0⟩:=zk2 hf a2 ao;have R0:RgAt wr b (ae+p*27) YC.toList:=ah.fr hf zq;have F0:Fr Non wr wr.drew:=(Fr.refl Non wr).drew;have G0:Fr Non w0 wr.drew:=hf.drew;refine wp_region_held_drew (S:=fun w'=>cS w' gx 1 (some ⟨b,ae,none⟩) L x.lC/\cI w' bp (op+i) (p:Int)/\RgAt w' b (ae+p*27) YC.toList) (by kernel_rfl) ⟨C0,D0,R0⟩ (fun hHeld=> ?_);clear hHeld;have uu:=aI C0 (aI D0 R0);refine tkH 0 uu (h:=tkH 1 uu (h:=tkH 2 uu (h:=tkH 3 uu (h:=tkH 4 uu (h:=tkH 5 uu (h:=tkH 6 uu (h:=tkH 7 uu (h:=tkH 8 uu (h:=?_)))))))));clear uu;simp only [zl];refine oG 9 (fun K hK=> ?_);go_simp;go_wp2_with (go_at_call 20;(with_reducible refine (kp.out _ G0).mono ?_);rintro _ v1 ⟨A5,c5,rfl,ba,be⟩;have F1:=F0.trans be zr;obtain ⟨C1,D1⟩:=zk2 F1 C0 D0;have R1:=RgAt.fr (S:=Non) R0 F1 zq;have G1:=hf.trans F1 zr);refine hK.out _ _ ⟨C1,D1,R1⟩ (fun hZ=> ?_);clear hZ hK K;try simp only [Ad,zl]
 refine oG 10 (fun K hK=> ?_);go_simp;go_wp2_with (go_at_call 9;(with_reducible refine (kt.out _ _ _ F1 ba.rd).mono ?_);rintro _ v2 ⟨rfl,r2,aj,ak⟩);have G2:Fr Non w0 v2:=(ag.out.non F1).below aj.out.fr G1 (Ax6 _);obtain ⟨C2,D2⟩:=zk2 G2 a2 ao;have R2:RgAt v2 b (ae+p*27) YC.toList:=ah.fr G2 zq;refine hK.out _ _ ⟨C2,D2,R2⟩ (fun hZ=> ?_);clear hZ hK K;try simp only [Ad,zl]
 refine oD ?_;go_simp;have aq:=lh (af.out r2 ak.out);have bd:Hid (r2.okAt v2 w0.heap.size):=aj.out.ok;have av:Hid (r2.rb=rb):=aj.out.rb.trans ad.out;have aw:Hid (r2.g.cards=x.cards):=aj.out.cards.trans aa.out;clear af kt kp aj ak ag ad aa;go_wp2_with fail;go_roundw
 case rel=>exact ⟨i+1,r2,by go_num,by omega,bd,av,aw,aq,G2⟩
 case measure=>simp [intOf];omega
end Oq
namespace Oq
attribute [local go_sem] Ax7 Ax8
attribute [local go_sem ↓] Hm Kk Bo
def lvO (i:Nat):Op:=match (Kn ([0,1]:List Int))[i]? with|some n=>n.o|none=>Op.zero
theorem As9:(Kn ([0,1]:List Int)).length=2:=by decide+kernel
theorem At0:(Bk (Av 0 [1,2,2,3]) ([],[]) (lvO 1)).1=0/\(Bk (Av 0 [1,2,2,3]) ([],[]) (lvO 1)).2.2.length=1:=by decide+kernel
theorem At1:(Bk (Av 0 [1,2,2,3]) (Bk (Av 0 [1,2,2,3]) ([],[]) (lvO 1)).2 (lvO 0)).1=0/\(Bk (Av 0 [1,2,2,3]) (Bk (Av 0 [1,2,2,3]) ([],[]) (lvO 1)).2 (lvO 0)).2.2.length=0/\(Bk (Av 0 [1,2,2,3]) (Bk (Av 0 [1,2,2,3]) ([],[]) (lvO 1)).2 (lvO 0)).2.1.length=2:=by decide+kernel
theorem At2 (w:World) (hk:KindsAt w):Calls zp 21 #[] w (Ag true w):=by
 have aw:(zp.info? 52).map (·.size)=some 27:=by kernel_rfl
 have av:0<w.heap.size:=World.block_lt_of_cell? w _ (hk 0 (by decide));have bi:=Blk.new w 3 #[.int .i64 0,.int .i64 1];have f0:Fr Non w (w.alloc (.cells #[.int .i64 0,.int .i64 1] 3)):=(Fr.refl Non w).alloc _;have km:=lh (T7 (w.alloc (.cells #[.int .i64 0,.int .i64 1] 3)).heap.size 2 2 (some ⟨w.heap.size,0,none⟩) ([0,1]:List Int) (w.alloc (.cells #[.int .i64 0,.int .i64 1] 3)) rfl (Rd.blk (n:=2) (size:=1) bi rfl) (by decide) (by intro x hx;simp only [List.mem_cons,Ax3,or_false] at hx;rcases hx with rfl|rfl<;>exact ⟨by decide,by decide⟩))
 unfold Ip at km;have ap:Hid (∀wz,Fr Non w wz->Ag true w (.returned (.bool true)) wz):=fun wz h=>⟨rfl,h⟩;generalize Ag true w=POST at*;clear bi;replace hk:=lh hk;go_enter func21,ntmps21;go_upto_region 2 with (go_at_call 5;(with_reducible refine (km.out).mono ?_);rintro _ w1 ⟨r,rfl,f1,ro,al,ay⟩;(have bn:=Blk.new w1 28 #[.slice none 0 0,.slice none 0 0,.slice none 0 0,.slice none 0 0]);(have ax:=Ch (P:=zp) w1.heap.size 28 (cs:=r.cells) De (old:=#[.slice none 0 0,.slice none 0 0,.slice none 0 0,.slice none 0 0]) rfl (Ho r)))
 have bg:Blk ((w1.alloc (.cells #[.slice none 0 0,.slice none 0 0,.slice none 0 0,.slice none 0 0] 28)).setRow w1.heap.size r.cells) w1.heap.size 28 r.cells:=bn.setRow;have fG:Fr Non w1 ((w1.alloc (.cells #[.slice none 0 0,.slice none 0 0,.slice none 0 0,.slice none 0 0] 28)).setRow w1.heap.size r.cells):=((Fr.refl Non w1).alloc _).setRow (fun hh=>absurd hh (by omega)) _;have f2:=(f0.trans f1 zr).trans fG zr;have ad:=ro.non fG;obtain ⟨gv,bp⟩:=Aa w1.heap.size;rw [bp.out] at bg f2 ⊢;rw [bp.out] at ad;clear ax bn fG ro f1 km;generalize (w1.alloc (.cells #[.slice none 0 0,.slice none 0 0,.slice none 0 0,.slice none 0 0] 28)).setRow gv r.cells=w2 at*;have ac:r.l.length=2:=by rw [ay];exact As9
 have g0:Hid (r.cells[0]? =some (.slice r.cA 4 r.cC)):=by show r.cells[0]? =_;rw [show (4:Nat)=r.cards.length by rw [al,Jq];rfl];rfl
 have g1:Hid (r.cells[1]? =some (.slice r.lA 2 r.lC)):=by show r.cells[1]? =_;rw [<- ac];rfl
 have c0:cS w2 gv 0 r.cA 4 r.cC:=(bg.cell 0).trans g0.out
 have kn:Hid (Calls zp 6 #[.slice r.cA 4 r.cC] w2 (Gt r.cards w2)):=by
  have aj:=ad.cards.sl.rd;rw [show r.cards.length=4 by rw [al,Jq];rfl,al] at aj;rw [al];exact Tw w2.heap.size 4 r.cC r.cA [1,2,2,3] w2 rfl (by decide) aj (Ay4 av f2.size)
 unfold Gt at kn;go_upto_region 3 with (go_at_call 6;(with_reducible refine (kn.out).mono ?_);rintro _ w3 ⟨s,rfl,hs,ax,bz,f3⟩)
 have b8:=f2.trans f3 zr;have b6:=ad.non f3;have cb:=bg.fr f3 zq;clear kn c0 g0;obtain ⟨sb,bh⟩:=Aa s.rb;rw [bh.out];obtain ⟨n1,y1,b1,o1,a7,a8,a4,bv,ba,b2⟩:=ad.place (p:=1) (by rw [ac];decide);obtain ⟨n0,y0,b0,o0,a5,bd,a6,bt,a3,aj⟩:=ad.place (p:=0) (by rw [ac];decide);obtain ⟨rfl,rfl⟩:b0=b1/\o0=o1:=by rw [a3] at ba;injection ba with e;injection e with e1 e2;exact ⟨e1,e2⟩
 have c2:w2.cell? ⟨gv,1,none⟩=some (.slice (some ⟨b0,o0,none⟩) 2 r.lC):=by rw [<- a3];exact (bg.cell 1).trans g1.out
 have c1:=f3.cell c2 zq;have bc:y1.op=lvO 1:=by rw [a8];unfold lvO;rw [<- ay,a7]
 have b3:y0.op=lvO 0:=by rw [bd];unfold lvO;rw [<- ay,a5]
 have ak:=lh (Lx y1 w3 (bv.non f3).at a4);have ao:=lh (fun (w':World) (h:Fr Non w2 w')=>Lx y0 w' (bt.non h).at a6);unfold NewB at ak ao;have bq:Hid (∃m,y1.op.put.length=m/\m<=500000):=⟨_,rfl,by rw [a8];exact Ko ad.rows a7⟩;have bs:Hid (∃m,y0.op.put.length=m/\m<=500000):=⟨_,rfl,by rw [bd];exact Ko ad.rows a5⟩;obtain ⟨m1,e1,z1⟩:=bq.out;obtain ⟨m0,e0,z0⟩:=bs.out;have af:=Gm (P:=zp) y1.cells b0 (o0+1*27) underlying52 rfl aw w3 (b2.fr f3 zq);have aa:=Gm (P:=zp) y0.cells b0 (o0+0*27) underlying52 rfl aw;rw [Nat.zero_mul,Az0] at aa aj;rw [Nat.one_mul] at af;rw [e1] at ak;rw [e0] at ao;have bb:s.g.cards=Av 0 [1,2,2,3]:=by rw [bz.out,al]
 have ar:=lh (fun (A:Option Addr) (c:Nat) (w':World) (hf:Fr Non w3 w') (hrd:Rd w' w'.heap.size 1 A m1 (y1.op.put.map Bv))=>Nz w2.heap.size w'.heap.size m1 c A s y1.op w' (hs.out.non hf) (hk.out.fr (b8.trans hf zr)) e1 hrd (by omega) a4);have a1:=lh (fun (A:Option Addr) (c:Nat) (s':Ai) (w':World) (hs':s'.okAt w' w2.heap.size) (hf:Fr Non w2 w') (hrd:Rd w' w'.heap.size 1 A m0 (y0.op.put.map Bv))=>Nz w2.heap.size w'.heap.size m0 c A s' y0.op w' hs' (hk.out.fr (f2.trans hf zr)) e0 hrd (by omega) a6);unfold TakeRPost at ar a1;rw [bh.out,ax.out,bb,bc] at ar;obtain ⟨bm,bw⟩:=At0;obtain ⟨bj,bx,bl⟩:=At1;rw [bm] at ar;obtain ⟨Y1,ca⟩:=Aa y1.cells;obtain ⟨Y0,cd⟩:=Aa y0.cells;rw [ca.out] at af ak;rw [cd.out] at aa ao aj;rw [bc] at ak;rw [b3] at ao a1;clear bq bs a7 a5 a8 bd bv bt ba a3 g1 ay ac b6 ad bg cb b2 bc b3 al bm e1 e0 a4 a6 av;generalize hT1:(Bk (Av 0 [1,2,2,3]) ([],[]) (lvO 1)).2=T1 at*;replace hT1:=lh hT1;generalize (lvO 1).put=P1 at*
 go_upto_region 6 with (first
  |(go_at_call 20;(with_reducible refine (ak.out).mono ?_);rintro _ w4 ⟨A4,c4,rfl,o4,f4⟩)
  |(go_at_call 9;(with_reducible refine (ar.out _ _ _ f4 o4.rd).mono ?_);rintro _ w5 ⟨rfl,s5,au,ah⟩))
 have bk:Fr Non w2 w5:=(hs.out.non f4).below au.out.fr (f3.trans f4 zr) (Ax6 _);have c5:=bk.cell c2 zq;have ae:Hid (s5.rb=sb):=au.out.rb.trans bh.out;have bf:Hid (s5.g.cards=Av 0 [1,2,2,3]):=au.out.cards.trans bb;have ab:Hid (s5.okAt w5 w2.heap.size):=au.out.ok
 have b7:Hid (s5.ws.length=1):=by
  show _=_;have:=congrArg (fun z:List Pn × List Op=>z.2.length) ah.out;unfold Ai.st at this;simp only [Ay6] at this;rw [this,bw]
 have a9:=lh (Tx w2.heap.size s5 w5 ab.out);rw [ae.out,b7.out] at a9;clear au hs ax bz ar ak bb f4 o4 af c1 bw;go_upto_region 7 with (go_at_call 11;(with_reducible refine (a9.out).mono ?_);rintro _ w6 ⟨rfl,f6⟩)
 have a2:=bk.trans f6 zr;have c6:=f6.cell c5 zq;have b9:=aa w6 (aj.fr a2 zq);have bo:=lh (ao.out w6 a2);have be:=lh (fun (A:Option Addr) (c:Nat) (w':World) (hf:Fr Non w6 w') (hrd:Rd w' w'.heap.size 1 A m0 ((lvO 0).put.map Bv))=>a1.out A c s5 w' (ab.out.non (f6.trans hf zr)) (a2.trans hf zr) hrd);rw [ae.out,ah.out,bf.out,bj] at be;clear ao a1 aa a9 c5 bj;generalize (lvO 0).put=P0 at*
 go_upto_region 8 with (first
  |(go_at_call 20;(with_reducible refine (bo.out).mono ?_);rintro _ w7 ⟨A7,c7,rfl,o7,f7⟩)
  |(go_at_call 9;(with_reducible refine (be.out _ _ _ f7 o7.rd).mono ?_);rintro _ w8 ⟨rfl,s8,a0,ai⟩))
 have cc:Fr Non w2 w8:=(ab.out.non (f6.trans f7 zr)).below a0.out.fr (a2.trans f7 zr) (Ax6 _);have aq:Hid (s8.rb=sb):=a0.out.rb.trans ae.out;have ag:Hid (s8.okAt w8 w2.heap.size):=a0.out.ok
 have b5:Hid (s8.ws.length=0):=by
  show _=_;have:=congrArg (fun z:List Pn × List Op=>z.2.length) ai.out;unfold Ai.st at this;simp only [Ay6] at this;rw [this,bx]
 have b4:Hid (s8.g.pns.length=2):=by
  show _=_;have:=congrArg (fun z:List Pn × List Op=>z.1.length) ai.out;unfold Ai.st at this;dsimp only at this;rw [this,bl]
 have bu:=lh (Tx w2.heap.size s8 w8 ag.out);rw [aq.out,b5.out] at bu;have az:=lh (fun (w':World) (h:Fr Non w8 w')=>Ar6 w2.heap.size s8 w' (ag.out.non h));have br:(Az (s8.g.pns.map Pn.id)).length=2:=by rw [Kf,Ay6];exact b4.out
 unfold E3 at az;rw [aq.out] at az;generalize Az (s8.g.pns.map Pn.id)=IS at*;rw [br] at az;have hd:=lh (fun (w':World) (hf:Fr Non w8 w')=>ap.out w' ((f2.trans cc zr).trans hf zr));clear a0 ai ag ab ah bo be o7 c6 b9 bx bl ap br
 go_wp2_with (first
  |(go_at_call 11;(with_reducible refine (bu.out).mono ?_);rintro _ w9 ⟨rfl,f9⟩)
  |(go_at_call 13;(with_reducible refine (az.out _ f9).mono ?_);rintro _ wA ⟨AA,cA,rfl,oA,fA⟩;have hd:=lh (hd.out wA (f9.trans fA zr))))
 exact hd.out
end Oq
namespace Oq
attribute [local go_sem] Ax7 Ax8
attribute [local go_sem ↓] Hm
def Gc {α:Type} (ys:List α) (a:Nat):List α:=ys.drop a++ys.take a
theorem T8 {α:Type} (ys:List α) (a:Nat):(Gc ys a).Perm ys:=by
 unfold Gc;have h:=List.perm_append_comm (l₁:=ys.drop a) (l₂:=ys.take a);rwa [List.take_append_drop] at h
theorem At3 {α:Type} (ys:List α) {a i:Nat} (ha:a<ys.length) (hi:i<ys.length):(Gc ys a)[i]? =ys[(i+a)%ys.length]? :=by
 unfold Gc;have hd:(ys.drop a).length=ys.length-a:=List.length_drop
 rcases Az2 i (ys.length-a) with h|h
 · rw [List.getElem?_append_left (by omega),List.getElem?_drop,Az3 (by omega),Nat.add_comm]
 ·
  rw [List.getElem?_append_right (by omega),hd,List.getElem?_take_of_lt (by omega)];congr 1;rw [Nat.mod_eq_sub_mod (by omega),Az3 (by omega)];omega
def Kq (l:List Pn) (w:World) (e:Ending) (w':World):Prop:=∃(on ys:List Nat) (ns:List Id) (A:Option Addr) (c:Nat),e=.returned (.slice A ns.length c)/\Fi l on ys/\(∀q∈ys,q<l.length)/\on≠[]/\ns.Perm (ys.map (nmP l))/\Own w' w.heap.size 45 3 A ns.length c (ns.flatMap Id.cells)/\Fr Non w w'
theorem At4 (base B n c:Nat) (A:Option Addr) (l0:List Int) (r:FG) (w:World) (h:r.own w base) (hne:r.l≠[]) (hn:Hid (l0.length=n)) (hr:Rd w B 1 A n (l0.map Iv)) (hnm:n<=9223372036854775807) (hok:∀x∈l0,I64 x):
  Calls zp 16 #[.agg r.cells,.slice A n c] w (Kq r.l w):=by
 have bc:=h.num.few;have bg:=Blk.new w 28 r.cells;have f0:Fr Non w (w.alloc (.cells r.cells 28)):=(Fr.refl Non w).alloc _;have g1:Hid (r.cells[1]? =some (.slice r.lA r.l.length r.lC)):=rfl;have g2:Hid (r.cells[2]? =some (.slice r.iA r.l.length r.iC)):=rfl;have bj:0<r.l.length:=List.length_pos_iff.2 hne;have a8:=lh (fun (v:World) (i:Nat) (hv:Fr Non w v) (hi:i<=1000)=>Nl B n c i A l0 v hn (hr.fr hv zr) hok hnm hi);have az:Hid (∀v,Fr Non w v->Calls zp 33 #[.slice A n c,.int .i64 0] v fun e w'=>e=.returned (.int .i64 (Cz l0 0:Int))/\Fr Non v w'):=fun v hv=>a8.out v 0 hv (by omega);have kb:=lh (fun (v:World) (A':Option Addr) (c':Nat) (on:List Nat) (hf:Fr Non w v) (ho:Rd v v.heap.size 1 A' 3 (on.map Qv)) (h3:on.length=3) (hlt:∀p∈on,p<r.l.length)=>Tf base v.heap.size 3 c' r A' on v (h.non hf) h3 ho (by omega) hlt);have ag:Hid (∀p,p<r.l.length->∃(m:Pn) (b off:Nat),r.l[p]? =some m/\r.iA=some ⟨b,off,none⟩/\cI w b (off+p*3) m.id.b/\cI w b (off+p*3+1) m.id.s/\cU w b (off+p*3+2) m.id.u):=fun p hp=>h.idAt hp;have hl:=Bs (P:=zp) w.heap.size 28 underlying28 rfl (cs:=r.cells) De;have bn:=lh (Ns l0);clear h hr hok;obtain ⟨L,hL⟩:=Aa r.l.length;rw [hL.out] at g1 g2 bc bj ag;have b6:((L:Int)==0)=false:=beq_eq_false_iff_ne.2 (by omega);have b3:¬(L:Int)=0:=by omega
 have bw:¬L=0:=by omega
 go_enter func16,ntmps16;go_upto_region 1 with (fail)
 have cb:=f0.size;generalize w.alloc (.cells r.cells 28)=w0 at*;have bt:w.heap.size+1<=w0.heap.size:=bg.lt;go_wp2_with fail
 go_loopw [5,6] (fun s v wr=>∃(i:Nat) (Ax:Option Addr) (cx:Nat) (on:List Nat),v=.int .i64 (i:Int)/\s=.slice Ax i cx/\i<=3/\Hid (on.length=i)/\Hid (∀p∈on,p<L)/\Own wr w0.heap.size 3 1 Ax i cx (on.map Qv)/\Fr Non w0 wr) (fun _ v _=>3-(intOf v).toNat)
 case atStart=>exact ⟨0,none,0,[],rfl,rfl,by omega,rfl,fun _ hp=>absurd hp Ax3,Own.nil _ _ _ _,Fr.refl _ _⟩
 case round=>
  obtain ⟨i,Ax,cx,on,rfl,rfl,hi,al,aq,aa,hf⟩:=hrel;have af:Fr Non w wr:=f0.trans hf zr
  by_cases hi3:i<3
  ·
   have t0:decide ((i:Int)<3)=true:=decide_eq_true (by omega);have e1:=iw ((i:Int)+1);have kq:=lh (a8.out wr.drew i af.drew (by omega));have a0:=bn.out i;obtain ⟨a,ha⟩:=Aa (Cz l0 i);rw [ha.out] at kq a0;obtain ⟨P,hP⟩:=Aa (a%L);have b1:P<L:=by rw [<- hP.out];exact Ax4 _ bj
   have ak:(a:Int)%(L:Int)=(P:Int):=by rw [<- hP.out];rfl
   have bm:(a:Int).tmod (L:Int)=(P:Int):=by rw [Ay0 (by omega)];exact ak
   have e2:=iw (P:Int);go_upto_region 5 with (fail)
   have G0:cS wr.drew w.heap.size 1 r.lA L r.lC:=((bg.fr hf.drew zq).cell 1).trans g1.out;have F0:Fr Non wr wr.drew:=(Fr.refl Non wr).drew;clear ag;refine wp_region_held_drew (S:=fun w'=>cS w' w.heap.size 1 r.lA L r.lC) (by kernel_rfl) G0 (fun hHeld=> ?_);clear hHeld;refine tkH 0 G0 (h:=tkH 1 G0 (h:=tkH 2 G0 (h:=tkH 4 G0 (h:=tkH 5 G0 (h:=tkH 6 G0 (h:=?_))))));simp only [zl];refine oG 3 (fun K hK=> ?_);go_simp;go_wp2_with (go_at_call 33;(with_reducible refine (kq.out).mono ?_);rintro _ v1 ⟨rfl,bq⟩;have G1:=bq.cell G0 zq;have F1:=F0.trans bq zr);refine hK.out _ _ G1 (fun hZ=> ?_);clear hZ hK K;try simp only [Ad,zl]
   refine tkH 7 G1 (h:=?_);simp only [zl];refine oG 8 (fun K hK=> ?_);go_simp;try rw [ak]
   have ay:=Blk.new v1 3 #[.int .i64 (P:Int)];have fa:=(Fr.refl Non v1).alloc (.cells #[.int .i64 (P:Int)] 3);have F2:=F1.trans fa zr;have G2:=fa.cell G1 zq;have ae:=(aa.fr F2 zr);have ad:=ae.row;have b4:=hf.size;have b5:=F2.size;refine hK.out _ _ G2 (fun hZ=> ?_);clear hZ hK K;try simp only [Ad,zl]
   generalize v1.alloc (.cells #[.int .i64 (P:Int)] 3)=v2 at*;refine oG 9 (fun K hK=> ?_);refine Es (base:=w0.heap.size) (.tmp 15) (.tmp 23) 22 rfl rfl rfl E4 ae (Rd.blk (n:=1) (size:=1) ay rfl) (by simp [Value.oneCell']) (by omega) (by omega) (by omega) ?_;intro A8 c8 v3 ac ah ap;have F3:=(hf.trans F2 zr).trans ah (fun q hq e=>by have h9:=(ad q e).1;omega);have G3:=ah.cell G2 (fun e=>by have h9:w0.heap.size<=w.heap.size:=(ad _ e).1;omega);refine hK.out _ _ G3 (fun hZ=> ?_);clear hZ hK K;try simp only [Ad,zl]
   refine tkH 10 G3 (h:=?_);simp only [zl];refine oD ?_;go_simp
   have ao:Own v3 w0.heap.size 3 1 A8 (i+1) c8 ((on++[P]).map Qv):=by
    rw [Ay2];exact ac
   have be:Hid (∀p∈on++[P],p<L):=fun p hp=>by
    rcases List.mem_append.1 hp with hp|hp
    · exact aq.out p hp
    · rw [List.mem_singleton.1 hp];exact b1
   clear ac ah ap aa ae ad G0 G1 G2 G3 F0 F1 F2 fa hf kq ay;go_wp2_with fail;go_roundw
   case rel=>exact ⟨i+1,A8,c8,on++[P],by go_num,rfl,by omega,by (show (on++[P]).length=i+1);rw [Ay5,al.out];rfl,be.out,ao,F3⟩
   case measure=>simp [intOf];omega
  ·
   obtain rfl:i=3:=by omega
   have t0:decide (((3:Nat):Int)<3)=false:=by decide
   have bl:=bg.fr hf zq;have bk:=lh (kb.out wr Ax cx on af aa.rd al.out (by rw [hL.out];exact aq.out));go_upto_region 7 with (go_at_call 47;(with_reducible refine (bk.out).mono ?_);rintro _ w2 ⟨ys,A7,c7,rfl,a2,ar,ab,f2⟩)
   have a5:0<ys.length:=by
    have h3:on≠[]:=by intro e;rw [e] at al;have:=al.out;simp at this
    obtain ⟨p,hp⟩:=List.exists_mem_of_ne_nil on h3;exact List.length_pos_of_mem ((a2.2 p).2 (.inl hp))
   have bz:ys.length<=14:=by
    have:=Gp a2.1 (ys:=List.range r.l.length) (fun q hq=>List.mem_range.2 (ar q hq));rw [List.length_range,hL.out] at this;omega
   have aw:Hid (∀(ns:List Id) A c w',ns.Perm (ys.map (nmP r.l))->Own w' w.heap.size 45 3 A ns.length c (ns.flatMap Id.cells)->Fr Non w w'->Kq r.l w (.returned (.slice A ns.length c)) w'):=fun ns A c w' h1 h2 h3=>⟨on,ys,ns,A,c,rfl,a2,ar,(by intro e;rw [e] at al;have:=al.out;simp at this),h1,h2,h3⟩;generalize Kq r.l w=POST at*;rw [hL.out] at ar;replace ar:=lh ar;have bd:=af.trans f2 zr;have bo:=bl.fr f2 zq;have ca:=hf.size;clear kb bk a8 a2 aa hf af bl f2 al aq bg hl;obtain ⟨M,hM⟩:=Aa ys.length;rw [hM.out] at ab a5 bz ⊢;have kq:=lh (az.out w2 bd);have a0:=bn.out 0;obtain ⟨a,ha⟩:=Aa (Cz l0 0);rw [ha.out] at kq a0;have b8:¬(M:Int)=0:=by omega
   have bv:¬M=0:=by omega
   obtain ⟨P,hP⟩:=Aa (a%M);have bx:P<M:=by rw [<- hP.out];exact Ax4 _ a5
   have ak:(a:Int)%(M:Int)=(P:Int):=by rw [<- hP.out];rfl
   have eP:=iw (P:Int);go_upto_region 8 with (go_at_call 33;(with_reducible refine (kq.out).mono ?_);rintro _ w3 ⟨rfl,f3⟩)
   try rw [ak]
   have ac:=ab.fr f3 zr;have a7:=bd.trans f3 zr;have br:=bo.fr f3 zq;have bb:w.heap.size<w3.heap.size:=br.lt
   have a9:Hid (∀i,i<M->(Gc ys P)[i]? =ys[(i+P)%M]?):=fun i hi=>by
    have:=At3 ys (a:=P) (i:=i) (by rw [hM.out];exact bx) (by rw [hM.out];exact hi);rw [hM.out] at this;exact this
   have bh:Hid ((Gc ys P).length=M):=(T8 ys P).length_eq.trans hM.out;have bs:Hid (((Gc ys P).map (nmP r.l)).Perm (ys.map (nmP r.l))):=(T8 ys P).map _;generalize Gc ys P=RK at*;clear ab bo bd f3 kq az a0 ha hP ak;go_wp2_with fail
   go_loopw [9,10] (fun s v wr=>∃(i:Nat) (Ax:Option Addr) (cx:Nat),v=.int .i64 (i:Int)/\s=.slice Ax i cx/\i<=M/\Own wr w3.heap.size 45 3 Ax i cx (((RK.take i).map (nmP r.l)).flatMap Id.cells)/\Own wr w0.heap.size 3 1 A7 M c7 (ys.map Qv)/\Fr Non w3 wr) (fun _ v _=>M-(intOf v).toNat)
   case atStart=>exact ⟨0,none,0,rfl,rfl,by omega,Own.nil _ _ _ _,Gr ac (by omega),Fr.refl _ _⟩
   case round=>
    obtain ⟨i,Ax,cx,rfl,rfl,hi,aa,ab,hf⟩:=hrel;have af:Fr Non w wr:=a7.trans hf zr
    by_cases hiM:i<M
    ·
     have t0:decide ((i:Int)<M)=true:=decide_eq_true (by omega);have b2:decide (i<M)=true:=decide_eq_true hiM;have e1:=iw ((i:Int)+1);have e3:=iw ((i:Int)+(P:Int));obtain ⟨Q,hQ⟩:=Aa ((i+P)%M);have bp:Q<M:=by rw [<- hQ.out];exact Ax4 _ a5
     have ak:((i:Int)+(P:Int))%(M:Int)=(Q:Int):=by rw [<- hQ.out];rfl
     have bm:((i:Int)+(P:Int)).tmod (M:Int)=(Q:Int):=by rw [Ay0 (by omega)];exact ak
     have e4:=iw (Q:Int);obtain ⟨y,hy⟩:∃y,ys[Q]? =some y:=⟨_,Ay3 (by rw [hM.out];exact bp)⟩;have bf:RK[i]? =some y:=by rw [a9.out i hiM,hQ.out];exact hy
     have b0:=ar.out y (Ax5 hy);obtain ⟨m',bi,oi,hm,bu,d0,d1,d2⟩:=ag.out y b0;obtain ⟨b7,o7,u7,rfl,_,a1,d7⟩:=ab.rd.at bp;rw [Az1,hy] at a1;injection a1 with a1
     subst a1;replace d7:cI wr b7 (o7+Q) (y:Int):=d7;have hnm:=Dg hm;have a4:Hid ((RK.take (i+1)).map (nmP r.l)=(RK.take i).map (nmP r.l)++[m'.id]):=by show _=_;rw [Dd bf,Ay2,List.map_cons,List.map_nil,hnm]
     obtain ⟨q1,q2,q3⟩:=ix Q M
     obtain ⟨p1,p2,p3⟩:=ix y L
     have a6:=g2.out;rw [bu] at a6;have ba:=aa.row;have b9:=hf.size;go_upto_region 12 with (fail)
     have Hb:cS wr w.heap.size 2 (some ⟨bi,oi,none⟩) L r.iC:=((br.fr hf zq).cell 2).trans a6;have F0:Fr Non wr wr.drew:=(Fr.refl Non wr).drew;have Yb:=d7;obtain ⟨Ib,Jb,Kb⟩:=zk3 af d0 d1 d2;have H0:cS wr.drew w.heap.size 2 (some ⟨bi,oi,none⟩) L r.iC:=Hb;have Y0:cI wr.drew b7 (o7+Q) (y:Int):=Yb;have I0:cI wr.drew bi (oi+y*3) m'.id.b:=Ib;have J0:cI wr.drew bi (oi+y*3+1) m'.id.s:=Jb;have K0:cU wr.drew bi (oi+y*3+2) m'.id.u:=Kb;have av:Hid (∀q,Ac (some (⟨b7,o7,none⟩:Addr))=some q->Ac Ax≠some q):=fun q h1 h2=>Own.ne2 ab aa (by decide) q h1 h2;clear ag hy bf hnm a6 hm;refine wp_region_held_drew (S:=fun w'=>cS w' w.heap.size 2 (some ⟨bi,oi,none⟩) L r.iC/\cI w' b7 (o7+Q) (y:Int)/\cI w' bi (oi+y*3) m'.id.b/\cI w' bi (oi+y*3+1) m'.id.s/\cU w' bi (oi+y*3+2) m'.id.u) (by kernel_rfl) ⟨H0,Y0,I0,J0,K0⟩ (fun hHeld=> ?_);clear hHeld;have uu:=aI H0 (aI Y0 (aI I0 (aI J0 K0)));refine tkH 0 uu (h:=tkH 1 uu (h:=tkH 2 uu (h:=tkH 3 uu (h:=tkH 4 uu (h:=tkH 5 uu (h:=tkH 6 uu (h:=tkH 7 uu (h:=tkH 8 uu (h:=tkH 9 uu (h:=?_))))))))));clear uu;simp only [zl];try simp only [e3,bm,ak,e4]
     have uu:=aI H0 (aI Y0 (aI I0 (aI J0 K0)));refine tkH 10 uu (h:=tkH 11 uu (h:=tkH 12 uu (h:=tkH 13 uu (h:=?_))));clear uu;simp only [zl];refine oG 14 (fun K hK=> ?_);go_simp;have ay:=(Blk.new wr 45 m'.id.V).drew;have F1:Fr Non wr (wr.alloc (.cells m'.id.V 45)).drew:=((Fr.refl _ _).alloc _).drew;generalize (wr.alloc (.cells m'.id.V 45)).drew=v1 at*;obtain ⟨H1,Y1,I1,J1,K1⟩:=zk5 F1 Hb Yb Ib Jb Kb;refine hK.out _ _ ⟨H1,Y1,I1,J1,K1⟩ (fun hZ=> ?_);clear hZ hK K;try simp only [Ad,zl]
     have ai:=aa.fr F1 zr;have aj:=ab.fr F1 zr;have cc:=F1.size;refine oG 15 (fun K hK=> ?_);refine Es (base:=w3.heap.size) (.tmp 39) (.tmp 53) 25 rfl rfl rfl C7 ai (Rd.blk (n:=1) (size:=3) ay rfl) (by simp [Value.oneCell']) (by omega) (by omega) (by omega) ?_;intro A8 c8 v2 ac ah ap;have fS:∀q,Ac Ax=some q->w3.heap.size<=q:=fun q e=>(ba q e).1;have F3:Fr Non w3 v2:=(hf.trans F1 zr).trans ah (fun q hq e=>by have h9:=fS q e;omega);have a3:Fr Non w v2:=a7.trans F3 zr;have H2:=ah.cell H1 (fun e=>by have h9:w3.heap.size<=w.heap.size:=fS _ e;have h8:=bb;omega);have Y2:=ah.cell Y1 (fun e=>av.out b7 rfl e);obtain ⟨I2,J2,K2⟩:=zk3 a3 d0 d1 d2;refine hK.out _ _ ⟨H2,Y2,I2,J2,K2⟩ (fun hZ=> ?_);clear hZ hK K;try simp only [Ad,zl]
     refine tkH 16 ⟨H2,Y2,I2,J2,K2⟩ (h:=?_);simp only [zl];refine oD ?_;go_simp
     have ao:Own v2 w3.heap.size 45 3 A8 (i+1) c8 (((RK.take (i+1)).map (nmP r.l)).flatMap Id.cells):=by
      rw [a4.out,List.flatMap_append];exact ac
     have au:Own v2 w0.heap.size 3 1 (some ⟨b7,o7,none⟩) M c7 (ys.map Qv):=aj.fr ah (fun q h1 h2=>av.out q h1 h2);clear ac aj aa ai ab ah ap ay H0 Y0 I0 J0 K0 H1 Y1 I1 J1 K1 H2 Y2 I2 J2 K2 Hb Yb Ib Jb Kb F0 F1 hf af a3 a4;go_wp2_with fail;go_roundw
     case rel=>exact ⟨i+1,A8,c8,by go_num,rfl,by omega,ao,au,F3⟩
     case measure=>simp [intOf];omega
    ·
     obtain rfl:i=M:=by omega
     have t0:decide ((i:Int)<i)=false:=decide_eq_false (by omega);have b2:decide (i<i)=false:=decide_eq_false (by omega);have ax:((RK.take i).map (nmP r.l)).length=i:=by rw [Ay6,List.length_take,bh.out];omega
     have a4:RK.take i=RK:=by rw [<- bh.out,List.take_length]
     have hd:=lh (aw.out ((RK.take i).map (nmP r.l)) Ax cx wr (by rw [a4];exact bs.out) (by rw [ax];exact Gr aa a7.size) af);rw [ax] at hd;clear aw aa ab;go_wp2_with fail;exact hd.out
theorem At5 {L K p:Nat} (hp:p<L):∃j,j<L/\(L-1-j+K)%L=p:=by
 refine ⟨(L-1+K-p)%L,Ax4 _ (by omega),?_⟩;have h1:=Nat.div_add_mod (L-1+K-p) L;have h2:(L-1+K-p)%L<L:=Ax4 _ (by omega);generalize (L-1+K-p)%L=j at*;generalize (L-1+K-p)/L=d at*;have e:L-1-j+K=p+L*d:=by omega
 rw [e,Nat.add_mul_mod_self_left,Az3 hp]
def Kr (L:Nat) (w:World) (e:Ending) (w':World):Prop:=
 ∃(ps:List Nat) (A:Option Addr) (n c:Nat),e=.returned (.slice A n c)/\Hid (ps.length=n)/\Own w' w.heap.size 3 1 A n c (ps.map Qv)/\Hid (∀p∈ps,p<L)/\Hid (∀p,p<L->p∈ps)/\n<=400/\Fr Non w w'
theorem At6 (base B m c:Nat) (x:FG) (A:Option Addr) (turn:Int) (ag:List Int) (w:World) (h:x.own w base) (hne:x.l≠[]) (ht:I64 turn) (hn:Hid (ag.length=m)) (hr:Rd w B 1 A m (ag.map Iv)) (hok:∀x∈ag,I64 x):
  Calls zp 23 #[.agg x.cells,.int .i64 turn,.slice A m c] w (Kr x.l.length w):=by
 have aq:=h.num.few;have a2:0<x.l.length:=List.length_pos_iff.2 hne;have bg:=Blk.new w 28 x.cells;have f0:Fr Non w (w.alloc (.cells x.cells 28)):=(Fr.refl Non w).alloc _;have g1:Hid (x.cells[1]? =some (.slice x.lA x.l.length x.lC)):=rfl;obtain ⟨L,hL⟩:=Aa x.l.length;rw [hL.out] at g1 aq a2 ⊢;have aw:=hr.fr f0 zr;obtain ⟨gx,ao⟩:=Aa w.heap.size;have ac:Hid (∀(ps:List Nat) (A:Option Addr) (n c:Nat) (w':World),Hid (ps.length=n)->Own w' w.heap.size 3 1 A n c (ps.map Qv)->Hid (∀p∈ps,p<L)->Hid (∀p,p<L->p∈ps)->n<=400->Fr Non w w'->Kr L w (.returned (.slice A n c)) w'):=fun ps A n c w' h1 h2 h3 h4 h5 h6=>⟨ps,A,n,c,rfl,h1,h2,h3,h4,h5,h6⟩;generalize Kr L w=POST at*;obtain ⟨XG,a1⟩:=Aa x.cells;rw [a1.out] at bg f0 aw g1 ⊢;rw [ao.out] at bg ac;have av:gx<=w.heap.size:=by rw [ao.out];exact Ax6 _
 clear h hr a1;have ap:=lh (fun (v:World)=>K6 turn (L:Int) v ht.1 ht.2 (by omega) (by omega));obtain ⟨K,hK⟩:∃K:Nat,Dh turn (L:Int)=(K:Int):=⟨_,(Ay8 (Hr (n:=turn) (m:=(L:Int)) (by omega)).1).symm⟩;have bc:K<L:=by have:=(Hr (n:=turn) (m:=(L:Int)) (by omega)).2;omega
 rw [hK] at ap
 have a5:Hid (∀(q:Int) (v:World),I64 q->∃P:Nat,P<L/\Calls zp 7 #[.int .i64 q,.int .i64 (L:Int)] v fun e w'=>e=.returned (.int .i64 (P:Int))/\v=w'):=by
  intro q v hq;have hb:=Hr (n:=q) (m:=(L:Int)) (by omega);refine ⟨(Dh q (L:Int)).toNat,by omega,?_⟩;have:=K6 q (L:Int) v hq.1 hq.2 (by omega) (by omega);rw [Ay8 hb.1];exact this
 have a8:¬(L:Int)=0:=by omega
 have a4:¬L=0:=by omega
 have bb:((L:Int)==0)=false:=beq_eq_false_iff_ne.2 (by omega);clear hK ht hne;go_enter func23,ntmps23;go_upto_region 1 with (fail)
 try rw [ao.out]
 generalize w.alloc (.cells XG 28)=w0 at*;have c1:cS w0 gx 1 x.lA L x.lC:=(bg.cell 1).trans g1.out;go_upto_region 3 with (go_at_call 7;(with_reducible refine (ap.out _).mono ?_);rintro _ _ ⟨rfl,rfl⟩)
 have au:gx<=w0.heap.size:=Ay1 av f0.size;clear g1 bg ap;go_wp2_with fail
 go_loopw [7,9] (fun s v wr=>∃(i M cq:Nat) (Aq:Option Addr) (ps:List Nat),s=.slice Aq M cq/\v=.int .i64 (i:Int)/\i<=L/\Hid (ps.length=M)/\M<=2*i/\Own wr w0.heap.size 3 1 Aq M cq (ps.map Qv)/\Hid (∀p∈ps,p<L)/\Hid (∀j,j<i->(L-1-j+K)%L∈ps)/\Fr Non w0 wr) (fun s v _=>L-(intOf v).toNat)
 case atStart=>exact ⟨0,0,0,none,[],rfl,rfl,by omega,rfl,by omega,Own.nil _ _ _ _,fun p hp=>absurd hp Ax3,fun j hj=>absurd hj (Nat.not_lt_zero j),Fr.refl _ _⟩
 case round=>
 obtain ⟨i,M,cq,Aq,ps,rfl,rfl,hi,al,hM,own,ai,ab,hf⟩:=hrel;have cL:=hf.cell c1 zq
 by_cases hin:i<L
 case neg=>
  obtain rfl:i=L:=by omega
  have t0:decide ((i:Int)<(i:Int))=false:=decide_eq_false (by omega);have a7:decide (i<i)=false:=decide_eq_false (by omega);have hd:=lh (ac.out ps Aq M cq wr al (own.lower au) ai (fun p hp=>by obtain ⟨j,h1,h2⟩:=At5 (K:=K) hp;rw [<- h2];exact ab.out j h1) (by omega) (f0.trans hf zr));clear ac ab ai own;go_wp2_with fail;exact hd.out
 case pos=>
 have t0:decide ((i:Int)<(L:Int))=true:=decide_eq_true (by omega);have a7:decide (i<L)=true:=decide_eq_true hin;obtain ⟨P,hP⟩:∃P:Nat,Hid ((L-1-i+K)%L=P):=⟨_,rfl⟩;have a6:P<L:=by rw [<- hP.out];exact Ax4 _ (by omega)
 have e1:=iw ((L:Int)-1);have e2:=iw ((L:Int)-1-(i:Int));have e3:=iw ((L:Int)-1-(i:Int)+(K:Int))
 have e4:((L:Int)-1-(i:Int)+(K:Int)).tmod (L:Int)=(P:Int):=by
  rw [Ay0 (by omega),<- hP.out];rw [show (L:Int)-1-(i:Int)+(K:Int)=((L-1-i+K:Nat):Int) by omega];exact (Int.natCast_emod _ _).symm
 have e5:=iw (P:Int);have e6:=iw ((i:Int)+1);have bF:=Blk.new wr 3 #[.int .i64 (P:Int)];have af:=own.cap;have a3:w0.heap.size<=wr.heap.size:=hf.size
 have ae:Hid ((ps++[P]).length=M+1/\(∀p∈ps++[P],p<L)/\(∀j,j<i+1->(L-1-j+K)%L∈ps++[P])/\(ps++[P]).map Qv=ps.map Qv++[.int .i64 (P:Int)]):=by
  refine ⟨by rw [Ay5,al.out];rfl,fun p hp=> ?_,fun j hj=> ?_,by rw [Ay2];rfl⟩
  ·
   rcases List.mem_append.1 hp with h1|h1
   · exact ai.out p h1
   · rw [List.mem_singleton.1 h1];exact a6
  ·
   rcases Az2 j i with h1|h1
   · exact Az7 _ (ab.out j h1)
   ·
    obtain rfl:j=i:=by omega
    rw [hP.out];exact Az4 _ (List.mem_singleton.2 rfl)
 clear ai ab al hP;go_upto_region 7 with (at_builtin;go_loud (refine Au (base:=w0.heap.size) (.tmp 22) (.tmp 35) 22 rfl rfl rfl rfl E4 (own.alloc (.cells #[.int .i64 (P:Int)] 3)) (Rd.blk (n:=1) (size:=1) bF rfl) (by simp [Value.oneCell']) (by omega) (by omega) (by rw [Ax9];omega) ?_);intro A8 c8 w8 aa ay aj)
 have f8:Fr Non w0 w8:=(hf.alloc (.cells #[.int .i64 (P:Int)] 3)).trans ay (fun k hk e=>by have:=(own.row k e).1;omega);obtain ⟨g1,g2,g3,g4⟩:=ae.out;rw [<- g4] at aa;replace g1:=lh g1;replace g2:=lh g2;replace g3:=lh g3;clear g4 ae ay aj bF own hf a3 cL af;generalize ps++[P]=qs at*;have C0:=f8.cell c1 zq
 by_cases hag:i<m/\i<10
 case neg=>
  have u0:(decide ((i:Int)<(m:Int))=false/\decide (i<m)=false)\/(decide ((i:Int)<(m:Int))=true/\decide ((i:Int)<10)=false/\decide (i<m)=true/\decide (i<10)=false):=by
   by_cases h1:i<m
   · exact .inr ⟨decide_eq_true (by omega),decide_eq_false (by omega),decide_eq_true h1,decide_eq_false (fun h2=>hag ⟨h1,h2⟩)⟩
   · exact .inl ⟨decide_eq_false (by omega),decide_eq_false h1⟩
  rcases u0 with ⟨u0,u0n⟩|⟨u0,u1,u2,u3⟩
  ·
   go_wp2_with fail;go_roundw
   case rel=>exact ⟨i+1,M+1,c8,A8,qs,rfl,by go_num,by omega,g1,by omega,aa,g2,g3,f8⟩
   case measure=>simp [intOf];omega
  ·
   go_wp2_with fail;go_roundw
   case rel=>exact ⟨i+1,M+1,c8,A8,qs,rfl,by go_num,by omega,g1,by omega,aa,g2,g3,f8⟩
   case measure=>simp [intOf];omega
 case pos=>
 have u0:decide ((i:Int)<(m:Int))=true:=decide_eq_true (by omega);have u1:decide ((i:Int)<10)=true:=decide_eq_true (by omega);have u2:decide (i<m)=true:=decide_eq_true hag.1;have u3:decide (i<10)=true:=decide_eq_true hag.2;obtain ⟨q,hq⟩:∃q,ag[i]? =some q:=⟨_,Ay3 (by rw [hn.out];exact hag.1)⟩;obtain ⟨ba,oa,u,rfl,_,hu,d0⟩:=aw.at hag.1;rw [Az1,hq] at hu;injection hu with hu
 subst hu;replace d0:cI w0 ba (oa+i) q:=d0;have D0:=f8.cell d0 zq;obtain ⟨Q,hQ,kQ⟩:=a5.out q w8.drew (hok q (Ax5 hq));replace kQ:=lh kQ;obtain ⟨i1,i2,i3⟩:=ix i m
 have af:=aa.cap;go_upto_region 8 with (fail)
 have F0:Fr Non w8 w8.drew:=(Fr.refl Non w8).drew;refine wp_region_held_drew (S:=fun w'=>cS w' gx 1 x.lA L x.lC/\cI w' ba (oa+i) q) (by kernel_rfl) ⟨C0,D0⟩ (fun hHeld=> ?_);clear hHeld;have uu:=aI C0 D0;refine tkH 0 uu (h:=tkH 1 uu (h:=tkH 2 uu (h:=tkH 3 uu (h:=tkH 4 uu (h:=tkH 5 uu (h:=tkH 6 uu (h:=tkH 7 uu (h:=?_))))))));clear uu;simp only [zl];refine oG 8 (fun K hK=> ?_);go_simp;go_wp2_with (go_at_call 7;(with_reducible refine (kQ.out).mono ?_);rintro _ _ ⟨rfl,rfl⟩);refine hK.out _ _ ⟨C0,D0⟩ (fun hZ=> ?_);clear hZ hK K;try simp only [Ad,zl]
 refine oG 9 (fun K hK=> ?_);go_simp;have a0:=(Blk.new w8 3 #[.int .i64 (Q:Int)]).drew;have F1:Fr Non w8 (w8.alloc (.cells #[.int .i64 (Q:Int)] 3)).drew:=((Fr.refl Non w8).alloc _).drew;obtain ⟨nb,ar⟩:=Aa w8.heap.size;rw [ar.out] at a0 ⊢;generalize (w8.alloc (.cells #[.int .i64 (Q:Int)] 3)).drew=v1 at*;obtain ⟨C1,D1⟩:=zk2 F1 C0 D0;refine hK.out _ _ ⟨C1,D1⟩ (fun hZ=> ?_);clear hZ hK K;try simp only [Ad,zl]
 refine oG 10 (fun K hK=> ?_);have az:Fr Non w0 v1:=f8.trans F1 zr;have a9:=az.size;refine Es (base:=w0.heap.size) (.tmp 45) (.tmp 54) 22 rfl rfl rfl E4 (aa.fr F1 zr) (Rd.blk (n:=1) (size:=1) a0 rfl) (by simp [Value.oneCell']) (by omega) (by omega) (by omega) ?_;intro A9 c9 v2 ad ax ak;have f9:Fr Non w0 v2:=az.trans ax (fun k hk e=>by have:=(aa.row k e).1;omega);obtain ⟨C2,D2⟩:=zk2 f9 c1 d0;refine hK.out _ _ ⟨C2,D2⟩ (fun hZ=> ?_);clear hZ hK K;try simp only [Ad,zl]
 refine tkH 11 ⟨C2,D2⟩ (h:=?_);simp only [zl];refine oD ?_;go_simp;have h1:Hid ((qs++[Q]).length=M+1+1):=by show _=_;rw [Ay5,g1.out];rfl
 have h2:Hid (∀p∈qs++[Q],p<L):=fun p hp=>by
  rcases List.mem_append.1 hp with h1|h1
  · exact g2.out p h1
  · rw [List.mem_singleton.1 h1];exact hQ
 have h3:Hid (∀j,j<i+1->(L-1-j+K)%L∈qs++[Q]):=fun j hj=>Az7 _ (g3.out j hj);have ah:Own v2 w0.heap.size 3 1 A9 (M+1+1) c9 ((qs++[Q]).map Qv):=by rw [Ay2];exact ad
 clear ad aa ax ak g1 g2 g3 kQ;go_wp2_with fail;go_roundw
 case rel=>exact ⟨i+1,M+1+1,c9,A9,qs++[Q],rfl,by go_num,by omega,h1,by omega,ah,h2,h3,f9⟩
 case measure=>simp [intOf];omega
end Oq
namespace Oq
theorem Bd.kept {cards:List Cd} {l m:List Pn} {C ws:List Op} (h:Bd cards l C m ws) {o:Op} (ho:o∈C) (hw:o∉ws):(plc m o.name).isSome=true:=by
 rcases List.mem_append.1 (h.perm.mem_iff.2 ho) with h1|h1
 ·
  obtain ⟨n,k1,rfl⟩:=List.mem_map.1 h1;obtain ⟨j,hj⟩:=Ay7 k1;have:=(h.rm.ok j n hj).plc;rw [(h.rm.ok j n hj).id] at this;rw [this];rfl
 · exact absurd h1 hw
theorem Bd.closed {cards:List Cd} {l m:List Pn} {C ws:List Op} (h:Bd cards l C m ws) (hst:∀o∈ws,ready m o=false) (hcl:∀o∈C,∀id∈o.past,∃o'∈C,o'.name=id):ws=[]:=by
 have hno:∀(i:Nat) (n:Pn),l[i]? =some n->n.o∉ws:=by
  intro i
  induction i using Nat.strongRecOn with
  |_ i ih=>
   intro n hi hin;have hc:n.o∈C:=h.perm.mem_iff.1 (Az4 _ hin)
   have hr:ready m n.o=true:=by
    unfold ready;rw [Az8,List.any_eq_false];intro id hid;obtain ⟨p,hp,hq⟩:=(h.rl.ok i n hi).par id hid;obtain ⟨o',ho',e⟩:=hcl n.o hc id hid;obtain ⟨n2,hn2,rfl⟩:=h.sub o' ho';obtain ⟨q,hq2⟩:=Ay7 hn2;have k1:=(h.rl.ok q n2 hq2).plc;rw [(h.rl.ok q n2 hq2).id,e,hq] at k1;injection k1 with k1
    have hk:=h.kept ho' (ih q (by omega) n2 hq2);rw [e] at hk
    cases hpl:plc m id with
    |none=>rw [hpl] at hk;cases hk
    |some j=>exact Bool.false_ne_true
   rw [hst n.o hin] at hr
   cases hr
 cases ws with
 |nil=>rfl
 |cons o r=>
  obtain ⟨n,hn,rfl⟩:=h.sub o (h.perm.mem_iff.1 (Az4 _ Az9));obtain ⟨i,hi⟩:=Ay7 hn;exact absurd Az9 (hno i n hi)
def Bz (l:List Pn) (has:List Id):List Id:=(Dy l (Az (l.map Pn.id))).filter (fun x=> !Bf has x)
theorem forIds_mem {l:List Pn} {has:List Id} {x:Id}:x∈Bz l has<->x∈l.map Pn.id/\x∉has:=by
 unfold Bz;rw [List.mem_filter,(Gq _ _).mem_iff,(Df _).mem_iff];refine and_congr_right (fun _=> ?_);rw [Az8,Bool.eq_false_iff];exact ⟨fun hn hin=>hn ((Fb _ _).2 hin),fun hn hin=>hn ((Fb _ _).1 hin)⟩
theorem T9 {cards:List Cd} {l:List Pn} (h:Rows cards l) (has:List Id):(Bz l has).Nodup:=by
 unfold Bz;refine List.Pairwise.filter _ ?_;exact (Gq _ _).nodup_iff.2 ((Df _).nodup_iff.2 h.nodup)
theorem Ua (l:List Pn) (has:List Id):RowK l (Bz l has):=by
 unfold Bz RowK;exact List.Pairwise.filter _ (Te _ _)
theorem At7 {cards:List Cd} {l:List Pn} (h:Rows cards l) {has:List Id} {k p:Nat} {x id:Id} {n:Pn} (hk:(Bz l has)[k]? =some x) (hp:plc l x=some p) (hn:l[p]? =some n) (hid:id∈n.o.past):
  id∈has\/∃j,j<k/\(Bz l has)[j]? =some id:=by
 by_cases hh:id∈has
 · exact .inl hh
 refine .inr ?_;have hb:bef l id x=true:=(M6 h hp hn).2 ⟨id,hid,.inl rfl⟩;have hl:Ct l id x=true:=rkLess_iff.2 (.inl (h.order hb).2.2.1);obtain ⟨q,_,hq⟩:=(h.ok p n hn).par id hid;obtain ⟨n2,hn2,e⟩:=Bp hq;have hm:id∈Bz l has:=forIds_mem.2 ⟨by rw [<- e];exact List.mem_map_of_mem (Ax5 hn2),hh⟩;obtain ⟨j,hj⟩:=Ay7 hm;refine ⟨j,?_,hj⟩
 rcases Nat.lt_trichotomy j k with a|a|a
 · exact a
 ·
  subst a;rw [hk] at hj;injection hj with hj
  rw [hj,Ta] at hl
  cases hl
 ·
  obtain ⟨g1,e1⟩:=List.getElem?_eq_some_iff.1 hk;obtain ⟨g2,e2⟩:=List.getElem?_eq_some_iff.1 hj;have:=(List.pairwise_iff_getElem.1 (Ua l has)) k j g1 g2 a;rw [e1,e2,hl] at this
  cases this
end Oq
namespace Oq
attribute [local go_sem] Ax7 Ax8
attribute [local go_sem ↓] Fu
theorem At8 (l:List Id) (x:Id):l.any (fun y=>Id.eq x y)=Bf l x:=by
 rw [Ay9,Fb,List.any_eq_true];constructor
 ·
  rintro ⟨y,hy,e⟩;rw [(Id.eq_iff _ _).1 e];exact hy
 ·
  intro h;exact ⟨x,h,(Id.eq_iff _ _).2 rfl⟩
theorem At9 (B n c:Nat) (A:Option Addr) (l:List Id) (x:Id) (w:World) (hn:Hid (l.length=n)) (hr:Rd w B 3 A n (l.flatMap Id.cells)) (hnm:n<=1000000):
  Calls zp 98 #[.slice A n c,.agg x.V] w (fun e w'=>(∃i:Int,e=.returned (.int .i64 i)/\decide (0<=i)=Bf l x)/\Fr Non w w'):=by
 have bx:=Blk.new w 45 x.V;have f0:Fr Non w (w.alloc (.cells x.V 45)):=(Fr.refl Non w).alloc _;have ah:=hr.fr f0 zr;obtain ⟨xb,ag⟩:=Aa w.heap.size;rw [ag.out] at bx;have ac:Hid (l.any (fun y=>Id.eq x y)=Bf l x):=At8 l x;clear hr;go_enter func98,ntmps98;go_upto_region 1 with (fail)
 try rw [ag.out]
 generalize w.alloc (.cells x.V 45)=w0 at*;go_wp2_with fail
 go_loopw [8] (fun v wr=>∃k:Nat,v=.int .i64 (k:Int)/\k<=n/\Hid ((l.take k).any (fun y=>Id.eq x y)=false)/\Fr Non w0 wr) (fun v _=>n-(intOf v).toNat)
 case atStart=>exact ⟨0,rfl,by omega,rfl,Fr.refl _ _⟩
 case round=>
  obtain ⟨k,rfl,hk,hh,hf⟩:=hrel
  by_cases hlt:k<n
  ·
   obtain ⟨i1,i2,i3⟩:=ix k n
   obtain ⟨y,hy⟩:∃y,l[k]? =some y:=⟨_,Ay3 (by rw [hn.out];exact hlt)⟩;obtain ⟨b,af,rfl,aj,k0,k1,k2⟩:=Id.at (ah.fr hf zr) hy;have ae:=lh (Mp l (fun y=>Id.eq x y) hy);have aa:Hid (Id.eq x y=true->Bf l x=true):=fun h=>by rw [<- ac.out];exact List.any_eq_true.2 ⟨y,Ax5 hy,h⟩
   clear hy;obtain ⟨E,hE⟩:=Aa (Id.eq x y);go_upto_region 4 with (fail)
   have ad:=bx.fr hf zq;have X0:cI wr xb 0 x.b:=ad.cell 0;have Y0:cI wr xb 1 x.s:=ad.cell 1;have Z0:cU wr xb 2 x.u:=ad.cell 2;have P0:=k0;have Q0:=k1;have R0:=k2;have F0:Fr Non wr wr.drew:=(Fr.refl Non wr).drew;have G0:=hf.drew;clear k0 k1 k2 ad;refine wp_region_held_drew (S:=fun w'=>cI w' xb 0 x.b/\cI w' xb 1 x.s/\cU w' xb 2 x.u/\cI w' b (af+k*3) y.b/\cI w' b (af+k*3+1) y.s/\cU w' b (af+k*3+2) y.u) (by kernel_rfl) ⟨X0,Y0,Z0,P0,Q0,R0⟩ (fun hHeld=> ?_);clear hHeld;have uu:=aI X0 (aI Y0 (aI Z0 (aI P0 (aI Q0 R0))));refine tkH 0 uu (h:=tkH 1 uu (h:=tkH 2 uu (h:=tkH 3 uu (h:=tkH 4 uu (h:=tkH 5 uu (h:=?_))))));clear uu;simp only [zl];refine oD ?_;go_simp;have ai:Id.eq x y=true\/Id.eq x y=false:=by cases Id.eq x y<;>simp
   rcases ai with hp|hp
   ·
    have he:=lh (aa.out hp);rw [hp] at ae;try rw [hp]
    clear aa hE;go_wp2_with fail
    go_ret
    exact ⟨⟨(k:Int),rfl,by rw [he.out];exact decide_eq_true (by omega)⟩,f0.trans G0 zr⟩
   ·
    rw [hp] at ae;try rw [hp]
    clear aa hE;go_wp2_with fail;go_roundw
    case rel=>exact ⟨k+1,by go_num,by omega,by show _=_;rw [ae.out,hh.out];rfl,G0⟩
    case measure=>simp [intOf];omega
  ·
   obtain rfl:k=n:=by omega
   have ab:Bf l x=false:=by have h:=hh.out;rw [Az6 (by rw [hn.out];omega)] at h;rw [<- ac.out];exact h
   go_wp2
   go_ret
   exact ⟨⟨-1,rfl,by rw [ab];rfl⟩,f0.trans hf zr⟩
theorem Au0 (B n c:Nat) (A:Option Addr) (l:List Id) (x:Id) (w:World) (hn:Hid (l.length=n)) (hr:Rd w B 3 A n (l.flatMap Id.cells)) (hnm:n<=1000000):
  Calls zp 49 #[.slice A n c,.agg x.V] w (Ag (Bf l x) w):=by
 have bx:=Blk.new w 45 x.V;have f0:Fr Non w (w.alloc (.cells x.V 45)):=(Fr.refl Non w).alloc _;have kx:=lh (At9 B n c A l x _ hn (hr.fr f0 zr) hnm);have hfin:Hid (∀(i:Int) w',decide (0<=i)=Bf l x->Fr Non w w'->Ag (Bf l x) w (.returned (.bool (decide (0<=i)))) w'):=fun i w' h hf=>⟨by rw [h],hf⟩;generalize Ag (Bf l x) w=POST at*;have c0:cI (w.alloc (.cells x.V 45)) w.heap.size 0 x.b:=bx.cell 0;have c1:cI (w.alloc (.cells x.V 45)) w.heap.size 1 x.s:=bx.cell 1;have c2:cU (w.alloc (.cells x.V 45)) w.heap.size 2 x.u:=bx.cell 2;clear hr hn hnm bx;go_enter func49,ntmps49;go_upto_region 1 with (fail)
 generalize w.alloc (.cells x.V 45)=w0 at*;go_wp2_with (go_at_call 98;(with_reducible refine (kx.out).mono ?_);rintro _ w1 ⟨⟨i,rfl,hd0⟩,f1⟩;(have hd:=lh (hfin.out i w1 hd0 (f0.trans f1 zr)));clear hd0);exact hd.out
end Oq
section
open Go.RowKit Go.Sort
section
variable {P : Program} {ops : Array Oper} {Q : Exit -> Act -> World -> Prop} {md : Region.Mode} {S : World -> Prop} {g : Nat}
theorem Au1 {i:Nat} {oi:Oper} {v:Value} (hi:ops[i]? =some oi) (hgi:g≠i)
  (hsel:∀(j:Nat) (o:Oper) cs b,ops[j]? =some o->o.op≠ .select cs b) (hQ:∀c a w,Q (.panic c) (a.put oi.dst v) w->Q (.panic c) a w):
  ∀(fuel:Nat) (listed:Array Bool) (a:Act) (w:World),(listed.getD g true=false->S w)->
   (∀j oj,ops[j]? =some oj->j≠i->listed.getD j true=false->(∀e∈oj.after,Region.binds md e=true->e.on≠i)->oi.apart ops oj=true)->
   i∈Region.ready md ops listed->YieldsIf P ops (fun _=>True) oi v a->
   Cw P md ops Q S g fuel (listed.setIfInBounds i true) (a.put oi.dst v) w->Cw P md ops Q S g (fuel+1) listed a w:=by
 intro fuel
 induction fuel with
 |zero=>
  intro listed a w hS _ hr hy H;refine ⟨fun h=>(by rw [h] at hr;cases hr),fun j hj=> ?_⟩
  by_cases hji:j=i
  · subst hji;exact hy.wpOp hi trivial ⟨fun h0=>hS (by rw [getD_set_ne true (Ne.symm hgi)] at h0;exact h0),H⟩
  ·
   have h0:=ready_mono hj hji;rw [H.1] at h0
   cases h0
 |succ k ih=>
  intro listed a w hS hfree hr hy H;refine ⟨fun h=>(by rw [h] at hr;cases hr),fun j hj=> ?_⟩
  by_cases hji:j=i
  · subst hji;exact hy.wpOp hi trivial ⟨fun h0=>hS (by rw [getD_set_ne true (Ne.symm hgi)] at h0;exact h0),H⟩
  ·
   have hpend:=(mem_ready.1 hr).1;obtain ⟨hjun,oj,hoj,hall⟩:=mem_ready.1 hj
   have hbl:∀e∈oj.after,Region.binds md e=true->e.on≠i:=fun e he hb heq=>by
    have h1:=hall e he hb;rw [heq] at h1
    rcases Az2 i listed.size with h'|h'
    · simp [h'] at hpend h1;rw [hpend] at h1;cases h1
    · simp [Array.getElem?_eq_none h'] at h1
   have h1:=H.2 j (ready_mono hj hji);have h2:=wpOp_putIf hoj (hfree j oj hoj hji hjun hbl) (fun cs b=>hsel i oi cs b hi) (fun cs b=>hsel j oj cs b hoj) hQ hy h1
   have hfree':∀m om,ops[m]? =some om->m≠i->(listed.setIfInBounds j true).getD m true=false->
     (∀e∈om.after,Region.binds md e=true->e.on≠i)->oi.apart ops om=true:=fun m om hm hmi hun hno=>by
    refine hfree m om hm hmi ?_ hno
    by_cases hjm:j=m
    · subst hjm;exact hjun
    · rw [getD_set_ne true hjm] at hun;exact hun
   refine wpOp_mono (fun a' w' h3=> ?_) h2;have hS':(listed.setIfInBounds j true).getD g true=false->S w':=fun h0=>h3.2.1 (by rw [A00 _ _ (Ne.symm hji),getD_set_ne true (Ne.symm hgi)];exact h0);refine ⟨hS',ih _ a' w' hS' hfree' (ready_mono hr (Ne.symm hji)) h3.1 ?_⟩;rw [A00 _ _ hji];exact h3.2.2
end
theorem tkP (i:Nat) {P:Program} {Q:Exit->Act->World->Prop} {md:Region.Mode} {S:World->Prop} {gt:Nat} {l:List Oper} {d:Tmp} {op:Go.Op} {ty:TypeId} {pos:String} {after:Array Edge} {g:Option (Nat × Bool)} {v:Value} {fuel:Nat} {listed:Array Bool} {tl:List Value} {ds:List Deferred} {w:World} (hS:S w)
  (h:Cw P md l.toArray Q S gt fuel (listed.setIfInBounds i true) ⟨(tl.set d v).toArray,ds⟩ w) (hi:l[i]? =some ⟨some d,op,ty,pos,after,g⟩:=by rfl)
  (hgate:(gt !=i)=true:=by kernel_rfl)
  (hs:Region.noSelect l.toArray=true:=by kernel_rfl) (hf:Region.free md l.toArray listed i=true:=by kernel_rfl) (hr:(Region.ready md l.toArray listed).contains i=true:=by kernel_rfl)
  (hQ:∀c a w,Q (.panic c) (a.put (some d) v) w->Q (.panic c) a w:=by exact fun _ _ _ h=>h) (hy:YieldsIf P l.toArray (fun _=>True) ⟨some d,op,ty,pos,after,g⟩ v ⟨tl.toArray,ds⟩:=by (refine Or.inl ⟨by kernel_rfl,?_⟩;intro w' _;go_simp;(try with_reducible rfl))):
  Cw P md l.toArray Q S gt (fuel+1) listed ⟨tl.toArray,ds⟩ w:=by
 have hi':l.toArray[i]? =some ⟨some d,op,ty,pos,after,g⟩:=by rw [List.getElem?_toArray];exact hi
 exact Au1 hi' (bne_iff_ne.1 hgate) (Region.noSelect_spec hs) hQ fuel listed _ w (fun _=>hS) (Region.free_spec hi' hf) (by simpa using hr) hy (by rw [Ad];exact h)
namespace Oq
theorem N3 (p v:Value):Instr.storeAt 45 p v=stS 45 p v:=rfl
def Cp (w:World) (g k:Nat) (x:Id):World:=((w.setCell ⟨g,k,none⟩ (.int .i64 x.b)).setCell ⟨g,k+1,none⟩ (.int .i64 x.s)).setCell ⟨g,k+2,none⟩ (.int .u64 (x.u:Int))
theorem Au2 {w:World} {g k:Nat} (x:Id) (h:∀j,j<3->(w.cell? ⟨g,k+j,none⟩).isSome=true/\w.frozen? ⟨g,k+j,none⟩=false):
  (stS 45 (.pointer (some ⟨g,k,none⟩)) (.agg x.V)).run zp w=.ok () (Cp w g k x):=by
 have h0:=h 0 (by omega);have h1:=h 1 (by omega);have h2:=h 2 (by omega);rw [Az0] at h0;obtain ⟨v0,y0⟩:=Option.isSome_iff_exists.1 h0.1;obtain ⟨v1,y1⟩:=Option.isSome_iff_exists.1 h1.1;obtain ⟨v2,y2⟩:=Option.isSome_iff_exists.1 h2.1;have z0:=h0.2;have z1:=h1.2;have z2:=h2.2;unfold stS Cp;go_simp
structure Srt (w0 v:World) (base:Nat) (A:Option Addr) (c:Nat) (d:Array Id):Prop where
 own:Own v base 45 3 A d.size c (d.toList.flatMap Id.cells)
 fr:Fr Non w0 v
 ok:∀x∈d.toList,x.ok
 base:w0.heap.size<=base
theorem Srt.non {w0 v v':World} {base c:Nat} {A:Option Addr} {d:Array Id} (h:Srt w0 v base A c d) (hf:Fr Non v v'):Srt w0 v' base A c d:=
 ⟨h.own.fr hf zr,h.fr.trans hf zr,h.ok,h.base⟩
theorem Srt.at {w0 v:World} {base c:Nat} {A:Option Addr} {d:Array Id} (h:Srt w0 v base A c d) {i:Nat} (hi:i<d.size):
  ∃g,A=some ⟨g,0,none⟩/\base<=g/\g<v.heap.size:=by
 rcases h.own.2 with ⟨_,hn⟩|⟨g,cap,cur,hv,_⟩
 · omega
 ·
  injection hv with hA _ _
  exact ⟨g,hA,(h.own.row g (by rw [hA];rfl)).1,(h.own.row g (by rw [hA];rfl)).2⟩
theorem Gv {d:Array Id} {i:Nat} (hi:i<d.size):d.toList[i]? =some d[i]! :=by
 rw [Array.getElem?_toList,Array.getElem?_eq_getElem hi,getElem!_pos d i hi]
theorem Srt.cells {w0 v:World} {base c g:Nat} {d:Array Id} (h:Srt w0 v base (some ⟨g,0,none⟩) c d) {i:Nat} (hi:i<d.size):
  v.cell? ⟨g,i*3,none⟩=some (.int .i64 d[i]!.b)/\v.cell? ⟨g,i*3+1,none⟩=some (.int .i64 d[i]!.s)/\v.cell? ⟨g,i*3+2,none⟩=some (.int .u64 (d[i]!.u:Int)):=by
 obtain ⟨b,off,hA,_,k0,k1,k2⟩:=Id.at h.own.rd (Gv hi);obtain ⟨rfl,rfl⟩:g=b/\0=off:=by injection hA with e;injection e with e1 e2;exact ⟨e1,e2⟩
 rw [Nat.zero_add] at k0 k1 k2;exact ⟨k0,k1,k2⟩
theorem Srt.okAt {w0 v:World} {base c:Nat} {A:Option Addr} {d:Array Id} (h:Srt w0 v base A c d) {i:Nat} (hi:i<d.size):d[i]!.ok:=
 h.ok _ (Ax5 (Gv hi))
theorem Srt.put {w0 v:World} {base c g:Nat} {d:Array Id} (h:Srt w0 v base (some ⟨g,0,none⟩) c d) {i:Nat} (hi:i<d.size) {x:Id} (hx:x.ok):
  (stS 45 (.pointer (some ⟨g,i*3,none⟩)) (.agg x.V)).run zp v=.ok () (Cp v g (i*3) x)/\Srt w0 (Cp v g (i*3) x) base (some ⟨g,0,none⟩) c (d.setIfInBounds i x):=by
 obtain ⟨h1,h2⟩:=Own.putId h.own (Gv hi) hi x;have hg:=(h.own.row g rfl).1;have hb:=h.base;have hnn:∀k:Nat,Fr Non w0 w0:=fun _=>Fr.refl _ _;refine ⟨Au2 x h1,?_,?_,?_,hb⟩
 ·
  rw [A01,A02];exact h2
 · exact ((h.fr.setCell (p:=⟨g,i*3,none⟩) (fun hh=>absurd hh (by show ¬g<_;omega)) _).setCell (p:=⟨g,i*3+1,none⟩) (fun hh=>absurd hh (by show ¬g<_;omega)) _).setCell (p:=⟨g,i*3+2,none⟩) (fun hh=>absurd hh (by show ¬g<_;omega)) _
 ·
  intro z hz;rw [A02] at hz
  rcases List.mem_or_eq_of_mem_set hz with h3|h3
  · exact h.ok z h3
  · rw [h3];exact hx
theorem Srt.swap {w0 v:World} {base c g:Nat} {d:Array Id} (h:Srt w0 v base (some ⟨g,0,none⟩) c d) {i j:Nat} (hi:i<d.size) (hj:j<d.size):
  (stS 45 (.pointer (some ⟨g,i*3,none⟩)) (.agg #[.int .i64 d[j]!.b,.int .i64 d[j]!.s,.int .u64 (d[j]!.u:Int)])).run zp v=.ok () (Cp v g (i*3) d[j]!)/\
  (stS 45 (.pointer (some ⟨g,j*3,none⟩)) (.agg #[.int .i64 d[i]!.b,.int .i64 d[i]!.s,.int .u64 (d[i]!.u:Int)])).run zp (Cp v g (i*3) d[j]!)=.ok () (Cp (Cp v g (i*3) d[j]!) g (j*3) d[i]!)/\
  Srt w0 (Cp (Cp v g (i*3) d[j]!) g (j*3) d[i]!) base (some ⟨g,0,none⟩) c (swp d i j):=by
 obtain ⟨h1,h2⟩:=h.put hi (h.okAt hj);obtain ⟨h3,h4⟩:=h2.put (i:=j) (by rw [A01];exact hj) (h.okAt hi);exact ⟨h1,h3,h4⟩
structure E8 (w0:World) (fid:Nat) (pre post:Array Value) (cmp:Id->Id->Int):Prop where
 enters:∀args w,(callFunc fid args).run zp w=.ok (.enter fid args) w
 tells:∀(x y:Id) (v:World),Fr Non w0 v->x.ok->y.ok->Calls zp fid (pre++(#[.agg x.V,.agg y.V]++post)) v fun e v'=>e=.returned (.int .i64 (cmp x y))/\Fr Non v v'
def Ab (cmp:Id->Id->Int) (x y:Id):Bool:=decide (cmp x y<0)
def Ea (w0:World) (base:Nat) (A:Option Addr) (c:Nat) (d:Array Id) (e:Ending) (v:World):Prop:=e=.returned (.tuple #[])/\Srt w0 v base A c d
end Oq
end
end Go.Proofs.YtmcpnjoomlgmlaaGreatDoor
