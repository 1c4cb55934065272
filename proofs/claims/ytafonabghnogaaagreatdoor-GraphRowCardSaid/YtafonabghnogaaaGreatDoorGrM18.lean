/-
  Contracts of the functions that the claim's statement reaches, walked one by one (part 18).
  Conditions: as each theorem says.
-/
import Derived.Test.YtafonabghnogaaaGreatDoorGrM13
import Derived.Test.YtafonabghnogaaaGreatDoorGrM17
set_option maxRecDepth 100000
set_option maxHeartbeats 16000000
open Bool renaming or_false→Al4
open Int renaming le_refl→Al8
open List renaming any_cons→Al2,any_nil→Al3,pairwise_singleton→Al5,foldl_cons→Al6,foldl_nil→Al7,findIdx?_cons→Am1,any_eq_false→Am2,find?_cons_of_pos→Am3
open Nat renaming ne_of_lt→Al1,lt_irrefl→Al9,zero_le→Am0
namespace Go.Proofs.YtafonabghnogaaaGreatDoor
section
open Go.RowKit
namespace Oq
def lA:Op:=Hb 1
def lB:Op:=Dw 1 2 0 [lA.name]
def lC:Op:=Dw 2 1 3 [lA.name]
def lD:Op:=Dw 2 2 3 [lB.name,lC.name]
def pA:Pn:=⟨sgn lA,lA.name,fun _=>false,1⟩
def pB:Pn:=⟨sgn lB,lB.name,fun q=>q==0,2⟩
def pC:Pn:=⟨sgn lC,lC.name,fun q=>q==0,2⟩
def pD:Pn:=⟨sgn lD,lD.name,fun q=>decide (q<3),3⟩
theorem Gj {o p:Op} (h:o.by_≠p.by_∨o.sq≠p.sq):o.name≠p.name:=by
 intro e
 have h1:o.name.b=p.name.b:=by rw [e]
 have h2:o.name.s=p.name.s:=by rw [e]
 rcases h with h|h
 · exact h h1
 · exact h h2
theorem neAB:lA.name≠lB.name:=Gj (.inr (by decide))
theorem neAC:lA.name≠lC.name:=Gj (.inl (by decide))
theorem Mm:lA.name≠lD.name:=Gj (.inl (by decide))
theorem neBC:lB.name≠lC.name:=Gj (.inl (by decide))
theorem Mn:lB.name≠lD.name:=Gj (.inl (by decide))
theorem neCD:lC.name≠lD.name:=Gj (.inr (by decide))
theorem Aj6:lA.chk=0:=Z9 (by decide)
theorem Sm:lA.name.named=true:=Lm (by decide) (by decide)
theorem Aj7:lB.chk=0:=Ll (by decide) (by decide) (by decide) ⟨by simp,by simpa using Sm,Al5 _ _,by simp⟩
theorem Aj8:lC.chk=0:=Ll (by decide) (by decide) (by decide) ⟨by simp,by simpa using Sm,Al5 _ _,by simp⟩
theorem Aj9:lB.name.named=true:=Lm (by decide) (by decide)
theorem Ak0:lC.name.named=true:=Lm (by decide) (by decide)
theorem Sn:Id.less lB.name lC.name=true:=by
 unfold Id.less
 rw [if_neg (by show ¬(1:Int)=2;decide)]
 rfl
theorem Mo:lD.chk=0:=Ll (by decide) (by decide) (by decide) ⟨by simp,by simpa using ⟨Aj9,Ak0⟩,by
 refine List.pairwise_cons.2 ⟨fun x hx=> ?_,Al5 _ _⟩
 obtain rfl:=List.mem_singleton.1 hx
 exact Sn,by simp⟩
theorem Ak1:Am [lB.name,lC.name]=[lB.name,lC.name]:=by
 refine (Gr ?_ (List.Perm.refl _)).symm
 refine List.pairwise_cons.2 ⟨fun x hx=> ?_,Al5 _ _⟩
 obtain rfl:=List.mem_singleton.1 hx
 exact Id.less_as Sn
theorem Di {p:Pn} {l:List Pn} {id:Id} (h:p.id≠id):plc (p::l) id=(plc l id).map (· +1):=by
 unfold plc
 rw [Am1]
 simp [h]
theorem Je {p:Pn} {l:List Pn} {id:Id} (h:p.id=id):plc (p::l) id=some 0:=by
 unfold plc
 rw [Am1]
 simp [h]
theorem plA (l:List Pn):plc (pA::l) lA.name=some 0:=Je rfl
theorem plB (l:List Pn):plc (pA::pB::l) lB.name=some 1:=by rw [Di neAB,Je (p:=pB) (id:=lB.name) rfl];rfl
theorem plC (l:List Pn):plc (pA::pB::pC::l) lC.name=some 2:=by rw [Di neAC,Di neBC,Je (p:=pC) (id:=lC.name) rfl];rfl
theorem plD (l:List Pn):plc (pA::pB::pC::pD::l) lD.name=some 3:=by rw [Di Mm,Di Mn,Di neCD,Je (p:=pD) (id:=lD.name) rfl];rfl
theorem nlB:plc [pA] lB.name=none:=by rw [Di neAB];rfl
theorem nlC:plc [pA,pB] lC.name=none:=by rw [Di neAC,Di neBC];rfl
theorem nlD2:plc [pA,pB] lD.name=none:=by rw [Di Mm,Di Mn];rfl
theorem nlD3:plc [pA,pB,pC] lD.name=none:=by rw [Di Mm,Di Mn,Di neCD];rfl
theorem Mp:pA.o.by_=1:=Lj _
theorem Sp:pB.o.by_=1:=Lj _
theorem pC_by:pC.o.by_=2:=Lj _
theorem pA_sq:pA.o.sq=1:=Q9 _
theorem pC_sq:pC.o.sq=1:=Q9 _
theorem pA_at:pA.o.at_=0:=Lk _
theorem pB_at:pB.o.at_=0:=Lk _
theorem pC_at:pC.o.at_=3:=Lk _
theorem upA (l:List Pn) (q:Nat):upB (pA::l) lA.name q=false:=by unfold upB;rw [plA];rfl
theorem atA (l:List Pn):Bn (pA::l) lA.name=0:=by unfold Bn;rw [plA];exact pA_at
theorem lvA (l:List Pn):Bq (pA::l) lA.name=1:=by unfold Bq;rw [plA];rfl
theorem parA (l:List Pn) (q:Nat):Cb (pA::l) [lA.name] q=(q==0):=by
 unfold Cb
 simp only [Al2,Al3,Al4,plA]
 cases q<;>rfl
theorem abvA (l:List Pn) (q:Nat):Ao (pA::l) [lA.name] q=false:=by
 unfold Ao
 simp only [Al2,Al3,Al4,upA]
theorem psA (l:List Pn):Ah (pA::l) [lA.name]=fun q=>q==0:=by
 funext q
 unfold Ah
 rw [parA,abvA]
 cases q with
 |zero=>rfl
 |succ q=>simp
theorem clA (l:List Pn):clash (pA::l) [lA.name]=false:=by
 unfold clash
 rw [Am2]
 intro q _
 rw [abvA]
 simp
theorem ltA (l:List Pn):late (pA::l) [lA.name]=0:=by
 unfold late
 simp only [Al6,Al7,atA]
 rfl
theorem llA (l:List Pn):lvl (pA::l) [lA.name]=2:=by
 unfold lvl
 simp only [Al6,Al7,lvA]
 rfl
theorem parD (q:Nat):Cb [pA,pB,pC] [lB.name,lC.name] q=(q==1||q==2):=by
 unfold Cb
 simp only [Al2,Al3,Al4,plB,plC]
 match q with
 |0=>rfl
 |1=>rfl
 |2=>rfl
 |q+3=>rfl
theorem abvD (q:Nat):Ao [pA,pB,pC] [lB.name,lC.name] q=(q==0):=by
 unfold Ao upB
 simp only [Al2,Al3,Al4,plB,plC]
 show ((q==0)||(q==0))=_
 simp
theorem psD:Ah [pA,pB,pC] [lB.name,lC.name]=fun q=>decide (q<3):=by
 funext q
 unfold Ah
 rw [parD,abvD]
 match q with
 |0=>rfl
 |1=>rfl
 |2=>rfl
 |q+3=>simp
theorem clD:clash [pA,pB,pC] [lB.name,lC.name]=false:=by
 unfold clash
 rw [Am2]
 intro q _
 rw [parD,abvD]
 match q with
 |0=>simp
 |1=>simp
 |2=>simp
 |q+3=>simp
theorem ltD:late [pA,pB,pC] [lB.name,lC.name]=3:=by
 have e1:Bn [pA,pB,pC] lB.name=0:=by unfold Bn;rw [plB];exact pB_at
 have e2:Bn [pA,pB,pC] lC.name=3:=by unfold Bn;rw [plC];exact pC_at
 unfold late
 simp only [Al6,Al7,e1,e2]
 rfl
theorem llD:lvl [pA,pB,pC] [lB.name,lC.name]=3:=by
 have e1:Bq [pA,pB,pC] lB.name=2:=by unfold Bq;rw [plB];rfl
 have e2:Bq [pA,pB,pC] lC.name=2:=by unfold Bq;rw [plC];rfl
 unfold lvl
 simp only [Al6,Al7,e1,e2]
 rfl
theorem Mq (p:Nat→Bool) (d:Int) (n:Pn) (l:List Pn):Be (n::l) p d 1=if (n.o.by_==d&&p 0)=true then max 0 n.o.sq else 0:=rfl
theorem Sq (p:Nat→Bool) (d:Int) (n m:Pn) (l:List Pn):Be (n::m::l) p d 2=if (m.o.by_==d&&p 1)=true then max (Be (n::m::l) p d 1) m.o.sq else Be (n::m::l) p d 1:=rfl
theorem last3 (p:Nat→Bool) (d:Int) (n m k:Pn) (l:List Pn):Be (n::m::k::l) p d 3=if (k.o.by_==d&&p 2)=true then max (Be (n::m::k::l) p d 2) k.o.sq else Be (n::m::k::l) p d 2:=rfl
theorem ah1 (p:Nat→Bool) (d s:Int) (n:Pn) (l:List Pn):Ca (n::l) p d s 1=(false||(n.o.by_==d&&p 0&&n.o.sq==s-1)):=rfl
theorem ah3 (p:Nat→Bool) (d s:Int) (n m k:Pn) (l:List Pn):Ca (n::m::k::l) p d s 3=(Ca (n::m::k::l) p d s 2||(k.o.by_==d&&p 2&&k.o.sq==s-1)):=rfl
theorem sqbB:Az [pA] (fun q=>q==0) lB=false:=by
 unfold Az
 rw [show lB.by_=1 from rfl,show lB.sq=2 from rfl,show [pA].length=1 from rfl,Mq,ah1,Mp,pA_sq]
 rfl
theorem sqbC:Az [pA,pB] (fun q=>q==0) lC=false:=by
 unfold Az
 rw [show lC.by_=2 from rfl,show lC.sq=1 from rfl,show [pA,pB].length=2 from rfl,Sq,Mq,Mp,Sp]
 rfl
theorem sqbD:Az [pA,pB,pC] (fun q=>decide (q<3)) lD=false:=by
 unfold Az
 rw [show lD.by_=2 from rfl,show lD.sq=2 from rfl,show [pA,pB,pC].length=3 from rfl,last3,Sq,Mq,ah3,Mp,Sp,pC_by,pC_sq]
 simp
 decide
section
variable {cs : List Cd} {c1 c2 : Cd}
theorem addA0 (h1:Bk cs 1=some c1) (s1:c1.s=Sg.pub (sec Bc 1)):Aj cs [] (sgn lA)=0:=
 Ha (c:=c1) Aj6 rfl (by simp) h1 s1 (.inr rfl) rfl (by show clash [] []=false;unfold clash Cb;simp) (Al8 _) rfl
theorem addB0 (h1:Bk cs 1=some c1) (s1:c1.s=Sg.pub (sec Bc 1)):Aj cs [pA] (sgn lB)=0:=
 Ha (c:=c1) Aj7 nlB (by simp) h1 s1 (.inl (by show (8:Int)≠1;decide)) (by show [lA.name].any _=false;simp [plA]) (clA []) (by show late [pA] [lA.name]≤0;rw [ltA];exact Al8 _) (by show Az [pA] (Ah [pA] [lA.name]) lB=false;rw [psA];exact sqbB)
theorem addC0 (h2:Bk cs 2=some c2) (s2:c2.s=Sg.pub (sec Bc 2)):Aj cs [pA,pB] (sgn lC)=0:=
 Ha (c:=c2) Aj8 nlC (by simp) h2 s2 (.inl (by show (8:Int)≠1;decide)) (by show [lA.name].any _=false;simp [plA]) (clA [pB]) (by show late [pA,pB] [lA.name]≤3;rw [ltA];decide) (by show Az [pA,pB] (Ah [pA,pB] [lA.name]) lC=false;rw [psA];exact sqbC)
theorem Ak2 (h2:Bk cs 2=some c2) (s2:c2.s=Sg.pub (sec Bc 2)):Aj cs [pA,pB] (sgn lD)=10:=
 Z7 (c:=c2) Mo nlD2 (by simp) h2 s2 (.inl (by show (8:Int)≠1;decide)) (by show [lB.name,lC.name].any _=true;simp [nlC])
theorem addD0 (h2:Bk cs 2=some c2) (s2:c2.s=Sg.pub (sec Bc 2)):Aj cs [pA,pB,pC] (sgn lD)=0:=
 Ha (c:=c2) Mo nlD3 (by simp) h2 s2 (.inl (by show (8:Int)≠1;decide)) (by show [lB.name,lC.name].any _=false;simp [plB,plC]) clD (by show late [pA,pB,pC] [lB.name,lC.name]≤3;rw [ltD];exact Al8 _) (by show Az [pA,pB,pC] (Ah [pA,pB,pC] [lB.name,lC.name]) lD=false;rw [psD];exact sqbD)
theorem addD5:Aj cs [pA,pB,pC,pD] (sgn lD)=5:=Z8 (by rw [Z5];exact Mo) (by rw [Gb,plD];rfl)
end
theorem Jf (l:List Pn) (o:Op):Av l (sgn o)=⟨sgn o,o.name,Ah l o.past,lvl l o.past⟩:=by
 unfold Av
 rw [Gb,Z6]
theorem pnA:Av [] (sgn lA)=pA:=by
 rw [Jf]
 have e:Ah [] lA.past=fun _=>false:=by
  funext q
  show Ah [] [] q=false
  unfold Ah Ao Cb
  simp
 rw [e]
 rfl
theorem pnB:Av [pA] (sgn lB)=pB:=by
 have e1:Ah [pA] lB.past=fun q=>q==0:=psA []
 have e2:lvl [pA] lB.past=2:=llA []
 rw [Jf,e1,e2]
 rfl
theorem pnC:Av [pA,pB] (sgn lC)=pC:=by
 have e1:Ah [pA,pB] lC.past=fun q=>q==0:=psA [pB]
 have e2:lvl [pA,pB] lC.past=2:=llA [pB]
 rw [Jf,e1,e2]
 rfl
theorem pnD:Av [pA,pB,pC] (sgn lD)=pD:=by
 have e1:Ah [pA,pB,pC] lD.past=fun q=>decide (q<3):=psD
 have e2:lvl [pA,pB,pC] lD.past=3:=llD
 rw [Jf,e1,e2]
 rfl
end Oq
end
section
open Go.RowKit
attribute [local go_sem ↓] Go.wp_at_zero Go.wp_at_succ
namespace Oq
attribute [local go_sem ↓] Ci Ef
attribute [local go_sem] Bool.not_false Bool.not_true
theorem Mr:lB.ok:=I1 (by decide) (by decide) (by decide) ⟨by simp,fun x hx=>by obtain rfl:=List.mem_singleton.1 hx;exact Eb (Jc 1 (by decide))⟩
theorem Ms:lC.ok:=I1 (by decide) (by decide) (by decide) ⟨by simp,fun x hx=>by obtain rfl:=List.mem_singleton.1 hx;exact Eb (Jc 1 (by decide))⟩
theorem Sr:lD.ok:=I1 (by decide) (by decide) (by decide) ⟨by simp,fun x hx=>by
 rcases List.mem_cons.1 hx with rfl|hx
 · exact Eb Mr
 ·
  obtain rfl:=List.mem_singleton.1 hx
  exact Eb Ms⟩
theorem Ss:lA.ok:=Jc 1 (by decide)
theorem Ak3 (w:World) (hk:KindsAt w):Calls Tryz.prog 19 #[] w (Af true w):=by
 have hi:(Tryz.prog.info? 44).map (·.size)=some 27:=by kernel_rfl
 have hpos:0<w.heap.size:=World.block_lt_of_cell? w _ (hk 0 (by decide))
 have f0:Fr Non w (w.alloc (.cells #[.int .i64 1,.int .i64 2] 3)):=(Fr.refl Non w).alloc _
 have kc:=Lib.hid (O8 2 2 (some ⟨w.heap.size,0,none⟩) [1,2] (w.alloc (.cells #[.int .i64 1,.int .i64 2] 3)) rfl (by decide) ((Rd.blk (n:=2) (size:=1) (l:=[1,2].map Iv) (Blk.new w 3 #[.int .i64 1,.int .i64 2]) rfl)))
 have hcd:Hid (Bg 0 [1,2]=[Bw 0 1,Bw 1 2]):=rfl
 have hd1:(Bw 0 1).d=1:=Gc 0 1
 have hd2:(Bw 1 2).d=2:=Gc 1 2
 have hs1:Hid ((Bw 0 1).s=Sg.pub (sec Bc 1)):=Ls 0 1
 have hs2:Hid ((Bw 1 2).s=Sg.pub (sec Bc 2)):=Ls 1 2
 generalize Bw 0 1=cd1 at*
 generalize Bw 1 2=cd2 at*
 have hf1:Hid (Bk [cd1,cd2] 1=some cd1):=by show _=_;unfold Bk;rw [Am3 (by rw [hd1];rfl)]
 have hf2:Hid (Bk [cd1,cd2] 2=some cd2):=by show _=_;unfold Bk;rw [List.find?_cons_of_neg (by rw [hd1];decide),Am3 (by rw [hd2];rfl)]
 have hkH:=Lib.hid hk
 have hfin:Hid (∀wz,Fr Non w wz→Af true w (.returned (.bool true)) wz):=fun wz h=>⟨rfl,h⟩
 generalize Af true w=POST at*
 clear hk hd1 hd2
 go_enter Tryz.func19,Tryz.ntmps19
 go_wp2_with (fail)
 refine (kc.out).mono ?_
 rintro _ w1 ⟨A1,c1,rfl,o1,f1⟩
 have fr1:=f0.trans f1 zr
 have h1s:=fr1.size
 have kn:=Lib.hid (Lu w1.heap.size 2 c1 A1 [1,2] w1 rfl (by decide) o1.rd (by omega))
 clear kc f0 f1 o1
 go_wp2_with (fail)
 refine (kn.out).mono ?_
 rintro _ w2 ⟨g,rfl,hg,hgn,hgc,f2⟩
 have fr2:=fr1.trans f2 zr
 have hpn:Hid (g.pns=[]):=by show _=_;unfold Gph.pns;rw [hgn];rfl
 have hcs:Hid (g.cards=[cd1,cd2]):=hgc.trans hcd.out
 obtain ⟨gb,hgb⟩:=Aa g.gb
 rw [hgb.out]
 have kf:=Lib.hid (Aj5 w2)
 clear kn hgn hgc hcd f2 fr1
 go_upto_region 5 with (first
  |(go_at_call 15;(with_reducible refine (kf.out).mono ?_);rintro _ w3 ⟨ya,rfl,hya,hyao,f3⟩;have hg3:=hg.fr f3;have fr3:=fr2.trans f3 zr;have bz:=Blk.new w3 44 zO;have honey:=Cr ya;clear kf hg fr2 f3)
  |(refine Fc rfl 44 (.tmp 2) (.tmp 14) rfl rfl rfl rfl bz hi rfl honey ?_))
 have Fw4:Fr Non w3 ((w3.alloc (.cells zO 44)).setRow w3.heap.size ya.cells):=((Fr.refl Non w3).alloc _).setRow (g:=w3.heap.size) (fun h=>absurd h (Al9 _)) ya.cells
 have bya:=bz.setRow (cs:=ya.cells)
 obtain ⟨ga,hga⟩:=Aa w3.heap.size
 rw [hga.out] at bya Fw4 ⊢
 generalize (w3.alloc (.cells zO 44)).setRow ga ya.cells=w4 at*
 have hg4:=hg3.fr Fw4
 have fr4:=fr3.trans Fw4 zr
 have hya4:=hyao w4 0
 clear hg3 fr3 Fw4
 clear bz honey hga
 have hyaok:ya.op.ok:=by rw [hya];exact Ge Ss
 obtain ⟨nx,hnx⟩:=Aa lA.name
 have kx:=Lib.hid (Gi ya nx (by rw [hya,← hnx.out];exact Gb lA) w4 hya4.at hyaok)
 have hla:=Bd (P:=Tryz.prog) ga 44 Tryz.underlying44 rfl (cs:=ya.cells) hi
 replace hya:Hid (ya.op=sgn lA):=hya
 have hnxok:nx.ok:=by rw [← hnx.out];exact Eb Ss
 go_upto_region 6 with (go_at_call 35;(with_reducible refine (kx.out).mono ?_);rintro _ w5 ⟨rfl,f5⟩)
 have Fx:Fr Non w4 (w5.alloc (.cells nx.V 38)):=f5.alloc _
 have bx:=Blk.new w5 38 nx.V
 obtain ⟨gx,hgx⟩:=Aa w5.heap.size
 rw [hgx.out] at bx ⊢
 generalize w5.alloc (.cells nx.V 38)=w6 at*
 have hg6:=hg4.fr Fx
 have fr6:=fr4.trans Fx zr
 have hya6:=hya4.non Fx
 replace bya:=bya.fr Fx zq
 clear hg4 fr4 hya4 Fx kx f5 hgx hla
 have x0:w6.cell? ⟨gx,0,none⟩=some (.int .i64 nx.b):=bx.cell 0
 have x1:w6.cell? ⟨gx,1,none⟩=some (.int .i64 nx.s):=bx.cell 1
 have x2:w6.cell? ⟨gx,2,none⟩=some (.int .u64 (nx.u:Int)):=bx.cell 2
 have ke:=Lib.hid (Lq 1 2 0 _ 1 1 (some ⟨w6.heap.size,0,none⟩) [nx] (w6.alloc (.cells nx.V 38)) (by decide) (by decide) (by decide) rfl (Rd.blk (n:=1) (size:=3) (l:=[nx].flatMap Id.cells) (Blk.new w6 38 nx.V) rfl) (by decide) (by intro z hz;obtain rfl:=List.mem_singleton.1 hz;exact hnxok))
 have fa:Fr Non w6 (w6.alloc (.cells nx.V 38)):=(Fr.refl Non w6).alloc _
 go_upto_region 7 with (first
  |(go_at_call 41;go_loud (with_reducible refine (ke.out).mono ?_);rintro _ v1 ⟨yb,rfl,hyb,hybo,f1v⟩;have fv:=fa.trans f1v zr;have bz:=Blk.new v1 44 zO;have honey:=Cr yb;clear ke x0 x1 x2)
  |(refine Fc rfl 44 (.tmp 4) (.tmp 19) rfl rfl rfl rfl bz hi rfl honey ?_))
 replace hyb:Hid (yb.op=sgn lB):=by show _=_;rw [hyb,← hnx.out,Sk];rfl
 have Fw7:Fr Non v1 ((v1.alloc (.cells zO 44)).setRow v1.heap.size yb.cells):=((Fr.refl Non v1).alloc _).setRow (g:=v1.heap.size) (fun h=>absurd h (Al9 _)) yb.cells
 have byb:=bz.setRow (cs:=yb.cells)
 obtain ⟨gy,hgy⟩:=Aa v1.heap.size
 rw [hgy.out] at byb Fw7 ⊢
 generalize (v1.alloc (.cells zO 44)).setRow gy yb.cells=w7 at*
 have hg7:=hg6.fr (fv.trans Fw7 zr)
 have fr7:=fr6.trans (fv.trans Fw7 zr) zr
 have FT:=fv.trans Fw7 zr
 replace bx:=bx.fr FT zq
 replace bya:=bya.fr FT zq
 have hya7:=hya6.non FT
 have hyb7:=(hybo.lower (Am0 _)).non Fw7
 clear bz honey hgy
 clear FT fv fa Fw7 f1v hybo hg6 fr6 hya6
 have x0:w7.cell? ⟨gx,0,none⟩=some (.int .i64 nx.b):=bx.cell 0
 have x1:w7.cell? ⟨gx,1,none⟩=some (.int .i64 nx.s):=bx.cell 1
 have x2:w7.cell? ⟨gx,2,none⟩=some (.int .u64 (nx.u:Int)):=bx.cell 2
 have ke:=Lib.hid (Lq 2 1 3 _ 1 1 (some ⟨w7.heap.size,0,none⟩) [nx] (w7.alloc (.cells nx.V 38)) (by decide) (by decide) (by decide) rfl (Rd.blk (n:=1) (size:=3) (l:=[nx].flatMap Id.cells) (Blk.new w7 38 nx.V) rfl) (by decide) (by intro z hz;obtain rfl:=List.mem_singleton.1 hz;exact hnxok))
 have fa:Fr Non w7 (w7.alloc (.cells nx.V 38)):=(Fr.refl Non w7).alloc _
 go_upto_region 8 with (first
  |(go_at_call 41;go_loud (with_reducible refine (ke.out).mono ?_);rintro _ v2 ⟨yc,rfl,hyc,hyco,f2v⟩;have fv:=fa.trans f2v zr;have bz:=Blk.new v2 44 zO;have honey:=Cr yc;clear ke x0 x1 x2)
  |(refine Fc rfl 44 (.tmp 5) (.tmp 22) rfl rfl rfl rfl bz hi rfl honey ?_))
 replace hyc:Hid (yc.op=sgn lC):=by show _=_;rw [hyc,← hnx.out,Sk];rfl
 have Fw8:Fr Non v2 ((v2.alloc (.cells zO 44)).setRow v2.heap.size yc.cells):=((Fr.refl Non v2).alloc _).setRow (g:=v2.heap.size) (fun h=>absurd h (Al9 _)) yc.cells
 have byc:=bz.setRow (cs:=yc.cells)
 obtain ⟨gz,hgz⟩:=Aa v2.heap.size
 rw [hgz.out] at byc Fw8 ⊢
 generalize (v2.alloc (.cells zO 44)).setRow gz yc.cells=w8 at*
 have hg8:=hg7.fr (fv.trans Fw8 zr)
 have fr8:=fr7.trans (fv.trans Fw8 zr) zr
 have FT:=fv.trans Fw8 zr
 replace bx:=bx.fr FT zq
 replace bya:=bya.fr FT zq
 have hya8:=hya7.non FT
 have hyc8:=(hyco.lower (Am0 _)).non Fw8
 replace byb:=byb.fr FT zq
 have hyb8:=hyb7.non FT
 clear bz honey hgz
 clear FT fv fa Fw8 f2v hyco hg7 fr7 hya7 hyb7
 have hybok:yb.op.ok:=by rw [hyb.out];exact Ge Mr
 have hycok:yc.op.ok:=by rw [hyc.out];exact Ge Ms
 have hnbok0:=Eb Mr
 have hncok0:=Eb Ms
 have hsort:Hid (Dw 2 2 3 (Am [lB.name,lC.name])=lD):=by show _=_;rw [Ak1];rfl
 have hnb0:yb.op.name=lB.name:=by rw [hyb.out];exact Gb lB
 have hnc0:yc.op.name=lC.name:=by rw [hyc.out];exact Gb lC
 obtain ⟨nb,hnb⟩:=Aa lB.name
 obtain ⟨nc,hnc⟩:=Aa lC.name
 rw [hnb.out,hnc.out] at hsort
 rw [hnb.out] at hnb0 hnbok0
 rw [hnc.out] at hnc0 hncok0
 have kib:Hid (∀w',Fr Non w8 w'→Calls Tryz.prog 35 #[.agg yb.cells] w' fun e w''=>e=.returned (.agg nb.V)∧Fr Non w' w''):=fun w' h=>Gi yb nb hnb0 w' (hyb8.non h).at hybok
 have kic:Hid (∀w',Fr Non w8 w'→Calls Tryz.prog 35 #[.agg yc.cells] w' fun e w''=>e=.returned (.agg nc.V)∧Fr Non w' w''):=fun w' h=>Gi yc nc hnc0 w' (hyc8.non h).at hycok
 have ke:Hid (∀(A:Option Addr) (B:Nat) (w':World),Rd w' B 3 A 2 ([nb,nc].flatMap Id.cells)→Calls Tryz.prog 41 #[.int .i64 2,.int .i64 2,.int .i64 3,.slice A 2 2] w' fun e w''=>∃y:OpL,e=.returned (.agg y.cells)∧y.op=sgn lD∧y.own w'' 0∧Fr Non w' w''):=by
  intro A B w' hr
  refine (Lq 2 2 3 B 2 2 A [nb,nc] w' (by decide) (by decide) (by decide) rfl hr (by decide) (by
   intro z hz
   rcases List.mem_cons.1 hz with rfl|hz
   · exact hnbok0
   ·
    obtain rfl:=List.mem_singleton.1 hz
    exact hncok0)).mono ?_
  rintro e w'' ⟨y,h1,h2,h3,h4⟩
  exact ⟨y,h1,h2.trans (congrArg sgn hsort.out),h3.lower (Am0 _),h4⟩
 replace hnb0:=Lib.hid hnb0
 replace hnc0:=Lib.hid hnc0
 have hlb:=Bd (P:=Tryz.prog) gy 44 Tryz.underlying44 rfl (cs:=yb.cells) hi
 have hlc:=Bd (P:=Tryz.prog) gz 44 Tryz.underlying44 rfl (cs:=yc.cells) hi
 obtain ⟨wd,hwd⟩:=Aa w8.drew
 have Fd:Fr Non w8 wd:=by rw [← hwd.out];exact (Fr.refl Non w8).drew
 have hS0:(fun w'=>Blk w' gy 44 yb.cells∧Blk w' gz 44 yc.cells) wd:=⟨byb.fr Fd zq,byc.fr Fd zq⟩
 apply Qr
 case h=>
  intro fin
  refine wp_region_held_drew (S:=(fun w'=>Blk w' gy 44 yb.cells∧Blk w' gz 44 yc.cells)) (by kernel_rfl) (by rw [hwd.out];exact hS0) (fun _=> ?_)
  rw [hwd.out]
  have fr0:Fr Non w8 wd:=Fd
  have fd0:Fr Non wd wd:=Fr.refl _ _
  refine wpAnyH_take (i:=0) (v:=?_) rfl (by kernel_rfl) (by kernel_rfl) (by kernel_rfl) (fun _ _ _ h=>h) (Or.inl ⟨by kernel_rfl,?_⟩) hS0 ?_
  rotate_left
  focus (intro w' hSw;have b1:=hSw.1;have b2:=hSw.2;(try dsimp only at b1 b2);go_simp;(try with_reducible rfl))
  try simp only [put_lit2,List.set]
  refine wpAnyH_take (i:=2) (v:=?_) rfl (by kernel_rfl) (by kernel_rfl) (by kernel_rfl) (fun _ _ _ h=>h) (Or.inl ⟨by kernel_rfl,?_⟩) hS0 ?_
  rotate_left
  focus (intro w' hSw;have b1:=hSw.1;have b2:=hSw.2;(try dsimp only at b1 b2);go_simp;(try with_reducible rfl))
  try simp only [put_lit2,List.set]
  refine wpAnyH_ready (rs:=[1,6]) (by kernel_rfl) (by simp) ?_
  refine AllReadyH.cons rfl (fun K hK=> ?_) ?_
  ·
   refine Du (by kernel_rfl) ?_
   go_simp
   go_wp2_with (go_at_call 35;(with_reducible refine (kib.out _ fr0).mono ?_);rintro _ v1 ⟨rfl,f1⟩)
   have hS1:(fun w'=>Blk w' gy 44 yb.cells∧Blk w' gz 44 yc.cells) _:=⟨hS0.1.fr f1 zq,hS0.2.fr f1 zq⟩
   have fr1:=fr0.trans f1 zr
   have fd1:=fd0.trans f1 zr
   refine hK.out _ _ hS1 (fun _=> ?_)
   clear hK K
   try simp only [put_lit2,List.set]
   refine wpAnyH_ready (rs:=[3,6]) (by kernel_rfl) (by simp) ?_
   refine AllReadyH.cons rfl (fun K hK=> ?_) ?_
   ·
    refine Du (by kernel_rfl) ?_
    go_simp
    go_wp2_with (go_at_call 35;(with_reducible refine (kic.out _ fr1).mono ?_);rintro _ v2 ⟨rfl,f2⟩)
    have hS2:(fun w'=>Blk w' gy 44 yb.cells∧Blk w' gz 44 yc.cells) _:=⟨hS1.1.fr f2 zq,hS1.2.fr f2 zq⟩
    have fr2:=fr1.trans f2 zr
    have fd2:=fd1.trans f2 zr
    refine hK.out _ _ hS2 (fun _=> ?_)
    clear hK K
    try simp only [put_lit2,List.set]
    refine wpAnyH_ready (rs:=[4,6]) (by kernel_rfl) (by simp) ?_
    refine AllReadyH.cons rfl (fun K hK=> ?_) ?_
    ·
     refine Du (by kernel_rfl) ?_
     go_simp
     have hrd:=Rd.blk (n:=2) (size:=3) (l:=[nb,nc].flatMap Id.cells) (Blk.new v2 38 #[.int .i64 nb.b,.int .i64 nb.s,.int .u64 (nb.u:Int),.int .i64 nc.b,.int .i64 nc.s,.int .u64 (nc.u:Int)]) rfl
     have f3:Fr Non v2 (v2.alloc (.cells #[.int .i64 nb.b,.int .i64 nb.s,.int .u64 (nb.u:Int),.int .i64 nc.b,.int .i64 nc.s,.int .u64 (nc.u:Int)] 38)):=(Fr.refl Non _).alloc _
     have hS3:(fun w'=>Blk w' gy 44 yb.cells∧Blk w' gz 44 yc.cells) _:=⟨hS2.1.fr f3 zq,hS2.2.fr f3 zq⟩
     have fr3:=fr2.trans f3 zr
     have fd3:=fd2.trans f3 zr
     refine hK.out _ _ hS3 (fun _=> ?_)
     clear hK K
     try simp only [put_lit2,List.set]
     obtain ⟨v3,hv3⟩:=Aa (v2.alloc (.cells #[.int .i64 nb.b,.int .i64 nb.s,.int .u64 (nb.u:Int),.int .i64 nc.b,.int .i64 nc.s,.int .u64 (nc.u:Int)] 38))
     obtain ⟨rb,hrb⟩:=Aa v2.heap.size
     rw [hv3.out] at hS3 fr3 fd3 hrd ⊢
     rw [hrb.out] at hrd ⊢
     refine wpAnyH_ready (rs:=[5,6]) (by kernel_rfl) (by simp) ?_
     refine AllReadyH.cons rfl (fun K hK=> ?_) ?_
     ·
      refine Du (by kernel_rfl) ?_
      go_simp
      go_wp2_with (go_at_call 41;(with_reducible refine (ke.out _ _ _ hrd).mono ?_);rintro _ v4 ⟨yd,rfl,hyd,hydo,f4⟩)
      have hS4:(fun w'=>Blk w' gy 44 yb.cells∧Blk w' gz 44 yc.cells) _:=⟨hS3.1.fr f4 zq,hS3.2.fr f4 zq⟩
      have fr4:=fr3.trans f4 zr
      have fd4:=fd3.trans f4 zr
      refine hK.out _ _ hS4 (fun _=> ?_)
      clear hK K
      try simp only [put_lit2,List.set]
      refine Bj 6 (by kernel_rfl) rfl (by kernel_rfl) (fun K hK=> ?_)
      go_simp
      have bz:=Blk.new v4 44 zO
      have hgy1:gy<v4.heap.size:=hS4.1.lt
      have hgz1:gz<v4.heap.size:=hS4.2.lt
      have f5:Fr Non v4 (v4.alloc (.cells zO 44)):=(Fr.refl Non _).alloc _
      have hS5:(fun w'=>Blk w' gy 44 yb.cells∧Blk w' gz 44 yc.cells) _:=⟨hS4.1.fr f5 zq,hS4.2.fr f5 zq⟩
      have fr5:=fr4.trans f5 zr
      have fd5:=fd4.trans f5 zr
      refine hK.out _ _ hS5 (fun _=> ?_)
      clear hK K
      try simp only [put_lit2,List.set]
      replace hydo:=hydo.non f5
      obtain ⟨gd,hgd⟩:=Aa v4.heap.size
      have hgz:wd.heap.size≤gd:=by rw [← hgd.out];exact fd4.size
      rw [hgd.out] at bz hgy1 hgz1 ⊢
      obtain ⟨v5,hv5⟩:=Aa (v4.alloc (.cells zO 44))
      rw [hv5.out] at bz hS5 fr5 fd5 hydo ⊢
      refine Bj 7 (by kernel_rfl) rfl (by kernel_rfl) (fun K hK=> ?_)
      have honey:=Cr yd
      refine Em 44 (.tmp 6) (.tmp 28) (g:=gd) (cs:=yd.cells) rfl rfl (by rfl) (by rfl) bz hi rfl honey ?_
      have fz:Fr (One gd) v5 (v5.setRow gd yd.cells):=(Fr.refl (One gd) v5).setRow (g:=gd) (fun _=>rfl) yd.cells
      have hSF:(fun w'=>Blk w' gy 44 yb.cells∧Blk w' gz 44 yc.cells) (v5.setRow gd yd.cells):=⟨hS5.1.fr fz (fun e=>Al1 hgy1 e),hS5.2.fr fz (fun e=>Al1 hgz1 e)⟩
      have bF:=bz.setRow (cs:=yd.cells)
      have oF:=hydo.keepP fz (Types.one bz) (by decide) (by decide) (by decide) (by decide) (by decide) (by decide) (by decide)
      have fF:Fr Non wd (v5.setRow gd yd.cells):=fd5.trans fz (fun k hk e=>absurd hk (Nat.not_lt.2 (by have e':k=gd:=e;rw [e'];exact hgz)))
      refine hK.out _ _ hSF (fun hzz=> ?_)
      clear hK K hzz
      refine oD ?_
      go_simp
      clear hSF fz bz honey hydo
      revert fF oF bF hyd
      generalize v5.setRow gd yd.cells=wF
      clear hgd hgz hgy1 hgz1 hrd hrb
      generalize gd=gd2
      generalize rb=rb2
      revert wF gd2 rb2 yd
      exact fin
     refine AllReadyH.cons rfl (fun K hK=> ?_) AllReadyH.nil
     ·
      refine Du (by kernel_rfl) ?_
      go_simp
      have bz:=Blk.new v3 44 zO
      have hgy1:gy<v3.heap.size:=hS3.1.lt
      have hgz1:gz<v3.heap.size:=hS3.2.lt
      have f6:Fr Non v3 (v3.alloc (.cells zO 44)):=(Fr.refl Non _).alloc _
      have hS6:(fun w'=>Blk w' gy 44 yb.cells∧Blk w' gz 44 yc.cells) _:=⟨hS3.1.fr f6 zq,hS3.2.fr f6 zq⟩
      have fr6:=fr3.trans f6 zr
      have fd6:=fd3.trans f6 zr
      refine hK.out _ _ hS6 (fun _=> ?_)
      clear hK K
      try simp only [put_lit2,List.set]
      replace hrd:=hrd.fr f6 zr
      obtain ⟨gd,hgd⟩:=Aa v3.heap.size
      have hgz:wd.heap.size≤gd:=by rw [← hgd.out];exact fd3.size
      rw [hgd.out] at bz hgy1 hgz1 ⊢
      obtain ⟨v6,hv6⟩:=Aa (v3.alloc (.cells zO 44))
      rw [hv6.out] at bz hS6 fr6 fd6 hrd ⊢
      refine Bj 5 (by kernel_rfl) rfl (by kernel_rfl) (fun K hK=> ?_)
      go_simp
      go_wp2_with (go_at_call 41;(with_reducible refine (ke.out _ _ _ hrd).mono ?_);rintro _ v7 ⟨yd,rfl,hyd,hydo,f7⟩)
      have hS7:(fun w'=>Blk w' gy 44 yb.cells∧Blk w' gz 44 yc.cells) _:=⟨hS6.1.fr f7 zq,hS6.2.fr f7 zq⟩
      have fr7:=fr6.trans f7 zr
      have fd7:=fd6.trans f7 zr
      refine hK.out _ _ hS7 (fun _=> ?_)
      clear hK K
      try simp only [put_lit2,List.set]
      replace bz:=bz.fr f7 zq
      refine Bj 7 (by kernel_rfl) rfl (by kernel_rfl) (fun K hK=> ?_)
      have honey:=Cr yd
      refine Em 44 (.tmp 6) (.tmp 28) (g:=gd) (cs:=yd.cells) rfl rfl (by rfl) (by rfl) bz hi rfl honey ?_
      have fz:Fr (One gd) v7 (v7.setRow gd yd.cells):=(Fr.refl (One gd) v7).setRow (g:=gd) (fun _=>rfl) yd.cells
      have hSF:(fun w'=>Blk w' gy 44 yb.cells∧Blk w' gz 44 yc.cells) (v7.setRow gd yd.cells):=⟨hS7.1.fr fz (fun e=>Al1 hgy1 e),hS7.2.fr fz (fun e=>Al1 hgz1 e)⟩
      have bF:=bz.setRow (cs:=yd.cells)
      have oF:=hydo.keepP fz (Types.one bz) (by decide) (by decide) (by decide) (by decide) (by decide) (by decide) (by decide)
      have fF:Fr Non wd (v7.setRow gd yd.cells):=fd7.trans fz (fun k hk e=>absurd hk (Nat.not_lt.2 (by have e':k=gd:=e;rw [e'];exact hgz)))
      refine hK.out _ _ hSF (fun hzz=> ?_)
      clear hK K hzz
      refine oD ?_
      go_simp
      clear hSF fz bz honey hydo
      revert fF oF bF hyd
      generalize v7.setRow gd yd.cells=wF
      clear hgd hgz hgy1 hgz1 hrd hrb
      generalize gd=gd2
      generalize rb=rb2
      revert wF gd2 rb2 yd
      exact fin
    refine AllReadyH.cons rfl (fun K hK=> ?_) AllReadyH.nil
    ·
     refine Du (by kernel_rfl) ?_
     go_simp
     have bz:=Blk.new v2 44 zO
     have hgy1:gy<v2.heap.size:=hS2.1.lt
     have hgz1:gz<v2.heap.size:=hS2.2.lt
     have f9:Fr Non v2 (v2.alloc (.cells zO 44)):=(Fr.refl Non _).alloc _
     have hS9:(fun w'=>Blk w' gy 44 yb.cells∧Blk w' gz 44 yc.cells) _:=⟨hS2.1.fr f9 zq,hS2.2.fr f9 zq⟩
     have fr9:=fr2.trans f9 zr
     have fd9:=fd2.trans f9 zr
     refine hK.out _ _ hS9 (fun _=> ?_)
     clear hK K
     try simp only [put_lit2,List.set]
     obtain ⟨gd,hgd⟩:=Aa v2.heap.size
     have hgz:wd.heap.size≤gd:=by rw [← hgd.out];exact fd2.size
     rw [hgd.out] at bz hgy1 hgz1 ⊢
     obtain ⟨v9,hv9⟩:=Aa (v2.alloc (.cells zO 44))
     rw [hv9.out] at bz hS9 fr9 fd9 ⊢
     refine Bj 4 (by kernel_rfl) rfl (by kernel_rfl) (fun K hK=> ?_)
     go_simp
     have hrd:=Rd.blk (n:=2) (size:=3) (l:=[nb,nc].flatMap Id.cells) (Blk.new v9 38 #[.int .i64 nb.b,.int .i64 nb.s,.int .u64 (nb.u:Int),.int .i64 nc.b,.int .i64 nc.s,.int .u64 (nc.u:Int)]) rfl
     have f10:Fr Non v9 (v9.alloc (.cells #[.int .i64 nb.b,.int .i64 nb.s,.int .u64 (nb.u:Int),.int .i64 nc.b,.int .i64 nc.s,.int .u64 (nc.u:Int)] 38)):=(Fr.refl Non _).alloc _
     have hS10:(fun w'=>Blk w' gy 44 yb.cells∧Blk w' gz 44 yc.cells) _:=⟨hS9.1.fr f10 zq,hS9.2.fr f10 zq⟩
     have fr10:=fr9.trans f10 zr
     have fd10:=fd9.trans f10 zr
     refine hK.out _ _ hS10 (fun _=> ?_)
     clear hK K
     try simp only [put_lit2,List.set]
     obtain ⟨v10,hv10⟩:=Aa (v9.alloc (.cells #[.int .i64 nb.b,.int .i64 nb.s,.int .u64 (nb.u:Int),.int .i64 nc.b,.int .i64 nc.s,.int .u64 (nc.u:Int)] 38))
     obtain ⟨rb,hrb⟩:=Aa v9.heap.size
     rw [hv10.out] at hS10 fr10 fd10 hrd ⊢
     rw [hrb.out] at hrd ⊢
     replace bz:=bz.fr f10 zq
     rw [hv10.out] at bz
     refine Bj 5 (by kernel_rfl) rfl (by kernel_rfl) (fun K hK=> ?_)
     go_simp
     go_wp2_with (go_at_call 41;(with_reducible refine (ke.out _ _ _ hrd).mono ?_);rintro _ v11 ⟨yd,rfl,hyd,hydo,f11⟩)
     have hS11:(fun w'=>Blk w' gy 44 yb.cells∧Blk w' gz 44 yc.cells) _:=⟨hS10.1.fr f11 zq,hS10.2.fr f11 zq⟩
     have fr11:=fr10.trans f11 zr
     have fd11:=fd10.trans f11 zr
     refine hK.out _ _ hS11 (fun _=> ?_)
     clear hK K
     try simp only [put_lit2,List.set]
     replace bz:=bz.fr f11 zq
     refine Bj 7 (by kernel_rfl) rfl (by kernel_rfl) (fun K hK=> ?_)
     have honey:=Cr yd
     refine Em 44 (.tmp 6) (.tmp 28) (g:=gd) (cs:=yd.cells) rfl rfl (by rfl) (by rfl) bz hi rfl honey ?_
     have fz:Fr (One gd) v11 (v11.setRow gd yd.cells):=(Fr.refl (One gd) v11).setRow (g:=gd) (fun _=>rfl) yd.cells
     have hSF:(fun w'=>Blk w' gy 44 yb.cells∧Blk w' gz 44 yc.cells) (v11.setRow gd yd.cells):=⟨hS11.1.fr fz (fun e=>Al1 hgy1 e),hS11.2.fr fz (fun e=>Al1 hgz1 e)⟩
     have bF:=bz.setRow (cs:=yd.cells)
     have oF:=hydo.keepP fz (Types.one bz) (by decide) (by decide) (by decide) (by decide) (by decide) (by decide) (by decide)
     have fF:Fr Non wd (v11.setRow gd yd.cells):=fd11.trans fz (fun k hk e=>absurd hk (Nat.not_lt.2 (by have e':k=gd:=e;rw [e'];exact hgz)))
     refine hK.out _ _ hSF (fun hzz=> ?_)
     clear hK K hzz
     refine oD ?_
     go_simp
     clear hSF fz bz honey hydo
     revert fF oF bF hyd
     generalize v11.setRow gd yd.cells=wF
     clear hgd hgz hgy1 hgz1 hrd hrb
     generalize gd=gd2
     generalize rb=rb2
     revert wF gd2 rb2 yd
     exact fin
   refine AllReadyH.cons rfl (fun K hK=> ?_) AllReadyH.nil
   ·
    refine Du (by kernel_rfl) ?_
    go_simp
    have bz:=Blk.new v1 44 zO
    have hgy1:gy<v1.heap.size:=hS1.1.lt
    have hgz1:gz<v1.heap.size:=hS1.2.lt
    have f13:Fr Non v1 (v1.alloc (.cells zO 44)):=(Fr.refl Non _).alloc _
    have hS13:(fun w'=>Blk w' gy 44 yb.cells∧Blk w' gz 44 yc.cells) _:=⟨hS1.1.fr f13 zq,hS1.2.fr f13 zq⟩
    have fr13:=fr1.trans f13 zr
    have fd13:=fd1.trans f13 zr
    refine hK.out _ _ hS13 (fun _=> ?_)
    clear hK K
    try simp only [put_lit2,List.set]
    obtain ⟨gd,hgd⟩:=Aa v1.heap.size
    have hgz:wd.heap.size≤gd:=by rw [← hgd.out];exact fd1.size
    rw [hgd.out] at bz hgy1 hgz1 ⊢
    obtain ⟨v13,hv13⟩:=Aa (v1.alloc (.cells zO 44))
    rw [hv13.out] at bz hS13 fr13 fd13 ⊢
    refine Bj 3 (by kernel_rfl) rfl (by kernel_rfl) (fun K hK=> ?_)
    go_simp
    go_wp2_with (go_at_call 35;(with_reducible refine (kic.out _ fr13).mono ?_);rintro _ v14 ⟨rfl,f14⟩)
    have hS14:(fun w'=>Blk w' gy 44 yb.cells∧Blk w' gz 44 yc.cells) _:=⟨hS13.1.fr f14 zq,hS13.2.fr f14 zq⟩
    have fr14:=fr13.trans f14 zr
    have fd14:=fd13.trans f14 zr
    refine hK.out _ _ hS14 (fun _=> ?_)
    clear hK K
    try simp only [put_lit2,List.set]
    replace bz:=bz.fr f14 zq
    refine Bj 4 (by kernel_rfl) rfl (by kernel_rfl) (fun K hK=> ?_)
    go_simp
    have hrd:=Rd.blk (n:=2) (size:=3) (l:=[nb,nc].flatMap Id.cells) (Blk.new v14 38 #[.int .i64 nb.b,.int .i64 nb.s,.int .u64 (nb.u:Int),.int .i64 nc.b,.int .i64 nc.s,.int .u64 (nc.u:Int)]) rfl
    have f15:Fr Non v14 (v14.alloc (.cells #[.int .i64 nb.b,.int .i64 nb.s,.int .u64 (nb.u:Int),.int .i64 nc.b,.int .i64 nc.s,.int .u64 (nc.u:Int)] 38)):=(Fr.refl Non _).alloc _
    have hS15:(fun w'=>Blk w' gy 44 yb.cells∧Blk w' gz 44 yc.cells) _:=⟨hS14.1.fr f15 zq,hS14.2.fr f15 zq⟩
    have fr15:=fr14.trans f15 zr
    have fd15:=fd14.trans f15 zr
    refine hK.out _ _ hS15 (fun _=> ?_)
    clear hK K
    try simp only [put_lit2,List.set]
    obtain ⟨v15,hv15⟩:=Aa (v14.alloc (.cells #[.int .i64 nb.b,.int .i64 nb.s,.int .u64 (nb.u:Int),.int .i64 nc.b,.int .i64 nc.s,.int .u64 (nc.u:Int)] 38))
    obtain ⟨rb,hrb⟩:=Aa v14.heap.size
    rw [hv15.out] at hS15 fr15 fd15 hrd ⊢
    rw [hrb.out] at hrd ⊢
    replace bz:=bz.fr f15 zq
    rw [hv15.out] at bz
    refine Bj 5 (by kernel_rfl) rfl (by kernel_rfl) (fun K hK=> ?_)
    go_simp
    go_wp2_with (go_at_call 41;(with_reducible refine (ke.out _ _ _ hrd).mono ?_);rintro _ v16 ⟨yd,rfl,hyd,hydo,f16⟩)
    have hS16:(fun w'=>Blk w' gy 44 yb.cells∧Blk w' gz 44 yc.cells) _:=⟨hS15.1.fr f16 zq,hS15.2.fr f16 zq⟩
    have fr16:=fr15.trans f16 zr
    have fd16:=fd15.trans f16 zr
    refine hK.out _ _ hS16 (fun _=> ?_)
    clear hK K
    try simp only [put_lit2,List.set]
    replace bz:=bz.fr f16 zq
    refine Bj 7 (by kernel_rfl) rfl (by kernel_rfl) (fun K hK=> ?_)
    have honey:=Cr yd
    refine Em 44 (.tmp 6) (.tmp 28) (g:=gd) (cs:=yd.cells) rfl rfl (by rfl) (by rfl) bz hi rfl honey ?_
    have fz:Fr (One gd) v16 (v16.setRow gd yd.cells):=(Fr.refl (One gd) v16).setRow (g:=gd) (fun _=>rfl) yd.cells
    have hSF:(fun w'=>Blk w' gy 44 yb.cells∧Blk w' gz 44 yc.cells) (v16.setRow gd yd.cells):=⟨hS16.1.fr fz (fun e=>Al1 hgy1 e),hS16.2.fr fz (fun e=>Al1 hgz1 e)⟩
    have bF:=bz.setRow (cs:=yd.cells)
    have oF:=hydo.keepP fz (Types.one bz) (by decide) (by decide) (by decide) (by decide) (by decide) (by decide) (by decide)
    have fF:Fr Non wd (v16.setRow gd yd.cells):=fd16.trans fz (fun k hk e=>absurd hk (Nat.not_lt.2 (by have e':k=gd:=e;rw [e'];exact hgz)))
    refine hK.out _ _ hSF (fun hzz=> ?_)
    clear hK K hzz
    refine oD ?_
    go_simp
    clear hSF fz bz honey hydo
    revert fF oF bF hyd
    generalize v16.setRow gd yd.cells=wF
    clear hgd hgz hgy1 hgz1 hrd hrb
    generalize gd=gd2
    generalize rb=rb2
    revert wF gd2 rb2 yd
    exact fin
  refine AllReadyH.cons rfl (fun K hK=> ?_) AllReadyH.nil
  ·
   refine Du (by kernel_rfl) ?_
   go_simp
   have bz:=Blk.new wd 44 zO
   have hgy1:gy<wd.heap.size:=hS0.1.lt
   have hgz1:gz<wd.heap.size:=hS0.2.lt
   have f18:Fr Non wd (wd.alloc (.cells zO 44)):=(Fr.refl Non _).alloc _
   have hS18:(fun w'=>Blk w' gy 44 yb.cells∧Blk w' gz 44 yc.cells) _:=⟨hS0.1.fr f18 zq,hS0.2.fr f18 zq⟩
   have fr18:=fr0.trans f18 zr
   have fd18:=fd0.trans f18 zr
   refine hK.out _ _ hS18 (fun _=> ?_)
   clear hK K
   try simp only [put_lit2,List.set]
   obtain ⟨gd,hgd⟩:=Aa wd.heap.size
   have hgz:wd.heap.size≤gd:=by rw [← hgd.out];exact fd0.size
   rw [hgd.out] at bz hgy1 hgz1 ⊢
   obtain ⟨v18,hv18⟩:=Aa (wd.alloc (.cells zO 44))
   rw [hv18.out] at bz hS18 fr18 fd18 ⊢
   refine Bj 1 (by kernel_rfl) rfl (by kernel_rfl) (fun K hK=> ?_)
   go_simp
   go_wp2_with (go_at_call 35;(with_reducible refine (kib.out _ fr18).mono ?_);rintro _ v19 ⟨rfl,f19⟩)
   have hS19:(fun w'=>Blk w' gy 44 yb.cells∧Blk w' gz 44 yc.cells) _:=⟨hS18.1.fr f19 zq,hS18.2.fr f19 zq⟩
   have fr19:=fr18.trans f19 zr
   have fd19:=fd18.trans f19 zr
   refine hK.out _ _ hS19 (fun _=> ?_)
   clear hK K
   try simp only [put_lit2,List.set]
   replace bz:=bz.fr f19 zq
   refine Bj 3 (by kernel_rfl) rfl (by kernel_rfl) (fun K hK=> ?_)
   go_simp
   go_wp2_with (go_at_call 35;(with_reducible refine (kic.out _ fr19).mono ?_);rintro _ v20 ⟨rfl,f20⟩)
   have hS20:(fun w'=>Blk w' gy 44 yb.cells∧Blk w' gz 44 yc.cells) _:=⟨hS19.1.fr f20 zq,hS19.2.fr f20 zq⟩
   have fr20:=fr19.trans f20 zr
   have fd20:=fd19.trans f20 zr
   refine hK.out _ _ hS20 (fun _=> ?_)
   clear hK K
   try simp only [put_lit2,List.set]
   replace bz:=bz.fr f20 zq
   refine Bj 4 (by kernel_rfl) rfl (by kernel_rfl) (fun K hK=> ?_)
   go_simp
   have hrd:=Rd.blk (n:=2) (size:=3) (l:=[nb,nc].flatMap Id.cells) (Blk.new v20 38 #[.int .i64 nb.b,.int .i64 nb.s,.int .u64 (nb.u:Int),.int .i64 nc.b,.int .i64 nc.s,.int .u64 (nc.u:Int)]) rfl
   have f21:Fr Non v20 (v20.alloc (.cells #[.int .i64 nb.b,.int .i64 nb.s,.int .u64 (nb.u:Int),.int .i64 nc.b,.int .i64 nc.s,.int .u64 (nc.u:Int)] 38)):=(Fr.refl Non _).alloc _
   have hS21:(fun w'=>Blk w' gy 44 yb.cells∧Blk w' gz 44 yc.cells) _:=⟨hS20.1.fr f21 zq,hS20.2.fr f21 zq⟩
   have fr21:=fr20.trans f21 zr
   have fd21:=fd20.trans f21 zr
   refine hK.out _ _ hS21 (fun _=> ?_)
   clear hK K
   try simp only [put_lit2,List.set]
   obtain ⟨v21,hv21⟩:=Aa (v20.alloc (.cells #[.int .i64 nb.b,.int .i64 nb.s,.int .u64 (nb.u:Int),.int .i64 nc.b,.int .i64 nc.s,.int .u64 (nc.u:Int)] 38))
   obtain ⟨rb,hrb⟩:=Aa v20.heap.size
   rw [hv21.out] at hS21 fr21 fd21 hrd ⊢
   rw [hrb.out] at hrd ⊢
   replace bz:=bz.fr f21 zq
   rw [hv21.out] at bz
   refine Bj 5 (by kernel_rfl) rfl (by kernel_rfl) (fun K hK=> ?_)
   go_simp
   go_wp2_with (go_at_call 41;(with_reducible refine (ke.out _ _ _ hrd).mono ?_);rintro _ v22 ⟨yd,rfl,hyd,hydo,f22⟩)
   have hS22:(fun w'=>Blk w' gy 44 yb.cells∧Blk w' gz 44 yc.cells) _:=⟨hS21.1.fr f22 zq,hS21.2.fr f22 zq⟩
   have fr22:=fr21.trans f22 zr
   have fd22:=fd21.trans f22 zr
   refine hK.out _ _ hS22 (fun _=> ?_)
   clear hK K
   try simp only [put_lit2,List.set]
   replace bz:=bz.fr f22 zq
   refine Bj 7 (by kernel_rfl) rfl (by kernel_rfl) (fun K hK=> ?_)
   have honey:=Cr yd
   refine Em 44 (.tmp 6) (.tmp 28) (g:=gd) (cs:=yd.cells) rfl rfl (by rfl) (by rfl) bz hi rfl honey ?_
   have fz:Fr (One gd) v22 (v22.setRow gd yd.cells):=(Fr.refl (One gd) v22).setRow (g:=gd) (fun _=>rfl) yd.cells
   have hSF:(fun w'=>Blk w' gy 44 yb.cells∧Blk w' gz 44 yc.cells) (v22.setRow gd yd.cells):=⟨hS22.1.fr fz (fun e=>Al1 hgy1 e),hS22.2.fr fz (fun e=>Al1 hgz1 e)⟩
   have bF:=bz.setRow (cs:=yd.cells)
   have oF:=hydo.keepP fz (Types.one bz) (by decide) (by decide) (by decide) (by decide) (by decide) (by decide) (by decide)
   have fF:Fr Non wd (v22.setRow gd yd.cells):=fd22.trans fz (fun k hk e=>absurd hk (Nat.not_lt.2 (by have e':k=gd:=e;rw [e'];exact hgz)))
   refine hK.out _ _ hSF (fun hzz=> ?_)
   clear hK K hzz
   refine oD ?_
   go_simp
   clear hSF fz bz honey hydo
   revert fF oF bF hyd
   generalize v22.setRow gd yd.cells=wF
   clear hgd hgz hgy1 hgz1 hrd hrb
   generalize gd=gd2
   generalize rb=rb2
   revert wF gd2 rb2 yd
   exact fin
 case hp=>
  intro yd w9 gd rb hyd bd hydo F9
  have F89:=Fd.trans F9 zr
  have hydok:yd.op.ok:=by rw [hyd];exact Ge Sr
  replace hyd:Hid (yd.op=sgn lD):=hyd
  have fr0:=fr8.trans F89 zr
  have hk0:KindsAt w9:=hkH.out.fr fr0
  have hq0:=hg8.fr F89
  have ba0:=bya.fr F89 zq
  have bb0:=byb.fr F89 zq
  have bc0:=byc.fr F89 zq
  have bd0:=bd
  have bi0:=bx.fr F89 zq
  have oa0:=hya8.non F89
  have ob0:=hyb8.non F89
  have oc0:=hyc8.non F89
  have od0:=hydo
  have hqb0:=hgb
  have hqc0:=hcs
  have hqp0:=hpn
  have hla:=Bd (P:=Tryz.prog) ga 44 Tryz.underlying44 rfl (cs:=ya.cells) hi
  have hld:=Bd (P:=Tryz.prog) gd 44 Tryz.underlying44 rfl (cs:=yd.cells) hi
  clear hS0 ke kib kic Fd F9 F89 bya byb byc bx hya8 hyb8 hyc8 hydo bd fr8 hg8 hgb hcs hpn hwd wd
  have kt:=Gd (x:=ya) (l:=[]) (p:=pA) hqp0.out hq0 oa0.at hyaok hk0 (by rw [hqc0.out,hya.out];exact addA0 hf1.out hs1.out) (by rw [hya.out];exact pnA);rw [hqb0.out] at kt;have ka0:=Lib.hid kt;clear kt
  go_upto_region 11 with (first
   |(go_at_call 17;(with_reducible refine (ka0.out).mono ?_);rintro _ u1 ⟨rfl,q1,hq1,hb1,hc1,hp1,F⟩;have hqb1:Hid (q1.gb=gb):=hb1.trans hqb0.out;have hqc1:Hid (q1.cards=[cd1,cd2]):=hc1.trans hqc0.out;have hqp1:Hid (q1.pns=[pA]):=hp1;have ba1:=Blk.keepG ba0 hq0 F (by unfold Gty;decide);have bb1:=Blk.keepG bb0 hq0 F (by unfold Gty;decide);have bc1:=Blk.keepG bc0 hq0 F (by unfold Gty;decide);have bd1:=Blk.keepG bd0 hq0 F (by unfold Gty;decide);have bi1:=Blk.keepG bi0 hq0 F (by unfold Gty;decide);have oa1:=oa0.keepG hq0 F;have ob1:=ob0.keepG hq0 F;have oc1:=oc0.keepG hq0 F;have od1:=od0.keepG hq0 F;have fr1:=fr0.trans F (fun k hk e=>by have h1:=hq0.ge e;omega);have hk1:=KindsAt.own hk0 hq0 F;have kt:=Gd (x:=yb) (l:=[pA]) (p:=pB) hqp1.out hq1 ob1.at hybok hk1 (by rw [hqc1.out,hyb.out];exact addB0 hf1.out hs1.out) (by rw [hyb.out];exact pnB);rw [hqb1.out] at kt;have ka1:=Lib.hid kt;clear kt;clear hq0 hqb0 hqc0 hqp0 hk0 fr0 ba0 bb0 bc0 bd0 bi0 oa0 ob0 oc0 od0 ka0 F)
   |(go_at_call 17;(with_reducible refine (ka1.out).mono ?_);rintro _ u2 ⟨rfl,q2,hq2,hb2,hc2,hp2,F⟩;have hqb2:Hid (q2.gb=gb):=hb2.trans hqb1.out;have hqc2:Hid (q2.cards=[cd1,cd2]):=hc2.trans hqc1.out;have hqp2:Hid (q2.pns=[pA,pB]):=hp2;have ba2:=Blk.keepG ba1 hq1 F (by unfold Gty;decide);have bb2:=Blk.keepG bb1 hq1 F (by unfold Gty;decide);have bc2:=Blk.keepG bc1 hq1 F (by unfold Gty;decide);have bd2:=Blk.keepG bd1 hq1 F (by unfold Gty;decide);have bi2:=Blk.keepG bi1 hq1 F (by unfold Gty;decide);have oa2:=oa1.keepG hq1 F;have ob2:=ob1.keepG hq1 F;have oc2:=oc1.keepG hq1 F;have od2:=od1.keepG hq1 F;have fr2:=fr1.trans F (fun k hk e=>by have h1:=hq1.ge e;omega);have hk2:=KindsAt.own hk1 hq1 F;have kt:=Lv (x:=yd) (l:=[pA,pB]) (err:=10) hqp2.out hq2 od2.at hydok hk2 (by rw [hqc2.out,hyd.out];exact Ak2 hf2.out hs2.out) (by decide);rw [hqb2.out] at kt;have ka2:=Lib.hid kt;clear kt;clear hq1 hqb1 hqc1 hqp1 hk1 fr1 ba1 bb1 bc1 bd1 bi1 oa1 ob1 oc1 od1 ka1 F)
   |(go_at_call 17;(with_reducible refine (ka2.out).mono ?_);rintro _ u3 ⟨rfl,F⟩;have hq3:=hq2.fr F;have hqb3:=hqb2;have hqc3:=hqc2;have hqp3:=hqp2;have ba3:=ba2.fr F zq;have bb3:=bb2.fr F zq;have bc3:=bc2.fr F zq;have bd3:=bd2.fr F zq;have bi3:=bi2.fr F zq;have oa3:=oa2.non F;have ob3:=ob2.non F;have oc3:=oc2.non F;have od3:=od2.non F;have fr3:=fr2.trans F zr;have hk3:=hk2.fr F;have kt:=Gd (x:=yc) (l:=[pA,pB]) (p:=pC) hqp3.out hq3 oc3.at hycok hk3 (by rw [hqc3.out,hyc.out];exact addC0 hf2.out hs2.out) (by rw [hyc.out];exact pnC);rw [hqb3.out] at kt;have ka3:=Lib.hid kt;clear kt;clear hq2 hqb2 hqc2 hqp2 hk2 fr2 ba2 bb2 bc2 bd2 bi2 oa2 ob2 oc2 od2 ka2 F)
   |(go_at_call 17;(with_reducible refine (ka3.out).mono ?_);rintro _ u4 ⟨rfl,q4,hq4,hb4,hc4,hp4,F⟩;have hqb4:Hid (q4.gb=gb):=hb4.trans hqb3.out;have hqc4:Hid (q4.cards=[cd1,cd2]):=hc4.trans hqc3.out;have hqp4:Hid (q4.pns=[pA,pB,pC]):=hp4;have ba4:=Blk.keepG ba3 hq3 F (by unfold Gty;decide);have bb4:=Blk.keepG bb3 hq3 F (by unfold Gty;decide);have bc4:=Blk.keepG bc3 hq3 F (by unfold Gty;decide);have bd4:=Blk.keepG bd3 hq3 F (by unfold Gty;decide);have bi4:=Blk.keepG bi3 hq3 F (by unfold Gty;decide);have oa4:=oa3.keepG hq3 F;have ob4:=ob3.keepG hq3 F;have oc4:=oc3.keepG hq3 F;have od4:=od3.keepG hq3 F;have fr4:=fr3.trans F (fun k hk e=>by have h1:=hq3.ge e;omega);have hk4:=KindsAt.own hk3 hq3 F;have kt:=Gd (x:=yd) (l:=[pA,pB,pC]) (p:=pD) hqp4.out hq4 od4.at hydok hk4 (by rw [hqc4.out,hyd.out];exact addD0 hf2.out hs2.out) (by rw [hyd.out];exact pnD);rw [hqb4.out] at kt;have ka4:=Lib.hid kt;clear kt;clear hq3 hqb3 hqc3 hqp3 hk3 fr3 ba3 bb3 bc3 bd3 bi3 oa3 ob3 oc3 od3 ka3 F)
   |(go_at_call 17;(with_reducible refine (ka4.out).mono ?_);rintro _ u5 ⟨rfl,q5,hq5,hb5,hc5,hp5,F⟩;have hqb5:Hid (q5.gb=gb):=hb5.trans hqb4.out;have hqc5:Hid (q5.cards=[cd1,cd2]):=hc5.trans hqc4.out;have hqp5:Hid (q5.pns=[pA,pB,pC,pD]):=hp5;have ba5:=Blk.keepG ba4 hq4 F (by unfold Gty;decide);have bb5:=Blk.keepG bb4 hq4 F (by unfold Gty;decide);have bc5:=Blk.keepG bc4 hq4 F (by unfold Gty;decide);have bd5:=Blk.keepG bd4 hq4 F (by unfold Gty;decide);have bi5:=Blk.keepG bi4 hq4 F (by unfold Gty;decide);have oa5:=oa4.keepG hq4 F;have ob5:=ob4.keepG hq4 F;have oc5:=oc4.keepG hq4 F;have od5:=od4.keepG hq4 F;have fr5:=fr4.trans F (fun k hk e=>by have h1:=hq4.ge e;omega);have hk5:=KindsAt.own hk4 hq4 F;have kt:=Lv (x:=yd) (l:=[pA,pB,pC,pD]) (err:=5) hqp5.out hq5 od5.at hydok hk5 (by rw [hqc5.out,hyd.out];exact addD5) (by decide);rw [hqb5.out] at kt;have ka5:=Lib.hid kt;clear kt;clear hq4 hqb4 hqc4 hqp4 hk4 fr4 ba4 bb4 bc4 bd4 bi4 oa4 ob4 oc4 od4 ka4 F)
   |(go_at_call 17;(with_reducible refine (ka5.out).mono ?_);rintro _ u6 ⟨rfl,F⟩;have hq6:=hq5.fr F;have hqb6:=hqb5;have hqc6:=hqc5;have hqp6:=hqp5;have ba6:=ba5.fr F zq;have bb6:=bb5.fr F zq;have bc6:=bc5.fr F zq;have bd6:=bd5.fr F zq;have bi6:=bi5.fr F zq;have oa6:=oa5.non F;have ob6:=ob5.non F;have oc6:=oc5.non F;have od6:=od5.non F;have fr6:=fr5.trans F zr;have hk6:=hk5.fr F;clear hq5 hqb5 hqc5 hqp5 hk5 fr5 ba5 bb5 bc5 bd5 bi5 oa5 ob5 oc5 od5 ka5 F))
  clear hla hlb hlc
  obtain ⟨m0,hm0,hp0⟩:=Jd hqp6.out (i:=0) rfl
  obtain ⟨m1,hm1,hp1⟩:=Jd hqp6.out (i:=1) rfl
  obtain ⟨m2,hm2,hp2⟩:=Jd hqp6.out (i:=2) rfl
  obtain ⟨m3,hm3,hp3⟩:=Jd hqp6.out (i:=3) rfl
  have pl:∀id i,plc [pA,pB,pC,pD] id=some i→Ag q5.nodes id=some i:=fun id i h=>by rw [← Es];exact (congrArg (fun l=>plc l id) hqp6.out).trans h
  have plx:Ag q5.nodes lA.name=some 0:=pl _ _ (plA _)
  have plb:Ag q5.nodes lB.name=some 1:=pl _ _ (plB _)
  have plc':Ag q5.nodes lC.name=some 2:=pl _ _ (plC _)
  have pld:Ag q5.nodes lD.name=some 3:=pl _ _ (plD _)
  have hndok0:=Eb Sr
  have hnd0:yd.op.name=lD.name:=by rw [hyd.out];exact Gb lD
  obtain ⟨nd,hnd⟩:=Aa lD.name
  rw [hnx.out] at plx
  rw [hnb.out] at plb
  rw [hnc.out] at plc'
  rw [hnd.out] at pld hndok0 hnd0
  have ps3:∀k,m3.past k=decide (k<3):=fun k=>congrFun (congrArg Pn.ps hp3) k
  have ps2:∀k,m2.past k=(k==0):=fun k=>congrFun (congrArg Pn.ps hp2) k
  have hlen:q5.nodes.length=4:=by have h:=congrArg List.length hqp6.out;unfold Gph.pns at h;rw [List.length_map] at h;exact h
  have hlevel:q5.level nd=3:=by unfold Gph.level;rw [pld];simp only [hm3];exact congrArg Pn.lev hp3
  have hbe1:q5.before nx nd=true:=by unfold Gph.before;rw [plx,pld];simp only [hm3];show m3.past 0=true;rw [ps3];rfl
  have hbe2:q5.before nb nc=false:=by unfold Gph.before;rw [plb,plc'];simp only [hm2];show m2.past 1=false;rw [ps2];rfl
  have hups:∀k,q5.ups [nd] k=decide (k<3):=fun k=>by unfold Gph.ups Gph.up;simp only [Al2,Al3,Al4,pld,hm3];exact ps3 k
  have hpk:(C5 q5.nodes (q5.ups [nd]) q5.nodes.length).length=3:=by
   rw [hlen,Fy _ _ 3 hm3,Fy _ _ 2 hm2,Fy _ _ 1 hm1,Fy _ _ 0 hm0,hups,hups,hups,hups]
   rfl
  have klen:=Lib.hid (fun w' (h:GAt w' w1.heap.size q5)=>Uo w1.heap.size q5 w' h)
  have klev:=Lib.hid (fun w' (h:GAt w' w1.heap.size q5)=>J2 w1.heap.size q5 nd w' h hndok0)
  have kb1:=Lib.hid (fun w' (h:GAt w' w1.heap.size q5)=>N2 w1.heap.size q5 nx nd w' h hnxok hndok0)
  have kb2:=Lib.hid (fun w' (h:GAt w' w1.heap.size q5)=>N2 w1.heap.size q5 nb nc w' h hnbok0 hncok0)
  rw [hlen,hqb6.out] at klen
  rw [hlevel,hqb6.out] at klev
  rw [hbe1,hqb6.out] at kb1
  rw [hbe2,hqb6.out] at kb2
  have kpast:Hid (∀(A:Option Addr) (c B:Nat) (w':World),GAt w' w1.heap.size q5→Rd w' B 3 A 1 ([nd].flatMap Id.cells)→Calls Tryz.prog 28 #[.pointer (some ⟨gb,0,none⟩),.slice A 1 c] w' fun e w''=>∃A' c',e=.returned (.slice A' 3 c')∧Fr Non w' w''):=by
   intro A c B w' hg' hr'
   have h:=Lf w1.heap.size q5 B 1 c A [nd] w' G9 hg' rfl hr' (by decide) (by intro z hz;obtain rfl:=List.mem_singleton.1 hz;exact hndok0)
   rw [hqb6.out] at h
   refine Calls.mono h ?_
   rintro e w'' ⟨A',c',ids,rfl,h1,_,_,h4⟩
   have hl:ids.length=3:=by rw [h1.length_eq,hpk]
   rw [hl]
   exact ⟨A',c',rfl,h4⟩
  have kid:=Lib.hid (Gi yd nd hnd0 u6 od6.at hydok)
  clear pl plx plb plc' pld ps3 ps2 hlen hlevel hbe1 hbe2 hups hpk hm0 hm1 hm2 hm3 hp0 hp1 hp2 hp3 hqp6 hqb6 hqc6 m0 m1 m2 m3
  go_upto_region 12 with (go_at_call 35;(with_reducible refine (kid.out).mono ?_);rintro _ u7 ⟨rfl,f7⟩)
  have F67:Fr Non u6 (u7.alloc (.cells nd.V 38)):=f7.alloc _
  have bdn:=Blk.new u7 38 nd.V
  obtain ⟨gn,hgn⟩:=Aa u7.heap.size
  rw [hgn.out] at bdn ⊢
  generalize u7.alloc (.cells nd.V 38)=u8 at*
  have fr8:=fr6.trans F67 zr
  have hq8:=hq6.fr F67
  have ob8:=ob6.non F67
  have oc8:=oc6.non F67
  have bi8:=bi6.fr F67 zq
  have bb8:=bb6.fr F67 zq
  have bc8:=bc6.fr F67 zq
  clear kid f7 F67 hgn fr6 hq6 ob6 oc6 bi6 bb6 bc6 ba6 bd6 oa6 od6 hk6
  have kib:Hid (∀w',Fr Non u8 w'→Calls Tryz.prog 35 #[.agg yb.cells] w' fun e w''=>e=.returned (.agg nb.V)∧Fr Non w' w''):=fun w' h=>Gi yb nb hnb0.out w' (ob8.non h).at hybok
  have kic:Hid (∀w',Fr Non u8 w'→Calls Tryz.prog 35 #[.agg yc.cells] w' fun e w''=>e=.returned (.agg nc.V)∧Fr Non w' w''):=fun w' h=>Gi yc nc hnc0.out w' (oc8.non h).at hycok
  have hlb:=Bd (P:=Tryz.prog) gy 44 Tryz.underlying44 rfl (cs:=yb.cells) hi
  have hlc:=Bd (P:=Tryz.prog) gz 44 Tryz.underlying44 rfl (cs:=yc.cells) hi
  have hS8:(fun w'=>w'.cell? ⟨gn,0,none⟩=some (.int .i64 nd.b)∧w'.cell? ⟨gn,1,none⟩=some (.int .i64 nd.s)∧w'.cell? ⟨gn,2,none⟩=some (.int .u64 (nd.u:Int))∧w'.cell? ⟨gx,0,none⟩=some (.int .i64 nx.b)∧w'.cell? ⟨gx,1,none⟩=some (.int .i64 nx.s)∧w'.cell? ⟨gx,2,none⟩=some (.int .u64 (nx.u:Int))∧Blk w' gy 44 yb.cells∧Blk w' gz 44 yc.cells) u8:=⟨bdn.cell 0,bdn.cell 1,bdn.cell 2,bi8.cell 0,bi8.cell 1,bi8.cell 2,bb8,bc8⟩
  have hSf:Hid (∀a b,Fr Non a b→(fun w'=>w'.cell? ⟨gn,0,none⟩=some (.int .i64 nd.b)∧w'.cell? ⟨gn,1,none⟩=some (.int .i64 nd.s)∧w'.cell? ⟨gn,2,none⟩=some (.int .u64 (nd.u:Int))∧w'.cell? ⟨gx,0,none⟩=some (.int .i64 nx.b)∧w'.cell? ⟨gx,1,none⟩=some (.int .i64 nx.s)∧w'.cell? ⟨gx,2,none⟩=some (.int .u64 (nx.u:Int))∧Blk w' gy 44 yb.cells∧Blk w' gz 44 yc.cells) a→(fun w'=>w'.cell? ⟨gn,0,none⟩=some (.int .i64 nd.b)∧w'.cell? ⟨gn,1,none⟩=some (.int .i64 nd.s)∧w'.cell? ⟨gn,2,none⟩=some (.int .u64 (nd.u:Int))∧w'.cell? ⟨gx,0,none⟩=some (.int .i64 nx.b)∧w'.cell? ⟨gx,1,none⟩=some (.int .i64 nx.s)∧w'.cell? ⟨gx,2,none⟩=some (.int .u64 (nx.u:Int))∧Blk w' gy 44 yb.cells∧Blk w' gz 44 yc.cells) b):=fun a b f h=>⟨f.cell h.1 zq,f.cell h.2.1 zq,f.cell h.2.2.1 zq,f.cell h.2.2.2.1 zq,f.cell h.2.2.2.2.1 zq,f.cell h.2.2.2.2.2.1 zq,h.2.2.2.2.2.2.1.fr f zq,h.2.2.2.2.2.2.2.fr f zq⟩
  clear bdn bi8 bb8 bc8 ob8 oc8
  refine wp_region_held_drew (S:=(fun w'=>w'.cell? ⟨gn,0,none⟩=some (.int .i64 nd.b)∧w'.cell? ⟨gn,1,none⟩=some (.int .i64 nd.s)∧w'.cell? ⟨gn,2,none⟩=some (.int .u64 (nd.u:Int))∧w'.cell? ⟨gx,0,none⟩=some (.int .i64 nx.b)∧w'.cell? ⟨gx,1,none⟩=some (.int .i64 nx.s)∧w'.cell? ⟨gx,2,none⟩=some (.int .u64 (nx.u:Int))∧Blk w' gy 44 yb.cells∧Blk w' gz 44 yc.cells)) (by kernel_rfl) (hSf.out _ _ ((Fr.refl Non u8).drew) hS8) (fun hHeld=> ?_)
  clear hHeld
  obtain ⟨ue,hue⟩:=Aa u8.drew
  have fe0:Fr Non u8 ue:=by rw [← hue.out];exact (Fr.refl Non u8).drew
  have hT0:=hSf.out _ _ fe0 hS8
  rw [hue.out]
  refine Bs (i:=0) (v:=?_) rfl (by kernel_rfl) (by kernel_rfl) (by kernel_rfl) (fun _ _ _ h=>h) (Or.inl ⟨by kernel_rfl,?_⟩) hT0 ?_
  rotate_left
  focus (intro w' hSw;have c7:=hSw.2.2.2.2.2.2.1;have c8:=hSw.2.2.2.2.2.2.2;(try dsimp only at hSw c7 c8);go_simp;(try with_reducible rfl))
  simp only [List.set]
  refine Bs (i:=1) (v:=?_) rfl (by kernel_rfl) (by kernel_rfl) (by kernel_rfl) (fun _ _ _ h=>h) (Or.inl ⟨by kernel_rfl,?_⟩) hT0 ?_
  rotate_left
  focus (intro w' hSw;have c7:=hSw.2.2.2.2.2.2.1;have c8:=hSw.2.2.2.2.2.2.2;(try dsimp only at hSw c7 c8);go_simp;(try with_reducible rfl))
  simp only [List.set]
  refine oG 2 (fun K hK=> ?_)
  go_simp
  go_wp2_with (go_at_call 27;(with_reducible refine (klev.out _ (hq8.fr fe0)).mono ?_);rintro _ x1 ⟨rfl,e1⟩)
  have fe1:=fe0.trans e1 zr
  have hT1:=hSf.out _ _ e1 hT0
  refine hK.out _ _ hT1 (fun hZ=> ?_)
  clear hZ hK K
  try simp only [Ac,List.set]
  refine Bs (i:=3) (v:=?_) rfl (by kernel_rfl) (by kernel_rfl) (by kernel_rfl) (fun _ _ _ h=>h) (Or.inl ⟨by kernel_rfl,?_⟩) hT1 ?_
  rotate_left
  focus (intro w' hSw;have c7:=hSw.2.2.2.2.2.2.1;have c8:=hSw.2.2.2.2.2.2.2;(try dsimp only at hSw c7 c8);go_simp;(try with_reducible rfl))
  simp only [List.set]
  refine Bs (i:=4) (v:=?_) rfl (by kernel_rfl) (by kernel_rfl) (by kernel_rfl) (fun _ _ _ h=>h) (Or.inl ⟨by kernel_rfl,?_⟩) hT1 ?_
  rotate_left
  focus (intro w' hSw;have c7:=hSw.2.2.2.2.2.2.1;have c8:=hSw.2.2.2.2.2.2.2;(try dsimp only at hSw c7 c8);go_simp;(try with_reducible rfl))
  simp only [List.set]
  refine Bs (i:=5) (v:=?_) rfl (by kernel_rfl) (by kernel_rfl) (by kernel_rfl) (fun _ _ _ h=>h) (Or.inl ⟨by kernel_rfl,?_⟩) hT1 ?_
  rotate_left
  focus (intro w' hSw;have c7:=hSw.2.2.2.2.2.2.1;have c8:=hSw.2.2.2.2.2.2.2;(try dsimp only at hSw c7 c8);go_simp;(try with_reducible rfl))
  simp only [List.set]
  refine Bs (i:=6) (v:=?_) rfl (by kernel_rfl) (by kernel_rfl) (by kernel_rfl) (fun _ _ _ h=>h) (Or.inl ⟨by kernel_rfl,?_⟩) hT1 ?_
  rotate_left
  focus (intro w' hSw;have c7:=hSw.2.2.2.2.2.2.1;have c8:=hSw.2.2.2.2.2.2.2;(try dsimp only at hSw c7 c8);go_simp;(try with_reducible rfl))
  simp only [List.set]
  refine oG 7 (fun K hK=> ?_)
  go_simp
  have hrd:=Rd.blk (n:=1) (size:=3) (l:=[nd].flatMap Id.cells) (Blk.new x1 38 nd.V) rfl
  have e2:Fr Non x1 (x1.alloc (.cells nd.V 38)):=(Fr.refl Non _).alloc _
  have fe2:=fe1.trans e2 zr
  have hT2:=hSf.out _ _ e2 hT1
  refine hK.out _ _ hT2 (fun hZ=> ?_)
  clear hZ hK K
  try simp only [Ac,List.set]
  refine oG 8 (fun K hK=> ?_)
  go_simp
  go_wp2_with (go_at_call 28;(with_reducible refine (kpast.out _ _ _ _ (hq8.fr fe2) hrd).mono ?_);rintro _ x3 ⟨A9,c9,rfl,e3⟩)
  have fe3:=fe2.trans e3 zr
  have hT3:=hSf.out _ _ e3 hT2
  refine hK.out _ _ hT3 (fun hZ=> ?_)
  clear hZ hK K
  try simp only [Ac,List.set]
  refine Bs (i:=9) (v:=?_) rfl (by kernel_rfl) (by kernel_rfl) (by kernel_rfl) (fun _ _ _ h=>h) (Or.inl ⟨by kernel_rfl,?_⟩) hT3 ?_
  rotate_left
  focus (intro w' hSw;have c7:=hSw.2.2.2.2.2.2.1;have c8:=hSw.2.2.2.2.2.2.2;(try dsimp only at hSw c7 c8);go_simp;(try with_reducible rfl))
  simp only [List.set]
  refine Bs (i:=10) (v:=?_) rfl (by kernel_rfl) (by kernel_rfl) (by kernel_rfl) (fun _ _ _ h=>h) (Or.inl ⟨by kernel_rfl,?_⟩) hT3 ?_
  rotate_left
  focus (intro w' hSw;have c7:=hSw.2.2.2.2.2.2.1;have c8:=hSw.2.2.2.2.2.2.2;(try dsimp only at hSw c7 c8);go_simp;(try with_reducible rfl))
  simp only [List.set]
  refine Bs (i:=11) (v:=?_) rfl (by kernel_rfl) (by kernel_rfl) (by kernel_rfl) (fun _ _ _ h=>h) (Or.inl ⟨by kernel_rfl,?_⟩) hT3 ?_
  rotate_left
  focus (intro w' hSw;have c7:=hSw.2.2.2.2.2.2.1;have c8:=hSw.2.2.2.2.2.2.2;(try dsimp only at hSw c7 c8);go_simp;(try with_reducible rfl))
  simp only [List.set]
  refine Bs (i:=12) (v:=?_) rfl (by kernel_rfl) (by kernel_rfl) (by kernel_rfl) (fun _ _ _ h=>h) (Or.inl ⟨by kernel_rfl,?_⟩) hT3 ?_
  rotate_left
  focus (intro w' hSw;have c7:=hSw.2.2.2.2.2.2.1;have c8:=hSw.2.2.2.2.2.2.2;(try dsimp only at hSw c7 c8);go_simp;(try with_reducible rfl))
  simp only [List.set]
  refine Bs (i:=13) (v:=?_) rfl (by kernel_rfl) (by kernel_rfl) (by kernel_rfl) (fun _ _ _ h=>h) (Or.inl ⟨by kernel_rfl,?_⟩) hT3 ?_
  rotate_left
  focus (intro w' hSw;have c7:=hSw.2.2.2.2.2.2.1;have c8:=hSw.2.2.2.2.2.2.2;(try dsimp only at hSw c7 c8);go_simp;(try with_reducible rfl))
  simp only [List.set]
  refine Bs (i:=14) (v:=?_) rfl (by kernel_rfl) (by kernel_rfl) (by kernel_rfl) (fun _ _ _ h=>h) (Or.inl ⟨by kernel_rfl,?_⟩) hT3 ?_
  rotate_left
  focus (intro w' hSw;have c7:=hSw.2.2.2.2.2.2.1;have c8:=hSw.2.2.2.2.2.2.2;(try dsimp only at hSw c7 c8);go_simp;(try with_reducible rfl))
  simp only [List.set]
  refine Bs (i:=15) (v:=?_) rfl (by kernel_rfl) (by kernel_rfl) (by kernel_rfl) (fun _ _ _ h=>h) (Or.inl ⟨by kernel_rfl,?_⟩) hT3 ?_
  rotate_left
  focus (intro w' hSw;have c7:=hSw.2.2.2.2.2.2.1;have c8:=hSw.2.2.2.2.2.2.2;(try dsimp only at hSw c7 c8);go_simp;(try with_reducible rfl))
  simp only [List.set]
  refine oG 16 (fun K hK=> ?_)
  go_simp
  go_wp2_with (go_at_call 29;(with_reducible refine (kb1.out _ (hq8.fr fe3)).mono ?_);rintro _ x4 ⟨rfl,e4⟩)
  have fe4:=fe3.trans e4 zr
  have hT4:=hSf.out _ _ e4 hT3
  refine hK.out _ _ hT4 (fun hZ=> ?_)
  clear hZ hK K
  try simp only [Ac,List.set]
  refine Bs (i:=17) (v:=?_) rfl (by kernel_rfl) (by kernel_rfl) (by kernel_rfl) (fun _ _ _ h=>h) (Or.inl ⟨by kernel_rfl,?_⟩) hT4 ?_
  rotate_left
  focus (intro w' hSw;have c7:=hSw.2.2.2.2.2.2.1;have c8:=hSw.2.2.2.2.2.2.2;(try dsimp only at hSw c7 c8);go_simp;(try with_reducible rfl))
  simp only [List.set]
  refine Bs (i:=18) (v:=?_) rfl (by kernel_rfl) (by kernel_rfl) (by kernel_rfl) (fun _ _ _ h=>h) (Or.inl ⟨by kernel_rfl,?_⟩) hT4 ?_
  rotate_left
  focus (intro w' hSw;have c7:=hSw.2.2.2.2.2.2.1;have c8:=hSw.2.2.2.2.2.2.2;(try dsimp only at hSw c7 c8);go_simp;(try with_reducible rfl))
  simp only [List.set]
  refine Bs (i:=19) (v:=?_) rfl (by kernel_rfl) (by kernel_rfl) (by kernel_rfl) (fun _ _ _ h=>h) (Or.inl ⟨by kernel_rfl,?_⟩) hT4 ?_
  rotate_left
  focus (intro w' hSw;have c7:=hSw.2.2.2.2.2.2.1;have c8:=hSw.2.2.2.2.2.2.2;(try dsimp only at hSw c7 c8);go_simp;(try with_reducible rfl))
  simp only [List.set]
  refine Bs (i:=20) (v:=?_) rfl (by kernel_rfl) (by kernel_rfl) (by kernel_rfl) (fun _ _ _ h=>h) (Or.inl ⟨by kernel_rfl,?_⟩) hT4 ?_
  rotate_left
  focus (intro w' hSw;have c7:=hSw.2.2.2.2.2.2.1;have c8:=hSw.2.2.2.2.2.2.2;(try dsimp only at hSw c7 c8);go_simp;(try with_reducible rfl))
  simp only [List.set]
  refine Bs (i:=22) (v:=?_) rfl (by kernel_rfl) (by kernel_rfl) (by kernel_rfl) (fun _ _ _ h=>h) (Or.inl ⟨by kernel_rfl,?_⟩) hT4 ?_
  rotate_left
  focus (intro w' hSw;have c7:=hSw.2.2.2.2.2.2.1;have c8:=hSw.2.2.2.2.2.2.2;(try dsimp only at hSw c7 c8);go_simp;(try with_reducible rfl))
  simp only [List.set]
  refine oG 21 (fun K hK=> ?_)
  go_simp
  go_wp2_with (go_at_call 35;(with_reducible refine (kib.out _ fe4).mono ?_);rintro _ x5 ⟨rfl,e5⟩)
  have fe5:=fe4.trans e5 zr
  have hT5:=hSf.out _ _ e5 hT4
  refine hK.out _ _ hT5 (fun hZ=> ?_)
  clear hZ hK K
  try simp only [Ac,List.set]
  refine oG 23 (fun K hK=> ?_)
  go_simp
  go_wp2_with (go_at_call 35;(with_reducible refine (kic.out _ fe5).mono ?_);rintro _ x6 ⟨rfl,e6⟩)
  have fe6:=fe5.trans e6 zr
  have hT6:=hSf.out _ _ e6 hT5
  refine hK.out _ _ hT6 (fun hZ=> ?_)
  clear hZ hK K
  try simp only [Ac,List.set]
  refine oG 24 (fun K hK=> ?_)
  go_simp
  go_wp2_with (go_at_call 29;(with_reducible refine (kb2.out _ (hq8.fr fe6)).mono ?_);rintro _ x7 ⟨rfl,e7⟩)
  have fe7:=fe6.trans e7 zr
  have hT7:=hSf.out _ _ e7 hT6
  refine hK.out _ _ hT7 (fun hZ=> ?_)
  clear hZ hK K
  try simp only [Ac,List.set]
  refine Bs (i:=25) (v:=?_) rfl (by kernel_rfl) (by kernel_rfl) (by kernel_rfl) (fun _ _ _ h=>h) (Or.inl ⟨by kernel_rfl,?_⟩) hT7 ?_
  rotate_left
  focus (intro w' hSw;have c7:=hSw.2.2.2.2.2.2.1;have c8:=hSw.2.2.2.2.2.2.2;(try dsimp only at hSw c7 c8);go_simp;(try with_reducible rfl))
  simp only [List.set]
  refine Bs (i:=26) (v:=?_) rfl (by kernel_rfl) (by kernel_rfl) (by kernel_rfl) (fun _ _ _ h=>h) (Or.inl ⟨by kernel_rfl,?_⟩) hT7 ?_
  rotate_left
  focus (intro w' hSw;have c7:=hSw.2.2.2.2.2.2.1;have c8:=hSw.2.2.2.2.2.2.2;(try dsimp only at hSw c7 c8);go_simp;(try with_reducible rfl))
  simp only [List.set]
  refine Bs (i:=27) (v:=?_) rfl (by kernel_rfl) (by kernel_rfl) (by kernel_rfl) (fun _ _ _ h=>h) (Or.inl ⟨by kernel_rfl,?_⟩) hT7 ?_
  rotate_left
  focus (intro w' hSw;have c7:=hSw.2.2.2.2.2.2.1;have c8:=hSw.2.2.2.2.2.2.2;(try dsimp only at hSw c7 c8);go_simp;(try with_reducible rfl))
  simp only [List.set]
  refine Bs (i:=28) (v:=?_) rfl (by kernel_rfl) (by kernel_rfl) (by kernel_rfl) (fun _ _ _ h=>h) (Or.inl ⟨by kernel_rfl,?_⟩) hT7 ?_
  rotate_left
  focus (intro w' hSw;have c7:=hSw.2.2.2.2.2.2.1;have c8:=hSw.2.2.2.2.2.2.2;(try dsimp only at hSw c7 c8);go_simp;(try with_reducible rfl))
  simp only [List.set]
  refine oG 29 (fun K hK=> ?_)
  go_simp
  go_wp2_with (go_at_call 18;(with_reducible refine (klen.out _ (hq8.fr fe7)).mono ?_);rintro _ _ ⟨rfl,rfl⟩)
  refine hK.out _ _ hT7 (fun hZ=> ?_)
  clear hZ hK K
  try simp only [Ac,List.set]
  refine Bs (i:=30) (v:=?_) rfl (by kernel_rfl) (by kernel_rfl) (by kernel_rfl) (fun _ _ _ h=>h) (Or.inl ⟨by kernel_rfl,?_⟩) hT7 ?_
  rotate_left
  focus (intro w' hSw;have c7:=hSw.2.2.2.2.2.2.1;have c8:=hSw.2.2.2.2.2.2.2;(try dsimp only at hSw c7 c8);go_simp;(try with_reducible rfl))
  simp only [List.set]
  refine Bs (i:=31) (v:=?_) rfl (by kernel_rfl) (by kernel_rfl) (by kernel_rfl) (fun _ _ _ h=>h) (Or.inl ⟨by kernel_rfl,?_⟩) hT7 ?_
  rotate_left
  focus (intro w' hSw;have c7:=hSw.2.2.2.2.2.2.1;have c8:=hSw.2.2.2.2.2.2.2;(try dsimp only at hSw c7 c8);go_simp;(try with_reducible rfl))
  simp only [List.set]
  refine Bs (i:=32) (v:=?_) rfl (by kernel_rfl) (by kernel_rfl) (by kernel_rfl) (fun _ _ _ h=>h) (Or.inl ⟨by kernel_rfl,?_⟩) hT7 ?_
  rotate_left
  focus (intro w' hSw;have c7:=hSw.2.2.2.2.2.2.1;have c8:=hSw.2.2.2.2.2.2.2;(try dsimp only at hSw c7 c8);go_simp;(try with_reducible rfl))
  simp only [List.set]
  refine oD ?_
  go_simp
  have fin:=Lib.hid (hfin.out _ (fr8.trans fe7 zr))
  go_wp2_with (fail)
  exact fin.out
end Oq
end
end Go.Proofs.YtafonabghnogaaaGreatDoor
