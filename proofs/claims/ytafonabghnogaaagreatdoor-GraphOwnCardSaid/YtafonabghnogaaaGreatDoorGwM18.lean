/-
  Contracts of the functions that the claim's statement reaches, walked one by one (part 18).
  Conditions: as each theorem says.
-/
import Derived.Test.YtafonabghnogaaaGreatDoorGwM12
import Derived.Test.YtafonabghnogaaaGreatDoorGwM13
import Derived.Test.YtafonabghnogaaaGreatDoorGwM17
set_option maxRecDepth 100000
set_option maxHeartbeats 16000000
open Bool renaming or_false→Al2,not_false→Al6,not_true→Al7
open Int renaming le_refl→Am0
open List renaming not_mem_nil→Ak6,any_cons→Al0,any_nil→Al1,pairwise_singleton→Al3,foldl_cons→Al4,foldl_nil→Al5,getElem?_toArray→Am2,length_drop→Am3,findIdx?_cons→Am4,any_eq_false→Am5,find?_cons_of_pos→Am6
open Nat renaming zero_le→Ak7,ne_of_lt→Ak8,le_trans→Ak9,le_refl→Al9,lt_irrefl→Am1
open Go.World renaming size_alloc→Al8
namespace Go.Proofs.YtafonabghnogaaaGreatDoor
section
open Go.RowKit
attribute [local go_sem ↓] Go.wp_at_zero Go.wp_at_succ
namespace Oq
attribute [local go_sem] Al6 Al7
attribute [local go_sem ↓] E6 Lw
def rg0 (A:Option Addr) (c:Nat) (cs:List Cd):RG:=⟨A,c,cs,none,0,[],none,0,none,0,[],none,0,[],[]⟩
theorem Ai9 {A:Option Addr} {c:Nat} {cs:List Cd} {w:World} {base:Nat} (h:RowAt w base 81 5 A cs.length c (cs.flatMap Cd.cells)) (hf:cs.length≤1000) (hk:∀c∈cs,c.s<18446744073709551616):(rg0 A c cs).own w base where
 cards:=h
 ops:=RowAt.nil _ _ _ _
 each _ hx:=absurd hx Ak6
 same:=rfl
 ok _ hx:=absurd hx Ak6
 ids:=RowAt.nil _ _ _ _
 ups:=RowAt.nil _ _ _ _
 eachU _ hx:=absurd hx Ak6
 sameU:=rfl
 ins:=RowAt.nil _ _ _ _
 eachN _ hx:=absurd hx Ak6
 sameN:=rfl
 rows:=Rows.nil
 cfew:=hf
 cok:=hk
theorem Aj0 (n c:Nat) (A:Option Addr) (w:World):
  Calls Tryz.prog 54 #[.slice A n c] w fun e w'=>e=.returned (.agg #[.slice A n c,.slice none 0 0,.slice none 0 0,.slice none 0 0,.slice none 0 0])∧Fr Non w w':=by
 have hG:(Tryz.prog.info? 32).map (·.size)=some (#[.slice A n c,.slice none 0 0,.slice none 0 0,.slice none 0 0,.slice none 0 0]:Array Value).size:=Dl;have br:=Blk.new w 32 zG;have f0:Fr Non w (w.alloc (.cells zG 32)):=(Fr.refl Non w).alloc _;have hst:=Cf (P:=Tryz.prog) w.heap.size 32 (cs:=#[.slice A n c,.slice none 0 0,.slice none 0 0,.slice none 0 0,.slice none 0 0]) hG (old:=zG) rfl (by simp [Value.oneCell']);go_enter Tryz.func54,Tryz.ntmps54;go_upto_region 1 with (fail)
 have hz2:=br.setRow (cs:=#[.slice A n c,.slice none 0 0,.slice none 0 0,.slice none 0 0,.slice none 0 0]);have fz:=f0.setRow (g:=w.heap.size) (fun hh=>absurd hh (by omega)) #[.slice A n c,.slice none 0 0,.slice none 0 0,.slice none 0 0,.slice none 0 0];go_wp2_with (fail)
 (try simp only [Exit.inBlock,Exit.then])
 refine Dm (t:=32) rfl rfl hz2 rfl Tryz.underlying32 hG rfl ?_;exact ⟨rfl,fz⟩
theorem Gf {P:Program} {Q:Exit→Act→World→Prop} {l:List Oper} {md:Region.Mode} {S:World→Prop} {fuel:Nat} {listed:Array Bool} {a:Act} {w:World} (i j:Nat) {d:Option Tmp} {op:Go.Op} {ty:TypeId} {pos:String} {after:Array Edge} {g:Option (Nat × Bool)} {d':Option Tmp} {op':Go.Op} {ty':TypeId} {pos':String} {after':Array Edge} {g':Option (Nat × Bool)}
  (hr:Region.ready md l.toArray listed=[i,j]) (ho:l[i]? =some ⟨d,op,ty,pos,after,g⟩) (ho':l[j]? =some ⟨d',op',ty',pos',after',g'⟩)
  (hw:Region.wanted ⟨d,op,ty,pos,after,g⟩ (yielded l.toArray a.tmps)=true) (hw':Region.wanted ⟨d',op',ty',pos',after',g'⟩ (yielded l.toArray a.tmps)=true)
  (h:∀K':Act→World→Prop,Shut (∀a w,S w→(S w→wpAnyH P md l.toArray Q S fuel (listed.setIfInBounds i true) a w)→K' a w)→Oper.wp P ⟨d,op,ty,pos,after,g⟩ a w K' Q)
  (h':∀K':Act→World→Prop,Shut (∀a w,S w→(S w→wpAnyH P md l.toArray Q S fuel (listed.setIfInBounds j true) a w)→K' a w)→Oper.wp P ⟨d',op',ty',pos',after',g'⟩ a w K' Q):
  wpAnyH P md l.toArray Q S (fuel+1) listed a w:=
 wpAnyH_ready hr (by simp) (AllReadyH.cons (by rw [Am2];exact ho) (fun K' hK=>by rw [if_pos hw];exact h K' hK) (AllReadyH.cons (by rw [Am2];exact ho') (fun K' hK=>by rw [if_pos hw'];exact h' K' hK) AllReadyH.nil))
theorem Aj1 {w:World} {B n c m:Nat} {A:Option Addr} {xs:List Value} (h:Rd w B 1 A n xs) (hm:m≤n) (hc:n≤c):Rd w B 1 (if c=m then A else A.map (fun x=>x.add m)) (n-m) (xs.drop m):=by
 have hl:=h.1;refine ⟨by rw [Am3];omega,?_⟩
 by_cases hz:n-m=0
 · exact .inl hz
 ·
  have hcm:¬c=m:=by omega
  rw [if_neg hcm]
  rcases h.2 with h0|⟨b,off,rfl,hb,hx⟩
  · exact absurd h0 (by omega)
  ·
   refine .inr ⟨b,off+m,by simp [Addr.add],hb,fun j u hu=> ?_⟩;rw [List.getElem?_drop] at hu;have h5:=hx (m+j) u hu;rw [← Nat.add_assoc] at h5;exact h5
def Mc (w:World) (e:Ending) (w':World):Prop:=
 ∃r:RG,e=.returned (.agg r.cells)∧Fr Non w w'∧r.own w' w.heap.size∧r.cards=Bc 0 [1,2,3,1]∧r.l≠[]∧r.l.length≤14
theorem Aj2:∀c∈Bc 0 [1,2,3,1],c.s<18446744073709551616:=fun c hc=>by
 obtain ⟨xs,h1,_,_,h4⟩:=Lh [1,2,3,1] 0 (by decide);rw [← h1] at hc;obtain ⟨x,hx,rfl⟩:=List.mem_map.1 hc;exact h4 x hx
theorem Aj3 (B n c:Nat) (A:Option Addr) (l0:List Int) (w:World) (hn:Hid (l0.length=n)) (hr:Rd w B 1 A n (l0.map Iv)) (hnc:n≤c) (_hnm:c≤9223372036854775807) (hok:∀x∈l0,I64 x):
  Calls Tryz.prog 12 #[.slice A n c] w (Mc w):=by
 have hG:∀r:RG,(Tryz.prog.info? 32).map (·.size)=some r.cells.size:=fun r=>Dl;have kc:=Lib.hid (fun (w':World) (hr:Rd w' w'.heap.size 1 (some ⟨w.heap.size+1,0,none⟩) 4 (([1,2,3,1]:List Int).map Iv))=>Ow 4 4 (some ⟨w.heap.size+1,0,none⟩) [1,2,3,1] w' rfl (by decide) hr);have kn:=Lib.hid (fun (n' c':Nat) (A':Option Addr) (w':World)=>Aj0 n' c' A' w');have kx:=Lib.hid (fun (r:RG) (B' n' c':Nat) (A':Option Addr) (l1:List Int) (w':World) h hcs hn hr hok=>Ai8 w.heap.size B' n' c' r A' l1 w' h hcs hn hr hok);have ka:=Lib.hid (fun (r:RG) (x:OpL) (w':World) h hx hb hok=>Ag2 w.heap.size r x w' h hx hb hok);have br:=(Blk.new w 32 zG).alloc (.cells #[.int .i64 1,.int .i64 2,.int .i64 3,.int .i64 1] 3);have bi:=Blk.new (w.alloc (.cells zG 32)) 3 #[.int .i64 1,.int .i64 2,.int .i64 3,.int .i64 1];rw [Al8] at bi;have f0:Fr Non w ((w.alloc (.cells zG 32)).alloc (.cells #[.int .i64 1,.int .i64 2,.int .i64 3,.int .i64 1] 3)):=((Fr.refl Non w).alloc _).alloc _
 have bm:w.heap.size+2≤((w.alloc (.cells zG 32)).alloc (.cells #[.int .i64 1,.int .i64 2,.int .i64 3,.int .i64 1] 3)).heap.size:=by
  rw [Al8,Al8];exact Al9 _
 go_enter Tryz.func12,Tryz.ntmps12;go_upto_region 1 with (fail)
 generalize hw0:(w.alloc (.cells zG 32)).alloc (.cells #[.int .i64 1,.int .i64 2,.int .i64 3,.int .i64 1] 3)=w0 at*;unfold Ov at kc
 have bj:Rd w0 w0.heap.size 1 (some ⟨w.heap.size+1,0,none⟩) 4 (([1,2,3,1]:List Int).map Iv):=by
  rw [← hw0] at bi ⊢;exact Rd.blk (n:=4) (size:=1) bi rfl
 go_upto_region 2 with (first
  |(go_at_call 40;(with_reducible refine (kc.out _ bj).mono ?_);rintro _ w1 ⟨A1,c1,rfl,o1,f1⟩;have bl:=f0.trans f1 zr;have bd:=br.fr f1 zq)
  |(go_at_call 54;(with_reducible refine (kn.out _ _ _ _).mono ?_);rintro _ w2 ⟨rfl,f2⟩;have bf:=bl.trans f2 zr;have aq:=bd.fr f2 zq;have o2:=o1.fr f2 zr;have bn:=Blk.new w2 32 zG;have ad:=Cf (P:=Tryz.prog) w2.heap.size 32 (cs:=#[.slice A1 4 c1,.slice none 0 0,.slice none 0 0,.slice none 0 0,.slice none 0 0]) (hG (rg0 A1 c1 (Bc 0 [1,2,3,1]))) (old:=zG) rfl (by simp [Value.oneCell'])))
 have a5:=(aq.alloc (.cells zG 32)).setRow_far (g':=w2.heap.size) (by have:=aq.lt;omega) (cs:=#[.slice A1 4 c1,.slice none 0 0,.slice none 0 0,.slice none 0 0,.slice none 0 0]);have a6:Blk ((w2.alloc (.cells zG 32)).setRow w2.heap.size #[.slice A1 4 c1,.slice none 0 0,.slice none 0 0,.slice none 0 0,.slice none 0 0]) w2.heap.size 32 (rg0 A1 c1 (Bc 0 [1,2,3,1])).cells:=bn.setRow (cs:=#[.slice A1 4 c1,.slice none 0 0,.slice none 0 0,.slice none 0 0,.slice none 0 0]);have fG:Fr Non w2 ((w2.alloc (.cells zG 32)).setRow w2.heap.size #[.slice A1 4 c1,.slice none 0 0,.slice none 0 0,.slice none 0 0,.slice none 0 0]):=((Fr.refl Non w2).alloc _).setRow (fun hh=>absurd hh (by omega)) _;have bx:w.heap.size<w2.heap.size:=aq.lt;have f3:=bf.trans fG zr;have av:(rg0 A1 c1 (Bc 0 [1,2,3,1])).own ((w2.alloc (.cells zG 32)).setRow w2.heap.size #[.slice A1 4 c1,.slice none 0 0,.slice none 0 0,.slice none 0 0,.slice none 0 0]) w.heap.size:=Ai9 ((RowAt.of_own (o2.fr fG zr)).lower (by omega)) (by decide) Aj2;clear ad bn aq bd br o1 o2 fG bl bf bj;obtain ⟨gv,b0⟩:=Aa w2.heap.size;rw [b0.out] at a6 av a5 f3 bx ⊢;generalize (w2.alloc (.cells zG 32)).setRow gv #[.slice A1 4 c1,.slice none 0 0,.slice none 0 0,.slice none 0 0,.slice none 0 0]=w3 at*;have ay:(rg0 A1 c1 (Bc 0 [1,2,3,1])).cards=Bc 0 [1,2,3,1]:=rfl;have a9:(rg0 A1 c1 (Bc 0 [1,2,3,1])).l=[]:=rfl;generalize rg0 A1 c1 (Bc 0 [1,2,3,1])=r0 at*;clear bi kc kn hw0 f0 bm;go_wp2_with (fail)
 go_loopw [4] (fun v wr=>∃(j:Nat) (r:RG),v=.int .i64 (j:Int)∧j≤14∧Blk wr gv 32 r.cells∧r.own wr w.heap.size∧r.cards=Bc 0 [1,2,3,1]∧Hid (((j=0∧r.l=[])∨(0<j∧r.l≠[]))∧r.l.length≤j)∧Blk wr w.heap.size 32 zG∧Fr Non w wr) (fun v _=>14-(intOf v).toNat)
 case atStart=>exact ⟨0,r0,rfl,by omega,a6,av,ay,⟨.inl ⟨rfl,a9⟩,by rw [a9];exact Al9 _⟩,a5,f3⟩
 case round=>
 clear a6 av ay a9 a5 f3 r0;obtain ⟨j,r,rfl,hj,bn,ro,ax,ar,br,hf⟩:=hrel
 by_cases hgo:j<14∧(j=0∨4*j<n)
 ·
  have t1:decide ((j:Int)<14)=true:=decide_eq_true (by omega)
  have ht:((j:Int)==0)=true∨(((j:Int)==0)=false∧decide (4*(j:Int)<(n:Int))=true):=by
   by_cases h1:j=0
   · exact .inl (by simp [h1])
   · exact .inr ⟨by simp;omega,decide_eq_true (by omega)⟩
  have e1:IntKind.i64.wrap (4*(j:Int))=4*(j:Int):=IntWalk.i64_in _ (by omega);obtain ⟨m,hm⟩:∃m:Nat,min n (4*j)=m:=⟨_,rfl⟩;have e2:min (n:Int) (4*(j:Int))=(m:Int):=by omega
  have e3:min (4*(j:Int)) (n:Int)=(m:Int):=by omega
  have bo:m≤n:=by omega
  go_upto_region 3 with (fail)
  go_cut [22] from 10 to 22 (fun s wc=>wr=wc∧s=.bool true)
  case first=>
   rcases ht with t2|⟨t2,t3⟩
   all_goals
    go_wp2_with (fail);go_meet;exact ⟨rfl,rfl⟩
  case rest=>
  obtain ⟨rfl,rfl⟩:=hcut;clear ht;go_upto_region 5 with (fail)
  go_cut [5,6] from 25 to 38 (fun s5 s6 wc=>∃(gN:Nat) (r2:RG) (E:Int),s5=.pointer (some ⟨gN,0,none⟩)∧s6=.int .i64 E∧Blk wc gN 32 r2.cells∧r2.own wc w.heap.size∧r2.cards=Bc 0 [1,2,3,1]∧Hid ((E=0→r2.l≠[])∧r2.l.length≤j+1)∧Hid (j=0→E=0)∧Fr Non wr wc∧wr.heap.size≤gN)
  case first=>
   have V0:=bn;have F0:Fr Non wr wr.drew:=(Fr.refl Non wr).drew;have az:w.heap.size≤wr.heap.size:=hf.size
   have bc:Rd w B 1 (if c=m then A else A.map (fun x=>x.add m)) (n-m) ((l0.drop m).map Iv):=by
    rw [List.map_drop];exact Aj1 hr bo hnc
   have kq:=Lib.hid (fun (w':World) (h':Fr Non wr w')=>kx.out r B (n-m) (c-m) (if c=m then A else A.map (fun x=>x.add m)) (l0.drop m) w' (ro.non h') ax (by show (l0.drop m).length=n-m;rw [Am3,hn.out]) (bc.fr (hf.trans h' zr) zr) (fun x hx=>hok x (List.mem_of_mem_drop hx)))
   have au:Hid (∀(E:Int) (r2:RG) (o:Op),E=Ai r.cards r.l o→r2.l=(if Ai r.cards r.l o=0 then r.l++[Au r.l o] else r.l)→(r.l=[]→Ai r.cards [] o=0)→((E=0→r2.l≠[])∧r2.l.length≤j+1)∧(j=0→E=0)):=by
    intro E r2 o h1 h2 h3
    have a7:r2.l.length≤j+1:=by
     have:=ar.out.2;rw [h2]
     split
     ·
      rw [List.length_append,List.length_singleton];omega
     · omega
    refine ⟨⟨fun h4=> ?_,a7⟩,fun h4=> ?_⟩
    ·
     rw [← h1,if_pos h4] at h2;rw [h2];simp
    ·
     rcases ar.out.1 with ⟨_,h5⟩|⟨h5,_⟩
     ·
      rw [h1,h5];exact h3 h5
     · omega
   have hl:=Az (P:=Tryz.prog) gv 32 Tryz.underlying32 rfl (hG r);refine wp_region_held_drew (S:=fun w'=>Blk w' gv 32 r.cells) (by kernel_rfl) V0 (fun hHeld=> ?_);clear hHeld;refine tkH 0 V0 (h:=tkH 1 V0 (h:=tkH 2 V0 (h:=tkH 3 V0 (h:=tkH 4 V0 (h:=tkH 5 V0 (h:=tkH 6 V0 (h:=tkH 7 V0 (h:=tkH 8 V0 (h:=?_)))))))));simp only [List.set];obtain ⟨AP,bh⟩:=Aa (if c=m then A else A.map (fun x=>x.add m));rw [bh.out] at kq ⊢;have ac:=Lib.hid ax;clear ax bc bh;refine Gf 9 14 (by kernel_rfl) rfl rfl (by kernel_rfl) (by kernel_rfl) (fun K' hK=> ?_) (fun K' hK=> ?_)
   ·
    skip
    go_simp;go_wp2_with (go_at_call 31;(with_reducible refine (kq.out _ F0).mono ?_);rintro _ v1 ⟨y,rfl,al,ba,bv,ao⟩;go_loud (have F1:=F0.trans bv zr;have be:=ba.lower (base':=w.heap.size) (Ak9 az F0.size)));have V1:=V0.fr F1 zq;refine hK.out _ _ V1 (fun hZ=> ?_);clear hZ hK K';try simp only [Ad,List.set]
    refine Gf 10 14 (by kernel_rfl) rfl rfl (by kernel_rfl) (by kernel_rfl) (fun K' hK=> ?_) (fun K' hK=> ?_)
    ·
     skip
     go_simp;have ap:=Lib.hid (ka.out r y _ (ro.non F1) be (Ak9 az F1.size) al);unfold E8 at ap;go_wp2_with (go_at_call 33;(with_reducible refine (ap.out).mono ?_);rintro _ v2 ⟨r2,rfl,a3,a1,ak,ai⟩;go_loud (have F2:=F1.trans a3 zr));have V2:=V0.fr F2 zq;refine hK.out _ _ V2 (fun hZ=> ?_);clear hZ hK K';try simp only [Ad,List.set]
     refine tkH 11 V2 (h:=tkH 12 V2 (h:=?_));simp only [List.set];refine Gf 13 14 (by kernel_rfl) rfl rfl (by kernel_rfl) (by kernel_rfl) (fun K' hK=> ?_) (fun K' hK=> ?_)
     ·
      skip
      go_simp;refine hK.out _ _ V2 (fun hZ=> ?_);clear hZ hK K';try simp only [Ad,List.set]
      refine oG 14 (fun K' hK=> ?_);go_simp;have ab:=Blk.new (v2) 32 zG;have F3:Fr Non wr ((v2).alloc (.cells zG 32)):=F2.alloc _;obtain ⟨ga,ag⟩:=Aa (v2).heap.size;have ah:wr.heap.size≤ga:=by rw [← ag.out];exact F2.size
      rw [ag.out] at ab ⊢;have aj:=a1.non ((Fr.refl Non (v2)).alloc (.cells zG 32));generalize (v2).alloc (.cells zG 32)=v3 at*;have V3:=V0.fr F3 zq;refine hK.out _ _ V3 (fun hZ=> ?_);clear hZ hK K';try simp only [Ad,List.set]
      refine oG 15 (fun K' hK=> ?_);have ad:=Cf (P:=Tryz.prog) ga 32 (hG r2) (old:=zG) rfl (Ee r2);go_simp;have af:=ab.setRow (cs:=r2.cells);have ae:=aj.keepP (Dd r2.cells) (Types.one ab) (by decide) (by decide) (by decide) (by decide) (by decide) (by decide) (by decide) (by decide) (by decide) (by decide) (by decide) (by decide);have F4:Fr Non wr (v3.setRow ga r2.cells):=F3.setRow (fun hh=>absurd hh (by omega)) _;clear ad;generalize v3.setRow ga r2.cells=v4 at*;have V4:=V0.fr F4 zq;refine hK.out _ _ V4 (fun hZ=> ?_);clear hZ hK K';try simp only [Ad,List.set]
      refine tkH 16 V4 (h:=?_);simp only [List.set];refine oD ?_;go_simp;have aa:=au.out _ r2 _ rfl ai ao;go_wp2_with (fail);go_meet;exact ⟨ga,r2,_,rfl,rfl,af,ae,by rw [ak];exact ac.out,aa.1,aa.2,F4,ah⟩
     ·
      skip
      go_simp;have ab:=Blk.new (v2) 32 zG;have F3:Fr Non wr ((v2).alloc (.cells zG 32)):=F2.alloc _;obtain ⟨ga,ag⟩:=Aa (v2).heap.size;have ah:wr.heap.size≤ga:=by rw [← ag.out];exact F2.size
      rw [ag.out] at ab ⊢;have aj:=a1.non ((Fr.refl Non (v2)).alloc (.cells zG 32));generalize (v2).alloc (.cells zG 32)=v3 at*;have V3:=V0.fr F3 zq;refine hK.out _ _ V3 (fun hZ=> ?_);clear hZ hK K';try simp only [Ad,List.set]
      refine Gf 13 15 (by kernel_rfl) rfl rfl (by kernel_rfl) (by kernel_rfl) (fun K' hK=> ?_) (fun K' hK=> ?_)
      ·
       skip
       go_simp;refine hK.out _ _ V3 (fun hZ=> ?_);clear hZ hK K';try simp only [Ad,List.set]
       refine oG 15 (fun K' hK=> ?_);have ad:=Cf (P:=Tryz.prog) ga 32 (hG r2) (old:=zG) rfl (Ee r2);go_simp;have af:=ab.setRow (cs:=r2.cells);have ae:=aj.keepP (Dd r2.cells) (Types.one ab) (by decide) (by decide) (by decide) (by decide) (by decide) (by decide) (by decide) (by decide) (by decide) (by decide) (by decide) (by decide);have F4:Fr Non wr (v3.setRow ga r2.cells):=F3.setRow (fun hh=>absurd hh (by omega)) _;clear ad;generalize v3.setRow ga r2.cells=v4 at*;have V4:=V0.fr F4 zq;refine hK.out _ _ V4 (fun hZ=> ?_);clear hZ hK K';try simp only [Ad,List.set]
       refine tkH 16 V4 (h:=?_);simp only [List.set];refine oD ?_;go_simp;have aa:=au.out _ r2 _ rfl ai ao;go_wp2_with (fail);go_meet;exact ⟨ga,r2,_,rfl,rfl,af,ae,by rw [ak];exact ac.out,aa.1,aa.2,F4,ah⟩
      ·
       skip
       have ad:=Cf (P:=Tryz.prog) ga 32 (hG r2) (old:=zG) rfl (Ee r2);go_simp;have af:=ab.setRow (cs:=r2.cells);have ae:=aj.keepP (Dd r2.cells) (Types.one ab) (by decide) (by decide) (by decide) (by decide) (by decide) (by decide) (by decide) (by decide) (by decide) (by decide) (by decide) (by decide);have F4:Fr Non wr (v3.setRow ga r2.cells):=F3.setRow (fun hh=>absurd hh (by omega)) _;clear ad;generalize v3.setRow ga r2.cells=v4 at*;have V4:=V0.fr F4 zq;refine hK.out _ _ V4 (fun hZ=> ?_);clear hZ hK K';try simp only [Ad,List.set]
       refine oG 13 (fun K' hK=> ?_);go_simp;refine hK.out _ _ V4 (fun hZ=> ?_);clear hZ hK K';try simp only [Ad,List.set]
       refine tkH 16 V4 (h:=?_);simp only [List.set];refine oD ?_;go_simp;have aa:=au.out _ r2 _ rfl ai ao;go_wp2_with (fail);go_meet;exact ⟨ga,r2,_,rfl,rfl,af,ae,by rw [ak];exact ac.out,aa.1,aa.2,F4,ah⟩
    ·
     skip
     go_simp;have a4:=Blk.new (v1) 32 zG;have F2:Fr Non wr ((v1).alloc (.cells zG 32)):=F1.alloc _;obtain ⟨ga,ag⟩:=Aa (v1).heap.size;have ah:wr.heap.size≤ga:=by rw [← ag.out];exact F1.size
     rw [ag.out] at a4 ⊢;have bb:=be.non ((Fr.refl Non (v1)).alloc (.cells zG 32));generalize (v1).alloc (.cells zG 32)=v2 at*;have V2:=V0.fr F2 zq;refine hK.out _ _ V2 (fun hZ=> ?_);clear hZ hK K';try simp only [Ad,List.set]
     refine oG 10 (fun K' hK=> ?_);go_simp;have ap:=Lib.hid (ka.out r y _ (ro.non F2) bb (Ak9 az F2.size) al);unfold E8 at ap;go_wp2_with (go_at_call 33;(with_reducible refine (ap.out).mono ?_);rintro _ v3 ⟨r2,rfl,a0,aj,ak,ai⟩;go_loud (have F3:=F2.trans a0 zr;have ab:=a4.fr a0 zq));have V3:=V0.fr F3 zq;refine hK.out _ _ V3 (fun hZ=> ?_);clear hZ hK K';try simp only [Ad,List.set]
     refine tkH 11 V3 (h:=tkH 12 V3 (h:=?_));simp only [List.set];refine Gf 13 15 (by kernel_rfl) rfl rfl (by kernel_rfl) (by kernel_rfl) (fun K' hK=> ?_) (fun K' hK=> ?_)
     ·
      skip
      go_simp;refine hK.out _ _ V3 (fun hZ=> ?_);clear hZ hK K';try simp only [Ad,List.set]
      refine oG 15 (fun K' hK=> ?_);have ad:=Cf (P:=Tryz.prog) ga 32 (hG r2) (old:=zG) rfl (Ee r2);go_simp;have af:=ab.setRow (cs:=r2.cells);have ae:=aj.keepP (Dd r2.cells) (Types.one ab) (by decide) (by decide) (by decide) (by decide) (by decide) (by decide) (by decide) (by decide) (by decide) (by decide) (by decide) (by decide);have F4:Fr Non wr (v3.setRow ga r2.cells):=F3.setRow (fun hh=>absurd hh (by omega)) _;clear ad;generalize v3.setRow ga r2.cells=v4 at*;have V4:=V0.fr F4 zq;refine hK.out _ _ V4 (fun hZ=> ?_);clear hZ hK K';try simp only [Ad,List.set]
      refine tkH 16 V4 (h:=?_);simp only [List.set];refine oD ?_;go_simp;have aa:=au.out _ r2 _ rfl ai ao;go_wp2_with (fail);go_meet;exact ⟨ga,r2,_,rfl,rfl,af,ae,by rw [ak];exact ac.out,aa.1,aa.2,F4,ah⟩
     ·
      skip
      have ad:=Cf (P:=Tryz.prog) ga 32 (hG r2) (old:=zG) rfl (Ee r2);go_simp;have af:=ab.setRow (cs:=r2.cells);have ae:=aj.keepP (Dd r2.cells) (Types.one ab) (by decide) (by decide) (by decide) (by decide) (by decide) (by decide) (by decide) (by decide) (by decide) (by decide) (by decide) (by decide);have F4:Fr Non wr (v3.setRow ga r2.cells):=F3.setRow (fun hh=>absurd hh (by omega)) _;clear ad;generalize v3.setRow ga r2.cells=v4 at*;have V4:=V0.fr F4 zq;refine hK.out _ _ V4 (fun hZ=> ?_);clear hZ hK K';try simp only [Ad,List.set]
      refine oG 13 (fun K' hK=> ?_);go_simp;refine hK.out _ _ V4 (fun hZ=> ?_);clear hZ hK K';try simp only [Ad,List.set]
      refine tkH 16 V4 (h:=?_);simp only [List.set];refine oD ?_;go_simp;have aa:=au.out _ r2 _ rfl ai ao;go_wp2_with (fail);go_meet;exact ⟨ga,r2,_,rfl,rfl,af,ae,by rw [ak];exact ac.out,aa.1,aa.2,F4,ah⟩
   ·
    skip
    go_simp;have a2:=Blk.new (wr) 32 zG;have F1:Fr Non wr ((wr).alloc (.cells zG 32)):=(Fr.refl Non wr).alloc _;obtain ⟨ga,ag⟩:=Aa (wr).heap.size;have ah:wr.heap.size≤ga:=by rw [← ag.out];exact Al9 _
    rw [ag.out] at a2 ⊢;replace a2:=a2.drew;replace F1:=F1.drew;generalize ((wr).alloc (.cells zG 32)).drew=v1 at*;have V1:=V0.fr F1 zq;refine hK.out _ _ V1 (fun hZ=> ?_);clear hZ hK K';try simp only [Ad,List.set]
    refine oG 9 (fun K' hK=> ?_);go_simp;go_wp2_with (go_at_call 31;(with_reducible refine (kq.out _ F1).mono ?_);rintro _ v2 ⟨y,rfl,al,ba,a3,ao⟩;go_loud (have F2:=F1.trans a3 zr;have bb:=ba.lower (base':=w.heap.size) (Ak9 az F1.size);have a4:=a2.fr a3 zq));have V2:=V0.fr F2 zq;refine hK.out _ _ V2 (fun hZ=> ?_);clear hZ hK K';try simp only [Ad,List.set]
    refine oG 10 (fun K' hK=> ?_);go_simp;have ap:=Lib.hid (ka.out r y _ (ro.non F2) bb (Ak9 az F2.size) al);unfold E8 at ap;go_wp2_with (go_at_call 33;(with_reducible refine (ap.out).mono ?_);rintro _ v3 ⟨r2,rfl,a0,aj,ak,ai⟩;go_loud (have F3:=F2.trans a0 zr;have ab:=a4.fr a0 zq));have V3:=V0.fr F3 zq;refine hK.out _ _ V3 (fun hZ=> ?_);clear hZ hK K';try simp only [Ad,List.set]
    refine tkH 11 V3 (h:=tkH 12 V3 (h:=?_));simp only [List.set];refine Gf 13 15 (by kernel_rfl) rfl rfl (by kernel_rfl) (by kernel_rfl) (fun K' hK=> ?_) (fun K' hK=> ?_)
    ·
     skip
     go_simp;refine hK.out _ _ V3 (fun hZ=> ?_);clear hZ hK K';try simp only [Ad,List.set]
     refine oG 15 (fun K' hK=> ?_);have ad:=Cf (P:=Tryz.prog) ga 32 (hG r2) (old:=zG) rfl (Ee r2);go_simp;have af:=ab.setRow (cs:=r2.cells);have ae:=aj.keepP (Dd r2.cells) (Types.one ab) (by decide) (by decide) (by decide) (by decide) (by decide) (by decide) (by decide) (by decide) (by decide) (by decide) (by decide) (by decide);have F4:Fr Non wr (v3.setRow ga r2.cells):=F3.setRow (fun hh=>absurd hh (by omega)) _;clear ad;generalize v3.setRow ga r2.cells=v4 at*;have V4:=V0.fr F4 zq;refine hK.out _ _ V4 (fun hZ=> ?_);clear hZ hK K';try simp only [Ad,List.set]
     refine tkH 16 V4 (h:=?_);simp only [List.set];refine oD ?_;go_simp;have aa:=au.out _ r2 _ rfl ai ao;go_wp2_with (fail);go_meet;exact ⟨ga,r2,_,rfl,rfl,af,ae,by rw [ak];exact ac.out,aa.1,aa.2,F4,ah⟩
    ·
     skip
     have ad:=Cf (P:=Tryz.prog) ga 32 (hG r2) (old:=zG) rfl (Ee r2);go_simp;have af:=ab.setRow (cs:=r2.cells);have ae:=aj.keepP (Dd r2.cells) (Types.one ab) (by decide) (by decide) (by decide) (by decide) (by decide) (by decide) (by decide) (by decide) (by decide) (by decide) (by decide) (by decide);have F4:Fr Non wr (v3.setRow ga r2.cells):=F3.setRow (fun hh=>absurd hh (by omega)) _;clear ad;generalize v3.setRow ga r2.cells=v4 at*;have V4:=V0.fr F4 zq;refine hK.out _ _ V4 (fun hZ=> ?_);clear hZ hK K';try simp only [Ad,List.set]
     refine oG 13 (fun K' hK=> ?_);go_simp;refine hK.out _ _ V4 (fun hZ=> ?_);clear hZ hK K';try simp only [Ad,List.set]
     refine tkH 16 V4 (h:=?_);simp only [List.set];refine oD ?_;go_simp;have aa:=au.out _ r2 _ rfl ai ao;go_wp2_with (fail);go_meet;exact ⟨ga,r2,_,rfl,rfl,af,ae,by rw [ak];exact ac.out,aa.1,aa.2,F4,ah⟩
  case rest=>
  obtain ⟨gN,r2,E,rfl,rfl,bN,a1,ac,bk,bt,f2,b3⟩:=hcut;have a8:=bn.fr f2 zq;have aq:=br.fr f2 zq;have bg:=hf.trans f2 zr;have bp:=ro.non f2;clear bn br ro f2 hf kx ka
  by_cases hE:E=0
  ·
   have tE:(E==0)=true:=by simp [hE]
   have ai:=Az (P:=Tryz.prog) gN 32 Tryz.underlying32 rfl (hG r2);have bw:=Cf (P:=Tryz.prog) gv 32 (hG r2) (old:=r.cells) rfl (Ee r2);have bz:=a8.setRow (cs:=r2.cells);have bq:=aq.setRow_far (g':=gv) (by omega) (cs:=r2.cells);have fz:=bg.setRow (g:=gv) (fun hh=>absurd hh (by omega)) r2.cells;have b1:=a1.keepP (Dd r2.cells) (Types.one a8) (by decide) (by decide) (by decide) (by decide) (by decide) (by decide) (by decide) (by decide) (by decide) (by decide) (by decide) (by decide);have aw:=bk.out.1 hE;go_wp2_with (fail);go_roundw
   case rel=>exact ⟨j+1,r2,by go_num,by omega,bz,b1,ac,⟨.inr ⟨by omega,aw⟩,bk.out.2⟩,bq,fz⟩
   case measure=>simp [intOf];omega
  ·
   have tE:(E==0)=false:=by simp [hE]
   have b2:¬j=0:=fun e=>hE (bt.out e)
   have aw:r.l≠[]:=by
    rcases ar.out.1 with ⟨h1,_⟩|⟨_,h1⟩
    · exact absurd h1 b2
    · exact h1
   go_wp2_with (fail);go_roundw
   case rel=>exact ⟨j+1,r,by go_num,by omega,a8,bp,ax,⟨.inr ⟨by omega,aw⟩,Nat.le_succ_of_le ar.out.2⟩,aq,bg⟩
   case measure=>simp [intOf];omega
 ·
  have aw:r.l≠[]:=by
   rcases ar.out.1 with ⟨h1,_⟩|⟨_,h1⟩
   · exact absurd ⟨by omega,.inl h1⟩ hgo
   · exact h1
  have hd:Hid (Mc w (.returned (.agg r.cells)) (wr.setRow w.heap.size r.cells)):=
   ⟨r,rfl,hf.setRow (g:=w.heap.size) (fun hh=>absurd hh (by omega)) r.cells,ro.keepP (Dd r.cells) (Types.one br) (by decide) (by decide) (by decide) (by decide) (by decide) (by decide) (by decide) (by decide) (by decide) (by decide) (by decide) (by decide),ax,aw,Ak9 ar.out.2 (by omega)⟩
  have ht:decide ((j:Int)<14)=false∨(decide ((j:Int)<14)=true∧((j:Int)==0)=false∧decide (4*(j:Int)<(n:Int))=false):=by
   by_cases h1:j<14
   · exact .inr ⟨decide_eq_true (by omega),by simp;omega,decide_eq_false (by omega)⟩
   · exact .inl (decide_eq_false (by omega))
  have hl:=Az (P:=Tryz.prog) gv 32 Tryz.underlying32 rfl (hG r);have ad:=Cf (P:=Tryz.prog) w.heap.size 32 (hG r) (old:=zG) rfl (Ee r);have bs:=hG r;have bu:=br.setRow (cs:=r.cells);clear ar aw ro ax hgo kx ka hok hr hn;generalize Mc w=POST at*;generalize r.cells=CS at*
  rcases ht with t1|⟨t1,t2,t3⟩
  all_goals
   go_wp2_with (fail)
   (try simp only [Exit.inBlock,Exit.then])
   refine Dm (t:=32) rfl rfl bu rfl Tryz.underlying32 bs rfl ?_;exact hd.out
end Oq
end
section
open Go.RowKit
namespace Oq
end Oq
end
section
open Go.RowKit
attribute [local go_sem ↓] Go.wp_at_zero Go.wp_at_succ
namespace Oq
attribute [local go_sem ↓] Ch Eg
attribute [local go_sem] Al6 Al7
def crL (b:Int):OpL:={OpL.zero with by_:=b,sq:=1,kind:=1}
theorem Sd (b:Int):(crL b).op=G6 b:=rfl
theorem Se (b:Int) (w:World) (base:Nat):(crL b).own w base:=
 ⟨RowAt.nil _ _ _ _,RowAt.nil _ _ _ _,(fun _ h=>absurd h Ak6),RowAt.nil _ _ _ _,RowAt.nil _ _ _ _,RowAt.nil _ _ _ _,RowAt.nil _ _ _ _,RowAt.nil _ _ _ _,(fun _ h=>absurd h Ak6)⟩
theorem Ja (b : Int) (hb : 1 ≤ b ∧ b ≤ 12) : (G6 b).ok :=
  ⟨⟨by show _ ≤ b; omega, by show b ≤ _; omega⟩, Iw, Iw, Cj, ⟨Ak7 _, fun _ h => absurd h Ak6⟩, Cj, Cj, Cj, Cj,
   ⟨Ak7 _, fun _ h => absurd h Ak6⟩, ⟨Cj, Cj, Ei⟩, Cj, Ak7 _, ⟨Ak7 _, fun _ h => absurd h Ak6⟩, ⟨Cj, Cj, Ei⟩,
   ⟨Ak7 _, fun _ h => absurd h Ak6⟩, Cj, Cj, ⟨Ak7 _, fun _ h => absurd h Ak6⟩, Ei, ⟨Ak7 _, fun _ h => absurd h Ak6⟩, Ei, Ei⟩
def Aj4 (w:World) (r:Ending) (w':World):Prop:=∃y:OpL,r=.returned (.agg y.cells)∧y.op=sgn (G6 1)∧(∀wz base,y.own wz base)∧Fr Non w w'
theorem Aj5 (w:World):Calls Tryz.prog 15 #[.agg #[.int .i64 1,.int .i64 1,.int .i64 1,.int .i64 0,.slice none 0 0,.int .i64 0,.int .i64 0,.int .i64 0,.int .i64 0,.slice none 0 0,.int .i64 0,.int .i64 0,.int .u64 0,.int .i64 0,.slice none 0 0,.slice none 0 0,.int .i64 0,.int .i64 0,.int .u64 0,.slice none 0 0,.int .i64 0,.int .i64 0,.slice none 0 0,.int .u64 0,.slice none 0 0,.int .u64 0,.int .u64 0]] w (Aj4 w):=by
 have h:=Kd (crL 1) 1 w (by rw [show (crL 1).by_=1 from rfl,IntKind.wrap_u64];rfl) (by decide) (Se 1 w 0).at (by rw [Sd];exact Ja 1 (by decide));refine Calls.mono h ?_;rintro r w' ⟨h1,h2⟩;exact ⟨_,h1,Lb _ _ (Sd 1) 1 rfl _ rfl,(fun wz base=>Lc (Se 1 wz base) _ _),h2⟩
theorem Jb {g:Gph} {l:List Pn} (hl:g.pns=l) {i:Nat} {p:Pn} (h:l[i]? =some p):∃n,g.nodes[i]? =some n∧n.pn=p:=by
 subst hl;unfold Gph.pns at h;rw [List.getElem?_map] at h;exact Option.map_eq_some_iff.1 h
theorem Gg (y:OpL) (nm:Id) (hn:y.op.name=nm) (w:World) (hat:y.at w w.heap.size) (hok:y.op.ok):Calls Tryz.prog 35 #[.agg y.cells] w fun e w'=>e=.returned (.agg nm.V)∧Fr Non w w':=by
 have k:=Oi y w hat hok;obtain ⟨b,s,u⟩:=nm;unfold Op.name at hn;injection hn with h1 h2 h3
 rw [h3,show y.by_=b from h1,show y.sq=s from h2] at k;exact k
theorem Sf (x:Id):Ao [x]=[x]:=rfl
end Oq
end
section
open Go.RowKit
namespace Oq
def lA:Op:=G6 1
def lB:Op:=Dt 1 2 0 [lA.name]
def lC:Op:=Dt 2 1 3 [lA.name]
def lD:Op:=Dt 2 2 3 [lB.name,lC.name]
def pA:Pn:=⟨sgn lA,lA.name,fun _=>false,1⟩
def pB:Pn:=⟨sgn lB,lB.name,fun q=>q==0,2⟩
def pC:Pn:=⟨sgn lC,lC.name,fun q=>q==0,2⟩
def pD:Pn:=⟨sgn lD,lD.name,fun q=>decide (q<3),3⟩
theorem Gh {o p:Op} (h:o.by_≠p.by_∨o.sq≠p.sq):o.name≠p.name:=by
 intro e;have h1:o.name.b=p.name.b:=by rw [e]
 have h2:o.name.s=p.name.s:=by rw [e]
 rcases h with h|h
 · exact h h1
 · exact h h2
theorem neAB:lA.name≠lB.name:=Gh (.inr (by decide))
theorem neAC:lA.name≠lC.name:=Gh (.inl (by decide))
theorem Md:lA.name≠lD.name:=Gh (.inl (by decide))
theorem neBC:lB.name≠lC.name:=Gh (.inl (by decide))
theorem Me:lB.name≠lD.name:=Gh (.inl (by decide))
theorem neCD:lC.name≠lD.name:=Gh (.inr (by decide))
theorem Aj6:lA.chk=0:=Zt (by decide)
theorem Sh:lA.name.named=true:=K9 (by decide) (by decide)
theorem Aj7:lB.chk=0:=Kz (by decide) (by decide) (by decide) ⟨by simp,by simpa using Sh,Al3 _ _,by simp⟩
theorem Aj8:lC.chk=0:=Kz (by decide) (by decide) (by decide) ⟨by simp,by simpa using Sh,Al3 _ _,by simp⟩
theorem Aj9:lB.name.named=true:=K9 (by decide) (by decide)
theorem Ak0:lC.name.named=true:=K9 (by decide) (by decide)
theorem Si:Id.less lB.name lC.name=true:=by
 unfold Id.less;rw [if_neg (by show ¬(1:Int)=2;decide)];rfl
theorem Mf:lD.chk=0:=Kz (by decide) (by decide) (by decide) ⟨by simp,by simpa using ⟨Aj9,Ak0⟩,by
 refine List.pairwise_cons.2 ⟨fun x hx=> ?_,Al3 _ _⟩;obtain rfl:=List.mem_singleton.1 hx;exact Si,by simp⟩
theorem Ak1:Ao [lB.name,lC.name]=[lB.name,lC.name]:=by
 refine (Uh ?_ (List.Perm.refl _)).symm;refine List.pairwise_cons.2 ⟨fun x hx=> ?_,Al3 _ _⟩;obtain rfl:=List.mem_singleton.1 hx;exact Id.less_as Si
theorem De {p:Pn} {l:List Pn} {id:Id} (h:p.id≠id):plc (p::l) id=(plc l id).map (· +1):=by
 unfold plc;rw [Am4];simp [h]
theorem Jc {p:Pn} {l:List Pn} {id:Id} (h:p.id=id):plc (p::l) id=some 0:=by
 unfold plc;rw [Am4];simp [h]
theorem plA (l:List Pn):plc (pA::l) lA.name=some 0:=Jc rfl
theorem plB (l:List Pn):plc (pA::pB::l) lB.name=some 1:=by rw [De neAB,Jc (p:=pB) (id:=lB.name) rfl];rfl
theorem plC (l:List Pn):plc (pA::pB::pC::l) lC.name=some 2:=by rw [De neAC,De neBC,Jc (p:=pC) (id:=lC.name) rfl];rfl
theorem plD (l:List Pn):plc (pA::pB::pC::pD::l) lD.name=some 3:=by rw [De Md,De Me,De neCD,Jc (p:=pD) (id:=lD.name) rfl];rfl
theorem nlB:plc [pA] lB.name=none:=by rw [De neAB];rfl
theorem nlC:plc [pA,pB] lC.name=none:=by rw [De neAC,De neBC];rfl
theorem nlD2:plc [pA,pB] lD.name=none:=by rw [De Md,De Me];rfl
theorem nlD3:plc [pA,pB,pC] lD.name=none:=by rw [De Md,De Me,De neCD];rfl
theorem Mg:pA.o.by_=1:=Kw _
theorem Sj:pB.o.by_=1:=Kw _
theorem pC_by:pC.o.by_=2:=Kw _
theorem pA_sq:pA.o.sq=1:=Qs _
theorem pC_sq:pC.o.sq=1:=Qs _
theorem pA_at:pA.o.at_=0:=Ky _
theorem pB_at:pB.o.at_=0:=Ky _
theorem pC_at:pC.o.at_=3:=Ky _
theorem upA (l:List Pn) (q:Nat):upB (pA::l) lA.name q=false:=by unfold upB;rw [plA];rfl
theorem atA (l:List Pn):Bk (pA::l) lA.name=0:=by unfold Bk;rw [plA];exact pA_at
theorem lvA (l:List Pn):Ca (pA::l) lA.name=1:=by unfold Ca;rw [plA];rfl
theorem parA (l:List Pn) (q:Nat):Bu (pA::l) [lA.name] q=(q==0):=by
 unfold Bu;simp only [Al0,Al1,Al2,plA]
 cases q<;>rfl
theorem abvA (l:List Pn) (q:Nat):Ar (pA::l) [lA.name] q=false:=by
 unfold Ar;simp only [Al0,Al1,Al2,upA]
theorem psA (l:List Pn):Ag (pA::l) [lA.name]=fun q=>q==0:=by
 funext q;unfold Ag;rw [parA,abvA]
 cases q with
 |zero=>rfl
 |succ q=>simp
theorem clA (l:List Pn):clash (pA::l) [lA.name]=false:=by
 unfold clash;rw [Am5];intro q _;rw [abvA];simp
theorem ltA (l:List Pn):late (pA::l) [lA.name]=0:=by
 unfold late;simp only [Al4,Al5,atA];rfl
theorem llA (l:List Pn):lvl (pA::l) [lA.name]=2:=by
 unfold lvl;simp only [Al4,Al5,lvA];rfl
theorem parD (q:Nat):Bu [pA,pB,pC] [lB.name,lC.name] q=(q==1||q==2):=by
 unfold Bu;simp only [Al0,Al1,Al2,plB,plC]
 match q with
 |0=>rfl
 |1=>rfl
 |2=>rfl
 |q+3=>rfl
theorem abvD (q:Nat):Ar [pA,pB,pC] [lB.name,lC.name] q=(q==0):=by
 unfold Ar upB;simp only [Al0,Al1,Al2,plB,plC];show ((q==0)||(q==0))=_;simp
theorem psD:Ag [pA,pB,pC] [lB.name,lC.name]=fun q=>decide (q<3):=by
 funext q;unfold Ag;rw [parD,abvD]
 match q with
 |0=>rfl
 |1=>rfl
 |2=>rfl
 |q+3=>simp
theorem clD:clash [pA,pB,pC] [lB.name,lC.name]=false:=by
 unfold clash;rw [Am5];intro q _;rw [parD,abvD]
 match q with
 |0=>simp
 |1=>simp
 |2=>simp
 |q+3=>simp
theorem ltD:late [pA,pB,pC] [lB.name,lC.name]=3:=by
 have e1:Bk [pA,pB,pC] lB.name=0:=by unfold Bk;rw [plB];exact pB_at
 have e2:Bk [pA,pB,pC] lC.name=3:=by unfold Bk;rw [plC];exact pC_at
 unfold late;simp only [Al4,Al5,e1,e2];rfl
theorem llD:lvl [pA,pB,pC] [lB.name,lC.name]=3:=by
 have e1:Ca [pA,pB,pC] lB.name=2:=by unfold Ca;rw [plB];rfl
 have e2:Ca [pA,pB,pC] lC.name=2:=by unfold Ca;rw [plC];rfl
 unfold lvl;simp only [Al4,Al5,e1,e2];rfl
theorem Mh (p:Nat→Bool) (d:Int) (n:Pn) (l:List Pn):Bd (n::l) p d 1=if (n.o.by_==d&&p 0)=true then max 0 n.o.sq else 0:=rfl
theorem Sk (p:Nat→Bool) (d:Int) (n m:Pn) (l:List Pn):Bd (n::m::l) p d 2=if (m.o.by_==d&&p 1)=true then max (Bd (n::m::l) p d 1) m.o.sq else Bd (n::m::l) p d 1:=rfl
theorem last3 (p:Nat→Bool) (d:Int) (n m k:Pn) (l:List Pn):Bd (n::m::k::l) p d 3=if (k.o.by_==d&&p 2)=true then max (Bd (n::m::k::l) p d 2) k.o.sq else Bd (n::m::k::l) p d 2:=rfl
theorem ah1 (p:Nat→Bool) (d s:Int) (n:Pn) (l:List Pn):Br (n::l) p d s 1=(false||(n.o.by_==d&&p 0&&n.o.sq==s-1)):=rfl
theorem ah3 (p:Nat→Bool) (d s:Int) (n m k:Pn) (l:List Pn):Br (n::m::k::l) p d s 3=(Br (n::m::k::l) p d s 2||(k.o.by_==d&&p 2&&k.o.sq==s-1)):=rfl
theorem sqbB:Aw [pA] (fun q=>q==0) lB=false:=by
 unfold Aw;rw [show lB.by_=1 from rfl,show lB.sq=2 from rfl,show [pA].length=1 from rfl,Mh,ah1,Mg,pA_sq];rfl
theorem sqbC:Aw [pA,pB] (fun q=>q==0) lC=false:=by
 unfold Aw;rw [show lC.by_=2 from rfl,show lC.sq=1 from rfl,show [pA,pB].length=2 from rfl,Sk,Mh,Mg,Sj];rfl
theorem sqbD:Aw [pA,pB,pC] (fun q=>decide (q<3)) lD=false:=by
 unfold Aw;rw [show lD.by_=2 from rfl,show lD.sq=2 from rfl,show [pA,pB,pC].length=3 from rfl,last3,Sk,Mh,ah3,Mg,Sj,pC_by,pC_sq];simp
 decide
section
variable {cs : List Cd} {c1 c2 : Cd}
theorem addA0 (h1:Bi cs 1=some c1) (s1:c1.s=Sg.pub (sec Ba 1)):Ai cs [] (sgn lA)=0:=
 G5 (c:=c1) Aj6 rfl (by simp) h1 s1 (.inr rfl) rfl (by show clash [] []=false;unfold clash Bu;simp) (Am0 _) rfl
theorem addB0 (h1:Bi cs 1=some c1) (s1:c1.s=Sg.pub (sec Ba 1)):Ai cs [pA] (sgn lB)=0:=
 G5 (c:=c1) Aj7 nlB (by simp) h1 s1 (.inl (by show (8:Int)≠1;decide)) (by show [lA.name].any _=false;simp [plA]) (clA []) (by show late [pA] [lA.name]≤0;rw [ltA];exact Am0 _) (by show Aw [pA] (Ag [pA] [lA.name]) lB=false;rw [psA];exact sqbB)
theorem addC0 (h2:Bi cs 2=some c2) (s2:c2.s=Sg.pub (sec Ba 2)):Ai cs [pA,pB] (sgn lC)=0:=
 G5 (c:=c2) Aj8 nlC (by simp) h2 s2 (.inl (by show (8:Int)≠1;decide)) (by show [lA.name].any _=false;simp [plA]) (clA [pB]) (by show late [pA,pB] [lA.name]≤3;rw [ltA];decide) (by show Aw [pA,pB] (Ag [pA,pB] [lA.name]) lC=false;rw [psA];exact sqbC)
theorem Ak2 (h2:Bi cs 2=some c2) (s2:c2.s=Sg.pub (sec Ba 2)):Ai cs [pA,pB] (sgn lD)=10:=
 Zr (c:=c2) Mf nlD2 (by simp) h2 s2 (.inl (by show (8:Int)≠1;decide)) (by show [lB.name,lC.name].any _=true;simp [nlC])
theorem addD0 (h2:Bi cs 2=some c2) (s2:c2.s=Sg.pub (sec Ba 2)):Ai cs [pA,pB,pC] (sgn lD)=0:=
 G5 (c:=c2) Mf nlD3 (by simp) h2 s2 (.inl (by show (8:Int)≠1;decide)) (by show [lB.name,lC.name].any _=false;simp [plB,plC]) clD (by show late [pA,pB,pC] [lB.name,lC.name]≤3;rw [ltD];exact Am0 _) (by show Aw [pA,pB,pC] (Ag [pA,pB,pC] [lB.name,lC.name]) lD=false;rw [psD];exact sqbD)
theorem addD5:Ai cs [pA,pB,pC,pD] (sgn lD)=5:=Zs (by rw [Zp];exact Mf) (by rw [Fw,plD];rfl)
end
theorem Jd (l:List Pn) (o:Op):Au l (sgn o)=⟨sgn o,o.name,Ag l o.past,lvl l o.past⟩:=by
 unfold Au;rw [Fw,Zq]
theorem pnA:Au [] (sgn lA)=pA:=by
 rw [Jd]
 have e:Ag [] lA.past=fun _=>false:=by
  funext q;show Ag [] [] q=false;unfold Ag Ar Bu;simp
 rw [e];rfl
theorem pnB:Au [pA] (sgn lB)=pB:=by
 have e1:Ag [pA] lB.past=fun q=>q==0:=psA [];have e2:lvl [pA] lB.past=2:=llA [];rw [Jd,e1,e2];rfl
theorem pnC:Au [pA,pB] (sgn lC)=pC:=by
 have e1:Ag [pA,pB] lC.past=fun q=>q==0:=psA [pB];have e2:lvl [pA,pB] lC.past=2:=llA [pB];rw [Jd,e1,e2];rfl
theorem pnD:Au [pA,pB,pC] (sgn lD)=pD:=by
 have e1:Ag [pA,pB,pC] lD.past=fun q=>decide (q<3):=psD;have e2:lvl [pA,pB,pC] lD.past=3:=llD;rw [Jd,e1,e2];rfl
end Oq
end
section
open Go.RowKit
attribute [local go_sem ↓] Go.wp_at_zero Go.wp_at_succ
namespace Oq
attribute [local go_sem ↓] Ch Eg
attribute [local go_sem] Al6 Al7
theorem Mi:lB.ok:=Ix (by decide) (by decide) (by decide) ⟨by simp,fun x hx=>by obtain rfl:=List.mem_singleton.1 hx;exact Ea (Ja 1 (by decide))⟩
theorem Mj:lC.ok:=Ix (by decide) (by decide) (by decide) ⟨by simp,fun x hx=>by obtain rfl:=List.mem_singleton.1 hx;exact Ea (Ja 1 (by decide))⟩
theorem Sm:lD.ok:=Ix (by decide) (by decide) (by decide) ⟨by simp,fun x hx=>by
 rcases List.mem_cons.1 hx with rfl|hx
 · exact Ea Mi
 ·
  obtain rfl:=List.mem_singleton.1 hx;exact Ea Mj⟩
theorem Sn:lA.ok:=Ja 1 (by decide)
theorem Ak3 (w:World) (hk:KindsAt w):Calls Tryz.prog 19 #[] w (Ae true w):=by
 have hi:(Tryz.prog.info? 44).map (·.size)=some 27:=by kernel_rfl
 have la:0<w.heap.size:=World.block_lt_of_cell? w _ (hk 0 (by decide));have f0:Fr Non w (w.alloc (.cells #[.int .i64 1,.int .i64 2] 3)):=(Fr.refl Non w).alloc _;have kc:=Lib.hid (Ow 2 2 (some ⟨w.heap.size,0,none⟩) [1,2] (w.alloc (.cells #[.int .i64 1,.int .i64 2] 3)) rfl (by decide) ((Rd.blk (n:=2) (size:=1) (l:=[1,2].map Iv) (Blk.new w 3 #[.int .i64 1,.int .i64 2]) rfl)));have j9:Hid (Bc 0 [1,2]=[Bb 0 1,Bb 1 2]):=rfl;have fn:(Bb 0 1).d=1:=Eb 0 1;have j8:(Bb 1 2).d=2:=Eb 1 2;have j0:Hid ((Bb 0 1).s=Sg.pub (sec Ba 1)):=Lg 0 1;have fl:Hid ((Bb 1 2).s=Sg.pub (sec Ba 2)):=Lg 1 2;generalize Bb 0 1=cd1 at*;generalize Bb 1 2=cd2 at*;have jy:Hid (Bi [cd1,cd2] 1=some cd1):=by show _=_;unfold Bi;rw [Am6 (by rw [fn];rfl)]
 have fm:Hid (Bi [cd1,cd2] 2=some cd2):=by show _=_;unfold Bi;rw [List.find?_cons_of_neg (by rw [fn];decide),Am6 (by rw [j8];rfl)]
 have k1:=Lib.hid hk;have ff:Hid (∀wz,Fr Non w wz→Ae true w (.returned (.bool true)) wz):=fun wz h=>⟨rfl,h⟩;generalize Ae true w=POST at*;clear hk fn j8;go_enter Tryz.func19,Tryz.ntmps19;go_wp2_with (fail);refine (kc.out).mono ?_;rintro _ w1 ⟨A1,c1,rfl,o1,f1⟩;have a8:=f0.trans f1 zr;have lr:=a8.size;have kn:=Lib.hid (Li w1.heap.size 2 c1 A1 [1,2] w1 rfl (by decide) o1.rd (by omega));clear kc f0 f1 o1;go_wp2_with (fail);refine (kn.out).mono ?_;rintro _ w2 ⟨g,rfl,hg,dj,j6,f2⟩;have bn:=a8.trans f2 zr;have ic:Hid (g.pns=[]):=by show _=_;unfold Gph.pns;rw [dj];rfl
 have jc:Hid (g.cards=[cd1,cd2]):=j6.trans j9.out;obtain ⟨gb,gp⟩:=Aa g.gb;rw [gp.out];have kf:=Lib.hid (Aj5 w2);clear kn dj j6 j9 f2 a8
 go_upto_region 5 with (first
  |(go_at_call 15;(with_reducible refine (kf.out).mono ?_);rintro _ w3 ⟨ya,rfl,cv,fx,f3⟩;have kk:=hg.fr f3;have bh:=bn.trans f3 zr;have bz:=Blk.new w3 44 zO;have ab:=Cb ya;clear kf hg bn f3)
  |(refine Ey rfl 44 (.tmp 2) (.tmp 14) rfl rfl rfl rfl bz hi rfl ab ?_))
 have ep:Fr Non w3 ((w3.alloc (.cells zO 44)).setRow w3.heap.size ya.cells):=((Fr.refl Non w3).alloc _).setRow (g:=w3.heap.size) (fun h=>absurd h (Am1 _)) ya.cells;have bi:=bz.setRow (cs:=ya.cells);obtain ⟨ga,i2⟩:=Aa w3.heap.size;rw [i2.out] at bi ep ⊢;generalize (w3.alloc (.cells zO 44)).setRow ga ya.cells=w4 at*;have jv:=kk.fr ep;have ck:=bh.trans ep zr;have cd:=fx w4 0;clear kk bh ep;clear bz ab i2;have bq:ya.op.ok:=by rw [cv];exact Fy Sn
 obtain ⟨nx,di⟩:=Aa lA.name;have kx:=Lib.hid (Gg ya nx (by rw [cv,← di.out];exact Fw lA) w4 cd.at bq);have g0:=Az (P:=Tryz.prog) ga 44 Tryz.underlying44 rfl (cs:=ya.cells) hi;replace cv:Hid (ya.op=sgn lA):=cv;have a0:nx.ok:=by rw [← di.out];exact Ea Sn
 go_upto_region 6 with (go_at_call 35;(with_reducible refine (kx.out).mono ?_);rintro _ w5 ⟨rfl,f5⟩)
 have Fx:Fr Non w4 (w5.alloc (.cells nx.V 38)):=f5.alloc _;have bx:=Blk.new w5 38 nx.V;obtain ⟨gx,ii⟩:=Aa w5.heap.size;rw [ii.out] at bx ⊢;generalize w5.alloc (.cells nx.V 38)=w6 at*;have j7:=jv.fr Fx;have bl:=ck.trans Fx zr;have du:=cd.non Fx;replace bi:=bi.fr Fx zq;clear jv ck cd Fx kx f5 ii g0;have x0:w6.cell? ⟨gx,0,none⟩=some (.int .i64 nx.b):=bx.cell 0;have x1:w6.cell? ⟨gx,1,none⟩=some (.int .i64 nx.s):=bx.cell 1;have x2:w6.cell? ⟨gx,2,none⟩=some (.int .u64 (nx.u:Int)):=bx.cell 2;have ke:=Lib.hid (Ld 1 2 0 _ 1 1 (some ⟨w6.heap.size,0,none⟩) [nx] (w6.alloc (.cells nx.V 38)) (by decide) (by decide) (by decide) rfl (Rd.blk (n:=1) (size:=3) (l:=[nx].flatMap Id.cells) (Blk.new w6 38 nx.V) rfl) (by decide) (by intro z hz;obtain rfl:=List.mem_singleton.1 hz;exact a0));have fa:Fr Non w6 (w6.alloc (.cells nx.V 38)):=(Fr.refl Non w6).alloc _
 go_upto_region 7 with (first
  |(go_at_call 41;go_loud (with_reducible refine (ke.out).mono ?_);rintro _ v1 ⟨yb,rfl,c5,dr,ha⟩;have fv:=fa.trans ha zr;have bz:=Blk.new v1 44 zO;have ab:=Cb yb;clear ke x0 x1 x2)
  |(refine Ey rfl 44 (.tmp 4) (.tmp 19) rfl rfl rfl rfl bz hi rfl ab ?_))
 replace c5:Hid (yb.op=sgn lB):=by show _=_;rw [c5,← di.out,Sf];rfl
 have cu:Fr Non v1 ((v1.alloc (.cells zO 44)).setRow v1.heap.size yb.cells):=((Fr.refl Non v1).alloc _).setRow (g:=v1.heap.size) (fun h=>absurd h (Am1 _)) yb.cells;have cz:=bz.setRow (cs:=yb.cells);obtain ⟨gy,jd⟩:=Aa v1.heap.size;rw [jd.out] at cz cu ⊢;generalize (v1.alloc (.cells zO 44)).setRow gy yb.cells=w7 at*;have i3:=j7.fr (fv.trans cu zr);have gl:=bl.trans (fv.trans cu zr) zr;have FT:=fv.trans cu zr;replace bx:=bx.fr FT zq;replace bi:=bi.fr FT zq;have d8:=du.non FT;have ej:=(dr.lower (Ak7 _)).non cu;clear bz ab jd;clear FT fv fa cu ha dr j7 bl du;have x0:w7.cell? ⟨gx,0,none⟩=some (.int .i64 nx.b):=bx.cell 0;have x1:w7.cell? ⟨gx,1,none⟩=some (.int .i64 nx.s):=bx.cell 1;have x2:w7.cell? ⟨gx,2,none⟩=some (.int .u64 (nx.u:Int)):=bx.cell 2;have ke:=Lib.hid (Ld 2 1 3 _ 1 1 (some ⟨w7.heap.size,0,none⟩) [nx] (w7.alloc (.cells nx.V 38)) (by decide) (by decide) (by decide) rfl (Rd.blk (n:=1) (size:=3) (l:=[nx].flatMap Id.cells) (Blk.new w7 38 nx.V) rfl) (by decide) (by intro z hz;obtain rfl:=List.mem_singleton.1 hz;exact a0));have fa:Fr Non w7 (w7.alloc (.cells nx.V 38)):=(Fr.refl Non w7).alloc _
 go_upto_region 8 with (first
  |(go_at_call 41;go_loud (with_reducible refine (ke.out).mono ?_);rintro _ v2 ⟨yc,rfl,c3,dy,j5⟩;have fv:=fa.trans j5 zr;have bz:=Blk.new v2 44 zO;have ab:=Cb yc;clear ke x0 x1 x2)
  |(refine Ey rfl 44 (.tmp 5) (.tmp 22) rfl rfl rfl rfl bz hi rfl ab ?_))
 replace c3:Hid (yc.op=sgn lC):=by show _=_;rw [c3,← di.out,Sf];rfl
 have cx:Fr Non v2 ((v2.alloc (.cells zO 44)).setRow v2.heap.size yc.cells):=((Fr.refl Non v2).alloc _).setRow (g:=v2.heap.size) (fun h=>absurd h (Am1 _)) yc.cells;have ew:=bz.setRow (cs:=yc.cells);obtain ⟨gz,aj⟩:=Aa v2.heap.size;rw [aj.out] at ew cx ⊢;generalize (v2.alloc (.cells zO 44)).setRow gz yc.cells=w8 at*;have jt:=i3.fr (fv.trans cx zr);have et:=gl.trans (fv.trans cx zr) zr;have FT:=fv.trans cx zr;replace bx:=bx.fr FT zq;replace bi:=bi.fr FT zq;have ek:=d8.non FT;have br:=(dy.lower (Ak7 _)).non cx;replace cz:=cz.fr FT zq;have ci:=ej.non FT;clear bz ab aj;clear FT fv fa cx j5 dy i3 gl d8 ej;have a6:yb.op.ok:=by rw [c5.out];exact Fy Mi
 have a1:yc.op.ok:=by rw [c3.out];exact Fy Mj
 have ao:=Ea Mi;have al:=Ea Mj;have bp:Hid (Dt 2 2 3 (Ao [lB.name,lC.name])=lD):=by show _=_;rw [Ak1];rfl
 have a3:yb.op.name=lB.name:=by rw [c5.out];exact Fw lB
 have a2:yc.op.name=lC.name:=by rw [c3.out];exact Fw lC
 obtain ⟨nb,gv⟩:=Aa lB.name;obtain ⟨nc,fj⟩:=Aa lC.name;rw [gv.out,fj.out] at bp;rw [gv.out] at a3 ao;rw [fj.out] at a2 al;have d0:Hid (∀w',Fr Non w8 w'→Calls Tryz.prog 35 #[.agg yb.cells] w' fun e ap=>e=.returned (.agg nb.V)∧Fr Non w' ap):=fun w' h=>Gg yb nb a3 w' (ci.non h).at a6;have c0:Hid (∀w',Fr Non w8 w'→Calls Tryz.prog 35 #[.agg yc.cells] w' fun e ap=>e=.returned (.agg nc.V)∧Fr Non w' ap):=fun w' h=>Gg yc nc a2 w' (br.non h).at a1
 have ke:Hid (∀(A:Option Addr) (B:Nat) (w':World),Rd w' B 3 A 2 ([nb,nc].flatMap Id.cells)→Calls Tryz.prog 41 #[.int .i64 2,.int .i64 2,.int .i64 3,.slice A 2 2] w' fun e ap=>∃y:OpL,e=.returned (.agg y.cells)∧y.op=sgn lD∧y.own ap 0∧Fr Non w' ap):=by
  intro A B w' hr
  refine (Ld 2 2 3 B 2 2 A [nb,nc] w' (by decide) (by decide) (by decide) rfl hr (by decide) (by
   intro z hz
   rcases List.mem_cons.1 hz with rfl|hz
   · exact ao
   ·
    obtain rfl:=List.mem_singleton.1 hz;exact al)).mono ?_
  rintro e ap ⟨y,h1,h2,h3,h4⟩;exact ⟨y,h1,h2.trans (congrArg sgn bp.out),h3.lower (Ak7 _),h4⟩
 replace a3:=Lib.hid a3;replace a2:=Lib.hid a2;have jp:=Az (P:=Tryz.prog) gy 44 Tryz.underlying44 rfl (cs:=yb.cells) hi;have hu:=Az (P:=Tryz.prog) gz 44 Tryz.underlying44 rfl (cs:=yc.cells) hi;obtain ⟨wd,en⟩:=Aa w8.drew;have Fd:Fr Non w8 wd:=by rw [← en.out];exact (Fr.refl Non w8).drew
 have a9:(fun w'=>Blk w' gy 44 yb.cells∧Blk w' gz 44 yc.cells) wd:=⟨cz.fr Fd zq,ew.fr Fd zq⟩;apply Qg
 case h=>
  intro bw;refine wp_region_held_drew (S:=(fun w'=>Blk w' gy 44 yb.cells∧Blk w' gz 44 yc.cells)) (by kernel_rfl) (by rw [en.out];exact a9) (fun _=> ?_);rw [en.out];have b3:Fr Non w8 wd:=Fd;have gh:Fr Non wd wd:=Fr.refl _ _;refine wpAnyH_take (i:=0) (v:=?_) rfl (by kernel_rfl) (by kernel_rfl) (by kernel_rfl) (fun _ _ _ h=>h) (Or.inl ⟨by kernel_rfl,?_⟩) a9 ?_;rotate_left
  focus (intro w' aa;have b1:=aa.1;have b2:=aa.2;(try dsimp only at b1 b2);go_simp;(try with_reducible rfl))
  try simp only [put_lit2,List.set]
  refine wpAnyH_take (i:=2) (v:=?_) rfl (by kernel_rfl) (by kernel_rfl) (by kernel_rfl) (fun _ _ _ h=>h) (Or.inl ⟨by kernel_rfl,?_⟩) a9 ?_;rotate_left
  focus (intro w' aa;have b1:=aa.1;have b2:=aa.2;(try dsimp only at b1 b2);go_simp;(try with_reducible rfl))
  try simp only [put_lit2,List.set]
  refine wpAnyH_ready (rs:=[1,6]) (by kernel_rfl) (by simp) ?_;refine AllReadyH.cons rfl (fun K hK=> ?_) ?_
  ·
   refine Ds (by kernel_rfl) ?_;go_simp;go_wp2_with (go_at_call 35;(with_reducible refine (d0.out _ b3).mono ?_);rintro _ v1 ⟨rfl,f1⟩);have b4:(fun w'=>Blk w' gy 44 yb.cells∧Blk w' gz 44 yc.cells) _:=⟨a9.1.fr f1 zq,a9.2.fr f1 zq⟩;have a8:=b3.trans f1 zr;have fe:=gh.trans f1 zr;refine hK.out _ _ b4 (fun _=> ?_);clear hK K;try simp only [put_lit2,List.set]
   refine wpAnyH_ready (rs:=[3,6]) (by kernel_rfl) (by simp) ?_;refine AllReadyH.cons rfl (fun K hK=> ?_) ?_
   ·
    refine Ds (by kernel_rfl) ?_;go_simp;go_wp2_with (go_at_call 35;(with_reducible refine (c0.out _ a8).mono ?_);rintro _ v2 ⟨rfl,f2⟩);have bu:(fun w'=>Blk w' gy 44 yb.cells∧Blk w' gz 44 yc.cells) _:=⟨b4.1.fr f2 zq,b4.2.fr f2 zq⟩;have bn:=a8.trans f2 zr;have gw:=fe.trans f2 zr;refine hK.out _ _ bu (fun _=> ?_);clear hK K;try simp only [put_lit2,List.set]
    refine wpAnyH_ready (rs:=[4,6]) (by kernel_rfl) (by simp) ?_;refine AllReadyH.cons rfl (fun K hK=> ?_) ?_
    ·
     refine Ds (by kernel_rfl) ?_;go_simp;have af:=Rd.blk (n:=2) (size:=3) (l:=[nb,nc].flatMap Id.cells) (Blk.new v2 38 #[.int .i64 nb.b,.int .i64 nb.s,.int .u64 (nb.u:Int),.int .i64 nc.b,.int .i64 nc.s,.int .u64 (nc.u:Int)]) rfl;have f3:Fr Non v2 (v2.alloc (.cells #[.int .i64 nb.b,.int .i64 nb.s,.int .u64 (nb.u:Int),.int .i64 nc.b,.int .i64 nc.s,.int .u64 (nc.u:Int)] 38)):=(Fr.refl Non _).alloc _;have bo:(fun w'=>Blk w' gy 44 yb.cells∧Blk w' gz 44 yc.cells) _:=⟨bu.1.fr f3 zq,bu.2.fr f3 zq⟩;have bh:=bn.trans f3 zr;have el:=gw.trans f3 zr;refine hK.out _ _ bo (fun _=> ?_);clear hK K;try simp only [put_lit2,List.set]
     obtain ⟨v3,lg⟩:=Aa (v2.alloc (.cells #[.int .i64 nb.b,.int .i64 nb.s,.int .u64 (nb.u:Int),.int .i64 nc.b,.int .i64 nc.s,.int .u64 (nc.u:Int)] 38));obtain ⟨rb,az⟩:=Aa v2.heap.size;rw [lg.out] at bo bh el af ⊢;rw [az.out] at af ⊢;refine wpAnyH_ready (rs:=[5,6]) (by kernel_rfl) (by simp) ?_;refine AllReadyH.cons rfl (fun K hK=> ?_) ?_
     ·
      refine Ds (by kernel_rfl) ?_;go_simp;go_wp2_with (go_at_call 41;(with_reducible refine (ke.out _ _ _ af).mono ?_);rintro _ v4 ⟨yd,rfl,ai,ac,f4⟩);have ds:(fun w'=>Blk w' gy 44 yb.cells∧Blk w' gz 44 yc.cells) _:=⟨bo.1.fr f4 zq,bo.2.fr f4 zq⟩;have ck:=bh.trans f4 zr;have hj:=el.trans f4 zr;refine hK.out _ _ ds (fun _=> ?_);clear hK K;try simp only [put_lit2,List.set]
      refine Bg 6 (by kernel_rfl) rfl (by kernel_rfl) (fun K hK=> ?_);go_simp;have bz:=Blk.new v4 44 zO;have ad:gy<v4.heap.size:=ds.1.lt;have ae:gz<v4.heap.size:=ds.2.lt;have f5:Fr Non v4 (v4.alloc (.cells zO 44)):=(Fr.refl Non _).alloc _;have eu:(fun w'=>Blk w' gy 44 yb.cells∧Blk w' gz 44 yc.cells) _:=⟨ds.1.fr f5 zq,ds.2.fr f5 zq⟩;have es:=ck.trans f5 zr;have i0:=hj.trans f5 zr;refine hK.out _ _ eu (fun _=> ?_);clear hK K;try simp only [put_lit2,List.set]
      replace ac:=ac.non f5;obtain ⟨gd,ag⟩:=Aa v4.heap.size;have aj:wd.heap.size≤gd:=by rw [← ag.out];exact hj.size
      rw [ag.out] at bz ad ae ⊢;obtain ⟨v5,k5⟩:=Aa (v4.alloc (.cells zO 44));rw [k5.out] at bz eu es i0 ac ⊢;refine Bg 7 (by kernel_rfl) rfl (by kernel_rfl) (fun K hK=> ?_);have ab:=Cb yd;refine Eo 44 (.tmp 6) (.tmp 28) (g:=gd) (cs:=yd.cells) rfl rfl (by rfl) (by rfl) bz hi rfl ab ?_;have fz:Fr (One gd) v5 (v5.setRow gd yd.cells):=(Fr.refl (One gd) v5).setRow (g:=gd) (fun _=>rfl) yd.cells;have aq:(fun w'=>Blk w' gy 44 yb.cells∧Blk w' gz 44 yc.cells) (v5.setRow gd yd.cells):=⟨eu.1.fr fz (fun e=>Ak8 ad e),eu.2.fr fz (fun e=>Ak8 ae e)⟩;have bF:=bz.setRow (cs:=yd.cells);have oF:=ac.keepP fz (Types.one bz) (by decide) (by decide) (by decide) (by decide) (by decide) (by decide) (by decide);have fF:Fr Non wd (v5.setRow gd yd.cells):=i0.trans fz (fun k hk e=>absurd hk (Nat.not_lt.2 (by have e':k=gd:=e;rw [e'];exact aj)));refine hK.out _ _ aq (fun hzz=> ?_);clear hK K hzz;refine oD ?_;go_simp;clear aq fz bz ab ac;revert fF oF bF ai;generalize v5.setRow gd yd.cells=wF;clear ag aj ad ae af az;generalize gd=gd2;generalize rb=rb2;revert wF gd2 rb2 yd;exact bw
     refine AllReadyH.cons rfl (fun K hK=> ?_) AllReadyH.nil
     ·
      refine Ds (by kernel_rfl) ?_;go_simp;have bz:=Blk.new v3 44 zO;have ad:gy<v3.heap.size:=bo.1.lt;have ae:gz<v3.heap.size:=bo.2.lt;have f6:Fr Non v3 (v3.alloc (.cells zO 44)):=(Fr.refl Non _).alloc _;have ey:(fun w'=>Blk w' gy 44 yb.cells∧Blk w' gz 44 yc.cells) _:=⟨bo.1.fr f6 zq,bo.2.fr f6 zq⟩;have bl:=bh.trans f6 zr;have hq:=el.trans f6 zr;refine hK.out _ _ ey (fun _=> ?_);clear hK K;try simp only [put_lit2,List.set]
      replace af:=af.fr f6 zr;obtain ⟨gd,ag⟩:=Aa v3.heap.size;have aj:wd.heap.size≤gd:=by rw [← ag.out];exact el.size
      rw [ag.out] at bz ad ae ⊢;obtain ⟨v6,k4⟩:=Aa (v3.alloc (.cells zO 44));rw [k4.out] at bz ey bl hq af ⊢;refine Bg 5 (by kernel_rfl) rfl (by kernel_rfl) (fun K hK=> ?_);go_simp;go_wp2_with (go_at_call 41;(with_reducible refine (ke.out _ _ _ af).mono ?_);rintro _ v7 ⟨yd,rfl,ai,ac,f7⟩);have f8:(fun w'=>Blk w' gy 44 yb.cells∧Blk w' gz 44 yc.cells) _:=⟨ey.1.fr f7 zq,ey.2.fr f7 zq⟩;have gl:=bl.trans f7 zr;have ku:=hq.trans f7 zr;refine hK.out _ _ f8 (fun _=> ?_);clear hK K;try simp only [put_lit2,List.set]
      replace bz:=bz.fr f7 zq;refine Bg 7 (by kernel_rfl) rfl (by kernel_rfl) (fun K hK=> ?_);have ab:=Cb yd;refine Eo 44 (.tmp 6) (.tmp 28) (g:=gd) (cs:=yd.cells) rfl rfl (by rfl) (by rfl) bz hi rfl ab ?_;have fz:Fr (One gd) v7 (v7.setRow gd yd.cells):=(Fr.refl (One gd) v7).setRow (g:=gd) (fun _=>rfl) yd.cells;have aq:(fun w'=>Blk w' gy 44 yb.cells∧Blk w' gz 44 yc.cells) (v7.setRow gd yd.cells):=⟨f8.1.fr fz (fun e=>Ak8 ad e),f8.2.fr fz (fun e=>Ak8 ae e)⟩;have bF:=bz.setRow (cs:=yd.cells);have oF:=ac.keepP fz (Types.one bz) (by decide) (by decide) (by decide) (by decide) (by decide) (by decide) (by decide);have fF:Fr Non wd (v7.setRow gd yd.cells):=ku.trans fz (fun k hk e=>absurd hk (Nat.not_lt.2 (by have e':k=gd:=e;rw [e'];exact aj)));refine hK.out _ _ aq (fun hzz=> ?_);clear hK K hzz;refine oD ?_;go_simp;clear aq fz bz ab ac;revert fF oF bF ai;generalize v7.setRow gd yd.cells=wF;clear ag aj ad ae af az;generalize gd=gd2;generalize rb=rb2;revert wF gd2 rb2 yd;exact bw
    refine AllReadyH.cons rfl (fun K hK=> ?_) AllReadyH.nil
    ·
     refine Ds (by kernel_rfl) ?_;go_simp;have bz:=Blk.new v2 44 zO;have ad:gy<v2.heap.size:=bu.1.lt;have ae:gz<v2.heap.size:=bu.2.lt;have f9:Fr Non v2 (v2.alloc (.cells zO 44)):=(Fr.refl Non _).alloc _;have ev:(fun w'=>Blk w' gy 44 yb.cells∧Blk w' gz 44 yc.cells) _:=⟨bu.1.fr f9 zq,bu.2.fr f9 zq⟩;have h8:=bn.trans f9 zr;have ij:=gw.trans f9 zr;refine hK.out _ _ ev (fun _=> ?_);clear hK K;try simp only [put_lit2,List.set]
     obtain ⟨gd,ag⟩:=Aa v2.heap.size;have aj:wd.heap.size≤gd:=by rw [← ag.out];exact gw.size
     rw [ag.out] at bz ad ae ⊢;obtain ⟨v9,k2⟩:=Aa (v2.alloc (.cells zO 44));rw [k2.out] at bz ev h8 ij ⊢;refine Bg 4 (by kernel_rfl) rfl (by kernel_rfl) (fun K hK=> ?_);go_simp;have af:=Rd.blk (n:=2) (size:=3) (l:=[nb,nc].flatMap Id.cells) (Blk.new v9 38 #[.int .i64 nb.b,.int .i64 nb.s,.int .u64 (nb.u:Int),.int .i64 nc.b,.int .i64 nc.s,.int .u64 (nc.u:Int)]) rfl;have dc:Fr Non v9 (v9.alloc (.cells #[.int .i64 nb.b,.int .i64 nb.s,.int .u64 (nb.u:Int),.int .i64 nc.b,.int .i64 nc.s,.int .u64 (nc.u:Int)] 38)):=(Fr.refl Non _).alloc _;have bc:(fun w'=>Blk w' gy 44 yb.cells∧Blk w' gz 44 yc.cells) _:=⟨ev.1.fr dc zq,ev.2.fr dc zq⟩;have d2:=h8.trans dc zr;have de:=ij.trans dc zr;refine hK.out _ _ bc (fun _=> ?_);clear hK K;try simp only [put_lit2,List.set]
     obtain ⟨lk,dw⟩:=Aa (v9.alloc (.cells #[.int .i64 nb.b,.int .i64 nb.s,.int .u64 (nb.u:Int),.int .i64 nc.b,.int .i64 nc.s,.int .u64 (nc.u:Int)] 38));obtain ⟨rb,az⟩:=Aa v9.heap.size;rw [dw.out] at bc d2 de af ⊢;rw [az.out] at af ⊢;replace bz:=bz.fr dc zq;rw [dw.out] at bz;refine Bg 5 (by kernel_rfl) rfl (by kernel_rfl) (fun K hK=> ?_);go_simp;go_wp2_with (go_at_call 41;(with_reducible refine (ke.out _ _ _ af).mono ?_);rintro _ c2 ⟨yd,rfl,ai,ac,ei⟩);have ch:(fun w'=>Blk w' gy 44 yb.cells∧Blk w' gz 44 yc.cells) _:=⟨bc.1.fr ei zq,bc.2.fr ei zq⟩;have kz:=d2.trans ei zr;have fw:=de.trans ei zr;refine hK.out _ _ ch (fun _=> ?_);clear hK K;try simp only [put_lit2,List.set]
     replace bz:=bz.fr ei zq;refine Bg 7 (by kernel_rfl) rfl (by kernel_rfl) (fun K hK=> ?_);have ab:=Cb yd;refine Eo 44 (.tmp 6) (.tmp 28) (g:=gd) (cs:=yd.cells) rfl rfl (by rfl) (by rfl) bz hi rfl ab ?_;have fz:Fr (One gd) c2 (c2.setRow gd yd.cells):=(Fr.refl (One gd) c2).setRow (g:=gd) (fun _=>rfl) yd.cells;have aq:(fun w'=>Blk w' gy 44 yb.cells∧Blk w' gz 44 yc.cells) (c2.setRow gd yd.cells):=⟨ch.1.fr fz (fun e=>Ak8 ad e),ch.2.fr fz (fun e=>Ak8 ae e)⟩;have bF:=bz.setRow (cs:=yd.cells);have oF:=ac.keepP fz (Types.one bz) (by decide) (by decide) (by decide) (by decide) (by decide) (by decide) (by decide);have fF:Fr Non wd (c2.setRow gd yd.cells):=fw.trans fz (fun k hk e=>absurd hk (Nat.not_lt.2 (by have e':k=gd:=e;rw [e'];exact aj)));refine hK.out _ _ aq (fun hzz=> ?_);clear hK K hzz;refine oD ?_;go_simp;clear aq fz bz ab ac;revert fF oF bF ai;generalize c2.setRow gd yd.cells=wF;clear ag aj ad ae af az;generalize gd=gd2;generalize rb=rb2;revert wF gd2 rb2 yd;exact bw
   refine AllReadyH.cons rfl (fun K hK=> ?_) AllReadyH.nil
   ·
    refine Ds (by kernel_rfl) ?_;go_simp;have bz:=Blk.new v1 44 zO;have ad:gy<v1.heap.size:=b4.1.lt;have ae:gz<v1.heap.size:=b4.2.lt;have ez:Fr Non v1 (v1.alloc (.cells zO 44)):=(Fr.refl Non _).alloc _;have be:(fun w'=>Blk w' gy 44 yb.cells∧Blk w' gz 44 yc.cells) _:=⟨b4.1.fr ez zq,b4.2.fr ez zq⟩;have b8:=a8.trans ez zr;have dg:=fe.trans ez zr;refine hK.out _ _ be (fun _=> ?_);clear hK K;try simp only [put_lit2,List.set]
    obtain ⟨gd,ag⟩:=Aa v1.heap.size;have aj:wd.heap.size≤gd:=by rw [← ag.out];exact fe.size
    rw [ag.out] at bz ad ae ⊢;obtain ⟨ll,g3⟩:=Aa (v1.alloc (.cells zO 44));rw [g3.out] at bz be b8 dg ⊢;refine Bg 3 (by kernel_rfl) rfl (by kernel_rfl) (fun K hK=> ?_);go_simp;go_wp2_with (go_at_call 35;(with_reducible refine (c0.out _ b8).mono ?_);rintro _ dn ⟨rfl,d6⟩);have cm:(fun w'=>Blk w' gy 44 yb.cells∧Blk w' gz 44 yc.cells) _:=⟨be.1.fr d6 zq,be.2.fr d6 zq⟩;have ft:=b8.trans d6 zr;have g1:=dg.trans d6 zr;refine hK.out _ _ cm (fun _=> ?_);clear hK K;try simp only [put_lit2,List.set]
    replace bz:=bz.fr d6 zq;refine Bg 4 (by kernel_rfl) rfl (by kernel_rfl) (fun K hK=> ?_);go_simp;have af:=Rd.blk (n:=2) (size:=3) (l:=[nb,nc].flatMap Id.cells) (Blk.new dn 38 #[.int .i64 nb.b,.int .i64 nb.s,.int .u64 (nb.u:Int),.int .i64 nc.b,.int .i64 nc.s,.int .u64 (nc.u:Int)]) rfl;have dd:Fr Non dn (dn.alloc (.cells #[.int .i64 nb.b,.int .i64 nb.s,.int .u64 (nb.u:Int),.int .i64 nc.b,.int .i64 nc.s,.int .u64 (nc.u:Int)] 38)):=(Fr.refl Non _).alloc _;have bj:(fun w'=>Blk w' gy 44 yb.cells∧Blk w' gz 44 yc.cells) _:=⟨cm.1.fr dd zq,cm.2.fr dd zq⟩;have df:=ft.trans dd zr;have d1:=g1.trans dd zr;refine hK.out _ _ bj (fun _=> ?_);clear hK K;try simp only [put_lit2,List.set]
    obtain ⟨lm,d4⟩:=Aa (dn.alloc (.cells #[.int .i64 nb.b,.int .i64 nb.s,.int .u64 (nb.u:Int),.int .i64 nc.b,.int .i64 nc.s,.int .u64 (nc.u:Int)] 38));obtain ⟨rb,az⟩:=Aa dn.heap.size;rw [d4.out] at bj df d1 af ⊢;rw [az.out] at af ⊢;replace bz:=bz.fr dd zq;rw [d4.out] at bz;refine Bg 5 (by kernel_rfl) rfl (by kernel_rfl) (fun K hK=> ?_);go_simp;go_wp2_with (go_at_call 41;(with_reducible refine (ke.out _ _ _ af).mono ?_);rintro _ cw ⟨yd,rfl,ai,ac,d9⟩);have b9:(fun w'=>Blk w' gy 44 yb.cells∧Blk w' gz 44 yc.cells) _:=⟨bj.1.fr d9 zq,bj.2.fr d9 zq⟩;have lh:=df.trans d9 zr;have fb:=d1.trans d9 zr;refine hK.out _ _ b9 (fun _=> ?_);clear hK K;try simp only [put_lit2,List.set]
    replace bz:=bz.fr d9 zq;refine Bg 7 (by kernel_rfl) rfl (by kernel_rfl) (fun K hK=> ?_);have ab:=Cb yd;refine Eo 44 (.tmp 6) (.tmp 28) (g:=gd) (cs:=yd.cells) rfl rfl (by rfl) (by rfl) bz hi rfl ab ?_;have fz:Fr (One gd) cw (cw.setRow gd yd.cells):=(Fr.refl (One gd) cw).setRow (g:=gd) (fun _=>rfl) yd.cells;have aq:(fun w'=>Blk w' gy 44 yb.cells∧Blk w' gz 44 yc.cells) (cw.setRow gd yd.cells):=⟨b9.1.fr fz (fun e=>Ak8 ad e),b9.2.fr fz (fun e=>Ak8 ae e)⟩;have bF:=bz.setRow (cs:=yd.cells);have oF:=ac.keepP fz (Types.one bz) (by decide) (by decide) (by decide) (by decide) (by decide) (by decide) (by decide);have fF:Fr Non wd (cw.setRow gd yd.cells):=fb.trans fz (fun k hk e=>absurd hk (Nat.not_lt.2 (by have e':k=gd:=e;rw [e'];exact aj)));refine hK.out _ _ aq (fun hzz=> ?_);clear hK K hzz;refine oD ?_;go_simp;clear aq fz bz ab ac;revert fF oF bF ai;generalize cw.setRow gd yd.cells=wF;clear ag aj ad ae af az;generalize gd=gd2;generalize rb=rb2;revert wF gd2 rb2 yd;exact bw
  refine AllReadyH.cons rfl (fun K hK=> ?_) AllReadyH.nil
  ·
   refine Ds (by kernel_rfl) ?_;go_simp;have bz:=Blk.new wd 44 zO;have ad:gy<wd.heap.size:=a9.1.lt;have ae:gz<wd.heap.size:=a9.2.lt;have er:Fr Non wd (wd.alloc (.cells zO 44)):=(Fr.refl Non _).alloc _;have bk:(fun w'=>Blk w' gy 44 yb.cells∧Blk w' gz 44 yc.cells) _:=⟨a9.1.fr er zq,a9.2.fr er zq⟩;have bs:=b3.trans er zr;have c6:=gh.trans er zr;refine hK.out _ _ bk (fun _=> ?_);clear hK K;try simp only [put_lit2,List.set]
   obtain ⟨gd,ag⟩:=Aa wd.heap.size;have aj:wd.heap.size≤gd:=by rw [← ag.out];exact gh.size
   rw [ag.out] at bz ad ae ⊢;obtain ⟨lq,gm⟩:=Aa (wd.alloc (.cells zO 44));rw [gm.out] at bz bk bs c6 ⊢;refine Bg 1 (by kernel_rfl) rfl (by kernel_rfl) (fun K hK=> ?_);go_simp;go_wp2_with (go_at_call 35;(with_reducible refine (d0.out _ bs).mono ?_);rintro _ lo ⟨rfl,ed⟩);have cp:(fun w'=>Blk w' gy 44 yb.cells∧Blk w' gz 44 yc.cells) _:=⟨bk.1.fr ed zq,bk.2.fr ed zq⟩;have eh:=bs.trans ed zr;have fp:=c6.trans ed zr;refine hK.out _ _ cp (fun _=> ?_);clear hK K;try simp only [put_lit2,List.set]
   replace bz:=bz.fr ed zq;refine Bg 3 (by kernel_rfl) rfl (by kernel_rfl) (fun K hK=> ?_);go_simp;go_wp2_with (go_at_call 35;(with_reducible refine (c0.out _ eh).mono ?_);rintro _ dz ⟨rfl,dl⟩);have b6:(fun w'=>Blk w' gy 44 yb.cells∧Blk w' gz 44 yc.cells) _:=⟨cp.1.fr dl zq,cp.2.fr dl zq⟩;have fs:=eh.trans dl zr;have fg:=fp.trans dl zr;refine hK.out _ _ b6 (fun _=> ?_);clear hK K;try simp only [put_lit2,List.set]
   replace bz:=bz.fr dl zq;refine Bg 4 (by kernel_rfl) rfl (by kernel_rfl) (fun K hK=> ?_);go_simp;have af:=Rd.blk (n:=2) (size:=3) (l:=[nb,nc].flatMap Id.cells) (Blk.new dz 38 #[.int .i64 nb.b,.int .i64 nb.s,.int .u64 (nb.u:Int),.int .i64 nc.b,.int .i64 nc.s,.int .u64 (nc.u:Int)]) rfl;have eb:Fr Non dz (dz.alloc (.cells #[.int .i64 nb.b,.int .i64 nb.s,.int .u64 (nb.u:Int),.int .i64 nc.b,.int .i64 nc.s,.int .u64 (nc.u:Int)] 38)):=(Fr.refl Non _).alloc _;have bf:(fun w'=>Blk w' gy 44 yb.cells∧Blk w' gz 44 yc.cells) _:=⟨b6.1.fr eb zq,b6.2.fr eb zq⟩;have ee:=fs.trans eb zr;have da:=fg.trans eb zr;refine hK.out _ _ bf (fun _=> ?_);clear hK K;try simp only [put_lit2,List.set]
   obtain ⟨lp,dq⟩:=Aa (dz.alloc (.cells #[.int .i64 nb.b,.int .i64 nb.s,.int .u64 (nb.u:Int),.int .i64 nc.b,.int .i64 nc.s,.int .u64 (nc.u:Int)] 38));obtain ⟨rb,az⟩:=Aa dz.heap.size;rw [dq.out] at bf ee da af ⊢;rw [az.out] at af ⊢;replace bz:=bz.fr eb zq;rw [dq.out] at bz;refine Bg 5 (by kernel_rfl) rfl (by kernel_rfl) (fun K hK=> ?_);go_simp;go_wp2_with (go_at_call 41;(with_reducible refine (ke.out _ _ _ af).mono ?_);rintro _ c4 ⟨yd,rfl,ai,ac,db⟩);have ct:(fun w'=>Blk w' gy 44 yb.cells∧Blk w' gz 44 yc.cells) _:=⟨bf.1.fr db zq,bf.2.fr db zq⟩;have kq:=ee.trans db zr;have fh:=da.trans db zr;refine hK.out _ _ ct (fun _=> ?_);clear hK K;try simp only [put_lit2,List.set]
   replace bz:=bz.fr db zq;refine Bg 7 (by kernel_rfl) rfl (by kernel_rfl) (fun K hK=> ?_);have ab:=Cb yd;refine Eo 44 (.tmp 6) (.tmp 28) (g:=gd) (cs:=yd.cells) rfl rfl (by rfl) (by rfl) bz hi rfl ab ?_;have fz:Fr (One gd) c4 (c4.setRow gd yd.cells):=(Fr.refl (One gd) c4).setRow (g:=gd) (fun _=>rfl) yd.cells;have aq:(fun w'=>Blk w' gy 44 yb.cells∧Blk w' gz 44 yc.cells) (c4.setRow gd yd.cells):=⟨ct.1.fr fz (fun e=>Ak8 ad e),ct.2.fr fz (fun e=>Ak8 ae e)⟩;have bF:=bz.setRow (cs:=yd.cells);have oF:=ac.keepP fz (Types.one bz) (by decide) (by decide) (by decide) (by decide) (by decide) (by decide) (by decide);have fF:Fr Non wd (c4.setRow gd yd.cells):=fh.trans fz (fun k hk e=>absurd hk (Nat.not_lt.2 (by have e':k=gd:=e;rw [e'];exact aj)));refine hK.out _ _ aq (fun hzz=> ?_);clear hK K hzz;refine oD ?_;go_simp;clear aq fz bz ab ac;revert fF oF bF ai;generalize c4.setRow gd yd.cells=wF;clear ag aj ad ae af az;generalize gd=gd2;generalize rb=rb2;revert wF gd2 rb2 yd;exact bw
 case hp=>
  intro yd w9 gd rb ai bd ac F9;have a7:=Fd.trans F9 zr;have ar:yd.op.ok:=by rw [ai];exact Fy Sm
  replace ai:Hid (yd.op=sgn lD):=ai;have b3:=et.trans a7 zr;have e9:KindsAt w9:=k1.out.fr b3;have av:=jt.fr a7;have g5:=bi.fr a7 zq;have jz:=cz.fr a7 zq;have g6:=ew.fr a7 zq;have hf:=bd;have jx:=bx.fr a7 zq;have gq:=ek.non a7;have hm:=ci.non a7;have kb:=br.non a7;have i6:=ac;have bv:=gp;have cr:=jc;have eg:=ic;have g0:=Az (P:=Tryz.prog) ga 44 Tryz.underlying44 rfl (cs:=ya.cells) hi;have ln:=Az (P:=Tryz.prog) gd 44 Tryz.underlying44 rfl (cs:=yd.cells) hi;clear a9 ke d0 c0 Fd F9 a7 bi cz ew bx ek ci br ac bd et jt gp jc ic en wd;have kt:=G8 (x:=ya) (l:=[]) (p:=pA) eg.out av gq.at bq e9 (by rw [cr.out,cv.out];exact addA0 jy.out j0.out) (by rw [cv.out];exact pnA);rw [bv.out] at kt;have g9:=Lib.hid kt;clear kt
  go_upto_region 11 with (first
   |(go_at_call 17;(with_reducible refine (g9.out).mono ?_);rintro _ u1 ⟨rfl,q1,au,ko,km,e0,F⟩;have ce:Hid (q1.gb=gb):=ko.trans bv.out;have cj:Hid (q1.cards=[cd1,cd2]):=km.trans cr.out;have dp:Hid (q1.pns=[pA]):=e0;have im:=Blk.keepG g5 av F (by unfold Gty;decide);have hc:=Blk.keepG jz av F (by unfold Gty;decide);have h6:=Blk.keepG g6 av F (by unfold Gty;decide);have hw:=Blk.keepG hf av F (by unfold Gty;decide);have iy:=Blk.keepG jx av F (by unfold Gty;decide);have i1:=gq.keepG av F;have gk:=hm.keepG av F;have h7:=kb.keepG av F;have jk:=i6.keepG av F;have a8:=b3.trans F (fun k hk e=>by have h1:=av.ge e;omega);have gc:=KindsAt.own e9 av F;have kt:=G8 (x:=yb) (l:=[pA]) (p:=pB) dp.out au gk.at a6 gc (by rw [cj.out,c5.out];exact addB0 jy.out j0.out) (by rw [c5.out];exact pnB);rw [ce.out] at kt;have ia:=Lib.hid kt;clear kt;clear av bv cr eg e9 b3 g5 jz g6 hf jx gq hm kb i6 g9 F)
   |(go_at_call 17;(with_reducible refine (ia.out).mono ?_);rintro _ u2 ⟨rfl,q2,fd,lc,kw,em,F⟩;have cn:Hid (q2.gb=gb):=lc.trans ce.out;have b7:Hid (q2.cards=[cd1,cd2]):=kw.trans cj.out;have cb:Hid (q2.pns=[pA,pB]):=em;have io:=Blk.keepG im au F (by unfold Gty;decide);have jr:=Blk.keepG hc au F (by unfold Gty;decide);have kd:=Blk.keepG h6 au F (by unfold Gty;decide);have g8:=Blk.keepG hw au F (by unfold Gty;decide);have j3:=Blk.keepG iy au F (by unfold Gty;decide);have ki:=i1.keepG au F;have jh:=gk.keepG au F;have j2:=h7.keepG au F;have gi:=jk.keepG au F;have bn:=a8.trans F (fun k hk e=>by have h1:=au.ge e;omega);have gf:=KindsAt.own gc au F;have kt:=Qx (x:=yd) (l:=[pA,pB]) (err:=10) cb.out fd gi.at ar gf (by rw [b7.out,ai.out];exact Ak2 fm.out fl.out) (by decide);rw [cn.out] at kt;have ib:=Lib.hid kt;clear kt;clear au ce cj dp gc a8 im hc h6 hw iy i1 gk h7 jk ia F)
   |(go_at_call 17;(with_reducible refine (ib.out).mono ?_);rintro _ u3 ⟨rfl,F⟩;have aw:=fd.fr F;have co:=cn;have b0:=b7;have d7:=cb;have ih:=io.fr F zq;have i4:=jr.fr F zq;have iv:=kd.fr F zq;have i9:=g8.fr F zq;have hx:=j3.fr F zq;have jn:=ki.non F;have hn:=jh.non F;have gt:=j2.non F;have ju:=gi.non F;have bh:=bn.trans F zr;have fo:=gf.fr F;have kt:=G8 (x:=yc) (l:=[pA,pB]) (p:=pC) d7.out aw gt.at a1 fo (by rw [b0.out,c3.out];exact addC0 fm.out fl.out) (by rw [c3.out];exact pnC);rw [co.out] at kt;have jm:=Lib.hid kt;clear kt;clear fd cn b7 cb gf bn io jr kd g8 j3 ki jh j2 gi ib F)
   |(go_at_call 17;(with_reducible refine (jm.out).mono ?_);rintro _ u4 ⟨rfl,q4,ay,k8,ky,lb,F⟩;have cc:Hid (q4.gb=gb):=k8.trans co.out;have cq:Hid (q4.cards=[cd1,cd2]):=ky.trans b0.out;have ea:Hid (q4.pns=[pA,pB,pC]):=lb;have iq:=Blk.keepG ih aw F (by unfold Gty;decide);have jq:=Blk.keepG i4 aw F (by unfold Gty;decide);have je:=Blk.keepG iv aw F (by unfold Gty;decide);have ik:=Blk.keepG i9 aw F (by unfold Gty;decide);have ie:=Blk.keepG hx aw F (by unfold Gty;decide);have hd:=jn.keepG aw F;have he:=hn.keepG aw F;have ht:=gt.keepG aw F;have gu:=ju.keepG aw F;have ck:=bh.trans F (fun k hk e=>by have h1:=aw.ge e;omega);have gj:=KindsAt.own fo aw F;have kt:=G8 (x:=yd) (l:=[pA,pB,pC]) (p:=pD) ea.out ay gu.at ar gj (by rw [cq.out,ai.out];exact addD0 fm.out fl.out) (by rw [ai.out];exact pnD);rw [cc.out] at kt;have ho:=Lib.hid kt;clear kt;clear aw co b0 d7 fo bh ih i4 iv i9 hx jn hn gt ju jm F)
   |(go_at_call 17;(with_reducible refine (ho.out).mono ?_);rintro _ u5 ⟨rfl,q5,gr,kv,k3,ks,F⟩;have bt:Hid (q5.gb=gb):=kv.trans cc.out;have ca:Hid (q5.cards=[cd1,cd2]):=k3.trans cq.out;have cf:Hid (q5.pns=[pA,pB,pC,pD]):=ks;have iw:=Blk.keepG iq ay F (by unfold Gty;decide);have j1:=Blk.keepG jq ay F (by unfold Gty;decide);have hy:=Blk.keepG je ay F (by unfold Gty;decide);have h0:=Blk.keepG ik ay F (by unfold Gty;decide);have jf:=Blk.keepG ie ay F (by unfold Gty;decide);have ka:=hd.keepG ay F;have i5:=he.keepG ay F;have kj:=ht.keepG ay F;have fq:=gu.keepG ay F;have es:=ck.trans F (fun k hk e=>by have h1:=ay.ge e;omega);have e8:=KindsAt.own gj ay F;have kt:=Qx (x:=yd) (l:=[pA,pB,pC,pD]) (err:=5) cf.out gr fq.at ar e8 (by rw [ca.out,ai.out];exact addD5) (by decide);rw [bt.out] at kt;have h9:=Lib.hid kt;clear kt;clear ay cc cq ea gj ck iq jq je ik ie hd he ht gu ho F)
   |(go_at_call 17;(with_reducible refine (h9.out).mono ?_);rintro _ u6 ⟨rfl,F⟩;have jw:=gr.fr F;have ax:=bt;have gg:=ca;have ak:=cf;have k9:=iw.fr F zq;have iu:=j1.fr F zq;have h5:=hy.fr F zq;have lf:=h0.fr F zq;have ip:=jf.fr F zq;have li:=ka.non F;have jj:=i5.non F;have il:=kj.non F;have hv:=fq.non F;have bl:=es.trans F zr;have ld:=e8.fr F;clear gr bt ca cf e8 es iw j1 hy h0 jf ka i5 kj fq h9 F))
  clear g0 jp hu;obtain ⟨m0,i7,k7⟩:=Jb ak.out (i:=0) rfl;obtain ⟨m1,ir,e0⟩:=Jb ak.out (i:=1) rfl;obtain ⟨m2,fu,em⟩:=Jb ak.out (i:=2) rfl;obtain ⟨m3,ec,fc⟩:=Jb ak.out (i:=3) rfl;have pl:∀id i,plc [pA,pB,pC,pD] id=some i→Af q5.nodes id=some i:=fun id i h=>by rw [← Fg];exact (congrArg (fun l=>plc l id) ak.out).trans h
  have fy:Af q5.nodes lA.name=some 0:=pl _ _ (plA _);have gs:Af q5.nodes lB.name=some 1:=pl _ _ (plB _);have b5:Af q5.nodes lC.name=some 2:=pl _ _ (plC _);have d3:Af q5.nodes lD.name=some 3:=pl _ _ (plD _);have ah:=Ea Sm;have dh:yd.op.name=lD.name:=by rw [ai.out];exact Fw lD
  obtain ⟨nd,k0⟩:=Aa lD.name;rw [di.out] at fy;rw [gv.out] at gs;rw [fj.out] at b5;rw [k0.out] at d3 ah dh;have fk:∀k,m3.past k=decide (k<3):=fun k=>congrFun (congrArg Pn.ps fc) k;have ja:∀k,m2.past k=(k==0):=fun k=>congrFun (congrArg Pn.ps em) k;have cg:q5.nodes.length=4:=by have h:=congrArg List.length ak.out;unfold Gph.pns at h;rw [List.length_map] at h;exact h
  have a4:q5.level nd=3:=by unfold Gph.level;rw [d3];simp only [ec];exact congrArg Pn.lev fc
  have dk:q5.before nx nd=true:=by unfold Gph.before;rw [fy,d3];simp only [ec];show m3.past 0=true;rw [fk];rfl
  have dx:q5.before nb nc=false:=by unfold Gph.before;rw [gs,b5];simp only [fu];show m2.past 1=false;rw [ja];rfl
  have a5:∀k,q5.ups [nd] k=decide (k<3):=fun k=>by unfold Gph.ups Gph.up;simp only [Al0,Al1,Al2,d3,ec];exact fk k
  have kh:(Ek q5.nodes (q5.ups [nd]) q5.nodes.length).length=3:=by
   rw [cg,Gw _ _ 3 ec,Gw _ _ 2 fu,Gw _ _ 1 ir,Gw _ _ 0 i7,a5,a5,a5,a5];rfl
  have dv:=Lib.hid (fun w' (h:GAt w' w1.heap.size q5)=>Uk w1.heap.size q5 w' h);have ef:=Lib.hid (fun w' (h:GAt w' w1.heap.size q5)=>Ul w1.heap.size q5 nd w' h ah);have kl:=Lib.hid (fun w' (h:GAt w' w1.heap.size q5)=>Nt w1.heap.size q5 nx nd w' h a0 ah);have jg:=Lib.hid (fun w' (h:GAt w' w1.heap.size q5)=>Nt w1.heap.size q5 nb nc w' h ao al);rw [cg,ax.out] at dv;rw [a4,ax.out] at ef;rw [dk,ax.out] at kl;rw [dx,ax.out] at jg
  have dt:Hid (∀(A:Option Addr) (c B:Nat) (w':World),GAt w' w1.heap.size q5→Rd w' B 3 A 1 ([nd].flatMap Id.cells)→Calls Tryz.prog 28 #[.pointer (some ⟨gb,0,none⟩),.slice A 1 c] w' fun e ap=>∃A' c',e=.returned (.slice A' 3 c')∧Fr Non w' ap):=by
   intro A c B w' kp k6;have h:=Y5 w1.heap.size q5 B 1 c A [nd] w' Za kp rfl k6 (by decide) (by intro z hz;obtain rfl:=List.mem_singleton.1 hz;exact ah);rw [ax.out] at h;refine Calls.mono h ?_;rintro e ap ⟨A',c',lj,rfl,h1,_,_,h4⟩;have hl:lj.length=3:=by rw [h1.length_eq,kh]
   rw [hl];exact ⟨A',c',rfl,h4⟩
  have i8:=Lib.hid (Gg yd nd dh u6 hv.at ar);clear pl fy gs b5 d3 fk ja cg a4 dk dx a5 kh i7 ir fu ec k7 e0 em fc ak ax gg m0 m1 m2 m3;go_upto_region 12 with (go_at_call 35;(with_reducible refine (i8.out).mono ?_);rintro _ u7 ⟨rfl,f7⟩)
  have bm:Fr Non u6 (u7.alloc (.cells nd.V 38)):=f7.alloc _;have d5:=Blk.new u7 38 nd.V;obtain ⟨gn,dj⟩:=Aa u7.heap.size;rw [dj.out] at d5 ⊢;generalize u7.alloc (.cells nd.V 38)=u8 at*;have et:=bl.trans bm zr;have dm:=jw.fr bm;have j4:=jj.non bm;have ji:=il.non bm;have eo:=ip.fr bm zq;have hs:=iu.fr bm zq;have js:=h5.fr bm zq;clear i8 f7 bm dj bl jw jj il ip iu h5 k9 lf li hv ld;have d0:Hid (∀w',Fr Non u8 w'→Calls Tryz.prog 35 #[.agg yb.cells] w' fun e ap=>e=.returned (.agg nb.V)∧Fr Non w' ap):=fun w' h=>Gg yb nb a3.out w' (j4.non h).at a6;have c0:Hid (∀w',Fr Non u8 w'→Calls Tryz.prog 35 #[.agg yc.cells] w' fun e ap=>e=.returned (.agg nc.V)∧Fr Non w' ap):=fun w' h=>Gg yc nc a2.out w' (ji.non h).at a1;have jp:=Az (P:=Tryz.prog) gy 44 Tryz.underlying44 rfl (cs:=yb.cells) hi;have hu:=Az (P:=Tryz.prog) gz 44 Tryz.underlying44 rfl (cs:=yc.cells) hi;have iz:(fun w'=>w'.cell? ⟨gn,0,none⟩=some (.int .i64 nd.b)∧w'.cell? ⟨gn,1,none⟩=some (.int .i64 nd.s)∧w'.cell? ⟨gn,2,none⟩=some (.int .u64 (nd.u:Int))∧w'.cell? ⟨gx,0,none⟩=some (.int .i64 nx.b)∧w'.cell? ⟨gx,1,none⟩=some (.int .i64 nx.s)∧w'.cell? ⟨gx,2,none⟩=some (.int .u64 (nx.u:Int))∧Blk w' gy 44 yb.cells∧Blk w' gz 44 yc.cells) u8:=⟨d5.cell 0,d5.cell 1,d5.cell 2,eo.cell 0,eo.cell 1,eo.cell 2,hs,js⟩;have bb:Hid (∀a b,Fr Non a b→(fun w'=>w'.cell? ⟨gn,0,none⟩=some (.int .i64 nd.b)∧w'.cell? ⟨gn,1,none⟩=some (.int .i64 nd.s)∧w'.cell? ⟨gn,2,none⟩=some (.int .u64 (nd.u:Int))∧w'.cell? ⟨gx,0,none⟩=some (.int .i64 nx.b)∧w'.cell? ⟨gx,1,none⟩=some (.int .i64 nx.s)∧w'.cell? ⟨gx,2,none⟩=some (.int .u64 (nx.u:Int))∧Blk w' gy 44 yb.cells∧Blk w' gz 44 yc.cells) a→(fun w'=>w'.cell? ⟨gn,0,none⟩=some (.int .i64 nd.b)∧w'.cell? ⟨gn,1,none⟩=some (.int .i64 nd.s)∧w'.cell? ⟨gn,2,none⟩=some (.int .u64 (nd.u:Int))∧w'.cell? ⟨gx,0,none⟩=some (.int .i64 nx.b)∧w'.cell? ⟨gx,1,none⟩=some (.int .i64 nx.s)∧w'.cell? ⟨gx,2,none⟩=some (.int .u64 (nx.u:Int))∧Blk w' gy 44 yb.cells∧Blk w' gz 44 yc.cells) b):=fun a b f h=>⟨f.cell h.1 zq,f.cell h.2.1 zq,f.cell h.2.2.1 zq,f.cell h.2.2.2.1 zq,f.cell h.2.2.2.2.1 zq,f.cell h.2.2.2.2.2.1 zq,h.2.2.2.2.2.2.1.fr f zq,h.2.2.2.2.2.2.2.fr f zq⟩;clear d5 eo hs js j4 ji;refine wp_region_held_drew (S:=(fun w'=>w'.cell? ⟨gn,0,none⟩=some (.int .i64 nd.b)∧w'.cell? ⟨gn,1,none⟩=some (.int .i64 nd.s)∧w'.cell? ⟨gn,2,none⟩=some (.int .u64 (nd.u:Int))∧w'.cell? ⟨gx,0,none⟩=some (.int .i64 nx.b)∧w'.cell? ⟨gx,1,none⟩=some (.int .i64 nx.s)∧w'.cell? ⟨gx,2,none⟩=some (.int .u64 (nx.u:Int))∧Blk w' gy 44 yb.cells∧Blk w' gz 44 yc.cells)) (by kernel_rfl) (bb.out _ _ ((Fr.refl Non u8).drew) iz) (fun hHeld=> ?_);clear hHeld;obtain ⟨ue,g7⟩:=Aa u8.drew;have g2:Fr Non u8 ue:=by rw [← g7.out];exact (Fr.refl Non u8).drew
  have fi:=bb.out _ _ g2 iz;rw [g7.out];refine Bo (i:=0) (v:=?_) rfl (by kernel_rfl) (by kernel_rfl) (by kernel_rfl) (fun _ _ _ h=>h) (Or.inl ⟨by kernel_rfl,?_⟩) fi ?_;rotate_left
  focus (intro w' aa;have c7:=aa.2.2.2.2.2.2.1;have c8:=aa.2.2.2.2.2.2.2;(try dsimp only at aa c7 c8);go_simp;(try with_reducible rfl))
  simp only [List.set];refine Bo (i:=1) (v:=?_) rfl (by kernel_rfl) (by kernel_rfl) (by kernel_rfl) (fun _ _ _ h=>h) (Or.inl ⟨by kernel_rfl,?_⟩) fi ?_;rotate_left
  focus (intro w' aa;have c7:=aa.2.2.2.2.2.2.1;have c8:=aa.2.2.2.2.2.2.2;(try dsimp only at aa c7 c8);go_simp;(try with_reducible rfl))
  simp only [List.set];refine oG 2 (fun K hK=> ?_);go_simp;go_wp2_with (go_at_call 27;(with_reducible refine (ef.out _ (dm.fr g2)).mono ?_);rintro _ x1 ⟨rfl,e1⟩);have kr:=g2.trans e1 zr;have cy:=bb.out _ _ e1 fi;refine hK.out _ _ cy (fun hZ=> ?_);clear hZ hK K;try simp only [Ad,List.set]
  refine Bo (i:=3) (v:=?_) rfl (by kernel_rfl) (by kernel_rfl) (by kernel_rfl) (fun _ _ _ h=>h) (Or.inl ⟨by kernel_rfl,?_⟩) cy ?_;rotate_left
  focus (intro w' aa;have c7:=aa.2.2.2.2.2.2.1;have c8:=aa.2.2.2.2.2.2.2;(try dsimp only at aa c7 c8);go_simp;(try with_reducible rfl))
  simp only [List.set];refine Bo (i:=4) (v:=?_) rfl (by kernel_rfl) (by kernel_rfl) (by kernel_rfl) (fun _ _ _ h=>h) (Or.inl ⟨by kernel_rfl,?_⟩) cy ?_;rotate_left
  focus (intro w' aa;have c7:=aa.2.2.2.2.2.2.1;have c8:=aa.2.2.2.2.2.2.2;(try dsimp only at aa c7 c8);go_simp;(try with_reducible rfl))
  simp only [List.set];refine Bo (i:=5) (v:=?_) rfl (by kernel_rfl) (by kernel_rfl) (by kernel_rfl) (fun _ _ _ h=>h) (Or.inl ⟨by kernel_rfl,?_⟩) cy ?_;rotate_left
  focus (intro w' aa;have c7:=aa.2.2.2.2.2.2.1;have c8:=aa.2.2.2.2.2.2.2;(try dsimp only at aa c7 c8);go_simp;(try with_reducible rfl))
  simp only [List.set];refine Bo (i:=6) (v:=?_) rfl (by kernel_rfl) (by kernel_rfl) (by kernel_rfl) (fun _ _ _ h=>h) (Or.inl ⟨by kernel_rfl,?_⟩) cy ?_;rotate_left
  focus (intro w' aa;have c7:=aa.2.2.2.2.2.2.1;have c8:=aa.2.2.2.2.2.2.2;(try dsimp only at aa c7 c8);go_simp;(try with_reducible rfl))
  simp only [List.set];refine oG 7 (fun K hK=> ?_);go_simp;have af:=Rd.blk (n:=1) (size:=3) (l:=[nd].flatMap Id.cells) (Blk.new x1 38 nd.V) rfl;have e2:Fr Non x1 (x1.alloc (.cells nd.V 38)):=(Fr.refl Non _).alloc _;have kg:=kr.trans e2 zr;have hb:=bb.out _ _ e2 cy;refine hK.out _ _ hb (fun hZ=> ?_);clear hZ hK K;try simp only [Ad,List.set]
  refine oG 8 (fun K hK=> ?_);go_simp;go_wp2_with (go_at_call 28;(with_reducible refine (dt.out _ _ _ _ (dm.fr kg) af).mono ?_);rintro _ x3 ⟨A9,c9,rfl,e3⟩);have g4:=kg.trans e3 zr;have bg:=bb.out _ _ e3 hb;refine hK.out _ _ bg (fun hZ=> ?_);clear hZ hK K;try simp only [Ad,List.set]
  refine Bo (i:=9) (v:=?_) rfl (by kernel_rfl) (by kernel_rfl) (by kernel_rfl) (fun _ _ _ h=>h) (Or.inl ⟨by kernel_rfl,?_⟩) bg ?_;rotate_left
  focus (intro w' aa;have c7:=aa.2.2.2.2.2.2.1;have c8:=aa.2.2.2.2.2.2.2;(try dsimp only at aa c7 c8);go_simp;(try with_reducible rfl))
  simp only [List.set];refine Bo (i:=10) (v:=?_) rfl (by kernel_rfl) (by kernel_rfl) (by kernel_rfl) (fun _ _ _ h=>h) (Or.inl ⟨by kernel_rfl,?_⟩) bg ?_;rotate_left
  focus (intro w' aa;have c7:=aa.2.2.2.2.2.2.1;have c8:=aa.2.2.2.2.2.2.2;(try dsimp only at aa c7 c8);go_simp;(try with_reducible rfl))
  simp only [List.set];refine Bo (i:=11) (v:=?_) rfl (by kernel_rfl) (by kernel_rfl) (by kernel_rfl) (fun _ _ _ h=>h) (Or.inl ⟨by kernel_rfl,?_⟩) bg ?_;rotate_left
  focus (intro w' aa;have c7:=aa.2.2.2.2.2.2.1;have c8:=aa.2.2.2.2.2.2.2;(try dsimp only at aa c7 c8);go_simp;(try with_reducible rfl))
  simp only [List.set];refine Bo (i:=12) (v:=?_) rfl (by kernel_rfl) (by kernel_rfl) (by kernel_rfl) (fun _ _ _ h=>h) (Or.inl ⟨by kernel_rfl,?_⟩) bg ?_;rotate_left
  focus (intro w' aa;have c7:=aa.2.2.2.2.2.2.1;have c8:=aa.2.2.2.2.2.2.2;(try dsimp only at aa c7 c8);go_simp;(try with_reducible rfl))
  simp only [List.set];refine Bo (i:=13) (v:=?_) rfl (by kernel_rfl) (by kernel_rfl) (by kernel_rfl) (fun _ _ _ h=>h) (Or.inl ⟨by kernel_rfl,?_⟩) bg ?_;rotate_left
  focus (intro w' aa;have c7:=aa.2.2.2.2.2.2.1;have c8:=aa.2.2.2.2.2.2.2;(try dsimp only at aa c7 c8);go_simp;(try with_reducible rfl))
  simp only [List.set];refine Bo (i:=14) (v:=?_) rfl (by kernel_rfl) (by kernel_rfl) (by kernel_rfl) (fun _ _ _ h=>h) (Or.inl ⟨by kernel_rfl,?_⟩) bg ?_;rotate_left
  focus (intro w' aa;have c7:=aa.2.2.2.2.2.2.1;have c8:=aa.2.2.2.2.2.2.2;(try dsimp only at aa c7 c8);go_simp;(try with_reducible rfl))
  simp only [List.set];refine Bo (i:=15) (v:=?_) rfl (by kernel_rfl) (by kernel_rfl) (by kernel_rfl) (fun _ _ _ h=>h) (Or.inl ⟨by kernel_rfl,?_⟩) bg ?_;rotate_left
  focus (intro w' aa;have c7:=aa.2.2.2.2.2.2.1;have c8:=aa.2.2.2.2.2.2.2;(try dsimp only at aa c7 c8);go_simp;(try with_reducible rfl))
  simp only [List.set];refine oG 16 (fun K hK=> ?_);go_simp;go_wp2_with (go_at_call 29;(with_reducible refine (kl.out _ (dm.fr g4)).mono ?_);rintro _ x4 ⟨rfl,e4⟩);have jb:=g4.trans e4 zr;have cl:=bb.out _ _ e4 bg;refine hK.out _ _ cl (fun hZ=> ?_);clear hZ hK K;try simp only [Ad,List.set]
  refine Bo (i:=17) (v:=?_) rfl (by kernel_rfl) (by kernel_rfl) (by kernel_rfl) (fun _ _ _ h=>h) (Or.inl ⟨by kernel_rfl,?_⟩) cl ?_;rotate_left
  focus (intro w' aa;have c7:=aa.2.2.2.2.2.2.1;have c8:=aa.2.2.2.2.2.2.2;(try dsimp only at aa c7 c8);go_simp;(try with_reducible rfl))
  simp only [List.set];refine Bo (i:=18) (v:=?_) rfl (by kernel_rfl) (by kernel_rfl) (by kernel_rfl) (fun _ _ _ h=>h) (Or.inl ⟨by kernel_rfl,?_⟩) cl ?_;rotate_left
  focus (intro w' aa;have c7:=aa.2.2.2.2.2.2.1;have c8:=aa.2.2.2.2.2.2.2;(try dsimp only at aa c7 c8);go_simp;(try with_reducible rfl))
  simp only [List.set];refine Bo (i:=19) (v:=?_) rfl (by kernel_rfl) (by kernel_rfl) (by kernel_rfl) (fun _ _ _ h=>h) (Or.inl ⟨by kernel_rfl,?_⟩) cl ?_;rotate_left
  focus (intro w' aa;have c7:=aa.2.2.2.2.2.2.1;have c8:=aa.2.2.2.2.2.2.2;(try dsimp only at aa c7 c8);go_simp;(try with_reducible rfl))
  simp only [List.set];refine Bo (i:=20) (v:=?_) rfl (by kernel_rfl) (by kernel_rfl) (by kernel_rfl) (fun _ _ _ h=>h) (Or.inl ⟨by kernel_rfl,?_⟩) cl ?_;rotate_left
  focus (intro w' aa;have c7:=aa.2.2.2.2.2.2.1;have c8:=aa.2.2.2.2.2.2.2;(try dsimp only at aa c7 c8);go_simp;(try with_reducible rfl))
  simp only [List.set];refine Bo (i:=22) (v:=?_) rfl (by kernel_rfl) (by kernel_rfl) (by kernel_rfl) (fun _ _ _ h=>h) (Or.inl ⟨by kernel_rfl,?_⟩) cl ?_;rotate_left
  focus (intro w' aa;have c7:=aa.2.2.2.2.2.2.1;have c8:=aa.2.2.2.2.2.2.2;(try dsimp only at aa c7 c8);go_simp;(try with_reducible rfl))
  simp only [List.set];refine oG 21 (fun K hK=> ?_);go_simp;go_wp2_with (go_at_call 35;(with_reducible refine (d0.out _ jb).mono ?_);rintro _ x5 ⟨rfl,e5⟩);have ig:=jb.trans e5 zr;have jo:=bb.out _ _ e5 cl;refine hK.out _ _ jo (fun hZ=> ?_);clear hZ hK K;try simp only [Ad,List.set]
  refine oG 23 (fun K hK=> ?_);go_simp;go_wp2_with (go_at_call 35;(with_reducible refine (c0.out _ ig).mono ?_);rintro _ x6 ⟨rfl,e6⟩);have hh:=ig.trans e6 zr;have jl:=bb.out _ _ e6 jo;refine hK.out _ _ jl (fun hZ=> ?_);clear hZ hK K;try simp only [Ad,List.set]
  refine oG 24 (fun K hK=> ?_);go_simp;go_wp2_with (go_at_call 29;(with_reducible refine (jg.out _ (dm.fr hh)).mono ?_);rintro _ x7 ⟨rfl,e7⟩);have ix:=hh.trans e7 zr;have ba:=bb.out _ _ e7 jl;refine hK.out _ _ ba (fun hZ=> ?_);clear hZ hK K;try simp only [Ad,List.set]
  refine Bo (i:=25) (v:=?_) rfl (by kernel_rfl) (by kernel_rfl) (by kernel_rfl) (fun _ _ _ h=>h) (Or.inl ⟨by kernel_rfl,?_⟩) ba ?_;rotate_left
  focus (intro w' aa;have c7:=aa.2.2.2.2.2.2.1;have c8:=aa.2.2.2.2.2.2.2;(try dsimp only at aa c7 c8);go_simp;(try with_reducible rfl))
  simp only [List.set];refine Bo (i:=26) (v:=?_) rfl (by kernel_rfl) (by kernel_rfl) (by kernel_rfl) (fun _ _ _ h=>h) (Or.inl ⟨by kernel_rfl,?_⟩) ba ?_;rotate_left
  focus (intro w' aa;have c7:=aa.2.2.2.2.2.2.1;have c8:=aa.2.2.2.2.2.2.2;(try dsimp only at aa c7 c8);go_simp;(try with_reducible rfl))
  simp only [List.set];refine Bo (i:=27) (v:=?_) rfl (by kernel_rfl) (by kernel_rfl) (by kernel_rfl) (fun _ _ _ h=>h) (Or.inl ⟨by kernel_rfl,?_⟩) ba ?_;rotate_left
  focus (intro w' aa;have c7:=aa.2.2.2.2.2.2.1;have c8:=aa.2.2.2.2.2.2.2;(try dsimp only at aa c7 c8);go_simp;(try with_reducible rfl))
  simp only [List.set];refine Bo (i:=28) (v:=?_) rfl (by kernel_rfl) (by kernel_rfl) (by kernel_rfl) (fun _ _ _ h=>h) (Or.inl ⟨by kernel_rfl,?_⟩) ba ?_;rotate_left
  focus (intro w' aa;have c7:=aa.2.2.2.2.2.2.1;have c8:=aa.2.2.2.2.2.2.2;(try dsimp only at aa c7 c8);go_simp;(try with_reducible rfl))
  simp only [List.set];refine oG 29 (fun K hK=> ?_);go_simp;go_wp2_with (go_at_call 18;(with_reducible refine (dv.out _ (dm.fr ix)).mono ?_);rintro _ _ ⟨rfl,rfl⟩);refine hK.out _ _ ba (fun hZ=> ?_);clear hZ hK K;try simp only [Ad,List.set]
  refine Bo (i:=30) (v:=?_) rfl (by kernel_rfl) (by kernel_rfl) (by kernel_rfl) (fun _ _ _ h=>h) (Or.inl ⟨by kernel_rfl,?_⟩) ba ?_;rotate_left
  focus (intro w' aa;have c7:=aa.2.2.2.2.2.2.1;have c8:=aa.2.2.2.2.2.2.2;(try dsimp only at aa c7 c8);go_simp;(try with_reducible rfl))
  simp only [List.set];refine Bo (i:=31) (v:=?_) rfl (by kernel_rfl) (by kernel_rfl) (by kernel_rfl) (fun _ _ _ h=>h) (Or.inl ⟨by kernel_rfl,?_⟩) ba ?_;rotate_left
  focus (intro w' aa;have c7:=aa.2.2.2.2.2.2.1;have c8:=aa.2.2.2.2.2.2.2;(try dsimp only at aa c7 c8);go_simp;(try with_reducible rfl))
  simp only [List.set];refine Bo (i:=32) (v:=?_) rfl (by kernel_rfl) (by kernel_rfl) (by kernel_rfl) (fun _ _ _ h=>h) (Or.inl ⟨by kernel_rfl,?_⟩) ba ?_;rotate_left
  focus (intro w' aa;have c7:=aa.2.2.2.2.2.2.1;have c8:=aa.2.2.2.2.2.2.2;(try dsimp only at aa c7 c8);go_simp;(try with_reducible rfl))
  simp only [List.set];refine oD ?_;go_simp;have bw:=Lib.hid (ff.out _ (et.trans ix zr));go_wp2_with (fail);exact bw.out
end Oq
end
end Go.Proofs.YtafonabghnogaaaGreatDoor
