/-
  Contracts of the functions that the claim's statement reaches, walked one by one (part 16).
  Conditions: as each theorem says.
-/
import Derived.Test.YtihfebhfgliojaaGreatDoorGrW15
set_option maxRecDepth 100000
set_option maxHeartbeats 16000000
open Bool renaming or_false->Ao4,not_false->Ao8,not_true->Ao9
open Int renaming tmod_eq_emod_of_nonneg->An9,le_refl->Ao0,tdiv_eq_ediv_of_nonneg->Ap2
open List renaming not_mem_nil->An4,length_map->An8,pairwise_singleton->Ao1,any_cons->Ao2,any_nil->Ao3,foldl_cons->Ao5,foldl_nil->Ao6,getElem?_map->Ap0,length_append->Ap1,getElem?_toArray->Ap3,length_drop->Ap4,findIdx?_cons->Ap5,any_eq_false->Ap6
open Nat renaming le_trans->An3,zero_le->An5,le_refl->An7,lt_trans->Ao7
open Go.World renaming size_alloc->An6
open Go.Proofs.Tryz
open Go.Proofs.Tryz renaming prog->zp
open Go.Lib renaming hid->lh
open List renaming set->zl
open Go.Ending renaming returned->ze
namespace Go.Proofs
open Go.Shelf Go.RowKit Go.Lib Go.Sort
def Tryz.sortCards_ren:Go.Shelf.Ren:=⟨fun|6=>78|15=>134|14=>133|28=>196|29=>197|20=>188|21=>189|22=>190|23=>191|24=>192|25=>193|26=>194|27=>195|46=>229|47=>230|48=>231|49=>232|50=>233|57=>245|n=>n,fun|22=>26|24=>104|25=>132|3=>3|39=>179|0=>0|53=>233|55=>23|4=>4|46=>227|45=>226|50=>115|5=>5|9=>9|66=>252|70=>255|76=>267|77=>268|n=>n,fun|n=>n⟩
theorem Tryz.sortCards:Go.Proofs.SlLaysF0.n6 zp Tryz.sortCards_ren:={
  mixed:=by kernel_rfl
  f6:=⟨Tryz.f78.name,by decide,Tryz.func78.trans (congrArg some (by kernel_rfl))⟩
  f14:=⟨Tryz.f133.name,by decide,Tryz.func133.trans (congrArg some (by kernel_rfl))⟩
  f15:=Tryz.func134.trans (congrArg some (by kernel_rfl))
  f20:=⟨Tryz.f188.name,by decide,Tryz.func188.trans (congrArg some (by kernel_rfl))⟩
  f21:=⟨Tryz.f189.name,by decide,Tryz.func189.trans (congrArg some (by kernel_rfl))⟩
  f22:=⟨Tryz.f190.name,by decide,Tryz.func190.trans (congrArg some (by kernel_rfl))⟩
  f23:=⟨Tryz.f191.name,by decide,Tryz.func191.trans (congrArg some (by kernel_rfl))⟩
  f24:=⟨Tryz.f192.name,by decide,Tryz.func192.trans (congrArg some (by kernel_rfl))⟩
  f25:=⟨Tryz.f193.name,by decide,Tryz.func193.trans (congrArg some (by kernel_rfl))⟩
  f26:=⟨Tryz.f194.name,by decide,Tryz.func194.trans (congrArg some (by kernel_rfl))⟩
  f27:=⟨Tryz.f195.name,by decide,Tryz.func195.trans (congrArg some (by kernel_rfl))⟩
  f28:=Tryz.func196.trans (congrArg some (by kernel_rfl))
  f29:=Tryz.func197.trans (congrArg some (by kernel_rfl))
  f46:=⟨Tryz.f229.name,by decide,Tryz.func229.trans (congrArg some (by kernel_rfl))⟩
  f47:=Tryz.func230.trans (congrArg some (by kernel_rfl))
  f48:=Tryz.func231.trans (congrArg some (by kernel_rfl))
  f49:=⟨Tryz.f232.name,by decide,Tryz.func232.trans (congrArg some (by kernel_rfl))⟩
  f50:=⟨Tryz.f233.name,by decide,Tryz.func233.trans (congrArg some (by kernel_rfl))⟩
  f57:=⟨Tryz.f245.name,by decide,Tryz.func245.trans (congrArg some (by kernel_rfl))⟩
  t0:=underlying0
  a0:=isAgg0
  z0:=sizeOf0
  v0:=zeroValue0
  t3:=underlying3
  a3:=isAgg3
  z3:=sizeOf3
  v3:=zeroValue3
  t4:=underlying4
  a4:=isAgg4
  z4:=sizeOf4
  v4:=zeroValue4
  t5:=underlying5
  a5:=isAgg5
  z5:=sizeOf5
  v5:=zeroValue5
  t9:=underlying9
  a9:=isAgg9
  z9:=sizeOf9
  v9:=zeroValue9
  t22:=underlying26
  a22:=isAgg26
  z22:=sizeOf26
  v22:=zeroValue26
  t25:=underlying132
  a25:=isAgg132
  z25:=sizeOf132
  v25:=zeroValue132
  t39:=underlying179
  a39:=isAgg179
  z39:=sizeOf179
  v39:=zeroValue179
  t45:=underlying226
  a45:=isAgg226
  z45:=sizeOf226
  v45:=zeroValue226
  t46:=underlying227
  a46:=isAgg227
  z46:=sizeOf227
  v46:=zeroValue227
  t50:=underlying115
  a50:=isAgg115
  z50:=sizeOf115
  v50:=zeroValue115
  t53:=underlying233
  a53:=isAgg233
  z53:=sizeOf233
  v53:=zeroValue233
  t55:=underlying23
  a55:=isAgg23
  z55:=sizeOf23
  v55:=zeroValue23
  t66:=underlying252
  a66:=isAgg252
  z66:=sizeOf252
  v66:=zeroValue252
  t70:=underlying255
  a70:=isAgg255
  z70:=sizeOf255
  v70:=zeroValue255
  t76:=underlying267
  a76:=isAgg267
  z76:=sizeOf267
  v76:=zeroValue267
  t77:=underlying268
  a77:=isAgg268
  z77:=sizeOf268
  v77:=zeroValue268}
end Go.Proofs
namespace Go.Proofs.YtihfebhfgliojaaGreatDoor
open Go.RowKit
attribute [local go_sem ↓] Go.wp_at_zero Go.wp_at_succ
section
open Go.RowKit Go.Sort Go.Shelf
namespace Oq
structure CdR where
 c:Cd
 lo:0<=c.d
 hi:c.d<=1000
instance:Inhabited CdR:=⟨⟨⟨0,0,0,0,0⟩,Ao0 _,by decide⟩⟩
def CdR.cells (x:CdR):List Value:=x.c.cells
def Ha (x y:CdR):Int:=x.c.d-y.c.d
theorem Jd (x y:CdR):ltOf Ha x y=decide (x.c.d<y.c.d):=by
 unfold ltOf Ha;rw [Bool.eq_iff_iff,decide_eq_true_iff,decide_eq_true_iff];omega
theorem Aj5:SWO (ltOf Ha) where
 irrefl x:=by rw [Jd];simp
 trans x y z h1 h2:=by
  rw [Jd,decide_eq_true_iff] at*;omega
 ntrans x y z h1 h2:=by
  rw [Jd,decide_eq_false_iff_not] at*;omega
theorem Aj6 (x y:Cd) (w:World) (hx0:0<=x.d) (hx1:x.d<=1000) (hy0:0<=y.d) (hy1:y.d<=1000):
  Calls zp 79 #[.agg #[.int .i64 x.d,.int .i64 x.m,.int .u64 (x.l:Int),.int .u64 (x.k:Int),.int .u64 (x.s:Int)],.agg #[.int .i64 y.d,.int .i64 y.m,.int .u64 (y.l:Int),.int .u64 (y.k:Int),.int .u64 (y.s:Int)]] w fun e w'=>e=.returned (.int .i64 (x.d-y.d))/\GrowOf w w':=by
 have hf:=((GrowOf.refl w).alloc (.cells #[.int .i64 x.d,.int .i64 x.m,.int .u64 (x.l:Int),.int .u64 (x.k:Int),.int .u64 (x.s:Int)] 104)).alloc (.cells #[.int .i64 y.d,.int .i64 y.m,.int .u64 (y.l:Int),.int .u64 (y.k:Int),.int .u64 (y.s:Int)] 104);go_enter func79,ntmps79;go_wp2
 go_ret
 exact ⟨rfl,hf⟩
theorem Aj7 (blk off size:Nat) (w:World):CmpLays zp 79 #[] CdR.cells 5 Ha blk off size w:=
 fun _ _ _ _ x y=>Aj6 x.c y.c _ x.lo x.hi y.lo y.hi
theorem Aj8 (base:Nat) (A:Option Addr) (c:Nat) (xs:List CdR) (w:World) (hown:Own w base 104 5 A xs.length c (xs.flatMap CdR.cells)) (hlen:xs.length<=1000000):
  Calls zp 78 #[.slice A xs.length c,.func (.func 79) #[] #[]] w fun e w'=>e=.returned (.tuple #[])/\
   ∃ys:List CdR,ys.Perm xs/\ys.Pairwise (fun x y=>x.c.d<=y.c.d)/\Own w' base 104 5 A ys.length c (ys.flatMap CdR.cells)/\Fr (fun k=>Ab A=some k) w w':=by
 by_cases h0:xs.length=0
 ·
  have hx:xs=[]:=List.eq_nil_of_length_eq_zero h0;subst hx;have hcon:=AnyF.slices_SortFunc_none Tryz.sortCards A c (.func (.func 79) #[] #[]) w;refine Calls.mono hcon ?_;rintro e w' ⟨rfl,rfl⟩;exact ⟨rfl,[],List.Perm.refl _,List.Pairwise.nil,hown,Fr.refl _ _⟩
 ·
  obtain ⟨g,rfl⟩:∃g,A=some ⟨g,0,none⟩:=by
   rcases hown.2 with ⟨_,hn⟩|⟨g,cap,cur,hv,_⟩
   · exact absurd hn h0
   ·
    injection hv with hA _ _
    exact ⟨g,hA⟩
  have hrow:=hown.row g rfl;have eg:∀args w,(callFunc 79 args).run zp w=.ok (.enter 79 args) w:=enters_of func79 (by kernel_rfl) rfl;have hcon:=AnyQ.slices_SortFunc Tryz.sortCards 5 isAgg104 sizeOf104 CdR.cells (fun _=>rfl) (fun x v hv=>by simp [CdR.cells,Cd.cells] at hv;rcases hv with rfl|rfl|rfl|rfl|rfl<;>rfl) Ha Aj5 79 #[] g 0 c xs.toArray w eg (Aj7 g 0 _ w) (Aj2 (enc:=CdR.cells) (fun _=>rfl) (by decide) hown) hrow.2 (by simp;omega)
  refine Calls.mono hcon ?_;rintro e w' ⟨rfl,d',n,os,hp,hs,rfl⟩;have hds:d'.size=xs.length:=by rw [hp.1];simp
  have hperm:d'.toList.Perm xs:=by
   have h1:=hp.2.2
   have e1:d'.extract 0 xs.toArray.size=d':=by
    rw [show xs.toArray.size=d'.size from hp.1.symm];simp
   have e2:xs.toArray.extract 0 xs.toArray.size=xs.toArray:=by simp
   rw [e1,e2] at h1;simpa using h1
  refine ⟨rfl,d'.toList,hperm,?_,?_,?_⟩
  ·
   rw [List.pairwise_iff_getElem];intro i j hi hj hij;have h1:=hs i j (An5 _) hij (by rw [<- hp.1];simpa using hj);rw [Jd] at h1;have hi':i<d'.size:=by simpa using hi
   have hj':j<d'.size:=by simpa using hj
   rw [getElem!_pos d' i hi',getElem!_pos d' j hj',decide_eq_false_iff_not] at h1;have h2:d'.toList[i]=d'[i]:=by simp
   have h3:d'.toList[j]=d'[j]:=by simp
   rw [h2,h3];omega
  ·
   have h1:=Aj3 (enc:=CdR.cells) (sz:=5) (fun _=>rfl) (by decide) (ys:=d'.toList) n os hown (by omega) (by simpa using hds);simpa using h1
  · exact (Rt w g n _ os).mono (fun k hk e=>by have e':k=g:=e;subst e';rfl)
theorem Aj9 {xs ys:List CdR} (hp:ys.Perm xs) (hs:ys.Pairwise (fun x y=>x.c.d<=y.c.d)) (hx:xs.Pairwise (fun x y=>x.c.d<y.c.d)):ys=xs:=by
 induction xs generalizing ys with
 |nil=>exact List.Perm.eq_nil hp
 |cons x r ih=>
  cases ys with
  |nil=>exact absurd hp.length_eq (by simp)
  |cons y q=>
   rw [List.pairwise_cons] at hs hx
   have hxy:y=x:=by
    have hy:y∈x::r:=hp.subset (by simp)
    rcases List.mem_cons.1 hy with h|h
    · exact h
    ·
     have h1:=hx.1 y h;have hx':x∈y::q:=hp.symm.subset (by simp)
     rcases List.mem_cons.1 hx' with h2|h2
     · exact h2.symm
     ·
      have h3:=hs.1 x h2;omega
   subst hxy;rw [ih (List.perm_cons y|>.1 hp) hs.2 hx.2]
end Oq
end
namespace Oq
def Je (cards:List Cd) (w:World) (e:Ending) (w':World):Prop:=
 ∃g:Gph,e=.returned (.pointer (some ⟨g.gb,0,none⟩))/\GAt w' w.heap.size g/\g.nodes=[]/\g.cards=cards/\Fr Non w w'
theorem Lx (l:List CdR):l.flatMap CdR.cells=(l.map CdR.c).flatMap Cd.cells:=by
 rw [List.flatMap_map];rfl
theorem Ak0 (B c:Nat) (A:Option Addr) (l:List CdR) (w:World) (hr:Rd w B 5 A l.length (l.flatMap CdR.cells)) (hs:l.Pairwise (fun x y=>x.c.d<y.c.d)) (hlen:l.length<=1000000) (hpos:0<w.heap.size) (hcs:∀x∈l,x.c.s<18446744073709551616):
  Calls zp 24 #[.slice A l.length c] w (Je (l.map CdR.c) w):=by
 have kc:=lh (Xu B l.length c A _ w hr (by rw [Lx];exact Aj4 _) hlen)
 have ac:Hid (∀(A1:Option Addr) (c1:Nat) (w1 w4:World),Fr Non w w1->Own w4 w.heap.size 104 5 A1 l.length c1 (l.flatMap CdR.cells)->
   Fr (fun k=>Ab A1=some k) ((w1.alloc (.map #[] 0)).alloc (.cells #[.slice A1 l.length c1,.map (some w1.heap.size),.slice none 0 0] 119)) w4->(∀k,Ab A1=some k->w.heap.size<=k/\k<w1.heap.size)->
   Je (l.map CdR.c) w (.returned (.pointer (some ⟨w1.heap.size+1,0,none⟩))) w4):=by
  intro A1 c1 w1 w4 f1 o4 f4 aa;have ai:¬Ab A1=some w1.heap.size:=fun e=>by have:=(aa _ e).2;omega
  have ah:¬Ab A1=some (w1.heap.size+1):=fun e=>by have:=(aa _ e).2;omega
  have bg:=Blk.new (w1.alloc (.map #[] 0)) 119 #[.slice A1 l.length c1,.map (some w1.heap.size),.slice none 0 0];rw [An6] at bg;have hm:=((MapAt.made w1).fr ((Fr.refl Non _).alloc (.cells #[.slice A1 l.length c1,.map (some w1.heap.size),.slice none 0 0] 119)) zq).fr f4 ai;have sz:=f1.size;refine ⟨⟨w1.heap.size+1,w1.heap.size,0,A1,c1,l.map CdR.c,none,0,[]⟩,rfl,?_,rfl,rfl,?_⟩
  ·
   refine ⟨?_,hpos,by show _<=w1.heap.size+1;omega,sz,?_,Own.nil _ _ _ _,An5 _,An5 _,(fun n hn=>absurd hn (An4)),?_,?_,hm,fun n hn=>absurd hn (An4)⟩
   ·
    have h1:=bg.fr f4 ah;show Blk w4 (w1.heap.size+1) 119 #[.slice A1 (l.map CdR.c).length c1,.map (some w1.heap.size),.slice none 0 0];rw [An8];exact h1
   ·
    show Own w4 w.heap.size 104 5 A1 (l.map CdR.c).length c1 ((l.map CdR.c).flatMap Cd.cells);rw [An8,<- Lx];exact o4
   ·
    show (l.map CdR.c).length<=1000000;rw [An8];exact hlen
   ·
    intro c hc;obtain ⟨x,hx,rfl⟩:=List.mem_map.1 hc;exact hcs x hx
  · exact ((f1.alloc _).alloc _).trans f4 (fun k hk e=>absurd hk (by have:=(aa k e).1;omega))
 generalize Je (l.map CdR.c) w=POST at*;have ks:=lh (fun (A1:Option Addr) (c1:Nat) (w3:World) (o:Own w3 w.heap.size 104 5 A1 l.length c1 (l.flatMap CdR.cells))=>Aj8 w.heap.size A1 c1 l w3 o hlen);have ab:=lh (fun (ys:List CdR) (hp:ys.Perm l) (hq:ys.Pairwise (fun x y=>x.c.d<=y.c.d))=>Aj9 hp hq hs);clear hr hs hcs;go_enter func24,ntmps24;go_wp2_with fail;refine (kc.out).mono ?_;rintro _ w1 ⟨A1,c1,rfl,o1,f1⟩;have aa:=o1.row;have bg:=Blk.new (w1.alloc (.map #[] 0)) 119 #[.slice A1 l.length c1,.map (some w1.heap.size),.slice none 0 0];rw [An6] at bg;have o3:=(o1.alloc (.map #[] 0)).alloc (.cells #[.slice A1 l.length c1,.map (some w1.heap.size),.slice none 0 0] 119);have g0:cS ((w1.alloc (.map #[] 0)).alloc (.cells #[.slice A1 l.length c1,.map (some w1.heap.size),.slice none 0 0] 119)) (w1.heap.size+1) 0 A1 l.length c1:=bg.cell 0;have kq:=lh (ks.out A1 c1 _ o3);have hp:=lh (fun (w4:World) o f=>ac.out A1 c1 w1 w4 f1 o f aa);have af:=lh f1;clear kc ks ac o1 o3 aa f1 bg;have aj:=@run_makeMap zp;go_wp2_with fail;refine (kq.out).mono ?_;rintro _ w4 ⟨rfl,ys,ad,ae,o4,f4⟩;obtain rfl:=ab.out ys ad ae;have ag:=lh (hp.out w4 o4 f4);clear kq hp ab o4 f4 ad ae af g0;go_wp2_with fail;exact ag.out
theorem Ak1 (n:Nat):Sg.pub n<18446744073709551616:=Ao7 (Fd.pow_lt _ _) (by decide)
theorem cd_d (d m:Int) (l k s:Nat):(Cd.mk d m l k s).d=d:=rfl
theorem cd_s' (d m:Int) (l k s:Nat):(Cd.mk d m l k s).s=s:=rfl
theorem Gg (k:Nat) (m:Int):(Bs k m).d=(k:Int)+1:=cd_d _ _ _ _ _
theorem Ly (k:Nat) (m:Int):(Bs k m).s=Sg.pub (sec Bd (k+1)):=cd_s' _ _ _ _ _
theorem Lz:∀(l:List Int) (i:Nat),i+l.length<=1000->∃xs:List CdR,xs.map CdR.c=Be i l/\xs.Pairwise (fun x y=>x.c.d<y.c.d)/\(∀x∈xs,(i:Int)<x.c.d)/\∀x∈xs,x.c.s<18446744073709551616
 |[],i,_=>⟨[],rfl,List.Pairwise.nil,by simp,by simp⟩
 |m::r,i,h=>by
  have h':i+1+r.length<=1000:=by rw [List.length_cons] at h;omega
  have hi:i+1<=1000:=by omega
  obtain ⟨xs,h1,h2,h3,h4⟩:=Lz r (i+1) h';refine ⟨⟨Bs i m,by rw [Gg];omega,by rw [Gg];omega⟩::xs,?_,?_,?_,?_⟩
  ·
   show Bs i m::xs.map CdR.c=Bs i m::Be (i+1) r;rw [h1]
  ·
   refine List.pairwise_cons.2 ⟨fun x hx=> ?_,h2⟩;show (Bs i m).d<x.c.d;rw [Gg];have:=h3 x hx;omega
  ·
   intro x hx
   rcases List.mem_cons.1 hx with rfl|hx
   ·
    show (i:Int)<(Bs i m).d;rw [Gg];omega
   ·
    have:=h3 x hx;omega
  ·
   intro x hx
   rcases List.mem_cons.1 hx with rfl|hx
   ·
    show (Bs i m).s<_;rw [Ly];exact Ak1 _
   · exact h4 x hx
theorem R3 (B n c:Nat) (A:Option Addr) (l:List Int) (w:World) (hn:Hid (l.length=n)) (hnm:n<=1000) (hr:Rd w B 5 A n ((Be 0 l).flatMap Cd.cells)) (hpos:0<w.heap.size):
  Calls zp 24 #[.slice A n c] w (Je (Be 0 l) w):=by
 obtain ⟨xs,h1,h2,_,h4⟩:=Lz l 0 (by rw [hn.out];omega)
 have hl:xs.length=n:=by
  have:=congrArg List.length h1;rw [An8,Oo,hn.out] at this;exact this
 rw [<- h1] at hr ⊢;rw [<- hl] at hr ⊢;rw [<- Lx] at hr;exact Ak0 B c A xs w hr h2 (by omega) hpos h4
theorem GAt.ge {w:World} {base:Nat} {g:Gph} (h:GAt w base g) {k:Nat} (hk:g.own k):base<=k:=by
 rcases hk with e|e|e
 · rw [e];exact h.gbase
 · rw [e];exact h.mbase
 · exact (h.own.row k e).1
theorem KindsAt.own {w w':World} {base:Nat} {g:Gph} (h:KindsAt w) (hg:GAt w base g) (hf:Fr g.own w w'):KindsAt w':=fun k hk=>hf.cell (h k hk) (fun e=>by have h1:=hg.ge e;have h2:=hg.pos;have h3:base<=0:=h1;omega)
theorem Blk.keepG {w w':World} {base b:Nat} {g:Gph} {t:TypeId} {cs:Array Value} (h:Blk w b t cs) (hg:GAt w base g) (hf:Fr g.own w w') (ht:¬Gty t):Blk w' b t cs:=h.fr hf (fun e=>ht (hg.types _ _ _ _ h e))
theorem OpL.own.keepG {w w':World} {base bx:Nat} {g:Gph} {x:OpL} (h:x.own w bx) (hg:GAt w base g) (hf:Fr g.own w w'):x.own w' bx:=
 h.keepP hf hg.types (by unfold Gty;decide) (by unfold Gty;decide) (by unfold Gty;decide) (by unfold Gty;decide) (by unfold Gty;decide) (by unfold Gty;decide) (by unfold Gty;decide)
def Gu (base:Nat) (g:Gph) (l:List Pn) (w:World) (e:Ending) (w':World):Prop:=
 e=.returned (.int .i64 0)/\∃g':Gph,GAt w' base g'/\g'.gb=g.gb/\g'.cards=g.cards/\g'.pns=l/\Fr g.own w w'
theorem Gh {base:Nat} {g:Gph} {x:OpL} {w:World} {l:List Pn} {p:Pn} (hl:g.pns=l) (hg:GAt w base g) (hat:x.at w w.heap.size) (hok:x.op.ok) (hkn:KindsAt w) (he:Ah g.cards l x.op=0) (hp:Au l x.op=p):
  Calls zp 17 #[.pointer (some ⟨g.gb,0,none⟩),.agg x.cells] w (Gu base g (l++[p]) w):=by
 subst hl;refine (Hw base g x w hg hat hok hkn).mono ?_;rintro e w' ⟨rfl,h⟩
 rcases h with ⟨h0,_⟩|⟨_,g',h1,h2,_,h4,h5,h6,_⟩
 · exact absurd he h0
 ·
  refine ⟨by rw [he],g',h1,h2,h4,?_,h6⟩;rw [h5,hp]
theorem Ma {base:Nat} {g:Gph} {x:OpL} {w:World} {l:List Pn} {err:Int} (hl:g.pns=l) (hg:GAt w base g) (hat:x.at w w.heap.size) (hok:x.op.ok) (hkn:KindsAt w) (he:Ah g.cards l x.op=err) (h0:err≠0):
  Calls zp 17 #[.pointer (some ⟨g.gb,0,none⟩),.agg x.cells] w fun e w'=>e=.returned (.int .i64 err)/\Fr Non w w':=by
 subst hl;subst he;refine (Hw base g x w hg hat hok hkn).mono ?_;rintro e w' ⟨rfl,h⟩
 rcases h with ⟨_,hf⟩|⟨h1,_⟩
 · exact ⟨rfl,hf⟩
 · exact absurd h1 h0
theorem Ff {o:Op} (h:o.ok):(sgn o).ok:=by
 have h1:Sg.r (sec Bd o.by_.toNat) o.bare<18446744073709551616:=Ao7 (Sg.r_lt _ _) (by decide);have h2:Sg.s (sec Bd o.by_.toNat) o.bare<18446744073709551616:=Ao7 (Sg.s_lt _ _) (by decide);unfold sgn;generalize Sg.r (sec Bd o.by_.toNat) o.bare=R at*;generalize Sg.s (sec Bd o.by_.toNat) o.bare=S at*;exact {h with r:=h1,s:=h2}
end Oq
namespace Oq
attribute [local go_sem] Ao8 Ao9
attribute [local go_sem ↓] Et Cg Ej
theorem Ak2 {f:Operand->Value} {d:Option Tmp} {pos:String} {after:Array Edge} {D a v:Int} {A:Option Addr} {w:World} (h0:f (.tmp 45)=.int .i64 D) (h1:f (.tmp 49)=.int .i64 a) (h2:f (.tmp 53)=.int .i64 v) (h3:f (.tmp 55)=.slice A 1 1) (h4:∀v,f (.const v)=v):
  Sem.run zp (execOp f ⟨d,.build 44 #[(0,.tmp 45),(2,.const (.int .i64 1)),(1,.const (.int .i64 1)),(3,.tmp 49),(16,.tmp 53),(9,.tmp 55)],44,pos,after,none⟩) w=Result.ok (Next.value (.agg (fsL D a v A).cells)) w:=by
 go_simp;rfl
theorem Ak3 (base B n c:Nat) (r:RG) (A:Option Addr) (l0:List Int) (w:World) (h:r.own w base) (hcs:r.cards=Be 0 [1,2,3,1]) (hn:Hid (l0.length=n)) (hr:Rd w B 1 A n (l0.map Iv)) (hok:∀x∈l0,I64 x):
  Calls zp 44 #[.agg r.cells,.slice A n c] w (Lw r.cards r.l w):=by
 have ay:=h.few;have cj:r.cards.length=4:=by rw [hcs];rfl
 have hi:(zp.info? 44).map (·.size)=some 27:=by kernel_rfl
 have bg:=(Blk.new w 32 r.cells).alloc (.cells zO 44);have br:=Blk.new (w.alloc (.cells r.cells 32)) 44 zO;rw [An6] at br;have f0:Fr Non w ((w.alloc (.cells r.cells 32)).alloc (.cells zO 44)):=((Fr.refl Non w).alloc _).alloc _
 have bz:w.heap.size+2<=((w.alloc (.cells r.cells 32)).alloc (.cells zO 44)).heap.size:=by
  rw [An6,An6];exact An7 _
 have hl:=Bb (P:=zp) w.heap.size 32 underlying32 rfl (cs:=r.cells) Cz;have kA:=lh (fun (w':World) (hf:Fr Non w w')=>Lf base r w' (h.non hf));have kH:=lh (fun (B' n' c':Nat) (A':Option Addr) (ids:List Id) (w':World) (hf:Fr Non w w') hn hr hnm=>Ab9 base r B' n' c' A' ids w' (h.non hf) hn hr hnm);have kC:=lh (fun (B' n' c':Nat) (A':Option Addr) (l1:List Int) (w':World) (hf:Fr Non w w') hn hr hnm=>Ac9 base r B' n' c' A' l1 w' (h.non hf) hn hr hnm);have kS:=lh (fun (B' n' c':Nat) (A':Option Addr) (ids:List Id) (d:Int) (w':World) hn hr hnm hs=>Ab2 r.cells B' n' c' A' ids d w' hn hr hnm hs);have kL:=lh (fun (B' n' c':Nat) (A':Option Addr) (ids:List Id) (w':World) (hf:Fr Non w w') hn hr hnm=>Ab3 base r B' n' c' A' ids w' (h.non hf) hn hr hnm);have kO:=lh (fun (b:Int) (m:Nat) (w':World) hb hn=>Af2 b m w' hb hn);have bp:=lh (fun (x:Int) (hx:x∈l0) (w':World)=>Jm x 1000000 w' (hok x hx).1 (hok x hx).2 (by decide) (by decide))
 have a6:Hid (∀ids:List Id,(∀id∈ids,(plc r.l id).isSome=true)->ids.length<=200->(E1 r.l ids).length<=500/\(∀x∈E1 r.l ids,x.ok)/\(∀x∈ids,x.s<=2147483647)/\(∀d k,0<=Cc ids d k/\Cc ids d k<=2147483647)/\0<=late r.l ids/\late r.l ids<=2147483647):=by
  intro ids h1 h2;have hs:∀x∈ids,x.s<=2147483647:=fun x hx=>(Rn h.rows h.ok (h1 x hx)).2.2;have hb:=Ag3 h.rows ids;refine ⟨?_,fun x hx=>(Rn h.rows h.ok (h1 x (Ag4 hx).1)).1,hs,fun d k=>Qt (by omega) hs k,hb⟩;have:=Ag5 r.l ids;omega
 have aa:Hid ((∀id∈An r.ids,(plc r.l id).isSome=true)/\(An r.ids).length=r.l.length):=by
  have cy:=Q6 h.rows;exact ⟨cy.2,by rw [E0];show (r.l.map Pn.id).length=_;rw [An8]⟩
 have al:Hid (∀cs,Eb r.l cs->(∀id∈cs,(plc r.l id).isSome=true)/\cs.length<=200):=fun cs hc=>⟨hc.2,An3 (Ag6 h.rows hc) ay⟩;have ap:=lh (fun (d a v:Int) (hd:1<=d/\d<=4) (ha:0<=a/\a<=4) (hv:0<=v/\v<=4)=>Aj1 hcs hd ha hv)
 have ah:Hid (∀(y:OpL) (wy wz:World),y.op.ok->y.own wy (w.heap.size+2)->Fr Non w wy->Blk wy (w.heap.size+1) 44 zO->Fr (One (w.heap.size+1)) wy wz->((r.l=[]->Ah r.cards [] y.op=0)/\FewN y.op)->Lw r.cards r.l w (.returned (.agg y.cells)) wz):=by
  intro y wy wz h1 h2 h3 h4 h5 h6;refine ⟨y,rfl,h1,(h2.opBlk h4 h5).lower (by omega),h3.trans h5 (fun k hk e=>absurd hk (by have e2:k=w.heap.size+1:=e;omega)),h6.1,h6.2⟩
 have g0:Hid (r.cells[0]? =some (.slice r.cA r.cards.length r.cC)):=rfl;have g1:Hid (r.cells[1]? =some (.slice r.lA r.l.length r.lC)):=rfl;rw [cj] at g0;have a2:Hid (r.l.length=0->r.l=[]):=fun e=>List.length_eq_zero_iff.1 e;have ae:Hid (r.l=[]->r.l.length=0):=fun e=>by show _=_;rw [e];rfl
 clear h hcs cj;generalize Lw r.cards r.l w=POST at*;unfold SortPost at kA;generalize An r.ids=SI at*;generalize r.lA=LA at*;generalize r.lC=LC at*;generalize r.cA=CA at*;generalize r.cC=CC at*;generalize r.cells=CS at*;generalize r.cards=CD at*;generalize r.l=l at*;obtain ⟨N,hN⟩:=Aa l.length;rw [hN.out] at kA g1 ay aa a2 ae;clear hN;go_enter func44,ntmps44;go_upto_region 1 with (fail)
 generalize (w.alloc (.cells CS 32)).alloc (.cells zO 44)=w0 at*;go_wp2_with fail
 go_loopw [5,6] (fun s v wr=>∃(j:Nat) (Ax:Option Addr) (cx:Nat) (ks:List Nat),v=.int .i64 (j:Int)/\s=.slice Ax j cx/\j<=4/\Hid (ks.length=j)/\Hid (∀x∈ks,x<1000000)/\Own wr w0.heap.size 3 1 Ax j cx (ks.map Qv)/\Fr Non w0 wr) (fun _ v _=>4-(intOf v).toNat)
 case atStart=>exact ⟨0,none,0,[],rfl,rfl,by omega,rfl,fun x hx=>absurd hx An4,Own.nil _ _ _ _,Fr.refl _ _⟩
 case round=>
 obtain ⟨j,Ax,cx,ks,rfl,rfl,hj,b4,a7,aj,hf⟩:=hrel;have a8:Fr Non w wr:=f0.trans hf zr
 by_cases hlt:j<4
 ·
  have i1:decide ((j:Int)<4)=true:=decide_eq_true (by omega);have ds:=An3 bz hf.size;have bu:=aj.row;clear ah kA kH kC kS kL kO a6 aa al ap a2 ae g0 g1 bg br
  as_aux_lemma=>
  go_upto_if 17 with (fail)
  go_cut [7] from 17 to 22 (fun s wc=>∃q:Nat,s=.int .i64 (q:Int)/\q<1000000/\Own wc w0.heap.size 3 1 Ax j cx (ks.map Qv)/\Fr Non w0 wc)
  case first=>
   by_cases hjn:j<n
   ·
    obtain ⟨b,ai,u,rfl,dv,hu,c0⟩:=hr.at hjn;obtain ⟨x,hx⟩:∃x,l0[j]? =some x:=⟨_,List.getElem?_eq_getElem (by rw [hn.out];exact hjn)⟩;rw [Ap0,hx] at hu;injection hu with hu
    subst hu;replace c0:cI w b (ai+j) x:=c0;have c1:=a8.cell c0 zq;have kx:=lh (bp.out x (List.mem_of_getElem? hx));obtain ⟨c7,cu⟩:=Jl (n:=x) (m:=1000000) (by decide);obtain ⟨p,hp⟩:∃p:Nat,C0 x 1000000=(p:Int):=⟨(C0 x 1000000).toNat,by omega⟩;rw [hp] at kx cu;obtain ⟨j1,j2,j3⟩:=ix j n
    have t:decide ((j:Int)<(n:Int))=true:=decide_eq_true (by omega);have di:Hid (p<1000000):=by show p<1000000;omega
    clear bp hx hok hp c7 cu;go_wp2_with (go_at_call 39;(with_reducible refine (kx.out _).mono ?_);rintro _ v ⟨rfl,ew⟩;have fq:Fr Non wr v:=ew▸Fr.refl _ _;clear ew);go_meet;exact ⟨p,rfl,di.out,aj.fr fq zr,hf.trans fq zr⟩
   ·
    have t:decide ((j:Int)<(n:Int))=false:=decide_eq_false (by omega);go_wp2_with fail;go_meet;exact ⟨0,rfl,by omega,aj,hf⟩
  case rest=>
   obtain ⟨q,rfl,hq,b5,fc⟩:=hcut;have bk:=An3 bz fc.size;have au:=Blk.new wc 3 #[.int .i64 (q:Int)];have av:=b5.alloc (.cells #[.int .i64 (q:Int)] 3);go_wp2_with (at_builtin;go_loud (refine Aw (base:=w0.heap.size) (.tmp 23) (.tmp 25) 22 rfl rfl rfl rfl Fi av (Rd.blk (n:=1) (size:=1) au rfl) (by simp [Value.oneCell']) (by omega) (by omega) (by rw [An6];have h8:=fc.size;omega) ?_);intro A2 c2 w4 b1 c6 dl);have fz:Fr Non w0 w4:=(fc.alloc _).trans c6 (fun k hk e=>by have h9:=(bu k e).1;have h8:=hf.size;omega)
   have ar:Own w4 w0.heap.size 3 1 A2 (j+1) c2 ((ks++[q]).map Qv):=by
    rw [List.map_append];exact b1
   go_roundw
   case rel=>exact ⟨j+1,A2,c2,ks++[q],by go_num,rfl,by omega,(by show _=_;rw [Ap1,b4.out];rfl),(fun x hx=>by rcases List.mem_append.1 hx with h1|h1;exact a7.out x h1;obtain rfl:=List.mem_singleton.1 h1;exact hq),ar,fz⟩
   case measure=>simp [intOf];omega
 ·
  obtain rfl:j=4:=by omega
  have i1:decide ((4:Int)<4)=false:=rfl
  obtain ⟨k0,k1,k2,k3,rfl⟩:∃a b c d,ks=[a,b,c,d]:=by
   match ks,b4.out with
   |[a,b,c,d],_=>exact ⟨a,b,c,d,rfl⟩
  have q0:k0<1000000:=a7.out k0 (by simp);have q1:k1<1000000:=a7.out k1 (by simp);have q2:k2<1000000:=a7.out k2 (by simp);have q3:k3<1000000:=a7.out k3 (by simp);obtain ⟨_,h4|⟨b,ai,rfl,cw,hc⟩⟩:=aj.rd
  · exact absurd h4 (by decide)
  have L0:cI wr b ai (k0:Int):=hc 0 _ rfl;have L1:cI wr b (ai+1) (k1:Int):=hc 1 _ rfl;have L2:cI wr b (ai+2) (k2:Int):=hc 2 _ rfl;have L3:cI wr b (ai+3) (k3:Int):=hc 3 _ rfl;replace bg:=bg.fr hf zq;replace br:=br.fr hf zq;have e0:((k0:Nat):Int).tmod 4=(k0:Int)%4:=An9 (by omega);have e1:((k1:Nat):Int).tmod 3=(k1:Int)%3:=An9 (by omega);have e2:((k2:Nat):Int).tmod 5=(k2:Int)%5:=An9 (by omega);have e3:((k3:Nat):Int).tmod 5=(k3:Int)%5:=An9 (by omega);have e4:((k2:Nat):Int).tmod 3=(k2:Int)%3:=An9 (by omega);have e5:((k1:Nat):Int).tdiv 3=(k1:Int)/3:=Ap2 (by omega);have e6:((k1:Nat):Int).tdiv 100=(k1:Int)/100:=Ap2 (by omega);have e7:=iw (1+(k0:Int)%4);have e8:=iw ((k1:Int)/3);have e9:=iw ((k1:Int)/100);have bm:=An3 bz hf.size;have d0:=(bg.cell 0).trans g0.out;have d1:=(bg.cell 1).trans g1.out;clear hc a7 b4 aj hf f0 bp hr hn hok hlt hj g0 g1 cw;generalize wr=w1 at*;go_upto_region 9 with (fail)
  go_cut [8] from 27 to 39 (fun s wc=>∃(y0:OpL) (gO:Nat),s=.pointer (some ⟨gO,0,none⟩)/\Blk wc gO 44 y0.cells/\y0.by_=1+(k0:Int)%4/\y0.op.ok/\y0.own wc (w.heap.size+2)/\w1.heap.size<=gO/\Fr Non w1 wc)
  case first=>
   clear ah kA kH kC kS kL a6 aa al ap a2 ae
   as_aux_lemma=>
   have G0:=d0;have F0:Fr Non w1 w1.drew:=(Fr.refl Non w1).drew;have kq:=lh (fun (w':World)=>kO.out (1+(k0:Int)%4) k3 w' ⟨by omega,by omega⟩ (by omega));have M0:=L0;have K0:=L3;refine Cy (S:=fun w'=>cS w' w.heap.size 0 CA 4 CC/\cI w' b ai (k0:Int)/\cI w' b (ai+3) (k3:Int)) 14 (by kernel_rfl) ?_;have uu:=aI G0 (aI M0 K0);refine tkG 0 uu (h:=tkG 1 uu (h:=tkG 2 uu (h:=tkG 3 uu (h:=tkG 4 uu (h:=tkG 5 uu (h:=tkG 6 uu (h:=tkG 7 uu (h:=tkG 8 uu (h:=tkG 9 uu (h:=tkG 10 uu (h:=tkG 11 uu (h:=?_))))))))))));clear uu;simp only [zl];refine Ri 12 13 (by kernel_rfl) rfl rfl (fun K' hK=> ?_) (fun K' hK=> ?_)
   ·
    skip
    go_simp;go_wp2_with (go_at_call 91;(with_reducible refine (kq.out _).mono ?_);rintro _ v1 ⟨y0,rfl,aq,ad,ag,ab⟩;have F1:=F0.trans ab zr;have av:=ag.lower (base':=w.heap.size+2) bm);obtain ⟨G1,M1,K1⟩:=zk3 F1 G0 M0 K0;refine hK.out _ _ ⟨G1,M1,K1⟩ (fun hZ=> ?_);clear hZ hK K';try simp only [Ac,zl]
    refine Bf 13 (by kernel_rfl) rfl (fun K' hK=> ?_);go_simp;have au:=Blk.new v1 44 zO;have a3:=av.non ((Fr.refl Non v1).alloc (.cells zO 44));have F2:Fr Non w1 (v1.alloc (.cells zO 44)):=F1.alloc _;have be:=F1.size;obtain ⟨ga,bn⟩:=Aa v1.heap.size;rw [bn.out] at au be ⊢;generalize v1.alloc (.cells zO 44)=v2 at*;obtain ⟨G2,M2,K2⟩:=zk3 F2 G0 M0 K0;refine hK.out _ _ ⟨G2,M2,K2⟩ (fun hZ=> ?_);clear hZ hK K';try simp only [Ac,zl]
    have ax:=Cn y0;have bj:=Ch (P:=zp) ga 44 (cs:=y0.cells) hi (old:=zO) rfl ax;refine Cs (by kernel_rfl) ?_;refine oG 14 (fun K' hK=> ?_);go_simp;have a1:=a3.opBlk au (Dg y0.cells);have b3:=au.setRow (cs:=y0.cells);have F3:Fr Non w1 (v2.setRow ga y0.cells):=F2.setRow (fun hh=>absurd hh (by omega)) _;refine hK.out _ _ trivial (fun hZ=> ?_);clear hZ hK K';try simp only [Ac,zl]
    refine oD ?_;go_simp;go_wp2_with fail;go_meet;exact ⟨y0,ga,rfl,b3,aq,ad,a1,be,F3⟩
   ·
    skip
    go_simp;have bi:=(Blk.new w1 44 zO).drew;have F1:Fr Non w1 (w1.alloc (.cells zO 44)).drew:=((Fr.refl Non w1).alloc _).drew;have dd:w.heap.size+2<=(w1.alloc (.cells zO 44)).drew.heap.size:=An3 bm F1.size;have be:w1.heap.size<=w1.heap.size:=An7 _;obtain ⟨ga,bn⟩:∃x,Hid (w1.heap.size=x):=Aa _;rw [bn.out] at bi ⊢;have be:w1.heap.size<=ga:=by rw [bn.out];exact An7 _
    generalize (w1.alloc (.cells zO 44)).drew=v1 at*;obtain ⟨G1,M1,K1⟩:=zk3 F1 G0 M0 K0;refine hK.out _ _ ⟨G1,M1,K1⟩ (fun hZ=> ?_);clear hZ hK K';try simp only [Ac,zl]
    refine Bf 12 (by kernel_rfl) rfl (fun K' hK=> ?_);go_simp;go_wp2_with (go_at_call 91;(with_reducible refine (kq.out _).mono ?_);rintro _ v2 ⟨y0,rfl,aq,ad,ag,ab⟩;have F2:=F1.trans ab zr;have a3:=ag.lower (base':=w.heap.size+2) dd;have au:=bi.fr ab zq);obtain ⟨G2,M2,K2⟩:=zk3 F2 G0 M0 K0;refine hK.out _ _ ⟨G2,M2,K2⟩ (fun hZ=> ?_);clear hZ hK K';try simp only [Ac,zl]
    have ax:=Cn y0;have bj:=Ch (P:=zp) ga 44 (cs:=y0.cells) hi (old:=zO) rfl ax;refine Cs (by kernel_rfl) ?_;refine oG 14 (fun K' hK=> ?_);go_simp;have a1:=a3.opBlk au (Dg y0.cells);have b3:=au.setRow (cs:=y0.cells);have F3:Fr Non w1 (v2.setRow ga y0.cells):=F2.setRow (fun hh=>absurd hh (by omega)) _;refine hK.out _ _ trivial (fun hZ=> ?_);clear hZ hK K';try simp only [Ac,zl]
    refine oD ?_;go_simp;go_wp2_with fail;go_meet;exact ⟨y0,ga,rfl,b3,aq,ad,a1,be,F3⟩
  case rest=>
  obtain ⟨y0,gO,rfl,bO,aq,ad,ag,b6,f2⟩:=hcut;generalize wc=wb at*;have hD:1<=1+(k0:Int)%4/\1+(k0:Int)%4<=4:=by omega
  obtain ⟨D,ce⟩:∃D:Nat,1+(k0:Int)%4=(D:Int):=⟨(1+(k0:Int)%4).toNat,by omega⟩;rw [ce] at aq hD;have du:1<=D/\D<=4:=by omega
  clear ce hD kO L0 d0 q0;have dg:=f2.cell d1 zq
  by_cases hz:N=0
  ·
   have t:((N:Int)==0)=true:=by simp [hz]
   clear kA kH kC kS kL a6 aa al L1;have dq:=a2.out hz
   as_aux_lemma=>
   go_upto_region 11 with (fail)
   have F0:Fr Non w1 wb.drew:=f2.drew;have Y0:wb.cell? ⟨gO,0,none⟩=some (.int .i64 (D:Int)):=by rw [bO.cell 0];show some (Value.int .i64 y0.by_)=_;rw [aq]
   obtain ⟨M0,K0⟩:=zk2 f2 L2 L3;refine Cy (S:=fun w'=>cI w' gO 0 (D:Int)/\cI w' b (ai+2) (k2:Int)/\cI w' b (ai+3) (k3:Int)) 13 (by kernel_rfl) ?_;have uu:=aI Y0 (aI M0 K0);refine tkG 0 uu (h:=tkG 1 uu (h:=tkG 2 uu (h:=tkG 3 uu (h:=tkG 4 uu (h:=tkG 5 uu (h:=tkG 6 uu (h:=tkG 7 uu (h:=tkG 8 uu (h:=tkG 9 uu (h:=tkG 10 uu (h:=?_)))))))))));clear uu;simp only [zl];refine Bf 11 (by kernel_rfl) rfl (fun K' hK=> ?_);go_simp;have nP:=(Blk.new wb 94 #[.int .u64 5,.slice none 0 0]).drew;have ab:Fr Non wb (wb.alloc (.cells #[.int .u64 5,.slice none 0 0] 94)).drew:=((Fr.refl Non wb).alloc _).drew;have cr:=An3 bm f2.size;obtain ⟨gp,b8⟩:=Aa wb.heap.size;rw [b8.out] at nP cr ⊢;generalize (wb.alloc (.cells #[.int .u64 5,.slice none 0 0] 94)).drew=v1 at*;obtain ⟨Y1,M1,K1⟩:=zk3 ab Y0 M0 K0;refine hK.out _ _ ⟨Y1,M1,K1⟩ (fun hZ=> ?_);clear hZ hK K';try simp only [Ac,zl]
   refine Ep (i:=12) (v:=?_) rfl (by kernel_rfl) (by kernel_rfl) (by kernel_rfl) (by kernel_rfl) (fun _ _ _ h=>h) (Or.inl ⟨by kernel_rfl,?_⟩) ⟨Y1,M1,K1⟩ ?_;rotate_left
   focus (intro w' dw;refine Ak2 (D:=(D:Int)) (a:=(k2:Int)%5) (v:=(k3:Int)%5) (A:=some ⟨gp,0,none⟩) ?_ ?_ ?_ ?_ ?_;rfl;rfl;rfl;rfl;exact fun _=>rfl)
   simp only [zl];have bv:=bO.fr ab zq;have bj:=Ch (P:=zp) gO 44 (cs:=(fsL (D:Int) ((k2:Int)%5) ((k3:Int)%5) (some ⟨gp,0,none⟩)).cells) hi (old:=y0.cells) rfl (Cn _);refine Cs (by kernel_rfl) ?_;refine oG 13 (fun K' hK=> ?_);go_simp;have dk:=bv.setRow (cs:=(fsL (D:Int) ((k2:Int)%5) ((k3:Int)%5) (some ⟨gp,0,none⟩)).cells)
   have oP:Own v1 (w.heap.size+2) 94 2 (some ⟨gp,0,none⟩) 1 1 (([⟨5,none,0,[]⟩]:List NdL).flatMap NdL.cells):=by
    have h5:=Own.blk (base:=w.heap.size+2) (n:=1) (size:=2) nP cr (by omega) rfl (by omega);simpa [NdL.cells] using h5
   have bh:(fsL (D:Int) ((k2:Int)%5) ((k3:Int)%5) (some ⟨gp,0,none⟩)).own (v1.setRow gO (fsL (D:Int) ((k2:Int)%5) ((k3:Int)%5) (some ⟨gp,0,none⟩)).cells) (w.heap.size+2):=(Ai9 (RowAt.of_own oP)).opBlk bv (Dg _);have fv:Fr Non w1 (v1.setRow gO (fsL (D:Int) ((k2:Int)%5) ((k3:Int)%5) (some ⟨gp,0,none⟩)).cells):=(f2.trans ab zr).setRow (fun hh=>absurd hh (by omega)) _;have af:(fsL (D:Int) ((k2:Int)%5) ((k3:Int)%5) (some ⟨gp,0,none⟩)).op.ok:=Ai8 ⟨by omega,by omega⟩ ⟨by omega,by omega⟩ ⟨by omega,by omega⟩;have dc:Ah CD [] (sgn (fsL (D:Int) ((k2:Int)%5) ((k3:Int)%5) (some ⟨gp,0,none⟩)).op)=0:=ap.out (D:Int) ((k2:Int)%5) ((k3:Int)%5) (by omega) (by omega) (by omega);have ac:FewN (fsL (D:Int) ((k2:Int)%5) ((k3:Int)%5) (some ⟨gp,0,none⟩)).op:=⟨An5 _,(by show (1:Int)<=(D:Int);omega),(by show (D:Int)<=4;omega)⟩;have ak:(fsL (D:Int) ((k2:Int)%5) ((k3:Int)%5) (some ⟨gp,0,none⟩)).by_=(D:Int):=rfl;generalize fsL (D:Int) ((k2:Int)%5) ((k3:Int)%5) (some ⟨gp,0,none⟩)=X at*;refine hK.out _ _ trivial (fun hZ=> ?_);clear hZ hK K';try simp only [Ac,zl]
   refine oD ?_;go_simp;generalize v1.setRow gO X.cells=v2 at*;clear bv nP oP Y0 Y1 M0 M1 K0 K1 bj ab;have cv:=Bb (P:=zp) gO 44 underlying44 rfl (cs:=X.cells) hi;have fw:Fr Non w v2:=a8.trans fv zr;have bs:=br.fr fv zq;have az:=lh (Lv X D (w.heap.size+2) v2 ak (by omega) bh af)
   have ao:Hid (∀y:OpL,y.op=sgn X.op->y.op.ok/\((l=[]->Ah CD [] y.op=0)/\FewN y.op)):=fun y e=>by
    rw [e];exact ⟨Ff af,fun _=>dc,FewN.sgn ac⟩
   have dj:(zp.info? 44).map (·.size)=some X.cells.size:=hi;clear ap a2 ae bh af ak ac;unfold Jc at az;generalize sgn X.op=SO at*;generalize X.cells=XC at*;go_wp2_with (go_at_call 15;(with_reducible refine (az.out).mono ?_);rintro _ w5 ⟨y,rfl,a9,ba,f5⟩;go_loud (have bb:=bs.fr f5 zq;have aw:=lh (ao.out y a9);have hd:=lh (fun wz hz=>ah.out y w5 wz aw.out.1 ba (fw.trans f5 zr) bb hz aw.out.2);have bj:=Ch (P:=zp) (w.heap.size+1) 44 (cs:=y.cells) hi (old:=zO) rfl (Cn y);have bq:(zp.info? 44).map (·.size)=some y.cells.size:=hi;clear ah aw a9 ba ao az;generalize y.cells=YC at*));have bw:=bb.setRow (cs:=YC);have b7:=lh (hd.out _ (Dg YC))
   (try simp only [Exit.inBlock,Exit.then])
   refine C8 (t:=44) rfl rfl bw rfl underlying44 bq rfl ?_;exact b7.out
  ·
   have t:((N:Int)==0)=false:=by simp [hz]
   clear L3 q3 ap;have cb:=bg.fr f2 zq;have cc:=f2.cell L1 zq;have bk:=An3 bm f2.size;have ch:Fr Non w wb:=a8.trans f2 zr;rw [<- aa.out.2] at kA;go_upto_region 14 with (go_at_call 22;(with_reducible refine (kA.out _ ch).mono ?_);rintro _ v0 ⟨A9,c9,rfl,o9,f9⟩)
   have cd:=f9.cell cc zq;have B0:=cb.fr f9 zq;have cm:Fr Non w v0:=ch.trans f9 zr;have cp:=An3 bk f9.size;replace o9:=o9.lower bk
   go_upto_if 65 with (fail)
   go_cut [9] from 65 to 76 (fun s wd=>∃(ids:List Id) (A9:Option Addr) (c9:Nat),s=.slice A9 ids.length c9/\Own wd (w.heap.size+2) 38 3 A9 ids.length c9 (ids.flatMap Id.cells)/\Hid (∀id∈ids,(plc l id).isSome=true)/\Hid (ids.length<=200)/\Fr Non wb wd)
   case first=>
    clear ah kH kS kL a6 a2 ae ad ag bO
    as_aux_lemma=>
    by_cases ht:k1%3=1
    ·
     have t2:((k1:Int)%3==1)=true:=by simp;omega
     go_upto_region 15 with (fail)
     have Q0:=cd;refine wp_region_held_drew (S:=fun w'=>Blk w' w.heap.size 32 CS/\cI w' b (ai+1) (k1:Int)) (by kernel_rfl) ⟨B0,Q0⟩ (fun hHeld=> ?_);clear hHeld;have uu:=aI B0 Q0;refine tkH 0 uu (h:=tkH 1 uu (h:=tkH 2 uu (h:=tkH 3 uu (h:=tkH 4 uu (h:=tkH 5 uu (h:=tkH 6 uu (h:=tkH 7 uu (h:=tkH 8 uu (h:=?_)))))))));clear uu;simp only [zl];refine oG 9 (fun K' hK=> ?_);go_simp;have nP:=(Blk.new v0 3 #[.int .i64 ((k1:Int)/3),.int .i64 ((k1:Int)/100)]).drew;have ab:Fr Non v0 (v0.alloc (.cells #[.int .i64 ((k1:Int)/3),.int .i64 ((k1:Int)/100)] 3)).drew:=((Fr.refl Non v0).alloc _).drew;obtain ⟨gp,b8⟩:=Aa v0.heap.size;rw [b8.out] at nP ⊢;generalize (v0.alloc (.cells #[.int .i64 ((k1:Int)/3),.int .i64 ((k1:Int)/100)] 3)).drew=v1 at*;have B1:=B0.fr ab zq;have Q1:=ab.cell Q0 zq;refine hK.out _ _ ⟨B1,Q1⟩ (fun hZ=> ?_);clear hZ hK K';try simp only [Ac,zl]
     have ci:=lh (kC.out _ 2 2 (some ⟨gp,0,none⟩) [(k1:Int)/3,(k1:Int)/100] v1 (cm.trans ab zr) rfl (Rd.blk (n:=2) (size:=1) nP rfl) (fun x hx=>by
      rcases List.mem_cons.1 hx with rfl|hx
      · exact ⟨by omega,by omega⟩
      ·
       obtain rfl:=List.mem_singleton.1 hx;exact ⟨by omega,by omega⟩))
     unfold I0 at ci;refine oG 10 (fun K' hK=> ?_);go_simp;go_wp2_with (go_at_call 26;(with_reducible refine (ci.out).mono ?_);rintro _ v2 ⟨cs,⟨A8,c8,rfl,o8,b0⟩,dm,dp⟩;have B2:=B1.fr b0 zq;have Q2:=b0.cell Q1 zq);refine hK.out _ _ ⟨B2,Q2⟩ (fun hZ=> ?_);clear hZ hK K';try simp only [Ac,zl]
     refine tkH 11 ⟨B2,Q2⟩ (h:=?_);simp only [zl];refine oD ?_;go_simp;have cg:=al.out cs dm;go_wp2_with fail;go_meet;exact ⟨cs,A8,c8,rfl,o8.lower (An3 cp ab.size),cg.1,cg.2,(f9.trans ab zr).trans b0 zr⟩
    ·
     have t2:((k1:Int)%3==1)=false:=by simp;omega
     go_wp2_with fail;go_meet;exact ⟨SI,A9,c9,rfl,o9,aa.out.1,by show _<=_;rw [aa.out.2];exact ay,f9⟩
   case rest=>
   clear o9 cd B0 cm cp f9;obtain ⟨ids,A8,c8,rfl,o9,cf,ck,f3⟩:=hcut;generalize wc=wd at*;obtain ⟨p1,p2,p3,p4,p5⟩:=a6.out ids cf.out ck.out;have db:=ck.out;have dt:=p4 (D:Int) ids.length;have bo:Fr Non w1 wd:=f2.trans f3 zr;have cq:=bO.fr f3 zq;have bc:=ag.non f3;have kh:=lh (kH.out _ ids.length c8 A8 ids wd (a8.trans bo zr) rfl o9.rd (by omega));have ks:=lh (fun (w':World) (ho:Own w' (w.heap.size+2) 38 3 A8 ids.length c8 (ids.flatMap Id.cells))=>kS.out _ ids.length c8 A8 ids (D:Int) w' rfl ho.rd (by omega) p3);have kl:=lh (fun (w':World) (hf:Fr Non w w') (ho:Own w' (w.heap.size+2) 38 3 A8 ids.length c8 (ids.flatMap Id.cells))=>kL.out _ ids.length c8 A8 ids w' hf rfl ho.rd (by omega));have bl:=lh (And.intro p1 p2);clear kA kH kC kS kL a6 aa al L1 cc q1 p4 cf ag bO cb d1 dg p1 p2 p3;unfold Co at kh;generalize E1 l ids=HL at*;generalize Cc ids (D:Int) ids.length=SQ at*;generalize late l ids=LT at*;have df:=bg.fr bo zq;have YC:y0.cells.size=27:=rfl;have c5:Hid (y0.cells[0]? =some (.int .i64 (D:Int))):=by show some (Value.int .i64 y0.by_)=_;rw [aq]
   have dn:Hid (y0.cells[1]? =some (.int .i64 y0.sq)):=rfl;have cz:Hid (y0.cells[3]? =some (.int .i64 y0.at_)):=rfl;have de:Hid (y0.cells[4]? =some (.slice y0.pastA y0.past.length y0.pastC)):=rfl;have da:=An3 bk f3.size;generalize wd=w3 at*;go_upto_region 17 with (go_at_call 92;(with_reducible refine (kh.out).mono ?_);rintro _ v3 ⟨A4,c4,rfl,o4,f4⟩;have a0:=cq.fr f4 zq;have m4:=(a0.cell 4).trans de.out;have z4:=a0.frozen 4)
   have b2:Fr Non w1 (v3.setCell ⟨gO,4,none⟩ (.slice A4 HL.length c4)):=(bo.trans f4 zr).setNew b6 4 _;have bt:=a0.set 4 (.slice A4 HL.length c4);have bx:=Own.setFar (i:=4) (o9.fr f4 zr) a0 (by decide) (.slice A4 HL.length c4);have cn:=Own.setFar (i:=4) (o4.lower da) a0 (by decide) (.slice A4 HL.length c4);have ar:=(bc.non f4).opBlk a0 (Lu (i:=4) (.slice A4 HL.length c4));generalize v3.setCell ⟨gO,4,none⟩ (.slice A4 HL.length c4)=w4 at*;clear kh m4 z4 a0 cq f4 o4 o9 bc bo df;have dh:=bg.fr b2 zq;have Y4:cI w4 gO 0 (D:Int):=(bt.cell 0).trans c5.out;go_upto_region 18 with (go_at_call 93;(with_reducible refine (ks.out _ bx).mono ?_);rintro _ v4 ⟨rfl,f5⟩;have a4:=bt.fr f5 zq;have m5:cI v4 gO 1 y0.sq:=(a4.cell 1).trans dn.out;have z5:=a4.frozen 1)
   have b9:Fr Non w1 (v4.setCell ⟨gO,1,none⟩ (.int .i64 (SQ+1))):=(b2.trans f5 zr).setNew b6 1 _;have ca:=a4.set 1 (.int .i64 (SQ+1));have ct:=Own.setFar (i:=1) (bx.fr f5 zr) a4 (by decide) (.int .i64 (SQ+1));have co:=Own.setFar (i:=1) (cn.fr f5 zr) a4 (by decide) (.int .i64 (SQ+1));have bd:=(ar.non f5).opBlk a4 (Lu (i:=1) (.int .i64 (SQ+1)));generalize v4.setCell ⟨gO,1,none⟩ (.int .i64 (SQ+1))=w5 at*;clear ks m5 z5 a4 bt f5 bx cn ar b2 Y4 dh;have B0:=(bg.fr b9 zq).drew;have M0:cI w5.drew b (ai+2) (k2:Int):=b9.cell L2 zq;have F0:Fr Non w1 w5.drew:=b9.drew;have dr:=iw (LT+(k2:Int)%3);refine Cy (S:=fun w'=>Blk w' w.heap.size 32 CS/\cI w' b (ai+2) (k2:Int)) 9 (by kernel_rfl) ?_;have uu:=aI B0 M0;refine tkG 0 uu (h:=tkG 1 uu (h:=tkG 3 uu (h:=tkG 4 uu (h:=tkG 5 uu (h:=tkG 6 uu (h:=?_))))));clear uu;simp only [zl];refine Bf 2 (by kernel_rfl) rfl (fun K' hK=> ?_);go_simp;go_wp2_with (go_at_call 94;(with_reducible refine (kl.out _ (a8.trans F0 zr) ct.drew).mono ?_);rintro _ v1 ⟨rfl,ab⟩;go_loud (have B1:=B0.fr ab zq;have M1:=ab.cell M0 zq));refine hK.out _ _ ⟨B1,M1⟩ (fun hZ=> ?_);clear hZ hK K';try simp only [Ac,zl]
   refine tkG 7 ⟨B1,M1⟩ (h:=tkG 8 ⟨B1,M1⟩ (h:=?_));simp only [zl];have fq:Fr Non w5 v1:=((Fr.refl Non w5).drew).trans ab zr;have a5:=ca.fr fq zq;have m8:cI v1 gO 3 y0.at_:=(a5.cell 3).trans cz.out;have z8:=a5.frozen 3;refine Cs (by kernel_rfl) ?_;refine oG 9 (fun K' hK=> ?_);go_simp;have AT:(Value.int .i64 (LT+(k2:Int)%3))=.int .i64 (LT+(k2:Int)%3):=rfl;have fv:Fr Non w1 (v1.setCell ⟨gO,3,none⟩ (.int .i64 (LT+(k2:Int)%3))):=(F0.trans ab zr).setNew b6 3 _;have dk:Blk (v1.setCell ⟨gO,3,none⟩ (.int .i64 (LT+(k2:Int)%3))) gO 44 (nxL y0 A4 c4 HL (SQ+1) (LT+(k2:Int)%3)).cells:=a5.set 3 (.int .i64 (LT+(k2:Int)%3));have cl:=Own.setFar (i:=3) (co.fr fq zr) a5 (by decide) (.int .i64 (LT+(k2:Int)%3));have bf:=(bd.non fq).opBlk a5 (Lu (i:=3) (.int .i64 (LT+(k2:Int)%3)));have bh:=Ai7 (s:=SQ+1) (a:=LT+(k2:Int)%3) bf (RowAt.of_own cl);have af:(nxL y0 A4 c4 HL (SQ+1) (LT+(k2:Int)%3)).op.ok:=Ai6 ad ⟨An3 bl.out.1 (by decide),bl.out.2⟩ ⟨by omega,by omega⟩ ⟨by omega,by omega⟩;have ac:FewN (nxL y0 A4 c4 HL (SQ+1) (LT+(k2:Int)%3)).op:=⟨bl.out.1,(by show (1:Int)<=y0.by_;rw [aq];omega),(by show y0.by_<=4;rw [aq];omega)⟩;have ak:(nxL y0 A4 c4 HL (SQ+1) (LT+(k2:Int)%3)).by_=(D:Int):=aq;have c3:l≠[]:=fun e=>hz (ae.out e);generalize nxL y0 A4 c4 HL (SQ+1) (LT+(k2:Int)%3)=X at*;refine hK.out _ _ trivial (fun hZ=> ?_);clear hZ hK K';try simp only [Ac,zl]
   refine oD ?_;go_simp;generalize v1.setCell ⟨gO,3,none⟩ (.int .i64 (LT+(k2:Int)%3))=v2 at*;clear ca a5 m8 z8 cl bf co bd ct M0 M1 B0 B1 F0 fq ab kl bl ad AT;have cv:=Bb (P:=zp) gO 44 underlying44 rfl (cs:=X.cells) hi;have fw:Fr Non w v2:=a8.trans fv zr;have bs:=br.fr fv zq;have az:=lh (Lv X D (w.heap.size+2) v2 ak (by omega) bh af)
   have ao:Hid (∀y:OpL,y.op=sgn X.op->y.op.ok/\((l=[]->Ah CD [] y.op=0)/\FewN y.op)):=fun y e=>by
    rw [e];exact ⟨Ff af,fun e=>absurd e c3,FewN.sgn ac⟩
   have dj:(zp.info? 44).map (·.size)=some X.cells.size:=hi;clear a2 ae bh af ak ac;unfold Jc at az;generalize sgn X.op=SO at*;generalize X.cells=XC at*;go_wp2_with (go_at_call 15;(with_reducible refine (az.out).mono ?_);rintro _ w5 ⟨y,rfl,a9,ba,f5⟩;go_loud (have bb:=bs.fr f5 zq;have aw:=lh (ao.out y a9);have hd:=lh (fun wz hz=>ah.out y w5 wz aw.out.1 ba (fw.trans f5 zr) bb hz aw.out.2);have bj:=Ch (P:=zp) (w.heap.size+1) 44 (cs:=y.cells) hi (old:=zO) rfl (Cn y);have bq:(zp.info? 44).map (·.size)=some y.cells.size:=hi;clear ah aw a9 ba ao az;generalize y.cells=YC at*));have bw:=bb.setRow (cs:=YC);have b7:=lh (hd.out _ (Dg YC))
   (try simp only [Exit.inBlock,Exit.then])
   refine C8 (t:=44) rfl rfl bw rfl underlying44 bq rfl ?_;exact b7.out
end Oq
namespace Oq
attribute [local go_sem] Ao8 Ao9
attribute [local go_sem ↓] Et Lj
def rg0 (A:Option Addr) (c:Nat) (cs:List Cd):RG:=⟨A,c,cs,none,0,[],none,0,none,0,[],none,0,[],[]⟩
theorem Ak4 {A:Option Addr} {c:Nat} {cs:List Cd} {w:World} {base:Nat} (h:RowAt w base 104 5 A cs.length c (cs.flatMap Cd.cells)) (hf:cs.length<=1000) (hk:∀c∈cs,c.s<18446744073709551616):(rg0 A c cs).own w base where
 cards:=h
 ops:=RowAt.nil _ _ _ _
 each _ hx:=absurd hx An4
 same:=rfl
 ok _ hx:=absurd hx An4
 ids:=RowAt.nil _ _ _ _
 ups:=RowAt.nil _ _ _ _
 eachU _ hx:=absurd hx An4
 sameU:=rfl
 ins:=RowAt.nil _ _ _ _
 eachN _ hx:=absurd hx An4
 sameN:=rfl
 rows:=Rows.nil
 cfew:=hf
 cok:=hk
theorem Ak5 (n c:Nat) (A:Option Addr) (w:World):
  Calls zp 41 #[.slice A n c] w fun e w'=>e=.returned (.agg #[.slice A n c,.slice none 0 0,.slice none 0 0,.slice none 0 0,.slice none 0 0])/\Fr Non w w':=by
 have hG:(zp.info? 32).map (·.size)=some (#[.slice A n c,.slice none 0 0,.slice none 0 0,.slice none 0 0,.slice none 0 0]:Array Value).size:=Cz;have br:=Blk.new w 32 zG;have f0:Fr Non w (w.alloc (.cells zG 32)):=(Fr.refl Non w).alloc _;have hst:=Ch (P:=zp) w.heap.size 32 (cs:=#[.slice A n c,.slice none 0 0,.slice none 0 0,.slice none 0 0,.slice none 0 0]) hG (old:=zG) rfl (by simp [Value.oneCell']);go_enter func41,ntmps41;go_upto_region 1 with (fail)
 have hz2:=br.setRow (cs:=#[.slice A n c,.slice none 0 0,.slice none 0 0,.slice none 0 0,.slice none 0 0]);have fz:=f0.setRow (g:=w.heap.size) (fun hh=>absurd hh (by omega)) #[.slice A n c,.slice none 0 0,.slice none 0 0,.slice none 0 0,.slice none 0 0];go_wp2_with fail
 (try simp only [Exit.inBlock,Exit.then])
 refine C8 (t:=32) rfl rfl hz2 rfl underlying32 hG rfl ?_;exact ⟨rfl,fz⟩
theorem Gi {P:Program} {Q:Exit->Act->World->Prop} {l:List Oper} {md:Region.Mode} {S:World->Prop} {fuel:Nat} {listed:Array Bool} {a:Act} {w:World} (i j:Nat) {d:Option Tmp} {op:Go.Op} {ty:TypeId} {pos:String} {after:Array Edge} {g:Option (Nat × Bool)} {d':Option Tmp} {op':Go.Op} {ty':TypeId} {pos':String} {after':Array Edge} {g':Option (Nat × Bool)}
  (hr:Region.ready md l.toArray listed=[i,j]) (ho:l[i]? =some ⟨d,op,ty,pos,after,g⟩) (ho':l[j]? =some ⟨d',op',ty',pos',after',g'⟩)
  (hw:Region.wanted ⟨d,op,ty,pos,after,g⟩ (yielded l.toArray a.tmps)=true) (hw':Region.wanted ⟨d',op',ty',pos',after',g'⟩ (yielded l.toArray a.tmps)=true)
  (h:∀K':Act->World->Prop,Shut (∀a w,S w->(S w->wpAnyH P md l.toArray Q S fuel (listed.setIfInBounds i true) a w)->K' a w)->Oper.wp P ⟨d,op,ty,pos,after,g⟩ a w K' Q)
  (h':∀K':Act->World->Prop,Shut (∀a w,S w->(S w->wpAnyH P md l.toArray Q S fuel (listed.setIfInBounds j true) a w)->K' a w)->Oper.wp P ⟨d',op',ty',pos',after',g'⟩ a w K' Q):
  wpAnyH P md l.toArray Q S (fuel+1) listed a w:=
 wpAnyH_ready hr (by simp) (AllReadyH.cons (by rw [Ap3];exact ho) (fun K' hK=>by rw [if_pos hw];exact h K' hK) (AllReadyH.cons (by rw [Ap3];exact ho') (fun K' hK=>by rw [if_pos hw'];exact h' K' hK) AllReadyH.nil))
theorem Ak6 {w:World} {B n c m:Nat} {A:Option Addr} {xs:List Value} (h:Rd w B 1 A n xs) (hm:m<=n) (hc:n<=c):Rd w B 1 (if c=m then A else A.map (fun x=>x.add m)) (n-m) (xs.drop m):=by
 have hl:=h.1;refine ⟨by rw [Ap4];omega,?_⟩
 by_cases hz:n-m=0
 · exact .inl hz
 ·
  have hcm:¬c=m:=by omega
  rw [if_neg hcm]
  rcases h.2 with h0|⟨b,off,rfl,hb,hx⟩
  · exact absurd h0 (by omega)
  ·
   refine .inr ⟨b,off+m,by simp [Addr.add],hb,fun j u hu=> ?_⟩;rw [List.getElem?_drop] at hu;have h5:=hx (m+j) u hu;rw [<- Nat.add_assoc] at h5;exact h5
def Ak7 (w:World) (e:Ending) (w':World):Prop:=
 ∃r:RG,e=.returned (.agg r.cells)/\Fr Non w w'/\r.own w' w.heap.size/\r.cards=Be 0 [1,2,3,1]/\r.l≠[]
def Mb (w:World) (e:Ending) (w':World):Prop:=
 ∃r:RG,e=.returned (.agg r.cells)/\Fr Non w w'/\r.own w' w.heap.size/\r.cards=Be 0 [1,2,3,1]/\r.l≠[]/\r.l.length<=14
theorem Ak8:∀c∈Be 0 [1,2,3,1],c.s<18446744073709551616:=fun c hc=>by
 obtain ⟨xs,h1,_,_,h4⟩:=Lz [1,2,3,1] 0 (by decide);rw [<- h1] at hc;obtain ⟨x,hx,rfl⟩:=List.mem_map.1 hc;exact h4 x hx
theorem Ak9 (B n c:Nat) (A:Option Addr) (l0:List Int) (w:World) (hn:Hid (l0.length=n)) (hr:Rd w B 1 A n (l0.map Iv)) (hnc:n<=c) (_hnm:c<=9223372036854775807) (hok:∀x∈l0,I64 x):
  Calls zp 12 #[.slice A n c] w (Mb w):=by
 have hG:∀r:RG,(zp.info? 32).map (·.size)=some r.cells.size:=fun r=>Cz;have kc:=lh (fun (w':World) (hr:Rd w' w'.heap.size 1 (some ⟨w.heap.size+1,0,none⟩) 4 (([1,2,3,1]:List Int).map Iv))=>Ou 4 4 (some ⟨w.heap.size+1,0,none⟩) [1,2,3,1] w' rfl (by decide) hr);have kn:=lh (fun (n' c':Nat) (A':Option Addr) (w':World)=>Ak5 n' c' A' w');have kx:=lh (fun (r:RG) (B' n' c':Nat) (A':Option Addr) (l1:List Int) (w':World) h hcs hn hr hok=>Ak3 w.heap.size B' n' c' r A' l1 w' h hcs hn hr hok);have ka:=lh (fun (r:RG) (x:OpL) (w':World) h (hx:x.own w' w.heap.size) hb hok=>Ae9 w.heap.size r x w' h hx.lies hb hok);have br:=(Blk.new w 32 zG).alloc (.cells #[.int .i64 1,.int .i64 2,.int .i64 3,.int .i64 1] 3);have bi:=Blk.new (w.alloc (.cells zG 32)) 3 #[.int .i64 1,.int .i64 2,.int .i64 3,.int .i64 1];rw [An6] at bi;have f0:Fr Non w ((w.alloc (.cells zG 32)).alloc (.cells #[.int .i64 1,.int .i64 2,.int .i64 3,.int .i64 1] 3)):=((Fr.refl Non w).alloc _).alloc _
 have bx:w.heap.size+2<=((w.alloc (.cells zG 32)).alloc (.cells #[.int .i64 1,.int .i64 2,.int .i64 3,.int .i64 1] 3)).heap.size:=by
  rw [An6,An6];exact An7 _
 go_enter func12,ntmps12;go_upto_region 1 with (fail)
 generalize hw0:(w.alloc (.cells zG 32)).alloc (.cells #[.int .i64 1,.int .i64 2,.int .i64 3,.int .i64 1] 3)=w0 at*;unfold Ot at kc
 have bf:Rd w0 w0.heap.size 1 (some ⟨w.heap.size+1,0,none⟩) 4 (([1,2,3,1]:List Int).map Iv):=by
  rw [<- hw0] at bi ⊢;exact Rd.blk (n:=4) (size:=1) bi rfl
 go_upto_region 2 with (first
  |(go_at_call 42;(with_reducible refine (kc.out _ bf).mono ?_);rintro _ w1 ⟨A1,c1,rfl,o1,f1⟩;have bj:=f0.trans f1 zr;have be:=br.fr f1 zq)
  |(go_at_call 41;(with_reducible refine (kn.out _ _ _ _).mono ?_);rintro _ w2 ⟨rfl,f2⟩;have bc:=bj.trans f2 zr;have au:=be.fr f2 zq;have o2:=o1.fr f2 zr;have bn:=Blk.new w2 32 zG;have ad:=Ch (P:=zp) w2.heap.size 32 (cs:=#[.slice A1 4 c1,.slice none 0 0,.slice none 0 0,.slice none 0 0,.slice none 0 0]) (hG (rg0 A1 c1 (Be 0 [1,2,3,1]))) (old:=zG) rfl (by simp [Value.oneCell'])))
 have a7:=(au.alloc (.cells zG 32)).setRow_far (g':=w2.heap.size) (by have:=au.lt;omega) (cs:=#[.slice A1 4 c1,.slice none 0 0,.slice none 0 0,.slice none 0 0,.slice none 0 0]);have ba:Blk ((w2.alloc (.cells zG 32)).setRow w2.heap.size #[.slice A1 4 c1,.slice none 0 0,.slice none 0 0,.slice none 0 0,.slice none 0 0]) w2.heap.size 32 (rg0 A1 c1 (Be 0 [1,2,3,1])).cells:=bn.setRow (cs:=#[.slice A1 4 c1,.slice none 0 0,.slice none 0 0,.slice none 0 0,.slice none 0 0]);have fG:Fr Non w2 ((w2.alloc (.cells zG 32)).setRow w2.heap.size #[.slice A1 4 c1,.slice none 0 0,.slice none 0 0,.slice none 0 0,.slice none 0 0]):=((Fr.refl Non w2).alloc _).setRow (fun hh=>absurd hh (by omega)) _;have bt:w.heap.size<w2.heap.size:=au.lt;have f3:=bc.trans fG zr;have av:(rg0 A1 c1 (Be 0 [1,2,3,1])).own ((w2.alloc (.cells zG 32)).setRow w2.heap.size #[.slice A1 4 c1,.slice none 0 0,.slice none 0 0,.slice none 0 0,.slice none 0 0]) w.heap.size:=Ak4 ((RowAt.of_own (o2.fr fG zr)).lower (by omega)) (by decide) Ak8;clear ad bn au be br o1 o2 fG bj bc bf;obtain ⟨gv,bs⟩:=Aa w2.heap.size;rw [bs.out] at ba av a7 f3 bt ⊢;generalize (w2.alloc (.cells zG 32)).setRow gv #[.slice A1 4 c1,.slice none 0 0,.slice none 0 0,.slice none 0 0,.slice none 0 0]=w3 at*;have az:(rg0 A1 c1 (Be 0 [1,2,3,1])).cards=Be 0 [1,2,3,1]:=rfl;have a8:(rg0 A1 c1 (Be 0 [1,2,3,1])).l=[]:=rfl;generalize rg0 A1 c1 (Be 0 [1,2,3,1])=r0 at*;clear bi kc kn hw0 f0 bx;go_wp2_with fail
 go_loopw [4] (fun v wr=>∃(j:Nat) (r:RG),v=.int .i64 (j:Int)/\j<=14/\Blk wr gv 32 r.cells/\r.own wr w.heap.size/\r.cards=Be 0 [1,2,3,1]/\Hid (((j=0/\r.l=[])\/(0<j/\r.l≠[]))/\r.l.length<=j)/\Blk wr w.heap.size 32 zG/\Fr Non w wr) (fun v _=>14-(intOf v).toNat)
 case atStart=>exact ⟨0,r0,rfl,by omega,ba,av,az,⟨.inl ⟨rfl,a8⟩,by rw [a8];exact An7 _⟩,a7,f3⟩
 case round=>
 clear ba av az a8 a7 f3 r0;obtain ⟨j,r,rfl,hj,bn,ro,aw,ar,br,hf⟩:=hrel
 by_cases hgo:j<14/\(j=0\/4*j<n)
 ·
  have t1:decide ((j:Int)<14)=true:=decide_eq_true (by omega)
  have ht:((j:Int)==0)=true\/(((j:Int)==0)=false/\decide (4*(j:Int)<(n:Int))=true):=by
   by_cases h1:j=0
   · exact .inl (by simp [h1])
   · exact .inr ⟨by simp;omega,decide_eq_true (by omega)⟩
  have e1:=iw (4*(j:Int));obtain ⟨m,hm⟩:∃m:Nat,min n (4*j)=m:=⟨_,rfl⟩;have e2:min (n:Int) (4*(j:Int))=(m:Int):=by omega
  have e3:min (4*(j:Int)) (n:Int)=(m:Int):=by omega
  have b2:m<=n:=by omega
  go_upto_region 3 with (fail)
  go_cut [22] from 10 to 22 (fun s wc=>wr=wc/\s=.bool true)
  case first=>
   rcases ht with t2|⟨t2,t3⟩
   all_goals
    go_wp2_with fail;go_meet;exact ⟨rfl,rfl⟩
  case rest=>
  obtain ⟨rfl,rfl⟩:=hcut;clear ht;go_upto_region 5 with (fail)
  go_cut [5,6] from 25 to 38 (fun s5 s6 wc=>∃(gN:Nat) (r2:RG) (E:Int),s5=.pointer (some ⟨gN,0,none⟩)/\s6=.int .i64 E/\Blk wc gN 32 r2.cells/\r2.own wc w.heap.size/\r2.cards=Be 0 [1,2,3,1]/\Hid ((E=0->r2.l≠[])/\r2.l.length<=j+1)/\Hid (j=0->E=0)/\Fr Non wr wc/\wr.heap.size<=gN)
  case first=>
   have V0:=bn;have F0:Fr Non wr wr.drew:=(Fr.refl Non wr).drew;have ay:w.heap.size<=wr.heap.size:=hf.size
   have bk:Rd w B 1 (if c=m then A else A.map (fun x=>x.add m)) (n-m) ((l0.drop m).map Iv):=by
    rw [List.map_drop];exact Ak6 hr b2 hnc
   have kq:=lh (fun (w':World) (h':Fr Non wr w')=>kx.out r B (n-m) (c-m) (if c=m then A else A.map (fun x=>x.add m)) (l0.drop m) w' (ro.non h') aw (by show (l0.drop m).length=n-m;rw [Ap4,hn.out]) (bk.fr (hf.trans h' zr) zr) (fun x hx=>hok x (List.mem_of_mem_drop hx)))
   have aq:Hid (∀(E:Int) (r2:RG) (o:Op),E=Ah r.cards r.l o->r2.l=(if Ah r.cards r.l o=0 then r.l++[Au r.l o] else r.l)->(r.l=[]->Ah r.cards [] o=0)->((E=0->r2.l≠[])/\r2.l.length<=j+1)/\(j=0->E=0)):=by
    intro E r2 o h1 h2 h3
    have a9:r2.l.length<=j+1:=by
     have:=ar.out.2;rw [h2]
     split
     ·
      rw [Ap1,List.length_singleton];omega
     · omega
    refine ⟨⟨fun h4=> ?_,a9⟩,fun h4=> ?_⟩
    ·
     rw [<- h1,if_pos h4] at h2;rw [h2];simp
    ·
     rcases ar.out.1 with ⟨_,h5⟩|⟨h5,_⟩
     ·
      rw [h1,h5];exact h3 h5
     · omega
   have hl:=Bb (P:=zp) gv 32 underlying32 rfl (hG r);refine wp_region_held_drew (S:=fun w'=>Blk w' gv 32 r.cells) (by kernel_rfl) V0 (fun hHeld=> ?_);clear hHeld;refine tkH 0 V0 (h:=tkH 1 V0 (h:=tkH 2 V0 (h:=tkH 3 V0 (h:=tkH 4 V0 (h:=tkH 5 V0 (h:=tkH 6 V0 (h:=tkH 7 V0 (h:=tkH 8 V0 (h:=?_)))))))));simp only [zl];obtain ⟨AP,bd⟩:=Aa (if c=m then A else A.map (fun x=>x.add m));rw [bd.out] at kq ⊢;have ab:=lh aw;clear aw bk bd;refine Gi 9 14 (by kernel_rfl) rfl rfl (by kernel_rfl) (by kernel_rfl) (fun K' hK=> ?_) (fun K' hK=> ?_)
   ·
    skip
    go_simp;go_wp2_with (go_at_call 44;(with_reducible refine (kq.out _ F0).mono ?_);rintro _ v1 ⟨y,rfl,al,a6,bp,ao,_⟩;go_loud (have F1:=F0.trans bp zr;have bl:=a6.lower (base':=w.heap.size) (An3 ay F0.size)));have V1:=V0.fr F1 zq;refine hK.out _ _ V1 (fun hZ=> ?_);clear hZ hK K';try simp only [Ac,zl]
    refine Gi 10 14 (by kernel_rfl) rfl rfl (by kernel_rfl) (by kernel_rfl) (fun K' hK=> ?_) (fun K' hK=> ?_)
    ·
     skip
     go_simp;have ap:=lh (ka.out r y _ (ro.non F1) bl (An3 ay F1.size) al);unfold E2 at ap;go_wp2_with (go_at_call 43;(with_reducible refine (ap.out).mono ?_);rintro _ v2 ⟨r2,rfl,a4,a1,ak,aj⟩;go_loud (have F2:=F1.trans a4 zr));have V2:=V0.fr F2 zq;refine hK.out _ _ V2 (fun hZ=> ?_);clear hZ hK K';try simp only [Ac,zl]
     refine tkH 11 V2 (h:=tkH 12 V2 (h:=?_));simp only [zl];refine Gi 13 14 (by kernel_rfl) rfl rfl (by kernel_rfl) (by kernel_rfl) (fun K' hK=> ?_) (fun K' hK=> ?_)
     ·
      skip
      go_simp;refine hK.out _ _ V2 (fun hZ=> ?_);clear hZ hK K';try simp only [Ac,zl]
      refine oG 14 (fun K' hK=> ?_);go_simp;have ac:=Blk.new (v2) 32 zG;have F3:Fr Non wr ((v2).alloc (.cells zG 32)):=F2.alloc _;obtain ⟨ga,ag⟩:=Aa (v2).heap.size;have ah:wr.heap.size<=ga:=by rw [<- ag.out];exact F2.size
      rw [ag.out] at ac ⊢;have ai:=a1.non ((Fr.refl Non (v2)).alloc (.cells zG 32));generalize (v2).alloc (.cells zG 32)=v3 at*;have V3:=V0.fr F3 zq;refine hK.out _ _ V3 (fun hZ=> ?_);clear hZ hK K';try simp only [Ac,zl]
      refine oG 15 (fun K' hK=> ?_);have ad:=Ch (P:=zp) ga 32 (hG r2) (old:=zG) rfl (Ed r2);go_simp;have af:=ac.setRow (cs:=r2.cells);have ae:=ai.keepP (Dg r2.cells) (Types.one ac) (by decide) (by decide) (by decide) (by decide) (by decide) (by decide) (by decide) (by decide) (by decide) (by decide) (by decide) (by decide);have F4:Fr Non wr (v3.setRow ga r2.cells):=F3.setRow (fun hh=>absurd hh (by omega)) _;clear ad;generalize v3.setRow ga r2.cells=v4 at*;have V4:=V0.fr F4 zq;refine hK.out _ _ V4 (fun hZ=> ?_);clear hZ hK K';try simp only [Ac,zl]
      refine tkH 16 V4 (h:=?_);simp only [zl];refine oD ?_;go_simp;have aa:=aq.out _ r2 _ rfl aj ao;go_wp2_with fail;go_meet;exact ⟨ga,r2,_,rfl,rfl,af,ae,by rw [ak];exact ab.out,aa.1,aa.2,F4,ah⟩
     ·
      skip
      go_simp;have ac:=Blk.new (v2) 32 zG;have F3:Fr Non wr ((v2).alloc (.cells zG 32)):=F2.alloc _;obtain ⟨ga,ag⟩:=Aa (v2).heap.size;have ah:wr.heap.size<=ga:=by rw [<- ag.out];exact F2.size
      rw [ag.out] at ac ⊢;have ai:=a1.non ((Fr.refl Non (v2)).alloc (.cells zG 32));generalize (v2).alloc (.cells zG 32)=v3 at*;have V3:=V0.fr F3 zq;refine hK.out _ _ V3 (fun hZ=> ?_);clear hZ hK K';try simp only [Ac,zl]
      refine Gi 13 15 (by kernel_rfl) rfl rfl (by kernel_rfl) (by kernel_rfl) (fun K' hK=> ?_) (fun K' hK=> ?_)
      ·
       skip
       go_simp;refine hK.out _ _ V3 (fun hZ=> ?_);clear hZ hK K';try simp only [Ac,zl]
       refine oG 15 (fun K' hK=> ?_);have ad:=Ch (P:=zp) ga 32 (hG r2) (old:=zG) rfl (Ed r2);go_simp;have af:=ac.setRow (cs:=r2.cells);have ae:=ai.keepP (Dg r2.cells) (Types.one ac) (by decide) (by decide) (by decide) (by decide) (by decide) (by decide) (by decide) (by decide) (by decide) (by decide) (by decide) (by decide);have F4:Fr Non wr (v3.setRow ga r2.cells):=F3.setRow (fun hh=>absurd hh (by omega)) _;clear ad;generalize v3.setRow ga r2.cells=v4 at*;have V4:=V0.fr F4 zq;refine hK.out _ _ V4 (fun hZ=> ?_);clear hZ hK K';try simp only [Ac,zl]
       refine tkH 16 V4 (h:=?_);simp only [zl];refine oD ?_;go_simp;have aa:=aq.out _ r2 _ rfl aj ao;go_wp2_with fail;go_meet;exact ⟨ga,r2,_,rfl,rfl,af,ae,by rw [ak];exact ab.out,aa.1,aa.2,F4,ah⟩
      ·
       skip
       have ad:=Ch (P:=zp) ga 32 (hG r2) (old:=zG) rfl (Ed r2);go_simp;have af:=ac.setRow (cs:=r2.cells);have ae:=ai.keepP (Dg r2.cells) (Types.one ac) (by decide) (by decide) (by decide) (by decide) (by decide) (by decide) (by decide) (by decide) (by decide) (by decide) (by decide) (by decide);have F4:Fr Non wr (v3.setRow ga r2.cells):=F3.setRow (fun hh=>absurd hh (by omega)) _;clear ad;generalize v3.setRow ga r2.cells=v4 at*;have V4:=V0.fr F4 zq;refine hK.out _ _ V4 (fun hZ=> ?_);clear hZ hK K';try simp only [Ac,zl]
       refine oG 13 (fun K' hK=> ?_);go_simp;refine hK.out _ _ V4 (fun hZ=> ?_);clear hZ hK K';try simp only [Ac,zl]
       refine tkH 16 V4 (h:=?_);simp only [zl];refine oD ?_;go_simp;have aa:=aq.out _ r2 _ rfl aj ao;go_wp2_with fail;go_meet;exact ⟨ga,r2,_,rfl,rfl,af,ae,by rw [ak];exact ab.out,aa.1,aa.2,F4,ah⟩
    ·
     skip
     go_simp;have a2:=Blk.new (v1) 32 zG;have F2:Fr Non wr ((v1).alloc (.cells zG 32)):=F1.alloc _;obtain ⟨ga,ag⟩:=Aa (v1).heap.size;have ah:wr.heap.size<=ga:=by rw [<- ag.out];exact F1.size
     rw [ag.out] at a2 ⊢;have a5:=bl.non ((Fr.refl Non (v1)).alloc (.cells zG 32));generalize (v1).alloc (.cells zG 32)=v2 at*;have V2:=V0.fr F2 zq;refine hK.out _ _ V2 (fun hZ=> ?_);clear hZ hK K';try simp only [Ac,zl]
     refine oG 10 (fun K' hK=> ?_);go_simp;have ap:=lh (ka.out r y _ (ro.non F2) a5 (An3 ay F2.size) al);unfold E2 at ap;go_wp2_with (go_at_call 43;(with_reducible refine (ap.out).mono ?_);rintro _ v3 ⟨r2,rfl,a0,ai,ak,aj⟩;go_loud (have F3:=F2.trans a0 zr;have ac:=a2.fr a0 zq));have V3:=V0.fr F3 zq;refine hK.out _ _ V3 (fun hZ=> ?_);clear hZ hK K';try simp only [Ac,zl]
     refine tkH 11 V3 (h:=tkH 12 V3 (h:=?_));simp only [zl];refine Gi 13 15 (by kernel_rfl) rfl rfl (by kernel_rfl) (by kernel_rfl) (fun K' hK=> ?_) (fun K' hK=> ?_)
     ·
      skip
      go_simp;refine hK.out _ _ V3 (fun hZ=> ?_);clear hZ hK K';try simp only [Ac,zl]
      refine oG 15 (fun K' hK=> ?_);have ad:=Ch (P:=zp) ga 32 (hG r2) (old:=zG) rfl (Ed r2);go_simp;have af:=ac.setRow (cs:=r2.cells);have ae:=ai.keepP (Dg r2.cells) (Types.one ac) (by decide) (by decide) (by decide) (by decide) (by decide) (by decide) (by decide) (by decide) (by decide) (by decide) (by decide) (by decide);have F4:Fr Non wr (v3.setRow ga r2.cells):=F3.setRow (fun hh=>absurd hh (by omega)) _;clear ad;generalize v3.setRow ga r2.cells=v4 at*;have V4:=V0.fr F4 zq;refine hK.out _ _ V4 (fun hZ=> ?_);clear hZ hK K';try simp only [Ac,zl]
      refine tkH 16 V4 (h:=?_);simp only [zl];refine oD ?_;go_simp;have aa:=aq.out _ r2 _ rfl aj ao;go_wp2_with fail;go_meet;exact ⟨ga,r2,_,rfl,rfl,af,ae,by rw [ak];exact ab.out,aa.1,aa.2,F4,ah⟩
     ·
      skip
      have ad:=Ch (P:=zp) ga 32 (hG r2) (old:=zG) rfl (Ed r2);go_simp;have af:=ac.setRow (cs:=r2.cells);have ae:=ai.keepP (Dg r2.cells) (Types.one ac) (by decide) (by decide) (by decide) (by decide) (by decide) (by decide) (by decide) (by decide) (by decide) (by decide) (by decide) (by decide);have F4:Fr Non wr (v3.setRow ga r2.cells):=F3.setRow (fun hh=>absurd hh (by omega)) _;clear ad;generalize v3.setRow ga r2.cells=v4 at*;have V4:=V0.fr F4 zq;refine hK.out _ _ V4 (fun hZ=> ?_);clear hZ hK K';try simp only [Ac,zl]
      refine oG 13 (fun K' hK=> ?_);go_simp;refine hK.out _ _ V4 (fun hZ=> ?_);clear hZ hK K';try simp only [Ac,zl]
      refine tkH 16 V4 (h:=?_);simp only [zl];refine oD ?_;go_simp;have aa:=aq.out _ r2 _ rfl aj ao;go_wp2_with fail;go_meet;exact ⟨ga,r2,_,rfl,rfl,af,ae,by rw [ak];exact ab.out,aa.1,aa.2,F4,ah⟩
   ·
    skip
    go_simp;have a3:=Blk.new (wr) 32 zG;have F1:Fr Non wr ((wr).alloc (.cells zG 32)):=(Fr.refl Non wr).alloc _;obtain ⟨ga,ag⟩:=Aa (wr).heap.size;have ah:wr.heap.size<=ga:=by rw [<- ag.out];exact An7 _
    rw [ag.out] at a3 ⊢;replace a3:=a3.drew;replace F1:=F1.drew;generalize ((wr).alloc (.cells zG 32)).drew=v1 at*;have V1:=V0.fr F1 zq;refine hK.out _ _ V1 (fun hZ=> ?_);clear hZ hK K';try simp only [Ac,zl]
    refine oG 9 (fun K' hK=> ?_);go_simp;go_wp2_with (go_at_call 44;(with_reducible refine (kq.out _ F1).mono ?_);rintro _ v2 ⟨y,rfl,al,a6,a4,ao,_⟩;go_loud (have F2:=F1.trans a4 zr;have a5:=a6.lower (base':=w.heap.size) (An3 ay F1.size);have a2:=a3.fr a4 zq));have V2:=V0.fr F2 zq;refine hK.out _ _ V2 (fun hZ=> ?_);clear hZ hK K';try simp only [Ac,zl]
    refine oG 10 (fun K' hK=> ?_);go_simp;have ap:=lh (ka.out r y _ (ro.non F2) a5 (An3 ay F2.size) al);unfold E2 at ap;go_wp2_with (go_at_call 43;(with_reducible refine (ap.out).mono ?_);rintro _ v3 ⟨r2,rfl,a0,ai,ak,aj⟩;go_loud (have F3:=F2.trans a0 zr;have ac:=a2.fr a0 zq));have V3:=V0.fr F3 zq;refine hK.out _ _ V3 (fun hZ=> ?_);clear hZ hK K';try simp only [Ac,zl]
    refine tkH 11 V3 (h:=tkH 12 V3 (h:=?_));simp only [zl];refine Gi 13 15 (by kernel_rfl) rfl rfl (by kernel_rfl) (by kernel_rfl) (fun K' hK=> ?_) (fun K' hK=> ?_)
    ·
     skip
     go_simp;refine hK.out _ _ V3 (fun hZ=> ?_);clear hZ hK K';try simp only [Ac,zl]
     refine oG 15 (fun K' hK=> ?_);have ad:=Ch (P:=zp) ga 32 (hG r2) (old:=zG) rfl (Ed r2);go_simp;have af:=ac.setRow (cs:=r2.cells);have ae:=ai.keepP (Dg r2.cells) (Types.one ac) (by decide) (by decide) (by decide) (by decide) (by decide) (by decide) (by decide) (by decide) (by decide) (by decide) (by decide) (by decide);have F4:Fr Non wr (v3.setRow ga r2.cells):=F3.setRow (fun hh=>absurd hh (by omega)) _;clear ad;generalize v3.setRow ga r2.cells=v4 at*;have V4:=V0.fr F4 zq;refine hK.out _ _ V4 (fun hZ=> ?_);clear hZ hK K';try simp only [Ac,zl]
     refine tkH 16 V4 (h:=?_);simp only [zl];refine oD ?_;go_simp;have aa:=aq.out _ r2 _ rfl aj ao;go_wp2_with fail;go_meet;exact ⟨ga,r2,_,rfl,rfl,af,ae,by rw [ak];exact ab.out,aa.1,aa.2,F4,ah⟩
    ·
     skip
     have ad:=Ch (P:=zp) ga 32 (hG r2) (old:=zG) rfl (Ed r2);go_simp;have af:=ac.setRow (cs:=r2.cells);have ae:=ai.keepP (Dg r2.cells) (Types.one ac) (by decide) (by decide) (by decide) (by decide) (by decide) (by decide) (by decide) (by decide) (by decide) (by decide) (by decide) (by decide);have F4:Fr Non wr (v3.setRow ga r2.cells):=F3.setRow (fun hh=>absurd hh (by omega)) _;clear ad;generalize v3.setRow ga r2.cells=v4 at*;have V4:=V0.fr F4 zq;refine hK.out _ _ V4 (fun hZ=> ?_);clear hZ hK K';try simp only [Ac,zl]
     refine oG 13 (fun K' hK=> ?_);go_simp;refine hK.out _ _ V4 (fun hZ=> ?_);clear hZ hK K';try simp only [Ac,zl]
     refine tkH 16 V4 (h:=?_);simp only [zl];refine oD ?_;go_simp;have aa:=aq.out _ r2 _ rfl aj ao;go_wp2_with fail;go_meet;exact ⟨ga,r2,_,rfl,rfl,af,ae,by rw [ak];exact ab.out,aa.1,aa.2,F4,ah⟩
  case rest=>
  obtain ⟨gN,r2,E,rfl,rfl,bN,a1,ab,bh,bq,f2,b3⟩:=hcut;have bb:=bn.fr f2 zq;have au:=br.fr f2 zq;have bg:=hf.trans f2 zr;have bu:=ro.non f2;clear bn br ro f2 hf kx ka
  by_cases hE:E=0
  ·
   have tE:(E==0)=true:=by simp [hE]
   have aj:=Bb (P:=zp) gN 32 underlying32 rfl (hG r2);have bm:=Ch (P:=zp) gv 32 (hG r2) (old:=r.cells) rfl (Ed r2);have bz:=bb.setRow (cs:=r2.cells);have bw:=au.setRow_far (g':=gv) (by omega) (cs:=r2.cells);have fz:=bg.setRow (g:=gv) (fun hh=>absurd hh (by omega)) r2.cells;have b1:=a1.keepP (Dg r2.cells) (Types.one bb) (by decide) (by decide) (by decide) (by decide) (by decide) (by decide) (by decide) (by decide) (by decide) (by decide) (by decide) (by decide);have ax:=bh.out.1 hE;go_wp2_with fail;go_roundw
   case rel=>exact ⟨j+1,r2,by go_num,by omega,bz,b1,ab,⟨.inr ⟨by omega,ax⟩,bh.out.2⟩,bw,fz⟩
   case measure=>simp [intOf];omega
  ·
   have tE:(E==0)=false:=by simp [hE]
   have b0:¬j=0:=fun e=>hE (bq.out e)
   have ax:r.l≠[]:=by
    rcases ar.out.1 with ⟨h1,_⟩|⟨_,h1⟩
    · exact absurd h1 b0
    · exact h1
   go_wp2_with fail;go_roundw
   case rel=>exact ⟨j+1,r,by go_num,by omega,bb,bu,aw,⟨.inr ⟨by omega,ax⟩,Nat.le_succ_of_le ar.out.2⟩,au,bg⟩
   case measure=>simp [intOf];omega
 ·
  have ax:r.l≠[]:=by
   rcases ar.out.1 with ⟨h1,_⟩|⟨_,h1⟩
   · exact absurd ⟨by omega,.inl h1⟩ hgo
   · exact h1
  have hd:Hid (Mb w (.returned (.agg r.cells)) (wr.setRow w.heap.size r.cells)):=
   ⟨r,rfl,hf.setRow (g:=w.heap.size) (fun hh=>absurd hh (by omega)) r.cells,ro.keepP (Dg r.cells) (Types.one br) (by decide) (by decide) (by decide) (by decide) (by decide) (by decide) (by decide) (by decide) (by decide) (by decide) (by decide) (by decide),aw,ax,An3 ar.out.2 (by omega)⟩
  have ht:decide ((j:Int)<14)=false\/(decide ((j:Int)<14)=true/\((j:Int)==0)=false/\decide (4*(j:Int)<(n:Int))=false):=by
   by_cases h1:j<14
   · exact .inr ⟨decide_eq_true (by omega),by simp;omega,decide_eq_false (by omega)⟩
   · exact .inl (decide_eq_false (by omega))
  have hl:=Bb (P:=zp) gv 32 underlying32 rfl (hG r);have ad:=Ch (P:=zp) w.heap.size 32 (hG r) (old:=zG) rfl (Ed r);have bo:=hG r;have bv:=br.setRow (cs:=r.cells);clear ar ax ro aw hgo kx ka hok hr hn;generalize Mb w=POST at*;generalize r.cells=CS at*
  rcases ht with t1|⟨t1,t2,t3⟩
  all_goals
   go_wp2_with fail
   (try simp only [Exit.inBlock,Exit.then])
   refine C8 (t:=32) rfl rfl bv rfl underlying32 bo rfl ?_;exact hd.out
theorem Al0 (B n c:Nat) (A:Option Addr) (l0:List Int) (w:World) (hn:Hid (l0.length=n)) (hr:Rd w B 1 A n (l0.map Iv)) (hnc:n<=c) (hnm:c<=9223372036854775807) (hok:∀x∈l0,I64 x):
  Calls zp 12 #[.slice A n c] w (Ak7 w):=
 (Ak9 B n c A l0 w hn hr hnc hnm hok).mono fun _ _ ⟨r,h1,h2,h3,h4,h5,_⟩=>⟨r,h1,h2,h3,h4,h5⟩
end Oq
namespace Oq
end Oq
namespace Oq
attribute [local go_sem ↓] Cg Ej
attribute [local go_sem] Ao8 Ao9
def crL (b:Int):OpL:={OpL.zero with by_:=b,sq:=1,kind:=1}
theorem R4 (b:Int):(crL b).op=G9 b:=rfl
theorem R7 (b:Int) (w:World) (base:Nat):(crL b).own w base:=
 ⟨RowAt.nil _ _ _ _,RowAt.nil _ _ _ _,(fun _ h=>absurd h An4),RowAt.nil _ _ _ _,RowAt.nil _ _ _ _,RowAt.nil _ _ _ _,RowAt.nil _ _ _ _,RowAt.nil _ _ _ _,(fun _ h=>absurd h An4)⟩
theorem Jf (b : Int) (hb : 1 <= b /\ b <= 12) : (G9 b).ok :=
  ⟨⟨by show _ <= b; omega, by show b <= _; omega⟩, I9, I9, Ck, ⟨An5 _, fun _ h => absurd h An4⟩, Ck, Ck, Ck, Ck,
   ⟨An5 _, fun _ h => absurd h An4⟩, ⟨Ck, Ck, Dn⟩, Ck, An5 _, ⟨An5 _, fun _ h => absurd h An4⟩, ⟨Ck, Ck, Dn⟩,
   ⟨An5 _, fun _ h => absurd h An4⟩, Ck, Ck, ⟨An5 _, fun _ h => absurd h An4⟩, Dn, ⟨An5 _, fun _ h => absurd h An4⟩, Dn, Dn⟩
def Al1 (w:World) (r:Ending) (w':World):Prop:=∃y:OpL,r=.returned (.agg y.cells)/\y.op=sgn (G9 1)/\(∀wz base,y.own wz base)/\Fr Non w w'
theorem Al2 (w:World):Calls zp 15 #[.agg #[.int .i64 1,.int .i64 1,.int .i64 1,.int .i64 0,.slice none 0 0,.int .i64 0,.int .i64 0,.int .i64 0,.int .i64 0,.slice none 0 0,.int .i64 0,.int .i64 0,.int .u64 0,.int .i64 0,.slice none 0 0,.slice none 0 0,.int .i64 0,.int .i64 0,.int .u64 0,.slice none 0 0,.int .i64 0,.int .i64 0,.slice none 0 0,.int .u64 0,.slice none 0 0,.int .u64 0,.int .u64 0]] w (Al1 w):=by
 have h:=Ko (crL 1) 1 w (by rw [show (crL 1).by_=1 from rfl,IntKind.wrap_u64];rfl) (by decide) (R7 1 w 0).at (by rw [R4];exact Jf 1 (by decide));refine Calls.mono h ?_;rintro r w' ⟨h1,h2⟩;exact ⟨_,h1,Ls _ _ (R4 1) 1 rfl _ rfl,(fun wz base=>Jb (R7 1 wz base) _ _),h2⟩
theorem Jg {g:Gph} {l:List Pn} (hl:g.pns=l) {i:Nat} {p:Pn} (h:l[i]? =some p):∃n,g.nodes[i]? =some n/\n.pn=p:=by
 subst hl;unfold Gph.pns at h;rw [Ap0] at h;exact Option.map_eq_some_iff.1 h
theorem Gj (y:OpL) (nm:Id) (hn:y.op.name=nm) (w:World) (hat:y.at w w.heap.size) (hok:y.op.ok):Calls zp 57 #[.agg y.cells] w fun e w'=>e=.returned (.agg nm.V)/\Fr Non w w':=by
 have k:=Of y w hat hok;obtain ⟨b,s,u⟩:=nm;unfold Op.name at hn;injection hn with h1 h2 h3
 rw [h3,show y.by_=b from h1,show y.sq=s from h2] at k;exact k
theorem R9 (x:Id):An [x]=[x]:=rfl
end Oq
namespace Oq
def lA:Op:=G9 1
def lB:Op:=Du 1 2 0 [lA.name]
def lC:Op:=Du 2 1 3 [lA.name]
def lD:Op:=Du 2 2 3 [lB.name,lC.name]
def pA:Pn:=⟨sgn lA,lA.name,fun _=>false,1⟩
def pB:Pn:=⟨sgn lB,lB.name,fun q=>q==0,2⟩
def pC:Pn:=⟨sgn lC,lC.name,fun q=>q==0,2⟩
def pD:Pn:=⟨sgn lD,lD.name,fun q=>decide (q<3),3⟩
theorem Gk {o p:Op} (h:o.by_≠p.by_\/o.sq≠p.sq):o.name≠p.name:=by
 intro e;have h1:o.name.b=p.name.b:=by rw [e]
 have h2:o.name.s=p.name.s:=by rw [e]
 rcases h with h|h
 · exact h h1
 · exact h h2
theorem neAB:lA.name≠lB.name:=Gk (.inr (by decide))
theorem neAC:lA.name≠lC.name:=Gk (.inl (by decide))
theorem Mc:lA.name≠lD.name:=Gk (.inl (by decide))
theorem neBC:lB.name≠lC.name:=Gk (.inl (by decide))
theorem Md:lB.name≠lD.name:=Gk (.inl (by decide))
theorem neCD:lC.name≠lD.name:=Gk (.inr (by decide))
theorem Al3:lA.chk=0:=Af8 (by decide)
theorem Sa:lA.name.named=true:=Lq (by decide) (by decide)
theorem Al4:lB.chk=0:=Lp (by decide) (by decide) (by decide) ⟨by simp,by simpa using Sa,Ao1 _ _,by simp⟩
theorem Al5:lC.chk=0:=Lp (by decide) (by decide) (by decide) ⟨by simp,by simpa using Sa,Ao1 _ _,by simp⟩
theorem Al6:lB.name.named=true:=Lq (by decide) (by decide)
theorem Al7:lC.name.named=true:=Lq (by decide) (by decide)
theorem Sb:Id.less lB.name lC.name=true:=by
 unfold Id.less;rw [if_neg (by show ¬(1:Int)=2;decide)];rfl
theorem Me:lD.chk=0:=Lp (by decide) (by decide) (by decide) ⟨by simp,by simpa using ⟨Al6,Al7⟩,by
 refine List.pairwise_cons.2 ⟨fun x hx=> ?_,Ao1 _ _⟩;obtain rfl:=List.mem_singleton.1 hx;exact Sb,by simp⟩
theorem Al8:An [lB.name,lC.name]=[lB.name,lC.name]:=by
 refine (Nl ?_ (List.Perm.refl _)).symm;refine List.pairwise_cons.2 ⟨fun x hx=> ?_,Ao1 _ _⟩;obtain rfl:=List.mem_singleton.1 hx;exact Id.less_as Sb
theorem Dh {p:Pn} {l:List Pn} {id:Id} (h:p.id≠id):plc (p::l) id=(plc l id).map (· +1):=by
 unfold plc;rw [Ap5];simp [h]
theorem Jh {p:Pn} {l:List Pn} {id:Id} (h:p.id=id):plc (p::l) id=some 0:=by
 unfold plc;rw [Ap5];simp [h]
theorem plA (l:List Pn):plc (pA::l) lA.name=some 0:=Jh rfl
theorem plB (l:List Pn):plc (pA::pB::l) lB.name=some 1:=by rw [Dh neAB,Jh (p:=pB) (id:=lB.name) rfl];rfl
theorem plC (l:List Pn):plc (pA::pB::pC::l) lC.name=some 2:=by rw [Dh neAC,Dh neBC,Jh (p:=pC) (id:=lC.name) rfl];rfl
theorem plD (l:List Pn):plc (pA::pB::pC::pD::l) lD.name=some 3:=by rw [Dh Mc,Dh Md,Dh neCD,Jh (p:=pD) (id:=lD.name) rfl];rfl
theorem nlB:plc [pA] lB.name=none:=by rw [Dh neAB];rfl
theorem nlC:plc [pA,pB] lC.name=none:=by rw [Dh neAC,Dh neBC];rfl
theorem nlD2:plc [pA,pB] lD.name=none:=by rw [Dh Mc,Dh Md];rfl
theorem nlD3:plc [pA,pB,pC] lD.name=none:=by rw [Dh Mc,Dh Md,Dh neCD];rfl
theorem Mf:pA.o.by_=1:=I5 _
theorem Sc:pB.o.by_=1:=I5 _
theorem pC_by:pC.o.by_=2:=I5 _
theorem pA_sq:pA.o.sq=1:=Rl _
theorem pC_sq:pC.o.sq=1:=Rl _
theorem pA_at:pA.o.at_=0:=Lo _
theorem pB_at:pB.o.at_=0:=Lo _
theorem pC_at:pC.o.at_=3:=Lo _
theorem upA (l:List Pn) (q:Nat):upB (pA::l) lA.name q=false:=by unfold upB;rw [plA];rfl
theorem atA (l:List Pn):Ca (pA::l) lA.name=0:=by unfold Ca;rw [plA];exact pA_at
theorem lvA (l:List Pn):Cr (pA::l) lA.name=1:=by unfold Cr;rw [plA];rfl
theorem parA (l:List Pn) (q:Nat):Bu (pA::l) [lA.name] q=(q==0):=by
 unfold Bu;simp only [Ao2,Ao3,Ao4,plA]
 cases q<;>rfl
theorem abvA (l:List Pn) (q:Nat):Av (pA::l) [lA.name] q=false:=by
 unfold Av;simp only [Ao2,Ao3,Ao4,upA]
theorem psA (l:List Pn):Aj (pA::l) [lA.name]=fun q=>q==0:=by
 funext q;unfold Aj;rw [parA,abvA]
 cases q with
 |zero=>rfl
 |succ q=>simp
theorem clA (l:List Pn):clash (pA::l) [lA.name]=false:=by
 unfold clash;rw [Ap6];intro q _;rw [abvA];simp
theorem ltA (l:List Pn):late (pA::l) [lA.name]=0:=by
 unfold late;simp only [Ao5,Ao6,atA];rfl
theorem llA (l:List Pn):lvl (pA::l) [lA.name]=2:=by
 unfold lvl;simp only [Ao5,Ao6,lvA];rfl
theorem parD (q:Nat):Bu [pA,pB,pC] [lB.name,lC.name] q=(q==1||q==2):=by
 unfold Bu;simp only [Ao2,Ao3,Ao4,plB,plC]
 match q with
 |0=>rfl
 |1=>rfl
 |2=>rfl
 |q+3=>rfl
theorem abvD (q:Nat):Av [pA,pB,pC] [lB.name,lC.name] q=(q==0):=by
 unfold Av upB;simp only [Ao2,Ao3,Ao4,plB,plC];show ((q==0)||(q==0))=_;simp
theorem psD:Aj [pA,pB,pC] [lB.name,lC.name]=fun q=>decide (q<3):=by
 funext q;unfold Aj;rw [parD,abvD]
 match q with
 |0=>rfl
 |1=>rfl
 |2=>rfl
 |q+3=>simp
theorem clD:clash [pA,pB,pC] [lB.name,lC.name]=false:=by
 unfold clash;rw [Ap6];intro q _;rw [parD,abvD]
 match q with
 |0=>simp
 |1=>simp
 |2=>simp
 |q+3=>simp
theorem ltD:late [pA,pB,pC] [lB.name,lC.name]=3:=by
 have e1:Ca [pA,pB,pC] lB.name=0:=by unfold Ca;rw [plB];exact pB_at
 have e2:Ca [pA,pB,pC] lC.name=3:=by unfold Ca;rw [plC];exact pC_at
 unfold late;simp only [Ao5,Ao6,e1,e2];rfl
theorem llD:lvl [pA,pB,pC] [lB.name,lC.name]=3:=by
 have e1:Cr [pA,pB,pC] lB.name=2:=by unfold Cr;rw [plB];rfl
 have e2:Cr [pA,pB,pC] lC.name=2:=by unfold Cr;rw [plC];rfl
 unfold lvl;simp only [Ao5,Ao6,e1,e2];rfl
theorem Mg (p:Nat->Bool) (d:Int) (n:Pn) (l:List Pn):Bj (n::l) p d 1=if (n.o.by_==d&&p 0)=true then max 0 n.o.sq else 0:=rfl
theorem Sd (p:Nat->Bool) (d:Int) (n m:Pn) (l:List Pn):Bj (n::m::l) p d 2=if (m.o.by_==d&&p 1)=true then max (Bj (n::m::l) p d 1) m.o.sq else Bj (n::m::l) p d 1:=rfl
theorem last3 (p:Nat->Bool) (d:Int) (n m k:Pn) (l:List Pn):Bj (n::m::k::l) p d 3=if (k.o.by_==d&&p 2)=true then max (Bj (n::m::k::l) p d 2) k.o.sq else Bj (n::m::k::l) p d 2:=rfl
theorem ah1 (p:Nat->Bool) (d s:Int) (n:Pn) (l:List Pn):Bt (n::l) p d s 1=(false||(n.o.by_==d&&p 0&&n.o.sq==s-1)):=rfl
theorem ah3 (p:Nat->Bool) (d s:Int) (n m k:Pn) (l:List Pn):Bt (n::m::k::l) p d s 3=(Bt (n::m::k::l) p d s 2||(k.o.by_==d&&p 2&&k.o.sq==s-1)):=rfl
theorem sqbB:Ba [pA] (fun q=>q==0) lB=false:=by
 unfold Ba;rw [show lB.by_=1 from rfl,show lB.sq=2 from rfl,show [pA].length=1 from rfl,Mg,ah1,Mf,pA_sq];rfl
theorem sqbC:Ba [pA,pB] (fun q=>q==0) lC=false:=by
 unfold Ba;rw [show lC.by_=2 from rfl,show lC.sq=1 from rfl,show [pA,pB].length=2 from rfl,Sd,Mg,Mf,Sc];rfl
theorem sqbD:Ba [pA,pB,pC] (fun q=>decide (q<3)) lD=false:=by
 unfold Ba;rw [show lD.by_=2 from rfl,show lD.sq=2 from rfl,show [pA,pB,pC].length=3 from rfl,last3,Sd,Mg,ah3,Mf,Sc,pC_by,pC_sq];simp
 decide
section
variable {cs : List Cd} {c1 c2 : Cd}
theorem addA0 (h1:Bk cs 1=some c1) (s1:c1.s=Sg.pub (sec Bd 1)):Ah cs [] (sgn lA)=0:=
 G8 (c:=c1) Al3 rfl (by simp) h1 s1 (.inr rfl) rfl (by show clash [] []=false;unfold clash Bu;simp) (Ao0 _) rfl
theorem addB0 (h1:Bk cs 1=some c1) (s1:c1.s=Sg.pub (sec Bd 1)):Ah cs [pA] (sgn lB)=0:=
 G8 (c:=c1) Al4 nlB (by simp) h1 s1 (.inl (by show (8:Int)≠1;decide)) (by show [lA.name].any _=false;simp [plA]) (clA []) (by show late [pA] [lA.name]<=0;rw [ltA];exact Ao0 _) (by show Ba [pA] (Aj [pA] [lA.name]) lB=false;rw [psA];exact sqbB)
theorem addC0 (h2:Bk cs 2=some c2) (s2:c2.s=Sg.pub (sec Bd 2)):Ah cs [pA,pB] (sgn lC)=0:=
 G8 (c:=c2) Al5 nlC (by simp) h2 s2 (.inl (by show (8:Int)≠1;decide)) (by show [lA.name].any _=false;simp [plA]) (clA [pB]) (by show late [pA,pB] [lA.name]<=3;rw [ltA];decide) (by show Ba [pA,pB] (Aj [pA,pB] [lA.name]) lC=false;rw [psA];exact sqbC)
theorem Al9 (h2:Bk cs 2=some c2) (s2:c2.s=Sg.pub (sec Bd 2)):Ah cs [pA,pB] (sgn lD)=10:=
 Af6 (c:=c2) Me nlD2 (by simp) h2 s2 (.inl (by show (8:Int)≠1;decide)) (by show [lB.name,lC.name].any _=true;simp [nlC])
theorem addD0 (h2:Bk cs 2=some c2) (s2:c2.s=Sg.pub (sec Bd 2)):Ah cs [pA,pB,pC] (sgn lD)=0:=
 G8 (c:=c2) Me nlD3 (by simp) h2 s2 (.inl (by show (8:Int)≠1;decide)) (by show [lB.name,lC.name].any _=false;simp [plB,plC]) clD (by show late [pA,pB,pC] [lB.name,lC.name]<=3;rw [ltD];exact Ao0 _) (by show Ba [pA,pB,pC] (Aj [pA,pB,pC] [lB.name,lC.name]) lD=false;rw [psD];exact sqbD)
theorem addD5:Ah cs [pA,pB,pC,pD] (sgn lD)=5:=Af7 (by rw [Af5];exact Me) (by rw [Gf,plD];rfl)
end
theorem Ji (l:List Pn) (o:Op):Au l (sgn o)=⟨sgn o,o.name,Aj l o.past,lvl l o.past⟩:=by
 unfold Au;rw [Gf,Rm]
theorem pnA:Au [] (sgn lA)=pA:=by
 rw [Ji]
 have e:Aj [] lA.past=fun _=>false:=by
  funext q;show Aj [] [] q=false;unfold Aj Av Bu;simp
 rw [e];rfl
theorem pnB:Au [pA] (sgn lB)=pB:=by
 have e1:Aj [pA] lB.past=fun q=>q==0:=psA [];have e2:lvl [pA] lB.past=2:=llA [];rw [Ji,e1,e2];rfl
theorem pnC:Au [pA,pB] (sgn lC)=pC:=by
 have e1:Aj [pA,pB] lC.past=fun q=>q==0:=psA [pB];have e2:lvl [pA,pB] lC.past=2:=llA [pB];rw [Ji,e1,e2];rfl
theorem pnD:Au [pA,pB,pC] (sgn lD)=pD:=by
 have e1:Aj [pA,pB,pC] lD.past=fun q=>decide (q<3):=psD;have e2:lvl [pA,pB,pC] lD.past=3:=llD;rw [Ji,e1,e2];rfl
end Oq
end Go.Proofs.YtihfebhfgliojaaGreatDoor
