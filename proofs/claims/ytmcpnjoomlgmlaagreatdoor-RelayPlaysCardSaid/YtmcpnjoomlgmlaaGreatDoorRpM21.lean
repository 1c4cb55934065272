/- Contracts of functions, walked (part 21).
Conditions: as each theorem says. -/
import Derived.Test.YtmcpnjoomlgmlaaGreatDoorRpM20
set_option maxRecDepth 100000
set_option maxHeartbeats 16000000
open Bool renaming not_false->A70,not_true->A71,noConfusion->A78
open List renaming getElem?_eq_getElem->A60,length_append->A61,map_append->A64,nil_append->A65,mem_of_mem_take->A66,length_map->A68,mem_of_mem_drop->A72,mem_of_getElem?->A73,getElem?_map->A74,contains_iff_mem->A75,take_of_length_le->A76,length_drop->A77,length_eraseIdx_of_lt->A79,length_singleton->A80,length_take->A81,filter_append->A82,map_singleton->A83
open Nat renaming le_refl->A59,zero_add->A63,le_trans->A67,zero_le->A69
open Go.World renaming size_alloc->A62
open Go.Proofs.Tryz
open Go.Proofs.Tryz renaming prog->zp
open Go.Lib renaming hid->lh
open List renaming set->zl
open Go.Ending renaming returned->ze
namespace Go.Proofs.YtmcpnjoomlgmlaaGreatDoor
section
open Go.RowKit
attribute [local go_sem ↓] Go.wp_at_zero Go.wp_at_succ
namespace Oq
attribute [local go_sem] A70 A71
attribute [local go_sem ↓] Gi Ly Vz
variable {l:List Pn} {s:List Nat × List (Nat × Bool)} {q:Nat × Bool}
theorem A36 (h:s.1.contains q.1=true\/s.2.any (fun x=>x.1==q.1)=true):C9 l s q=(5,s):=by unfold C9;rw [if_pos h]
theorem A37 (h1:s.1.contains q.1=false) (h2:s.2.any (fun x=>x.1==q.1)=false) (h:Bt l s.1 q.1=false):C9 l s q=(0,(s.1,s.2++[q])):=by
 unfold C9;rw [if_neg (by rw [h1,h2];simp),if_pos h]
theorem A38 (h1:s.1.contains q.1=false) (h2:s.2.any (fun x=>x.1==q.1)=false) (h:Bt l s.1 q.1=true) (hb:q.2=true):C9 l s q=(12,s):=by
 unfold C9;rw [if_neg (by rw [h1,h2];simp),if_neg (by rw [h];exact fun e=>A78 e),if_pos hb]
theorem A39 (h1:s.1.contains q.1=false) (h2:s.2.any (fun x=>x.1==q.1)=false) (h:Bt l s.1 q.1=true) (hb:q.2=false):C9 l s q=(0,Fg l s.2.length (s.1++[q.1]) s.2):=by
 unfold C9;rw [if_neg (by rw [h1,h2];simp),if_neg (by rw [h];exact fun e=>A78 e),if_neg (by rw [hb];exact Bool.false_ne_true)]
theorem A40 {l:List Pn} {K:List Nat} {W:List (Nat × Bool)} (h:nxI l K W<0) (f:Nat):Fg l f K W=(K,W):=by
 cases f with
 |zero=>rfl
 |succ f=>
  unfold Fg;unfold nxI at h
  cases e:W.findIdx? (fun q=>Bt l K q.1) with
  |none=>rfl
  |some i=>rw [e] at h;dsimp only at h;omega
theorem A41 {l:List Pn} {K:List Nat} {W:List (Nat × Bool)} {f:Nat} (h:0<=nxI l K W) (hf:W.length<=f):∃(i:Nat) (q:Nat × Bool) (f':Nat),nxI l K W=(i:Int)/\W[i]? =some q/\f=f'+1/\Fg l f K W=Fg l f' (if q.2=true then K else K++[q.1]) (W.eraseIdx i):=by
 unfold nxI at h ⊢
 cases e:W.findIdx? (fun q=>Bt l K q.1) with
 |none=>rw [e] at h;exact absurd h (show ¬(0:Int)<= -1 by decide)
 |some i=>
  dsimp only;have hi:=(List.findIdx?_eq_some_iff_getElem.1 e).1;obtain ⟨f',rfl⟩:∃f',f=f'+1:=⟨f-1,by omega⟩;refine ⟨i,W[i],f',rfl,A60 hi,rfl,?_⟩;conv=>lhs;unfold Fg
  rw [e];dsimp only;rw [A60 hi]
theorem V9 (B n c:Nat) (A:Option Addr) (K:List Nat) (p:Nat) (w:World) (hn:Hid (K.length=n)) (hr:Rd w B 1 A n (K.map Qv)) (hnm:n<=1000000):
  Calls zp 37 #[.slice A n c,.int .i64 (p:Int)] w (Ae (K.contains p) w):=by
 have e:(K.map (fun q:Nat=>(q:Int))).map Iv=K.map Qv:=by rw [List.map_map];rfl
 have:=Un B n c A (K.map (fun q:Nat=>(q:Int))) (p:Int) w (by show _=_;rw [A68];exact hn.out) (by rw [e];exact hr) hnm
 have e2:(K.map (fun q:Nat=>(q:Int))).contains (p:Int)=K.contains p:=by
  rw [Bool.eq_iff_iff,A75,A75,List.mem_map];constructor
  ·
   rintro ⟨q,hq,e⟩;have:q=p:=by omega
   rwa [<- this]
  · exact fun h=>⟨p,h,rfl⟩
 rw [e2] at this;exact this
theorem A42 (B n c:Nat) (A:Option Addr) (W:List (Nat × Bool)) (p:Nat) (w:World) (hn:Hid (W.length=n)) (hr:Rd w B 1 A n (W.map (fun q=>Qv q.1))) (hnm:n<=1000000):
  Calls zp 37 #[.slice A n c,.int .i64 (p:Int)] w (Ae (W.any (fun x=>x.1==p)) w):=by
 have:=V9 B n c A (W.map Prod.fst) p w (by show _=_;rw [A68];exact hn.out) (by rw [List.map_map];exact hr) hnm
 have e2:(W.map Prod.fst).contains p=W.any (fun x=>x.1==p):=by
  rw [Bool.eq_iff_iff,A75,List.mem_map,List.any_eq_true];exact exists_congr (fun x=>and_congr_right (fun _=>by rw [beq_iff_eq]))
 rw [e2] at this;exact this
structure TkS (w0 w:World) (gb:Nat) (CG cs:Array Value):Prop where
 bg:Blk w gb 28 CG
 br:Blk w (gb+1) 34 cs
 bz:Blk w (gb+2) 34 #[.slice none 0 0,.slice none 0 0,.slice none 0 0]
 fr:Fr Non w0 w
 low:w0.heap.size<=gb
theorem TkS.non {w0 w w':World} {gb:Nat} {CG cs:Array Value} (h:TkS w0 w gb CG cs) (hf:Fr Non w w'):TkS w0 w' gb CG cs:=⟨h.bg.fr hf zq,h.br.fr hf zq,h.bz.fr hf zq,h.fr.trans hf zr,h.low⟩
theorem TkS.set {w0 w:World} {gb:Nat} {CG cs:Array Value} (h:TkS w0 w gb CG cs) (j:Nat) (v:Value):TkS w0 (w.setCell ⟨gb+1,j,none⟩ v) gb CG (cs.setIfInBounds j v):=⟨h.bg.far (p:=⟨gb+1,j,none⟩) (show gb≠gb+1 by omega) v,h.br.set j v,h.bz.far (p:=⟨gb+1,j,none⟩) (show gb+2≠gb+1 by omega) v,h.fr.setNew (by have:=h.low;omega) j v,h.low⟩
theorem TkS.row {w0 w:World} {gb base size n c:Nat} {CG cs:Array Value} {t:TypeId} {A:Option Addr} {xs:List Value} (h:TkS w0 w gb CG cs) (hr:RowAt w base t size A n c xs) (ht:¬t=34) (j:Nat) (v:Value):RowAt (w.setCell ⟨gb+1,j,none⟩ v) base t size A n c xs:=hr.keepT ((Fr.refl (One (gb+1)) w).setOne j v) ((Types.one h.br).not ht)
def Ih (gb:Nat) (w:World):Nat:=match w.cell? ⟨gb+1,1,none⟩ with|some (.slice _ n _)=>n|_=>0
theorem TkS.wt {w0 w:World} {gb:Nat} {CG:Array Value} {s:RT} (h:TkS w0 w gb CG s.cells):Ih gb w=s.W.length:=by
 unfold Ih;have e:cS w (gb+1) 1 s.wA s.W.length s.wC:=h.br.cell 1;rw [e]
theorem Pc (W:List (Nat × Bool)):∀u∈W.map Tv,u.oneCell'=true:=by
 intro u hu;obtain ⟨q,_,rfl⟩:=List.mem_map.1 hu;rfl
theorem Ke (W:List (Nat × Bool)):∀u∈W.map (fun q=>Qv q.1),u.oneCell'=true:=by
 intro u hu;obtain ⟨q,_,rfl⟩:=List.mem_map.1 hu;rfl
def RT.wait1 (r:RT) (A:Option Addr) (c:Nat) (A':Option Addr) (c':Nat) (q:Nat × Bool):RT:={r with wA:=A,wC:=c,bA:=A',bC:=c',W:=r.W++[q]}
theorem RT.wait1_cells (r:RT) (A:Option Addr) (c:Nat) (A':Option Addr) (c':Nat) (q:Nat × Bool):(r.wait1 A c A' c' q).cells=(r.cells.setIfInBounds 1 (.slice A (r.W.length+1) c)).setIfInBounds 2 (.slice A' (r.W.length+1) c'):=by
 have hl:(r.W++[q]).length=r.W.length+1:=by rw [A61];rfl
 show #[_,Value.slice A (r.W++[q]).length c,Value.slice A' (r.W++[q]).length c']=_;rw [hl];rfl
theorem RT.wait1_own {r:RT} {A A':Option Addr} {c c' b2 b b':Nat} {q:Nat × Bool} {w:World} (hK:RowAt w b2 3 1 r.kA r.K.length r.kC (r.K.map Qv)) (hW:RowAt w b 3 1 A (r.W.length+1) c (r.W.map (fun q=>Qv q.1)++[.int .i64 (q.1:Int)])) (hB:RowAt w b' 4 1 A' (r.W.length+1) c' (r.W.map Tv++[.bool q.2])) (h:b2<=b) (h':b2<=b'):(r.wait1 A c A' c' q).own w b2:=by
 have hl:(r.W++[q]).length=r.W.length+1:=by rw [A61];rfl
 refine ⟨hK,?_,?_⟩
 ·
  show RowAt w b2 3 1 A (r.W++[q]).length c ((r.W++[q]).map (fun q=>Qv q.1));rw [hl,A64];exact hW.lower h
 ·
  show RowAt w b2 4 1 A' (r.W++[q]).length c' ((r.W++[q]).map Tv);rw [hl,A64];exact hB.lower h'
def RT.keep1 (r:RT) (A:Option Addr) (c p:Nat):RT:={r with kA:=A,kC:=c,K:=r.K++[p]}
theorem RT.keep1_cells (r:RT) (A:Option Addr) (c p:Nat):(r.keep1 A c p).cells=r.cells.setIfInBounds 0 (.slice A (r.K.length+1) c):=by
 have hl:(r.K++[p]).length=r.K.length+1:=by rw [A61];rfl
 show #[Value.slice A (r.K++[p]).length c,_,_]=_;rw [hl];rfl
theorem RT.keep1_own {r:RT} {A:Option Addr} {c b2 b p:Nat} {w:World} (hK:RowAt w b 3 1 A (r.K.length+1) c (r.K.map Qv++[.int .i64 (p:Int)])) (hW:RowAt w b2 3 1 r.wA r.W.length r.wC (r.W.map (fun q=>Qv q.1))) (hB:RowAt w b2 4 1 r.bA r.W.length r.bC (r.W.map Tv)) (h:b2<=b):(r.keep1 A c p).own w b2:=by
 have hl:(r.K++[p]).length=r.K.length+1:=by rw [A61];rfl
 refine ⟨?_,hW,hB⟩;show RowAt w b2 3 1 A (r.K++[p]).length c ((r.K++[p]).map Qv);rw [hl,A64];exact hK.lower h
def RT.cut1 (r:RT) (A:Option Addr) (c:Nat) (A':Option Addr) (c' i:Nat):RT:={r with wA:=A,wC:=c,bA:=A',bC:=c',W:=r.W.eraseIdx i}
theorem Pd {α:Type} {W:List α} {i:Nat} (hi:i<W.length):(W.eraseIdx i).length=i+(W.length-(i+1)):=by rw [A79 hi];omega
theorem Wa {α:Type} {W:List α} {i:Nat} (f:α->Value):(W.eraseIdx i).map f=(W.map f).take (i*1)++((W.map f).drop (i+1)).take (W.length-(i+1)):=by
 rw [List.eraseIdx_eq_take_drop_succ,Nat.mul_one,A76 (l:=(W.map f).drop (i+1)) (by rw [A77,A68];exact A59 _),A64,List.map_take,List.map_drop]
theorem RT.cut1_cells {r:RT} {i:Nat} (A:Option Addr) (c:Nat) (A':Option Addr) (c':Nat) (hi:i<r.W.length):(r.cut1 A c A' c' i).cells=(r.cells.setIfInBounds 1 (.slice A (i+(r.W.length-(i+1))) c)).setIfInBounds 2 (.slice A' (i+(r.W.length-(i+1))) c'):=by
 show #[_,Value.slice A (r.W.eraseIdx i).length c,Value.slice A' (r.W.eraseIdx i).length c']=_;rw [Pd hi];rfl
theorem RT.cut1_own {r:RT} {A A':Option Addr} {c c' b2 b b' i:Nat} {w:World} (hi:i<r.W.length) (hK:RowAt w b2 3 1 r.kA r.K.length r.kC (r.K.map Qv)) (hW:RowAt w b 3 1 A (i+(r.W.length-(i+1))) c ((r.W.map (fun q=>Qv q.1)).take (i*1)++((r.W.map (fun q=>Qv q.1)).drop (i+1)).take (r.W.length-(i+1)))) (hB:RowAt w b' 4 1 A' (i+(r.W.length-(i+1))) c' ((r.W.map Tv).take (i*1)++((r.W.map Tv).drop (i+1)).take (r.W.length-(i+1)))) (h:b2<=b) (h':b2<=b'):(r.cut1 A c A' c' i).own w b2:=by
 refine ⟨hK,?_,?_⟩
 ·
  show RowAt w b2 3 1 A (r.W.eraseIdx i).length c ((r.W.eraseIdx i).map (fun q=>Qv q.1));rw [Pd hi,Wa];exact hW.lower h
 ·
  show RowAt w b2 4 1 A' (r.W.eraseIdx i).length c' ((r.W.eraseIdx i).map Tv);rw [Pd hi,Wa];exact hB.lower h'
def TakeTPost (l:List Pn) (st:List Nat × List (Nat × Bool)) (q:Nat × Bool) (b2:Nat) (w:World) (e:Ending) (w':World):Prop:=
 ∃r':RT,e=.returned (.tuple #[.agg r'.cells,.int .i64 (C9 l st q).1])/\Hid (r'.st=(C9 l st q).2)/\r'.own w' b2/\Fr Non w w'
theorem TakeTPost.mk {l:List Pn} {st:List Nat × List (Nat × Bool)} {q:Nat × Bool} {b2:Nat} {w w':World} {r':RT} {E:Int} (h:C9 l st q=(E,r'.st)) (ho:r'.own w' b2) (hf:Fr Non w w'):TakeTPost l st q b2 w (.returned (.tuple #[.agg r'.cells,.int .i64 E])) w':=by
 unfold TakeTPost;rw [h];exact ⟨r',rfl,rfl,ho,hf⟩
theorem A43 (base b2:Nat) (g:FG) (r:RT) (p:Nat) (bad:Bool) (w:World) (hg:g.own w base) (hr:r.own w b2) (hb2:b2<=w.heap.size) (hK:∀q∈r.K,q<g.l.length) (hW:∀q∈r.W,q.1<g.l.length) (hfew:r.K.length+r.W.length<=100) (hp:p<g.l.length):
  Calls zp 8 #[.agg g.cells,.agg r.cells,.int .i64 (p:Int),.bool bad] w (TakeTPost g.l r.st (p,bad) b2 w):=by
 have bg:=((Blk.new w 28 g.cells).alloc (.cells r.cells 34)).alloc (.cells #[.slice none 0 0,.slice none 0 0,.slice none 0 0] 34);have br:=(Blk.new (w.alloc (.cells g.cells 28)) 34 r.cells).alloc (.cells #[.slice none 0 0,.slice none 0 0,.slice none 0 0] 34);have bz:=Blk.new ((w.alloc (.cells g.cells 28)).alloc (.cells r.cells 34)) 34 #[.slice none 0 0,.slice none 0 0,.slice none 0 0];rw [A62] at br;rw [A62,A62] at bz;have f0:Fr Non w (((w.alloc (.cells g.cells 28)).alloc (.cells r.cells 34)).alloc (.cells #[.slice none 0 0,.slice none 0 0,.slice none 0 0] 34)):=(((Fr.refl Non w).alloc _).alloc _).alloc _;have k0:TkS w (((w.alloc (.cells g.cells 28)).alloc (.cells r.cells 34)).alloc (.cells #[.slice none 0 0,.slice none 0 0,.slice none 0 0] 34)) w.heap.size g.cells r.cells:=⟨bg,br,bz,f0,A59 _⟩;clear bg br bz;have o0:=hr.non f0;have az:=lh (fun (v:World) (hv:Fr Non w v)=>V9 v.heap.size r.K.length r.kC r.kA r.K p v rfl ((hr.non hv).kept.sl.rd) (by omega));have a8:=lh (fun (v:World) (hv:Fr Non w v)=>A42 v.heap.size r.W.length r.wC r.wA r.W p v rfl ((hr.non hv).wait.sl.rd) (by omega));have kf:=lh (fun (v:World) (hv:Fr Non w v)=>V8 base b2 g r p v (hg.non hv) (hr.non hv) hK (by omega) hp);have kn:=lh (fun (s:RT) (v:World) (hv:Fr Non w v) (ho:s.own v b2) (h1:∀q∈s.K,q<g.l.length) (h2:∀q∈s.W,q.1<g.l.length) (h3:s.K.length+s.W.length<=200)=>A35 base b2 g s v (hg.non hv) ho h1 h2 (by omega) (by omega));have fd:=Be (P:=zp) w.heap.size 28 underlying28 rfl (cs:=g.cells) Dg;have ab:Hid (∀(E:Int) (s:RT) (v:World),C9 g.l r.st (p,bad)=(E,s.st)->s.own v b2->Fr Non w v->TakeTPost g.l r.st (p,bad) b2 w (.returned (.tuple #[.agg s.cells,.int .i64 E])) v):=fun E s v h1 h2 h3=>TakeTPost.mk h1 h2 h3;unfold Ae at az a8 kf;have ac:=lh (fun (K:List Nat) (W:List (Nat × Bool)) (h:nxI g.l K W<0)=>A40 h);have bl:=lh (fun (K:List Nat) (W:List (Nat × Bool)) (f:Nat) (h:0<=nxI g.l K W) (hf:W.length<=f)=>A41 h hf);have t5:=lh (fun h=>A36 (l:=g.l) (s:=r.st) (q:=(p,bad)) h);have t0:=lh (fun h1 h2 h3=>A37 (l:=g.l) (s:=r.st) (q:=(p,bad)) h1 h2 h3);have a4:=lh (fun h1 h2 h3 h4=>A38 (l:=g.l) (s:=r.st) (q:=(p,bad)) h1 h2 h3 h4);have t1:=lh (fun h1 h2 h3 h4=>A39 (l:=g.l) (s:=r.st) (q:=(p,bad)) h1 h2 h3 h4);clear hg hr f0;generalize TakeTPost g.l r.st (p,bad) b2 w=POST at*;generalize C9 g.l r.st (p,bad)=RTT at*;generalize Bt g.l=FR at*;generalize Fg g.l=GO at*;generalize nxI g.l=NX at*;generalize g.cells=CG at*;generalize g.l.length=N at*;go_enter func8,ntmps8;go_upto_region 1 with (fail)
 obtain ⟨gb,bc⟩:=Ab w.heap.size;rw [bc.out] at k0 fd ⊢;generalize ((w.alloc (.cells CG 28)).alloc (.cells r.cells 34)).alloc (.cells #[.slice none 0 0,.slice none 0 0,.slice none 0 0] 34)=w0 at*;have et:=bc.out
 cases hc1:r.K.contains p
 case true=>
  rw [hc1] at az;have hE:=t5.out (.inl hc1);have e0:cS w0 (gb+1) 0 r.kA r.K.length r.kC:=k0.br.cell 0;clear kf kn a8 ac bl t0 a4 t1 t5;go_upto_region 2 with (go_at_call 37;(with_reducible refine (az.out _ k0.fr).mono ?_);rintro _ w1 ⟨rfl,f1⟩)
  have k1:=k0.non f1;have o1:=o0.non f1;have av:=k1.bz.setRow (cs:=r.cells);have fz:=k1.fr.setRow (g:=gb+2) (fun hh=>absurd hh (by omega)) r.cells;have oz:=o1.keepP (Gk r.cells) (Types.one k1.bz) (by decide) (by decide);have hd:=lh (ab.out 5 r _ hE oz fz);have a7:=Be (P:=zp) (gb+1) 34 underlying34 rfl (cs:=r.cells) Cl;have a6:=Cf (P:=zp) (gb+2) 34 (cs:=r.cells) Cl (old:=#[.slice none 0 0,.slice none 0 0,.slice none 0 0]) rfl (Hi r);have bx:=k1.br;have bm:=k1.bz;clear ab az o1 bc e0;go_wp2_with fail
  (try simp only [Exit.inBlock,Exit.then])
  refine Fm (t:=34) rfl rfl av rfl underlying34 Cl rfl ?_;exact hd.out
 case false=>
 rw [hc1] at az;have e0:cS w0 (gb+1) 0 r.kA r.K.length r.kC:=k0.br.cell 0
 cases hc2:r.W.any (fun x=>x.1==p)
 case true=>
  rw [hc2] at a8;have hE:=t5.out (.inr hc2);clear kf kn ac bl t0 a4 t1 t5
  go_upto_region 2 with (first
   |(go_at_call 37;(with_reducible refine (az.out _ k0.fr).mono ?_);rintro _ w1 ⟨rfl,f1⟩;have k1:=k0.non f1;have o1:=o0.non f1;have e1:cS w1 (gb+1) 1 r.wA r.W.length r.wC:=k1.br.cell 1)
   |(go_at_call 37;(with_reducible refine (a8.out _ k1.fr).mono ?_);rintro _ w2 ⟨rfl,f2⟩;have k2:=k1.non f2;have o2:=o1.non f2))
  have av:=k2.bz.setRow (cs:=r.cells);have fz:=k2.fr.setRow (g:=gb+2) (fun hh=>absurd hh (by omega)) r.cells;have oz:=o2.keepP (Gk r.cells) (Types.one k2.bz) (by decide) (by decide);have hd:=lh (ab.out 5 r _ hE oz fz);have a7:=Be (P:=zp) (gb+1) 34 underlying34 rfl (cs:=r.cells) Cl;have a6:=Cf (P:=zp) (gb+2) 34 (cs:=r.cells) Cl (old:=#[.slice none 0 0,.slice none 0 0,.slice none 0 0]) rfl (Hi r);have bx:=k2.br;have bm:=k2.bz;clear ab az a8 o1 o2 k1 bc e0 e1;go_wp2_with fail
  (try simp only [Exit.inBlock,Exit.then])
  refine Fm (t:=34) rfl rfl av rfl underlying34 Cl rfl ?_;exact hd.out
 case false=>
 rw [hc2] at a8;have a7:=Be (P:=zp) (gb+1) 34 underlying34 rfl (cs:=r.cells) Cl
 go_upto_region 3 with (first
  |(go_at_call 37;(with_reducible refine (az.out _ k0.fr).mono ?_);rintro _ w1 ⟨rfl,f1⟩;have k1:=k0.non f1;have o1:=o0.non f1;have e1:cS w1 (gb+1) 1 r.wA r.W.length r.wC:=k1.br.cell 1)
  |(go_at_call 37;(with_reducible refine (a8.out _ k1.fr).mono ?_);rintro _ w2 ⟨rfl,f2⟩;have k2:=k1.non f2;have o2:=o1.non f2))
 have eu:=k2.bg;have fb:=k2.br;have er:=k2.fr;obtain ⟨FB,cq⟩:=Ab (FR r.K p);rw [cq.out] at kf;replace t0:=lh (t0.out hc1 hc2);replace a4:=lh (a4.out hc1 hc2);replace t1:=lh (t1.out hc1 hc2);clear az a8 t5 e0 e1 k0 k1 o0 o1 f1 f2;go_upto_region 4 with (go_at_call 38;(with_reducible refine (kf.out _ er).mono ?_);rintro _ w3 ⟨rfl,f3⟩)
 have k3:=k2.non f3;have o3:=o2.non f3;have dc:b2<=w3.heap.size:=A67 hb2 k3.fr.size;clear k2 o2 eu fb kf a7 f3
 cases FB
 case false=>
  have hE:=t0.out cq.out;clear kn ac bl t0 a4 t1;have de:cS w3 (gb+1) 1 r.wA r.W.length r.wC:=k3.br.cell 1
  go_upto_region 6 with (first
   |(at_builtin;go_loud (refine Av (base:=w3.heap.size) (.const (.slice none 0 0)) (.tmp 32) 22 rfl rfl rfl rfl Da (Own.nil _ _ _ _) o3.wait.sl.rd (Ke _) (by omega) (by omega) (A59 _) ?_);intro e8 ev df aa aq ar;rw [A63,A65] at aa;have bf:=Fb aq;have ae:=aa.row;have ce:=Blk.new df 3 #[.int .i64 (p:Int)];have da:=bf.size)
   |(at_builtin;go_loud (refine Av (base:=w3.heap.size) (.tmp 33) (.tmp 35) 22 rfl rfl rfl rfl Da (aa.alloc (.cells #[.int .i64 (p:Int)] 3)) (Rd.blk (n:=1) (size:=1) ce rfl) (by simp [Value.oneCell']) (by omega) (by omega) (by rw [A62];omega) ?_);intro A4 c4 w4 ap bs be;have F4:Fr Non w3 w4:=(bf.alloc _).trans bs (fun i hi e=>by have:=(ae i e).1;omega);have k4:=k3.non F4;have c1:=k4.br.frozen 1;have di:cS w4 (gb+1) 1 r.wA r.W.length r.wC:=k4.br.cell 1))
  have bj:=k4.set 1 (.slice A4 (r.W.length+1) c4);have cd:=k4.row (RowAt.of_own ap) (by decide) 1 (.slice A4 (r.W.length+1) c4);have d5:=k4.row (o3.kept.non F4) (by decide) 1 (.slice A4 (r.W.length+1) c4);have ca:=k4.row (o3.bad.non F4) (by decide) 1 (.slice A4 (r.W.length+1) c4);clear aq ar aa ae bs be ce ap c1 di de da bf k4 F4;generalize w4.setCell ⟨gb+1,1,none⟩ (.slice A4 (r.W.length+1) c4)=w4b at*;have e9:b2<=w4b.heap.size:=A67 hb2 bj.fr.size;have en:cS w4b (gb+1) 2 r.bA r.W.length r.bC:=bj.br.cell 2
  go_upto_region 7 with (first
   |(at_builtin;go_loud (refine Av (base:=w4b.heap.size) (.const (.slice none 0 0)) (.tmp 39) 32 rfl rfl rfl rfl Le (Own.nil _ _ _ _) ca.sl.rd (Pc _) (by omega) (by omega) (A59 _) ?_);intro fm fq ew ah cb b5;rw [A63,A65] at ah;have cu:=Fb cb;have ba:=ah.row;have ej:=Blk.new ew 4 #[.bool bad];have e6:=cu.size)
   |(at_builtin;go_loud (refine Av (base:=w4b.heap.size) (.tmp 40) (.tmp 42) 32 rfl rfl rfl rfl Le (ah.alloc (.cells #[.bool bad] 4)) (Rd.blk (n:=1) (size:=1) ej rfl) (by simp [Value.oneCell']) (by omega) (by omega) (by rw [A62];omega) ?_);intro A6 c6 w6 b0 d4 dp;have F6:Fr Non w4b w6:=(cu.alloc _).trans d4 (fun i hi e=>by have:=(ba i e).1;omega);have k6:=bj.non F6;have fi:=k6.br.frozen 2;have eo:cS w6 (gb+1) 2 r.bA r.W.length r.bC:=k6.br.cell 2))
  have dx:=k6.set 2 (.slice A6 (r.W.length+1) c6);have ee:=k6.row (RowAt.of_own b0) (by decide) 2 (.slice A6 (r.W.length+1) c6);have d1:=k6.row (d5.non F6) (by decide) 2 (.slice A6 (r.W.length+1) c6);have ei:=k6.row (cd.non F6) (by decide) 2 (.slice A6 (r.W.length+1) c6);clear cb b5 ah ba d4 dp ej b0 fi eo en e6 cu k6 F6;generalize w6.setCell ⟨gb+1,2,none⟩ (.slice A6 (r.W.length+1) c6)=w6b at*;have k7:TkS w w6b gb CG (r.wait1 A4 c4 A6 c6 (p,bad)).cells:=by rw [RT.wait1_cells];exact dx
  have o7:=RT.wait1_own (q:=(p,bad)) d1 ei ee dc e9;have dz:RTT=(0,(r.wait1 A4 c4 A6 c6 (p,bad)).st):=hE;generalize r.wait1 A4 c4 A6 c6 (p,bad)=s at*;have av:=k7.bz.setRow (cs:=s.cells);have fz:=k7.fr.setRow (g:=gb+2) (fun hh=>absurd hh (by omega)) s.cells;have oz:=o7.keepP (Gk s.cells) (Types.one k7.bz) (by decide) (by decide);have hd:=lh (ab.out 0 s _ dz oz fz);have a7:=Be (P:=zp) (gb+1) 34 underlying34 rfl (cs:=s.cells) Cl;have a6:=Cf (P:=zp) (gb+2) 34 (cs:=s.cells) Cl (old:=#[.slice none 0 0,.slice none 0 0,.slice none 0 0]) rfl (Hi s);have bx:=k7.br;have bm:=k7.bz;clear ab dx d1 ei ee bc hE bj d5 ca cd o3 k3 o7 dz;go_wp2_with fail
  (try simp only [Exit.inBlock,Exit.then])
  refine Fm (t:=34) rfl rfl av rfl underlying34 Cl rfl ?_;exact hd.out
 case true=>
 have hE:=cq.out
 rcases bad with _|_
 case true=>
  have ax:=a4.out hE rfl;clear kn ac bl t0 a4 t1 hE;go_upto_region 9 with (fail)
  have av:=k3.bz.setRow (cs:=r.cells);have fz:=k3.fr.setRow (g:=gb+2) (fun hh=>absurd hh (by omega)) r.cells;have oz:=o3.keepP (Gk r.cells) (Types.one k3.bz) (by decide) (by decide);have hd:=lh (ab.out 12 r _ ax oz fz);have a7:=Be (P:=zp) (gb+1) 34 underlying34 rfl (cs:=r.cells) Cl;have a6:=Cf (P:=zp) (gb+2) 34 (cs:=r.cells) Cl (old:=#[.slice none 0 0,.slice none 0 0,.slice none 0 0]) rfl (Hi r);have bx:=k3.br;have bm:=k3.bz;clear ab bc ax o3;go_wp2_with fail
  (try simp only [Exit.inBlock,Exit.then])
  refine Fm (t:=34) rfl rfl av rfl underlying34 Cl rfl ?_;exact hd.out
 case false=>
 have ax:=lh (t1.out hE rfl);clear t0 a4 t1 hE;have de:cS w3 (gb+1) 0 r.kA r.K.length r.kC:=k3.br.cell 0
 go_upto_region 11 with (first
  |(at_builtin;go_loud (refine Av (base:=w3.heap.size) (.const (.slice none 0 0)) (.tmp 49) 22 rfl rfl rfl rfl Da (Own.nil _ _ _ _) o3.kept.sl.rd (Lx _) (by omega) (by omega) (A59 _) ?_);intro e8 ev df aa aq ar;rw [A63,A65] at aa;have bf:=Fb aq;have ae:=aa.row;have ce:=Blk.new df 3 #[.int .i64 (p:Int)];have da:=bf.size)
  |(at_builtin;go_loud (refine Av (base:=w3.heap.size) (.tmp 50) (.tmp 52) 22 rfl rfl rfl rfl Da (aa.alloc (.cells #[.int .i64 (p:Int)] 3)) (Rd.blk (n:=1) (size:=1) ce rfl) (by simp [Value.oneCell']) (by omega) (by omega) (by rw [A62];omega) ?_);intro A4 c4 w4 ap bs be;have F4:Fr Non w3 w4:=(bf.alloc _).trans bs (fun i hi e=>by have:=(ae i e).1;omega);have k4:=k3.non F4;have c1:=k4.br.frozen 0;have di:cS w4 (gb+1) 0 r.kA r.K.length r.kC:=k4.br.cell 0))
 have bj:=k4.set 0 (.slice A4 (r.K.length+1) c4);have cd:=k4.row (RowAt.of_own ap) (by decide) 0 (.slice A4 (r.K.length+1) c4);have dw:=k4.row (o3.wait.non F4) (by decide) 0 (.slice A4 (r.K.length+1) c4);have ca:=k4.row (o3.bad.non F4) (by decide) 0 (.slice A4 (r.K.length+1) c4);clear aq ar aa ae bs be ce ap c1 di de da bf k4 F4;generalize w4.setCell ⟨gb+1,0,none⟩ (.slice A4 (r.K.length+1) c4)=w4b at*;have k5:TkS w w4b gb CG (r.keep1 A4 c4 p).cells:=by rw [RT.keep1_cells];exact bj
 have o5:=RT.keep1_own (p:=p) cd dw ca dc
 have cw:∀q∈(r.keep1 A4 c4 p).K,q<N:=fun q hq=>by
  rcases List.mem_append.1 hq with h|h
  · exact hK q h
  · rw [List.mem_singleton.1 h];exact hp
 have c3:∀q∈(r.keep1 A4 c4 p).W,q.1<N:=hW
 have dt:(r.keep1 A4 c4 p).K.length+(r.keep1 A4 c4 p).W.length<=101:=by
  show (r.K++[p]).length+r.W.length<=101;rw [A61,A80];omega
 obtain ⟨bd,bh⟩:=Ab (GO r.W.length (r.K++[p]) r.W);have du:Hid (GO r.W.length (r.keep1 A4 c4 p).K (r.keep1 A4 c4 p).W=bd):=bh;have b4:(r.keep1 A4 c4 p).W.length<=r.W.length:=A59 _;replace ax:Hid (RTT=(0,bd)):=by show _=_;rw [<- bh.out];exact ax.out
 have fc:=k5.bg;have ey:=k5.br;generalize r.keep1 A4 c4 p=s5 at*;have cr:=Be (P:=zp) (gb+1) 34 underlying34 rfl (cs:=s5.cells) Cl;clear bj cd dw ca k3 o3 hK hW bh;generalize w4b=w5 at*;go_wp2_with (go_at_call 39;(with_reducible refine (kn.out s5 _ k5.fr o5 cw c3 (by omega)).mono ?_);rintro _ w6 ⟨rfl,f6⟩);have k6:=k5.non f6;have o6:=o5.non f6;clear fc ey cr k5 o5
 go_loopw [11] (fun v wr=>∃(f:Nat) (s:RT),v=.int .i64 (NX s.K s.W)/\s.W.length<=f/\Hid (GO f s.K s.W=bd)/\Hid (∀q∈s.K,q<N)/\Hid (∀q∈s.W,q.1<N)/\s.K.length+s.W.length<=101/\Hid (TkS w wr gb CG s.cells)/\Hid (s.own wr b2)) (fun _ wr=>Ih gb wr)
 case atStart=>exact ⟨r.W.length,s5,rfl,b4,du,cw,c3,dt,k6,o6⟩
 case round=>
 clear k6 o6 du cw c3 dt b4 dc f6 cq hp;obtain ⟨f,s,rfl,d6,hG,c0,co,e4,hk,ho⟩:=hrel;replace hk:=hk.out;replace ho:=ho.out;obtain ⟨cy,bo⟩:=Ab (NX s.K s.W);rw [bo.out]
 by_cases hneg:cy<0
 case pos=>
  have u0:decide (cy>=0)=false:=decide_eq_false (by omega);have dv:decide (0<=cy)=false:=u0;have a6:=ac.out s.K s.W (by rw [bo.out];exact hneg) f;rw [hG.out] at a6;have d7:RTT=(0,s.st):=by rw [ax.out,a6];rfl
  clear kn ac bl ax a6 bo hG c0 co;have av:=hk.bz.setRow (cs:=s.cells);have fz:=hk.fr.setRow (g:=gb+2) (fun hh=>absurd hh (by omega)) s.cells;have oz:=ho.keepP (Gk s.cells) (Types.one hk.bz) (by decide) (by decide);have hd:=lh (ab.out 0 s _ d7 oz fz);have a7:=Be (P:=zp) (gb+1) 34 underlying34 rfl (cs:=s.cells) Cl;have a6:=Cf (P:=zp) (gb+2) 34 (cs:=s.cells) Cl (old:=#[.slice none 0 0,.slice none 0 0,.slice none 0 0]) rfl (Hi s);have bx:=hk.br;have bm:=hk.bz;clear ab bc d7 ho hk;go_wp2_with fail
  (try simp only [Exit.inBlock,Exit.then])
  refine Fm (t:=34) rfl rfl av rfl underlying34 Cl rfl ?_;exact hd.out
 case neg=>
 obtain ⟨i,q,f',hi,hq,rfl,hg⟩:=bl.out s.K s.W f (by rw [bo.out];omega) d6;rw [bo.out] at hi;subst hi;rw [hg] at hG;have cp:=(List.getElem?_eq_some_iff.1 hq).1;obtain ⟨⟨xb,xo,db,x0⟩,⟨yb,yo,hyA,y0⟩⟩:=ho.wAt hq;have u0:decide ((i:Int)>=0)=true:=decide_eq_true (by omega);have dv:decide (0<=(i:Int))=true:=u0;have e1:wr.cell? ⟨gb+1,1,none⟩=some (.slice (some ⟨xb,xo,none⟩) s.W.length s.wC):=by rw [<- db];exact hk.br.cell 1
 have e2:wr.cell? ⟨gb+1,2,none⟩=some (.slice (some ⟨yb,yo,none⟩) s.W.length s.bC):=by rw [<- hyA];exact hk.br.cell 2
 obtain ⟨i1,i2,i3⟩:=ix i s.W.length
 clear ac bl hg bo hneg;go_upto_region 15 with (fail)
 have s1:(i:Int)<=(s.wC:Int):=by have:=ho.wait.sl.2;omega
 have s2:(i:Int)<=(s.bC:Int):=by have:=ho.bad.sl.2;omega
 have s3:(i:Int)<=(s.W.length:Int):=by omega
 have fe:s.W.length<=s.wC:=by have:=ho.wait.sl.2;omega
 have e7:s.W.length<=s.bC:=by have:=ho.bad.sl.2;omega
 have s4:i<=s.wC:=by omega
 have s5:i<=s.bC:=by omega
 have j0:=iw ((i:Int)+1);have j1:(0:Int)<=(i:Int)+1:=by omega
 have j2:(i:Int)+1<=(s.W.length:Int):=by omega
 have j3:((i:Int)+1).toNat=i+1:=by omega
 have cn:=ho.wait.sl.rd;have ec:=ho.bad.sl.rd;rw [db] at cn;rw [hyA] at ec;have c8:b2<=wr.heap.size:=A67 hb2 hk.fr.size;have C0:cS wr (gb+1) 1 (some ⟨xb,xo,none⟩) s.W.length s.wC:=e1;have F0:Fr Non wr wr.drew:=(Fr.refl Non wr).drew;refine Cv (S:=fun w'=>cS w' (gb+1) 1 (some ⟨xb,xo,none⟩) s.W.length s.wC) 12 (by kernel_rfl) ?_;refine tkM 0 4 C0 (h:=tkM 5 5 C0 (h:=?_));refine Bo 4 (by kernel_rfl) rfl (fun K hK=> ?_);refine Du (base:=wr.heap.size) (.const (.slice none 0 0)) (.tmp 73) 22 rfl rfl rfl Da (Own.nil _ _ _ _) ((cn.fr F0 zr).takeN (m:=i) (by omega)) (fun u hu=>(Ke s.W) u (A66 hu)) (by omega) (by omega) (A59 _) ?_;intro fn fl fa aj bu cj;rw [A63,A65] at aj;have F1:Fr Non wr fa:=F0.trans (Fb bu) zr;have a0:=aj.row;have ek:=F1.size;have C1:=F1.cell C0 zq;refine hK.out _ _ C1 (fun hZ=> ?_);clear hZ hK K;try simp only [A63,Ah,zl]
 refine Bo 10 (by kernel_rfl) rfl (fun K hK=> ?_);refine Du (base:=wr.heap.size) (.tmp 74) (.tmp 79) 22 rfl rfl rfl Da aj (Rd.part (cn.fr F1 zr) (lo:=i+1) (hi:=s.W.length) (by omega) (A59 _) _ (fun hh=>if_neg (by omega))) (fun u hu=>(Ke s.W) u (A72 (A66 hu))) (by omega) (by omega) ek ?_;intro A7 c7 w7 ci ds dk;have F2:Fr Non wr w7:=F1.trans ds (fun i hi e=>by have:=(a0 i e).1;omega);have C2:=F2.cell C0 zq;refine hK.out _ _ C2 (fun hZ=> ?_);clear hZ hK K;try simp only [Ah,zl]
 refine tkM 11 1 C2 (h:=?_);have k7:=hk.non F2;have fg:=k7.br.frozen 1;have ez:cS w7 (gb+1) 1 (some ⟨xb,xo,none⟩) s.W.length s.wC:=C2;refine Cp (by kernel_rfl) ?_;refine stT 12 (h:=?_);refine oD ?_;go_simp;have cm:=k7.set 1 (.slice A7 (i+(s.W.length-(i+1))) c7);have eb:=k7.row (RowAt.of_own ci) (by decide) 1 (.slice A7 (i+(s.W.length-(i+1))) c7);have ea:=k7.row (ho.kept.non F2) (by decide) 1 (.slice A7 (i+(s.W.length-(i+1))) c7);have c5:=k7.row (ho.bad.non F2) (by decide) 1 (.slice A7 (i+(s.W.length-(i+1))) c7);clear bu cj aj a0 ds dk ci fg ez ek F0 F1 F2 C0 C1 C2 k7;generalize w7.setCell ⟨gb+1,1,none⟩ (.slice A7 (i+(s.W.length-(i+1))) c7)=w7b at*;have e2:w7b.cell? ⟨gb+1,2,none⟩=some (.slice (some ⟨yb,yo,none⟩) s.W.length s.bC):=by rw [<- hyA];exact cm.br.cell 2
 have b7:b2<=w7b.heap.size:=A67 hb2 cm.fr.size;rw [hyA] at c5;have dl:=c5.sl.rd;go_upto_region 16 with (fail)
 have C0:cS w7b (gb+1) 2 (some ⟨yb,yo,none⟩) s.W.length s.bC:=e2;have F0:Fr Non w7b w7b.drew:=(Fr.refl Non w7b).drew;refine Cv (S:=fun w'=>cS w' (gb+1) 2 (some ⟨yb,yo,none⟩) s.W.length s.bC) 12 (by kernel_rfl) ?_;refine tkM 0 4 C0 (h:=tkM 5 5 C0 (h:=?_));refine Bo 4 (by kernel_rfl) rfl (fun K hK=> ?_);refine Du (base:=w7b.heap.size) (.const (.slice none 0 0)) (.tmp 85) 32 rfl rfl rfl Le (Own.nil _ _ _ _) ((dl.fr F0 zr).takeN (m:=i) (by omega)) (fun u hu=>(Pc s.W) u (A66 hu)) (by omega) (by omega) (A59 _) ?_;intro fo fp fh ak bq cf;rw [A63,A65] at ak;have F1:Fr Non w7b fh:=F0.trans (Fb bq) zr;have a3:=ak.row;have d8:=F1.size;have C1:=F1.cell C0 zq;refine hK.out _ _ C1 (fun hZ=> ?_);clear hZ hK K;try simp only [A63,Ah,zl]
 refine Bo 10 (by kernel_rfl) rfl (fun K hK=> ?_);refine Du (base:=w7b.heap.size) (.tmp 86) (.tmp 91) 32 rfl rfl rfl Le ak (Rd.part (dl.fr F1 zr) (lo:=i+1) (hi:=s.W.length) (by omega) (A59 _) _ (fun hh=>if_neg (by omega))) (fun u hu=>(Pc s.W) u (A72 (A66 hu))) (by omega) (by omega) d8 ?_;intro A9 c9 w9 bw ef dn;have F2:Fr Non w7b w9:=F1.trans ef (fun i hi e=>by have:=(a3 i e).1;omega);have C2:=F2.cell C0 zq;refine hK.out _ _ C2 (fun hZ=> ?_);clear hZ hK K;try simp only [Ah,zl]
 refine tkM 11 1 C2 (h:=?_);have k9:=cm.non F2;have ff:=k9.br.frozen 2;have e5:cS w9 (gb+1) 2 (some ⟨yb,yo,none⟩) s.W.length s.bC:=C2;refine Cp (by kernel_rfl) ?_;refine stT 12 (h:=?_);refine oD ?_;go_simp;have d9:=k9.set 2 (.slice A9 (i+(s.W.length-(i+1))) c9);have em:=k9.row (RowAt.of_own bw) (by decide) 2 (.slice A9 (i+(s.W.length-(i+1))) c9);have d3:=k9.row (ea.non F2) (by decide) 2 (.slice A9 (i+(s.W.length-(i+1))) c9);have d0:=k9.row (eb.non F2) (by decide) 2 (.slice A9 (i+(s.W.length-(i+1))) c9);clear bq cf ak a3 ef dn bw ff e5 d8 F0 F1 F2 C0 C1 C2 k9;generalize w9.setCell ⟨gb+1,2,none⟩ (.slice A9 (i+(s.W.length-(i+1))) c9)=w9b at*;have a2:TkS w w9b gb CG (s.cut1 A7 c7 A9 c9 i).cells:=by rw [RT.cut1_cells _ _ _ _ cp];exact d9
 have bn:=RT.cut1_own cp d3 d0 em c8 b7;have ai:∀x∈(s.cut1 A7 c7 A9 c9 i).W,x.1<N:=fun x hx=>co.out x ((List.eraseIdx_sublist _ _).mem hx);have al:∀x∈(s.cut1 A7 c7 A9 c9 i).K,x<N:=c0.out;have e3:=co.out q (A73 hq);have dh:Ih gb wr=s.W.length:=hk.wt
 have cv:(s.cut1 A7 c7 A9 c9 i).W.length+1=s.W.length:=by
  show (s.W.eraseIdx i).length+1=_;rw [A79 cp];omega
 have aw:Hid (GO f' (if q.2=true then (s.cut1 A7 c7 A9 c9 i).K else (s.cut1 A7 c7 A9 c9 i).K++[q.1]) (s.cut1 A7 c7 A9 c9 i).W=bd):=hG
 have b8:(s.cut1 A7 c7 A9 c9 i).K.length+(s.cut1 A7 c7 A9 c9 i).W.length+1<=101:=by
  have:(s.cut1 A7 c7 A9 c9 i).K.length=s.K.length:=rfl;omega
 have au:(s.cut1 A7 c7 A9 c9 i).W.length<=f':=by omega
 have a5:(s.cut1 A7 c7 A9 c9 i).W.length<Ih gb wr:=by omega
 clear d9 em d3 d0 cm eb ea c5 dl cn ec e1 e2 x0 y0 db hyA hk ho hG d6 e4 c0 co cv dh cp hq b7 fe e7 s1 s2 s3 s4 s5 j0 j1 j2 j3 i1 i2 i3 u0 dv;generalize s.cut1 A7 c7 A9 c9 i=t at*;generalize w9b=w10 at*;obtain ⟨qp,qb⟩:=q
 rcases qb with _|_
 case true=>
  have ay:Hid (GO f' t.K t.W=bd):=aw;have bx:=a2.bg;have bm:=a2.br;have a7:=Be (P:=zp) (gb+1) 34 underlying34 rfl (cs:=t.cells) Cl;clear aw ax ab;go_wp2_with (go_at_call 39;(with_reducible refine (kn.out t _ a2.fr bn al ai (by omega)).mono ?_);rintro _ fj ⟨rfl,d2⟩);have eg:=a2.non d2;have ct:=eg.wt;go_roundw
  case rel=>exact ⟨f',t,rfl,au,ay,al,ai,by omega,eg,bn.non d2⟩
  case measure=>rw [ct];omega
 case false=>
 have ay:Hid (GO f' (t.K++[qp]) t.W=bd):=aw;clear aw;have dq:cS w10 (gb+1) 0 t.kA t.K.length t.kC:=a2.br.cell 0
 go_upto_region 19 with (first
  |(at_builtin;go_loud (refine Av (base:=w10.heap.size) (.const (.slice none 0 0)) (.tmp 97) 22 rfl rfl rfl rfl Da (Own.nil _ _ _ _) bn.kept.sl.rd (Lx _) (by omega) (by omega) (A59 _) ?_);intro ep es dj ad a1 bk;rw [A63,A65] at ad;have bi:=Fb a1;have ao:=ad.row;have b6:=Blk.new dj 3 #[.int .i64 (qp:Int)];have c2:=bi.size)
  |(at_builtin;go_loud (refine Av (base:=w10.heap.size) (.tmp 98) (.tmp 100) 22 rfl rfl rfl rfl Da (ad.alloc (.cells #[.int .i64 (qp:Int)] 3)) (Rd.blk (n:=1) (size:=1) b6 rfl) (by simp [Value.oneCell']) (by omega) (by omega) (by rw [A62];omega) ?_);intro ag af cz a9 bp cg;have ck:Fr Non w10 cz:=(bi.alloc _).trans bp (fun i hi e=>by have:=(ao i e).1;omega);have bb:=a2.non ck;have dg:=bb.br.frozen 0;have cx:cS cz (gb+1) 0 t.kA t.K.length t.kC:=bb.br.cell 0))
 have cc:=bb.set 0 (.slice ag (t.K.length+1) af);have bt:=bb.row (RowAt.of_own a9) (by decide) 0 (.slice ag (t.K.length+1) af);have ch:=bb.row (bn.wait.non ck) (by decide) 0 (.slice ag (t.K.length+1) af);have b3:=bb.row (bn.bad.non ck) (by decide) 0 (.slice ag (t.K.length+1) af);clear a1 bk ad ao bp cg b6 a9 dg cx dq c2 bi bb ck;generalize cz.setCell ⟨gb+1,0,none⟩ (.slice ag (t.K.length+1) af)=w12b at*;have cl:TkS w w12b gb CG (t.keep1 ag af qp).cells:=by rw [RT.keep1_cells];exact cc
 have el:=RT.keep1_own (p:=qp) bt ch b3 (A67 hb2 a2.fr.size)
 have b1:∀q∈(t.keep1 ag af qp).K,q<N:=fun q hq=>by
  rcases List.mem_append.1 hq with h|h
  · exact al q h
  · rw [List.mem_singleton.1 h];exact e3
 have bv:∀q∈(t.keep1 ag af qp).W,q.1<N:=ai
 have dm:(t.keep1 ag af qp).K.length+(t.keep1 ag af qp).W.length<=101:=by
  show (t.K++[qp]).length+t.W.length<=101;rw [A61,A80];omega
 have dr:Hid (GO f' (t.keep1 ag af qp).K (t.keep1 ag af qp).W=bd):=ay;have b9:(t.keep1 ag af qp).W.length<=f':=au;have ed:(t.keep1 ag af qp).W.length<Ih gb wr:=a5;generalize t.keep1 ag af qp=t2 at*;generalize w12b=w13 at*;have bx:=cl.bg;have bm:=cl.br;have a7:=Be (P:=zp) (gb+1) 34 underlying34 rfl (cs:=t2.cells) Cl;clear cc bt ch b3 a2 bn ay al ai b8 au a5 ax ab;go_wp2_with (go_at_call 39;(with_reducible refine (kn.out t2 _ cl.fr el b1 bv (by omega)).mono ?_);rintro _ fk ⟨rfl,dy⟩);have eh:=cl.non dy;have dd:=eh.wt;go_roundw
 case rel=>exact ⟨f',t2,rfl,b9,dr,b1,bv,dm,eh,el.non dy⟩
 case measure=>rw [dd];omega
end Oq
namespace Oq
attribute [local go_sem] A70 A71
attribute [local go_sem ↓] Gi Ly
theorem A44 (base:Nat) (r:FG) (w:World) (h:r.own w base):
  Calls zp 51 #[.agg r.cells] w (O9 r.l w):=by
 have a3:=h.num.few;have bg:=Blk.new w 28 r.cells;have f0:Fr Non w (w.alloc (.cells r.cells 28)):=(Fr.refl Non w).alloc _;have g1:Hid (r.cells[1]? =some (.slice r.lA r.l.length r.lC)):=rfl;have g3:Hid (r.cells[3]? =some (.slice r.pA r.l.length r.pC)):=rfl;have ao:=lh h.levBq;have ab:=lh h.levRo;clear h;unfold O9;generalize Ce r.l=lv at*;generalize r.l.length=N at*;generalize r.pA=UA at*;generalize r.pC=UC at*;generalize r.lA=LA at*;generalize r.lC=LC at*;generalize r.cells=CS at*;go_enter func51,ntmps51;go_upto_region 1 with (fail)
 generalize w.alloc (.cells CS 28)=w0 at*;go_wp2_with fail
 go_loopw [3,4] (fun s v wr=>∃(i:Nat) (A:Option Addr) (c:Nat),v=.int .i64 (i:Int)/\s=.slice A i c/\i<=N/\Own wr w0.heap.size 3 1 A i c (E2 i lv)/\Fr Non w0 wr) (fun _ v _=>N-(intOf v).toNat)
 case atStart=>exact ⟨0,none,0,rfl,rfl,A69 _,Own.nil _ _ _ _,Fr.refl _ _⟩
 case round=>
  obtain ⟨i,A,c,rfl,rfl,hi,aa,hf⟩:=hrel;have c1:cS wr w.heap.size 1 LA N LC:=((bg.fr hf zq).cell 1).trans g1.out
  by_cases hlt:i<N
  ·
   obtain ⟨us,A2,c2,b,a1,V,rfl,cu,az,aw,ax,aq,au⟩:=ab.out i hlt;obtain ⟨M,hM⟩:=Ab us.length;rw [hM.out] at aw cu az aq;obtain ⟨i1,i2,i3⟩:=ix i N
   have af:=aa.row;have ac:=lh au;have ad:=lh aq;have ae:Hid ((1:Int)=(V 0:Int)):=by show _=_;rw [ax];rfl
   clear au aq ax;generalize wr=wo at*;clear wr;go_wp2_with fail
   go_loopw [5,6] (fun nv v wi=>∃k:Nat,v=.int .i64 (k:Int)/\nv=.int .i64 (V k:Int)/\k<=M/\Fr Non wo wi) (fun _ v _=>M-(intOf v).toNat)
   case atStart=>exact ⟨0,rfl,by rw [ae.out],A69 _,Fr.refl _ _⟩
   case round=>
    obtain ⟨k,rfl,rfl,hk,ag⟩:=hrel;have ai:Fr Non w0 wr:=hf.trans ag zr;have ay:Fr Non w wr:=f0.trans ai zr;have c3:cS wr w.heap.size 3 (some ⟨b,a1,none⟩) N UC:=((bg.fr ai zq).cell 3).trans g3.out;have a5:=ay.cell cu zq
    by_cases hkm:k<M
    ·
     obtain ⟨p,hp⟩:∃p,us[k]? =some p:=⟨_,A60 (by rw [hM.out];exact hkm)⟩;obtain ⟨ar,av⟩:=ac.out k p hp;have a7:=ao.out p;obtain ⟨b2,o2,u,rfl,_,hu,d0⟩:=(aw.fr ay zr).at hkm;rw [A74,hp] at hu;injection hu with hu
     subst hu;replace d0:cI wr b2 (o2+k) (p:Int):=d0;obtain ⟨b3,o3,u3,rfl,_,ah,d1⟩:=(aa.fr ag zr).rd.at ar;rw [O8 _ ar] at ah;injection ah with ah
     subst ah;obtain ⟨j1,j2,j3⟩:=ix k M
     obtain ⟨p1,p2,p3⟩:=ix p i
     have e1:=iw ((lv p:Int)+1);have al:Hid ((V (k+1):Int)=max (V k:Int) ((lv p:Int)+1)):=by show _=_;rw [av];omega
     clear av hp ac ab ao c1 cu;go_wp2_with fail
     all_goals
      go_roundw
      case rel=>exact ⟨k+1,by go_num,(by rw [al.out];first|done|rfl|(congr 1;omega)),by omega,ag⟩
      case measure=>simp [intOf];omega
    ·
     obtain rfl:k=M:=by omega
     have aj:=aa.fr ag zr;have bV:=Blk.new wr 3 #[.int .i64 (V k:Int)];have a0:Hid (E2 i lv++[.int .i64 (V k:Int)]=E2 (i+1) lv):=by show _=_;rw [A26,ad.out]
     have a6:w0.heap.size<=wr.heap.size:=ai.size;clear ac ab ao c1 cu ad ae;go_wp2_with (first|(at_builtin;go_loud (refine Av (base:=w0.heap.size) (.tmp 38) (.tmp 40) 22 rfl rfl rfl rfl Da (aj.alloc (.cells #[.int .i64 (V k:Int)] 3)) (Rd.blk (n:=1) (size:=1) bV rfl) (by simp [Value.oneCell']) (by omega) (by omega) (by rw [A62];omega) ?_);intro A8 c8 w8 ak a4 a2));have f8:Fr Non w0 w8:=(ai.alloc (.cells #[.int .i64 (V k:Int)] 3)).trans a4 (fun j hj e=>by have:=af j e;omega);have ap:Own w8 w0.heap.size 3 1 A8 (i+1) c8 (E2 (i+1) lv):=by rw [<- a0.out];exact ak
     go_roundw
     case rel=>exact ⟨i+1,A8,c8,by go_num,rfl,by omega,ap,f8⟩
     case measure=>simp [intOf];omega
  ·
   obtain rfl:i=N:=by omega
   go_wp2_with fail
   go_ret
   have hb:=f0.size;exact ⟨A,c,rfl,aa.lower hb,f0.trans hf zr⟩
theorem A45 (base B c:Nat) (r:FG) (A:Option Addr) (i k:Nat) (n m:Pn) (w:World) (h:r.own w base) (hrd:Rd w B 1 A r.l.length (E2 r.l.length (Ce r.l))) (hn:r.l[i]? =some n) (hm:r.l[k]? =some m):
  Calls zp 52 #[.agg r.cells,.slice A r.l.length c,.int .i64 (i:Int),.int .i64 (k:Int)] w (Ae (Br r.l n.id m.id) w):=by
 have bg:=Blk.new w 28 r.cells;have f0:Fr Non w (w.alloc (.cells r.cells 28)):=(Fr.refl Non w).alloc _;have g2:Hid (r.cells[2]? =some (.slice r.iA r.l.length r.iC)):=rfl;have hi:=(List.getElem?_eq_some_iff.1 hn).1;have hk:=(List.getElem?_eq_some_iff.1 hm).1;have hN:=h.num.few;obtain ⟨n',ba,oa,aa,hA,a9,a5,az⟩:=h.idAt hi;obtain ⟨m',bf,bc,ac,ab,a1,aw,a8⟩:=h.idAt hk;rw [hn] at aa;injection aa with aa
 subst aa;rw [hm] at ac;injection ac with ac
 subst ac;rw [hA] at ab;injection ab with ab
 injection ab with e1 e2
 subst e1 e2;rw [hA] at g2;have la:=h.levBq i;have lb:=h.levBq k;have ao:Ao r.l n.id=Ce r.l i:=by rw [H4 (h.rows.ok i n hn).plc hn,Jm hn]
 have au:Ao r.l m.id=Ce r.l k:=by rw [H4 (h.rows.ok k m hm).plc hm,Jm hm]
 have hq:Hid (Br r.l n.id m.id=(decide (Ce r.l i<Ce r.l k)||(Ce r.l i==Ce r.l k&&Id.less n.id m.id))):=by show _=_;unfold Br;rw [ao,au]
 obtain ⟨b3,o3,u3,rfl,_,ad,d1⟩:=hrd.at hi;rw [O8 _ hi] at ad;injection ad with ad
 subst ad;obtain ⟨b4,o4,u4,e4,_,ae,d2⟩:=hrd.at hk;rw [O8 _ hk] at ae;injection ae with ae
 subst ae;injection e4 with e4
 injection e4 with e3 e4
 subst e3 e4;have ag:=lh (fun (w':World)=>Mq n.id m.id w');unfold Ae at ag ⊢;clear h hrd hA ao au hn hm;generalize Br r.l n.id m.id=R at*;generalize Ce r.l i=L1 at*;generalize Ce r.l k=L2 at*;generalize r.iC=IC at*;generalize r.l.length=N at*;generalize r.cells=CS at*;generalize n.id=x at*;generalize m.id=y at*;obtain ⟨LX,bb⟩:=Ab (Id.less x y);rw [bb.out] at ag hq;obtain ⟨i1,i2,i3⟩:=ix i N
 obtain ⟨j1,j2,j3⟩:=ix k N
 by_cases he:L1=L2
 ·
  subst he;have hR:R=LX:=by rw [hq.out];simp
  subst hR;have t1:((L1:Int) !=(L1:Int))=false:=by simp
  go_enter func52,ntmps52;go_upto_region 1 with (fail)
  generalize w.alloc (.cells CS 28)=w0 at*;obtain ⟨af,ah⟩:=zk2 f0 d1 d2;clear d1 d2
  go_quiet (fail)
  go_upto_region 3 with (fail)
  have fN:Fr Non w0 (w0.drewN nq):=(Fr.refl Non w0).drewN nq;have B0:=((bg.fr fN zq).cell 2).trans g2.out;have fw:=f0.trans fN zr;obtain ⟨ar,ak,aj,al,ap,ai⟩:=zk6 fw a9 a5 az a1 aw a8;generalize w0.drewN nq=w1 at*;have F0:Fr Non w1 w1.drew:=(Fr.refl Non w1).drew;refine wp_region_held_drew (S:=fun w'=>cS w' w.heap.size 2 (some ⟨ba,oa,none⟩) N IC/\cI w' ba (oa+i*3) x.b/\cI w' ba (oa+i*3+1) x.s/\cU w' ba (oa+i*3+2) x.u/\cI w' ba (oa+k*3) y.b/\cI w' ba (oa+k*3+1) y.s/\cU w' ba (oa+k*3+2) y.u) (by kernel_rfl) ⟨B0,ar,ak,aj,al,ap,ai⟩ (fun uu=> ?_);refine tkN 0 10 uu (h:=?_);clear uu;refine oG 10 (fun K hK=> ?_);go_simp;go_wp2_with (go_at_call 46;(with_reducible refine (ag.out _).mono ?_);rintro _ v1 ⟨rfl,a7⟩;have F1:=F0.trans a7 zr;obtain ⟨B1,a6,a4,ay,a3,a2,ax⟩:=zk7 F1 B0 ar ak aj al ap ai;have G1:=fw.trans F1 zr);refine hK.out _ _ ⟨B1,a6,a4,ay,a3,a2,ax⟩ (fun uu=> ?_);clear hK K;try simp only [Ah,zl]
  refine tkN 11 1 uu (h:=?_);clear uu;refine oD ?_;go_simp;go_wp2_with fail
  go_ret
  exact ⟨rfl,G1⟩
 ·
  have av:(L1==L2)=false:=beq_eq_false_iff_ne.2 he;have hR:R=decide (L1<L2):=by rw [hq.out,av];simp
  subst hR;have t1:((L1:Int) !=(L2:Int))=true:=by simp;omega
  obtain ⟨BB,aq⟩:=Ab (decide (L1<L2));have bh:decide ((L1:Int)<(L2:Int))=BB:=by rw [<- aq.out];exact decide_eq_decide.2 (by omega)
  have a0:decide (L1<L2)=BB:=aq.out;rw [a0];go_enter func52,ntmps52;go_upto_region 1 with (fail)
  generalize w.alloc (.cells CS 28)=w0 at*;obtain ⟨af,ah⟩:=zk2 f0 d1 d2;clear d1 d2
  go_quiet (fail)
  go_upto_region 2 with (fail)
  have fN:Fr Non w0 (w0.drewN nq):=(Fr.refl Non w0).drewN nq;obtain ⟨bd,be⟩:=zk2 fN af ah;have fw:=f0.trans fN zr;clear af ah;generalize w0.drewN nq=w1 at*
  go_quiet (fail)
  go_wp2_with fail
  go_ret
  exact ⟨rfl,fw.drewN _⟩
theorem A46 (base B n c:Nat) (r:FG) (A:Option Addr) (ps:List Nat) (w:World) (h:r.own w base) (hn:Hid (ps.length=n)) (hr:Rd w B 1 A n (ps.map Qv)) (hlt:∀p∈ps,p<r.l.length) (hnm:n<=1000):
  Calls zp 15 #[.agg r.cells,.slice A n c] w (Ek (ps.map (Ar r.l)) w):=by
 have a5:=h.num.few;have bg:=Blk.new w 28 r.cells;have f0:Fr Non w (w.alloc (.cells r.cells 28)):=(Fr.refl Non w).alloc _;have g2:Hid (r.cells[2]? =some (.slice r.iA r.l.length r.iC)):=rfl;have hid:=lh (fun (p:Nat) (hp:p<r.l.length)=>h.nm hp);have au:Hid ((ps.map (Ar r.l)).length=n):=by show _=_;rw [A68];exact hn.out
 have ak:Hid (∀(k q:Nat),ps[k]? =some q->(ps.map (Ar r.l))[k]? =some (Ar r.l q)):=fun k q hk=>by rw [A74,hk];rfl
 unfold Ek;clear h;generalize ps.map (Ar r.l)=RS at*;generalize Ar r.l=nm at*;generalize r.l.length=N at*;generalize r.iA=IA at*;generalize r.iC=IC at*;generalize r.cells=CS at*;go_enter func15,ntmps15;go_upto_region 1 with (fail)
 have a0:=f0.size;obtain ⟨gb,a1⟩:=Ab w.heap.size;rw [a1.out] at bg ⊢;generalize w.alloc (.cells CS 28)=w0 at*;have a6:=hr.fr f0 zr;have cg:cS w0 gb 2 IA N IC:=(bg.cell 2).trans g2.out;clear bg g2 hr;go_wp2_with fail
 go_loopw [5,6] (fun s v wi=>∃(k:Nat) (Ay:Option Addr) (cy:Nat) (xs:List Id),v=.int .i64 (k:Int)/\s=.slice Ay xs.length cy/\k<=n/\Hid (xs=RS.take k)/\Own wi w0.heap.size 45 3 Ay xs.length cy (xs.flatMap Id.cells)/\Fr Non w0 wi) (fun _ v _=>n-(intOf v).toNat)
 case atStart=>exact ⟨0,none,0,[],rfl,rfl,A69 _,rfl,Own.nil _ _ _ _,Fr.refl _ _⟩
 case round=>
 obtain ⟨k,Ay,cy,xs,rfl,rfl,ba,ah,aa,aj⟩:=hrel;have ag:=aa.row;have bb:xs.length<=k:=by rw [ah.out,A81];omega
 by_cases hkt:k<n
 case neg=>
  obtain rfl:k=n:=by omega
  have t2:decide ((k:Int)<(k:Int))=false:=decide_eq_false (by omega);have ax:xs=RS:=by rw [ah.out,A76 (by rw [au.out];exact A59 _)]
  subst ax;have fz:=f0.trans aj zr;have hd:=lh (show ∃(A:Option Addr) (c:Nat),ze (.slice Ay xs.length cy)=.returned (.slice A xs.length c)/\Own wr w.heap.size 45 3 A xs.length c (xs.flatMap Id.cells)/\Fr Non w wr from ⟨Ay,cy,rfl,aa.lower a0,fz⟩);clear aa;go_wp2_with fail
  go_ret
  exact hd.out
 case pos=>
 obtain ⟨qk,ae⟩:∃qk,ps[k]? =some qk:=⟨_,A60 (by rw [hn.out];exact hkt)⟩;have ap:=hlt qk (A73 ae);obtain ⟨b4,o4,rfl,d0⟩:=Qv.at a6 ae hkt;obtain ⟨bi,oi,rfl,y0,y1,y2⟩:=hid.out qk ap
 have av:Hid (RS.take (k+1)=xs++[nm qk]):=by
  show _=_;rw [Df (ak.out k qk ae),ah.out]
 generalize nm qk=z at*;have t2:decide ((k:Int)<(n:Int))=true:=decide_eq_true (by omega);obtain ⟨j1,j2,j3⟩:=ix k n
 have e6:=iw ((k:Int)+1);obtain ⟨m1,m2,m3⟩:=ix qk N
 obtain ⟨ab,af,ac⟩:=zk3 f0 y0 y1 y2;have F0:Fr Non w0 wr.drew:=aj.drew;obtain ⟨H0,Q0,az,a3,ay⟩:=zk5 F0 cg d0 ab af ac;have O0:Own wr.drew w0.heap.size 45 3 Ay xs.length cy (xs.flatMap Id.cells):=aa.drew;clear hid ak y0 y1 y2 aa;go_upto_region 5 with (fail)
 refine wp_region_held_drew (S:=fun w'=>cS w' gb 2 (some ⟨bi,oi,none⟩) N IC/\cI w' b4 (o4+k) (qk:Int)/\cI w' bi (oi+qk*3) z.b/\cI w' bi (oi+qk*3+1) z.s/\cU w' bi (oi+qk*3+2) z.u) (by kernel_rfl) ⟨H0,Q0,az,a3,ay⟩ (fun uu=> ?_);refine tkN 0 9 uu (h:=?_);clear uu;refine oG 9 (fun K hK=> ?_);go_simp;have a8:Blk ((wr.alloc (.cells z.V 45)).drew) wr.heap.size 45 z.V:=Blk.new wr.drew 45 z.V;have O1:Own ((wr.alloc (.cells z.V 45)).drew) w0.heap.size 45 3 Ay xs.length cy (xs.flatMap Id.cells):=O0.alloc _;have F1:Fr Non w0 ((wr.alloc (.cells z.V 45)).drew):=F0.alloc _;obtain ⟨H1,Q1,a9,aq,ao⟩:=zk5 F1 cg d0 ab af ac;refine hK.out _ _ ⟨H1,Q1,a9,aq,ao⟩ (fun hZ=> ?_);clear hZ hK K;try simp only [Ah,zl]
 generalize (wr.alloc (.cells z.V 45)).drew=v1 at*;have a7:w0.heap.size<=v1.heap.size:=F1.size;refine oG 10 (fun K hK=> ?_);refine Du (base:=w0.heap.size) (.tmp 13) (.tmp 22) 25 rfl rfl rfl Ds O1 (Rd.blk (n:=1) (size:=3) a8 rfl) (by simp [Value.oneCell']) (by omega) (by omega) a7 ?_;intro A6 c6 v2 ad a2 a4;have F2:Fr Non w0 v2:=F1.trans a2 (fun j hj e=>by have:=(ag j e).1;omega);obtain ⟨H2,Q2,ar,aw,al⟩:=zk5 F2 cg d0 ab af ac;refine hK.out _ _ ⟨H2,Q2,ar,aw,al⟩ (fun uu=> ?_);clear hK K;try simp only [Ah,zl]
 refine tkN 11 1 uu (h:=?_);clear uu;refine oD ?_;go_simp
 have ai:Own v2 w0.heap.size 45 3 A6 (xs++[z]).length c6 ((xs++[z]).flatMap Id.cells):=by
  rw [A61,List.flatMap_append];exact ad
 go_wp2_with fail;go_roundw
 case rel=>exact ⟨k+1,A6,c6,xs++[z],by go_num,by rw [A61];rfl,by omega,av.out.symm,ai,F2⟩
 case measure=>simp [intOf];omega
def Fw (l:List Pn) (has:List Id) (K:List Nat) (i:Nat):List Id:=Ck l (((K.take i).map (Ar l)).filter (fun x=> !Bd has x))
theorem A47 (l:List Pn) (has:List Id) {K:List Nat} {i p:Nat} (h:K[i]? =some p) (hh:Bd has (Ar l p)=true):Fw l has K (i+1)=Fw l has K i:=by
 unfold Fw;rw [Df h,A64,A82,A83,show List.filter (fun x=> !Bd has x) [Ar l p]=[] by simp [hh],List.append_nil]
theorem A48 (l:List Pn) (has:List Id) {K:List Nat} {i p:Nat} (h:K[i]? =some p) (hh:Bd has (Ar l p)=false):Fw l has K (i+1)=Dw l (Ar l p) (Fw l has K i):=by
 unfold Fw;rw [Df h,A64,A82,A83,show List.filter (fun x=> !Bd has x) [Ar l p]=[Ar l p] by simp [hh]];unfold Ck;rw [List.foldl_append];rfl
def Lz (l:List Pn) (has:List Id) (K:List Nat) (w:World) (e:Ending) (w':World):Prop:=
 ∃(ps:List Nat) (A:Option Addr) (n c:Nat),e=.returned (.slice A n c)/\Hid (ps.length=n)/\Hid (ps.map (Ar l)=Ck l ((K.map (Ar l)).filter (fun x=> !Bd has x)))/\Hid (∀p∈ps,p<l.length)/\n<=K.length/\Own w' w.heap.size 3 1 A n c (ps.map Qv)/\Fr Non w w'
theorem A49 (base b2 B m c:Nat) (g:FG) (r:RT) (A:Option Addr) (has:List Id) (w:World) (hg:g.own w base) (hr:r.own w b2) (hK:∀q∈r.K,q<g.l.length) (hKl:r.K.length<=1000) (hn:Hid (has.length=m)) (hrd:Rd w B 3 A m (has.flatMap Id.cells)) (hnm:m<=1000000):
  Calls zp 18 #[.agg g.cells,.agg r.cells,.slice A m c] w (Lz g.l has r.K w):=by
 have cp:=hg.num.few;have bg:=(Blk.new w 28 g.cells).alloc (.cells r.cells 34);have br:=Blk.new (w.alloc (.cells g.cells 28)) 34 r.cells;rw [A62] at br;have f0:Fr Non w ((w.alloc (.cells g.cells 28)).alloc (.cells r.cells 34)):=((Fr.refl Non w).alloc _).alloc _;have g2:Hid (g.cells[2]? =some (.slice g.iA g.l.length g.iC)):=rfl;have r0:Hid (r.cells[0]? =some (.slice r.kA r.K.length r.kC)):=rfl;have cq:=Be (P:=zp) w.heap.size 28 underlying28 rfl (cs:=g.cells) Dg;have kl:=lh (fun (w':World) (hf:Fr Non w w')=>A44 base g w' (hg.non hf))
 have al:Hid (∀(A:Option Addr) (c i k:Nat) (w':World),Fr Non w w'->Rd w' w'.heap.size 1 A g.l.length (E2 g.l.length (Ce g.l))->i<g.l.length->k<g.l.length->Calls zp 52 #[.agg g.cells,.slice A g.l.length c,.int .i64 (i:Int),.int .i64 (k:Int)] w' (Ae (Br g.l (Ar g.l i) (Ar g.l k)) w')):=by
  intro A c i k w' hf hrd hi hk;have h1:=A60 hi;have h2:=A60 hk;rw [Jn h1,Jn h2];exact A45 base w'.heap.size c g A i k _ _ w' (hg.non hf) hrd h1 h2
 have a5:=lh (fun (x:Id) (v:World) (hv:Fr Non w v)=>Qu B m c A has x v hn (hrd.fr hv zr) hnm);have hid:=lh (fun (p:Nat) (hp:p<g.l.length)=>hg.nm hp);have rK:=hr.kept.sl.rd;have af:=lh (fun (i p:Nat) (h:r.K[i]? =some p) (hh:Bd has (Ar g.l p)=true)=>A47 g.l has h hh);have ac:=lh (fun (i p:Nat) (h:r.K[i]? =some p) (hh:Bd has (Ar g.l p)=false)=>A48 g.l has h hh);have cm:Hid (Fw g.l has r.K 0=[]):=rfl;have ax:Hid (Fw g.l has r.K r.K.length=Ck g.l ((r.K.map (Ar g.l)).filter (fun x=> !Bd has x))):=by show _=_;unfold Fw;rw [List.take_length]
 have ao:Hid (∀(ps:List Nat) (A:Option Addr) (n c:Nat) (w':World),Hid (ps.length=n)->Hid (ps.map (Ar g.l)=Ck g.l ((r.K.map (Ar g.l)).filter (fun x=> !Bd has x)))->Hid (∀p∈ps,p<g.l.length)->n<=r.K.length->Own w' w.heap.size 3 1 A n c (ps.map Qv)->Fr Non w w'->Lz g.l has r.K w (.returned (.slice A n c)) w'):=fun ps A n c w' h1 h2 h3 h4 h5 h6=>⟨ps,A,n,c,rfl,h1,h2,h3,h4,h5,h6⟩;have ag:Hid (∀(ps:List Nat) (rs:List Id) (x:Id) (p K:Nat),ps.map (Ar g.l)=rs->Ar g.l p=x->K<=ps.length->(∀j q,j<K->ps[j]? =some q->Br g.l (Ar g.l q) x=true)->(∀q,ps[K]? =some q->Br g.l (Ar g.l q) x=false)->(ps.take K++[p]++ps.drop K).map (Ar g.l)=Dw g.l x rs):=fun _ _ _ _ _ h1 h2 h3 h4 h5=>A27 h1 h2 h3 h4 h5;unfold O9 at kl;unfold Ae at al a5;clear hg hr hn hrd;generalize Lz g.l has r.K w=POST at*;generalize E2 g.l.length (Ce g.l)=NC at*;generalize Ck g.l ((r.K.map (Ar g.l)).filter (fun x=> !Bd has x))=RS at*;generalize Fw g.l has r.K=RF at*;generalize hIX:Dw g.l=IX at*;clear hIX;generalize Ar g.l=nm at*;generalize Br g.l=LS at*;generalize Bd has=HA at*;generalize g.l.length=N at*;generalize g.iA=IA at*;generalize g.iC=IC at*;generalize g.cells=CG at*;generalize r.cells=CR at*;generalize r.kA=Ka0 at*;generalize r.kC=Kc0 at*;obtain ⟨M,hM⟩:=Ab r.K.length;rw [hM.out] at r0 rK hKl ax ao;obtain ⟨KS,b3⟩:=Ab r.K;rw [b3.out] at af ac rK hK hM;clear b3;go_enter func18,ntmps18;go_upto_region 1 with (fail)
 obtain ⟨gb,bc⟩:=Ab w.heap.size;rw [bc.out] at bg br cq ⊢;have bx:=f0.size;rw [bc.out] at bx;generalize (w.alloc (.cells CG 28)).alloc (.cells CR 34)=w0 at*;go_upto_region 2 with (go_at_call 51;(with_reducible refine (kl.out _ f0).mono ?_);rintro _ w1 ⟨A7,c7,rfl,co,f1⟩)
 have b6:=f0.trans f1 zr;have bv:=bg.fr f1 zq;have b8:=br.fr f1 zq;have cf:=rK.fr b6 zr;have ch:gb<=w1.heap.size:=A67 bx f1.size;clear kl bg br rK f1;go_wp2_with fail
 go_loopw [8,9] (fun s v wr=>∃(i:Nat) (Ax:Option Addr) (cx M2:Nat) (ps:List Nat),v=.int .i64 (i:Int)/\s=.slice Ax M2 cx/\i<=M/\M2<=i/\Hid (ps.length=M2)/\Hid (ps.map nm=RF i)/\Hid (∀p∈ps,p<N)/\Own wr w1.heap.size 3 1 Ax M2 cx (ps.map Qv)/\Fr Non w1 wr) (fun _ v _=>M-(intOf v).toNat)
 case atStart=>exact ⟨0,none,0,0,[],rfl,rfl,A69 _,A59 _,rfl,cm.out.symm,fun p hp=>absurd hp List.not_mem_nil,Own.nil _ _ _ _,Fr.refl _ _⟩
 case round=>
 obtain ⟨i,Ax,cx,M2,ps,rfl,rfl,hi,ck,aj,bu,aw,aa,hf⟩:=hrel;have aq:Fr Non w wr:=b6.trans hf zr;have cr:=aa.row;have cR:=(b8.fr hf zq);have e0:cS wr (gb+1) 0 Ka0 M Kc0:=(cR.cell 0).trans r0.out
 by_cases hlt:i<M
 case neg=>
  obtain rfl:i=M:=by omega
  have t1:decide ((i:Int)<(i:Int))=false:=decide_eq_false (by omega);have hd:=lh (ao.out ps Ax M2 cx wr aj (by show _=_;rw [bu.out,ax.out]) aw ck (aa.lower (by rw [bc.out];exact ch)) aq);clear al a5 hid af ac ao ag aa;go_wp2_with fail;exact hd.out
 case pos=>
 have t1:decide ((i:Int)<(M:Int))=true:=decide_eq_true (by omega);obtain ⟨p,hp⟩:∃p,KS[i]? =some p:=⟨_,A60 (by rw [hM.out];exact hlt)⟩;have bq:=hK p (A73 hp);obtain ⟨kb,ko,rfl,k0⟩:=Qv.at cf hp hlt;obtain ⟨bi,oi,rfl,y0,y1,y2⟩:=hid.out p bq;have a7:=lh (af.out i p hp);have a6:=lh (ac.out i p hp);obtain ⟨x,bn⟩:=Ab (nm p);rw [bn.out] at a7 a6 y0 y1 y2;have ba:=lh (fun (v:World) (hv:Fr Non w v)=>a5.out x v hv);obtain ⟨HX,cg⟩:=Ab (HA x);rw [cg.out] at a7 a6 ba;obtain ⟨i1,i2,i3⟩:=ix i M
 obtain ⟨m1,m2,m3⟩:=ix p N
 have e6:=iw ((i:Int)+1);have H0:cS wr gb 2 (some ⟨bi,oi,none⟩) N IC:=((bv.fr hf zq).cell 2).trans g2.out;have R0:=e0;have Q0:cI wr kb (ko+i) (p:Int):=hf.cell k0 zq;obtain ⟨bb,bf,bl⟩:=zk3 aq y0 y1 y2;have F0:Fr Non wr wr.drew:=(Fr.refl Non wr).drew;have G0:Fr Non w wr.drew:=aq.drew;clear af ac y0 y1 y2;go_upto_region 6 with (fail)
 refine wp_region_held_drew (S:=fun w'=>cS w' gb 2 (some ⟨bi,oi,none⟩) N IC/\cS w' (gb+1) 0 (some ⟨kb,ko,none⟩) M Kc0/\cI w' kb (ko+i) (p:Int)/\cI w' bi (oi+p*3) x.b/\cI w' bi (oi+p*3+1) x.s/\cU w' bi (oi+p*3+2) x.u) (by kernel_rfl) ⟨H0,R0,Q0,bb,bf,bl⟩ (fun uu=> ?_);refine tkN 0 10 uu (h:=?_);clear uu;refine oG 10 (fun K hK=> ?_);go_simp;go_wp2_with (go_at_call 30;(with_reducible refine (ba.out _ G0).mono ?_);rintro _ v1 ⟨rfl,bt⟩;have F1:=F0.trans bt zr;obtain ⟨H1,R1,Q1,b0,b7,b5⟩:=zk6 F1 H0 R0 Q0 bb bf bl;have G1:=aq.trans F1 zr);refine hK.out _ _ ⟨H1,R1,Q1,b0,b7,b5⟩ (fun hZ=> ?_);clear hZ hK K;try simp only [Ah,zl]
 refine oD ?_;go_simp;have ar:=hf.trans F1 zr;have ad:=aa.fr F1 zr;clear ba a5 aa H0 H1 R0 R1 Q0 bb bf bl b0 b7 b5 G0 F0
 cases HX
 case true=>
  have ap:Hid (ps.map nm=RF (i+1)):=by show _=_;rw [a7.out rfl];exact bu.out
  clear ag al hid;go_wp2_with fail;go_roundw
  case rel=>exact ⟨i+1,Ax,cx,M2,ps,by go_num,rfl,by omega,by omega,aj,ap,aw,ad,ar⟩
  case measure=>simp [intOf];omega
 case false=>
 have cc:=lh (a6.out rfl);clear a7 a6 cR e0;generalize v1=wo at*;have eo:cS wo (gb+1) 0 (some ⟨kb,ko,none⟩) M Kc0:=((b8.fr ar zq).cell 0).trans r0.out;have qo:cI wo kb (ko+i) (p:Int):=ar.cell k0 zq;have bz:=bv.fr ar zq;have ca:Own wo w0.heap.size 3 1 A7 N c7 NC:=co.fr ar zr
 go_upto_block 2 with (fail)
 go_cut [10,11] from 33 to 52 (fun s _ wc=>∃k:Nat,s=.int .i64 (k:Int)/\k<=M2/\Hid (∀j q,j<k->ps[j]? =some q->LS (nm q) x=true)/\Hid (∀q,ps[k]? =some q->LS (nm q) x=false)/\Fr Non wo wc)
 case first=>
  clear ag cc;go_wp2_with fail
  go_loopw [10] (fun v wi=>∃k:Nat,v=.int .i64 (k:Int)/\k<=M2/\Hid (∀j q,j<k->ps[j]? =some q->LS (nm q) x=true)/\Fr Non wo wi) (fun v _=>M2-(intOf v).toNat)
  case atStart=>exact ⟨0,rfl,A69 _,fun j q hj _=>absurd hj (Nat.not_lt_zero j),Fr.refl _ _⟩
  case round=>
  obtain ⟨k,rfl,au,az,ai⟩:=hrel
  by_cases hkt:k<M2
  case neg=>
   obtain rfl:k=M2:=by omega
   have t2:decide ((k:Int)<(k:Int))=false:=decide_eq_false (by omega)
   have a3:Hid (∀q,ps[k]? =some q->LS (nm q) x=false):=fun q hq=>by
    rw [List.getElem?_eq_none (by rw [aj.out];exact A59 _)] at hq
    cases hq
   clear al hid;go_wp2_with fail;go_meet;exact ⟨k,rfl,A59 _,az,a3,ai⟩
  case pos=>
  obtain ⟨qk,a4⟩:∃qk,ps[k]? =some qk:=⟨_,A60 (by rw [aj.out];exact hkt)⟩;have cl:=aw.out qk (A73 a4);obtain ⟨b4,o4,rfl,d0⟩:=Qv.at (ad.fr ai zr).rd a4 hkt;have t2:decide ((k:Int)<(M2:Int))=true:=decide_eq_true (by omega);obtain ⟨j1,j2,j3⟩:=ix k M2
  have e7:=iw ((k:Int)+1);have B0:=bz.fr ai zq;obtain ⟨R0,Q0⟩:=zk2 ai eo qo;have D0:cI wr b4 (o4+k) (qk:Int):=d0;have L0:Own wr w0.heap.size 3 1 A7 N c7 NC:=ca.fr ai zr;have F0:Fr Non wr wr.drew:=(Fr.refl Non wr).drew;have a1:=G1.trans ai zr;have G0:Fr Non w wr.drew:=a1.drew
  have be:Hid (∀w',Fr Non w w'->Rd w' w'.heap.size 1 A7 N NC->Calls zp 52 #[.agg CG,.slice A7 N c7,.int .i64 (qk:Int),.int .i64 (p:Int)] w' (fun e w''=>e=.returned (.bool (LS (nm qk) x))/\Fr Non w' w'')):=by
   intro w' h1 h2;have:=al.out A7 c7 qk p w' h1 h2 cl bq;rwa [bn.out] at this
  have Ld:Own wr.drew w0.heap.size 3 1 A7 N c7 NC:=L0.drew;obtain ⟨BL,a8⟩:=Ab (LS (nm qk) x);rw [a8.out] at be;clear al hid d0;go_upto_region 9 with (fail)
  refine wp_region_held_drew (S:=fun w'=>Blk w' gb 28 CG/\cS w' (gb+1) 0 (some ⟨kb,ko,none⟩) M Kc0/\cI w' kb (ko+i) (p:Int)/\cI w' b4 (o4+k) (qk:Int)/\Own w' w0.heap.size 3 1 A7 N c7 NC) (by kernel_rfl) ⟨B0,R0,Q0,D0,L0⟩ (fun uu=> ?_);refine tkN 0 11 uu (h:=?_);clear uu;refine oG 11 (fun K hK=> ?_);go_simp;go_wp2_with (go_at_call 52;(with_reducible refine (be.out _ G0 Ld.rd).mono ?_);rintro _ v1 ⟨rfl,bt⟩;have F1:=F0.trans bt zr;have B1:=B0.fr F1 zq;obtain ⟨R1,Q1,D1⟩:=zk3 F1 R0 Q0 D0;have L1:=L0.fr F1 zr;have G1:=a1.trans F1 zr);refine hK.out _ _ ⟨B1,R1,Q1,D1,L1⟩ (fun uu=> ?_);clear hK K;try simp only [Ah,zl]
  refine tkN 12 1 uu (h:=?_);clear uu;refine oD ?_;go_simp;have b1:=ai.trans F1 zr;clear be
  cases BL
  case true=>
   have bo:Hid (∀j q,j<k+1->ps[j]? =some q->LS (nm q) x=true):=fun j q hj hq=>by
    rcases Nat.lt_or_ge j k with h1|h1
    · exact az.out j q h1 hq
    ·
     obtain rfl:j=k:=by omega
     rw [a4] at hq;injection hq with hq
     rw [<- hq];exact a8.out
   go_wp2_with fail;go_roundw
   case rel=>exact ⟨k+1,by go_num,by omega,bo,b1⟩
   case measure=>simp [intOf];omega
  case false=>
  have a3:Hid (∀q,ps[k]? =some q->LS (nm q) x=false):=fun q hq=>by
   rw [a4] at hq;injection hq with hq
   rw [<- hq];exact a8.out
  go_wp2_with fail;go_meet;exact ⟨k,rfl,au,az,a3,b1⟩
 case rest=>
 obtain ⟨k,rfl,au,az,a3,fc⟩:=hcut;clear al hid ca;have a2:=ar.trans fc zr;have ae:=ad.fr fc zr;obtain ⟨cu,ct⟩:=ae.cap;obtain ⟨ec,qc⟩:=zk2 fc eo qo;have s1:(0:Int)<=(k:Int):=by omega
 have s2:(k:Int)<=(cx:Int):=by omega
 have s3:(k:Int)<=(M2:Int):=by omega
 have s4:k<=cx:=by omega
 have s5:(k:Int).toNat=k:=by omega
 have a0:=Own.nil wc wc.heap.size 3 1;clear ad eo qo bz;go_upto_region 14 with (first|(at_builtin;go_loud (refine Av (base:=wc.heap.size) (.tmp 53) (.tmp 56) 22 rfl rfl rfl rfl Da a0 (ae.rd.takeN (m:=k) au) (fun u hu=>Lx ps u (A66 hu)) (by omega) (by omega) (A59 _) ?_);intro A2 c2 w2 ab cb bk))
 (try rw [A63,A65] at ab)
 have F2:Fr Non wc w2:=Fb cb;have bd:=ab.row;have bp:=Blk.new w2 3 #[.int .i64 (p:Int)];obtain ⟨ci,ce⟩:=zk2 F2 ec qc;clear cb bk a0;go_upto_region 15 with (first|(at_builtin;go_loud (refine Av (base:=wc.heap.size) (.tmp 58) (.tmp 64) 22 rfl rfl rfl rfl Da (ab.alloc (.cells #[.int .i64 (p:Int)] 3)) (Rd.blk (n:=1) (size:=1) bp rfl) (by simp [Value.oneCell']) (by omega) (by omega) (by rw [A62];have:=F2.size;omega) ?_);intro A3 c3 w3 ak b9 bj))
 have F3:Fr Non wc w3:=(F2.alloc (.cells #[.int .i64 (p:Int)] 3)).trans b9 (fun j hj e=>by have:=(bd j e).1;omega);have bs:=ak.row;have ah:=ae.fr F3 zr;clear b9 bj ab ci ce;go_wp2_with (first|(at_builtin;go_loud (refine Av (base:=wc.heap.size) (.tmp 66) (.tmp 69) 22 rfl rfl rfl rfl Da ak (Rd.part ah.rd (lo:=k) (hi:=M2) au (A59 _) _ (fun hh=>if_neg (by omega))) (fun u hu=>Lx ps u (A72 (A66 hu))) (by omega) (by omega) (by have:=F3.size;omega) ?_);intro A4 c4 w4 av cd cj));have F4:Fr Non wc w4:=F3.trans cd (fun j hj e=>by have:=(bs j e).1;omega)
 have bw:(ps.map Qv).take (k*1)++[Value.int .i64 (p:Int)]++((ps.map Qv).drop k).take (M2-k)=(ps.take k++[p]++ps.drop k).map Qv:=by
  rw [Nat.mul_one,A76 (l:=(ps.map Qv).drop k) (by rw [A77,A68,aj.out];exact A59 _)];simp only [A64,List.map_take,List.map_drop];rfl
 have ay:Own w4 wc.heap.size 3 1 A4 (k+1+(M2-k)) c4 ((ps.take k++[p]++ps.drop k).map Qv):=by
  rw [<- bw];exact av
 have cn:w1.heap.size<=wc.heap.size:=a2.size;have bm:Hid ((ps.take k++[p]++ps.drop k).length=k+1+(M2-k)):=by show _=_;rw [A61,A61,A81,A77,aj.out,Nat.min_eq_left au];rfl
 have ap:Hid ((ps.take k++[p]++ps.drop k).map nm=RF (i+1)):=by
  show _=_;rw [cc.out];exact ag.out ps _ x p k bu.out bn.out (by rw [aj.out];exact au) az.out a3.out
 have bh:Hid (∀q∈ps.take k++[p]++ps.drop k,q<N):=by
  intro q hq
  rcases List.mem_append.1 hq with hq|hq
  ·
   rcases List.mem_append.1 hq with hq|hq
   · exact aw.out q (A66 hq)
   · rw [List.mem_singleton.1 hq];exact bq
  · exact aw.out q (A72 hq)
 have fz:=a2.trans F4 zr;have a9:=ay.lower cn;clear ay av ak ae ah bw;go_roundw
 case rel=>exact ⟨i+1,A4,c4,k+1+(M2-k),_,by go_num,rfl,by omega,by omega,bm.out,ap.out,bh.out,a9,fz⟩
 case measure=>simp [intOf];omega
end Oq
namespace Oq
attribute [local go_sem] A70 A71
attribute [local go_sem ↓] Bq Dx
theorem A50 {cards:List Cd} {l:List Pn} (h:Rows cards l):∀n∈l,n.o.s<2305843009213693950/\(Dr n.o).chk=0:=by
 induction h with
 |nil=>intro n hn;cases hn
 |snoc l o hl ho ih=>
  intro n hn
  rcases List.mem_append.1 hn with hn|hn
  · exact ih n hn
  ·
   rw [List.mem_singleton.1 hn];obtain ⟨⟨c,_,hc⟩,_⟩:=Lg ho;refine ⟨?_,(Kk ho).chk⟩;show o.s<_;unfold Sg.check Sg.within at hc;simp only [Bool.and_eq_true,decide_eq_true_eq] at hc;have:=hc.1.2.2;omega
theorem A51 {o:Op} (h:o.ok):(Dr o).ok:={h with s:=by show (o.s+1)%2305843009213693950<18446744073709551616;have:(o.s+1)%2305843009213693950<2305843009213693950:=Nat.mod_lt _ (by decide);omega}
theorem A52 (x:OpL) (V:Nat):x.cells.setIfInBounds 26 (.int .u64 (V:Int))=({x with s:=V}:OpL).cells:=rfl
def Hj (o:Op) (bad:Bool):Op:=if bad=true then Dr o else o
theorem A53 (x:OpL) (bad:Bool) (w:World) (hat:x.at w w.heap.size) (hok:x.op.ok) (hs:x.s<2305843009213693950):
  Calls zp 10 #[.agg x.cells,.bool bad] w (NewB w (Hj x.op bad).put):=by
 have aa:(zp.info? 52).map (·.size)=some 27:=by kernel_rfl
 have bx:=Blk.new w 52 x.cells;have f0:Fr Non w (w.alloc (.cells x.cells 52)):=(Fr.refl Non w).alloc _
 have ab:Hid (∀(o:Op) (A:Option Addr) (n c:Nat) (wv w':World),o=Hj x.op bad->Fr Non w wv->Own w' wv.heap.size 5 1 A n c (o.put.map Bv)->Fr Non wv w'->NewB w (Hj x.op bad).put (.returned (.slice A n c)) w'):=by
  intro o A n c wv w' h1 h2 h3 h4;subst h1;exact NewB.mk (h3.lower h2.size) rfl rfl (h2.trans h4 zr)
 generalize NewB w (Hj x.op bad).put=POST at*;obtain ⟨xb,ad⟩:=Ab w.heap.size;rw [ad.out] at bx
 cases bad
 case false=>
  have kp:=lh (Hy x _ (OpL.frame hat f0) hok);unfold NewB at kp;have hl:=Be (P:=zp) xb 52 underlying52 rfl (cs:=x.cells) aa;obtain ⟨n,hn⟩:=Ab x.op.put.length;rw [hn.out] at kp;obtain ⟨XC,af⟩:=Ab x.cells;rw [af.out] at bx f0 kp hl ⊢;clear hat hok hs;go_enter func10,ntmps10;go_upto_region 1 with (fail)
  try rw [ad.out]
  generalize w.alloc (.cells XC 52)=w0 at*;go_wp2_with (go_at_call 20;(with_reducible refine (kp.out).mono ?_);rintro _ w1 ⟨A1,c1,rfl,o1,f1⟩;(have hd:=lh (ab.out x.op A1 n c1 w0 w1 rfl f0 o1 f1)));exact hd.out
 case true=>
  obtain ⟨V,hV⟩:∃V:Nat,Hid ((x.s+1)%2305843009213693950=V):=⟨_,rfl⟩;have al:V<2305843009213693950:=by rw [<- hV.out];exact Nat.mod_lt _ (by decide)
  obtain ⟨y,hy⟩:∃y:OpL,Hid (y={x with s:=V}):=⟨_,rfl⟩;have ak:Hid (y.op=Hj x.op true):=by show _=_;rw [hy.out,<- hV.out];rfl
  have ag:y.op.ok:=by rw [hy.out];exact {hok with s:=by show V<18446744073709551616;omega}
  have ac:∀w',Fr Non w w'->y.at w' w'.heap.size:=fun w' h=>by
   have:=OpL.frame hat h;rw [hy.out];exact ⟨this.past,this.path,this.nodes,this.body,this.refs,this.guards,this.boxes,this.hist,this.seals⟩
  have kp:=lh (fun (w':World) (h:Fr Non w w')=>Hy y w' (ac w' h) ag);unfold NewB at kp;obtain ⟨n,hn⟩:=Ab y.op.put.length;rw [hn.out] at kp;have hl:=Be (P:=zp) xb 52 underlying52 rfl (cs:=y.cells) aa;have ah:cU (w.alloc (.cells x.cells 52)) xb 26 x.s:=bx.cell 26;have ai:(w.alloc (.cells x.cells 52)).frozen? ⟨xb,26,none⟩=false:=bx.frozen 26;have ae:=bx.set 26 (.int .u64 (V:Int));rw [A52,<- hy.out] at ae;have f2:Fr Non w ((w.alloc (.cells x.cells 52)).setCell ⟨xb,26,none⟩ (.int .u64 (V:Int))):=f0.setCell (p:=⟨xb,26,none⟩) (fun hh=>absurd hh (by show ¬xb<_;have:=ad.out;omega)) _;have e1:IntKind.u64.wrap ((x.s:Int)+1)=(x.s:Int)+1:=by rw [IntKind.wrap_u64];omega
  have e2:((x.s:Int)+1).tmod 2305843009213693950=(V:Int):=by rw [Int.tmod_eq_emod_of_nonneg (by omega),<- hV.out];omega
  have e3:IntKind.u64.wrap (V:Int)=(V:Int):=by rw [IntKind.wrap_u64];omega
  have ao:¬(2305843009213693950:Int)=0:=by decide
  have ap:((2305843009213693950:Int)==0)=false:=by decide
  obtain ⟨XC,af⟩:=Ab x.cells;rw [af.out] at bx f0 ah ai ae f2 ⊢;obtain ⟨YC,aj⟩:=Ab y.cells;rw [aj.out] at ae hl kp;obtain ⟨S,hS⟩:=Ab x.s;rw [hS.out] at ah e1 e2;clear hat hok hs ac ag;go_enter func10,ntmps10;generalize (2305843009213693950:Int)=PM at*;go_upto_region 1 with (fail)
  try rw [ad.out]
  generalize w.alloc (.cells XC 52)=w0 at*;go_upto_region 3 with (fail)
  generalize w0.setCell ⟨xb,26,none⟩ (.int .u64 (V:Int))=w2 at*;go_wp2_with (go_at_call 20;(with_reducible refine (kp.out _ f2).mono ?_);rintro _ w1 ⟨A1,c1,rfl,o1,f1⟩;(have hd:=lh (ab.out y.op A1 n c1 w2 w1 ak.out f2 o1 f1)));exact hd.out
end Oq
namespace Oq
attribute [local go_sem] A70 A71
theorem A54 (B B' n c c':Nat) (A A':Option Addr) (l:List UInt8) (w:World) (hn:Hid (l.length=n)) (hr:Rd w B 1 A n (l.map Bv)) (hr':Rd w B' 1 A' n (l.map Bv)) (hnm:n<=1000000):
  Calls zp 19 #[.slice A n c,.slice A' n c'] w (Ae true w):=by
 have t:((n:Int) !=(n:Int))=false:=by simp
 unfold Ae;go_enter func19,ntmps19;go_wp2
 go_loopw [5] (fun v wr=>∃k:Nat,v=.int .i64 (k:Int)/\k<=n/\Fr Non w wr) (fun v _=>n-(intOf v).toNat)
 case atStart=>exact ⟨0,rfl,by omega,Fr.refl _ _⟩
 case round=>
  obtain ⟨k,rfl,hk,hf⟩:=hrel
  by_cases hlt:k<n
  ·
   obtain ⟨y,hy⟩:∃y,l[k]? =some y:=⟨_,A60 (by rw [hn.out];exact hlt)⟩;obtain ⟨b,off,u,rfl,hbB,hu,c0⟩:=(hr.fr hf zr).at hlt;rw [A74,hy] at hu;injection hu with hu
   subst hu;obtain ⟨b',off',u',rfl,hbB',hu',d0⟩:=(hr'.fr hf zr).at hlt;rw [A74,hy] at hu';injection hu' with hu'
   subst hu';have c0':wr.cell? ⟨b,off+k,none⟩=some (.int .u8 (y.toNat:Int)):=c0;have d0':wr.cell? ⟨b',off'+k,none⟩=some (.int .u8 (y.toNat:Int)):=d0;clear c0 d0 hy;generalize (y.toNat:Int)=z at*;obtain ⟨i1,i2,i3⟩:=ix k n
   have e0:(z !=z)=false:=by simp
   go_upto_region 6 with (fail)
   go_quiet (fail)
   go_wp2;go_roundw
   case rel=>exact ⟨k+1,by go_num,by omega,hf.drewN _⟩
   case measure=>simp [intOf];omega
  ·
   obtain rfl:k=n:=by omega
   go_wp2
   go_ret
   exact ⟨rfl,hf⟩
theorem Ag.okAt.farR {w w':World} {base g:Nat} {cs:Array Value} {r:Ag} (h:r.okAt w base) (hb:Blk w g 34 cs) (hf:Fr (One g) w w'):r.okAt w' base:=by
 have hT:=Types.one hb
 have hd:∀k,One g k->¬r.own k:=fun k hk e=>by
  have e':k=g:=hk;subst e';have hbb:=hb;unfold Blk at hbb;exact (show ¬Rty 34 by unfold Rty Gty;decide) (h.types k cs _ _ hbb e)
 refine ⟨h.blk.fr hf (fun e=>hd _ e (.inl rfl)),h.rbase,?_,h.row.fr hf (fun k hk e=>hd _ e (.inr (.inr hk))),fun x hxm=>⟨(h.ops x hxm).1.keepP hf hT (by decide) (by decide) (by decide) (by decide) (by decide) (by decide) (by decide),(h.ops x hxm).2⟩,h.few⟩;exact h.graph.keepP hf hT (fun e=>hd _ e (.inr (.inl (.inr (.inl rfl))))) (by decide) (by decide) (by decide) (by decide) (by decide) (by decide) (by decide) (by decide) (by decide) (by decide)
structure PlS (w2 wr:World) (wb rb:Nat) (x:FG) (r1:Ag) (s:RT):Prop where
 rel:r1.okAt wr w2.heap.size
 rb_:r1.rb=rb
 cards:r1.g.cards=x.cards
 blk:Blk wr wb 34 s.cells
 own:s.own wr w2.heap.size
 fr:Fr Non w2 wr
 new:w2.heap.size<=wb
theorem PlS.non {w2 w w':World} {wb rb:Nat} {x:FG} {r1:Ag} {s:RT} (h:PlS w2 w wb rb x r1 s) (hf:Fr Non w w'):PlS w2 w' wb rb x r1 s:=⟨h.rel.non hf,h.rb_,h.cards,h.blk.fr hf zq,h.own.non hf,h.fr.trans hf zr,h.new⟩
theorem PlS.setR {w2 w:World} {wb rb:Nat} {x:FG} {r1:Ag} {s s':RT} (h:PlS w2 w wb rb x r1 s) (ho:s'.own w w2.heap.size):PlS w2 (w.setRow wb s'.cells) wb rb x r1 s':=
 ⟨h.rel.farR h.blk (Gk _),h.rb_,h.cards,h.blk.setRow,ho.keepP (Gk _) (Types.one h.blk) (by decide) (by decide),h.fr.setRow (fun hh=>absurd hh (by have:=h.new;omega)) _,h.new⟩
theorem PlS.took {w2 w w':World} {wb rb:Nat} {x:FG} {r1 r2:Ag} {s:RT} (h:PlS w2 w wb rb x r1 s) (hs:Ag.Step w2.heap.size r1 r2 w w'):PlS w2 w' wb rb x r2 s:=
 ⟨hs.ok,hs.rb.trans h.rb_,hs.cards.trans h.cards,h.blk.fr hs.fr (fun e=>by
  have hbb:=h.blk;unfold Blk at hbb;exact (show ¬Rty 34 by unfold Rty Gty;decide) (h.rel.types _ _ _ _ hbb e)),h.own.keepP hs.fr h.rel.types (by unfold Rty Gty;decide) (by unfold Rty Gty;decide),h.rel.below hs.fr h.fr (A59 _),h.new⟩
theorem A55 {l:List Pn} (h:∀n∈l,n.o.ok) {q:Nat × Bool} (hq:q.1<l.length):(opB l q).ok:=by
 have h1:=h _ (List.getElem_mem hq);unfold opB;rw [E1 (A60 hq)]
 split
 · exact A51 h1
 · exact h1
