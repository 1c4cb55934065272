/-
  Contracts of the functions that the claim's statement reaches, walked one by one (part 7).
  Conditions: as each theorem says.
-/
import Derived.Laws.IdiomCopy
import Derived.Test.YtihfebhfgliojaaGreatDoorRkU6
set_option maxRecDepth 100000
set_option maxHeartbeats 16000000
open List renaming getElem?_eq_getElem->Ax3,drop_drop->Ax4,getElem?_set_self->Ax5,take_of_length_le->Ax6,length_take->Ax7
namespace Go.Proofs.YtihfebhfgliojaaGreatDoor
attribute [local go_sem ↓] Go.wp_at_zero Go.wp_at_succ
section
open Go.RowKit
theorem Rc (g:Nat):∀(vs:List Value) (o:Nat) (w:World),Fr (One g) w (w.setCells g o vs)
 |[],_,_=>Fr.refl _ _
 |v::vs,o,w=>((Fr.refl (One g) w).setCell (p:=⟨g,o,none⟩) (fun _=>rfl) v).trans (Rc g vs (o+1) _) zr
namespace Oq
theorem Re {α:Type} (l:List α) (p:α->Bool) (h:l.any p=false):l.filter (fun x=> !p x)=l:=by
 rw [List.filter_eq_self];intro x hx;rw [List.any_eq_false] at h;simpa using h x hx
theorem Rf {α:Type} (l:List α) (p:α->Bool) {k:Nat} {x:α} (h:l[k]? =some x):(l.take (k+1)).filter p=(l.take k).filter p++(if p x then [x] else []):=by
 obtain ⟨hk,rfl⟩:=List.getElem?_eq_some_iff.1 h;rw [List.take_succ_eq_append_getElem hk,List.filter_append];congr 1
 cases hp:p l[k]<;>simp [hp]
theorem Own.putId {w:World} {base n c g:Nat} {l:List Id} (h:Own w base 38 3 (some ⟨g,0,none⟩) n c (l.flatMap Id.cells)) {i:Nat} {y:Id} (hy:l[i]? =some y) (hi:i<n) (x:Id):
  (∀j,j<3->(w.cell? ⟨g,i*3+j,none⟩).isSome=true/\w.frozen? ⟨g,i*3+j,none⟩=false)/\
  Own (((w.setCell ⟨g,i*3,none⟩ (.int .i64 x.b)).setCell ⟨g,i*3+1,none⟩ (.int .i64 x.s)).setCell ⟨g,i*3+2,none⟩ (.int .u64 (x.u:Int))) base 38 3 (some ⟨g,0,none⟩) n c ((l.set i x).flatMap Id.cells):=by
 constructor
 ·
  intro j hj;obtain ⟨g2,hA,_,_,hc,hz,_⟩:=Own.setAt h (j:=i*3+j) (by omega) (.int .i64 0);have hgg:g=g2:=by injection hA with e;injection e
  subst hgg;have hl:(l.flatMap Id.cells)[i*3+j]? =y.cells[j]? :=Gv (f:=Id.cells) (fun _=>rfl) l i j y hy hj;have hyj:∃v,y.cells[j]? =some v:=⟨_,Ax3 (by show j<3;exact hj)⟩;obtain ⟨v,hv⟩:=hyj;exact ⟨by rw [hc v (hl.trans hv)];rfl,hz⟩
 ·
  have step:∀(w:World) (xs:List Value) (j:Nat) (u:Value),Own w base 38 3 (some ⟨g,0,none⟩) n c xs->j<n*3->Own (w.setCell ⟨g,j,none⟩ u) base 38 3 (some ⟨g,0,none⟩) n c (xs.set j u):=by
   intro w xs j u h hj;obtain ⟨g2,hA,_,_,_,_,ho⟩:=Own.setAt h (j:=j) hj u;have hgg:g=g2:=by injection hA with e;injection e
   subst hgg;exact ho
  have h1:=step _ _ (i*3) (.int .i64 x.b) h (by omega);have h2:=step _ _ (i*3+1) (.int .i64 x.s) h1 (by omega);have h3:=step _ _ (i*3+2) (.int .u64 (x.u:Int)) h2 (by omega);have e1:(l.flatMap Id.cells).set (i*3) (.int .i64 x.b)=(l.set i ⟨x.b,y.s,y.u⟩).flatMap Id.cells:=H5 (f:=Id.cells) (size:=3) (fun _=>rfl) (j:=0) (by omega) _ _ l i y hy rfl
  have hi1:(l.set i ⟨x.b,y.s,y.u⟩)[i]? =some ⟨x.b,y.s,y.u⟩:=by
   rw [Ax5 (List.getElem?_eq_some_iff.1 hy).1]
  have e2:((l.set i ⟨x.b,y.s,y.u⟩).flatMap Id.cells).set (i*3+1) (.int .i64 x.s)=(l.set i ⟨x.b,x.s,y.u⟩).flatMap Id.cells:=by
   have:=H5 (f:=Id.cells) (size:=3) (fun _=>rfl) (j:=1) (by omega) (.int .i64 x.s) ⟨x.b,x.s,y.u⟩ _ i _ hi1 rfl;rwa [List.set_set] at this
  have hi2:(l.set i ⟨x.b,x.s,y.u⟩)[i]? =some ⟨x.b,x.s,y.u⟩:=by
   rw [Ax5 (List.getElem?_eq_some_iff.1 hy).1]
  have e3:((l.set i ⟨x.b,x.s,y.u⟩).flatMap Id.cells).set (i*3+2) (.int .u64 (x.u:Int))=(l.set i x).flatMap Id.cells:=by
   have:=H5 (f:=Id.cells) (size:=3) (fun _=>rfl) (j:=2) (by omega) (.int .u64 (x.u:Int)) x _ i _ hi2 rfl;rwa [List.set_set] at this
  rw [e1,e2,e3] at h3;exact h3
theorem Rg (n:Nat):(Builtin.zeroCells (Value.agg #[.int .i64 0,.int .i64 0,.int .u64 0]).cells n).toList.length=n*3:=by
 simp [Builtin.zeroCells,Value.cells]
theorem Zd (n:Nat):∀v∈(Builtin.zeroCells (Value.agg #[.int .i64 0,.int .i64 0,.int .u64 0]).cells n).toList,v.oneCell'=true:=by
 intro v hv;unfold Builtin.zeroCells at hv;rw [Array.toList_map] at hv;obtain ⟨i,_,rfl⟩:=List.mem_map.1 hv;have h:i%3=0\/i%3=1\/i%3=2:=by omega
 show (#[Value.int .i64 0,.int .i64 0,.int .u64 0][i%3]!).oneCell'=true
 rcases h with e|e|e<;>rw [e]<;>rfl
theorem Rh:Ra:=by
 intro a5 gv A c l p w aa ar ah;have a3:=Lib.hid (Yv w.heap.size l.length c gv A l p w rfl aa.rd ar (fun x hx w' hf=>ah x hx w' (hf.mono (fun _ _ e=>e.elim))));obtain ⟨n,hn⟩:=Aa l.length;have a9:=aa.cap;have a4:=aa.row
 have ag:Hid (∀(ys:List Id) (m:Nat) (w':World),m=ys.length->ys=l.filter (fun x=> !p x)->Rd w' w'.heap.size 3 A m (ys.flatMap Id.cells)->Fr (fun k=>Ae A=some k) w w'->(∃ys:List Id,ys=l.filter (fun x=> !p x)/\Ending.returned (.slice A m c)=.returned (.slice A ys.length c)/\Rd w' w'.heap.size 3 A ys.length (ys.flatMap Id.cells)/\Fr (fun k=>Ae A=some k) w w')):=by
  intro ys m w' h1 h2 h3 h4;subst h1;exact ⟨ys,h2,rfl,h3,h4⟩
 rw [hn.out] at a3 aa a9 ar ⊢;go_enter Tryz.func129,Tryz.ntmps129;go_wp2_with fail;refine (a3.out).mono ?_;rintro e w1 ⟨h,f1⟩;clear a3;have bc:Fr (fun k=>Ae A=some k) w w1:=f1.mono (fun _ _ e=>e.elim);replace aa:=aa.fr f1 zr
 rcases h with ⟨k,id,rfl,hk,hpk,hany⟩|⟨rfl,hany⟩
 ·
  have bq:k<n:=by rw [<- hn.out];exact (List.getElem?_eq_some_iff.1 hk).1
  obtain ⟨g,rfl⟩:∃g,A=some ⟨g,0,none⟩:=by
   rcases aa.2 with ⟨_,h0⟩|⟨g,cap,ab,hv,_⟩
   · omega
   ·
    injection hv with hA _ _
    exact ⟨g,hA⟩
  have bj:((k:Int)== -1)=false:=by rw [beq_eq_false_iff_ne];omega
  have ak:Hid (l.take k=(l.take (k+1)).filter (fun x=> !p x)):=by
   show _=_;rw [Rf l _ hk,hpk,Re _ _ hany];simp
  clear hany hpk hk;go_wp2_with fail
  go_loopw [5,6] (fun vi vj wr=>∃(i j:Nat) (ab:List Id),vi=.int .i64 (i:Int)/\vj=.int .i64 (j:Int)/\i<j/\j<=n/\Hid (ab.take i=(l.take j).filter (fun x=> !p x))/\Hid (ab.drop j=l.drop j)/\Own wr a5 38 3 (some ⟨g,0,none⟩) n c (ab.flatMap Id.cells)/\Fr (fun k=>Ae (some ⟨g,0,none⟩)=some k) w wr) (fun _ vj _=>n-(intOf vj).toNat)
  case atStart=>exact ⟨k,k+1,l,rfl,by go_num,by omega,by omega,ak.out,rfl,aa,bc⟩
  case round=>
   obtain ⟨i,j,ab,rfl,rfl,bt,bu,ad,af,ac,hf⟩:=hrel
   have a8:ab.length=n:=by
    have h1:=ac.len;rw [Gw (f:=Id.cells) (size:=3) (fun _=>rfl)] at h1;omega
   by_cases hlt:j<n
   ·
    obtain ⟨i1,i2,i3⟩:=ix j n
    obtain ⟨m1,m2,m3⟩:=ix i n
    obtain ⟨x,hx⟩:∃x,l[j]? =some x:=⟨_,Ax3 (by rw [hn.out];exact hlt)⟩;obtain ⟨y,hy⟩:∃y,ab[i]? =some y:=⟨_,Ax3 (by rw [a8];omega)⟩;have bd:ab[j]? =some x:=(My af.out).trans hx;obtain ⟨b,bl,hA,bf,k0,k1,k2⟩:=Id.at ac.rd bd;obtain ⟨rfl,rfl⟩:g=b/\0=bl:=by injection hA with e;injection e with e1 e2;exact ⟨e1,e2⟩
    rw [Nat.zero_add] at k0 k1 k2;have aw:=Lib.hid (Rf l (fun x=> !p x) hx);have hc:=Lib.hid (fun w' (h:Fr (fun k=>Ae (some ⟨g,0,none⟩)=some k) w w')=>ah x (List.mem_of_getElem? hx) w' h);have bg:=Lib.hid (fun (wv:World) (hv:Fr Non wr wv)=>Own.putId (ac.fr hv zr) hy (by omega) x);have av:=hf.alloc (.cells x.V 38);have bh:=Blk.new wr 38 x.V;have be:Fr Non wr (wr.alloc (.cells x.V 38)):=(Fr.refl Non wr).alloc _;have bb:g<wr.heap.size:=bf;have aq:=ac;have bs:=Lib.hid hx;have bk:=Lib.hid hy;have bp:i<l.length:=by rw [hn.out];omega
    clear hx hy bd hA bf ac aa a4 ak a8
    have bi:=Lib.hid (show (ab.set i x).drop (j+1)=l.drop (j+1) by
     rw [List.drop_set_of_lt (by omega)];have h2:=congrArg (List.drop 1) af.out;rwa [Ax4,Ax4] at h2)
    have a0:=Lib.hid (show ab.drop (j+1)=l.drop (j+1) by
     have h2:=congrArg (List.drop 1) af.out;rwa [Ax4,Ax4] at h2)
    rcases zb (p x) with hp|hp
    ·
     have az:Hid (ab.take i=(l.take (j+1)).filter (fun x=> !p x)):=by
      show _=_;rw [aw.out,hp,ad.out];simp
     rw [hp] at hc;clear hp aw;go_wp2_with (go_at_call 130;(with_reducible refine (hc.out _ av).mono ?_);rintro _ w2 ⟨rfl,f2⟩);go_roundw
     case rel=>exact ⟨i,j+1,ab,rfl,by go_num,by omega,by omega,az,a0,(aq.fr be zr).fr f2 zr,av.trans f2 (fun _ _ e=>e.elim)⟩
     case measure=>simp [intOf];omega
    ·
     have az:Hid ((ab.set i x).take (i+1)=(l.take (j+1)).filter (fun x=> !p x)):=by
      show _=_;rw [aw.out,hp,Mx ab i x bk.out,ad.out];simp
     rw [hp] at hc;clear hp aw;go_wp2_with (go_at_call 130;(with_reducible refine (hc.out _ av).mono ?_);rintro _ w2 ⟨rfl,f2⟩;obtain ⟨hz,ho⟩:=bg.out w2 (be.trans f2 zr);have a1:=hz 0 (by omega);have ay:=hz 1 (by omega);have au:=hz 2 (by omega);obtain ⟨v0,y0⟩:=Option.isSome_iff_exists.1 a1.1;obtain ⟨v1,y1⟩:=Option.isSome_iff_exists.1 ay.1;obtain ⟨v2,y2⟩:=Option.isSome_iff_exists.1 au.1;have z0:=a1.2;have z1:=ay.2;have z2:=au.2;rw [Nat.add_zero] at y0 z0;clear hz a1 ay au bg;have ao:=bh.fr f2 zq;have b0:=ao.cell 0;have b1:=ao.cell 1;have b2:=ao.cell 2;replace b0:w2.cell? ⟨wr.heap.size,0,none⟩=some (.int .i64 x.b):=b0;replace b1:w2.cell? ⟨wr.heap.size,1,none⟩=some (.int .i64 x.s):=b1;replace b2:w2.cell? ⟨wr.heap.size,2,none⟩=some (.int .u64 (x.u:Int)):=b2);go_roundw
     case rel=>
      exact ⟨i+1,j+1,ab.set i x,by go_num,by go_num,by omega,by omega,az,bi,ho,(((av.trans f2 (fun _ _ e=>e.elim)).setCell (p:=⟨g,i*3,none⟩) (fun _=>rfl) _).setCell (p:=⟨g,i*3+1,none⟩) (fun _=>rfl) _).setCell (p:=⟨g,i*3+2,none⟩) (fun _=>rfl) _⟩
     case measure=>simp [intOf];omega
   ·
    obtain rfl:j=n:=by omega
    obtain ⟨bn,bo,bv⟩:=ix i j
    have br:=ac.cap;have bm:(i:Int)<c:=by omega
    have bb:=ac.row g rfl
    have al:Hid (∀vs:List Value,Rd (wr.setCells g (i*3) vs) (wr.setCells g (i*3) vs).heap.size 3 (some ⟨g,0,none⟩) i ((l.filter (fun x=> !p x)).flatMap Id.cells)/\Fr (fun k=>Ae (some ⟨g,0,none⟩)=some k) w (wr.setCells g (i*3) vs)):=by
     intro vs;have fz:=Rc g vs (i*3) wr
     have e1:ab.take i=l.filter (fun x=> !p x):=by
      rw [ad.out,Ax6 (by rw [hn.out];exact Nat.le_refl _)]
     have ai:(l.filter (fun x=> !p x)).length=i:=by rw [<- e1,Ax7];omega
     refine ⟨⟨by rw [Gw (f:=Id.cells) (size:=3) (fun _=>rfl),ai],.inr ⟨g,0,rfl,Nat.lt_of_lt_of_le bb.2 fz.size,?_⟩⟩,hf.trans fz (fun k _ e=>by have e':k=g:=e;subst e';rfl)⟩;intro q u hu
     have hq:q<i*3:=by
      have h1:=(List.getElem?_eq_some_iff.1 hu).1;rw [Gw (f:=Id.cells) (size:=3) (fun _=>rfl),ai] at h1;exact h1
     rw [Nat.zero_add,World.cell?_setCells_out g vs (i*3) wr ⟨g,q,none⟩ (fun _ _=> .inl hq)];obtain ⟨g2,a6,_,_,ax,_,_⟩:=Own.setAt ac (j:=q) (by omega) (.int .i64 0);have ba:g=g2:=by injection a6 with e;injection e
     subst ba;refine ax u ?_;rw [<- e1] at hu;have ap:ab.flatMap Id.cells=(ab.take i).flatMap Id.cells++(ab.drop i).flatMap Id.cells:=by rw [<- List.flatMap_append,List.take_append_drop]
     rw [ap,List.getElem?_append_left (List.getElem?_eq_some_iff.1 hu).1];exact hu
    have ae:Hid (∀q,q<(j-i)*3->(wr.cell? ⟨g,i*3+q,none⟩).isSome=true/\wr.frozen? ⟨g,i*3+q,none⟩=false):=by
     intro q hq;have hm:i*3+q<j*3:=by omega
     obtain ⟨g2,a6,_,_,ax,au,_⟩:=Own.setAt ac (j:=i*3+q) hm (.int .i64 0);have ba:g=g2:=by injection a6 with e;injection e
     subst ba;have hl:i*3+q<(ab.flatMap Id.cells).length:=by rw [Gw (f:=Id.cells) (size:=3) (fun _=>rfl),a8];exact hm
     exact ⟨by rw [ax _ (Ax3 hl)];rfl,au⟩
    have aj:Hid (i=(l.filter (fun x=> !p x)).length):=by
     show _=_
     have e1:ab.take i=l.filter (fun x=> !p x):=by
      rw [ad.out,Ax6 (by rw [hn.out];exact Nat.le_refl _)]
     rw [<- e1,Ax7];omega
    clear ac ad af ah aa ak hf
    have a7:(Builtin.clear_ #[28] 0 #[Value.slice (some ⟨g,i*3,none⟩) (j-i) (c-i)]).run Tryz.prog wr=.ok (.tuple #[]) (wr.setCells g (i*3) (Builtin.zeroCells (Value.agg #[.int .i64 0,.int .i64 0,.int .u64 0]).cells (j-i)).toList):=
     Zc wr 28 38 0 _ Tryz.underlying28 (fun _=>Tryz.zeroValue38 _) g (i*3) (j-i) (c-i) (by omega) (fun q hq=>(ae.out q (by rw [Rg] at hq;exact hq)).1) (fun q hq=>(ae.out q (by rw [Rg] at hq;exact hq)).2) (Zd _)
    have a2:=Lib.hid (fun vs=>ag.out (l.filter (fun x=> !p x)) i (wr.setCells g (i*3) vs) aj.out rfl (al.out vs).1 (al.out vs).2);clear ae al aj ag;generalize (Builtin.zeroCells (Value.agg #[.int .i64 0,.int .i64 0,.int .u64 0]).cells (j-i)).toList=ZS at a7;go_wp2_with fail
    go_ret
    exact a2.out _
 ·
  have a2:=Lib.hid (ag.out l n w1 hn.out.symm (Re l p hany).symm (by have:=aa.rd;exact this) bc);clear ag ah hany;go_wp2_with fail
  go_ret
  exact a2.out
end Oq
end
section
open Go.RowKit Go.Sort
namespace Oq
theorem Ju (v:Value):Instr.loadAt 114 v=ldS 114 v:=rfl
theorem Jv (p v:Value):Instr.storeAt 114 p v=stS 114 p v:=rfl
attribute [local go_sem ↓] Ju Jv
def picks (l:List Ai) (p:Nat->Bool) (k:Nat):List Id:=(List.range k).filterMap (fun i=>if p i then l[i]?.map Ai.id else none)
theorem Jw (n:Ai):n.cells.toArray.all (·.oneCell')=true:=by
 unfold Ai.cells OpL.cells;simp [Value.oneCell']
def Picked (g:Gph) (p:Nat->Bool) (w:World) (e:Ending) (w':World):Prop:=
 ∃A c,∃ids:List Id,e=.returned (.slice A ids.length c)/\ids.Perm (picks g.nodes p g.nodes.length)/\ids.Pairwise (fun x y=>Id.less y x=false)/\Own w' w.heap.size 38 3 A ids.length c (ids.flatMap Id.cells)/\Fr Non w w'
end Oq
end
end Go.Proofs.YtihfebhfgliojaaGreatDoor
