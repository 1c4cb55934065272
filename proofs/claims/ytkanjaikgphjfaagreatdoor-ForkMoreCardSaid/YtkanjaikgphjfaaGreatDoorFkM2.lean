/-
  Contracts of the functions that the claim's statement reaches, walked one by one (part 2).
  Conditions: as each theorem says.
-/
import Derived.IntWalk
import Derived.Sort.Grow
import Derived.Maps.OwnSet
import Derived.Maps.Views
import Derived.DeepKeys4
import Derived.Deep.RegionHeld3
import Derived.Deep.Cut
import Derived.Deep.MidRow
import Derived.Laws.BitsAllLaws
import Derived.Laws.StructEq
import Derived.Test.YtkanjaikgphjfaaGreatDoorFkM1
set_option maxRecDepth 100000
set_option maxHeartbeats 16000000
open Bool renaming eq_iff_iff→Ag6,not_eq_true→Ah9
open Int renaming natCast_pow→Ah6,tdiv_eq_ediv_of_nonneg→Ai6,tmod_eq_emod_of_nonneg→Ai7
open List renaming length_append→Af8,append_assoc→Ag0,getElem?_eq_getElem→Ag1,take_of_length_le→Ag2,mem_of_getElem?→Ag4,flatMap_cons→Ag9,getElem?_toArray→Ah0,getD_eq_getElem?_getD→Ah1,take_succ_eq_append_getElem→Ah2,flatMap_append→Ah3,append_nil→Ah4,nil_append→Ai1,take_append_drop→Ai2,mem_cons_self→Ai3,flatMap_nil→Ai4,getElem?_eq_none→Ai5,mem_of_mem_take→Ai8,length_drop→Ai9,pairwise_append→Aj0,all_eq_true→Aj1
open Nat renaming le_refl→Af9,mul_add→Ag5,lt_or_ge→Ag8,lt_of_le_of_lt→Ah5,lt_of_lt_of_le→Ah7,pow_lt_pow_right→Ah8,add_mul→Ai0
open Go.World renaming size_alloc→Ag3,drewN→Ag7
namespace Go.Proofs.YtkanjaikgphjfaaGreatDoor
section
open Go.RowKit
attribute [local go_sem ↓] Go.wp_at_zero Go.wp_at_succ
namespace Oq
theorem Da {α:Type} (enc:α→List UInt8) (l:List α) {k:Nat} {x:α} (h:l[k]? =some x):(l.take (k+1)).flatMap enc=(l.take k).flatMap enc++enc x:=by
 obtain ⟨hk,rfl⟩:=List.getElem?_eq_some_iff.1 h;rw [Ah2 hk,Ah3,Ag9,Ai4,Ah4]
theorem Fo {α:Type} {enc:α→List UInt8} {K:Nat} (l:List α) (h:∀x∈l,(enc x).length≤K):(l.flatMap enc).length≤K*l.length:=by
 induction l with
 |nil=>simp
 |cons x l ih=>
  have h1:=h x (by simp);have h2:=ih (fun y hy=>h y (by simp [hy]));rw [Ag9,Af8,List.length_cons,Ag5];omega
theorem Cu {α:Type} {enc:α→List UInt8} {K:Nat} (l:List α) (h:∀x∈l,(enc x).length≤K):(lst enc l).length≤10+K*l.length:=by
 unfold lst;rw [Af8];have h1:=Pk.int_len l.length;have h2:=Fo l h;omega
theorem Id.bytes_len (x:Id):x.bytes.length≤30:=Pk.ident_len _ _ _
theorem Bx.bytes_len (x:Bx):x.bytes.length≤40:=by
 unfold Bx.bytes;simp only [Af8];have h1:=Pk.num_len x.t;have h2:=Pk.num_len x.e;have h3:=Pk.num_len x.y;have h4:=Pk.num_len x.g;omega
theorem Nd.bytes_len (x:Nd) (h:x.ok):x.bytes.length≤40020:=by
 unfold Nd.bytes;rw [Af8];have h1:=Pk.num_len x.p;have h2:=Cu x.xs (fun y _=>Bx.bytes_len y);have h3:=h.2.1;omega
theorem Sl.bytes_len (x:Sl) (h:x.y.length≤1000000):x.bytes.length≤1000040:=by
 unfold Sl.bytes;rw [Af8];have h1:=Id.bytes_len x.f;have h2:=Pk.text_len x.y;omega
theorem Dg {α:Type} {f:α→List Value} {size:Nat} {w:World} {B n:Nat} {A:Option Addr} {l:List α} (hlen:∀x,(f x).length=size) (hs:0<size) (h:Rd w B size A n (l.flatMap f)) {k:Nat} {o:α} (hk:l[k]? =some o):
  ∃b off,A=some ⟨b,off,none⟩∧b<B∧∀j,j<size→∀u,(f o)[j]? =some u→w.cell? ⟨b,off+k*size+j,none⟩=some u:=by
 have hl:=h.1;rw [E6 hlen] at hl;have hkl:=(List.getElem?_eq_some_iff.1 hk).1;have hle:l.length=n:=Nat.eq_of_mul_eq_mul_right hs hl;obtain ⟨b,off,e,hb,hc⟩:=h.cells (k:=k) (by omega);exact ⟨b,off,e,hb,fun j hj u hu=>hc j hj u (by rw [E5 (f:=f) hlen l k j o hk hj];exact hu)⟩
theorem Id.at {w:World} {B n:Nat} {A:Option Addr} {l:List Id} (h:Rd w B 3 A n (l.flatMap Id.cells)) {k:Nat} {o:Id} (hk:l[k]? =some o):
  ∃b off,A=some ⟨b,off,none⟩∧b<B∧w.cell? ⟨b,off+k*3,none⟩=some (.int .i64 o.b)∧w.cell? ⟨b,off+k*3+1,none⟩=some (.int .i64 o.s)∧w.cell? ⟨b,off+k*3+2,none⟩=some (.int .u64 (o.u:Int)):=by
 obtain ⟨b,off,e,hb,hc⟩:=Dg (f:=Id.cells) (fun _=>rfl) (by omega) h hk;exact ⟨b,off,e,hb,hc 0 (by omega) _ rfl,hc 1 (by omega) _ rfl,hc 2 (by omega) _ rfl⟩
theorem Bx.at {w:World} {B n:Nat} {A:Option Addr} {l:List Bx} (h:Rd w B 4 A n (l.flatMap Bx.cells)) {k:Nat} {o:Bx} (hk:l[k]? =some o):
  ∃b off,A=some ⟨b,off,none⟩∧b<B∧w.cell? ⟨b,off+k*4,none⟩=some (.int .u64 (o.t:Int))∧w.cell? ⟨b,off+k*4+1,none⟩=some (.int .u64 (o.e:Int))∧w.cell? ⟨b,off+k*4+2,none⟩=some (.int .u64 (o.y:Int))∧w.cell? ⟨b,off+k*4+3,none⟩=some (.int .u64 (o.g:Int)):=by
 obtain ⟨b,off,e,hb,hc⟩:=Dg (f:=Bx.cells) (fun _=>rfl) (by omega) h hk;exact ⟨b,off,e,hb,hc 0 (by omega) _ rfl,hc 1 (by omega) _ rfl,hc 2 (by omega) _ rfl,hc 3 (by omega) _ rfl⟩
theorem NdL.el {w:World} {B n:Nat} {A:Option Addr} {l:List NdL} (h:Rd w B 2 A n (l.flatMap NdL.cells)) {k:Nat} {o:NdL} (hk:l[k]? =some o):
  ∃b off,A=some ⟨b,off,none⟩∧b<B∧w.cell? ⟨b,off+k*2,none⟩=some (.int .u64 (o.p:Int))∧w.cell? ⟨b,off+k*2+1,none⟩=some (.slice o.A o.xs.length o.c):=by
 obtain ⟨b,off,e,hb,hc⟩:=Dg (f:=NdL.cells) (fun _=>rfl) (by omega) h hk;exact ⟨b,off,e,hb,hc 0 (by omega) _ rfl,hc 1 (by omega) _ rfl⟩
theorem SlL.el {w:World} {B n:Nat} {A:Option Addr} {l:List SlL} (h:Rd w B 4 A n (l.flatMap SlL.cells)) {k:Nat} {o:SlL} (hk:l[k]? =some o):
  ∃b off,A=some ⟨b,off,none⟩∧b<B∧w.cell? ⟨b,off+k*4,none⟩=some (.int .i64 o.f.b)∧w.cell? ⟨b,off+k*4+1,none⟩=some (.int .i64 o.f.s)∧w.cell? ⟨b,off+k*4+2,none⟩=some (.int .u64 (o.f.u:Int))∧w.cell? ⟨b,off+k*4+3,none⟩=some (.slice o.A o.y.length o.c):=by
 obtain ⟨b,off,e,hb,hc⟩:=Dg (f:=SlL.cells) (fun _=>rfl) (by omega) h hk;exact ⟨b,off,e,hb,hc 0 (by omega) _ rfl,hc 1 (by omega) _ rfl,hc 2 (by omega) _ rfl,hc 3 (by omega) _ rfl⟩
theorem Hi {α:Type} {f:α→Value} {w:World} {B n:Nat} {A:Option Addr} {l:List α} (h:Rd w B 1 A n (l.map f)) {k:Nat} {o:α} (hk:l[k]? =some o):
  ∃b off,A=some ⟨b,off,none⟩∧b<B∧w.cell? ⟨b,off+k,none⟩=some (f o):=by
 have hkl:=(List.getElem?_eq_some_iff.1 hk).1;have hl:=h.1;simp at hl;obtain ⟨b,off,u,e,hb,hx,hc⟩:=h.at (k:=k) (by omega);rw [List.getElem?_map,hk] at hx;injection hx with hx
 exact ⟨b,off,e,hb,by rw [hc,← hx]⟩
theorem Sr (B g:Nat) (A0:Option Addr) (c0:Nat) (bs:List UInt8) (l:List Id) (Al:Option Addr) (n cl:Nat) (w:World) (ho:OutAt w B g A0 c0 bs) (hn:Hid (l.length=n)) (hok:∀x∈l,x.ok)
  (hr:Rd w B 3 Al n (l.flatMap Id.cells)) (hl:bs.length+10+30*n≤1099511627690):
  Calls Tryz.prog 89 #[.pointer (some ⟨g,0,none⟩),.slice Al n cl,.func (.func 90) #[.pointer (some ⟨g,0,none⟩)] #[]] w (C0 B g A0 (bs++lst Id.bytes l) w):=by
 go_enter Tryz.func89,Tryz.ntmps89;go_wp2_with (fail);refine (Df B g A0 c0 bs (n:Int) _ ho (by omega) (by omega) (by omega)).mono ?_;rintro _ w1 ⟨rfl,A1,c1,ho1,hst1⟩;have hil:=Pk.int_len (n:Int);go_wp2
 go_loopw [14] (fun v wr=>∃(i:Nat) (A:Option Addr) (c:Nat) (D:List UInt8),v=.int .i64 (i:Int)∧i≤n∧Hid (D=bs++Pk.int (n:Int)++(l.take i).flatMap Id.bytes)∧D.length≤bs.length+10+30*i∧OutAt wr B g A c D∧Aw g w A0 wr A) (fun v _=>n-(intOf v).toNat)
 case atStart=>exact ⟨0,A1,c1,_,rfl,by omega,by show _=_;simp,by simp;omega,ho1,hst1⟩
 case round=>
  obtain ⟨i,A,c,D,rfl,hin,hD,hDl,hoi,hst⟩:=hrel
  by_cases hlt:i<n
  ·
   obtain ⟨x,hx⟩:∃x,l[i]? =some x:=⟨_,Ag1 (by rw [hn.out];exact hlt)⟩;have hxo:=hok x (Ag4 hx);obtain ⟨⟨x0,x1⟩,⟨x2,x3⟩,x4⟩:=hxo;obtain ⟨b,off,rfl,hb,k0,k1,k2⟩:=Id.at (hr.fr hst.fr (ho.not (Af9 _))) hx;have hxl:=Id.bytes_len x;have hx':=Lib.hid hx;clear hx;go_wp2_with (fail);refine (Hh B g A c D x.b x.s x.u _ (hoi.alloc (.cells x.V 41)) x0 x1 x2 x3 x4 (by omega)).mono ?_;rw [show Pk.ident x.b x.s x.u=x.bytes from rfl];rintro _ w2 ⟨rfl,A2,c2,ho2,hs2⟩;go_wp2;go_roundw
   case rel=>
    refine ⟨i+1,A2,c2,_,by go_num,by omega,?_,by rw [Af8,Ag5];omega,ho2,(hst.alloc (.cells x.V 41)).trans hs2⟩;show _=_;rw [hD.out,Da _ l hx'.out,← Ag0]
   case measure=>simp [intOf];omega
  ·
   have hi:i=n:=by omega
   subst hi;go_wp2
   go_end0
   refine ⟨rfl,A,c,?_,hst⟩;have e:bs++lst Id.bytes l=D:=by rw [hD.out,Ag2 (by rw [hn.out];omega),Ag0];unfold lst;rw [hn.out]
   rw [e];exact hoi
theorem Ss (B g:Nat) (A0:Option Addr) (c0:Nat) (bs:List UInt8) (l:List Nat) (Al:Option Addr) (n cl:Nat) (w:World) (ho:OutAt w B g A0 c0 bs) (hn:Hid (l.length=n)) (hok:∀x∈l,U64 x)
  (hr:Rd w B 1 Al n (l.map Uv)) (hl:bs.length+10+10*n≤1099511627690):
  Calls Tryz.prog 95 #[.pointer (some ⟨g,0,none⟩),.slice Al n cl,.func (.func 88) #[.pointer (some ⟨g,0,none⟩)] #[]] w (C0 B g A0 (bs++lst Pk.num l) w):=by
 go_enter Tryz.func95,Tryz.ntmps95;go_wp2_with (fail);refine (Df B g A0 c0 bs (n:Int) _ ho (by omega) (by omega) (by omega)).mono ?_;rintro _ w1 ⟨rfl,A1,c1,ho1,hst1⟩;have hil:=Pk.int_len (n:Int);go_wp2
 go_loopw [14] (fun v wr=>∃(i:Nat) (A:Option Addr) (c:Nat) (D:List UInt8),v=.int .i64 (i:Int)∧i≤n∧Hid (D=bs++Pk.int (n:Int)++(l.take i).flatMap Pk.num)∧D.length≤bs.length+10+10*i∧OutAt wr B g A c D∧Aw g w A0 wr A) (fun v _=>n-(intOf v).toNat)
 case atStart=>exact ⟨0,A1,c1,_,rfl,by omega,by show _=_;simp,by simp;omega,ho1,hst1⟩
 case round=>
  obtain ⟨i,A,c,D,rfl,hin,hD,hDl,hoi,hst⟩:=hrel
  by_cases hlt:i<n
  ·
   obtain ⟨x,hx⟩:∃x,l[i]? =some x:=⟨_,Ag1 (by rw [hn.out];exact hlt)⟩;have hxo:=hok x (Ag4 hx);obtain ⟨b,off,rfl,hb,k0⟩:=Hi (hr.fr hst.fr (ho.not (Af9 _))) hx;unfold Uv at k0;have hxl:=Pk.num_len x;have hx':=Lib.hid hx;clear hx;go_wp2_with (fail);refine (Ec B g A c D x _ hoi hxo (by omega)).mono ?_;rintro _ w2 ⟨rfl,A2,c2,ho2,hs2⟩;go_wp2;go_roundw
   case rel=>
    refine ⟨i+1,A2,c2,_,by go_num,by omega,?_,by rw [Af8,Ag5];omega,ho2,hst.trans hs2⟩;show _=_;rw [hD.out,Da _ l hx'.out,← Ag0]
   case measure=>simp [intOf];omega
  ·
   have hi:i=n:=by omega
   subst hi;go_wp2
   go_end0
   refine ⟨rfl,A,c,?_,hst⟩;have e:bs++lst Pk.num l=D:=by rw [hD.out,Ag2 (by rw [hn.out];omega),Ag0];unfold lst;rw [hn.out]
   rw [e];exact hoi
theorem St (B g:Nat) (A0:Option Addr) (c0:Nat) (bs:List UInt8) (l:List Int) (Al:Option Addr) (n cl:Nat) (w:World) (ho:OutAt w B g A0 c0 bs) (hn:Hid (l.length=n)) (hok:∀x∈l,I64 x)
  (hr:Rd w B 1 Al n (l.map Iv)) (hl:bs.length+10+10*n≤1099511627690):
  Calls Tryz.prog 96 #[.pointer (some ⟨g,0,none⟩),.slice Al n cl,.func (.func 86) #[.pointer (some ⟨g,0,none⟩)] #[]] w (C0 B g A0 (bs++lst Pk.int l) w):=by
 go_enter Tryz.func96,Tryz.ntmps96;go_wp2_with (fail);refine (Df B g A0 c0 bs (n:Int) _ ho (by omega) (by omega) (by omega)).mono ?_;rintro _ w1 ⟨rfl,A1,c1,ho1,hst1⟩;have hil:=Pk.int_len (n:Int);go_wp2
 go_loopw [14] (fun v wr=>∃(i:Nat) (A:Option Addr) (c:Nat) (D:List UInt8),v=.int .i64 (i:Int)∧i≤n∧Hid (D=bs++Pk.int (n:Int)++(l.take i).flatMap Pk.int)∧D.length≤bs.length+10+10*i∧OutAt wr B g A c D∧Aw g w A0 wr A) (fun v _=>n-(intOf v).toNat)
 case atStart=>exact ⟨0,A1,c1,_,rfl,by omega,by show _=_;simp,by simp;omega,ho1,hst1⟩
 case round=>
  obtain ⟨i,A,c,D,rfl,hin,hD,hDl,hoi,hst⟩:=hrel
  by_cases hlt:i<n
  ·
   obtain ⟨x,hx⟩:∃x,l[i]? =some x:=⟨_,Ag1 (by rw [hn.out];exact hlt)⟩;have hxo:=hok x (Ag4 hx);obtain ⟨b,off,rfl,hb,k0⟩:=Hi (hr.fr hst.fr (ho.not (Af9 _))) hx;unfold Iv at k0;have hxl:=Pk.int_len x;have hx':=Lib.hid hx;clear hx;go_wp2_with (fail);refine (Df B g A c D x _ hoi hxo.1 hxo.2 (by omega)).mono ?_;rintro _ w2 ⟨rfl,A2,c2,ho2,hs2⟩;go_wp2;go_roundw
   case rel=>
    refine ⟨i+1,A2,c2,_,by go_num,by omega,?_,by rw [Af8,Ag5];omega,ho2,hst.trans hs2⟩;show _=_;rw [hD.out,Da _ l hx'.out,← Ag0]
   case measure=>simp [intOf];omega
  ·
   have hi:i=n:=by omega
   subst hi;go_wp2
   go_end0
   refine ⟨rfl,A,c,?_,hst⟩;have e:bs++lst Pk.int l=D:=by rw [hD.out,Ag2 (by rw [hn.out];omega),Ag0];unfold lst;rw [hn.out]
   rw [e];exact hoi
theorem Su (B g gp:Nat) (A:Option Addr) (c:Nat) (bs:List UInt8) (x:Bx) (w:World) (ho:OutAt w B g A c bs) (hp:Blk w gp 105 #[.pointer (some ⟨g,0,none⟩)]) (hx:x.ok) (hl:bs.length≤1099511627700):
  Calls Tryz.prog 87 #[.agg #[.int .u64 (x.t:Int),.int .u64 (x.e:Int),.int .u64 (x.y:Int),.int .u64 (x.g:Int)],.pointer (some ⟨gp,0,none⟩)] w (C0 B g A (bs++x.bytes) w):=by
 obtain ⟨x0,x1,x2,x3⟩:=hx;have l1:=Pk.num_len x.t;have l2:=Pk.num_len x.e;have l3:=Pk.num_len x.y;have aa:=Blk.new w 134 #[.int .u64 (x.t:Int),.int .u64 (x.e:Int),.int .u64 (x.y:Int),.int .u64 (x.g:Int)];have k0:=aa.cell 0;have k1:=aa.cell 1;have k2:=aa.cell 2;have k3:=aa.cell 3;have af:=(ho.alloc (.cells #[.int .u64 (x.t:Int),.int .u64 (x.e:Int),.int .u64 (x.y:Int),.int .u64 (x.g:Int)] 134)).alloc (.cells #[.int .u64 (x.t:Int),.int .u64 (x.e:Int),.int .u64 (x.y:Int),.int .u64 (x.g:Int)] 39);have ag:=(hp.alloc (.cells #[.int .u64 (x.t:Int),.int .u64 (x.e:Int),.int .u64 (x.y:Int),.int .u64 (x.g:Int)] 134)).alloc (.cells #[.int .u64 (x.t:Int),.int .u64 (x.e:Int),.int .u64 (x.y:Int),.int .u64 (x.g:Int)] 39);have ap:=((Aw.refl g w A).alloc (.cells #[.int .u64 (x.t:Int),.int .u64 (x.e:Int),.int .u64 (x.y:Int),.int .u64 (x.g:Int)] 134)).alloc (.cells #[.int .u64 (x.t:Int),.int .u64 (x.e:Int),.int .u64 (x.y:Int),.int .u64 (x.g:Int)] 39);have ab:=Blk.new (w.alloc (.cells #[.int .u64 (x.t:Int),.int .u64 (x.e:Int),.int .u64 (x.y:Int),.int .u64 (x.g:Int)] 134)) 39 #[.int .u64 (x.t:Int),.int .u64 (x.e:Int),.int .u64 (x.y:Int),.int .u64 (x.g:Int)];rw [Ag3] at ab;go_enter Tryz.func87,Tryz.ntmps87;go_wp2;generalize (w.alloc (.cells #[.int .u64 (x.t:Int),.int .u64 (x.e:Int),.int .u64 (x.y:Int),.int .u64 (x.g:Int)] 134)).alloc (.cells #[.int .u64 (x.t:Int),.int .u64 (x.e:Int),.int .u64 (x.y:Int),.int .u64 (x.g:Int)] 39)=w0 at*;clear k0 k1 k2 k3 aa;refine wp_loop_rounds 5 ?_;have c0:=ab.cell 0;have p0:=ag.cell 0;rw [rounds_succ];go_wp2_with (fail);refine (Ec B g A c bs x.t _ af x0 (by omega)).mono ?_;rintro _ w1 ⟨rfl,A1,c1,ae,ai⟩;have aj:=ab.fr ai.fr (af.far ab (by decide) (by decide));have ao:=ag.fr ai.fr (af.far ag (by decide) (by decide));have d1:=aj.cell 1;have p1:=ao.cell 0;go_wp2;rw [rounds_succ];go_wp2_with (fail);refine (Ec B g A1 c1 _ x.e _ ae x1 (by rw [Af8];omega)).mono ?_;rintro _ w2 ⟨rfl,A2,c2,ad,al⟩;have ah:=aj.fr al.fr (ae.far aj (by decide) (by decide));have ac:=ao.fr al.fr (ae.far ao (by decide) (by decide));have d2:=ah.cell 2;have p2:=ac.cell 0;go_wp2;rw [rounds_succ];go_wp2_with (fail);refine (Ec B g A2 c2 _ x.y _ ad x2 (by simp only [Af8];omega)).mono ?_;rintro _ w3 ⟨rfl,A3,c3,ar,ak⟩;have av:=ah.fr ak.fr (ad.far ah (by decide) (by decide));have aq:=ac.fr ak.fr (ad.far ac (by decide) (by decide));have d3:=av.cell 3;have p3:=aq.cell 0;go_wp2;rw [rounds_succ];go_wp2_with (fail);refine (Ec B g A3 c3 _ x.g _ ar x3 (by simp only [Af8];omega)).mono ?_;rintro _ w4 ⟨rfl,A4,c4,aw,au⟩;go_wp2;rw [rounds_succ];go_wp2
 go_end0
 refine ⟨rfl,A4,c4,?_,(((ap.trans ai).trans al).trans ak).trans au⟩;have e:bs++x.bytes=bs++Pk.num x.t++Pk.num x.e++Pk.num x.y++Pk.num x.g:=by unfold Bx.bytes;simp
 rw [e];exact aw
theorem Me (B g gp:Nat) (A0:Option Addr) (c0:Nat) (bs:List UInt8) (l:List Bx) (Al:Option Addr) (n cl:Nat) (w:World) (ho:OutAt w B g A0 c0 bs) (hn:Hid (l.length=n)) (hok:∀x∈l,x.ok)
  (hr:Rd w B 4 Al n (l.flatMap Bx.cells)) (hl:bs.length+10+40*n≤1099511627690) (hp:Blk w gp 105 #[.pointer (some ⟨g,0,none⟩)]):
  Calls Tryz.prog 93 #[.pointer (some ⟨g,0,none⟩),.slice Al n cl,.func (.func 87) #[] #[.pointer (some ⟨gp,0,none⟩)]] w (C0 B g A0 (bs++lst Bx.bytes l) w):=by
 go_enter Tryz.func93,Tryz.ntmps93;go_wp2_with (fail);refine (Df B g A0 c0 bs (n:Int) _ ho (by omega) (by omega) (by omega)).mono ?_;rintro _ w1 ⟨rfl,A1,c1,ho1,hst1⟩;have hil:=Pk.int_len (n:Int);go_wp2
 go_loopw [14] (fun v wr=>∃(i:Nat) (A:Option Addr) (c:Nat) (D:List UInt8),v=.int .i64 (i:Int)∧i≤n∧Hid (D=bs++Pk.int (n:Int)++(l.take i).flatMap Bx.bytes)∧D.length≤bs.length+10+40*i∧OutAt wr B g A c D∧Aw g w A0 wr A∧Blk wr gp 105 #[.pointer (some ⟨g,0,none⟩)]) (fun v _=>n-(intOf v).toNat)
 case atStart=>exact ⟨0,A1,c1,_,rfl,by omega,by show _=_;simp,by simp;omega,ho1,hst1,hp.fr hst1.fr (ho.far hp (by decide) (by decide))⟩
 case round=>
  obtain ⟨i,A,c,D,rfl,hin,hD,hDl,hoi,hst,hpi⟩:=hrel
  by_cases hlt:i<n
  ·
   obtain ⟨x,hx⟩:∃x,l[i]? =some x:=⟨_,Ag1 (by rw [hn.out];exact hlt)⟩;have hxo:=hok x (Ag4 hx);obtain ⟨b,off,rfl,hb,k0,k1,k2,k3⟩:=Bx.at (hr.fr hst.fr (ho.not (Af9 _))) hx;have hxl:=Bx.bytes_len x;have hx':=Lib.hid hx;clear hx;go_wp2_with (fail);refine (Su B g gp A c D x _ (hoi.alloc (.cells #[.int .u64 (x.t:Int),.int .u64 (x.e:Int),.int .u64 (x.y:Int),.int .u64 (x.g:Int)] 134)) (hpi.alloc (.cells #[.int .u64 (x.t:Int),.int .u64 (x.e:Int),.int .u64 (x.y:Int),.int .u64 (x.g:Int)] 134)) hxo (by omega)).mono ?_;rintro _ w2 ⟨rfl,A2,c2,ho2,hs2⟩;have hpi2:=(hpi.alloc (.cells #[.int .u64 (x.t:Int),.int .u64 (x.e:Int),.int .u64 (x.y:Int),.int .u64 (x.g:Int)] 134)).fr hs2.fr ((hoi.alloc (.cells #[.int .u64 (x.t:Int),.int .u64 (x.e:Int),.int .u64 (x.y:Int),.int .u64 (x.g:Int)] 134)).far (hpi.alloc (.cells #[.int .u64 (x.t:Int),.int .u64 (x.e:Int),.int .u64 (x.y:Int),.int .u64 (x.g:Int)] 134)) (by decide) (by decide));go_wp2;go_roundw
   case rel=>
    refine ⟨i+1,A2,c2,_,by go_num,by omega,?_,by rw [Af8,Ag5];omega,ho2,(hst.alloc (.cells #[.int .u64 (x.t:Int),.int .u64 (x.e:Int),.int .u64 (x.y:Int),.int .u64 (x.g:Int)] 134)).trans hs2,hpi2⟩;show _=_;rw [hD.out,Da _ l hx'.out,← Ag0]
   case measure=>simp [intOf];omega
  ·
   have hi:i=n:=by omega
   subst hi;go_wp2
   go_end0
   refine ⟨rfl,A,c,?_,hst⟩;have e:bs++lst Bx.bytes l=D:=by rw [hD.out,Ag2 (by rw [hn.out];omega),Ag0];unfold lst;rw [hn.out]
   rw [e];exact hoi
theorem Sv (B g gp gc:Nat) (A:Option Addr) (c:Nat) (bs:List UInt8) (x:NdL) (w:World) (ho:OutAt w B g A c bs) (hp:Blk w gp 105 #[.pointer (some ⟨g,0,none⟩)]) (hc:Blk w gc 149 #[.func (.func 87) #[] #[.pointer (some ⟨gp,0,none⟩)]])
  (hx:x.nd.ok) (hat:x.at w B) (hl:bs.length+40020≤1099511627690):
  Calls Tryz.prog 92 #[.agg #[.int .u64 (x.p:Int),.slice x.A x.xs.length x.c],.pointer (some ⟨gp,0,none⟩),.pointer (some ⟨gc,0,none⟩)] w (C0 B g A (bs++x.nd.bytes) w):=by
 obtain ⟨x0,x1,x2⟩:=hx;have x1':x.xs.length≤1000:=x1;have l1:=Pk.num_len x.p;have hbx:=Blk.new w 137 #[.int .u64 (x.p:Int),.slice x.A x.xs.length x.c];have k0:=hbx.cell 0;have k1:=hbx.cell 1;have ho0:=ho.alloc (.cells #[.int .u64 (x.p:Int),.slice x.A x.xs.length x.c] 137);have hp0:=hp.alloc (.cells #[.int .u64 (x.p:Int),.slice x.A x.xs.length x.c] 137);have hc0:=hc.alloc (.cells #[.int .u64 (x.p:Int),.slice x.A x.xs.length x.c] 137);have hs0:=(Aw.refl g w A).alloc (.cells #[.int .u64 (x.p:Int),.slice x.A x.xs.length x.c] 137);have p0:=hp0.cell 0;go_enter Tryz.func92,Tryz.ntmps92;go_wp2_with (fail);refine (Ec B g A c bs x.p _ ho0 x0 (by omega)).mono ?_;rintro _ w1 ⟨rfl,A1,c1,ho1,hs1⟩;have hbx1:=hbx.fr hs1.fr (ho0.far hbx (by decide) (by decide));have hp1:=hp0.fr hs1.fr (ho0.far hp0 (by decide) (by decide));have hc1:=hc0.fr hs1.fr (ho0.far hc0 (by decide) (by decide));have m1:=hbx1.cell 1;have p1:=hp1.cell 0;have q1:=hc1.cell 0;have hst:=hs0.trans hs1;have hr1:=hat.1.fr hst.fr (ho.not (Af9 _));go_wp2_with (fail);refine (Me B g gp A1 c1 _ x.xs x.A x.xs.length x.c _ ho1 rfl x2 hr1 (by rw [Af8];omega) hp1).mono ?_;rintro _ w2 ⟨rfl,A2,c2,ho2,hs2⟩;go_wp2
 go_end0
 refine ⟨rfl,A2,c2,?_,hst.trans hs2⟩;have e:bs++x.nd.bytes=bs++Pk.num x.p++lst Bx.bytes x.xs:=by unfold Nd.bytes;rw [Ag0];rfl
 rw [e];exact ho2
theorem Sw (B g gp gc:Nat) (A0:Option Addr) (c0:Nat) (bs:List UInt8) (l:List NdL) (Al:Option Addr) (n cl:Nat) (w:World) (ho:OutAt w B g A0 c0 bs) (hn:Hid (l.length=n)) (hok:∀x∈l,x.nd.ok)
  (hr:Rd w B 2 Al n (l.flatMap NdL.cells)) (hl:bs.length+10+40020*n≤1099511627690) (hp:Blk w gp 105 #[.pointer (some ⟨g,0,none⟩)]) (hc:Blk w gc 149 #[.func (.func 87) #[] #[.pointer (some ⟨gp,0,none⟩)]]) (hat:∀x∈l,x.at w B):
  Calls Tryz.prog 91 #[.pointer (some ⟨g,0,none⟩),.slice Al n cl,.func (.func 92) #[] #[.pointer (some ⟨gp,0,none⟩),.pointer (some ⟨gc,0,none⟩)]] w (C0 B g A0 (bs++lst (fun x=>x.nd.bytes) l) w):=by
 go_enter Tryz.func91,Tryz.ntmps91;go_wp2_with (fail);refine (Df B g A0 c0 bs (n:Int) _ ho (by omega) (by omega) (by omega)).mono ?_;rintro _ w1 ⟨rfl,A1,c1,ak,aa⟩;have au:=Pk.int_len (n:Int);go_wp2
 go_loopw [14] (fun v wr=>∃(i:Nat) (A:Option Addr) (c:Nat) (D:List UInt8),v=.int .i64 (i:Int)∧i≤n∧Hid (D=bs++Pk.int (n:Int)++(l.take i).flatMap (fun x=>x.nd.bytes))∧D.length≤bs.length+10+40020*i∧OutAt wr B g A c D∧Aw g w A0 wr A∧Blk wr gp 105 #[.pointer (some ⟨g,0,none⟩)]∧Blk wr gc 149 #[.func (.func 87) #[] #[.pointer (some ⟨gp,0,none⟩)]]) (fun v _=>n-(intOf v).toNat)
 case atStart=>exact ⟨0,A1,c1,_,rfl,by omega,by show _=_;simp,by simp;omega,ak,aa,hp.fr aa.fr (ho.far hp (by decide) (by decide)),hc.fr aa.fr (ho.far hc (by decide) (by decide))⟩
 case round=>
  obtain ⟨i,A,c,D,rfl,aq,hD,av,ac,ab,ag,af⟩:=hrel
  by_cases hlt:i<n
  ·
   obtain ⟨x,hx⟩:∃x,l[i]? =some x:=⟨_,Ag1 (by rw [hn.out];exact hlt)⟩;have ai:=hok x (Ag4 hx);obtain ⟨b,ap,rfl,hb,k0,k1⟩:=NdL.el (hr.fr ab.fr (ho.not (Af9 _))) hx;have ar:=Nd.bytes_len x.nd ai;have ao:=((hat x (Ag4 hx)).fr ab.fr (ho.not (Af9 _)));have al:=Lib.hid hx;clear hx;go_wp2_with (fail);refine (Sv B g gp gc A c D x _ (ac.alloc (.cells #[.int .u64 (x.p:Int),.slice x.A x.xs.length x.c] 137)) (ag.alloc (.cells #[.int .u64 (x.p:Int),.slice x.A x.xs.length x.c] 137)) (af.alloc (.cells #[.int .u64 (x.p:Int),.slice x.A x.xs.length x.c] 137)) ai (ao.fr (S:=Non) ((Fr.refl _ _).alloc (.cells #[.int .u64 (x.p:Int),.slice x.A x.xs.length x.c] 137)) zr) (by omega)).mono ?_;rintro _ w2 ⟨rfl,A2,c2,aj,ah⟩;have ae:=(ag.alloc (.cells #[.int .u64 (x.p:Int),.slice x.A x.xs.length x.c] 137)).fr ah.fr ((ac.alloc (.cells #[.int .u64 (x.p:Int),.slice x.A x.xs.length x.c] 137)).far (ag.alloc (.cells #[.int .u64 (x.p:Int),.slice x.A x.xs.length x.c] 137)) (by decide) (by decide));have ad:=(af.alloc (.cells #[.int .u64 (x.p:Int),.slice x.A x.xs.length x.c] 137)).fr ah.fr ((ac.alloc (.cells #[.int .u64 (x.p:Int),.slice x.A x.xs.length x.c] 137)).far (af.alloc (.cells #[.int .u64 (x.p:Int),.slice x.A x.xs.length x.c] 137)) (by decide) (by decide));go_wp2;go_roundw
   case rel=>
    refine ⟨i+1,A2,c2,_,by go_num,by omega,?_,by rw [Af8,Ag5];omega,aj,(ab.alloc (.cells #[.int .u64 (x.p:Int),.slice x.A x.xs.length x.c] 137)).trans ah,ae,ad⟩;show _=_;rw [hD.out,Da _ l al.out,← Ag0]
   case measure=>simp [intOf];omega
  ·
   have hi:i=n:=by omega
   subst hi;go_wp2
   go_end0
   refine ⟨rfl,A,c,?_,ab⟩;have e:bs++lst (fun x=>x.nd.bytes) l=D:=by rw [hD.out,Ag2 (by rw [hn.out];omega),Ag0];unfold lst;rw [hn.out]
   rw [e];exact ac
theorem Sx (B g gp:Nat) (A:Option Addr) (c:Nat) (bs:List UInt8) (x:SlL) (w:World) (ho:OutAt w B g A c bs) (hp:Blk w gp 105 #[.pointer (some ⟨g,0,none⟩)])
  (hx:x.f.ok) (hy:x.y.length≤1000000) (hat:x.at w B) (hl:bs.length+1000040≤1099511627700):
  Calls Tryz.prog 98 #[.agg #[.int .i64 x.f.b,.int .i64 x.f.s,.int .u64 (x.f.u:Int),.slice x.A x.y.length x.c],.pointer (some ⟨gp,0,none⟩)] w (C0 B g A (bs++x.sl.bytes) w):=by
 obtain ⟨⟨x0,x1⟩,⟨x2,x3⟩,x4⟩:=hx;have l1:=Pk.ident_len x.f.b x.f.s x.f.u;have hbx:=Blk.new w 140 #[.int .i64 x.f.b,.int .i64 x.f.s,.int .u64 (x.f.u:Int),.slice x.A x.y.length x.c];have k0:=hbx.cell 0;have k1:=hbx.cell 1;have k2:=hbx.cell 2;have ho0:=ho.alloc (.cells #[.int .i64 x.f.b,.int .i64 x.f.s,.int .u64 (x.f.u:Int),.slice x.A x.y.length x.c] 140);have hp0:=hp.alloc (.cells #[.int .i64 x.f.b,.int .i64 x.f.s,.int .u64 (x.f.u:Int),.slice x.A x.y.length x.c] 140);have hs0:=(Aw.refl g w A).alloc (.cells #[.int .i64 x.f.b,.int .i64 x.f.s,.int .u64 (x.f.u:Int),.slice x.A x.y.length x.c] 140);have p0:=hp0.cell 0;go_enter Tryz.func98,Tryz.ntmps98;go_wp2_with (fail);refine (Hh B g A c bs x.f.b x.f.s x.f.u _ ho0 x0 x1 x2 x3 x4 (by omega)).mono ?_;rintro _ w1 ⟨rfl,A1,c1,ho1,hs1⟩;have hbx1:=hbx.fr hs1.fr (ho0.far hbx (by decide) (by decide));have hp1:=hp0.fr hs1.fr (ho0.far hp0 (by decide) (by decide));have m3:=hbx1.cell 3;have p1:=hp1.cell 0;have hst:=hs0.trans hs1;have hr1:=hat.1.fr hst.fr (ho.not (Af9 _));have hstr:(convert 60 9 (.slice x.A x.y.length x.c)).run Tryz.prog w1=.ok (.string (str x.y)) w1:=G9 60 5 9 Tryz.underlying60 Tryz.underlying5 Tryz.underlying9 w1 _ _ _ _ _ hr1;go_wp2_with (fail);refine (Mc B g A1 c1 _ x.y _ ho1 (by rw [Af8];omega)).mono ?_;rintro _ w2 ⟨rfl,A2,c2,ho2,hs2⟩;go_wp2
 go_end0
 refine ⟨rfl,A2,c2,?_,hst.trans hs2⟩;have e:bs++x.sl.bytes=bs++Pk.ident x.f.b x.f.s x.f.u++Pk.text x.y:=by unfold Sl.bytes Id.bytes;rw [Ag0];rfl
 rw [e];exact ho2
theorem Sy (B g gp:Nat) (A0:Option Addr) (c0:Nat) (bs:List UInt8) (l:List SlL) (Al:Option Addr) (n cl:Nat) (w:World) (ho:OutAt w B g A0 c0 bs) (hn:Hid (l.length=n)) (hok:∀x∈l,(x.f.ok∧x.y.length≤1000000))
  (hr:Rd w B 4 Al n (l.flatMap SlL.cells)) (hl:bs.length+10+1000040*n≤1099511627690) (hp:Blk w gp 105 #[.pointer (some ⟨g,0,none⟩)]) (hat:∀x∈l,x.at w B):
  Calls Tryz.prog 97 #[.pointer (some ⟨g,0,none⟩),.slice Al n cl,.func (.func 98) #[] #[.pointer (some ⟨gp,0,none⟩)]] w (C0 B g A0 (bs++lst (fun x=>x.sl.bytes) l) w):=by
 go_enter Tryz.func97,Tryz.ntmps97;go_wp2_with (fail);refine (Df B g A0 c0 bs (n:Int) _ ho (by omega) (by omega) (by omega)).mono ?_;rintro _ w1 ⟨rfl,A1,c1,ai,aa⟩;have aq:=Pk.int_len (n:Int);go_wp2
 go_loopw [14] (fun v wr=>∃(i:Nat) (A:Option Addr) (c:Nat) (D:List UInt8),v=.int .i64 (i:Int)∧i≤n∧Hid (D=bs++Pk.int (n:Int)++(l.take i).flatMap (fun x=>x.sl.bytes))∧D.length≤bs.length+10+1000040*i∧OutAt wr B g A c D∧Aw g w A0 wr A∧Blk wr gp 105 #[.pointer (some ⟨g,0,none⟩)]) (fun v _=>n-(intOf v).toNat)
 case atStart=>exact ⟨0,A1,c1,_,rfl,by omega,by show _=_;simp,by simp;omega,ai,aa,hp.fr aa.fr (ho.far hp (by decide) (by decide))⟩
 case round=>
  obtain ⟨i,A,c,D,rfl,ao,hD,ar,af,ab,ad⟩:=hrel
  by_cases hlt:i<n
  ·
   obtain ⟨x,hx⟩:∃x,l[i]? =some x:=⟨_,Ag1 (by rw [hn.out];exact hlt)⟩;have ae:=hok x (Ag4 hx);obtain ⟨b,al,rfl,hb,k0,k1,k2,k3⟩:=SlL.el (hr.fr ab.fr (ho.not (Af9 _))) hx;have ap:=Sl.bytes_len x.sl ae.2;have ak:=((hat x (Ag4 hx)).fr ab.fr (ho.not (Af9 _)));have aj:=Lib.hid hx;clear hx;go_wp2_with (fail);refine (Sx B g gp A c D x _ (af.alloc (.cells #[.int .i64 x.f.b,.int .i64 x.f.s,.int .u64 (x.f.u:Int),.slice x.A x.y.length x.c] 140)) (ad.alloc (.cells #[.int .i64 x.f.b,.int .i64 x.f.s,.int .u64 (x.f.u:Int),.slice x.A x.y.length x.c] 140)) ae.1 ae.2 (ak.fr (S:=Non) ((Fr.refl _ _).alloc (.cells #[.int .i64 x.f.b,.int .i64 x.f.s,.int .u64 (x.f.u:Int),.slice x.A x.y.length x.c] 140)) zr) (by omega)).mono ?_;rintro _ w2 ⟨rfl,A2,c2,ah,ag⟩;have ac:=(ad.alloc (.cells #[.int .i64 x.f.b,.int .i64 x.f.s,.int .u64 (x.f.u:Int),.slice x.A x.y.length x.c] 140)).fr ag.fr ((af.alloc (.cells #[.int .i64 x.f.b,.int .i64 x.f.s,.int .u64 (x.f.u:Int),.slice x.A x.y.length x.c] 140)).far (ad.alloc (.cells #[.int .i64 x.f.b,.int .i64 x.f.s,.int .u64 (x.f.u:Int),.slice x.A x.y.length x.c] 140)) (by decide) (by decide));go_wp2;go_roundw
   case rel=>
    refine ⟨i+1,A2,c2,_,by go_num,by omega,?_,by rw [Af8,Ag5];omega,ah,(ab.alloc (.cells #[.int .i64 x.f.b,.int .i64 x.f.s,.int .u64 (x.f.u:Int),.slice x.A x.y.length x.c] 140)).trans ag,ac⟩;show _=_;rw [hD.out,Da _ l aj.out,← Ag0]
   case measure=>simp [intOf];omega
  ·
   have hi:i=n:=by omega
   subst hi;go_wp2
   go_end0
   refine ⟨rfl,A,c,?_,ab⟩;have e:bs++lst (fun x=>x.sl.bytes) l=D:=by rw [hD.out,Ag2 (by rw [hn.out];omega),Ag0];unfold lst;rw [hn.out]
   rw [e];exact af
section
variable {S : Nat → Prop} {w w' : World} {B g i : Nat} {L : List Int}
end
structure Id.gen (x:Id):Prop where
 b:1≤x.b∧x.b≤6
 s:1≤x.s∧x.s≤9
 u:x.u<1000000
structure Bx.gen (x:Bx):Prop where
 t:1≤x.t∧x.t≤1000
 e:1≤x.e∧x.e≤1000
 y:x.y<1000
 g:x.g<1000
theorem Mf (x y:Id) (w:World):
  Calls Tryz.prog 73 #[.agg x.V,.agg y.V] w (Ac (Id.less x y) w):=by
 have hf:=((Fr.refl Non w).alloc (.cells x.V 41)).alloc (.cells y.V 41)
 by_cases h1:x.b=y.b
 ·
  have f1:(x.b !=y.b)=false:=by simp [h1]
  by_cases h2:x.s=y.s
  ·
   have f2:(x.s !=y.s)=false:=by simp [h2]
   have hr:Hid (Id.less x y=decide ((x.u:Int)<(y.u:Int))):=by show _=_;unfold Id.less;rw [if_pos h1,if_pos h2];simp
   clear h1 h2;go_enter Tryz.func73,Tryz.ntmps73;go_wp2
   go_ret
   exact ⟨by rw [hr.out];simp,hf⟩
  ·
   have f2:(x.s !=y.s)=true:=by simp [h2]
   have hr:Hid (Id.less x y=decide (x.s<y.s)):=by show _=_;unfold Id.less;rw [if_pos h1,if_neg h2]
   clear h1 h2;go_enter Tryz.func73,Tryz.ntmps73;go_wp2
   go_ret
   exact ⟨by rw [hr.out];rfl,hf⟩
 ·
  have f1:(x.b !=y.b)=true:=by simp [h1]
  have hr:Hid (Id.less x y=decide (x.b<y.b)):=by show _=_;unfold Id.less;rw [if_neg h1]
  clear h1;go_enter Tryz.func73,Tryz.ntmps73;go_wp2
  go_ret
  exact ⟨by rw [hr.out];rfl,hf⟩
theorem Jg {w:World} {a:Addr} {v:Value} (h:w.cell? a=some v) (o:Obj):(w.alloc o).cell? a=some v:=((Fr.refl Non w).alloc o).cell h zq
def Bc (a b:Int):Int:=if a<b then-1 else if b<a then 1 else 0
theorem Mg (a:Int) (w:World):Calls Tryz.prog 68 #[.int .i64 a] w fun e w'=>e=.returned (.bool false)∧w=w':=by
 have h:(a !=a)=false:=by simp
 go_enter Tryz.func68,Tryz.ntmps68;go_wp2
 go_ret
 first|exact ⟨rfl,rfl⟩|exact ⟨by simp,rfl⟩
theorem Mh (a:Int) (w:World):Calls Tryz.prog 71 #[.int .u64 a] w fun e w'=>e=.returned (.bool false)∧w=w':=by
 have h:(a !=a)=false:=by simp
 go_enter Tryz.func71,Tryz.ntmps71;go_wp2
 go_ret
 first|exact ⟨rfl,rfl⟩|exact ⟨by simp,rfl⟩
theorem Jh (a b:Int) (w:World):Calls Tryz.prog 38 #[.int .i64 a,.int .i64 b] w fun e w'=>e=.returned (.int .i64 (Bc a b))∧w=w':=by
 have hc:Hid ((a<b∧Bc a b= -1)∨(¬a<b∧b<a∧Bc a b=1)∨(¬a<b∧¬b<a∧Bc a b=0)):=by
  show _∨_;unfold Bc
  by_cases h1:a<b
  · simp [h1]
  · by_cases h2:b<a<;>simp [h1,h2]
 go_enter Tryz.func38,Tryz.ntmps38;go_wp2_with (fail);refine (Mg a _).mono ?_;rintro _ _ ⟨rfl,rfl⟩;go_wp2_with (fail);refine (Mg b _).mono ?_;rintro _ _ ⟨rfl,rfl⟩;go_wp2
 all_goals
  go_ret
  refine ⟨congrArg (fun z=>Ending.returned (.int .i64 z)) ?_,rfl⟩;have:=hc.out;omega
theorem Mi (a b:Int) (w:World):Calls Tryz.prog 44 #[.int .u64 a,.int .u64 b] w fun e w'=>e=.returned (.int .i64 (Bc a b))∧w=w':=by
 have hc:Hid ((a<b∧Bc a b= -1)∨(¬a<b∧b<a∧Bc a b=1)∨(¬a<b∧¬b<a∧Bc a b=0)):=by
  show _∨_;unfold Bc
  by_cases h1:a<b
  · simp [h1]
  · by_cases h2:b<a<;>simp [h1,h2]
 go_enter Tryz.func44,Tryz.ntmps44;go_wp2_with (fail);refine (Mh a _).mono ?_;rintro _ _ ⟨rfl,rfl⟩;go_wp2_with (fail);refine (Mh b _).mono ?_;rintro _ _ ⟨rfl,rfl⟩;go_wp2
 all_goals
  go_ret
  refine ⟨congrArg (fun z=>Ending.returned (.int .i64 z)) ?_,rfl⟩;have:=hc.out;omega
def orI (a b c:Int):Int:=if a=0 then if b=0 then c else b else a
theorem Mj (a b c:Int) (k:Nat) (w:World) (hk:Blk w k 3 #[.int .i64 a,.int .i64 b,.int .i64 c]):
  Calls Tryz.prog 43 #[.slice (some ⟨k,0,none⟩) 3 3] w fun e w'=>e=.returned (.int .i64 (orI a b c))∧w=w':=by
 have k0:=hk.cell 0;have k1:=hk.cell 1;have k2:=hk.cell 2
 by_cases h1:a=0
 ·
  have f1:(a !=0)=false:=by simp [h1]
  by_cases h2:b=0
  ·
   have f2:(b !=0)=false:=by simp [h2]
   by_cases h3:c=0
   ·
    have f3:(c !=0)=false:=by simp [h3]
    have hr:Hid (orI a b c=0):=by show _=_;unfold orI;rw [if_pos h1,if_pos h2,h3]
    clear h1 h2 h3;go_enter Tryz.func43,Tryz.ntmps43;go_wp2;refine wp_loop_rounds 4 ?_;rw [rounds_succ];go_wp2;rw [rounds_succ];go_wp2;rw [rounds_succ];go_wp2;rw [rounds_succ];go_wp2
    go_ret
    exact ⟨by rw [hr.out];rfl,rfl⟩
   ·
    have f3:(c !=0)=true:=by simp [h3]
    have hr:Hid (orI a b c=c):=by show _=_;unfold orI;rw [if_pos h1,if_pos h2]
    clear h1 h2 h3;go_enter Tryz.func43,Tryz.ntmps43;go_wp2;refine wp_loop_rounds 4 ?_;rw [rounds_succ];go_wp2;rw [rounds_succ];go_wp2;rw [rounds_succ];go_wp2
    go_ret
    exact ⟨by rw [hr.out];rfl,rfl⟩
  ·
   have f2:(b !=0)=true:=by simp [h2]
   have hr:Hid (orI a b c=b):=by show _=_;unfold orI;rw [if_pos h1,if_neg h2]
   clear h1 h2;go_enter Tryz.func43,Tryz.ntmps43;go_wp2;refine wp_loop_rounds 4 ?_;rw [rounds_succ];go_wp2;rw [rounds_succ];go_wp2
   go_ret
   exact ⟨by rw [hr.out];rfl,rfl⟩
 ·
  have f1:(a !=0)=true:=by simp [h1]
  have hr:Hid (orI a b c=a):=by show _=_;unfold orI;rw [if_neg h1]
  clear h1;go_enter Tryz.func43,Tryz.ntmps43;go_wp2;refine wp_loop_rounds 4 ?_;rw [rounds_succ];go_wp2
  go_ret
  exact ⟨by rw [hr.out];rfl,rfl⟩
theorem Mk (x y:Id):decide (orI (Bc x.b y.b) (Bc x.s y.s) (Bc (x.u:Int) (y.u:Int))<0)=Id.less x y:=by
 unfold Id.less
 by_cases h1:x.b=y.b
 ·
  have e1:Bc x.b y.b=0:=by unfold Bc;rw [if_neg (by omega),if_neg (by omega)]
  rw [if_pos h1,e1]
  by_cases h2:x.s=y.s
  ·
   have e2:Bc x.s y.s=0:=by unfold Bc;rw [if_neg (by omega),if_neg (by omega)]
   rw [if_pos h2,e2];show decide (Bc (x.u:Int) (y.u:Int)<0)=_;unfold Bc;rw [Ag6];simp only [decide_eq_true_eq]
   split
   · omega
   · split<;>omega
  ·
   rw [if_neg h2];have e2:Bc x.s y.s≠0:=by unfold Bc;split;omega;split<;>omega
   show decide ((if Bc x.s y.s=0 then _ else Bc x.s y.s)<0)=_;rw [if_neg e2,Ag6];simp only [decide_eq_true_eq];unfold Bc
   split
   · omega
   · split<;>omega
 ·
  rw [if_neg h1];have e1:Bc x.b y.b≠0:=by unfold Bc;split;omega;split<;>omega
  unfold orI;rw [if_neg e1,Ag6];simp only [decide_eq_true_eq];unfold Bc
  split
  · omega
  · split<;>omega
theorem Ml (x y:Id) (w:World):
  Calls Tryz.prog 17 #[.agg x.V,.agg y.V] w (Ac (Id.less x y) w):=by
 have hf:=((Fr.refl Non w).alloc (.cells x.V 41)).alloc (.cells y.V 41);have hx:=(Blk.new w 41 x.V).alloc (.cells y.V 41);have hy:=Blk.new (w.alloc (.cells x.V 41)) 41 y.V;rw [Ag3] at hy;have hl:=Mk x y;have hl':=Lib.hid hl;clear hl;go_enter Tryz.func17,Tryz.ntmps17;go_upto_region 1 with (fail)
 generalize (w.alloc (.cells x.V 41)).alloc (.cells y.V 41)=w0 at*;have c0:w0.drew.cell? ⟨w.heap.size,0,none⟩=some (.int .i64 x.b):=hx.cell 0;have c1:w0.drew.cell? ⟨w.heap.size,1,none⟩=some (.int .i64 x.s):=hx.cell 1;have c2:w0.drew.cell? ⟨w.heap.size,2,none⟩=some (.int .u64 (x.u:Int)):=hx.cell 2;have d0:w0.drew.cell? ⟨w.heap.size+1,0,none⟩=some (.int .i64 y.b):=hy.cell 0;have d1:w0.drew.cell? ⟨w.heap.size+1,1,none⟩=some (.int .i64 y.s):=hy.cell 1;have d2:w0.drew.cell? ⟨w.heap.size+1,2,none⟩=some (.int .u64 (y.u:Int)):=hy.cell 2
 go_region_held3 (fun w'=>w'.cell? ⟨w.heap.size,0,none⟩=some (.int .i64 x.b)∧w'.cell? ⟨w.heap.size,1,none⟩=some (.int .i64 x.s)∧w'.cell? ⟨w.heap.size,2,none⟩=some (.int .u64 (x.u:Int))∧w'.cell? ⟨w.heap.size+1,0,none⟩=some (.int .i64 y.b)∧w'.cell? ⟨w.heap.size+1,1,none⟩=some (.int .i64 y.s)∧w'.cell? ⟨w.heap.size+1,2,none⟩=some (.int .u64 (y.u:Int))) ((and_intros<;>first|assumption|(refine Jg ?_ _;assumption))) (first
  |(go_at_call 38;(with_reducible refine (Jh _ _ _).mono ?_);rintro _ _ ⟨rfl,rfl⟩)
  |(go_at_call 44;(with_reducible refine (Mi _ _ _).mono ?_);rintro _ _ ⟨rfl,rfl⟩)
  |(go_at_call 43;(refine (Mj _ _ _ _ _ (by exact Blk.new _ _ _)).mono ?_);rintro _ _ ⟨rfl,rfl⟩))
 go_wp2
 go_ret
 exact ⟨by rw [← hl'.out];rfl,hf.drew.alloc _⟩
end Oq
end
section
open Go.RowKit Go.Sort
attribute [local go_sem ↓] Go.wp_at_zero Go.wp_at_succ
namespace Oq
def GrowOf (w w':World):Prop:=∃(q:Nat) (os:Array Obj),w'=grow (w.drewN q) os
theorem GrowOf.refl (w:World):GrowOf w w:=⟨0,#[],by simp [grow,Ag7]⟩
theorem GrowOf.trans {a b c:World} (h:GrowOf a b) (k:GrowOf b c):GrowOf a c:=by
 obtain ⟨q,os,rfl⟩:=h;obtain ⟨q',os',rfl⟩:=k;exact ⟨q+q',os++os',by simp [grow,Ag7,Array.append_assoc,Nat.add_assoc]⟩
theorem GrowOf.alloc {a b:World} (h:GrowOf a b) (o:Obj):GrowOf a (b.alloc o):=h.trans ⟨0,#[o],by unfold grow Ag7 World.alloc;simp⟩
theorem GrowOf.drew {a b:World} (h:GrowOf a b):GrowOf a b.drew:=h.trans ⟨1,#[],by rw [grow_empty];rfl⟩
theorem GrowOf.fr {a b:World} (h:GrowOf a b):Fr Non a b:=by
 obtain ⟨q,os,rfl⟩:=h;refine ⟨rfl,rfl,rfl,?_,?_⟩
 · simp [grow,Ag7]
 ·
  intro k hk _;simp only [grow,Ag7];rw [Array.getElem?_append_left hk]
theorem Mm (x y:Id) (w:World):
  Calls Tryz.prog 17 #[.agg x.V,.agg y.V] w fun e w'=>e=.returned (.bool (Id.less x y))∧GrowOf w w':=by
 have hf:=((GrowOf.refl w).alloc (.cells x.V 41)).alloc (.cells y.V 41);have hx:=(Blk.new w 41 x.V).alloc (.cells y.V 41);have hy:=Blk.new (w.alloc (.cells x.V 41)) 41 y.V;rw [Ag3] at hy;have hl:=Mk x y;have hl':=Lib.hid hl;clear hl;go_enter Tryz.func17,Tryz.ntmps17;go_upto_region 1 with (fail)
 generalize (w.alloc (.cells x.V 41)).alloc (.cells y.V 41)=w0 at*;have c0:w0.drew.cell? ⟨w.heap.size,0,none⟩=some (.int .i64 x.b):=hx.cell 0;have c1:w0.drew.cell? ⟨w.heap.size,1,none⟩=some (.int .i64 x.s):=hx.cell 1;have c2:w0.drew.cell? ⟨w.heap.size,2,none⟩=some (.int .u64 (x.u:Int)):=hx.cell 2;have d0:w0.drew.cell? ⟨w.heap.size+1,0,none⟩=some (.int .i64 y.b):=hy.cell 0;have d1:w0.drew.cell? ⟨w.heap.size+1,1,none⟩=some (.int .i64 y.s):=hy.cell 1;have d2:w0.drew.cell? ⟨w.heap.size+1,2,none⟩=some (.int .u64 (y.u:Int)):=hy.cell 2
 go_region_held3 (fun w'=>w'.cell? ⟨w.heap.size,0,none⟩=some (.int .i64 x.b)∧w'.cell? ⟨w.heap.size,1,none⟩=some (.int .i64 x.s)∧w'.cell? ⟨w.heap.size,2,none⟩=some (.int .u64 (x.u:Int))∧w'.cell? ⟨w.heap.size+1,0,none⟩=some (.int .i64 y.b)∧w'.cell? ⟨w.heap.size+1,1,none⟩=some (.int .i64 y.s)∧w'.cell? ⟨w.heap.size+1,2,none⟩=some (.int .u64 (y.u:Int))) ((and_intros<;>first|assumption|(refine Jg ?_ _;assumption))) (first
  |(go_at_call 38;(with_reducible refine (Jh _ _ _).mono ?_);rintro _ _ ⟨rfl,rfl⟩)
  |(go_at_call 44;(with_reducible refine (Mi _ _ _).mono ?_);rintro _ _ ⟨rfl,rfl⟩)
  |(go_at_call 43;(refine (Mj _ _ _ _ _ (by exact Blk.new _ _ _)).mono ?_);rintro _ _ ⟨rfl,rfl⟩))
 go_wp2
 go_ret
 exact ⟨by rw [← hl'.out];rfl,hf.drew.alloc _⟩
def Er (x y:Id):Int:=if Id.less x y then-1 else if Id.less y x then 1 else 0
end Oq
end
section
open Go.RowKit Go.Maps
namespace Oq
theorem Id.ext3 (x y:Id):(x.b=y.b∧x.s=y.s∧x.u=y.u)↔x=y:=by
 constructor
 ·
  intro ⟨h1,h2,h3⟩
  cases x;cases y
  simp only at h1 h2 h3;subst h1;subst h2;subst h3;rfl
 ·
  rintro rfl;exact ⟨rfl,rfl,rfl⟩
instance:DecidableEq Id:=fun x y=>decidable_of_iff _ (Id.ext3 x y)
abbrev IdG (x:Id):Value:=.agg x.V
theorem law_id:Keyed Tryz.prog 41:=Keyed.of_law (deep_law_laid Tryz.laidOut (m:=2) (by omega) (of_decide_eq_true (by kernel_rfl)) (by kernel_rfl) (by rw [Tryz.underlying41]))
theorem Sz:Tryz.prog.keyType 41=true:=by kernel_rfl
theorem Mn:Tryz.prog.cellsOf 41=3:=by kernel_rfl
theorem Mo:Tryz.prog.cellsOf 3=1:=by kernel_rfl
theorem Mp:Tryz.prog.cellsOf 39=1:=by kernel_rfl
theorem Mq:∃n,Tryz.prog.types.size=n+1:=⟨Tryz.prog.types.size-1,by have:0<Tryz.prog.types.size:=of_decide_eq_true (by kernel_rfl);omega⟩
def Dm (x:Id):Lit:=.string (keyBytes [.int .i64 x.b,.int .i64 x.s,.int .u64 (x.u:Int)])
theorem Ed {n:Int} (h:I64 n):(Lit.int .i64 n).wf=true:=by
 have:=h.1;have:=h.2;simp [Lit.wf,IntKind.min,IntKind.max,IntKind.signed,IntKind.bits];omega
theorem S2 {n:Nat} (h:U64 n):(Lit.int .u64 (n:Int)).wf=true:=by
 have h':n<18446744073709551616:=h;simp [Lit.wf,IntKind.min,IntKind.max,IntKind.signed,IntKind.bits];omega
theorem Fp (x:Id) (h:x.ok):keyOf Tryz.prog 41 (IdG x)=some (Dm x):=by
 obtain ⟨n,hn⟩:=Mq;have hu:=Tryz.underlying41;have e1:=Ed h.1;have e2:=Ed h.2.1;have e3:=S2 h.2.2;unfold keyOf;rw [hu];simp only [Sz,Value.formed,hu,Mn];unfold Program.keyLits;simp only [hu];rw [hn];simp only [Program.keyLits,Value.cells,Mn];simp [List.mapM_cons,Mo,Mp,Tryz.underlying3,Tryz.underlying39,e1,e2,e3,Dm]
theorem S3 {x y:Id} (hx:x.ok) (hy:y.ok) (h:Dm x=Dm y):x=y:=by
 have k1:=Fp x hx;rw [h] at k1;have:=law_id.inj k1 (Fp y hy);simp only [IdG,Value.agg.injEq,Array.mk.injEq,List.cons.injEq,Value.int.injEq,true_and,and_true] at this;obtain ⟨e1,e2,e3⟩:=this
 cases x;cases y
 simp only at e1 e2 e3;subst e1;subst e2;rw [Int.ofNat.inj e3]
theorem Mr (x:Id) (h:x.ok):WideAt.IsKeyLit (Dm x):=law_id.key (Fp x h)
def MapAt (w:World) (b m:Nat) (f:Id→Option Nat):Prop:=
 ∃(n:Nat) (D:DataW Nat),w.ownsMap Tryz.prog 41 (plainElem Tryz.prog 3) b n D∧n≤m∧IsMap D∧(∀x i,f x=some i→i≤1000000)∧
  ∀x:Id,x.ok→has D (Dm x)=(f x).isSome∧∀i,f x=some i→∀z,D.atKey (Dm x) z=.lit (.int .i64 (i:Int))
theorem MapAt.made (w:World):MapAt (w.alloc (.map #[] 0)) w.heap.size 0 (fun _=>none):=by
 refine ⟨0,.map [],World.ownsMap_made w _ _ _,Af9 _,isMap_empty,?_,?_⟩
 ·
  intro x i h
  cases h
 ·
  intro x hx;refine ⟨rfl,?_⟩;intro i h
  cases h
theorem MapAt.lt {w:World} {b m:Nat} {f:Id→Option Nat} (h:MapAt w b m f):b<w.heap.size:=by
 obtain ⟨n,D,ho,_⟩:=h;exact ho.lt
theorem MapAt.fr {S:Nat→Prop} {w w':World} {b m:Nat} {f:Id→Option Nat} (h:MapAt w b m f) (hf:Fr S w w') (hb:¬S b):MapAt w' b m f:=by
 obtain ⟨n,D,ho,hn,rest⟩:=h;obtain ⟨es,clock,hbl,r2⟩:=ho;exact ⟨n,D,⟨es,clock,(hf.block b (Array.getElem?_eq_some_iff.1 hbl).1 hb).trans hbl,r2⟩,hn,rest⟩
theorem MapAt.size {w:World} {b m:Nat} {f:Id→Option Nat} (h:MapAt w b m f) {x:Id} {i:Nat} (hx:f x=some i):i≤1000000:=by
 obtain ⟨n,D,ho,hn,hm,hs,_⟩:=h;exact hs x i hx
theorem MapAt.look {w:World} {b m:Nat} {f:Id→Option Nat} (h:MapAt w b m f) (x:Id) (hx:x.ok):
  (Instr.lookup 91 (.map (some b)) (IdG x) true).run Tryz.prog w=.ok (.tuple #[.int .i64 (((f x).getD 0:Nat):Int),.bool (f x).isSome]) w:=by
 obtain ⟨n,D,ho,hn,hm,hs,hsays⟩:=h;obtain ⟨h1,h2⟩:=hsays x hx;obtain ⟨v,ps,hrun,hv⟩:=ho.look_ok law_id Tryz.underlying91 (z:=.int .i64 0) (by kernel_rfl) (plainElem_int Tryz.underlying3 (by decide)) (Fp x hx);rw [hrun,h1];obtain ⟨c,rfl,hc,hwc⟩:=plainElem_int_inv Tryz.underlying3 hv;simp only [Prod.mk.injEq] at hc
 cases hf:f x with
 |none=>
  have h3:has D (Dm x)=false:=by rw [h1,hf];rfl
  have h4:=(atKey_of_not_has h3 (.lit (.int .i64 0))).symm.trans hc.1
  cases h4
  rfl
 |some i=>
  have h4:=(h2 i hf (.lit (.int .i64 0))).symm.trans hc.1
  cases h4
  rfl
theorem MapAt.look1 {w:World} {b m:Nat} {f:Id→Option Nat} (h:MapAt w b m f) (x:Id) (hx:x.ok):
  (Instr.lookup 91 (.map (some b)) (IdG x) false).run Tryz.prog w=.ok (.int .i64 (((f x).getD 0:Nat):Int)) w:=by
 obtain ⟨n,D,ho,hn,hm,hs,hsays⟩:=h;obtain ⟨h1,h2⟩:=hsays x hx;obtain ⟨c,hrun,hc,hwc⟩:=ho.lookup_int law_id Tryz.underlying91 Tryz.underlying3 (by kernel_rfl) (Fp x hx);rw [hrun]
 cases hf:f x with
 |none=>
  have h3:has D (Dm x)=false:=by rw [h1,hf];rfl
  have h4:=(atKey_of_not_has h3 (.lit (.int .i64 0))).symm.trans hc
  cases h4
  rfl
 |some i=>
  have h4:=(h2 i hf (.lit (.int .i64 0))).symm.trans hc
  cases h4
  rfl
theorem MapAt.store {w:World} {b m:Nat} {f:Id→Option Nat} (h:MapAt w b m f) (x:Id) (hx:x.ok) (i:Nat) (hi:i≤1000000) (hmm:m≤100000):
  ∃w',(Instr.mapUpdate 91 (.map (some b)) (IdG x) (.int .i64 (i:Int))).run Tryz.prog w=.ok () w'∧MapAt w' b (m+1) (fun y=>if y=x then some i else f y)∧w.grownBy w' (some b):=by
 obtain ⟨n,D,ho,hn,hm,hs,hsays⟩:=h;have hwi:(Lit.int .i64 (i:Int)).wf=true:=Ed ⟨by omega,by omega⟩;obtain ⟨w',hrun,hown,hg⟩:=ho.update law_id Tryz.underlying91 (Ah5 (Nat.le_trans hn hmm) (by decide)) (Fp x hx) (plainElem_int Tryz.underlying3 hwi);refine ⟨w',hrun,⟨n+1,_,hown,by omega,hm.put _ _,fun y j hj=> ?_,fun y hy=> ?_⟩,hg⟩
 ·
  by_cases e:y=x
  ·
   simp only [if_pos e] at hj
   cases hj
   exact hi
  ·
   simp only [if_neg e] at hj;exact hs y j hj
 by_cases e:y=x
 ·
  subst e;simp only [if_true];exact ⟨has_put_same hm (Mr y hy) _,fun j hj z=>by cases hj;exact atKey_put_same hm (Mr y hy) _ _⟩
 ·
  simp only [if_neg e];have hne:Dm y≠Dm x:=fun h=>e (S3 hy hx h);exact ⟨(has_put_other hne _).trans (hsays y hy).1,fun j hj z=>(atKey_put_other hne _ _).trans ((hsays y hy).2 j hj z)⟩
end Oq
end
section
open Go.RowKit
theorem Ms {P:Program} {Q:Exit→Act→World→Prop} {l:List Oper} {md:Region.Mode} {S:World→Prop} {fuel:Nat} {listed:Array Bool} {a:Act} {w:World} (i:Nat) {d:Option Tmp} {op:Op} {ty:TypeId} {pos:String} {after:Array Edge} (hr:Region.ready md l.toArray listed=[i]) (ho:l[i]? =some ⟨d,op,ty,pos,after,none⟩)
  (h:∀K':Act→World→Prop,Shut (∀a w,S w→(S w→wpAnyH P md l.toArray Q S fuel (listed.setIfInBounds i true) a w)→K' a w)→Oper.wp P ⟨d,op,ty,pos,after,none⟩ a w K' Q):
  wpAnyH P md l.toArray Q S (fuel+1) listed a w:=
 wpAnyH_ready hr (by simp) (AllReadyH.cons (by rw [Ah0];exact ho) (fun K' hK=>by rw [if_pos (show Region.wanted _ _=true from rfl)];exact h K' hK) AllReadyH.nil)
theorem Ag (l:List Value) (ds:List Deferred) (i:Nat) (v:Value):(⟨l.toArray,ds⟩:Act).put (some i) v=⟨(l.set i v).toArray,ds⟩:=by simp [Act.put]
theorem Mt {P:Program} {Q:Exit→Act→World→Prop} {md:Region.Mode} {S:World→Prop} {l:List Oper} {i:Nat} {d:Tmp} {op:Op} {ty:TypeId} {pos:String} {after:Array Edge} {g:Option (Nat × Bool)} {v:Value} {fuel:Nat} {listed:Array Bool} {tl:List Value} {ds:List Deferred} {w:World} (hi:l[i]? =some ⟨some d,op,ty,pos,after,g⟩)
  (hs:Region.noSelect l.toArray=true) (hf:Region.free md l.toArray listed i=true) (hr:(Region.ready md l.toArray listed).contains i=true)
  (hQ:∀c a w,Q (.panic c) (a.put (some d) v) w→Q (.panic c) a w) (hy:YieldsIf P l.toArray S ⟨some d,op,ty,pos,after,g⟩ v ⟨tl.toArray,ds⟩) (hS:S w)
  (h:wpAnyH P md l.toArray Q S fuel (listed.setIfInBounds i true) ⟨(tl.set d v).toArray,ds⟩ w):wpAnyH P md l.toArray Q S (fuel+1) listed ⟨tl.toArray,ds⟩ w:=
 wpAnyH_take (i:=i) (by rw [Ah0];exact hi) hs hf hr hQ hy hS (by rw [Ag];exact h)
theorem S4 {P:Program} {Q:Exit→Act→World→Prop} {md:Region.Mode} {S:World→Prop} {l:List Oper} {i:Nat} {d:Tmp} {op:Op} {ty:TypeId} {pos:String} {after:Array Edge} {g:Option (Nat × Bool)} {fuel:Nat} {listed:Array Bool} {tl:List Value} {ds:List Deferred} {w:World} (hi:l[i]? =some ⟨some d,op,ty,pos,after,g⟩)
  (hs:Region.noSelect l.toArray=true) (hf:Region.free md l.toArray listed i=true) (hr:(Region.ready md l.toArray listed).contains i=true)
  (hQ:∀c a w,Q (.panic c) (a.put (some d) undef) w→Q (.panic c) a w) (hw:Region.wanted ⟨some d,op,ty,pos,after,g⟩ (yielded l.toArray tl.toArray)=false) (hS:S w)
  (h:wpAnyH P md l.toArray Q S fuel (listed.setIfInBounds i true) ⟨(tl.set d undef).toArray,ds⟩ w):wpAnyH P md l.toArray Q S (fuel+1) listed ⟨tl.toArray,ds⟩ w:=
 wpAnyH_take (i:=i) (by rw [Ah0];exact hi) hs hf hr hQ (Or.inr ⟨hw,rfl⟩) hS (by rw [Ag];exact h)
theorem S5 {P:Program} {Q:Exit→Act→World→Prop} {l:List Oper} {md:Region.Mode} {S:World→Prop} {fuel:Nat} {listed:Array Bool} {a:Act} {w:World} (i:Nat) {d:Option Tmp} {op:Op} {ty:TypeId} {pos:String} {after:Array Edge} {g:Option (Nat × Bool)} (hr:Region.ready md l.toArray listed=[i]) (ho:l[i]? =some ⟨d,op,ty,pos,after,g⟩)
  (hw:Region.wanted ⟨d,op,ty,pos,after,g⟩ (yielded l.toArray a.tmps)=true)
  (h:∀K':Act→World→Prop,Shut (∀a w,S w→(S w→wpAnyH P md l.toArray Q S fuel (listed.setIfInBounds i true) a w)→K' a w)→Oper.wp P ⟨d,op,ty,pos,after,g⟩ a w K' Q):
  wpAnyH P md l.toArray Q S (fuel+1) listed a w:=
 wpAnyH_ready hr (by simp) (AllReadyH.cons (by rw [Ah0];exact ho) (fun K' hK=>by rw [if_pos hw];exact h K' hK) AllReadyH.nil)
theorem oG {P:Program} {Q:Exit→Act→World→Prop} {l:List Oper} {md:Region.Mode} {S:World→Prop} {fuel:Nat} {listed:Array Bool} {a:Act} {w:World} (i:Nat) {d:Option Tmp} {op:Op} {ty:TypeId} {pos:String} {after:Array Edge} {g:Option (Nat × Bool)}
  (h:∀K':Act→World→Prop,Shut (∀a w,S w→(S w→wpAnyH P md l.toArray Q S fuel (listed.setIfInBounds i true) a w)→K' a w)→Oper.wp P ⟨d,op,ty,pos,after,g⟩ a w K' Q)
  (hr:Region.ready md l.toArray listed=[i]:=by kernel_rfl) (ho:l[i]? =some ⟨d,op,ty,pos,after,g⟩:=by rfl) (hw:Region.wanted ⟨d,op,ty,pos,after,g⟩ (yielded l.toArray a.tmps)=true:=by kernel_rfl):wpAnyH P md l.toArray Q S (fuel+1) listed a w:=S5 i hr ho hw h
theorem oD {P:Program} {Q:Exit→Act→World→Prop} {ops:Array Oper} {md:Region.Mode} {S:World→Prop} {fuel:Nat} {listed:Array Bool} {a:Act} {w:World} (h:Q .normal a w) (hr:Region.ready md ops listed=[]:=by kernel_rfl):wpAnyH P md ops Q S fuel listed a w:=wpAnyH_done hr h fuel
theorem tkH (i:Nat) {P:Program} {Q:Exit→Act→World→Prop} {md:Region.Mode} {S:World→Prop} {l:List Oper} {d:Tmp} {op:Op} {ty:TypeId} {pos:String} {after:Array Edge} {g:Option (Nat × Bool)} {v:Value} {fuel:Nat} {listed:Array Bool} {tl:List Value} {ds:List Deferred} {w:World} (hS:S w) (hi:l[i]? =some ⟨some d,op,ty,pos,after,g⟩:=by rfl)
  (hs:Region.noSelect l.toArray=true:=by kernel_rfl) (hf:Region.free md l.toArray listed i=true:=by kernel_rfl) (hr:(Region.ready md l.toArray listed).contains i=true:=by kernel_rfl)
  (hQ:∀c a w,Q (.panic c) (a.put (some d) v) w→Q (.panic c) a w:=by exact fun _ _ _ h=>h) (hy:YieldsIf P l.toArray S ⟨some d,op,ty,pos,after,g⟩ v ⟨tl.toArray,ds⟩:=by (refine Or.inl ⟨by kernel_rfl,?_⟩;intro w' hSw;(try dsimp only at hSw);(try simp only [List.set]);go_simp;(try with_reducible rfl)))
  (h:wpAnyH P md l.toArray Q S fuel (listed.setIfInBounds i true) ⟨(tl.set d v).toArray,ds⟩ w):
  wpAnyH P md l.toArray Q S (fuel+1) listed ⟨tl.toArray,ds⟩ w:=Mt hi hs hf hr hQ hy hS h
theorem skH (i:Nat) {P:Program} {Q:Exit→Act→World→Prop} {md:Region.Mode} {S:World→Prop} {l:List Oper} {d:Tmp} {op:Op} {ty:TypeId} {pos:String} {after:Array Edge} {g:Option (Nat × Bool)} {fuel:Nat} {listed:Array Bool} {tl:List Value} {ds:List Deferred} {w:World} (hS:S w) (hi:l[i]? =some ⟨some d,op,ty,pos,after,g⟩:=by rfl)
  (hs:Region.noSelect l.toArray=true:=by kernel_rfl) (hf:Region.free md l.toArray listed i=true:=by kernel_rfl) (hr:(Region.ready md l.toArray listed).contains i=true:=by kernel_rfl)
  (hQ:∀c a w,Q (.panic c) (a.put (some d) undef) w→Q (.panic c) a w:=by exact fun _ _ _ h=>h) (hw:Region.wanted ⟨some d,op,ty,pos,after,g⟩ (yielded l.toArray tl.toArray)=false:=by kernel_rfl)
  (h:wpAnyH P md l.toArray Q S fuel (listed.setIfInBounds i true) ⟨(tl.set d undef).toArray,ds⟩ w):
  wpAnyH P md l.toArray Q S (fuel+1) listed ⟨tl.toArray,ds⟩ w:=S4 hi hs hf hr hQ hw hS h
end
section
open Go.RowKit
attribute [local go_sem ↓] Go.wp_at_zero Go.wp_at_succ
namespace Oq
attribute [local go_sem] Bool.not_false Bool.not_true
structure Ao (ws:List Nat) (m:Nat→Bool):Prop where
 len:ws.length=4
 u64:∀k,ws.getD k 0<18446744073709551616
 bit:∀n,n<256→m n=(ws.getD (n/64) 0).testBit (n%64)
theorem S6 (a r:Nat):((a:Int)/2^r)=((a/2^r:Nat):Int):=by
 rw [Int.natCast_ediv,Ah6];rfl
theorem S7 (a r:Nat) (ha:a<18446744073709551616):(bits BinOp.and IntKind.u64 ((a:Int)/2^r) 1==1)=a.testBit r:=by
 have h1:a/2^r<18446744073709551616:=Ah5 (Nat.div_le_self _ _) ha;rw [S6,show (1:Int)=((1:Nat):Int) from rfl,u64_and_nat _ 1 h1 (by decide),Nat.testBit_eq_decide_div_mod_eq,Nat.and_one_is_mod,Ag6,decide_eq_true_iff,beq_iff_eq];omega
theorem S8 (r:Nat) (hr:r<64):IntKind.u64.wrap (2^r)=((2^r:Nat):Int):=by
 have h1:(2:Nat)^r<18446744073709551616:=Ah7 (Ah8 (by decide) hr) (by decide);rw [show ((2:Int)^r)=((2^r:Nat):Int) from by rw [Ah6];rfl,IntKind.wrap_u64];generalize 2^r=p at*;omega
theorem Mu (a b:Nat) (ha:a<18446744073709551616) (hb:b<18446744073709551616):a|||b<18446744073709551616:=by
 have:a|||b<2^64:=Nat.or_lt_two_pow (by omega) (by omega);omega
theorem Mv (l:List Nat) (i k v:Nat) (hi:i<l.length):(l.set i v).getD k 0=if k=i then v else l.getD k 0:=by
 rw [Ah1,Ah1,List.getElem?_set]
 by_cases h:i=k
 · subst h;simp [hi]
 · simp [h,Ne.symm h]
theorem Ao.put {ws:List Nat} {m:Nat→Bool} (h:Ao ws m) {n:Nat} (hn:n<256):Ao (ws.set (n/64) (ws.getD (n/64) 0|||2^(n%64))) (fun k=>k==n||m k):=by
 have hl:=h.len;have hp:2^(n%64)<18446744073709551616:=Ah7 (Ah8 (by decide) (show n%64<64 by omega)) (by decide);refine ⟨by rw [List.length_set];exact hl,fun k=> ?_,fun k hk=> ?_⟩
 ·
  rw [Mv _ _ _ _ (by omega)]
  split
  · exact Mu _ _ (h.u64 _) hp
  · exact h.u64 k
 ·
  rw [Mv _ _ _ _ (by omega),h.bit k hk]
  by_cases e:k/64=n/64
  ·
   rw [if_pos e,Nat.testBit_or,Nat.testBit_two_pow,e]
   by_cases e2:k=n
   · subst e2;simp
   ·
    have e3:¬(n%64=k%64):=by omega
    have e4:(k==n)=false:=by simpa using e2
    simp [e3,e4]
  ·
   rw [if_neg e]
   have e4:(k==n)=false:=by
    have:k≠n:=fun e5=>e (by rw [e5]);simpa using this
   rw [e4,Bool.false_or]
theorem Ao.empty:Ao [0,0,0,0] (fun _=>false):=by
 refine ⟨rfl,fun k=> ?_,fun n hn=> ?_⟩
 ·
  match k with
  |0|1|2|3=>decide
  |k+4=>simp
 ·
  have hq:n/64=0∨n/64=1∨n/64=2∨n/64=3:=by omega
  rcases hq with e|e|e|e<;>rw [e]<;>simp
def orW (a b:List Nat):List Nat:=[a.getD 0 0|||b.getD 0 0,a.getD 1 0|||b.getD 1 0,a.getD 2 0|||b.getD 2 0,a.getD 3 0|||b.getD 3 0]
def Ji (a b:List Nat):List Nat:=[a.getD 0 0&&&b.getD 0 0,a.getD 1 0&&&b.getD 1 0,a.getD 2 0&&&b.getD 2 0,a.getD 3 0&&&b.getD 3 0]
theorem Jj (a b:List Nat) (k:Nat) (hk:k<4):(orW a b).getD k 0=a.getD k 0|||b.getD k 0:=by
 have hq:k=0∨k=1∨k=2∨k=3:=by omega
 rcases hq with rfl|rfl|rfl|rfl<;>rfl
theorem Jk (a b:List Nat) (k:Nat) (hk:k<4):(Ji a b).getD k 0=a.getD k 0&&&b.getD k 0:=by
 have hq:k=0∨k=1∨k=2∨k=3:=by omega
 rcases hq with rfl|rfl|rfl|rfl<;>rfl
theorem Ao.or {a b:List Nat} {m m':Nat→Bool} (h:Ao a m) (h':Ao b m'):Ao (orW a b) (fun k=>m k||m' k):=by
 refine ⟨rfl,fun k=> ?_,fun n hn=> ?_⟩
 ·
  rcases Ag8 k 4 with hk|hk
  ·
   rw [Jj a b k hk];exact Mu _ _ (h.u64 k) (h'.u64 k)
  ·
   rw [Ah1,Ai5 (by show 4≤k;exact hk)]
   decide
 · rw [Jj a b _ (by omega),Nat.testBit_or,h.bit n hn,h'.bit n hn]
theorem Ao.and {a b:List Nat} {m m':Nat→Bool} (h:Ao a m) (h':Ao b m'):Ao (Ji a b) (fun k=>m k&&m' k):=by
 refine ⟨rfl,fun k=> ?_,fun n hn=> ?_⟩
 ·
  rcases Ag8 k 4 with hk|hk
  ·
   rw [Jk a b k hk];exact Ah5 Nat.and_le_left (h.u64 k)
  ·
   rw [Ah1,Ai5 (by show 4≤k;exact hk)]
   decide
 · rw [Jk a b _ (by omega),Nat.testBit_and,h.bit n hn,h'.bit n hn]
def Es (w:World) (g off:Nat) (ws:List Nat):Prop:=∀k,k<4→w.cell? ⟨g,off+k,none⟩=some (.int .u64 ((ws.getD k 0:Nat):Int))
theorem Mw (g off:Nat) (ws:List Nat) (m:Nat→Bool) (n:Nat) (w:World) (hs:Ao ws m) (hat:Es w g off ws) (hn:n<256):
  Calls Tryz.prog 42 #[.pointer (some ⟨g,off,none⟩),.int .i64 (n:Int)] w fun e w'=>e=.returned (.bool (m n))∧w=w':=by
 have hb:=hs.bit n hn;have hc:=hat (n/64) (by omega);have hu:=hs.u64 (n/64);generalize ws.getD (n/64) 0=wd at*;have e1:(n:Int).tdiv 64=((n/64:Nat):Int):=by rw [Ai6 (by omega)];omega
 have e2:(n:Int).tmod 64=((n%64:Nat):Int):=by rw [Ai7 (by omega)];omega
 obtain ⟨q,hq⟩:∃q,q=n/64:=⟨_,rfl⟩;obtain ⟨r,hr⟩:∃r,r=n%64:=⟨_,rfl⟩;rw [← hq] at e1 hc;rw [← hr] at e2 hb;have q1:(0:Int)≤q:=by omega
 have q2:(q:Int)<4:=by omega
 have q3:(q:Int).toNat=q:=by omega
 have r1:¬((r:Int)<0):=by omega
 have r2:(r:Int).toNat=r:=by omega
 have r3:r<64:=by omega
 rw [hb];clear hs hat hb hq hr;go_enter Tryz.func42,Tryz.ntmps42;go_wp2
 go_ret
 refine ⟨congrArg (fun z=>Ending.returned (.bool z)) ?_,rfl⟩;exact S7 wd r hu
theorem S9 (g off:Nat) (ws:List Nat) (m:Nat→Bool) (n:Nat) (w:World) (hs:Ao ws m) (hat:Es w g off ws) (hfr:∀k,k<4→w.frozen? ⟨g,off+k,none⟩=false) (hn:n<256):
  Calls Tryz.prog 64 #[.pointer (some ⟨g,off,none⟩),.int .i64 (n:Int)] w fun e w'=>e=.returned (.tuple #[])∧∃k,w'=(w.drewN k).setCell ⟨g,off+n/64,none⟩ (.int .u64 ((ws.getD (n/64) 0|||2^(n%64):Nat):Int)):=by
 have hc:=hat (n/64) (by omega);have hz:=hfr (n/64) (by omega);have hu:=hs.u64 (n/64);generalize ws.getD (n/64) 0=wd at*;have e1:(n:Int).tdiv 64=((n/64:Nat):Int):=by rw [Ai6 (by omega)];omega
 have e2:(n:Int).tmod 64=((n%64:Nat):Int):=by rw [Ai7 (by omega)];omega
 obtain ⟨q,hq⟩:∃q,q=n/64:=⟨_,rfl⟩;obtain ⟨r,hr⟩:∃r,r=n%64:=⟨_,rfl⟩;rw [← hq] at e1 hc hz ⊢;rw [← hr] at e2 ⊢;have q1:(0:Int)≤q:=by omega
 have q2:(q:Int)<4:=by omega
 have q3:(q:Int).toNat=q:=by omega
 have r1:¬((r:Int)<0):=by omega
 have r2:(r:Int).toNat=r:=by omega
 have r3:r<64:=by omega
 have q4:IntKind.i64.wrap (q:Int)=q:=IntWalk.i64_in _ (by omega);have r4:IntKind.i64.wrap (r:Int)=r:=IntWalk.i64_in _ (by omega);have s1:=S8 r r3;have hp:2^r<18446744073709551616:=Ah7 (Ah8 (by decide) r3) (by decide);have s2:=u64_or_nat wd (2^r) hu hp;clear hs hat hfr hq hr;go_enter Tryz.func64,Tryz.ntmps64;go_wp2_with (fail);refine wp_region_held_drew (S:=(fun _=>True)) (by kernel_rfl) trivial (fun hHeld=> ?_);clear hHeld;have hS:(fun _:World=>True) w.drew:=trivial;have hc':w.drew.cell? ⟨g,off+q,none⟩=some (.int .u64 (wd:Int)):=hc;have hz':w.drew.frozen? ⟨g,off+q,none⟩=false:=hz;refine tkH 0 hS (h:=tkH 1 hS (h:=tkH 2 hS (h:=tkH 3 hS (h:=tkH 4 hS (h:=tkH 6 hS (h:=tkH 7 hS (h:=tkH 8 hS (h:=tkH 10 hS (h:=?_)))))))));simp only [List.set];refine oG 5 (fun K hK=> ?_);go_simp;refine hK.out _ _ trivial (fun _=> ?_);clear hK K;try simp only [Ag,List.set]
 refine tkH 9 hS (h:=tkH 11 hS (h:=?_));simp only [List.set];refine oG 12 (fun K hK=> ?_);go_simp;refine hK.out _ _ trivial (fun _=> ?_);clear hK K;try simp only [Ag,List.set]
 refine oD ?_;go_simp;go_wp2_with (fail)
 go_end0
 refine ⟨rfl,1,?_⟩;rw [show ((2:Int)^r)=((2^r:Nat):Int) from by rw [Ah6];rfl,s2];rfl
def Dc (cs:Array Value) (off:Nat) (v:Nat→Value):Nat→Array Value
 |0=>cs
 |i+1=>(Dc cs off v i).setIfInBounds (off+i) (v i)
theorem Mx (cs:Array Value) (off:Nat) (v:Nat→Value) (i j:Nat) (h:j<off∨off+i≤j):(Dc cs off v i)[j]? =cs[j]? :=by
 induction i with
 |zero=>rfl
 |succ i ih=>
  rw [Dc,Array.getElem?_setIfInBounds_ne (by omega)];exact ih (by omega)
def Hj (cs:Array Value) (off:Nat) (ws:List Nat):Array Value:=Dc cs off (fun k=> .int .u64 ((ws.getD k 0:Nat):Int)) 4
theorem My (g off:Nat) (t:TypeId) (cs:Array Value) (ws:List Nat) (t0 t1 t2 t3:Nat) (m m':Nat→Bool) (w:World) (hs:Ao ws m) (hs':Ao [t0,t1,t2,t3] m') (hb:Blk w g t cs) (hat:Es w g off ws):
  Calls Tryz.prog 65 #[.pointer (some ⟨g,off,none⟩),.agg #[.int .u64 (t0:Int),.int .u64 (t1:Int),.int .u64 (t2:Int),.int .u64 (t3:Int)]] w fun e w'=>e=.returned (.tuple #[])∧Blk w' g t (Hj cs off (orW ws [t0,t1,t2,t3]))∧Fr (One g) w w':=by
 obtain ⟨ts,ad⟩:∃ts,ts=[t0,t1,t2,t3]:=⟨_,rfl⟩;rw [← ad] at hs' ⊢
 have hT:∀k,k<4→(w.alloc (.cells #[.int .u64 (t0:Int),.int .u64 (t1:Int),.int .u64 (t2:Int),.int .u64 (t3:Int)] 96)).cell? ⟨w.heap.size,k,none⟩=some (.int .u64 ((ts.getD k 0:Nat):Int)):=by
  intro k hk;have hq:k=0∨k=1∨k=2∨k=3:=by omega
  have hn:=Blk.new w 96 #[.int .u64 (t0:Int),.int .u64 (t1:Int),.int .u64 (t2:Int),.int .u64 (t3:Int)];rw [ad]
  rcases hq with rfl|rfl|rfl|rfl
  · exact hn.cell 0
  · exact hn.cell 1
  · exact hn.cell 2
  · exact hn.cell 3
 have ah:=hb.alloc (.cells #[.int .u64 (t0:Int),.int .u64 (t1:Int),.int .u64 (t2:Int),.int .u64 (t3:Int)] 96);have f0:Fr (One g) w (w.alloc (.cells #[.int .u64 (t0:Int),.int .u64 (t1:Int),.int .u64 (t2:Int),.int .u64 (t3:Int)] 96)):=(Fr.refl _ w).alloc _;have al:=hb.lt;have af:∀k,k<4→cs[off+k]? =some (.int .u64 ((ws.getD k 0:Nat):Int)):=fun k hk=>by rw [← hb.cell];exact hat k hk
 obtain ⟨vf,ac⟩:∃vf:Nat→Value,vf=fun k=> .int .u64 (((orW ws ts).getD k 0:Nat):Int):=⟨_,rfl⟩;have ab:Hid (Hj cs off (orW ws ts)=Dc cs off vf 4):=by show _=_;rw [ac];rfl
 rw [ab.out]
 have aj:Hid (∀k,k<4→vf k=.int .u64 (bits .or .u64 ((ws.getD k 0:Nat):Int) ((ts.getD k 0:Nat):Int))):=fun k hk=>by
  rw [ac,u64_or_nat _ _ (hs.u64 k) (hs'.u64 k),← Jj ws ts k hk]
 have ai:=Lib.hid hT;have ae:=Lib.hid af;clear hat af hs hs' ac ab hT hb ad;go_enter Tryz.func65,Tryz.ntmps65;go_upto_region 1 with (fail)
 generalize hA:w.alloc (.cells #[.int .u64 (t0:Int),.int .u64 (t1:Int),.int .u64 (t2:Int),.int .u64 (t3:Int)] 96)=w0 at*;clear hA;go_wp2_with (fail)
 go_loopw [5] (fun v wr=>∃i:Nat,v=.int .i64 (i:Int)∧i≤4∧Blk wr g t (Dc cs off vf i)∧Fr (One g) w0 wr) (fun v _=>4-(intOf v).toNat)
 case atStart=>exact ⟨0,rfl,by omega,ah,Fr.refl _ _⟩
 case round=>
  obtain ⟨i,rfl,ak,aa,hf⟩:=hrel
  by_cases hlt:i<4
  ·
   have i1:(0:Int)≤i:=by omega
   have i2:(i:Int)<4:=by omega
   have i3:(i:Int).toNat=i:=by omega
   have i4:IntKind.i64.wrap (i:Int)=i:=IntWalk.i64_in _ (by omega);have c1:wr.cell? ⟨g,off+i,none⟩=some (.int .u64 ((ws.getD i 0:Nat):Int)):=by rw [aa.cell,Mx _ _ _ _ _ (by omega)];exact ae.out i hlt
   have c2:wr.cell? ⟨w.heap.size,i,none⟩=some (.int .u64 ((ts.getD i 0:Nat):Int)):=hf.cell (ai.out i hlt) (by show ¬w.heap.size=g;omega);have z1:=aa.frozen (off+i);have ag:=Lib.hid (aj.out i hlt);generalize ws.getD i 0=wi at*;generalize ts.getD i 0=ti at*;go_upto_region 4 with (fail)
   refine wp_region_held_drew (S:=(fun w'=>w'.cell? ⟨w.heap.size,i,none⟩=some (.int .u64 (ti:Int)))) (by kernel_rfl) c2 (fun hHeld=> ?_);clear hHeld;have hS:(fun w':World=>w'.cell? ⟨w.heap.size,i,none⟩=some (.int .u64 (ti:Int))) wr.drew:=c2;replace c1:wr.drew.cell? ⟨g,off+i,none⟩=some (.int .u64 (wi:Int)):=c1;replace z1:wr.drew.frozen? ⟨g,off+i,none⟩=false:=z1;replace aa:Blk wr.drew g t (Dc cs off vf i):=aa;replace hf:=hf.drew;generalize wr.drew=wq at*;refine tkH 0 hS (h:=tkH 1 hS (h:=tkH 2 hS (h:=tkH 3 hS (h:=tkH 5 hS (h:=tkH 6 hS (h:=tkH 7 hS (h:=tkH 9 hS (h:=?_))))))));simp only [List.set];refine oG 4 (fun K hK=> ?_);go_simp;refine hK.out _ _ hS (fun _=> ?_);clear hK K;try simp only [Ag,List.set]
   refine tkH 8 hS (h:=tkH 10 hS (h:=?_));simp only [List.set];refine oG 11 (fun K hK=> ?_);go_simp;refine hK.out _ _ (by rw [World.cell?_setCell_far _ _ _ _ (by show g≠w.heap.size;omega)];exact hS) (fun _=> ?_);clear hK K;try simp only [Ag,List.set]
   refine oD ?_;go_simp;go_wp2_with (fail);go_roundw
   case rel=>exact ⟨i+1,by go_num,by omega,by rw [Dc,ag.out];exact aa.set _ _,hf.setOne _ _⟩
   case measure=>simp [intOf];omega
  ·
   obtain rfl:i=4:=by omega
   go_wp2_with (fail)
   go_end0
   exact ⟨rfl,aa,f0.transOne hf⟩
end Oq
end
namespace Oq
structure Cd where
 d:Int
 m:Int
 l:Nat
 k:Nat
 s:Nat
def Cd.cells (c:Cd):List Value:=[.int .i64 c.d,.int .i64 c.m,.int .u64 (c.l:Int),.int .u64 (c.k:Int),.int .u64 (c.s:Int)]
theorem Ta (d m:Int) (l k s:Nat):(Cd.mk d m l k s).cells=[.int .i64 d,.int .i64 m,.int .u64 (l:Int),.int .u64 (k:Int),.int .u64 (s:Int)]:=rfl
end Oq
section
open Go.RowKit
attribute [local go_sem ↓] Go.wp_at_zero Go.wp_at_succ
namespace Oq
attribute [local go_sem] Bool.not_false Bool.not_true
theorem Tc (l:List Id) (k:Nat) (x y:Id) (h:l[k]? =some y):Ca (l.take (k+1)) x=(Ca (l.take k) x||Id.eq y x):=by
 obtain ⟨hk,rfl⟩:=List.getElem?_eq_some_iff.1 h;rw [Ah2 hk];unfold Ca;rw [List.any_append];simp
theorem E8 (l:List Id) (x:Id):Ca l x=true↔x∈l:=by
 unfold Ca;rw [List.any_eq_true];exact ⟨fun ⟨y,hy,he⟩=>by rw [← (Id.eq_iff y x).1 he];exact hy,fun h=>⟨x,h,(Id.eq_iff x x).2 rfl⟩⟩
theorem Td (l:List Id) (k:Nat) (x:Id) (h:Ca (l.take k) x=true):Ca l x=true:=
 (E8 _ _).2 (Ai8 ((E8 _ _).1 h))
theorem Et (x y:Id) (w:World):(Op.equalIn 10000 41 (.agg x.V) (.agg y.V)).run Tryz.prog w=.ok (Id.eq x y) w:=by
 have hS:Tryz.prog.underlying 41=some (.struct (Tryz.prog.fieldsOf 41)):=by kernel_rfl
 have hp:Tryz.prog.stoodInHeld 41=false:=by kernel_rfl
 rw [show (10000:Nat)=9999+1 from rfl,run_equalIn_agg w 9999 41 _ _ hS hp];simp only [Program.fieldsOf,Tryz.underlying41];have e3:((x.u:Int)==(y.u:Int))=(x.u==y.u):=by rw [Ag6];simp;omega
 unfold Id.eq;go_simp
 by_cases h1:x.b=y.b<;>by_cases h2:x.s=y.s<;>by_cases h3:x.u=y.u<;>simp [h1,h2,h3]
attribute [local go_sem ↓] Et
theorem Mz:Tryz.prog.eqGuardType Tryz.prog.depth 41=false:=by kernel_rfl
theorem Hk (B n c:Nat) (A:Option Addr) (l:List Id) (x:Id) (w:World) (hn:Hid (l.length=n)) (hr:Rd w B 3 A n (l.flatMap Id.cells)) (hnm:n≤1000000):
  Calls Tryz.prog 14 #[.slice A n c,.agg x.V] w (Ac (Ca l x) w):=by
 have hb0:=Blk.new w 41 x.V;go_enter Tryz.func14,Tryz.ntmps14;go_wp2
 go_loopw [5] (fun v wr=>∃k:Nat,v=.int .i64 (k:Int)∧k≤n∧Hid (Ca (l.take k) x=false)∧Fr Non (w.alloc (.cells x.V 41)) wr) (fun v _=>n-(intOf v).toNat)
 case atStart=>exact ⟨0,rfl,by omega,rfl,Fr.refl _ _⟩
 case round=>
  obtain ⟨k,rfl,hk,hh,hf⟩:=hrel
  by_cases hlt:k<n
  ·
   obtain ⟨y,hy⟩:∃y,l[k]? =some y:=⟨_,Ag1 (by rw [hn.out];exact hlt)⟩;obtain ⟨b,off,rfl,hbB,k0,k1,k2⟩:=Id.at ((hr.alloc _).fr hf zr) hy;have hsn:=Lib.hid (Tc l k x y hy);clear hy;have hb:=hb0.fr hf zq;have c0:=hb.cell 0;have c1:=hb.cell 1;have c2:=hb.cell 2;have i1:(0:Int)≤k:=by omega
   have i2:(k:Int)<n:=by omega
   have i3:(k:Int).toNat=k:=by omega
   have hm:=Mz
   by_cases he:Id.eq y x=true
   ·
    have hfin:Hid (Ca l x=true):=Td l (k+1) x (by rw [hsn.out,he];simp);go_wp2
    go_quiet (fail)
    go_wp2
    go_ret
    exact ⟨by rw [hfin.out];rfl,(((Fr.refl Non w).alloc _).trans hf zr).drewN _⟩
   ·
    have he:=Ah9 _▸he;have hfin:Hid (Ca (l.take (k+1)) x=false):=by show _=_;rw [hsn.out,he,hh.out];rfl
    go_wp2
    go_quiet (fail)
    go_wp2;go_roundw
    case rel=>exact ⟨k+1,by go_num,by omega,hfin,hf.drewN _⟩
    case measure=>simp [intOf];omega
  ·
   obtain rfl:k=n:=by omega
   have hfin:Hid (Ca l x=false):=by have h:=hh.out;rw [Ag2 (by rw [hn.out];omega)] at h;exact h
   go_wp2
   go_ret
   exact ⟨by rw [hfin.out];rfl,((Fr.refl Non w).alloc _).trans hf zr⟩
theorem Rd.partN {w:World} {B size n:Nat} {A:Option Addr} {xs:List Value} (h:Rd w B size A n xs) {lo hi:Nat} (h1:lo≤hi) (h2:hi≤n) (A':Option Addr)
  (hA:lo<hi→A'=A.map (·.add (lo*size))):Rd w B size A' (hi-lo) ((xs.drop (lo*size)).take ((hi-lo)*size)):=by
 have hl:=h.1;have e1:=Nat.mul_le_mul_right size h2;have e2:(hi-lo)*size+lo*size=hi*size:=by rw [← Ai0,Nat.sub_add_cancel h1]
 refine ⟨by simp;omega,?_⟩
 rcases Ag8 lo hi with hlt|hge
 ·
  rcases h.2 with h0|⟨b,off,e,hb,hc⟩
  · omega
  ·
   refine .inr ⟨b,off+lo*size,?_,hb,?_⟩
   ·
    rw [hA hlt,e];simp only [Option.map_some,Addr.add]
    split
    ·
     rename_i h0;rw [h0];rfl
    · rfl
   ·
    intro j u hu;rw [List.getElem?_take] at hu
    split at hu
    ·
     rw [List.getElem?_drop] at hu;rw [Nat.add_assoc];exact hc _ _ hu
    · cases hu
 · exact .inl (by omega)
theorem Te {α:Type} {f:α→List Value} {size:Nat} (hf:∀x,(f x).length=size) (l:List α) (m:Nat):(l.flatMap f).drop (m*size)=(l.drop m).flatMap f:=by
 induction l generalizing m with
 |nil=>simp
 |cons y l ih=>
  match m with
  |0=>simp
  |m+1=>
   rw [Ag9,List.drop_succ_cons,List.drop_append,hf,List.drop_of_length_le (by rw [hf,Ai0];omega),Ai1,show (m+1)*size-size=m*size by rw [Ai0];omega,ih]
theorem Id.cells_len (x:Id):x.cells.length=3:=rfl
theorem Id.cells_one (l:List Id):∀u∈l.flatMap Id.cells,u.oneCell'=true:=by
 intro u hu;obtain ⟨x,_,hx⟩:=List.mem_flatMap.1 hu;unfold Id.cells at hx;simp at hx
 rcases hx with rfl|rfl|rfl<;>rfl
theorem M3 (l:List Id) (a b:Nat):∀u∈((l.flatMap Id.cells).drop a).take b,u.oneCell'=true:=fun u hu=>Id.cells_one l u (List.mem_of_mem_drop (Ai8 hu))
theorem add_zero (A:Option Addr):A=A.map (·.add (0*3)):=by
 cases A with
 |none=>rfl
 |some a=>rw [Nat.zero_mul];rfl
theorem M4 (l:List Id) (x:Id):(ins l x).length=l.length+1:=by
 unfold ins;have h:(l.take (Be x l l.length)).length+(l.drop (Be x l l.length)).length=l.length:=by rw [← Af8,Ai2]
 rw [Af8,Af8,List.length_singleton];omega
theorem M5 (xs:List Id) (x:Id) {i K:Nat} (hl:xs.length=i) (hk:Be x xs i=K):
  (xs.take K).flatMap Id.cells++[.int .i64 x.b,.int .i64 x.s,.int .u64 (x.u:Int)]++((xs.flatMap Id.cells).drop (K*3)).take ((i-K)*3)=(ins xs x).flatMap Id.cells:=by
 rw [Te Id.cells_len,I7 Id.cells_len,Ag2 (l:=xs.drop K) (by rw [Ai9,hl];exact Af9 _)];unfold ins;rw [hl,hk,Ah3,Ah3,Ag9,Ai4,Ah4];rfl
theorem Tf (l:List Id) (k:Nat) (x:Id) (h:l[k]? =some x):Ak (l.take (k+1))=ins (Ak (l.take k)) x:=by
 obtain ⟨hk,rfl⟩:=List.getElem?_eq_some_iff.1 h;rw [Ah2 hk];unfold Ak;rw [List.foldl_append];rfl
theorem Tg (x y:Id) (l:List Id) (k:Nat) (h:l[k]? =some y):Be x l (k+1)=if Id.less x y then Be x l k else k+1:=by
 show (match l[k]? with|some y=>if Id.less x y then Be x l k else k+1|none=>k+1)=_;rw [h]
def Th (l:List Id) (n:Nat) (w:World) (r:Ending) (w':World):Prop:=
 ∃A c,r=.returned (.slice A n c)∧Own w' w.heap.size 41 3 A n c ((Ak l).flatMap Id.cells)∧Fr Non w w'
theorem Ti (B n c:Nat) (A:Option Addr) (l:List Id) (w:World) (hn:Hid (l.length=n)) (hr:Rd w B 3 A n (l.flatMap Id.cells)) (hnm:n≤1000000):
  Calls Tryz.prog 46 #[.slice A n c] w (Th l n w):=by
 go_enter Tryz.func46,Tryz.ntmps46;go_wp2
 go_loopw [3,4] (fun s v wr=>∃(i:Nat) (Ax:Option Addr) (cx:Nat) (xs:List Id),v=.int .i64 (i:Int)∧s=.slice Ax i cx∧i≤n∧Hid (xs=Ak (l.take i))∧Hid (xs.length=i)∧
  Own wr w.heap.size 41 3 Ax i cx (xs.flatMap Id.cells)∧Fr Non w wr) (fun _ v _=>n-(intOf v).toNat)
 case atStart=>exact ⟨0,none,0,[],rfl,rfl,by omega,rfl,rfl,Own.nil _ _ _ _,Fr.refl _ _⟩
 case round=>
  obtain ⟨i,Ax,cx,xs,rfl,rfl,hi,a8,a0,ae,hf⟩:=hrel
  by_cases hlt:i<n
  ·
   obtain ⟨x,hx⟩:∃x,l[i]? =some x:=⟨_,Ag1 (by rw [hn.out];exact hlt)⟩;obtain ⟨b,ag,rfl,bl,k0,k1,k2⟩:=Id.at (hr.fr hf zr) hx;have bc:=Lib.hid (Tf l i x hx);clear hx;have bh:=ae.cap;obtain ⟨wo,be⟩:∃wo:World,wo=wr:=⟨_,rfl⟩;subst be;go_wp2
   go_loopw [5] (fun v wi=>∃k:Nat,v=.int .i64 (k:Int)∧k≤i∧Hid (Be x xs i=Be x xs k)∧Fr Non wo wi) (fun v _=>(intOf v).toNat)
   case atStart=>exact ⟨i,rfl,by omega,rfl,Fr.refl _ _⟩
   case round=>
    obtain ⟨k,rfl,hk,au,ah⟩:=hrel
    rcases Nat.eq_zero_or_pos k with h0|h0
    ·
     subst h0;have a1:=Lib.hid au.out;have bg:=ah.size;have bf:=hf.size;have af:=ae.fr ah zr;have ay:=Own.nil wr w.heap.size 41 3;have aj:=af.rd.takeN (m:=0) (by omega);rw [I7 Id.cells_len] at aj;have bi:=af.row;have G0:=ah.cell k0 zq;have G1:=ah.cell k1 zq;have G2:=ah.cell k2 zq;go_upto_region 10 with (fail)
     have nA:∀k,Ab Ax=some k→k<wo.heap.size:=fun k hk=>(ae.row k hk).2
     go_wp2_with (first
      |(at_builtin;go_loud (refine Au (base:=w.heap.size) (.tmp 30) (.tmp 33) 25 rfl rfl rfl rfl Ct ay aj (Id.cells_one _) (by omega) (by omega) (by omega) ?_);intro A1 c1 w2 ap a2 ak;have aa:Fr Non _ w2:=a2.mono (fun k _ hk=>by cases hk);have bd:=aa.size;have H0:=aa.cell G0 zq;have H1:=aa.cell G1 zq;have H2:=aa.cell G2 zq;have av:∀k,Ab A1=some k→wo.heap.size≤k:=fun k hk=>(by rcases ak with e|e;(rw [e] at hk;cases hk);(rw [e] at hk;injection hk with hk;omega));clear ak;rw [Nat.zero_add,Ai1] at ap)
      |(at_builtin;go_loud (refine Au (base:=w.heap.size) (.tmp 35) (.tmp 40) 25 rfl rfl rfl rfl Ct (ap.alloc (.cells x.V 41)) (Rd.blk (n:=1) (size:=3) (Blk.new w2 41 x.V) rfl) (by simp [Value.oneCell']) (by omega) (by omega) (by rw [Ag3];omega) ?_);intro A2 c2 w3 aw ar al;have a9:=ar.size;rw [Ag3] at a9;have a6:∀k,Ab A2=some k→wo.heap.size≤k:=fun k hk=>(by rcases al with e|e;(rw [e] at hk;exact av k hk);(rw [e,Ag3] at hk;injection hk with hk;omega));clear al;have ai:=((af.fr aa zr).alloc (.cells x.V 41)).fr ar (fun k hk e=>by have e1:=av k e;have e2:=nA k hk;omega))
      |(at_builtin;go_loud (refine Au (base:=w.heap.size) (.tmp 42) (.tmp 45) 25 rfl rfl rfl rfl Ct aw (Rd.partN ai.rd (lo:=0) (hi:=i) (by omega) (Af9 _) _ (fun hlt=>add_zero Ax)) (M3 _ _ _) (by omega) (by omega) (by omega) ?_);intro A3 c3 w4 ax ba a7))
     have ao:Hid (ins xs x=Ak (l.take (i+1))):=by show _=_;rw [bc.out,← a8.out]
     have ac:(xs.take (0)).flatMap Id.cells++[.int .i64 x.b,.int .i64 x.s,.int .u64 (x.u:Int)]++((xs.flatMap Id.cells).drop ((0)*3)).take ((i-(0))*3)=(ins xs x).flatMap Id.cells:=by
      exact M5 xs x a0.out (a1.out)
     have a4:Fr Non w w4:=(((hf.trans ah zr).trans aa zr).alloc (.cells x.V 41)).trans ar (fun k hk e=>by have:=av k e;omega)|>.trans ba (fun k hk e=>by have:=a6 k e;omega);go_roundw
     case rel=>exact ⟨i+1,A3,c3,ins xs x,by go_num,by first|rfl|(congr 1;omega),by omega,ao,by show _=_;rw [M4,a0.out],by rw [← ac,show i+1=0+1+(i-(0)) by omega];exact ax,a4⟩
     case measure=>simp [intOf];omega
    ·
     obtain ⟨j,rfl⟩:∃j,k=j+1:=⟨k-1,by omega⟩;obtain ⟨y,hy⟩:∃y,xs[j]? =some y:=⟨_,Ag1 (by rw [a0.out];omega)⟩;obtain ⟨b2,ab,bj,bk,m0,m1,m2⟩:=Id.at (ae.rd.fr ah zr) hy;subst bj;have bb:=Lib.hid (Tg x y xs j hy);clear hy;have K0:=ah.cell k0 zq;have K1:=ah.cell k1 zq;have K2:=ah.cell k2 zq
     by_cases hL:Id.less x y=true
     ·
      have a5:Hid (Be x xs i=Be x xs j):=by show _=_;rw [au.out,bb.out,if_pos hL]
      go_upto_region 7 with (fail)
      have e1:IntKind.i64.wrap (((j+1:Nat):Int)-1)=(j:Int):=by rw [show ((j+1:Nat):Int)-1=j by omega];exact IntWalk.i64_in _ (by omega)
      have a3:IntKind.i64.wrap ((j:Int)+1-1)=(j:Int):=by rw [show (j:Int)+1-1=j by omega];exact IntWalk.i64_in _ (by omega)
      have az:IntKind.i64.wrap (j:Int)=(j:Int):=IntWalk.i64_in _ (by omega);have e2:(0:Int)≤j:=by omega
      have e3:(j:Int)<i:=by omega
      have e4:(j:Int).toNat=j:=by omega
      have f2:(0:Int)≤i:=by omega
      have f3:(i:Int)<n:=by omega
      have f4:(i:Int).toNat=i:=by omega
      have D0:wr.drew.cell? ⟨b,ag+i*3,none⟩=some (.int .i64 x.b):=K0;have D1:wr.drew.cell? ⟨b,ag+i*3+1,none⟩=some (.int .i64 x.s):=K1;have D2:wr.drew.cell? ⟨b,ag+i*3+2,none⟩=some (.int .u64 (x.u:Int)):=K2;have M0:wr.drew.cell? ⟨b2,ab+j*3,none⟩=some (.int .i64 y.b):=m0;have M1:wr.drew.cell? ⟨b2,ab+j*3+1,none⟩=some (.int .i64 y.s):=m1;have M2:wr.drew.cell? ⟨b2,ab+j*3+2,none⟩=some (.int .u64 (y.u:Int)):=m2
      go_region_held3 (fun w'=>w'.cell? ⟨b,ag+i*3,none⟩=some (.int .i64 x.b)∧w'.cell? ⟨b,ag+i*3+1,none⟩=some (.int .i64 x.s)∧w'.cell? ⟨b,ag+i*3+2,none⟩=some (.int .u64 (x.u:Int))∧w'.cell? ⟨b2,ab+j*3,none⟩=some (.int .i64 y.b)∧w'.cell? ⟨b2,ab+j*3+1,none⟩=some (.int .i64 y.s)∧w'.cell? ⟨b2,ab+j*3+2,none⟩=some (.int .u64 (y.u:Int))) ((and_intros<;>assumption)) (first
       |(go_at_call 73;(with_reducible refine (Mf x y _).mono ?_);rintro _ w1 ⟨rfl,ad⟩;have D0:=ad.cell D0 zq;have D1:=ad.cell D1 zq;have D2:=ad.cell D2 zq;have M0:=ad.cell M0 zq;have M1:=ad.cell M1 zq;have M2:=ad.cell M2 zq))
      clear e1 a3 az e2 e3 e4 f2 f3 f4;have aq:=(ah.drew).trans ad zr;go_wp2;go_roundw
      case rel=>exact ⟨j,by go_num,by omega,a5,aq⟩
      case measure=>first|(simp [intOf];done)|(simp [intOf];omega)
     ·
      have a1:Hid (Be x xs i=j+1):=by show _=_;rw [au.out,bb.out,if_neg hL]
      have hL:=Ah9 _▸hL;go_upto_region 7 with (fail)
      have e1:IntKind.i64.wrap (((j+1:Nat):Int)-1)=(j:Int):=by rw [show ((j+1:Nat):Int)-1=j by omega];exact IntWalk.i64_in _ (by omega)
      have a3:IntKind.i64.wrap ((j:Int)+1-1)=(j:Int):=by rw [show (j:Int)+1-1=j by omega];exact IntWalk.i64_in _ (by omega)
      have az:IntKind.i64.wrap (j:Int)=(j:Int):=IntWalk.i64_in _ (by omega);have e2:(0:Int)≤j:=by omega
      have e3:(j:Int)<i:=by omega
      have e4:(j:Int).toNat=j:=by omega
      have f2:(0:Int)≤i:=by omega
      have f3:(i:Int)<n:=by omega
      have f4:(i:Int).toNat=i:=by omega
      have D0:wr.drew.cell? ⟨b,ag+i*3,none⟩=some (.int .i64 x.b):=K0;have D1:wr.drew.cell? ⟨b,ag+i*3+1,none⟩=some (.int .i64 x.s):=K1;have D2:wr.drew.cell? ⟨b,ag+i*3+2,none⟩=some (.int .u64 (x.u:Int)):=K2;have M0:wr.drew.cell? ⟨b2,ab+j*3,none⟩=some (.int .i64 y.b):=m0;have M1:wr.drew.cell? ⟨b2,ab+j*3+1,none⟩=some (.int .i64 y.s):=m1;have M2:wr.drew.cell? ⟨b2,ab+j*3+2,none⟩=some (.int .u64 (y.u:Int)):=m2
      go_region_held3 (fun w'=>w'.cell? ⟨b,ag+i*3,none⟩=some (.int .i64 x.b)∧w'.cell? ⟨b,ag+i*3+1,none⟩=some (.int .i64 x.s)∧w'.cell? ⟨b,ag+i*3+2,none⟩=some (.int .u64 (x.u:Int))∧w'.cell? ⟨b2,ab+j*3,none⟩=some (.int .i64 y.b)∧w'.cell? ⟨b2,ab+j*3+1,none⟩=some (.int .i64 y.s)∧w'.cell? ⟨b2,ab+j*3+2,none⟩=some (.int .u64 (y.u:Int))) ((and_intros<;>assumption)) (first
       |(go_at_call 73;(with_reducible refine (Mf x y _).mono ?_);rintro _ w1 ⟨rfl,ad⟩;have D0:=ad.cell D0 zq;have D1:=ad.cell D1 zq;have D2:=ad.cell D2 zq;have M0:=ad.cell M0 zq;have M1:=ad.cell M1 zq;have M2:=ad.cell M2 zq))
      clear e1 a3 az e2 e3 e4 f2 f3 f4;have aq:=(ah.drew).trans ad zr;have bg:=aq.size;have bf:=hf.size;have af:=ae.fr aq zr;have ay:=Own.nil w1 w.heap.size 41 3;have aj:=af.rd.takeN (m:=j+1) (by omega);rw [I7 Id.cells_len] at aj;have bi:=af.row;have G0:=aq.cell k0 zq;have G1:=aq.cell k1 zq;have G2:=aq.cell k2 zq;go_upto_region 10 with (fail)
      have nA:∀k,Ab (some (⟨b2,ab,none⟩:Addr))=some k→k<wo.heap.size:=fun k hk=>(ae.row k hk).2
      go_wp2_with (first
       |(at_builtin;go_loud (refine Au (base:=w.heap.size) (.tmp 30) (.tmp 33) 25 rfl rfl rfl rfl Ct ay aj (Id.cells_one _) (by omega) (by omega) (by omega) ?_);intro A1 c1 w2 ap a2 ak;have aa:Fr Non _ w2:=a2.mono (fun k _ hk=>by cases hk);have bd:=aa.size;have H0:=aa.cell G0 zq;have H1:=aa.cell G1 zq;have H2:=aa.cell G2 zq;have av:∀k,Ab A1=some k→wo.heap.size≤k:=fun k hk=>(by rcases ak with e|e;(rw [e] at hk;cases hk);(rw [e] at hk;injection hk with hk;omega));clear ak;rw [Nat.zero_add,Ai1] at ap)
       |(at_builtin;go_loud (refine Au (base:=w.heap.size) (.tmp 35) (.tmp 40) 25 rfl rfl rfl rfl Ct (ap.alloc (.cells x.V 41)) (Rd.blk (n:=1) (size:=3) (Blk.new w2 41 x.V) rfl) (by simp [Value.oneCell']) (by omega) (by omega) (by rw [Ag3];omega) ?_);intro A2 c2 w3 aw ar al;have a9:=ar.size;rw [Ag3] at a9;have a6:∀k,Ab A2=some k→wo.heap.size≤k:=fun k hk=>(by rcases al with e|e;(rw [e] at hk;exact av k hk);(rw [e,Ag3] at hk;injection hk with hk;omega));clear al;have ai:=((af.fr aa zr).alloc (.cells x.V 41)).fr ar (fun k hk e=>by have e1:=av k e;have e2:=nA k hk;omega))
       |(at_builtin;go_loud (refine Au (base:=w.heap.size) (.tmp 42) (.tmp 45) 25 rfl rfl rfl rfl Ct aw (Rd.partN ai.rd (lo:=j+1) (hi:=i) (by omega) (Af9 _) _ (fun hlt=>if_neg (by omega))) (M3 _ _ _) (by omega) (by omega) (by omega) ?_);intro A3 c3 w4 ax ba a7))
      have ao:Hid (ins xs x=Ak (l.take (i+1))):=by show _=_;rw [bc.out,← a8.out]
      have ac:(xs.take (j+1)).flatMap Id.cells++[.int .i64 x.b,.int .i64 x.s,.int .u64 (x.u:Int)]++((xs.flatMap Id.cells).drop ((j+1)*3)).take ((i-(j+1))*3)=(ins xs x).flatMap Id.cells:=by
       exact M5 xs x a0.out (a1.out)
      have a4:Fr Non w w4:=(((hf.trans aq zr).trans aa zr).alloc (.cells x.V 41)).trans ar (fun k hk e=>by have:=av k e;omega)|>.trans ba (fun k hk e=>by have:=a6 k e;omega);go_roundw
      case rel=>exact ⟨i+1,A3,c3,ins xs x,by go_num,by first|rfl|(congr 1;omega),by omega,ao,by show _=_;rw [M4,a0.out],by rw [← ac,show i+1=j+1+1+(i-(j+1)) by omega];exact ax,a4⟩
      case measure=>simp [intOf];omega
  ·
   obtain rfl:i=n:=by omega
   have ao:Hid (xs=Ak l):=by have h:=a8.out;rw [Ag2 (by rw [hn.out];omega)] at h;exact h
   go_wp2
   go_ret
   exact ⟨Ax,cx,rfl,by rw [← ao.out];exact ae,hf⟩
end Oq
end
namespace Oq
theorem Id.less_iff (a b:Id):Id.less a b=true↔a.b<b.b∨(a.b=b.b∧(a.s<b.s∨(a.s=b.s∧a.u<b.u))):=by
 unfold Id.less
 by_cases h1:a.b=b.b
 ·
  by_cases h2:a.s=b.s
  · rw [if_pos h1,if_pos h2];simp;omega
  · rw [if_pos h1,if_neg h2];simp;omega
 · rw [if_neg h1];simp;omega
theorem Id.less_irr (a:Id):Id.less a a=false:=by
 cases h:Id.less a a
 · rfl
 · rw [Id.less_iff] at h;omega
theorem Id.less_tr {a b c:Id} (h:Id.less a b=true) (k:Id.less b c=true):Id.less a c=true:=by
 rw [Id.less_iff] at*;omega
theorem Id.less_as {a b:Id} (h:Id.less a b=true):Id.less b a=false:=by
 cases k:Id.less b a
 · rfl
 · rw [Id.less_iff] at*;omega
theorem Id.less_tot (a b:Id):Id.less a b=true∨a=b∨Id.less b a=true:=by
 rw [Id.less_iff,Id.less_iff]
 by_cases h1:a.b=b.b
 ·
  by_cases h2:a.s=b.s
  ·
   by_cases h3:a.u=b.u
   ·
    refine .inr (.inl ?_)
    cases a;cases b;simp_all
   · omega
  · omega
 · omega
theorem Id.less_f {a b:Id} (h:Id.less a b=false):b=a∨Id.less b a=true:=by
 rcases Id.less_tot a b with k|k|k
 · rw [h] at k;cases k
 · exact .inl k.symm
 · exact .inr k
def Row (l:List Id):Prop:=l.Pairwise (fun a b=>Id.less a b=true)
def RowW (l:List Id):Prop:=l.Pairwise (fun a b=>Id.less b a=false)
theorem Row.nodup {l:List Id} (h:Row l):l.Nodup:=h.imp (fun {a b} k e=>by rw [e,Id.less_irr] at k;cases k)
theorem RowW.row {l:List Id} (h:RowW l) (hn:l.Nodup):Row l:=by
 unfold Row RowW at*
 exact (List.Pairwise.and h hn).imp (fun {a b} k=>by
  rcases Id.less_f k.1 with e|e
  · exact absurd e k.2
  · exact e)
theorem M6 (x:Id) (l:List Id):∀k,Be x l k≤k
 |0=>Af9 _
 |k+1=>by
  show (match l[k]? with|some y=>if Id.less x y then Be x l k else k+1|none=>k+1)≤_
  split
  ·
   split
   · exact Nat.le_trans (M6 x l k) (Nat.le_succ k)
   · exact Af9 _
  · exact Af9 _
theorem M7 (x:Id) (l:List Id):∀k,k≤l.length→∀j y,Be x l k≤j→j<k→l[j]? =some y→Id.less x y=true
 |0,_,j,y,_,h,_=>by omega
 |k+1,hk,j,y,h1,h2,h3=>by
  have he:l[k]? =some l[k]:=Ag1 (by omega)
  have hu:Be x l (k+1)=if Id.less x l[k] then Be x l k else k+1:=by
   show (match l[k]? with|some y=>if Id.less x y then Be x l k else k+1|none=>k+1)=_;rw [he]
  rw [hu] at h1
  by_cases hl:Id.less x l[k]=true
  ·
   rw [if_pos hl] at h1
   rcases Ag8 j k with hj|hj
   · exact M7 x l k (by omega) j y h1 hj h3
   ·
    obtain rfl:j=k:=by omega
    rw [he] at h3;injection h3 with h3
    rw [← h3];exact hl
  ·
   rw [if_neg hl] at h1;omega
theorem M8 (x:Id) (l:List Id):∀k,k≤l.length→∀y,0<Be x l k→l[Be x l k-1]? =some y→Id.less x y=false
 |0,_,y,h,_=>by exact absurd h (Nat.lt_irrefl 0)
 |k+1,hk,y,h1,h2=>by
  have he:l[k]? =some l[k]:=Ag1 (by omega)
  have hu:Be x l (k+1)=if Id.less x l[k] then Be x l k else k+1:=by
   show (match l[k]? with|some y=>if Id.less x y then Be x l k else k+1|none=>k+1)=_;rw [he]
  rw [hu] at h1 h2
  by_cases hl:Id.less x l[k]=true
  ·
   rw [if_pos hl] at h1 h2;exact M8 x l k (by omega) y h1 h2
  ·
   rw [if_neg hl] at h2;rw [Nat.add_sub_cancel,he] at h2;injection h2 with h2
   rw [← h2];exact Ah9 _▸hl
theorem Tj (l:List Id) (x:Id):(ins l x).Perm (x::l):=by
 unfold ins;have h:l=l.take (Be x l l.length)++l.drop (Be x l l.length):=(Ai2 _ _).symm;generalize Be x l l.length=k at*;rw [Ag0];refine List.Perm.trans List.perm_middle ?_;conv=>rhs;rw [h]
 exact List.Perm.refl _
theorem Tk {l:List Id} (x:Id) (h:RowW l):RowW (ins l x):=by
 have hle:=M6 x l l.length;have hge:=M7 x l l.length (Af9 _);have hlt:=M8 x l l.length (Af9 _);unfold ins RowW at*;generalize Be x l l.length=k at*;have hh:l.Pairwise (fun a b=>Id.less b a=false):=h;rw [← Ai2 k l,Aj0] at h;obtain ⟨h1,h2,h3⟩:=h
 have hb:∀a∈l.take k,Id.less x a=false:=by
  intro a ha;obtain ⟨j,hj,hja⟩:=List.mem_iff_getElem.1 ha;rw [List.length_take] at hj;rw [List.getElem_take] at hja;have hy:l[k-1]? =some l[k-1]:=Ag1 (by omega);have hx:=hlt _ (by omega) hy
  rcases Ag8 j (k-1) with hjk|hjk
  ·
   have hp:=List.pairwise_iff_getElem.1 hh j (k-1) (by omega) (by omega) hjk;rw [hja] at hp
   cases hxa:Id.less x a
   · rfl
   ·
    rcases Id.less_f hx with e|e
    · rw [e,hxa] at hp;cases hp
    · rw [Id.less_tr e hxa] at hp;cases hp
  ·
   obtain rfl:j=k-1:=by omega
   rw [← hja];exact hx
 have ha:∀a∈l.drop k,Id.less x a=true:=by
  intro a ha;obtain ⟨j,hj,hja⟩:=List.mem_iff_getElem.1 ha;rw [Ai9] at hj;rw [List.getElem_drop] at hja;exact hge (k+j) a (by omega) (by omega) (by rw [← hja];exact Ag1 _)
 rw [Ag0,Aj0];refine ⟨h1,?_,?_⟩
 ·
  rw [List.singleton_append,List.pairwise_cons];exact ⟨fun a h=>Id.less_as (ha a h),h2⟩
 ·
  intro a h b hb'
  rcases List.mem_append.1 hb' with hb'|hb'
  · rw [List.mem_singleton.1 hb'];exact hb a h
  · exact h3 a h b hb'
theorem Jl:∀(l acc:List Id),RowW acc→RowW (l.foldl ins acc)∧(l.foldl ins acc).Perm (acc++l)
 |[],acc,h=>⟨h,by rw [Ah4];exact List.Perm.refl _⟩
 |x::l,acc,h=>by
  obtain ⟨h1,h2⟩:=Jl l (ins acc x) (Tk x h);refine ⟨h1,h2.trans ?_⟩;exact ((Tj acc x).append_right l).trans List.perm_middle.symm
theorem Jm (l:List Id):RowW (Ak l):=(Jl l [] List.Pairwise.nil).1
theorem Cg (l:List Id):(Ak l).Perm l:=(Jl l [] List.Pairwise.nil).2
theorem M9 {l:List Id} (h:l.Nodup):Row (Ak l):=(Jm l).row ((Cg l).nodup_iff.2 h)
theorem RowW.unique:∀{l m:List Id},RowW l→RowW m→l.Perm m→l=m
 |[],m,_,_,h=>by rw [List.Perm.nil_eq h]
 |x::l,[],_,_,h=>by exact absurd h.length_eq (by simp)
 |x::l,y::m,h1,h2,hp=>by
  have h1':=List.pairwise_cons.1 h1;have h2':=List.pairwise_cons.1 h2
  have hxy:x=y:=by
   have hx:x∈y::m:=hp.subset (Ai3 ..);have hy:y∈x::l:=hp.symm.subset (Ai3 ..)
   rcases List.mem_cons.1 hx with e|e
   · exact e
   ·
    rcases List.mem_cons.1 hy with e'|e'
    · exact e'.symm
    ·
     have a:=h2'.1 x e;have b:=h1'.1 y e'
     rcases Id.less_f a with c|c
     · exact c.symm
     · rw [c] at b;cases b
  subst hxy;rw [RowW.unique h1'.2 h2'.2 (List.perm_cons x|>.1 hp)]
theorem Na {l m:List Id} (h:RowW l) (hp:l.Perm m):l=Ak m:=h.unique (Jm m) (hp.trans (Cg m).symm)
def FP:Nat:=2305843009213693951
def inR (n lo hi:Int):Bool:=decide (lo≤n)&&decide (n≤hi)
def Bs (n:Nat):Bool:=decide (1≤n)&&decide (n<FP)
def fOk (n:Nat):Bool:=decide (n<FP)
def Id.named (x:Id):Bool:=inR x.b 1 12&&inR x.s 1 2147483647&&fOk x.u
def Id.zero:Id:=⟨0,0,0⟩
def Bx.may (x:Bx):Bool:=Bs x.t&&Bs x.e&&fOk x.y&&fOk x.g
def Eu (k:Int):Bool:=k==7||k==8||k==12||k==10||k==11||k==13
def Op.bareB (o:Op):Bool:=
 (o.dev==0||o.kind==2||o.kind==3||o.kind==11||o.kind==13)&&(o.old==0||o.kind==13)&&(o.mem==0||o.kind==3||o.kind==5)&&(o.role==0||o.kind==2||o.kind==5)&&
 (o.path.isEmpty||Eo o.kind)&&(Id.eq o.epoch Id.zero||o.kind==6)&&(o.n==0||o.kind==6)&&(o.refs.isEmpty||o.kind==6)&&(o.body.isEmpty||o.kind==6||o.kind==7)&&(Id.eq o.of Id.zero||Eu o.kind)&&
 (o.guards.isEmpty||o.kind==9)&&(o.wait==0||o.kind==9)&&(o.pub==0||o.kind==9)&&(o.need==0||o.kind==9||o.kind==1)&&(o.boxes.isEmpty||o.kind==9||o.kind==10||o.kind==11)&&
 (o.hist.isEmpty||o.kind==2||o.kind==13)
def Op.numsB (o : Op) : Bool :=
  inR o.by_ 1 12 && inR o.sq 1 2147483647 && inR o.at_ 0 2147483647 &&
  (if o.kind = 1 then inR o.need 0 20
   else if o.kind = 2 then inR o.dev 1 12 && inR o.role 1 3
   else if o.kind = 3 then (inR o.dev 1 12 && o.mem == 0) || (o.dev == 0 && inR o.mem 1 8)
   else if o.kind = 4 then true
   else if o.kind = 5 then inR o.mem 1 8 && inR o.role 1 3
   else if o.kind = 6 then o.epoch.named && inR o.n 0 2147483647
   else if o.kind = 9 then inR o.need 1 o.guards.length && inR o.wait 0 2147483647 && Bs o.pub
   else if o.kind = 11 then o.of.named && inR o.dev 1 12
   else if o.kind = 13 then o.of.named && inR o.dev 1 12 && inR o.old 1 12
   else o.of.named)
def Op.itemsB (o:Op):Bool:=
 o.guards.all (fun n=>inR n 1 12)&&o.refs.all fOk&&o.past.all Id.named&&o.path.all (fun x=>Bs x.p&&x.xs.all Bx.may)&&o.boxes.all Bx.may&&o.hist.all (fun x=>x.f.named)
def Op.longB (o : Op) : Bool :=
  o.path.any (fun x => decide (12 < x.xs.length)) || o.hist.any (fun x => decide (208 < x.y.length)) || decide (12 < o.past.length) || decide (5 < o.path.length) || decide (208 < o.body.length) || decide (8 < o.refs.length) || decide (20 < o.hist.length) || decide (6 < o.guards.length) ||
  (if o.kind = 7 then !(decide (1 ≤ o.body.length) && decide (o.body.length ≤ 20))
   else if o.kind = 9 then decide (o.boxes.length ≠ o.guards.length)
   else if o.kind = 10 then !(decide (1 ≤ o.boxes.length) && decide (o.boxes.length ≤ 6))
   else if o.kind = 11 then decide (o.boxes.length ≠ 1) else false)
def Ba {α:Type} (r:α→α→Bool):List α→Bool
 |[]=>true
 |[_]=>true
 |x::y::l=>r x y&&Ba r (y::l)
def Op.rowB (o:Op):Bool:=Ba Id.less o.past&&Ba (fun a b=>decide (a<b)) o.guards
def Op.chk (o:Op):Int:=
 if o.kind<1∨13<o.kind then 1 else if o.bareB=false then 1 else if o.numsB=false then 8 else if o.itemsB=false then 8 else if o.longB=true then 2 else if o.rowB=false then 6 else if decide (o.past=[])≠decide (o.kind=1) then 10 else 0
theorem chk_ok {o:Op}:o.chk=0↔(1≤o.kind∧o.kind≤13)∧o.bareB=true∧o.numsB=true∧o.itemsB=true∧o.longB=false∧o.rowB=true∧(o.past=[]↔o.kind=1):=by
 unfold Op.chk
 by_cases h1:o.kind<1∨13<o.kind
 · rw [if_pos h1];exact ⟨fun h=>absurd h (by decide),fun h=>absurd h.1 (by omega)⟩
 rw [if_neg h1]
 cases h2:o.bareB
 · simp
 cases h3:o.numsB
 · simp
 cases h4:o.itemsB
 · simp
 cases h5:o.longB
 ·
  cases h6:o.rowB
  · simp
  · by_cases h7:o.past=[]<;>by_cases h8:o.kind=1<;>simp [h7,h8]<;>omega
 · simp
theorem Jn {l:List Id} (h:Row l):Ba Id.less l=true:=by
 induction l with
 |nil=>rfl
 |cons x l ih=>
  cases l with
  |nil=>rfl
  |cons y l=>
   have h':=List.pairwise_cons.1 h;show (Id.less x y&&Ba Id.less (y::l))=true;rw [h'.1 y (Ai3 ..),ih h'.2];rfl
def base (b s k a:Int) (past:List Id) (path:List Nd):Op:={Op.zero with by_:=b,sq:=s,kind:=k,at_:=a,past:=past,path:=path}
structure Pre (b s k a:Int) (past:List Id) (path:List Nd):Prop where
 kind:1≤k∧k≤13
 by_:1≤b∧b≤12
 sq:1≤s∧s≤2147483647
 at_:0≤a∧a≤2147483647
 past:past.length≤12∧(∀x∈past,x.named=true)∧Row past∧(past=[]↔k=1)
 path:path.length≤5∧(∀x∈path,(1≤x.p∧x.p<FP)∧x.xs.length≤12∧∀b∈x.xs,b.may=true)∧(path=[]∨Eo k=true)
section
variable {b s k a : Int} {past : List Id} {path : List Nd}
theorem Pre.path_any (h:Pre b s k a past path):path.any (fun x=>decide (12<x.xs.length))=false:=by
 rw [List.any_eq_false];intro x hx;have:=(h.path.2.1 x hx).2.1;simp;omega
theorem Pre.path_all (h:Pre b s k a past path):path.all (fun x=>Bs x.p&&x.xs.all Bx.may)=true:=by
 rw [Aj1];intro x hx;have h1:=(h.path.2.1 x hx).1;have h2:=(h.path.2.1 x hx).2.2;rw [Bool.and_eq_true,Aj1];exact ⟨by unfold Bs;simp;omega,h2⟩
theorem Pre.past_all (h:Pre b s k a past path):past.all Id.named=true:=List.all_eq_true.2 h.past.2.1
theorem Pre.no_path (h:Pre b s k a past path) (hk:Eo k=false):path=[]:=by
 rcases h.path.2.2 with e|e
 · exact e
 · rw [hk] at e;cases e
end
theorem Dh {n lo hi:Int} (h:lo≤n∧n≤hi):inR n lo hi=true:=by unfold inR;simp;exact h
theorem Tl {x:Id} (h1:1≤x.b∧x.b≤12) (h2:1≤x.s∧x.s≤2147483647) (h3:x.u<FP):x.named=true:=by
 unfold Id.named fOk;rw [Dh h1,Dh h2];simp [h3]
theorem Nb {n:Nat} (h:1≤n∧n<FP):Bs n=true:=by unfold Bs;simp;exact h
theorem Tm {b s a:Int} {past:List Id} {path:List Nd} (h:Pre b s 1 a past path) {v:Int} (hv:inR v 0 20=true):({base b s 1 a past path with need:=v}:Op).chk=0:=by
 have p1:=h.past_all;have p5:=h.past.1;have p6:=h.path.1;have b1:=Dh h.by_;have b2:=Dh h.sq;have b3:=Dh h.at_;have p7:=Jn h.past.2.2.1;have p8:=h.past.2.2.2;have p2:=h.path_all;have p3:=h.path_any;rw [chk_ok];refine ⟨h.kind,?_,?_,?_,?_,?_,p8⟩
 · simp [Op.bareB,base,Op.zero,Id.eq,Id.zero,Eo]
 · simp [Op.numsB,base,Op.zero,b1,b2,b3,hv]
 · unfold Op.itemsB;simp only [base,Op.zero];rw [p1,p2];simp
 · unfold Op.longB;simp only [base,Op.zero];rw [p3];simp;and_intros<;>first|exact decide_eq_false (by omega)|exact decide_eq_true (by omega)|omega
 · simp [Op.rowB,base,Op.zero,p7,Ba]
theorem Tn {b s a:Int} {past:List Id} {path:List Nd} (h:Pre b s 4 a past path)   :({base b s 4 a past path with need:=0}:Op).chk=0:=by
 have p1:=h.past_all;have p5:=h.past.1;have p6:=h.path.1;have b1:=Dh h.by_;have b2:=Dh h.sq;have b3:=Dh h.at_;have p7:=Jn h.past.2.2.1;have p8:=h.past.2.2.2;have p2:=h.path_all;have p3:=h.path_any;rw [chk_ok];refine ⟨h.kind,?_,?_,?_,?_,?_,p8⟩
 · simp [Op.bareB,base,Op.zero,Id.eq,Id.zero,Eo]
 · simp [Op.numsB,base,Op.zero,b1,b2,b3]
 · unfold Op.itemsB;simp only [base,Op.zero];rw [p1,p2];simp
 · unfold Op.longB;simp only [base,Op.zero];rw [p3];simp;and_intros<;>first|exact decide_eq_false (by omega)|exact decide_eq_true (by omega)|omega
 · simp [Op.rowB,base,Op.zero,p7,Ba]
theorem To {b s a:Int} {past:List Id} {path:List Nd} (h:Pre b s 7 a past path) {e:Id} {y:List UInt8} (he:e.named=true) (hy:1≤y.length∧y.length≤20):({base b s 7 a past path with of:=e,body:=y}:Op).chk=0:=by
 have p1:=h.past_all;have p5:=h.past.1;have p6:=h.path.1;have b1:=Dh h.by_;have b2:=Dh h.sq;have b3:=Dh h.at_;have p7:=Jn h.past.2.2.1;have p8:=h.past.2.2.2;obtain rfl:=h.no_path (by decide);rw [chk_ok];refine ⟨h.kind,?_,?_,?_,?_,?_,p8⟩
 · simp [Op.bareB,base,Op.zero,Id.eq,Id.zero,Eu]
 · simp [Op.numsB,base,Op.zero,b1,b2,b3,he]
 · unfold Op.itemsB;simp only [base,Op.zero];rw [p1];simp
 · unfold Op.longB;simp only [base,Op.zero];simp;and_intros<;>first|exact decide_eq_false (by omega)|exact decide_eq_true (by omega)|omega
 · simp [Op.rowB,base,Op.zero,p7,Ba]
end Oq
section
open Go.RowKit
namespace Oq
structure OpL.own (w:World) (base:Nat) (x:OpL):Prop where
 past:RowAt w base 41 3 x.pastA x.past.length x.pastC (x.past.flatMap Id.cells)
 path:RowAt w base 137 2 x.pathA x.path.length x.pathC (x.path.flatMap NdL.cells)
 nodes:∀y∈x.path,RowAt w base 134 4 y.A y.xs.length y.c (y.xs.flatMap Bx.cells)
 body:RowAt w base 5 1 x.bodyA x.body.length x.bodyC (x.body.map Bv)
 refs:RowAt w base 39 1 x.refsA x.refs.length x.refsC (x.refs.map Uv)
 guards:RowAt w base 3 1 x.guardsA x.guards.length x.guardsC (x.guards.map Iv)
 boxes:RowAt w base 134 4 x.boxesA x.boxes.length x.boxesC (x.boxes.flatMap Bx.cells)
 hist:RowAt w base 140 4 x.histA x.hist.length x.histC (x.hist.flatMap SlL.cells)
 seals:∀y∈x.hist,RowAt w base 5 1 y.A y.y.length y.c (y.y.map Bv)
theorem OpL.own.at {w:World} {base:Nat} {x:OpL} (h:x.own w base):x.at w w.heap.size where
 past:=h.past.sl
 path:=h.path.sl
 nodes y hy:=(h.nodes y hy).sl
 body:=h.body.sl
 refs:=h.refs.sl
 guards:=h.guards.sl
 boxes:=h.boxes.sl
 hist:=h.hist.sl
 seals y hy:=(h.seals y hy).sl
theorem RowAt.nil (w:World) (base:Nat) (t:TypeId) (size:Nat):RowAt w base t size none 0 0 []:=⟨SlAt.nil _ _ _,.inl rfl⟩
def OpL.zero:OpL:=
 {by_:=0,sq:=0,kind:=0,at_:=0,pastA:=none,pastC:=0,past:=[],dev:=0,old:=0,mem:=0,role:=0,pathA:=none,pathC:=0,path:=[],epoch:=⟨0,0,0⟩,n:=0,bodyA:=none,bodyC:=0,body:=[],refsA:=none,refsC:=0,refs:=[],of:=⟨0,0,0⟩,guardsA:=none,guardsC:=0,guards:=[],need:=0,wait:=0,boxesA:=none,boxesC:=0,boxes:=[],pub:=0,histA:=none,histC:=0,hist:=[],r:=0,s:=0}
theorem OpL.zero_own (w:World) (base:Nat):OpL.zero.own w base where
 past:=RowAt.nil _ _ _ _
 path:=RowAt.nil _ _ _ _
 nodes y hy:=by cases hy
 body:=RowAt.nil _ _ _ _
 refs:=RowAt.nil _ _ _ _
 guards:=RowAt.nil _ _ _ _
 boxes:=RowAt.nil _ _ _ _
 hist:=RowAt.nil _ _ _ _
 seals y hy:=by cases hy
theorem Tp {P:Program} {fn:Func} {p q:Tmp} {ty t:TypeId} {d:TypeDesc} {cs:Array Value} {g:Nat} {tmps:Array Value} {w:World} (h:fn.results=#[.cell p ty,.tmp q])
  (ha:tmps.getD p undef=.pointer (some ⟨g,0,none⟩)) (hb:Blk w g t cs) (hd:(match d with| .struct _| .array _ _=>true|_=>false)=true) (hu:P.underlying ty=some d)
  (hi:(P.info? ty).map (·.size)=some cs.size):(results fn tmps).run P w=.ok (.tuple #[.agg cs,tmps.getD q undef]) w:=by
 have hl:(loadVar ty ⟨g,0,none⟩).run P w=.ok (.agg cs) w:=run_loadVar_row (P:=P) w g t ty cs (0,0) d hb hu (by cases d<;>first|rfl|exact hd) hi
 unfold results;rw [h];have ha':tmps[p]?.getD undef=.pointer (some ⟨g,0,none⟩):=by simpa using ha
 simp [asAddr,ha',hl]
theorem Hl {P:Program} {fn:Func} {R:Ending→World→Prop} {p q:Tmp} {ty t:TypeId} {d:TypeDesc} {cs:Array Value} {g:Nat} {a:Act} {w:World} (h:fn.results=#[.cell p ty,.tmp q])
  (ha:a.tmps.getD p undef=.pointer (some ⟨g,0,none⟩)) (hb:Blk w g t cs) (hd:(match d with| .struct _| .array _ _=>true|_=>false)=true) (hu:P.underlying ty=some d)
  (hi:(P.info? ty).map (·.size)=some cs.size) (hdef:a.defers=[]) (hR:R (.returned (.tuple #[.agg cs,a.tmps.getD q undef])) w):bodyPost P fn R .ret a w:=
 bodyPost_ret (Tp h ha hb hd hu hi) hdef hR
end Oq
end
end Go.Proofs.YtkanjaikgphjfaaGreatDoor
