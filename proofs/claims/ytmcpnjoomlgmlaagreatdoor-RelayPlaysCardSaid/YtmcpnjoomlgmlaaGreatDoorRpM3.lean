/- Contracts of functions, walked (part 3).
Conditions: as each theorem says. -/
import Derived.IntWalk
import Derived.Sort.Grow
import Derived.Maps.OwnSet
import Derived.Maps.Views
import Derived.DeepKeys4
import Derived.Deep.MidRow
import Derived.Laws.StructEq
import Derived.Test.YtmcpnjoomlgmlaaGreatDoorRpM2
set_option maxRecDepth 100000
set_option maxHeartbeats 16000000
open Bool renaming eq_iff_iff->A67,not_eq_true->A80
open Int renaming natCast_pow->A77,tdiv_eq_ediv_of_nonneg->A86,tmod_eq_emod_of_nonneg->A87
open List renaming length_append->A59,append_assoc->A61,getElem?_eq_getElem->A62,take_of_length_le->A64,mem_of_getElem?->A65,flatMap_cons->A70,getElem?_toArray->A71,getD_eq_getElem?_getD->A72,take_succ_eq_append_getElem->A73,flatMap_append->A74,append_nil->A75,nil_append->A82,take_append_drop->A83,flatMap_nil->A84,getElem?_eq_none->A85,mem_of_mem_take->A88,length_drop->A89,pairwise_append->A90,mem_cons_self->A91
open Nat renaming le_refl->A60,mul_add->A66,lt_or_ge->A69,lt_of_le_of_lt->A76,lt_of_lt_of_le->A78,pow_lt_pow_right->A79,add_mul->A81
open Go.World renaming size_alloc->A63,drewN->A68
open Go.Proofs.Tryz
open Go.Proofs.Tryz renaming prog->zp
open Go.Lib renaming hid->lh
open List renaming set->zl
open Go.Ending renaming returned->ze
namespace Go.Proofs.YtmcpnjoomlgmlaaGreatDoor
open Go.RowKit
attribute [local go_sem ↓] Go.wp_at_zero Go.wp_at_succ
namespace Oq
theorem Et {α:Type} (enc:α->List UInt8) (l:List α) {k:Nat} {x:α} (h:l[k]? =some x):(l.take (k+1)).flatMap enc=(l.take k).flatMap enc++enc x:=by
 obtain ⟨hk,rfl⟩:=List.getElem?_eq_some_iff.1 h;rw [A73 hk,A74,A70,A84,A75]
theorem Hq {α:Type} {enc:α->List UInt8} {K:Nat} (l:List α) (h:∀x∈l,(enc x).length<=K):(l.flatMap enc).length<=K*l.length:=by
 induction l with
 |nil=>simp
 |cons x l ih=>
  have h1:=h x (by simp);have h2:=ih (fun y hy=>h y (by simp [hy]));rw [A70,A59,List.length_cons,A66];omega
theorem Cr {α:Type} {enc:α->List UInt8} {K:Nat} (l:List α) (h:∀x∈l,(enc x).length<=K):(lst enc l).length<=10+K*l.length:=by
 unfold lst;rw [A59];have h1:=Pk.int_len l.length;have h2:=Hq l h;omega
theorem Id.bytes_len (x:Id):x.bytes.length<=30:=Pk.ident_len _ _ _
theorem Bx.bytes_len (x:Bx):x.bytes.length<=40:=by
 unfold Bx.bytes;simp only [A59];have h1:=Pk.num_len x.t;have h2:=Pk.num_len x.e;have h3:=Pk.num_len x.y;have h4:=Pk.num_len x.g;omega
theorem Nd.bytes_len (x:Nd) (h:x.ok):x.bytes.length<=40020:=by
 unfold Nd.bytes;rw [A59];have h1:=Pk.num_len x.p;have h2:=Cr x.xs (fun y _=>Bx.bytes_len y);have h3:=h.2.1;omega
theorem Sl.bytes_len (x:Sl) (h:x.y.length<=1000000):x.bytes.length<=1000040:=by
 unfold Sl.bytes;rw [A59];have h1:=Id.bytes_len x.f;have h2:=Pk.text_len x.y;omega
theorem Fy {α:Type} {f:α->List Value} {size:Nat} {w:World} {B n:Nat} {A:Option Addr} {l:List α} (hlen:∀x,(f x).length=size) (hs:0<size) (h:Rd w B size A n (l.flatMap f)) {k:Nat} {o:α} (hk:l[k]? =some o):
  ∃b off,A=some ⟨b,off,none⟩/\b<B/\∀j,j<size->∀u,(f o)[j]? =some u->w.cell? ⟨b,off+k*size+j,none⟩=some u:=by
 have hl:=h.1;rw [Er hlen] at hl;have hkl:=(List.getElem?_eq_some_iff.1 hk).1;have hle:l.length=n:=Nat.eq_of_mul_eq_mul_right hs hl;obtain ⟨b,off,e,hb,hc⟩:=h.cells (k:=k) (by omega);exact ⟨b,off,e,hb,fun j hj u hu=>hc j hj u (by rw [G7 (f:=f) hlen l k j o hk hj];exact hu)⟩
theorem Id.at {w:World} {B n:Nat} {A:Option Addr} {l:List Id} (h:Rd w B 3 A n (l.flatMap Id.cells)) {k:Nat} {o:Id} (hk:l[k]? =some o):
  ∃b off,A=some ⟨b,off,none⟩/\b<B/\w.cell? ⟨b,off+k*3,none⟩=some (.int .i64 o.b)/\w.cell? ⟨b,off+k*3+1,none⟩=some (.int .i64 o.s)/\w.cell? ⟨b,off+k*3+2,none⟩=some (.int .u64 (o.u:Int)):=by
 obtain ⟨b,off,e,hb,hc⟩:=Fy (f:=Id.cells) (fun _=>rfl) (by omega) h hk;exact ⟨b,off,e,hb,hc 0 (by omega) _ rfl,hc 1 (by omega) _ rfl,hc 2 (by omega) _ rfl⟩
theorem Bx.at {w:World} {B n:Nat} {A:Option Addr} {l:List Bx} (h:Rd w B 4 A n (l.flatMap Bx.cells)) {k:Nat} {o:Bx} (hk:l[k]? =some o):
  ∃b off,A=some ⟨b,off,none⟩/\b<B/\w.cell? ⟨b,off+k*4,none⟩=some (.int .u64 (o.t:Int))/\w.cell? ⟨b,off+k*4+1,none⟩=some (.int .u64 (o.e:Int))/\w.cell? ⟨b,off+k*4+2,none⟩=some (.int .u64 (o.y:Int))/\w.cell? ⟨b,off+k*4+3,none⟩=some (.int .u64 (o.g:Int)):=by
 obtain ⟨b,off,e,hb,hc⟩:=Fy (f:=Bx.cells) (fun _=>rfl) (by omega) h hk;exact ⟨b,off,e,hb,hc 0 (by omega) _ rfl,hc 1 (by omega) _ rfl,hc 2 (by omega) _ rfl,hc 3 (by omega) _ rfl⟩
theorem NdL.el {w:World} {B n:Nat} {A:Option Addr} {l:List NdL} (h:Rd w B 2 A n (l.flatMap NdL.cells)) {k:Nat} {o:NdL} (hk:l[k]? =some o):
  ∃b off,A=some ⟨b,off,none⟩/\b<B/\w.cell? ⟨b,off+k*2,none⟩=some (.int .u64 (o.p:Int))/\w.cell? ⟨b,off+k*2+1,none⟩=some (.slice o.A o.xs.length o.c):=by
 obtain ⟨b,off,e,hb,hc⟩:=Fy (f:=NdL.cells) (fun _=>rfl) (by omega) h hk;exact ⟨b,off,e,hb,hc 0 (by omega) _ rfl,hc 1 (by omega) _ rfl⟩
theorem SlL.el {w:World} {B n:Nat} {A:Option Addr} {l:List SlL} (h:Rd w B 4 A n (l.flatMap SlL.cells)) {k:Nat} {o:SlL} (hk:l[k]? =some o):
  ∃b off,A=some ⟨b,off,none⟩/\b<B/\w.cell? ⟨b,off+k*4,none⟩=some (.int .i64 o.f.b)/\w.cell? ⟨b,off+k*4+1,none⟩=some (.int .i64 o.f.s)/\w.cell? ⟨b,off+k*4+2,none⟩=some (.int .u64 (o.f.u:Int))/\w.cell? ⟨b,off+k*4+3,none⟩=some (.slice o.A o.y.length o.c):=by
 obtain ⟨b,off,e,hb,hc⟩:=Fy (f:=SlL.cells) (fun _=>rfl) (by omega) h hk;exact ⟨b,off,e,hb,hc 0 (by omega) _ rfl,hc 1 (by omega) _ rfl,hc 2 (by omega) _ rfl,hc 3 (by omega) _ rfl⟩
theorem J4 {α:Type} {f:α->Value} {w:World} {B n:Nat} {A:Option Addr} {l:List α} (h:Rd w B 1 A n (l.map f)) {k:Nat} {o:α} (hk:l[k]? =some o):
  ∃b off,A=some ⟨b,off,none⟩/\b<B/\w.cell? ⟨b,off+k,none⟩=some (f o):=by
 have hkl:=(List.getElem?_eq_some_iff.1 hk).1;have hl:=h.1;simp at hl;obtain ⟨b,off,u,e,hb,hx,hc⟩:=h.at (k:=k) (by omega);rw [List.getElem?_map,hk] at hx;injection hx with hx
 exact ⟨b,off,e,hb,by rw [hc,<- hx]⟩
theorem Yz (B g:Nat) (A0:Option Addr) (c0:Nat) (bs:List UInt8) (l:List Id) (Al:Option Addr) (n cl:Nat) (w:World) (ho:OutAt w B g A0 c0 bs) (hn:Hid (l.length=n)) (hok:∀x∈l,x.ok)
  (hr:Rd w B 3 Al n (l.flatMap Id.cells)) (hl:bs.length+10+30*n<=1099511627690):
  Calls zp 118 #[.pointer (some ⟨g,0,none⟩),.slice Al n cl,.func (.func 119) #[.pointer (some ⟨g,0,none⟩)] #[]] w (Eg B g A0 (bs++lst Id.bytes l) w):=by
 go_enter func118,ntmps118;go_wp2_with fail;refine (E6 B g A0 c0 bs (n:Int) _ ho (by omega) (by omega) (by omega)).mono ?_;rintro _ w1 ⟨rfl,A1,c1,ho1,hst1⟩;have hil:=Pk.int_len (n:Int);go_wp2
 go_loopw [14] (fun v wr=>∃(i:Nat) (A:Option Addr) (c:Nat) (D:List UInt8),v=.int .i64 (i:Int)/\i<=n/\Hid (D=bs++Pk.int (n:Int)++(l.take i).flatMap Id.bytes)/\D.length<=bs.length+10+30*i/\OutAt wr B g A c D/\Bj g w A0 wr A) (fun v _=>n-(intOf v).toNat)
 case atStart=>exact ⟨0,A1,c1,_,rfl,by omega,by show _=_;simp,by simp;omega,ho1,hst1⟩
 case round=>
  obtain ⟨i,A,c,D,rfl,hin,hD,hDl,hoi,hst⟩:=hrel
  by_cases hlt:i<n
  ·
   obtain ⟨x,hx⟩:∃x,l[i]? =some x:=⟨_,A62 (by rw [hn.out];exact hlt)⟩;have hxo:=hok x (A65 hx);obtain ⟨⟨x0,x1⟩,⟨x2,x3⟩,x4⟩:=hxo;obtain ⟨b,off,rfl,hb,k0,k1,k2⟩:=Id.at (hr.fr hst.fr (ho.not (A60 _))) hx;have hxl:=Id.bytes_len x;have hx':=lh hx;clear hx;go_wp2_with fail;refine (Jz B g A c D x.b x.s x.u _ (hoi.alloc (.cells x.V 45)) x0 x1 x2 x3 x4 (by omega)).mono ?_;rw [show Pk.ident x.b x.s x.u=x.bytes from rfl];rintro _ w2 ⟨rfl,A2,c2,ho2,hs2⟩;go_wp2;go_roundw
   case rel=>
    refine ⟨i+1,A2,c2,_,by go_num,by omega,?_,by rw [A59,A66];omega,ho2,(hst.alloc (.cells x.V 45)).trans hs2⟩;show _=_;rw [hD.out,Et _ l hx'.out,<- A61]
   case measure=>simp [intOf];omega
  ·
   have hi:i=n:=by omega
   subst hi;go_wp2
   go_end0
   refine ⟨rfl,A,c,?_,hst⟩;have e:bs++lst Id.bytes l=D:=by rw [hD.out,A64 (by rw [hn.out];omega),A61];unfold lst;rw [hn.out]
   rw [e];exact hoi
theorem Y3 (B g:Nat) (A0:Option Addr) (c0:Nat) (bs:List UInt8) (l:List Nat) (Al:Option Addr) (n cl:Nat) (w:World) (ho:OutAt w B g A0 c0 bs) (hn:Hid (l.length=n)) (hok:∀x∈l,U64 x)
  (hr:Rd w B 1 Al n (l.map Uv)) (hl:bs.length+10+10*n<=1099511627690):
  Calls zp 124 #[.pointer (some ⟨g,0,none⟩),.slice Al n cl,.func (.func 99) #[.pointer (some ⟨g,0,none⟩)] #[]] w (Eg B g A0 (bs++lst Pk.num l) w):=by
 go_enter func124,ntmps124;go_wp2_with fail;refine (E6 B g A0 c0 bs (n:Int) _ ho (by omega) (by omega) (by omega)).mono ?_;rintro _ w1 ⟨rfl,A1,c1,ho1,hst1⟩;have hil:=Pk.int_len (n:Int);go_wp2
 go_loopw [14] (fun v wr=>∃(i:Nat) (A:Option Addr) (c:Nat) (D:List UInt8),v=.int .i64 (i:Int)/\i<=n/\Hid (D=bs++Pk.int (n:Int)++(l.take i).flatMap Pk.num)/\D.length<=bs.length+10+10*i/\OutAt wr B g A c D/\Bj g w A0 wr A) (fun v _=>n-(intOf v).toNat)
 case atStart=>exact ⟨0,A1,c1,_,rfl,by omega,by show _=_;simp,by simp;omega,ho1,hst1⟩
 case round=>
  obtain ⟨i,A,c,D,rfl,hin,hD,hDl,hoi,hst⟩:=hrel
  by_cases hlt:i<n
  ·
   obtain ⟨x,hx⟩:∃x,l[i]? =some x:=⟨_,A62 (by rw [hn.out];exact hlt)⟩;have hxo:=hok x (A65 hx);obtain ⟨b,off,rfl,hb,k0⟩:=J4 (hr.fr hst.fr (ho.not (A60 _))) hx;unfold Uv at k0;have hxl:=Pk.num_len x;have hx':=lh hx;clear hx;go_wp2_with fail;refine (Fj B g A c D x _ hoi hxo (by omega)).mono ?_;rintro _ w2 ⟨rfl,A2,c2,ho2,hs2⟩;go_wp2;go_roundw
   case rel=>
    refine ⟨i+1,A2,c2,_,by go_num,by omega,?_,by rw [A59,A66];omega,ho2,hst.trans hs2⟩;show _=_;rw [hD.out,Et _ l hx'.out,<- A61]
   case measure=>simp [intOf];omega
  ·
   have hi:i=n:=by omega
   subst hi;go_wp2
   go_end0
   refine ⟨rfl,A,c,?_,hst⟩;have e:bs++lst Pk.num l=D:=by rw [hD.out,A64 (by rw [hn.out];omega),A61];unfold lst;rw [hn.out]
   rw [e];exact hoi
theorem Y4 (B g:Nat) (A0:Option Addr) (c0:Nat) (bs:List UInt8) (l:List Int) (Al:Option Addr) (n cl:Nat) (w:World) (ho:OutAt w B g A0 c0 bs) (hn:Hid (l.length=n)) (hok:∀x∈l,I64 x)
  (hr:Rd w B 1 Al n (l.map Iv)) (hl:bs.length+10+10*n<=1099511627690):
  Calls zp 125 #[.pointer (some ⟨g,0,none⟩),.slice Al n cl,.func (.func 116) #[.pointer (some ⟨g,0,none⟩)] #[]] w (Eg B g A0 (bs++lst Pk.int l) w):=by
 go_enter func125,ntmps125;go_wp2_with fail;refine (E6 B g A0 c0 bs (n:Int) _ ho (by omega) (by omega) (by omega)).mono ?_;rintro _ w1 ⟨rfl,A1,c1,ho1,hst1⟩;have hil:=Pk.int_len (n:Int);go_wp2
 go_loopw [14] (fun v wr=>∃(i:Nat) (A:Option Addr) (c:Nat) (D:List UInt8),v=.int .i64 (i:Int)/\i<=n/\Hid (D=bs++Pk.int (n:Int)++(l.take i).flatMap Pk.int)/\D.length<=bs.length+10+10*i/\OutAt wr B g A c D/\Bj g w A0 wr A) (fun v _=>n-(intOf v).toNat)
 case atStart=>exact ⟨0,A1,c1,_,rfl,by omega,by show _=_;simp,by simp;omega,ho1,hst1⟩
 case round=>
  obtain ⟨i,A,c,D,rfl,hin,hD,hDl,hoi,hst⟩:=hrel
  by_cases hlt:i<n
  ·
   obtain ⟨x,hx⟩:∃x,l[i]? =some x:=⟨_,A62 (by rw [hn.out];exact hlt)⟩;have hxo:=hok x (A65 hx);obtain ⟨b,off,rfl,hb,k0⟩:=J4 (hr.fr hst.fr (ho.not (A60 _))) hx;unfold Iv at k0;have hxl:=Pk.int_len x;have hx':=lh hx;clear hx;go_wp2_with fail;refine (E6 B g A c D x _ hoi hxo.1 hxo.2 (by omega)).mono ?_;rintro _ w2 ⟨rfl,A2,c2,ho2,hs2⟩;go_wp2;go_roundw
   case rel=>
    refine ⟨i+1,A2,c2,_,by go_num,by omega,?_,by rw [A59,A66];omega,ho2,hst.trans hs2⟩;show _=_;rw [hD.out,Et _ l hx'.out,<- A61]
   case measure=>simp [intOf];omega
  ·
   have hi:i=n:=by omega
   subst hi;go_wp2
   go_end0
   refine ⟨rfl,A,c,?_,hst⟩;have e:bs++lst Pk.int l=D:=by rw [hD.out,A64 (by rw [hn.out];omega),A61];unfold lst;rw [hn.out]
   rw [e];exact hoi
theorem Y5 (B g gp:Nat) (A:Option Addr) (c:Nat) (bs:List UInt8) (x:Bx) (w:World) (ho:OutAt w B g A c bs) (hp:Blk w gp 123 #[.pointer (some ⟨g,0,none⟩)]) (hx:x.ok) (hl:bs.length<=1099511627700):
  Calls zp 117 #[.agg #[.int .u64 (x.t:Int),.int .u64 (x.e:Int),.int .u64 (x.y:Int),.int .u64 (x.g:Int)],.pointer (some ⟨gp,0,none⟩)] w (Eg B g A (bs++x.bytes) w):=by
 obtain ⟨x0,x1,x2,x3⟩:=hx;have l1:=Pk.num_len x.t;have l2:=Pk.num_len x.e;have l3:=Pk.num_len x.y;have aa:=Blk.new w 103 #[.int .u64 (x.t:Int),.int .u64 (x.e:Int),.int .u64 (x.y:Int),.int .u64 (x.g:Int)];have k0:=aa.cell 0;have k1:=aa.cell 1;have k2:=aa.cell 2;have k3:=aa.cell 3;have ae:=(ho.alloc (.cells #[.int .u64 (x.t:Int),.int .u64 (x.e:Int),.int .u64 (x.y:Int),.int .u64 (x.g:Int)] 103)).alloc (.cells #[.int .u64 (x.t:Int),.int .u64 (x.e:Int),.int .u64 (x.y:Int),.int .u64 (x.g:Int)] 43);have ag:=(hp.alloc (.cells #[.int .u64 (x.t:Int),.int .u64 (x.e:Int),.int .u64 (x.y:Int),.int .u64 (x.g:Int)] 103)).alloc (.cells #[.int .u64 (x.t:Int),.int .u64 (x.e:Int),.int .u64 (x.y:Int),.int .u64 (x.g:Int)] 43);have aw:=((Bj.refl g w A).alloc (.cells #[.int .u64 (x.t:Int),.int .u64 (x.e:Int),.int .u64 (x.y:Int),.int .u64 (x.g:Int)] 103)).alloc (.cells #[.int .u64 (x.t:Int),.int .u64 (x.e:Int),.int .u64 (x.y:Int),.int .u64 (x.g:Int)] 43);have ab:=Blk.new (w.alloc (.cells #[.int .u64 (x.t:Int),.int .u64 (x.e:Int),.int .u64 (x.y:Int),.int .u64 (x.g:Int)] 103)) 43 #[.int .u64 (x.t:Int),.int .u64 (x.e:Int),.int .u64 (x.y:Int),.int .u64 (x.g:Int)];rw [A63] at ab;go_enter func117,ntmps117;go_wp2;generalize (w.alloc (.cells #[.int .u64 (x.t:Int),.int .u64 (x.e:Int),.int .u64 (x.y:Int),.int .u64 (x.g:Int)] 103)).alloc (.cells #[.int .u64 (x.t:Int),.int .u64 (x.e:Int),.int .u64 (x.y:Int),.int .u64 (x.g:Int)] 43)=w0 at*;clear k0 k1 k2 k3 aa;refine wp_loop_rounds 5 ?_;have c0:=ab.cell 0;have p0:=ag.cell 0;rw [rounds_succ];go_wp2_with fail;refine (Fj B g A c bs x.t _ ae x0 (by omega)).mono ?_;rintro _ w1 ⟨rfl,A1,c1,al,ad⟩;have ah:=ab.fr ad.fr (ae.far ab (by decide) (by decide));have af:=ag.fr ad.fr (ae.far ag (by decide) (by decide));have d1:=ah.cell 1;have p1:=af.cell 0;go_wp2;rw [rounds_succ];go_wp2_with fail;refine (Fj B g A1 c1 _ x.e _ al x1 (by rw [A59];omega)).mono ?_;rintro _ w2 ⟨rfl,A2,c2,ak,ao⟩;have ac:=ah.fr ao.fr (al.far ah (by decide) (by decide));have aj:=af.fr ao.fr (al.far af (by decide) (by decide));have d2:=ac.cell 2;have p2:=aj.cell 0;go_wp2;rw [rounds_succ];go_wp2_with fail;refine (Fj B g A2 c2 _ x.y _ ak x2 (by simp only [A59];omega)).mono ?_;rintro _ w3 ⟨rfl,A3,c3,aq,ai⟩;have ar:=ac.fr ai.fr (ak.far ac (by decide) (by decide));have av:=aj.fr ai.fr (ak.far aj (by decide) (by decide));have d3:=ar.cell 3;have p3:=av.cell 0;go_wp2;rw [rounds_succ];go_wp2_with fail;refine (Fj B g A3 c3 _ x.g _ aq x3 (by simp only [A59];omega)).mono ?_;rintro _ w4 ⟨rfl,A4,c4,ap,au⟩;go_wp2;rw [rounds_succ];go_wp2
 go_end0
 refine ⟨rfl,A4,c4,?_,(((aw.trans ad).trans ao).trans ai).trans au⟩;have e:bs++x.bytes=bs++Pk.num x.t++Pk.num x.e++Pk.num x.y++Pk.num x.g:=by unfold Bx.bytes;simp
 rw [e];exact ap
theorem Qd (B g gp:Nat) (A0:Option Addr) (c0:Nat) (bs:List UInt8) (l:List Bx) (Al:Option Addr) (n cl:Nat) (w:World) (ho:OutAt w B g A0 c0 bs) (hn:Hid (l.length=n)) (hok:∀x∈l,x.ok)
  (hr:Rd w B 4 Al n (l.flatMap Bx.cells)) (hl:bs.length+10+40*n<=1099511627690) (hp:Blk w gp 123 #[.pointer (some ⟨g,0,none⟩)]):
  Calls zp 122 #[.pointer (some ⟨g,0,none⟩),.slice Al n cl,.func (.func 117) #[] #[.pointer (some ⟨gp,0,none⟩)]] w (Eg B g A0 (bs++lst Bx.bytes l) w):=by
 go_enter func122,ntmps122;go_wp2_with fail;refine (E6 B g A0 c0 bs (n:Int) _ ho (by omega) (by omega) (by omega)).mono ?_;rintro _ w1 ⟨rfl,A1,c1,ho1,hst1⟩;have hil:=Pk.int_len (n:Int);go_wp2
 go_loopw [14] (fun v wr=>∃(i:Nat) (A:Option Addr) (c:Nat) (D:List UInt8),v=.int .i64 (i:Int)/\i<=n/\Hid (D=bs++Pk.int (n:Int)++(l.take i).flatMap Bx.bytes)/\D.length<=bs.length+10+40*i/\OutAt wr B g A c D/\Bj g w A0 wr A/\Blk wr gp 123 #[.pointer (some ⟨g,0,none⟩)]) (fun v _=>n-(intOf v).toNat)
 case atStart=>exact ⟨0,A1,c1,_,rfl,by omega,by show _=_;simp,by simp;omega,ho1,hst1,hp.fr hst1.fr (ho.far hp (by decide) (by decide))⟩
 case round=>
  obtain ⟨i,A,c,D,rfl,hin,hD,hDl,hoi,hst,hpi⟩:=hrel
  by_cases hlt:i<n
  ·
   obtain ⟨x,hx⟩:∃x,l[i]? =some x:=⟨_,A62 (by rw [hn.out];exact hlt)⟩;have hxo:=hok x (A65 hx);obtain ⟨b,off,rfl,hb,k0,k1,k2,k3⟩:=Bx.at (hr.fr hst.fr (ho.not (A60 _))) hx;have hxl:=Bx.bytes_len x;have hx':=lh hx;clear hx;go_wp2_with fail;refine (Y5 B g gp A c D x _ (hoi.alloc (.cells #[.int .u64 (x.t:Int),.int .u64 (x.e:Int),.int .u64 (x.y:Int),.int .u64 (x.g:Int)] 103)) (hpi.alloc (.cells #[.int .u64 (x.t:Int),.int .u64 (x.e:Int),.int .u64 (x.y:Int),.int .u64 (x.g:Int)] 103)) hxo (by omega)).mono ?_;rintro _ w2 ⟨rfl,A2,c2,ho2,hs2⟩;have hpi2:=(hpi.alloc (.cells #[.int .u64 (x.t:Int),.int .u64 (x.e:Int),.int .u64 (x.y:Int),.int .u64 (x.g:Int)] 103)).fr hs2.fr ((hoi.alloc (.cells #[.int .u64 (x.t:Int),.int .u64 (x.e:Int),.int .u64 (x.y:Int),.int .u64 (x.g:Int)] 103)).far (hpi.alloc (.cells #[.int .u64 (x.t:Int),.int .u64 (x.e:Int),.int .u64 (x.y:Int),.int .u64 (x.g:Int)] 103)) (by decide) (by decide));go_wp2;go_roundw
   case rel=>
    refine ⟨i+1,A2,c2,_,by go_num,by omega,?_,by rw [A59,A66];omega,ho2,(hst.alloc (.cells #[.int .u64 (x.t:Int),.int .u64 (x.e:Int),.int .u64 (x.y:Int),.int .u64 (x.g:Int)] 103)).trans hs2,hpi2⟩;show _=_;rw [hD.out,Et _ l hx'.out,<- A61]
   case measure=>simp [intOf];omega
  ·
   have hi:i=n:=by omega
   subst hi;go_wp2
   go_end0
   refine ⟨rfl,A,c,?_,hst⟩;have e:bs++lst Bx.bytes l=D:=by rw [hD.out,A64 (by rw [hn.out];omega),A61];unfold lst;rw [hn.out]
   rw [e];exact hoi
theorem Y6 (B g gp gc:Nat) (A:Option Addr) (c:Nat) (bs:List UInt8) (x:NdL) (w:World) (ho:OutAt w B g A c bs) (hp:Blk w gp 123 #[.pointer (some ⟨g,0,none⟩)]) (hc:Blk w gc 182 #[.func (.func 117) #[] #[.pointer (some ⟨gp,0,none⟩)]])
  (hx:x.nd.ok) (hat:x.at w B) (hl:bs.length+40020<=1099511627690):
  Calls zp 121 #[.agg #[.int .u64 (x.p:Int),.slice x.A x.xs.length x.c],.pointer (some ⟨gp,0,none⟩),.pointer (some ⟨gc,0,none⟩)] w (Eg B g A (bs++x.nd.bytes) w):=by
 obtain ⟨x0,x1,x2⟩:=hx;have x1':x.xs.length<=1000:=x1;have l1:=Pk.num_len x.p;have hbx:=Blk.new w 112 #[.int .u64 (x.p:Int),.slice x.A x.xs.length x.c];have k0:=hbx.cell 0;have k1:=hbx.cell 1;have ho0:=ho.alloc (.cells #[.int .u64 (x.p:Int),.slice x.A x.xs.length x.c] 112);have hp0:=hp.alloc (.cells #[.int .u64 (x.p:Int),.slice x.A x.xs.length x.c] 112);have hc0:=hc.alloc (.cells #[.int .u64 (x.p:Int),.slice x.A x.xs.length x.c] 112);have hs0:=(Bj.refl g w A).alloc (.cells #[.int .u64 (x.p:Int),.slice x.A x.xs.length x.c] 112);have p0:=hp0.cell 0;go_enter func121,ntmps121;go_wp2_with fail;refine (Fj B g A c bs x.p _ ho0 x0 (by omega)).mono ?_;rintro _ w1 ⟨rfl,A1,c1,ho1,hs1⟩;have hbx1:=hbx.fr hs1.fr (ho0.far hbx (by decide) (by decide));have hp1:=hp0.fr hs1.fr (ho0.far hp0 (by decide) (by decide));have hc1:=hc0.fr hs1.fr (ho0.far hc0 (by decide) (by decide));have m1:=hbx1.cell 1;have p1:=hp1.cell 0;have q1:=hc1.cell 0;have hst:=hs0.trans hs1;have hr1:=hat.1.fr hst.fr (ho.not (A60 _));go_wp2_with fail;refine (Qd B g gp A1 c1 _ x.xs x.A x.xs.length x.c _ ho1 rfl x2 hr1 (by rw [A59];omega) hp1).mono ?_;rintro _ w2 ⟨rfl,A2,c2,ho2,hs2⟩;go_wp2
 go_end0
 refine ⟨rfl,A2,c2,?_,hst.trans hs2⟩;have e:bs++x.nd.bytes=bs++Pk.num x.p++lst Bx.bytes x.xs:=by unfold Nd.bytes;rw [A61];rfl
 rw [e];exact ho2
theorem Y7 (B g gp gc:Nat) (A0:Option Addr) (c0:Nat) (bs:List UInt8) (l:List NdL) (Al:Option Addr) (n cl:Nat) (w:World) (ho:OutAt w B g A0 c0 bs) (hn:Hid (l.length=n)) (hok:∀x∈l,x.nd.ok)
  (hr:Rd w B 2 Al n (l.flatMap NdL.cells)) (hl:bs.length+10+40020*n<=1099511627690) (hp:Blk w gp 123 #[.pointer (some ⟨g,0,none⟩)]) (hc:Blk w gc 182 #[.func (.func 117) #[] #[.pointer (some ⟨gp,0,none⟩)]]) (hat:∀x∈l,x.at w B):
  Calls zp 120 #[.pointer (some ⟨g,0,none⟩),.slice Al n cl,.func (.func 121) #[] #[.pointer (some ⟨gp,0,none⟩),.pointer (some ⟨gc,0,none⟩)]] w (Eg B g A0 (bs++lst (fun x=>x.nd.bytes) l) w):=by
 go_enter func120,ntmps120;go_wp2_with fail;refine (E6 B g A0 c0 bs (n:Int) _ ho (by omega) (by omega) (by omega)).mono ?_;rintro _ w1 ⟨rfl,A1,c1,ao,aa⟩;have ap:=Pk.int_len (n:Int);go_wp2
 go_loopw [14] (fun v wr=>∃(i:Nat) (A:Option Addr) (c:Nat) (D:List UInt8),v=.int .i64 (i:Int)/\i<=n/\Hid (D=bs++Pk.int (n:Int)++(l.take i).flatMap (fun x=>x.nd.bytes))/\D.length<=bs.length+10+40020*i/\OutAt wr B g A c D/\Bj g w A0 wr A/\Blk wr gp 123 #[.pointer (some ⟨g,0,none⟩)]/\Blk wr gc 182 #[.func (.func 117) #[] #[.pointer (some ⟨gp,0,none⟩)]]) (fun v _=>n-(intOf v).toNat)
 case atStart=>exact ⟨0,A1,c1,_,rfl,by omega,by show _=_;simp,by simp;omega,ao,aa,hp.fr aa.fr (ho.far hp (by decide) (by decide)),hc.fr aa.fr (ho.far hc (by decide) (by decide))⟩
 case round=>
  obtain ⟨i,A,c,D,rfl,av,hD,ar,ac,ab,ae,ag⟩:=hrel
  by_cases hlt:i<n
  ·
   obtain ⟨x,hx⟩:∃x,l[i]? =some x:=⟨_,A62 (by rw [hn.out];exact hlt)⟩;have ai:=hok x (A65 hx);obtain ⟨b,au,rfl,hb,k0,k1⟩:=NdL.el (hr.fr ab.fr (ho.not (A60 _))) hx;have aq:=Nd.bytes_len x.nd ai;have ak:=((hat x (A65 hx)).fr ab.fr (ho.not (A60 _)));have aj:=lh hx;clear hx;go_wp2_with fail;refine (Y6 B g gp gc A c D x _ (ac.alloc (.cells #[.int .u64 (x.p:Int),.slice x.A x.xs.length x.c] 112)) (ae.alloc (.cells #[.int .u64 (x.p:Int),.slice x.A x.xs.length x.c] 112)) (ag.alloc (.cells #[.int .u64 (x.p:Int),.slice x.A x.xs.length x.c] 112)) ai (ak.fr (S:=Non) ((Fr.refl _ _).alloc (.cells #[.int .u64 (x.p:Int),.slice x.A x.xs.length x.c] 112)) zr) (by omega)).mono ?_;rintro _ w2 ⟨rfl,A2,c2,al,ah⟩;have af:=(ae.alloc (.cells #[.int .u64 (x.p:Int),.slice x.A x.xs.length x.c] 112)).fr ah.fr ((ac.alloc (.cells #[.int .u64 (x.p:Int),.slice x.A x.xs.length x.c] 112)).far (ae.alloc (.cells #[.int .u64 (x.p:Int),.slice x.A x.xs.length x.c] 112)) (by decide) (by decide));have ad:=(ag.alloc (.cells #[.int .u64 (x.p:Int),.slice x.A x.xs.length x.c] 112)).fr ah.fr ((ac.alloc (.cells #[.int .u64 (x.p:Int),.slice x.A x.xs.length x.c] 112)).far (ag.alloc (.cells #[.int .u64 (x.p:Int),.slice x.A x.xs.length x.c] 112)) (by decide) (by decide));go_wp2;go_roundw
   case rel=>
    refine ⟨i+1,A2,c2,_,by go_num,by omega,?_,by rw [A59,A66];omega,al,(ab.alloc (.cells #[.int .u64 (x.p:Int),.slice x.A x.xs.length x.c] 112)).trans ah,af,ad⟩;show _=_;rw [hD.out,Et _ l aj.out,<- A61]
   case measure=>simp [intOf];omega
  ·
   have hi:i=n:=by omega
   subst hi;go_wp2
   go_end0
   refine ⟨rfl,A,c,?_,ab⟩;have e:bs++lst (fun x=>x.nd.bytes) l=D:=by rw [hD.out,A64 (by rw [hn.out];omega),A61];unfold lst;rw [hn.out]
   rw [e];exact ac
theorem Y8 (B g gp:Nat) (A:Option Addr) (c:Nat) (bs:List UInt8) (x:SlL) (w:World) (ho:OutAt w B g A c bs) (hp:Blk w gp 123 #[.pointer (some ⟨g,0,none⟩)])
  (hx:x.f.ok) (hy:x.y.length<=1000000) (hat:x.at w B) (hl:bs.length+1000040<=1099511627700):
  Calls zp 127 #[.agg #[.int .i64 x.f.b,.int .i64 x.f.s,.int .u64 (x.f.u:Int),.slice x.A x.y.length x.c],.pointer (some ⟨gp,0,none⟩)] w (Eg B g A (bs++x.sl.bytes) w):=by
 obtain ⟨⟨x0,x1⟩,⟨x2,x3⟩,x4⟩:=hx;have l1:=Pk.ident_len x.f.b x.f.s x.f.u;have hbx:=Blk.new w 119 #[.int .i64 x.f.b,.int .i64 x.f.s,.int .u64 (x.f.u:Int),.slice x.A x.y.length x.c];have k0:=hbx.cell 0;have k1:=hbx.cell 1;have k2:=hbx.cell 2;have ho0:=ho.alloc (.cells #[.int .i64 x.f.b,.int .i64 x.f.s,.int .u64 (x.f.u:Int),.slice x.A x.y.length x.c] 119);have hp0:=hp.alloc (.cells #[.int .i64 x.f.b,.int .i64 x.f.s,.int .u64 (x.f.u:Int),.slice x.A x.y.length x.c] 119);have hs0:=(Bj.refl g w A).alloc (.cells #[.int .i64 x.f.b,.int .i64 x.f.s,.int .u64 (x.f.u:Int),.slice x.A x.y.length x.c] 119);have p0:=hp0.cell 0;go_enter func127,ntmps127;go_wp2_with fail;refine (Jz B g A c bs x.f.b x.f.s x.f.u _ ho0 x0 x1 x2 x3 x4 (by omega)).mono ?_;rintro _ w1 ⟨rfl,A1,c1,ho1,hs1⟩;have hbx1:=hbx.fr hs1.fr (ho0.far hbx (by decide) (by decide));have hp1:=hp0.fr hs1.fr (ho0.far hp0 (by decide) (by decide));have m3:=hbx1.cell 3;have p1:=hp1.cell 0;have hst:=hs0.trans hs1;have hr1:=hat.1.fr hst.fr (ho.not (A60 _));have hstr:(convert 40 9 (.slice x.A x.y.length x.c)).run zp w1=.ok (.string (str x.y)) w1:=Ii 40 5 9 underlying40 underlying5 underlying9 w1 _ _ _ _ _ hr1;go_wp2_with fail;refine (Qc B g A1 c1 _ x.y _ ho1 (by rw [A59];omega)).mono ?_;rintro _ w2 ⟨rfl,A2,c2,ho2,hs2⟩;go_wp2
 go_end0
 refine ⟨rfl,A2,c2,?_,hst.trans hs2⟩;have e:bs++x.sl.bytes=bs++Pk.ident x.f.b x.f.s x.f.u++Pk.text x.y:=by unfold Sl.bytes Id.bytes;rw [A61];rfl
 rw [e];exact ho2
theorem Y9 (B g gp:Nat) (A0:Option Addr) (c0:Nat) (bs:List UInt8) (l:List SlL) (Al:Option Addr) (n cl:Nat) (w:World) (ho:OutAt w B g A0 c0 bs) (hn:Hid (l.length=n)) (hok:∀x∈l,(x.f.ok/\x.y.length<=1000000))
  (hr:Rd w B 4 Al n (l.flatMap SlL.cells)) (hl:bs.length+10+1000040*n<=1099511627690) (hp:Blk w gp 123 #[.pointer (some ⟨g,0,none⟩)]) (hat:∀x∈l,x.at w B):
  Calls zp 126 #[.pointer (some ⟨g,0,none⟩),.slice Al n cl,.func (.func 127) #[] #[.pointer (some ⟨gp,0,none⟩)]] w (Eg B g A0 (bs++lst (fun x=>x.sl.bytes) l) w):=by
 go_enter func126,ntmps126;go_wp2_with fail;refine (E6 B g A0 c0 bs (n:Int) _ ho (by omega) (by omega) (by omega)).mono ?_;rintro _ w1 ⟨rfl,A1,c1,ak,aa⟩;have al:=Pk.int_len (n:Int);go_wp2
 go_loopw [14] (fun v wr=>∃(i:Nat) (A:Option Addr) (c:Nat) (D:List UInt8),v=.int .i64 (i:Int)/\i<=n/\Hid (D=bs++Pk.int (n:Int)++(l.take i).flatMap (fun x=>x.sl.bytes))/\D.length<=bs.length+10+1000040*i/\OutAt wr B g A c D/\Bj g w A0 wr A/\Blk wr gp 123 #[.pointer (some ⟨g,0,none⟩)]) (fun v _=>n-(intOf v).toNat)
 case atStart=>exact ⟨0,A1,c1,_,rfl,by omega,by show _=_;simp,by simp;omega,ak,aa,hp.fr aa.fr (ho.far hp (by decide) (by decide))⟩
 case round=>
  obtain ⟨i,A,c,D,rfl,ar,hD,ap,ad,ab,ae⟩:=hrel
  by_cases hlt:i<n
  ·
   obtain ⟨x,hx⟩:∃x,l[i]? =some x:=⟨_,A62 (by rw [hn.out];exact hlt)⟩;have ac:=hok x (A65 hx);obtain ⟨b,aq,rfl,hb,k0,k1,k2,k3⟩:=SlL.el (hr.fr ab.fr (ho.not (A60 _))) hx;have ao:=Sl.bytes_len x.sl ac.2;have ai:=((hat x (A65 hx)).fr ab.fr (ho.not (A60 _)));have ah:=lh hx;clear hx;go_wp2_with fail;refine (Y8 B g gp A c D x _ (ad.alloc (.cells #[.int .i64 x.f.b,.int .i64 x.f.s,.int .u64 (x.f.u:Int),.slice x.A x.y.length x.c] 119)) (ae.alloc (.cells #[.int .i64 x.f.b,.int .i64 x.f.s,.int .u64 (x.f.u:Int),.slice x.A x.y.length x.c] 119)) ac.1 ac.2 (ai.fr (S:=Non) ((Fr.refl _ _).alloc (.cells #[.int .i64 x.f.b,.int .i64 x.f.s,.int .u64 (x.f.u:Int),.slice x.A x.y.length x.c] 119)) zr) (by omega)).mono ?_;rintro _ w2 ⟨rfl,A2,c2,aj,ag⟩;have af:=(ae.alloc (.cells #[.int .i64 x.f.b,.int .i64 x.f.s,.int .u64 (x.f.u:Int),.slice x.A x.y.length x.c] 119)).fr ag.fr ((ad.alloc (.cells #[.int .i64 x.f.b,.int .i64 x.f.s,.int .u64 (x.f.u:Int),.slice x.A x.y.length x.c] 119)).far (ae.alloc (.cells #[.int .i64 x.f.b,.int .i64 x.f.s,.int .u64 (x.f.u:Int),.slice x.A x.y.length x.c] 119)) (by decide) (by decide));go_wp2;go_roundw
   case rel=>
    refine ⟨i+1,A2,c2,_,by go_num,by omega,?_,by rw [A59,A66];omega,aj,(ab.alloc (.cells #[.int .i64 x.f.b,.int .i64 x.f.s,.int .u64 (x.f.u:Int),.slice x.A x.y.length x.c] 119)).trans ag,af⟩;show _=_;rw [hD.out,Et _ l ah.out,<- A61]
   case measure=>simp [intOf];omega
  ·
   have hi:i=n:=by omega
   subst hi;go_wp2
   go_end0
   refine ⟨rfl,A,c,?_,ab⟩;have e:bs++lst (fun x=>x.sl.bytes) l=D:=by rw [hD.out,A64 (by rw [hn.out];omega),A61];unfold lst;rw [hn.out]
   rw [e];exact ad
section
variable {S : Nat -> Prop} {w w' : World} {B g i : Nat} {L : List Int}
end
theorem Mq (x y:Id) (w:World):
  Calls zp 46 #[.agg x.V,.agg y.V] w (Ae (Id.less x y) w):=by
 have hf:=((Fr.refl Non w).alloc (.cells x.V 45)).alloc (.cells y.V 45)
 by_cases h1:x.b=y.b
 ·
  have f1:(x.b !=y.b)=false:=by simp [h1]
  by_cases h2:x.s=y.s
  ·
   have f2:(x.s !=y.s)=false:=by simp [h2]
   have hr:Hid (Id.less x y=decide ((x.u:Int)<(y.u:Int))):=by show _=_;unfold Id.less;rw [if_pos h1,if_pos h2];simp
   clear h1 h2;go_enter func46,ntmps46;go_wp2
   go_ret
   exact ⟨by rw [hr.out];simp,hf⟩
  ·
   have f2:(x.s !=y.s)=true:=by simp [h2]
   have hr:Hid (Id.less x y=decide (x.s<y.s)):=by show _=_;unfold Id.less;rw [if_pos h1,if_neg h2]
   clear h1 h2;go_enter func46,ntmps46;go_wp2
   go_ret
   exact ⟨by rw [hr.out];rfl,hf⟩
 ·
  have f1:(x.b !=y.b)=true:=by simp [h1]
  have hr:Hid (Id.less x y=decide (x.b<y.b)):=by show _=_;unfold Id.less;rw [if_neg h1]
  clear h1;go_enter func46,ntmps46;go_wp2
  go_ret
  exact ⟨by rw [hr.out];rfl,hf⟩
theorem Mr {w:World} {a:Addr} {v:Value} (h:w.cell? a=some v) (o:Obj):(w.alloc o).cell? a=some v:=((Fr.refl Non w).alloc o).cell h zq
def Bn (a b:Int):Int:=if a<b then-1 else if b<a then 1 else 0
theorem Qe (a:Int) (w:World):Calls zp 158 #[.int .i64 a] w fun e w'=>e=.returned (.bool false)/\w=w':=by
 have h:(a !=a)=false:=by simp
 go_enter func158,ntmps158;go_wp2
 go_ret
 first|exact ⟨rfl,rfl⟩|exact ⟨by simp,rfl⟩
theorem Qf (a:Int) (w:World):Calls zp 206 #[.int .u64 a] w fun e w'=>e=.returned (.bool false)/\w=w':=by
 have h:(a !=a)=false:=by simp
 go_enter func206,ntmps206;go_wp2
 go_ret
 first|exact ⟨rfl,rfl⟩|exact ⟨by simp,rfl⟩
theorem Ms (a b:Int) (w:World):Calls zp 136 #[.int .i64 a,.int .i64 b] w fun e w'=>e=.returned (.int .i64 (Bn a b))/\w=w':=by
 have hc:Hid ((a<b/\Bn a b= -1)\/(¬a<b/\b<a/\Bn a b=1)\/(¬a<b/\¬b<a/\Bn a b=0)):=by
  show _\/_;unfold Bn
  by_cases h1:a<b
  · simp [h1]
  · by_cases h2:b<a<;>simp [h1,h2]
 go_enter func136,ntmps136;go_wp2_with fail;refine (Qe a _).mono ?_;rintro _ _ ⟨rfl,rfl⟩;go_wp2_with fail;refine (Qe b _).mono ?_;rintro _ _ ⟨rfl,rfl⟩;go_wp2
 all_goals
  go_ret
  refine ⟨zeI ?_,rfl⟩;have:=hc.out;omega
theorem Qg (a b:Int) (w:World):Calls zp 157 #[.int .u64 a,.int .u64 b] w fun e w'=>e=.returned (.int .i64 (Bn a b))/\w=w':=by
 have hc:Hid ((a<b/\Bn a b= -1)\/(¬a<b/\b<a/\Bn a b=1)\/(¬a<b/\¬b<a/\Bn a b=0)):=by
  show _\/_;unfold Bn
  by_cases h1:a<b
  · simp [h1]
  · by_cases h2:b<a<;>simp [h1,h2]
 go_enter func157,ntmps157;go_wp2_with fail;refine (Qf a _).mono ?_;rintro _ _ ⟨rfl,rfl⟩;go_wp2_with fail;refine (Qf b _).mono ?_;rintro _ _ ⟨rfl,rfl⟩;go_wp2
 all_goals
  go_ret
  refine ⟨zeI ?_,rfl⟩;have:=hc.out;omega
def orI (a b c:Int):Int:=if a=0 then if b=0 then c else b else a
theorem Qh (a b c:Int) (k:Nat) (w:World) (hk:Blk w k 3 #[.int .i64 a,.int .i64 b,.int .i64 c]):
  Calls zp 135 #[.slice (some ⟨k,0,none⟩) 3 3] w fun e w'=>e=.returned (.int .i64 (orI a b c))/\w=w':=by
 have k0:=hk.cell 0;have k1:=hk.cell 1;have k2:=hk.cell 2
 by_cases h1:a=0
 ·
  have f1:(a !=0)=false:=by simp [h1]
  by_cases h2:b=0
  ·
   have f2:(b !=0)=false:=by simp [h2]
   by_cases h3:c=0
   ·
    have f3:(c !=0)=false:=by simp [h3]
    have hr:Hid (orI a b c=0):=by show _=_;unfold orI;rw [if_pos h1,if_pos h2,h3]
    clear h1 h2 h3;go_enter func135,ntmps135;go_wp2;refine wp_loop_rounds 4 ?_;rw [rounds_succ];go_wp2;rw [rounds_succ];go_wp2;rw [rounds_succ];go_wp2;rw [rounds_succ];go_wp2
    go_ret
    exact ⟨by rw [hr.out];rfl,rfl⟩
   ·
    have f3:(c !=0)=true:=by simp [h3]
    have hr:Hid (orI a b c=c):=by show _=_;unfold orI;rw [if_pos h1,if_pos h2]
    clear h1 h2 h3;go_enter func135,ntmps135;go_wp2;refine wp_loop_rounds 4 ?_;rw [rounds_succ];go_wp2;rw [rounds_succ];go_wp2;rw [rounds_succ];go_wp2
    go_ret
    exact ⟨by rw [hr.out];rfl,rfl⟩
  ·
   have f2:(b !=0)=true:=by simp [h2]
   have hr:Hid (orI a b c=b):=by show _=_;unfold orI;rw [if_pos h1,if_neg h2]
   clear h1 h2;go_enter func135,ntmps135;go_wp2;refine wp_loop_rounds 4 ?_;rw [rounds_succ];go_wp2;rw [rounds_succ];go_wp2
   go_ret
   exact ⟨by rw [hr.out];rfl,rfl⟩
 ·
  have f1:(a !=0)=true:=by simp [h1]
  have hr:Hid (orI a b c=a):=by show _=_;unfold orI;rw [if_neg h1]
  clear h1;go_enter func135,ntmps135;go_wp2;refine wp_loop_rounds 4 ?_;rw [rounds_succ];go_wp2
  go_ret
  exact ⟨by rw [hr.out];rfl,rfl⟩
theorem Qi (x y:Id):decide (orI (Bn x.b y.b) (Bn x.s y.s) (Bn (x.u:Int) (y.u:Int))<0)=Id.less x y:=by
 unfold Id.less
 by_cases h1:x.b=y.b
 ·
  have e1:Bn x.b y.b=0:=by unfold Bn;rw [if_neg (by omega),if_neg (by omega)]
  rw [if_pos h1,e1]
  by_cases h2:x.s=y.s
  ·
   have e2:Bn x.s y.s=0:=by unfold Bn;rw [if_neg (by omega),if_neg (by omega)]
   rw [if_pos h2,e2];show decide (Bn (x.u:Int) (y.u:Int)<0)=_;unfold Bn;rw [A67];simp only [decide_eq_true_eq]
   split
   · omega
   · split<;>omega
  ·
   rw [if_neg h2];have e2:Bn x.s y.s≠0:=by unfold Bn;split;omega;split<;>omega
   show decide ((if Bn x.s y.s=0 then _ else Bn x.s y.s)<0)=_;rw [if_neg e2,A67];simp only [decide_eq_true_eq];unfold Bn
   split
   · omega
   · split<;>omega
 ·
  rw [if_neg h1];have e1:Bn x.b y.b≠0:=by unfold Bn;split;omega;split<;>omega
  unfold orI;rw [if_neg e1,A67];simp only [decide_eq_true_eq];unfold Bn
  split
  · omega
  · split<;>omega
theorem Mt (x y:Id) (w:World):
  Calls zp 134 #[.agg x.V,.agg y.V] w (Ae (Id.less x y) w):=by
 have hf:=((Fr.refl Non w).alloc (.cells x.V 45)).alloc (.cells y.V 45);have hx:=(Blk.new w 45 x.V).alloc (.cells y.V 45);have hy:=Blk.new (w.alloc (.cells x.V 45)) 45 y.V;rw [A63] at hy;have hl:=Qi x y;have hl':=lh hl;clear hl;go_enter func134,ntmps134;go_upto_region 1 with (fail)
 generalize (w.alloc (.cells x.V 45)).alloc (.cells y.V 45)=w0 at*;have c0:w0.drew.cell? ⟨w.heap.size,0,none⟩=some (.int .i64 x.b):=hx.cell 0;have c1:w0.drew.cell? ⟨w.heap.size,1,none⟩=some (.int .i64 x.s):=hx.cell 1;have c2:w0.drew.cell? ⟨w.heap.size,2,none⟩=some (.int .u64 (x.u:Int)):=hx.cell 2;have d0:w0.drew.cell? ⟨w.heap.size+1,0,none⟩=some (.int .i64 y.b):=hy.cell 0;have d1:w0.drew.cell? ⟨w.heap.size+1,1,none⟩=some (.int .i64 y.s):=hy.cell 1;have d2:w0.drew.cell? ⟨w.heap.size+1,2,none⟩=some (.int .u64 (y.u:Int)):=hy.cell 2
 go_region_held3 (fun w'=>w'.cell? ⟨w.heap.size,0,none⟩=some (.int .i64 x.b)/\w'.cell? ⟨w.heap.size,1,none⟩=some (.int .i64 x.s)/\w'.cell? ⟨w.heap.size,2,none⟩=some (.int .u64 (x.u:Int))/\w'.cell? ⟨w.heap.size+1,0,none⟩=some (.int .i64 y.b)/\w'.cell? ⟨w.heap.size+1,1,none⟩=some (.int .i64 y.s)/\w'.cell? ⟨w.heap.size+1,2,none⟩=some (.int .u64 (y.u:Int))) ((and_intros<;>first|assumption|(refine Mr ?_ _;assumption))) (first
  |(go_at_call 136;(with_reducible refine (Ms _ _ _).mono ?_);rintro _ _ ⟨rfl,rfl⟩)
  |(go_at_call 157;(with_reducible refine (Qg _ _ _).mono ?_);rintro _ _ ⟨rfl,rfl⟩)
  |(go_at_call 135;(refine (Qh _ _ _ _ _ (by exact Blk.new _ _ _)).mono ?_);rintro _ _ ⟨rfl,rfl⟩))
 go_wp2
 go_ret
 exact ⟨by rw [<- hl'.out];rfl,hf.drew.alloc _⟩
end Oq
section
open Go.RowKit Go.Sort
namespace Oq
def GrowOf (w w':World):Prop:=∃(q:Nat) (os:Array Obj),w'=grow (w.drewN q) os
theorem GrowOf.refl (w:World):GrowOf w w:=⟨0,#[],by simp [grow,A68]⟩
theorem GrowOf.trans {a b c:World} (h:GrowOf a b) (k:GrowOf b c):GrowOf a c:=by
 obtain ⟨q,os,rfl⟩:=h;obtain ⟨q',os',rfl⟩:=k;exact ⟨q+q',os++os',by simp [grow,A68,Array.append_assoc,Nat.add_assoc]⟩
theorem GrowOf.alloc {a b:World} (h:GrowOf a b) (o:Obj):GrowOf a (b.alloc o):=h.trans ⟨0,#[o],by unfold grow A68 World.alloc;simp⟩
theorem GrowOf.drew {a b:World} (h:GrowOf a b):GrowOf a b.drew:=h.trans ⟨1,#[],by rw [grow_empty];rfl⟩
theorem GrowOf.fr {a b:World} (h:GrowOf a b):Fr Non a b:=by
 obtain ⟨q,os,rfl⟩:=h;refine ⟨rfl,rfl,rfl,?_,?_⟩
 · simp [grow,A68]
 ·
  intro k hk _;simp only [grow,A68];rw [Array.getElem?_append_left hk]
theorem Qj (x y:Id) (w:World):
  Calls zp 134 #[.agg x.V,.agg y.V] w fun e w'=>e=.returned (.bool (Id.less x y))/\GrowOf w w':=by
 have hf:=((GrowOf.refl w).alloc (.cells x.V 45)).alloc (.cells y.V 45);have hx:=(Blk.new w 45 x.V).alloc (.cells y.V 45);have hy:=Blk.new (w.alloc (.cells x.V 45)) 45 y.V;rw [A63] at hy;have hl:=Qi x y;have hl':=lh hl;clear hl;go_enter func134,ntmps134;go_upto_region 1 with (fail)
 generalize (w.alloc (.cells x.V 45)).alloc (.cells y.V 45)=w0 at*;have c0:w0.drew.cell? ⟨w.heap.size,0,none⟩=some (.int .i64 x.b):=hx.cell 0;have c1:w0.drew.cell? ⟨w.heap.size,1,none⟩=some (.int .i64 x.s):=hx.cell 1;have c2:w0.drew.cell? ⟨w.heap.size,2,none⟩=some (.int .u64 (x.u:Int)):=hx.cell 2;have d0:w0.drew.cell? ⟨w.heap.size+1,0,none⟩=some (.int .i64 y.b):=hy.cell 0;have d1:w0.drew.cell? ⟨w.heap.size+1,1,none⟩=some (.int .i64 y.s):=hy.cell 1;have d2:w0.drew.cell? ⟨w.heap.size+1,2,none⟩=some (.int .u64 (y.u:Int)):=hy.cell 2
 go_region_held3 (fun w'=>w'.cell? ⟨w.heap.size,0,none⟩=some (.int .i64 x.b)/\w'.cell? ⟨w.heap.size,1,none⟩=some (.int .i64 x.s)/\w'.cell? ⟨w.heap.size,2,none⟩=some (.int .u64 (x.u:Int))/\w'.cell? ⟨w.heap.size+1,0,none⟩=some (.int .i64 y.b)/\w'.cell? ⟨w.heap.size+1,1,none⟩=some (.int .i64 y.s)/\w'.cell? ⟨w.heap.size+1,2,none⟩=some (.int .u64 (y.u:Int))) ((and_intros<;>first|assumption|(refine Mr ?_ _;assumption))) (first
  |(go_at_call 136;(with_reducible refine (Ms _ _ _).mono ?_);rintro _ _ ⟨rfl,rfl⟩)
  |(go_at_call 157;(with_reducible refine (Qg _ _ _).mono ?_);rintro _ _ ⟨rfl,rfl⟩)
  |(go_at_call 135;(refine (Qh _ _ _ _ _ (by exact Blk.new _ _ _)).mono ?_);rintro _ _ ⟨rfl,rfl⟩))
 go_wp2
 go_ret
 exact ⟨by rw [<- hl'.out];rfl,hf.drew.alloc _⟩
def Gu (x y:Id):Int:=if Id.less x y then-1 else if Id.less y x then 1 else 0
theorem Za (x y:Id) (w:World):
  Calls zp 149 #[.agg x.V,.agg y.V] w fun e w'=>e=.returned (.int .i64 (Gu x y))/\GrowOf w w':=by
 have hf:=((GrowOf.refl w).alloc (.cells x.V 45)).alloc (.cells y.V 45);have hx:=(Blk.new w 45 x.V).alloc (.cells y.V 45);have hy:=Blk.new (w.alloc (.cells x.V 45)) 45 y.V;rw [A63] at hy;have k1:=lh (fun w'=>Qj x y w');have k2:=lh (fun w'=>Qj y x w');have hv:Hid (Gu x y=if Id.less x y then-1 else if Id.less y x then 1 else 0):=rfl;generalize Gu x y=v at*;generalize hw0:(w.alloc (.cells x.V 45)).alloc (.cells y.V 45)=w0 at*;have c0:cI w0 w.heap.size 0 x.b:=hx.cell 0;have c1:cI w0 w.heap.size 1 x.s:=hx.cell 1;have c2:cU w0 w.heap.size 2 x.u:=hx.cell 2;have d0:cI w0 (w.heap.size+1) 0 y.b:=hy.cell 0;have d1:cI w0 (w.heap.size+1) 1 y.s:=hy.cell 1;have d2:cU w0 (w.heap.size+1) 2 y.u:=hy.cell 2;generalize Id.less x y=l1 at*;generalize Id.less y x=l2 at*
 cases l1
 ·
  cases l2
  ·
   have hz:Hid (0=v):=by show _=_;rw [hv.out];rfl
   clear hv;go_enter func149,ntmps149;go_wp2_with fail;try rw [hw0]
   clear hw0;refine (k1.out _).mono ?_;rintro _ w1 ⟨rfl,g1⟩;have f1:=g1.fr;have h1:=hf.trans g1;replace c0:=f1.cell c0 zq;replace c1:=f1.cell c1 zq;replace c2:=f1.cell c2 zq;replace d0:=f1.cell d0 zq;replace d1:=f1.cell d1 zq;replace d2:=f1.cell d2 zq;clear g1 f1;go_wp2_with fail;refine (k2.out _).mono ?_;rintro _ w2 ⟨rfl,g2⟩;have h2:=h1.trans g2;go_wp2_with fail
   go_ret
   exact ⟨zeI hz.out,h2⟩
  ·
   have hz:Hid (1=v):=by show _=_;rw [hv.out];rfl
   clear hv;go_enter func149,ntmps149;go_wp2_with fail;try rw [hw0]
   clear hw0;refine (k1.out _).mono ?_;rintro _ w1 ⟨rfl,g1⟩;have f1:=g1.fr;have h1:=hf.trans g1;replace c0:=f1.cell c0 zq;replace c1:=f1.cell c1 zq;replace c2:=f1.cell c2 zq;replace d0:=f1.cell d0 zq;replace d1:=f1.cell d1 zq;replace d2:=f1.cell d2 zq;clear g1 f1;go_wp2_with fail;refine (k2.out _).mono ?_;rintro _ w2 ⟨rfl,g2⟩;have h2:=h1.trans g2;go_wp2_with fail
   go_ret
   exact ⟨zeI hz.out,h2⟩
 ·
  have hz:Hid (-1=v):=by show _=_;rw [hv.out];rfl
  clear hv;go_enter func149,ntmps149;go_wp2_with fail;try rw [hw0]
  clear hw0;refine (k1.out _).mono ?_;rintro _ w1 ⟨rfl,g1⟩;have h1:=hf.trans g1;go_wp2_with fail
  go_ret
  exact ⟨zeI hz.out,h1⟩
end Oq
end
section
open Go.RowKit Go.Maps
namespace Oq
theorem Id.ext3 (x y:Id):(x.b=y.b/\x.s=y.s/\x.u=y.u)<->x=y:=by
 constructor
 ·
  intro ⟨h1,h2,h3⟩
  cases x;cases y
  simp only at h1 h2 h3;subst h1;subst h2;subst h3;rfl
 ·
  rintro rfl;exact ⟨rfl,rfl,rfl⟩
instance:DecidableEq Id:=fun x y=>decidable_of_iff _ (Id.ext3 x y)
abbrev IdG (x:Id):Value:=.agg x.V
theorem law_id:Keyed zp 45:=Keyed.of_law (deep_law_laid Tryz.laidOut (m:=2) (by omega) (of_decide_eq_true (by kernel_rfl)) (by kernel_rfl) (by rw [underlying45]))
theorem Zb:zp.keyType 45=true:=by kernel_rfl
theorem Qk:zp.cellsOf 45=3:=by kernel_rfl
theorem Zc:zp.cellsOf 3=1:=by kernel_rfl
theorem Ql:zp.cellsOf 43=1:=by kernel_rfl
theorem Zd:∃n,zp.types.size=n+1:=⟨zp.types.size-1,by have:0<zp.types.size:=of_decide_eq_true (by kernel_rfl);omega⟩
def Fl (x:Id):Lit:=.string (keyBytes [.int .i64 x.b,.int .i64 x.s,.int .u64 (x.u:Int)])
theorem Mu {n:Int} (h:I64 n):(Lit.int .i64 n).wf=true:=by
 have:=h.1;have:=h.2;simp [Lit.wf,IntKind.min,IntKind.max,IntKind.signed,IntKind.bits];omega
theorem Ze {n:Nat} (h:U64 n):(Lit.int .u64 (n:Int)).wf=true:=by
 have h':n<18446744073709551616:=h;simp [Lit.wf,IntKind.min,IntKind.max,IntKind.signed,IntKind.bits];omega
theorem Hr (x:Id) (h:x.ok):keyOf zp 45 (IdG x)=some (Fl x):=by
 obtain ⟨n,hn⟩:=Zd;have hu:=underlying45;have e1:=Mu h.1;have e2:=Mu h.2.1;have e3:=Ze h.2.2;unfold keyOf;rw [hu];simp only [Zb,Value.formed,hu,Qk];unfold Program.keyLits;simp only [hu];rw [hn];simp only [Program.keyLits,Value.cells,Qk];simp [List.mapM_cons,Zc,Ql,underlying3,underlying43,e1,e2,e3,Fl]
theorem Zf {x y:Id} (hx:x.ok) (hy:y.ok) (h:Fl x=Fl y):x=y:=by
 have k1:=Hr x hx;rw [h] at k1;have:=law_id.inj k1 (Hr y hy);simp only [IdG,Value.agg.injEq,Array.mk.injEq,List.cons.injEq,Value.int.injEq,true_and,and_true] at this;obtain ⟨e1,e2,e3⟩:=this
 cases x;cases y
 simp only at e1 e2 e3;subst e1;subst e2;rw [Int.ofNat.inj e3]
theorem Qm (x:Id) (h:x.ok):WideAt.IsKeyLit (Fl x):=law_id.key (Hr x h)
def MapAt (w:World) (b m:Nat) (f:Id->Option Nat):Prop:=
 ∃(n:Nat) (D:DataW Nat),w.ownsMap zp 45 (plainElem zp 3) b n D/\n<=m/\IsMap D/\(∀x i,f x=some i->i<=1000000)/\
  ∀x:Id,x.ok->has D (Fl x)=(f x).isSome/\∀i,f x=some i->∀z,D.atKey (Fl x) z=.lit (.int .i64 (i:Int))
theorem MapAt.made (w:World):MapAt (w.alloc (.map #[] 0)) w.heap.size 0 (fun _=>none):=by
 refine ⟨0,.map [],World.ownsMap_made w _ _ _,A60 _,isMap_empty,?_,?_⟩
 ·
  intro x i h
  cases h
 ·
  intro x hx;refine ⟨rfl,?_⟩;intro i h
  cases h
theorem MapAt.lt {w:World} {b m:Nat} {f:Id->Option Nat} (h:MapAt w b m f):b<w.heap.size:=by
 obtain ⟨n,D,ho,_⟩:=h;exact ho.lt
theorem MapAt.fr {S:Nat->Prop} {w w':World} {b m:Nat} {f:Id->Option Nat} (h:MapAt w b m f) (hf:Fr S w w') (hb:¬S b):MapAt w' b m f:=by
 obtain ⟨n,D,ho,hn,rest⟩:=h;obtain ⟨es,clock,hbl,r2⟩:=ho;exact ⟨n,D,⟨es,clock,(hf.block b (Array.getElem?_eq_some_iff.1 hbl).1 hb).trans hbl,r2⟩,hn,rest⟩
theorem MapAt.size {w:World} {b m:Nat} {f:Id->Option Nat} (h:MapAt w b m f) {x:Id} {i:Nat} (hx:f x=some i):i<=1000000:=by
 obtain ⟨n,D,ho,hn,hm,hs,_⟩:=h;exact hs x i hx
theorem MapAt.look {w:World} {b m:Nat} {f:Id->Option Nat} (h:MapAt w b m f) (x:Id) (hx:x.ok):
  (Instr.lookup 126 (.map (some b)) (IdG x) true).run zp w=.ok (.tuple #[.int .i64 (((f x).getD 0:Nat):Int),.bool (f x).isSome]) w:=by
 obtain ⟨n,D,ho,hn,hm,hs,hsays⟩:=h;obtain ⟨h1,h2⟩:=hsays x hx;obtain ⟨v,ps,hrun,hv⟩:=ho.look_ok law_id underlying126 (z:=.int .i64 0) (by kernel_rfl) (plainElem_int underlying3 (by decide)) (Hr x hx);rw [hrun,h1];obtain ⟨c,rfl,hc,hwc⟩:=plainElem_int_inv underlying3 hv;simp only [Prod.mk.injEq] at hc
 cases hf:f x with
 |none=>
  have h3:has D (Fl x)=false:=by rw [h1,hf];rfl
  have h4:=(atKey_of_not_has h3 (.lit (.int .i64 0))).symm.trans hc.1
  cases h4
  rfl
 |some i=>
  have h4:=(h2 i hf (.lit (.int .i64 0))).symm.trans hc.1
  cases h4
  rfl
theorem MapAt.look1 {w:World} {b m:Nat} {f:Id->Option Nat} (h:MapAt w b m f) (x:Id) (hx:x.ok):
  (Instr.lookup 126 (.map (some b)) (IdG x) false).run zp w=.ok (.int .i64 (((f x).getD 0:Nat):Int)) w:=by
 obtain ⟨n,D,ho,hn,hm,hs,hsays⟩:=h;obtain ⟨h1,h2⟩:=hsays x hx;obtain ⟨c,hrun,hc,hwc⟩:=ho.lookup_int law_id underlying126 underlying3 (by kernel_rfl) (Hr x hx);rw [hrun]
 cases hf:f x with
 |none=>
  have h3:has D (Fl x)=false:=by rw [h1,hf];rfl
  have h4:=(atKey_of_not_has h3 (.lit (.int .i64 0))).symm.trans hc
  cases h4
  rfl
 |some i=>
  have h4:=(h2 i hf (.lit (.int .i64 0))).symm.trans hc
  cases h4
  rfl
theorem MapAt.store {w:World} {b m:Nat} {f:Id->Option Nat} (h:MapAt w b m f) (x:Id) (hx:x.ok) (i:Nat) (hi:i<=1000000) (hmm:m<=100000):
  ∃w',(Instr.mapUpdate 126 (.map (some b)) (IdG x) (.int .i64 (i:Int))).run zp w=.ok () w'/\MapAt w' b (m+1) (fun y=>if y=x then some i else f y)/\w.grownBy w' (some b):=by
 obtain ⟨n,D,ho,hn,hm,hs,hsays⟩:=h;have hwi:(Lit.int .i64 (i:Int)).wf=true:=Mu ⟨by omega,by omega⟩;obtain ⟨w',hrun,hown,hg⟩:=ho.update law_id underlying126 (A76 (Nat.le_trans hn hmm) (by decide)) (Hr x hx) (plainElem_int underlying3 hwi);refine ⟨w',hrun,⟨n+1,_,hown,by omega,hm.put _ _,fun y j hj=> ?_,fun y hy=> ?_⟩,hg⟩
 ·
  by_cases e:y=x
  ·
   simp only [if_pos e] at hj
   cases hj
   exact hi
  ·
   simp only [if_neg e] at hj;exact hs y j hj
 by_cases e:y=x
 ·
  subst e;simp only [if_true];exact ⟨has_put_same hm (Qm y hy) _,fun j hj z=>by cases hj;exact atKey_put_same hm (Qm y hy) _ _⟩
 ·
  simp only [if_neg e];have hne:Fl y≠Fl x:=fun h=>e (Zf hy hx h);exact ⟨(has_put_other hne _).trans (hsays y hy).1,fun j hj z=>(atKey_put_other hne _ _).trans ((hsays y hy).2 j hj z)⟩
end Oq
end
theorem Qn {P:Program} {Q:Exit->Act->World->Prop} {l:List Oper} {md:Region.Mode} {S:World->Prop} {fuel:Nat} {listed:Array Bool} {a:Act} {w:World} (i:Nat) {d:Option Tmp} {op:Op} {ty:TypeId} {pos:String} {after:Array Edge} (hr:Region.ready md l.toArray listed=[i]) (ho:l[i]? =some ⟨d,op,ty,pos,after,none⟩)
  (h:∀K':Act->World->Prop,Shut (∀a w,S w->(S w->wpAnyH P md l.toArray Q S fuel (listed.setIfInBounds i true) a w)->K' a w)->Oper.wp P ⟨d,op,ty,pos,after,none⟩ a w K' Q):
  wpAnyH P md l.toArray Q S (fuel+1) listed a w:=
 wpAnyH_ready hr (by simp) (AllReadyH.cons (by rw [A71];exact ho) (fun K' hK=>by rw [if_pos (show Region.wanted _ _=true from rfl)];exact h K' hK) AllReadyH.nil)
theorem Ah (l:List Value) (ds:List Deferred) (i:Nat) (v:Value):(⟨l.toArray,ds⟩:Act).put (some i) v=⟨(l.set i v).toArray,ds⟩:=by simp [Act.put]
theorem Mv {P:Program} {Q:Exit->Act->World->Prop} {md:Region.Mode} {S:World->Prop} {l:List Oper} {i:Nat} {d:Tmp} {op:Op} {ty:TypeId} {pos:String} {after:Array Edge} {g:Option (Nat × Bool)} {v:Value} {fuel:Nat} {listed:Array Bool} {tl:List Value} {ds:List Deferred} {w:World} (hi:l[i]? =some ⟨some d,op,ty,pos,after,g⟩)
  (hs:Region.noSelect l.toArray=true) (hf:Region.free md l.toArray listed i=true) (hr:(Region.ready md l.toArray listed).contains i=true)
  (hQ:∀c a w,Q (.panic c) (a.put (some d) v) w->Q (.panic c) a w) (hy:YieldsIf P l.toArray S ⟨some d,op,ty,pos,after,g⟩ v ⟨tl.toArray,ds⟩) (hS:S w)
  (h:wpAnyH P md l.toArray Q S fuel (listed.setIfInBounds i true) ⟨(tl.set d v).toArray,ds⟩ w):wpAnyH P md l.toArray Q S (fuel+1) listed ⟨tl.toArray,ds⟩ w:=
 wpAnyH_take (i:=i) (by rw [A71];exact hi) hs hf hr hQ hy hS (by rw [Ah];exact h)
theorem Zg {P:Program} {Q:Exit->Act->World->Prop} {md:Region.Mode} {S:World->Prop} {l:List Oper} {i:Nat} {d:Tmp} {op:Op} {ty:TypeId} {pos:String} {after:Array Edge} {g:Option (Nat × Bool)} {fuel:Nat} {listed:Array Bool} {tl:List Value} {ds:List Deferred} {w:World} (hi:l[i]? =some ⟨some d,op,ty,pos,after,g⟩)
  (hs:Region.noSelect l.toArray=true) (hf:Region.free md l.toArray listed i=true) (hr:(Region.ready md l.toArray listed).contains i=true)
  (hQ:∀c a w,Q (.panic c) (a.put (some d) undef) w->Q (.panic c) a w) (hw:Region.wanted ⟨some d,op,ty,pos,after,g⟩ (yielded l.toArray tl.toArray)=false) (hS:S w)
  (h:wpAnyH P md l.toArray Q S fuel (listed.setIfInBounds i true) ⟨(tl.set d undef).toArray,ds⟩ w):wpAnyH P md l.toArray Q S (fuel+1) listed ⟨tl.toArray,ds⟩ w:=
 wpAnyH_take (i:=i) (by rw [A71];exact hi) hs hf hr hQ (Or.inr ⟨hw,rfl⟩) hS (by rw [Ah];exact h)
theorem Qo {P:Program} {Q:Exit->Act->World->Prop} {l:List Oper} {md:Region.Mode} {S:World->Prop} {fuel:Nat} {listed:Array Bool} {a:Act} {w:World} (i:Nat) {d:Option Tmp} {op:Op} {ty:TypeId} {pos:String} {after:Array Edge} {g:Option (Nat × Bool)} (hr:Region.ready md l.toArray listed=[i]) (ho:l[i]? =some ⟨d,op,ty,pos,after,g⟩)
  (hw:Region.wanted ⟨d,op,ty,pos,after,g⟩ (yielded l.toArray a.tmps)=true)
  (h:∀K':Act->World->Prop,Shut (∀a w,S w->(S w->wpAnyH P md l.toArray Q S fuel (listed.setIfInBounds i true) a w)->K' a w)->Oper.wp P ⟨d,op,ty,pos,after,g⟩ a w K' Q):
  wpAnyH P md l.toArray Q S (fuel+1) listed a w:=
 wpAnyH_ready hr (by simp) (AllReadyH.cons (by rw [A71];exact ho) (fun K' hK=>by rw [if_pos hw];exact h K' hK) AllReadyH.nil)
theorem oG {P:Program} {Q:Exit->Act->World->Prop} {l:List Oper} {md:Region.Mode} {S:World->Prop} {fuel:Nat} {listed:Array Bool} {a:Act} {w:World} (i:Nat) {d:Option Tmp} {op:Op} {ty:TypeId} {pos:String} {after:Array Edge} {g:Option (Nat × Bool)}
  (h:∀K':Act->World->Prop,Shut (∀a w,S w->(S w->wpAnyH P md l.toArray Q S fuel (listed.setIfInBounds i true) a w)->K' a w)->Oper.wp P ⟨d,op,ty,pos,after,g⟩ a w K' Q)
  (hr:Region.ready md l.toArray listed=[i]:=by kernel_rfl) (ho:l[i]? =some ⟨d,op,ty,pos,after,g⟩:=by rfl) (hw:Region.wanted ⟨d,op,ty,pos,after,g⟩ (yielded l.toArray a.tmps)=true:=by kernel_rfl):wpAnyH P md l.toArray Q S (fuel+1) listed a w:=Qo i hr ho hw h
theorem oD {P:Program} {Q:Exit->Act->World->Prop} {ops:Array Oper} {md:Region.Mode} {S:World->Prop} {fuel:Nat} {listed:Array Bool} {a:Act} {w:World} (h:Q .normal a w) (hr:Region.ready md ops listed=[]:=by kernel_rfl):wpAnyH P md ops Q S fuel listed a w:=wpAnyH_done hr h fuel
theorem tkH (i:Nat) {P:Program} {Q:Exit->Act->World->Prop} {md:Region.Mode} {S:World->Prop} {l:List Oper} {d:Tmp} {op:Op} {ty:TypeId} {pos:String} {after:Array Edge} {g:Option (Nat × Bool)} {v:Value} {fuel:Nat} {listed:Array Bool} {tl:List Value} {ds:List Deferred} {w:World} (hS:S w) (hi:l[i]? =some ⟨some d,op,ty,pos,after,g⟩:=by rfl)
  (hs:Region.noSelect l.toArray=true:=by kernel_rfl) (hf:Region.free md l.toArray listed i=true:=by kernel_rfl) (hr:(Region.ready md l.toArray listed).contains i=true:=by kernel_rfl)
  (hQ:∀c a w,Q (.panic c) (a.put (some d) v) w->Q (.panic c) a w:=by exact fun _ _ _ h=>h) (hy:YieldsIf P l.toArray S ⟨some d,op,ty,pos,after,g⟩ v ⟨tl.toArray,ds⟩:=by (refine Or.inl ⟨by kernel_rfl,?_⟩;intro w' hSw;(try dsimp only at hSw);(try simp only [zl]);go_simp;(try with_reducible rfl)))
  (h:wpAnyH P md l.toArray Q S fuel (listed.setIfInBounds i true) ⟨(tl.set d v).toArray,ds⟩ w):
  wpAnyH P md l.toArray Q S (fuel+1) listed ⟨tl.toArray,ds⟩ w:=Mv hi hs hf hr hQ hy hS h
theorem skH (i:Nat) {P:Program} {Q:Exit->Act->World->Prop} {md:Region.Mode} {S:World->Prop} {l:List Oper} {d:Tmp} {op:Op} {ty:TypeId} {pos:String} {after:Array Edge} {g:Option (Nat × Bool)} {fuel:Nat} {listed:Array Bool} {tl:List Value} {ds:List Deferred} {w:World} (hS:S w) (hi:l[i]? =some ⟨some d,op,ty,pos,after,g⟩:=by rfl)
  (hs:Region.noSelect l.toArray=true:=by kernel_rfl) (hf:Region.free md l.toArray listed i=true:=by kernel_rfl) (hr:(Region.ready md l.toArray listed).contains i=true:=by kernel_rfl)
  (hQ:∀c a w,Q (.panic c) (a.put (some d) undef) w->Q (.panic c) a w:=by exact fun _ _ _ h=>h) (hw:Region.wanted ⟨some d,op,ty,pos,after,g⟩ (yielded l.toArray tl.toArray)=false:=by kernel_rfl)
  (h:wpAnyH P md l.toArray Q S fuel (listed.setIfInBounds i true) ⟨(tl.set d undef).toArray,ds⟩ w):
  wpAnyH P md l.toArray Q S (fuel+1) listed ⟨tl.toArray,ds⟩ w:=Zg hi hs hf hr hQ hw hS h
inductive TkH (P:Program) (Q:Exit->Act->World->Prop) (md:Region.Mode) (S:World->Prop) (l:List Oper) (ds:List Deferred):Nat->Nat->Array Bool->List Value->Array Bool->List Value->Prop
 |nil {i:Nat} {b:Array Bool} {t:List Value}:TkH P Q md S l ds i 0 b t b t
 |cons {i n:Nat} {b b':Array Bool} {t t1 t':List Value} {d:Tmp} {op:Op} {ty:TypeId} {pos:String} {after:Array Edge} {g:Option (Nat × Bool)} {v:Value} (hi:l[i]? =some ⟨some d,op,ty,pos,after,g⟩) (hs:Region.noSelect l.toArray=true) (hf:Region.free md l.toArray b i=true) (hr:(Region.ready md l.toArray b).contains i=true)
  (hQ:∀c a w,Q (.panic c) (a.put (some d) v) w->Q (.panic c) a w) (hy:YieldsIf P l.toArray S ⟨some d,op,ty,pos,after,g⟩ v ⟨t.toArray,ds⟩) (ht:t.set d v=t1) (h:TkH P Q md S l ds (i+1) n (b.setIfInBounds i true) t1 b' t'):TkH P Q md S l ds i (n+1) b t b' t'
theorem TkH.run {P:Program} {Q:Exit->Act->World->Prop} {md:Region.Mode} {S:World->Prop} {l:List Oper} {ds:List Deferred} {i n:Nat} {b b':Array Bool} {t t':List Value} (h:TkH P Q md S l ds i n b t b' t') {fuel:Nat} {w:World} (hS:S w) (hw:wpAnyH P md l.toArray Q S fuel b' ⟨t'.toArray,ds⟩ w):wpAnyH P md l.toArray Q S (fuel+n) b ⟨t.toArray,ds⟩ w:=by
 induction h with
 |nil=>exact hw
 |cons hi hs hf hr hQ hy ht _ ih=>
  subst ht;exact Mv hi hs hf hr hQ hy hS (ih hw)
theorem tkN (i n:Nat) {P:Program} {Q:Exit->Act->World->Prop} {md:Region.Mode} {S:World->Prop} {l:List Oper} {ds:List Deferred} {b b':Array Bool} {t t':List Value} {fuel:Nat} {w:World} (hS:S w)
  (hk:TkH P Q md S l ds i n b t b' t':=by ((repeat (apply TkH.cons;rfl;kernel_rfl;kernel_rfl;kernel_rfl;exact fun _ _ _ h=>h;(refine Or.inl ⟨by kernel_rfl,?_⟩;intro w' hSw;(try dsimp only at hSw);go_simp;(try with_reducible rfl));((conv=>lhs;simp only [zl])<;>exact rfl)));exact TkH.nil))
  (h:wpAnyH P md l.toArray Q S fuel b' ⟨t'.toArray,ds⟩ w):wpAnyH P md l.toArray Q S (fuel+n) b ⟨t.toArray,ds⟩ w:=hk.run hS h
theorem skN (i n:Nat) {P:Program} {Q:Exit->Act->World->Prop} {md:Region.Mode} {S:World->Prop} {l:List Oper} {ds:List Deferred} {b b':Array Bool} {t t':List Value} {fuel:Nat} {w:World} (hS:S w)
  (hk:TkH P Q md S l ds i n b t b' t':=by ((repeat (apply TkH.cons;rfl;kernel_rfl;kernel_rfl;kernel_rfl;exact fun _ _ _ h=>h;exact Or.inr ⟨by kernel_rfl,rfl⟩;((conv=>lhs;simp only [zl])<;>exact rfl)));exact TkH.nil))
  (h:wpAnyH P md l.toArray Q S fuel b' ⟨t'.toArray,ds⟩ w):wpAnyH P md l.toArray Q S (fuel+n) b ⟨t.toArray,ds⟩ w:=hk.run hS h
namespace Oq
attribute [local go_sem] Bool.not_false Bool.not_true
structure Bg (ws:List Nat) (m:Nat->Bool):Prop where
 len:ws.length=4
 u64:∀k,ws.getD k 0<18446744073709551616
 bit:∀n,n<256->m n=(ws.getD (n/64) 0).testBit (n%64)
theorem Zh (a r:Nat):((a:Int)/2^r)=((a/2^r:Nat):Int):=by
 rw [Int.natCast_ediv,A77];rfl
theorem Zi (a r:Nat) (ha:a<18446744073709551616):(bits BinOp.and IntKind.u64 ((a:Int)/2^r) 1==1)=a.testBit r:=by
 have h1:a/2^r<18446744073709551616:=A76 (Nat.div_le_self _ _) ha;rw [Zh,show (1:Int)=((1:Nat):Int) from rfl,u64_and_nat _ 1 h1 (by decide),Nat.testBit_eq_decide_div_mod_eq,Nat.and_one_is_mod,A67,decide_eq_true_iff,beq_iff_eq];omega
theorem Zj (r:Nat) (hr:r<64):IntKind.u64.wrap (2^r)=((2^r:Nat):Int):=by
 have h1:(2:Nat)^r<18446744073709551616:=A78 (A79 (by decide) hr) (by decide);rw [show ((2:Int)^r)=((2^r:Nat):Int) from by rw [A77];rfl,IntKind.wrap_u64];generalize 2^r=p at*;omega
theorem Qp (a b:Nat) (ha:a<18446744073709551616) (hb:b<18446744073709551616):a|||b<18446744073709551616:=by
 have:a|||b<2^64:=Nat.or_lt_two_pow (by omega) (by omega);omega
theorem Qq (l:List Nat) (i k v:Nat) (hi:i<l.length):(l.set i v).getD k 0=if k=i then v else l.getD k 0:=by
 rw [A72,A72,List.getElem?_set]
 by_cases h:i=k
 · subst h;simp [hi]
 · simp [h,Ne.symm h]
theorem Bg.put {ws:List Nat} {m:Nat->Bool} (h:Bg ws m) {n:Nat} (hn:n<256):Bg (ws.set (n/64) (ws.getD (n/64) 0|||2^(n%64))) (fun k=>k==n||m k):=by
 have hl:=h.len;have hp:2^(n%64)<18446744073709551616:=A78 (A79 (by decide) (show n%64<64 by omega)) (by decide);refine ⟨by rw [List.length_set];exact hl,fun k=> ?_,fun k hk=> ?_⟩
 ·
  rw [Qq _ _ _ _ (by omega)]
  split
  · exact Qp _ _ (h.u64 _) hp
  · exact h.u64 k
 ·
  rw [Qq _ _ _ _ (by omega),h.bit k hk]
  by_cases e:k/64=n/64
  ·
   rw [if_pos e,Nat.testBit_or,Nat.testBit_two_pow,e]
   by_cases e2:k=n
   · subst e2;simp
   ·
    have e3:¬(n%64=k%64):=by omega
    have e4:(k==n)=false:=by simpa using e2
    simp [e3,e4]
  ·
   rw [if_neg e]
   have e4:(k==n)=false:=by
    have:k≠n:=fun e5=>e (by rw [e5]);simpa using this
   rw [e4,Bool.false_or]
theorem Bg.empty:Bg [0,0,0,0] (fun _=>false):=by
 refine ⟨rfl,fun k=> ?_,fun n hn=> ?_⟩
 ·
  match k with
  |0|1|2|3=>decide
  |k+4=>simp
 ·
  have hq:n/64=0\/n/64=1\/n/64=2\/n/64=3:=by omega
  rcases hq with e|e|e|e<;>rw [e]<;>simp
def orW (a b:List Nat):List Nat:=[a.getD 0 0|||b.getD 0 0,a.getD 1 0|||b.getD 1 0,a.getD 2 0|||b.getD 2 0,a.getD 3 0|||b.getD 3 0]
def Mw (a b:List Nat):List Nat:=[a.getD 0 0&&&b.getD 0 0,a.getD 1 0&&&b.getD 1 0,a.getD 2 0&&&b.getD 2 0,a.getD 3 0&&&b.getD 3 0]
theorem Mx (a b:List Nat) (k:Nat) (hk:k<4):(orW a b).getD k 0=a.getD k 0|||b.getD k 0:=by
 have hq:k=0\/k=1\/k=2\/k=3:=by omega
 rcases hq with rfl|rfl|rfl|rfl<;>rfl
theorem My (a b:List Nat) (k:Nat) (hk:k<4):(Mw a b).getD k 0=a.getD k 0&&&b.getD k 0:=by
 have hq:k=0\/k=1\/k=2\/k=3:=by omega
 rcases hq with rfl|rfl|rfl|rfl<;>rfl
theorem Bg.or {a b:List Nat} {m m':Nat->Bool} (h:Bg a m) (h':Bg b m'):Bg (orW a b) (fun k=>m k||m' k):=by
 refine ⟨rfl,fun k=> ?_,fun n hn=> ?_⟩
 ·
  rcases A69 k 4 with hk|hk
  ·
   rw [Mx a b k hk];exact Qp _ _ (h.u64 k) (h'.u64 k)
  ·
   rw [A72,A85 (by show 4<=k;exact hk)]
   decide
 · rw [Mx a b _ (by omega),Nat.testBit_or,h.bit n hn,h'.bit n hn]
theorem Bg.and {a b:List Nat} {m m':Nat->Bool} (h:Bg a m) (h':Bg b m'):Bg (Mw a b) (fun k=>m k&&m' k):=by
 refine ⟨rfl,fun k=> ?_,fun n hn=> ?_⟩
 ·
  rcases A69 k 4 with hk|hk
  ·
   rw [My a b k hk];exact A76 Nat.and_le_left (h.u64 k)
  ·
   rw [A72,A85 (by show 4<=k;exact hk)]
   decide
 · rw [My a b _ (by omega),Nat.testBit_and,h.bit n hn,h'.bit n hn]
def Ht (w:World) (g off:Nat) (ws:List Nat):Prop:=∀k,k<4->w.cell? ⟨g,off+k,none⟩=some (.int .u64 ((ws.getD k 0:Nat):Int))
theorem Zk (g off:Nat) (ws:List Nat) (m:Nat->Bool) (n:Nat) (w:World) (hs:Bg ws m) (hat:Ht w g off ws) (hn:n<256):
  Calls zp 93 #[.pointer (some ⟨g,off,none⟩),.int .i64 (n:Int)] w fun e w'=>e=.returned (.bool (m n))/\w=w':=by
 have hb:=hs.bit n hn;have hc:=hat (n/64) (by omega);have hu:=hs.u64 (n/64);generalize ws.getD (n/64) 0=wd at*;have e1:(n:Int).tdiv 64=((n/64:Nat):Int):=by rw [A86 (by omega)];omega
 have e2:(n:Int).tmod 64=((n%64:Nat):Int):=by rw [A87 (by omega)];omega
 obtain ⟨q,hq⟩:∃q,q=n/64:=⟨_,rfl⟩;obtain ⟨r,hr⟩:∃r,r=n%64:=⟨_,rfl⟩;rw [<- hq] at e1 hc;rw [<- hr] at e2 hb;have q1:(0:Int)<=q:=by omega
 have q2:(q:Int)<4:=by omega
 have q3:(q:Int).toNat=q:=by omega
 have r1:¬((r:Int)<0):=by omega
 have r2:(r:Int).toNat=r:=by omega
 have r3:r<64:=by omega
 rw [hb];clear hs hat hb hq hr;go_enter func93,ntmps93;go_wp2
 go_ret
 refine ⟨zeB ?_,rfl⟩;exact Zi wd r hu
theorem Zl (g off:Nat) (ws:List Nat) (m:Nat->Bool) (n:Nat) (w:World) (hs:Bg ws m) (hat:Ht w g off ws) (hfr:∀k,k<4->w.frozen? ⟨g,off+k,none⟩=false) (hn:n<256):
  Calls zp 91 #[.pointer (some ⟨g,off,none⟩),.int .i64 (n:Int)] w fun e w'=>e=.returned (.tuple #[])/\∃k,w'=(w.drewN k).setCell ⟨g,off+n/64,none⟩ (.int .u64 ((ws.getD (n/64) 0|||2^(n%64):Nat):Int)):=by
 have hc:=hat (n/64) (by omega);have hz:=hfr (n/64) (by omega);have hu:=hs.u64 (n/64);generalize ws.getD (n/64) 0=wd at*;have e1:(n:Int).tdiv 64=((n/64:Nat):Int):=by rw [A86 (by omega)];omega
 have e2:(n:Int).tmod 64=((n%64:Nat):Int):=by rw [A87 (by omega)];omega
 obtain ⟨q,hq⟩:∃q,q=n/64:=⟨_,rfl⟩;obtain ⟨r,hr⟩:∃r,r=n%64:=⟨_,rfl⟩;rw [<- hq] at e1 hc hz ⊢;rw [<- hr] at e2 ⊢;have q1:(0:Int)<=q:=by omega
 have q2:(q:Int)<4:=by omega
 have q3:(q:Int).toNat=q:=by omega
 have r1:¬((r:Int)<0):=by omega
 have r2:(r:Int).toNat=r:=by omega
 have r3:r<64:=by omega
 have q4:=iw (q:Int);have r4:=iw (r:Int);have s1:=Zj r r3;have hp:2^r<18446744073709551616:=A78 (A79 (by decide) r3) (by decide);have s2:=u64_or_nat wd (2^r) hu hp;clear hs hat hfr hq hr;go_enter func91,ntmps91;go_wp2_with fail;refine wp_region_held_drew (S:=(fun _=>True)) (by kernel_rfl) trivial (fun hHeld=> ?_);clear hHeld;have hS:(fun _:World=>True) w.drew:=trivial;have hc':cU w.drew g (off+q) wd:=hc;have hz':w.drew.frozen? ⟨g,off+q,none⟩=false:=hz;refine tkN 0 5 hS (h:=tkN 6 3 hS (h:=tkN 10 1 hS (h:=?_)));refine oG 5 (fun K hK=> ?_);go_simp;refine hK.out _ _ trivial (fun _=> ?_);clear hK K;try simp only [Ah,zl]
 refine tkN 9 1 hS (h:=tkN 11 1 hS (h:=?_));refine oG 12 (fun K hK=> ?_);go_simp;refine hK.out _ _ trivial (fun _=> ?_);clear hK K;try simp only [Ah,zl]
 refine oD ?_;go_simp;go_wp2_with fail
 go_end0
 refine ⟨rfl,1,?_⟩;rw [show ((2:Int)^r)=((2^r:Nat):Int) from by rw [A77];rfl,s2];rfl
def Eu (cs:Array Value) (off:Nat) (v:Nat->Value):Nat->Array Value
 |0=>cs
 |i+1=>(Eu cs off v i).setIfInBounds (off+i) (v i)
theorem Qr (cs:Array Value) (off:Nat) (v:Nat->Value) (i j:Nat) (h:j<off\/off+i<=j):(Eu cs off v i)[j]? =cs[j]? :=by
 induction i with
 |zero=>rfl
 |succ i ih=>
  rw [Eu,Array.getElem?_setIfInBounds_ne (by omega)];exact ih (by omega)
def J5 (cs:Array Value) (off:Nat) (ws:List Nat):Array Value:=Eu cs off (fun k=> .int .u64 ((ws.getD k 0:Nat):Int)) 4
theorem Qs (g off:Nat) (t:TypeId) (cs:Array Value) (ws:List Nat) (t0 t1 t2 t3:Nat) (m m':Nat->Bool) (w:World) (hs:Bg ws m) (hs':Bg [t0,t1,t2,t3] m') (hb:Blk w g t cs) (hat:Ht w g off ws):
  Calls zp 92 #[.pointer (some ⟨g,off,none⟩),.agg #[.int .u64 (t0:Int),.int .u64 (t1:Int),.int .u64 (t2:Int),.int .u64 (t3:Int)]] w fun e w'=>e=.returned (.tuple #[])/\Blk w' g t (J5 cs off (orW ws [t0,t1,t2,t3]))/\Fr (One g) w w':=by
 obtain ⟨ts,ad⟩:∃ts,ts=[t0,t1,t2,t3]:=⟨_,rfl⟩;rw [<- ad] at hs' ⊢
 have hT:∀k,k<4->(w.alloc (.cells #[.int .u64 (t0:Int),.int .u64 (t1:Int),.int .u64 (t2:Int),.int .u64 (t3:Int)] 132)).cell? ⟨w.heap.size,k,none⟩=some (.int .u64 ((ts.getD k 0:Nat):Int)):=by
  intro k hk;have hq:k=0\/k=1\/k=2\/k=3:=by omega
  have hn:=Blk.new w 132 #[.int .u64 (t0:Int),.int .u64 (t1:Int),.int .u64 (t2:Int),.int .u64 (t3:Int)];rw [ad]
  rcases hq with rfl|rfl|rfl|rfl
  · exact hn.cell 0
  · exact hn.cell 1
  · exact hn.cell 2
  · exact hn.cell 3
 have ag:=hb.alloc (.cells #[.int .u64 (t0:Int),.int .u64 (t1:Int),.int .u64 (t2:Int),.int .u64 (t3:Int)] 132);have f0:Fr (One g) w (w.alloc (.cells #[.int .u64 (t0:Int),.int .u64 (t1:Int),.int .u64 (t2:Int),.int .u64 (t3:Int)] 132)):=(Fr.refl _ w).alloc _;have ak:=hb.lt;have af:∀k,k<4->cs[off+k]? =some (.int .u64 ((ws.getD k 0:Nat):Int)):=fun k hk=>by rw [<- hb.cell];exact hat k hk
 obtain ⟨vf,ac⟩:∃vf:Nat->Value,vf=fun k=> .int .u64 (((orW ws ts).getD k 0:Nat):Int):=⟨_,rfl⟩;have ab:Hid (J5 cs off (orW ws ts)=Eu cs off vf 4):=by show _=_;rw [ac];rfl
 rw [ab.out]
 have ah:Hid (∀k,k<4->vf k=.int .u64 (bits .or .u64 ((ws.getD k 0:Nat):Int) ((ts.getD k 0:Nat):Int))):=fun k hk=>by
  rw [ac,u64_or_nat _ _ (hs.u64 k) (hs'.u64 k),<- Mx ws ts k hk]
 have ai:=lh hT;have ae:=lh af;clear hat af hs hs' ac ab hT hb ad;go_enter func92,ntmps92;go_upto_region 1 with (fail)
 generalize hA:w.alloc (.cells #[.int .u64 (t0:Int),.int .u64 (t1:Int),.int .u64 (t2:Int),.int .u64 (t3:Int)] 132)=w0 at*;clear hA;go_wp2_with fail
 go_loopw [5] (fun v wr=>∃i:Nat,v=.int .i64 (i:Int)/\i<=4/\Blk wr g t (Eu cs off vf i)/\Fr (One g) w0 wr) (fun v _=>4-(intOf v).toNat)
 case atStart=>exact ⟨0,rfl,by omega,ag,Fr.refl _ _⟩
 case round=>
  obtain ⟨i,rfl,al,aa,hf⟩:=hrel
  by_cases hlt:i<4
  ·
   have i1:(0:Int)<=i:=by omega
   have i2:(i:Int)<4:=by omega
   have i3:(i:Int).toNat=i:=by omega
   have i4:=iw (i:Int);have c1:wr.cell? ⟨g,off+i,none⟩=some (.int .u64 ((ws.getD i 0:Nat):Int)):=by rw [aa.cell,Qr _ _ _ _ _ (by omega)];exact ae.out i hlt
   have c2:wr.cell? ⟨w.heap.size,i,none⟩=some (.int .u64 ((ts.getD i 0:Nat):Int)):=hf.cell (ai.out i hlt) (by show ¬w.heap.size=g;omega);have z1:=aa.frozen (off+i);have aj:=lh (ah.out i hlt);generalize ws.getD i 0=wi at*;generalize ts.getD i 0=ti at*;go_upto_region 4 with (fail)
   refine wp_region_held_drew (S:=(fun w'=>w'.cell? ⟨w.heap.size,i,none⟩=some (.int .u64 (ti:Int)))) (by kernel_rfl) c2 (fun hHeld=> ?_);clear hHeld;have hS:(fun w':World=>w'.cell? ⟨w.heap.size,i,none⟩=some (.int .u64 (ti:Int))) wr.drew:=c2;replace c1:wr.drew.cell? ⟨g,off+i,none⟩=some (.int .u64 (wi:Int)):=c1;replace z1:wr.drew.frozen? ⟨g,off+i,none⟩=false:=z1;replace aa:Blk wr.drew g t (Eu cs off vf i):=aa;replace hf:=hf.drew;generalize wr.drew=wq at*;refine tkN 0 4 hS (h:=tkN 5 3 hS (h:=tkN 9 1 hS (h:=?_)));refine oG 4 (fun K hK=> ?_);go_simp;refine hK.out _ _ hS (fun _=> ?_);clear hK K;try simp only [Ah,zl]
   refine tkN 8 1 hS (h:=tkN 10 1 hS (h:=?_));refine oG 11 (fun K hK=> ?_);go_simp;refine hK.out _ _ (by rw [World.cell?_setCell_far _ _ _ _ (by show g≠w.heap.size;omega)];exact hS) (fun _=> ?_);clear hK K;try simp only [Ah,zl]
   refine oD ?_;go_simp;go_wp2_with fail;go_roundw
   case rel=>exact ⟨i+1,by go_num,by omega,by rw [Eu,aj.out];exact aa.set _ _,hf.setOne _ _⟩
   case measure=>simp [intOf];omega
  ·
   obtain rfl:i=4:=by omega
   go_wp2_with fail
   go_end0
   exact ⟨rfl,aa,f0.transOne hf⟩
end Oq
namespace Oq
structure Cd where
 d:Int
 m:Int
 l:Nat
 k:Nat
 s:Nat
def Cd.cells (c:Cd):List Value:=[.int .i64 c.d,.int .i64 c.m,.int .u64 (c.l:Int),.int .u64 (c.k:Int),.int .u64 (c.s:Int)]
theorem Zm (d m:Int) (l k s:Nat):(Cd.mk d m l k s).cells=[.int .i64 d,.int .i64 m,.int .u64 (l:Int),.int .u64 (k:Int),.int .u64 (s:Int)]:=rfl
end Oq
namespace Oq
attribute [local go_sem] Bool.not_false Bool.not_true
theorem Zn (l:List Id) (k:Nat) (x y:Id) (h:l[k]? =some y):Bd (l.take (k+1)) x=(Bd (l.take k) x||Id.eq y x):=by
 obtain ⟨hk,rfl⟩:=List.getElem?_eq_some_iff.1 h;rw [A73 hk];unfold Bd;rw [List.any_append];simp
theorem Hu (l:List Id) (x:Id):Bd l x=true<->x∈l:=by
 unfold Bd;rw [List.any_eq_true];exact ⟨fun ⟨y,hy,he⟩=>by rw [<- (Id.eq_iff y x).1 he];exact hy,fun h=>⟨x,h,(Id.eq_iff x x).2 rfl⟩⟩
theorem Zo (l:List Id) (k:Nat) (x:Id) (h:Bd (l.take k) x=true):Bd l x=true:=
 (Hu _ _).2 (A88 ((Hu _ _).1 h))
theorem Fz (x y:Id) (w:World):(Op.equalIn 10000 45 (.agg x.V) (.agg y.V)).run zp w=.ok (Id.eq x y) w:=by
 have hS:zp.underlying 45=some (.struct (zp.fieldsOf 45)):=by kernel_rfl
 have hp:zp.stoodInHeld 45=false:=by kernel_rfl
 rw [show (10000:Nat)=9999+1 from rfl,run_equalIn_agg w 9999 45 _ _ hS hp];simp only [Program.fieldsOf,underlying45];have e3:((x.u:Int)==(y.u:Int))=(x.u==y.u):=by rw [A67];simp;omega
 unfold Id.eq;go_simp
 by_cases h1:x.b=y.b<;>by_cases h2:x.s=y.s<;>by_cases h3:x.u=y.u<;>simp [h1,h2,h3]
attribute [local go_sem ↓] Fz
theorem Qt:zp.eqGuardType zp.depth 45=false:=by kernel_rfl
theorem Qu (B n c:Nat) (A:Option Addr) (l:List Id) (x:Id) (w:World) (hn:Hid (l.length=n)) (hr:Rd w B 3 A n (l.flatMap Id.cells)) (hnm:n<=1000000):
  Calls zp 30 #[.slice A n c,.agg x.V] w (Ae (Bd l x) w):=by
 have hb0:=Blk.new w 45 x.V;go_enter func30,ntmps30;go_wp2
 go_loopw [5] (fun v wr=>∃k:Nat,v=.int .i64 (k:Int)/\k<=n/\Hid (Bd (l.take k) x=false)/\Fr Non (w.alloc (.cells x.V 45)) wr) (fun v _=>n-(intOf v).toNat)
 case atStart=>exact ⟨0,rfl,by omega,rfl,Fr.refl _ _⟩
 case round=>
  obtain ⟨k,rfl,hk,hh,hf⟩:=hrel
  by_cases hlt:k<n
  ·
   obtain ⟨y,hy⟩:∃y,l[k]? =some y:=⟨_,A62 (by rw [hn.out];exact hlt)⟩;obtain ⟨b,off,rfl,hbB,k0,k1,k2⟩:=Id.at ((hr.alloc _).fr hf zr) hy;have hsn:=lh (Zn l k x y hy);clear hy;have hb:=hb0.fr hf zq;have c0:=hb.cell 0;have c1:=hb.cell 1;have c2:=hb.cell 2;obtain ⟨i1,i2,i3⟩:=ix k n
   have hm:=Qt
   by_cases he:Id.eq y x=true
   ·
    have hfin:Hid (Bd l x=true):=Zo l (k+1) x (by rw [hsn.out,he];simp);go_wp2
    go_quiet (fail)
    go_wp2
    go_ret
    exact ⟨by rw [hfin.out];rfl,(((Fr.refl Non w).alloc _).trans hf zr).drewN _⟩
   ·
    have he:=A80 _▸he;have hfin:Hid (Bd (l.take (k+1)) x=false):=by show _=_;rw [hsn.out,he,hh.out];rfl
    go_wp2
    go_quiet (fail)
    go_wp2;go_roundw
    case rel=>exact ⟨k+1,by go_num,by omega,hfin,hf.drewN _⟩
    case measure=>simp [intOf];omega
  ·
   obtain rfl:k=n:=by omega
   have hfin:Hid (Bd l x=false):=by have h:=hh.out;rw [A64 (by rw [hn.out];omega)] at h;exact h
   go_wp2
   go_ret
   exact ⟨by rw [hfin.out];rfl,((Fr.refl Non w).alloc _).trans hf zr⟩
theorem Rd.partN {w:World} {B size n:Nat} {A:Option Addr} {xs:List Value} (h:Rd w B size A n xs) {lo hi:Nat} (h1:lo<=hi) (h2:hi<=n) (A':Option Addr)
  (hA:lo<hi->A'=A.map (·.add (lo*size))):Rd w B size A' (hi-lo) ((xs.drop (lo*size)).take ((hi-lo)*size)):=by
 have hl:=h.1;have e1:=Nat.mul_le_mul_right size h2;have e2:(hi-lo)*size+lo*size=hi*size:=by rw [<- A81,Nat.sub_add_cancel h1]
 refine ⟨by simp;omega,?_⟩
 rcases A69 lo hi with hlt|hge
 ·
  rcases h.2 with h0|⟨b,off,e,hb,hc⟩
  · omega
  ·
   refine .inr ⟨b,off+lo*size,?_,hb,?_⟩
   ·
    rw [hA hlt,e];simp only [Option.map_some,Addr.add]
    split
    ·
     rename_i h0;rw [h0];rfl
    · rfl
   ·
    intro j u hu;rw [List.getElem?_take] at hu
    split at hu
    ·
     rw [List.getElem?_drop] at hu;rw [Nat.add_assoc];exact hc _ _ hu
    · cases hu
 · exact .inl (by omega)
theorem Zp {α:Type} {f:α->List Value} {size:Nat} (hf:∀x,(f x).length=size) (l:List α) (m:Nat):(l.flatMap f).drop (m*size)=(l.drop m).flatMap f:=by
 induction l generalizing m with
 |nil=>simp
 |cons y l ih=>
  match m with
  |0=>simp
  |m+1=>
   rw [A70,List.drop_succ_cons,List.drop_append,hf,List.drop_of_length_le (by rw [hf,A81];omega),A82,show (m+1)*size-size=m*size by rw [A81];omega,ih]
theorem Id.cells_len (x:Id):x.cells.length=3:=rfl
theorem Id.cells_one (l:List Id):∀u∈l.flatMap Id.cells,u.oneCell'=true:=by
 intro u hu;obtain ⟨x,_,hx⟩:=List.mem_flatMap.1 hu;unfold Id.cells at hx;simp at hx
 rcases hx with rfl|rfl|rfl<;>rfl
theorem Qw (l:List Id) (a b:Nat):∀u∈((l.flatMap Id.cells).drop a).take b,u.oneCell'=true:=fun u hu=>Id.cells_one l u (List.mem_of_mem_drop (A88 hu))
theorem add_zero (A:Option Addr):A=A.map (·.add (0*3)):=by
 cases A with
 |none=>rfl
 |some a=>rw [Nat.zero_mul];rfl
theorem Qx (l:List Id) (x:Id):(ins l x).length=l.length+1:=by
 unfold ins;have h:(l.take (Bw x l l.length)).length+(l.drop (Bw x l l.length)).length=l.length:=by rw [<- A59,A83]
 rw [A59,A59,List.length_singleton];omega
theorem Qy (xs:List Id) (x:Id) {i K:Nat} (hl:xs.length=i) (hk:Bw x xs i=K):
  (xs.take K).flatMap Id.cells++[.int .i64 x.b,.int .i64 x.s,.int .u64 (x.u:Int)]++((xs.flatMap Id.cells).drop (K*3)).take ((i-K)*3)=(ins xs x).flatMap Id.cells:=by
 rw [Zp Id.cells_len,Ma Id.cells_len,A64 (l:=xs.drop K) (by rw [A89,hl];exact A60 _)];unfold ins;rw [hl,hk,A74,A74,A70,A84,A75];rfl
theorem Zq (l:List Id) (k:Nat) (x:Id) (h:l[k]? =some x):Ba (l.take (k+1))=ins (Ba (l.take k)) x:=by
 obtain ⟨hk,rfl⟩:=List.getElem?_eq_some_iff.1 h;rw [A73 hk];unfold Ba;rw [List.foldl_append];rfl
theorem Zr (x y:Id) (l:List Id) (k:Nat) (h:l[k]? =some y):Bw x l (k+1)=if Id.less x y then Bw x l k else k+1:=by
 show (match l[k]? with|some y=>if Id.less x y then Bw x l k else k+1|none=>k+1)=_;rw [h]
def Qz (l:List Id) (n:Nat) (w:World) (r:Ending) (w':World):Prop:=
 ∃A c,r=.returned (.slice A n c)/\Own w' w.heap.size 45 3 A n c ((Ba l).flatMap Id.cells)/\Fr Non w w'
theorem Q4 (B n c:Nat) (A:Option Addr) (l:List Id) (w:World) (hn:Hid (l.length=n)) (hr:Rd w B 3 A n (l.flatMap Id.cells)) (hnm:n<=1000000):
  Calls zp 14 #[.slice A n c] w (Qz l n w):=by
 go_enter func14,ntmps14;go_wp2
 go_loopw [3,4] (fun s v wr=>∃(i:Nat) (Ax:Option Addr) (cx:Nat) (xs:List Id),v=.int .i64 (i:Int)/\s=.slice Ax i cx/\i<=n/\Hid (xs=Ba (l.take i))/\Hid (xs.length=i)/\
  Own wr w.heap.size 45 3 Ax i cx (xs.flatMap Id.cells)/\Fr Non w wr) (fun _ v _=>n-(intOf v).toNat)
 case atStart=>exact ⟨0,none,0,[],rfl,rfl,by omega,rfl,rfl,Own.nil _ _ _ _,Fr.refl _ _⟩
 case round=>
  obtain ⟨i,Ax,cx,xs,rfl,rfl,hi,a1,a0,af,hf⟩:=hrel
  by_cases hlt:i<n
  ·
   obtain ⟨x,hx⟩:∃x,l[i]? =some x:=⟨_,A62 (by rw [hn.out];exact hlt)⟩;obtain ⟨b,ah,rfl,bl,k0,k1,k2⟩:=Id.at (hr.fr hf zr) hx;have bb:=lh (Zq l i x hx);clear hx;have bh:=af.cap;obtain ⟨wo,bg⟩:∃wo:World,wo=wr:=⟨_,rfl⟩;subst bg;go_wp2
   go_loopw [5] (fun v wi=>∃k:Nat,v=.int .i64 (k:Int)/\k<=i/\Hid (Bw x xs i=Bw x xs k)/\Fr Non wo wi) (fun v _=>(intOf v).toNat)
   case atStart=>exact ⟨i,rfl,by omega,rfl,Fr.refl _ _⟩
   case round=>
    obtain ⟨k,rfl,hk,av,ag⟩:=hrel
    rcases Nat.eq_zero_or_pos k with h0|h0
    ·
     subst h0;have ba:=lh av.out;have bj:=ag.size;have bf:=hf.size;have ad:=af.fr ag zr;have ay:=Own.nil wr w.heap.size 45 3;have aj:=ad.rd.takeN (m:=0) (by omega);rw [Ma Id.cells_len] at aj;have bd:=ad.row;obtain ⟨G0,G1,G2⟩:=zk3 ag k0 k1 k2;go_upto_region 10 with (fail)
     have nA:∀k,Ad Ax=some k->k<wo.heap.size:=fun k hk=>(af.row k hk).2
     go_wp2_with (first
      |(at_builtin;go_loud (refine Av (base:=w.heap.size) (.tmp 30) (.tmp 33) 25 rfl rfl rfl rfl Ds ay aj (Id.cells_one _) (by omega) (by omega) (by omega) ?_);intro A1 c1 w2 ai a8 al;have aa:Fr Non _ w2:=a8.mono (fun k _ hk=>by cases hk);have bi:=aa.size;obtain ⟨H0,H1,H2⟩:=zk3 aa G0 G1 G2;have az:∀k,Ad A1=some k->wo.heap.size<=k:=fun k hk=>(by rcases al with e|e;(rw [e] at hk;cases hk);(rw [e] at hk;injection hk with hk;omega));clear al;rw [Nat.zero_add,A82] at ai)
      |(at_builtin;go_loud (refine Av (base:=w.heap.size) (.tmp 35) (.tmp 40) 25 rfl rfl rfl rfl Ds (ai.alloc (.cells x.V 45)) (Rd.blk (n:=1) (size:=3) (Blk.new w2 45 x.V) rfl) (by simp [Value.oneCell']) (by omega) (by omega) (by rw [A63];omega) ?_);intro A2 c2 w3 ax ar ap;have a4:=ar.size;rw [A63] at a4;have a5:∀k,Ad A2=some k->wo.heap.size<=k:=fun k hk=>(by rcases ap with e|e;(rw [e] at hk;exact az k hk);(rw [e,A63] at hk;injection hk with hk;omega));clear ap;have ao:=((ad.fr aa zr).alloc (.cells x.V 45)).fr ar (fun k hk e=>by have e1:=az k e;have e2:=nA k hk;omega))
      |(at_builtin;go_loud (refine Av (base:=w.heap.size) (.tmp 42) (.tmp 45) 25 rfl rfl rfl rfl Ds ax (Rd.partN ao.rd (lo:=0) (hi:=i) (by omega) (A60 _) _ (fun hlt=>add_zero Ax)) (Qw _ _ _) (by omega) (by omega) (by omega) ?_);intro A3 c3 w4 au a6 a3))
     have ak:Hid (ins xs x=Ba (l.take (i+1))):=by show _=_;rw [bb.out,<- a1.out]
     have ae:(xs.take (0)).flatMap Id.cells++[.int .i64 x.b,.int .i64 x.s,.int .u64 (x.u:Int)]++((xs.flatMap Id.cells).drop ((0)*3)).take ((i-(0))*3)=(ins xs x).flatMap Id.cells:=by
      exact Qy xs x a0.out (ba.out)
     have a9:Fr Non w w4:=(((hf.trans ag zr).trans aa zr).alloc (.cells x.V 45)).trans ar (fun k hk e=>by have:=az k e;omega)|>.trans a6 (fun k hk e=>by have:=a5 k e;omega);go_roundw
     case rel=>exact ⟨i+1,A3,c3,ins xs x,by go_num,by first|rfl|(congr 1;omega),by omega,ak,by show _=_;rw [Qx,a0.out],by rw [<- ae,show i+1=0+1+(i-(0)) by omega];exact au,a9⟩
     case measure=>simp [intOf];omega
    ·
     obtain ⟨j,rfl⟩:∃j,k=j+1:=⟨k-1,by omega⟩;obtain ⟨y,hy⟩:∃y,xs[j]? =some y:=⟨_,A62 (by rw [a0.out];omega)⟩;obtain ⟨b2,ab,be,bk,m0,m1,m2⟩:=Id.at (af.rd.fr ag zr) hy;subst be;have bc:=lh (Zr x y xs j hy);clear hy;obtain ⟨K0,K1,K2⟩:=zk3 ag k0 k1 k2
     by_cases hL:Id.less x y=true
     ·
      have a7:Hid (Bw x xs i=Bw x xs j):=by show _=_;rw [av.out,bc.out,if_pos hL]
      go_upto_region 7 with (fail)
      have e1:IntKind.i64.wrap (((j+1:Nat):Int)-1)=(j:Int):=by rw [show ((j+1:Nat):Int)-1=j by omega];exact IntWalk.i64_in _ (by omega)
      have a2:IntKind.i64.wrap ((j:Int)+1-1)=(j:Int):=by rw [show (j:Int)+1-1=j by omega];exact IntWalk.i64_in _ (by omega)
      have aw:=iw (j:Int);obtain ⟨e2,e3,e4⟩:=ix j i
      obtain ⟨f2,f3,f4⟩:=ix i n
      have D0:wr.drew.cell? ⟨b,ah+i*3,none⟩=some (.int .i64 x.b):=K0;have D1:wr.drew.cell? ⟨b,ah+i*3+1,none⟩=some (.int .i64 x.s):=K1;have D2:wr.drew.cell? ⟨b,ah+i*3+2,none⟩=some (.int .u64 (x.u:Int)):=K2;have M0:wr.drew.cell? ⟨b2,ab+j*3,none⟩=some (.int .i64 y.b):=m0;have M1:wr.drew.cell? ⟨b2,ab+j*3+1,none⟩=some (.int .i64 y.s):=m1;have M2:wr.drew.cell? ⟨b2,ab+j*3+2,none⟩=some (.int .u64 (y.u:Int)):=m2
      go_region_held3 (fun w'=>w'.cell? ⟨b,ah+i*3,none⟩=some (.int .i64 x.b)/\w'.cell? ⟨b,ah+i*3+1,none⟩=some (.int .i64 x.s)/\w'.cell? ⟨b,ah+i*3+2,none⟩=some (.int .u64 (x.u:Int))/\w'.cell? ⟨b2,ab+j*3,none⟩=some (.int .i64 y.b)/\w'.cell? ⟨b2,ab+j*3+1,none⟩=some (.int .i64 y.s)/\w'.cell? ⟨b2,ab+j*3+2,none⟩=some (.int .u64 (y.u:Int))) ((and_intros<;>assumption)) (first
       |(go_at_call 46;(with_reducible refine (Mq x y _).mono ?_);rintro _ w1 ⟨rfl,ac⟩;obtain ⟨D0,D1,D2,M0,M1,M2⟩:=zk6 ac D0 D1 D2 M0 M1 M2))
      clear e1 a2 aw e2 e3 e4 f2 f3 f4;have aq:=(ag.drew).trans ac zr;go_wp2;go_roundw
      case rel=>exact ⟨j,by go_num,by omega,a7,aq⟩
      case measure=>first|(simp [intOf];done)|(simp [intOf];omega)
     ·
      have ba:Hid (Bw x xs i=j+1):=by show _=_;rw [av.out,bc.out,if_neg hL]
      have hL:=A80 _▸hL;go_upto_region 7 with (fail)
      have e1:IntKind.i64.wrap (((j+1:Nat):Int)-1)=(j:Int):=by rw [show ((j+1:Nat):Int)-1=j by omega];exact IntWalk.i64_in _ (by omega)
      have a2:IntKind.i64.wrap ((j:Int)+1-1)=(j:Int):=by rw [show (j:Int)+1-1=j by omega];exact IntWalk.i64_in _ (by omega)
      have aw:=iw (j:Int);obtain ⟨e2,e3,e4⟩:=ix j i
      obtain ⟨f2,f3,f4⟩:=ix i n
      have D0:wr.drew.cell? ⟨b,ah+i*3,none⟩=some (.int .i64 x.b):=K0;have D1:wr.drew.cell? ⟨b,ah+i*3+1,none⟩=some (.int .i64 x.s):=K1;have D2:wr.drew.cell? ⟨b,ah+i*3+2,none⟩=some (.int .u64 (x.u:Int)):=K2;have M0:wr.drew.cell? ⟨b2,ab+j*3,none⟩=some (.int .i64 y.b):=m0;have M1:wr.drew.cell? ⟨b2,ab+j*3+1,none⟩=some (.int .i64 y.s):=m1;have M2:wr.drew.cell? ⟨b2,ab+j*3+2,none⟩=some (.int .u64 (y.u:Int)):=m2
      go_region_held3 (fun w'=>w'.cell? ⟨b,ah+i*3,none⟩=some (.int .i64 x.b)/\w'.cell? ⟨b,ah+i*3+1,none⟩=some (.int .i64 x.s)/\w'.cell? ⟨b,ah+i*3+2,none⟩=some (.int .u64 (x.u:Int))/\w'.cell? ⟨b2,ab+j*3,none⟩=some (.int .i64 y.b)/\w'.cell? ⟨b2,ab+j*3+1,none⟩=some (.int .i64 y.s)/\w'.cell? ⟨b2,ab+j*3+2,none⟩=some (.int .u64 (y.u:Int))) ((and_intros<;>assumption)) (first
       |(go_at_call 46;(with_reducible refine (Mq x y _).mono ?_);rintro _ w1 ⟨rfl,ac⟩;obtain ⟨D0,D1,D2,M0,M1,M2⟩:=zk6 ac D0 D1 D2 M0 M1 M2))
      clear e1 a2 aw e2 e3 e4 f2 f3 f4;have aq:=(ag.drew).trans ac zr;have bj:=aq.size;have bf:=hf.size;have ad:=af.fr aq zr;have ay:=Own.nil w1 w.heap.size 45 3;have aj:=ad.rd.takeN (m:=j+1) (by omega);rw [Ma Id.cells_len] at aj;have bd:=ad.row;obtain ⟨G0,G1,G2⟩:=zk3 aq k0 k1 k2;go_upto_region 10 with (fail)
      have nA:∀k,Ad (some (⟨b2,ab,none⟩:Addr))=some k->k<wo.heap.size:=fun k hk=>(af.row k hk).2
      go_wp2_with (first
       |(at_builtin;go_loud (refine Av (base:=w.heap.size) (.tmp 30) (.tmp 33) 25 rfl rfl rfl rfl Ds ay aj (Id.cells_one _) (by omega) (by omega) (by omega) ?_);intro A1 c1 w2 ai a8 al;have aa:Fr Non _ w2:=a8.mono (fun k _ hk=>by cases hk);have bi:=aa.size;obtain ⟨H0,H1,H2⟩:=zk3 aa G0 G1 G2;have az:∀k,Ad A1=some k->wo.heap.size<=k:=fun k hk=>(by rcases al with e|e;(rw [e] at hk;cases hk);(rw [e] at hk;injection hk with hk;omega));clear al;rw [Nat.zero_add,A82] at ai)
       |(at_builtin;go_loud (refine Av (base:=w.heap.size) (.tmp 35) (.tmp 40) 25 rfl rfl rfl rfl Ds (ai.alloc (.cells x.V 45)) (Rd.blk (n:=1) (size:=3) (Blk.new w2 45 x.V) rfl) (by simp [Value.oneCell']) (by omega) (by omega) (by rw [A63];omega) ?_);intro A2 c2 w3 ax ar ap;have a4:=ar.size;rw [A63] at a4;have a5:∀k,Ad A2=some k->wo.heap.size<=k:=fun k hk=>(by rcases ap with e|e;(rw [e] at hk;exact az k hk);(rw [e,A63] at hk;injection hk with hk;omega));clear ap;have ao:=((ad.fr aa zr).alloc (.cells x.V 45)).fr ar (fun k hk e=>by have e1:=az k e;have e2:=nA k hk;omega))
       |(at_builtin;go_loud (refine Av (base:=w.heap.size) (.tmp 42) (.tmp 45) 25 rfl rfl rfl rfl Ds ax (Rd.partN ao.rd (lo:=j+1) (hi:=i) (by omega) (A60 _) _ (fun hlt=>if_neg (by omega))) (Qw _ _ _) (by omega) (by omega) (by omega) ?_);intro A3 c3 w4 au a6 a3))
      have ak:Hid (ins xs x=Ba (l.take (i+1))):=by show _=_;rw [bb.out,<- a1.out]
      have ae:(xs.take (j+1)).flatMap Id.cells++[.int .i64 x.b,.int .i64 x.s,.int .u64 (x.u:Int)]++((xs.flatMap Id.cells).drop ((j+1)*3)).take ((i-(j+1))*3)=(ins xs x).flatMap Id.cells:=by
       exact Qy xs x a0.out (ba.out)
      have a9:Fr Non w w4:=(((hf.trans aq zr).trans aa zr).alloc (.cells x.V 45)).trans ar (fun k hk e=>by have:=az k e;omega)|>.trans a6 (fun k hk e=>by have:=a5 k e;omega);go_roundw
      case rel=>exact ⟨i+1,A3,c3,ins xs x,by go_num,by first|rfl|(congr 1;omega),by omega,ak,by show _=_;rw [Qx,a0.out],by rw [<- ae,show i+1=j+1+1+(i-(j+1)) by omega];exact au,a9⟩
      case measure=>simp [intOf];omega
  ·
   obtain rfl:i=n:=by omega
   have ak:Hid (xs=Ba l):=by have h:=a1.out;rw [A64 (by rw [hn.out];omega)] at h;exact h
   go_wp2
   go_ret
   exact ⟨Ax,cx,rfl,by rw [<- ak.out];exact af,hf⟩
end Oq
namespace Oq
theorem Id.less_iff (a b:Id):Id.less a b=true<->a.b<b.b\/(a.b=b.b/\(a.s<b.s\/(a.s=b.s/\a.u<b.u))):=by
 unfold Id.less
 by_cases h1:a.b=b.b
 ·
  by_cases h2:a.s=b.s
  · rw [if_pos h1,if_pos h2];simp;omega
  · rw [if_pos h1,if_neg h2];simp;omega
 · rw [if_neg h1];simp;omega
theorem Id.less_irr (a:Id):Id.less a a=false:=by
 cases h:Id.less a a
 · rfl
 · rw [Id.less_iff] at h;omega
theorem Id.less_tr {a b c:Id} (h:Id.less a b=true) (k:Id.less b c=true):Id.less a c=true:=by
 rw [Id.less_iff] at*;omega
theorem Id.less_as {a b:Id} (h:Id.less a b=true):Id.less b a=false:=by
 cases k:Id.less b a
 · rfl
 · rw [Id.less_iff] at*;omega
theorem Id.less_tot (a b:Id):Id.less a b=true\/a=b\/Id.less b a=true:=by
 rw [Id.less_iff,Id.less_iff]
 by_cases h1:a.b=b.b
 ·
  by_cases h2:a.s=b.s
  ·
   by_cases h3:a.u=b.u
   ·
    refine .inr (.inl ?_)
    cases a;cases b;simp_all
   · omega
  · omega
 · omega
theorem Id.less_f {a b:Id} (h:Id.less a b=false):b=a\/Id.less b a=true:=by
 rcases Id.less_tot a b with k|k|k
 · rw [h] at k;cases k
 · exact .inl k.symm
 · exact .inr k
def Row (l:List Id):Prop:=l.Pairwise (fun a b=>Id.less a b=true)
def RowW (l:List Id):Prop:=l.Pairwise (fun a b=>Id.less b a=false)
theorem RowW.row {l:List Id} (h:RowW l) (hn:l.Nodup):Row l:=by
 unfold Row RowW at*
 exact (List.Pairwise.and h hn).imp (fun {a b} k=>by
  rcases Id.less_f k.1 with e|e
  · exact absurd e k.2
  · exact e)
theorem Q5 (x:Id) (l:List Id):∀k,Bw x l k<=k
 |0=>A60 _
 |k+1=>by
  show (match l[k]? with|some y=>if Id.less x y then Bw x l k else k+1|none=>k+1)<=_
  split
  ·
   split
   · exact Nat.le_trans (Q5 x l k) (Nat.le_succ k)
   · exact A60 _
  · exact A60 _
theorem Q6 (x:Id) (l:List Id):∀k,k<=l.length->∀j y,Bw x l k<=j->j<k->l[j]? =some y->Id.less x y=true
 |0,_,j,y,_,h,_=>by omega
 |k+1,hk,j,y,h1,h2,h3=>by
  have he:l[k]? =some l[k]:=A62 (by omega)
  have hu:Bw x l (k+1)=if Id.less x l[k] then Bw x l k else k+1:=by
   show (match l[k]? with|some y=>if Id.less x y then Bw x l k else k+1|none=>k+1)=_;rw [he]
  rw [hu] at h1
  by_cases hl:Id.less x l[k]=true
  ·
   rw [if_pos hl] at h1
   rcases A69 j k with hj|hj
   · exact Q6 x l k (by omega) j y h1 hj h3
   ·
    obtain rfl:j=k:=by omega
    rw [he] at h3;injection h3 with h3
    rw [<- h3];exact hl
  ·
   rw [if_neg hl] at h1;omega
theorem Q7 (x:Id) (l:List Id):∀k,k<=l.length->∀y,0<Bw x l k->l[Bw x l k-1]? =some y->Id.less x y=false
 |0,_,y,h,_=>by exact absurd h (Nat.lt_irrefl 0)
 |k+1,hk,y,h1,h2=>by
  have he:l[k]? =some l[k]:=A62 (by omega)
  have hu:Bw x l (k+1)=if Id.less x l[k] then Bw x l k else k+1:=by
   show (match l[k]? with|some y=>if Id.less x y then Bw x l k else k+1|none=>k+1)=_;rw [he]
  rw [hu] at h1 h2
  by_cases hl:Id.less x l[k]=true
  ·
   rw [if_pos hl] at h1 h2;exact Q7 x l k (by omega) y h1 h2
  ·
   rw [if_neg hl] at h2;rw [Nat.add_sub_cancel,he] at h2;injection h2 with h2
   rw [<- h2];exact A80 _▸hl
theorem Zs (l:List Id) (x:Id):(ins l x).Perm (x::l):=by
 unfold ins;have h:l=l.take (Bw x l l.length)++l.drop (Bw x l l.length):=(A83 _ _).symm;generalize Bw x l l.length=k at*;rw [A61];refine List.Perm.trans List.perm_middle ?_;conv=>rhs;rw [h]
 exact List.Perm.refl _
theorem Zt {l:List Id} (x:Id) (h:RowW l):RowW (ins l x):=by
 have hle:=Q5 x l l.length;have hge:=Q6 x l l.length (A60 _);have hlt:=Q7 x l l.length (A60 _);unfold ins RowW at*;generalize Bw x l l.length=k at*;have hh:l.Pairwise (fun a b=>Id.less b a=false):=h;rw [<- A83 k l,A90] at h;obtain ⟨h1,h2,h3⟩:=h
 have hb:∀a∈l.take k,Id.less x a=false:=by
  intro a ha;obtain ⟨j,hj,hja⟩:=List.mem_iff_getElem.1 ha;rw [List.length_take] at hj;rw [List.getElem_take] at hja;have hy:l[k-1]? =some l[k-1]:=A62 (by omega);have hx:=hlt _ (by omega) hy
  rcases A69 j (k-1) with hjk|hjk
  ·
   have hp:=List.pairwise_iff_getElem.1 hh j (k-1) (by omega) (by omega) hjk;rw [hja] at hp
   cases hxa:Id.less x a
   · rfl
   ·
    rcases Id.less_f hx with e|e
    · rw [e,hxa] at hp;cases hp
    · rw [Id.less_tr e hxa] at hp;cases hp
  ·
   obtain rfl:j=k-1:=by omega
   rw [<- hja];exact hx
 have ha:∀a∈l.drop k,Id.less x a=true:=by
  intro a ha;obtain ⟨j,hj,hja⟩:=List.mem_iff_getElem.1 ha;rw [A89] at hj;rw [List.getElem_drop] at hja;exact hge (k+j) a (by omega) (by omega) (by rw [<- hja];exact A62 _)
 rw [A61,A90];refine ⟨h1,?_,?_⟩
 ·
  rw [List.singleton_append,List.pairwise_cons];exact ⟨fun a h=>Id.less_as (ha a h),h2⟩
 ·
  intro a h b hb'
  rcases List.mem_append.1 hb' with hb'|hb'
  · rw [List.mem_singleton.1 hb'];exact hb a h
  · exact h3 a h b hb'
theorem Mz:∀(l acc:List Id),RowW acc->RowW (l.foldl ins acc)/\(l.foldl ins acc).Perm (acc++l)
 |[],acc,h=>⟨h,by rw [A75];exact List.Perm.refl _⟩
 |x::l,acc,h=>by
  obtain ⟨h1,h2⟩:=Mz l (ins acc x) (Zt x h);refine ⟨h1,h2.trans ?_⟩;exact ((Zs acc x).append_right l).trans List.perm_middle.symm
theorem Q8 (l:List Id):RowW (Ba l):=(Mz l [] List.Pairwise.nil).1
theorem Dt (l:List Id):(Ba l).Perm l:=(Mz l [] List.Pairwise.nil).2
theorem Zu {l:List Id} (h:l.Nodup):Row (Ba l):=(Q8 l).row ((Dt l).nodup_iff.2 h)
theorem RowW.unique:∀{l m:List Id},RowW l->RowW m->l.Perm m->l=m
 |[],m,_,_,h=>by rw [List.Perm.nil_eq h]
 |x::l,[],_,_,h=>by exact absurd h.length_eq (by simp)
 |x::l,y::m,h1,h2,hp=>by
  have h1':=List.pairwise_cons.1 h1;have h2':=List.pairwise_cons.1 h2
  have hxy:x=y:=by
   have hx:x∈y::m:=hp.subset (A91 ..);have hy:y∈x::l:=hp.symm.subset (A91 ..)
   rcases List.mem_cons.1 hx with e|e
   · exact e
   ·
    rcases List.mem_cons.1 hy with e'|e'
    · exact e'.symm
    ·
     have a:=h2'.1 x e;have b:=h1'.1 y e'
     rcases Id.less_f a with c|c
     · exact c.symm
     · rw [c] at b;cases b
  subst hxy;rw [RowW.unique h1'.2 h2'.2 (List.perm_cons x|>.1 hp)]
theorem Q9 {l m:List Id} (h:RowW l) (hp:l.Perm m):l=Ba m:=h.unique (Q8 m) (hp.trans (Dt m).symm)
