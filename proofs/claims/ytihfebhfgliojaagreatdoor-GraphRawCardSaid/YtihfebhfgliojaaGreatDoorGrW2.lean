/-
  Contracts of the functions that the claim's statement reaches, walked one by one (part 2).
  Conditions: as each theorem says.
-/
import Derived.IntWalk
import Derived.Sort.Grow
import Derived.Maps.OwnSet
import Derived.Maps.Views
import Derived.DeepKeys4
import Derived.Deep.MidRow
import Derived.Laws.StructEq
import Derived.Test.YtihfebhfgliojaaGreatDoorGrW1
set_option maxRecDepth 100000
set_option maxHeartbeats 16000000
open Bool renaming eq_iff_iff->Ao3,not_eq_true->Aq2
open Int renaming toNat_of_nonneg->Ao1,natCast_pow->Ap3,tdiv_eq_ediv_of_nonneg->Ap9,tmod_eq_emod_of_nonneg->Aq0
open List renaming length_append->An3,append_assoc->An5,getElem?_eq_getElem->An6,mem_of_getElem?->An8,take_of_length_le->An9,flatMap_cons->Ao2,flatMap_append->Ao5,getElem?_toArray->Ao6,getD_eq_getElem?_getD->Ao7,take_succ_eq_append_getElem->Ao8,flatMap_nil->Ao9,append_nil->Ap0,getElem?_eq_none->Ap1,nil_append->Ap8,mem_of_mem_take->Aq1
open Nat renaming le_refl->An4,mul_add->Ao0,lt_of_le_of_lt->Ap2,lt_of_lt_of_le->Ap4,pow_lt_pow_right->Ap5,lt_or_ge->Ap6,add_mul->Ap7
open Go.World renaming size_alloc->An7,drewN->Ao4
open Go.Proofs.Tryz
open Go.Proofs.Tryz renaming prog->zp
open Go.Lib renaming hid->lh
open List renaming set->zl
open Go.Ending renaming returned->ze
namespace Go.Proofs.YtihfebhfgliojaaGreatDoor
open Go.RowKit
attribute [local go_sem ↓] Go.wp_at_zero Go.wp_at_succ
namespace Oq
theorem Di {α:Type} (enc:α->List UInt8) (l:List α) {k:Nat} {x:α} (h:l[k]? =some x):(l.take (k+1)).flatMap enc=(l.take k).flatMap enc++enc x:=by
 obtain ⟨hk,rfl⟩:=List.getElem?_eq_some_iff.1 h;rw [Ao8 hk,Ao5,Ao2,Ao9,Ap0]
theorem Fj {α:Type} {enc:α->List UInt8} {K:Nat} (l:List α) (h:∀x∈l,(enc x).length<=K):(l.flatMap enc).length<=K*l.length:=by
 induction l with
 |nil=>simp
 |cons x l ih=>
  have h1:=h x (by simp);have h2:=ih (fun y hy=>h y (by simp [hy]));rw [Ao2,An3,List.length_cons,Ao0];omega
theorem C2 {α:Type} {enc:α->List UInt8} {K:Nat} (l:List α) (h:∀x∈l,(enc x).length<=K):(lst enc l).length<=10+K*l.length:=by
 unfold lst;rw [An3];have h1:=Pk.int_len l.length;have h2:=Fj l h;omega
theorem Id.bytes_len (x:Id):x.bytes.length<=30:=Pk.ident_len _ _ _
theorem Bx.bytes_len (x:Bx):x.bytes.length<=40:=by
 unfold Bx.bytes;simp only [An3];have h1:=Pk.num_len x.t;have h2:=Pk.num_len x.e;have h3:=Pk.num_len x.y;have h4:=Pk.num_len x.g;omega
theorem Nd.bytes_len (x:Nd) (h:x.ok):x.bytes.length<=40020:=by
 unfold Nd.bytes;rw [An3];have h1:=Pk.num_len x.p;have h2:=C2 x.xs (fun y _=>Bx.bytes_len y);have h3:=h.2.1;omega
theorem Sl.bytes_len (x:Sl) (h:x.y.length<=1000000):x.bytes.length<=1000040:=by
 unfold Sl.bytes;rw [An3];have h1:=Id.bytes_len x.f;have h2:=Pk.text_len x.y;omega
theorem Eu {α:Type} {f:α->List Value} {size:Nat} {w:World} {B n:Nat} {A:Option Addr} {l:List α} (hlen:∀x,(f x).length=size) (hs:0<size) (h:Rd w B size A n (l.flatMap f)) {k:Nat} {o:α} (hk:l[k]? =some o):
  ∃b off,A=some ⟨b,off,none⟩/\b<B/\∀j,j<size->∀u,(f o)[j]? =some u->w.cell? ⟨b,off+k*size+j,none⟩=some u:=by
 have hl:=h.1;rw [E7 hlen] at hl;have hkl:=(List.getElem?_eq_some_iff.1 hk).1;have hle:l.length=n:=Nat.eq_of_mul_eq_mul_right hs hl;obtain ⟨b,off,e,hb,hc⟩:=h.cells (k:=k) (by omega);exact ⟨b,off,e,hb,fun j hj u hu=>hc j hj u (by rw [E6 (f:=f) hlen l k j o hk hj];exact hu)⟩
theorem Id.at {w:World} {B n:Nat} {A:Option Addr} {l:List Id} (h:Rd w B 3 A n (l.flatMap Id.cells)) {k:Nat} {o:Id} (hk:l[k]? =some o):
  ∃b off,A=some ⟨b,off,none⟩/\b<B/\w.cell? ⟨b,off+k*3,none⟩=some (.int .i64 o.b)/\w.cell? ⟨b,off+k*3+1,none⟩=some (.int .i64 o.s)/\w.cell? ⟨b,off+k*3+2,none⟩=some (.int .u64 (o.u:Int)):=by
 obtain ⟨b,off,e,hb,hc⟩:=Eu (f:=Id.cells) (fun _=>rfl) (by omega) h hk;exact ⟨b,off,e,hb,hc 0 (by omega) _ rfl,hc 1 (by omega) _ rfl,hc 2 (by omega) _ rfl⟩
theorem Bx.at {w:World} {B n:Nat} {A:Option Addr} {l:List Bx} (h:Rd w B 4 A n (l.flatMap Bx.cells)) {k:Nat} {o:Bx} (hk:l[k]? =some o):
  ∃b off,A=some ⟨b,off,none⟩/\b<B/\w.cell? ⟨b,off+k*4,none⟩=some (.int .u64 (o.t:Int))/\w.cell? ⟨b,off+k*4+1,none⟩=some (.int .u64 (o.e:Int))/\w.cell? ⟨b,off+k*4+2,none⟩=some (.int .u64 (o.y:Int))/\w.cell? ⟨b,off+k*4+3,none⟩=some (.int .u64 (o.g:Int)):=by
 obtain ⟨b,off,e,hb,hc⟩:=Eu (f:=Bx.cells) (fun _=>rfl) (by omega) h hk;exact ⟨b,off,e,hb,hc 0 (by omega) _ rfl,hc 1 (by omega) _ rfl,hc 2 (by omega) _ rfl,hc 3 (by omega) _ rfl⟩
theorem NdL.el {w:World} {B n:Nat} {A:Option Addr} {l:List NdL} (h:Rd w B 2 A n (l.flatMap NdL.cells)) {k:Nat} {o:NdL} (hk:l[k]? =some o):
  ∃b off,A=some ⟨b,off,none⟩/\b<B/\w.cell? ⟨b,off+k*2,none⟩=some (.int .u64 (o.p:Int))/\w.cell? ⟨b,off+k*2+1,none⟩=some (.slice o.A o.xs.length o.c):=by
 obtain ⟨b,off,e,hb,hc⟩:=Eu (f:=NdL.cells) (fun _=>rfl) (by omega) h hk;exact ⟨b,off,e,hb,hc 0 (by omega) _ rfl,hc 1 (by omega) _ rfl⟩
theorem SlL.el {w:World} {B n:Nat} {A:Option Addr} {l:List SlL} (h:Rd w B 4 A n (l.flatMap SlL.cells)) {k:Nat} {o:SlL} (hk:l[k]? =some o):
  ∃b off,A=some ⟨b,off,none⟩/\b<B/\w.cell? ⟨b,off+k*4,none⟩=some (.int .i64 o.f.b)/\w.cell? ⟨b,off+k*4+1,none⟩=some (.int .i64 o.f.s)/\w.cell? ⟨b,off+k*4+2,none⟩=some (.int .u64 (o.f.u:Int))/\w.cell? ⟨b,off+k*4+3,none⟩=some (.slice o.A o.y.length o.c):=by
 obtain ⟨b,off,e,hb,hc⟩:=Eu (f:=SlL.cells) (fun _=>rfl) (by omega) h hk;exact ⟨b,off,e,hb,hc 0 (by omega) _ rfl,hc 1 (by omega) _ rfl,hc 2 (by omega) _ rfl,hc 3 (by omega) _ rfl⟩
theorem Gr {α:Type} {f:α->Value} {w:World} {B n:Nat} {A:Option Addr} {l:List α} (h:Rd w B 1 A n (l.map f)) {k:Nat} {o:α} (hk:l[k]? =some o):
  ∃b off,A=some ⟨b,off,none⟩/\b<B/\w.cell? ⟨b,off+k,none⟩=some (f o):=by
 have hkl:=(List.getElem?_eq_some_iff.1 hk).1;have hl:=h.1;simp at hl;obtain ⟨b,off,u,e,hb,hx,hc⟩:=h.at (k:=k) (by omega);rw [List.getElem?_map,hk] at hx;injection hx with hx
 exact ⟨b,off,e,hb,by rw [hc,<- hx]⟩
theorem Tg (B g:Nat) (A0:Option Addr) (c0:Nat) (bs:List UInt8) (l:List Id) (Al:Option Addr) (n cl:Nat) (w:World) (ho:OutAt w B g A0 c0 bs) (hn:Hid (l.length=n)) (hok:∀x∈l,x.ok)
  (hr:Rd w B 3 Al n (l.flatMap Id.cells)) (hl:bs.length+10+30*n<=1099511627690):
  Calls zp 173 #[.pointer (some ⟨g,0,none⟩),.slice Al n cl,.func (.func 174) #[.pointer (some ⟨g,0,none⟩)] #[]] w (C9 B g A0 (bs++lst Id.bytes l) w):=by
 go_enter func173,ntmps173;go_wp2_with fail;refine (Dm B g A0 c0 bs (n:Int) _ ho (by omega) (by omega) (by omega)).mono ?_;rintro _ w1 ⟨rfl,A1,c1,ho1,hst1⟩;have hil:=Pk.int_len (n:Int);go_wp2
 go_loopw [14] (fun v wr=>∃(i:Nat) (A:Option Addr) (c:Nat) (D:List UInt8),v=.int .i64 (i:Int)/\i<=n/\Hid (D=bs++Pk.int (n:Int)++(l.take i).flatMap Id.bytes)/\D.length<=bs.length+10+30*i/\OutAt wr B g A c D/\Ay g w A0 wr A) (fun v _=>n-(intOf v).toNat)
 case atStart=>exact ⟨0,A1,c1,_,rfl,by omega,by show _=_;simp,by simp;omega,ho1,hst1⟩
 case round=>
  obtain ⟨i,A,c,D,rfl,hin,hD,hDl,hoi,hst⟩:=hrel
  by_cases hlt:i<n
  ·
   obtain ⟨x,hx⟩:∃x,l[i]? =some x:=⟨_,An6 (by rw [hn.out];exact hlt)⟩;have hxo:=hok x (An8 hx);obtain ⟨⟨x0,x1⟩,⟨x2,x3⟩,x4⟩:=hxo;obtain ⟨b,off,rfl,hb,k0,k1,k2⟩:=Id.at (hr.fr hst.fr (ho.not (An4 _))) hx;have hxl:=Id.bytes_len x;have hx':=lh hx;clear hx;go_wp2_with fail;refine (Hg B g A c D x.b x.s x.u _ (hoi.alloc (.cells x.V 38)) x0 x1 x2 x3 x4 (by omega)).mono ?_;rw [show Pk.ident x.b x.s x.u=x.bytes from rfl];rintro _ w2 ⟨rfl,A2,c2,ho2,hs2⟩;go_wp2;go_roundw
   case rel=>
    refine ⟨i+1,A2,c2,_,by go_num,by omega,?_,by rw [An3,Ao0];omega,ho2,(hst.alloc (.cells x.V 38)).trans hs2⟩;show _=_;rw [hD.out,Di _ l hx'.out,<- An5]
   case measure=>simp [intOf];omega
  ·
   have hi:i=n:=by omega
   subst hi;go_wp2
   go_end0
   refine ⟨rfl,A,c,?_,hst⟩;have e:bs++lst Id.bytes l=D:=by rw [hD.out,An9 (by rw [hn.out];omega),An5];unfold lst;rw [hn.out]
   rw [e];exact hoi
theorem Th (B g:Nat) (A0:Option Addr) (c0:Nat) (bs:List UInt8) (l:List Nat) (Al:Option Addr) (n cl:Nat) (w:World) (ho:OutAt w B g A0 c0 bs) (hn:Hid (l.length=n)) (hok:∀x∈l,U64 x)
  (hr:Rd w B 1 Al n (l.map Uv)) (hl:bs.length+10+10*n<=1099511627690):
  Calls zp 179 #[.pointer (some ⟨g,0,none⟩),.slice Al n cl,.func (.func 172) #[.pointer (some ⟨g,0,none⟩)] #[]] w (C9 B g A0 (bs++lst Pk.num l) w):=by
 go_enter func179,ntmps179;go_wp2_with fail;refine (Dm B g A0 c0 bs (n:Int) _ ho (by omega) (by omega) (by omega)).mono ?_;rintro _ w1 ⟨rfl,A1,c1,ho1,hst1⟩;have hil:=Pk.int_len (n:Int);go_wp2
 go_loopw [14] (fun v wr=>∃(i:Nat) (A:Option Addr) (c:Nat) (D:List UInt8),v=.int .i64 (i:Int)/\i<=n/\Hid (D=bs++Pk.int (n:Int)++(l.take i).flatMap Pk.num)/\D.length<=bs.length+10+10*i/\OutAt wr B g A c D/\Ay g w A0 wr A) (fun v _=>n-(intOf v).toNat)
 case atStart=>exact ⟨0,A1,c1,_,rfl,by omega,by show _=_;simp,by simp;omega,ho1,hst1⟩
 case round=>
  obtain ⟨i,A,c,D,rfl,hin,hD,hDl,hoi,hst⟩:=hrel
  by_cases hlt:i<n
  ·
   obtain ⟨x,hx⟩:∃x,l[i]? =some x:=⟨_,An6 (by rw [hn.out];exact hlt)⟩;have hxo:=hok x (An8 hx);obtain ⟨b,off,rfl,hb,k0⟩:=Gr (hr.fr hst.fr (ho.not (An4 _))) hx;unfold Uv at k0;have hxl:=Pk.num_len x;have hx':=lh hx;clear hx;go_wp2_with fail;refine (Ek B g A c D x _ hoi hxo (by omega)).mono ?_;rintro _ w2 ⟨rfl,A2,c2,ho2,hs2⟩;go_wp2;go_roundw
   case rel=>
    refine ⟨i+1,A2,c2,_,by go_num,by omega,?_,by rw [An3,Ao0];omega,ho2,hst.trans hs2⟩;show _=_;rw [hD.out,Di _ l hx'.out,<- An5]
   case measure=>simp [intOf];omega
  ·
   have hi:i=n:=by omega
   subst hi;go_wp2
   go_end0
   refine ⟨rfl,A,c,?_,hst⟩;have e:bs++lst Pk.num l=D:=by rw [hD.out,An9 (by rw [hn.out];omega),An5];unfold lst;rw [hn.out]
   rw [e];exact hoi
theorem Ti (B g:Nat) (A0:Option Addr) (c0:Nat) (bs:List UInt8) (l:List Int) (Al:Option Addr) (n cl:Nat) (w:World) (ho:OutAt w B g A0 c0 bs) (hn:Hid (l.length=n)) (hok:∀x∈l,I64 x)
  (hr:Rd w B 1 Al n (l.map Iv)) (hl:bs.length+10+10*n<=1099511627690):
  Calls zp 180 #[.pointer (some ⟨g,0,none⟩),.slice Al n cl,.func (.func 170) #[.pointer (some ⟨g,0,none⟩)] #[]] w (C9 B g A0 (bs++lst Pk.int l) w):=by
 go_enter func180,ntmps180;go_wp2_with fail;refine (Dm B g A0 c0 bs (n:Int) _ ho (by omega) (by omega) (by omega)).mono ?_;rintro _ w1 ⟨rfl,A1,c1,ho1,hst1⟩;have hil:=Pk.int_len (n:Int);go_wp2
 go_loopw [14] (fun v wr=>∃(i:Nat) (A:Option Addr) (c:Nat) (D:List UInt8),v=.int .i64 (i:Int)/\i<=n/\Hid (D=bs++Pk.int (n:Int)++(l.take i).flatMap Pk.int)/\D.length<=bs.length+10+10*i/\OutAt wr B g A c D/\Ay g w A0 wr A) (fun v _=>n-(intOf v).toNat)
 case atStart=>exact ⟨0,A1,c1,_,rfl,by omega,by show _=_;simp,by simp;omega,ho1,hst1⟩
 case round=>
  obtain ⟨i,A,c,D,rfl,hin,hD,hDl,hoi,hst⟩:=hrel
  by_cases hlt:i<n
  ·
   obtain ⟨x,hx⟩:∃x,l[i]? =some x:=⟨_,An6 (by rw [hn.out];exact hlt)⟩;have hxo:=hok x (An8 hx);obtain ⟨b,off,rfl,hb,k0⟩:=Gr (hr.fr hst.fr (ho.not (An4 _))) hx;unfold Iv at k0;have hxl:=Pk.int_len x;have hx':=lh hx;clear hx;go_wp2_with fail;refine (Dm B g A c D x _ hoi hxo.1 hxo.2 (by omega)).mono ?_;rintro _ w2 ⟨rfl,A2,c2,ho2,hs2⟩;go_wp2;go_roundw
   case rel=>
    refine ⟨i+1,A2,c2,_,by go_num,by omega,?_,by rw [An3,Ao0];omega,ho2,hst.trans hs2⟩;show _=_;rw [hD.out,Di _ l hx'.out,<- An5]
   case measure=>simp [intOf];omega
  ·
   have hi:i=n:=by omega
   subst hi;go_wp2
   go_end0
   refine ⟨rfl,A,c,?_,hst⟩;have e:bs++lst Pk.int l=D:=by rw [hD.out,An9 (by rw [hn.out];omega),An5];unfold lst;rw [hn.out]
   rw [e];exact hoi
theorem Tj (B g gp:Nat) (A:Option Addr) (c:Nat) (bs:List UInt8) (x:Bx) (w:World) (ho:OutAt w B g A c bs) (hp:Blk w gp 170 #[.pointer (some ⟨g,0,none⟩)]) (hx:x.ok) (hl:bs.length<=1099511627700):
  Calls zp 171 #[.agg #[.int .u64 (x.t:Int),.int .u64 (x.e:Int),.int .u64 (x.y:Int),.int .u64 (x.g:Int)],.pointer (some ⟨gp,0,none⟩)] w (C9 B g A (bs++x.bytes) w):=by
 obtain ⟨x0,x1,x2,x3⟩:=hx;have l1:=Pk.num_len x.t;have l2:=Pk.num_len x.e;have l3:=Pk.num_len x.y;have aa:=Blk.new w 148 #[.int .u64 (x.t:Int),.int .u64 (x.e:Int),.int .u64 (x.y:Int),.int .u64 (x.g:Int)];have k0:=aa.cell 0;have k1:=aa.cell 1;have k2:=aa.cell 2;have k3:=aa.cell 3;have af:=(ho.alloc (.cells #[.int .u64 (x.t:Int),.int .u64 (x.e:Int),.int .u64 (x.y:Int),.int .u64 (x.g:Int)] 148)).alloc (.cells #[.int .u64 (x.t:Int),.int .u64 (x.e:Int),.int .u64 (x.y:Int),.int .u64 (x.g:Int)] 23);have al:=(hp.alloc (.cells #[.int .u64 (x.t:Int),.int .u64 (x.e:Int),.int .u64 (x.y:Int),.int .u64 (x.g:Int)] 148)).alloc (.cells #[.int .u64 (x.t:Int),.int .u64 (x.e:Int),.int .u64 (x.y:Int),.int .u64 (x.g:Int)] 23);have aw:=((Ay.refl g w A).alloc (.cells #[.int .u64 (x.t:Int),.int .u64 (x.e:Int),.int .u64 (x.y:Int),.int .u64 (x.g:Int)] 148)).alloc (.cells #[.int .u64 (x.t:Int),.int .u64 (x.e:Int),.int .u64 (x.y:Int),.int .u64 (x.g:Int)] 23);have ab:=Blk.new (w.alloc (.cells #[.int .u64 (x.t:Int),.int .u64 (x.e:Int),.int .u64 (x.y:Int),.int .u64 (x.g:Int)] 148)) 23 #[.int .u64 (x.t:Int),.int .u64 (x.e:Int),.int .u64 (x.y:Int),.int .u64 (x.g:Int)];rw [An7] at ab;go_enter func171,ntmps171;go_wp2;generalize (w.alloc (.cells #[.int .u64 (x.t:Int),.int .u64 (x.e:Int),.int .u64 (x.y:Int),.int .u64 (x.g:Int)] 148)).alloc (.cells #[.int .u64 (x.t:Int),.int .u64 (x.e:Int),.int .u64 (x.y:Int),.int .u64 (x.g:Int)] 23)=w0 at*;clear k0 k1 k2 k3 aa;refine wp_loop_rounds 5 ?_;have c0:=ab.cell 0;have p0:=al.cell 0;rw [rounds_succ];go_wp2_with fail;refine (Ek B g A c bs x.t _ af x0 (by omega)).mono ?_;rintro _ w1 ⟨rfl,A1,c1,ak,ae⟩;have ac:=ab.fr ae.fr (af.far ab (by decide) (by decide));have ag:=al.fr ae.fr (af.far al (by decide) (by decide));have d1:=ac.cell 1;have p1:=ag.cell 0;go_wp2;rw [rounds_succ];go_wp2_with fail;refine (Ek B g A1 c1 _ x.e _ ak x1 (by rw [An3];omega)).mono ?_;rintro _ w2 ⟨rfl,A2,c2,ai,ah⟩;have ad:=ac.fr ah.fr (ak.far ac (by decide) (by decide));have aj:=ag.fr ah.fr (ak.far ag (by decide) (by decide));have d2:=ad.cell 2;have p2:=aj.cell 0;go_wp2;rw [rounds_succ];go_wp2_with fail;refine (Ek B g A2 c2 _ x.y _ ai x2 (by simp only [An3];omega)).mono ?_;rintro _ w3 ⟨rfl,A3,c3,aq,ao⟩;have ar:=ad.fr ao.fr (ai.far ad (by decide) (by decide));have ap:=aj.fr ao.fr (ai.far aj (by decide) (by decide));have d3:=ar.cell 3;have p3:=ap.cell 0;go_wp2;rw [rounds_succ];go_wp2_with fail;refine (Ek B g A3 c3 _ x.g _ aq x3 (by simp only [An3];omega)).mono ?_;rintro _ w4 ⟨rfl,A4,c4,au,av⟩;go_wp2;rw [rounds_succ];go_wp2
 go_end0
 refine ⟨rfl,A4,c4,?_,(((aw.trans ae).trans ah).trans ao).trans av⟩;have e:bs++x.bytes=bs++Pk.num x.t++Pk.num x.e++Pk.num x.y++Pk.num x.g:=by unfold Bx.bytes;simp
 rw [e];exact au
theorem Mv (B g gp:Nat) (A0:Option Addr) (c0:Nat) (bs:List UInt8) (l:List Bx) (Al:Option Addr) (n cl:Nat) (w:World) (ho:OutAt w B g A0 c0 bs) (hn:Hid (l.length=n)) (hok:∀x∈l,x.ok)
  (hr:Rd w B 4 Al n (l.flatMap Bx.cells)) (hl:bs.length+10+40*n<=1099511627690) (hp:Blk w gp 170 #[.pointer (some ⟨g,0,none⟩)]):
  Calls zp 177 #[.pointer (some ⟨g,0,none⟩),.slice Al n cl,.func (.func 171) #[] #[.pointer (some ⟨gp,0,none⟩)]] w (C9 B g A0 (bs++lst Bx.bytes l) w):=by
 go_enter func177,ntmps177;go_wp2_with fail;refine (Dm B g A0 c0 bs (n:Int) _ ho (by omega) (by omega) (by omega)).mono ?_;rintro _ w1 ⟨rfl,A1,c1,ho1,hst1⟩;have hil:=Pk.int_len (n:Int);go_wp2
 go_loopw [14] (fun v wr=>∃(i:Nat) (A:Option Addr) (c:Nat) (D:List UInt8),v=.int .i64 (i:Int)/\i<=n/\Hid (D=bs++Pk.int (n:Int)++(l.take i).flatMap Bx.bytes)/\D.length<=bs.length+10+40*i/\OutAt wr B g A c D/\Ay g w A0 wr A/\Blk wr gp 170 #[.pointer (some ⟨g,0,none⟩)]) (fun v _=>n-(intOf v).toNat)
 case atStart=>exact ⟨0,A1,c1,_,rfl,by omega,by show _=_;simp,by simp;omega,ho1,hst1,hp.fr hst1.fr (ho.far hp (by decide) (by decide))⟩
 case round=>
  obtain ⟨i,A,c,D,rfl,hin,hD,hDl,hoi,hst,hpi⟩:=hrel
  by_cases hlt:i<n
  ·
   obtain ⟨x,hx⟩:∃x,l[i]? =some x:=⟨_,An6 (by rw [hn.out];exact hlt)⟩;have hxo:=hok x (An8 hx);obtain ⟨b,off,rfl,hb,k0,k1,k2,k3⟩:=Bx.at (hr.fr hst.fr (ho.not (An4 _))) hx;have hxl:=Bx.bytes_len x;have hx':=lh hx;clear hx;go_wp2_with fail;refine (Tj B g gp A c D x _ (hoi.alloc (.cells #[.int .u64 (x.t:Int),.int .u64 (x.e:Int),.int .u64 (x.y:Int),.int .u64 (x.g:Int)] 148)) (hpi.alloc (.cells #[.int .u64 (x.t:Int),.int .u64 (x.e:Int),.int .u64 (x.y:Int),.int .u64 (x.g:Int)] 148)) hxo (by omega)).mono ?_;rintro _ w2 ⟨rfl,A2,c2,ho2,hs2⟩;have hpi2:=(hpi.alloc (.cells #[.int .u64 (x.t:Int),.int .u64 (x.e:Int),.int .u64 (x.y:Int),.int .u64 (x.g:Int)] 148)).fr hs2.fr ((hoi.alloc (.cells #[.int .u64 (x.t:Int),.int .u64 (x.e:Int),.int .u64 (x.y:Int),.int .u64 (x.g:Int)] 148)).far (hpi.alloc (.cells #[.int .u64 (x.t:Int),.int .u64 (x.e:Int),.int .u64 (x.y:Int),.int .u64 (x.g:Int)] 148)) (by decide) (by decide));go_wp2;go_roundw
   case rel=>
    refine ⟨i+1,A2,c2,_,by go_num,by omega,?_,by rw [An3,Ao0];omega,ho2,(hst.alloc (.cells #[.int .u64 (x.t:Int),.int .u64 (x.e:Int),.int .u64 (x.y:Int),.int .u64 (x.g:Int)] 148)).trans hs2,hpi2⟩;show _=_;rw [hD.out,Di _ l hx'.out,<- An5]
   case measure=>simp [intOf];omega
  ·
   have hi:i=n:=by omega
   subst hi;go_wp2
   go_end0
   refine ⟨rfl,A,c,?_,hst⟩;have e:bs++lst Bx.bytes l=D:=by rw [hD.out,An9 (by rw [hn.out];omega),An5];unfold lst;rw [hn.out]
   rw [e];exact hoi
theorem Tl (B g gp gc:Nat) (A:Option Addr) (c:Nat) (bs:List UInt8) (x:NdL) (w:World) (ho:OutAt w B g A c bs) (hp:Blk w gp 170 #[.pointer (some ⟨g,0,none⟩)]) (hc:Blk w gc 210 #[.func (.func 171) #[] #[.pointer (some ⟨gp,0,none⟩)]])
  (hx:x.nd.ok) (hat:x.at w B) (hl:bs.length+40020<=1099511627690):
  Calls zp 176 #[.agg #[.int .u64 (x.p:Int),.slice x.A x.xs.length x.c],.pointer (some ⟨gp,0,none⟩),.pointer (some ⟨gc,0,none⟩)] w (C9 B g A (bs++x.nd.bytes) w):=by
 obtain ⟨x0,x1,x2⟩:=hx;have x1':x.xs.length<=1000:=x1;have l1:=Pk.num_len x.p;have hbx:=Blk.new w 94 #[.int .u64 (x.p:Int),.slice x.A x.xs.length x.c];have k0:=hbx.cell 0;have k1:=hbx.cell 1;have ho0:=ho.alloc (.cells #[.int .u64 (x.p:Int),.slice x.A x.xs.length x.c] 94);have hp0:=hp.alloc (.cells #[.int .u64 (x.p:Int),.slice x.A x.xs.length x.c] 94);have hc0:=hc.alloc (.cells #[.int .u64 (x.p:Int),.slice x.A x.xs.length x.c] 94);have hs0:=(Ay.refl g w A).alloc (.cells #[.int .u64 (x.p:Int),.slice x.A x.xs.length x.c] 94);have p0:=hp0.cell 0;go_enter func176,ntmps176;go_wp2_with fail;refine (Ek B g A c bs x.p _ ho0 x0 (by omega)).mono ?_;rintro _ w1 ⟨rfl,A1,c1,ho1,hs1⟩;have hbx1:=hbx.fr hs1.fr (ho0.far hbx (by decide) (by decide));have hp1:=hp0.fr hs1.fr (ho0.far hp0 (by decide) (by decide));have hc1:=hc0.fr hs1.fr (ho0.far hc0 (by decide) (by decide));have m1:=hbx1.cell 1;have p1:=hp1.cell 0;have q1:=hc1.cell 0;have hst:=hs0.trans hs1;have hr1:=hat.1.fr hst.fr (ho.not (An4 _));go_wp2_with fail;refine (Mv B g gp A1 c1 _ x.xs x.A x.xs.length x.c _ ho1 rfl x2 hr1 (by rw [An3];omega) hp1).mono ?_;rintro _ w2 ⟨rfl,A2,c2,ho2,hs2⟩;go_wp2
 go_end0
 refine ⟨rfl,A2,c2,?_,hst.trans hs2⟩;have e:bs++x.nd.bytes=bs++Pk.num x.p++lst Bx.bytes x.xs:=by unfold Nd.bytes;rw [An5];rfl
 rw [e];exact ho2
theorem Tm (B g gp gc:Nat) (A0:Option Addr) (c0:Nat) (bs:List UInt8) (l:List NdL) (Al:Option Addr) (n cl:Nat) (w:World) (ho:OutAt w B g A0 c0 bs) (hn:Hid (l.length=n)) (hok:∀x∈l,x.nd.ok)
  (hr:Rd w B 2 Al n (l.flatMap NdL.cells)) (hl:bs.length+10+40020*n<=1099511627690) (hp:Blk w gp 170 #[.pointer (some ⟨g,0,none⟩)]) (hc:Blk w gc 210 #[.func (.func 171) #[] #[.pointer (some ⟨gp,0,none⟩)]]) (hat:∀x∈l,x.at w B):
  Calls zp 175 #[.pointer (some ⟨g,0,none⟩),.slice Al n cl,.func (.func 176) #[] #[.pointer (some ⟨gp,0,none⟩),.pointer (some ⟨gc,0,none⟩)]] w (C9 B g A0 (bs++lst (fun x=>x.nd.bytes) l) w):=by
 go_enter func175,ntmps175;go_wp2_with fail;refine (Dm B g A0 c0 bs (n:Int) _ ho (by omega) (by omega) (by omega)).mono ?_;rintro _ w1 ⟨rfl,A1,c1,ao,aa⟩;have au:=Pk.int_len (n:Int);go_wp2
 go_loopw [14] (fun v wr=>∃(i:Nat) (A:Option Addr) (c:Nat) (D:List UInt8),v=.int .i64 (i:Int)/\i<=n/\Hid (D=bs++Pk.int (n:Int)++(l.take i).flatMap (fun x=>x.nd.bytes))/\D.length<=bs.length+10+40020*i/\OutAt wr B g A c D/\Ay g w A0 wr A/\Blk wr gp 170 #[.pointer (some ⟨g,0,none⟩)]/\Blk wr gc 210 #[.func (.func 171) #[] #[.pointer (some ⟨gp,0,none⟩)]]) (fun v _=>n-(intOf v).toNat)
 case atStart=>exact ⟨0,A1,c1,_,rfl,by omega,by show _=_;simp,by simp;omega,ao,aa,hp.fr aa.fr (ho.far hp (by decide) (by decide)),hc.fr aa.fr (ho.far hc (by decide) (by decide))⟩
 case round=>
  obtain ⟨i,A,c,D,rfl,av,hD,ap,ab,ac,ad,ah⟩:=hrel
  by_cases hlt:i<n
  ·
   obtain ⟨x,hx⟩:∃x,l[i]? =some x:=⟨_,An6 (by rw [hn.out];exact hlt)⟩;have ai:=hok x (An8 hx);obtain ⟨b,ar,rfl,hb,k0,k1⟩:=NdL.el (hr.fr ac.fr (ho.not (An4 _))) hx;have aq:=Nd.bytes_len x.nd ai;have ak:=((hat x (An8 hx)).fr ac.fr (ho.not (An4 _)));have aj:=lh hx;clear hx;go_wp2_with fail;refine (Tl B g gp gc A c D x _ (ab.alloc (.cells #[.int .u64 (x.p:Int),.slice x.A x.xs.length x.c] 94)) (ad.alloc (.cells #[.int .u64 (x.p:Int),.slice x.A x.xs.length x.c] 94)) (ah.alloc (.cells #[.int .u64 (x.p:Int),.slice x.A x.xs.length x.c] 94)) ai (ak.fr (S:=Non) ((Fr.refl _ _).alloc (.cells #[.int .u64 (x.p:Int),.slice x.A x.xs.length x.c] 94)) zr) (by omega)).mono ?_;rintro _ w2 ⟨rfl,A2,c2,al,ag⟩;have ae:=(ad.alloc (.cells #[.int .u64 (x.p:Int),.slice x.A x.xs.length x.c] 94)).fr ag.fr ((ab.alloc (.cells #[.int .u64 (x.p:Int),.slice x.A x.xs.length x.c] 94)).far (ad.alloc (.cells #[.int .u64 (x.p:Int),.slice x.A x.xs.length x.c] 94)) (by decide) (by decide));have af:=(ah.alloc (.cells #[.int .u64 (x.p:Int),.slice x.A x.xs.length x.c] 94)).fr ag.fr ((ab.alloc (.cells #[.int .u64 (x.p:Int),.slice x.A x.xs.length x.c] 94)).far (ah.alloc (.cells #[.int .u64 (x.p:Int),.slice x.A x.xs.length x.c] 94)) (by decide) (by decide));go_wp2;go_roundw
   case rel=>
    refine ⟨i+1,A2,c2,_,by go_num,by omega,?_,by rw [An3,Ao0];omega,al,(ac.alloc (.cells #[.int .u64 (x.p:Int),.slice x.A x.xs.length x.c] 94)).trans ag,ae,af⟩;show _=_;rw [hD.out,Di _ l aj.out,<- An5]
   case measure=>simp [intOf];omega
  ·
   have hi:i=n:=by omega
   subst hi;go_wp2
   go_end0
   refine ⟨rfl,A,c,?_,ac⟩;have e:bs++lst (fun x=>x.nd.bytes) l=D:=by rw [hD.out,An9 (by rw [hn.out];omega),An5];unfold lst;rw [hn.out]
   rw [e];exact ab
theorem Tn (B g gp:Nat) (A:Option Addr) (c:Nat) (bs:List UInt8) (x:SlL) (w:World) (ho:OutAt w B g A c bs) (hp:Blk w gp 170 #[.pointer (some ⟨g,0,none⟩)])
  (hx:x.f.ok) (hy:x.y.length<=1000000) (hat:x.at w B) (hl:bs.length+1000040<=1099511627700):
  Calls zp 182 #[.agg #[.int .i64 x.f.b,.int .i64 x.f.s,.int .u64 (x.f.u:Int),.slice x.A x.y.length x.c],.pointer (some ⟨gp,0,none⟩)] w (C9 B g A (bs++x.sl.bytes) w):=by
 obtain ⟨⟨x0,x1⟩,⟨x2,x3⟩,x4⟩:=hx;have l1:=Pk.ident_len x.f.b x.f.s x.f.u;have hbx:=Blk.new w 97 #[.int .i64 x.f.b,.int .i64 x.f.s,.int .u64 (x.f.u:Int),.slice x.A x.y.length x.c];have k0:=hbx.cell 0;have k1:=hbx.cell 1;have k2:=hbx.cell 2;have ho0:=ho.alloc (.cells #[.int .i64 x.f.b,.int .i64 x.f.s,.int .u64 (x.f.u:Int),.slice x.A x.y.length x.c] 97);have hp0:=hp.alloc (.cells #[.int .i64 x.f.b,.int .i64 x.f.s,.int .u64 (x.f.u:Int),.slice x.A x.y.length x.c] 97);have hs0:=(Ay.refl g w A).alloc (.cells #[.int .i64 x.f.b,.int .i64 x.f.s,.int .u64 (x.f.u:Int),.slice x.A x.y.length x.c] 97);have p0:=hp0.cell 0;go_enter func182,ntmps182;go_wp2_with fail;refine (Hg B g A c bs x.f.b x.f.s x.f.u _ ho0 x0 x1 x2 x3 x4 (by omega)).mono ?_;rintro _ w1 ⟨rfl,A1,c1,ho1,hs1⟩;have hbx1:=hbx.fr hs1.fr (ho0.far hbx (by decide) (by decide));have hp1:=hp0.fr hs1.fr (ho0.far hp0 (by decide) (by decide));have m3:=hbx1.cell 3;have p1:=hp1.cell 0;have hst:=hs0.trans hs1;have hr1:=hat.1.fr hst.fr (ho.not (An4 _));have hstr:(convert 39 9 (.slice x.A x.y.length x.c)).run zp w1=.ok (.string (str x.y)) w1:=Hb 39 5 9 underlying39 underlying5 underlying9 w1 _ _ _ _ _ hr1;go_wp2_with fail;refine (Mt B g A1 c1 _ x.y _ ho1 (by rw [An3];omega)).mono ?_;rintro _ w2 ⟨rfl,A2,c2,ho2,hs2⟩;go_wp2
 go_end0
 refine ⟨rfl,A2,c2,?_,hst.trans hs2⟩;have e:bs++x.sl.bytes=bs++Pk.ident x.f.b x.f.s x.f.u++Pk.text x.y:=by unfold Sl.bytes Id.bytes;rw [An5];rfl
 rw [e];exact ho2
theorem To (B g gp:Nat) (A0:Option Addr) (c0:Nat) (bs:List UInt8) (l:List SlL) (Al:Option Addr) (n cl:Nat) (w:World) (ho:OutAt w B g A0 c0 bs) (hn:Hid (l.length=n)) (hok:∀x∈l,(x.f.ok/\x.y.length<=1000000))
  (hr:Rd w B 4 Al n (l.flatMap SlL.cells)) (hl:bs.length+10+1000040*n<=1099511627690) (hp:Blk w gp 170 #[.pointer (some ⟨g,0,none⟩)]) (hat:∀x∈l,x.at w B):
  Calls zp 181 #[.pointer (some ⟨g,0,none⟩),.slice Al n cl,.func (.func 182) #[] #[.pointer (some ⟨gp,0,none⟩)]] w (C9 B g A0 (bs++lst (fun x=>x.sl.bytes) l) w):=by
 go_enter func181,ntmps181;go_wp2_with fail;refine (Dm B g A0 c0 bs (n:Int) _ ho (by omega) (by omega) (by omega)).mono ?_;rintro _ w1 ⟨rfl,A1,c1,ak,aa⟩;have aq:=Pk.int_len (n:Int);go_wp2
 go_loopw [14] (fun v wr=>∃(i:Nat) (A:Option Addr) (c:Nat) (D:List UInt8),v=.int .i64 (i:Int)/\i<=n/\Hid (D=bs++Pk.int (n:Int)++(l.take i).flatMap (fun x=>x.sl.bytes))/\D.length<=bs.length+10+1000040*i/\OutAt wr B g A c D/\Ay g w A0 wr A/\Blk wr gp 170 #[.pointer (some ⟨g,0,none⟩)]) (fun v _=>n-(intOf v).toNat)
 case atStart=>exact ⟨0,A1,c1,_,rfl,by omega,by show _=_;simp,by simp;omega,ak,aa,hp.fr aa.fr (ho.far hp (by decide) (by decide))⟩
 case round=>
  obtain ⟨i,A,c,D,rfl,ar,hD,al,ad,ab,ac⟩:=hrel
  by_cases hlt:i<n
  ·
   obtain ⟨x,hx⟩:∃x,l[i]? =some x:=⟨_,An6 (by rw [hn.out];exact hlt)⟩;have af:=hok x (An8 hx);obtain ⟨b,ap,rfl,hb,k0,k1,k2,k3⟩:=SlL.el (hr.fr ab.fr (ho.not (An4 _))) hx;have ao:=Sl.bytes_len x.sl af.2;have ai:=((hat x (An8 hx)).fr ab.fr (ho.not (An4 _)));have ah:=lh hx;clear hx;go_wp2_with fail;refine (Tn B g gp A c D x _ (ad.alloc (.cells #[.int .i64 x.f.b,.int .i64 x.f.s,.int .u64 (x.f.u:Int),.slice x.A x.y.length x.c] 97)) (ac.alloc (.cells #[.int .i64 x.f.b,.int .i64 x.f.s,.int .u64 (x.f.u:Int),.slice x.A x.y.length x.c] 97)) af.1 af.2 (ai.fr (S:=Non) ((Fr.refl _ _).alloc (.cells #[.int .i64 x.f.b,.int .i64 x.f.s,.int .u64 (x.f.u:Int),.slice x.A x.y.length x.c] 97)) zr) (by omega)).mono ?_;rintro _ w2 ⟨rfl,A2,c2,aj,ag⟩;have ae:=(ac.alloc (.cells #[.int .i64 x.f.b,.int .i64 x.f.s,.int .u64 (x.f.u:Int),.slice x.A x.y.length x.c] 97)).fr ag.fr ((ad.alloc (.cells #[.int .i64 x.f.b,.int .i64 x.f.s,.int .u64 (x.f.u:Int),.slice x.A x.y.length x.c] 97)).far (ac.alloc (.cells #[.int .i64 x.f.b,.int .i64 x.f.s,.int .u64 (x.f.u:Int),.slice x.A x.y.length x.c] 97)) (by decide) (by decide));go_wp2;go_roundw
   case rel=>
    refine ⟨i+1,A2,c2,_,by go_num,by omega,?_,by rw [An3,Ao0];omega,aj,(ab.alloc (.cells #[.int .i64 x.f.b,.int .i64 x.f.s,.int .u64 (x.f.u:Int),.slice x.A x.y.length x.c] 97)).trans ag,ae⟩;show _=_;rw [hD.out,Di _ l ah.out,<- An5]
   case measure=>simp [intOf];omega
  ·
   have hi:i=n:=by omega
   subst hi;go_wp2
   go_end0
   refine ⟨rfl,A,c,?_,ab⟩;have e:bs++lst (fun x=>x.sl.bytes) l=D:=by rw [hD.out,An9 (by rw [hn.out];omega),An5];unfold lst;rw [hn.out]
   rw [e];exact ad
end Oq
theorem Tp {P:Program} {f:FuncId} {args:Array Value} {w:World} {a n:Nat} {v:Value}
  (h:Calls P f args (w.drewN (a+n)) fun e w'=>e=.returned v/\w.drewN (a+n)=w'):
  Calls P f args (w.drewN (a+n)) fun e w''=>e=.returned v/\∃m,w''=w.drewN (a+m):=
 h.mono fun _ _ ⟨he,hm⟩=>⟨he,n,hm.symm⟩
namespace Oq
def Tk (w:World) (B g:Nat) (L:List Int) (i:Nat):Prop:=
 ∃A c,Blk w g 87 #[.slice A L.length c,.int .i64 (i:Int)]/\Rd w B 1 A L.length (L.map Iv)/\B<=g/\L.length<=60/\∀x∈L,I64 x
section
variable {S : Nat -> Prop} {w w' : World} {B g i : Nat} {L : List Int}
theorem Tk.lt (h:Tk w B g L i):g<w.heap.size:=by obtain ⟨_,_,hb,_⟩:=h;exact hb.lt
theorem Tk.le (h:Tk w B g L i):B<=g:=by obtain ⟨_,_,_,_,h,_⟩:=h;exact h
theorem Tk.fr (h:Tk w B g L i) (hf:Fr S w w') (hg:¬S g) (hs:∀k,k<B->¬S k):Tk w' B g L i:=by
 obtain ⟨A,c,hb,hr,r⟩:=h;exact ⟨A,c,hb.fr hf hg,hr.fr hf hs,r⟩
theorem Tk.alloc (h:Tk w B g L i) (o:Obj):Tk (w.alloc o) B g L i:=h.fr (S:=Non) ((Fr.refl _ _).alloc o) zq zr
theorem Tk.drew (h:Tk w B g L i):Tk w.drew B g L i:=h
theorem Tk.drewN (h:Tk w B g L i) (n:Nat):Tk (w.drewN n) B g L i:=h
theorem Tk.set (h:Tk w B g L i) {go:Nat} (hg:g<go) (j:Nat) (u:Value):Tk (w.setCell ⟨go,j,none⟩ u) B g L i:=by
 have hB:=h.le;exact h.fr ((Fr.refl (One go) w).setOne j u) (fun e=>by have e':g=go:=e;omega) (fun k hk e=>by have e':k=go:=e;omega)
end
def Tq (B g:Nat) (L:List Int) (i:Nat) (v:Value) (w:World) (r:Ending) (w':World):Prop:=
 r=.returned v/\Tk w' B g L i/\Fr (One g) w w'
theorem nx_eq (L:List Int) (i:Nat) (x m:Int) (h:L[i]? =some x):nx L i m=C0 x 1000000007%m:=by
 unfold nx;rw [h]
theorem Tr (L:List Int) (i:Nat) (m:Int) (h:L.length<=i):nx L i m=0:=by
 unfold nx;rw [Ap1 h]
theorem Jt (B g:Nat) (L:List Int) (i:Nat) (m:Int) (w:World) (ht:Tk w B g L i) (hi:i<=1000000) (hm:1<=m) (hm':m<=1000000007):
  Calls zp 46 #[.pointer (some ⟨g,0,none⟩),.int .i64 m] w (Tq B g L (i+1) (.int .i64 (nx L i m)) w):=by
 obtain ⟨A,c,hb,hr,hB,hl,hL⟩:=ht;have h0:=hb.cell 0;have h1:=hb.cell 1;have hz:=hb.frozen 1;have hb':=hb.set 1 (.int .i64 ((i:Int)+1));have hf':=(Fr.refl (One g) w).setOne 1 (.int .i64 ((i:Int)+1));have ht':Tk (w.setCell ⟨g,1,none⟩ (.int .i64 ((i:Int)+1))) B g L (i+1):=⟨A,c,hb',hr.fr hf' (fun k hk=>One.not hB hk),hB,hl,hL⟩;have k0:=hb'.cell 0;have k1:=hb'.cell 1
 by_cases hlt:i<L.length
 ·
  obtain ⟨x,hx⟩:∃x,L[i]? =some x:=⟨_,An6 hlt⟩;have hxo:=hL x (An8 hx);have hv:Hid (nx L i m=C0 x 1000000007%m):=nx_eq L i x m hx;have hr':=hr.fr hf' (fun k hk=>One.not hB hk);obtain ⟨b,off,hA,hbl,k2⟩:=Gr hr' hx;subst hA;unfold Iv at k2;have hab:=Jl (n:=x) (m:=1000000007) (by omega);have hge:decide ((L.length:Int)<(i:Int)+1)=false:=decide_eq_false (by omega);clear hx;go_enter func46,ntmps46;go_upto_region 2 with (fail)
  go_quiet (fail)
  go_upto_region 4 with (fail)
  have e1:IntKind.i64.wrap ((i:Int)+1-1)=(i:Int):=by rw [show (i:Int)+1-1=i by omega];exact IntWalk.i64_in _ (by omega)
  obtain ⟨e2,e3,e4⟩:=ix i L.length
  have e5:¬m=0:=by omega
  go_quiet ((go_at_call 39;exact Tp (Jm x 1000000007 _ hxo.1 hxo.2 (by omega) (by omega))))
  go_wp2
  go_ret
  exact ⟨by rw [hv.out];rfl,(ht'.drewN _).drewN _,(hf'.drewN _).drewN _⟩
 ·
  have hge:decide ((L.length:Int)<(i:Int)+1)=true:=decide_eq_true (by omega);have hv:Hid (nx L i m=0):=Tr L i m (by omega);clear hlt;go_enter func46,ntmps46;go_upto_region 2 with (fail)
  go_quiet (fail)
  go_wp2_with fail
  go_ret
  exact ⟨by rw [hv.out];rfl,ht'.drewN _,hf'.drewN _⟩
def Ts (B g:Nat) (L:List Int) (i:Nat) (m:Int) (w:World) (r:Ending) (w':World):Prop:=
 ∃v:Int,0<=v/\v<m/\r=.returned (.int .i64 v)/\Tk w' B g L i/\Fr (One g) w w'
theorem Bc (B g:Nat) (L:List Int) (i:Nat) (m:Int) (w:World) (ht:Tk w B g L i) (hi:i<=1000000) (hm:1<=m) (hm':m<=1000000007):
  Calls zp 46 #[.pointer (some ⟨g,0,none⟩),.int .i64 m] w (Ts B g L (i+1) m w):=
 (Jt B g L i m w ht hi hm hm').mono fun _ _ ⟨h1,h2,h3⟩=>⟨_,(Gn L i hm).1,(Gn L i hm).2,h1,h2,h3⟩
structure Id.gen (x:Id):Prop where
 b:1<=x.b/\x.b<=6
 s:1<=x.s/\x.s<=9
 u:x.u<1000000
structure Bx.gen (x:Bx):Prop where
 t:1<=x.t/\x.t<=1000
 e:1<=x.e/\x.e<=1000
 y:x.y<1000
 g:x.g<1000
def Tt (B g:Nat) (L:List Int) (i:Nat) (w:World) (r:Ending) (w':World):Prop:=
 ∃x:Id,x.gen/\r=.returned (.agg x.V)/\Tk w' B g L i/\Fr (One g) w w'
theorem El (B g:Nat) (L:List Int) (i:Nat) (w:World) (ht:Tk w B g L i) (hi:i<=900000):
  Calls zp 47 #[.pointer (some ⟨g,0,none⟩)] w (Tt B g L (i+3) w):=by
 have hg:=ht.lt;have hb0:=Blk.new w 38 #[.int .i64 0,.int .i64 0,.int .u64 0];have nR:¬One g w.heap.size:=by unfold One;omega
 go_enter func47,ntmps47;go_wp2_with fail;refine (Bc B g L i 6 _ (ht.alloc _) (by omega) (by omega) (by omega)).mono ?_;rintro _ w1 ⟨v1,p1,q1,rfl,ht1,hf1⟩;go_wp2_with fail;refine (Bc B g L _ 9 _ ht1 (by omega) (by omega) (by omega)).mono ?_;rintro _ w2 ⟨v2,p2,q2,rfl,ht2,hf2⟩;go_wp2_with fail;refine (Bc B g L _ 1000000 _ ht2 (by omega) (by omega) (by omega)).mono ?_;rintro _ w3 ⟨v3,p3,q3,rfl,ht3,hf3⟩;have hf:=((((Fr.refl (One g) w).alloc (.cells #[.int .i64 0,.int .i64 0,.int .u64 0] 38)).transOne hf1).transOne hf2).transOne hf3;have hb:=((hb0.fr hf1 nR).fr hf2 nR).fr hf3 nR;have c0:=hb.cell 0;have c1:=hb.cell 1;have c2:=hb.cell 2;have z0:=hb.frozen 0;have z1:=hb.frozen 1;have z2:=hb.frozen 2;go_wp2;refine C8 (t:=38) rfl rfl (((hb.set 0 _).set 1 _).set 2 _) rfl underlying38 (by kernel_rfl) rfl ?_;have hfe:=(((Fr.refl (One w.heap.size) w3).setOne 0 (.int .i64 (1+v1))).setOne 1 (.int .i64 (1+v2))).setOne 2 (.int .u64 v3);have hB:=ht.le;refine ⟨⟨1+v1,1+v2,v3.toNat⟩,⟨by simp;omega,by simp;omega,by simp;omega⟩,?_,ht3.fr hfe (by unfold One;omega) (fun k hk=>One.not (by omega) hk),hf.trans hfe (fun k hk e=>absurd hk (by have e':k=w.heap.size:=e;omega))⟩;show _=ze (.agg #[.int .i64 (1+v1),.int .i64 (1+v2),.int .u64 ((v3.toNat:Nat):Int)]);rw [Ao1 p3];rfl
def Tu (B g:Nat) (L:List Int) (i n:Nat) (w:World) (r:Ending) (w':World):Prop:=
 ∃(xs:List Bx) (A:Option Addr) (c:Nat),r=.returned (.slice A n c)/\xs.length=n/\(∀x∈xs,x.gen)/\Own w' w.heap.size 148 4 A n c (xs.flatMap Bx.cells)/\Tk w' B g L i/\Fr (One g) w w'
theorem Hh (B g:Nat) (L:List Int) (i n:Nat) (w:World) (ht:Tk w B g L i) (hn:n<=1000) (hi:i<=900000):
  Calls zp 50 #[.pointer (some ⟨g,0,none⟩),.int .i64 (n:Int)] w (Tu B g L (i+4*n) n w):=by
 have hg:=ht.lt;go_enter func50,ntmps50;go_wp2
 go_loopw [5,6] (fun s v wr=>∃(k:Nat) (A:Option Addr) (c:Nat) (xs:List Bx),v=.int .i64 (k:Int)/\s=.slice A k c/\Hid (xs.length=k)/\k<=n/\Hid (∀x∈xs,x.gen)/\
  Own wr w.heap.size 148 4 A k c (xs.flatMap Bx.cells)/\Tk wr B g L (i+4*k)/\Fr (One g) w wr) (fun _ v _=>n-(intOf v).toNat)
 case atStart=>exact ⟨0,none,0,[],rfl,rfl,rfl,by omega,(fun _ h=>by cases h),Own.nil _ _ _ _,ht,Fr.refl _ _⟩
 case round=>
  obtain ⟨k,A,c,xs,rfl,rfl,hl,hk,ae,aa,ag,hf⟩:=hrel
  by_cases hlt:k<n
  ·
   have hs:=hf.size;have al:∀j,Ab A=some j->¬One g j:=fun j hj e=>by have:=(aa.row j hj).1;have e':j=g:=e;omega
   go_wp2_with fail;refine (Bc B g L _ 1000 _ ag (by omega) (by omega) (by omega)).mono ?_;rintro _ w1 ⟨v1,p1,q1,rfl,ax,av⟩;go_wp2_with fail;refine (Bc B g L _ 1000 _ ax (by omega) (by omega) (by omega)).mono ?_;rintro _ w2 ⟨v2,p2,q2,rfl,ak,aq⟩;go_wp2_with fail;refine (Bc B g L _ 1000 _ ak (by omega) (by omega) (by omega)).mono ?_;rintro _ w3 ⟨v3,p3,q3,rfl,ar,az⟩;go_wp2_with fail;refine (Bc B g L _ 1000 _ ar (by omega) (by omega) (by omega)).mono ?_;rintro _ w4 ⟨v4,p4,q4,rfl,aw,ai⟩;have ac:=((av.transOne aq).transOne az).transOne ai;have a0:=aa.fr ac al;have a1:=ac.size;have af:=Rd.blk (n:=1) (size:=4) (Blk.new w4 148 #[.int .u64 (1+v1),.int .u64 (1+v2),.int .u64 v3,.int .u64 v4]) rfl;go_wp2_with (first|(at_builtin;go_loud (refine Aw (.tmp 12) (.tmp 28) 41 rfl rfl rfl rfl slBx (a0.alloc _) af (by simp [Value.oneCell']) (by omega) (by omega) (by simp;omega) ?_);intro A2 c2 w5 ad ah ay));have ab:∀j,Ab A=some j->w.heap.size<=j:=fun j hj=>(aa.row j hj).1;have hB:=ht.le;have aj:=(aw.alloc (.cells #[.int .u64 (1+v1),.int .u64 (1+v2),.int .u64 v3,.int .u64 v4] 148)).fr ah (fun e=>by have:=ab _ e;omega) (fun j hj e=>by have:=ab j e;omega);have ap:Fr (One g) w w5:=((hf.transOne ac).alloc (.cells #[.int .u64 (1+v1),.int .u64 (1+v2),.int .u64 v3,.int .u64 v4] 148)).trans ah (fun j hj e=>by have:=ab j e;omega);have au:Hid ((xs++[(⟨(1+v1).toNat,(1+v2).toNat,v3.toNat,v4.toNat⟩:Bx)]).length=k+1):=by show _=_;rw [An3,hl.out];rfl
   have ao:Hid (∀x∈xs++[(⟨(1+v1).toNat,(1+v2).toNat,v3.toNat,v4.toNat⟩:Bx)],x.gen):=by
    intro x hx
    rcases List.mem_append.1 hx with hx|hx
    · exact ae.out x hx
    ·
     rw [List.mem_singleton.1 hx];exact ⟨by simp;omega,by simp;omega,by simp;omega,by simp;omega⟩
   go_roundw
   case rel=>
    refine ⟨k+1,A2,c2,_,by go_num,rfl,au,by omega,ao,?_,aj,ap⟩;rw [Ao5,Ao2,Ao9,Ap0]
    have e:Bx.cells ⟨(1+v1).toNat,(1+v2).toNat,v3.toNat,v4.toNat⟩=[.int .u64 (1+v1),.int .u64 (1+v2),.int .u64 v3,.int .u64 v4]:=by
     unfold Bx.cells;rw [Ao1 (by omega),Ao1 (by omega),Ao1 p3,Ao1 p4]
    rw [e];exact ad
   case measure=>simp [intOf];omega
  ·
   obtain rfl:k=n:=by omega
   go_wp2
   go_ret
   exact ⟨xs,A,c,rfl,hl.out,ae.out,aa,ag,hf⟩
def Tv (B g:Nat) (L:List Int) (i n:Nat) (w:World) (r:Ending) (w':World):Prop:=
 ∃(bs:List UInt8) (A:Option Addr) (c:Nat),r=.returned (.slice A n c)/\bs.length=n/\Own w' w.heap.size 5 1 A n c (bs.map Bv)/\Tk w' B g L i/\Fr (One g) w w'
theorem Ju (B g:Nat) (L:List Int) (i n:Nat) (w:World) (ht:Tk w B g L i) (hn:n<=1000) (hi:i<=900000):
  Calls zp 51 #[.pointer (some ⟨g,0,none⟩),.int .i64 (n:Int)] w (Tv B g L (i+n) n w):=by
 have hg:=ht.lt;go_enter func51,ntmps51;go_wp2
 go_loopw [5,6] (fun s v wr=>∃(k:Nat) (A:Option Addr) (c:Nat) (bs:List UInt8),v=.int .i64 (k:Int)/\s=.slice A k c/\Hid (bs.length=k)/\k<=n/\
  Own wr w.heap.size 5 1 A k c (bs.map Bv)/\Tk wr B g L (i+k)/\Fr (One g) w wr) (fun _ v _=>n-(intOf v).toNat)
 case atStart=>exact ⟨0,none,0,[],rfl,rfl,rfl,by omega,Own.nil _ _ _ _,ht,Fr.refl _ _⟩
 case round=>
  obtain ⟨k,A,c,bs,rfl,rfl,hl,hk,hown,htk,hf⟩:=hrel
  by_cases hlt:k<n
  ·
   have hs:=hf.size;have hne:∀j,Ab A=some j->¬One g j:=fun j hj e=>by have:=(hown.row j hj).1;have e':j=g:=e;omega
   go_wp2_with fail;refine (Bc B g L _ 256 _ htk (by omega) (by omega) (by omega)).mono ?_;rintro _ w1 ⟨v1,p1,q1,rfl,ht1,hf1⟩;have ho1:=hown.fr hf1 hne;have hs1:=hf1.size;have hrd1:=Rd.blk (n:=1) (size:=1) (Blk.new w1 5 #[.int .u8 v1]) rfl;go_wp2_with (first|(at_builtin;go_loud (refine Aw (.tmp 12) (.tmp 16) 39 rfl rfl rfl rfl slB (ho1.alloc _) hrd1 (by simp [Value.oneCell']) (by omega) (by omega) (by simp;omega) ?_);intro A2 c2 w5 hown2 hf5 hat2));have hrow:∀j,Ab A=some j->w.heap.size<=j:=fun j hj=>(hown.row j hj).1;have hB:=ht.le;have ht5:=(ht1.alloc (.cells #[.int .u8 v1] 5)).fr hf5 (fun e=>by have:=hrow _ e;omega) (fun j hj e=>by have:=hrow j e;omega);have hfe:Fr (One g) w w5:=((hf.transOne hf1).alloc (.cells #[.int .u8 v1] 5)).trans hf5 (fun j hj e=>by have:=hrow j e;omega);have hl':Hid ((bs++[UInt8.ofNat v1.toNat]).length=k+1):=by show _=_;rw [An3,hl.out];rfl
   go_roundw
   case rel=>
    refine ⟨k+1,A2,c2,_,by go_num,rfl,hl',by omega,?_,ht5,hfe⟩
    have e:(bs++[UInt8.ofNat v1.toNat]).map Bv=bs.map Bv++[.int .u8 v1]:=by
     rw [List.map_append];congr 1;unfold Bv;rw [List.map_cons,UInt8.toNat_ofNat',Nat.mod_eq_of_lt (by omega),Ao1 p1];rfl
    rw [e];exact hown2
   case measure=>simp [intOf];omega
  ·
   obtain rfl:k=n:=by omega
   go_wp2
   go_ret
   exact ⟨bs,A,c,rfl,hl.out,hown,htk,hf⟩
theorem Jv (x y:Id) (w:World):
  Calls zp 95 #[.agg x.V,.agg y.V] w (Ae (Id.less x y) w):=by
 have hf:=((Fr.refl Non w).alloc (.cells x.V 38)).alloc (.cells y.V 38)
 by_cases h1:x.b=y.b
 ·
  have f1:(x.b !=y.b)=false:=by simp [h1]
  by_cases h2:x.s=y.s
  ·
   have f2:(x.s !=y.s)=false:=by simp [h2]
   have hr:Hid (Id.less x y=decide ((x.u:Int)<(y.u:Int))):=by show _=_;unfold Id.less;rw [if_pos h1,if_pos h2];simp
   clear h1 h2;go_enter func95,ntmps95;go_wp2
   go_ret
   exact ⟨by rw [hr.out];simp,hf⟩
  ·
   have f2:(x.s !=y.s)=true:=by simp [h2]
   have hr:Hid (Id.less x y=decide (x.s<y.s)):=by show _=_;unfold Id.less;rw [if_pos h1,if_neg h2]
   clear h1 h2;go_enter func95,ntmps95;go_wp2
   go_ret
   exact ⟨by rw [hr.out];rfl,hf⟩
 ·
  have f1:(x.b !=y.b)=true:=by simp [h1]
  have hr:Hid (Id.less x y=decide (x.b<y.b)):=by show _=_;unfold Id.less;rw [if_neg h1]
  clear h1;go_enter func95,ntmps95;go_wp2
  go_ret
  exact ⟨by rw [hr.out];rfl,hf⟩
theorem Fk {w:World} {a:Addr} {v:Value} (h:w.cell? a=some v) (o:Obj):(w.alloc o).cell? a=some v:=((Fr.refl Non w).alloc o).cell h zq
def Bo (a b:Int):Int:=if a<b then-1 else if b<a then 1 else 0
theorem Mw (a:Int) (w:World):Calls zp 206 #[.int .i64 a] w fun e w'=>e=.returned (.bool false)/\w=w':=by
 have h:(a !=a)=false:=by simp
 go_enter func206,ntmps206;go_wp2
 go_ret
 first|exact ⟨rfl,rfl⟩|exact ⟨by simp,rfl⟩
theorem Mx (a:Int) (w:World):Calls zp 208 #[.int .u64 a] w fun e w'=>e=.returned (.bool false)/\w=w':=by
 have h:(a !=a)=false:=by simp
 go_enter func208,ntmps208;go_wp2
 go_ret
 first|exact ⟨rfl,rfl⟩|exact ⟨by simp,rfl⟩
theorem My (a b:Int) (w:World):Calls zp 138 #[.int .i64 a,.int .i64 b] w fun e w'=>e=.returned (.int .i64 (Bo a b))/\w=w':=by
 have hc:Hid ((a<b/\Bo a b= -1)\/(¬a<b/\b<a/\Bo a b=1)\/(¬a<b/\¬b<a/\Bo a b=0)):=by
  show _\/_;unfold Bo
  by_cases h1:a<b
  · simp [h1]
  · by_cases h2:b<a<;>simp [h1,h2]
 go_enter func138,ntmps138;go_wp2_with fail;refine (Mw a _).mono ?_;rintro _ _ ⟨rfl,rfl⟩;go_wp2_with fail;refine (Mw b _).mono ?_;rintro _ _ ⟨rfl,rfl⟩;go_wp2
 all_goals
  go_ret
  refine ⟨congrArg (fun z=>ze (.int .i64 z)) ?_,rfl⟩;have:=hc.out;omega
theorem Mz (a b:Int) (w:World):Calls zp 149 #[.int .u64 a,.int .u64 b] w fun e w'=>e=.returned (.int .i64 (Bo a b))/\w=w':=by
 have hc:Hid ((a<b/\Bo a b= -1)\/(¬a<b/\b<a/\Bo a b=1)\/(¬a<b/\¬b<a/\Bo a b=0)):=by
  show _\/_;unfold Bo
  by_cases h1:a<b
  · simp [h1]
  · by_cases h2:b<a<;>simp [h1,h2]
 go_enter func149,ntmps149;go_wp2_with fail;refine (Mx a _).mono ?_;rintro _ _ ⟨rfl,rfl⟩;go_wp2_with fail;refine (Mx b _).mono ?_;rintro _ _ ⟨rfl,rfl⟩;go_wp2
 all_goals
  go_ret
  refine ⟨congrArg (fun z=>ze (.int .i64 z)) ?_,rfl⟩;have:=hc.out;omega
def orI (a b c:Int):Int:=if a=0 then if b=0 then c else b else a
theorem M3 (a b c:Int) (k:Nat) (w:World) (hk:Blk w k 3 #[.int .i64 a,.int .i64 b,.int .i64 c]):
  Calls zp 137 #[.slice (some ⟨k,0,none⟩) 3 3] w fun e w'=>e=.returned (.int .i64 (orI a b c))/\w=w':=by
 have k0:=hk.cell 0;have k1:=hk.cell 1;have k2:=hk.cell 2
 by_cases h1:a=0
 ·
  have f1:(a !=0)=false:=by simp [h1]
  by_cases h2:b=0
  ·
   have f2:(b !=0)=false:=by simp [h2]
   by_cases h3:c=0
   ·
    have f3:(c !=0)=false:=by simp [h3]
    have hr:Hid (orI a b c=0):=by show _=_;unfold orI;rw [if_pos h1,if_pos h2,h3]
    clear h1 h2 h3;go_enter func137,ntmps137;go_wp2;refine wp_loop_rounds 4 ?_;rw [rounds_succ];go_wp2;rw [rounds_succ];go_wp2;rw [rounds_succ];go_wp2;rw [rounds_succ];go_wp2
    go_ret
    exact ⟨by rw [hr.out];rfl,rfl⟩
   ·
    have f3:(c !=0)=true:=by simp [h3]
    have hr:Hid (orI a b c=c):=by show _=_;unfold orI;rw [if_pos h1,if_pos h2]
    clear h1 h2 h3;go_enter func137,ntmps137;go_wp2;refine wp_loop_rounds 4 ?_;rw [rounds_succ];go_wp2;rw [rounds_succ];go_wp2;rw [rounds_succ];go_wp2
    go_ret
    exact ⟨by rw [hr.out];rfl,rfl⟩
  ·
   have f2:(b !=0)=true:=by simp [h2]
   have hr:Hid (orI a b c=b):=by show _=_;unfold orI;rw [if_pos h1,if_neg h2]
   clear h1 h2;go_enter func137,ntmps137;go_wp2;refine wp_loop_rounds 4 ?_;rw [rounds_succ];go_wp2;rw [rounds_succ];go_wp2
   go_ret
   exact ⟨by rw [hr.out];rfl,rfl⟩
 ·
  have f1:(a !=0)=true:=by simp [h1]
  have hr:Hid (orI a b c=a):=by show _=_;unfold orI;rw [if_neg h1]
  clear h1;go_enter func137,ntmps137;go_wp2;refine wp_loop_rounds 4 ?_;rw [rounds_succ];go_wp2
  go_ret
  exact ⟨by rw [hr.out];rfl,rfl⟩
theorem M4 (x y:Id):decide (orI (Bo x.b y.b) (Bo x.s y.s) (Bo (x.u:Int) (y.u:Int))<0)=Id.less x y:=by
 unfold Id.less
 by_cases h1:x.b=y.b
 ·
  have e1:Bo x.b y.b=0:=by unfold Bo;rw [if_neg (by omega),if_neg (by omega)]
  rw [if_pos h1,e1]
  by_cases h2:x.s=y.s
  ·
   have e2:Bo x.s y.s=0:=by unfold Bo;rw [if_neg (by omega),if_neg (by omega)]
   rw [if_pos h2,e2];show decide (Bo (x.u:Int) (y.u:Int)<0)=_;unfold Bo;rw [Ao3];simp only [decide_eq_true_eq]
   split
   · omega
   · split<;>omega
  ·
   rw [if_neg h2];have e2:Bo x.s y.s≠0:=by unfold Bo;split;omega;split<;>omega
   show decide ((if Bo x.s y.s=0 then _ else Bo x.s y.s)<0)=_;rw [if_neg e2,Ao3];simp only [decide_eq_true_eq];unfold Bo
   split
   · omega
   · split<;>omega
 ·
  rw [if_neg h1];have e1:Bo x.b y.b≠0:=by unfold Bo;split;omega;split<;>omega
  unfold orI;rw [if_neg e1,Ao3];simp only [decide_eq_true_eq];unfold Bo
  split
  · omega
  · split<;>omega
theorem Tw (x y:Id) (w:World):
  Calls zp 116 #[.agg x.V,.agg y.V] w (Ae (Id.less x y) w):=by
 have hf:=((Fr.refl Non w).alloc (.cells x.V 38)).alloc (.cells y.V 38);have hx:=(Blk.new w 38 x.V).alloc (.cells y.V 38);have hy:=Blk.new (w.alloc (.cells x.V 38)) 38 y.V;rw [An7] at hy;have hl:=M4 x y;have hl':=lh hl;clear hl;go_enter func116,ntmps116;go_upto_region 1 with (fail)
 generalize (w.alloc (.cells x.V 38)).alloc (.cells y.V 38)=w0 at*;have c0:w0.drew.cell? ⟨w.heap.size,0,none⟩=some (.int .i64 x.b):=hx.cell 0;have c1:w0.drew.cell? ⟨w.heap.size,1,none⟩=some (.int .i64 x.s):=hx.cell 1;have c2:w0.drew.cell? ⟨w.heap.size,2,none⟩=some (.int .u64 (x.u:Int)):=hx.cell 2;have d0:w0.drew.cell? ⟨w.heap.size+1,0,none⟩=some (.int .i64 y.b):=hy.cell 0;have d1:w0.drew.cell? ⟨w.heap.size+1,1,none⟩=some (.int .i64 y.s):=hy.cell 1;have d2:w0.drew.cell? ⟨w.heap.size+1,2,none⟩=some (.int .u64 (y.u:Int)):=hy.cell 2
 go_region_held3 (fun w'=>w'.cell? ⟨w.heap.size,0,none⟩=some (.int .i64 x.b)/\w'.cell? ⟨w.heap.size,1,none⟩=some (.int .i64 x.s)/\w'.cell? ⟨w.heap.size,2,none⟩=some (.int .u64 (x.u:Int))/\w'.cell? ⟨w.heap.size+1,0,none⟩=some (.int .i64 y.b)/\w'.cell? ⟨w.heap.size+1,1,none⟩=some (.int .i64 y.s)/\w'.cell? ⟨w.heap.size+1,2,none⟩=some (.int .u64 (y.u:Int))) ((and_intros<;>first|assumption|(refine Fk ?_ _;assumption))) (first
  |(go_at_call 138;(with_reducible refine (My _ _ _).mono ?_);rintro _ _ ⟨rfl,rfl⟩)
  |(go_at_call 149;(with_reducible refine (Mz _ _ _).mono ?_);rintro _ _ ⟨rfl,rfl⟩)
  |(go_at_call 137;(refine (M3 _ _ _ _ _ (by exact Blk.new _ _ _)).mono ?_);rintro _ _ ⟨rfl,rfl⟩))
 go_wp2
 go_ret
 exact ⟨by rw [<- hl'.out];rfl,hf.drew.alloc _⟩
end Oq
section
open Go.RowKit Go.Sort
namespace Oq
def GrowOf (w w':World):Prop:=∃(q:Nat) (os:Array Obj),w'=grow (w.drewN q) os
theorem GrowOf.refl (w:World):GrowOf w w:=⟨0,#[],by simp [grow,Ao4]⟩
theorem GrowOf.trans {a b c:World} (h:GrowOf a b) (k:GrowOf b c):GrowOf a c:=by
 obtain ⟨q,os,rfl⟩:=h;obtain ⟨q',os',rfl⟩:=k;exact ⟨q+q',os++os',by simp [grow,Ao4,Array.append_assoc,Nat.add_assoc]⟩
theorem GrowOf.alloc {a b:World} (h:GrowOf a b) (o:Obj):GrowOf a (b.alloc o):=h.trans ⟨0,#[o],by unfold grow Ao4 World.alloc;simp⟩
theorem GrowOf.drew {a b:World} (h:GrowOf a b):GrowOf a b.drew:=h.trans ⟨1,#[],by rw [grow_empty];rfl⟩
theorem GrowOf.fr {a b:World} (h:GrowOf a b):Fr Non a b:=by
 obtain ⟨q,os,rfl⟩:=h;refine ⟨rfl,rfl,rfl,?_,?_⟩
 · simp [grow,Ao4]
 ·
  intro k hk _;simp only [grow,Ao4];rw [Array.getElem?_append_left hk]
theorem M5 (x y:Id) (w:World):
  Calls zp 116 #[.agg x.V,.agg y.V] w fun e w'=>e=.returned (.bool (Id.less x y))/\GrowOf w w':=by
 have hf:=((GrowOf.refl w).alloc (.cells x.V 38)).alloc (.cells y.V 38);have hx:=(Blk.new w 38 x.V).alloc (.cells y.V 38);have hy:=Blk.new (w.alloc (.cells x.V 38)) 38 y.V;rw [An7] at hy;have hl:=M4 x y;have hl':=lh hl;clear hl;go_enter func116,ntmps116;go_upto_region 1 with (fail)
 generalize (w.alloc (.cells x.V 38)).alloc (.cells y.V 38)=w0 at*;have c0:w0.drew.cell? ⟨w.heap.size,0,none⟩=some (.int .i64 x.b):=hx.cell 0;have c1:w0.drew.cell? ⟨w.heap.size,1,none⟩=some (.int .i64 x.s):=hx.cell 1;have c2:w0.drew.cell? ⟨w.heap.size,2,none⟩=some (.int .u64 (x.u:Int)):=hx.cell 2;have d0:w0.drew.cell? ⟨w.heap.size+1,0,none⟩=some (.int .i64 y.b):=hy.cell 0;have d1:w0.drew.cell? ⟨w.heap.size+1,1,none⟩=some (.int .i64 y.s):=hy.cell 1;have d2:w0.drew.cell? ⟨w.heap.size+1,2,none⟩=some (.int .u64 (y.u:Int)):=hy.cell 2
 go_region_held3 (fun w'=>w'.cell? ⟨w.heap.size,0,none⟩=some (.int .i64 x.b)/\w'.cell? ⟨w.heap.size,1,none⟩=some (.int .i64 x.s)/\w'.cell? ⟨w.heap.size,2,none⟩=some (.int .u64 (x.u:Int))/\w'.cell? ⟨w.heap.size+1,0,none⟩=some (.int .i64 y.b)/\w'.cell? ⟨w.heap.size+1,1,none⟩=some (.int .i64 y.s)/\w'.cell? ⟨w.heap.size+1,2,none⟩=some (.int .u64 (y.u:Int))) ((and_intros<;>first|assumption|(refine Fk ?_ _;assumption))) (first
  |(go_at_call 138;(with_reducible refine (My _ _ _).mono ?_);rintro _ _ ⟨rfl,rfl⟩)
  |(go_at_call 149;(with_reducible refine (Mz _ _ _).mono ?_);rintro _ _ ⟨rfl,rfl⟩)
  |(go_at_call 137;(refine (M3 _ _ _ _ _ (by exact Blk.new _ _ _)).mono ?_);rintro _ _ ⟨rfl,rfl⟩))
 go_wp2
 go_ret
 exact ⟨by rw [<- hl'.out];rfl,hf.drew.alloc _⟩
def Ev (x y:Id):Int:=if Id.less x y then-1 else if Id.less y x then 1 else 0
theorem Tx (x y:Id) (w:World):
  Calls zp 132 #[.agg x.V,.agg y.V] w fun e w'=>e=.returned (.int .i64 (Ev x y))/\GrowOf w w':=by
 have hf:=((GrowOf.refl w).alloc (.cells x.V 38)).alloc (.cells y.V 38);have hx:=(Blk.new w 38 x.V).alloc (.cells y.V 38);have hy:=Blk.new (w.alloc (.cells x.V 38)) 38 y.V;rw [An7] at hy;have k1:=lh (fun w'=>M5 x y w');have k2:=lh (fun w'=>M5 y x w');have hv:Hid (Ev x y=if Id.less x y then-1 else if Id.less y x then 1 else 0):=rfl;generalize Ev x y=v at*;generalize hw0:(w.alloc (.cells x.V 38)).alloc (.cells y.V 38)=w0 at*;have c0:cI w0 w.heap.size 0 x.b:=hx.cell 0;have c1:cI w0 w.heap.size 1 x.s:=hx.cell 1;have c2:cU w0 w.heap.size 2 x.u:=hx.cell 2;have d0:cI w0 (w.heap.size+1) 0 y.b:=hy.cell 0;have d1:cI w0 (w.heap.size+1) 1 y.s:=hy.cell 1;have d2:cU w0 (w.heap.size+1) 2 y.u:=hy.cell 2;generalize Id.less x y=l1 at*;generalize Id.less y x=l2 at*
 cases l1
 ·
  cases l2
  ·
   have hz:Hid (0=v):=by show _=_;rw [hv.out];rfl
   clear hv;go_enter func132,ntmps132;go_wp2_with fail;try rw [hw0]
   clear hw0;refine (k1.out _).mono ?_;rintro _ w1 ⟨rfl,g1⟩;have f1:=g1.fr;have h1:=hf.trans g1;replace c0:=f1.cell c0 zq;replace c1:=f1.cell c1 zq;replace c2:=f1.cell c2 zq;replace d0:=f1.cell d0 zq;replace d1:=f1.cell d1 zq;replace d2:=f1.cell d2 zq;clear g1 f1;go_wp2_with fail;refine (k2.out _).mono ?_;rintro _ w2 ⟨rfl,g2⟩;have h2:=h1.trans g2;go_wp2_with fail
   go_ret
   exact ⟨congrArg (fun z=>ze (.int .i64 z)) hz.out,h2⟩
  ·
   have hz:Hid (1=v):=by show _=_;rw [hv.out];rfl
   clear hv;go_enter func132,ntmps132;go_wp2_with fail;try rw [hw0]
   clear hw0;refine (k1.out _).mono ?_;rintro _ w1 ⟨rfl,g1⟩;have f1:=g1.fr;have h1:=hf.trans g1;replace c0:=f1.cell c0 zq;replace c1:=f1.cell c1 zq;replace c2:=f1.cell c2 zq;replace d0:=f1.cell d0 zq;replace d1:=f1.cell d1 zq;replace d2:=f1.cell d2 zq;clear g1 f1;go_wp2_with fail;refine (k2.out _).mono ?_;rintro _ w2 ⟨rfl,g2⟩;have h2:=h1.trans g2;go_wp2_with fail
   go_ret
   exact ⟨congrArg (fun z=>ze (.int .i64 z)) hz.out,h2⟩
 ·
  have hz:Hid (-1=v):=by show _=_;rw [hv.out];rfl
  clear hv;go_enter func132,ntmps132;go_wp2_with fail;try rw [hw0]
  clear hw0;refine (k1.out _).mono ?_;rintro _ w1 ⟨rfl,g1⟩;have h1:=hf.trans g1;go_wp2_with fail
  go_ret
  exact ⟨congrArg (fun z=>ze (.int .i64 z)) hz.out,h1⟩
end Oq
end
section
open Go.RowKit Go.Maps
namespace Oq
theorem Id.ext3 (x y:Id):(x.b=y.b/\x.s=y.s/\x.u=y.u)<->x=y:=by
 constructor
 ·
  intro ⟨h1,h2,h3⟩
  cases x;cases y
  simp only at h1 h2 h3;subst h1;subst h2;subst h3;rfl
 ·
  rintro rfl;exact ⟨rfl,rfl,rfl⟩
instance:DecidableEq Id:=fun x y=>decidable_of_iff _ (Id.ext3 x y)
abbrev IdG (x:Id):Value:=.agg x.V
theorem law_id:Keyed zp 38:=Keyed.of_law (deep_law_laid Tryz.laidOut (m:=2) (by omega) (of_decide_eq_true (by kernel_rfl)) (by kernel_rfl) (by rw [underlying38]))
theorem Ty:zp.keyType 38=true:=by kernel_rfl
theorem M6:zp.cellsOf 38=3:=by kernel_rfl
theorem Tz:zp.cellsOf 3=1:=by kernel_rfl
theorem M7:zp.cellsOf 23=1:=by kernel_rfl
theorem T3:∃n,zp.types.size=n+1:=⟨zp.types.size-1,by have:0<zp.types.size:=of_decide_eq_true (by kernel_rfl);omega⟩
def Dw (x:Id):Lit:=.string (keyBytes [.int .i64 x.b,.int .i64 x.s,.int .u64 (x.u:Int)])
theorem Jw {n:Int} (h:I64 n):(Lit.int .i64 n).wf=true:=by
 have:=h.1;have:=h.2;simp [Lit.wf,IntKind.min,IntKind.max,IntKind.signed,IntKind.bits];omega
theorem T4 {n:Nat} (h:U64 n):(Lit.int .u64 (n:Int)).wf=true:=by
 have h':n<18446744073709551616:=h;simp [Lit.wf,IntKind.min,IntKind.max,IntKind.signed,IntKind.bits];omega
theorem Fl (x:Id) (h:x.ok):keyOf zp 38 (IdG x)=some (Dw x):=by
 obtain ⟨n,hn⟩:=T3;have hu:=underlying38;have e1:=Jw h.1;have e2:=Jw h.2.1;have e3:=T4 h.2.2;unfold keyOf;rw [hu];simp only [Ty,Value.formed,hu,M6];unfold Program.keyLits;simp only [hu];rw [hn];simp only [Program.keyLits,Value.cells,M6];simp [List.mapM_cons,Tz,M7,underlying3,underlying23,e1,e2,e3,Dw]
theorem T5 {x y:Id} (hx:x.ok) (hy:y.ok) (h:Dw x=Dw y):x=y:=by
 have k1:=Fl x hx;rw [h] at k1;have:=law_id.inj k1 (Fl y hy);simp only [IdG,Value.agg.injEq,Array.mk.injEq,List.cons.injEq,Value.int.injEq,true_and,and_true] at this;obtain ⟨e1,e2,e3⟩:=this
 cases x;cases y
 simp only at e1 e2 e3;subst e1;subst e2;rw [Int.ofNat.inj e3]
theorem M8 (x:Id) (h:x.ok):WideAt.IsKeyLit (Dw x):=law_id.key (Fl x h)
def MapAt (w:World) (b m:Nat) (f:Id->Option Nat):Prop:=
 ∃(n:Nat) (D:DataW Nat),w.ownsMap zp 38 (plainElem zp 3) b n D/\n<=m/\IsMap D/\(∀x i,f x=some i->i<=1000000)/\
  ∀x:Id,x.ok->has D (Dw x)=(f x).isSome/\∀i,f x=some i->∀z,D.atKey (Dw x) z=.lit (.int .i64 (i:Int))
theorem MapAt.made (w:World):MapAt (w.alloc (.map #[] 0)) w.heap.size 0 (fun _=>none):=by
 refine ⟨0,.map [],World.ownsMap_made w _ _ _,An4 _,isMap_empty,?_,?_⟩
 ·
  intro x i h
  cases h
 ·
  intro x hx;refine ⟨rfl,?_⟩;intro i h
  cases h
theorem MapAt.lt {w:World} {b m:Nat} {f:Id->Option Nat} (h:MapAt w b m f):b<w.heap.size:=by
 obtain ⟨n,D,ho,_⟩:=h;exact ho.lt
theorem MapAt.fr {S:Nat->Prop} {w w':World} {b m:Nat} {f:Id->Option Nat} (h:MapAt w b m f) (hf:Fr S w w') (hb:¬S b):MapAt w' b m f:=by
 obtain ⟨n,D,ho,hn,rest⟩:=h;obtain ⟨es,clock,hbl,r2⟩:=ho;exact ⟨n,D,⟨es,clock,(hf.block b (Array.getElem?_eq_some_iff.1 hbl).1 hb).trans hbl,r2⟩,hn,rest⟩
theorem MapAt.size {w:World} {b m:Nat} {f:Id->Option Nat} (h:MapAt w b m f) {x:Id} {i:Nat} (hx:f x=some i):i<=1000000:=by
 obtain ⟨n,D,ho,hn,hm,hs,_⟩:=h;exact hs x i hx
theorem MapAt.look {w:World} {b m:Nat} {f:Id->Option Nat} (h:MapAt w b m f) (x:Id) (hx:x.ok):
  (Instr.lookup 116 (.map (some b)) (IdG x) true).run zp w=.ok (.tuple #[.int .i64 (((f x).getD 0:Nat):Int),.bool (f x).isSome]) w:=by
 obtain ⟨n,D,ho,hn,hm,hs,hsays⟩:=h;obtain ⟨h1,h2⟩:=hsays x hx;obtain ⟨v,ps,hrun,hv⟩:=ho.look_ok law_id underlying116 (z:=.int .i64 0) (by kernel_rfl) (plainElem_int underlying3 (by decide)) (Fl x hx);rw [hrun,h1];obtain ⟨c,rfl,hc,hwc⟩:=plainElem_int_inv underlying3 hv;simp only [Prod.mk.injEq] at hc
 cases hf:f x with
 |none=>
  have h3:has D (Dw x)=false:=by rw [h1,hf];rfl
  have h4:=(atKey_of_not_has h3 (.lit (.int .i64 0))).symm.trans hc.1
  cases h4
  rfl
 |some i=>
  have h4:=(h2 i hf (.lit (.int .i64 0))).symm.trans hc.1
  cases h4
  rfl
theorem MapAt.look1 {w:World} {b m:Nat} {f:Id->Option Nat} (h:MapAt w b m f) (x:Id) (hx:x.ok):
  (Instr.lookup 116 (.map (some b)) (IdG x) false).run zp w=.ok (.int .i64 (((f x).getD 0:Nat):Int)) w:=by
 obtain ⟨n,D,ho,hn,hm,hs,hsays⟩:=h;obtain ⟨h1,h2⟩:=hsays x hx;obtain ⟨c,hrun,hc,hwc⟩:=ho.lookup_int law_id underlying116 underlying3 (by kernel_rfl) (Fl x hx);rw [hrun]
 cases hf:f x with
 |none=>
  have h3:has D (Dw x)=false:=by rw [h1,hf];rfl
  have h4:=(atKey_of_not_has h3 (.lit (.int .i64 0))).symm.trans hc
  cases h4
  rfl
 |some i=>
  have h4:=(h2 i hf (.lit (.int .i64 0))).symm.trans hc
  cases h4
  rfl
theorem MapAt.store {w:World} {b m:Nat} {f:Id->Option Nat} (h:MapAt w b m f) (x:Id) (hx:x.ok) (i:Nat) (hi:i<=1000000) (hmm:m<=100000):
  ∃w',(Instr.mapUpdate 116 (.map (some b)) (IdG x) (.int .i64 (i:Int))).run zp w=.ok () w'/\MapAt w' b (m+1) (fun y=>if y=x then some i else f y)/\w.grownBy w' (some b):=by
 obtain ⟨n,D,ho,hn,hm,hs,hsays⟩:=h;have hwi:(Lit.int .i64 (i:Int)).wf=true:=Jw ⟨by omega,by omega⟩;obtain ⟨w',hrun,hown,hg⟩:=ho.update law_id underlying116 (Ap2 (Nat.le_trans hn hmm) (by decide)) (Fl x hx) (plainElem_int underlying3 hwi);refine ⟨w',hrun,⟨n+1,_,hown,by omega,hm.put _ _,fun y j hj=> ?_,fun y hy=> ?_⟩,hg⟩
 ·
  by_cases e:y=x
  ·
   simp only [if_pos e] at hj
   cases hj
   exact hi
  ·
   simp only [if_neg e] at hj;exact hs y j hj
 by_cases e:y=x
 ·
  subst e;simp only [if_true];exact ⟨has_put_same hm (M8 y hy) _,fun j hj z=>by cases hj;exact atKey_put_same hm (M8 y hy) _ _⟩
 ·
  simp only [if_neg e];have hne:Dw y≠Dw x:=fun h=>e (T5 hy hx h);exact ⟨(has_put_other hne _).trans (hsays y hy).1,fun j hj z=>(atKey_put_other hne _ _).trans ((hsays y hy).2 j hj z)⟩
end Oq
end
theorem M9 {P:Program} {Q:Exit->Act->World->Prop} {l:List Oper} {md:Region.Mode} {S:World->Prop} {fuel:Nat} {listed:Array Bool} {a:Act} {w:World} (i:Nat) {d:Option Tmp} {op:Op} {ty:TypeId} {pos:String} {after:Array Edge} (hr:Region.ready md l.toArray listed=[i]) (ho:l[i]? =some ⟨d,op,ty,pos,after,none⟩)
  (h:∀K':Act->World->Prop,Shut (∀a w,S w->(S w->wpAnyH P md l.toArray Q S fuel (listed.setIfInBounds i true) a w)->K' a w)->Oper.wp P ⟨d,op,ty,pos,after,none⟩ a w K' Q):
  wpAnyH P md l.toArray Q S (fuel+1) listed a w:=
 wpAnyH_ready hr (by simp) (AllReadyH.cons (by rw [Ao6];exact ho) (fun K' hK=>by rw [if_pos (show Region.wanted _ _=true from rfl)];exact h K' hK) AllReadyH.nil)
theorem Ac (l:List Value) (ds:List Deferred) (i:Nat) (v:Value):(⟨l.toArray,ds⟩:Act).put (some i) v=⟨(l.set i v).toArray,ds⟩:=by simp [Act.put]
theorem Bp {P:Program} {Q:Exit->Act->World->Prop} {md:Region.Mode} {S:World->Prop} {l:List Oper} {i:Nat} {d:Tmp} {op:Op} {ty:TypeId} {pos:String} {after:Array Edge} {g:Option (Nat × Bool)} {v:Value} {fuel:Nat} {listed:Array Bool} {tl:List Value} {ds:List Deferred} {w:World} (hi:l[i]? =some ⟨some d,op,ty,pos,after,g⟩)
  (hs:Region.noSelect l.toArray=true) (hf:Region.free md l.toArray listed i=true) (hr:(Region.ready md l.toArray listed).contains i=true)
  (hQ:∀c a w,Q (.panic c) (a.put (some d) v) w->Q (.panic c) a w) (hy:YieldsIf P l.toArray S ⟨some d,op,ty,pos,after,g⟩ v ⟨tl.toArray,ds⟩) (hS:S w)
  (h:wpAnyH P md l.toArray Q S fuel (listed.setIfInBounds i true) ⟨(tl.set d v).toArray,ds⟩ w):wpAnyH P md l.toArray Q S (fuel+1) listed ⟨tl.toArray,ds⟩ w:=
 wpAnyH_take (i:=i) (by rw [Ao6];exact hi) hs hf hr hQ hy hS (by rw [Ac];exact h)
theorem T6 {P:Program} {Q:Exit->Act->World->Prop} {md:Region.Mode} {S:World->Prop} {l:List Oper} {i:Nat} {d:Tmp} {op:Op} {ty:TypeId} {pos:String} {after:Array Edge} {g:Option (Nat × Bool)} {fuel:Nat} {listed:Array Bool} {tl:List Value} {ds:List Deferred} {w:World} (hi:l[i]? =some ⟨some d,op,ty,pos,after,g⟩)
  (hs:Region.noSelect l.toArray=true) (hf:Region.free md l.toArray listed i=true) (hr:(Region.ready md l.toArray listed).contains i=true)
  (hQ:∀c a w,Q (.panic c) (a.put (some d) undef) w->Q (.panic c) a w) (hw:Region.wanted ⟨some d,op,ty,pos,after,g⟩ (yielded l.toArray tl.toArray)=false) (hS:S w)
  (h:wpAnyH P md l.toArray Q S fuel (listed.setIfInBounds i true) ⟨(tl.set d undef).toArray,ds⟩ w):wpAnyH P md l.toArray Q S (fuel+1) listed ⟨tl.toArray,ds⟩ w:=
 wpAnyH_take (i:=i) (by rw [Ao6];exact hi) hs hf hr hQ (Or.inr ⟨hw,rfl⟩) hS (by rw [Ac];exact h)
theorem T7 {P:Program} {Q:Exit->Act->World->Prop} {l:List Oper} {md:Region.Mode} {S:World->Prop} {fuel:Nat} {listed:Array Bool} {a:Act} {w:World} (i:Nat) {d:Option Tmp} {op:Op} {ty:TypeId} {pos:String} {after:Array Edge} {g:Option (Nat × Bool)} (hr:Region.ready md l.toArray listed=[i]) (ho:l[i]? =some ⟨d,op,ty,pos,after,g⟩)
  (hw:Region.wanted ⟨d,op,ty,pos,after,g⟩ (yielded l.toArray a.tmps)=true)
  (h:∀K':Act->World->Prop,Shut (∀a w,S w->(S w->wpAnyH P md l.toArray Q S fuel (listed.setIfInBounds i true) a w)->K' a w)->Oper.wp P ⟨d,op,ty,pos,after,g⟩ a w K' Q):
  wpAnyH P md l.toArray Q S (fuel+1) listed a w:=
 wpAnyH_ready hr (by simp) (AllReadyH.cons (by rw [Ao6];exact ho) (fun K' hK=>by rw [if_pos hw];exact h K' hK) AllReadyH.nil)
theorem oG {P:Program} {Q:Exit->Act->World->Prop} {l:List Oper} {md:Region.Mode} {S:World->Prop} {fuel:Nat} {listed:Array Bool} {a:Act} {w:World} (i:Nat) {d:Option Tmp} {op:Op} {ty:TypeId} {pos:String} {after:Array Edge} {g:Option (Nat × Bool)}
  (h:∀K':Act->World->Prop,Shut (∀a w,S w->(S w->wpAnyH P md l.toArray Q S fuel (listed.setIfInBounds i true) a w)->K' a w)->Oper.wp P ⟨d,op,ty,pos,after,g⟩ a w K' Q)
  (hr:Region.ready md l.toArray listed=[i]:=by kernel_rfl) (ho:l[i]? =some ⟨d,op,ty,pos,after,g⟩:=by rfl) (hw:Region.wanted ⟨d,op,ty,pos,after,g⟩ (yielded l.toArray a.tmps)=true:=by kernel_rfl):wpAnyH P md l.toArray Q S (fuel+1) listed a w:=T7 i hr ho hw h
theorem oD {P:Program} {Q:Exit->Act->World->Prop} {ops:Array Oper} {md:Region.Mode} {S:World->Prop} {fuel:Nat} {listed:Array Bool} {a:Act} {w:World} (h:Q .normal a w) (hr:Region.ready md ops listed=[]:=by kernel_rfl):wpAnyH P md ops Q S fuel listed a w:=wpAnyH_done hr h fuel
theorem tkH (i:Nat) {P:Program} {Q:Exit->Act->World->Prop} {md:Region.Mode} {S:World->Prop} {l:List Oper} {d:Tmp} {op:Op} {ty:TypeId} {pos:String} {after:Array Edge} {g:Option (Nat × Bool)} {v:Value} {fuel:Nat} {listed:Array Bool} {tl:List Value} {ds:List Deferred} {w:World} (hS:S w) (hi:l[i]? =some ⟨some d,op,ty,pos,after,g⟩:=by rfl)
  (hs:Region.noSelect l.toArray=true:=by kernel_rfl) (hf:Region.free md l.toArray listed i=true:=by kernel_rfl) (hr:(Region.ready md l.toArray listed).contains i=true:=by kernel_rfl)
  (hQ:∀c a w,Q (.panic c) (a.put (some d) v) w->Q (.panic c) a w:=by exact fun _ _ _ h=>h) (hy:YieldsIf P l.toArray S ⟨some d,op,ty,pos,after,g⟩ v ⟨tl.toArray,ds⟩:=by (refine Or.inl ⟨by kernel_rfl,?_⟩;intro w' hSw;(try dsimp only at hSw);(try simp only [zl]);go_simp;(try with_reducible rfl)))
  (h:wpAnyH P md l.toArray Q S fuel (listed.setIfInBounds i true) ⟨(tl.set d v).toArray,ds⟩ w):
  wpAnyH P md l.toArray Q S (fuel+1) listed ⟨tl.toArray,ds⟩ w:=Bp hi hs hf hr hQ hy hS h
theorem skH (i:Nat) {P:Program} {Q:Exit->Act->World->Prop} {md:Region.Mode} {S:World->Prop} {l:List Oper} {d:Tmp} {op:Op} {ty:TypeId} {pos:String} {after:Array Edge} {g:Option (Nat × Bool)} {fuel:Nat} {listed:Array Bool} {tl:List Value} {ds:List Deferred} {w:World} (hS:S w) (hi:l[i]? =some ⟨some d,op,ty,pos,after,g⟩:=by rfl)
  (hs:Region.noSelect l.toArray=true:=by kernel_rfl) (hf:Region.free md l.toArray listed i=true:=by kernel_rfl) (hr:(Region.ready md l.toArray listed).contains i=true:=by kernel_rfl)
  (hQ:∀c a w,Q (.panic c) (a.put (some d) undef) w->Q (.panic c) a w:=by exact fun _ _ _ h=>h) (hw:Region.wanted ⟨some d,op,ty,pos,after,g⟩ (yielded l.toArray tl.toArray)=false:=by kernel_rfl)
  (h:wpAnyH P md l.toArray Q S fuel (listed.setIfInBounds i true) ⟨(tl.set d undef).toArray,ds⟩ w):
  wpAnyH P md l.toArray Q S (fuel+1) listed ⟨tl.toArray,ds⟩ w:=T6 hi hs hf hr hQ hw hS h
namespace Oq
attribute [local go_sem] Bool.not_false Bool.not_true
structure Aq (ws:List Nat) (m:Nat->Bool):Prop where
 len:ws.length=4
 u64:∀k,ws.getD k 0<18446744073709551616
 bit:∀n,n<256->m n=(ws.getD (n/64) 0).testBit (n%64)
theorem T8 (a r:Nat):((a:Int)/2^r)=((a/2^r:Nat):Int):=by
 rw [Int.natCast_ediv,Ap3];rfl
theorem T9 (a r:Nat) (ha:a<18446744073709551616):(bits BinOp.and IntKind.u64 ((a:Int)/2^r) 1==1)=a.testBit r:=by
 have h1:a/2^r<18446744073709551616:=Ap2 (Nat.div_le_self _ _) ha;rw [T8,show (1:Int)=((1:Nat):Int) from rfl,u64_and_nat _ 1 h1 (by decide),Nat.testBit_eq_decide_div_mod_eq,Nat.and_one_is_mod,Ao3,decide_eq_true_iff,beq_iff_eq];omega
theorem Ua (r:Nat) (hr:r<64):IntKind.u64.wrap (2^r)=((2^r:Nat):Int):=by
 have h1:(2:Nat)^r<18446744073709551616:=Ap4 (Ap5 (by decide) hr) (by decide);rw [show ((2:Int)^r)=((2^r:Nat):Int) from by rw [Ap3];rfl,IntKind.wrap_u64];generalize 2^r=p at*;omega
theorem Na (a b:Nat) (ha:a<18446744073709551616) (hb:b<18446744073709551616):a|||b<18446744073709551616:=by
 have:a|||b<2^64:=Nat.or_lt_two_pow (by omega) (by omega);omega
theorem Nb (l:List Nat) (i k v:Nat) (hi:i<l.length):(l.set i v).getD k 0=if k=i then v else l.getD k 0:=by
 rw [Ao7,Ao7,List.getElem?_set]
 by_cases h:i=k
 · subst h;simp [hi]
 · simp [h,Ne.symm h]
theorem Aq.put {ws:List Nat} {m:Nat->Bool} (h:Aq ws m) {n:Nat} (hn:n<256):Aq (ws.set (n/64) (ws.getD (n/64) 0|||2^(n%64))) (fun k=>k==n||m k):=by
 have hl:=h.len;have hp:2^(n%64)<18446744073709551616:=Ap4 (Ap5 (by decide) (show n%64<64 by omega)) (by decide);refine ⟨by rw [List.length_set];exact hl,fun k=> ?_,fun k hk=> ?_⟩
 ·
  rw [Nb _ _ _ _ (by omega)]
  split
  · exact Na _ _ (h.u64 _) hp
  · exact h.u64 k
 ·
  rw [Nb _ _ _ _ (by omega),h.bit k hk]
  by_cases e:k/64=n/64
  ·
   rw [if_pos e,Nat.testBit_or,Nat.testBit_two_pow,e]
   by_cases e2:k=n
   · subst e2;simp
   ·
    have e3:¬(n%64=k%64):=by omega
    have e4:(k==n)=false:=by simpa using e2
    simp [e3,e4]
  ·
   rw [if_neg e]
   have e4:(k==n)=false:=by
    have:k≠n:=fun e5=>e (by rw [e5]);simpa using this
   rw [e4,Bool.false_or]
theorem Aq.empty:Aq [0,0,0,0] (fun _=>false):=by
 refine ⟨rfl,fun k=> ?_,fun n hn=> ?_⟩
 ·
  match k with
  |0|1|2|3=>decide
  |k+4=>simp
 ·
  have hq:n/64=0\/n/64=1\/n/64=2\/n/64=3:=by omega
  rcases hq with e|e|e|e<;>rw [e]<;>simp
def orW (a b:List Nat):List Nat:=[a.getD 0 0|||b.getD 0 0,a.getD 1 0|||b.getD 1 0,a.getD 2 0|||b.getD 2 0,a.getD 3 0|||b.getD 3 0]
def Jx (a b:List Nat):List Nat:=[a.getD 0 0&&&b.getD 0 0,a.getD 1 0&&&b.getD 1 0,a.getD 2 0&&&b.getD 2 0,a.getD 3 0&&&b.getD 3 0]
theorem Jy (a b:List Nat) (k:Nat) (hk:k<4):(orW a b).getD k 0=a.getD k 0|||b.getD k 0:=by
 have hq:k=0\/k=1\/k=2\/k=3:=by omega
 rcases hq with rfl|rfl|rfl|rfl<;>rfl
theorem Jz (a b:List Nat) (k:Nat) (hk:k<4):(Jx a b).getD k 0=a.getD k 0&&&b.getD k 0:=by
 have hq:k=0\/k=1\/k=2\/k=3:=by omega
 rcases hq with rfl|rfl|rfl|rfl<;>rfl
theorem Aq.or {a b:List Nat} {m m':Nat->Bool} (h:Aq a m) (h':Aq b m'):Aq (orW a b) (fun k=>m k||m' k):=by
 refine ⟨rfl,fun k=> ?_,fun n hn=> ?_⟩
 ·
  rcases Ap6 k 4 with hk|hk
  ·
   rw [Jy a b k hk];exact Na _ _ (h.u64 k) (h'.u64 k)
  ·
   rw [Ao7,Ap1 (by show 4<=k;exact hk)]
   decide
 · rw [Jy a b _ (by omega),Nat.testBit_or,h.bit n hn,h'.bit n hn]
theorem Aq.and {a b:List Nat} {m m':Nat->Bool} (h:Aq a m) (h':Aq b m'):Aq (Jx a b) (fun k=>m k&&m' k):=by
 refine ⟨rfl,fun k=> ?_,fun n hn=> ?_⟩
 ·
  rcases Ap6 k 4 with hk|hk
  ·
   rw [Jz a b k hk];exact Ap2 Nat.and_le_left (h.u64 k)
  ·
   rw [Ao7,Ap1 (by show 4<=k;exact hk)]
   decide
 · rw [Jz a b _ (by omega),Nat.testBit_and,h.bit n hn,h'.bit n hn]
def Em (w:World) (g off:Nat) (ws:List Nat):Prop:=∀k,k<4->w.cell? ⟨g,off+k,none⟩=some (.int .u64 ((ws.getD k 0:Nat):Int))
theorem J0 (g off:Nat) (ws:List Nat) (m:Nat->Bool) (n:Nat) (w:World) (hs:Aq ws m) (hat:Em w g off ws) (hn:n<256):
  Calls zp 70 #[.pointer (some ⟨g,off,none⟩),.int .i64 (n:Int)] w fun e w'=>e=.returned (.bool (m n))/\w=w':=by
 have hb:=hs.bit n hn;have hc:=hat (n/64) (by omega);have hu:=hs.u64 (n/64);generalize ws.getD (n/64) 0=wd at*;have e1:(n:Int).tdiv 64=((n/64:Nat):Int):=by rw [Ap9 (by omega)];omega
 have e2:(n:Int).tmod 64=((n%64:Nat):Int):=by rw [Aq0 (by omega)];omega
 obtain ⟨q,hq⟩:∃q,q=n/64:=⟨_,rfl⟩;obtain ⟨r,hr⟩:∃r,r=n%64:=⟨_,rfl⟩;rw [<- hq] at e1 hc;rw [<- hr] at e2 hb;have q1:(0:Int)<=q:=by omega
 have q2:(q:Int)<4:=by omega
 have q3:(q:Int).toNat=q:=by omega
 have r1:¬((r:Int)<0):=by omega
 have r2:(r:Int).toNat=r:=by omega
 have r3:r<64:=by omega
 rw [hb];clear hs hat hb hq hr;go_enter func70,ntmps70;go_wp2
 go_ret
 refine ⟨congrArg (fun z=>ze (.bool z)) ?_,rfl⟩;exact T9 wd r hu
theorem Ub (g off:Nat) (ws:List Nat) (m:Nat->Bool) (n:Nat) (w:World) (hs:Aq ws m) (hat:Em w g off ws) (hfr:∀k,k<4->w.frozen? ⟨g,off+k,none⟩=false) (hn:n<256):
  Calls zp 68 #[.pointer (some ⟨g,off,none⟩),.int .i64 (n:Int)] w fun e w'=>e=.returned (.tuple #[])/\∃k,w'=(w.drewN k).setCell ⟨g,off+n/64,none⟩ (.int .u64 ((ws.getD (n/64) 0|||2^(n%64):Nat):Int)):=by
 have hc:=hat (n/64) (by omega);have hz:=hfr (n/64) (by omega);have hu:=hs.u64 (n/64);generalize ws.getD (n/64) 0=wd at*;have e1:(n:Int).tdiv 64=((n/64:Nat):Int):=by rw [Ap9 (by omega)];omega
 have e2:(n:Int).tmod 64=((n%64:Nat):Int):=by rw [Aq0 (by omega)];omega
 obtain ⟨q,hq⟩:∃q,q=n/64:=⟨_,rfl⟩;obtain ⟨r,hr⟩:∃r,r=n%64:=⟨_,rfl⟩;rw [<- hq] at e1 hc hz ⊢;rw [<- hr] at e2 ⊢;have q1:(0:Int)<=q:=by omega
 have q2:(q:Int)<4:=by omega
 have q3:(q:Int).toNat=q:=by omega
 have r1:¬((r:Int)<0):=by omega
 have r2:(r:Int).toNat=r:=by omega
 have r3:r<64:=by omega
 have q4:=iw (q:Int);have r4:=iw (r:Int);have s1:=Ua r r3;have hp:2^r<18446744073709551616:=Ap4 (Ap5 (by decide) r3) (by decide);have s2:=u64_or_nat wd (2^r) hu hp;clear hs hat hfr hq hr;go_enter func68,ntmps68;go_wp2_with fail;refine wp_region_held_drew (S:=(fun _=>True)) (by kernel_rfl) trivial (fun hHeld=> ?_);clear hHeld;have hS:(fun _:World=>True) w.drew:=trivial;have hc':cU w.drew g (off+q) wd:=hc;have hz':w.drew.frozen? ⟨g,off+q,none⟩=false:=hz;refine tkH 0 hS (h:=tkH 1 hS (h:=tkH 2 hS (h:=tkH 3 hS (h:=tkH 4 hS (h:=tkH 6 hS (h:=tkH 7 hS (h:=tkH 8 hS (h:=tkH 10 hS (h:=?_)))))))));simp only [zl];refine oG 5 (fun K hK=> ?_);go_simp;refine hK.out _ _ trivial (fun _=> ?_);clear hK K;try simp only [Ac,zl]
 refine tkH 9 hS (h:=tkH 11 hS (h:=?_));simp only [zl];refine oG 12 (fun K hK=> ?_);go_simp;refine hK.out _ _ trivial (fun _=> ?_);clear hK K;try simp only [Ac,zl]
 refine oD ?_;go_simp;go_wp2_with fail
 go_end0
 refine ⟨rfl,1,?_⟩;rw [show ((2:Int)^r)=((2^r:Nat):Int) from by rw [Ap3];rfl,s2];rfl
def Dj (cs:Array Value) (off:Nat) (v:Nat->Value):Nat->Array Value
 |0=>cs
 |i+1=>(Dj cs off v i).setIfInBounds (off+i) (v i)
theorem Nc (cs:Array Value) (off:Nat) (v:Nat->Value) (i j:Nat) (h:j<off\/off+i<=j):(Dj cs off v i)[j]? =cs[j]? :=by
 induction i with
 |zero=>rfl
 |succ i ih=>
  rw [Dj,Array.getElem?_setIfInBounds_ne (by omega)];exact ih (by omega)
def Hi (cs:Array Value) (off:Nat) (ws:List Nat):Array Value:=Dj cs off (fun k=> .int .u64 ((ws.getD k 0:Nat):Int)) 4
theorem J1 (g off:Nat) (t:TypeId) (cs:Array Value) (ws:List Nat) (t0 t1 t2 t3:Nat) (m m':Nat->Bool) (w:World) (hs:Aq ws m) (hs':Aq [t0,t1,t2,t3] m') (hb:Blk w g t cs) (hat:Em w g off ws):
  Calls zp 69 #[.pointer (some ⟨g,off,none⟩),.agg #[.int .u64 (t0:Int),.int .u64 (t1:Int),.int .u64 (t2:Int),.int .u64 (t3:Int)]] w fun e w'=>e=.returned (.tuple #[])/\Blk w' g t (Hi cs off (orW ws [t0,t1,t2,t3]))/\Fr (One g) w w':=by
 obtain ⟨ts,ae⟩:∃ts,ts=[t0,t1,t2,t3]:=⟨_,rfl⟩;rw [<- ae] at hs' ⊢
 have hT:∀k,k<4->(w.alloc (.cells #[.int .u64 (t0:Int),.int .u64 (t1:Int),.int .u64 (t2:Int),.int .u64 (t3:Int)] 112)).cell? ⟨w.heap.size,k,none⟩=some (.int .u64 ((ts.getD k 0:Nat):Int)):=by
  intro k hk;have hq:k=0\/k=1\/k=2\/k=3:=by omega
  have hn:=Blk.new w 112 #[.int .u64 (t0:Int),.int .u64 (t1:Int),.int .u64 (t2:Int),.int .u64 (t3:Int)];rw [ae]
  rcases hq with rfl|rfl|rfl|rfl
  · exact hn.cell 0
  · exact hn.cell 1
  · exact hn.cell 2
  · exact hn.cell 3
 have ag:=hb.alloc (.cells #[.int .u64 (t0:Int),.int .u64 (t1:Int),.int .u64 (t2:Int),.int .u64 (t3:Int)] 112);have f0:Fr (One g) w (w.alloc (.cells #[.int .u64 (t0:Int),.int .u64 (t1:Int),.int .u64 (t2:Int),.int .u64 (t3:Int)] 112)):=(Fr.refl _ w).alloc _;have ak:=hb.lt;have af:∀k,k<4->cs[off+k]? =some (.int .u64 ((ws.getD k 0:Nat):Int)):=fun k hk=>by rw [<- hb.cell];exact hat k hk
 obtain ⟨vf,ac⟩:∃vf:Nat->Value,vf=fun k=> .int .u64 (((orW ws ts).getD k 0:Nat):Int):=⟨_,rfl⟩;have ab:Hid (Hi cs off (orW ws ts)=Dj cs off vf 4):=by show _=_;rw [ac];rfl
 rw [ab.out]
 have ah:Hid (∀k,k<4->vf k=.int .u64 (bits .or .u64 ((ws.getD k 0:Nat):Int) ((ts.getD k 0:Nat):Int))):=fun k hk=>by
  rw [ac,u64_or_nat _ _ (hs.u64 k) (hs'.u64 k),<- Jy ws ts k hk]
 have aj:=lh hT;have ad:=lh af;clear hat af hs hs' ac ab hT hb ae;go_enter func69,ntmps69;go_upto_region 1 with (fail)
 generalize hA:w.alloc (.cells #[.int .u64 (t0:Int),.int .u64 (t1:Int),.int .u64 (t2:Int),.int .u64 (t3:Int)] 112)=w0 at*;clear hA;go_wp2_with fail
 go_loopw [5] (fun v wr=>∃i:Nat,v=.int .i64 (i:Int)/\i<=4/\Blk wr g t (Dj cs off vf i)/\Fr (One g) w0 wr) (fun v _=>4-(intOf v).toNat)
 case atStart=>exact ⟨0,rfl,by omega,ag,Fr.refl _ _⟩
 case round=>
  obtain ⟨i,rfl,al,aa,hf⟩:=hrel
  by_cases hlt:i<4
  ·
   have i1:(0:Int)<=i:=by omega
   have i2:(i:Int)<4:=by omega
   have i3:(i:Int).toNat=i:=by omega
   have i4:=iw (i:Int);have c1:wr.cell? ⟨g,off+i,none⟩=some (.int .u64 ((ws.getD i 0:Nat):Int)):=by rw [aa.cell,Nc _ _ _ _ _ (by omega)];exact ad.out i hlt
   have c2:wr.cell? ⟨w.heap.size,i,none⟩=some (.int .u64 ((ts.getD i 0:Nat):Int)):=hf.cell (aj.out i hlt) (by show ¬w.heap.size=g;omega);have z1:=aa.frozen (off+i);have ai:=lh (ah.out i hlt);generalize ws.getD i 0=wi at*;generalize ts.getD i 0=ti at*;go_upto_region 4 with (fail)
   refine wp_region_held_drew (S:=(fun w'=>w'.cell? ⟨w.heap.size,i,none⟩=some (.int .u64 (ti:Int)))) (by kernel_rfl) c2 (fun hHeld=> ?_);clear hHeld;have hS:(fun w':World=>w'.cell? ⟨w.heap.size,i,none⟩=some (.int .u64 (ti:Int))) wr.drew:=c2;replace c1:wr.drew.cell? ⟨g,off+i,none⟩=some (.int .u64 (wi:Int)):=c1;replace z1:wr.drew.frozen? ⟨g,off+i,none⟩=false:=z1;replace aa:Blk wr.drew g t (Dj cs off vf i):=aa;replace hf:=hf.drew;generalize wr.drew=wq at*;refine tkH 0 hS (h:=tkH 1 hS (h:=tkH 2 hS (h:=tkH 3 hS (h:=tkH 5 hS (h:=tkH 6 hS (h:=tkH 7 hS (h:=tkH 9 hS (h:=?_))))))));simp only [zl];refine oG 4 (fun K hK=> ?_);go_simp;refine hK.out _ _ hS (fun _=> ?_);clear hK K;try simp only [Ac,zl]
   refine tkH 8 hS (h:=tkH 10 hS (h:=?_));simp only [zl];refine oG 11 (fun K hK=> ?_);go_simp;refine hK.out _ _ (by rw [World.cell?_setCell_far _ _ _ _ (by show g≠w.heap.size;omega)];exact hS) (fun _=> ?_);clear hK K;try simp only [Ac,zl]
   refine oD ?_;go_simp;go_wp2_with fail;go_roundw
   case rel=>exact ⟨i+1,by go_num,by omega,by rw [Dj,ai.out];exact aa.set _ _,hf.setOne _ _⟩
   case measure=>simp [intOf];omega
  ·
   obtain rfl:i=4:=by omega
   go_wp2_with fail
   go_end0
   exact ⟨rfl,aa,f0.transOne hf⟩
end Oq
namespace Oq
structure Cd where
 d:Int
 m:Int
 l:Nat
 k:Nat
 s:Nat
def Cd.cells (c:Cd):List Value:=[.int .i64 c.d,.int .i64 c.m,.int .u64 (c.l:Int),.int .u64 (c.k:Int),.int .u64 (c.s:Int)]
theorem Uc (d m:Int) (l k s:Nat):(Cd.mk d m l k s).cells=[.int .i64 d,.int .i64 m,.int .u64 (l:Int),.int .u64 (k:Int),.int .u64 (s:Int)]:=rfl
end Oq
namespace Oq
attribute [local go_sem] Bool.not_false Bool.not_true
theorem Ud (l:List Id) (k:Nat) (x y:Id) (h:l[k]? =some y):Bi (l.take (k+1)) x=(Bi (l.take k) x||Id.eq y x):=by
 obtain ⟨hk,rfl⟩:=List.getElem?_eq_some_iff.1 h;rw [Ao8 hk];unfold Bi;rw [List.any_append];simp
theorem Hj (l:List Id) (x:Id):Bi l x=true<->x∈l:=by
 unfold Bi;rw [List.any_eq_true];exact ⟨fun ⟨y,hy,he⟩=>by rw [<- (Id.eq_iff y x).1 he];exact hy,fun h=>⟨x,h,(Id.eq_iff x x).2 rfl⟩⟩
theorem Ue (l:List Id) (k:Nat) (x:Id) (h:Bi (l.take k) x=true):Bi l x=true:=
 (Hj _ _).2 (Aq1 ((Hj _ _).1 h))
theorem E8 (x y:Id) (w:World):(Op.equalIn 10000 38 (.agg x.V) (.agg y.V)).run zp w=.ok (Id.eq x y) w:=by
 have hS:zp.underlying 38=some (.struct (zp.fieldsOf 38)):=by kernel_rfl
 have hp:zp.stoodInHeld 38=false:=by kernel_rfl
 rw [show (10000:Nat)=9999+1 from rfl,run_equalIn_agg w 9999 38 _ _ hS hp];simp only [Program.fieldsOf,underlying38];have e3:((x.u:Int)==(y.u:Int))=(x.u==y.u):=by rw [Ao3];simp;omega
 unfold Id.eq;go_simp
 by_cases h1:x.b=y.b<;>by_cases h2:x.s=y.s<;>by_cases h3:x.u=y.u<;>simp [h1,h2,h3]
attribute [local go_sem ↓] E8
theorem J2:zp.eqGuardType zp.depth 38=false:=by kernel_rfl
theorem Hk (B n c:Nat) (A:Option Addr) (l:List Id) (x:Id) (w:World) (hn:Hid (l.length=n)) (hr:Rd w B 3 A n (l.flatMap Id.cells)) (hnm:n<=1000000):
  Calls zp 31 #[.slice A n c,.agg x.V] w (Ae (Bi l x) w):=by
 have hb0:=Blk.new w 38 x.V;go_enter func31,ntmps31;go_wp2
 go_loopw [5] (fun v wr=>∃k:Nat,v=.int .i64 (k:Int)/\k<=n/\Hid (Bi (l.take k) x=false)/\Fr Non (w.alloc (.cells x.V 38)) wr) (fun v _=>n-(intOf v).toNat)
 case atStart=>exact ⟨0,rfl,by omega,rfl,Fr.refl _ _⟩
 case round=>
  obtain ⟨k,rfl,hk,hh,hf⟩:=hrel
  by_cases hlt:k<n
  ·
   obtain ⟨y,hy⟩:∃y,l[k]? =some y:=⟨_,An6 (by rw [hn.out];exact hlt)⟩;obtain ⟨b,off,rfl,hbB,k0,k1,k2⟩:=Id.at ((hr.alloc _).fr hf zr) hy;have hsn:=lh (Ud l k x y hy);clear hy;have hb:=hb0.fr hf zq;have c0:=hb.cell 0;have c1:=hb.cell 1;have c2:=hb.cell 2;obtain ⟨i1,i2,i3⟩:=ix k n
   have hm:=J2
   by_cases he:Id.eq y x=true
   ·
    have hfin:Hid (Bi l x=true):=Ue l (k+1) x (by rw [hsn.out,he];simp);go_wp2
    go_quiet (fail)
    go_wp2
    go_ret
    exact ⟨by rw [hfin.out];rfl,(((Fr.refl Non w).alloc _).trans hf zr).drewN _⟩
   ·
    have he:=Aq2 _▸he;have hfin:Hid (Bi (l.take (k+1)) x=false):=by show _=_;rw [hsn.out,he,hh.out];rfl
    go_wp2
    go_quiet (fail)
    go_wp2;go_roundw
    case rel=>exact ⟨k+1,by go_num,by omega,hfin,hf.drewN _⟩
    case measure=>simp [intOf];omega
  ·
   obtain rfl:k=n:=by omega
   have hfin:Hid (Bi l x=false):=by have h:=hh.out;rw [An9 (by rw [hn.out];omega)] at h;exact h
   go_wp2
   go_ret
   exact ⟨by rw [hfin.out];rfl,((Fr.refl Non w).alloc _).trans hf zr⟩
theorem Rd.partN {w:World} {B size n:Nat} {A:Option Addr} {xs:List Value} (h:Rd w B size A n xs) {lo hi:Nat} (h1:lo<=hi) (h2:hi<=n) (A':Option Addr)
  (hA:lo<hi->A'=A.map (·.add (lo*size))):Rd w B size A' (hi-lo) ((xs.drop (lo*size)).take ((hi-lo)*size)):=by
 have hl:=h.1;have e1:=Nat.mul_le_mul_right size h2;have e2:(hi-lo)*size+lo*size=hi*size:=by rw [<- Ap7,Nat.sub_add_cancel h1]
 refine ⟨by simp;omega,?_⟩
 rcases Ap6 lo hi with hlt|hge
 ·
  rcases h.2 with h0|⟨b,off,e,hb,hc⟩
  · omega
  ·
   refine .inr ⟨b,off+lo*size,?_,hb,?_⟩
   ·
    rw [hA hlt,e];simp only [Option.map_some,Addr.add]
    split
    ·
     rename_i h0;rw [h0];rfl
    · rfl
   ·
    intro j u hu;rw [List.getElem?_take] at hu
    split at hu
    ·
     rw [List.getElem?_drop] at hu;rw [Nat.add_assoc];exact hc _ _ hu
    · cases hu
 · exact .inl (by omega)
theorem Uf {α:Type} {f:α->List Value} {size:Nat} (hf:∀x,(f x).length=size) (l:List α) (m:Nat):(l.flatMap f).drop (m*size)=(l.drop m).flatMap f:=by
 induction l generalizing m with
 |nil=>simp
 |cons y l ih=>
  match m with
  |0=>simp
  |m+1=>
   rw [Ao2,List.drop_succ_cons,List.drop_append,hf,List.drop_of_length_le (by rw [hf,Ap7];omega),Ap8,show (m+1)*size-size=m*size by rw [Ap7];omega,ih]
theorem Id.cells_len (x:Id):x.cells.length=3:=rfl
theorem Id.cells_one (l:List Id):∀u∈l.flatMap Id.cells,u.oneCell'=true:=by
 intro u hu;obtain ⟨x,_,hx⟩:=List.mem_flatMap.1 hu;unfold Id.cells at hx;simp at hx
 rcases hx with rfl|rfl|rfl<;>rfl
theorem Nf (l:List Id) (a b:Nat):∀u∈((l.flatMap Id.cells).drop a).take b,u.oneCell'=true:=fun u hu=>Id.cells_one l u (List.mem_of_mem_drop (Aq1 hu))
theorem add_zero (A:Option Addr):A=A.map (·.add (0*3)):=by
 cases A with
 |none=>rfl
 |some a=>rw [Nat.zero_mul];rfl
theorem Ng (l:List Id) (x:Id):(ins l x).length=l.length+1:=by
 unfold ins;have h:(l.take (Bm x l l.length)).length+(l.drop (Bm x l l.length)).length=l.length:=by rw [<- An3,List.take_append_drop]
 rw [An3,An3,List.length_singleton];omega
theorem Nh (xs:List Id) (x:Id) {i K:Nat} (hl:xs.length=i) (hk:Bm x xs i=K):
  (xs.take K).flatMap Id.cells++[.int .i64 x.b,.int .i64 x.s,.int .u64 (x.u:Int)]++((xs.flatMap Id.cells).drop (K*3)).take ((i-K)*3)=(ins xs x).flatMap Id.cells:=by
 rw [Uf Id.cells_len,Jj Id.cells_len,An9 (l:=xs.drop K) (by rw [List.length_drop,hl];exact An4 _)];unfold ins;rw [hl,hk,Ao5,Ao5,Ao2,Ao9,Ap0];rfl
theorem Ug (l:List Id) (k:Nat) (x:Id) (h:l[k]? =some x):An (l.take (k+1))=ins (An (l.take k)) x:=by
 obtain ⟨hk,rfl⟩:=List.getElem?_eq_some_iff.1 h;rw [Ao8 hk];unfold An;rw [List.foldl_append];rfl
theorem Uh (x y:Id) (l:List Id) (k:Nat) (h:l[k]? =some y):Bm x l (k+1)=if Id.less x y then Bm x l k else k+1:=by
 show (match l[k]? with|some y=>if Id.less x y then Bm x l k else k+1|none=>k+1)=_;rw [h]
def SortPost (l:List Id) (n:Nat) (w:World) (r:Ending) (w':World):Prop:=
 ∃A c,r=.returned (.slice A n c)/\Own w' w.heap.size 38 3 A n c ((An l).flatMap Id.cells)/\Fr Non w w'
theorem Fm (B n c:Nat) (A:Option Addr) (l:List Id) (w:World) (hn:Hid (l.length=n)) (hr:Rd w B 3 A n (l.flatMap Id.cells)) (hnm:n<=1000000):
  Calls zp 48 #[.slice A n c] w (SortPost l n w):=by
 go_enter func48,ntmps48;go_wp2
 go_loopw [3,4] (fun s v wr=>∃(i:Nat) (Ax:Option Addr) (cx:Nat) (xs:List Id),v=.int .i64 (i:Int)/\s=.slice Ax i cx/\i<=n/\Hid (xs=An (l.take i))/\Hid (xs.length=i)/\
  Own wr w.heap.size 38 3 Ax i cx (xs.flatMap Id.cells)/\Fr Non w wr) (fun _ v _=>n-(intOf v).toNat)
 case atStart=>exact ⟨0,none,0,[],rfl,rfl,by omega,rfl,rfl,Own.nil _ _ _ _,Fr.refl _ _⟩
 case round=>
  obtain ⟨i,Ax,cx,xs,rfl,rfl,hi,a6,a0,af,hf⟩:=hrel
  by_cases hlt:i<n
  ·
   obtain ⟨x,hx⟩:∃x,l[i]? =some x:=⟨_,An6 (by rw [hn.out];exact hlt)⟩;obtain ⟨b,ag,rfl,bk,k0,k1,k2⟩:=Id.at (hr.fr hf zr) hx;have bb:=lh (Ug l i x hx);clear hx;have bi:=af.cap;obtain ⟨wo,bf⟩:∃wo:World,wo=wr:=⟨_,rfl⟩;subst bf;go_wp2
   go_loopw [5] (fun v wi=>∃k:Nat,v=.int .i64 (k:Int)/\k<=i/\Hid (Bm x xs i=Bm x xs k)/\Fr Non wo wi) (fun v _=>(intOf v).toNat)
   case atStart=>exact ⟨i,rfl,by omega,rfl,Fr.refl _ _⟩
   case round=>
    obtain ⟨k,rfl,hk,aw,ah⟩:=hrel
    rcases Nat.eq_zero_or_pos k with h0|h0
    ·
     subst h0;have a1:=lh aw.out;have bh:=ah.size;have bj:=hf.size;have ae:=af.fr ah zr;have ar:=Own.nil wr w.heap.size 38 3;have al:=ae.rd.takeN (m:=0) (by omega);rw [Jj Id.cells_len] at al;have bd:=ae.row;obtain ⟨G0,G1,G2⟩:=zk3 ah k0 k1 k2;go_upto_region 10 with (fail)
     have nA:∀k,Ab Ax=some k->k<wo.heap.size:=fun k hk=>(af.row k hk).2
     go_wp2_with (first
      |(at_builtin;go_loud (refine Aw (base:=w.heap.size) (.tmp 30) (.tmp 33) 28 rfl rfl rfl rfl C1 ar al (Id.cells_one _) (by omega) (by omega) (by omega) ?_);intro A1 c1 w2 ai a5 ao;have ab:Fr Non _ w2:=a5.mono (fun k _ hk=>by cases hk);have bg:=ab.size;obtain ⟨H0,H1,H2⟩:=zk3 ab G0 G1 G2;have av:∀k,Ab A1=some k->wo.heap.size<=k:=fun k hk=>(by rcases ao with e|e;(rw [e] at hk;cases hk);(rw [e] at hk;injection hk with hk;omega));clear ao;rw [Nat.zero_add,Ap8] at ai)
      |(at_builtin;go_loud (refine Aw (base:=w.heap.size) (.tmp 35) (.tmp 40) 28 rfl rfl rfl rfl C1 (ai.alloc (.cells x.V 38)) (Rd.blk (n:=1) (size:=3) (Blk.new w2 38 x.V) rfl) (by simp [Value.oneCell']) (by omega) (by omega) (by rw [An7];omega) ?_);intro A2 c2 w3 au ay aj;have a3:=ay.size;rw [An7] at a3;have a4:∀k,Ab A2=some k->wo.heap.size<=k:=fun k hk=>(by rcases aj with e|e;(rw [e] at hk;exact av k hk);(rw [e,An7] at hk;injection hk with hk;omega));clear aj;have ak:=((ae.fr ab zr).alloc (.cells x.V 38)).fr ay (fun k hk e=>by have e1:=av k e;have e2:=nA k hk;omega))
      |(at_builtin;go_loud (refine Aw (base:=w.heap.size) (.tmp 42) (.tmp 45) 28 rfl rfl rfl rfl C1 au (Rd.partN ak.rd (lo:=0) (hi:=i) (by omega) (An4 _) _ (fun hlt=>add_zero Ax)) (Nf _ _ _) (by omega) (by omega) (by omega) ?_);intro A3 c3 w4 az a7 ba))
     have ap:Hid (ins xs x=An (l.take (i+1))):=by show _=_;rw [bb.out,<- a6.out]
     have ac:(xs.take (0)).flatMap Id.cells++[.int .i64 x.b,.int .i64 x.s,.int .u64 (x.u:Int)]++((xs.flatMap Id.cells).drop ((0)*3)).take ((i-(0))*3)=(ins xs x).flatMap Id.cells:=by
      exact Nh xs x a0.out (a1.out)
     have a9:Fr Non w w4:=(((hf.trans ah zr).trans ab zr).alloc (.cells x.V 38)).trans ay (fun k hk e=>by have:=av k e;omega)|>.trans a7 (fun k hk e=>by have:=a4 k e;omega);go_roundw
     case rel=>exact ⟨i+1,A3,c3,ins xs x,by go_num,by first|rfl|(congr 1;omega),by omega,ap,by show _=_;rw [Ng,a0.out],by rw [<- ac,show i+1=0+1+(i-(0)) by omega];exact az,a9⟩
     case measure=>simp [intOf];omega
    ·
     obtain ⟨j,rfl⟩:∃j,k=j+1:=⟨k-1,by omega⟩;obtain ⟨y,hy⟩:∃y,xs[j]? =some y:=⟨_,An6 (by rw [a0.out];omega)⟩;obtain ⟨b2,aa,be,bl,m0,m1,m2⟩:=Id.at (af.rd.fr ah zr) hy;subst be;have bc:=lh (Uh x y xs j hy);clear hy;obtain ⟨K0,K1,K2⟩:=zk3 ah k0 k1 k2
     by_cases hL:Id.less x y=true
     ·
      have a2:Hid (Bm x xs i=Bm x xs j):=by show _=_;rw [aw.out,bc.out,if_pos hL]
      go_upto_region 7 with (fail)
      have e1:IntKind.i64.wrap (((j+1:Nat):Int)-1)=(j:Int):=by rw [show ((j+1:Nat):Int)-1=j by omega];exact IntWalk.i64_in _ (by omega)
      have a8:IntKind.i64.wrap ((j:Int)+1-1)=(j:Int):=by rw [show (j:Int)+1-1=j by omega];exact IntWalk.i64_in _ (by omega)
      have ax:=iw (j:Int);obtain ⟨e2,e3,e4⟩:=ix j i
      obtain ⟨f2,f3,f4⟩:=ix i n
      have D0:wr.drew.cell? ⟨b,ag+i*3,none⟩=some (.int .i64 x.b):=K0;have D1:wr.drew.cell? ⟨b,ag+i*3+1,none⟩=some (.int .i64 x.s):=K1;have D2:wr.drew.cell? ⟨b,ag+i*3+2,none⟩=some (.int .u64 (x.u:Int)):=K2;have M0:wr.drew.cell? ⟨b2,aa+j*3,none⟩=some (.int .i64 y.b):=m0;have M1:wr.drew.cell? ⟨b2,aa+j*3+1,none⟩=some (.int .i64 y.s):=m1;have M2:wr.drew.cell? ⟨b2,aa+j*3+2,none⟩=some (.int .u64 (y.u:Int)):=m2
      go_region_held3 (fun w'=>w'.cell? ⟨b,ag+i*3,none⟩=some (.int .i64 x.b)/\w'.cell? ⟨b,ag+i*3+1,none⟩=some (.int .i64 x.s)/\w'.cell? ⟨b,ag+i*3+2,none⟩=some (.int .u64 (x.u:Int))/\w'.cell? ⟨b2,aa+j*3,none⟩=some (.int .i64 y.b)/\w'.cell? ⟨b2,aa+j*3+1,none⟩=some (.int .i64 y.s)/\w'.cell? ⟨b2,aa+j*3+2,none⟩=some (.int .u64 (y.u:Int))) ((and_intros<;>assumption)) (first
       |(go_at_call 95;(with_reducible refine (Jv x y _).mono ?_);rintro _ w1 ⟨rfl,ad⟩;obtain ⟨D0,D1,D2,M0,M1,M2⟩:=zk6 ad D0 D1 D2 M0 M1 M2))
      clear e1 a8 ax e2 e3 e4 f2 f3 f4;have aq:=(ah.drew).trans ad zr;go_wp2;go_roundw
      case rel=>exact ⟨j,by go_num,by omega,a2,aq⟩
      case measure=>first|(simp [intOf];done)|(simp [intOf];omega)
     ·
      have a1:Hid (Bm x xs i=j+1):=by show _=_;rw [aw.out,bc.out,if_neg hL]
      have hL:=Aq2 _▸hL;go_upto_region 7 with (fail)
      have e1:IntKind.i64.wrap (((j+1:Nat):Int)-1)=(j:Int):=by rw [show ((j+1:Nat):Int)-1=j by omega];exact IntWalk.i64_in _ (by omega)
      have a8:IntKind.i64.wrap ((j:Int)+1-1)=(j:Int):=by rw [show (j:Int)+1-1=j by omega];exact IntWalk.i64_in _ (by omega)
      have ax:=iw (j:Int);obtain ⟨e2,e3,e4⟩:=ix j i
      obtain ⟨f2,f3,f4⟩:=ix i n
      have D0:wr.drew.cell? ⟨b,ag+i*3,none⟩=some (.int .i64 x.b):=K0;have D1:wr.drew.cell? ⟨b,ag+i*3+1,none⟩=some (.int .i64 x.s):=K1;have D2:wr.drew.cell? ⟨b,ag+i*3+2,none⟩=some (.int .u64 (x.u:Int)):=K2;have M0:wr.drew.cell? ⟨b2,aa+j*3,none⟩=some (.int .i64 y.b):=m0;have M1:wr.drew.cell? ⟨b2,aa+j*3+1,none⟩=some (.int .i64 y.s):=m1;have M2:wr.drew.cell? ⟨b2,aa+j*3+2,none⟩=some (.int .u64 (y.u:Int)):=m2
      go_region_held3 (fun w'=>w'.cell? ⟨b,ag+i*3,none⟩=some (.int .i64 x.b)/\w'.cell? ⟨b,ag+i*3+1,none⟩=some (.int .i64 x.s)/\w'.cell? ⟨b,ag+i*3+2,none⟩=some (.int .u64 (x.u:Int))/\w'.cell? ⟨b2,aa+j*3,none⟩=some (.int .i64 y.b)/\w'.cell? ⟨b2,aa+j*3+1,none⟩=some (.int .i64 y.s)/\w'.cell? ⟨b2,aa+j*3+2,none⟩=some (.int .u64 (y.u:Int))) ((and_intros<;>assumption)) (first
       |(go_at_call 95;(with_reducible refine (Jv x y _).mono ?_);rintro _ w1 ⟨rfl,ad⟩;obtain ⟨D0,D1,D2,M0,M1,M2⟩:=zk6 ad D0 D1 D2 M0 M1 M2))
      clear e1 a8 ax e2 e3 e4 f2 f3 f4;have aq:=(ah.drew).trans ad zr;have bh:=aq.size;have bj:=hf.size;have ae:=af.fr aq zr;have ar:=Own.nil w1 w.heap.size 38 3;have al:=ae.rd.takeN (m:=j+1) (by omega);rw [Jj Id.cells_len] at al;have bd:=ae.row;obtain ⟨G0,G1,G2⟩:=zk3 aq k0 k1 k2;go_upto_region 10 with (fail)
      have nA:∀k,Ab (some (⟨b2,aa,none⟩:Addr))=some k->k<wo.heap.size:=fun k hk=>(af.row k hk).2
      go_wp2_with (first
       |(at_builtin;go_loud (refine Aw (base:=w.heap.size) (.tmp 30) (.tmp 33) 28 rfl rfl rfl rfl C1 ar al (Id.cells_one _) (by omega) (by omega) (by omega) ?_);intro A1 c1 w2 ai a5 ao;have ab:Fr Non _ w2:=a5.mono (fun k _ hk=>by cases hk);have bg:=ab.size;obtain ⟨H0,H1,H2⟩:=zk3 ab G0 G1 G2;have av:∀k,Ab A1=some k->wo.heap.size<=k:=fun k hk=>(by rcases ao with e|e;(rw [e] at hk;cases hk);(rw [e] at hk;injection hk with hk;omega));clear ao;rw [Nat.zero_add,Ap8] at ai)
       |(at_builtin;go_loud (refine Aw (base:=w.heap.size) (.tmp 35) (.tmp 40) 28 rfl rfl rfl rfl C1 (ai.alloc (.cells x.V 38)) (Rd.blk (n:=1) (size:=3) (Blk.new w2 38 x.V) rfl) (by simp [Value.oneCell']) (by omega) (by omega) (by rw [An7];omega) ?_);intro A2 c2 w3 au ay aj;have a3:=ay.size;rw [An7] at a3;have a4:∀k,Ab A2=some k->wo.heap.size<=k:=fun k hk=>(by rcases aj with e|e;(rw [e] at hk;exact av k hk);(rw [e,An7] at hk;injection hk with hk;omega));clear aj;have ak:=((ae.fr ab zr).alloc (.cells x.V 38)).fr ay (fun k hk e=>by have e1:=av k e;have e2:=nA k hk;omega))
       |(at_builtin;go_loud (refine Aw (base:=w.heap.size) (.tmp 42) (.tmp 45) 28 rfl rfl rfl rfl C1 au (Rd.partN ak.rd (lo:=j+1) (hi:=i) (by omega) (An4 _) _ (fun hlt=>if_neg (by omega))) (Nf _ _ _) (by omega) (by omega) (by omega) ?_);intro A3 c3 w4 az a7 ba))
      have ap:Hid (ins xs x=An (l.take (i+1))):=by show _=_;rw [bb.out,<- a6.out]
      have ac:(xs.take (j+1)).flatMap Id.cells++[.int .i64 x.b,.int .i64 x.s,.int .u64 (x.u:Int)]++((xs.flatMap Id.cells).drop ((j+1)*3)).take ((i-(j+1))*3)=(ins xs x).flatMap Id.cells:=by
       exact Nh xs x a0.out (a1.out)
      have a9:Fr Non w w4:=(((hf.trans aq zr).trans ab zr).alloc (.cells x.V 38)).trans ay (fun k hk e=>by have:=av k e;omega)|>.trans a7 (fun k hk e=>by have:=a4 k e;omega);go_roundw
      case rel=>exact ⟨i+1,A3,c3,ins xs x,by go_num,by first|rfl|(congr 1;omega),by omega,ap,by show _=_;rw [Ng,a0.out],by rw [<- ac,show i+1=j+1+1+(i-(j+1)) by omega];exact az,a9⟩
      case measure=>simp [intOf];omega
  ·
   obtain rfl:i=n:=by omega
   have ap:Hid (xs=An l):=by have h:=a6.out;rw [An9 (by rw [hn.out];omega)] at h;exact h
   go_wp2
   go_ret
   exact ⟨Ax,cx,rfl,by rw [<- ap.out];exact af,hf⟩
end Oq
end Go.Proofs.YtihfebhfgliojaaGreatDoor
