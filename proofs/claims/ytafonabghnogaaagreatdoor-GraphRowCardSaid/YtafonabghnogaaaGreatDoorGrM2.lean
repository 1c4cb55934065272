/-
  Contracts of the functions that the claim's statement reaches, walked one by one (part 2).
  Conditions: as each theorem says.
-/
import Derived.Test.YtafonabghnogaaaGreatDoorProg
import Derived.Laws.Tables
import Derived.Deep.RegionHeld3
import Derived.Deep.Cut
import Derived.BigQuiet
import Derived.Deep.RegionWith
import Derived.IntWalk
import Derived.Laws.StructEq
import Derived.Test.YtafonabghnogaaaGreatDoorGrM1
set_option maxRecDepth 100000
set_option maxHeartbeats 16000000
open Array renaming getElem?_modify→Am6
open Bool renaming eq_iff_iff→Am1,not_eq_true→Am8
open List renaming length_append→Al1,append_assoc→Al3,getElem?_eq_getElem→Al4,take_of_length_le→Al5,mem_of_getElem?→Al6,flatMap_cons→Am0,take_succ_eq_append_getElem→Am2,flatMap_append→Am3,append_nil→Am4,range→Am5,nil_append→An1,take_append_drop→An2,mem_cons_self→An3,flatMap_nil→An4,mem_of_mem_take→An5,length_drop→An6,pairwise_append→An7,all_eq_true→An8
open Nat renaming le_refl→Al2,mul_add→Al8,zero_add→Am7,add_mul→Am9,lt_or_ge→An0
open Go.World renaming size_alloc→Al7,setRow→Al9
namespace Go.Proofs.YtafonabghnogaaaGreatDoor
section
open Go.RowKit
attribute [local go_sem ↓] Go.wp_at_zero Go.wp_at_succ
namespace Oq
theorem Dk {α:Type} (enc:α→List UInt8) (l:List α) {k:Nat} {x:α} (h:l[k]? =some x):(l.take (k+1)).flatMap enc=(l.take k).flatMap enc++enc x:=by
 obtain ⟨hk,rfl⟩:=List.getElem?_eq_some_iff.1 h
 rw [Am2 hk,Am3,Am0,An4,Am4]
theorem Fo {α:Type} {enc:α→List UInt8} {K:Nat} (l:List α) (h:∀x∈l,(enc x).length≤K):(l.flatMap enc).length≤K*l.length:=by
 induction l with
 |nil=>simp
 |cons x l ih=>
  have h1:=h x (by simp)
  have h2:=ih (fun y hy=>h y (by simp [hy]))
  rw [Am0,Al1,List.length_cons,Al8]
  omega
theorem C1 {α:Type} {enc:α→List UInt8} {K:Nat} (l:List α) (h:∀x∈l,(enc x).length≤K):(lst enc l).length≤10+K*l.length:=by
 unfold lst
 rw [Al1]
 have h1:=Pk.int_len l.length
 have h2:=Fo l h
 omega
theorem Id.bytes_len (x:Id):x.bytes.length≤30:=Pk.ident_len _ _ _
theorem Bx.bytes_len (x:Bx):x.bytes.length≤40:=by
 unfold Bx.bytes
 simp only [Al1]
 have h1:=Pk.num_len x.t
 have h2:=Pk.num_len x.e
 have h3:=Pk.num_len x.y
 have h4:=Pk.num_len x.g
 omega
theorem Nd.bytes_len (x:Nd) (h:x.ok):x.bytes.length≤40020:=by
 unfold Nd.bytes
 rw [Al1]
 have h1:=Pk.num_len x.p
 have h2:=C1 x.xs (fun y _=>Bx.bytes_len y)
 have h3:=h.2.1
 omega
theorem Sl.bytes_len (x:Sl) (h:x.y.length≤1000000):x.bytes.length≤1000040:=by
 unfold Sl.bytes
 rw [Al1]
 have h1:=Id.bytes_len x.f
 have h2:=Pk.text_len x.y
 omega
theorem El {α:Type} {f:α→List Value} {size:Nat} {w:World} {B n:Nat} {A:Option Addr} {l:List α} (hlen:∀x,(f x).length=size) (hs:0<size) (h:Rd w B size A n (l.flatMap f)) {k:Nat} {o:α} (hk:l[k]? =some o):
  ∃b off,A=some ⟨b,off,none⟩∧b<B∧∀j,j<size→∀u,(f o)[j]? =some u→w.cell? ⟨b,off+k*size+j,none⟩=some u:=by
 have hl:=h.1
 rw [Fb hlen] at hl
 have hkl:=(List.getElem?_eq_some_iff.1 hk).1
 have hle:l.length=n:=Nat.eq_of_mul_eq_mul_right hs hl
 obtain ⟨b,off,e,hb,hc⟩:=h.cells (k:=k) (by omega)
 exact ⟨b,off,e,hb,fun j hj u hu=>hc j hj u (by rw [Fa (f:=f) hlen l k j o hk hj];exact hu)⟩
theorem Id.at {w:World} {B n:Nat} {A:Option Addr} {l:List Id} (h:Rd w B 3 A n (l.flatMap Id.cells)) {k:Nat} {o:Id} (hk:l[k]? =some o):
  ∃b off,A=some ⟨b,off,none⟩∧b<B∧w.cell? ⟨b,off+k*3,none⟩=some (.int .i64 o.b)∧w.cell? ⟨b,off+k*3+1,none⟩=some (.int .i64 o.s)∧w.cell? ⟨b,off+k*3+2,none⟩=some (.int .u64 (o.u:Int)):=by
 obtain ⟨b,off,e,hb,hc⟩:=El (f:=Id.cells) (fun _=>rfl) (by omega) h hk
 exact ⟨b,off,e,hb,hc 0 (by omega) _ rfl,hc 1 (by omega) _ rfl,hc 2 (by omega) _ rfl⟩
theorem Bx.at {w:World} {B n:Nat} {A:Option Addr} {l:List Bx} (h:Rd w B 4 A n (l.flatMap Bx.cells)) {k:Nat} {o:Bx} (hk:l[k]? =some o):
  ∃b off,A=some ⟨b,off,none⟩∧b<B∧w.cell? ⟨b,off+k*4,none⟩=some (.int .u64 (o.t:Int))∧w.cell? ⟨b,off+k*4+1,none⟩=some (.int .u64 (o.e:Int))∧w.cell? ⟨b,off+k*4+2,none⟩=some (.int .u64 (o.y:Int))∧w.cell? ⟨b,off+k*4+3,none⟩=some (.int .u64 (o.g:Int)):=by
 obtain ⟨b,off,e,hb,hc⟩:=El (f:=Bx.cells) (fun _=>rfl) (by omega) h hk
 exact ⟨b,off,e,hb,hc 0 (by omega) _ rfl,hc 1 (by omega) _ rfl,hc 2 (by omega) _ rfl,hc 3 (by omega) _ rfl⟩
theorem NdL.el {w:World} {B n:Nat} {A:Option Addr} {l:List NdL} (h:Rd w B 2 A n (l.flatMap NdL.cells)) {k:Nat} {o:NdL} (hk:l[k]? =some o):
  ∃b off,A=some ⟨b,off,none⟩∧b<B∧w.cell? ⟨b,off+k*2,none⟩=some (.int .u64 (o.p:Int))∧w.cell? ⟨b,off+k*2+1,none⟩=some (.slice o.A o.xs.length o.c):=by
 obtain ⟨b,off,e,hb,hc⟩:=El (f:=NdL.cells) (fun _=>rfl) (by omega) h hk
 exact ⟨b,off,e,hb,hc 0 (by omega) _ rfl,hc 1 (by omega) _ rfl⟩
theorem SlL.el {w:World} {B n:Nat} {A:Option Addr} {l:List SlL} (h:Rd w B 4 A n (l.flatMap SlL.cells)) {k:Nat} {o:SlL} (hk:l[k]? =some o):
  ∃b off,A=some ⟨b,off,none⟩∧b<B∧w.cell? ⟨b,off+k*4,none⟩=some (.int .i64 o.f.b)∧w.cell? ⟨b,off+k*4+1,none⟩=some (.int .i64 o.f.s)∧w.cell? ⟨b,off+k*4+2,none⟩=some (.int .u64 (o.f.u:Int))∧w.cell? ⟨b,off+k*4+3,none⟩=some (.slice o.A o.y.length o.c):=by
 obtain ⟨b,off,e,hb,hc⟩:=El (f:=SlL.cells) (fun _=>rfl) (by omega) h hk
 exact ⟨b,off,e,hb,hc 0 (by omega) _ rfl,hc 1 (by omega) _ rfl,hc 2 (by omega) _ rfl,hc 3 (by omega) _ rfl⟩
theorem Hj {α:Type} {f:α→Value} {w:World} {B n:Nat} {A:Option Addr} {l:List α} (h:Rd w B 1 A n (l.map f)) {k:Nat} {o:α} (hk:l[k]? =some o):
  ∃b off,A=some ⟨b,off,none⟩∧b<B∧w.cell? ⟨b,off+k,none⟩=some (f o):=by
 have hkl:=(List.getElem?_eq_some_iff.1 hk).1
 have hl:=h.1
 simp at hl
 obtain ⟨b,off,u,e,hb,hx,hc⟩:=h.at (k:=k) (by omega)
 rw [List.getElem?_map,hk] at hx
 injection hx with hx
 exact ⟨b,off,e,hb,by rw [hc,← hx]⟩
theorem To (B g:Nat) (A0:Option Addr) (c0:Nat) (bs:List UInt8) (l:List Id) (Al:Option Addr) (n cl:Nat) (w:World) (ho:OutAt w B g A0 c0 bs) (hn:Hid (l.length=n)) (hok:∀x∈l,x.ok)
  (hr:Rd w B 3 Al n (l.flatMap Id.cells)) (hl:bs.length+10+30*n≤1099511627690):
  Calls Tryz.prog 141 #[.pointer (some ⟨g,0,none⟩),.slice Al n cl,.func (.func 142) #[.pointer (some ⟨g,0,none⟩)] #[]] w (C8 B g A0 (bs++lst Id.bytes l) w):=by
 go_enter Tryz.func141,Tryz.ntmps141
 go_wp2_with (fail)
 refine (Dr B g A0 c0 bs (n:Int) _ ho (by omega) (by omega) (by omega)).mono ?_
 rintro _ w1 ⟨rfl,A1,c1,ho1,hst1⟩
 have hil:=Pk.int_len (n:Int)
 go_wp2
 go_loopw [14] (fun v wr=>∃(i:Nat) (A:Option Addr) (c:Nat) (D:List UInt8),v=.int .i64 (i:Int)∧i≤n∧Hid (D=bs++Pk.int (n:Int)++(l.take i).flatMap Id.bytes)∧D.length≤bs.length+10+30*i∧OutAt wr B g A c D∧Bf g w A0 wr A) (fun v _=>n-(intOf v).toNat)
 case atStart=>exact ⟨0,A1,c1,_,rfl,by omega,by show _=_;simp,by simp;omega,ho1,hst1⟩
 case round=>
  obtain ⟨i,A,c,D,rfl,hin,hD,hDl,hoi,hst⟩:=hrel
  by_cases hlt:i<n
  ·
   obtain ⟨x,hx⟩:∃x,l[i]? =some x:=⟨_,Al4 (by rw [hn.out];exact hlt)⟩
   have hxo:=hok x (Al6 hx)
   obtain ⟨⟨x0,x1⟩,⟨x2,x3⟩,x4⟩:=hxo
   obtain ⟨b,off,rfl,hb,k0,k1,k2⟩:=Id.at (hr.fr hst.fr (ho.not (Al2 _))) hx
   have hxl:=Id.bytes_len x
   have hx':=Lib.hid hx
   clear hx
   go_wp2_with (fail)
   refine (Hi B g A c D x.b x.s x.u _ (hoi.alloc (.cells x.V 38)) x0 x1 x2 x3 x4 (by omega)).mono ?_
   rw [show Pk.ident x.b x.s x.u=x.bytes from rfl]
   rintro _ w2 ⟨rfl,A2,c2,ho2,hs2⟩
   go_wp2
   go_roundw
   case rel=>
    refine ⟨i+1,A2,c2,_,by go_num,by omega,?_,by rw [Al1,Al8];omega,ho2,(hst.alloc (.cells x.V 38)).trans hs2⟩
    show _=_
    rw [hD.out,Dk _ l hx'.out,← Al3]
   case measure=>simp [intOf];omega
  ·
   have hi:i=n:=by omega
   subst hi
   go_wp2
   go_end0
   refine ⟨rfl,A,c,?_,hst⟩
   have e:bs++lst Id.bytes l=D:=by rw [hD.out,Al5 (by rw [hn.out];omega),Al3];unfold lst;rw [hn.out]
   rw [e]
   exact hoi
theorem Tp (B g:Nat) (A0:Option Addr) (c0:Nat) (bs:List UInt8) (l:List Nat) (Al:Option Addr) (n cl:Nat) (w:World) (ho:OutAt w B g A0 c0 bs) (hn:Hid (l.length=n)) (hok:∀x∈l,U64 x)
  (hr:Rd w B 1 Al n (l.map Uv)) (hl:bs.length+10+10*n≤1099511627690):
  Calls Tryz.prog 147 #[.pointer (some ⟨g,0,none⟩),.slice Al n cl,.func (.func 140) #[.pointer (some ⟨g,0,none⟩)] #[]] w (C8 B g A0 (bs++lst Pk.num l) w):=by
 go_enter Tryz.func147,Tryz.ntmps147
 go_wp2_with (fail)
 refine (Dr B g A0 c0 bs (n:Int) _ ho (by omega) (by omega) (by omega)).mono ?_
 rintro _ w1 ⟨rfl,A1,c1,ho1,hst1⟩
 have hil:=Pk.int_len (n:Int)
 go_wp2
 go_loopw [14] (fun v wr=>∃(i:Nat) (A:Option Addr) (c:Nat) (D:List UInt8),v=.int .i64 (i:Int)∧i≤n∧Hid (D=bs++Pk.int (n:Int)++(l.take i).flatMap Pk.num)∧D.length≤bs.length+10+10*i∧OutAt wr B g A c D∧Bf g w A0 wr A) (fun v _=>n-(intOf v).toNat)
 case atStart=>exact ⟨0,A1,c1,_,rfl,by omega,by show _=_;simp,by simp;omega,ho1,hst1⟩
 case round=>
  obtain ⟨i,A,c,D,rfl,hin,hD,hDl,hoi,hst⟩:=hrel
  by_cases hlt:i<n
  ·
   obtain ⟨x,hx⟩:∃x,l[i]? =some x:=⟨_,Al4 (by rw [hn.out];exact hlt)⟩
   have hxo:=hok x (Al6 hx)
   obtain ⟨b,off,rfl,hb,k0⟩:=Hj (hr.fr hst.fr (ho.not (Al2 _))) hx
   unfold Uv at k0
   have hxl:=Pk.num_len x
   have hx':=Lib.hid hx
   clear hx
   go_wp2_with (fail)
   refine (Ek B g A c D x _ hoi hxo (by omega)).mono ?_
   rintro _ w2 ⟨rfl,A2,c2,ho2,hs2⟩
   go_wp2
   go_roundw
   case rel=>
    refine ⟨i+1,A2,c2,_,by go_num,by omega,?_,by rw [Al1,Al8];omega,ho2,hst.trans hs2⟩
    show _=_
    rw [hD.out,Dk _ l hx'.out,← Al3]
   case measure=>simp [intOf];omega
  ·
   have hi:i=n:=by omega
   subst hi
   go_wp2
   go_end0
   refine ⟨rfl,A,c,?_,hst⟩
   have e:bs++lst Pk.num l=D:=by rw [hD.out,Al5 (by rw [hn.out];omega),Al3];unfold lst;rw [hn.out]
   rw [e]
   exact hoi
theorem Tq (B g:Nat) (A0:Option Addr) (c0:Nat) (bs:List UInt8) (l:List Int) (Al:Option Addr) (n cl:Nat) (w:World) (ho:OutAt w B g A0 c0 bs) (hn:Hid (l.length=n)) (hok:∀x∈l,I64 x)
  (hr:Rd w B 1 Al n (l.map Iv)) (hl:bs.length+10+10*n≤1099511627690):
  Calls Tryz.prog 148 #[.pointer (some ⟨g,0,none⟩),.slice Al n cl,.func (.func 138) #[.pointer (some ⟨g,0,none⟩)] #[]] w (C8 B g A0 (bs++lst Pk.int l) w):=by
 go_enter Tryz.func148,Tryz.ntmps148
 go_wp2_with (fail)
 refine (Dr B g A0 c0 bs (n:Int) _ ho (by omega) (by omega) (by omega)).mono ?_
 rintro _ w1 ⟨rfl,A1,c1,ho1,hst1⟩
 have hil:=Pk.int_len (n:Int)
 go_wp2
 go_loopw [14] (fun v wr=>∃(i:Nat) (A:Option Addr) (c:Nat) (D:List UInt8),v=.int .i64 (i:Int)∧i≤n∧Hid (D=bs++Pk.int (n:Int)++(l.take i).flatMap Pk.int)∧D.length≤bs.length+10+10*i∧OutAt wr B g A c D∧Bf g w A0 wr A) (fun v _=>n-(intOf v).toNat)
 case atStart=>exact ⟨0,A1,c1,_,rfl,by omega,by show _=_;simp,by simp;omega,ho1,hst1⟩
 case round=>
  obtain ⟨i,A,c,D,rfl,hin,hD,hDl,hoi,hst⟩:=hrel
  by_cases hlt:i<n
  ·
   obtain ⟨x,hx⟩:∃x,l[i]? =some x:=⟨_,Al4 (by rw [hn.out];exact hlt)⟩
   have hxo:=hok x (Al6 hx)
   obtain ⟨b,off,rfl,hb,k0⟩:=Hj (hr.fr hst.fr (ho.not (Al2 _))) hx
   unfold Iv at k0
   have hxl:=Pk.int_len x
   have hx':=Lib.hid hx
   clear hx
   go_wp2_with (fail)
   refine (Dr B g A c D x _ hoi hxo.1 hxo.2 (by omega)).mono ?_
   rintro _ w2 ⟨rfl,A2,c2,ho2,hs2⟩
   go_wp2
   go_roundw
   case rel=>
    refine ⟨i+1,A2,c2,_,by go_num,by omega,?_,by rw [Al1,Al8];omega,ho2,hst.trans hs2⟩
    show _=_
    rw [hD.out,Dk _ l hx'.out,← Al3]
   case measure=>simp [intOf];omega
  ·
   have hi:i=n:=by omega
   subst hi
   go_wp2
   go_end0
   refine ⟨rfl,A,c,?_,hst⟩
   have e:bs++lst Pk.int l=D:=by rw [hD.out,Al5 (by rw [hn.out];omega),Al3];unfold lst;rw [hn.out]
   rw [e]
   exact hoi
theorem Tr (B g gp:Nat) (A:Option Addr) (c:Nat) (bs:List UInt8) (x:Bx) (w:World) (ho:OutAt w B g A c bs) (hp:Blk w gp 140 #[.pointer (some ⟨g,0,none⟩)]) (hx:x.ok) (hl:bs.length≤1099511627700):
  Calls Tryz.prog 139 #[.agg #[.int .u64 (x.t:Int),.int .u64 (x.e:Int),.int .u64 (x.y:Int),.int .u64 (x.g:Int)],.pointer (some ⟨gp,0,none⟩)] w (C8 B g A (bs++x.bytes) w):=by
 obtain ⟨x0,x1,x2,x3⟩:=hx
 have l1:=Pk.num_len x.t
 have l2:=Pk.num_len x.e
 have l3:=Pk.num_len x.y
 have hbx:=Blk.new w 144 #[.int .u64 (x.t:Int),.int .u64 (x.e:Int),.int .u64 (x.y:Int),.int .u64 (x.g:Int)]
 have k0:=hbx.cell 0
 have k1:=hbx.cell 1
 have k2:=hbx.cell 2
 have k3:=hbx.cell 3
 have ho0:=(ho.alloc (.cells #[.int .u64 (x.t:Int),.int .u64 (x.e:Int),.int .u64 (x.y:Int),.int .u64 (x.g:Int)] 144)).alloc (.cells #[.int .u64 (x.t:Int),.int .u64 (x.e:Int),.int .u64 (x.y:Int),.int .u64 (x.g:Int)] 23)
 have hp0:=(hp.alloc (.cells #[.int .u64 (x.t:Int),.int .u64 (x.e:Int),.int .u64 (x.y:Int),.int .u64 (x.g:Int)] 144)).alloc (.cells #[.int .u64 (x.t:Int),.int .u64 (x.e:Int),.int .u64 (x.y:Int),.int .u64 (x.g:Int)] 23)
 have hs0:=((Bf.refl g w A).alloc (.cells #[.int .u64 (x.t:Int),.int .u64 (x.e:Int),.int .u64 (x.y:Int),.int .u64 (x.g:Int)] 144)).alloc (.cells #[.int .u64 (x.t:Int),.int .u64 (x.e:Int),.int .u64 (x.y:Int),.int .u64 (x.g:Int)] 23)
 have hn0:=Blk.new (w.alloc (.cells #[.int .u64 (x.t:Int),.int .u64 (x.e:Int),.int .u64 (x.y:Int),.int .u64 (x.g:Int)] 144)) 23 #[.int .u64 (x.t:Int),.int .u64 (x.e:Int),.int .u64 (x.y:Int),.int .u64 (x.g:Int)]
 rw [Al7] at hn0
 go_enter Tryz.func139,Tryz.ntmps139
 go_wp2
 generalize (w.alloc (.cells #[.int .u64 (x.t:Int),.int .u64 (x.e:Int),.int .u64 (x.y:Int),.int .u64 (x.g:Int)] 144)).alloc (.cells #[.int .u64 (x.t:Int),.int .u64 (x.e:Int),.int .u64 (x.y:Int),.int .u64 (x.g:Int)] 23)=w0 at*
 clear k0 k1 k2 k3 hbx
 refine wp_loop_rounds 5 ?_
 have c0:=hn0.cell 0
 have p0:=hp0.cell 0
 rw [rounds_succ]
 go_wp2_with (fail)
 refine (Ek B g A c bs x.t _ ho0 x0 (by omega)).mono ?_
 rintro _ w1 ⟨rfl,A1,c1,ho1,hs1⟩
 have hn1:=hn0.fr hs1.fr (ho0.far hn0 (by decide) (by decide))
 have hp1:=hp0.fr hs1.fr (ho0.far hp0 (by decide) (by decide))
 have d1:=hn1.cell 1
 have p1:=hp1.cell 0
 go_wp2
 rw [rounds_succ]
 go_wp2_with (fail)
 refine (Ek B g A1 c1 _ x.e _ ho1 x1 (by rw [Al1];omega)).mono ?_
 rintro _ w2 ⟨rfl,A2,c2,ho2,hs2⟩
 have hn2:=hn1.fr hs2.fr (ho1.far hn1 (by decide) (by decide))
 have hp2:=hp1.fr hs2.fr (ho1.far hp1 (by decide) (by decide))
 have d2:=hn2.cell 2
 have p2:=hp2.cell 0
 go_wp2
 rw [rounds_succ]
 go_wp2_with (fail)
 refine (Ek B g A2 c2 _ x.y _ ho2 x2 (by simp only [Al1];omega)).mono ?_
 rintro _ w3 ⟨rfl,A3,c3,ho3,hs3⟩
 have hn3:=hn2.fr hs3.fr (ho2.far hn2 (by decide) (by decide))
 have hp3:=hp2.fr hs3.fr (ho2.far hp2 (by decide) (by decide))
 have d3:=hn3.cell 3
 have p3:=hp3.cell 0
 go_wp2
 rw [rounds_succ]
 go_wp2_with (fail)
 refine (Ek B g A3 c3 _ x.g _ ho3 x3 (by simp only [Al1];omega)).mono ?_
 rintro _ w4 ⟨rfl,A4,c4,ho4,hs4⟩
 go_wp2
 rw [rounds_succ]
 go_wp2
 go_end0
 refine ⟨rfl,A4,c4,?_,(((hs0.trans hs1).trans hs2).trans hs3).trans hs4⟩
 have e:bs++x.bytes=bs++Pk.num x.t++Pk.num x.e++Pk.num x.y++Pk.num x.g:=by unfold Bx.bytes;simp
 rw [e]
 exact ho4
theorem Ng (B g gp:Nat) (A0:Option Addr) (c0:Nat) (bs:List UInt8) (l:List Bx) (Al:Option Addr) (n cl:Nat) (w:World) (ho:OutAt w B g A0 c0 bs) (hn:Hid (l.length=n)) (hok:∀x∈l,x.ok)
  (hr:Rd w B 4 Al n (l.flatMap Bx.cells)) (hl:bs.length+10+40*n≤1099511627690) (hp:Blk w gp 140 #[.pointer (some ⟨g,0,none⟩)]):
  Calls Tryz.prog 145 #[.pointer (some ⟨g,0,none⟩),.slice Al n cl,.func (.func 139) #[] #[.pointer (some ⟨gp,0,none⟩)]] w (C8 B g A0 (bs++lst Bx.bytes l) w):=by
 go_enter Tryz.func145,Tryz.ntmps145
 go_wp2_with (fail)
 refine (Dr B g A0 c0 bs (n:Int) _ ho (by omega) (by omega) (by omega)).mono ?_
 rintro _ w1 ⟨rfl,A1,c1,ho1,hst1⟩
 have hil:=Pk.int_len (n:Int)
 go_wp2
 go_loopw [14] (fun v wr=>∃(i:Nat) (A:Option Addr) (c:Nat) (D:List UInt8),v=.int .i64 (i:Int)∧i≤n∧Hid (D=bs++Pk.int (n:Int)++(l.take i).flatMap Bx.bytes)∧D.length≤bs.length+10+40*i∧OutAt wr B g A c D∧Bf g w A0 wr A∧Blk wr gp 140 #[.pointer (some ⟨g,0,none⟩)]) (fun v _=>n-(intOf v).toNat)
 case atStart=>exact ⟨0,A1,c1,_,rfl,by omega,by show _=_;simp,by simp;omega,ho1,hst1,hp.fr hst1.fr (ho.far hp (by decide) (by decide))⟩
 case round=>
  obtain ⟨i,A,c,D,rfl,hin,hD,hDl,hoi,hst,hpi⟩:=hrel
  by_cases hlt:i<n
  ·
   obtain ⟨x,hx⟩:∃x,l[i]? =some x:=⟨_,Al4 (by rw [hn.out];exact hlt)⟩
   have hxo:=hok x (Al6 hx)
   obtain ⟨b,off,rfl,hb,k0,k1,k2,k3⟩:=Bx.at (hr.fr hst.fr (ho.not (Al2 _))) hx
   have hxl:=Bx.bytes_len x
   have hx':=Lib.hid hx
   clear hx
   go_wp2_with (fail)
   refine (Tr B g gp A c D x _ (hoi.alloc (.cells #[.int .u64 (x.t:Int),.int .u64 (x.e:Int),.int .u64 (x.y:Int),.int .u64 (x.g:Int)] 144)) (hpi.alloc (.cells #[.int .u64 (x.t:Int),.int .u64 (x.e:Int),.int .u64 (x.y:Int),.int .u64 (x.g:Int)] 144)) hxo (by omega)).mono ?_
   rintro _ w2 ⟨rfl,A2,c2,ho2,hs2⟩
   have hpi2:=(hpi.alloc (.cells #[.int .u64 (x.t:Int),.int .u64 (x.e:Int),.int .u64 (x.y:Int),.int .u64 (x.g:Int)] 144)).fr hs2.fr ((hoi.alloc (.cells #[.int .u64 (x.t:Int),.int .u64 (x.e:Int),.int .u64 (x.y:Int),.int .u64 (x.g:Int)] 144)).far (hpi.alloc (.cells #[.int .u64 (x.t:Int),.int .u64 (x.e:Int),.int .u64 (x.y:Int),.int .u64 (x.g:Int)] 144)) (by decide) (by decide))
   go_wp2
   go_roundw
   case rel=>
    refine ⟨i+1,A2,c2,_,by go_num,by omega,?_,by rw [Al1,Al8];omega,ho2,(hst.alloc (.cells #[.int .u64 (x.t:Int),.int .u64 (x.e:Int),.int .u64 (x.y:Int),.int .u64 (x.g:Int)] 144)).trans hs2,hpi2⟩
    show _=_
    rw [hD.out,Dk _ l hx'.out,← Al3]
   case measure=>simp [intOf];omega
  ·
   have hi:i=n:=by omega
   subst hi
   go_wp2
   go_end0
   refine ⟨rfl,A,c,?_,hst⟩
   have e:bs++lst Bx.bytes l=D:=by rw [hD.out,Al5 (by rw [hn.out];omega),Al3];unfold lst;rw [hn.out]
   rw [e]
   exact hoi
theorem Ts (B g gp gc:Nat) (A:Option Addr) (c:Nat) (bs:List UInt8) (x:NdL) (w:World) (ho:OutAt w B g A c bs) (hp:Blk w gp 140 #[.pointer (some ⟨g,0,none⟩)]) (hc:Blk w gc 185 #[.func (.func 139) #[] #[.pointer (some ⟨gp,0,none⟩)]])
  (hx:x.nd.ok) (hat:x.at w B) (hl:bs.length+40020≤1099511627690):
  Calls Tryz.prog 144 #[.agg #[.int .u64 (x.p:Int),.slice x.A x.xs.length x.c],.pointer (some ⟨gp,0,none⟩),.pointer (some ⟨gc,0,none⟩)] w (C8 B g A (bs++x.nd.bytes) w):=by
 obtain ⟨x0,x1,x2⟩:=hx
 have x1':x.xs.length≤1000:=x1
 have l1:=Pk.num_len x.p
 have hbx:=Blk.new w 103 #[.int .u64 (x.p:Int),.slice x.A x.xs.length x.c]
 have k0:=hbx.cell 0
 have k1:=hbx.cell 1
 have ho0:=ho.alloc (.cells #[.int .u64 (x.p:Int),.slice x.A x.xs.length x.c] 103)
 have hp0:=hp.alloc (.cells #[.int .u64 (x.p:Int),.slice x.A x.xs.length x.c] 103)
 have hc0:=hc.alloc (.cells #[.int .u64 (x.p:Int),.slice x.A x.xs.length x.c] 103)
 have hs0:=(Bf.refl g w A).alloc (.cells #[.int .u64 (x.p:Int),.slice x.A x.xs.length x.c] 103)
 have p0:=hp0.cell 0
 go_enter Tryz.func144,Tryz.ntmps144
 go_wp2_with (fail)
 refine (Ek B g A c bs x.p _ ho0 x0 (by omega)).mono ?_
 rintro _ w1 ⟨rfl,A1,c1,ho1,hs1⟩
 have hbx1:=hbx.fr hs1.fr (ho0.far hbx (by decide) (by decide))
 have hp1:=hp0.fr hs1.fr (ho0.far hp0 (by decide) (by decide))
 have hc1:=hc0.fr hs1.fr (ho0.far hc0 (by decide) (by decide))
 have m1:=hbx1.cell 1
 have p1:=hp1.cell 0
 have q1:=hc1.cell 0
 have hst:=hs0.trans hs1
 have hr1:=hat.1.fr hst.fr (ho.not (Al2 _))
 go_wp2_with (fail)
 refine (Ng B g gp A1 c1 _ x.xs x.A x.xs.length x.c _ ho1 rfl x2 hr1 (by rw [Al1];omega) hp1).mono ?_
 rintro _ w2 ⟨rfl,A2,c2,ho2,hs2⟩
 go_wp2
 go_end0
 refine ⟨rfl,A2,c2,?_,hst.trans hs2⟩
 have e:bs++x.nd.bytes=bs++Pk.num x.p++lst Bx.bytes x.xs:=by unfold Nd.bytes;rw [Al3];rfl
 rw [e]
 exact ho2
theorem Tt (B g gp gc:Nat) (A0:Option Addr) (c0:Nat) (bs:List UInt8) (l:List NdL) (Al:Option Addr) (n cl:Nat) (w:World) (ho:OutAt w B g A0 c0 bs) (hn:Hid (l.length=n)) (hok:∀x∈l,x.nd.ok)
  (hr:Rd w B 2 Al n (l.flatMap NdL.cells)) (hl:bs.length+10+40020*n≤1099511627690) (hp:Blk w gp 140 #[.pointer (some ⟨g,0,none⟩)]) (hc:Blk w gc 185 #[.func (.func 139) #[] #[.pointer (some ⟨gp,0,none⟩)]]) (hat:∀x∈l,x.at w B):
  Calls Tryz.prog 143 #[.pointer (some ⟨g,0,none⟩),.slice Al n cl,.func (.func 144) #[] #[.pointer (some ⟨gp,0,none⟩),.pointer (some ⟨gc,0,none⟩)]] w (C8 B g A0 (bs++lst (fun x=>x.nd.bytes) l) w):=by
 go_enter Tryz.func143,Tryz.ntmps143
 go_wp2_with (fail)
 refine (Dr B g A0 c0 bs (n:Int) _ ho (by omega) (by omega) (by omega)).mono ?_
 rintro _ w1 ⟨rfl,A1,c1,ho1,hst1⟩
 have hil:=Pk.int_len (n:Int)
 go_wp2
 go_loopw [14] (fun v wr=>∃(i:Nat) (A:Option Addr) (c:Nat) (D:List UInt8),v=.int .i64 (i:Int)∧i≤n∧Hid (D=bs++Pk.int (n:Int)++(l.take i).flatMap (fun x=>x.nd.bytes))∧D.length≤bs.length+10+40020*i∧OutAt wr B g A c D∧Bf g w A0 wr A∧Blk wr gp 140 #[.pointer (some ⟨g,0,none⟩)]∧Blk wr gc 185 #[.func (.func 139) #[] #[.pointer (some ⟨gp,0,none⟩)]]) (fun v _=>n-(intOf v).toNat)
 case atStart=>exact ⟨0,A1,c1,_,rfl,by omega,by show _=_;simp,by simp;omega,ho1,hst1,hp.fr hst1.fr (ho.far hp (by decide) (by decide)),hc.fr hst1.fr (ho.far hc (by decide) (by decide))⟩
 case round=>
  obtain ⟨i,A,c,D,rfl,hin,hD,hDl,hoi,hst,hpi,hci⟩:=hrel
  by_cases hlt:i<n
  ·
   obtain ⟨x,hx⟩:∃x,l[i]? =some x:=⟨_,Al4 (by rw [hn.out];exact hlt)⟩
   have hxo:=hok x (Al6 hx)
   obtain ⟨b,off,rfl,hb,k0,k1⟩:=NdL.el (hr.fr hst.fr (ho.not (Al2 _))) hx
   have hxl:=Nd.bytes_len x.nd hxo
   have hxa:=((hat x (Al6 hx)).fr hst.fr (ho.not (Al2 _)))
   have hx':=Lib.hid hx
   clear hx
   go_wp2_with (fail)
   refine (Ts B g gp gc A c D x _ (hoi.alloc (.cells #[.int .u64 (x.p:Int),.slice x.A x.xs.length x.c] 103)) (hpi.alloc (.cells #[.int .u64 (x.p:Int),.slice x.A x.xs.length x.c] 103)) (hci.alloc (.cells #[.int .u64 (x.p:Int),.slice x.A x.xs.length x.c] 103)) hxo (hxa.fr (S:=Non) ((Fr.refl _ _).alloc (.cells #[.int .u64 (x.p:Int),.slice x.A x.xs.length x.c] 103)) zr) (by omega)).mono ?_
   rintro _ w2 ⟨rfl,A2,c2,ho2,hs2⟩
   have hpi2:=(hpi.alloc (.cells #[.int .u64 (x.p:Int),.slice x.A x.xs.length x.c] 103)).fr hs2.fr ((hoi.alloc (.cells #[.int .u64 (x.p:Int),.slice x.A x.xs.length x.c] 103)).far (hpi.alloc (.cells #[.int .u64 (x.p:Int),.slice x.A x.xs.length x.c] 103)) (by decide) (by decide))
   have hci2:=(hci.alloc (.cells #[.int .u64 (x.p:Int),.slice x.A x.xs.length x.c] 103)).fr hs2.fr ((hoi.alloc (.cells #[.int .u64 (x.p:Int),.slice x.A x.xs.length x.c] 103)).far (hci.alloc (.cells #[.int .u64 (x.p:Int),.slice x.A x.xs.length x.c] 103)) (by decide) (by decide))
   go_wp2
   go_roundw
   case rel=>
    refine ⟨i+1,A2,c2,_,by go_num,by omega,?_,by rw [Al1,Al8];omega,ho2,(hst.alloc (.cells #[.int .u64 (x.p:Int),.slice x.A x.xs.length x.c] 103)).trans hs2,hpi2,hci2⟩
    show _=_
    rw [hD.out,Dk _ l hx'.out,← Al3]
   case measure=>simp [intOf];omega
  ·
   have hi:i=n:=by omega
   subst hi
   go_wp2
   go_end0
   refine ⟨rfl,A,c,?_,hst⟩
   have e:bs++lst (fun x=>x.nd.bytes) l=D:=by rw [hD.out,Al5 (by rw [hn.out];omega),Al3];unfold lst;rw [hn.out]
   rw [e]
   exact hoi
theorem Tu (B g gp:Nat) (A:Option Addr) (c:Nat) (bs:List UInt8) (x:SlL) (w:World) (ho:OutAt w B g A c bs) (hp:Blk w gp 140 #[.pointer (some ⟨g,0,none⟩)])
  (hx:x.f.ok) (hy:x.y.length≤1000000) (hat:x.at w B) (hl:bs.length+1000040≤1099511627700):
  Calls Tryz.prog 150 #[.agg #[.int .i64 x.f.b,.int .i64 x.f.s,.int .u64 (x.f.u:Int),.slice x.A x.y.length x.c],.pointer (some ⟨gp,0,none⟩)] w (C8 B g A (bs++x.sl.bytes) w):=by
 obtain ⟨⟨x0,x1⟩,⟨x2,x3⟩,x4⟩:=hx
 have l1:=Pk.ident_len x.f.b x.f.s x.f.u
 have hbx:=Blk.new w 106 #[.int .i64 x.f.b,.int .i64 x.f.s,.int .u64 (x.f.u:Int),.slice x.A x.y.length x.c]
 have k0:=hbx.cell 0
 have k1:=hbx.cell 1
 have k2:=hbx.cell 2
 have ho0:=ho.alloc (.cells #[.int .i64 x.f.b,.int .i64 x.f.s,.int .u64 (x.f.u:Int),.slice x.A x.y.length x.c] 106)
 have hp0:=hp.alloc (.cells #[.int .i64 x.f.b,.int .i64 x.f.s,.int .u64 (x.f.u:Int),.slice x.A x.y.length x.c] 106)
 have hs0:=(Bf.refl g w A).alloc (.cells #[.int .i64 x.f.b,.int .i64 x.f.s,.int .u64 (x.f.u:Int),.slice x.A x.y.length x.c] 106)
 have p0:=hp0.cell 0
 go_enter Tryz.func150,Tryz.ntmps150
 go_wp2_with (fail)
 refine (Hi B g A c bs x.f.b x.f.s x.f.u _ ho0 x0 x1 x2 x3 x4 (by omega)).mono ?_
 rintro _ w1 ⟨rfl,A1,c1,ho1,hs1⟩
 have hbx1:=hbx.fr hs1.fr (ho0.far hbx (by decide) (by decide))
 have hp1:=hp0.fr hs1.fr (ho0.far hp0 (by decide) (by decide))
 have m3:=hbx1.cell 3
 have p1:=hp1.cell 0
 have hst:=hs0.trans hs1
 have hr1:=hat.1.fr hst.fr (ho.not (Al2 _))
 have hstr:(convert 39 9 (.slice x.A x.y.length x.c)).run Tryz.prog w1=.ok (.string (str x.y)) w1:=Hf 39 5 9 Tryz.underlying39 Tryz.underlying5 Tryz.underlying9 w1 _ _ _ _ _ hr1
 go_wp2_with (fail)
 refine (Nc B g A1 c1 _ x.y _ ho1 (by rw [Al1];omega)).mono ?_
 rintro _ w2 ⟨rfl,A2,c2,ho2,hs2⟩
 go_wp2
 go_end0
 refine ⟨rfl,A2,c2,?_,hst.trans hs2⟩
 have e:bs++x.sl.bytes=bs++Pk.ident x.f.b x.f.s x.f.u++Pk.text x.y:=by unfold Sl.bytes Id.bytes;rw [Al3];rfl
 rw [e]
 exact ho2
theorem Tv (B g gp:Nat) (A0:Option Addr) (c0:Nat) (bs:List UInt8) (l:List SlL) (Al:Option Addr) (n cl:Nat) (w:World) (ho:OutAt w B g A0 c0 bs) (hn:Hid (l.length=n)) (hok:∀x∈l,(x.f.ok∧x.y.length≤1000000))
  (hr:Rd w B 4 Al n (l.flatMap SlL.cells)) (hl:bs.length+10+1000040*n≤1099511627690) (hp:Blk w gp 140 #[.pointer (some ⟨g,0,none⟩)]) (hat:∀x∈l,x.at w B):
  Calls Tryz.prog 149 #[.pointer (some ⟨g,0,none⟩),.slice Al n cl,.func (.func 150) #[] #[.pointer (some ⟨gp,0,none⟩)]] w (C8 B g A0 (bs++lst (fun x=>x.sl.bytes) l) w):=by
 go_enter Tryz.func149,Tryz.ntmps149
 go_wp2_with (fail)
 refine (Dr B g A0 c0 bs (n:Int) _ ho (by omega) (by omega) (by omega)).mono ?_
 rintro _ w1 ⟨rfl,A1,c1,ho1,hst1⟩
 have hil:=Pk.int_len (n:Int)
 go_wp2
 go_loopw [14] (fun v wr=>∃(i:Nat) (A:Option Addr) (c:Nat) (D:List UInt8),v=.int .i64 (i:Int)∧i≤n∧Hid (D=bs++Pk.int (n:Int)++(l.take i).flatMap (fun x=>x.sl.bytes))∧D.length≤bs.length+10+1000040*i∧OutAt wr B g A c D∧Bf g w A0 wr A∧Blk wr gp 140 #[.pointer (some ⟨g,0,none⟩)]) (fun v _=>n-(intOf v).toNat)
 case atStart=>exact ⟨0,A1,c1,_,rfl,by omega,by show _=_;simp,by simp;omega,ho1,hst1,hp.fr hst1.fr (ho.far hp (by decide) (by decide))⟩
 case round=>
  obtain ⟨i,A,c,D,rfl,hin,hD,hDl,hoi,hst,hpi⟩:=hrel
  by_cases hlt:i<n
  ·
   obtain ⟨x,hx⟩:∃x,l[i]? =some x:=⟨_,Al4 (by rw [hn.out];exact hlt)⟩
   have hxo:=hok x (Al6 hx)
   obtain ⟨b,off,rfl,hb,k0,k1,k2,k3⟩:=SlL.el (hr.fr hst.fr (ho.not (Al2 _))) hx
   have hxl:=Sl.bytes_len x.sl hxo.2
   have hxa:=((hat x (Al6 hx)).fr hst.fr (ho.not (Al2 _)))
   have hx':=Lib.hid hx
   clear hx
   go_wp2_with (fail)
   refine (Tu B g gp A c D x _ (hoi.alloc (.cells #[.int .i64 x.f.b,.int .i64 x.f.s,.int .u64 (x.f.u:Int),.slice x.A x.y.length x.c] 106)) (hpi.alloc (.cells #[.int .i64 x.f.b,.int .i64 x.f.s,.int .u64 (x.f.u:Int),.slice x.A x.y.length x.c] 106)) hxo.1 hxo.2 (hxa.fr (S:=Non) ((Fr.refl _ _).alloc (.cells #[.int .i64 x.f.b,.int .i64 x.f.s,.int .u64 (x.f.u:Int),.slice x.A x.y.length x.c] 106)) zr) (by omega)).mono ?_
   rintro _ w2 ⟨rfl,A2,c2,ho2,hs2⟩
   have hpi2:=(hpi.alloc (.cells #[.int .i64 x.f.b,.int .i64 x.f.s,.int .u64 (x.f.u:Int),.slice x.A x.y.length x.c] 106)).fr hs2.fr ((hoi.alloc (.cells #[.int .i64 x.f.b,.int .i64 x.f.s,.int .u64 (x.f.u:Int),.slice x.A x.y.length x.c] 106)).far (hpi.alloc (.cells #[.int .i64 x.f.b,.int .i64 x.f.s,.int .u64 (x.f.u:Int),.slice x.A x.y.length x.c] 106)) (by decide) (by decide))
   go_wp2
   go_roundw
   case rel=>
    refine ⟨i+1,A2,c2,_,by go_num,by omega,?_,by rw [Al1,Al8];omega,ho2,(hst.alloc (.cells #[.int .i64 x.f.b,.int .i64 x.f.s,.int .u64 (x.f.u:Int),.slice x.A x.y.length x.c] 106)).trans hs2,hpi2⟩
    show _=_
    rw [hD.out,Dk _ l hx'.out,← Al3]
   case measure=>simp [intOf];omega
  ·
   have hi:i=n:=by omega
   subst hi
   go_wp2
   go_end0
   refine ⟨rfl,A,c,?_,hst⟩
   have e:bs++lst (fun x=>x.sl.bytes) l=D:=by rw [hD.out,Al5 (by rw [hn.out];omega),Al3];unfold lst;rw [hn.out]
   rw [e]
   exact hoi
end Oq
end
namespace Oq
def nx (L:List Int) (i:Nat) (m:Int):Int:=match L[i]? with
 |some x=>C0 x 1000000007%m
 |none=>0
def gId (L:List Int) (i:Nat):Id:=⟨1+nx L i 6,1+nx L (i+1) 9,(nx L (i+2) 1000000).toNat⟩
def gBx (L:List Int) (i:Nat):Bx:=⟨(1+nx L i 1000).toNat,(1+nx L (i+1) 1000).toNat,(nx L (i+2) 1000).toNat,(nx L (i+3) 1000).toNat⟩
def Hk (n:Nat) (L:List Int) (i:Nat):List Bx:=(Am5 n).map fun k=>gBx L (i+4*k)
def gByte (L:List Int) (i:Nat):UInt8:=UInt8.ofNat (nx L i 256).toNat
def Jt (n:Nat) (L:List Int) (i:Nat):List UInt8:=(Am5 n).map fun k=>gByte L (i+k)
def gRefs (n:Nat) (L:List Int) (i:Nat):List Nat:=(Am5 n).map fun k=>(nx L (i+k) 1000).toNat
def Id.eq (a b:Id):Bool:=a.b==b.b&&(a.s==b.s&&a.u==b.u)
theorem Id.eq_iff (a b:Id):Id.eq a b=true↔a=b:=by
 cases a;cases b
 simp [Id.eq]
def Bm (l:List Id) (x:Id):Bool:=l.any (fun y=>Id.eq y x)
def Id.less (a b:Id):Bool:=if a.b=b.b then if a.s=b.s then decide (a.u<b.u) else decide (a.s<b.s) else decide (a.b<b.b)
def Hl (L:List Int) (i:Nat):Nat→List Id
 |0=>[]
 |k+1=>if Bm (Hl L i k) (gId L (i+3*k)) then Hl L i k else Hl L i k++[gId L (i+3*k)]
def Bp (x:Id) (l:List Id):Nat→Nat
 |0=>0
 |k+1=>match l[k]? with
  |some y=>if Id.less x y then Bp x l k else k+1
  |none=>k+1
def ins (l:List Id) (x:Id):List Id:=l.take (Bp x l l.length)++[x]++l.drop (Bp x l l.length)
def Am:List Id→List Id:=List.foldl ins []
def gNd (L:List Int) (i:Nat):Nd:=⟨(1+nx L i 1000).toNat,Hk (nx L (i+1) 3).toNat L (i+2)⟩
def Tw (L:List Int) (i:Nat):Nat:=i+2+4*(nx L (i+1) 3).toNat
def Gm (L:List Int) (i:Nat):Nat→List Nd × Nat
 |0=>([],i)
 |k+1=>((Gm L i k).1++[gNd L (Gm L i k).2],Tw L (Gm L i k).2)
def gSl (L:List Int) (i:Nat):Sl:=⟨gId L i,Jt (8+nx L (i+3) 5).toNat L (i+4)⟩
def Tx (L:List Int) (i:Nat):Nat:=i+4+(8+nx L (i+3) 5).toNat
def Gn (L:List Int) (i:Nat):Nat→List Sl × Nat
 |0=>([],i)
 |k+1=>((Gn L i k).1++[gSl L (Gn L i k).2],Tx L (Gn L i k).2)
def Hm (L:List Int) (i:Nat):Nat→List Int
 |0=>[]
 |k+1=>if nx L (i+k) 2=0∨(k=5∧(Hm L i k).length=0) then Hm L i k++[(k+1:Int)] else Hm L i k
def Dy (k:Int):Bool:=k==1||k==2||k==3||k==4||k==13
def g1 (L:List Int):Op:={Op.zero with kind:=1+nx L 0 13,by_:=1+nx L 1 6,sq:=1+nx L 2 20,at_:=nx L 3 500}
def g2 (L:List Int) (p:Op × Nat):Op × Nat:=
 if p.1.kind=1 then p else ({p.1 with past:=Am (Hl L (p.2+1) (1+nx L p.2 3).toNat)},p.2+1+3*(1+nx L p.2 3).toNat)
def g3 (L:List Int) (p:Op × Nat):Op × Nat:=
 if Dy p.1.kind then ({p.1 with path:=(Gm L (p.2+1) (1+nx L p.2 3).toNat).1},(Gm L (p.2+1) (1+nx L p.2 3).toNat).2) else p
def g4 (L:List Int) (p:Op × Nat):Op × Nat:=
 let i:=p.2
 let o:=p.1
 if o.kind=1 then ({o with need:=nx L i 21},i+1)
 else if o.kind=2 then ({o with dev:=1+nx L i 12,role:=1+nx L (i+1) 3},i+2)
 else if o.kind=3 then (if nx L i 7=0 then ({o with dev:=0,mem:=1+nx L (i+1) 8},i+2) else ({o with dev:=nx L i 7},i+1))
 else if o.kind=5 then ({o with mem:=1+nx L i 8,role:=1+nx L (i+1) 3},i+2)
 else if o.kind=6 then
  let nb:=(8+nx L (i+4) 9).toNat
  let nr:=(nx L (i+5+nb) 3).toNat
  ({o with epoch:=gId L i,n:=nx L (i+3) 5,body:=Jt nb L (i+5),refs:=gRefs nr L (i+6+nb)},i+6+nb+nr)
 else if o.kind=7 then
  let nb:=(1+nx L (i+3) 4).toNat
  ({o with of:=gId L i,body:=Jt nb L (i+4)},i+4+nb)
 else if o.kind=9 then
  let gs:=Hm L i 6
  ({o with guards:=gs,need:=1+nx L (i+6) gs.length,wait:=nx L (i+7) 50,pub:=(1+nx L (i+8) 1000).toNat,boxes:=Hk gs.length L (i+9)},i+9+4*gs.length)
 else if o.kind=10 then
  let nb:=(1+nx L (i+3) 6).toNat
  ({o with of:=gId L i,boxes:=Hk nb L (i+4)},i+4+4*nb)
 else if o.kind=11 then ({o with of:=gId L i,dev:=1+nx L (i+3) 12,boxes:=Hk 1 L (i+4)},i+8)
 else if o.kind=13 then ({o with of:=gId L i,dev:=1+nx L (i+3) 12,old:=1+nx L (i+4) 12},i+5)
 else ({o with of:=(if o.kind=8∨o.kind=12 then gId L i else o.of)},if o.kind=8∨o.kind=12 then i+3 else i)
def g5 (L:List Int) (p:Op × Nat):Op × Nat:=
 if p.1.kind=2∨p.1.kind=13 then ({p.1 with hist:=(Gn L (p.2+1) (nx L p.2 3).toNat).1},(Gn L (p.2+1) (nx L p.2 3).toNat).2) else p
def gen (L:List Int):Op:=(g5 L (g4 L (g3 L (g2 L (g1 L,4))))).1
open Pk
end Oq
section
open Go.RowKit
theorem Ty {P:Program} {o:Oper} {a:Act} {K:Act→World→Prop} {Q:Exit→Act→World→Prop} {w:World} (t:TypeId) (p:Operand) (hop:o.op=Op.load t p) {g:Nat} {t':TypeId} {cs:Array Value} {d:TypeDesc}
  (hp:a.eval p=.pointer (some ⟨g,0,none⟩)) (hb:Blk w g t' cs) (hu:P.underlying t=some d) (hd:(match d with| .struct _| .array _ _=>true|_=>false)=true) (hi:(P.info? t).map (·.size)=some cs.size)
  (hK:K (a.put o.dst (.agg cs)) w):Oper.wp P o a w K Q:=by
 have hrun:=run_loadVar_row (P:=P) w g t' t cs (0,0) d hb hu hd hi
 unfold Oper.wp
 simp [execOp,hop,hp,Instr.loadAt,Instr.sureAddr,hrun,Result.andThen]
 exact hK
theorem Nh {P:Program} {ops:Array Oper} {rest:List Oper} {o:Oper} {a:Act} {Q:Exit→Act→World→Prop} {w:World} (hg:o.guard=none) (t:TypeId) (p:Operand) (hop:o.op=Op.load t p) {g:Nat} {t':TypeId} {cs:Array Value} {d:TypeDesc}
  (hp:a.eval p=.pointer (some ⟨g,0,none⟩)) (hb:Blk w g t' cs) (hu:P.underlying t=some d) (hd:(match d with| .struct _| .array _ _=>true|_=>false)=true) (hi:(P.info? t).map (·.size)=some cs.size)
  (hK:wpList P ops Q rest (a.put o.dst (.agg cs)) w):wpList P ops Q (o::rest) a w:=
 wpList_plain hg fun _ hK'=>Ty t p hop hp hb hu hd hi (hK' _ _ hK)
theorem Blk.setRow {w:World} {g:Nat} {t:TypeId} {old cs:Array Value} (h:Blk w g t old):Blk (w.setRow g cs) g t cs:=by
 unfold Blk at h ⊢
 simp [Al9,Am6,h]
theorem Blk.setRow_far {w:World} {g g':Nat} {t:TypeId} {old cs:Array Value} (h:Blk w g t old) (hn:g≠g'):Blk (w.setRow g' cs) g t old:=by
 unfold Blk at h ⊢
 have hn':¬g'=g:=fun e=>hn e.symm
 simp [Al9,Am6,h,hn']
theorem Fr.setRow {S:Nat→Prop} {a w:World} (h:Fr S a w) {g:Nat} (hg:g<a.heap.size→S g) (cs:Array Value):Fr S a (w.setRow g cs):=
 h.trans (S':=fun k=>k=g) ⟨rfl,rfl,rfl,by simp [Al9],fun k _ hn=>by
  have hn':¬g=k:=fun e=>hn e.symm
  simp [Al9,Am6,hn']⟩ (fun i hi e=>by subst e;exact hg hi)
theorem Tz (w:World) (g:Nat) (cs:Array Value):(w.setRow g cs).heap.size=w.heap.size:=by simp [Al9]
theorem Em {P:Program} {o:Oper} {a:Act} {K:Act→World→Prop} {Q:Exit→Act→World→Prop} {w:World} (t:TypeId) (p v:Operand) (hop:o.op=Op.store t p v) (hdst:o.dst=none) {g:Nat} {t':TypeId} {old cs:Array Value}
  (hp:a.eval p=.pointer (some ⟨g,0,none⟩)) (hv:a.eval v=.agg cs) (hb:Blk w g t' old) (hi:(P.info? t).map (·.size)=some cs.size) (ho:old.size=cs.size) (h1:cs.all (·.oneCell')=true)
  (hK:K a (w.setRow g cs)):Oper.wp P o a w K Q:=by
 have hrun:=run_storeVar_row (P:=P) w g t' t old cs hb hi ho h1
 unfold Oper.wp
 simp [execOp,hop,hp,hv,Instr.storeAt,Instr.sureAddr,hrun,Result.andThen]
 rw [Oper.upon_skip,hdst]
 exact hK
theorem Fc {P:Program} {ops:Array Oper} {rest:List Oper} {o:Oper} {a:Act} {Q:Exit→Act→World→Prop} {w:World} (hg:o.guard=none) (t:TypeId) (p v:Operand) (hop:o.op=Op.store t p v) (hdst:o.dst=none) {g:Nat} {t':TypeId} {old cs:Array Value}
  (hp:a.eval p=.pointer (some ⟨g,0,none⟩)) (hv:a.eval v=.agg cs) (hb:Blk w g t' old) (hi:(P.info? t).map (·.size)=some cs.size) (ho:old.size=cs.size) (h1:cs.all (·.oneCell')=true)
  (hK:wpList P ops Q rest a (w.setRow g cs)):wpList P ops Q (o::rest) a w:=
 wpList_plain hg fun _ hK'=>Em t p v hop hdst hp hv hb hi ho h1 (hK' _ _ hK)
def ldS (t:TypeId) (v:Value):=Instr.loadAt t v
theorem Ci (v:Value):Instr.loadAt 44 v=ldS 44 v:=rfl
theorem Bd {P:Program} {t:TypeId} {d:TypeDesc} {cs:Array Value} (g:Nat) (t':TypeId) (hu:P.underlying t=some d) (hd:(match d with| .struct _| .array _ _=>true|_=>false)=true) (hi:(P.info? t).map (·.size)=some cs.size):
  ∀w',Blk w' g t' cs→(ldS t (.pointer (some ⟨g,0,none⟩))).run P w'=.ok (.agg cs) w':=fun w' h=>by
 have hrun:=run_loadVar_row (P:=P) w' g t' t cs (0,0) d h hu hd hi
 unfold ldS
 simp only [Instr.loadAt,Instr.sureAddr,Sem.run_bind,Sem.run_pure,Result.andThen]
 exact hrun
def stS (t:TypeId) (p v:Value):=Instr.storeAt t p v
theorem Ef (p v:Value):Instr.storeAt 44 p v=stS 44 p v:=rfl
theorem T3 (p v:Value):Instr.storeAt 144 p v=stS 144 p v:=rfl
theorem T4 (p v:Value):Instr.storeAt 106 p v=stS 106 p v:=rfl
theorem Ck {P:Program} {t:TypeId} {old cs:Array Value} (g:Nat) (t':TypeId) (hi:(P.info? t).map (·.size)=some cs.size) (ho:old.size=cs.size) (h1:cs.all (·.oneCell')=true):
  ∀w',Blk w' g t' old→(stS t (.pointer (some ⟨g,0,none⟩)) (.agg cs)).run P w'=.ok () (w'.setRow g cs):=fun w' h=>by
 have hrun:=run_storeVar_row (P:=P) w' g t' t old cs h hi ho h1
 unfold stS
 simp only [Instr.storeAt,Instr.sureAddr,Sem.run_bind,Sem.run_pure,Result.andThen]
 exact hrun
end
section
open Go.RowKit
attribute [local go_sem ↓] Go.wp_at_zero Go.wp_at_succ
namespace Oq
def RowAt (w:World) (base:Nat) (t:TypeId) (size:Nat) (A:Option Addr) (n c:Nat) (xs:List Value):Prop:=
 SlAt w w.heap.size size A n c xs∧(n=0∨∃k cs fr,A=some ⟨k,0,none⟩∧base≤k∧w.heap[k]? =some (.cells cs t fr)∧∀j,j<n*size→w.frozen? ⟨k,j,none⟩=false)
section
variable {S : Nat → Prop} {w w' : World} {base base' size n c : Nat} {t : TypeId} {A : Option Addr} {xs : List Value}
theorem T5 {w w':World} {k:Nat} (h:w'.heap[k]? =w.heap[k]?) (j:Nat):w'.frozen? ⟨k,j,none⟩=w.frozen? ⟨k,j,none⟩:=by
 unfold World.frozen?
 rw [h]
theorem RowAt.sl (h:RowAt w base t size A n c xs):SlAt w w.heap.size size A n c xs:=h.1
theorem RowAt.fr (h:RowAt w base t size A n c xs) (hf:Fr S w w') (hs:n≠0→∀k,Ab A=some k→¬S k):RowAt w' base t size A n c xs:=by
 obtain ⟨⟨⟨h1,h2⟩,h3⟩,h4⟩:=h
 rcases h4 with h0|⟨k,cs,fr,rfl,hk,hb,hz⟩
 · exact ⟨⟨⟨h1,.inl h0⟩,h3⟩,.inl h0⟩
 ·
  by_cases h0:n=0
  · exact ⟨⟨⟨h1,.inl h0⟩,h3⟩,.inl h0⟩
  ·
   have hkl:=(Array.getElem?_eq_some_iff.1 hb).1
   have hbk:=hf.block k hkl (hs h0 k rfl)
   refine ⟨⟨⟨h1,?_⟩,h3⟩,.inr ⟨k,cs,fr,rfl,hk,hbk.trans hb,fun j hj=>(T5 hbk j).trans (hz j hj)⟩⟩
   rcases h2 with h2|⟨b,off,e,hlt,hc⟩
   · exact .inl h2
   ·
    injection e with e
    injection e with e1 e2
    subst e1 e2
    exact .inr ⟨k,0,rfl,Nat.lt_of_lt_of_le hkl hf.size,fun j u hu=>(World.cell?_of_block hbk).trans (hc j u hu)⟩
theorem RowAt.lower (h:RowAt w base t size A n c xs) (hb:base'≤base):RowAt w base' t size A n c xs:=
 ⟨h.1,h.2.imp id fun ⟨k,cs,fr,e,hk,r⟩=>⟨k,cs,fr,e,Nat.le_trans hb hk,r⟩⟩
theorem RowAt.of_own (h:Own w base t size A n c xs):RowAt w base t size A n c xs:=by
 refine ⟨⟨h.rd,h.cap⟩,?_⟩
 rcases h.2 with ⟨hv,hn⟩|⟨g,cap,cur,hv,hb,hg,_⟩
 · exact .inl hn
 ·
  injection hv with hA _ _
  refine .inr ⟨g,cur,(0,0),hA,hb,hg,fun j _=> ?_⟩
  simp [World.frozen?,hg]
end
theorem Rd.blk {w:World} {k:Nat} {t:TypeId} {size n:Nat} {l:List Value} (h:Blk w k t l.toArray) (hn:l.length=n*size):Rd w w.heap.size size (some ⟨k,0,none⟩) n l:=by
 refine ⟨hn,.inr ⟨k,0,rfl,h.lt,fun j u hu=> ?_⟩⟩
 rw [Am7,h.cell j,List.getElem?_toArray]
 exact hu
theorem C9:SlT Tryz.prog 28 38 (.agg #[.int .i64 0,.int .i64 0,.int .u64 0]) 3 24:=⟨Tryz.underlying28,by kernel_rfl,rfl,by decide⟩
theorem slBx:SlT Tryz.prog 41 144 (.agg #[.int .u64 0,.int .u64 0,.int .u64 0,.int .u64 0]) 4 32:=⟨Tryz.underlying41,by kernel_rfl,rfl,by decide⟩
theorem slNd:SlT Tryz.prog 36 103 (.agg #[.int .u64 0,.slice none 0 0]) 2 32:=⟨Tryz.underlying36,by kernel_rfl,rfl,by decide⟩
theorem slSl:SlT Tryz.prog 42 106 (.agg #[.int .i64 0,.int .i64 0,.int .u64 0,.slice none 0 0]) 4 48:=⟨Tryz.underlying42,by kernel_rfl,rfl,by decide⟩
theorem Gp:SlT Tryz.prog 22 3 (.int .i64 0) 1 8:=⟨Tryz.underlying22,by kernel_rfl,rfl,by decide⟩
theorem Ni:SlT Tryz.prog 40 23 (.int .u64 0) 1 8:=⟨Tryz.underlying40,by kernel_rfl,rfl,by decide⟩
section
attribute [local go_sem ↓] T3
end
theorem Ju {P:Program} {w:World} (a:Addr) (m:Mode) (f:Fn) (x y:Array Value):(store a (.func f x y) m).run P w=stored P w a (.func f x y) m:=run_store P w a _ m rfl
attribute [local go_sem] Ju
section
attribute [local go_sem ↓] T4
end
end Oq
end
section
open Go.RowKit
section
variable {S : Nat → Prop} {w w' : World} {base g n c : Nat} {A : Option Addr} {bs : List UInt8}
end
end
section
open Go.RowKit
attribute [local go_sem ↓] Go.wp_at_zero Go.wp_at_succ
namespace Oq
def OpBlk (w:World) (g:Nat):Prop:=∃cs,Blk w g 44 cs∧cs.size=27
theorem OpBlk.set {w:World} {g:Nat} (h:OpBlk w g) (i:Nat) (u:Value):OpBlk (w.setCell ⟨g,i,none⟩ u) g:=by
 obtain ⟨cs,hb,hs⟩:=h
 exact ⟨_,hb.set i u,by simp [hs]⟩
theorem OpBlk.fr {S:Nat→Prop} {w w':World} {g:Nat} (h:OpBlk w g) (hf:Fr S w w') (hg:¬S g):OpBlk w' g:=by
 obtain ⟨cs,hb,hs⟩:=h
 exact ⟨cs,hb.fr hf hg,hs⟩
theorem T6 (p v:Value):Instr.storeAt 3 p v=stS 3 p v:=rfl
theorem T7 (p v:Value):Instr.storeAt 23 p v=stS 23 p v:=rfl
theorem T8 (p v:Value):Instr.storeAt 38 p v=stS 38 p v:=rfl
theorem T9 (p v:Value):Instr.storeAt 25 p v=stS 25 p v:=rfl
theorem Ua (p v:Value):Instr.storeAt 39 p v=stS 39 p v:=rfl
theorem Ub (p v:Value):Instr.storeAt 40 p v=stS 40 p v:=rfl
theorem Uc (p v:Value):Instr.storeAt 22 p v=stS 22 p v:=rfl
theorem Ud (p v:Value):Instr.storeAt 41 p v=stS 41 p v:=rfl
def Tk (w:World) (B g:Nat) (L:List Int) (i:Nat):Prop:=
 ∃A c,Blk w g 97 #[.slice A L.length c,.int .i64 (i:Int)]∧Rd w B 1 A L.length (L.map Iv)∧B≤g∧L.length≤60∧∀x∈L,I64 x
section
variable {S : Nat → Prop} {w w' : World} {B g i : Nat} {L : List Int}
theorem Tk.le (h:Tk w B g L i):B≤g:=by obtain ⟨_,_,_,_,h,_⟩:=h;exact h
theorem Tk.fr (h:Tk w B g L i) (hf:Fr S w w') (hg:¬S g) (hs:∀k,k<B→¬S k):Tk w' B g L i:=by
 obtain ⟨A,c,hb,hr,r⟩:=h
 exact ⟨A,c,hb.fr hf hg,hr.fr hf hs,r⟩
theorem Tk.set (h:Tk w B g L i) {go:Nat} (hg:g<go) (j:Nat) (u:Value):Tk (w.setCell ⟨go,j,none⟩ u) B g L i:=by
 have hB:=h.le
 exact h.fr ((Fr.refl (One go) w).setOne j u) (fun e=>by have e':g=go:=e;omega) (fun k hk e=>by have e':k=go:=e;omega)
end
structure Id.gen (x:Id):Prop where
 b:1≤x.b∧x.b≤6
 s:1≤x.s∧x.s≤9
 u:x.u<1000000
structure Bx.gen (x:Bx):Prop where
 t:1≤x.t∧x.t≤1000
 e:1≤x.e∧x.e≤1000
 y:x.y<1000
 g:x.g<1000
theorem Jv (x y:Id) (w:World):
  Calls Tryz.prog 92 #[.agg x.V,.agg y.V] w (Af (Id.less x y) w):=by
 have hf:=((Fr.refl Non w).alloc (.cells x.V 38)).alloc (.cells y.V 38)
 by_cases h1:x.b=y.b
 ·
  have f1:(x.b !=y.b)=false:=by simp [h1]
  by_cases h2:x.s=y.s
  ·
   have f2:(x.s !=y.s)=false:=by simp [h2]
   have hr:Hid (Id.less x y=decide ((x.u:Int)<(y.u:Int))):=by show _=_;unfold Id.less;rw [if_pos h1,if_pos h2];simp
   clear h1 h2
   go_enter Tryz.func92,Tryz.ntmps92
   go_wp2
   go_ret
   exact ⟨by rw [hr.out];simp,hf⟩
  ·
   have f2:(x.s !=y.s)=true:=by simp [h2]
   have hr:Hid (Id.less x y=decide (x.s<y.s)):=by show _=_;unfold Id.less;rw [if_pos h1,if_neg h2]
   clear h1 h2
   go_enter Tryz.func92,Tryz.ntmps92
   go_wp2
   go_ret
   exact ⟨by rw [hr.out];rfl,hf⟩
 ·
  have f1:(x.b !=y.b)=true:=by simp [h1]
  have hr:Hid (Id.less x y=decide (x.b<y.b)):=by show _=_;unfold Id.less;rw [if_neg h1]
  clear h1
  go_enter Tryz.func92,Tryz.ntmps92
  go_wp2
  go_ret
  exact ⟨by rw [hr.out];rfl,hf⟩
theorem Jw {w:World} {a:Addr} {v:Value} (h:w.cell? a=some v) (o:Obj):(w.alloc o).cell? a=some v:=((Fr.refl Non w).alloc o).cell h zq
def Bt (a b:Int):Int:=if a<b then-1 else if b<a then 1 else 0
theorem Nj (a:Int) (w:World):Calls Tryz.prog 130 #[.int .i64 a] w fun e w'=>e=.returned (.bool false)∧w=w':=by
 have h:(a !=a)=false:=by simp
 go_enter Tryz.func130,Tryz.ntmps130
 go_wp2
 go_ret
 first|exact ⟨rfl,rfl⟩|exact ⟨by simp,rfl⟩
theorem Nk (a:Int) (w:World):Calls Tryz.prog 131 #[.int .u64 a] w fun e w'=>e=.returned (.bool false)∧w=w':=by
 have h:(a !=a)=false:=by simp
 go_enter Tryz.func131,Tryz.ntmps131
 go_wp2
 go_ret
 first|exact ⟨rfl,rfl⟩|exact ⟨by simp,rfl⟩
theorem Nl (a b:Int) (w:World):Calls Tryz.prog 84 #[.int .i64 a,.int .i64 b] w fun e w'=>e=.returned (.int .i64 (Bt a b))∧w=w':=by
 have hc:Hid ((a<b∧Bt a b= -1)∨(¬a<b∧b<a∧Bt a b=1)∨(¬a<b∧¬b<a∧Bt a b=0)):=by
  show _∨_
  unfold Bt
  by_cases h1:a<b
  · simp [h1]
  · by_cases h2:b<a<;>simp [h1,h2]
 go_enter Tryz.func84,Tryz.ntmps84
 go_wp2_with (fail)
 refine (Nj a _).mono ?_
 rintro _ _ ⟨rfl,rfl⟩
 go_wp2_with (fail)
 refine (Nj b _).mono ?_
 rintro _ _ ⟨rfl,rfl⟩
 go_wp2
 all_goals
  go_ret
  refine ⟨congrArg (fun z=>Ending.returned (.int .i64 z)) ?_,rfl⟩
  have:=hc.out
  omega
theorem Nn (a b:Int) (w:World):Calls Tryz.prog 85 #[.int .u64 a,.int .u64 b] w fun e w'=>e=.returned (.int .i64 (Bt a b))∧w=w':=by
 have hc:Hid ((a<b∧Bt a b= -1)∨(¬a<b∧b<a∧Bt a b=1)∨(¬a<b∧¬b<a∧Bt a b=0)):=by
  show _∨_
  unfold Bt
  by_cases h1:a<b
  · simp [h1]
  · by_cases h2:b<a<;>simp [h1,h2]
 go_enter Tryz.func85,Tryz.ntmps85
 go_wp2_with (fail)
 refine (Nk a _).mono ?_
 rintro _ _ ⟨rfl,rfl⟩
 go_wp2_with (fail)
 refine (Nk b _).mono ?_
 rintro _ _ ⟨rfl,rfl⟩
 go_wp2
 all_goals
  go_ret
  refine ⟨congrArg (fun z=>Ending.returned (.int .i64 z)) ?_,rfl⟩
  have:=hc.out
  omega
def orI (a b c:Int):Int:=if a=0 then if b=0 then c else b else a
theorem Np (a b c:Int) (k:Nat) (w:World) (hk:Blk w k 3 #[.int .i64 a,.int .i64 b,.int .i64 c]):
  Calls Tryz.prog 83 #[.slice (some ⟨k,0,none⟩) 3 3] w fun e w'=>e=.returned (.int .i64 (orI a b c))∧w=w':=by
 have k0:=hk.cell 0
 have k1:=hk.cell 1
 have k2:=hk.cell 2
 by_cases h1:a=0
 ·
  have f1:(a !=0)=false:=by simp [h1]
  by_cases h2:b=0
  ·
   have f2:(b !=0)=false:=by simp [h2]
   by_cases h3:c=0
   ·
    have f3:(c !=0)=false:=by simp [h3]
    have hr:Hid (orI a b c=0):=by show _=_;unfold orI;rw [if_pos h1,if_pos h2,h3]
    clear h1 h2 h3
    go_enter Tryz.func83,Tryz.ntmps83
    go_wp2
    refine wp_loop_rounds 4 ?_
    rw [rounds_succ]
    go_wp2
    rw [rounds_succ]
    go_wp2
    rw [rounds_succ]
    go_wp2
    rw [rounds_succ]
    go_wp2
    go_ret
    exact ⟨by rw [hr.out];rfl,rfl⟩
   ·
    have f3:(c !=0)=true:=by simp [h3]
    have hr:Hid (orI a b c=c):=by show _=_;unfold orI;rw [if_pos h1,if_pos h2]
    clear h1 h2 h3
    go_enter Tryz.func83,Tryz.ntmps83
    go_wp2
    refine wp_loop_rounds 4 ?_
    rw [rounds_succ]
    go_wp2
    rw [rounds_succ]
    go_wp2
    rw [rounds_succ]
    go_wp2
    go_ret
    exact ⟨by rw [hr.out];rfl,rfl⟩
  ·
   have f2:(b !=0)=true:=by simp [h2]
   have hr:Hid (orI a b c=b):=by show _=_;unfold orI;rw [if_pos h1,if_neg h2]
   clear h1 h2
   go_enter Tryz.func83,Tryz.ntmps83
   go_wp2
   refine wp_loop_rounds 4 ?_
   rw [rounds_succ]
   go_wp2
   rw [rounds_succ]
   go_wp2
   go_ret
   exact ⟨by rw [hr.out];rfl,rfl⟩
 ·
  have f1:(a !=0)=true:=by simp [h1]
  have hr:Hid (orI a b c=a):=by show _=_;unfold orI;rw [if_neg h1]
  clear h1
  go_enter Tryz.func83,Tryz.ntmps83
  go_wp2
  refine wp_loop_rounds 4 ?_
  rw [rounds_succ]
  go_wp2
  go_ret
  exact ⟨by rw [hr.out];rfl,rfl⟩
theorem Nq (x y:Id):decide (orI (Bt x.b y.b) (Bt x.s y.s) (Bt (x.u:Int) (y.u:Int))<0)=Id.less x y:=by
 unfold Id.less
 by_cases h1:x.b=y.b
 ·
  have e1:Bt x.b y.b=0:=by unfold Bt;rw [if_neg (by omega),if_neg (by omega)]
  rw [if_pos h1,e1]
  by_cases h2:x.s=y.s
  ·
   have e2:Bt x.s y.s=0:=by unfold Bt;rw [if_neg (by omega),if_neg (by omega)]
   rw [if_pos h2,e2]
   show decide (Bt (x.u:Int) (y.u:Int)<0)=_
   unfold Bt
   rw [Am1]
   simp only [decide_eq_true_eq]
   split
   · omega
   · split<;>omega
  ·
   rw [if_neg h2]
   have e2:Bt x.s y.s≠0:=by unfold Bt;split;omega;split<;>omega
   show decide ((if Bt x.s y.s=0 then _ else Bt x.s y.s)<0)=_
   rw [if_neg e2,Am1]
   simp only [decide_eq_true_eq]
   unfold Bt
   split
   · omega
   · split<;>omega
 ·
  rw [if_neg h1]
  have e1:Bt x.b y.b≠0:=by unfold Bt;split;omega;split<;>omega
  unfold orI
  rw [if_neg e1,Am1]
  simp only [decide_eq_true_eq]
  unfold Bt
  split
  · omega
  · split<;>omega
theorem Ue (x y:Id) (w:World):
  Calls Tryz.prog 30 #[.agg x.V,.agg y.V] w (Af (Id.less x y) w):=by
 have hf:=((Fr.refl Non w).alloc (.cells x.V 38)).alloc (.cells y.V 38)
 have hx:=(Blk.new w 38 x.V).alloc (.cells y.V 38)
 have hy:=Blk.new (w.alloc (.cells x.V 38)) 38 y.V
 rw [Al7] at hy
 have hl:=Nq x y
 have hl':=Lib.hid hl
 clear hl
 go_enter Tryz.func30,Tryz.ntmps30
 go_upto_region 1 with (fail)
 generalize (w.alloc (.cells x.V 38)).alloc (.cells y.V 38)=w0 at*
 have c0:w0.drew.cell? ⟨w.heap.size,0,none⟩=some (.int .i64 x.b):=hx.cell 0
 have c1:w0.drew.cell? ⟨w.heap.size,1,none⟩=some (.int .i64 x.s):=hx.cell 1
 have c2:w0.drew.cell? ⟨w.heap.size,2,none⟩=some (.int .u64 (x.u:Int)):=hx.cell 2
 have d0:w0.drew.cell? ⟨w.heap.size+1,0,none⟩=some (.int .i64 y.b):=hy.cell 0
 have d1:w0.drew.cell? ⟨w.heap.size+1,1,none⟩=some (.int .i64 y.s):=hy.cell 1
 have d2:w0.drew.cell? ⟨w.heap.size+1,2,none⟩=some (.int .u64 (y.u:Int)):=hy.cell 2
 go_region_held3 (fun w'=>w'.cell? ⟨w.heap.size,0,none⟩=some (.int .i64 x.b)∧w'.cell? ⟨w.heap.size,1,none⟩=some (.int .i64 x.s)∧w'.cell? ⟨w.heap.size,2,none⟩=some (.int .u64 (x.u:Int))∧w'.cell? ⟨w.heap.size+1,0,none⟩=some (.int .i64 y.b)∧w'.cell? ⟨w.heap.size+1,1,none⟩=some (.int .i64 y.s)∧w'.cell? ⟨w.heap.size+1,2,none⟩=some (.int .u64 (y.u:Int))) ((and_intros<;>first|assumption|(refine Jw ?_ _;assumption))) (first
  |(go_at_call 84;(with_reducible refine (Nl _ _ _).mono ?_);rintro _ _ ⟨rfl,rfl⟩)
  |(go_at_call 85;(with_reducible refine (Nn _ _ _).mono ?_);rintro _ _ ⟨rfl,rfl⟩)
  |(go_at_call 83;(refine (Np _ _ _ _ _ (by exact Blk.new _ _ _)).mono ?_);rintro _ _ ⟨rfl,rfl⟩))
 go_wp2
 go_ret
 exact ⟨by rw [← hl'.out];rfl,hf.drew.alloc _⟩
end Oq
namespace Oq
attribute [local go_sem] Bool.not_false Bool.not_true
theorem Uf (l:List Id) (k:Nat) (x y:Id) (h:l[k]? =some y):Bm (l.take (k+1)) x=(Bm (l.take k) x||Id.eq y x):=by
 obtain ⟨hk,rfl⟩:=List.getElem?_eq_some_iff.1 h
 rw [Am2 hk]
 unfold Bm
 rw [List.any_append]
 simp
theorem Jx (l:List Id) (x:Id):Bm l x=true↔x∈l:=by
 unfold Bm
 rw [List.any_eq_true]
 exact ⟨fun ⟨y,hy,he⟩=>by rw [← (Id.eq_iff y x).1 he];exact hy,fun h=>⟨x,h,(Id.eq_iff x x).2 rfl⟩⟩
theorem Ug (l:List Id) (k:Nat) (x:Id) (h:Bm (l.take k) x=true):Bm l x=true:=
 (Jx _ _).2 (An5 ((Jx _ _).1 h))
theorem Fe (x y:Id) (w:World):(Op.equalIn 10000 38 (.agg x.V) (.agg y.V)).run Tryz.prog w=.ok (Id.eq x y) w:=by
 have hS:Tryz.prog.underlying 38=some (.struct (Tryz.prog.fieldsOf 38)):=by kernel_rfl
 have hp:Tryz.prog.stoodInHeld 38=false:=by kernel_rfl
 rw [show (10000:Nat)=9999+1 from rfl,run_equalIn_agg w 9999 38 _ _ hS hp]
 simp only [Program.fieldsOf,Tryz.underlying38]
 have e3:((x.u:Int)==(y.u:Int))=(x.u==y.u):=by rw [Am1];simp;omega
 unfold Id.eq
 go_simp
 by_cases h1:x.b=y.b<;>by_cases h2:x.s=y.s<;>by_cases h3:x.u=y.u<;>simp [h1,h2,h3]
attribute [local go_sem ↓] Fe
theorem Jy:Tryz.prog.eqGuardType Tryz.prog.depth 38=false:=by kernel_rfl
theorem Jz (B n c:Nat) (A:Option Addr) (l:List Id) (x:Id) (w:World) (hn:Hid (l.length=n)) (hr:Rd w B 3 A n (l.flatMap Id.cells)) (hnm:n≤1000000):
  Calls Tryz.prog 49 #[.slice A n c,.agg x.V] w (Af (Bm l x) w):=by
 have hb0:=Blk.new w 38 x.V
 go_enter Tryz.func49,Tryz.ntmps49
 go_wp2
 go_loopw [5] (fun v wr=>∃k:Nat,v=.int .i64 (k:Int)∧k≤n∧Hid (Bm (l.take k) x=false)∧Fr Non (w.alloc (.cells x.V 38)) wr) (fun v _=>n-(intOf v).toNat)
 case atStart=>exact ⟨0,rfl,by omega,rfl,Fr.refl _ _⟩
 case round=>
  obtain ⟨k,rfl,hk,hh,hf⟩:=hrel
  by_cases hlt:k<n
  ·
   obtain ⟨y,hy⟩:∃y,l[k]? =some y:=⟨_,Al4 (by rw [hn.out];exact hlt)⟩
   obtain ⟨b,off,rfl,hbB,k0,k1,k2⟩:=Id.at ((hr.alloc _).fr hf zr) hy
   have hsn:=Lib.hid (Uf l k x y hy)
   clear hy
   have hb:=hb0.fr hf zq
   have c0:=hb.cell 0
   have c1:=hb.cell 1
   have c2:=hb.cell 2
   have i1:(0:Int)≤k:=by omega
   have i2:(k:Int)<n:=by omega
   have i3:(k:Int).toNat=k:=by omega
   have hm:=Jy
   by_cases he:Id.eq y x=true
   ·
    have hfin:Hid (Bm l x=true):=Ug l (k+1) x (by rw [hsn.out,he];simp)
    go_wp2
    go_quiet (fail)
    go_wp2
    go_ret
    exact ⟨by rw [hfin.out];rfl,(((Fr.refl Non w).alloc _).trans hf zr).drewN _⟩
   ·
    have he:=Am8 _▸he
    have hfin:Hid (Bm (l.take (k+1)) x=false):=by show _=_;rw [hsn.out,he,hh.out];rfl
    go_wp2
    go_quiet (fail)
    go_wp2
    go_roundw
    case rel=>exact ⟨k+1,by go_num,by omega,hfin,hf.drewN _⟩
    case measure=>simp [intOf];omega
  ·
   obtain rfl:k=n:=by omega
   have hfin:Hid (Bm l x=false):=by have h:=hh.out;rw [Al5 (by rw [hn.out];omega)] at h;exact h
   go_wp2
   go_ret
   exact ⟨by rw [hfin.out];rfl,((Fr.refl Non w).alloc _).trans hf zr⟩
theorem Rd.partN {w:World} {B size n:Nat} {A:Option Addr} {xs:List Value} (h:Rd w B size A n xs) {lo hi:Nat} (h1:lo≤hi) (h2:hi≤n) (A':Option Addr)
  (hA:lo<hi→A'=A.map (·.add (lo*size))):Rd w B size A' (hi-lo) ((xs.drop (lo*size)).take ((hi-lo)*size)):=by
 have hl:=h.1
 have e1:=Nat.mul_le_mul_right size h2
 have e2:(hi-lo)*size+lo*size=hi*size:=by rw [← Am9,Nat.sub_add_cancel h1]
 refine ⟨by simp;omega,?_⟩
 rcases An0 lo hi with hlt|hge
 ·
  rcases h.2 with h0|⟨b,off,e,hb,hc⟩
  · omega
  ·
   refine .inr ⟨b,off+lo*size,?_,hb,?_⟩
   ·
    rw [hA hlt,e]
    simp only [Option.map_some,Addr.add]
    split
    ·
     rename_i h0
     rw [h0];rfl
    · rfl
   ·
    intro j u hu
    rw [List.getElem?_take] at hu
    split at hu
    ·
     rw [List.getElem?_drop] at hu
     rw [Nat.add_assoc]
     exact hc _ _ hu
    · cases hu
 · exact .inl (by omega)
theorem Uh {α:Type} {f:α→List Value} {size:Nat} (hf:∀x,(f x).length=size) (l:List α) (m:Nat):(l.flatMap f).drop (m*size)=(l.drop m).flatMap f:=by
 induction l generalizing m with
 |nil=>simp
 |cons y l ih=>
  match m with
  |0=>simp
  |m+1=>
   rw [Am0,List.drop_succ_cons,List.drop_append,hf,List.drop_of_length_le (by rw [hf,Am9];omega),An1,show (m+1)*size-size=m*size by rw [Am9];omega,ih]
theorem Id.cells_len (x:Id):x.cells.length=3:=rfl
theorem Id.cells_one (l:List Id):∀u∈l.flatMap Id.cells,u.oneCell'=true:=by
 intro u hu
 obtain ⟨x,_,hx⟩:=List.mem_flatMap.1 hu
 unfold Id.cells at hx
 simp at hx
 rcases hx with rfl|rfl|rfl<;>rfl
theorem Nr (l:List Id) (a b:Nat):∀u∈((l.flatMap Id.cells).drop a).take b,u.oneCell'=true:=fun u hu=>Id.cells_one l u (List.mem_of_mem_drop (An5 hu))
theorem add_zero (A:Option Addr):A=A.map (·.add (0*3)):=by
 cases A with
 |none=>rfl
 |some a=>rw [Nat.zero_mul];rfl
theorem Ns (l:List Id) (x:Id):(ins l x).length=l.length+1:=by
 unfold ins
 have h:(l.take (Bp x l l.length)).length+(l.drop (Bp x l l.length)).length=l.length:=by rw [← Al1,An2]
 rw [Al1,Al1,List.length_singleton]
 omega
theorem Nt (xs:List Id) (x:Id) {i K:Nat} (hl:xs.length=i) (hk:Bp x xs i=K):
  (xs.take K).flatMap Id.cells++[.int .i64 x.b,.int .i64 x.s,.int .u64 (x.u:Int)]++((xs.flatMap Id.cells).drop (K*3)).take ((i-K)*3)=(ins xs x).flatMap Id.cells:=by
 rw [Uh Id.cells_len,Jg Id.cells_len,Al5 (l:=xs.drop K) (by rw [An6,hl];exact Al2 _)]
 unfold ins
 rw [hl,hk,Am3,Am3,Am0,An4,Am4]
 rfl
theorem Ui (l:List Id) (k:Nat) (x:Id) (h:l[k]? =some x):Am (l.take (k+1))=ins (Am (l.take k)) x:=by
 obtain ⟨hk,rfl⟩:=List.getElem?_eq_some_iff.1 h
 rw [Am2 hk]
 unfold Am
 rw [List.foldl_append]
 rfl
theorem Uj (x y:Id) (l:List Id) (k:Nat) (h:l[k]? =some y):Bp x l (k+1)=if Id.less x y then Bp x l k else k+1:=by
 show (match l[k]? with|some y=>if Id.less x y then Bp x l k else k+1|none=>k+1)=_
 rw [h]
def En (l:List Id) (n:Nat) (w:World) (r:Ending) (w':World):Prop:=
 ∃A c,r=.returned (.slice A n c)∧Own w' w.heap.size 38 3 A n c ((Am l).flatMap Id.cells)∧Fr Non w w'
theorem Gq (B n c:Nat) (A:Option Addr) (l:List Id) (w:World) (hn:Hid (l.length=n)) (hr:Rd w B 3 A n (l.flatMap Id.cells)) (hnm:n≤1000000):
  Calls Tryz.prog 50 #[.slice A n c] w (En l n w):=by
 go_enter Tryz.func50,Tryz.ntmps50
 go_wp2
 go_loopw [3,4] (fun s v wr=>∃(i:Nat) (Ax:Option Addr) (cx:Nat) (xs:List Id),v=.int .i64 (i:Int)∧s=.slice Ax i cx∧i≤n∧Hid (xs=Am (l.take i))∧Hid (xs.length=i)∧
  Own wr w.heap.size 38 3 Ax i cx (xs.flatMap Id.cells)∧Fr Non w wr) (fun _ v _=>n-(intOf v).toNat)
 case atStart=>exact ⟨0,none,0,[],rfl,rfl,by omega,rfl,rfl,Own.nil _ _ _ _,Fr.refl _ _⟩
 case round=>
  obtain ⟨i,Ax,cx,xs,rfl,rfl,hi,hxs,hxl,hown,hf⟩:=hrel
  by_cases hlt:i<n
  ·
   obtain ⟨x,hx⟩:∃x,l[i]? =some x:=⟨_,Al4 (by rw [hn.out];exact hlt)⟩
   obtain ⟨b,off,rfl,hbB,k0,k1,k2⟩:=Id.at (hr.fr hf zr) hx
   have hsn:=Lib.hid (Ui l i x hx)
   clear hx
   have hcap:=hown.cap
   obtain ⟨wo,hwo⟩:∃wo:World,wo=wr:=⟨_,rfl⟩
   subst hwo
   go_wp2
   go_loopw [5] (fun v wi=>∃k:Nat,v=.int .i64 (k:Int)∧k≤i∧Hid (Bp x xs i=Bp x xs k)∧Fr Non wo wi) (fun v _=>(intOf v).toNat)
   case atStart=>exact ⟨i,rfl,by omega,rfl,Fr.refl _ _⟩
   case round=>
    obtain ⟨k,rfl,hk,hins,hfi⟩:=hrel
    rcases Nat.eq_zero_or_pos k with h0|h0
    ·
     subst h0
     have hik:=Lib.hid hins.out
     have hwS:=hfi.size
     have hwR:=hf.size
     have ownW:=hown.fr hfi zr
     have hnil:=Own.nil wr w.heap.size 38 3
     have hrdA:=ownW.rd.takeN (m:=0) (by omega)
     rw [Jg Id.cells_len] at hrdA
     have hlo:=ownW.row
     have G0:=hfi.cell k0 zq
     have G1:=hfi.cell k1 zq
     have G2:=hfi.cell k2 zq
     go_upto_region 10 with (fail)
     have nA:∀k,Ab Ax=some k→k<wo.heap.size:=fun k hk=>(hown.row k hk).2
     go_wp2_with (first
      |(at_builtin;go_loud (refine Bb (base:=w.heap.size) (.tmp 30) (.tmp 33) 28 rfl rfl rfl rfl C9 hnil hrdA (Id.cells_one _) (by omega) (by omega) (by omega) ?_);intro A1 c1 w2 own1 fr1 hat1;have fr1':Fr Non _ w2:=fr1.mono (fun k _ hk=>by cases hk);have hw2:=fr1'.size;have H0:=fr1'.cell G0 zq;have H1:=fr1'.cell G1 zq;have H2:=fr1'.cell G2 zq;have hr1:∀k,Ab A1=some k→wo.heap.size≤k:=fun k hk=>(by rcases hat1 with e|e;(rw [e] at hk;cases hk);(rw [e] at hk;injection hk with hk;omega));clear hat1;rw [Am7,An1] at own1)
      |(at_builtin;go_loud (refine Bb (base:=w.heap.size) (.tmp 35) (.tmp 40) 28 rfl rfl rfl rfl C9 (own1.alloc (.cells x.V 38)) (Rd.blk (n:=1) (size:=3) (Blk.new w2 38 x.V) rfl) (by simp [Value.oneCell']) (by omega) (by omega) (by rw [Al7];omega) ?_);intro A2 c2 w3 own2 fr2 hat2;have hw3:=fr2.size;rw [Al7] at hw3;have hr2:∀k,Ab A2=some k→wo.heap.size≤k:=fun k hk=>(by rcases hat2 with e|e;(rw [e] at hk;exact hr1 k hk);(rw [e,Al7] at hk;injection hk with hk;omega));clear hat2;have ownW3:=((ownW.fr fr1' zr).alloc (.cells x.V 38)).fr fr2 (fun k hk e=>by have e1:=hr1 k e;have e2:=nA k hk;omega))
      |(at_builtin;go_loud (refine Bb (base:=w.heap.size) (.tmp 42) (.tmp 45) 28 rfl rfl rfl rfl C9 own2 (Rd.partN ownW3.rd (lo:=0) (hi:=i) (by omega) (Al2 _) _ (fun hlt=>add_zero Ax)) (Nr _ _ _) (by omega) (by omega) (by omega) ?_);intro A3 c3 w4 own3 fr3 hat3))
     have hfin:Hid (ins xs x=Am (l.take (i+1))):=by show _=_;rw [hsn.out,← hxs.out]
     have hcells:(xs.take (0)).flatMap Id.cells++[.int .i64 x.b,.int .i64 x.s,.int .u64 (x.u:Int)]++((xs.flatMap Id.cells).drop ((0)*3)).take ((i-(0))*3)=(ins xs x).flatMap Id.cells:=by
      exact Nt xs x hxl.out (hik.out)
     have hfr:Fr Non w w4:=(((hf.trans hfi zr).trans fr1' zr).alloc (.cells x.V 38)).trans fr2 (fun k hk e=>by have:=hr1 k e;omega)|>.trans fr3 (fun k hk e=>by have:=hr2 k e;omega)
     go_roundw
     case rel=>exact ⟨i+1,A3,c3,ins xs x,by go_num,by first|rfl|(congr 1;omega),by omega,hfin,by show _=_;rw [Ns,hxl.out],by rw [← hcells,show i+1=0+1+(i-(0)) by omega];exact own3,hfr⟩
     case measure=>simp [intOf];omega
    ·
     obtain ⟨j,rfl⟩:∃j,k=j+1:=⟨k-1,by omega⟩
     obtain ⟨y,hy⟩:∃y,xs[j]? =some y:=⟨_,Al4 (by rw [hxl.out];omega)⟩
     obtain ⟨b2,off2,hA2,hb2,m0,m1,m2⟩:=Id.at (hown.rd.fr hfi zr) hy
     subst hA2
     have hgo:=Lib.hid (Uj x y xs j hy)
     clear hy
     have K0:=hfi.cell k0 zq
     have K1:=hfi.cell k1 zq
     have K2:=hfi.cell k2 zq
     by_cases hL:Id.less x y=true
     ·
      have hgo':Hid (Bp x xs i=Bp x xs j):=by show _=_;rw [hins.out,hgo.out,if_pos hL]
      go_upto_region 7 with (fail)
      have e1:IntKind.i64.wrap (((j+1:Nat):Int)-1)=(j:Int):=by rw [show ((j+1:Nat):Int)-1=j by omega];exact IntWalk.i64_in _ (by omega)
      have e1':IntKind.i64.wrap ((j:Int)+1-1)=(j:Int):=by rw [show (j:Int)+1-1=j by omega];exact IntWalk.i64_in _ (by omega)
      have e1'':IntKind.i64.wrap (j:Int)=(j:Int):=IntWalk.i64_in _ (by omega)
      have e2:(0:Int)≤j:=by omega
      have e3:(j:Int)<i:=by omega
      have e4:(j:Int).toNat=j:=by omega
      have f2:(0:Int)≤i:=by omega
      have f3:(i:Int)<n:=by omega
      have f4:(i:Int).toNat=i:=by omega
      have D0:wr.drew.cell? ⟨b,off+i*3,none⟩=some (.int .i64 x.b):=K0
      have D1:wr.drew.cell? ⟨b,off+i*3+1,none⟩=some (.int .i64 x.s):=K1
      have D2:wr.drew.cell? ⟨b,off+i*3+2,none⟩=some (.int .u64 (x.u:Int)):=K2
      have M0:wr.drew.cell? ⟨b2,off2+j*3,none⟩=some (.int .i64 y.b):=m0
      have M1:wr.drew.cell? ⟨b2,off2+j*3+1,none⟩=some (.int .i64 y.s):=m1
      have M2:wr.drew.cell? ⟨b2,off2+j*3+2,none⟩=some (.int .u64 (y.u:Int)):=m2
      go_region_held3 (fun w'=>w'.cell? ⟨b,off+i*3,none⟩=some (.int .i64 x.b)∧w'.cell? ⟨b,off+i*3+1,none⟩=some (.int .i64 x.s)∧w'.cell? ⟨b,off+i*3+2,none⟩=some (.int .u64 (x.u:Int))∧w'.cell? ⟨b2,off2+j*3,none⟩=some (.int .i64 y.b)∧w'.cell? ⟨b2,off2+j*3+1,none⟩=some (.int .i64 y.s)∧w'.cell? ⟨b2,off2+j*3+2,none⟩=some (.int .u64 (y.u:Int))) ((and_intros<;>assumption)) (first
       |(go_at_call 92;(with_reducible refine (Jv x y _).mono ?_);rintro _ w1 ⟨rfl,hf1⟩;have D0:=hf1.cell D0 zq;have D1:=hf1.cell D1 zq;have D2:=hf1.cell D2 zq;have M0:=hf1.cell M0 zq;have M1:=hf1.cell M1 zq;have M2:=hf1.cell M2 zq))
      clear e1 e1' e1'' e2 e3 e4 f2 f3 f4
      have hfw:=(hfi.drew).trans hf1 zr
      go_wp2
      go_roundw
      case rel=>exact ⟨j,by go_num,by omega,hgo',hfw⟩
      case measure=>first|(simp [intOf];done)|(simp [intOf];omega)
     ·
      have hik:Hid (Bp x xs i=j+1):=by show _=_;rw [hins.out,hgo.out,if_neg hL]
      have hL:=Am8 _▸hL
      go_upto_region 7 with (fail)
      have e1:IntKind.i64.wrap (((j+1:Nat):Int)-1)=(j:Int):=by rw [show ((j+1:Nat):Int)-1=j by omega];exact IntWalk.i64_in _ (by omega)
      have e1':IntKind.i64.wrap ((j:Int)+1-1)=(j:Int):=by rw [show (j:Int)+1-1=j by omega];exact IntWalk.i64_in _ (by omega)
      have e1'':IntKind.i64.wrap (j:Int)=(j:Int):=IntWalk.i64_in _ (by omega)
      have e2:(0:Int)≤j:=by omega
      have e3:(j:Int)<i:=by omega
      have e4:(j:Int).toNat=j:=by omega
      have f2:(0:Int)≤i:=by omega
      have f3:(i:Int)<n:=by omega
      have f4:(i:Int).toNat=i:=by omega
      have D0:wr.drew.cell? ⟨b,off+i*3,none⟩=some (.int .i64 x.b):=K0
      have D1:wr.drew.cell? ⟨b,off+i*3+1,none⟩=some (.int .i64 x.s):=K1
      have D2:wr.drew.cell? ⟨b,off+i*3+2,none⟩=some (.int .u64 (x.u:Int)):=K2
      have M0:wr.drew.cell? ⟨b2,off2+j*3,none⟩=some (.int .i64 y.b):=m0
      have M1:wr.drew.cell? ⟨b2,off2+j*3+1,none⟩=some (.int .i64 y.s):=m1
      have M2:wr.drew.cell? ⟨b2,off2+j*3+2,none⟩=some (.int .u64 (y.u:Int)):=m2
      go_region_held3 (fun w'=>w'.cell? ⟨b,off+i*3,none⟩=some (.int .i64 x.b)∧w'.cell? ⟨b,off+i*3+1,none⟩=some (.int .i64 x.s)∧w'.cell? ⟨b,off+i*3+2,none⟩=some (.int .u64 (x.u:Int))∧w'.cell? ⟨b2,off2+j*3,none⟩=some (.int .i64 y.b)∧w'.cell? ⟨b2,off2+j*3+1,none⟩=some (.int .i64 y.s)∧w'.cell? ⟨b2,off2+j*3+2,none⟩=some (.int .u64 (y.u:Int))) ((and_intros<;>assumption)) (first
       |(go_at_call 92;(with_reducible refine (Jv x y _).mono ?_);rintro _ w1 ⟨rfl,hf1⟩;have D0:=hf1.cell D0 zq;have D1:=hf1.cell D1 zq;have D2:=hf1.cell D2 zq;have M0:=hf1.cell M0 zq;have M1:=hf1.cell M1 zq;have M2:=hf1.cell M2 zq))
      clear e1 e1' e1'' e2 e3 e4 f2 f3 f4
      have hfw:=(hfi.drew).trans hf1 zr
      have hwS:=hfw.size
      have hwR:=hf.size
      have ownW:=hown.fr hfw zr
      have hnil:=Own.nil w1 w.heap.size 38 3
      have hrdA:=ownW.rd.takeN (m:=j+1) (by omega)
      rw [Jg Id.cells_len] at hrdA
      have hlo:=ownW.row
      have G0:=hfw.cell k0 zq
      have G1:=hfw.cell k1 zq
      have G2:=hfw.cell k2 zq
      go_upto_region 10 with (fail)
      have nA:∀k,Ab (some (⟨b2,off2,none⟩:Addr))=some k→k<wo.heap.size:=fun k hk=>(hown.row k hk).2
      go_wp2_with (first
       |(at_builtin;go_loud (refine Bb (base:=w.heap.size) (.tmp 30) (.tmp 33) 28 rfl rfl rfl rfl C9 hnil hrdA (Id.cells_one _) (by omega) (by omega) (by omega) ?_);intro A1 c1 w2 own1 fr1 hat1;have fr1':Fr Non _ w2:=fr1.mono (fun k _ hk=>by cases hk);have hw2:=fr1'.size;have H0:=fr1'.cell G0 zq;have H1:=fr1'.cell G1 zq;have H2:=fr1'.cell G2 zq;have hr1:∀k,Ab A1=some k→wo.heap.size≤k:=fun k hk=>(by rcases hat1 with e|e;(rw [e] at hk;cases hk);(rw [e] at hk;injection hk with hk;omega));clear hat1;rw [Am7,An1] at own1)
       |(at_builtin;go_loud (refine Bb (base:=w.heap.size) (.tmp 35) (.tmp 40) 28 rfl rfl rfl rfl C9 (own1.alloc (.cells x.V 38)) (Rd.blk (n:=1) (size:=3) (Blk.new w2 38 x.V) rfl) (by simp [Value.oneCell']) (by omega) (by omega) (by rw [Al7];omega) ?_);intro A2 c2 w3 own2 fr2 hat2;have hw3:=fr2.size;rw [Al7] at hw3;have hr2:∀k,Ab A2=some k→wo.heap.size≤k:=fun k hk=>(by rcases hat2 with e|e;(rw [e] at hk;exact hr1 k hk);(rw [e,Al7] at hk;injection hk with hk;omega));clear hat2;have ownW3:=((ownW.fr fr1' zr).alloc (.cells x.V 38)).fr fr2 (fun k hk e=>by have e1:=hr1 k e;have e2:=nA k hk;omega))
       |(at_builtin;go_loud (refine Bb (base:=w.heap.size) (.tmp 42) (.tmp 45) 28 rfl rfl rfl rfl C9 own2 (Rd.partN ownW3.rd (lo:=j+1) (hi:=i) (by omega) (Al2 _) _ (fun hlt=>if_neg (by omega))) (Nr _ _ _) (by omega) (by omega) (by omega) ?_);intro A3 c3 w4 own3 fr3 hat3))
      have hfin:Hid (ins xs x=Am (l.take (i+1))):=by show _=_;rw [hsn.out,← hxs.out]
      have hcells:(xs.take (j+1)).flatMap Id.cells++[.int .i64 x.b,.int .i64 x.s,.int .u64 (x.u:Int)]++((xs.flatMap Id.cells).drop ((j+1)*3)).take ((i-(j+1))*3)=(ins xs x).flatMap Id.cells:=by
       exact Nt xs x hxl.out (hik.out)
      have hfr:Fr Non w w4:=(((hf.trans hfw zr).trans fr1' zr).alloc (.cells x.V 38)).trans fr2 (fun k hk e=>by have:=hr1 k e;omega)|>.trans fr3 (fun k hk e=>by have:=hr2 k e;omega)
      go_roundw
      case rel=>exact ⟨i+1,A3,c3,ins xs x,by go_num,by first|rfl|(congr 1;omega),by omega,hfin,by show _=_;rw [Ns,hxl.out],by rw [← hcells,show i+1=j+1+1+(i-(j+1)) by omega];exact own3,hfr⟩
      case measure=>simp [intOf];omega
  ·
   obtain rfl:i=n:=by omega
   have hfin:Hid (xs=Am l):=by have h:=hxs.out;rw [Al5 (by rw [hn.out];omega)] at h;exact h
   go_wp2
   go_ret
   exact ⟨Ax,cx,rfl,by rw [← hfin.out];exact hown,hf⟩
end Oq
end
namespace Oq
theorem Id.less_iff (a b:Id):Id.less a b=true↔a.b<b.b∨(a.b=b.b∧(a.s<b.s∨(a.s=b.s∧a.u<b.u))):=by
 unfold Id.less
 by_cases h1:a.b=b.b
 ·
  by_cases h2:a.s=b.s
  · rw [if_pos h1,if_pos h2];simp;omega
  · rw [if_pos h1,if_neg h2];simp;omega
 · rw [if_neg h1];simp;omega
theorem Id.less_irr (a:Id):Id.less a a=false:=by
 cases h:Id.less a a
 · rfl
 · rw [Id.less_iff] at h;omega
theorem Id.less_tr {a b c:Id} (h:Id.less a b=true) (k:Id.less b c=true):Id.less a c=true:=by
 rw [Id.less_iff] at*;omega
theorem Id.less_as {a b:Id} (h:Id.less a b=true):Id.less b a=false:=by
 cases k:Id.less b a
 · rfl
 · rw [Id.less_iff] at*;omega
theorem Id.less_tot (a b:Id):Id.less a b=true∨a=b∨Id.less b a=true:=by
 rw [Id.less_iff,Id.less_iff]
 by_cases h1:a.b=b.b
 ·
  by_cases h2:a.s=b.s
  ·
   by_cases h3:a.u=b.u
   ·
    refine .inr (.inl ?_)
    cases a;cases b;simp_all
   · omega
  · omega
 · omega
theorem Id.less_f {a b:Id} (h:Id.less a b=false):b=a∨Id.less b a=true:=by
 rcases Id.less_tot a b with k|k|k
 · rw [h] at k;cases k
 · exact .inl k.symm
 · exact .inr k
def Row (l:List Id):Prop:=l.Pairwise (fun a b=>Id.less a b=true)
def RowW (l:List Id):Prop:=l.Pairwise (fun a b=>Id.less b a=false)
theorem Row.nodup {l:List Id} (h:Row l):l.Nodup:=h.imp (fun {a b} k e=>by rw [e,Id.less_irr] at k;cases k)
theorem RowW.row {l:List Id} (h:RowW l) (hn:l.Nodup):Row l:=by
 unfold Row RowW at*
 exact (List.Pairwise.and h hn).imp (fun {a b} k=>by
  rcases Id.less_f k.1 with e|e
  · exact absurd e k.2
  · exact e)
theorem Nu (x:Id) (l:List Id):∀k,Bp x l k≤k
 |0=>Al2 _
 |k+1=>by
  show (match l[k]? with|some y=>if Id.less x y then Bp x l k else k+1|none=>k+1)≤_
  split
  ·
   split
   · exact Nat.le_trans (Nu x l k) (Nat.le_succ k)
   · exact Al2 _
  · exact Al2 _
theorem Nv (x:Id) (l:List Id):∀k,k≤l.length→∀j y,Bp x l k≤j→j<k→l[j]? =some y→Id.less x y=true
 |0,_,j,y,_,h,_=>by omega
 |k+1,hk,j,y,h1,h2,h3=>by
  have he:l[k]? =some l[k]:=Al4 (by omega)
  have hu:Bp x l (k+1)=if Id.less x l[k] then Bp x l k else k+1:=by
   show (match l[k]? with|some y=>if Id.less x y then Bp x l k else k+1|none=>k+1)=_
   rw [he]
  rw [hu] at h1
  by_cases hl:Id.less x l[k]=true
  ·
   rw [if_pos hl] at h1
   rcases An0 j k with hj|hj
   · exact Nv x l k (by omega) j y h1 hj h3
   ·
    obtain rfl:j=k:=by omega
    rw [he] at h3
    injection h3 with h3
    rw [← h3];exact hl
  ·
   rw [if_neg hl] at h1
   omega
theorem Nw (x:Id) (l:List Id):∀k,k≤l.length→∀y,0<Bp x l k→l[Bp x l k-1]? =some y→Id.less x y=false
 |0,_,y,h,_=>by exact absurd h (Nat.lt_irrefl 0)
 |k+1,hk,y,h1,h2=>by
  have he:l[k]? =some l[k]:=Al4 (by omega)
  have hu:Bp x l (k+1)=if Id.less x l[k] then Bp x l k else k+1:=by
   show (match l[k]? with|some y=>if Id.less x y then Bp x l k else k+1|none=>k+1)=_
   rw [he]
  rw [hu] at h1 h2
  by_cases hl:Id.less x l[k]=true
  ·
   rw [if_pos hl] at h1 h2
   exact Nw x l k (by omega) y h1 h2
  ·
   rw [if_neg hl] at h2
   rw [Nat.add_sub_cancel,he] at h2
   injection h2 with h2
   rw [← h2]
   exact Am8 _▸hl
theorem Uk (l:List Id) (x:Id):(ins l x).Perm (x::l):=by
 unfold ins
 have h:l=l.take (Bp x l l.length)++l.drop (Bp x l l.length):=(An2 _ _).symm
 generalize Bp x l l.length=k at*
 rw [Al3]
 refine List.Perm.trans List.perm_middle ?_
 conv=>rhs;rw [h]
 exact List.Perm.refl _
theorem Ul {l:List Id} (x:Id) (h:RowW l):RowW (ins l x):=by
 have hle:=Nu x l l.length
 have hge:=Nv x l l.length (Al2 _)
 have hlt:=Nw x l l.length (Al2 _)
 unfold ins RowW at*
 generalize Bp x l l.length=k at*
 have hh:l.Pairwise (fun a b=>Id.less b a=false):=h
 rw [← An2 k l,An7] at h
 obtain ⟨h1,h2,h3⟩:=h
 have hb:∀a∈l.take k,Id.less x a=false:=by
  intro a ha
  obtain ⟨j,hj,hja⟩:=List.mem_iff_getElem.1 ha
  rw [List.length_take] at hj
  rw [List.getElem_take] at hja
  have hy:l[k-1]? =some l[k-1]:=Al4 (by omega)
  have hx:=hlt _ (by omega) hy
  rcases An0 j (k-1) with hjk|hjk
  ·
   have hp:=List.pairwise_iff_getElem.1 hh j (k-1) (by omega) (by omega) hjk
   rw [hja] at hp
   cases hxa:Id.less x a
   · rfl
   ·
    rcases Id.less_f hx with e|e
    · rw [e,hxa] at hp;cases hp
    · rw [Id.less_tr e hxa] at hp;cases hp
  ·
   obtain rfl:j=k-1:=by omega
   rw [← hja];exact hx
 have ha:∀a∈l.drop k,Id.less x a=true:=by
  intro a ha
  obtain ⟨j,hj,hja⟩:=List.mem_iff_getElem.1 ha
  rw [An6] at hj
  rw [List.getElem_drop] at hja
  exact hge (k+j) a (by omega) (by omega) (by rw [← hja];exact Al4 _)
 rw [Al3,An7]
 refine ⟨h1,?_,?_⟩
 ·
  rw [List.singleton_append,List.pairwise_cons]
  exact ⟨fun a h=>Id.less_as (ha a h),h2⟩
 ·
  intro a h b hb'
  rcases List.mem_append.1 hb' with hb'|hb'
  · rw [List.mem_singleton.1 hb'];exact hb a h
  · exact h3 a h b hb'
theorem J0:∀(l acc:List Id),RowW acc→RowW (l.foldl ins acc)∧(l.foldl ins acc).Perm (acc++l)
 |[],acc,h=>⟨h,by rw [Am4];exact List.Perm.refl _⟩
 |x::l,acc,h=>by
  obtain ⟨h1,h2⟩:=J0 l (ins acc x) (Ul x h)
  refine ⟨h1,h2.trans ?_⟩
  exact ((Uk acc x).append_right l).trans List.perm_middle.symm
theorem J1 (l:List Id):RowW (Am l):=(J0 l [] List.Pairwise.nil).1
theorem Da (l:List Id):(Am l).Perm l:=(J0 l [] List.Pairwise.nil).2
theorem RowW.unique:∀{l m:List Id},RowW l→RowW m→l.Perm m→l=m
 |[],m,_,_,h=>by rw [List.Perm.nil_eq h]
 |x::l,[],_,_,h=>by exact absurd h.length_eq (by simp)
 |x::l,y::m,h1,h2,hp=>by
  have h1':=List.pairwise_cons.1 h1
  have h2':=List.pairwise_cons.1 h2
  have hxy:x=y:=by
   have hx:x∈y::m:=hp.subset (An3 ..)
   have hy:y∈x::l:=hp.symm.subset (An3 ..)
   rcases List.mem_cons.1 hx with e|e
   · exact e
   ·
    rcases List.mem_cons.1 hy with e'|e'
    · exact e'.symm
    ·
     have a:=h2'.1 x e
     have b:=h1'.1 y e'
     rcases Id.less_f a with c|c
     · exact c.symm
     · rw [c] at b;cases b
  subst hxy
  rw [RowW.unique h1'.2 h2'.2 (List.perm_cons x|>.1 hp)]
theorem Gr {l m:List Id} (h:RowW l) (hp:l.Perm m):l=Am m:=h.unique (J1 m) (hp.trans (Da m).symm)
def FP:Nat:=2305843009213693951
def inR (n lo hi:Int):Bool:=decide (lo≤n)&&decide (n≤hi)
def Ay (n:Nat):Bool:=decide (1≤n)&&decide (n<FP)
def fOk (n:Nat):Bool:=decide (n<FP)
def Id.named (x:Id):Bool:=inR x.b 1 12&&inR x.s 1 2147483647&&fOk x.u
def Id.zero:Id:=⟨0,0,0⟩
def Bx.may (x:Bx):Bool:=Ay x.t&&Ay x.e&&fOk x.y&&fOk x.g
def Co (k:Int):Bool:=k==7||k==8||k==12||k==10||k==11||k==13
def Op.bareB (o:Op):Bool:=
 (o.dev==0||o.kind==2||o.kind==3||o.kind==11||o.kind==13)&&(o.old==0||o.kind==13)&&(o.mem==0||o.kind==3||o.kind==5)&&(o.role==0||o.kind==2||o.kind==5)&&
 (o.path.isEmpty||Dy o.kind)&&(Id.eq o.epoch Id.zero||o.kind==6)&&(o.n==0||o.kind==6)&&(o.refs.isEmpty||o.kind==6)&&(o.body.isEmpty||o.kind==6||o.kind==7)&&(Id.eq o.of Id.zero||Co o.kind)&&
 (o.guards.isEmpty||o.kind==9)&&(o.wait==0||o.kind==9)&&(o.pub==0||o.kind==9)&&(o.need==0||o.kind==9||o.kind==1)&&(o.boxes.isEmpty||o.kind==9||o.kind==10||o.kind==11)&&
 (o.hist.isEmpty||o.kind==2||o.kind==13)
def Op.numsB (o : Op) : Bool :=
  inR o.by_ 1 12 && inR o.sq 1 2147483647 && inR o.at_ 0 2147483647 &&
  (if o.kind = 1 then inR o.need 0 20
   else if o.kind = 2 then inR o.dev 1 12 && inR o.role 1 3
   else if o.kind = 3 then (inR o.dev 1 12 && o.mem == 0) || (o.dev == 0 && inR o.mem 1 8)
   else if o.kind = 4 then true
   else if o.kind = 5 then inR o.mem 1 8 && inR o.role 1 3
   else if o.kind = 6 then o.epoch.named && inR o.n 0 2147483647
   else if o.kind = 9 then inR o.need 1 o.guards.length && inR o.wait 0 2147483647 && Ay o.pub
   else if o.kind = 11 then o.of.named && inR o.dev 1 12
   else if o.kind = 13 then o.of.named && inR o.dev 1 12 && inR o.old 1 12
   else o.of.named)
def Op.itemsB (o:Op):Bool:=
 o.guards.all (fun n=>inR n 1 12)&&o.refs.all fOk&&o.past.all Id.named&&o.path.all (fun x=>Ay x.p&&x.xs.all Bx.may)&&o.boxes.all Bx.may&&o.hist.all (fun x=>x.f.named)
def Op.longB (o : Op) : Bool :=
  o.path.any (fun x => decide (12 < x.xs.length)) || o.hist.any (fun x => decide (208 < x.y.length)) || decide (12 < o.past.length) || decide (5 < o.path.length) || decide (208 < o.body.length) || decide (8 < o.refs.length) || decide (20 < o.hist.length) || decide (6 < o.guards.length) ||
  (if o.kind = 7 then !(decide (1 ≤ o.body.length) && decide (o.body.length ≤ 20))
   else if o.kind = 9 then decide (o.boxes.length ≠ o.guards.length)
   else if o.kind = 10 then !(decide (1 ≤ o.boxes.length) && decide (o.boxes.length ≤ 6))
   else if o.kind = 11 then decide (o.boxes.length ≠ 1) else false)
def An {α:Type} (r:α→α→Bool):List α→Bool
 |[]=>true
 |[_]=>true
 |x::y::l=>r x y&&An r (y::l)
def Op.rowB (o:Op):Bool:=An Id.less o.past&&An (fun a b=>decide (a<b)) o.guards
def Op.chk (o:Op):Int:=
 if o.kind<1∨13<o.kind then 1 else if o.bareB=false then 1 else if o.numsB=false then 8 else if o.itemsB=false then 8 else if o.longB=true then 2 else if o.rowB=false then 6 else if decide (o.past=[])≠decide (o.kind=1) then 10 else 0
theorem chk_ok {o:Op}:o.chk=0↔(1≤o.kind∧o.kind≤13)∧o.bareB=true∧o.numsB=true∧o.itemsB=true∧o.longB=false∧o.rowB=true∧(o.past=[]↔o.kind=1):=by
 unfold Op.chk
 by_cases h1:o.kind<1∨13<o.kind
 · rw [if_pos h1];exact ⟨fun h=>absurd h (by decide),fun h=>absurd h.1 (by omega)⟩
 rw [if_neg h1]
 cases h2:o.bareB
 · simp
 cases h3:o.numsB
 · simp
 cases h4:o.itemsB
 · simp
 cases h5:o.longB
 ·
  cases h6:o.rowB
  · simp
  · by_cases h7:o.past=[]<;>by_cases h8:o.kind=1<;>simp [h7,h8]<;>omega
 · simp
theorem Nx {l:List Id} (h:Row l):An Id.less l=true:=by
 induction l with
 |nil=>rfl
 |cons x l ih=>
  cases l with
  |nil=>rfl
  |cons y l=>
   have h':=List.pairwise_cons.1 h
   show (Id.less x y&&An Id.less (y::l))=true
   rw [h'.1 y (An3 ..),ih h'.2];rfl
def base (b s k a:Int) (past:List Id) (path:List Nd):Op:={Op.zero with by_:=b,sq:=s,kind:=k,at_:=a,past:=past,path:=path}
structure Pre (b s k a:Int) (past:List Id) (path:List Nd):Prop where
 kind:1≤k∧k≤13
 by_:1≤b∧b≤12
 sq:1≤s∧s≤2147483647
 at_:0≤a∧a≤2147483647
 past:past.length≤12∧(∀x∈past,x.named=true)∧Row past∧(past=[]↔k=1)
 path:path.length≤5∧(∀x∈path,(1≤x.p∧x.p<FP)∧x.xs.length≤12∧∀b∈x.xs,b.may=true)∧(path=[]∨Dy k=true)
section
variable {b s k a : Int} {past : List Id} {path : List Nd}
theorem Pre.path_any (h:Pre b s k a past path):path.any (fun x=>decide (12<x.xs.length))=false:=by
 rw [List.any_eq_false]
 intro x hx
 have:=(h.path.2.1 x hx).2.1
 simp;omega
theorem Pre.path_all (h:Pre b s k a past path):path.all (fun x=>Ay x.p&&x.xs.all Bx.may)=true:=by
 rw [An8]
 intro x hx
 have h1:=(h.path.2.1 x hx).1
 have h2:=(h.path.2.1 x hx).2.2
 rw [Bool.and_eq_true,An8]
 exact ⟨by unfold Ay;simp;omega,h2⟩
theorem Pre.past_all (h:Pre b s k a past path):past.all Id.named=true:=List.all_eq_true.2 h.past.2.1
theorem Pre.no_path (h:Pre b s k a past path) (hk:Dy k=false):path=[]:=by
 rcases h.path.2.2 with e|e
 · exact e
 · rw [hk] at e;cases e
end
theorem Eo {n lo hi:Int} (h:lo≤n∧n≤hi):inR n lo hi=true:=by unfold inR;simp;exact h
theorem Ny {x:Id} (h1:1≤x.b∧x.b≤12) (h2:1≤x.s∧x.s≤2147483647) (h3:x.u<FP):x.named=true:=by
 unfold Id.named fOk
 rw [Eo h1,Eo h2]
 simp [h3]
theorem Nz {n:Nat} (h:1≤n∧n<FP):Ay n=true:=by unfold Ay;simp;exact h
theorem N1 {b s a:Int} {past:List Id} {path:List Nd} (h:Pre b s 1 a past path) {v:Int} (hv:inR v 0 20=true):({base b s 1 a past path with need:=v}:Op).chk=0:=by
 have p1:=h.past_all;have p5:=h.past.1;have p6:=h.path.1;have b1:=Eo h.by_;have b2:=Eo h.sq;have b3:=Eo h.at_;have p7:=Nx h.past.2.2.1;have p8:=h.past.2.2.2
 have p2:=h.path_all;have p3:=h.path_any
 rw [chk_ok]
 refine ⟨h.kind,?_,?_,?_,?_,?_,p8⟩
 · simp [Op.bareB,base,Op.zero,Id.eq,Id.zero,Dy]
 · simp [Op.numsB,base,Op.zero,b1,b2,b3,hv]
 · unfold Op.itemsB;simp only [base,Op.zero];rw [p1,p2];simp
 · unfold Op.longB;simp only [base,Op.zero];rw [p3];simp;and_intros<;>first|exact decide_eq_false (by omega)|exact decide_eq_true (by omega)|omega
 · simp [Op.rowB,base,Op.zero,p7,An]
theorem Um {b s a:Int} {past:List Id} {path:List Nd} (h:Pre b s 8 a past path) {e:Id} (he:e.named=true):({base b s 8 a past path with of:=e}:Op).chk=0:=by
 have p1:=h.past_all;have p5:=h.past.1;have p6:=h.path.1;have b1:=Eo h.by_;have b2:=Eo h.sq;have b3:=Eo h.at_;have p7:=Nx h.past.2.2.1;have p8:=h.past.2.2.2
 obtain rfl:=h.no_path (by decide)
 rw [chk_ok]
 refine ⟨h.kind,?_,?_,?_,?_,?_,p8⟩
 · simp [Op.bareB,base,Op.zero,Id.eq,Id.zero,Co]
 · simp [Op.numsB,base,Op.zero,b1,b2,b3,he]
 · unfold Op.itemsB;simp only [base,Op.zero];rw [p1];simp
 · unfold Op.longB;simp only [base,Op.zero];simp;and_intros<;>first|exact decide_eq_false (by omega)|exact decide_eq_true (by omega)|omega
 · simp [Op.rowB,base,Op.zero,p7,An]
end Oq
section
open Go.RowKit
namespace Oq
structure OpL.own (w:World) (base:Nat) (x:OpL):Prop where
 past:RowAt w base 38 3 x.pastA x.past.length x.pastC (x.past.flatMap Id.cells)
 path:RowAt w base 103 2 x.pathA x.path.length x.pathC (x.path.flatMap NdL.cells)
 nodes:∀y∈x.path,RowAt w base 144 4 y.A y.xs.length y.c (y.xs.flatMap Bx.cells)
 body:RowAt w base 5 1 x.bodyA x.body.length x.bodyC (x.body.map Bv)
 refs:RowAt w base 23 1 x.refsA x.refs.length x.refsC (x.refs.map Uv)
 guards:RowAt w base 3 1 x.guardsA x.guards.length x.guardsC (x.guards.map Iv)
 boxes:RowAt w base 144 4 x.boxesA x.boxes.length x.boxesC (x.boxes.flatMap Bx.cells)
 hist:RowAt w base 106 4 x.histA x.hist.length x.histC (x.hist.flatMap SlL.cells)
 seals:∀y∈x.hist,RowAt w base 5 1 y.A y.y.length y.c (y.y.map Bv)
theorem OpL.own.at {w:World} {base:Nat} {x:OpL} (h:x.own w base):x.at w w.heap.size where
 past:=h.past.sl
 path:=h.path.sl
 nodes y hy:=(h.nodes y hy).sl
 body:=h.body.sl
 refs:=h.refs.sl
 guards:=h.guards.sl
 boxes:=h.boxes.sl
 hist:=h.hist.sl
 seals y hy:=(h.seals y hy).sl
theorem RowAt.nil (w:World) (base:Nat) (t:TypeId) (size:Nat):RowAt w base t size none 0 0 []:=⟨SlAt.nil _ _ _,.inl rfl⟩
def OpL.zero:OpL:=
 {by_:=0,sq:=0,kind:=0,at_:=0,pastA:=none,pastC:=0,past:=[],dev:=0,old:=0,mem:=0,role:=0,pathA:=none,pathC:=0,path:=[],epoch:=⟨0,0,0⟩,n:=0,bodyA:=none,bodyC:=0,body:=[],refsA:=none,refsC:=0,refs:=[],of:=⟨0,0,0⟩,guardsA:=none,guardsC:=0,guards:=[],need:=0,wait:=0,boxesA:=none,boxesC:=0,boxes:=[],pub:=0,histA:=none,histC:=0,hist:=[],r:=0,s:=0}
theorem Un {P:Program} {fn:Func} {p q:Tmp} {ty t:TypeId} {d:TypeDesc} {cs:Array Value} {g:Nat} {tmps:Array Value} {w:World} (h:fn.results=#[.cell p ty,.tmp q])
  (ha:tmps.getD p undef=.pointer (some ⟨g,0,none⟩)) (hb:Blk w g t cs) (hd:(match d with| .struct _| .array _ _=>true|_=>false)=true) (hu:P.underlying ty=some d)
  (hi:(P.info? ty).map (·.size)=some cs.size):(results fn tmps).run P w=.ok (.tuple #[.agg cs,tmps.getD q undef]) w:=by
 have hl:(loadVar ty ⟨g,0,none⟩).run P w=.ok (.agg cs) w:=run_loadVar_row (P:=P) w g t ty cs (0,0) d hb hu (by cases d<;>first|rfl|exact hd) hi
 unfold results
 rw [h]
 have ha':tmps[p]?.getD undef=.pointer (some ⟨g,0,none⟩):=by simpa using ha
 simp [asAddr,ha',hl]
theorem Fp {P:Program} {fn:Func} {R:Ending→World→Prop} {p q:Tmp} {ty t:TypeId} {d:TypeDesc} {cs:Array Value} {g:Nat} {a:Act} {w:World} (h:fn.results=#[.cell p ty,.tmp q])
  (ha:a.tmps.getD p undef=.pointer (some ⟨g,0,none⟩)) (hb:Blk w g t cs) (hd:(match d with| .struct _| .array _ _=>true|_=>false)=true) (hu:P.underlying ty=some d)
  (hi:(P.info? ty).map (·.size)=some cs.size) (hdef:a.defers=[]) (hR:R (.returned (.tuple #[.agg cs,a.tmps.getD q undef])) w):bodyPost P fn R .ret a w:=
 bodyPost_ret (Un h ha hb hd hu hi) hdef hR
end Oq
end
section
open Go.RowKit
attribute [local go_sem ↓] Go.wp_at_zero Go.wp_at_succ
namespace Oq
theorem RowAt.keepT {S:Nat→Prop} {w w':World} {base size n c:Nat} {t:TypeId} {A:Option Addr} {xs:List Value} (h:RowAt w base t size A n c xs) (hf:Fr S w w') (hS:∀k cs fr,w.heap[k]? =some (.cells cs t fr)→¬S k):RowAt w' base t size A n c xs:=by
 refine h.fr hf (fun h0 k hk e=> ?_)
 rcases h.2 with hn|⟨k',cs',fr',rfl,_,hb',_⟩
 · exact h0 hn
 ·
  injection hk with hk
  subst hk
  exact hS _ _ _ hb' e
def Types (S:Nat→Prop) (w:World) (P:TypeId→Prop):Prop:=∀k cs t fr,w.heap[k]? =some (.cells cs t fr)→S k→P t
theorem Types.not {S:Nat→Prop} {w:World} {P:TypeId→Prop} {t:TypeId} (h:Types S w P) (ht:¬P t):∀k cs fr,w.heap[k]? =some (.cells cs t fr)→¬S k:=fun k cs fr hk e=>ht (h k cs t fr hk e)
def Far (t:TypeId):Prop:=t=44∨t=97
theorem Types.one {w:World} {g:Nat} {t:TypeId} {cs:Array Value} (h:Blk w g t cs):Types (One g) w (fun t'=>t'=t):=fun k cs' t' fr hk e=>by
 have e':k=g:=e
 subst e'
 unfold Blk at h
 rw [hk] at h
 injection h with h
 injection h with _ h _
theorem Types.row {w:World} {base size n c:Nat} {t:TypeId} {A:Option Addr} {xs:List Value} (h:Own w base t size A n c xs):Types (fun k=>Ab A=some k) w (fun t'=>t'=t):=fun k cs' t' fr hk e=>by
 rcases h.2 with ⟨hv,_⟩|⟨g,cap,cur,hv,_,hg,_⟩
 ·
  injection hv with hA _ _
  subst hA
  cases e
 ·
  injection hv with hA _ _
  subst hA
  injection e with e
  subst e
  rw [hk] at hg
  injection hg with hg
  injection hg with _ h _
theorem Types.mono {S:Nat→Prop} {w:World} {P Q:TypeId→Prop} (h:Types S w P) (hp:∀t,P t→Q t):Types S w Q:=fun k cs t fr hk e=>hp t (h k cs t fr hk e)
theorem OpL.own.keep {S:Nat→Prop} {w w':World} {base:Nat} {x:OpL} (h:x.own w base) (hf:Fr S w w') (hS:Types S w Far):x.own w' base where
 past:=h.past.keepT hf (hS.not (by unfold Far;decide))
 path:=h.path.keepT hf (hS.not (by unfold Far;decide))
 nodes y hy:=(h.nodes y hy).keepT hf (hS.not (by unfold Far;decide))
 body:=h.body.keepT hf (hS.not (by unfold Far;decide))
 refs:=h.refs.keepT hf (hS.not (by unfold Far;decide))
 guards:=h.guards.keepT hf (hS.not (by unfold Far;decide))
 boxes:=h.boxes.keepT hf (hS.not (by unfold Far;decide))
 hist:=h.hist.keepT hf (hS.not (by unfold Far;decide))
 seals y hy:=(h.seals y hy).keepT hf (hS.not (by unfold Far;decide))
structure Gs (w0 w:World) (B g go:Nat) (L:List Int) (i:Nat) (x:OpL):Prop where
 blk:Blk w go 44 x.cells
 tk:Tk w B g L i
 own:x.own w B
 lo:w0.heap.size≤B∧g<go
 fr:Fr Non w0 w
section
variable {S : Nat → Prop} {w0 w w' : World} {B g go i i' : Nat} {L : List Int} {x : OpL}
theorem Gs.step (h:Gs w0 w B g go L i x) (hf:Fr S w w') (ht:Tk w' B g L i') (hS:Types S w Far) (hn:¬S go) (hl:∀k,S k→w0.heap.size≤k):Gs w0 w' B g go L i' x:=
 ⟨h.blk.fr hf hn,ht,h.own.keep hf hS,h.lo,h.fr.trans hf (fun k hk e=>absurd hk (by have:=hl k e;omega))⟩
theorem Gs.one (h:Gs w0 w B g go L i x) (hf:Fr (One g) w w') (ht:Tk w' B g L i'):Gs w0 w' B g go L i' x:=by
 have htk:=h.tk
 obtain ⟨_,_,hb,_⟩:=htk
 have hlo:=h.lo
 have hB:=h.tk.le
 exact h.step hf ht ((Types.one hb).mono (fun t e=> .inr e)) (by unfold One;omega) (fun k e=>by have e':k=g:=e;omega)
theorem Gs.put (h:Gs w0 w B g go L i x) (j:Nat) (v:Value) (y:OpL) (hy:y.cells=x.cells.setIfInBounds j v) (ho:x.own (w.setCell ⟨go,j,none⟩ v) B→y.own (w.setCell ⟨go,j,none⟩ v) B):Gs w0 (w.setCell ⟨go,j,none⟩ v) B g go L i y:=by
 have hlo:=h.lo
 have hf:=(Fr.refl (One go) w).setOne j v
 have hB:=h.tk.le
 exact ⟨hy▸h.blk.set j v,h.tk.fr hf (by unfold One;omega) (fun k hk e=>by have e':k=go:=e;omega),ho (h.own.keep hf ((Types.one h.blk).mono (fun t e=> .inl e))),h.lo,h.fr.trans hf (fun k hk e=>absurd hk (by have e':k=go:=e;omega))⟩
theorem Gs.dev (h:Gs w0 w B g go L i x) (v:Int):Gs w0 (w.setCell ⟨go,5,none⟩ (.int .i64 v)) B g go L i {x with dev:=v}:=h.put 5 _ _ rfl (fun o=>⟨o.past,o.path,o.nodes,o.body,o.refs,o.guards,o.boxes,o.hist,o.seals⟩)
theorem Gs.old (h:Gs w0 w B g go L i x) (v:Int):Gs w0 (w.setCell ⟨go,6,none⟩ (.int .i64 v)) B g go L i {x with old:=v}:=h.put 6 _ _ rfl (fun o=>⟨o.past,o.path,o.nodes,o.body,o.refs,o.guards,o.boxes,o.hist,o.seals⟩)
theorem Gs.mem (h:Gs w0 w B g go L i x) (v:Int):Gs w0 (w.setCell ⟨go,7,none⟩ (.int .i64 v)) B g go L i {x with mem:=v}:=h.put 7 _ _ rfl (fun o=>⟨o.past,o.path,o.nodes,o.body,o.refs,o.guards,o.boxes,o.hist,o.seals⟩)
theorem Gs.role (h:Gs w0 w B g go L i x) (v:Int):Gs w0 (w.setCell ⟨go,8,none⟩ (.int .i64 v)) B g go L i {x with role:=v}:=h.put 8 _ _ rfl (fun o=>⟨o.past,o.path,o.nodes,o.body,o.refs,o.guards,o.boxes,o.hist,o.seals⟩)
theorem Gs.n (h:Gs w0 w B g go L i x) (v:Int):Gs w0 (w.setCell ⟨go,13,none⟩ (.int .i64 v)) B g go L i {x with n:=v}:=h.put 13 _ _ rfl (fun o=>⟨o.past,o.path,o.nodes,o.body,o.refs,o.guards,o.boxes,o.hist,o.seals⟩)
theorem Gs.need (h:Gs w0 w B g go L i x) (v:Int):Gs w0 (w.setCell ⟨go,20,none⟩ (.int .i64 v)) B g go L i {x with need:=v}:=h.put 20 _ _ rfl (fun o=>⟨o.past,o.path,o.nodes,o.body,o.refs,o.guards,o.boxes,o.hist,o.seals⟩)
theorem Gs.wait (h:Gs w0 w B g go L i x) (v:Int):Gs w0 (w.setCell ⟨go,21,none⟩ (.int .i64 v)) B g go L i {x with wait:=v}:=h.put 21 _ _ rfl (fun o=>⟨o.past,o.path,o.nodes,o.body,o.refs,o.guards,o.boxes,o.hist,o.seals⟩)
theorem Gs.by_ (h:Gs w0 w B g go L i x) (v:Int):Gs w0 (w.setCell ⟨go,0,none⟩ (.int .i64 v)) B g go L i {x with by_:=v}:=h.put 0 _ _ rfl (fun o=>⟨o.past,o.path,o.nodes,o.body,o.refs,o.guards,o.boxes,o.hist,o.seals⟩)
theorem Gs.sq (h:Gs w0 w B g go L i x) (v:Int):Gs w0 (w.setCell ⟨go,1,none⟩ (.int .i64 v)) B g go L i {x with sq:=v}:=h.put 1 _ _ rfl (fun o=>⟨o.past,o.path,o.nodes,o.body,o.refs,o.guards,o.boxes,o.hist,o.seals⟩)
theorem Gs.kind (h:Gs w0 w B g go L i x) (v:Int):Gs w0 (w.setCell ⟨go,2,none⟩ (.int .i64 v)) B g go L i {x with kind:=v}:=h.put 2 _ _ rfl (fun o=>⟨o.past,o.path,o.nodes,o.body,o.refs,o.guards,o.boxes,o.hist,o.seals⟩)
theorem Gs.at_ (h:Gs w0 w B g go L i x) (v:Int):Gs w0 (w.setCell ⟨go,3,none⟩ (.int .i64 v)) B g go L i {x with at_:=v}:=h.put 3 _ _ rfl (fun o=>⟨o.past,o.path,o.nodes,o.body,o.refs,o.guards,o.boxes,o.hist,o.seals⟩)
theorem Gs.pub (h:Gs w0 w B g go L i x) (v:Nat):Gs w0 (w.setCell ⟨go,23,none⟩ (.int .u64 (v:Int))) B g go L i {x with pub:=v}:=h.put 23 _ _ rfl (fun o=>⟨o.past,o.path,o.nodes,o.body,o.refs,o.guards,o.boxes,o.hist,o.seals⟩)
theorem Gs.epoch (h:Gs w0 w B g go L i x) (y:Id):Gs w0 (((w.setCell ⟨go,10,none⟩ (.int .i64 y.b)).setCell ⟨go,11,none⟩ (.int .i64 y.s)).setCell ⟨go,12,none⟩ (.int .u64 (y.u:Int))) B g go L i {x with epoch:=y}:=
 ((h.put 10 (.int .i64 y.b) {x with epoch:=⟨y.b,x.epoch.s,x.epoch.u⟩} rfl (fun o=>⟨o.past,o.path,o.nodes,o.body,o.refs,o.guards,o.boxes,o.hist,o.seals⟩)).put 11 (.int .i64 y.s) {x with epoch:=⟨y.b,y.s,x.epoch.u⟩} rfl (fun o=>⟨o.past,o.path,o.nodes,o.body,o.refs,o.guards,o.boxes,o.hist,o.seals⟩)).put 12 (.int .u64 (y.u:Int)) {x with epoch:=y} rfl (fun o=>⟨o.past,o.path,o.nodes,o.body,o.refs,o.guards,o.boxes,o.hist,o.seals⟩)
theorem Gs.of (h:Gs w0 w B g go L i x) (y:Id):Gs w0 (((w.setCell ⟨go,16,none⟩ (.int .i64 y.b)).setCell ⟨go,17,none⟩ (.int .i64 y.s)).setCell ⟨go,18,none⟩ (.int .u64 (y.u:Int))) B g go L i {x with of:=y}:=
 ((h.put 16 (.int .i64 y.b) {x with of:=⟨y.b,x.of.s,x.of.u⟩} rfl (fun o=>⟨o.past,o.path,o.nodes,o.body,o.refs,o.guards,o.boxes,o.hist,o.seals⟩)).put 17 (.int .i64 y.s) {x with of:=⟨y.b,y.s,x.of.u⟩} rfl (fun o=>⟨o.past,o.path,o.nodes,o.body,o.refs,o.guards,o.boxes,o.hist,o.seals⟩)).put 18 (.int .u64 (y.u:Int)) {x with of:=y} rfl (fun o=>⟨o.past,o.path,o.nodes,o.body,o.refs,o.guards,o.boxes,o.hist,o.seals⟩)
theorem Gs.past (h:Gs w0 w B g go L i x) (l:List Id) (A:Option Addr) (n c:Nat) (hl:l.length=n) (hr:RowAt w B 38 3 A n c (l.flatMap Id.cells)):Gs w0 (w.setCell ⟨go,4,none⟩ (.slice A n c)) B g go L i {x with pastA:=A,pastC:=c,past:=l}:=by
 subst hl
 have hf:=(Fr.refl (One go) w).setOne 4 (.slice A l.length c)
 have ht:=Types.one h.blk
 exact h.put 4 _ _ rfl (fun o=>⟨hr.keepT hf (ht.not (by decide)),o.path,o.nodes,o.body,o.refs,o.guards,o.boxes,o.hist,o.seals⟩)
theorem Gs.body (h:Gs w0 w B g go L i x) (l:List UInt8) (A:Option Addr) (n c:Nat) (hl:l.length=n) (hr:RowAt w B 5 1 A n c (l.map Bv)):Gs w0 (w.setCell ⟨go,14,none⟩ (.slice A n c)) B g go L i {x with bodyA:=A,bodyC:=c,body:=l}:=by
 subst hl
 have hf:=(Fr.refl (One go) w).setOne 14 (.slice A l.length c)
 have ht:=Types.one h.blk
 exact h.put 14 _ _ rfl (fun o=>⟨o.past,o.path,o.nodes,hr.keepT hf (ht.not (by decide)),o.refs,o.guards,o.boxes,o.hist,o.seals⟩)
theorem Gs.refs (h:Gs w0 w B g go L i x) (l:List Nat) (A:Option Addr) (n c:Nat) (hl:l.length=n) (hr:RowAt w B 23 1 A n c (l.map Uv)):Gs w0 (w.setCell ⟨go,15,none⟩ (.slice A n c)) B g go L i {x with refsA:=A,refsC:=c,refs:=l}:=by
 subst hl
 have hf:=(Fr.refl (One go) w).setOne 15 (.slice A l.length c)
 have ht:=Types.one h.blk
 exact h.put 15 _ _ rfl (fun o=>⟨o.past,o.path,o.nodes,o.body,hr.keepT hf (ht.not (by decide)),o.guards,o.boxes,o.hist,o.seals⟩)
theorem Gs.guards (h:Gs w0 w B g go L i x) (l:List Int) (A:Option Addr) (n c:Nat) (hl:l.length=n) (hr:RowAt w B 3 1 A n c (l.map Iv)):Gs w0 (w.setCell ⟨go,19,none⟩ (.slice A n c)) B g go L i {x with guardsA:=A,guardsC:=c,guards:=l}:=by
 subst hl
 have hf:=(Fr.refl (One go) w).setOne 19 (.slice A l.length c)
 have ht:=Types.one h.blk
 exact h.put 19 _ _ rfl (fun o=>⟨o.past,o.path,o.nodes,o.body,o.refs,hr.keepT hf (ht.not (by decide)),o.boxes,o.hist,o.seals⟩)
theorem Gs.boxes (h:Gs w0 w B g go L i x) (l:List Bx) (A:Option Addr) (n c:Nat) (hl:l.length=n) (hr:RowAt w B 144 4 A n c (l.flatMap Bx.cells)):Gs w0 (w.setCell ⟨go,22,none⟩ (.slice A n c)) B g go L i {x with boxesA:=A,boxesC:=c,boxes:=l}:=by
 subst hl
 have hf:=(Fr.refl (One go) w).setOne 22 (.slice A l.length c)
 have ht:=Types.one h.blk
 exact h.put 22 _ _ rfl (fun o=>⟨o.past,o.path,o.nodes,o.body,o.refs,o.guards,hr.keepT hf (ht.not (by decide)),o.hist,o.seals⟩)
theorem Gs.path (h:Gs w0 w B g go L i x) (l:List NdL) (A:Option Addr) (n c:Nat) (hl:l.length=n) (hr:RowAt w B 103 2 A n c (l.flatMap NdL.cells)) (hn:∀y∈l,RowAt w B 144 4 y.A y.xs.length y.c (y.xs.flatMap Bx.cells)):Gs w0 (w.setCell ⟨go,9,none⟩ (.slice A n c)) B g go L i {x with pathA:=A,pathC:=c,path:=l}:=by
 subst hl
 have hf:=(Fr.refl (One go) w).setOne 9 (.slice A l.length c)
 have ht:=Types.one h.blk
 exact h.put 9 _ _ rfl (fun o=>⟨o.past,hr.keepT hf (ht.not (by decide)),fun y hy=>(hn y hy).keepT hf (ht.not (by decide)),o.body,o.refs,o.guards,o.boxes,o.hist,o.seals⟩)
theorem Gs.hist (h:Gs w0 w B g go L i x) (l:List SlL) (A:Option Addr) (n c:Nat) (hl:l.length=n) (hr:RowAt w B 106 4 A n c (l.flatMap SlL.cells)) (hn:∀y∈l,RowAt w B 5 1 y.A y.y.length y.c (y.y.map Bv)):Gs w0 (w.setCell ⟨go,24,none⟩ (.slice A n c)) B g go L i {x with histA:=A,histC:=c,hist:=l}:=by
 subst hl
 have hf:=(Fr.refl (One go) w).setOne 24 (.slice A l.length c)
 have ht:=Types.one h.blk
 exact h.put 24 _ _ rfl (fun o=>⟨o.past,o.path,o.nodes,o.body,o.refs,o.guards,o.boxes,hr.keepT hf (ht.not (by decide)),fun y hy=>(hn y hy).keepT hf (ht.not (by decide))⟩)
end
end Oq
end
end Go.Proofs.YtafonabghnogaaaGreatDoor
