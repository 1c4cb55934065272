/-
  Contracts of the functions that the claim's statement reaches, walked one by one (part 2).
  Conditions: as each theorem says.
-/
import Derived.Test.YtkanjaikgphjfaaGreatDoorProg
import Derived.IntWalk
import Derived.Sort.Grow
import Derived.Maps.OwnSet
import Derived.Maps.Views
import Derived.DeepKeys4
import Derived.Deep.RegionHeld3
import Derived.Deep.Cut
import Derived.Deep.MidRow
import Derived.Laws.BitsAllLaws
import Derived.Laws.StructEq
import Derived.Test.YtkanjaikgphjfaaGreatDoorFkN1
set_option maxRecDepth 100000
set_option maxHeartbeats 16000000
open Bool renaming eq_iff_iff→An6,not_eq_true→Ap7
open Int renaming natCast_pow→Ao7,tdiv_eq_ediv_of_nonneg→Ap4,tmod_eq_emod_of_nonneg→Ap5
open List renaming length_append→Am8,append_assoc→An0,getElem?_eq_getElem→An1,take_of_length_le→An2,mem_of_getElem?→An4,nil_append→An9,flatMap_cons→Ao0,getElem?_toArray→Ao1,getD_eq_getElem?_getD→Ao2,take_succ_eq_append_getElem→Ao4,flatMap_append→Ao5,flatMap_nil→Ap2,getElem?_eq_none→Ap3,mem_of_mem_take→Ap6
open Nat renaming le_refl→Am9,mul_add→An5,zero_add→An8,le_trans→Ao3,lt_of_le_of_lt→Ao6,lt_of_lt_of_le→Ao8,pow_lt_pow_right→Ao9,lt_or_ge→Ap0,add_mul→Ap1
open Go.World renaming size_alloc→An3,drewN→An7
namespace Go.Proofs.YtkanjaikgphjfaaGreatDoor
section
open Go.RowKit
def OutAt (w:World) (B g:Nat) (A:Option Addr) (c:Nat) (bs:List UInt8):Prop:=
 Blk w g 146 #[.slice A bs.length c]∧Own w B 5 1 A bs.length c (bs.map Bv)∧B≤g
section
variable {S : Nat → Prop} {w w' : World} {B g c : Nat} {A : Option Addr} {bs : List UInt8}
theorem OutAt.mk' {n:Nat} {xs:List Value} (hb:Blk w g 146 #[.slice A n c]) (ho:Own w B 5 1 A n c xs) (hB:B≤g) (hx:xs=bs.map Bv):OutAt w B g A c bs:=by
 subst hx;have hl:=ho.len;simp at hl;subst hl;exact ⟨hb,ho,hB⟩
theorem OutAt.ne (h:OutAt w B g A c bs):Ac A≠some g:=h.2.1.ne h.1 (by decide)
theorem OutAt.fr (h:OutAt w B g A c bs) (hf:Fr S w w') (hg:¬S g) (hs:∀k,Ac A=some k→¬S k):OutAt w' B g A c bs:=
 ⟨h.1.fr hf hg,h.2.1.fr hf hs,h.2.2⟩
theorem OutAt.alloc (h:OutAt w B g A c bs) (o:Obj):OutAt (w.alloc o) B g A c bs:=
 h.fr (S:=Non) ((Fr.refl _ _).alloc o) (fun hh=>hh) (fun _ _ hh=>hh)
theorem OutAt.drewN (h:OutAt w B g A c bs) (n:Nat):OutAt (w.drewN n) B g A c bs:=h
theorem OutAt.lt (h:OutAt w B g A c bs):g<w.heap.size:=h.1.lt
theorem OutAt.le (h:OutAt w B g A c bs):B≤g:=h.2.2
theorem OutAt.not (h:OutAt w B g A c bs) {B':Nat} (hB:B'≤B):∀k,k<B'→¬RS g A k:=RS.not h.2.1 hB (Ao3 hB h.2.2)
theorem OutAt.far (h:OutAt w B g A c bs) {g':Nat} {t:TypeId} {cs:Array Value} (hb:Blk w g' t cs) (h1:t≠146) (h2:t≠5):¬RS g A g':=by
 rintro (e|e)
 · exact (hb.ne h.1 h1) e
 · exact h.2.1.ne hb (Ne.symm h2) e
end
def Dd (B g:Nat) (A:Option Addr) (bs:List UInt8) (w:World) (r:Ending) (w':World):Prop:=
 r=.returned (.tuple #[])∧∃A' c',OutAt w' B g A' c' bs∧Au g w A w' A'
theorem T5 (m:Nat):bits BinOp.or IntKind.u8 ((m:Int)%256) 128=((m%128+128:Nat):Int):=by
 have e1:(m:Int)%256=((m%256:Nat):Int):=by omega
 rw [e1,show (128:Int)=((128:Nat):Int) from rfl,u8_or_nat _ _ (by omega) (by omega)];congr 1;have h1:m%256=m%128+(m/128%2)*128:=by omega
 rcases Nat.mod_two_eq_zero_or_one (m/128) with h|h
 ·
  rw [h1,h,Nat.zero_mul,Nat.add_zero,Nat.or_comm,nat_join 7 _ _ (by omega) (by omega)];omega
 ·
  rw [h1,h,Nat.one_mul];have h2:m%128+128=128|||m%128:=by rw [nat_join 7 _ _ (by omega) (by omega)];omega
  rw [h2,Nat.or_assoc,Nat.or_comm (m%128) 128,← Nat.or_assoc,Nat.or_self]
theorem Dz (B g:Nat) (A0:Option Addr) (c0:Nat) (bs:List UInt8) (n:Nat) (w:World) (ho:OutAt w B g A0 c0 bs) (hn:n<18446744073709551616) (hl:bs.length≤1099511627776):
  Calls Tryz.prog 88 #[.pointer (some ⟨g,0,none⟩),.int .u64 (n:Int)] w (Dd B g A0 (bs++Pk.num n) w):=by
 go_enter Tryz.func88,Tryz.ntmps88;go_wp2
 go_loopw [1] (fun v wr=>∃(m f:Nat) (L:List UInt8) (A:Option Addr) (c:Nat),v=.int .u64 (m:Int)∧m<2*128^f∧Hid (bs++Pk.num n=L++Pk.numF (f+1) m)∧L.length+f≤bs.length+9∧m<18446744073709551616∧OutAt wr B g A c L∧Au g w A0 wr A) (fun v _=>(intOf v).toNat)
 case atStart=>exact ⟨n,9,bs,A0,c0,rfl,by simpa using hn,rfl,by omega,hn,ho,Au.refl _ _ _⟩
 case round=>
  obtain ⟨m,f,L,A,c,rfl,hm,hpre,hlen,hm64,ho',hf⟩:=hrel;have hne:=ho'.ne;obtain ⟨hb,hown,hB⟩:=ho';have h0:=hb.cell 0;have f0:=hb.frozen 0;have hg:=hb.lt;have hBs:B≤wr.heap.size:=by omega
  by_cases hlt:m<128
  ·
   go_wp2_with (first|(at_builtin;go_loud (refine Az (.tmp 24) (.tmp 27) 60 rfl rfl rfl rfl slB (hown.alloc _) (Rd.one _ _ _) (by simp [Value.oneCell']) (by omega) (by omega) (by simp;omega) ?_);intro A1 c1 w1 hown1 hf1 hat1;have hb1:=(hb.alloc (.cells #[.int .u8 (m:Int)] 5)).fr hf1 hne;have h1:=hb1.cell 0;have q1:=hb1.frozen 0))
   go_end0
   refine ⟨rfl,A1,c1,OutAt.mk' (hb1.set 0 (.slice A1 (L.length+1) c1)) (hown1.setOne (hown1.ne hb1 (by decide))) hB ?_,((hf.alloc (.cells #[.int .u8 (m:Int)] 5)).app hf1 hat1).set 0 _⟩;rw [hpre.out];simp [Pk.numF,hlt,Bv];omega
  ·
   have hmore:=Lib.hid (T5 m);go_wp2_with (first|(at_builtin;go_loud (refine Az (.tmp 10) (.tmp 14) 60 rfl rfl rfl rfl slB (hown.alloc _) (Rd.one _ _ _) (by simp [Value.oneCell']) (by omega) (by omega) (by simp;omega) ?_);intro A1 c1 w1 hown1 hf1 hat1;have hb1:=(hb.alloc (.cells #[.int .u8 (bits BinOp.or IntKind.u8 ((m:Int)%256) 128)] 5)).fr hf1 hne;have h1:=hb1.cell 0;have q1:=hb1.frozen 0));go_roundw
   case rel=>
    have hf0:f≠0:=by rintro rfl;omega
    obtain ⟨f',rfl⟩:∃f',f=f'+1:=⟨f-1,by omega⟩
    refine ⟨m/128,f',L++[UInt8.ofNat (m%128+128)],A1,c1,by go_num,?_,?_,?_,by omega,OutAt.mk' (hb1.set 0 (.slice A1 (L.length+1) c1)) (hown1.setOne (hown1.ne hb1 (by decide))) hB ?_,
     ((hf.alloc (.cells #[.int .u8 (bits BinOp.or IntKind.u8 ((m:Int)%256) 128)] 5)).app hf1 hat1).set 0 _⟩
    · rw [Nat.div_lt_iff_lt_mul (by omega)];rw [Nat.pow_succ] at hm;omega
    ·
     show _=_;rw [hpre.out];conv=>lhs;unfold Pk.numF
     rw [if_neg hlt];simp
    · simp;omega
    ·
     rw [hmore.out];have:=Pk.tn (m%128+128) (by omega);simp [Bv];omega
   case measure=>simp [intOf];omega
theorem T6 (n:Int) (h0: -9223372036854775808≤n) (h1:n≤9223372036854775807):
  bits BinOp.xor IntKind.u64 (IntKind.u64.wrap (IntKind.u64.wrap n*2)) (IntKind.u64.wrap (n/9223372036854775808))=(Pk.fold n:Int):=by
 unfold Pk.fold
 by_cases hn:n<0
 ·
  rw [if_pos hn];obtain ⟨k,hk⟩:∃k:Nat,n= -((k:Int)+1):=⟨(-n-1).toNat,by omega⟩;subst hk;have e1:IntKind.u64.wrap (IntKind.u64.wrap (-((k:Int)+1))*2)=((18446744073709551614-2*k:Nat):Int):=by rw [IntKind.wrap_u64,IntKind.wrap_u64];omega
  have e2:IntKind.u64.wrap (-((k:Int)+1)/9223372036854775808)=((18446744073709551615:Nat):Int):=by rw [IntKind.wrap_u64];omega
  rw [e1,e2,u64_xor_nat _ _ (by omega) (by omega)]
  have e3:(18446744073709551614-2*k)^^^18446744073709551615=2*k+1:=by
   have h:=BitVec.toNat_not (x:=BitVec.ofNat 64 (18446744073709551614-2*k));rw [← BitVec.xor_allOnes,BitVec.toNat_xor,BitVec.toNat_allOnes,BitVec.toNat_ofNat,Nat.mod_eq_of_lt (by omega)] at h;rw [show (18446744073709551615:Nat)=2^64-1 from rfl,h];omega
  rw [e3];omega
 ·
  rw [if_neg hn];have e1:IntKind.u64.wrap (IntKind.u64.wrap n*2)=(((2*n).toNat:Nat):Int):=by rw [IntKind.wrap_u64,IntKind.wrap_u64];omega
  have e2:IntKind.u64.wrap (n/9223372036854775808)=((0:Nat):Int):=by rw [IntKind.wrap_u64];omega
  rw [e1,e2,u64_xor_nat _ _ (by omega) (by omega),Nat.xor_zero]
theorem T7 (n:Int) (w:World) (h0: -9223372036854775808≤n) (h1:n≤9223372036854775807):
  Calls Tryz.prog 126 #[.int .i64 n] w fun e w'=>e=.returned (.int .u64 (Pk.fold n:Int))∧w=w':=by
 have hx:=Lib.hid (T6 n h0 h1);go_enter Tryz.func126,Tryz.ntmps126;go_wp2
 go_ret
 exact ⟨congrArg (fun z=>Ending.returned (.int .u64 z)) hx.out,rfl⟩
theorem Ds (B g:Nat) (A:Option Addr) (c:Nat) (bs:List UInt8) (n:Int) (w:World) (ho:OutAt w B g A c bs) (h0: -9223372036854775808≤n) (h1:n≤9223372036854775807) (hl:bs.length≤1099511627776):
  Calls Tryz.prog 86 #[.pointer (some ⟨g,0,none⟩),.int .i64 n] w (Dd B g A (bs++Pk.int n) w):=by
 go_enter Tryz.func86,Tryz.ntmps86;go_wp2_with (fail);refine (T7 n _ h0 h1).mono ?_;rintro _ w1 ⟨rfl,rfl⟩;go_wp2_with (fail);refine (Dz B g A c bs (Pk.fold n) _ ho (Pk.fold_lt h0 h1) hl).mono ?_;rintro _ w1 ⟨rfl,A1,c1,ho1,hf1⟩;go_wp2
 go_end0
 exact ⟨rfl,A1,c1,ho1,hf1⟩
theorem H7 (B g:Nat) (A:Option Addr) (c:Nat) (bs:List UInt8) (b s:Int) (u:Nat) (w:World) (ho:OutAt w B g A c bs) (b0: -9223372036854775808≤b) (b1:b≤9223372036854775807)
  (s0: -9223372036854775808≤s) (s1:s≤9223372036854775807) (hu:u<18446744073709551616) (hl:bs.length≤1099511627700):
  Calls Tryz.prog 90 #[.pointer (some ⟨g,0,none⟩),.agg #[.int .i64 b,.int .i64 s,.int .u64 (u:Int)]] w (Dd B g A (bs++Pk.ident b s u) w):=by
 have hb0:=Blk.new w 41 #[.int .i64 b,.int .i64 s,.int .u64 (u:Int)];have ho0:=ho.alloc (.cells #[.int .i64 b,.int .i64 s,.int .u64 (u:Int)] 41);have l1:=Pk.int_len b;have l2:=Pk.int_len s;go_enter Tryz.func90,Tryz.ntmps90;go_wp2_with (fail);refine (Ds B g A c bs b _ ho0 b0 b1 (by omega)).mono ?_;rintro _ w1 ⟨rfl,A1,c1,ho1,hf1⟩;have hb1:=hb0.fr hf1.fr (ho0.far hb0 (by decide) (by decide));have h1:=hb1.cell 1;go_wp2_with (fail);refine (Ds B g A1 c1 _ s _ ho1 s0 s1 (by simp;omega)).mono ?_;rintro _ w2 ⟨rfl,A2,c2,ho2,hf2⟩;have hb2:=hb1.fr hf2.fr (ho1.far hb1 (by decide) (by decide));have h2:=hb2.cell 2;go_wp2_with (fail);refine (Dz B g A2 c2 _ u _ ho2 hu (by simp;omega)).mono ?_;rintro _ w3 ⟨rfl,A3,c3,ho3,hf3⟩;go_wp2
 go_end0
 refine ⟨rfl,A3,c3,?_,(((Au.refl g w A).alloc _).trans hf1).trans (hf2.trans hf3)⟩;simpa [Pk.ident] using ho3
theorem N0 (B g:Nat) (A:Option Addr) (c:Nat) (bs l:List UInt8) (w:World) (ho:OutAt w B g A c bs) (hl:bs.length+l.length≤1099511627700):
  Calls Tryz.prog 94 #[.pointer (some ⟨g,0,none⟩),.string (str l)] w (Dd B g A (bs++Pk.text l) w):=by
 have hs:=Eg l;have hil:=Pk.int_len (l.length:Int);go_enter Tryz.func94,Tryz.ntmps94;go_wp2_with (fail);refine (Ds B g A c bs _ _ ho (by omega) (by omega) (by omega)).mono ?_;rintro _ w1 ⟨rfl,A1,c1,ho1,hf1⟩;clear hs;generalize hL:bs++Pk.int (l.length:Int)=L at ho1;have hL':=Lib.hid hL;have hll:L.length≤bs.length+10:=by rw [← hL];simp;omega
 clear hL;have hne:=ho1.ne;obtain ⟨hb,hown,hB⟩:=ho1;have h0:=hb.cell 0;have f0:=hb.frozen 0;have hBs:B≤w1.heap.size:=Ao3 hB (Nat.le_of_lt hb.lt);go_wp2_with (first|(at_builtin;go_loud (refine Nb (.tmp 12) (.tmp 13) 60 9 rfl rfl rfl rfl slB Tryz.underlying9 hown (by omega) (by omega) ?_);intro A2 c2 w2 hown2 hf2 hat2;have hb2:=hb.fr hf2 hne;have h2:=hb2.cell 0;have q2:=hb2.frozen 0))
 go_end0
 refine ⟨rfl,A2,c2,OutAt.mk' (hb2.set 0 _) (hown2.setOne (hown2.ne hb2 (by decide))) hB ?_,(hf1.app hf2 hat2).set 0 _⟩;rw [← List.map_append,← hL'.out];simp [Pk.text]
theorem Ki (B g:Nat) (A:Option Addr) (c:Nat) (bs:List UInt8) (w:World) (ho:OutAt w B g A c bs) (hl:bs.length≤1099511627776):
  Calls Tryz.prog 50 #[.pointer (some ⟨g,0,none⟩)] w (NewB w bs):=by
 obtain ⟨hb,hown,hB⟩:=ho;have h0:=hb.cell 0;have hnil:=Own.nil w w.heap.size 5 1;go_enter Tryz.func50,Tryz.ntmps50;go_wp2_with (first|(at_builtin;go_loud (refine Az (.const (.slice none 0 0)) (.tmp 6) 60 rfl rfl rfl rfl slB hnil hown.rd (Gv _) (by omega) (by omega) (Am9 _) ?_);intro A2 c2 w2 hown2 hf2 hat2))
 go_ret
 rw [An8,An9] at hown2;exact ⟨A2,c2,by rw [← An8 bs.length];rfl,hown2,hf2.mono (fun k _ hk=>by cases hk)⟩
section
variable {S : Nat → Prop} {w w' : World} {base g n c : Nat} {A : Option Addr} {bs : List UInt8}
end
end
section
open Go.RowKit
attribute [local go_sem ↓] Go.wp_at_zero Go.wp_at_succ
namespace Oq
def OpBlk (w:World) (g:Nat):Prop:=∃cs,Blk w g 67 cs∧cs.size=27
theorem OpBlk.cell {w:World} {g:Nat} (h:OpBlk w g) (i:Nat) (hi:i<27):∃v,w.cell? ⟨g,i,none⟩=some v:=by
 obtain ⟨cs,hb,hs⟩:=h;rw [hb.cell i];exact ⟨cs[i],Array.getElem?_eq_getElem (by omega)⟩
theorem OpBlk.frozen {w:World} {g:Nat} (h:OpBlk w g) (i:Nat):w.frozen? ⟨g,i,none⟩=false:=by
 obtain ⟨cs,hb,_⟩:=h;exact hb.frozen i
theorem OpBlk.set {w:World} {g:Nat} (h:OpBlk w g) (i:Nat) (u:Value):OpBlk (w.setCell ⟨g,i,none⟩ u) g:=by
 obtain ⟨cs,hb,hs⟩:=h;exact ⟨_,hb.set i u,by simp [hs]⟩
theorem OpBlk.fr {S:Nat→Prop} {w w':World} {g:Nat} (h:OpBlk w g) (hf:Fr S w w') (hg:¬S g):OpBlk w' g:=by
 obtain ⟨cs,hb,hs⟩:=h;exact ⟨cs,hb.fr hf hg,hs⟩
theorem T8 (p v:Value):Instr.storeAt 3 p v=stS 3 p v:=rfl
theorem T9 (p v:Value):Instr.storeAt 39 p v=stS 39 p v:=rfl
theorem Ua (p v:Value):Instr.storeAt 41 p v=stS 41 p v:=rfl
theorem Ub (p v:Value):Instr.storeAt 65 p v=stS 65 p v:=rfl
theorem Uc (p v:Value):Instr.storeAt 60 p v=stS 60 p v:=rfl
theorem Ud (p v:Value):Instr.storeAt 61 p v=stS 61 p v:=rfl
theorem Ue (p v:Value):Instr.storeAt 22 p v=stS 22 p v:=rfl
theorem Uf (p v:Value):Instr.storeAt 62 p v=stS 62 p v:=rfl
theorem Dm {α:Type} (enc:α→List UInt8) (l:List α) {k:Nat} {x:α} (h:l[k]? =some x):(l.take (k+1)).flatMap enc=(l.take k).flatMap enc++enc x:=by
 obtain ⟨hk,rfl⟩:=List.getElem?_eq_some_iff.1 h;rw [Ao4 hk,Ao5,Ao0,Ap2,List.append_nil]
theorem Gi {α:Type} {enc:α→List UInt8} {K:Nat} (l:List α) (h:∀x∈l,(enc x).length≤K):(l.flatMap enc).length≤K*l.length:=by
 induction l with
 |nil=>simp
 |cons x l ih=>
  have h1:=h x (by simp);have h2:=ih (fun y hy=>h y (by simp [hy]));rw [Ao0,Am8,List.length_cons,An5];omega
theorem C7 {α:Type} {enc:α→List UInt8} {K:Nat} (l:List α) (h:∀x∈l,(enc x).length≤K):(lst enc l).length≤10+K*l.length:=by
 unfold lst;rw [Am8];have h1:=Pk.int_len l.length;have h2:=Gi l h;omega
theorem Id.bytes_len (x:Id):x.bytes.length≤30:=Pk.ident_len _ _ _
theorem Bx.bytes_len (x:Bx):x.bytes.length≤40:=by
 unfold Bx.bytes;simp only [Am8];have h1:=Pk.num_len x.t;have h2:=Pk.num_len x.e;have h3:=Pk.num_len x.y;have h4:=Pk.num_len x.g;omega
theorem Nd.bytes_len (x:Nd) (h:x.ok):x.bytes.length≤40020:=by
 unfold Nd.bytes;rw [Am8];have h1:=Pk.num_len x.p;have h2:=C7 x.xs (fun y _=>Bx.bytes_len y);have h3:=h.2.1;omega
theorem Sl.bytes_len (x:Sl) (h:x.y.length≤1000000):x.bytes.length≤1000040:=by
 unfold Sl.bytes;rw [Am8];have h1:=Id.bytes_len x.f;have h2:=Pk.text_len x.y;omega
theorem Dn {α:Type} {f:α→List Value} {size:Nat} {w:World} {B n:Nat} {A:Option Addr} {l:List α} (hlen:∀x,(f x).length=size) (hs:0<size) (h:Rd w B size A n (l.flatMap f)) {k:Nat} {o:α} (hk:l[k]? =some o):
  ∃b off,A=some ⟨b,off,none⟩∧b<B∧∀j,j<size→∀u,(f o)[j]? =some u→w.cell? ⟨b,off+k*size+j,none⟩=some u:=by
 have hl:=h.1;rw [Fp hlen] at hl;have hkl:=(List.getElem?_eq_some_iff.1 hk).1;have hle:l.length=n:=Nat.eq_of_mul_eq_mul_right hs hl;obtain ⟨b,off,e,hb,hc⟩:=h.cells (k:=k) (by omega);exact ⟨b,off,e,hb,fun j hj u hu=>hc j hj u (by rw [Fo (f:=f) hlen l k j o hk hj];exact hu)⟩
theorem Id.at {w:World} {B n:Nat} {A:Option Addr} {l:List Id} (h:Rd w B 3 A n (l.flatMap Id.cells)) {k:Nat} {o:Id} (hk:l[k]? =some o):
  ∃b off,A=some ⟨b,off,none⟩∧b<B∧w.cell? ⟨b,off+k*3,none⟩=some (.int .i64 o.b)∧w.cell? ⟨b,off+k*3+1,none⟩=some (.int .i64 o.s)∧w.cell? ⟨b,off+k*3+2,none⟩=some (.int .u64 (o.u:Int)):=by
 obtain ⟨b,off,e,hb,hc⟩:=Dn (f:=Id.cells) (fun _=>rfl) (by omega) h hk;exact ⟨b,off,e,hb,hc 0 (by omega) _ rfl,hc 1 (by omega) _ rfl,hc 2 (by omega) _ rfl⟩
theorem Bx.at {w:World} {B n:Nat} {A:Option Addr} {l:List Bx} (h:Rd w B 4 A n (l.flatMap Bx.cells)) {k:Nat} {o:Bx} (hk:l[k]? =some o):
  ∃b off,A=some ⟨b,off,none⟩∧b<B∧w.cell? ⟨b,off+k*4,none⟩=some (.int .u64 (o.t:Int))∧w.cell? ⟨b,off+k*4+1,none⟩=some (.int .u64 (o.e:Int))∧w.cell? ⟨b,off+k*4+2,none⟩=some (.int .u64 (o.y:Int))∧w.cell? ⟨b,off+k*4+3,none⟩=some (.int .u64 (o.g:Int)):=by
 obtain ⟨b,off,e,hb,hc⟩:=Dn (f:=Bx.cells) (fun _=>rfl) (by omega) h hk;exact ⟨b,off,e,hb,hc 0 (by omega) _ rfl,hc 1 (by omega) _ rfl,hc 2 (by omega) _ rfl,hc 3 (by omega) _ rfl⟩
theorem NdL.el {w:World} {B n:Nat} {A:Option Addr} {l:List NdL} (h:Rd w B 2 A n (l.flatMap NdL.cells)) {k:Nat} {o:NdL} (hk:l[k]? =some o):
  ∃b off,A=some ⟨b,off,none⟩∧b<B∧w.cell? ⟨b,off+k*2,none⟩=some (.int .u64 (o.p:Int))∧w.cell? ⟨b,off+k*2+1,none⟩=some (.slice o.A o.xs.length o.c):=by
 obtain ⟨b,off,e,hb,hc⟩:=Dn (f:=NdL.cells) (fun _=>rfl) (by omega) h hk;exact ⟨b,off,e,hb,hc 0 (by omega) _ rfl,hc 1 (by omega) _ rfl⟩
theorem SlL.el {w:World} {B n:Nat} {A:Option Addr} {l:List SlL} (h:Rd w B 4 A n (l.flatMap SlL.cells)) {k:Nat} {o:SlL} (hk:l[k]? =some o):
  ∃b off,A=some ⟨b,off,none⟩∧b<B∧w.cell? ⟨b,off+k*4,none⟩=some (.int .i64 o.f.b)∧w.cell? ⟨b,off+k*4+1,none⟩=some (.int .i64 o.f.s)∧w.cell? ⟨b,off+k*4+2,none⟩=some (.int .u64 (o.f.u:Int))∧w.cell? ⟨b,off+k*4+3,none⟩=some (.slice o.A o.y.length o.c):=by
 obtain ⟨b,off,e,hb,hc⟩:=Dn (f:=SlL.cells) (fun _=>rfl) (by omega) h hk;exact ⟨b,off,e,hb,hc 0 (by omega) _ rfl,hc 1 (by omega) _ rfl,hc 2 (by omega) _ rfl,hc 3 (by omega) _ rfl⟩
theorem H8 {α:Type} {f:α→Value} {w:World} {B n:Nat} {A:Option Addr} {l:List α} (h:Rd w B 1 A n (l.map f)) {k:Nat} {o:α} (hk:l[k]? =some o):
  ∃b off,A=some ⟨b,off,none⟩∧b<B∧w.cell? ⟨b,off+k,none⟩=some (f o):=by
 have hkl:=(List.getElem?_eq_some_iff.1 hk).1;have hl:=h.1;simp at hl;obtain ⟨b,off,u,e,hb,hx,hc⟩:=h.at (k:=k) (by omega);rw [List.getElem?_map,hk] at hx;injection hx with hx
 exact ⟨b,off,e,hb,by rw [hc,← hx]⟩
theorem Ug (B g:Nat) (A0:Option Addr) (c0:Nat) (bs:List UInt8) (l:List Id) (Al:Option Addr) (n cl:Nat) (w:World) (ho:OutAt w B g A0 c0 bs) (hn:Hid (l.length=n)) (hok:∀x∈l,x.ok)
  (hr:Rd w B 3 Al n (l.flatMap Id.cells)) (hl:bs.length+10+30*n≤1099511627690):
  Calls Tryz.prog 89 #[.pointer (some ⟨g,0,none⟩),.slice Al n cl,.func (.func 90) #[.pointer (some ⟨g,0,none⟩)] #[]] w (Dd B g A0 (bs++lst Id.bytes l) w):=by
 go_enter Tryz.func89,Tryz.ntmps89;go_wp2_with (fail);refine (Ds B g A0 c0 bs (n:Int) _ ho (by omega) (by omega) (by omega)).mono ?_;rintro _ w1 ⟨rfl,A1,c1,ho1,hst1⟩;have hil:=Pk.int_len (n:Int);go_wp2
 go_loopw [14] (fun v wr=>∃(i:Nat) (A:Option Addr) (c:Nat) (D:List UInt8),v=.int .i64 (i:Int)∧i≤n∧Hid (D=bs++Pk.int (n:Int)++(l.take i).flatMap Id.bytes)∧D.length≤bs.length+10+30*i∧OutAt wr B g A c D∧Au g w A0 wr A) (fun v _=>n-(intOf v).toNat)
 case atStart=>exact ⟨0,A1,c1,_,rfl,by omega,by show _=_;simp,by simp;omega,ho1,hst1⟩
 case round=>
  obtain ⟨i,A,c,D,rfl,hin,hD,hDl,hoi,hst⟩:=hrel
  by_cases hlt:i<n
  ·
   obtain ⟨x,hx⟩:∃x,l[i]? =some x:=⟨_,An1 (by rw [hn.out];exact hlt)⟩;have hxo:=hok x (An4 hx);obtain ⟨⟨x0,x1⟩,⟨x2,x3⟩,x4⟩:=hxo;obtain ⟨b,off,rfl,hb,k0,k1,k2⟩:=Id.at (hr.fr hst.fr (ho.not (Am9 _))) hx;have hxl:=Id.bytes_len x;have hx':=Lib.hid hx;clear hx;go_wp2_with (fail);refine (H7 B g A c D x.b x.s x.u _ (hoi.alloc (.cells x.V 41)) x0 x1 x2 x3 x4 (by omega)).mono ?_;rw [show Pk.ident x.b x.s x.u=x.bytes from rfl];rintro _ w2 ⟨rfl,A2,c2,ho2,hs2⟩;go_wp2;go_roundw
   case rel=>
    refine ⟨i+1,A2,c2,_,by go_num,by omega,?_,by rw [Am8,An5];omega,ho2,(hst.alloc (.cells x.V 41)).trans hs2⟩;show _=_;rw [hD.out,Dm _ l hx'.out,← An0]
   case measure=>simp [intOf];omega
  ·
   have hi:i=n:=by omega
   subst hi;go_wp2
   go_end0
   refine ⟨rfl,A,c,?_,hst⟩;have e:bs++lst Id.bytes l=D:=by rw [hD.out,An2 (by rw [hn.out];omega),An0];unfold lst;rw [hn.out]
   rw [e];exact hoi
theorem Uh (B g:Nat) (A0:Option Addr) (c0:Nat) (bs:List UInt8) (l:List Nat) (Al:Option Addr) (n cl:Nat) (w:World) (ho:OutAt w B g A0 c0 bs) (hn:Hid (l.length=n)) (hok:∀x∈l,U64 x)
  (hr:Rd w B 1 Al n (l.map Uv)) (hl:bs.length+10+10*n≤1099511627690):
  Calls Tryz.prog 95 #[.pointer (some ⟨g,0,none⟩),.slice Al n cl,.func (.func 88) #[.pointer (some ⟨g,0,none⟩)] #[]] w (Dd B g A0 (bs++lst Pk.num l) w):=by
 go_enter Tryz.func95,Tryz.ntmps95;go_wp2_with (fail);refine (Ds B g A0 c0 bs (n:Int) _ ho (by omega) (by omega) (by omega)).mono ?_;rintro _ w1 ⟨rfl,A1,c1,ho1,hst1⟩;have hil:=Pk.int_len (n:Int);go_wp2
 go_loopw [14] (fun v wr=>∃(i:Nat) (A:Option Addr) (c:Nat) (D:List UInt8),v=.int .i64 (i:Int)∧i≤n∧Hid (D=bs++Pk.int (n:Int)++(l.take i).flatMap Pk.num)∧D.length≤bs.length+10+10*i∧OutAt wr B g A c D∧Au g w A0 wr A) (fun v _=>n-(intOf v).toNat)
 case atStart=>exact ⟨0,A1,c1,_,rfl,by omega,by show _=_;simp,by simp;omega,ho1,hst1⟩
 case round=>
  obtain ⟨i,A,c,D,rfl,hin,hD,hDl,hoi,hst⟩:=hrel
  by_cases hlt:i<n
  ·
   obtain ⟨x,hx⟩:∃x,l[i]? =some x:=⟨_,An1 (by rw [hn.out];exact hlt)⟩;have hxo:=hok x (An4 hx);obtain ⟨b,off,rfl,hb,k0⟩:=H8 (hr.fr hst.fr (ho.not (Am9 _))) hx;unfold Uv at k0;have hxl:=Pk.num_len x;have hx':=Lib.hid hx;clear hx;go_wp2_with (fail);refine (Dz B g A c D x _ hoi hxo (by omega)).mono ?_;rintro _ w2 ⟨rfl,A2,c2,ho2,hs2⟩;go_wp2;go_roundw
   case rel=>
    refine ⟨i+1,A2,c2,_,by go_num,by omega,?_,by rw [Am8,An5];omega,ho2,hst.trans hs2⟩;show _=_;rw [hD.out,Dm _ l hx'.out,← An0]
   case measure=>simp [intOf];omega
  ·
   have hi:i=n:=by omega
   subst hi;go_wp2
   go_end0
   refine ⟨rfl,A,c,?_,hst⟩;have e:bs++lst Pk.num l=D:=by rw [hD.out,An2 (by rw [hn.out];omega),An0];unfold lst;rw [hn.out]
   rw [e];exact hoi
theorem Ui (B g:Nat) (A0:Option Addr) (c0:Nat) (bs:List UInt8) (l:List Int) (Al:Option Addr) (n cl:Nat) (w:World) (ho:OutAt w B g A0 c0 bs) (hn:Hid (l.length=n)) (hok:∀x∈l,I64 x)
  (hr:Rd w B 1 Al n (l.map Iv)) (hl:bs.length+10+10*n≤1099511627690):
  Calls Tryz.prog 96 #[.pointer (some ⟨g,0,none⟩),.slice Al n cl,.func (.func 86) #[.pointer (some ⟨g,0,none⟩)] #[]] w (Dd B g A0 (bs++lst Pk.int l) w):=by
 go_enter Tryz.func96,Tryz.ntmps96;go_wp2_with (fail);refine (Ds B g A0 c0 bs (n:Int) _ ho (by omega) (by omega) (by omega)).mono ?_;rintro _ w1 ⟨rfl,A1,c1,ho1,hst1⟩;have hil:=Pk.int_len (n:Int);go_wp2
 go_loopw [14] (fun v wr=>∃(i:Nat) (A:Option Addr) (c:Nat) (D:List UInt8),v=.int .i64 (i:Int)∧i≤n∧Hid (D=bs++Pk.int (n:Int)++(l.take i).flatMap Pk.int)∧D.length≤bs.length+10+10*i∧OutAt wr B g A c D∧Au g w A0 wr A) (fun v _=>n-(intOf v).toNat)
 case atStart=>exact ⟨0,A1,c1,_,rfl,by omega,by show _=_;simp,by simp;omega,ho1,hst1⟩
 case round=>
  obtain ⟨i,A,c,D,rfl,hin,hD,hDl,hoi,hst⟩:=hrel
  by_cases hlt:i<n
  ·
   obtain ⟨x,hx⟩:∃x,l[i]? =some x:=⟨_,An1 (by rw [hn.out];exact hlt)⟩;have hxo:=hok x (An4 hx);obtain ⟨b,off,rfl,hb,k0⟩:=H8 (hr.fr hst.fr (ho.not (Am9 _))) hx;unfold Iv at k0;have hxl:=Pk.int_len x;have hx':=Lib.hid hx;clear hx;go_wp2_with (fail);refine (Ds B g A c D x _ hoi hxo.1 hxo.2 (by omega)).mono ?_;rintro _ w2 ⟨rfl,A2,c2,ho2,hs2⟩;go_wp2;go_roundw
   case rel=>
    refine ⟨i+1,A2,c2,_,by go_num,by omega,?_,by rw [Am8,An5];omega,ho2,hst.trans hs2⟩;show _=_;rw [hD.out,Dm _ l hx'.out,← An0]
   case measure=>simp [intOf];omega
  ·
   have hi:i=n:=by omega
   subst hi;go_wp2
   go_end0
   refine ⟨rfl,A,c,?_,hst⟩;have e:bs++lst Pk.int l=D:=by rw [hD.out,An2 (by rw [hn.out];omega),An0];unfold lst;rw [hn.out]
   rw [e];exact hoi
theorem Uj (B g gp:Nat) (A:Option Addr) (c:Nat) (bs:List UInt8) (x:Bx) (w:World) (ho:OutAt w B g A c bs) (hp:Blk w gp 105 #[.pointer (some ⟨g,0,none⟩)]) (hx:x.ok) (hl:bs.length≤1099511627700):
  Calls Tryz.prog 87 #[.agg #[.int .u64 (x.t:Int),.int .u64 (x.e:Int),.int .u64 (x.y:Int),.int .u64 (x.g:Int)],.pointer (some ⟨gp,0,none⟩)] w (Dd B g A (bs++x.bytes) w):=by
 obtain ⟨x0,x1,x2,x3⟩:=hx;have l1:=Pk.num_len x.t;have l2:=Pk.num_len x.e;have l3:=Pk.num_len x.y;have aa:=Blk.new w 134 #[.int .u64 (x.t:Int),.int .u64 (x.e:Int),.int .u64 (x.y:Int),.int .u64 (x.g:Int)];have k0:=aa.cell 0;have k1:=aa.cell 1;have k2:=aa.cell 2;have k3:=aa.cell 3;have ag:=(ho.alloc (.cells #[.int .u64 (x.t:Int),.int .u64 (x.e:Int),.int .u64 (x.y:Int),.int .u64 (x.g:Int)] 134)).alloc (.cells #[.int .u64 (x.t:Int),.int .u64 (x.e:Int),.int .u64 (x.y:Int),.int .u64 (x.g:Int)] 39);have al:=(hp.alloc (.cells #[.int .u64 (x.t:Int),.int .u64 (x.e:Int),.int .u64 (x.y:Int),.int .u64 (x.g:Int)] 134)).alloc (.cells #[.int .u64 (x.t:Int),.int .u64 (x.e:Int),.int .u64 (x.y:Int),.int .u64 (x.g:Int)] 39);have aq:=((Au.refl g w A).alloc (.cells #[.int .u64 (x.t:Int),.int .u64 (x.e:Int),.int .u64 (x.y:Int),.int .u64 (x.g:Int)] 134)).alloc (.cells #[.int .u64 (x.t:Int),.int .u64 (x.e:Int),.int .u64 (x.y:Int),.int .u64 (x.g:Int)] 39);have ab:=Blk.new (w.alloc (.cells #[.int .u64 (x.t:Int),.int .u64 (x.e:Int),.int .u64 (x.y:Int),.int .u64 (x.g:Int)] 134)) 39 #[.int .u64 (x.t:Int),.int .u64 (x.e:Int),.int .u64 (x.y:Int),.int .u64 (x.g:Int)];rw [An3] at ab;go_enter Tryz.func87,Tryz.ntmps87;go_wp2;generalize (w.alloc (.cells #[.int .u64 (x.t:Int),.int .u64 (x.e:Int),.int .u64 (x.y:Int),.int .u64 (x.g:Int)] 134)).alloc (.cells #[.int .u64 (x.t:Int),.int .u64 (x.e:Int),.int .u64 (x.y:Int),.int .u64 (x.g:Int)] 39)=w0 at*;clear k0 k1 k2 k3 aa;refine wp_loop_rounds 5 ?_;have c0:=ab.cell 0;have p0:=al.cell 0;rw [rounds_succ];go_wp2_with (fail);refine (Dz B g A c bs x.t _ ag x0 (by omega)).mono ?_;rintro _ w1 ⟨rfl,A1,c1,ae,ac⟩;have ai:=ab.fr ac.fr (ag.far ab (by decide) (by decide));have ad:=al.fr ac.fr (ag.far al (by decide) (by decide));have d1:=ai.cell 1;have p1:=ad.cell 0;go_wp2;rw [rounds_succ];go_wp2_with (fail);refine (Dz B g A1 c1 _ x.e _ ae x1 (by rw [Am8];omega)).mono ?_;rintro _ w2 ⟨rfl,A2,c2,aj,af⟩;have ak:=ai.fr af.fr (ae.far ai (by decide) (by decide));have ah:=ad.fr af.fr (ae.far ad (by decide) (by decide));have d2:=ak.cell 2;have p2:=ah.cell 0;go_wp2;rw [rounds_succ];go_wp2_with (fail);refine (Dz B g A2 c2 _ x.y _ aj x2 (by simp only [Am8];omega)).mono ?_;rintro _ w3 ⟨rfl,A3,c3,aw,ao⟩;have ap:=ak.fr ao.fr (aj.far ak (by decide) (by decide));have ar:=ah.fr ao.fr (aj.far ah (by decide) (by decide));have d3:=ap.cell 3;have p3:=ar.cell 0;go_wp2;rw [rounds_succ];go_wp2_with (fail);refine (Dz B g A3 c3 _ x.g _ aw x3 (by simp only [Am8];omega)).mono ?_;rintro _ w4 ⟨rfl,A4,c4,au,av⟩;go_wp2;rw [rounds_succ];go_wp2
 go_end0
 refine ⟨rfl,A4,c4,?_,(((aq.trans ac).trans af).trans ao).trans av⟩;have e:bs++x.bytes=bs++Pk.num x.t++Pk.num x.e++Pk.num x.y++Pk.num x.g:=by unfold Bx.bytes;simp
 rw [e];exact au
theorem N1 (B g gp:Nat) (A0:Option Addr) (c0:Nat) (bs:List UInt8) (l:List Bx) (Al:Option Addr) (n cl:Nat) (w:World) (ho:OutAt w B g A0 c0 bs) (hn:Hid (l.length=n)) (hok:∀x∈l,x.ok)
  (hr:Rd w B 4 Al n (l.flatMap Bx.cells)) (hl:bs.length+10+40*n≤1099511627690) (hp:Blk w gp 105 #[.pointer (some ⟨g,0,none⟩)]):
  Calls Tryz.prog 93 #[.pointer (some ⟨g,0,none⟩),.slice Al n cl,.func (.func 87) #[] #[.pointer (some ⟨gp,0,none⟩)]] w (Dd B g A0 (bs++lst Bx.bytes l) w):=by
 go_enter Tryz.func93,Tryz.ntmps93;go_wp2_with (fail);refine (Ds B g A0 c0 bs (n:Int) _ ho (by omega) (by omega) (by omega)).mono ?_;rintro _ w1 ⟨rfl,A1,c1,ho1,hst1⟩;have hil:=Pk.int_len (n:Int);go_wp2
 go_loopw [14] (fun v wr=>∃(i:Nat) (A:Option Addr) (c:Nat) (D:List UInt8),v=.int .i64 (i:Int)∧i≤n∧Hid (D=bs++Pk.int (n:Int)++(l.take i).flatMap Bx.bytes)∧D.length≤bs.length+10+40*i∧OutAt wr B g A c D∧Au g w A0 wr A∧Blk wr gp 105 #[.pointer (some ⟨g,0,none⟩)]) (fun v _=>n-(intOf v).toNat)
 case atStart=>exact ⟨0,A1,c1,_,rfl,by omega,by show _=_;simp,by simp;omega,ho1,hst1,hp.fr hst1.fr (ho.far hp (by decide) (by decide))⟩
 case round=>
  obtain ⟨i,A,c,D,rfl,hin,hD,hDl,hoi,hst,hpi⟩:=hrel
  by_cases hlt:i<n
  ·
   obtain ⟨x,hx⟩:∃x,l[i]? =some x:=⟨_,An1 (by rw [hn.out];exact hlt)⟩;have hxo:=hok x (An4 hx);obtain ⟨b,off,rfl,hb,k0,k1,k2,k3⟩:=Bx.at (hr.fr hst.fr (ho.not (Am9 _))) hx;have hxl:=Bx.bytes_len x;have hx':=Lib.hid hx;clear hx;go_wp2_with (fail);refine (Uj B g gp A c D x _ (hoi.alloc (.cells #[.int .u64 (x.t:Int),.int .u64 (x.e:Int),.int .u64 (x.y:Int),.int .u64 (x.g:Int)] 134)) (hpi.alloc (.cells #[.int .u64 (x.t:Int),.int .u64 (x.e:Int),.int .u64 (x.y:Int),.int .u64 (x.g:Int)] 134)) hxo (by omega)).mono ?_;rintro _ w2 ⟨rfl,A2,c2,ho2,hs2⟩;have hpi2:=(hpi.alloc (.cells #[.int .u64 (x.t:Int),.int .u64 (x.e:Int),.int .u64 (x.y:Int),.int .u64 (x.g:Int)] 134)).fr hs2.fr ((hoi.alloc (.cells #[.int .u64 (x.t:Int),.int .u64 (x.e:Int),.int .u64 (x.y:Int),.int .u64 (x.g:Int)] 134)).far (hpi.alloc (.cells #[.int .u64 (x.t:Int),.int .u64 (x.e:Int),.int .u64 (x.y:Int),.int .u64 (x.g:Int)] 134)) (by decide) (by decide));go_wp2;go_roundw
   case rel=>
    refine ⟨i+1,A2,c2,_,by go_num,by omega,?_,by rw [Am8,An5];omega,ho2,(hst.alloc (.cells #[.int .u64 (x.t:Int),.int .u64 (x.e:Int),.int .u64 (x.y:Int),.int .u64 (x.g:Int)] 134)).trans hs2,hpi2⟩;show _=_;rw [hD.out,Dm _ l hx'.out,← An0]
   case measure=>simp [intOf];omega
  ·
   have hi:i=n:=by omega
   subst hi;go_wp2
   go_end0
   refine ⟨rfl,A,c,?_,hst⟩;have e:bs++lst Bx.bytes l=D:=by rw [hD.out,An2 (by rw [hn.out];omega),An0];unfold lst;rw [hn.out]
   rw [e];exact hoi
theorem Uk (B g gp gc:Nat) (A:Option Addr) (c:Nat) (bs:List UInt8) (x:NdL) (w:World) (ho:OutAt w B g A c bs) (hp:Blk w gp 105 #[.pointer (some ⟨g,0,none⟩)]) (hc:Blk w gc 149 #[.func (.func 87) #[] #[.pointer (some ⟨gp,0,none⟩)]])
  (hx:x.nd.ok) (hat:x.at w B) (hl:bs.length+40020≤1099511627690):
  Calls Tryz.prog 92 #[.agg #[.int .u64 (x.p:Int),.slice x.A x.xs.length x.c],.pointer (some ⟨gp,0,none⟩),.pointer (some ⟨gc,0,none⟩)] w (Dd B g A (bs++x.nd.bytes) w):=by
 obtain ⟨x0,x1,x2⟩:=hx;have x1':x.xs.length≤1000:=x1;have l1:=Pk.num_len x.p;have hbx:=Blk.new w 137 #[.int .u64 (x.p:Int),.slice x.A x.xs.length x.c];have k0:=hbx.cell 0;have k1:=hbx.cell 1;have ho0:=ho.alloc (.cells #[.int .u64 (x.p:Int),.slice x.A x.xs.length x.c] 137);have hp0:=hp.alloc (.cells #[.int .u64 (x.p:Int),.slice x.A x.xs.length x.c] 137);have hc0:=hc.alloc (.cells #[.int .u64 (x.p:Int),.slice x.A x.xs.length x.c] 137);have hs0:=(Au.refl g w A).alloc (.cells #[.int .u64 (x.p:Int),.slice x.A x.xs.length x.c] 137);have p0:=hp0.cell 0;go_enter Tryz.func92,Tryz.ntmps92;go_wp2_with (fail);refine (Dz B g A c bs x.p _ ho0 x0 (by omega)).mono ?_;rintro _ w1 ⟨rfl,A1,c1,ho1,hs1⟩;have hbx1:=hbx.fr hs1.fr (ho0.far hbx (by decide) (by decide));have hp1:=hp0.fr hs1.fr (ho0.far hp0 (by decide) (by decide));have hc1:=hc0.fr hs1.fr (ho0.far hc0 (by decide) (by decide));have m1:=hbx1.cell 1;have p1:=hp1.cell 0;have q1:=hc1.cell 0;have hst:=hs0.trans hs1;have hr1:=hat.1.fr hst.fr (ho.not (Am9 _));go_wp2_with (fail);refine (N1 B g gp A1 c1 _ x.xs x.A x.xs.length x.c _ ho1 rfl x2 hr1 (by rw [Am8];omega) hp1).mono ?_;rintro _ w2 ⟨rfl,A2,c2,ho2,hs2⟩;go_wp2
 go_end0
 refine ⟨rfl,A2,c2,?_,hst.trans hs2⟩;have e:bs++x.nd.bytes=bs++Pk.num x.p++lst Bx.bytes x.xs:=by unfold Nd.bytes;rw [An0];rfl
 rw [e];exact ho2
theorem Ul (B g gp gc:Nat) (A0:Option Addr) (c0:Nat) (bs:List UInt8) (l:List NdL) (Al:Option Addr) (n cl:Nat) (w:World) (ho:OutAt w B g A0 c0 bs) (hn:Hid (l.length=n)) (hok:∀x∈l,x.nd.ok)
  (hr:Rd w B 2 Al n (l.flatMap NdL.cells)) (hl:bs.length+10+40020*n≤1099511627690) (hp:Blk w gp 105 #[.pointer (some ⟨g,0,none⟩)]) (hc:Blk w gc 149 #[.func (.func 87) #[] #[.pointer (some ⟨gp,0,none⟩)]]) (hat:∀x∈l,x.at w B):
  Calls Tryz.prog 91 #[.pointer (some ⟨g,0,none⟩),.slice Al n cl,.func (.func 92) #[] #[.pointer (some ⟨gp,0,none⟩),.pointer (some ⟨gc,0,none⟩)]] w (Dd B g A0 (bs++lst (fun x=>x.nd.bytes) l) w):=by
 go_enter Tryz.func91,Tryz.ntmps91;go_wp2_with (fail);refine (Ds B g A0 c0 bs (n:Int) _ ho (by omega) (by omega) (by omega)).mono ?_;rintro _ w1 ⟨rfl,A1,c1,ak,aa⟩;have au:=Pk.int_len (n:Int);go_wp2
 go_loopw [14] (fun v wr=>∃(i:Nat) (A:Option Addr) (c:Nat) (D:List UInt8),v=.int .i64 (i:Int)∧i≤n∧Hid (D=bs++Pk.int (n:Int)++(l.take i).flatMap (fun x=>x.nd.bytes))∧D.length≤bs.length+10+40020*i∧OutAt wr B g A c D∧Au g w A0 wr A∧Blk wr gp 105 #[.pointer (some ⟨g,0,none⟩)]∧Blk wr gc 149 #[.func (.func 87) #[] #[.pointer (some ⟨gp,0,none⟩)]]) (fun v _=>n-(intOf v).toNat)
 case atStart=>exact ⟨0,A1,c1,_,rfl,by omega,by show _=_;simp,by simp;omega,ak,aa,hp.fr aa.fr (ho.far hp (by decide) (by decide)),hc.fr aa.fr (ho.far hc (by decide) (by decide))⟩
 case round=>
  obtain ⟨i,A,c,D,rfl,av,hD,aq,ab,ac,ag,af⟩:=hrel
  by_cases hlt:i<n
  ·
   obtain ⟨x,hx⟩:∃x,l[i]? =some x:=⟨_,An1 (by rw [hn.out];exact hlt)⟩;have ai:=hok x (An4 hx);obtain ⟨b,ar,rfl,hb,k0,k1⟩:=NdL.el (hr.fr ac.fr (ho.not (Am9 _))) hx;have ap:=Nd.bytes_len x.nd ai;have aj:=((hat x (An4 hx)).fr ac.fr (ho.not (Am9 _)));have ao:=Lib.hid hx;clear hx;go_wp2_with (fail);refine (Uk B g gp gc A c D x _ (ab.alloc (.cells #[.int .u64 (x.p:Int),.slice x.A x.xs.length x.c] 137)) (ag.alloc (.cells #[.int .u64 (x.p:Int),.slice x.A x.xs.length x.c] 137)) (af.alloc (.cells #[.int .u64 (x.p:Int),.slice x.A x.xs.length x.c] 137)) ai (aj.fr (S:=Non) ((Fr.refl _ _).alloc (.cells #[.int .u64 (x.p:Int),.slice x.A x.xs.length x.c] 137)) zr) (by omega)).mono ?_;rintro _ w2 ⟨rfl,A2,c2,al,ad⟩;have ah:=(ag.alloc (.cells #[.int .u64 (x.p:Int),.slice x.A x.xs.length x.c] 137)).fr ad.fr ((ab.alloc (.cells #[.int .u64 (x.p:Int),.slice x.A x.xs.length x.c] 137)).far (ag.alloc (.cells #[.int .u64 (x.p:Int),.slice x.A x.xs.length x.c] 137)) (by decide) (by decide));have ae:=(af.alloc (.cells #[.int .u64 (x.p:Int),.slice x.A x.xs.length x.c] 137)).fr ad.fr ((ab.alloc (.cells #[.int .u64 (x.p:Int),.slice x.A x.xs.length x.c] 137)).far (af.alloc (.cells #[.int .u64 (x.p:Int),.slice x.A x.xs.length x.c] 137)) (by decide) (by decide));go_wp2;go_roundw
   case rel=>
    refine ⟨i+1,A2,c2,_,by go_num,by omega,?_,by rw [Am8,An5];omega,al,(ac.alloc (.cells #[.int .u64 (x.p:Int),.slice x.A x.xs.length x.c] 137)).trans ad,ah,ae⟩;show _=_;rw [hD.out,Dm _ l ao.out,← An0]
   case measure=>simp [intOf];omega
  ·
   have hi:i=n:=by omega
   subst hi;go_wp2
   go_end0
   refine ⟨rfl,A,c,?_,ac⟩;have e:bs++lst (fun x=>x.nd.bytes) l=D:=by rw [hD.out,An2 (by rw [hn.out];omega),An0];unfold lst;rw [hn.out]
   rw [e];exact ab
theorem Um (B g gp:Nat) (A:Option Addr) (c:Nat) (bs:List UInt8) (x:SlL) (w:World) (ho:OutAt w B g A c bs) (hp:Blk w gp 105 #[.pointer (some ⟨g,0,none⟩)])
  (hx:x.f.ok) (hy:x.y.length≤1000000) (hat:x.at w B) (hl:bs.length+1000040≤1099511627700):
  Calls Tryz.prog 98 #[.agg #[.int .i64 x.f.b,.int .i64 x.f.s,.int .u64 (x.f.u:Int),.slice x.A x.y.length x.c],.pointer (some ⟨gp,0,none⟩)] w (Dd B g A (bs++x.sl.bytes) w):=by
 obtain ⟨⟨x0,x1⟩,⟨x2,x3⟩,x4⟩:=hx;have l1:=Pk.ident_len x.f.b x.f.s x.f.u;have hbx:=Blk.new w 140 #[.int .i64 x.f.b,.int .i64 x.f.s,.int .u64 (x.f.u:Int),.slice x.A x.y.length x.c];have k0:=hbx.cell 0;have k1:=hbx.cell 1;have k2:=hbx.cell 2;have ho0:=ho.alloc (.cells #[.int .i64 x.f.b,.int .i64 x.f.s,.int .u64 (x.f.u:Int),.slice x.A x.y.length x.c] 140);have hp0:=hp.alloc (.cells #[.int .i64 x.f.b,.int .i64 x.f.s,.int .u64 (x.f.u:Int),.slice x.A x.y.length x.c] 140);have hs0:=(Au.refl g w A).alloc (.cells #[.int .i64 x.f.b,.int .i64 x.f.s,.int .u64 (x.f.u:Int),.slice x.A x.y.length x.c] 140);have p0:=hp0.cell 0;go_enter Tryz.func98,Tryz.ntmps98;go_wp2_with (fail);refine (H7 B g A c bs x.f.b x.f.s x.f.u _ ho0 x0 x1 x2 x3 x4 (by omega)).mono ?_;rintro _ w1 ⟨rfl,A1,c1,ho1,hs1⟩;have hbx1:=hbx.fr hs1.fr (ho0.far hbx (by decide) (by decide));have hp1:=hp0.fr hs1.fr (ho0.far hp0 (by decide) (by decide));have m3:=hbx1.cell 3;have p1:=hp1.cell 0;have hst:=hs0.trans hs1;have hr1:=hat.1.fr hst.fr (ho.not (Am9 _));have hstr:(convert 60 9 (.slice x.A x.y.length x.c)).run Tryz.prog w1=.ok (.string (str x.y)) w1:=Gd 60 5 9 Tryz.underlying60 Tryz.underlying5 Tryz.underlying9 w1 _ _ _ _ _ hr1;go_wp2_with (fail);refine (N0 B g A1 c1 _ x.y _ ho1 (by rw [Am8];omega)).mono ?_;rintro _ w2 ⟨rfl,A2,c2,ho2,hs2⟩;go_wp2
 go_end0
 refine ⟨rfl,A2,c2,?_,hst.trans hs2⟩;have e:bs++x.sl.bytes=bs++Pk.ident x.f.b x.f.s x.f.u++Pk.text x.y:=by unfold Sl.bytes Id.bytes;rw [An0];rfl
 rw [e];exact ho2
theorem Un (B g gp:Nat) (A0:Option Addr) (c0:Nat) (bs:List UInt8) (l:List SlL) (Al:Option Addr) (n cl:Nat) (w:World) (ho:OutAt w B g A0 c0 bs) (hn:Hid (l.length=n)) (hok:∀x∈l,(x.f.ok∧x.y.length≤1000000))
  (hr:Rd w B 4 Al n (l.flatMap SlL.cells)) (hl:bs.length+10+1000040*n≤1099511627690) (hp:Blk w gp 105 #[.pointer (some ⟨g,0,none⟩)]) (hat:∀x∈l,x.at w B):
  Calls Tryz.prog 97 #[.pointer (some ⟨g,0,none⟩),.slice Al n cl,.func (.func 98) #[] #[.pointer (some ⟨gp,0,none⟩)]] w (Dd B g A0 (bs++lst (fun x=>x.sl.bytes) l) w):=by
 go_enter Tryz.func97,Tryz.ntmps97;go_wp2_with (fail);refine (Ds B g A0 c0 bs (n:Int) _ ho (by omega) (by omega) (by omega)).mono ?_;rintro _ w1 ⟨rfl,A1,c1,ai,aa⟩;have aq:=Pk.int_len (n:Int);go_wp2
 go_loopw [14] (fun v wr=>∃(i:Nat) (A:Option Addr) (c:Nat) (D:List UInt8),v=.int .i64 (i:Int)∧i≤n∧Hid (D=bs++Pk.int (n:Int)++(l.take i).flatMap (fun x=>x.sl.bytes))∧D.length≤bs.length+10+1000040*i∧OutAt wr B g A c D∧Au g w A0 wr A∧Blk wr gp 105 #[.pointer (some ⟨g,0,none⟩)]) (fun v _=>n-(intOf v).toNat)
 case atStart=>exact ⟨0,A1,c1,_,rfl,by omega,by show _=_;simp,by simp;omega,ai,aa,hp.fr aa.fr (ho.far hp (by decide) (by decide))⟩
 case round=>
  obtain ⟨i,A,c,D,rfl,ar,hD,ao,ac,ab,ae⟩:=hrel
  by_cases hlt:i<n
  ·
   obtain ⟨x,hx⟩:∃x,l[i]? =some x:=⟨_,An1 (by rw [hn.out];exact hlt)⟩;have ad:=hok x (An4 hx);obtain ⟨b,ap,rfl,hb,k0,k1,k2,k3⟩:=SlL.el (hr.fr ab.fr (ho.not (Am9 _))) hx;have al:=Sl.bytes_len x.sl ad.2;have ah:=((hat x (An4 hx)).fr ab.fr (ho.not (Am9 _)));have ak:=Lib.hid hx;clear hx;go_wp2_with (fail);refine (Um B g gp A c D x _ (ac.alloc (.cells #[.int .i64 x.f.b,.int .i64 x.f.s,.int .u64 (x.f.u:Int),.slice x.A x.y.length x.c] 140)) (ae.alloc (.cells #[.int .i64 x.f.b,.int .i64 x.f.s,.int .u64 (x.f.u:Int),.slice x.A x.y.length x.c] 140)) ad.1 ad.2 (ah.fr (S:=Non) ((Fr.refl _ _).alloc (.cells #[.int .i64 x.f.b,.int .i64 x.f.s,.int .u64 (x.f.u:Int),.slice x.A x.y.length x.c] 140)) zr) (by omega)).mono ?_;rintro _ w2 ⟨rfl,A2,c2,aj,ag⟩;have af:=(ae.alloc (.cells #[.int .i64 x.f.b,.int .i64 x.f.s,.int .u64 (x.f.u:Int),.slice x.A x.y.length x.c] 140)).fr ag.fr ((ac.alloc (.cells #[.int .i64 x.f.b,.int .i64 x.f.s,.int .u64 (x.f.u:Int),.slice x.A x.y.length x.c] 140)).far (ae.alloc (.cells #[.int .i64 x.f.b,.int .i64 x.f.s,.int .u64 (x.f.u:Int),.slice x.A x.y.length x.c] 140)) (by decide) (by decide));go_wp2;go_roundw
   case rel=>
    refine ⟨i+1,A2,c2,_,by go_num,by omega,?_,by rw [Am8,An5];omega,aj,(ab.alloc (.cells #[.int .i64 x.f.b,.int .i64 x.f.s,.int .u64 (x.f.u:Int),.slice x.A x.y.length x.c] 140)).trans ag,af⟩;show _=_;rw [hD.out,Dm _ l ak.out,← An0]
   case measure=>simp [intOf];omega
  ·
   have hi:i=n:=by omega
   subst hi;go_wp2
   go_end0
   refine ⟨rfl,A,c,?_,ab⟩;have e:bs++lst (fun x=>x.sl.bytes) l=D:=by rw [hD.out,An2 (by rw [hn.out];omega),An0];unfold lst;rw [hn.out]
   rw [e];exact ac
section
variable {S : Nat → Prop} {w w' : World} {B g i : Nat} {L : List Int}
end
structure Id.gen (x:Id):Prop where
 b:1≤x.b∧x.b≤6
 s:1≤x.s∧x.s≤9
 u:x.u<1000000
structure Bx.gen (x:Bx):Prop where
 t:1≤x.t∧x.t≤1000
 e:1≤x.e∧x.e≤1000
 y:x.y<1000
 g:x.g<1000
theorem N2 (x y:Id) (w:World):
  Calls Tryz.prog 73 #[.agg x.V,.agg y.V] w (Ad (Id.less x y) w):=by
 have hf:=((Fr.refl Non w).alloc (.cells x.V 41)).alloc (.cells y.V 41)
 by_cases h1:x.b=y.b
 ·
  have f1:(x.b !=y.b)=false:=by simp [h1]
  by_cases h2:x.s=y.s
  ·
   have f2:(x.s !=y.s)=false:=by simp [h2]
   have hr:Hid (Id.less x y=decide ((x.u:Int)<(y.u:Int))):=by show _=_;unfold Id.less;rw [if_pos h1,if_pos h2];simp
   clear h1 h2;go_enter Tryz.func73,Tryz.ntmps73;go_wp2
   go_ret
   exact ⟨by rw [hr.out];simp,hf⟩
  ·
   have f2:(x.s !=y.s)=true:=by simp [h2]
   have hr:Hid (Id.less x y=decide (x.s<y.s)):=by show _=_;unfold Id.less;rw [if_pos h1,if_neg h2]
   clear h1 h2;go_enter Tryz.func73,Tryz.ntmps73;go_wp2
   go_ret
   exact ⟨by rw [hr.out];rfl,hf⟩
 ·
  have f1:(x.b !=y.b)=true:=by simp [h1]
  have hr:Hid (Id.less x y=decide (x.b<y.b)):=by show _=_;unfold Id.less;rw [if_neg h1]
  clear h1;go_enter Tryz.func73,Tryz.ntmps73;go_wp2
  go_ret
  exact ⟨by rw [hr.out];rfl,hf⟩
theorem Kj {w:World} {a:Addr} {v:Value} (h:w.cell? a=some v) (o:Obj):(w.alloc o).cell? a=some v:=((Fr.refl Non w).alloc o).cell h zq
def Be (a b:Int):Int:=if a<b then-1 else if b<a then 1 else 0
theorem N3 (a:Int) (w:World):Calls Tryz.prog 68 #[.int .i64 a] w fun e w'=>e=.returned (.bool false)∧w=w':=by
 have h:(a !=a)=false:=by simp
 go_enter Tryz.func68,Tryz.ntmps68;go_wp2
 go_ret
 first|exact ⟨rfl,rfl⟩|exact ⟨by simp,rfl⟩
theorem N4 (a:Int) (w:World):Calls Tryz.prog 71 #[.int .u64 a] w fun e w'=>e=.returned (.bool false)∧w=w':=by
 have h:(a !=a)=false:=by simp
 go_enter Tryz.func71,Tryz.ntmps71;go_wp2
 go_ret
 first|exact ⟨rfl,rfl⟩|exact ⟨by simp,rfl⟩
theorem Kk (a b:Int) (w:World):Calls Tryz.prog 38 #[.int .i64 a,.int .i64 b] w fun e w'=>e=.returned (.int .i64 (Be a b))∧w=w':=by
 have hc:Hid ((a<b∧Be a b= -1)∨(¬a<b∧b<a∧Be a b=1)∨(¬a<b∧¬b<a∧Be a b=0)):=by
  show _∨_;unfold Be
  by_cases h1:a<b
  · simp [h1]
  · by_cases h2:b<a<;>simp [h1,h2]
 go_enter Tryz.func38,Tryz.ntmps38;go_wp2_with (fail);refine (N3 a _).mono ?_;rintro _ _ ⟨rfl,rfl⟩;go_wp2_with (fail);refine (N3 b _).mono ?_;rintro _ _ ⟨rfl,rfl⟩;go_wp2
 all_goals
  go_ret
  refine ⟨congrArg (fun z=>Ending.returned (.int .i64 z)) ?_,rfl⟩;have:=hc.out;omega
theorem N5 (a b:Int) (w:World):Calls Tryz.prog 44 #[.int .u64 a,.int .u64 b] w fun e w'=>e=.returned (.int .i64 (Be a b))∧w=w':=by
 have hc:Hid ((a<b∧Be a b= -1)∨(¬a<b∧b<a∧Be a b=1)∨(¬a<b∧¬b<a∧Be a b=0)):=by
  show _∨_;unfold Be
  by_cases h1:a<b
  · simp [h1]
  · by_cases h2:b<a<;>simp [h1,h2]
 go_enter Tryz.func44,Tryz.ntmps44;go_wp2_with (fail);refine (N4 a _).mono ?_;rintro _ _ ⟨rfl,rfl⟩;go_wp2_with (fail);refine (N4 b _).mono ?_;rintro _ _ ⟨rfl,rfl⟩;go_wp2
 all_goals
  go_ret
  refine ⟨congrArg (fun z=>Ending.returned (.int .i64 z)) ?_,rfl⟩;have:=hc.out;omega
def orI (a b c:Int):Int:=if a=0 then if b=0 then c else b else a
theorem N7 (a b c:Int) (k:Nat) (w:World) (hk:Blk w k 3 #[.int .i64 a,.int .i64 b,.int .i64 c]):
  Calls Tryz.prog 43 #[.slice (some ⟨k,0,none⟩) 3 3] w fun e w'=>e=.returned (.int .i64 (orI a b c))∧w=w':=by
 have k0:=hk.cell 0;have k1:=hk.cell 1;have k2:=hk.cell 2
 by_cases h1:a=0
 ·
  have f1:(a !=0)=false:=by simp [h1]
  by_cases h2:b=0
  ·
   have f2:(b !=0)=false:=by simp [h2]
   by_cases h3:c=0
   ·
    have f3:(c !=0)=false:=by simp [h3]
    have hr:Hid (orI a b c=0):=by show _=_;unfold orI;rw [if_pos h1,if_pos h2,h3]
    clear h1 h2 h3;go_enter Tryz.func43,Tryz.ntmps43;go_wp2;refine wp_loop_rounds 4 ?_;rw [rounds_succ];go_wp2;rw [rounds_succ];go_wp2;rw [rounds_succ];go_wp2;rw [rounds_succ];go_wp2
    go_ret
    exact ⟨by rw [hr.out];rfl,rfl⟩
   ·
    have f3:(c !=0)=true:=by simp [h3]
    have hr:Hid (orI a b c=c):=by show _=_;unfold orI;rw [if_pos h1,if_pos h2]
    clear h1 h2 h3;go_enter Tryz.func43,Tryz.ntmps43;go_wp2;refine wp_loop_rounds 4 ?_;rw [rounds_succ];go_wp2;rw [rounds_succ];go_wp2;rw [rounds_succ];go_wp2
    go_ret
    exact ⟨by rw [hr.out];rfl,rfl⟩
  ·
   have f2:(b !=0)=true:=by simp [h2]
   have hr:Hid (orI a b c=b):=by show _=_;unfold orI;rw [if_pos h1,if_neg h2]
   clear h1 h2;go_enter Tryz.func43,Tryz.ntmps43;go_wp2;refine wp_loop_rounds 4 ?_;rw [rounds_succ];go_wp2;rw [rounds_succ];go_wp2
   go_ret
   exact ⟨by rw [hr.out];rfl,rfl⟩
 ·
  have f1:(a !=0)=true:=by simp [h1]
  have hr:Hid (orI a b c=a):=by show _=_;unfold orI;rw [if_neg h1]
  clear h1;go_enter Tryz.func43,Tryz.ntmps43;go_wp2;refine wp_loop_rounds 4 ?_;rw [rounds_succ];go_wp2
  go_ret
  exact ⟨by rw [hr.out];rfl,rfl⟩
theorem N8 (x y:Id):decide (orI (Be x.b y.b) (Be x.s y.s) (Be (x.u:Int) (y.u:Int))<0)=Id.less x y:=by
 unfold Id.less
 by_cases h1:x.b=y.b
 ·
  have e1:Be x.b y.b=0:=by unfold Be;rw [if_neg (by omega),if_neg (by omega)]
  rw [if_pos h1,e1]
  by_cases h2:x.s=y.s
  ·
   have e2:Be x.s y.s=0:=by unfold Be;rw [if_neg (by omega),if_neg (by omega)]
   rw [if_pos h2,e2];show decide (Be (x.u:Int) (y.u:Int)<0)=_;unfold Be;rw [An6];simp only [decide_eq_true_eq]
   split
   · omega
   · split<;>omega
  ·
   rw [if_neg h2];have e2:Be x.s y.s≠0:=by unfold Be;split;omega;split<;>omega
   show decide ((if Be x.s y.s=0 then _ else Be x.s y.s)<0)=_;rw [if_neg e2,An6];simp only [decide_eq_true_eq];unfold Be
   split
   · omega
   · split<;>omega
 ·
  rw [if_neg h1];have e1:Be x.b y.b≠0:=by unfold Be;split;omega;split<;>omega
  unfold orI;rw [if_neg e1,An6];simp only [decide_eq_true_eq];unfold Be
  split
  · omega
  · split<;>omega
theorem N9 (x y:Id) (w:World):
  Calls Tryz.prog 17 #[.agg x.V,.agg y.V] w (Ad (Id.less x y) w):=by
 have hf:=((Fr.refl Non w).alloc (.cells x.V 41)).alloc (.cells y.V 41);have hx:=(Blk.new w 41 x.V).alloc (.cells y.V 41);have hy:=Blk.new (w.alloc (.cells x.V 41)) 41 y.V;rw [An3] at hy;have hl:=N8 x y;have hl':=Lib.hid hl;clear hl;go_enter Tryz.func17,Tryz.ntmps17;go_upto_region 1 with (fail)
 generalize (w.alloc (.cells x.V 41)).alloc (.cells y.V 41)=w0 at*;have c0:w0.drew.cell? ⟨w.heap.size,0,none⟩=some (.int .i64 x.b):=hx.cell 0;have c1:w0.drew.cell? ⟨w.heap.size,1,none⟩=some (.int .i64 x.s):=hx.cell 1;have c2:w0.drew.cell? ⟨w.heap.size,2,none⟩=some (.int .u64 (x.u:Int)):=hx.cell 2;have d0:w0.drew.cell? ⟨w.heap.size+1,0,none⟩=some (.int .i64 y.b):=hy.cell 0;have d1:w0.drew.cell? ⟨w.heap.size+1,1,none⟩=some (.int .i64 y.s):=hy.cell 1;have d2:w0.drew.cell? ⟨w.heap.size+1,2,none⟩=some (.int .u64 (y.u:Int)):=hy.cell 2
 go_region_held3 (fun w'=>w'.cell? ⟨w.heap.size,0,none⟩=some (.int .i64 x.b)∧w'.cell? ⟨w.heap.size,1,none⟩=some (.int .i64 x.s)∧w'.cell? ⟨w.heap.size,2,none⟩=some (.int .u64 (x.u:Int))∧w'.cell? ⟨w.heap.size+1,0,none⟩=some (.int .i64 y.b)∧w'.cell? ⟨w.heap.size+1,1,none⟩=some (.int .i64 y.s)∧w'.cell? ⟨w.heap.size+1,2,none⟩=some (.int .u64 (y.u:Int))) ((and_intros<;>first|assumption|(refine Kj ?_ _;assumption))) (first
  |(go_at_call 38;(with_reducible refine (Kk _ _ _).mono ?_);rintro _ _ ⟨rfl,rfl⟩)
  |(go_at_call 44;(with_reducible refine (N5 _ _ _).mono ?_);rintro _ _ ⟨rfl,rfl⟩)
  |(go_at_call 43;(refine (N7 _ _ _ _ _ (by exact Blk.new _ _ _)).mono ?_);rintro _ _ ⟨rfl,rfl⟩))
 go_wp2
 go_ret
 exact ⟨by rw [← hl'.out];rfl,hf.drew.alloc _⟩
end Oq
end
section
open Go.RowKit Go.Sort
attribute [local go_sem ↓] Go.wp_at_zero Go.wp_at_succ
namespace Oq
def GrowOf (w w':World):Prop:=∃(q:Nat) (os:Array Obj),w'=grow (w.drewN q) os
theorem GrowOf.refl (w:World):GrowOf w w:=⟨0,#[],by simp [grow,An7]⟩
theorem GrowOf.trans {a b c:World} (h:GrowOf a b) (k:GrowOf b c):GrowOf a c:=by
 obtain ⟨q,os,rfl⟩:=h;obtain ⟨q',os',rfl⟩:=k;exact ⟨q+q',os++os',by simp [grow,An7,Array.append_assoc,Nat.add_assoc]⟩
theorem GrowOf.alloc {a b:World} (h:GrowOf a b) (o:Obj):GrowOf a (b.alloc o):=h.trans ⟨0,#[o],by unfold grow An7 World.alloc;simp⟩
theorem GrowOf.drew {a b:World} (h:GrowOf a b):GrowOf a b.drew:=h.trans ⟨1,#[],by rw [grow_empty];rfl⟩
theorem GrowOf.fr {a b:World} (h:GrowOf a b):Fr Non a b:=by
 obtain ⟨q,os,rfl⟩:=h;refine ⟨rfl,rfl,rfl,?_,?_⟩
 · simp [grow,An7]
 ·
  intro k hk _;simp only [grow,An7];rw [Array.getElem?_append_left hk]
theorem Oa (x y:Id) (w:World):
  Calls Tryz.prog 17 #[.agg x.V,.agg y.V] w fun e w'=>e=.returned (.bool (Id.less x y))∧GrowOf w w':=by
 have hf:=((GrowOf.refl w).alloc (.cells x.V 41)).alloc (.cells y.V 41);have hx:=(Blk.new w 41 x.V).alloc (.cells y.V 41);have hy:=Blk.new (w.alloc (.cells x.V 41)) 41 y.V;rw [An3] at hy;have hl:=N8 x y;have hl':=Lib.hid hl;clear hl;go_enter Tryz.func17,Tryz.ntmps17;go_upto_region 1 with (fail)
 generalize (w.alloc (.cells x.V 41)).alloc (.cells y.V 41)=w0 at*;have c0:w0.drew.cell? ⟨w.heap.size,0,none⟩=some (.int .i64 x.b):=hx.cell 0;have c1:w0.drew.cell? ⟨w.heap.size,1,none⟩=some (.int .i64 x.s):=hx.cell 1;have c2:w0.drew.cell? ⟨w.heap.size,2,none⟩=some (.int .u64 (x.u:Int)):=hx.cell 2;have d0:w0.drew.cell? ⟨w.heap.size+1,0,none⟩=some (.int .i64 y.b):=hy.cell 0;have d1:w0.drew.cell? ⟨w.heap.size+1,1,none⟩=some (.int .i64 y.s):=hy.cell 1;have d2:w0.drew.cell? ⟨w.heap.size+1,2,none⟩=some (.int .u64 (y.u:Int)):=hy.cell 2
 go_region_held3 (fun w'=>w'.cell? ⟨w.heap.size,0,none⟩=some (.int .i64 x.b)∧w'.cell? ⟨w.heap.size,1,none⟩=some (.int .i64 x.s)∧w'.cell? ⟨w.heap.size,2,none⟩=some (.int .u64 (x.u:Int))∧w'.cell? ⟨w.heap.size+1,0,none⟩=some (.int .i64 y.b)∧w'.cell? ⟨w.heap.size+1,1,none⟩=some (.int .i64 y.s)∧w'.cell? ⟨w.heap.size+1,2,none⟩=some (.int .u64 (y.u:Int))) ((and_intros<;>first|assumption|(refine Kj ?_ _;assumption))) (first
  |(go_at_call 38;(with_reducible refine (Kk _ _ _).mono ?_);rintro _ _ ⟨rfl,rfl⟩)
  |(go_at_call 44;(with_reducible refine (N5 _ _ _).mono ?_);rintro _ _ ⟨rfl,rfl⟩)
  |(go_at_call 43;(refine (N7 _ _ _ _ _ (by exact Blk.new _ _ _)).mono ?_);rintro _ _ ⟨rfl,rfl⟩))
 go_wp2
 go_ret
 exact ⟨by rw [← hl'.out];rfl,hf.drew.alloc _⟩
def E6 (x y:Id):Int:=if Id.less x y then-1 else if Id.less y x then 1 else 0
end Oq
end
section
open Go.RowKit Go.Maps
namespace Oq
theorem Id.ext3 (x y:Id):(x.b=y.b∧x.s=y.s∧x.u=y.u)↔x=y:=by
 constructor
 ·
  intro ⟨h1,h2,h3⟩
  cases x;cases y
  simp only at h1 h2 h3;subst h1;subst h2;subst h3;rfl
 ·
  rintro rfl;exact ⟨rfl,rfl,rfl⟩
instance:DecidableEq Id:=fun x y=>decidable_of_iff _ (Id.ext3 x y)
abbrev IdG (x:Id):Value:=.agg x.V
theorem law_id:Keyed Tryz.prog 41:=Keyed.of_law (deep_law_laid Tryz.laidOut (m:=2) (by omega) (of_decide_eq_true (by kernel_rfl)) (by kernel_rfl) (by rw [Tryz.underlying41]))
theorem Uo:Tryz.prog.keyType 41=true:=by kernel_rfl
theorem Ob:Tryz.prog.cellsOf 41=3:=by kernel_rfl
theorem Oc:Tryz.prog.cellsOf 3=1:=by kernel_rfl
theorem Od:Tryz.prog.cellsOf 39=1:=by kernel_rfl
theorem Oe:∃n,Tryz.prog.types.size=n+1:=⟨Tryz.prog.types.size-1,by have:0<Tryz.prog.types.size:=of_decide_eq_true (by kernel_rfl);omega⟩
def Ea (x:Id):Lit:=.string (keyBytes [.int .i64 x.b,.int .i64 x.s,.int .u64 (x.u:Int)])
theorem Et {n:Int} (h:I64 n):(Lit.int .i64 n).wf=true:=by
 have:=h.1;have:=h.2;simp [Lit.wf,IntKind.min,IntKind.max,IntKind.signed,IntKind.bits];omega
theorem Up {n:Nat} (h:U64 n):(Lit.int .u64 (n:Int)).wf=true:=by
 have h':n<18446744073709551616:=h;simp [Lit.wf,IntKind.min,IntKind.max,IntKind.signed,IntKind.bits];omega
theorem Gj (x:Id) (h:x.ok):keyOf Tryz.prog 41 (IdG x)=some (Ea x):=by
 obtain ⟨n,hn⟩:=Oe;have hu:=Tryz.underlying41;have e1:=Et h.1;have e2:=Et h.2.1;have e3:=Up h.2.2;unfold keyOf;rw [hu];simp only [Uo,Value.formed,hu,Ob];unfold Program.keyLits;simp only [hu];rw [hn];simp only [Program.keyLits,Value.cells,Ob];simp [List.mapM_cons,Oc,Od,Tryz.underlying3,Tryz.underlying39,e1,e2,e3,Ea]
theorem Uq {x y:Id} (hx:x.ok) (hy:y.ok) (h:Ea x=Ea y):x=y:=by
 have k1:=Gj x hx;rw [h] at k1;have:=law_id.inj k1 (Gj y hy);simp only [IdG,Value.agg.injEq,Array.mk.injEq,List.cons.injEq,Value.int.injEq,true_and,and_true] at this;obtain ⟨e1,e2,e3⟩:=this
 cases x;cases y
 simp only at e1 e2 e3;subst e1;subst e2;rw [Int.ofNat.inj e3]
theorem Of (x:Id) (h:x.ok):WideAt.IsKeyLit (Ea x):=law_id.key (Gj x h)
def MapAt (w:World) (b m:Nat) (f:Id→Option Nat):Prop:=
 ∃(n:Nat) (D:DataW Nat),w.ownsMap Tryz.prog 41 (plainElem Tryz.prog 3) b n D∧n≤m∧IsMap D∧(∀x i,f x=some i→i≤1000000)∧
  ∀x:Id,x.ok→has D (Ea x)=(f x).isSome∧∀i,f x=some i→∀z,D.atKey (Ea x) z=.lit (.int .i64 (i:Int))
theorem MapAt.made (w:World):MapAt (w.alloc (.map #[] 0)) w.heap.size 0 (fun _=>none):=by
 refine ⟨0,.map [],World.ownsMap_made w _ _ _,Am9 _,isMap_empty,?_,?_⟩
 ·
  intro x i h
  cases h
 ·
  intro x hx;refine ⟨rfl,?_⟩;intro i h
  cases h
theorem MapAt.lt {w:World} {b m:Nat} {f:Id→Option Nat} (h:MapAt w b m f):b<w.heap.size:=by
 obtain ⟨n,D,ho,_⟩:=h;exact ho.lt
theorem MapAt.fr {S:Nat→Prop} {w w':World} {b m:Nat} {f:Id→Option Nat} (h:MapAt w b m f) (hf:Fr S w w') (hb:¬S b):MapAt w' b m f:=by
 obtain ⟨n,D,ho,hn,rest⟩:=h;obtain ⟨es,clock,hbl,r2⟩:=ho;exact ⟨n,D,⟨es,clock,(hf.block b (Array.getElem?_eq_some_iff.1 hbl).1 hb).trans hbl,r2⟩,hn,rest⟩
theorem MapAt.size {w:World} {b m:Nat} {f:Id→Option Nat} (h:MapAt w b m f) {x:Id} {i:Nat} (hx:f x=some i):i≤1000000:=by
 obtain ⟨n,D,ho,hn,hm,hs,_⟩:=h;exact hs x i hx
theorem MapAt.look {w:World} {b m:Nat} {f:Id→Option Nat} (h:MapAt w b m f) (x:Id) (hx:x.ok):
  (Instr.lookup 91 (.map (some b)) (IdG x) true).run Tryz.prog w=.ok (.tuple #[.int .i64 (((f x).getD 0:Nat):Int),.bool (f x).isSome]) w:=by
 obtain ⟨n,D,ho,hn,hm,hs,hsays⟩:=h;obtain ⟨h1,h2⟩:=hsays x hx;obtain ⟨v,ps,hrun,hv⟩:=ho.look_ok law_id Tryz.underlying91 (z:=.int .i64 0) (by kernel_rfl) (plainElem_int Tryz.underlying3 (by decide)) (Gj x hx);rw [hrun,h1];obtain ⟨c,rfl,hc,hwc⟩:=plainElem_int_inv Tryz.underlying3 hv;simp only [Prod.mk.injEq] at hc
 cases hf:f x with
 |none=>
  have h3:has D (Ea x)=false:=by rw [h1,hf];rfl
  have h4:=(atKey_of_not_has h3 (.lit (.int .i64 0))).symm.trans hc.1
  cases h4
  rfl
 |some i=>
  have h4:=(h2 i hf (.lit (.int .i64 0))).symm.trans hc.1
  cases h4
  rfl
theorem MapAt.look1 {w:World} {b m:Nat} {f:Id→Option Nat} (h:MapAt w b m f) (x:Id) (hx:x.ok):
  (Instr.lookup 91 (.map (some b)) (IdG x) false).run Tryz.prog w=.ok (.int .i64 (((f x).getD 0:Nat):Int)) w:=by
 obtain ⟨n,D,ho,hn,hm,hs,hsays⟩:=h;obtain ⟨h1,h2⟩:=hsays x hx;obtain ⟨c,hrun,hc,hwc⟩:=ho.lookup_int law_id Tryz.underlying91 Tryz.underlying3 (by kernel_rfl) (Gj x hx);rw [hrun]
 cases hf:f x with
 |none=>
  have h3:has D (Ea x)=false:=by rw [h1,hf];rfl
  have h4:=(atKey_of_not_has h3 (.lit (.int .i64 0))).symm.trans hc
  cases h4
  rfl
 |some i=>
  have h4:=(h2 i hf (.lit (.int .i64 0))).symm.trans hc
  cases h4
  rfl
theorem MapAt.store {w:World} {b m:Nat} {f:Id→Option Nat} (h:MapAt w b m f) (x:Id) (hx:x.ok) (i:Nat) (hi:i≤1000000) (hmm:m≤100000):
  ∃w',(Instr.mapUpdate 91 (.map (some b)) (IdG x) (.int .i64 (i:Int))).run Tryz.prog w=.ok () w'∧MapAt w' b (m+1) (fun y=>if y=x then some i else f y)∧w.grownBy w' (some b):=by
 obtain ⟨n,D,ho,hn,hm,hs,hsays⟩:=h;have hwi:(Lit.int .i64 (i:Int)).wf=true:=Et ⟨by omega,by omega⟩;obtain ⟨w',hrun,hown,hg⟩:=ho.update law_id Tryz.underlying91 (Ao6 (Ao3 hn hmm) (by decide)) (Gj x hx) (plainElem_int Tryz.underlying3 hwi);refine ⟨w',hrun,⟨n+1,_,hown,by omega,hm.put _ _,fun y j hj=> ?_,fun y hy=> ?_⟩,hg⟩
 ·
  by_cases e:y=x
  ·
   simp only [if_pos e] at hj
   cases hj
   exact hi
  ·
   simp only [if_neg e] at hj;exact hs y j hj
 by_cases e:y=x
 ·
  subst e;simp only [if_true];exact ⟨has_put_same hm (Of y hy) _,fun j hj z=>by cases hj;exact atKey_put_same hm (Of y hy) _ _⟩
 ·
  simp only [if_neg e];have hne:Ea y≠Ea x:=fun h=>e (Uq hy hx h);exact ⟨(has_put_other hne _).trans (hsays y hy).1,fun j hj z=>(atKey_put_other hne _ _).trans ((hsays y hy).2 j hj z)⟩
end Oq
end
section
open Go.RowKit
theorem Og {P:Program} {Q:Exit→Act→World→Prop} {l:List Oper} {md:Region.Mode} {S:World→Prop} {fuel:Nat} {listed:Array Bool} {a:Act} {w:World} (i:Nat) {d:Option Tmp} {op:Op} {ty:TypeId} {pos:String} {after:Array Edge} (hr:Region.ready md l.toArray listed=[i]) (ho:l[i]? =some ⟨d,op,ty,pos,after,none⟩)
  (h:∀K':Act→World→Prop,Shut (∀a w,S w→(S w→wpAnyH P md l.toArray Q S fuel (listed.setIfInBounds i true) a w)→K' a w)→Oper.wp P ⟨d,op,ty,pos,after,none⟩ a w K' Q):
  wpAnyH P md l.toArray Q S (fuel+1) listed a w:=
 wpAnyH_ready hr (by simp) (AllReadyH.cons (by rw [Ao1];exact ho) (fun K' hK=>by rw [if_pos (show Region.wanted _ _=true from rfl)];exact h K' hK) AllReadyH.nil)
theorem Aj (l:List Value) (ds:List Deferred) (i:Nat) (v:Value):(⟨l.toArray,ds⟩:Act).put (some i) v=⟨(l.set i v).toArray,ds⟩:=by simp [Act.put]
theorem Oh {P:Program} {Q:Exit→Act→World→Prop} {md:Region.Mode} {S:World→Prop} {l:List Oper} {i:Nat} {d:Tmp} {op:Op} {ty:TypeId} {pos:String} {after:Array Edge} {g:Option (Nat × Bool)} {v:Value} {fuel:Nat} {listed:Array Bool} {tl:List Value} {ds:List Deferred} {w:World} (hi:l[i]? =some ⟨some d,op,ty,pos,after,g⟩)
  (hs:Region.noSelect l.toArray=true) (hf:Region.free md l.toArray listed i=true) (hr:(Region.ready md l.toArray listed).contains i=true)
  (hQ:∀c a w,Q (.panic c) (a.put (some d) v) w→Q (.panic c) a w) (hy:YieldsIf P l.toArray S ⟨some d,op,ty,pos,after,g⟩ v ⟨tl.toArray,ds⟩) (hS:S w)
  (h:wpAnyH P md l.toArray Q S fuel (listed.setIfInBounds i true) ⟨(tl.set d v).toArray,ds⟩ w):wpAnyH P md l.toArray Q S (fuel+1) listed ⟨tl.toArray,ds⟩ w:=
 wpAnyH_take (i:=i) (by rw [Ao1];exact hi) hs hf hr hQ hy hS (by rw [Aj];exact h)
theorem Ur {P:Program} {Q:Exit→Act→World→Prop} {md:Region.Mode} {S:World→Prop} {l:List Oper} {i:Nat} {d:Tmp} {op:Op} {ty:TypeId} {pos:String} {after:Array Edge} {g:Option (Nat × Bool)} {fuel:Nat} {listed:Array Bool} {tl:List Value} {ds:List Deferred} {w:World} (hi:l[i]? =some ⟨some d,op,ty,pos,after,g⟩)
  (hs:Region.noSelect l.toArray=true) (hf:Region.free md l.toArray listed i=true) (hr:(Region.ready md l.toArray listed).contains i=true)
  (hQ:∀c a w,Q (.panic c) (a.put (some d) undef) w→Q (.panic c) a w) (hw:Region.wanted ⟨some d,op,ty,pos,after,g⟩ (yielded l.toArray tl.toArray)=false) (hS:S w)
  (h:wpAnyH P md l.toArray Q S fuel (listed.setIfInBounds i true) ⟨(tl.set d undef).toArray,ds⟩ w):wpAnyH P md l.toArray Q S (fuel+1) listed ⟨tl.toArray,ds⟩ w:=
 wpAnyH_take (i:=i) (by rw [Ao1];exact hi) hs hf hr hQ (Or.inr ⟨hw,rfl⟩) hS (by rw [Aj];exact h)
theorem Us {P:Program} {Q:Exit→Act→World→Prop} {l:List Oper} {md:Region.Mode} {S:World→Prop} {fuel:Nat} {listed:Array Bool} {a:Act} {w:World} (i:Nat) {d:Option Tmp} {op:Op} {ty:TypeId} {pos:String} {after:Array Edge} {g:Option (Nat × Bool)} (hr:Region.ready md l.toArray listed=[i]) (ho:l[i]? =some ⟨d,op,ty,pos,after,g⟩)
  (hw:Region.wanted ⟨d,op,ty,pos,after,g⟩ (yielded l.toArray a.tmps)=true)
  (h:∀K':Act→World→Prop,Shut (∀a w,S w→(S w→wpAnyH P md l.toArray Q S fuel (listed.setIfInBounds i true) a w)→K' a w)→Oper.wp P ⟨d,op,ty,pos,after,g⟩ a w K' Q):
  wpAnyH P md l.toArray Q S (fuel+1) listed a w:=
 wpAnyH_ready hr (by simp) (AllReadyH.cons (by rw [Ao1];exact ho) (fun K' hK=>by rw [if_pos hw];exact h K' hK) AllReadyH.nil)
theorem oG {P:Program} {Q:Exit→Act→World→Prop} {l:List Oper} {md:Region.Mode} {S:World→Prop} {fuel:Nat} {listed:Array Bool} {a:Act} {w:World} (i:Nat) {d:Option Tmp} {op:Op} {ty:TypeId} {pos:String} {after:Array Edge} {g:Option (Nat × Bool)}
  (h:∀K':Act→World→Prop,Shut (∀a w,S w→(S w→wpAnyH P md l.toArray Q S fuel (listed.setIfInBounds i true) a w)→K' a w)→Oper.wp P ⟨d,op,ty,pos,after,g⟩ a w K' Q)
  (hr:Region.ready md l.toArray listed=[i]:=by kernel_rfl) (ho:l[i]? =some ⟨d,op,ty,pos,after,g⟩:=by rfl) (hw:Region.wanted ⟨d,op,ty,pos,after,g⟩ (yielded l.toArray a.tmps)=true:=by kernel_rfl):wpAnyH P md l.toArray Q S (fuel+1) listed a w:=Us i hr ho hw h
theorem oD {P:Program} {Q:Exit→Act→World→Prop} {ops:Array Oper} {md:Region.Mode} {S:World→Prop} {fuel:Nat} {listed:Array Bool} {a:Act} {w:World} (h:Q .normal a w) (hr:Region.ready md ops listed=[]:=by kernel_rfl):wpAnyH P md ops Q S fuel listed a w:=wpAnyH_done hr h fuel
theorem tkH (i:Nat) {P:Program} {Q:Exit→Act→World→Prop} {md:Region.Mode} {S:World→Prop} {l:List Oper} {d:Tmp} {op:Op} {ty:TypeId} {pos:String} {after:Array Edge} {g:Option (Nat × Bool)} {v:Value} {fuel:Nat} {listed:Array Bool} {tl:List Value} {ds:List Deferred} {w:World} (hS:S w) (hi:l[i]? =some ⟨some d,op,ty,pos,after,g⟩:=by rfl)
  (hs:Region.noSelect l.toArray=true:=by kernel_rfl) (hf:Region.free md l.toArray listed i=true:=by kernel_rfl) (hr:(Region.ready md l.toArray listed).contains i=true:=by kernel_rfl)
  (hQ:∀c a w,Q (.panic c) (a.put (some d) v) w→Q (.panic c) a w:=by exact fun _ _ _ h=>h) (hy:YieldsIf P l.toArray S ⟨some d,op,ty,pos,after,g⟩ v ⟨tl.toArray,ds⟩:=by (refine Or.inl ⟨by kernel_rfl,?_⟩;intro w' hSw;(try dsimp only at hSw);(try simp only [List.set]);go_simp;(try with_reducible rfl)))
  (h:wpAnyH P md l.toArray Q S fuel (listed.setIfInBounds i true) ⟨(tl.set d v).toArray,ds⟩ w):
  wpAnyH P md l.toArray Q S (fuel+1) listed ⟨tl.toArray,ds⟩ w:=Oh hi hs hf hr hQ hy hS h
theorem skH (i:Nat) {P:Program} {Q:Exit→Act→World→Prop} {md:Region.Mode} {S:World→Prop} {l:List Oper} {d:Tmp} {op:Op} {ty:TypeId} {pos:String} {after:Array Edge} {g:Option (Nat × Bool)} {fuel:Nat} {listed:Array Bool} {tl:List Value} {ds:List Deferred} {w:World} (hS:S w) (hi:l[i]? =some ⟨some d,op,ty,pos,after,g⟩:=by rfl)
  (hs:Region.noSelect l.toArray=true:=by kernel_rfl) (hf:Region.free md l.toArray listed i=true:=by kernel_rfl) (hr:(Region.ready md l.toArray listed).contains i=true:=by kernel_rfl)
  (hQ:∀c a w,Q (.panic c) (a.put (some d) undef) w→Q (.panic c) a w:=by exact fun _ _ _ h=>h) (hw:Region.wanted ⟨some d,op,ty,pos,after,g⟩ (yielded l.toArray tl.toArray)=false:=by kernel_rfl)
  (h:wpAnyH P md l.toArray Q S fuel (listed.setIfInBounds i true) ⟨(tl.set d undef).toArray,ds⟩ w):
  wpAnyH P md l.toArray Q S (fuel+1) listed ⟨tl.toArray,ds⟩ w:=Ur hi hs hf hr hQ hw hS h
end
section
open Go.RowKit
attribute [local go_sem ↓] Go.wp_at_zero Go.wp_at_succ
namespace Oq
attribute [local go_sem] Bool.not_false Bool.not_true
structure Av (ws:List Nat) (m:Nat→Bool):Prop where
 len:ws.length=4
 u64:∀k,ws.getD k 0<18446744073709551616
 bit:∀n,n<256→m n=(ws.getD (n/64) 0).testBit (n%64)
theorem Ut (a r:Nat):((a:Int)/2^r)=((a/2^r:Nat):Int):=by
 rw [Int.natCast_ediv,Ao7];rfl
theorem Uu (a r:Nat) (ha:a<18446744073709551616):(bits BinOp.and IntKind.u64 ((a:Int)/2^r) 1==1)=a.testBit r:=by
 have h1:a/2^r<18446744073709551616:=Ao6 (Nat.div_le_self _ _) ha;rw [Ut,show (1:Int)=((1:Nat):Int) from rfl,u64_and_nat _ 1 h1 (by decide),Nat.testBit_eq_decide_div_mod_eq,Nat.and_one_is_mod,An6,decide_eq_true_iff,beq_iff_eq];omega
theorem Uw (r:Nat) (hr:r<64):IntKind.u64.wrap (2^r)=((2^r:Nat):Int):=by
 have h1:(2:Nat)^r<18446744073709551616:=Ao8 (Ao9 (by decide) hr) (by decide);rw [show ((2:Int)^r)=((2^r:Nat):Int) from by rw [Ao7];rfl,IntKind.wrap_u64];generalize 2^r=p at*;omega
theorem Oi (a b:Nat) (ha:a<18446744073709551616) (hb:b<18446744073709551616):a|||b<18446744073709551616:=by
 have:a|||b<2^64:=Nat.or_lt_two_pow (by omega) (by omega);omega
theorem Oj (l:List Nat) (i k v:Nat) (hi:i<l.length):(l.set i v).getD k 0=if k=i then v else l.getD k 0:=by
 rw [Ao2,Ao2,List.getElem?_set]
 by_cases h:i=k
 · subst h;simp [hi]
 · simp [h,Ne.symm h]
theorem Av.put {ws:List Nat} {m:Nat→Bool} (h:Av ws m) {n:Nat} (hn:n<256):Av (ws.set (n/64) (ws.getD (n/64) 0|||2^(n%64))) (fun k=>k==n||m k):=by
 have hl:=h.len;have hp:2^(n%64)<18446744073709551616:=Ao8 (Ao9 (by decide) (show n%64<64 by omega)) (by decide);refine ⟨by rw [List.length_set];exact hl,fun k=> ?_,fun k hk=> ?_⟩
 ·
  rw [Oj _ _ _ _ (by omega)]
  split
  · exact Oi _ _ (h.u64 _) hp
  · exact h.u64 k
 ·
  rw [Oj _ _ _ _ (by omega),h.bit k hk]
  by_cases e:k/64=n/64
  ·
   rw [if_pos e,Nat.testBit_or,Nat.testBit_two_pow,e]
   by_cases e2:k=n
   · subst e2;simp
   ·
    have e3:¬(n%64=k%64):=by omega
    have e4:(k==n)=false:=by simpa using e2
    simp [e3,e4]
  ·
   rw [if_neg e]
   have e4:(k==n)=false:=by
    have:k≠n:=fun e5=>e (by rw [e5]);simpa using this
   rw [e4,Bool.false_or]
theorem Av.empty:Av [0,0,0,0] (fun _=>false):=by
 refine ⟨rfl,fun k=> ?_,fun n hn=> ?_⟩
 ·
  match k with
  |0|1|2|3=>decide
  |k+4=>simp
 ·
  have hq:n/64=0∨n/64=1∨n/64=2∨n/64=3:=by omega
  rcases hq with e|e|e|e<;>rw [e]<;>simp
def orW (a b:List Nat):List Nat:=[a.getD 0 0|||b.getD 0 0,a.getD 1 0|||b.getD 1 0,a.getD 2 0|||b.getD 2 0,a.getD 3 0|||b.getD 3 0]
def Kl (a b:List Nat):List Nat:=[a.getD 0 0&&&b.getD 0 0,a.getD 1 0&&&b.getD 1 0,a.getD 2 0&&&b.getD 2 0,a.getD 3 0&&&b.getD 3 0]
theorem Km (a b:List Nat) (k:Nat) (hk:k<4):(orW a b).getD k 0=a.getD k 0|||b.getD k 0:=by
 have hq:k=0∨k=1∨k=2∨k=3:=by omega
 rcases hq with rfl|rfl|rfl|rfl<;>rfl
theorem Kn (a b:List Nat) (k:Nat) (hk:k<4):(Kl a b).getD k 0=a.getD k 0&&&b.getD k 0:=by
 have hq:k=0∨k=1∨k=2∨k=3:=by omega
 rcases hq with rfl|rfl|rfl|rfl<;>rfl
theorem Av.or {a b:List Nat} {m m':Nat→Bool} (h:Av a m) (h':Av b m'):Av (orW a b) (fun k=>m k||m' k):=by
 refine ⟨rfl,fun k=> ?_,fun n hn=> ?_⟩
 ·
  rcases Ap0 k 4 with hk|hk
  ·
   rw [Km a b k hk];exact Oi _ _ (h.u64 k) (h'.u64 k)
  ·
   rw [Ao2,Ap3 (by show 4≤k;exact hk)]
   decide
 · rw [Km a b _ (by omega),Nat.testBit_or,h.bit n hn,h'.bit n hn]
theorem Av.and {a b:List Nat} {m m':Nat→Bool} (h:Av a m) (h':Av b m'):Av (Kl a b) (fun k=>m k&&m' k):=by
 refine ⟨rfl,fun k=> ?_,fun n hn=> ?_⟩
 ·
  rcases Ap0 k 4 with hk|hk
  ·
   rw [Kn a b k hk];exact Ao6 Nat.and_le_left (h.u64 k)
  ·
   rw [Ao2,Ap3 (by show 4≤k;exact hk)]
   decide
 · rw [Kn a b _ (by omega),Nat.testBit_and,h.bit n hn,h'.bit n hn]
def E7 (w:World) (g off:Nat) (ws:List Nat):Prop:=∀k,k<4→w.cell? ⟨g,off+k,none⟩=some (.int .u64 ((ws.getD k 0:Nat):Int))
theorem Ol (g off:Nat) (ws:List Nat) (m:Nat→Bool) (n:Nat) (w:World) (hs:Av ws m) (hat:E7 w g off ws) (hn:n<256):
  Calls Tryz.prog 42 #[.pointer (some ⟨g,off,none⟩),.int .i64 (n:Int)] w fun e w'=>e=.returned (.bool (m n))∧w=w':=by
 have hb:=hs.bit n hn;have hc:=hat (n/64) (by omega);have hu:=hs.u64 (n/64);generalize ws.getD (n/64) 0=wd at*;have e1:(n:Int).tdiv 64=((n/64:Nat):Int):=by rw [Ap4 (by omega)];omega
 have e2:(n:Int).tmod 64=((n%64:Nat):Int):=by rw [Ap5 (by omega)];omega
 obtain ⟨q,hq⟩:∃q,q=n/64:=⟨_,rfl⟩;obtain ⟨r,hr⟩:∃r,r=n%64:=⟨_,rfl⟩;rw [← hq] at e1 hc;rw [← hr] at e2 hb;have q1:(0:Int)≤q:=by omega
 have q2:(q:Int)<4:=by omega
 have q3:(q:Int).toNat=q:=by omega
 have r1:¬((r:Int)<0):=by omega
 have r2:(r:Int).toNat=r:=by omega
 have r3:r<64:=by omega
 rw [hb];clear hs hat hb hq hr;go_enter Tryz.func42,Tryz.ntmps42;go_wp2
 go_ret
 refine ⟨congrArg (fun z=>Ending.returned (.bool z)) ?_,rfl⟩;exact Uu wd r hu
theorem Ux (g off:Nat) (ws:List Nat) (m:Nat→Bool) (n:Nat) (w:World) (hs:Av ws m) (hat:E7 w g off ws) (hfr:∀k,k<4→w.frozen? ⟨g,off+k,none⟩=false) (hn:n<256):
  Calls Tryz.prog 64 #[.pointer (some ⟨g,off,none⟩),.int .i64 (n:Int)] w fun e w'=>e=.returned (.tuple #[])∧∃k,w'=(w.drewN k).setCell ⟨g,off+n/64,none⟩ (.int .u64 ((ws.getD (n/64) 0|||2^(n%64):Nat):Int)):=by
 have hc:=hat (n/64) (by omega);have hz:=hfr (n/64) (by omega);have hu:=hs.u64 (n/64);generalize ws.getD (n/64) 0=wd at*;have e1:(n:Int).tdiv 64=((n/64:Nat):Int):=by rw [Ap4 (by omega)];omega
 have e2:(n:Int).tmod 64=((n%64:Nat):Int):=by rw [Ap5 (by omega)];omega
 obtain ⟨q,hq⟩:∃q,q=n/64:=⟨_,rfl⟩;obtain ⟨r,hr⟩:∃r,r=n%64:=⟨_,rfl⟩;rw [← hq] at e1 hc hz ⊢;rw [← hr] at e2 ⊢;have q1:(0:Int)≤q:=by omega
 have q2:(q:Int)<4:=by omega
 have q3:(q:Int).toNat=q:=by omega
 have r1:¬((r:Int)<0):=by omega
 have r2:(r:Int).toNat=r:=by omega
 have r3:r<64:=by omega
 have q4:IntKind.i64.wrap (q:Int)=q:=IntWalk.i64_in _ (by omega);have r4:IntKind.i64.wrap (r:Int)=r:=IntWalk.i64_in _ (by omega);have s1:=Uw r r3;have hp:2^r<18446744073709551616:=Ao8 (Ao9 (by decide) r3) (by decide);have s2:=u64_or_nat wd (2^r) hu hp;clear hs hat hfr hq hr;go_enter Tryz.func64,Tryz.ntmps64;go_wp2_with (fail);refine wp_region_held_drew (S:=(fun _=>True)) (by kernel_rfl) trivial (fun hHeld=> ?_);clear hHeld;have hS:(fun _:World=>True) w.drew:=trivial;have hc':w.drew.cell? ⟨g,off+q,none⟩=some (.int .u64 (wd:Int)):=hc;have hz':w.drew.frozen? ⟨g,off+q,none⟩=false:=hz;refine tkH 0 hS (h:=tkH 1 hS (h:=tkH 2 hS (h:=tkH 3 hS (h:=tkH 4 hS (h:=tkH 6 hS (h:=tkH 7 hS (h:=tkH 8 hS (h:=tkH 10 hS (h:=?_)))))))));simp only [List.set];refine oG 5 (fun K hK=> ?_);go_simp;refine hK.out _ _ trivial (fun _=> ?_);clear hK K;try simp only [Aj,List.set]
 refine tkH 9 hS (h:=tkH 11 hS (h:=?_));simp only [List.set];refine oG 12 (fun K hK=> ?_);go_simp;refine hK.out _ _ trivial (fun _=> ?_);clear hK K;try simp only [Aj,List.set]
 refine oD ?_;go_simp;go_wp2_with (fail)
 go_end0
 refine ⟨rfl,1,?_⟩;rw [show ((2:Int)^r)=((2^r:Nat):Int) from by rw [Ao7];rfl,s2];rfl
def Dp (cs:Array Value) (off:Nat) (v:Nat→Value):Nat→Array Value
 |0=>cs
 |i+1=>(Dp cs off v i).setIfInBounds (off+i) (v i)
theorem Om (cs:Array Value) (off:Nat) (v:Nat→Value) (i j:Nat) (h:j<off∨off+i≤j):(Dp cs off v i)[j]? =cs[j]? :=by
 induction i with
 |zero=>rfl
 |succ i ih=>
  rw [Dp,Array.getElem?_setIfInBounds_ne (by omega)];exact ih (by omega)
def H9 (cs:Array Value) (off:Nat) (ws:List Nat):Array Value:=Dp cs off (fun k=> .int .u64 ((ws.getD k 0:Nat):Int)) 4
theorem On (g off:Nat) (t:TypeId) (cs:Array Value) (ws:List Nat) (t0 t1 t2 t3:Nat) (m m':Nat→Bool) (w:World) (hs:Av ws m) (hs':Av [t0,t1,t2,t3] m') (hb:Blk w g t cs) (hat:E7 w g off ws):
  Calls Tryz.prog 65 #[.pointer (some ⟨g,off,none⟩),.agg #[.int .u64 (t0:Int),.int .u64 (t1:Int),.int .u64 (t2:Int),.int .u64 (t3:Int)]] w fun e w'=>e=.returned (.tuple #[])∧Blk w' g t (H9 cs off (orW ws [t0,t1,t2,t3]))∧Fr (One g) w w':=by
 obtain ⟨ts,ad⟩:∃ts,ts=[t0,t1,t2,t3]:=⟨_,rfl⟩;rw [← ad] at hs' ⊢
 have hT:∀k,k<4→(w.alloc (.cells #[.int .u64 (t0:Int),.int .u64 (t1:Int),.int .u64 (t2:Int),.int .u64 (t3:Int)] 96)).cell? ⟨w.heap.size,k,none⟩=some (.int .u64 ((ts.getD k 0:Nat):Int)):=by
  intro k hk;have hq:k=0∨k=1∨k=2∨k=3:=by omega
  have hn:=Blk.new w 96 #[.int .u64 (t0:Int),.int .u64 (t1:Int),.int .u64 (t2:Int),.int .u64 (t3:Int)];rw [ad]
  rcases hq with rfl|rfl|rfl|rfl
  · exact hn.cell 0
  · exact hn.cell 1
  · exact hn.cell 2
  · exact hn.cell 3
 have aj:=hb.alloc (.cells #[.int .u64 (t0:Int),.int .u64 (t1:Int),.int .u64 (t2:Int),.int .u64 (t3:Int)] 96);have f0:Fr (One g) w (w.alloc (.cells #[.int .u64 (t0:Int),.int .u64 (t1:Int),.int .u64 (t2:Int),.int .u64 (t3:Int)] 96)):=(Fr.refl _ w).alloc _;have ak:=hb.lt;have af:∀k,k<4→cs[off+k]? =some (.int .u64 ((ws.getD k 0:Nat):Int)):=fun k hk=>by rw [← hb.cell];exact hat k hk
 obtain ⟨vf,ae⟩:∃vf:Nat→Value,vf=fun k=> .int .u64 (((orW ws ts).getD k 0:Nat):Int):=⟨_,rfl⟩;have ab:Hid (H9 cs off (orW ws ts)=Dp cs off vf 4):=by show _=_;rw [ae];rfl
 rw [ab.out]
 have ai:Hid (∀k,k<4→vf k=.int .u64 (bits .or .u64 ((ws.getD k 0:Nat):Int) ((ts.getD k 0:Nat):Int))):=fun k hk=>by
  rw [ae,u64_or_nat _ _ (hs.u64 k) (hs'.u64 k),← Km ws ts k hk]
 have ag:=Lib.hid hT;have ac:=Lib.hid af;clear hat af hs hs' ae ab hT hb ad;go_enter Tryz.func65,Tryz.ntmps65;go_upto_region 1 with (fail)
 generalize hA:w.alloc (.cells #[.int .u64 (t0:Int),.int .u64 (t1:Int),.int .u64 (t2:Int),.int .u64 (t3:Int)] 96)=w0 at*;clear hA;go_wp2_with (fail)
 go_loopw [5] (fun v wr=>∃i:Nat,v=.int .i64 (i:Int)∧i≤4∧Blk wr g t (Dp cs off vf i)∧Fr (One g) w0 wr) (fun v _=>4-(intOf v).toNat)
 case atStart=>exact ⟨0,rfl,by omega,aj,Fr.refl _ _⟩
 case round=>
  obtain ⟨i,rfl,al,aa,hf⟩:=hrel
  by_cases hlt:i<4
  ·
   have i1:(0:Int)≤i:=by omega
   have i2:(i:Int)<4:=by omega
   have i3:(i:Int).toNat=i:=by omega
   have i4:IntKind.i64.wrap (i:Int)=i:=IntWalk.i64_in _ (by omega);have c1:wr.cell? ⟨g,off+i,none⟩=some (.int .u64 ((ws.getD i 0:Nat):Int)):=by rw [aa.cell,Om _ _ _ _ _ (by omega)];exact ac.out i hlt
   have c2:wr.cell? ⟨w.heap.size,i,none⟩=some (.int .u64 ((ts.getD i 0:Nat):Int)):=hf.cell (ag.out i hlt) (by show ¬w.heap.size=g;omega);have z1:=aa.frozen (off+i);have ah:=Lib.hid (ai.out i hlt);generalize ws.getD i 0=wi at*;generalize ts.getD i 0=ti at*;go_upto_region 4 with (fail)
   refine wp_region_held_drew (S:=(fun w'=>w'.cell? ⟨w.heap.size,i,none⟩=some (.int .u64 (ti:Int)))) (by kernel_rfl) c2 (fun hHeld=> ?_);clear hHeld;have hS:(fun w':World=>w'.cell? ⟨w.heap.size,i,none⟩=some (.int .u64 (ti:Int))) wr.drew:=c2;replace c1:wr.drew.cell? ⟨g,off+i,none⟩=some (.int .u64 (wi:Int)):=c1;replace z1:wr.drew.frozen? ⟨g,off+i,none⟩=false:=z1;replace aa:Blk wr.drew g t (Dp cs off vf i):=aa;replace hf:=hf.drew;generalize wr.drew=wq at*;refine tkH 0 hS (h:=tkH 1 hS (h:=tkH 2 hS (h:=tkH 3 hS (h:=tkH 5 hS (h:=tkH 6 hS (h:=tkH 7 hS (h:=tkH 9 hS (h:=?_))))))));simp only [List.set];refine oG 4 (fun K hK=> ?_);go_simp;refine hK.out _ _ hS (fun _=> ?_);clear hK K;try simp only [Aj,List.set]
   refine tkH 8 hS (h:=tkH 10 hS (h:=?_));simp only [List.set];refine oG 11 (fun K hK=> ?_);go_simp;refine hK.out _ _ (by rw [World.cell?_setCell_far _ _ _ _ (by show g≠w.heap.size;omega)];exact hS) (fun _=> ?_);clear hK K;try simp only [Aj,List.set]
   refine oD ?_;go_simp;go_wp2_with (fail);go_roundw
   case rel=>exact ⟨i+1,by go_num,by omega,by rw [Dp,ah.out];exact aa.set _ _,hf.setOne _ _⟩
   case measure=>simp [intOf];omega
  ·
   obtain rfl:i=4:=by omega
   go_wp2_with (fail)
   go_end0
   exact ⟨rfl,aa,f0.transOne hf⟩
end Oq
end
namespace Oq
structure Cd where
 d:Int
 m:Int
 l:Nat
 k:Nat
 s:Nat
def Cd.cells (c:Cd):List Value:=[.int .i64 c.d,.int .i64 c.m,.int .u64 (c.l:Int),.int .u64 (c.k:Int),.int .u64 (c.s:Int)]
theorem Uy (d m:Int) (l k s:Nat):(Cd.mk d m l k s).cells=[.int .i64 d,.int .i64 m,.int .u64 (l:Int),.int .u64 (k:Int),.int .u64 (s:Int)]:=rfl
end Oq
section
open Go.RowKit
attribute [local go_sem ↓] Go.wp_at_zero Go.wp_at_succ
namespace Oq
attribute [local go_sem] Bool.not_false Bool.not_true
theorem Uz (l:List Id) (k:Nat) (x y:Id) (h:l[k]? =some y):Ct (l.take (k+1)) x=(Ct (l.take k) x||Id.eq y x):=by
 obtain ⟨hk,rfl⟩:=List.getElem?_eq_some_iff.1 h;rw [Ao4 hk];unfold Ct;rw [List.any_append];simp
theorem G7 (l:List Id) (x:Id):Ct l x=true↔x∈l:=by
 unfold Ct;rw [List.any_eq_true];exact ⟨fun ⟨y,hy,he⟩=>by rw [← (Id.eq_iff y x).1 he];exact hy,fun h=>⟨x,h,(Id.eq_iff x x).2 rfl⟩⟩
theorem U0 (l:List Id) (k:Nat) (x:Id) (h:Ct (l.take k) x=true):Ct l x=true:=
 (G7 _ _).2 (Ap6 ((G7 _ _).1 h))
theorem E8 (x y:Id) (w:World):(Op.equalIn 10000 41 (.agg x.V) (.agg y.V)).run Tryz.prog w=.ok (Id.eq x y) w:=by
 have hS:Tryz.prog.underlying 41=some (.struct (Tryz.prog.fieldsOf 41)):=by kernel_rfl
 have hp:Tryz.prog.stoodInHeld 41=false:=by kernel_rfl
 rw [show (10000:Nat)=9999+1 from rfl,run_equalIn_agg w 9999 41 _ _ hS hp];simp only [Program.fieldsOf,Tryz.underlying41];have e3:((x.u:Int)==(y.u:Int))=(x.u==y.u):=by rw [An6];simp;omega
 unfold Id.eq;go_simp
 by_cases h1:x.b=y.b<;>by_cases h2:x.s=y.s<;>by_cases h3:x.u=y.u<;>simp [h1,h2,h3]
attribute [local go_sem ↓] E8
theorem Ko:Tryz.prog.eqGuardType Tryz.prog.depth 41=false:=by kernel_rfl
theorem Oo (B n c:Nat) (A:Option Addr) (l:List Id) (x:Id) (w:World) (hn:Hid (l.length=n)) (hr:Rd w B 3 A n (l.flatMap Id.cells)) (hnm:n≤1000000):
  Calls Tryz.prog 14 #[.slice A n c,.agg x.V] w (Ad (Ct l x) w):=by
 have hb0:=Blk.new w 41 x.V;go_enter Tryz.func14,Tryz.ntmps14;go_wp2
 go_loopw [5] (fun v wr=>∃k:Nat,v=.int .i64 (k:Int)∧k≤n∧Hid (Ct (l.take k) x=false)∧Fr Non (w.alloc (.cells x.V 41)) wr) (fun v _=>n-(intOf v).toNat)
 case atStart=>exact ⟨0,rfl,by omega,rfl,Fr.refl _ _⟩
 case round=>
  obtain ⟨k,rfl,hk,hh,hf⟩:=hrel
  by_cases hlt:k<n
  ·
   obtain ⟨y,hy⟩:∃y,l[k]? =some y:=⟨_,An1 (by rw [hn.out];exact hlt)⟩;obtain ⟨b,off,rfl,hbB,k0,k1,k2⟩:=Id.at ((hr.alloc _).fr hf zr) hy;have hsn:=Lib.hid (Uz l k x y hy);clear hy;have hb:=hb0.fr hf zq;have c0:=hb.cell 0;have c1:=hb.cell 1;have c2:=hb.cell 2;have i1:(0:Int)≤k:=by omega
   have i2:(k:Int)<n:=by omega
   have i3:(k:Int).toNat=k:=by omega
   have hm:=Ko
   by_cases he:Id.eq y x=true
   ·
    have hfin:Hid (Ct l x=true):=U0 l (k+1) x (by rw [hsn.out,he];simp);go_wp2
    go_quiet (fail)
    go_wp2
    go_ret
    exact ⟨by rw [hfin.out];rfl,(((Fr.refl Non w).alloc _).trans hf zr).drewN _⟩
   ·
    have he:=Ap7 _▸he;have hfin:Hid (Ct (l.take (k+1)) x=false):=by show _=_;rw [hsn.out,he,hh.out];rfl
    go_wp2
    go_quiet (fail)
    go_wp2;go_roundw
    case rel=>exact ⟨k+1,by go_num,by omega,hfin,hf.drewN _⟩
    case measure=>simp [intOf];omega
  ·
   obtain rfl:k=n:=by omega
   have hfin:Hid (Ct l x=false):=by have h:=hh.out;rw [An2 (by rw [hn.out];omega)] at h;exact h
   go_wp2
   go_ret
   exact ⟨by rw [hfin.out];rfl,((Fr.refl Non w).alloc _).trans hf zr⟩
theorem Rd.partN {w:World} {B size n:Nat} {A:Option Addr} {xs:List Value} (h:Rd w B size A n xs) {lo hi:Nat} (h1:lo≤hi) (h2:hi≤n) (A':Option Addr)
  (hA:lo<hi→A'=A.map (·.add (lo*size))):Rd w B size A' (hi-lo) ((xs.drop (lo*size)).take ((hi-lo)*size)):=by
 have hl:=h.1;have e1:=Nat.mul_le_mul_right size h2;have e2:(hi-lo)*size+lo*size=hi*size:=by rw [← Ap1,Nat.sub_add_cancel h1]
 refine ⟨by simp;omega,?_⟩
 rcases Ap0 lo hi with hlt|hge
 ·
  rcases h.2 with h0|⟨b,off,e,hb,hc⟩
  · omega
  ·
   refine .inr ⟨b,off+lo*size,?_,hb,?_⟩
   ·
    rw [hA hlt,e];simp only [Option.map_some,Addr.add]
    split
    ·
     rename_i h0;rw [h0];rfl
    · rfl
   ·
    intro j u hu;rw [List.getElem?_take] at hu
    split at hu
    ·
     rw [List.getElem?_drop] at hu;rw [Nat.add_assoc];exact hc _ _ hu
    · cases hu
 · exact .inl (by omega)
theorem U1 {α:Type} {f:α→List Value} {size:Nat} (hf:∀x,(f x).length=size) (l:List α) (m:Nat):(l.flatMap f).drop (m*size)=(l.drop m).flatMap f:=by
 induction l generalizing m with
 |nil=>simp
 |cons y l ih=>
  match m with
  |0=>simp
  |m+1=>
   rw [Ao0,List.drop_succ_cons,List.drop_append,hf,List.drop_of_length_le (by rw [hf,Ap1];omega),An9,show (m+1)*size-size=m*size by rw [Ap1];omega,ih]
theorem Id.cells_len (x:Id):x.cells.length=3:=rfl
theorem Id.cells_one (l:List Id):∀u∈l.flatMap Id.cells,u.oneCell'=true:=by
 intro u hu;obtain ⟨x,_,hx⟩:=List.mem_flatMap.1 hu;unfold Id.cells at hx;simp at hx
 rcases hx with rfl|rfl|rfl<;>rfl
theorem Ia (l:List Id) (a b:Nat):∀u∈((l.flatMap Id.cells).drop a).take b,u.oneCell'=true:=fun u hu=>Id.cells_one l u (List.mem_of_mem_drop (Ap6 hu))
theorem add_zero (A:Option Addr):A=A.map (·.add (0*3)):=by
 cases A with
 |none=>rfl
 |some a=>rw [Nat.zero_mul];rfl
theorem Ot (l:List Id) (x:Id):(ins l x).length=l.length+1:=by
 unfold ins;have h:(l.take (Bg x l l.length)).length+(l.drop (Bg x l l.length)).length=l.length:=by rw [← Am8,List.take_append_drop]
 rw [Am8,Am8,List.length_singleton];omega
theorem Ou (xs:List Id) (x:Id) {i K:Nat} (hl:xs.length=i) (hk:Bg x xs i=K):
  (xs.take K).flatMap Id.cells++[.int .i64 x.b,.int .i64 x.s,.int .u64 (x.u:Int)]++((xs.flatMap Id.cells).drop (K*3)).take ((i-K)*3)=(ins xs x).flatMap Id.cells:=by
 rw [U1 Id.cells_len,Jy Id.cells_len,An2 (l:=xs.drop K) (by rw [List.length_drop,hl];exact Am9 _)];unfold ins;rw [hl,hk,Ao5,Ao5,Ao0,Ap2,List.append_nil];rfl
theorem U2 (l:List Id) (k:Nat) (x:Id) (h:l[k]? =some x):An (l.take (k+1))=ins (An (l.take k)) x:=by
 obtain ⟨hk,rfl⟩:=List.getElem?_eq_some_iff.1 h;rw [Ao4 hk];unfold An;rw [List.foldl_append];rfl
theorem U3 (x y:Id) (l:List Id) (k:Nat) (h:l[k]? =some y):Bg x l (k+1)=if Id.less x y then Bg x l k else k+1:=by
 show (match l[k]? with|some y=>if Id.less x y then Bg x l k else k+1|none=>k+1)=_;rw [h]
def SortPost (l:List Id) (n:Nat) (w:World) (r:Ending) (w':World):Prop:=
 ∃A c,r=.returned (.slice A n c)∧Own w' w.heap.size 41 3 A n c ((An l).flatMap Id.cells)∧Fr Non w w'
theorem Kp (B n c:Nat) (A:Option Addr) (l:List Id) (w:World) (hn:Hid (l.length=n)) (hr:Rd w B 3 A n (l.flatMap Id.cells)) (hnm:n≤1000000):
  Calls Tryz.prog 46 #[.slice A n c] w (SortPost l n w):=by
 go_enter Tryz.func46,Tryz.ntmps46;go_wp2
 go_loopw [3,4] (fun s v wr=>∃(i:Nat) (Ax:Option Addr) (cx:Nat) (xs:List Id),v=.int .i64 (i:Int)∧s=.slice Ax i cx∧i≤n∧Hid (xs=An (l.take i))∧Hid (xs.length=i)∧
  Own wr w.heap.size 41 3 Ax i cx (xs.flatMap Id.cells)∧Fr Non w wr) (fun _ v _=>n-(intOf v).toNat)
 case atStart=>exact ⟨0,none,0,[],rfl,rfl,by omega,rfl,rfl,Own.nil _ _ _ _,Fr.refl _ _⟩
 case round=>
  obtain ⟨i,Ax,cx,xs,rfl,rfl,hi,a3,a0,ae,hf⟩:=hrel
  by_cases hlt:i<n
  ·
   obtain ⟨x,hx⟩:∃x,l[i]? =some x:=⟨_,An1 (by rw [hn.out];exact hlt)⟩;obtain ⟨b,ag,rfl,bk,k0,k1,k2⟩:=Id.at (hr.fr hf zr) hx;have bb:=Lib.hid (U2 l i x hx);clear hx;have bg:=ae.cap;obtain ⟨wo,be⟩:∃wo:World,wo=wr:=⟨_,rfl⟩;subst be;go_wp2
   go_loopw [5] (fun v wi=>∃k:Nat,v=.int .i64 (k:Int)∧k≤i∧Hid (Bg x xs i=Bg x xs k)∧Fr Non wo wi) (fun v _=>(intOf v).toNat)
   case atStart=>exact ⟨i,rfl,by omega,rfl,Fr.refl _ _⟩
   case round=>
    obtain ⟨k,rfl,hk,ar,ah⟩:=hrel
    rcases Nat.eq_zero_or_pos k with h0|h0
    ·
     subst h0;have a7:=Lib.hid ar.out;have bh:=ah.size;have bj:=hf.size;have ac:=ae.fr ah zr;have aw:=Own.nil wr w.heap.size 41 3;have ak:=ac.rd.takeN (m:=0) (by omega);rw [Jy Id.cells_len] at ak;have bd:=ac.row;have G0:=ah.cell k0 zq;have G1:=ah.cell k1 zq;have G2:=ah.cell k2 zq;go_upto_region 10 with (fail)
     have nA:∀k,Ac Ax=some k→k<wo.heap.size:=fun k hk=>(ae.row k hk).2
     go_wp2_with (first
      |(at_builtin;go_loud (refine Az (base:=w.heap.size) (.tmp 30) (.tmp 33) 25 rfl rfl rfl rfl Cp aw ak (Id.cells_one _) (by omega) (by omega) (by omega) ?_);intro A1 c1 w2 aj a9 ap;have aa:Fr Non _ w2:=a9.mono (fun k _ hk=>by cases hk);have bf:=aa.size;have H0:=aa.cell G0 zq;have H1:=aa.cell G1 zq;have H2:=aa.cell G2 zq;have ay:∀k,Ac A1=some k→wo.heap.size≤k:=fun k hk=>(by rcases ap with e|e;(rw [e] at hk;cases hk);(rw [e] at hk;injection hk with hk;omega));clear ap;rw [An8,An9] at aj)
      |(at_builtin;go_loud (refine Az (base:=w.heap.size) (.tmp 35) (.tmp 40) 25 rfl rfl rfl rfl Cp (aj.alloc (.cells x.V 41)) (Rd.blk (n:=1) (size:=3) (Blk.new w2 41 x.V) rfl) (by simp [Value.oneCell']) (by omega) (by omega) (by rw [An3];omega) ?_);intro A2 c2 w3 au ax al;have a1:=ax.size;rw [An3] at a1;have a8:∀k,Ac A2=some k→wo.heap.size≤k:=fun k hk=>(by rcases al with e|e;(rw [e] at hk;exact ay k hk);(rw [e,An3] at hk;injection hk with hk;omega));clear al;have ai:=((ac.fr aa zr).alloc (.cells x.V 41)).fr ax (fun k hk e=>by have e1:=ay k e;have e2:=nA k hk;omega))
      |(at_builtin;go_loud (refine Az (base:=w.heap.size) (.tmp 42) (.tmp 45) 25 rfl rfl rfl rfl Cp au (Rd.partN ai.rd (lo:=0) (hi:=i) (by omega) (Am9 _) _ (fun hlt=>add_zero Ax)) (Ia _ _ _) (by omega) (by omega) (by omega) ?_);intro A3 c3 w4 av a2 ba))
     have ao:Hid (ins xs x=An (l.take (i+1))):=by show _=_;rw [bb.out,← a3.out]
     have ad:(xs.take (0)).flatMap Id.cells++[.int .i64 x.b,.int .i64 x.s,.int .u64 (x.u:Int)]++((xs.flatMap Id.cells).drop ((0)*3)).take ((i-(0))*3)=(ins xs x).flatMap Id.cells:=by
      exact Ou xs x a0.out (a7.out)
     have a5:Fr Non w w4:=(((hf.trans ah zr).trans aa zr).alloc (.cells x.V 41)).trans ax (fun k hk e=>by have:=ay k e;omega)|>.trans a2 (fun k hk e=>by have:=a8 k e;omega);go_roundw
     case rel=>exact ⟨i+1,A3,c3,ins xs x,by go_num,by first|rfl|(congr 1;omega),by omega,ao,by show _=_;rw [Ot,a0.out],by rw [← ad,show i+1=0+1+(i-(0)) by omega];exact av,a5⟩
     case measure=>simp [intOf];omega
    ·
     obtain ⟨j,rfl⟩:∃j,k=j+1:=⟨k-1,by omega⟩;obtain ⟨y,hy⟩:∃y,xs[j]? =some y:=⟨_,An1 (by rw [a0.out];omega)⟩;obtain ⟨b2,ab,bi,bl,m0,m1,m2⟩:=Id.at (ae.rd.fr ah zr) hy;subst bi;have bc:=Lib.hid (U3 x y xs j hy);clear hy;have K0:=ah.cell k0 zq;have K1:=ah.cell k1 zq;have K2:=ah.cell k2 zq
     by_cases hL:Id.less x y=true
     ·
      have a4:Hid (Bg x xs i=Bg x xs j):=by show _=_;rw [ar.out,bc.out,if_pos hL]
      go_upto_region 7 with (fail)
      have e1:IntKind.i64.wrap (((j+1:Nat):Int)-1)=(j:Int):=by rw [show ((j+1:Nat):Int)-1=j by omega];exact IntWalk.i64_in _ (by omega)
      have a6:IntKind.i64.wrap ((j:Int)+1-1)=(j:Int):=by rw [show (j:Int)+1-1=j by omega];exact IntWalk.i64_in _ (by omega)
      have az:IntKind.i64.wrap (j:Int)=(j:Int):=IntWalk.i64_in _ (by omega);have e2:(0:Int)≤j:=by omega
      have e3:(j:Int)<i:=by omega
      have e4:(j:Int).toNat=j:=by omega
      have f2:(0:Int)≤i:=by omega
      have f3:(i:Int)<n:=by omega
      have f4:(i:Int).toNat=i:=by omega
      have D0:wr.drew.cell? ⟨b,ag+i*3,none⟩=some (.int .i64 x.b):=K0;have D1:wr.drew.cell? ⟨b,ag+i*3+1,none⟩=some (.int .i64 x.s):=K1;have D2:wr.drew.cell? ⟨b,ag+i*3+2,none⟩=some (.int .u64 (x.u:Int)):=K2;have M0:wr.drew.cell? ⟨b2,ab+j*3,none⟩=some (.int .i64 y.b):=m0;have M1:wr.drew.cell? ⟨b2,ab+j*3+1,none⟩=some (.int .i64 y.s):=m1;have M2:wr.drew.cell? ⟨b2,ab+j*3+2,none⟩=some (.int .u64 (y.u:Int)):=m2
      go_region_held3 (fun w'=>w'.cell? ⟨b,ag+i*3,none⟩=some (.int .i64 x.b)∧w'.cell? ⟨b,ag+i*3+1,none⟩=some (.int .i64 x.s)∧w'.cell? ⟨b,ag+i*3+2,none⟩=some (.int .u64 (x.u:Int))∧w'.cell? ⟨b2,ab+j*3,none⟩=some (.int .i64 y.b)∧w'.cell? ⟨b2,ab+j*3+1,none⟩=some (.int .i64 y.s)∧w'.cell? ⟨b2,ab+j*3+2,none⟩=some (.int .u64 (y.u:Int))) ((and_intros<;>assumption)) (first
       |(go_at_call 73;(with_reducible refine (N2 x y _).mono ?_);rintro _ w1 ⟨rfl,af⟩;have D0:=af.cell D0 zq;have D1:=af.cell D1 zq;have D2:=af.cell D2 zq;have M0:=af.cell M0 zq;have M1:=af.cell M1 zq;have M2:=af.cell M2 zq))
      clear e1 a6 az e2 e3 e4 f2 f3 f4;have aq:=(ah.drew).trans af zr;go_wp2;go_roundw
      case rel=>exact ⟨j,by go_num,by omega,a4,aq⟩
      case measure=>first|(simp [intOf];done)|(simp [intOf];omega)
     ·
      have a7:Hid (Bg x xs i=j+1):=by show _=_;rw [ar.out,bc.out,if_neg hL]
      have hL:=Ap7 _▸hL;go_upto_region 7 with (fail)
      have e1:IntKind.i64.wrap (((j+1:Nat):Int)-1)=(j:Int):=by rw [show ((j+1:Nat):Int)-1=j by omega];exact IntWalk.i64_in _ (by omega)
      have a6:IntKind.i64.wrap ((j:Int)+1-1)=(j:Int):=by rw [show (j:Int)+1-1=j by omega];exact IntWalk.i64_in _ (by omega)
      have az:IntKind.i64.wrap (j:Int)=(j:Int):=IntWalk.i64_in _ (by omega);have e2:(0:Int)≤j:=by omega
      have e3:(j:Int)<i:=by omega
      have e4:(j:Int).toNat=j:=by omega
      have f2:(0:Int)≤i:=by omega
      have f3:(i:Int)<n:=by omega
      have f4:(i:Int).toNat=i:=by omega
      have D0:wr.drew.cell? ⟨b,ag+i*3,none⟩=some (.int .i64 x.b):=K0;have D1:wr.drew.cell? ⟨b,ag+i*3+1,none⟩=some (.int .i64 x.s):=K1;have D2:wr.drew.cell? ⟨b,ag+i*3+2,none⟩=some (.int .u64 (x.u:Int)):=K2;have M0:wr.drew.cell? ⟨b2,ab+j*3,none⟩=some (.int .i64 y.b):=m0;have M1:wr.drew.cell? ⟨b2,ab+j*3+1,none⟩=some (.int .i64 y.s):=m1;have M2:wr.drew.cell? ⟨b2,ab+j*3+2,none⟩=some (.int .u64 (y.u:Int)):=m2
      go_region_held3 (fun w'=>w'.cell? ⟨b,ag+i*3,none⟩=some (.int .i64 x.b)∧w'.cell? ⟨b,ag+i*3+1,none⟩=some (.int .i64 x.s)∧w'.cell? ⟨b,ag+i*3+2,none⟩=some (.int .u64 (x.u:Int))∧w'.cell? ⟨b2,ab+j*3,none⟩=some (.int .i64 y.b)∧w'.cell? ⟨b2,ab+j*3+1,none⟩=some (.int .i64 y.s)∧w'.cell? ⟨b2,ab+j*3+2,none⟩=some (.int .u64 (y.u:Int))) ((and_intros<;>assumption)) (first
       |(go_at_call 73;(with_reducible refine (N2 x y _).mono ?_);rintro _ w1 ⟨rfl,af⟩;have D0:=af.cell D0 zq;have D1:=af.cell D1 zq;have D2:=af.cell D2 zq;have M0:=af.cell M0 zq;have M1:=af.cell M1 zq;have M2:=af.cell M2 zq))
      clear e1 a6 az e2 e3 e4 f2 f3 f4;have aq:=(ah.drew).trans af zr;have bh:=aq.size;have bj:=hf.size;have ac:=ae.fr aq zr;have aw:=Own.nil w1 w.heap.size 41 3;have ak:=ac.rd.takeN (m:=j+1) (by omega);rw [Jy Id.cells_len] at ak;have bd:=ac.row;have G0:=aq.cell k0 zq;have G1:=aq.cell k1 zq;have G2:=aq.cell k2 zq;go_upto_region 10 with (fail)
      have nA:∀k,Ac (some (⟨b2,ab,none⟩:Addr))=some k→k<wo.heap.size:=fun k hk=>(ae.row k hk).2
      go_wp2_with (first
       |(at_builtin;go_loud (refine Az (base:=w.heap.size) (.tmp 30) (.tmp 33) 25 rfl rfl rfl rfl Cp aw ak (Id.cells_one _) (by omega) (by omega) (by omega) ?_);intro A1 c1 w2 aj a9 ap;have aa:Fr Non _ w2:=a9.mono (fun k _ hk=>by cases hk);have bf:=aa.size;have H0:=aa.cell G0 zq;have H1:=aa.cell G1 zq;have H2:=aa.cell G2 zq;have ay:∀k,Ac A1=some k→wo.heap.size≤k:=fun k hk=>(by rcases ap with e|e;(rw [e] at hk;cases hk);(rw [e] at hk;injection hk with hk;omega));clear ap;rw [An8,An9] at aj)
       |(at_builtin;go_loud (refine Az (base:=w.heap.size) (.tmp 35) (.tmp 40) 25 rfl rfl rfl rfl Cp (aj.alloc (.cells x.V 41)) (Rd.blk (n:=1) (size:=3) (Blk.new w2 41 x.V) rfl) (by simp [Value.oneCell']) (by omega) (by omega) (by rw [An3];omega) ?_);intro A2 c2 w3 au ax al;have a1:=ax.size;rw [An3] at a1;have a8:∀k,Ac A2=some k→wo.heap.size≤k:=fun k hk=>(by rcases al with e|e;(rw [e] at hk;exact ay k hk);(rw [e,An3] at hk;injection hk with hk;omega));clear al;have ai:=((ac.fr aa zr).alloc (.cells x.V 41)).fr ax (fun k hk e=>by have e1:=ay k e;have e2:=nA k hk;omega))
       |(at_builtin;go_loud (refine Az (base:=w.heap.size) (.tmp 42) (.tmp 45) 25 rfl rfl rfl rfl Cp au (Rd.partN ai.rd (lo:=j+1) (hi:=i) (by omega) (Am9 _) _ (fun hlt=>if_neg (by omega))) (Ia _ _ _) (by omega) (by omega) (by omega) ?_);intro A3 c3 w4 av a2 ba))
      have ao:Hid (ins xs x=An (l.take (i+1))):=by show _=_;rw [bb.out,← a3.out]
      have ad:(xs.take (j+1)).flatMap Id.cells++[.int .i64 x.b,.int .i64 x.s,.int .u64 (x.u:Int)]++((xs.flatMap Id.cells).drop ((j+1)*3)).take ((i-(j+1))*3)=(ins xs x).flatMap Id.cells:=by
       exact Ou xs x a0.out (a7.out)
      have a5:Fr Non w w4:=(((hf.trans aq zr).trans aa zr).alloc (.cells x.V 41)).trans ax (fun k hk e=>by have:=ay k e;omega)|>.trans a2 (fun k hk e=>by have:=a8 k e;omega);go_roundw
      case rel=>exact ⟨i+1,A3,c3,ins xs x,by go_num,by first|rfl|(congr 1;omega),by omega,ao,by show _=_;rw [Ot,a0.out],by rw [← ad,show i+1=j+1+1+(i-(j+1)) by omega];exact av,a5⟩
      case measure=>simp [intOf];omega
  ·
   obtain rfl:i=n:=by omega
   have ao:Hid (xs=An l):=by have h:=a3.out;rw [An2 (by rw [hn.out];omega)] at h;exact h
   go_wp2
   go_ret
   exact ⟨Ax,cx,rfl,by rw [← ao.out];exact ae,hf⟩
end Oq
end
end Go.Proofs.YtkanjaikgphjfaaGreatDoor
