/-
  Contracts of the functions that the claim's statement reaches, walked one by one (part 6).
  Conditions: as each theorem says.
-/
import Derived.Deep.RegionHeld3
import Derived.Deep.DeepCutAuto
import Derived.Test.YtafonabghnogaaaGreatDoorGrM1
import Derived.Test.YtafonabghnogaaaGreatDoorGrM2
import Derived.Test.YtafonabghnogaaaGreatDoorGrM3
import Derived.Test.YtafonabghnogaaaGreatDoorGrM4
import Derived.Test.YtafonabghnogaaaGreatDoorGrM5
set_option maxRecDepth 100000
set_option maxHeartbeats 16000000
open Bool renaming and_eq_true→Al1,false_and→Al7,true_and→Al8,or_eq_true→Am1,eq_iff_iff→Am7
open Int renaming le_trans→Am0,le_max_left→An6
open List renaming getElem?_append_left→Al2,getElem?_map→Al6,mem_of_getElem?→Al9,take_succ_eq_append_getElem→Am9,range→An0,any_append→An1,any_eq_false→An2,mem_cons_self→An3,mem_cons_of_mem→An4,any_eq_true→An5,map_congr_left→An7,take_of_length_le→An8,getElem?_eq_getElem→An9,foldl_append→Ao0,getElem?_eq_none→Ao1,findIdx?_append→Ao2,getElem?_of_mem→Ao3,contains_iff_mem→Ao4
open Nat renaming mod_lt→Al3,mul_mod→Al4,le_refl→Al5,lt_or_ge→Am2,pow_mul→Am3,mod_mod→Am4,add_mod→Am5,pow_mod→Am8
open Go.World renaming size_alloc→Am6
namespace Go.Proofs.YtafonabghnogaaaGreatDoor
section
open Go.RowKit
end
section
open Go.RowKit
attribute [local go_sem ↓] Go.wp_at_zero Go.wp_at_succ
namespace Dv
def Top (u t q s:Nat):Prop:=q*4294967295+s=u∧s<4294967296∧(u*4294967296+t)/18446744073709551600≤q
theorem step (k d u:Nat) (h:(d+1)*k+0=u):d*k+k=u:=by rw [← h,Nat.succ_mul,Nat.add_zero]
theorem next {u t q:Nat} (h:Top u t q 0) (h1:(u*4294967296+t)/18446744073709551600≤q-1) (h0:0<q):Top u t (q-1) 4294967295:=by
 obtain ⟨d,rfl⟩:∃d,q=d+1:=⟨q-1,(Nat.succ_pred_eq_of_pos h0).symm⟩
 obtain ⟨h2,_,_⟩:=h
 rw [Nat.add_sub_cancel] at h1 ⊢
 exact And.intro (step _ _ _ h2) (And.intro (by decide) h1)
theorem rest {W1:Int} (hW1:Hid (4294967295=W1)) {u q1 r1:Nat} (_hu:u<18446744073709551616) (hq1:Hid (u/4294967295=q1)) (hr1:Hid (u-u/4294967295*4294967295=r1)):IntKind.u64.wrap ((u:Int)-IntKind.u64.wrap ((q1:Int)*W1))=(r1:Int):=by
 rw [← hW1.out,IntKind.wrap_u64,IntKind.wrap_u64,← hq1.out,← hr1.out];omega
end Dv
end
section
open Go.RowKit
namespace Sg
def lSigned:List UInt8:=[115,105,103,110,101,100]
def lSig:List UInt8:=[115,105,103]
def lNonce:List UInt8:=[110,111,110,99,101]
def m (bs:List UInt8):Nat:=Hs.ofBytes lSigned bs
def e (r pub:Nat) (bs:List UInt8):Nat:=Hs.of lSig [r,pub,m bs]
def pub (secret:Nat):Nat:=Fd.pow 37 secret
def once (secret:Nat) (bs:List UInt8):Nat:=Hs.secret lNonce [secret,m bs]
def r (secret:Nat) (bs:List UInt8):Nat:=Fd.pow 37 (once secret bs)
def x (secret:Nat) (bs:List UInt8):Nat:=e (r secret bs) (pub secret) bs*secret%2305843009213693950
def s (secret:Nat) (bs:List UInt8):Nat:=(once secret bs+x secret bs)%2305843009213693950
def within (n lo hi:Int):Bool:=decide (lo≤n)&&decide (n≤hi)
def check (pub:Nat) (bs:List UInt8) (R S:Nat):Bool:=
 within pub 1 2305843009213693950&&within R 1 2305843009213693950&&within S 0 2305843009213693949&&(Fd.pow 37 S==Fd.mul R (Fd.pow pub (e R pub bs)))
theorem m_lt (bs:List UInt8):m bs<2305843009213693951:=Hs.of_lt _ _
theorem e_lt (r pub:Nat) (bs:List UInt8):e r pub bs<2305843009213693951:=Hs.of_lt _ _
theorem once_lt (secret:Nat) (bs:List UInt8):once secret bs<2305843009213693950:=Hs.secret_lt _ _
theorem r_lt (secret:Nat) (bs:List UInt8):r secret bs<2305843009213693951:=Fd.pow_lt _ _
theorem x_lt (secret:Nat) (bs:List UInt8):x secret bs<2305843009213693950:=Al3 _ (by omega)
theorem s_lt (secret:Nat) (bs:List UInt8):s secret bs<2305843009213693950:=Al3 _ (by omega)
end Sg
end
section
open Go.RowKit Go.Shelf
attribute [local go_sem ↓] Go.wp_at_zero Go.wp_at_succ
def Vo (m e:Nat) (w:World) (r:Ending) (w':World):Prop:=r=.returned (.tuple #[.int .u64 (m:Int),.int .u64 (e:Int)])∧Fr Non w w'
theorem Vp (pub r B n c:Nat) (A:Option Addr) (bs:List UInt8) (w:World) (hp:pub<18446744073709551616) (hr0:r<18446744073709551616) (hlen:Hid (bs.length=n)) (hnc:n≤c) (hn:n≤1099511627775) (hB:B≤w.heap.size) (hr:Rd w B 1 A n (bs.map Bv)):
  Calls Tryz.prog 173 #[.int .u64 (pub:Int),.int .u64 (r:Int),.slice A n c] w (Vo (Sg.m bs) (Sg.e r pub bs) w):=by
 have he:Hid (Sg.e r pub bs=Hs.of Sg.lSig [r,pub,Sg.m bs]):=rfl
 have hm:=Sg.m_lt bs
 have hby:=Lib.hid (Om Sg.lSigned B n c A bs w hlen hnc hn (by decide) hB hr)
 have hmm:Hid (Hs.ofBytes Sg.lSigned bs=Sg.m bs):=rfl
 rw [hmm.out] at hby
 obtain ⟨v,hv⟩:=Aa (Sg.m bs)
 rw [hv.out] at he hm hby
 rw [he.out,hv.out]
 go_enter Tryz.func173,Tryz.ntmps173
 go_wp2_with (fail)
 refine hby.out.mono ?_
 rintro _ w1 ⟨rfl,hf1⟩
 go_wp2_with (fail)
 have hnew:=Blk.new w1 23 #[.int .u64 (r:Int),.int .u64 (pub:Int),.int .u64 (v:Int)]
 have hrd:Rd (w1.alloc (.cells #[.int .u64 (r:Int),.int .u64 (pub:Int),.int .u64 (v:Int)] 23)) (w1.heap.size+1) 1 (some ⟨w1.heap.size,0,none⟩) 3 ([r,pub,v].map Wv):=by
  refine ⟨rfl,.inr ⟨w1.heap.size,0,rfl,by omega,fun j u hu=> ?_⟩⟩
  rw [hnew.cell]
  match j,hu with
  |0,hu=>simpa [Wv] using hu
  |1,hu=>simpa [Wv] using hu
  |2,hu=>simpa [Wv] using hu
 refine (H5 Sg.lSig [r,pub,v] _ 3 3 _ _ rfl (by decide) (by omega) hrd (by simp;omega)).mono ?_
 rintro _ w2 ⟨rfl,hf2⟩
 go_wp2
 go_ret2
 exact ⟨rfl,(hf1.alloc _).trans hf2 zr⟩
def Dz (R S:Nat):Value:=.agg #[.int .u64 (R:Int),.int .u64 (S:Int)]
def Ow (secret:Nat) (bs:List UInt8) (w:World) (r:Ending) (w':World):Prop:=r=.returned (Dz (Sg.r secret bs) (Sg.s secret bs))∧Fr Non w w'
theorem Kg (n lo hi:Int) (b:Bool) (w:World) (hb:Hid (Sg.within n lo hi=b)):
  Calls Tryz.prog 172 #[.int .u64 n,.int .u64 lo,.int .u64 hi] w fun e w'=>e=.returned (.bool b)∧w=w':=by
 have hb':=hb.out
 unfold Sg.within at hb'
 by_cases h1:lo≤n
 ·
  by_cases h2:n≤hi
  ·
   have hbb:Hid (true=b):=by rw [← hb'];simp [h1,h2,Hid]
   clear hb' hb
   go_enter Tryz.func172,Tryz.ntmps172
   go_wp2
   go_ret
   exact ⟨congrArg (fun z=>Ending.returned (.bool z)) (Eq.trans (by first|simp|(simp;omega)) hbb.out),rfl⟩
  ·
   have hbb:Hid (false=b):=by rw [← hb'];simp [h2,Hid]
   clear hb' hb
   go_enter Tryz.func172,Tryz.ntmps172
   go_wp2
   go_ret
   exact ⟨congrArg (fun z=>Ending.returned (.bool z)) (Eq.trans (by first|simp|(simp;omega)) hbb.out),rfl⟩
 ·
  have hbb:Hid (false=b):=by rw [← hb'];simp [h1,Hid]
  clear hb' hb
  go_enter Tryz.func172,Tryz.ntmps172
  go_wp2
  go_ret
  exact ⟨congrArg (fun z=>Ending.returned (.bool z)) hbb.out,rfl⟩
theorem Kh (pub R S B n c:Nat) (A:Option Addr) (bs:List UInt8) (w:World) (hp:pub<18446744073709551616) (hR:R<18446744073709551616) (hS:S<18446744073709551616) (hlen:Hid (bs.length=n)) (hnc:n≤c) (hn:n≤1099511627775) (hB:B≤w.heap.size) (hr:Rd w B 1 A n (bs.map Bv)):
  Calls Tryz.prog 124 #[.int .u64 (pub:Int),.slice A n c,Dz R S] w (Af (Sg.check pub bs R S) w):=by
 unfold Dz
 have hck:Hid (Sg.check pub bs R S=(Sg.within pub 1 2305843009213693950&&Sg.within R 1 2305843009213693950&&Sg.within S 0 2305843009213693949&&(Fd.pow 37 S==Fd.mul R (Fd.pow pub (Sg.e R pub bs))))):=rfl
 have hb0:=Blk.new w 25 #[.int .u64 (R:Int),.int .u64 (S:Int)]
 have hf0:Fr Non w (w.alloc (.cells #[.int .u64 (R:Int),.int .u64 (S:Int)] 25)):=(Fr.refl _ _).alloc _
 have c0:=hb0.cell 0
 have c1:=hb0.cell 1
 have hr0:=hr.alloc (.cells #[.int .u64 (R:Int),.int .u64 (S:Int)] 25)
 obtain ⟨b1,h1⟩:=Aa (Sg.within pub 1 2305843009213693950)
 obtain ⟨b2,h2⟩:=Aa (Sg.within R 1 2305843009213693950)
 obtain ⟨b3,h3⟩:=Aa (Sg.within S 0 2305843009213693949)
 have k1:=Lib.hid (fun w=>Kg pub 1 2305843009213693950 b1 w h1)
 have k2:=Lib.hid (fun w=>Kg R 1 2305843009213693950 b2 w h2)
 have k3:=Lib.hid (fun w=>Kg S 0 2305843009213693949 b3 w h3)
 rw [h1.out,h2.out,h3.out] at hck
 cases b1 with
 |false=>
  rw [Al7,Al7,Al7] at hck
  rw [hck.out]
  go_enter Tryz.func124,Tryz.ntmps124
  go_wp2_with (first|(go_at_call 172;refine (k1.out _).mono ?_;rintro _ _ ⟨rfl,rfl⟩))
  go_ret
  exact ⟨rfl,hf0⟩
 |true=>
  cases b2 with
  |false=>
   rw [Al8,Al7,Al7] at hck
   rw [hck.out]
   go_enter Tryz.func124,Tryz.ntmps124
   go_wp2_with (first|(go_at_call 172;(with_reducible refine (k1.out _).mono ?_);rintro _ _ ⟨rfl,rfl⟩)|(go_at_call 172;(with_reducible refine (k2.out _).mono ?_);rintro _ _ ⟨rfl,rfl⟩))
   go_ret
   exact ⟨rfl,hf0⟩
  |true=>
   cases b3 with
   |false=>
    rw [Al8,Al8,Al7] at hck
    rw [hck.out]
    go_enter Tryz.func124,Tryz.ntmps124
    go_wp2_with (first|(go_at_call 172;(with_reducible refine (k1.out _).mono ?_);rintro _ _ ⟨rfl,rfl⟩)|(go_at_call 172;(with_reducible refine (k2.out _).mono ?_);rintro _ _ ⟨rfl,rfl⟩)|(go_at_call 172;(with_reducible refine (k3.out _).mono ?_);rintro _ _ ⟨rfl,rfl⟩))
    go_ret
    exact ⟨rfl,hf0⟩
   |true=>
    rw [Al8,Al8,Al8] at hck
    have le:=Sg.e_lt R pub bs
    go_enter Tryz.func124,Tryz.ntmps124
    go_wp2_with (first|(go_at_call 172;(with_reducible refine (k1.out _).mono ?_);rintro _ _ ⟨rfl,rfl⟩)|(go_at_call 172;(with_reducible refine (k2.out _).mono ?_);rintro _ _ ⟨rfl,rfl⟩)|(go_at_call 172;(with_reducible refine (k3.out _).mono ?_);rintro _ _ ⟨rfl,rfl⟩))
    refine (Vp pub R B n c A bs _ hp hR hlen hnc hn (by simp;omega) hr0).mono ?_
    rintro _ w1 ⟨rfl,hf1⟩
    have hb1:=hb0.fr hf1 zq
    have hff:=hf0.trans hf1 zr
    obtain ⟨E,hE⟩:=Aa (Sg.e R pub bs)
    rw [hE.out] at le hck
    rw [hE.out]
    generalize Sg.m bs=m0
    have p1:=Lib.hid (fun w=>Kc 37 S w (by omega) hS)
    have p2:=Lib.hid (fun w=>Kc pub E w hp (by omega))
    have lq:=Fd.pow_lt pub E
    obtain ⟨q,hq⟩:=Aa (Fd.pow pub E)
    obtain ⟨t,ht⟩:=Aa (Fd.pow 37 S)
    rw [hq.out] at p2 lq hck
    rw [ht.out] at p1 hck
    have p3:=Lib.hid (fun w=>Hu R q hR (by omega) w)
    obtain ⟨v,hv⟩:=Aa (Fd.mul R q)
    rw [hv.out] at p3 hck
    have p1':Hid (∀w,Calls Tryz.prog 174 #[.int .u64 37,.int .u64 (S:Int)] w (Cf t w)):=p1.out
    have hb1d:Blk w1.drew w.heap.size 25 #[.int .u64 (R:Int),.int .u64 (S:Int)]:=hb1
    have d0:=hb1d.cell 0
    have d1:=hb1d.cell 1
    clear c0 c1
    go_wp2_with (fail)
    go_region_held3 (fun w'=>w'.cell? ⟨w.heap.size,0,none⟩=some (.int .u64 (R:Int))∧w'.cell? ⟨w.heap.size,1,none⟩=some (.int .u64 (S:Int))) (go_keep) (first
     |(go_at_call 174;(with_reducible refine (p1'.out _).mono ?_);rintro _ w2 ⟨rfl,hf2⟩;have g0:=hf2.cell d0 zq;have g1:=hf2.cell d1 zq)
     |(go_at_call 174;(with_reducible refine (p2.out _).mono ?_);rintro _ w3 ⟨rfl,hf3⟩;have g0':=hf3.cell g0 zq;have g1':=hf3.cell g1 zq)
     |(go_at_call 175;(with_reducible refine (p3.out _).mono ?_);rintro _ _ ⟨rfl,rfl⟩))
    go_wp2
    go_ret
    refine ⟨congrArg (fun z=>Ending.returned (.bool z)) ?_,(((hff.drew.trans hf2 zr).trans hf3 zr))⟩
    rw [hck.out,Am7]
    simp only [beq_iff_eq]
    exact Int.ofNat_inj
end
namespace Sg
theorem Vq {M:Nat} (hM:M=2305843009213693950):37^M%2305843009213693951=1:=by
 have h:=Fd.pow_eq 37 M (by omega)
 rw [← h,hM]
 decide+kernel
theorem pow_one {M:Nat} (hM:M=2305843009213693950) (k:Nat):(37^M)^k%2305843009213693951=1:=by
 rw [Am8,Vq hM,Nat.one_pow]
theorem Vr {M:Nat} (hM:M=2305843009213693950) (k:Nat):37^(k%M)%2305843009213693951=37^k%2305843009213693951:=by
 conv=>rhs;rw [← Nat.div_add_mod k M,Nat.pow_add,Am3,Al4,pow_one hM,Nat.one_mul,Am4]
theorem Vs (k:Nat):37^(k%2305843009213693950)%2305843009213693951=37^k%2305843009213693951:=Vr rfl k
theorem Vt {M:Nat} (hM:M=2305843009213693950) (k:Nat):37^k%2305843009213693951≠0:=by
 intro h
 have h1:(37^k)^M%2305843009213693951=1:=by rw [← Am3,Nat.mul_comm,Am3];exact pow_one hM k
 rw [Am8,h,Nat.zero_pow (by omega)] at h1
 simp at h1
theorem Vu (k:Nat):37^k%2305843009213693951≠0:=Vt rfl k
theorem Ox {k:Nat} (hk:k<18446744073709551616):1≤Fd.pow 37 k:=by
 rw [Fd.pow_eq 37 k hk]
 exact Nat.one_le_iff_ne_zero.2 (Vu k)
theorem sides {x o e:Nat} (hx:x<18446744073709551616) (ho:o<18446744073709551616) (he:e<18446744073709551616):
  Fd.pow 37 ((o+e*x%2305843009213693950)%2305843009213693950)=Fd.mul (Fd.pow 37 o) (Fd.pow (Fd.pow 37 x) e):=by
 have hs:(o+e*x%2305843009213693950)%2305843009213693950=(o+e*x)%2305843009213693950:=by rw [Nat.add_mod_mod]
 have hlt:(o+e*x)%2305843009213693950<18446744073709551616:=by have:=Al3 (o+e*x) (show 0<2305843009213693950 by omega);omega
 rw [hs,Fd.pow_eq _ _ hlt,Vs,Nat.pow_add]
 unfold Fd.mul
 rw [Fd.pow_eq _ _ ho,Fd.pow_eq _ _ he,Fd.pow_eq _ _ hx,← Am8,← Al4,← Am3,Nat.mul_comm x e]
theorem within_yes {n lo hi:Nat} (h1:lo≤n) (h2:n≤hi):within n lo hi=true:=by
 unfold within
 simp;omega
theorem takes (x:Nat) (bs:List UInt8) (hx:x<18446744073709551616):check (pub x) bs (r x bs) (s x bs)=true:=by
 have lo:=once_lt x bs
 have lr:=r_lt x bs
 have ls:=s_lt x bs
 have lp:=Fd.pow_lt 37 x
 have le:=e_lt (r x bs) (pub x) bs
 have p1:1≤Fd.pow 37 x:=Ox hx
 have p2:1≤r x bs:=Ox (by omega)
 have w1:within (pub x) 1 2305843009213693950=true:=within_yes (lo:=1) (hi:=2305843009213693950) p1 (by unfold pub;omega)
 have w2:within (r x bs) 1 2305843009213693950=true:=within_yes (lo:=1) (hi:=2305843009213693950) p2 (by omega)
 have w3:within (s x bs) 0 2305843009213693949=true:=within_yes (lo:=0) (hi:=2305843009213693949) (by omega) (by omega)
 unfold check
 rw [w1,w2,w3]
 have h:=sides (x:=x) (o:=once x bs) (e:=e (r x bs) (pub x) bs) hx (by omega) (by omega)
 have hs:s x bs=(once x bs+e (r x bs) (pub x) bs*x%2305843009213693950)%2305843009213693950:=rfl
 have hr:r x bs=Fd.pow 37 (once x bs):=rfl
 rw [hs,h,← hr]
 simp [pub]
end Sg
section
open Go.RowKit
attribute [local go_sem ↓] Go.wp_at_zero Go.wp_at_succ
namespace R8
theorem step (M o x h:Nat):((o+x)%M+(x+x)%M*h)%M=(o+x*(2*h+1))%M:=by
 have e:o+x*(2*h+1)=(o+x)+(x+x)*h:=by rw [Nat.mul_add,Nat.add_mul,Nat.mul_one,← Nat.mul_assoc,Nat.mul_two,Nat.add_mul];omega
 rw [e,Am5 (o+x) ((x+x)*h),Al4 (x+x) h,Am5 ((o+x)%M),Am4,Al4 ((x+x)%M),Am4]
theorem step0 (M o x h:Nat):(o+(x+x)%M*h)%M=(o+x*(2*h))%M:=by
 have e:x*(2*h)=(x+x)*h:=by rw [← Nat.mul_assoc,Nat.mul_two]
 rw [e,Am5 o ((x+x)*h),Al4 (x+x) h,Am5 o,Al4 ((x+x)%M),Am4]
end R8
theorem H8 (w:World):Calls Tryz.prog 101 #[] w fun e w'=>e=.returned (.int .u64 2305843009213693950)∧w=w':=by
 go_enter Tryz.func101,Tryz.ntmps101
 go_wp2
 go_ret
 exact ⟨rfl,rfl⟩
theorem Vv (a b:Nat) (w:World):Calls Tryz.prog 99 #[.int .u64 (a:Int),.int .u64 (b:Int)] w fun e w'=>e=.returned (.int .u64 ((a*b%2305843009213693950:Nat):Int))∧w=w':=by
 obtain ⟨x,hx⟩:=Aa (a%2305843009213693950)
 obtain ⟨y,hy⟩:=Aa (b%2305843009213693950)
 have lx:x<2305843009213693950:=by rw [← hx.out];exact Al3 _ (by omega)
 have ly:y<2305843009213693950:=by rw [← hy.out];exact Al3 _ (by omega)
 have hres:Hid ((0+x*y)%2305843009213693950=a*b%2305843009213693950):=by show _=_;rw [Nat.zero_add,← hx.out,← hy.out,← Al4]
 obtain ⟨r,hr⟩:=Aa (a*b%2305843009213693950)
 rw [hr.out] at hres ⊢
 obtain ⟨fa,fa'⟩:=R1.nn 2305843009213693950 rfl hx.out
 obtain ⟨fb,fb'⟩:=R1.nn 2305843009213693950 rfl hy.out
 have z1:¬(2305843009213693950:Int)=0:=by decide
 have ho:Hid (∀w,Calls Tryz.prog 101 #[] w fun e w'=>e=.returned (.int .u64 2305843009213693950)∧w=w'):=fun w=>H8 w
 clear hx hy
 go_enter Tryz.func99,Tryz.ntmps99
 unfold Hid at ho
 generalize eM:(2305843009213693950:Int)=M at*
 have hM:=Lib.hid eM
 have ho':=Lib.hid ho
 clear eM ho
 go_wp2_with (fail)
 refine (ho'.out _).mono ?_
 rintro _ _ ⟨rfl,rfl⟩
 go_wp2_with (fail)
 refine (ho'.out _).mono ?_
 rintro _ _ ⟨rfl,rfl⟩
 go_wp2_with (fail)
 go_loopw [0,1,5] (fun p q o wr=>∃x' y' o':Nat,p=.int .u64 (x':Int)∧q=.int .u64 (y':Int)∧o=.int .u64 (o':Int)∧x'<2305843009213693950∧y'<2305843009213693950∧o'<2305843009213693950∧Hid ((o'+x'*y')%2305843009213693950=r)∧wr=w) (fun _ q _ _=>(intOf q).toNat)
 case atStart=>exact ⟨x,y,0,rfl,rfl,rfl,lx,ly,by omega,hres,rfl⟩
 case round=>
  obtain ⟨x',y',o',rfl,rfl,rfl,lx',ly',lo',hd,rfl⟩:=hrel
  by_cases hz:y'=0
  ·
   subst hz
   have e:o'=r:=by have h:=hd.out;rw [Nat.mul_zero,Nat.add_zero,Nat.mod_eq_of_lt lo'] at h;exact h
   go_wp2
   go_ret
   exact ⟨by rw [← e];rfl,rfl⟩
  ·
   have hyp:(0:Int)<(y':Int):=by omega
   have l1:(o'+x')%2305843009213693950<2305843009213693950:=Al3 _ (by omega)
   have l2:(x'+x')%2305843009213693950<2305843009213693950:=Al3 _ (by omega)
   have s1:=R8.step 2305843009213693950 o' x' (y'/2)
   have s0:=R8.step0 2305843009213693950 o' x' (y'/2)
   obtain ⟨ox,hox⟩:=Aa ((o'+x')%2305843009213693950)
   obtain ⟨xx,hxx⟩:=Aa ((x'+x')%2305843009213693950)
   obtain ⟨g1,g1'⟩:=R1.nn M hM.out hox.out
   obtain ⟨g2,g2'⟩:=R1.nn M hM.out hxx.out
   rw [Int.natCast_add] at g1 g1' g2 g2'
   rw [hox.out] at l1 s1
   rw [hxx.out] at l2 s1 s0
   have s1':=Lib.hid s1
   have s0':=Lib.hid s0
   clear s1 s0
   have hparity:y'%2=1∨y'%2=0:=by omega
   rcases hparity with hp|hp
   ·
    have hpz:((y':Int)%2==1)=true:=by simp;omega
    have hd2:Hid ((ox+xx*(y'/2))%2305843009213693950=r):=by show _=_;rw [s1'.out,show 2*(y'/2)+1=y' by omega];exact hd.out
    clear hd hp
    go_wp2_with (first|(go_at_call 101;refine (ho'.out _).mono ?_;rintro _ _ ⟨rfl,rfl⟩))
    exact ⟨⟨xx,y'/2,ox,rfl,by go_num,rfl,l2,by omega,l1,hd2,by first|rfl|trivial⟩,by simp [intOf];omega⟩
   ·
    have hpz:((y':Int)%2==1)=false:=by simp;omega
    have hd2:Hid ((o'+xx*(y'/2))%2305843009213693950=r):=by show _=_;rw [s0'.out,show 2*(y'/2)=y' by omega];exact hd.out
    clear hd hp
    go_wp2_with (first|(go_at_call 101;refine (ho'.out _).mono ?_;rintro _ _ ⟨rfl,rfl⟩))
    exact ⟨⟨xx,y'/2,o',rfl,by go_num,rfl,l2,by omega,lo',hd2,by first|rfl|trivial⟩,by simp [intOf];omega⟩
theorem H9 (n:Nat) (w:World) (hn:n<18446744073709551616):Calls Tryz.prog 89 #[.int .u64 (n:Int)] w (Cf (Sg.pub n) w):=by
 have hp:Hid (∀w,Calls Tryz.prog 98 #[.int .u64 37,.int .u64 (n:Int)] w fun e w'=>e=.returned (.int .u64 (Sg.pub n:Int))∧∃k,w'=w.drewN k):=fun w=>Gt 37 n w (by omega) hn
 go_enter Tryz.func89,Tryz.ntmps89
 go_wp2_with (fail)
 refine (hp.out _).mono ?_
 rintro _ _ ⟨rfl,k,rfl⟩
 go_wp2
 go_ret
 exact ⟨rfl,(Fr.refl _ _).drewN _⟩
theorem Oy (B n c:Nat) (A:Option Addr) (bs:List UInt8) (w:World) (hlen:Hid (bs.length=n)) (hn:n≤1099511627775) (hB:B≤w.heap.size) (hr:Rd w B 1 A n (bs.map Bv)):
  Calls Tryz.prog 97 #[.slice A n c] w (Cf (Sg.m bs) w):=by
 have hby:Hid (Calls Tryz.prog 87 #[.string ⟨#[115,105,103,110,101,100]⟩,.slice A n c] w (Cf (Sg.m bs) w)):=Ot Sg.lSigned B n c A bs w hlen hn (by decide) hB hr
 go_enter Tryz.func97,Tryz.ntmps97
 go_wp2_with (fail)
 refine hby.out.mono ?_
 rintro _ w1 ⟨rfl,hf1⟩
 go_wp2
 go_ret
 exact ⟨rfl,hf1⟩
theorem Oz (r pub B n c:Nat) (A:Option Addr) (bs:List UInt8) (w:World) (hr0:r<18446744073709551616) (hp:pub<18446744073709551616) (hlen:Hid (bs.length=n)) (hn:n≤1099511627775) (hB:B≤w.heap.size) (hr:Rd w B 1 A n (bs.map Bv)):
  Calls Tryz.prog 100 #[.int .u64 (r:Int),.int .u64 (pub:Int),.slice A n c] w (Cf (Sg.e r pub bs) w):=by
 have he:Hid (Sg.e r pub bs=Hs.of Sg.lSig [r,pub,Sg.m bs]):=rfl
 have hm:=Sg.m_lt bs
 have hby:=Lib.hid (Oy B n c A bs w hlen hn hB hr)
 obtain ⟨v,hv⟩:=Aa (Sg.m bs)
 rw [hv.out] at he hm hby
 rw [he.out]
 go_enter Tryz.func100,Tryz.ntmps100
 go_wp2_with (fail)
 refine hby.out.mono ?_
 rintro _ w1 ⟨rfl,hf1⟩
 go_wp2_with (fail)
 have hnew:=Blk.new w1 23 #[.int .u64 (r:Int),.int .u64 (pub:Int),.int .u64 (v:Int)]
 have hrd:Rd (w1.alloc (.cells #[.int .u64 (r:Int),.int .u64 (pub:Int),.int .u64 (v:Int)] 23)) (w1.heap.size+1) 1 (some ⟨w1.heap.size,0,none⟩) 3 ([r,pub,v].map Wv):=by
  refine ⟨rfl,.inr ⟨w1.heap.size,0,rfl,by omega,fun j u hu=> ?_⟩⟩
  rw [hnew.cell]
  match j,hu with
  |0,hu=>simpa [Wv] using hu
  |1,hu=>simpa [Wv] using hu
  |2,hu=>simpa [Wv] using hu
 refine (Ke Sg.lSig [r,pub,v] _ 3 3 _ _ rfl (by decide) (by omega) hrd (by simp;omega)).mono ?_
 rintro _ w2 ⟨rfl,hf2⟩
 go_wp2
 go_ret
 exact ⟨rfl,(hf1.alloc _).trans hf2 zr⟩
theorem Vw (o X S:Nat) (ho:o<2305843009213693950) (hX:X<2305843009213693950) (hS:Hid ((o+X)%2305843009213693950=S)):((o:Int)+(X:Int))%2305843009213693950=(S:Int)∧((o:Int)+(X:Int)).tmod 2305843009213693950=(S:Int):=by
 have h2:((o:Int)+(X:Int))%2305843009213693950=(S:Int):=by rw [← hS.out];omega
 exact ⟨h2,by rw [Int.tmod_eq_emod_of_nonneg (by omega),h2]⟩
theorem Vx (secret B n c:Nat) (A:Option Addr) (bs:List UInt8) (w:World) (hs:secret<18446744073709551616) (hlen:Hid (bs.length=n)) (hn:n≤1099511627775) (hB:B≤w.heap.size) (hr:Rd w B 1 A n (bs.map Bv)):
  Calls Tryz.prog 60 #[.int .u64 (secret:Int),.slice A n c] w (Ow secret bs w):=by
 have hb0:=Blk.new w 25 #[.int .u64 0,.int .u64 0]
 have hf0:Fr Non w (w.alloc (.cells #[.int .u64 0,.int .u64 0] 25)):=(Fr.refl _ _).alloc _
 have hr0:=hr.alloc (.cells #[.int .u64 0,.int .u64 0] 25)
 have lp:=Fd.pow_lt 37 secret
 have lm:=Sg.m_lt bs
 have lo:=Sg.once_lt secret bs
 have lr:=Sg.r_lt secret bs
 have hx1:Hid (Sg.x secret bs=Sg.e (Sg.r secret bs) (Sg.pub secret) bs*secret%2305843009213693950):=rfl
 have hs1:Hid ((Sg.once secret bs+Sg.x secret bs)%2305843009213693950=Sg.s secret bs):=rfl
 have lx:=Sg.x_lt secret bs
 have ls:=Sg.s_lt secret bs
 have hpow:Hid (∀w,Calls Tryz.prog 98 #[.int .u64 37,.int .u64 (Sg.once secret bs:Int)] w fun e w'=>e=.returned (.int .u64 (Sg.r secret bs:Int))∧∃k,w'=w.drewN k):=fun w=>Gt 37 (Sg.once secret bs) w (by omega) (by omega)
 have lp':Sg.pub secret<2305843009213693951:=lp
 have le:=Sg.e_lt (Sg.r secret bs) (Sg.pub secret) bs
 have honce:Hid (Sg.once secret bs=Hs.secret Sg.lNonce [secret,Sg.m bs]):=rfl
 have hpubc:=Lib.hid (fun w=>H9 secret w hs)
 obtain ⟨P,hP⟩:=Aa (Sg.pub secret)
 obtain ⟨m,hm⟩:=Aa (Sg.m bs)
 obtain ⟨o,ho⟩:=Aa (Sg.once secret bs)
 obtain ⟨R,hR⟩:=Aa (Sg.r secret bs)
 rw [hR.out,hP.out] at hx1 le
 rw [hR.out,ho.out] at hpow
 rw [ho.out] at hs1 lo honce
 rw [hm.out] at honce lm
 rw [hR.out] at lr
 rw [hP.out] at lp' hpubc
 obtain ⟨E,hE⟩:=Aa (Sg.e R P bs)
 rw [hE.out] at hx1 le
 have htimes:Hid (∀w,Calls Tryz.prog 99 #[.int .u64 (E:Int),.int .u64 (secret:Int)] w fun e w'=>e=.returned (.int .u64 (Sg.x secret bs:Int))∧w=w'):=fun w=>by rw [hx1.out];exact Vv E secret w
 obtain ⟨X,hX⟩:=Aa (Sg.x secret bs)
 obtain ⟨S,hS⟩:=Aa (Sg.s secret bs)
 rw [hX.out] at htimes lx hs1
 rw [hS.out] at hs1 ls
 obtain ⟨v1,v2⟩:=Vw o X S lo lx hs1
 have hord:Hid (∀w,Calls Tryz.prog 101 #[] w fun e w'=>e=.returned (.int .u64 2305843009213693950)∧w=w'):=fun w=>H8 w
 have z1:¬(2305843009213693950:Int)=0:=by decide
 go_enter Tryz.func60,Tryz.ntmps60
 go_wp2_with (fail)
 refine (Oy B n c A bs _ hlen hn (by simp;omega) hr0).mono ?_
 rw [hm.out]
 rintro _ w2 ⟨rfl,hf2⟩
 go_wp2_with (fail)
 have hnew:=Blk.new w2 23 #[.int .u64 (secret:Int),.int .u64 (m:Int)]
 have hrd:Rd (w2.alloc (.cells #[.int .u64 (secret:Int),.int .u64 (m:Int)] 23)) (w2.heap.size+1) 1 (some ⟨w2.heap.size,0,none⟩) 2 ([secret,m].map Wv):=by
  refine ⟨rfl,.inr ⟨w2.heap.size,0,rfl,by omega,fun j u hu=> ?_⟩⟩
  rw [hnew.cell]
  match j,hu with
  |0,hu=>simpa [Wv] using hu
  |1,hu=>simpa [Wv] using hu
 refine (Ou Sg.lNonce [secret,m] _ 2 2 _ _ rfl (by decide) (by omega) hrd (by simp;omega)).mono ?_
 rw [← honce.out]
 rintro _ w3 ⟨rfl,hf3⟩
 go_wp2_with (fail)
 refine (hpow.out _).mono ?_
 rintro _ _ ⟨rfl,k4,rfl⟩
 go_wp2_with (fail)
 refine (hpubc.out _).mono ?_
 rintro _ w4 ⟨rfl,hf4⟩
 have hz2:=hf2.size
 have hz3:=hf3.size
 have hz4:=hf4.size
 simp only [Am6] at hz2 hz3
 have hz4':w3.heap.size≤w4.heap.size:=hz4
 have hr4:=((((hr0.fr hf2 zr).alloc (.cells #[.int .u64 (secret:Int),.int .u64 (m:Int)] 23)).fr hf3 zr).drewN k4).fr hf4 zr
 go_wp2_with (fail)
 refine (Oz R P B n c A bs w4 (by omega) (by omega) hlen hn (by omega) hr4).mono ?_
 rw [hE.out]
 rintro _ w5 ⟨rfl,hf5⟩
 go_wp2_with (fail)
 refine (htimes.out _).mono ?_
 rintro _ _ ⟨rfl,rfl⟩
 unfold Hid at hord
 generalize (2305843009213693950:Int)=M at*
 have hord':=Lib.hid hord
 clear hord
 go_wp2_with (fail)
 refine (hord'.out _).mono ?_
 rintro _ _ ⟨rfl,rfl⟩
 have hb6:=(((((hb0.fr hf2 zq).alloc (.cells #[.int .u64 (secret:Int),.int .u64 (m:Int)] 23)).fr hf3 zq).drewN k4).fr hf4 zq).fr hf5 zq
 have hff:=(((((hf0.trans hf2 zr).alloc (.cells #[.int .u64 (secret:Int),.int .u64 (m:Int)] 23)).trans hf3 zr).drewN k4).trans hf4 zr).trans hf5 zr
 have hc0:=hb6.cell 0
 have hc1:=hb6.cell 1
 have hz0:=hb6.frozen 0
 have hz1:=hb6.frozen 1
 go_wp2
 refine Dq rfl rfl ((hb6.set 0 _).set 1 _) rfl Tryz.underlying25 (by kernel_rfl) rfl ⟨?_,(hff.setNew (Al5 _) _ _).setNew (Al5 _) _ _⟩
 rw [hR.out,hS.out]
 rfl
namespace Oq
attribute [local go_sem ↓] Ci
attribute [local go_sem] Bool.not_false Bool.not_true
theorem Bj {P:Program} {Q:Exit→Act→World→Prop} {ops:Array Oper} {md:Region.Mode} {S:World→Prop} {fuel:Nat} {listed:Array Bool} {a:Act} {w:World} (i:Nat) {o:Oper} (hr:Region.ready md ops listed=[i]) (ho:ops[i]? =some o)
  (hw:Region.wanted o (yielded ops a.tmps)=true)
  (h:∀K':Act→World→Prop,Shut (∀a w,S w→(S w→wpAnyH P md ops Q S fuel (listed.setIfInBounds i true) a w)→K' a w)→Oper.wp P o a w K' Q):
  wpAnyH P md ops Q S (fuel+1) listed a w:=
 wpAnyH_ready hr (by simp) (AllReadyH.cons ho (fun K' hK=>by rw [if_pos hw];exact h K' hK) AllReadyH.nil)
def sec (kind:List UInt8) (u:Nat):Nat:=Hs.secret kind [u]
theorem Gu (kind:List UInt8) (u:Nat):sec kind u<2305843009213693950:=Hs.secret_lt _ _
theorem O4 (kind:List UInt8) (d:Int) (u:Nat) (w:World) (hu:IntKind.u64.wrap d=(u:Int)) (hu':u<18446744073709551616) (hk:kind.length≤1000):
  Calls Tryz.prog 61 #[.string (str kind),.int .i64 d] w (Cf (sec kind u) w):=by
 have hb:=Blk.new w 23 #[.int .u64 (u:Int)]
 have hr:Rd (w.alloc (.cells #[.int .u64 (u:Int)] 23)) (w.alloc (.cells #[.int .u64 (u:Int)] 23)).heap.size 1 (some ⟨w.heap.size,0,none⟩) 1 ([u].map Wv):=Rd.blk (n:=1) (size:=1) (l:=[.int .u64 (u:Int)]) hb rfl
 have hf:Fr Non w (w.alloc (.cells #[.int .u64 (u:Int)] 23)):=(Fr.refl Non w).alloc _
 obtain ⟨st,hst⟩:=Aa (str kind)
 have k:=Lib.hid (Ou kind [u] (some ⟨w.heap.size,0,none⟩) 1 1 _ _ rfl (by omega) (by omega) hr (by simp;omega))
 rw [hst.out] at k ⊢
 go_enter Tryz.func61,Tryz.ntmps61
 go_wp2_with (fail)
 refine k.out.mono ?_
 rintro _ w1 ⟨rfl,f1⟩
 go_wp2
 go_ret
 exact ⟨rfl,hf.trans f1 zr⟩
theorem O5 (d m:Int) (ld kp sg:Nat) (x:OpL) (w:World) (hat:x.at w w.heap.size) (hok:x.op.ok) (hsg:sg<18446744073709551616):
  Calls Tryz.prog 70 #[.agg #[.int .i64 d,.int .i64 m,.int .u64 (ld:Int),.int .u64 (kp:Int),.int .u64 (sg:Int)],.agg x.cells] w (Af ((x.by_==d)&&Sg.check sg x.op.bare x.r x.s) w):=by
 have hsz:x.cells.size=27:=rfl
 obtain ⟨CS,hCS⟩:=Aa x.cells
 have e0:Hid (CS[0]? =some (.int .i64 x.by_)):=by show _=_;rw [← hCS.out];rfl
 have e25:Hid (CS[25]? =some (.int .u64 (x.r:Int))):=by show _=_;rw [← hCS.out];rfl
 have e26:Hid (CS[26]? =some (.int .u64 (x.s:Int))):=by show _=_;rw [← hCS.out];rfl
 have bc0:Blk ((w.alloc (.cells #[.int .i64 d,.int .i64 m,.int .u64 (ld:Int),.int .u64 (kp:Int),.int .u64 (sg:Int)] 81)).alloc (.cells x.cells 44)).drew w.heap.size 81 #[.int .i64 d,.int .i64 m,.int .u64 (ld:Int),.int .u64 (kp:Int),.int .u64 (sg:Int)]:=((Blk.new w 81 _).alloc _).drew
 have bx0:Blk ((w.alloc (.cells #[.int .i64 d,.int .i64 m,.int .u64 (ld:Int),.int .u64 (kp:Int),.int .u64 (sg:Int)] 81)).alloc (.cells x.cells 44)).drew (w.heap.size+1) 44 x.cells:=by
  have:=(Blk.new (w.alloc (.cells #[.int .i64 d,.int .i64 m,.int .u64 (ld:Int),.int .u64 (kp:Int),.int .u64 (sg:Int)] 81)) 44 x.cells).drew
  rwa [Am6] at this
 have fr0:Fr Non w ((w.alloc (.cells #[.int .i64 d,.int .i64 m,.int .u64 (ld:Int),.int .u64 (kp:Int),.int .u64 (sg:Int)] 81)).alloc (.cells x.cells 44)).drew:=(((Fr.refl Non w).alloc _).alloc _).drew
 have xd0:=OpL.frame hat fr0
 have kb:=Lib.hid (fun w' (h:x.at w' w'.heap.size)=>N7 x w' h hok)
 have lb:=Op.bare_len x.op hok
 have hr:=hok.r
 have hs:=hok.s
 have kc:=Lib.hid (fun (A:Option Addr) (c:Nat) (w':World) (B:Nat) (h:Own w' B 5 1 A x.op.bare.length c (x.op.bare.map Bv))=>Kh sg x.r x.s w'.heap.size x.op.bare.length c A x.op.bare w' hsg hr hs rfl h.cap.1 (by omega) (Al5 _) h.rd)
 obtain ⟨D,hD⟩:=Aa x.op.bare
 rw [hD.out] at kb lb kc
 rw [hD.out]
 rw [hCS.out] at hsz bx0 bc0 kb xd0 fr0
 rw [hCS.out]
 have hi:(Tryz.prog.info? 44).map (·.size)=some CS.size:=by rw [hsz];kernel_rfl
 have hl:=Bd (P:=Tryz.prog) (w.heap.size+1) 44 Tryz.underlying44 rfl hi
 obtain ⟨V,hV⟩:=Aa (Sg.check sg D x.r x.s)
 rw [hV.out] at kc ⊢
 unfold Dz at kc
 clear hat hok hr hs hD
 by_cases hd:x.by_=d
 ·
  have hb:(x.by_==d)=true:=by simp [hd]
  have hfin:Hid (((x.by_==d)&&V)=V):=by show _=_;rw [hb];simp
  rw [hfin.out]
  clear hd hfin
  go_enter Tryz.func70,Tryz.ntmps70
  go_upto_region 1 with (fail)
  generalize (w.alloc (.cells #[.int .i64 d,.int .i64 m,.int .u64 (ld:Int),.int .u64 (kp:Int),.int .u64 (sg:Int)] 81)).alloc (.cells CS 44)=w0 at*
  refine wp_region_held_drew (S:=fun w'=>Blk w' w.heap.size 81 #[.int .i64 d,.int .i64 m,.int .u64 (ld:Int),.int .u64 (kp:Int),.int .u64 (sg:Int)]∧Blk w' (w.heap.size+1) 44 CS) (by kernel_rfl) ⟨bc0,bx0⟩ (fun _=> ?_)
  refine wpAnyH_take (i:=0) (v:=?_) rfl (by kernel_rfl) (by kernel_rfl) (by kernel_rfl) (fun _ _ _ h=>h) (Or.inl ⟨by kernel_rfl,?_⟩) ⟨bc0,bx0⟩ ?_
  rotate_left
  focus (intro w' hSw;have b1:=hSw.1;have b2:=hSw.2;go_simp;(try with_reducible rfl))
  try simp only [put_lit2,List.set]
  refine wpAnyH_take (i:=1) (v:=?_) rfl (by kernel_rfl) (by kernel_rfl) (by kernel_rfl) (fun _ _ _ h=>h) (Or.inl ⟨by kernel_rfl,?_⟩) ⟨bc0,bx0⟩ ?_
  rotate_left
  focus (intro w' hSw;have b1:=hSw.1;have b2:=hSw.2;have q:w'.cell? ⟨w.heap.size+1,0,none⟩=some (.int .i64 x.by_):=(b2.cell 0).trans e0.out;go_simp;(try with_reducible rfl))
  try simp only [put_lit2,List.set]
  refine wpAnyH_take (i:=2) (v:=?_) rfl (by kernel_rfl) (by kernel_rfl) (by kernel_rfl) (fun _ _ _ h=>h) (Or.inl ⟨by kernel_rfl,?_⟩) ⟨bc0,bx0⟩ ?_
  rotate_left
  focus (intro w' hSw;have b1:=hSw.1;have b2:=hSw.2;go_simp;(try with_reducible rfl))
  try simp only [put_lit2,List.set]
  refine wpAnyH_take (i:=3) (v:=?_) rfl (by kernel_rfl) (by kernel_rfl) (by kernel_rfl) (fun _ _ _ h=>h) (Or.inl ⟨by kernel_rfl,?_⟩) ⟨bc0,bx0⟩ ?_
  rotate_left
  focus (intro w' hSw;have b1:=hSw.1;have b2:=hSw.2;have q:w'.cell? ⟨w.heap.size,0,none⟩=some (.int .i64 d):=b1.cell 0;go_simp;(try with_reducible rfl))
  try simp only [put_lit2,List.set]
  refine wpAnyH_take (i:=4) (v:=?_) rfl (by kernel_rfl) (by kernel_rfl) (by kernel_rfl) (fun _ _ _ h=>h) (Or.inl ⟨by kernel_rfl,?_⟩) ⟨bc0,bx0⟩ ?_
  rotate_left
  focus (intro w' hSw;have b1:=hSw.1;have b2:=hSw.2;go_simp;(try with_reducible rfl))
  try simp only [put_lit2,List.set]
  refine wpAnyH_take (i:=5) (v:=?_) rfl (by kernel_rfl) (by kernel_rfl) (by kernel_rfl) (fun _ _ _ h=>h) (Or.inl ⟨by kernel_rfl,?_⟩) ⟨bc0,bx0⟩ ?_
  rotate_left
  focus (intro w' hSw;have b1:=hSw.1;have b2:=hSw.2;go_simp;(try with_reducible rfl))
  try simp only [put_lit2,List.set]
  refine wpAnyH_take (i:=6) (v:=?_) rfl (by kernel_rfl) (by kernel_rfl) (by kernel_rfl) (fun _ _ _ h=>h) (Or.inl ⟨by kernel_rfl,?_⟩) ⟨bc0,bx0⟩ ?_
  rotate_left
  focus (intro w' hSw;have b1:=hSw.1;have b2:=hSw.2;go_simp;(try with_reducible rfl))
  try simp only [put_lit2,List.set]
  refine wpAnyH_take (i:=7) (v:=?_) rfl (by kernel_rfl) (by kernel_rfl) (by kernel_rfl) (fun _ _ _ h=>h) (Or.inl ⟨by kernel_rfl,?_⟩) ⟨bc0,bx0⟩ ?_
  rotate_left
  focus (intro w' hSw;have b1:=hSw.1;have b2:=hSw.2;have q:w'.cell? ⟨w.heap.size,4,none⟩=some (.int .u64 (sg:Int)):=b1.cell 4;go_simp;(try with_reducible rfl))
  try simp only [put_lit2,List.set]
  refine wpAnyH_take (i:=8) (v:=?_) rfl (by kernel_rfl) (by kernel_rfl) (by kernel_rfl) (fun _ _ _ h=>h) (Or.inl ⟨by kernel_rfl,?_⟩) ⟨bc0,bx0⟩ ?_
  rotate_left
  focus (intro w' hSw;have b1:=hSw.1;have b2:=hSw.2;go_simp;(try with_reducible rfl))
  try simp only [put_lit2,List.set]
  refine wpAnyH_take (i:=11) (v:=?_) rfl (by kernel_rfl) (by kernel_rfl) (by kernel_rfl) (fun _ _ _ h=>h) (Or.inl ⟨by kernel_rfl,?_⟩) ⟨bc0,bx0⟩ ?_
  rotate_left
  focus (intro w' hSw;have b1:=hSw.1;have b2:=hSw.2;go_simp;(try with_reducible rfl))
  try simp only [put_lit2,List.set]
  refine wpAnyH_take (i:=12) (v:=?_) rfl (by kernel_rfl) (by kernel_rfl) (by kernel_rfl) (fun _ _ _ h=>h) (Or.inl ⟨by kernel_rfl,?_⟩) ⟨bc0,bx0⟩ ?_
  rotate_left
  focus (intro w' hSw;have b1:=hSw.1;have b2:=hSw.2;have q1:w'.cell? ⟨w.heap.size+1,25,none⟩=some (.int .u64 (x.r:Int)):=(b2.cell 25).trans e25.out;have q2:w'.cell? ⟨w.heap.size+1,26,none⟩=some (.int .u64 (x.s:Int)):=(b2.cell 26).trans e26.out;go_simp;(try with_reducible rfl))
  try simp only [put_lit2,List.set]
  refine Bj 9 (by kernel_rfl) rfl (by kernel_rfl) (fun K hK=> ?_)
  go_simp
  go_wp2_with (go_at_call 94;(with_reducible refine (kb.out _ xd0).mono ?_);rintro _ v1 ⟨A1,c1,rfl,o1,f1⟩;have bc1:=bc0.fr f1 zq;have bx1:=bx0.fr f1 zq;have xd1:=OpL.frame xd0 f1;have fr1:=fr0.trans f1 zr;have o1x:OutAt v1 w0.heap.size (w0.heap.size+1) A1 c1 D:=o1)
  refine hK.out _ _ ⟨bc1,bx1⟩ (fun _=> ?_)
  clear hK K
  try simp only [put_lit2,List.set]
  refine Bj 10 (by kernel_rfl) rfl (by kernel_rfl) (fun K hK=> ?_)
  go_simp
  go_wp2_with (go_at_call 95;(with_reducible refine (Nf _ _ A1 c1 _ _ o1x (by omega)).mono ?_);rintro _ v2 ⟨A2,c2,rfl,o2,f2⟩;have bc2:=bc1.fr f2 zq;have bx2:=bx1.fr f2 zq;have xd2:=OpL.frame xd1 f2;have fr2:=fr1.trans f2 zr)
  refine hK.out _ _ ⟨bc2,bx2⟩ (fun _=> ?_)
  clear hK K
  try simp only [put_lit2,List.set]
  refine Bj 13 (by kernel_rfl) rfl (by kernel_rfl) (fun K hK=> ?_)
  go_simp
  go_wp2_with (go_at_call 124;(with_reducible refine (kc.out _ _ _ _ o2).mono ?_);rintro _ v3 ⟨rfl,f3⟩;have bc3:=bc2.fr f3 zq;have bx3:=bx2.fr f3 zq;have xd3:=OpL.frame xd2 f3;have fr3:=fr2.trans f3 zr)
  refine hK.out _ _ ⟨bc3,bx3⟩ (fun _=> ?_)
  clear hK K
  try simp only [put_lit2,List.set]
  refine wpAnyH_take (i:=14) (v:=?_) rfl (by kernel_rfl) (by kernel_rfl) (by kernel_rfl) (fun _ _ _ h=>h) (Or.inl ⟨by kernel_rfl,?_⟩) ⟨bc3,bx3⟩ ?_
  rotate_left
  focus (intro w' hSw;have b1:=hSw.1;have b2:=hSw.2;go_simp;(try with_reducible rfl))
  try simp only [put_lit2,List.set]
  refine wpAnyH_take (i:=15) (v:=?_) rfl (by kernel_rfl) (by kernel_rfl) (by kernel_rfl) (fun _ _ _ h=>h) (Or.inl ⟨by kernel_rfl,?_⟩) ⟨bc3,bx3⟩ ?_
  rotate_left
  focus (intro w' hSw;have b1:=hSw.1;have b2:=hSw.2;go_simp;(try with_reducible rfl))
  try simp only [put_lit2,List.set]
  refine oD ?_
  go_wp2
  go_ret
  exact ⟨rfl,fr3⟩
 ·
  have hb:(x.by_==d)=false:=by simp [hd]
  have hfin:Hid (((x.by_==d)&&V)=false):=by show _=_;rw [hb];simp
  rw [hfin.out]
  clear hd hfin
  go_enter Tryz.func70,Tryz.ntmps70
  go_upto_region 1 with (fail)
  generalize (w.alloc (.cells #[.int .i64 d,.int .i64 m,.int .u64 (ld:Int),.int .u64 (kp:Int),.int .u64 (sg:Int)] 81)).alloc (.cells CS 44)=w0 at*
  refine wp_region_held_drew (S:=fun w'=>Blk w' w.heap.size 81 #[.int .i64 d,.int .i64 m,.int .u64 (ld:Int),.int .u64 (kp:Int),.int .u64 (sg:Int)]∧Blk w' (w.heap.size+1) 44 CS) (by kernel_rfl) ⟨bc0,bx0⟩ (fun _=> ?_)
  refine wpAnyH_take (i:=0) (v:=?_) rfl (by kernel_rfl) (by kernel_rfl) (by kernel_rfl) (fun _ _ _ h=>h) (Or.inl ⟨by kernel_rfl,?_⟩) ⟨bc0,bx0⟩ ?_
  rotate_left
  focus (intro w' hSw;have b1:=hSw.1;have b2:=hSw.2;go_simp;(try with_reducible rfl))
  try simp only [put_lit2,List.set]
  refine wpAnyH_take (i:=1) (v:=?_) rfl (by kernel_rfl) (by kernel_rfl) (by kernel_rfl) (fun _ _ _ h=>h) (Or.inl ⟨by kernel_rfl,?_⟩) ⟨bc0,bx0⟩ ?_
  rotate_left
  focus (intro w' hSw;have b1:=hSw.1;have b2:=hSw.2;have q:w'.cell? ⟨w.heap.size+1,0,none⟩=some (.int .i64 x.by_):=(b2.cell 0).trans e0.out;go_simp;(try with_reducible rfl))
  try simp only [put_lit2,List.set]
  refine wpAnyH_take (i:=2) (v:=?_) rfl (by kernel_rfl) (by kernel_rfl) (by kernel_rfl) (fun _ _ _ h=>h) (Or.inl ⟨by kernel_rfl,?_⟩) ⟨bc0,bx0⟩ ?_
  rotate_left
  focus (intro w' hSw;have b1:=hSw.1;have b2:=hSw.2;go_simp;(try with_reducible rfl))
  try simp only [put_lit2,List.set]
  refine wpAnyH_take (i:=3) (v:=?_) rfl (by kernel_rfl) (by kernel_rfl) (by kernel_rfl) (fun _ _ _ h=>h) (Or.inl ⟨by kernel_rfl,?_⟩) ⟨bc0,bx0⟩ ?_
  rotate_left
  focus (intro w' hSw;have b1:=hSw.1;have b2:=hSw.2;have q:w'.cell? ⟨w.heap.size,0,none⟩=some (.int .i64 d):=b1.cell 0;go_simp;(try with_reducible rfl))
  try simp only [put_lit2,List.set]
  refine wpAnyH_take (i:=4) (v:=?_) rfl (by kernel_rfl) (by kernel_rfl) (by kernel_rfl) (fun _ _ _ h=>h) (Or.inl ⟨by kernel_rfl,?_⟩) ⟨bc0,bx0⟩ ?_
  rotate_left
  focus (intro w' hSw;have b1:=hSw.1;have b2:=hSw.2;go_simp;(try with_reducible rfl))
  try simp only [put_lit2,List.set]
  refine wpAnyH_take (i:=5) (v:=?_) rfl (by kernel_rfl) (by kernel_rfl) (by kernel_rfl) (fun _ _ _ h=>h) (Or.inl ⟨by kernel_rfl,?_⟩) ⟨bc0,bx0⟩ ?_
  rotate_left
  focus (intro w' hSw;have b1:=hSw.1;have b2:=hSw.2;go_simp;(try with_reducible rfl))
  try simp only [put_lit2,List.set]
  refine wpAnyH_take (i:=6) (v:=undef) rfl (by kernel_rfl) (by kernel_rfl) (by kernel_rfl) (fun _ _ _ h=>h) (Or.inr ⟨by kernel_rfl,rfl⟩) ⟨bc0,bx0⟩ ?_
  try simp only [put_lit2,List.set]
  refine wpAnyH_take (i:=7) (v:=undef) rfl (by kernel_rfl) (by kernel_rfl) (by kernel_rfl) (fun _ _ _ h=>h) (Or.inr ⟨by kernel_rfl,rfl⟩) ⟨bc0,bx0⟩ ?_
  try simp only [put_lit2,List.set]
  refine wpAnyH_take (i:=8) (v:=undef) rfl (by kernel_rfl) (by kernel_rfl) (by kernel_rfl) (fun _ _ _ h=>h) (Or.inr ⟨by kernel_rfl,rfl⟩) ⟨bc0,bx0⟩ ?_
  try simp only [put_lit2,List.set]
  refine wpAnyH_take (i:=9) (v:=undef) rfl (by kernel_rfl) (by kernel_rfl) (by kernel_rfl) (fun _ _ _ h=>h) (Or.inr ⟨by kernel_rfl,rfl⟩) ⟨bc0,bx0⟩ ?_
  try simp only [put_lit2,List.set]
  refine wpAnyH_take (i:=10) (v:=undef) rfl (by kernel_rfl) (by kernel_rfl) (by kernel_rfl) (fun _ _ _ h=>h) (Or.inr ⟨by kernel_rfl,rfl⟩) ⟨bc0,bx0⟩ ?_
  try simp only [put_lit2,List.set]
  refine wpAnyH_take (i:=11) (v:=undef) rfl (by kernel_rfl) (by kernel_rfl) (by kernel_rfl) (fun _ _ _ h=>h) (Or.inr ⟨by kernel_rfl,rfl⟩) ⟨bc0,bx0⟩ ?_
  try simp only [put_lit2,List.set]
  refine wpAnyH_take (i:=12) (v:=undef) rfl (by kernel_rfl) (by kernel_rfl) (by kernel_rfl) (fun _ _ _ h=>h) (Or.inr ⟨by kernel_rfl,rfl⟩) ⟨bc0,bx0⟩ ?_
  try simp only [put_lit2,List.set]
  refine wpAnyH_take (i:=13) (v:=undef) rfl (by kernel_rfl) (by kernel_rfl) (by kernel_rfl) (fun _ _ _ h=>h) (Or.inr ⟨by kernel_rfl,rfl⟩) ⟨bc0,bx0⟩ ?_
  try simp only [put_lit2,List.set]
  refine wpAnyH_take (i:=14) (v:=?_) rfl (by kernel_rfl) (by kernel_rfl) (by kernel_rfl) (fun _ _ _ h=>h) (Or.inl ⟨by kernel_rfl,?_⟩) ⟨bc0,bx0⟩ ?_
  rotate_left
  focus (intro w' hSw;have b1:=hSw.1;have b2:=hSw.2;go_simp;(try with_reducible rfl))
  try simp only [put_lit2,List.set]
  refine wpAnyH_take (i:=15) (v:=?_) rfl (by kernel_rfl) (by kernel_rfl) (by kernel_rfl) (fun _ _ _ h=>h) (Or.inl ⟨by kernel_rfl,?_⟩) ⟨bc0,bx0⟩ ?_
  rotate_left
  focus (intro w' hSw;have b1:=hSw.1;have b2:=hSw.2;go_simp;(try with_reducible rfl))
  try simp only [put_lit2,List.set]
  refine oD ?_
  go_wp2
  go_ret
  exact ⟨by go_simp,fr0⟩
theorem O6 {x:OpL} {w:World} {B:Nat} (o:x.at w B) (r s:Nat):({x with r:=r,s:=s}:OpL).at w B:=⟨o.past,o.path,o.nodes,o.body,o.refs,o.guards,o.boxes,o.hist,o.seals⟩
theorem Vy (x:OpL) (R S:Nat):({x with r:=R,s:=S}:OpL).op={x.op with r:=R,s:=S}:=rfl
def Bc:List UInt8:=[115,105,103,110]
def Ki (x:OpL) (secret:Nat) (w:World) (r:Ending) (w':World):Prop:=
 r=.returned (.agg ({x with r:=Sg.r secret x.op.bare,s:=Sg.s secret x.op.bare}:OpL).cells)∧Fr Non w w'
theorem Kj (x:OpL) (u:Nat) (w:World) (hu:IntKind.u64.wrap x.by_=(u:Int)) (hu':u<18446744073709551616) (hat:x.at w w.heap.size) (hok:x.op.ok):
  Calls Tryz.prog 15 #[.agg x.cells] w (Ki x (sec Bc u) w):=by
 have hi:(Tryz.prog.info? 44).map (·.size)=some 27:=by kernel_rfl
 have bx0:Blk ((w.alloc (.cells x.cells 44)).alloc (.cells zO 44)).drew w.heap.size 44 x.cells:=((Blk.new w 44 _).alloc _).drew
 have br0:Blk ((w.alloc (.cells x.cells 44)).alloc (.cells zO 44)).drew (w.heap.size+1) 44 zO:=by
  have:=(Blk.new (w.alloc (.cells x.cells 44)) 44 zO).drew
  rwa [Am6] at this
 have fr0:Fr Non w ((w.alloc (.cells x.cells 44)).alloc (.cells zO 44)).drew:=(((Fr.refl Non w).alloc _).alloc _).drew
 have xd0:=OpL.frame hat fr0
 have hs:=Gu Bc u
 have k1:Hid (∀w':World,Calls Tryz.prog 61 #[.string ⟨#[115,105,103,110]⟩,.int .i64 x.by_] w' (Cf (sec Bc u) w')):=fun w'=>O4 Bc x.by_ u w' hu hu' (by decide)
 have kb:=Lib.hid (fun w' (h:x.at w' w'.heap.size)=>J7 x w' h hok)
 have lb:=Op.bare_len x.op hok
 have ks:=Lib.hid (fun (A:Option Addr) (c:Nat) (w':World) (B:Nat) (h:Own w' B 5 1 A x.op.bare.length c (x.op.bare.map Bv))=>Vx (sec Bc u) w'.heap.size x.op.bare.length c A x.op.bare w' (by omega) rfl (by omega) (Al5 _) h.rd)
 have hpost:∀(R S:Nat) (w':World),Sg.r (sec Bc u) x.op.bare=R→Sg.s (sec Bc u) x.op.bare=S→({x with r:=R,s:=S}:OpL).at w' w'.heap.size→Fr Non w w'→Ki x (sec Bc u) w (.returned (.agg ({x with r:=R,s:=S}:OpL).cells)) w':=fun R S w' h1 h2 h3 h4=>by subst h1;subst h2;exact ⟨rfl,h4⟩
 obtain ⟨D,hD⟩:=Aa x.op.bare
 rw [hD.out] at kb lb ks hpost
 generalize sec Bc u=V at*
 obtain ⟨R,hR⟩:=Aa (Sg.r V D)
 obtain ⟨S,hS⟩:=Aa (Sg.s V D)
 unfold Ow Dz at ks
 rw [hR.out,hS.out] at ks
 have hpost':=Lib.hid (fun w'=>hpost R S w' hR.out hS.out)
 generalize Ki x V w=POST at hpost' ⊢
 have hlx:=Bd (P:=Tryz.prog) w.heap.size 44 Tryz.underlying44 rfl (cs:=x.cells) hi
 have hat0:=Lib.hid hat
 clear hpost hat hok hs hD hR hS hu hu'
 go_enter Tryz.func15,Tryz.ntmps15
 go_upto_region 1 with (fail)
 generalize (w.alloc (.cells x.cells 44)).alloc (.cells zO 44)=w0 at*
 have c0:w0.drew.cell? ⟨w.heap.size,0,none⟩=some (.int .i64 x.by_):=bx0.cell 0
 have f0:Fr Non w0.drew w0.drew:=Fr.refl _ _
 go_region_with (first
  |(go_at_call 61;(with_reducible refine (k1.out _).mono ?_);rintro _ v1 ⟨rfl,f1⟩;have bx1:=bx0.fr f1 zq;have xd1:=OpL.frame xd0 f1;have br1:=br0.fr f1 zq;have fr1:=fr0.trans f1 zr)
  |(go_at_call 62;(with_reducible refine (kb.out _ xd1).mono ?_);rintro _ v2 ⟨A2,c2,rfl,o2,f2⟩;have bx2:=bx1.fr f2 zq;have xd2:=OpL.frame xd1 f2;have br2:=br1.fr f2 zq;have fr2:=fr1.trans f2 zr)
  |(go_at_call 60;(with_reducible refine (ks.out _ _ _ _ o2).mono ?_);rintro _ v3 ⟨rfl,f3⟩;have bx3:=bx2.fr f3 zq;have xd3:=OpL.frame xd2 f3;have br3:=br2.fr f3 zq;have fr3:=fr2.trans f3 zr;have z25:v3.cell? ⟨w.heap.size,25,none⟩=some _:=bx3.cell 25;have z26:v3.cell? ⟨w.heap.size,26,none⟩=some _:=bx3.cell 26;have q25:=bx3.frozen 25;have q26:=bx3.frozen 26))
 all_goals
  have hb4:Blk _ w.heap.size 44 ({x with r:=R,s:=S}:OpL).cells:=(bx3.set 25 (.int .u64 (R:Int))).set 26 (.int .u64 (S:Int))
  have hg4:=((Fr.refl (One w.heap.size) v3).setOne 25 (.int .u64 (R:Int))).setOne 26 (.int .u64 (S:Int))
  have br4:=br3.fr hg4 (fun e=>by have e':w.heap.size+1=w.heap.size:=e;omega)
  have fr4:=(fr3.setNew (Al5 _) 25 (.int .u64 (R:Int))).setNew (Al5 _) 26 (.int .u64 (S:Int))
  have xat4:=O6 (OpL.frame hat0.out fr4) R S
  generalize (v3.setCell ⟨w.heap.size,25,none⟩ (.int .u64 (R:Int))).setCell ⟨w.heap.size,26,none⟩ (.int .u64 (S:Int))=w4 at*
  have honev:=Cr ({x with r:=R,s:=S}:OpL)
  have fin:Hid (∀wz,Fr (One (w.heap.size+1)) w4 wz→POST (.returned (.agg ({x with r:=R,s:=S}:OpL).cells)) wz):=by
   intro wz hf
   have frz:=fr4.trans hf (fun k hk e=>absurd hk (by have e':k=w.heap.size+1:=e;omega))
   exact hpost'.out wz (O6 (OpL.frame hat0.out frz) R S) frz
  clear xat4 hpost' hat0 fr4 bx0 bx1 bx2 bx3 br0 br1 br2 br3 xd0 xd1 xd2 xd3 fr0 fr1 fr2 fr3 z25 z26 q25 q26 hg4 hlx o2 f1 f2 f3 c0 f0
  generalize ({x with r:=R,s:=S}:OpL)=v at hb4 honev fin
  have tok1:True:=trivial
  go_wp2_with (first
   |(have _t:=tok1;refine Nh rfl 44 (.tmp 1) rfl rfl hb4 Tryz.underlying44 rfl hi ?_;clear tok1 _t)
   |(refine Fc rfl 44 (.tmp 2) (.tmp 10) rfl rfl rfl rfl br4 hi rfl honev ?_;have hfz:=(Fr.refl (One (w.heap.size+1)) w4).setRow (g:=w.heap.size+1) (fun _=>rfl) v.cells;have hz2:=br4.setRow (cs:=v.cells);generalize w4.setRow (w.heap.size+1) v.cells=wz at hfz hz2 ⊢;(repeat (first|go_values|go_skip|go_guarded|go_step));exact Dq (t:=44) rfl rfl hz2 rfl Tryz.underlying44 (by kernel_rfl) rfl (fin.out wz hfz)))
def Ff:List UInt8:=[108,101,97,100]
def Fg:List UInt8:=[107,101,101,112]
def Bw (i:Nat) (m:Int):Cd:=⟨(i:Int)+1,m,Sg.pub (sec Ff (i+1)),Sg.pub (sec Fg (i+1)),Sg.pub (sec Bc (i+1))⟩
def Bg (i:Nat):List Int→List Cd
 |[]=>[]
 |m::r=>Bw i m::Bg (i+1) r
theorem Kk (l:List Int):∀i,(Bg i l).length=l.length:=by
 induction l with
 |nil=>intro i;rfl
 |cons m r ih=>intro i;simp [Bg,ih]
theorem Vz (l:List Int) (m:Int):∀i,Bg i (l++[m])=Bg i l++[Bw (i+l.length) m]:=by
 induction l with
 |nil=>intro i;rfl
 |cons x r ih=>
  intro i
  show Bw i x::Bg (i+1) (r++[m])=_
  rw [ih,List.length_cons,show i+1+r.length=i+(r.length+1) by omega]
  rfl
theorem slCd:SlT Tryz.prog 26 81 (.agg zC) 5 40:=⟨Tryz.underlying26,by kernel_rfl,rfl,by decide⟩
def O7 (l:List Int) (n:Nat) (w:World) (r:Ending) (w':World):Prop:=
 ∃A c,r=.returned (.slice A n c)∧Own w' w.heap.size 81 5 A n c ((Bg 0 l).flatMap Cd.cells)∧Fr Non w w'
theorem O8 (n c:Nat) (A:Option Addr) (l:List Int) (w:World) (hn:Hid (l.length=n)) (hl:n≤1000) (hr:Rd w w.heap.size 1 A n (l.map Iv)):
  Calls Tryz.prog 40 #[.slice A n c] w (O7 l n w):=by
 have hk1:∀(kind:List UInt8) (k:Nat) (w':World),k<n→kind.length≤1000→Calls Tryz.prog 61 #[.string (str kind),.int .i64 ((k:Int)+1)] w' (Cf (sec kind (k+1)) w'):=fun kind k w' hkn hkl=>O4 kind _ (k+1) w' (by rw [IntKind.wrap_u64];omega) (by omega) hkl
 go_enter Tryz.func40,Tryz.ntmps40
 go_wp2
 go_loopw [3,4] (fun s v wr=>∃(k:Nat) (A':Option Addr) (c':Nat),v=.int .i64 (k:Int)∧s=.slice A' k c'∧k≤n∧Own wr w.heap.size 81 5 A' k c' ((Bg 0 (l.take k)).flatMap Cd.cells)∧Fr Non w wr) (fun _ v _=>n-(intOf v).toNat)
 case atStart=>exact ⟨0,none,0,rfl,rfl,by omega,Own.nil _ _ _ _,Fr.refl _ _⟩
 case round=>
  obtain ⟨k,A',c',rfl,rfl,hk,hown,hf⟩:=hrel
  by_cases hlt:k<n
  ·
   obtain ⟨b,off,v,rfl,hb,hu,hc⟩:=(hr.fr hf zr).at hlt
   rw [Al6] at hu
   obtain ⟨mm,hmm,rfl⟩:=Option.map_eq_some_iff.1 hu
   have hsn:l.take (k+1)=l.take k++[mm]:=by
    obtain ⟨hx,rfl⟩:=List.getElem?_eq_some_iff.1 hmm
    exact Am9 hx
   have hlk:(l.take k).length=k:=by rw [List.length_take,hn.out];omega
   have ecd:Hid (((Bg 0 (l.take (k+1))).flatMap Cd.cells)=(Bg 0 (l.take k)).flatMap Cd.cells++(Bw k mm).cells):=by
    show _=_
    rw [hsn,Vz,hlk,Nat.zero_add,List.flatMap_append,List.flatMap_cons,List.flatMap_nil,List.append_nil]
   obtain ⟨V1,hV1⟩:=Aa (sec Ff (k+1))
   obtain ⟨V2,hV2⟩:=Aa (sec Fg (k+1))
   obtain ⟨V3,hV3⟩:=Aa (sec Bc (k+1))
   have l1:=Gu Ff (k+1)
   have l2:=Gu Fg (k+1)
   have l3:=Gu Bc (k+1)
   have k1:Hid (∀w':World,Calls Tryz.prog 61 #[.string ⟨#[108,101,97,100]⟩,.int .i64 ((k:Int)+1)] w' (Cf (sec Ff (k+1)) w')):=fun w'=>hk1 Ff k w' hlt (by decide)
   have k2:Hid (∀w':World,Calls Tryz.prog 61 #[.string ⟨#[107,101,101,112]⟩,.int .i64 ((k:Int)+1)] w' (Cf (sec Fg (k+1)) w')):=fun w'=>hk1 Fg k w' hlt (by decide)
   have k3:Hid (∀w':World,Calls Tryz.prog 61 #[.string ⟨#[115,105,103,110]⟩,.int .i64 ((k:Int)+1)] w' (Cf (sec Bc (k+1)) w')):=fun w'=>hk1 Bc k w' hlt (by decide)
   have p1:=Lib.hid (fun w'=>H9 (sec Ff (k+1)) w' (by omega))
   have p2:=Lib.hid (fun w'=>H9 (sec Fg (k+1)) w' (by omega))
   have p3:=Lib.hid (fun w'=>H9 (sec Bc (k+1)) w' (by omega))
   have ecc:Hid ((Bw k mm).cells=[.int .i64 ((k:Int)+1),.int .i64 mm,.int .u64 (Sg.pub (sec Ff (k+1)):Int),.int .u64 (Sg.pub (sec Fg (k+1)):Int),.int .u64 (Sg.pub (sec Bc (k+1)):Int)]):=by
    show _=_
    unfold Bw
    exact Tj _ _ _ _ _
   rw [hV1.out] at k1 p1 ecc l1
   rw [hV2.out] at k2 p2 ecc l2
   rw [hV3.out] at k3 p3 ecc l3
   obtain ⟨Q1,hQ1⟩:=Aa (Sg.pub V1)
   obtain ⟨Q2,hQ2⟩:=Aa (Sg.pub V2)
   obtain ⟨Q3,hQ3⟩:=Aa (Sg.pub V3)
   rw [hQ1.out] at p1 ecc
   rw [hQ2.out] at p2 ecc
   rw [hQ3.out] at p3 ecc
   have hfin:Hid (∀(A2:Option Addr) (c2:Nat) (w2:World),Own w2 w.heap.size 81 5 A2 (k+1) c2 ((Bg 0 (l.take k)).flatMap Cd.cells++[.int .i64 ((k:Int)+1),.int .i64 mm,.int .u64 (Q1:Int),.int .u64 (Q2:Int),.int .u64 (Q3:Int)])→Own w2 w.heap.size 81 5 A2 (k+1) c2 ((Bg 0 (l.take (k+1))).flatMap Cd.cells)):=fun A2 c2 w2 h=>by rw [ecd.out,ecc.out];exact h
   clear hV1 hV2 hV3 hQ1 hQ2 hQ3 ecd ecc hsn hlk hmm hu hn hk1
   obtain ⟨XS,hXS⟩:=Aa ((Bg 0 (l.take k)).flatMap Cd.cells)
   rw [hXS.out] at hown hfin
   have hbw:b<w.heap.size:=hb
   have cc0:wr.drew.cell? ⟨b,off+k,none⟩=some (.int .i64 mm):=hc
   have hown0:Own wr.drew w.heap.size 81 5 A' k c' XS:=hown
   have fr0:=hf.drew
   go_upto_region 6 with (fail)
   refine wp_region_held_drew (S:=fun w'=>w'.cell? ⟨b,off+k,none⟩=some (.int .i64 mm)) (by kernel_rfl) cc0 (fun _=> ?_)
   refine wpAnyH_take (i:=0) (v:=?_) rfl (by kernel_rfl) (by kernel_rfl) (by kernel_rfl) (fun _ _ _ h=>h) (Or.inl ⟨by kernel_rfl,?_⟩) cc0 ?_
   rotate_left
   focus (intro w' hSw;have b1:=hSw;(try dsimp only at b1);go_simp;(try with_reducible rfl))
   try simp only [put_lit2,List.set]
   refine wpAnyH_take (i:=1) (v:=?_) rfl (by kernel_rfl) (by kernel_rfl) (by kernel_rfl) (fun _ _ _ h=>h) (Or.inl ⟨by kernel_rfl,?_⟩) cc0 ?_
   rotate_left
   focus (intro w' hSw;have b1:=hSw;(try dsimp only at b1);go_simp;(try with_reducible rfl))
   try simp only [put_lit2,List.set]
   refine wpAnyH_take (i:=2) (v:=?_) rfl (by kernel_rfl) (by kernel_rfl) (by kernel_rfl) (fun _ _ _ h=>h) (Or.inl ⟨by kernel_rfl,?_⟩) cc0 ?_
   rotate_left
   focus (intro w' hSw;have b1:=hSw;(try dsimp only at b1);go_simp;(try with_reducible rfl))
   try simp only [put_lit2,List.set]
   refine wpAnyH_take (i:=3) (v:=?_) rfl (by kernel_rfl) (by kernel_rfl) (by kernel_rfl) (fun _ _ _ h=>h) (Or.inl ⟨by kernel_rfl,?_⟩) cc0 ?_
   rotate_left
   focus (intro w' hSw;have b1:=hSw;(try dsimp only at b1);go_simp;(try with_reducible rfl))
   try simp only [put_lit2,List.set]
   refine wpAnyH_take (i:=4) (v:=?_) rfl (by kernel_rfl) (by kernel_rfl) (by kernel_rfl) (fun _ _ _ h=>h) (Or.inl ⟨by kernel_rfl,?_⟩) cc0 ?_
   rotate_left
   focus (intro w' hSw;have b1:=hSw;(try dsimp only at b1);go_simp;(try with_reducible rfl))
   try simp only [put_lit2,List.set]
   refine wpAnyH_take (i:=5) (v:=?_) rfl (by kernel_rfl) (by kernel_rfl) (by kernel_rfl) (fun _ _ _ h=>h) (Or.inl ⟨by kernel_rfl,?_⟩) cc0 ?_
   rotate_left
   focus (intro w' hSw;have b1:=hSw;(try dsimp only at b1);go_simp;(try with_reducible rfl))
   try simp only [put_lit2,List.set]
   refine wpAnyH_take (i:=6) (v:=?_) rfl (by kernel_rfl) (by kernel_rfl) (by kernel_rfl) (fun _ _ _ h=>h) (Or.inl ⟨by kernel_rfl,?_⟩) cc0 ?_
   rotate_left
   focus (intro w' hSw;have b1:=hSw;(try dsimp only at b1);go_simp;(try with_reducible rfl))
   try simp only [put_lit2,List.set]
   refine wpAnyH_take (i:=9) (v:=?_) rfl (by kernel_rfl) (by kernel_rfl) (by kernel_rfl) (fun _ _ _ h=>h) (Or.inl ⟨by kernel_rfl,?_⟩) cc0 ?_
   rotate_left
   focus (intro w' hSw;have b1:=hSw;(try dsimp only at b1);go_simp;(try with_reducible rfl))
   try simp only [put_lit2,List.set]
   refine wpAnyH_take (i:=12) (v:=?_) rfl (by kernel_rfl) (by kernel_rfl) (by kernel_rfl) (fun _ _ _ h=>h) (Or.inl ⟨by kernel_rfl,?_⟩) cc0 ?_
   rotate_left
   focus (intro w' hSw;have b1:=hSw;(try dsimp only at b1);go_simp;(try with_reducible rfl))
   try simp only [put_lit2,List.set]
   refine Bj 7 (by kernel_rfl) rfl (by kernel_rfl) (fun K hK=> ?_)
   go_simp
   go_wp2_with (go_at_call 61;(with_reducible refine (k1.out _).mono ?_);rintro _ v1 ⟨rfl,f1⟩;have cc1:=f1.cell cc0 zq;have hown1:=hown0.fr f1 zr;have fr1:=fr0.trans f1 zr)
   refine hK.out _ _ cc1 (fun _=> ?_)
   clear hK K
   try simp only [put_lit2,List.set]
   refine Bj 8 (by kernel_rfl) rfl (by kernel_rfl) (fun K hK=> ?_)
   go_simp
   go_wp2_with (go_at_call 89;(with_reducible refine (p1.out _).mono ?_);rintro _ v2 ⟨rfl,f2⟩;have cc2:=f2.cell cc1 zq;have hown2:=hown1.fr f2 zr;have fr2:=fr1.trans f2 zr)
   refine hK.out _ _ cc2 (fun _=> ?_)
   clear hK K
   try simp only [put_lit2,List.set]
   refine Bj 10 (by kernel_rfl) rfl (by kernel_rfl) (fun K hK=> ?_)
   go_simp
   go_wp2_with (go_at_call 61;(with_reducible refine (k2.out _).mono ?_);rintro _ v3 ⟨rfl,f3⟩;have cc3:=f3.cell cc2 zq;have hown3:=hown2.fr f3 zr;have fr3:=fr2.trans f3 zr)
   refine hK.out _ _ cc3 (fun _=> ?_)
   clear hK K
   try simp only [put_lit2,List.set]
   refine Bj 11 (by kernel_rfl) rfl (by kernel_rfl) (fun K hK=> ?_)
   go_simp
   go_wp2_with (go_at_call 89;(with_reducible refine (p2.out _).mono ?_);rintro _ v4 ⟨rfl,f4⟩;have cc4:=f4.cell cc3 zq;have hown4:=hown3.fr f4 zr;have fr4:=fr3.trans f4 zr)
   refine hK.out _ _ cc4 (fun _=> ?_)
   clear hK K
   try simp only [put_lit2,List.set]
   refine Bj 13 (by kernel_rfl) rfl (by kernel_rfl) (fun K hK=> ?_)
   go_simp
   go_wp2_with (go_at_call 61;(with_reducible refine (k3.out _).mono ?_);rintro _ v5 ⟨rfl,f5⟩;have cc5:=f5.cell cc4 zq;have hown5:=hown4.fr f5 zr;have fr5:=fr4.trans f5 zr)
   refine hK.out _ _ cc5 (fun _=> ?_)
   clear hK K
   try simp only [put_lit2,List.set]
   refine Bj 14 (by kernel_rfl) rfl (by kernel_rfl) (fun K hK=> ?_)
   go_simp
   go_wp2_with (go_at_call 89;(with_reducible refine (p3.out _).mono ?_);rintro _ v6 ⟨rfl,f6⟩;have cc6:=f6.cell cc5 zq;have hown6:=hown5.fr f6 zr;have fr6:=fr5.trans f6 zr)
   refine hK.out _ _ cc6 (fun _=> ?_)
   clear hK K
   try simp only [put_lit2,List.set]
   refine wpAnyH_take (i:=15) (v:=?_) rfl (by kernel_rfl) (by kernel_rfl) (by kernel_rfl) (fun _ _ _ h=>h) (Or.inl ⟨by kernel_rfl,?_⟩) cc6 ?_
   rotate_left
   focus (intro w' hSw;have b1:=hSw;(try dsimp only at b1);go_simp;(try with_reducible rfl))
   try simp only [put_lit2,List.set]
   refine Bj 16 (by kernel_rfl) rfl (by kernel_rfl) (fun K hK=> ?_)
   go_simp
   have cc7:=Jw cc6 (.cells #[.int .i64 ((k:Int)+1),.int .i64 mm,.int .u64 (Q1:Int),.int .u64 (Q2:Int),.int .u64 (Q3:Int)] 81)
   have hown7:=hown6.alloc (.cells #[.int .i64 ((k:Int)+1),.int .i64 mm,.int .u64 (Q1:Int),.int .u64 (Q2:Int),.int .u64 (Q3:Int)] 81)
   have hrd7:=Rd.blk (n:=1) (size:=5) (Blk.new v6 81 #[.int .i64 ((k:Int)+1),.int .i64 mm,.int .u64 (Q1:Int),.int .u64 (Q2:Int),.int .u64 (Q3:Int)]) rfl
   refine hK.out _ _ cc7 (fun _=> ?_)
   clear hK K
   go_simp
   refine wpAnyH_ready (rs:=[17]) (by kernel_rfl) (by simp) (AllReadyH.cons rfl (fun K hK=> ?_) AllReadyH.nil)
   refine Jh (base:=w.heap.size) (.tmp 14) (.tmp 30) 26 (by rfl) (by rfl) (by rfl) (by rfl) slCd hown7 hrd7 (by simp [Value.oneCell']) (by omega) (by omega) (by rw [Am6];have:=fr6.size;omega) ?_
   intro A2 c2 w9 own9 fr9 hat9
   have cc9:=fr9.cell cc7 (fun e=>by have h:w.heap.size≤b:=(hown.row b e).1;omega)
   refine hK.out _ _ cc9 (fun _=> ?_)
   clear hK K
   go_simp
   refine wpAnyH_take (i:=18) (v:=?_) rfl (by kernel_rfl) (by kernel_rfl) (by kernel_rfl) (fun _ _ _ h=>h) (Or.inl ⟨by kernel_rfl,?_⟩) cc9 ?_
   rotate_left
   focus (intro w' hSw;have b1:=hSw;(try dsimp only at b1);go_simp;(try with_reducible rfl))
   try simp only [put_lit2,List.set]
   refine oD ?_
   go_wp2
   go_roundw
   case rel=>exact ⟨k+1,A2,c2,by go_num,rfl,by omega,hfin.out A2 c2 _ own9,(fr6.alloc _).trans fr9 (fun j hj e=>by have:=(hown.row j e).1;omega)⟩
   case measure=>simp [intOf];omega
  ·
   obtain rfl:k=n:=by omega
   have ht:l.take k=l:=An8 (by rw [hn.out];exact Al5 _)
   rw [ht] at hown
   go_wp2
   go_ret
   exact ⟨A',c',rfl,hown,hf⟩
end Oq
end
section
open Go.RowKit
namespace Oq
structure Pn where
 o:Op
 id:Id
 ps:Nat→Bool
 lev:Nat
def Ai.pn (n:Ai):Pn:=⟨n.x.op,n.id,n.past,n.lev⟩
def Gph.pns (g:Gph):List Pn:=g.nodes.map Ai.pn
def plc (l:List Pn) (id:Id):Option Nat:=l.findIdx? (fun n=>decide (n.id=id))
theorem Es (l:List Ai) (id:Id):plc (l.map Ai.pn) id=Ag l id:=by
 unfold plc Ag
 rw [List.findIdx?_map]
 rfl
theorem Bz {l:List Pn} {id:Id} {i:Nat} (h:plc l id=some i):∃n,l[i]? =some n∧n.id=id:=by
 obtain ⟨hi,h1,_⟩:=List.findIdx?_eq_some_iff_getElem.1 h
 exact ⟨l[i],An9 hi,by simpa using h1⟩
theorem Dl {l:List Pn} {id:Id} {i:Nat} (h:plc l id=some i):i<l.length:=by
 obtain ⟨n,hn,_⟩:=Bz h
 exact (List.getElem?_eq_some_iff.1 hn).1
def Cb (l:List Pn) (ids:List Id) (q:Nat):Bool:=ids.any (fun id=>plc l id==some q)
def upB (l:List Pn) (id:Id) (q:Nat):Bool:=match plc l id with|some i=>(l[i]?.map (fun n=>n.ps q)).getD false|none=>false
def Ao (l:List Pn) (ids:List Id) (q:Nat):Bool:=ids.any (fun id=>upB l id q)
def Bn (l:List Pn) (id:Id):Int:=match plc l id with|some i=>(l[i]?.map (fun n=>n.o.at_)).getD 0|none=>0
def late (l:List Pn) (ids:List Id):Int:=ids.foldl (fun t id=>max t (Bn l id)) 0
def Bq (l:List Pn) (id:Id):Nat:=match plc l id with|some i=>(l[i]?.map (fun n=>n.lev)).getD 0|none=>0
def lvl (l:List Pn) (ids:List Id):Nat:=ids.foldl (fun t id=>max t (Bq l id+1)) 1
def clash (l:List Pn) (ids:List Id):Bool:=(An0 256).any (fun q=>Cb l ids q&&Ao l ids q)
def Be (l:List Pn) (p:Nat→Bool) (d:Int):Nat→Int
 |0=>0
 |k+1=>match l[k]? with
  |some n=>if (n.o.by_==d&&p k)=true then max (Be l p d k) n.o.sq else Be l p d k
  |none=>Be l p d k
def Ca (l:List Pn) (p:Nat→Bool) (d s:Int):Nat→Bool
 |0=>false
 |k+1=>match l[k]? with
  |some n=>Ca l p d s k||(n.o.by_==d&&p k&&n.o.sq==s-1)
  |none=>Ca l p d s k
def Ah (l:List Pn) (ids:List Id) (q:Nat):Bool:=decide (q<256)&&(Ao l ids q||Cb l ids q)
def Az (l:List Pn) (p:Nat→Bool) (o:Op):Bool:=decide (o.sq≤Be l p o.by_ l.length)||(decide (1<o.sq)&& !Ca l p o.by_ o.sq l.length)
def Op.name (o:Op):Id:=⟨o.by_,o.sq,o.id⟩
def Bk (cards:List Cd) (d:Int):Option Cd:=cards.find? (fun c=>c.d==d)
def Aj (cards:List Cd) (l:List Pn) (o:Op):Int:=
 if o.chk≠0 then o.chk
 else if (plc l o.name).isSome=true then 5
 else if 200≤l.length then 3
 else match Bk cards o.by_ with
  |none=>17
  |some c=>
   if Sg.check c.s o.bare o.r o.s=false then 12
   else if o.kind=1∧l≠[] then 1
   else if o.past.any (fun id=>(plc l id).isNone)=true then 10
   else if clash l o.past=true∨o.at_<late l o.past then 6
   else if Az l (Ah l o.past) o=true then 11
   else 0
def Av (l:List Pn) (o:Op):Pn:=⟨o,o.name,Ah l o.past,lvl l o.past⟩
theorem Ea {α:Type} {l:List α} {k:Nat} {x:α} (h:l[k]? =some x):l.take (k+1)=l.take k++[x]:=by
 obtain ⟨hk,rfl⟩:=List.getElem?_eq_some_iff.1 h
 rw [Am9 hk]
theorem V5 (l:List Pn) (ids:List Id) (k:Nat) {id:Id} (h:ids[k]? =some id):Cb l (ids.take (k+1))=fun q=>(plc l id==some q)||Cb l (ids.take k) q:=by
 funext q
 unfold Cb
 rw [Ea h,An1]
 simp [Bool.or_comm]
theorem O9 (l:List Pn) (ids:List Id) (k:Nat) {id:Id} (h:ids[k]? =some id):Ao l (ids.take (k+1))=fun q=>Ao l (ids.take k) q||upB l id q:=by
 funext q
 unfold Ao
 rw [Ea h,An1]
 simp
theorem Pa (l:List Pn) (ids:List Id) (k:Nat) {id:Id} (h:ids[k]? =some id):late l (ids.take (k+1))=max (late l (ids.take k)) (Bn l id):=by
 unfold late
 rw [Ea h,Ao0]
 rfl
theorem V6 (l:List Pn) (ids:List Id) (k:Nat) {id:Id} (h:ids[k]? =some id):lvl l (ids.take (k+1))=max (lvl l (ids.take k)) (Bq l id+1):=by
 unfold lvl
 rw [Ea h,Ao0]
 rfl
theorem V7 (l:List Pn) (m:Int) (hm:0≤m) (h:∀n∈l,n.o.at_≤m) (ids:List Id):late l ids≤m:=by
 have hat:∀id,Bn l id≤m:=by
  intro id
  unfold Bn
  split
  ·
   rename_i i hi
   obtain ⟨n,hn,_⟩:=Bz hi
   rw [hn]
   exact h n (Al9 hn)
  · exact hm
 unfold late
 suffices H:∀(t:Int),t≤m→ids.foldl (fun t id=>max t (Bn l id)) t≤m from H 0 hm
 intro t
 induction ids generalizing t with
 |nil=>intro h;exact h
 |cons id r ih=>intro h;exact ih _ (by have:=hat id;dsimp only;omega)
theorem V8 (l:List Pn) (m:Nat) (h:∀n∈l,n.lev≤m) (ids:List Id):lvl l ids≤m+1:=by
 have hat:∀id,Bq l id≤m:=by
  intro id
  unfold Bq
  split
  ·
   rename_i i hi
   obtain ⟨n,hn,_⟩:=Bz hi
   rw [hn]
   exact h n (Al9 hn)
  · omega
 unfold lvl
 suffices H:∀(t:Nat),t≤m+1→ids.foldl (fun t id=>max t (Bq l id+1)) t≤m+1 from H 1 (by omega)
 intro t
 induction ids generalizing t with
 |nil=>intro h;exact h
 |cons id r ih=>intro h;exact ih _ (by have:=hat id;dsimp only;omega)
theorem V9 (ws:List Nat) (h:ws.length=4) (k:Nat) (hk:256≤k):((ws.getD (k/64) 0).testBit (k%64))=false:=by
 rw [List.getD_eq_getElem?_getD,Ao1 (by omega)]
 simp
theorem Wa {n:Ai} {m:Nat→Bool} (h:Au n.ws m):n.past=fun q=>decide (q<256)&&m q:=by
 funext q
 unfold Ai.past
 by_cases hq:q<256
 ·
  rw [← h.bit q hq]
  simp [hq]
 ·
  rw [V9 n.ws rfl q (by omega)]
  simp [hq]
theorem Wb {a0 a1 a2 a3:Nat} {m:Nat→Bool} (h:Au [a0,a1,a2,a3] m):(a0==0&&a1==0&&a2==0&&a3==0)=!(An0 256).any m:=by
 rw [Am7]
 simp only [Al1,beq_iff_eq,Bool.not_eq_true',An2,List.mem_range]
 constructor
 ·
  rintro ⟨⟨⟨rfl,rfl⟩,rfl⟩,rfl⟩ q hq
  rw [h.bit q hq]
  have hq4:q/64=0∨q/64=1∨q/64=2∨q/64=3:=by omega
  rcases hq4 with e|e|e|e<;>rw [e]<;>simp
 ·
  intro hz
  have key:∀k,k<4→[a0,a1,a2,a3].getD k 0=0:=by
   intro k hk
   refine Nat.eq_of_testBit_eq (fun j=> ?_)
   rw [Nat.zero_testBit]
   by_cases hj:j<64
   ·
    have h1:=h.bit (64*k+j) (by omega)
    have h2:=hz (64*k+j) (by omega)
    rw [show (64*k+j)/64=k by omega,show (64*k+j)%64=j by omega] at h1
    rw [← h1]
    simpa using h2
   ·
    have hu:=h.u64 k
    exact Nat.testBit_lt_two_pow (Nat.lt_of_lt_of_le hu (by
     have:(2:Nat)^64≤2^j:=Nat.pow_le_pow_right (by decide) (by omega)
     exact Nat.le_trans (by decide) this))
  exact ⟨⟨⟨key 0 (by omega),key 1 (by omega)⟩,key 2 (by omega)⟩,key 3 (by omega)⟩
inductive Rows (cards:List Cd):List Pn→Prop
 |nil:Rows cards []
 |snoc (l:List Pn) (o:Op):Rows cards l→Aj cards l o=0→Rows cards (l++[Av l o])
structure Ia (cards:List Cd) (l:List Pn) (o:Op):Prop where
 chk:o.chk=0
 new:plc l o.name=none
 room:l.length<200
 card:(Bk cards o.by_).isSome=true
 past:∀id∈o.past,∃i,plc l id=some i
 clash:clash l o.past=false
 late:late l o.past≤o.at_
 seq:Az l (Ah l o.past) o=false
theorem Gv {cards:List Cd} {l:List Pn} {o:Op} (h:Aj cards l o=0):Ia cards l o:=by
 unfold Aj at h
 by_cases h1:o.chk≠0
 · rw [if_pos h1] at h;exact absurd h h1
 rw [if_neg h1] at h
 by_cases h2:(plc l o.name).isSome=true
 · rw [if_pos h2] at h;omega
 rw [if_neg h2] at h
 by_cases h3:200≤l.length
 · rw [if_pos h3] at h;omega
 rw [if_neg h3] at h
 cases hc:Bk cards o.by_ with
 |none=>rw [hc] at h;dsimp only at h;omega
 |some c=>
  rw [hc] at h
  dsimp only at h
  by_cases h4:Sg.check c.s o.bare o.r o.s=false
  · rw [if_pos h4] at h;omega
  rw [if_neg h4] at h
  by_cases h5:o.kind=1∧l≠[]
  · rw [if_pos h5] at h;omega
  rw [if_neg h5] at h
  by_cases h6:o.past.any (fun id=>(plc l id).isNone)=true
  · rw [if_pos h6] at h;omega
  rw [if_neg h6] at h
  by_cases h7:Oq.clash l o.past=true∨o.at_<Oq.late l o.past
  · rw [if_pos h7] at h;omega
  rw [if_neg h7] at h
  by_cases h8:Az l (Ah l o.past) o=true
  · rw [if_pos h8] at h;omega
  refine ⟨Decidable.not_not.1 h1,?_,by omega,by rw [hc];rfl,?_,?_,?_,Bool.not_eq_true _▸h8⟩
  ·
   cases hp:plc l o.name with
   |none=>rfl
   |some i=>rw [hp] at h2;exact absurd rfl h2
  ·
   intro id hid
   cases hp:plc l id with
   |some i=>exact ⟨i,rfl⟩
   |none=>exact absurd (List.any_eq_true.2 ⟨id,hid,by rw [hp];rfl⟩) h6
  ·
   cases hcl:Oq.clash l o.past with
   |false=>rfl
   |true=>exact absurd (Or.inl hcl) h7
  · exact Int.not_lt.1 (fun hh=>h7 (Or.inr hh))
theorem Ei {l:List Pn} {id:Id} {i:Nat} (n:Pn) (h:plc l id=some i):plc (l++[n]) id=some i:=by
 unfold plc at h ⊢
 rw [Ao2,h]
 rfl
theorem Wc {l:List Pn} {n:Pn} (h:plc l n.id=none):plc (l++[n]) n.id=some l.length:=by
 unfold plc at h ⊢
 rw [Ao2,h]
 simp
theorem Ib {l:List Pn} {p:Nat} {m n:Pn} (h:l[p]? =some m):(l++[n])[p]? =some m:=by
 obtain ⟨hp,hm⟩:=List.getElem?_eq_some_iff.1 h
 rw [Al2 hp]
 exact h
structure NOk (cards:List Cd) (l:List Pn) (i:Nat) (n:Pn):Prop where
 id:n.id=n.o.name
 plc:plc l n.id=some i
 chk:n.o.chk=0
 card:(Bk cards n.o.by_).isSome=true
 par:∀id∈n.o.past,∃p,p<i∧Oq.plc l id=some p
 lt:∀q,n.ps q=true→q<i
 ps:∀q,n.ps q=true↔∃id∈n.o.past,∃p m,Oq.plc l id=some p∧l[p]? =some m∧(q=p∨m.ps q=true)
 anti:∀id∈n.o.past,∀id'∈n.o.past,∀p p' m,Oq.plc l id=some p→Oq.plc l id'=some p'→l[p]? =some m→m.ps p'=false
 late:∀id∈n.o.past,∀p m,Oq.plc l id=some p→l[p]? =some m→m.o.at_≤n.o.at_
 lev:n.lev=lvl l n.o.past
 seqs:∀q m,n.ps q=true→l[q]? =some m→m.o.by_=n.o.by_→m.o.sq<n.o.sq
 one:n.o.sq=1∨∃q m,n.ps q=true∧l[q]? =some m∧m.o.by_=n.o.by_∧m.o.sq=n.o.sq-1
theorem Kl {l l':List Pn} {ids:List Id} (h:∀id∈ids,Bq l' id=Bq l id):lvl l' ids=lvl l ids:=by
 unfold lvl
 suffices H:∀t:Nat,ids.foldl (fun t id=>max t (Bq l' id+1)) t=ids.foldl (fun t id=>max t (Bq l id+1)) t from H 1
 induction ids with
 |nil=>intro t;rfl
 |cons x r ih=>intro t;rw [List.foldl_cons,List.foldl_cons,h x An3];exact ih (fun y hy=>h y (An4 _ hy)) _
theorem NOk.keep {cards:List Cd} {l:List Pn} {i:Nat} {n n':Pn} (h:NOk cards l i n) (hi:l[i]? =some n):NOk cards (l++[n']) i n:=by
 have hil:i<l.length:=(List.getElem?_eq_some_iff.1 hi).1
 have hpar:∀id∈n.o.past,∀p,Oq.plc (l++[n']) id=some p→Oq.plc l id=some p:=by
  intro id hid p hp
  obtain ⟨q,_,hq⟩:=h.par id hid
  rw [Ei n' hq] at hp
  injection hp with hp
  subst hp
  exact hq
 have hat:∀id∈n.o.past,∀p m,Oq.plc l id=some p→(l++[n'])[p]? =some m→l[p]? =some m:=by
  intro id hid p m hp hm
  rw [Al2 (Dl hp)] at hm
  exact hm
 have hlow:∀q m,n.ps q=true→(l++[n'])[q]? =some m→l[q]? =some m:=by
  intro q m hq hm
  rw [Al2 (Nat.lt_trans (h.lt q hq) hil)] at hm
  exact hm
 refine ⟨h.id,Ei n' h.plc,h.chk,h.card,fun id hid=> ?_,h.lt,fun q=>(h.ps q).trans ⟨?_,?_⟩,?_,?_,?_,?_,?_⟩
 ·
  obtain ⟨p,hp,hq⟩:=h.par id hid
  exact ⟨p,hp,Ei n' hq⟩
 ·
  rintro ⟨id,hid,p,m,h1,h2,h3⟩
  exact ⟨id,hid,p,m,Ei n' h1,Ib h2,h3⟩
 ·
  rintro ⟨id,hid,p,m,h1,h2,h3⟩
  have h1':=hpar id hid p h1
  exact ⟨id,hid,p,m,h1',hat id hid p m h1' h2,h3⟩
 ·
  intro id hid id' hid' p p' m h1 h2 h3
  have h1':=hpar id hid p h1
  exact h.anti id hid id' hid' p p' m h1' (hpar id' hid' p' h2) (hat id hid p m h1' h3)
 ·
  intro id hid p m h1 h2
  have h1':=hpar id hid p h1
  exact h.late id hid p m h1' (hat id hid p m h1' h2)
 ·
  rw [h.lev]
  refine (Kl (fun id hid=> ?_)).symm
  obtain ⟨p,_,hq⟩:=h.par id hid
  unfold Bq
  rw [Ei n' hq,hq]
  dsimp only
  rw [Al2 (Dl hq)]
 ·
  intro q m hq hm
  exact h.seqs q m hq (hlow q m hq hm)
 ·
  rcases h.one with h1|⟨q,m,h1,h2,h3⟩
  · exact .inl h1
  · exact .inr ⟨q,m,h1,Ib h2,h3⟩
theorem upB_iff {l:List Pn} {id:Id} {q:Nat}:upB l id q=true↔∃p m,plc l id=some p∧l[p]? =some m∧m.ps q=true:=by
 unfold upB
 constructor
 ·
  intro h
  split at h
  ·
   rename_i p hp
   obtain ⟨m,hm,_⟩:=Bz hp
   rw [hm] at h
   exact ⟨p,m,hp,hm,h⟩
  · cases h
 ·
  rintro ⟨p,m,h1,h2,h3⟩
  rw [h1]
  dsimp only
  rw [h2]
  exact h3
theorem Km {l:List Pn} {ids:List Id} (hlen:l.length≤200) (hlt:∀(p:Nat) (m:Pn),l[p]? =some m→∀q,m.ps q=true→q<p) (q:Nat):
  Ah l ids q=true↔∃id∈ids,∃p m,plc l id=some p∧l[p]? =some m∧(q=p∨m.ps q=true):=by
 unfold Ah Ao Cb
 rw [Al1,Am1,An5,An5,decide_eq_true_eq]
 constructor
 ·
  rintro ⟨_,⟨id,hid,h⟩|⟨id,hid,h⟩⟩
  ·
   obtain ⟨p,m,h1,h2,h3⟩:=upB_iff.1 h
   exact ⟨id,hid,p,m,h1,h2,.inr h3⟩
  ·
   have h1:plc l id=some q:=by simpa using h
   obtain ⟨m,hm,_⟩:=Bz h1
   exact ⟨id,hid,q,m,h1,hm,.inl rfl⟩
 ·
  rintro ⟨id,hid,p,m,h1,h2,h3⟩
  have hp:=Dl h1
  rcases h3 with rfl|h3
  · exact ⟨by omega,.inr ⟨id,hid,by rw [h1];exact beq_self_eq_true _⟩⟩
  ·
   have:=hlt p m h2 q h3
   exact ⟨by omega,.inl ⟨id,hid,upB_iff.2 ⟨p,m,h1,h2,h3⟩⟩⟩
theorem Pb {l:List Pn} {ids:List Id} {id:Id} (h:id∈ids):Bn l id≤late l ids:=by
 unfold late
 have mono:∀(r:List Id) (t:Int),t≤r.foldl (fun t id=>max t (Bn l id)) t:=by
  intro r
  induction r with
  |nil=>intro t;exact Int.le_refl _
  |cons y r ih=>intro t;exact Am0 (An6 _ _) (ih _)
 suffices H:∀t:Int,Bn l id≤ids.foldl (fun t id=>max t (Bn l id)) t from H 0
 induction ids with
 |nil=>cases h
 |cons x r ih=>
  intro t
  rcases List.mem_cons.1 h with rfl|h'
  · exact Am0 (Int.le_max_right t _) (mono r _)
  · exact ih h' _
theorem Fv {l:List Pn} {id:Id} {p:Nat} {m:Pn} (h1:plc l id=some p) (h2:l[p]? =some m):Bn l id=m.o.at_:=by
 unfold Bn
 rw [h1]
 dsimp only
 rw [h2]
 rfl
theorem Pc {l:List Pn} {id:Id} {p:Nat} {m:Pn} (h1:plc l id=some p) (h2:l[p]? =some m):Bq l id=m.lev:=by
 unfold Bq
 rw [h1]
 dsimp only
 rw [h2]
 rfl
theorem Kn {l:List Pn} {p:Nat→Bool} {d:Int}:∀{K k:Nat} {m:Pn},k<K→l[k]? =some m→m.o.by_=d→p k=true→m.o.sq≤Be l p d K:=by
 intro K
 induction K with
 |zero=>intro k m h;omega
 |succ K ih=>
  intro k m h hm hd hp
  unfold Be
  rcases Am2 k K with hk|hk
  ·
   have:=ih hk hm hd hp
   split
   ·
    split
    · exact Am0 this (An6 _ _)
    · exact this
   · exact this
  ·
   have e:k=K:=by omega
   subst e
   rw [hm]
   dsimp only
   rw [if_pos (by rw [Al1];exact ⟨beq_iff_eq.2 hd,hp⟩)]
   exact Int.le_max_right _ _
theorem aheadTo_iff {l:List Pn} {p:Nat→Bool} {d s:Int}:∀{K:Nat},Ca l p d s K=true↔∃k m,k<K∧l[k]? =some m∧m.o.by_=d∧p k=true∧m.o.sq=s-1:=by
 intro K
 induction K with
 |zero=>exact ⟨fun h=>(by cases h),fun ⟨k,m,h,_⟩=>by omega⟩
 |succ K ih=>
  unfold Ca
  cases hK:l[K]? with
  |none=>
   dsimp only
   rw [ih]
   constructor
   ·
    rintro ⟨k,m,h,h'⟩
    exact ⟨k,m,by omega,h'⟩
   ·
    rintro ⟨k,m,h,h1,h'⟩
    have:k≠K:=fun e=>by subst e;rw [hK] at h1;cases h1
    exact ⟨k,m,by omega,h1,h'⟩
  |some n=>
   dsimp only
   rw [Am1,ih,Al1,Al1,beq_iff_eq,beq_iff_eq]
   constructor
   ·
    rintro (⟨k,m,h,h'⟩|⟨⟨h1,h2⟩,h3⟩)
    · exact ⟨k,m,by omega,h'⟩
    · exact ⟨K,n,by omega,hK,h1,h2,h3⟩
   ·
    rintro ⟨k,m,h,h1,h2,h3,h4⟩
    rcases Am2 k K with hk|hk
    · exact .inl ⟨k,m,hk,h1,h2,h3,h4⟩
    ·
     have e:k=K:=by omega
     subst e
     rw [hK] at h1
     injection h1 with h1
     subst h1
     exact .inr ⟨⟨h2,h3⟩,h4⟩
theorem Pd {cards:List Cd} {l:List Pn} {o:Op} (hl:∀i n,l[i]? =some n→NOk cards l i n) (T:Ia cards l o):NOk cards (l++[Av l o]) l.length (Av l o):=by
 have hlt:∀(p:Nat) (m:Pn),l[p]? =some m→∀q,m.ps q=true→q<p:=fun p m hm=>(hl p m hm).lt
 have hps:=Km (ids:=o.past) (Nat.le_of_lt T.room) hlt
 have hpar:∀id∈o.past,∀p,plc (l++[Av l o]) id=some p→plc l id=some p:=by
  intro id hid p hp
  obtain ⟨q,hq⟩:=T.past id hid
  rw [Ei _ hq] at hp
  injection hp with hp
  subst hp
  exact hq
 have hat:∀id∈o.past,∀p m,plc l id=some p→(l++[Av l o])[p]? =some m→l[p]? =some m:=by
  intro id hid p m hp hm
  rw [Al2 (Dl hp)] at hm
  exact hm
 have hlow:∀q,Ah l o.past q=true→q<l.length:=by
  intro q hq
  obtain ⟨id,hid,p,m,h1,h2,h3⟩:=(hps q).1 hq
  have:=Dl h1
  rcases h3 with rfl|h3
  · exact this
  ·
   have:=hlt p m h2 q h3
   omega
 have hseq:=T.seq
 unfold Az at hseq
 rw [Bool.or_eq_false_iff,decide_eq_false_iff_not] at hseq
 refine ⟨rfl,Wc (n:=Av l o) T.new,T.chk,T.card,?_,hlow,fun q=>(hps q).trans ⟨?_,?_⟩,?_,?_,?_,?_,?_⟩
 ·
  intro id hid
  obtain ⟨p,hp⟩:=T.past id hid
  exact ⟨p,Dl hp,Ei _ hp⟩
 ·
  rintro ⟨id,hid,p,m,h1,h2,h3⟩
  exact ⟨id,hid,p,m,Ei _ h1,Ib h2,h3⟩
 ·
  rintro ⟨id,hid,p,m,h1,h2,h3⟩
  have h1':=hpar id hid p h1
  exact ⟨id,hid,p,m,h1',hat id hid p m h1' h2,h3⟩
 ·
  intro id hid id' hid' p p' m h1 h2 h3
  have h1':=hpar id hid p h1
  have h2':=hpar id' hid' p' h2
  have h3':=hat id hid p m h1' h3
  have hlen:=T.room
  have hp':=Dl h2'
  have hc:=T.clash
  unfold Oq.clash at hc
  rw [An2] at hc
  have hq:=hc p' (List.mem_range.2 (by omega))
  cases hm:m.ps p' with
  |false=>rfl
  |true=>
   refine absurd ?_ hq
   rw [Al1]
   exact ⟨List.any_eq_true.2 ⟨id',hid',by rw [h2'];exact beq_self_eq_true _⟩,List.any_eq_true.2 ⟨id,hid,upB_iff.2 ⟨p,m,h1',h3',hm⟩⟩⟩
 ·
  intro id hid p m h1 h2
  have h1':=hpar id hid p h1
  have h2':=hat id hid p m h1' h2
  have:=Pb (l:=l) hid
  rw [Fv h1' h2'] at this
  exact Am0 this T.late
 ·
  refine (Kl (l:=l) (l':=l++[Av l o]) (fun id hid=> ?_)).symm
  obtain ⟨p,hq⟩:=T.past id hid
  unfold Bq
  rw [Ei _ hq,hq]
  dsimp only
  rw [Al2 (Dl hq)]
 ·
  intro q m hq hm hb
  have hql:=hlow q hq
  rw [Al2 hql] at hm
  have:=Kn (p:=Ah l o.past) hql hm hb hq
  exact Int.lt_of_le_of_lt this (Int.not_le.1 hseq.1)
 ·
  rcases Int.lt_or_le 1 o.sq with h1|h1
  ·
   have h2:=hseq.2
   rw [Bool.and_eq_false_iff] at h2
   rcases h2 with h2|h2
   ·
    rw [decide_eq_false_iff_not] at h2
    exact absurd h1 h2
   ·
    have h3:Ca l (Ah l o.past) o.by_ o.sq l.length=true:=by
     cases ha:Ca l (Ah l o.past) o.by_ o.sq l.length with
     |true=>rfl
     |false=>rw [ha] at h2;cases h2
    obtain ⟨k,m,hk,hm,hb,hp,hs⟩:=aheadTo_iff.1 h3
    exact .inr ⟨k,m,hp,Ib hm,hb,hs⟩
  ·
   refine .inl ?_
   have h0:∀K,0≤Be l (Ah l o.past) o.by_ K:=by
    intro K
    induction K with
    |zero=>exact Int.le_refl _
    |succ K ih=>
     unfold Be
     split
     ·
      split
      · exact Am0 ih (An6 _ _)
      · exact ih
     · exact ih
   have h2:=h0 l.length
   have h3:=Int.not_le.1 hseq.1
   have h4:(Av l o).o.sq=o.sq:=rfl
   rw [h4]
   omega
theorem Rows.ok {cards:List Cd} {l:List Pn} (h:Rows cards l):∀i n,l[i]? =some n→NOk cards l i n:=by
 induction h with
 |nil=>intro i n h;simp at h
 |snoc l o hl ho ih=>
  intro i n hi
  rcases Am2 i l.length with hlt|hge
  ·
   rw [Al2 hlt] at hi
   exact (ih i n hi).keep hi
  ·
   rw [List.getElem?_append_right hge] at hi
   have e:i-l.length=0:=by
    rcases Nat.eq_zero_or_pos (i-l.length) with h0|h0
    · exact h0
    · rw [Ao1 (by simp;omega)] at hi;cases hi
   rw [e] at hi
   injection hi with hi
   subst hi
   have:i=l.length:=by omega
   subst this
   exact Pd ih (Gv ho)
theorem Rows.few {cards:List Cd} {l:List Pn} (h:Rows cards l):l.length≤200:=by
 induction h with
 |nil=>simp
 |snoc l o hl ho ih=>
  have:=(Gv ho).room
  simp
  omega
theorem Rows.trans {cards:List Cd} {l:List Pn} (h:Rows cards l):∀(i:Nat) {n m:Pn} {q r:Nat},l[i]? =some n→n.ps q=true→l[q]? =some m→m.ps r=true→n.ps r=true:=by
 intro i
 induction i using Nat.strongRecOn with
 |_ i ih=>
  intro n m q r hn hq hm hr
  have k:=h.ok i n hn
  obtain ⟨id,hid,p,m',h1,h2,h3⟩:=(k.ps q).1 hq
  refine (k.ps r).2 ⟨id,hid,p,m',h1,h2,.inr ?_⟩
  rcases h3 with rfl|h3
  ·
   rw [h2] at hm
   injection hm with hm
   subst hm
   exact hr
  ·
   obtain ⟨p2,hp2,e⟩:=k.par id hid
   rw [h1] at e
   injection e with e
   subst e
   exact ih p hp2 h2 h3 hm hr
theorem Rows.node {cards:List Cd} {l:List Pn} (h:Rows cards l) {i:Nat} {n:Pn} {id:Id} (hn:l[i]? =some n):plc l id=some i↔n.id=id:=by
 constructor
 ·
  intro hp
  obtain ⟨m,hm,e⟩:=Bz hp
  rw [hn] at hm
  injection hm with hm
  subst hm
  exact e
 ·
  rintro rfl
  exact (h.ok i n hn).plc
def Ak (l:List Pn) (ids:List Id):List Nat:=ids.map (fun id=>(plc l id).getD 0)
def Fh (l:List Pn):List (List Nat):=l.map (fun n=>Ak l n.o.past)
def Br (n:Nat) (p:Nat→Bool):List Bool:=(An0 n).map p
def Dd (l:List Pn):List (List Bool):=l.map (fun n=>Br l.length n.ps)
theorem Fw (n:Nat) (p:Nat→Bool):(Br n p).length=n:=by simp [Br]
theorem Pe {n:Nat} {p:Nat→Bool} {k:Nat} (h:k<n):(Br n p)[k]? =some (p k):=by simp [Br,h]
theorem Pf (n:Nat) (p:Nat→Bool):Br (n+1) p=Br n p++[p n]:=by simp [Br,List.range_succ]
theorem Wd (l:List Pn):(Dd l).length=l.length:=by simp [Dd]
theorem We {l:List Pn} {i:Nat} {n:Pn} (h:l[i]? =some n):(Fh l)[i]? =some (Ak l n.o.past):=by simp [Fh,h]
theorem Pg {l:List Pn} {i:Nat} {n:Pn} (h:l[i]? =some n):(Dd l)[i]? =some (Br l.length n.ps):=by simp [Dd,h]
theorem Gw (l:List Pn) (ids:List Id):(Ak l ids).length=ids.length:=by simp [Ak]
theorem Ko {l:List Pn} {ids:List Id} (h:∀id∈ids,∃p,plc l id=some p):∀q∈Ak l ids,q<l.length:=by
 intro q hq
 obtain ⟨id,hid,rfl⟩:=List.mem_map.1 hq
 obtain ⟨p,hp⟩:=h id hid
 rw [hp]
 exact Dl hp
theorem Ic {l:List Pn} {ids:List Id} (h:∀id∈ids,∃p,plc l id=some p) (q:Nat):q∈Ak l ids↔∃id∈ids,plc l id=some q:=by
 unfold Ak
 rw [List.mem_map]
 constructor
 ·
  rintro ⟨id,hid,rfl⟩
  obtain ⟨p,hp⟩:=h id hid
  exact ⟨id,hid,by rw [hp];rfl⟩
 ·
  rintro ⟨id,hid,hq⟩
  exact ⟨id,hid,by rw [hq];rfl⟩
theorem NOk.placed {cards:List Cd} {l:List Pn} {i:Nat} {n:Pn} (h:NOk cards l i n):∀id∈n.o.past,∃p,Oq.plc l id=some p:=fun id hid=>by
 obtain ⟨p,_,hp⟩:=h.par id hid
 exact ⟨p,hp⟩
theorem Wf {cards:List Cd} {l:List Pn} {o:Op} (h:Rows cards l) (T:Ia cards l o):Fh (l++[Av l o])=Fh l++[Ak l o.past]:=by
 have key:∀ids:List Id,(∀id∈ids,∃p,plc l id=some p)→Ak (l++[Av l o]) ids=Ak l ids:=by
  intro ids hids
  unfold Ak
  refine An7 (fun id hid=> ?_)
  obtain ⟨p,hp⟩:=hids id hid
  rw [Ei _ hp,hp]
 unfold Fh
 rw [List.map_append,List.map_cons,List.map_nil]
 have h1:Ak (l++[Av l o]) (Av l o).o.past=Ak l o.past:=key _ T.past
 rw [h1]
 congr 1
 refine An7 (fun n hn=> ?_)
 obtain ⟨i,hi⟩:=Ao3 hn
 exact key _ (h.ok i n hi).placed
theorem Wg {cards:List Cd} {l:List Pn} {o:Op} (h:Rows cards l) (T:Ia cards l o):Dd (l++[Av l o])=(Dd l).map (· ++[false])++[Br l.length (Ah l o.past)++[false]]:=by
 have hn:=(Pd h.ok T).lt
 unfold Dd
 rw [List.map_append,List.map_cons,List.map_nil,List.map_map,List.length_append,List.length_singleton]
 congr 1
 ·
  refine An7 (fun n hm=> ?_)
  obtain ⟨i,hi⟩:=Ao3 hm
  have hil:i<l.length:=(List.getElem?_eq_some_iff.1 hi).1
  show Br (l.length+1) n.ps=Br l.length n.ps++[false]
  rw [Pf]
  have:n.ps l.length=false:=by
   cases hp:n.ps l.length with
   |false=>rfl
   |true=>have:=(h.ok i n hi).lt _ hp;omega
  rw [this]
 ·
  have:(Av l o).ps l.length=false:=by
   cases hp:(Av l o).ps l.length with
   |false=>rfl
   |true=>have:=hn _ hp;omega
  rw [Pf,this]
  rfl
def Cx (up:List Nat) (i:Nat) (s:Nat→Bool):Nat→Bool:=fun q=>s q||(decide (q=i)&&up.contains i)
def De (us:Nat→List Nat) (up:List Nat) (i:Nat) (s:Nat→Bool):Nat→Bool:=
 fun q=>Cx up i s q||(Cx up i s i&&(us i).contains q)
def C3 (us:Nat→List Nat) (up:List Nat):Nat→(Nat→Bool)→(Nat→Bool)
 |0,s=>s
 |i+1,s=>C3 us up i (De us up i s)
theorem Wh (us:Nat→List Nat) (up:List Nat) (P:Nat→Bool) (h1:∀q∈up,P q=true) (h2:∀j,P j=true→∀q∈us j,P q=true) (h3:∀j,∀q∈us j,q<j):
  ∀(i:Nat) (s:Nat→Bool),(∀q,s q=true→P q=true)→(∀q∈up,i≤q→s q=true)→(∀j,i≤j→s j=true→∀q∈us j,s q=true)→
  (∀q,C3 us up i s q=true→P q=true)∧(∀q∈up,C3 us up i s q=true)∧(∀j,C3 us up i s j=true→∀q∈us j,C3 us up i s q=true):=by
 intro i
 induction i with
 |zero=>intro s a b c;exact ⟨a,fun q hq=>b q hq (Nat.zero_le _),fun j=>c j (Nat.zero_le _)⟩
 |succ i ih=>
  intro s a b c
  have hm:∀q,Cx up i s q=true↔s q=true∨(q=i∧i∈up):=by
   intro q
   unfold Cx
   rw [Am1,Al1,decide_eq_true_eq,Ao4]
  have hs:∀q,De us up i s q=true↔Cx up i s q=true∨(Cx up i s i=true∧q∈us i):=by
   intro q
   unfold De
   rw [Am1,Al1,Ao4]
  have hmP:∀q,Cx up i s q=true→P q=true:=by
   intro q hq
   rcases (hm q).1 hq with h|⟨rfl,h⟩
   · exact a q h
   · exact h1 q h
  refine ih (De us up i s) ?_ ?_ ?_
  ·
   intro q hq
   rcases (hs q).1 hq with h|⟨h,h'⟩
   · exact hmP q h
   · exact h2 i (hmP i h) q h'
  ·
   intro q hq hiq
   refine (hs q).2 (.inl ((hm q).2 ?_))
   rcases Am2 i q with h|h
   · exact .inl (b q hq h)
   ·
    have e:q=i:=by omega
    subst e
    exact .inr ⟨rfl,hq⟩
  ·
   intro j hij hj q hq
   rcases Am2 i j with h|h
   ·
    have hsj:s j=true:=by
     rcases (hs j).1 hj with h'|⟨_,h'⟩
     ·
      rcases (hm j).1 h' with h''|⟨e,_⟩
      · exact h''
      · omega
     ·
      have:=h3 i j h'
      omega
    exact (hs q).2 (.inl ((hm q).2 (.inl (c j h hsj q hq))))
   ·
    have e:j=i:=by omega
    subst e
    refine (hs q).2 (.inr ⟨?_,hq⟩)
    rcases (hs j).1 hj with h'|⟨h',_⟩
    · exact h'
    · exact h'
def Df (l:List Pn) (i:Nat):List Nat:=match l[i]? with|some n=>Ak l n.o.past|none=>[]
theorem Kp {l:List Pn} {i:Nat} {n:Pn} (h:l[i]? =some n):Df l i=Ak l n.o.past:=by
 unfold Df
 rw [h]
theorem Wi {cards:List Cd} {l:List Pn} (h:Rows cards l) {ids:List Id} (hids:∀id∈ids,∃p,plc l id=some p) (q:Nat):
  C3 (Df l) (Ak l ids) l.length (fun _=>false) q=Ah l ids q:=by
 have hlt:∀(p:Nat) (m:Pn),l[p]? =some m→∀q,m.ps q=true→q<p:=fun p m hm=>(h.ok p m hm).lt
 have hps:=Km (ids:=ids) h.few hlt
 have hus:∀j q,q∈Df l j→∃n,l[j]? =some n∧∃id∈n.o.past,plc l id=some q:=by
  intro j q hq
  cases hj:l[j]? with
  |none=>unfold Df at hq;rw [hj] at hq;cases hq
  |some n=>
   rw [Kp hj,Ic (h.ok j n hj).placed] at hq
   exact ⟨n,rfl,hq⟩
 have hps1:∀j n,l[j]? =some n→∀q∈Df l j,n.ps q=true:=by
  intro j n hj q hq
  obtain ⟨n',hn',id,hid,hp⟩:=hus j q hq
  rw [hj] at hn'
  injection hn' with e
  subst e
  obtain ⟨m,hm,_⟩:=Bz hp
  exact ((h.ok j n hj).ps q).2 ⟨id,hid,q,m,hp,hm,.inl rfl⟩
 obtain ⟨a,b,c⟩:=Wh (Df l) (Ak l ids) (Ah l ids) (by
   intro q hq
   obtain ⟨id,hid,hp⟩:=(Ic hids q).1 hq
   obtain ⟨m,hm,_⟩:=Bz hp
   exact (hps q).2 ⟨id,hid,q,m,hp,hm,.inl rfl⟩) (by
   intro j hj q hq
   obtain ⟨n,hn,_⟩:=hus j q hq
   have hnq:=hps1 j n hn q hq
   obtain ⟨id,hid,p,m,h1,h2,h3⟩:=(hps j).1 hj
   refine (hps q).2 ⟨id,hid,p,m,h1,h2,.inr ?_⟩
   rcases h3 with rfl|h3
   ·
    rw [hn] at h2
    injection h2 with e
    subst e
    exact hnq
   · exact h.trans p h2 h3 hn hnq) (by
   intro j q hq
   obtain ⟨n,hn,id,hid,hp⟩:=hus j q hq
   obtain ⟨p,hpj,hp'⟩:=(h.ok j n hn).par id hid
   rw [hp] at hp'
   injection hp' with e
   omega) l.length (fun _=>false) (fun q hq=>by cases hq) (fun q hq hle=>by have:=Ko hids q hq;omega) (fun j _ hj=>by cases hj)
 rw [Am7]
 refine ⟨a q,fun hq=> ?_⟩
 obtain ⟨id,hid,p,m,h1,h2,h3⟩:=(hps q).1 hq
 have hp:=b p ((Ic hids p).2 ⟨id,hid,h1⟩)
 have down:∀(j:Nat) (n:Pn) (r:Nat),l[j]? =some n→C3 (Df l) (Ak l ids) l.length (fun _=>false) j=true→n.ps r=true→C3 (Df l) (Ak l ids) l.length (fun _=>false) r=true:=by
  intro j
  induction j using Nat.strongRecOn with
  |_ j ih=>
   intro n r hn hj hr
   obtain ⟨id',hid',p',m',k1,k2,k3⟩:=((h.ok j n hn).ps r).1 hr
   have hp':p'∈Df l j:=by rw [Kp hn,Ic (h.ok j n hn).placed];exact ⟨id',hid',k1⟩
   have hd:=c j hj p' hp'
   rcases k3 with rfl|k3
   · exact hd
   ·
    obtain ⟨p2,hp2,e⟩:=(h.ok j n hn).par id' hid'
    rw [k1] at e
    injection e with e
    exact ih p' (by omega) m' r k2 hd k3
 rcases h3 with rfl|h3
 · exact hp
 · exact down p m q h2 hp h3
theorem Wj {l:List Pn} {p:Nat→Bool} {o:Op} {k:Nat} {m:Pn} (hm:l[k]? =some m) (hb:m.o.by_=o.by_) (hp:p k=true) (hs:o.sq≤m.o.sq):Az l p o=true:=by
 unfold Az
 rw [Am1]
 have hk:k<l.length:=(List.getElem?_eq_some_iff.1 hm).1
 exact .inl (decide_eq_true (Am0 hs (Kn hk hm hb hp)))
theorem Wk {l:List Pn} {p:Nat→Bool} {o:Op} (h1:1≤o.sq) (h:∀k m,l[k]? =some m→m.o.by_=o.by_→p k=true→m.o.sq<o.sq):
  Az l p o=!((o.sq==1)||Ca l p o.by_ o.sq l.length):=by
 have hl:∀K,Be l p o.by_ K<o.sq:=by
  intro K
  induction K with
  |zero=>exact h1
  |succ K ih=>
   unfold Be
   split
   ·
    rename_i n hn
    split
    ·
     rename_i hc
     rw [Al1,beq_iff_eq] at hc
     have:=h K n hn hc.1 hc.2
     exact Int.max_lt.2 ⟨ih,this⟩
    · exact ih
   · exact ih
 unfold Az
 rw [decide_eq_false (Int.not_le.2 (hl _)),Bool.false_or]
 rcases Int.lt_or_le 1 o.sq with h2|h2
 ·
  rw [decide_eq_true h2,beq_eq_false_iff_ne.2 (fun e=>by omega)]
  rfl
 ·
  rw [decide_eq_false (Int.not_lt.2 h2),beq_iff_eq.2 (by omega)]
  rfl
theorem Wl {l:List Pn} {ids:List Id} (hlen:l.length≤200) {a b:Id} (ha:a∈ids) (hb:b∈ids) {p r:Nat} {m:Pn} (h1:plc l a=some p) (h2:plc l b=some r) (h3:l[p]? =some m) (h4:m.ps r=true):clash l ids=true:=by
 unfold clash
 rw [An5]
 have:=Dl h2
 refine ⟨r,List.mem_range.2 (by omega),?_⟩
 rw [Al1]
 exact ⟨List.any_eq_true.2 ⟨b,hb,by rw [h2];exact beq_self_eq_true _⟩,List.any_eq_true.2 ⟨a,ha,upB_iff.2 ⟨p,m,h1,h3,h4⟩⟩⟩
theorem Wm {l:List Pn} {ids:List Id} (h:∀a∈ids,∀b∈ids,∀p r m,plc l a=some p→plc l b=some r→l[p]? =some m→m.ps r=false):clash l ids=false:=by
 unfold clash
 rw [An2]
 intro q _ hq
 rw [Al1] at hq
 obtain ⟨b,hb,h2⟩:=List.any_eq_true.1 hq.1
 obtain ⟨a,ha,h3⟩:=List.any_eq_true.1 hq.2
 obtain ⟨p,m,h4,h5,h6⟩:=upB_iff.1 h3
 rw [h a ha b hb p q m h4 (by simpa using h2) h5] at h6
 cases h6
theorem Wn {l:List Pn} {ids:List Id} {t:Int} {a:Id} (ha:a∈ids) {p:Nat} {m:Pn} (h1:plc l a=some p) (h2:l[p]? =some m) (h3:t<m.o.at_):t<late l ids:=by
 have:=Pb (l:=l) ha
 rw [Fv h1 h2] at this
 omega
theorem Wo {l:List Pn} {ids:List Id} {t:Int} (h0:0≤t) (hp:∀id∈ids,∃p,plc l id=some p) (h:∀a∈ids,∀p m,plc l a=some p→l[p]? =some m→m.o.at_≤t):¬t<late l ids:=by
 unfold late
 suffices H:∀s:Int,s≤t→ids.foldl (fun t id=>max t (Bn l id)) s≤t from Int.not_lt.2 (H 0 h0)
 induction ids with
 |nil=>intro s hs;exact hs
 |cons x r ih=>
  intro s hs
  refine ih (fun id hid=>hp id (An4 _ hid)) (fun a ha=>h a (An4 _ ha)) _ ?_
  obtain ⟨p,hpx⟩:=hp x An3
  obtain ⟨m,hm,_⟩:=Bz hpx
  have:=h x An3 p m hpx hm
  exact Int.max_le.2 ⟨hs,by rw [Fv hpx hm];exact this⟩
def Qv (q:Nat):Value:=Iv (q:Int)
structure UpL where
 A:Option Addr
 c:Nat
 xs:List Nat
def UpL.cell (x:UpL):Value:=.slice x.A x.xs.length x.c
def UpL.own (w:World) (base:Nat) (x:UpL):Prop:=RowAt w base 3 1 x.A x.xs.length x.c (x.xs.map Qv)
structure InL where
 A:Option Addr
 c:Nat
 bs:List Bool
def InL.cell (x:InL):Value:=.slice x.A x.bs.length x.c
def InL.own (w:World) (base:Nat) (x:InL):Prop:=RowAt w base 4 1 x.A x.bs.length x.c (x.bs.map Value.bool)
structure RG where
 cA:Option Addr
 cC:Nat
 cards:List Cd
 lA:Option Addr
 lC:Nat
 xs:List OpL
 iA:Option Addr
 iC:Nat
 uA:Option Addr
 uC:Nat
 us:List UpL
 nA:Option Addr
 nC:Nat
 ns:List InL
 l:List Pn
def RG.ids (r:RG):List Id:=r.l.map Pn.id
def RG.cells (r:RG):Array Value:=#[.slice r.cA r.cards.length r.cC,.slice r.lA r.l.length r.lC,.slice r.iA r.l.length r.iC,.slice r.uA r.l.length r.uC,.slice r.nA r.l.length r.nC]
structure RG.own (w:World) (base:Nat) (r:RG):Prop where
 cards:RowAt w base 81 5 r.cA r.cards.length r.cC (r.cards.flatMap Cd.cells)
 ops:RowAt w base 44 27 r.lA r.l.length r.lC (r.xs.flatMap (fun x=>x.cells.toList))
 each:∀x∈r.xs,x.own w base
 same:r.xs.map OpL.op=r.l.map Pn.o
 ok:∀n∈r.l,n.o.ok∧n.id.ok
 ids:RowAt w base 38 3 r.iA r.l.length r.iC (r.ids.flatMap Id.cells)
 ups:RowAt w base 22 1 r.uA r.l.length r.uC (r.us.map UpL.cell)
 eachU:∀x∈r.us,x.own w base
 sameU:r.us.map UpL.xs=Fh r.l
 ins:RowAt w base 112 1 r.nA r.l.length r.nC (r.ns.map InL.cell)
 eachN:∀x∈r.ns,x.own w base
 sameN:r.ns.map InL.bs=Dd r.l
 rows:Rows r.cards r.l
 cfew:r.cards.length≤1000
 cok:∀c∈r.cards,c.s<18446744073709551616
theorem RG.own.keepP {S:Nat→Prop} {P:TypeId→Prop} {w w':World} {base:Nat} {r:RG} (h:r.own w base) (hf:Fr S w w') (hS:Types S w P) (h1:¬P 38) (h2:¬P 103) (h3:¬P 144) (h4:¬P 5) (h5:¬P 23) (h6:¬P 3) (h7:¬P 106)
  (h8:¬P 81) (h9:¬P 44) (h10:¬P 22) (h11:¬P 112) (h12:¬P 4):r.own w' base where
 cards:=h.cards.keepT hf (hS.not h8)
 ops:=h.ops.keepT hf (hS.not h9)
 each x hx:=(h.each x hx).keepP hf hS h1 h2 h3 h4 h5 h6 h7
 same:=h.same
 ok:=h.ok
 ids:=h.ids.keepT hf (hS.not h1)
 ups:=h.ups.keepT hf (hS.not h10)
 eachU x hx:=RowAt.keepT (h.eachU x hx) hf (hS.not h6)
 sameU:=h.sameU
 ins:=h.ins.keepT hf (hS.not h11)
 eachN x hx:=RowAt.keepT (h.eachN x hx) hf (hS.not h12)
 sameN:=h.sameN
 rows:=h.rows
 cfew:=h.cfew
 cok:=h.cok
theorem RG.own.non {w w':World} {base:Nat} {r:RG} (h:r.own w base) (hf:Fr Non w w'):r.own w' base:=
 h.keepP (P:=fun _=>False) hf (fun _ _ _ _ _ e=>e.elim) zq zq zq zq zq zq zq zq zq zq zq zq
theorem RG.own.few {w:World} {base:Nat} {r:RG} (h:r.own w base):r.l.length≤200:=h.rows.few
theorem RG.own.rdIds {w:World} {base:Nat} {r:RG} (h:r.own w base):Rd w w.heap.size 3 r.iA r.l.length (r.ids.flatMap Id.cells):=h.ids.sl.rd
theorem RG.own.xAt {w:World} {base:Nat} {r:RG} (h:r.own w base) {i:Nat} {n:Pn} (hi:r.l[i]? =some n):
  ∃(x:OpL) (b off:Nat),r.xs[i]? =some x∧x.op=n.o∧x.own w base∧r.lA=some ⟨b,off,none⟩∧b<w.heap.size∧∀j,j<27→∀u,x.cells.toList[j]? =some u→w.cell? ⟨b,off+i*27+j,none⟩=some u:=by
 have hm:(r.xs.map OpL.op)[i]? =some n.o:=by rw [h.same,Al6,hi];rfl
 rw [Al6] at hm
 cases hx:r.xs[i]? with
 |none=>rw [hx] at hm;cases hm
 |some x=>
  rw [hx] at hm
  injection hm with hm
  obtain ⟨b,off,h1,h2,h3⟩:=El (f:=fun x:OpL=>x.cells.toList) (fun _=>rfl) (by omega) h.ops.sl.rd hx
  exact ⟨x,b,off,rfl,hm,h.each x (Al9 hx),h1,h2,h3⟩
theorem RG.own.uAt {w:World} {base:Nat} {r:RG} (h:r.own w base) {i:Nat} {n:Pn} (hi:r.l[i]? =some n):
  ∃(x:UpL) (b off:Nat),x.xs=Ak r.l n.o.past∧x.own w base∧r.uA=some ⟨b,off,none⟩∧b<w.heap.size∧w.cell? ⟨b,off+i,none⟩=some x.cell:=by
 have hm:(r.us.map UpL.xs)[i]? =some (Ak r.l n.o.past):=by rw [h.sameU];exact We hi
 rw [Al6] at hm
 cases hx:r.us[i]? with
 |none=>rw [hx] at hm;cases hm
 |some x=>
  rw [hx] at hm
  injection hm with hm
  obtain ⟨b,off,u,h1,h2,h3,h4⟩:=h.ups.sl.rd.at (List.getElem?_eq_some_iff.1 hi).1
  rw [Al6,hx] at h3
  injection h3 with h3
  subst h3
  exact ⟨x,b,off,hm,h.eachU x (Al9 hx),h1,h2,h4⟩
theorem RG.own.nAt {w:World} {base:Nat} {r:RG} (h:r.own w base) {i:Nat} {n:Pn} (hi:r.l[i]? =some n):
  ∃(x:InL) (b off:Nat),x.bs=Br r.l.length n.ps∧x.own w base∧r.nA=some ⟨b,off,none⟩∧b<w.heap.size∧w.cell? ⟨b,off+i,none⟩=some x.cell:=by
 have hm:(r.ns.map InL.bs)[i]? =some (Br r.l.length n.ps):=by rw [h.sameN];exact Pg hi
 rw [Al6] at hm
 cases hx:r.ns[i]? with
 |none=>rw [hx] at hm;cases hm
 |some x=>
  rw [hx] at hm
  injection hm with hm
  obtain ⟨b,off,u,h1,h2,h3,h4⟩:=h.ins.sl.rd.at (List.getElem?_eq_some_iff.1 hi).1
  rw [Al6,hx] at h3
  injection h3 with h3
  subst h3
  exact ⟨x,b,off,hm,h.eachN x (Al9 hx),h1,h2,h4⟩
def Aw (l:List Pn) (id:Id):Int:=match plc l id with|some i=>(i:Int)|none=> -1
theorem Wp {l:List Pn} {id:Id} {i:Nat} (h:plc l id=some i):Aw l id=(i:Int):=by unfold Aw;rw [h]
theorem Wq {l:List Pn} {id:Id} (h:plc l id=none):Aw l id= -1:=by unfold Aw;rw [h]
end Oq
end
section
open Go.RowKit
attribute [local go_sem ↓] Go.wp_at_zero Go.wp_at_succ
namespace Oq
attribute [local go_sem] Bool.not_false Bool.not_true
theorem Wr (base:Nat) (g:Gph) (gv:Nat) (id:Id) (w:World) (hg:GAt w base g) (hv:w.cell? ⟨gv,0,none⟩=some (.pointer (some ⟨g.gb,0,none⟩))) (hid:id.ok):
  Calls Tryz.prog 81 #[.agg id.V,.pointer (some ⟨gv,0,none⟩)] w (Af (Ag g.nodes id).isSome w):=by
 have f0:Fr Non w (w.alloc (.cells id.V 38)):=(Fr.refl Non w).alloc _
 have hb:=Blk.new w 38 id.V
 have hg1:=hg.fr f0
 replace hv:=f0.cell hv zq
 generalize hw0:w.alloc (.cells id.V 38)=w0 at*
 have i0:w0.cell? ⟨w.heap.size,0,none⟩=some (.int .i64 id.b):=hb.cell 0
 have i1:w0.cell? ⟨w.heap.size,1,none⟩=some (.int .i64 id.s):=hb.cell 1
 have i2:w0.cell? ⟨w.heap.size,2,none⟩=some (.int .u64 (id.u:Int)):=hb.cell 2
 have c1:w0.cell? ⟨g.gb,1,none⟩=some (.map (some g.mb)):=hg1.blk.cell 1
 have hmap:=hg1.map
 have hlook:=fun (w':World) (h:MapAt w' g.mb g.mm (Ag g.nodes))=>MapAt.look h id hid
 clear hg hg1 hb
 cases hp:Ag g.nodes id
 ·
  rw [hp] at hlook
  go_enter Tryz.func81,Tryz.ntmps81
  go_wp2_with (fail)
  try rw [hw0]
  clear hw0 hp
  refine wp_region_held_drew (S:=(fun w'=>w'.cell? ⟨w.heap.size,0,none⟩=some (.int .i64 id.b)∧w'.cell? ⟨w.heap.size,1,none⟩=some (.int .i64 id.s)∧w'.cell? ⟨w.heap.size,2,none⟩=some (.int .u64 (id.u:Int))∧w'.cell? ⟨g.gb,1,none⟩=some (.map (some g.mb))∧w'.cell? ⟨gv,0,none⟩=some (.pointer (some ⟨g.gb,0,none⟩))∧MapAt w' g.mb g.mm (Ag g.nodes))) (by kernel_rfl) ⟨i0,i1,i2,c1,hv,hmap⟩ (fun hHeld=> ?_)
  clear hHeld
  have hS:(fun w'=>w'.cell? ⟨w.heap.size,0,none⟩=some (.int .i64 id.b)∧w'.cell? ⟨w.heap.size,1,none⟩=some (.int .i64 id.s)∧w'.cell? ⟨w.heap.size,2,none⟩=some (.int .u64 (id.u:Int))∧w'.cell? ⟨g.gb,1,none⟩=some (.map (some g.mb))∧w'.cell? ⟨gv,0,none⟩=some (.pointer (some ⟨g.gb,0,none⟩))∧MapAt w' g.mb g.mm (Ag g.nodes)) w0.drew:=⟨i0,i1,i2,c1,hv,hmap⟩
  replace f0:=f0.drew
  refine tkH 0 hS (h:=tkH 1 hS (h:=tkH 2 hS (h:=tkH 3 hS (h:=tkH 4 hS (h:=tkH 5 hS (h:=tkH 6 hS (h:=tkH 7 hS (h:=tkH 8 hS (h:=tkH 9 hS (h:=tkH 10 hS (h:=?_)))))))))))
  simp only [List.set]
  refine oD ?_
  go_simp
  go_wp2_with (fail)
  go_ret
  exact ⟨rfl,f0⟩
 ·
  rw [hp] at hlook
  go_enter Tryz.func81,Tryz.ntmps81
  go_wp2_with (fail)
  try rw [hw0]
  clear hw0 hp
  refine wp_region_held_drew (S:=(fun w'=>w'.cell? ⟨w.heap.size,0,none⟩=some (.int .i64 id.b)∧w'.cell? ⟨w.heap.size,1,none⟩=some (.int .i64 id.s)∧w'.cell? ⟨w.heap.size,2,none⟩=some (.int .u64 (id.u:Int))∧w'.cell? ⟨g.gb,1,none⟩=some (.map (some g.mb))∧w'.cell? ⟨gv,0,none⟩=some (.pointer (some ⟨g.gb,0,none⟩))∧MapAt w' g.mb g.mm (Ag g.nodes))) (by kernel_rfl) ⟨i0,i1,i2,c1,hv,hmap⟩ (fun hHeld=> ?_)
  clear hHeld
  have hS:(fun w'=>w'.cell? ⟨w.heap.size,0,none⟩=some (.int .i64 id.b)∧w'.cell? ⟨w.heap.size,1,none⟩=some (.int .i64 id.s)∧w'.cell? ⟨w.heap.size,2,none⟩=some (.int .u64 (id.u:Int))∧w'.cell? ⟨g.gb,1,none⟩=some (.map (some g.mb))∧w'.cell? ⟨gv,0,none⟩=some (.pointer (some ⟨g.gb,0,none⟩))∧MapAt w' g.mb g.mm (Ag g.nodes)) w0.drew:=⟨i0,i1,i2,c1,hv,hmap⟩
  replace f0:=f0.drew
  refine tkH 0 hS (h:=tkH 1 hS (h:=tkH 2 hS (h:=tkH 3 hS (h:=tkH 4 hS (h:=tkH 5 hS (h:=tkH 6 hS (h:=tkH 7 hS (h:=tkH 8 hS (h:=tkH 9 hS (h:=tkH 10 hS (h:=?_)))))))))))
  simp only [List.set]
  refine oD ?_
  go_simp
  go_wp2_with (fail)
  go_ret
  exact ⟨rfl,f0⟩
end Oq
namespace Oq
theorem Ws {α:Type} (l:List α) (q:α→Bool) {k:Nat} {x:α} (h:l[k]? =some x):(l.take (k+1)).any q=((l.take k).any q||q x):=by
 obtain ⟨hk,rfl⟩:=List.getElem?_eq_some_iff.1 h
 rw [Am9 hk,An1]
 simp
def Wt (l:List Id) (p:Id→Bool) (w:World) (e:Ending) (w':World):Prop:=
 ((∃(k:Nat) (id:Id),e=.returned (.int .i64 (k:Int))∧l[k]? =some id∧p id=true∧(l.take k).any p=false)∨(e=.returned (.int .i64 (-1))∧l.any p=false))∧Fr Non w w'
theorem Wu (B n c gv:Nat) (A:Option Addr) (l:List Id) (p:Id→Bool) (w:World) (hn:Hid (l.length=n)) (hr:Rd w B 3 A n (l.flatMap Id.cells)) (hnm:n≤1000000)
  (hmay:Hid (∀x∈l,∀w':World,Fr Non w w'→Calls Tryz.prog 81 #[.agg x.V,.pointer (some ⟨gv,0,none⟩)] w' (Af (p x) w'))):
  Calls Tryz.prog 129 #[.slice A n c,.func (.func 81) #[] #[.pointer (some ⟨gv,0,none⟩)]] w (Wt l p w):=by
 go_enter Tryz.func129,Tryz.ntmps129
 go_wp2
 go_loopw [8] (fun v wr=>∃k:Nat,v=.int .i64 (k:Int)∧k≤n∧Hid ((l.take k).any p=false)∧Fr Non w wr) (fun v _=>n-(intOf v).toNat)
 case atStart=>exact ⟨0,rfl,by omega,rfl,Fr.refl _ _⟩
 case round=>
  obtain ⟨k,rfl,hk,hh,hf⟩:=hrel
  by_cases hlt:k<n
  ·
   have i1:(0:Int)≤k:=by omega
   have i2:(k:Int)<n:=by omega
   have i3:(k:Int).toNat=k:=by omega
   obtain ⟨x,hx⟩:∃x,l[k]? =some x:=⟨_,An9 (by rw [hn.out];exact hlt)⟩
   obtain ⟨b,off,rfl,hbB,k0,k1,k2⟩:=Id.at (hr.fr hf zr) hx
   have hmem:=Al9 hx
   have hsn:=Lib.hid (Ws l p hx)
   have hc:=Lib.hid (fun w' (h:Fr Non wr w')=>hmay.out x hmem w' (hf.trans h zr))
   have hx':=Lib.hid hx
   clear hx hmem
   rcases zb (p x) with hp|hp
   ·
    have hp':=Lib.hid hp
    rw [hp] at hc hsn
    clear hp
    go_wp2_with (go_at_call 81;(with_reducible refine (hc.out _ (by first|exact Fr.refl _ _|exact (Fr.refl Non wr).alloc _)).mono ?_);rintro _ w1 ⟨rfl,f1⟩)
    go_ret
    exact ⟨.inl ⟨k,x,rfl,hx'.out,hp'.out,hh.out⟩,by first|exact hf.trans f1 zr|exact (hf.alloc _).trans f1 zr⟩
   ·
    rw [hp] at hc hsn
    clear hp
    go_wp2_with (go_at_call 81;(with_reducible refine (hc.out _ (by first|exact Fr.refl _ _|exact (Fr.refl Non wr).alloc _)).mono ?_);rintro _ w1 ⟨rfl,f1⟩)
    go_roundw
    case rel=>exact ⟨k+1,by go_num,by omega,by show _=_;rw [hsn.out,hh.out];rfl,by first|exact hf.trans f1 zr|exact (hf.alloc _).trans f1 zr⟩
    case measure=>simp [intOf];omega
  ·
   obtain rfl:k=n:=by omega
   have hfin:l.any p=false:=by have h:=hh.out;rw [An8 (by rw [hn.out];omega)] at h;exact h
   go_wp2
   go_ret
   exact ⟨.inr ⟨rfl,hfin⟩,hf⟩
end Oq
end
end Go.Proofs.YtafonabghnogaaaGreatDoor
