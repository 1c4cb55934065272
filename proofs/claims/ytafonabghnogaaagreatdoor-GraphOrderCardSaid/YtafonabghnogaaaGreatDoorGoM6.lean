/-
  Contracts of the functions that the claim's statement reaches, walked one by one (part 6).
  Conditions: as each theorem says.
-/
import Derived.Deep.RegionHeld3
import Derived.Deep.DeepCutAuto
import Derived.Test.YtafonabghnogaaaGreatDoorGoM1
import Derived.Test.YtafonabghnogaaaGreatDoorGoM2
import Derived.Test.YtafonabghnogaaaGreatDoorGoM3
import Derived.Test.YtafonabghnogaaaGreatDoorGoM4
import Derived.Test.YtafonabghnogaaaGreatDoorGoM5
set_option maxRecDepth 100000
set_option maxHeartbeats 16000000
namespace Go.Proofs.YtafonabghnogaaaGreatDoor
section
open Go.RowKit
end
section
open Go.RowKit
attribute [local go_sem ↓] Go.wp_at_zero Go.wp_at_succ
namespace Dv
def Top (u t q s:Nat):Prop:=q*4294967295+s=u∧s<4294967296∧(u*4294967296+t)/18446744073709551600≤q
theorem step (k d u:Nat) (h:(d+1)*k+0=u):d*k+k=u:=by rw [← h,Nat.succ_mul,Nat.add_zero]
theorem next {u t q:Nat} (h:Top u t q 0) (h1:(u*4294967296+t)/18446744073709551600≤q-1) (h0:0<q):Top u t (q-1) 4294967295:=by
 obtain ⟨d,rfl⟩:∃d,q=d+1:=⟨q-1,(Nat.succ_pred_eq_of_pos h0).symm⟩
 obtain ⟨h2,_,_⟩:=h
 rw [Nat.add_sub_cancel] at h1 ⊢
 exact And.intro (step _ _ _ h2) (And.intro (by decide) h1)
theorem rest {W1:Int} (hW1:Hid (4294967295=W1)) {u q1 r1:Nat} (_hu:u<18446744073709551616) (hq1:Hid (u/4294967295=q1)) (hr1:Hid (u-u/4294967295*4294967295=r1)):IntKind.u64.wrap ((u:Int)-IntKind.u64.wrap ((q1:Int)*W1))=(r1:Int):=by
 rw [← hW1.out,IntKind.wrap_u64,IntKind.wrap_u64,← hq1.out,← hr1.out];omega
end Dv
end
section
open Go.RowKit
namespace Sg
def lSigned:List UInt8:=[115,105,103,110,101,100]
def lSig:List UInt8:=[115,105,103]
def lNonce:List UInt8:=[110,111,110,99,101]
def m (bs:List UInt8):Nat:=Hs.ofBytes lSigned bs
def e (r pub:Nat) (bs:List UInt8):Nat:=Hs.of lSig [r,pub,m bs]
def pub (secret:Nat):Nat:=Fd.pow 37 secret
def once (secret:Nat) (bs:List UInt8):Nat:=Hs.secret lNonce [secret,m bs]
def r (secret:Nat) (bs:List UInt8):Nat:=Fd.pow 37 (once secret bs)
def x (secret:Nat) (bs:List UInt8):Nat:=e (r secret bs) (pub secret) bs*secret%2305843009213693950
def s (secret:Nat) (bs:List UInt8):Nat:=(once secret bs+x secret bs)%2305843009213693950
def within (n lo hi:Int):Bool:=decide (lo≤n)&&decide (n≤hi)
def check (pub:Nat) (bs:List UInt8) (R S:Nat):Bool:=
 within pub 1 2305843009213693950&&within R 1 2305843009213693950&&within S 0 2305843009213693949&&(Fd.pow 37 S==Fd.mul R (Fd.pow pub (e R pub bs)))
theorem m_lt (bs:List UInt8):m bs<2305843009213693951:=Hs.of_lt _ _
theorem e_lt (r pub:Nat) (bs:List UInt8):e r pub bs<2305843009213693951:=Hs.of_lt _ _
theorem once_lt (secret:Nat) (bs:List UInt8):once secret bs<2305843009213693950:=Hs.secret_lt _ _
theorem r_lt (secret:Nat) (bs:List UInt8):r secret bs<2305843009213693951:=Fd.pow_lt _ _
theorem x_lt (secret:Nat) (bs:List UInt8):x secret bs<2305843009213693950:=Nat.mod_lt _ (by omega)
theorem s_lt (secret:Nat) (bs:List UInt8):s secret bs<2305843009213693950:=Nat.mod_lt _ (by omega)
end Sg
end
section
open Go.RowKit Go.Shelf
attribute [local go_sem ↓] Go.wp_at_zero Go.wp_at_succ
def SumsPost (m e:Nat) (w:World) (r:Ending) (w':World):Prop:=r=.returned (.tuple #[.int .u64 (m:Int),.int .u64 (e:Int)])∧Fr Non w w'
theorem sums_any (pub r B n c:Nat) (A:Option Addr) (bs:List UInt8) (w:World) (hp:pub<18446744073709551616) (hr0:r<18446744073709551616) (hlen:Hid (bs.length=n)) (hnc:n≤c) (hn:n≤1099511627775) (hB:B≤w.heap.size) (hr:Rd w B 1 A n (bs.map Bv)):
  Calls Tryz.prog 173 #[.int .u64 (pub:Int),.int .u64 (r:Int),.slice A n c] w (SumsPost (Sg.m bs) (Sg.e r pub bs) w):=by
 have he:Hid (Sg.e r pub bs=Hs.of Sg.lSig [r,pub,Sg.m bs]):=rfl
 have hm:=Sg.m_lt bs
 have hby:=Lib.hid (ofBytes_any Sg.lSigned B n c A bs w hlen hnc hn (by decide) hB hr)
 have hmm:Hid (Hs.ofBytes Sg.lSigned bs=Sg.m bs):=rfl
 rw [hmm.out] at hby
 obtain ⟨v,hv⟩:=hid_ex (Sg.m bs)
 rw [hv.out] at he hm hby
 rw [he.out,hv.out]
 go_enter Tryz.func173,Tryz.ntmps173
 go_wp2_with (fail)
 refine hby.out.mono ?_
 rintro _ w1 ⟨rfl,hf1⟩
 go_wp2_with (fail)
 have hnew:=Blk.new w1 23 #[.int .u64 (r:Int),.int .u64 (pub:Int),.int .u64 (v:Int)]
 have hrd:Rd (w1.alloc (.cells #[.int .u64 (r:Int),.int .u64 (pub:Int),.int .u64 (v:Int)] 23)) (w1.heap.size+1) 1 (some ⟨w1.heap.size,0,none⟩) 3 ([r,pub,v].map Wv):=by
  refine ⟨rfl,.inr ⟨w1.heap.size,0,rfl,by omega,fun j u hu=> ?_⟩⟩
  rw [hnew.cell]
  match j,hu with
  |0,hu=>simpa [Wv] using hu
  |1,hu=>simpa [Wv] using hu
  |2,hu=>simpa [Wv] using hu
 refine (of_any Sg.lSig [r,pub,v] _ 3 3 _ _ rfl (by decide) (by omega) hrd (by simp;omega)).mono ?_
 rintro _ w2 ⟨rfl,hf2⟩
 go_wp2
 go_ret2
 exact ⟨rfl,(hf1.alloc _).trans hf2 zr⟩
def SigV (R S:Nat):Value:=.agg #[.int .u64 (R:Int),.int .u64 (S:Int)]
def SignPost (secret:Nat) (bs:List UInt8) (w:World) (r:Ending) (w':World):Prop:=r=.returned (SigV (Sg.r secret bs) (Sg.s secret bs))∧Fr Non w w'
theorem within_any (n lo hi:Int) (b:Bool) (w:World) (hb:Hid (Sg.within n lo hi=b)):
  Calls Tryz.prog 172 #[.int .u64 n,.int .u64 lo,.int .u64 hi] w fun e w'=>e=.returned (.bool b)∧w=w':=by
 have hb':=hb.out
 unfold Sg.within at hb'
 by_cases h1:lo≤n
 ·
  by_cases h2:n≤hi
  ·
   have hbb:Hid (true=b):=by rw [← hb'];simp [h1,h2,Hid]
   clear hb' hb
   go_enter Tryz.func172,Tryz.ntmps172
   go_wp2
   go_ret
   exact ⟨congrArg (fun z=>Ending.returned (.bool z)) (Eq.trans (by first|simp|(simp;omega)) hbb.out),rfl⟩
  ·
   have hbb:Hid (false=b):=by rw [← hb'];simp [h2,Hid]
   clear hb' hb
   go_enter Tryz.func172,Tryz.ntmps172
   go_wp2
   go_ret
   exact ⟨congrArg (fun z=>Ending.returned (.bool z)) (Eq.trans (by first|simp|(simp;omega)) hbb.out),rfl⟩
 ·
  have hbb:Hid (false=b):=by rw [← hb'];simp [h1,Hid]
  clear hb' hb
  go_enter Tryz.func172,Tryz.ntmps172
  go_wp2
  go_ret
  exact ⟨congrArg (fun z=>Ending.returned (.bool z)) hbb.out,rfl⟩
theorem check_any (pub R S B n c:Nat) (A:Option Addr) (bs:List UInt8) (w:World) (hp:pub<18446744073709551616) (hR:R<18446744073709551616) (hS:S<18446744073709551616) (hlen:Hid (bs.length=n)) (hnc:n≤c) (hn:n≤1099511627775) (hB:B≤w.heap.size) (hr:Rd w B 1 A n (bs.map Bv)):
  Calls Tryz.prog 124 #[.int .u64 (pub:Int),.slice A n c,SigV R S] w (BoolPost (Sg.check pub bs R S) w):=by
 unfold SigV
 have hck:Hid (Sg.check pub bs R S=(Sg.within pub 1 2305843009213693950&&Sg.within R 1 2305843009213693950&&Sg.within S 0 2305843009213693949&&(Fd.pow 37 S==Fd.mul R (Fd.pow pub (Sg.e R pub bs))))):=rfl
 have hb0:=Blk.new w 25 #[.int .u64 (R:Int),.int .u64 (S:Int)]
 have hf0:Fr Non w (w.alloc (.cells #[.int .u64 (R:Int),.int .u64 (S:Int)] 25)):=(Fr.refl _ _).alloc _
 have c0:=hb0.cell 0
 have c1:=hb0.cell 1
 have hr0:=hr.alloc (.cells #[.int .u64 (R:Int),.int .u64 (S:Int)] 25)
 obtain ⟨b1,h1⟩:=hid_ex (Sg.within pub 1 2305843009213693950)
 obtain ⟨b2,h2⟩:=hid_ex (Sg.within R 1 2305843009213693950)
 obtain ⟨b3,h3⟩:=hid_ex (Sg.within S 0 2305843009213693949)
 have k1:=Lib.hid (fun w=>within_any pub 1 2305843009213693950 b1 w h1)
 have k2:=Lib.hid (fun w=>within_any R 1 2305843009213693950 b2 w h2)
 have k3:=Lib.hid (fun w=>within_any S 0 2305843009213693949 b3 w h3)
 rw [h1.out,h2.out,h3.out] at hck
 cases b1 with
 |false=>
  rw [Bool.false_and,Bool.false_and,Bool.false_and] at hck
  rw [hck.out]
  go_enter Tryz.func124,Tryz.ntmps124
  go_wp2_with (first|(go_at_call 172;refine (k1.out _).mono ?_;rintro _ _ ⟨rfl,rfl⟩))
  go_ret
  exact ⟨rfl,hf0⟩
 |true=>
  cases b2 with
  |false=>
   rw [Bool.true_and,Bool.false_and,Bool.false_and] at hck
   rw [hck.out]
   go_enter Tryz.func124,Tryz.ntmps124
   go_wp2_with (first|(go_at_call 172;(with_reducible refine (k1.out _).mono ?_);rintro _ _ ⟨rfl,rfl⟩)|(go_at_call 172;(with_reducible refine (k2.out _).mono ?_);rintro _ _ ⟨rfl,rfl⟩))
   go_ret
   exact ⟨rfl,hf0⟩
  |true=>
   cases b3 with
   |false=>
    rw [Bool.true_and,Bool.true_and,Bool.false_and] at hck
    rw [hck.out]
    go_enter Tryz.func124,Tryz.ntmps124
    go_wp2_with (first|(go_at_call 172;(with_reducible refine (k1.out _).mono ?_);rintro _ _ ⟨rfl,rfl⟩)|(go_at_call 172;(with_reducible refine (k2.out _).mono ?_);rintro _ _ ⟨rfl,rfl⟩)|(go_at_call 172;(with_reducible refine (k3.out _).mono ?_);rintro _ _ ⟨rfl,rfl⟩))
    go_ret
    exact ⟨rfl,hf0⟩
   |true=>
    rw [Bool.true_and,Bool.true_and,Bool.true_and] at hck
    have le:=Sg.e_lt R pub bs
    go_enter Tryz.func124,Tryz.ntmps124
    go_wp2_with (first|(go_at_call 172;(with_reducible refine (k1.out _).mono ?_);rintro _ _ ⟨rfl,rfl⟩)|(go_at_call 172;(with_reducible refine (k2.out _).mono ?_);rintro _ _ ⟨rfl,rfl⟩)|(go_at_call 172;(with_reducible refine (k3.out _).mono ?_);rintro _ _ ⟨rfl,rfl⟩))
    refine (sums_any pub R B n c A bs _ hp hR hlen hnc hn (by simp;omega) hr0).mono ?_
    rintro _ w1 ⟨rfl,hf1⟩
    have hb1:=hb0.fr hf1 zq
    have hff:=hf0.trans hf1 zr
    obtain ⟨E,hE⟩:=hid_ex (Sg.e R pub bs)
    rw [hE.out] at le hck
    rw [hE.out]
    generalize Sg.m bs=m0
    have p1:=Lib.hid (fun w=>pow_any 37 S w (by omega) hS)
    have p2:=Lib.hid (fun w=>pow_any pub E w hp (by omega))
    have lq:=Fd.pow_lt pub E
    obtain ⟨q,hq⟩:=hid_ex (Fd.pow pub E)
    obtain ⟨t,ht⟩:=hid_ex (Fd.pow 37 S)
    rw [hq.out] at p2 lq hck
    rw [ht.out] at p1 hck
    have p3:=Lib.hid (fun w=>mul_any R q hR (by omega) w)
    obtain ⟨v,hv⟩:=hid_ex (Fd.mul R q)
    rw [hv.out] at p3 hck
    have p1':Hid (∀w,Calls Tryz.prog 174 #[.int .u64 37,.int .u64 (S:Int)] w (PowPost t w)):=p1.out
    have hb1d:Blk w1.drew w.heap.size 25 #[.int .u64 (R:Int),.int .u64 (S:Int)]:=hb1
    have d0:=hb1d.cell 0
    have d1:=hb1d.cell 1
    clear c0 c1
    go_wp2_with (fail)
    go_region_held3 (fun w'=>w'.cell? ⟨w.heap.size,0,none⟩=some (.int .u64 (R:Int))∧w'.cell? ⟨w.heap.size,1,none⟩=some (.int .u64 (S:Int))) (go_keep) (first
     |(go_at_call 174;(with_reducible refine (p1'.out _).mono ?_);rintro _ w2 ⟨rfl,hf2⟩;have g0:=hf2.cell d0 zq;have g1:=hf2.cell d1 zq)
     |(go_at_call 174;(with_reducible refine (p2.out _).mono ?_);rintro _ w3 ⟨rfl,hf3⟩;have g0':=hf3.cell g0 zq;have g1':=hf3.cell g1 zq)
     |(go_at_call 175;(with_reducible refine (p3.out _).mono ?_);rintro _ _ ⟨rfl,rfl⟩))
    go_wp2
    go_ret
    refine ⟨congrArg (fun z=>Ending.returned (.bool z)) ?_,(((hff.drew.trans hf2 zr).trans hf3 zr))⟩
    rw [hck.out,Bool.eq_iff_iff]
    simp only [beq_iff_eq]
    exact Int.ofNat_inj
end
namespace Sg
theorem fermat {M:Nat} (hM:M=2305843009213693950):37^M%2305843009213693951=1:=by
 have h:=Fd.pow_eq 37 M (by omega)
 rw [← h,hM]
 decide+kernel
theorem pow_one {M:Nat} (hM:M=2305843009213693950) (k:Nat):(37^M)^k%2305843009213693951=1:=by
 rw [Nat.pow_mod,fermat hM,Nat.one_pow]
theorem pow_red' {M:Nat} (hM:M=2305843009213693950) (k:Nat):37^(k%M)%2305843009213693951=37^k%2305843009213693951:=by
 conv=>rhs;rw [← Nat.div_add_mod k M,Nat.pow_add,Nat.pow_mul,Nat.mul_mod,pow_one hM,Nat.one_mul,Nat.mod_mod]
theorem pow_red (k:Nat):37^(k%2305843009213693950)%2305843009213693951=37^k%2305843009213693951:=pow_red' rfl k
theorem pow_ne' {M:Nat} (hM:M=2305843009213693950) (k:Nat):37^k%2305843009213693951≠0:=by
 intro h
 have h1:(37^k)^M%2305843009213693951=1:=by rw [← Nat.pow_mul,Nat.mul_comm,Nat.pow_mul];exact pow_one hM k
 rw [Nat.pow_mod,h,Nat.zero_pow (by omega)] at h1
 simp at h1
theorem pow_ne (k:Nat):37^k%2305843009213693951≠0:=pow_ne' rfl k
theorem pow37_pos {k:Nat} (hk:k<18446744073709551616):1≤Fd.pow 37 k:=by
 rw [Fd.pow_eq 37 k hk]
 exact Nat.one_le_iff_ne_zero.2 (pow_ne k)
theorem sides {x o e:Nat} (hx:x<18446744073709551616) (ho:o<18446744073709551616) (he:e<18446744073709551616):
  Fd.pow 37 ((o+e*x%2305843009213693950)%2305843009213693950)=Fd.mul (Fd.pow 37 o) (Fd.pow (Fd.pow 37 x) e):=by
 have hs:(o+e*x%2305843009213693950)%2305843009213693950=(o+e*x)%2305843009213693950:=by rw [Nat.add_mod_mod]
 have hlt:(o+e*x)%2305843009213693950<18446744073709551616:=by have:=Nat.mod_lt (o+e*x) (show 0<2305843009213693950 by omega);omega
 rw [hs,Fd.pow_eq _ _ hlt,pow_red,Nat.pow_add]
 unfold Fd.mul
 rw [Fd.pow_eq _ _ ho,Fd.pow_eq _ _ he,Fd.pow_eq _ _ hx,← Nat.pow_mod,← Nat.mul_mod,← Nat.pow_mul,Nat.mul_comm x e]
theorem within_yes {n lo hi:Nat} (h1:lo≤n) (h2:n≤hi):within n lo hi=true:=by
 unfold within
 simp;omega
theorem takes (x:Nat) (bs:List UInt8) (hx:x<18446744073709551616):check (pub x) bs (r x bs) (s x bs)=true:=by
 have lo:=once_lt x bs
 have lr:=r_lt x bs
 have ls:=s_lt x bs
 have lp:=Fd.pow_lt 37 x
 have le:=e_lt (r x bs) (pub x) bs
 have p1:1≤Fd.pow 37 x:=pow37_pos hx
 have p2:1≤r x bs:=pow37_pos (by omega)
 have w1:within (pub x) 1 2305843009213693950=true:=within_yes (lo:=1) (hi:=2305843009213693950) p1 (by unfold pub;omega)
 have w2:within (r x bs) 1 2305843009213693950=true:=within_yes (lo:=1) (hi:=2305843009213693950) p2 (by omega)
 have w3:within (s x bs) 0 2305843009213693949=true:=within_yes (lo:=0) (hi:=2305843009213693949) (by omega) (by omega)
 unfold check
 rw [w1,w2,w3]
 have h:=sides (x:=x) (o:=once x bs) (e:=e (r x bs) (pub x) bs) hx (by omega) (by omega)
 have hs:s x bs=(once x bs+e (r x bs) (pub x) bs*x%2305843009213693950)%2305843009213693950:=rfl
 have hr:r x bs=Fd.pow 37 (once x bs):=rfl
 rw [hs,h,← hr]
 simp [pub]
end Sg
section
open Go.RowKit
attribute [local go_sem ↓] Go.wp_at_zero Go.wp_at_succ
namespace R8
theorem step (M o x h:Nat):((o+x)%M+(x+x)%M*h)%M=(o+x*(2*h+1))%M:=by
 have e:o+x*(2*h+1)=(o+x)+(x+x)*h:=by rw [Nat.mul_add,Nat.add_mul,Nat.mul_one,← Nat.mul_assoc,Nat.mul_two,Nat.add_mul];omega
 rw [e,Nat.add_mod (o+x) ((x+x)*h),Nat.mul_mod (x+x) h,Nat.add_mod ((o+x)%M),Nat.mod_mod,Nat.mul_mod ((x+x)%M),Nat.mod_mod]
theorem step0 (M o x h:Nat):(o+(x+x)%M*h)%M=(o+x*(2*h))%M:=by
 have e:x*(2*h)=(x+x)*h:=by rw [← Nat.mul_assoc,Nat.mul_two]
 rw [e,Nat.add_mod o ((x+x)*h),Nat.mul_mod (x+x) h,Nat.add_mod o,Nat.mul_mod ((x+x)%M),Nat.mod_mod]
end R8
theorem order08_any (w:World):Calls Tryz.prog 101 #[] w fun e w'=>e=.returned (.int .u64 2305843009213693950)∧w=w':=by
 go_enter Tryz.func101,Tryz.ntmps101
 go_wp2
 go_ret
 exact ⟨rfl,rfl⟩
theorem times08_any (a b:Nat) (w:World):Calls Tryz.prog 99 #[.int .u64 (a:Int),.int .u64 (b:Int)] w fun e w'=>e=.returned (.int .u64 ((a*b%2305843009213693950:Nat):Int))∧w=w':=by
 obtain ⟨x,hx⟩:=hid_ex (a%2305843009213693950)
 obtain ⟨y,hy⟩:=hid_ex (b%2305843009213693950)
 have lx:x<2305843009213693950:=by rw [← hx.out];exact Nat.mod_lt _ (by omega)
 have ly:y<2305843009213693950:=by rw [← hy.out];exact Nat.mod_lt _ (by omega)
 have hres:Hid ((0+x*y)%2305843009213693950=a*b%2305843009213693950):=by show _=_;rw [Nat.zero_add,← hx.out,← hy.out,← Nat.mul_mod]
 obtain ⟨r,hr⟩:=hid_ex (a*b%2305843009213693950)
 rw [hr.out] at hres ⊢
 obtain ⟨fa,fa'⟩:=R1.nn 2305843009213693950 rfl hx.out
 obtain ⟨fb,fb'⟩:=R1.nn 2305843009213693950 rfl hy.out
 have z1:¬(2305843009213693950:Int)=0:=by decide
 have ho:Hid (∀w,Calls Tryz.prog 101 #[] w fun e w'=>e=.returned (.int .u64 2305843009213693950)∧w=w'):=fun w=>order08_any w
 clear hx hy
 go_enter Tryz.func99,Tryz.ntmps99
 unfold Hid at ho
 generalize eM:(2305843009213693950:Int)=M at*
 have hM:=Lib.hid eM
 have ho':=Lib.hid ho
 clear eM ho
 go_wp2_with (fail)
 refine (ho'.out _).mono ?_
 rintro _ _ ⟨rfl,rfl⟩
 go_wp2_with (fail)
 refine (ho'.out _).mono ?_
 rintro _ _ ⟨rfl,rfl⟩
 go_wp2_with (fail)
 go_loopw [0,1,5] (fun p q o wr=>∃x' y' o':Nat,p=.int .u64 (x':Int)∧q=.int .u64 (y':Int)∧o=.int .u64 (o':Int)∧x'<2305843009213693950∧y'<2305843009213693950∧o'<2305843009213693950∧Hid ((o'+x'*y')%2305843009213693950=r)∧wr=w) (fun _ q _ _=>(intOf q).toNat)
 case atStart=>exact ⟨x,y,0,rfl,rfl,rfl,lx,ly,by omega,hres,rfl⟩
 case round=>
  obtain ⟨x',y',o',rfl,rfl,rfl,lx',ly',lo',hd,rfl⟩:=hrel
  by_cases hz:y'=0
  ·
   subst hz
   have e:o'=r:=by have h:=hd.out;rw [Nat.mul_zero,Nat.add_zero,Nat.mod_eq_of_lt lo'] at h;exact h
   go_wp2
   go_ret
   exact ⟨by rw [← e];rfl,rfl⟩
  ·
   have hyp:(0:Int)<(y':Int):=by omega
   have l1:(o'+x')%2305843009213693950<2305843009213693950:=Nat.mod_lt _ (by omega)
   have l2:(x'+x')%2305843009213693950<2305843009213693950:=Nat.mod_lt _ (by omega)
   have s1:=R8.step 2305843009213693950 o' x' (y'/2)
   have s0:=R8.step0 2305843009213693950 o' x' (y'/2)
   obtain ⟨ox,hox⟩:=hid_ex ((o'+x')%2305843009213693950)
   obtain ⟨xx,hxx⟩:=hid_ex ((x'+x')%2305843009213693950)
   obtain ⟨g1,g1'⟩:=R1.nn M hM.out hox.out
   obtain ⟨g2,g2'⟩:=R1.nn M hM.out hxx.out
   rw [Int.natCast_add] at g1 g1' g2 g2'
   rw [hox.out] at l1 s1
   rw [hxx.out] at l2 s1 s0
   have s1':=Lib.hid s1
   have s0':=Lib.hid s0
   clear s1 s0
   have hparity:y'%2=1∨y'%2=0:=by omega
   rcases hparity with hp|hp
   ·
    have hpz:((y':Int)%2==1)=true:=by simp;omega
    have hd2:Hid ((ox+xx*(y'/2))%2305843009213693950=r):=by show _=_;rw [s1'.out,show 2*(y'/2)+1=y' by omega];exact hd.out
    clear hd hp
    go_wp2_with (first|(go_at_call 101;refine (ho'.out _).mono ?_;rintro _ _ ⟨rfl,rfl⟩))
    exact ⟨⟨xx,y'/2,ox,rfl,by go_num,rfl,l2,by omega,l1,hd2,by first|rfl|trivial⟩,by simp [intOf];omega⟩
   ·
    have hpz:((y':Int)%2==1)=false:=by simp;omega
    have hd2:Hid ((o'+xx*(y'/2))%2305843009213693950=r):=by show _=_;rw [s0'.out,show 2*(y'/2)=y' by omega];exact hd.out
    clear hd hp
    go_wp2_with (first|(go_at_call 101;refine (ho'.out _).mono ?_;rintro _ _ ⟨rfl,rfl⟩))
    exact ⟨⟨xx,y'/2,o',rfl,by go_num,rfl,l2,by omega,lo',hd2,by first|rfl|trivial⟩,by simp [intOf];omega⟩
theorem pub08_any (n:Nat) (w:World) (hn:n<18446744073709551616):Calls Tryz.prog 89 #[.int .u64 (n:Int)] w (PowPost (Sg.pub n) w):=by
 have hp:Hid (∀w,Calls Tryz.prog 98 #[.int .u64 37,.int .u64 (n:Int)] w fun e w'=>e=.returned (.int .u64 (Sg.pub n:Int))∧∃k,w'=w.drewN k):=fun w=>pow01_any 37 n w (by omega) hn
 go_enter Tryz.func89,Tryz.ntmps89
 go_wp2_with (fail)
 refine (hp.out _).mono ?_
 rintro _ _ ⟨rfl,k,rfl⟩
 go_wp2
 go_ret
 exact ⟨rfl,(Fr.refl _ _).drewN _⟩
theorem m08_any (B n c:Nat) (A:Option Addr) (bs:List UInt8) (w:World) (hlen:Hid (bs.length=n)) (hn:n≤1099511627775) (hB:B≤w.heap.size) (hr:Rd w B 1 A n (bs.map Bv)):
  Calls Tryz.prog 97 #[.slice A n c] w (PowPost (Sg.m bs) w):=by
 have hby:Hid (Calls Tryz.prog 87 #[.string ⟨#[115,105,103,110,101,100]⟩,.slice A n c] w (PowPost (Sg.m bs) w)):=ofBytes02_any Sg.lSigned B n c A bs w hlen hn (by decide) hB hr
 go_enter Tryz.func97,Tryz.ntmps97
 go_wp2_with (fail)
 refine hby.out.mono ?_
 rintro _ w1 ⟨rfl,hf1⟩
 go_wp2
 go_ret
 exact ⟨rfl,hf1⟩
theorem e08_any (r pub B n c:Nat) (A:Option Addr) (bs:List UInt8) (w:World) (hr0:r<18446744073709551616) (hp:pub<18446744073709551616) (hlen:Hid (bs.length=n)) (hn:n≤1099511627775) (hB:B≤w.heap.size) (hr:Rd w B 1 A n (bs.map Bv)):
  Calls Tryz.prog 100 #[.int .u64 (r:Int),.int .u64 (pub:Int),.slice A n c] w (PowPost (Sg.e r pub bs) w):=by
 have he:Hid (Sg.e r pub bs=Hs.of Sg.lSig [r,pub,Sg.m bs]):=rfl
 have hm:=Sg.m_lt bs
 have hby:=Lib.hid (m08_any B n c A bs w hlen hn hB hr)
 obtain ⟨v,hv⟩:=hid_ex (Sg.m bs)
 rw [hv.out] at he hm hby
 rw [he.out]
 go_enter Tryz.func100,Tryz.ntmps100
 go_wp2_with (fail)
 refine hby.out.mono ?_
 rintro _ w1 ⟨rfl,hf1⟩
 go_wp2_with (fail)
 have hnew:=Blk.new w1 23 #[.int .u64 (r:Int),.int .u64 (pub:Int),.int .u64 (v:Int)]
 have hrd:Rd (w1.alloc (.cells #[.int .u64 (r:Int),.int .u64 (pub:Int),.int .u64 (v:Int)] 23)) (w1.heap.size+1) 1 (some ⟨w1.heap.size,0,none⟩) 3 ([r,pub,v].map Wv):=by
  refine ⟨rfl,.inr ⟨w1.heap.size,0,rfl,by omega,fun j u hu=> ?_⟩⟩
  rw [hnew.cell]
  match j,hu with
  |0,hu=>simpa [Wv] using hu
  |1,hu=>simpa [Wv] using hu
  |2,hu=>simpa [Wv] using hu
 refine (of02_any Sg.lSig [r,pub,v] _ 3 3 _ _ rfl (by decide) (by omega) hrd (by simp;omega)).mono ?_
 rintro _ w2 ⟨rfl,hf2⟩
 go_wp2
 go_ret
 exact ⟨rfl,(hf1.alloc _).trans hf2 zr⟩
theorem sum_named (o X S:Nat) (ho:o<2305843009213693950) (hX:X<2305843009213693950) (hS:Hid ((o+X)%2305843009213693950=S)):((o:Int)+(X:Int))%2305843009213693950=(S:Int)∧((o:Int)+(X:Int)).tmod 2305843009213693950=(S:Int):=by
 have h2:((o:Int)+(X:Int))%2305843009213693950=(S:Int):=by rw [← hS.out];omega
 exact ⟨h2,by rw [Int.tmod_eq_emod_of_nonneg (by omega),h2]⟩
theorem sign08_any (secret B n c:Nat) (A:Option Addr) (bs:List UInt8) (w:World) (hs:secret<18446744073709551616) (hlen:Hid (bs.length=n)) (hn:n≤1099511627775) (hB:B≤w.heap.size) (hr:Rd w B 1 A n (bs.map Bv)):
  Calls Tryz.prog 60 #[.int .u64 (secret:Int),.slice A n c] w (SignPost secret bs w):=by
 have hb0:=Blk.new w 25 #[.int .u64 0,.int .u64 0]
 have hf0:Fr Non w (w.alloc (.cells #[.int .u64 0,.int .u64 0] 25)):=(Fr.refl _ _).alloc _
 have hr0:=hr.alloc (.cells #[.int .u64 0,.int .u64 0] 25)
 have lp:=Fd.pow_lt 37 secret
 have lm:=Sg.m_lt bs
 have lo:=Sg.once_lt secret bs
 have lr:=Sg.r_lt secret bs
 have hx1:Hid (Sg.x secret bs=Sg.e (Sg.r secret bs) (Sg.pub secret) bs*secret%2305843009213693950):=rfl
 have hs1:Hid ((Sg.once secret bs+Sg.x secret bs)%2305843009213693950=Sg.s secret bs):=rfl
 have lx:=Sg.x_lt secret bs
 have ls:=Sg.s_lt secret bs
 have hpow:Hid (∀w,Calls Tryz.prog 98 #[.int .u64 37,.int .u64 (Sg.once secret bs:Int)] w fun e w'=>e=.returned (.int .u64 (Sg.r secret bs:Int))∧∃k,w'=w.drewN k):=fun w=>pow01_any 37 (Sg.once secret bs) w (by omega) (by omega)
 have lp':Sg.pub secret<2305843009213693951:=lp
 have le:=Sg.e_lt (Sg.r secret bs) (Sg.pub secret) bs
 have honce:Hid (Sg.once secret bs=Hs.secret Sg.lNonce [secret,Sg.m bs]):=rfl
 have hpubc:=Lib.hid (fun w=>pub08_any secret w hs)
 obtain ⟨P,hP⟩:=hid_ex (Sg.pub secret)
 obtain ⟨m,hm⟩:=hid_ex (Sg.m bs)
 obtain ⟨o,ho⟩:=hid_ex (Sg.once secret bs)
 obtain ⟨R,hR⟩:=hid_ex (Sg.r secret bs)
 rw [hR.out,hP.out] at hx1 le
 rw [hR.out,ho.out] at hpow
 rw [ho.out] at hs1 lo honce
 rw [hm.out] at honce lm
 rw [hR.out] at lr
 rw [hP.out] at lp' hpubc
 obtain ⟨E,hE⟩:=hid_ex (Sg.e R P bs)
 rw [hE.out] at hx1 le
 have htimes:Hid (∀w,Calls Tryz.prog 99 #[.int .u64 (E:Int),.int .u64 (secret:Int)] w fun e w'=>e=.returned (.int .u64 (Sg.x secret bs:Int))∧w=w'):=fun w=>by rw [hx1.out];exact times08_any E secret w
 obtain ⟨X,hX⟩:=hid_ex (Sg.x secret bs)
 obtain ⟨S,hS⟩:=hid_ex (Sg.s secret bs)
 rw [hX.out] at htimes lx hs1
 rw [hS.out] at hs1 ls
 obtain ⟨v1,v2⟩:=sum_named o X S lo lx hs1
 have hord:Hid (∀w,Calls Tryz.prog 101 #[] w fun e w'=>e=.returned (.int .u64 2305843009213693950)∧w=w'):=fun w=>order08_any w
 have z1:¬(2305843009213693950:Int)=0:=by decide
 go_enter Tryz.func60,Tryz.ntmps60
 go_wp2_with (fail)
 refine (m08_any B n c A bs _ hlen hn (by simp;omega) hr0).mono ?_
 rw [hm.out]
 rintro _ w2 ⟨rfl,hf2⟩
 go_wp2_with (fail)
 have hnew:=Blk.new w2 23 #[.int .u64 (secret:Int),.int .u64 (m:Int)]
 have hrd:Rd (w2.alloc (.cells #[.int .u64 (secret:Int),.int .u64 (m:Int)] 23)) (w2.heap.size+1) 1 (some ⟨w2.heap.size,0,none⟩) 2 ([secret,m].map Wv):=by
  refine ⟨rfl,.inr ⟨w2.heap.size,0,rfl,by omega,fun j u hu=> ?_⟩⟩
  rw [hnew.cell]
  match j,hu with
  |0,hu=>simpa [Wv] using hu
  |1,hu=>simpa [Wv] using hu
 refine (secret02_any Sg.lNonce [secret,m] _ 2 2 _ _ rfl (by decide) (by omega) hrd (by simp;omega)).mono ?_
 rw [← honce.out]
 rintro _ w3 ⟨rfl,hf3⟩
 go_wp2_with (fail)
 refine (hpow.out _).mono ?_
 rintro _ _ ⟨rfl,k4,rfl⟩
 go_wp2_with (fail)
 refine (hpubc.out _).mono ?_
 rintro _ w4 ⟨rfl,hf4⟩
 have hz2:=hf2.size
 have hz3:=hf3.size
 have hz4:=hf4.size
 simp only [World.size_alloc] at hz2 hz3
 have hz4':w3.heap.size≤w4.heap.size:=hz4
 have hr4:=((((hr0.fr hf2 zr).alloc (.cells #[.int .u64 (secret:Int),.int .u64 (m:Int)] 23)).fr hf3 zr).drewN k4).fr hf4 zr
 go_wp2_with (fail)
 refine (e08_any R P B n c A bs w4 (by omega) (by omega) hlen hn (by omega) hr4).mono ?_
 rw [hE.out]
 rintro _ w5 ⟨rfl,hf5⟩
 go_wp2_with (fail)
 refine (htimes.out _).mono ?_
 rintro _ _ ⟨rfl,rfl⟩
 unfold Hid at hord
 generalize (2305843009213693950:Int)=M at*
 have hord':=Lib.hid hord
 clear hord
 go_wp2_with (fail)
 refine (hord'.out _).mono ?_
 rintro _ _ ⟨rfl,rfl⟩
 have hb6:=(((((hb0.fr hf2 zq).alloc (.cells #[.int .u64 (secret:Int),.int .u64 (m:Int)] 23)).fr hf3 zq).drewN k4).fr hf4 zq).fr hf5 zq
 have hff:=(((((hf0.trans hf2 zr).alloc (.cells #[.int .u64 (secret:Int),.int .u64 (m:Int)] 23)).trans hf3 zr).drewN k4).trans hf4 zr).trans hf5 zr
 have hc0:=hb6.cell 0
 have hc1:=hb6.cell 1
 have hz0:=hb6.frozen 0
 have hz1:=hb6.frozen 1
 go_wp2
 refine ret_blk rfl rfl ((hb6.set 0 _).set 1 _) rfl Tryz.underlying25 (by kernel_rfl) rfl ⟨?_,(hff.setNew (Nat.le_refl _) _ _).setNew (Nat.le_refl _) _ _⟩
 rw [hR.out,hS.out]
 rfl
namespace Oq
attribute [local go_sem ↓] loadAt_op
attribute [local go_sem] Bool.not_false Bool.not_true
theorem wpAnyH_only2 {P:Program} {Q:Exit→Act→World→Prop} {ops:Array Oper} {md:Region.Mode} {S:World→Prop} {fuel:Nat} {listed:Array Bool} {a:Act} {w:World} (i:Nat) {o:Oper} (hr:Region.ready md ops listed=[i]) (ho:ops[i]? =some o)
  (hw:Region.wanted o (yielded ops a.tmps)=true)
  (h:∀K':Act→World→Prop,Shut (∀a w,S w→(S w→wpAnyH P md ops Q S fuel (listed.setIfInBounds i true) a w)→K' a w)→Oper.wp P o a w K' Q):
  wpAnyH P md ops Q S (fuel+1) listed a w:=
 wpAnyH_ready hr (by simp) (AllReadyH.cons ho (fun K' hK=>by rw [if_pos hw];exact h K' hK) AllReadyH.nil)
def sec (kind:List UInt8) (u:Nat):Nat:=Hs.secret kind [u]
theorem sec_lt (kind:List UInt8) (u:Nat):sec kind u<2305843009213693950:=Hs.secret_lt _ _
theorem secret11_any (kind:List UInt8) (d:Int) (u:Nat) (w:World) (hu:IntKind.u64.wrap d=(u:Int)) (hu':u<18446744073709551616) (hk:kind.length≤1000):
  Calls Tryz.prog 61 #[.string (str kind),.int .i64 d] w (PowPost (sec kind u) w):=by
 have hb:=Blk.new w 23 #[.int .u64 (u:Int)]
 have hr:Rd (w.alloc (.cells #[.int .u64 (u:Int)] 23)) (w.alloc (.cells #[.int .u64 (u:Int)] 23)).heap.size 1 (some ⟨w.heap.size,0,none⟩) 1 ([u].map Wv):=Rd.blk (n:=1) (size:=1) (l:=[.int .u64 (u:Int)]) hb rfl
 have hf:Fr Non w (w.alloc (.cells #[.int .u64 (u:Int)] 23)):=(Fr.refl Non w).alloc _
 obtain ⟨st,hst⟩:=hid_ex (str kind)
 have k:=Lib.hid (secret02_any kind [u] (some ⟨w.heap.size,0,none⟩) 1 1 _ _ rfl (by omega) (by omega) hr (by simp;omega))
 rw [hst.out] at k ⊢
 go_enter Tryz.func61,Tryz.ntmps61
 go_wp2_with (fail)
 refine k.out.mono ?_
 rintro _ w1 ⟨rfl,f1⟩
 go_wp2
 go_ret
 exact ⟨rfl,hf.trans f1 zr⟩
theorem verify_any (d m:Int) (ld kp sg:Nat) (x:OpL) (w:World) (hat:x.at w w.heap.size) (hok:x.op.ok) (hsg:sg<18446744073709551616):
  Calls Tryz.prog 70 #[.agg #[.int .i64 d,.int .i64 m,.int .u64 (ld:Int),.int .u64 (kp:Int),.int .u64 (sg:Int)],.agg x.cells] w (BoolPost ((x.by_==d)&&Sg.check sg x.op.bare x.r x.s) w):=by
 have hsz:x.cells.size=27:=rfl
 obtain ⟨CS,hCS⟩:=hid_ex x.cells
 have e0:Hid (CS[0]? =some (.int .i64 x.by_)):=by show _=_;rw [← hCS.out];rfl
 have e25:Hid (CS[25]? =some (.int .u64 (x.r:Int))):=by show _=_;rw [← hCS.out];rfl
 have e26:Hid (CS[26]? =some (.int .u64 (x.s:Int))):=by show _=_;rw [← hCS.out];rfl
 have bc0:Blk ((w.alloc (.cells #[.int .i64 d,.int .i64 m,.int .u64 (ld:Int),.int .u64 (kp:Int),.int .u64 (sg:Int)] 81)).alloc (.cells x.cells 44)).drew w.heap.size 81 #[.int .i64 d,.int .i64 m,.int .u64 (ld:Int),.int .u64 (kp:Int),.int .u64 (sg:Int)]:=((Blk.new w 81 _).alloc _).drew
 have bx0:Blk ((w.alloc (.cells #[.int .i64 d,.int .i64 m,.int .u64 (ld:Int),.int .u64 (kp:Int),.int .u64 (sg:Int)] 81)).alloc (.cells x.cells 44)).drew (w.heap.size+1) 44 x.cells:=by
  have:=(Blk.new (w.alloc (.cells #[.int .i64 d,.int .i64 m,.int .u64 (ld:Int),.int .u64 (kp:Int),.int .u64 (sg:Int)] 81)) 44 x.cells).drew
  rwa [World.size_alloc] at this
 have fr0:Fr Non w ((w.alloc (.cells #[.int .i64 d,.int .i64 m,.int .u64 (ld:Int),.int .u64 (kp:Int),.int .u64 (sg:Int)] 81)).alloc (.cells x.cells 44)).drew:=(((Fr.refl Non w).alloc _).alloc _).drew
 have xd0:=OpL.frame hat fr0
 have kb:=Lib.hid (fun w' (h:x.at w' w'.heap.size)=>bare_any x w' h hok)
 have lb:=Op.bare_len x.op hok
 have hr:=hok.r
 have hs:=hok.s
 have kc:=Lib.hid (fun (A:Option Addr) (c:Nat) (w':World) (B:Nat) (h:Own w' B 5 1 A x.op.bare.length c (x.op.bare.map Bv))=>check_any sg x.r x.s w'.heap.size x.op.bare.length c A x.op.bare w' hsg hr hs rfl h.cap.1 (by omega) (Nat.le_refl _) h.rd)
 obtain ⟨D,hD⟩:=hid_ex x.op.bare
 rw [hD.out] at kb lb kc
 rw [hD.out]
 rw [hCS.out] at hsz bx0 bc0 kb xd0 fr0
 rw [hCS.out]
 have hi:(Tryz.prog.info? 44).map (·.size)=some CS.size:=by rw [hsz];kernel_rfl
 have hl:=ldS_blk (P:=Tryz.prog) (w.heap.size+1) 44 Tryz.underlying44 rfl hi
 obtain ⟨V,hV⟩:=hid_ex (Sg.check sg D x.r x.s)
 rw [hV.out] at kc ⊢
 unfold SigV at kc
 clear hat hok hr hs hD
 by_cases hd:x.by_=d
 ·
  have hb:(x.by_==d)=true:=by simp [hd]
  have hfin:Hid (((x.by_==d)&&V)=V):=by show _=_;rw [hb];simp
  rw [hfin.out]
  clear hd hfin
  go_enter Tryz.func70,Tryz.ntmps70
  go_upto_region 1 with (fail)
  generalize (w.alloc (.cells #[.int .i64 d,.int .i64 m,.int .u64 (ld:Int),.int .u64 (kp:Int),.int .u64 (sg:Int)] 81)).alloc (.cells CS 44)=w0 at*
  refine wp_region_held_drew (S:=fun w'=>Blk w' w.heap.size 81 #[.int .i64 d,.int .i64 m,.int .u64 (ld:Int),.int .u64 (kp:Int),.int .u64 (sg:Int)]∧Blk w' (w.heap.size+1) 44 CS) (by kernel_rfl) ⟨bc0,bx0⟩ (fun _=> ?_)
  refine wpAnyH_take (i:=0) (v:=?_) rfl (by kernel_rfl) (by kernel_rfl) (by kernel_rfl) (fun _ _ _ h=>h) (Or.inl ⟨by kernel_rfl,?_⟩) ⟨bc0,bx0⟩ ?_
  rotate_left
  focus (intro w' hSw;have b1:=hSw.1;have b2:=hSw.2;go_simp;(try with_reducible rfl))
  try simp only [put_lit2,List.set]
  refine wpAnyH_take (i:=1) (v:=?_) rfl (by kernel_rfl) (by kernel_rfl) (by kernel_rfl) (fun _ _ _ h=>h) (Or.inl ⟨by kernel_rfl,?_⟩) ⟨bc0,bx0⟩ ?_
  rotate_left
  focus (intro w' hSw;have b1:=hSw.1;have b2:=hSw.2;have q:w'.cell? ⟨w.heap.size+1,0,none⟩=some (.int .i64 x.by_):=(b2.cell 0).trans e0.out;go_simp;(try with_reducible rfl))
  try simp only [put_lit2,List.set]
  refine wpAnyH_take (i:=2) (v:=?_) rfl (by kernel_rfl) (by kernel_rfl) (by kernel_rfl) (fun _ _ _ h=>h) (Or.inl ⟨by kernel_rfl,?_⟩) ⟨bc0,bx0⟩ ?_
  rotate_left
  focus (intro w' hSw;have b1:=hSw.1;have b2:=hSw.2;go_simp;(try with_reducible rfl))
  try simp only [put_lit2,List.set]
  refine wpAnyH_take (i:=3) (v:=?_) rfl (by kernel_rfl) (by kernel_rfl) (by kernel_rfl) (fun _ _ _ h=>h) (Or.inl ⟨by kernel_rfl,?_⟩) ⟨bc0,bx0⟩ ?_
  rotate_left
  focus (intro w' hSw;have b1:=hSw.1;have b2:=hSw.2;have q:w'.cell? ⟨w.heap.size,0,none⟩=some (.int .i64 d):=b1.cell 0;go_simp;(try with_reducible rfl))
  try simp only [put_lit2,List.set]
  refine wpAnyH_take (i:=4) (v:=?_) rfl (by kernel_rfl) (by kernel_rfl) (by kernel_rfl) (fun _ _ _ h=>h) (Or.inl ⟨by kernel_rfl,?_⟩) ⟨bc0,bx0⟩ ?_
  rotate_left
  focus (intro w' hSw;have b1:=hSw.1;have b2:=hSw.2;go_simp;(try with_reducible rfl))
  try simp only [put_lit2,List.set]
  refine wpAnyH_take (i:=5) (v:=?_) rfl (by kernel_rfl) (by kernel_rfl) (by kernel_rfl) (fun _ _ _ h=>h) (Or.inl ⟨by kernel_rfl,?_⟩) ⟨bc0,bx0⟩ ?_
  rotate_left
  focus (intro w' hSw;have b1:=hSw.1;have b2:=hSw.2;go_simp;(try with_reducible rfl))
  try simp only [put_lit2,List.set]
  refine wpAnyH_take (i:=6) (v:=?_) rfl (by kernel_rfl) (by kernel_rfl) (by kernel_rfl) (fun _ _ _ h=>h) (Or.inl ⟨by kernel_rfl,?_⟩) ⟨bc0,bx0⟩ ?_
  rotate_left
  focus (intro w' hSw;have b1:=hSw.1;have b2:=hSw.2;go_simp;(try with_reducible rfl))
  try simp only [put_lit2,List.set]
  refine wpAnyH_take (i:=7) (v:=?_) rfl (by kernel_rfl) (by kernel_rfl) (by kernel_rfl) (fun _ _ _ h=>h) (Or.inl ⟨by kernel_rfl,?_⟩) ⟨bc0,bx0⟩ ?_
  rotate_left
  focus (intro w' hSw;have b1:=hSw.1;have b2:=hSw.2;have q:w'.cell? ⟨w.heap.size,4,none⟩=some (.int .u64 (sg:Int)):=b1.cell 4;go_simp;(try with_reducible rfl))
  try simp only [put_lit2,List.set]
  refine wpAnyH_take (i:=8) (v:=?_) rfl (by kernel_rfl) (by kernel_rfl) (by kernel_rfl) (fun _ _ _ h=>h) (Or.inl ⟨by kernel_rfl,?_⟩) ⟨bc0,bx0⟩ ?_
  rotate_left
  focus (intro w' hSw;have b1:=hSw.1;have b2:=hSw.2;go_simp;(try with_reducible rfl))
  try simp only [put_lit2,List.set]
  refine wpAnyH_take (i:=11) (v:=?_) rfl (by kernel_rfl) (by kernel_rfl) (by kernel_rfl) (fun _ _ _ h=>h) (Or.inl ⟨by kernel_rfl,?_⟩) ⟨bc0,bx0⟩ ?_
  rotate_left
  focus (intro w' hSw;have b1:=hSw.1;have b2:=hSw.2;go_simp;(try with_reducible rfl))
  try simp only [put_lit2,List.set]
  refine wpAnyH_take (i:=12) (v:=?_) rfl (by kernel_rfl) (by kernel_rfl) (by kernel_rfl) (fun _ _ _ h=>h) (Or.inl ⟨by kernel_rfl,?_⟩) ⟨bc0,bx0⟩ ?_
  rotate_left
  focus (intro w' hSw;have b1:=hSw.1;have b2:=hSw.2;have q1:w'.cell? ⟨w.heap.size+1,25,none⟩=some (.int .u64 (x.r:Int)):=(b2.cell 25).trans e25.out;have q2:w'.cell? ⟨w.heap.size+1,26,none⟩=some (.int .u64 (x.s:Int)):=(b2.cell 26).trans e26.out;go_simp;(try with_reducible rfl))
  try simp only [put_lit2,List.set]
  refine wpAnyH_only2 9 (by kernel_rfl) rfl (by kernel_rfl) (fun K hK=> ?_)
  go_simp
  go_wp2_with (go_at_call 94;(with_reducible refine (kb.out _ xd0).mono ?_);rintro _ v1 ⟨A1,c1,rfl,o1,f1⟩;have bc1:=bc0.fr f1 zq;have bx1:=bx0.fr f1 zq;have xd1:=OpL.frame xd0 f1;have fr1:=fr0.trans f1 zr;have o1x:OutAt v1 w0.heap.size (w0.heap.size+1) A1 c1 D:=o1)
  refine hK.out _ _ ⟨bc1,bx1⟩ (fun _=> ?_)
  clear hK K
  try simp only [put_lit2,List.set]
  refine wpAnyH_only2 10 (by kernel_rfl) rfl (by kernel_rfl) (fun K hK=> ?_)
  go_simp
  go_wp2_with (go_at_call 95;(with_reducible refine (outBytes_any _ _ A1 c1 _ _ o1x (by omega)).mono ?_);rintro _ v2 ⟨A2,c2,rfl,o2,f2⟩;have bc2:=bc1.fr f2 zq;have bx2:=bx1.fr f2 zq;have xd2:=OpL.frame xd1 f2;have fr2:=fr1.trans f2 zr)
  refine hK.out _ _ ⟨bc2,bx2⟩ (fun _=> ?_)
  clear hK K
  try simp only [put_lit2,List.set]
  refine wpAnyH_only2 13 (by kernel_rfl) rfl (by kernel_rfl) (fun K hK=> ?_)
  go_simp
  go_wp2_with (go_at_call 124;(with_reducible refine (kc.out _ _ _ _ o2).mono ?_);rintro _ v3 ⟨rfl,f3⟩;have bc3:=bc2.fr f3 zq;have bx3:=bx2.fr f3 zq;have xd3:=OpL.frame xd2 f3;have fr3:=fr2.trans f3 zr)
  refine hK.out _ _ ⟨bc3,bx3⟩ (fun _=> ?_)
  clear hK K
  try simp only [put_lit2,List.set]
  refine wpAnyH_take (i:=14) (v:=?_) rfl (by kernel_rfl) (by kernel_rfl) (by kernel_rfl) (fun _ _ _ h=>h) (Or.inl ⟨by kernel_rfl,?_⟩) ⟨bc3,bx3⟩ ?_
  rotate_left
  focus (intro w' hSw;have b1:=hSw.1;have b2:=hSw.2;go_simp;(try with_reducible rfl))
  try simp only [put_lit2,List.set]
  refine wpAnyH_take (i:=15) (v:=?_) rfl (by kernel_rfl) (by kernel_rfl) (by kernel_rfl) (fun _ _ _ h=>h) (Or.inl ⟨by kernel_rfl,?_⟩) ⟨bc3,bx3⟩ ?_
  rotate_left
  focus (intro w' hSw;have b1:=hSw.1;have b2:=hSw.2;go_simp;(try with_reducible rfl))
  try simp only [put_lit2,List.set]
  refine oD ?_
  go_wp2
  go_ret
  exact ⟨rfl,fr3⟩
 ·
  have hb:(x.by_==d)=false:=by simp [hd]
  have hfin:Hid (((x.by_==d)&&V)=false):=by show _=_;rw [hb];simp
  rw [hfin.out]
  clear hd hfin
  go_enter Tryz.func70,Tryz.ntmps70
  go_upto_region 1 with (fail)
  generalize (w.alloc (.cells #[.int .i64 d,.int .i64 m,.int .u64 (ld:Int),.int .u64 (kp:Int),.int .u64 (sg:Int)] 81)).alloc (.cells CS 44)=w0 at*
  refine wp_region_held_drew (S:=fun w'=>Blk w' w.heap.size 81 #[.int .i64 d,.int .i64 m,.int .u64 (ld:Int),.int .u64 (kp:Int),.int .u64 (sg:Int)]∧Blk w' (w.heap.size+1) 44 CS) (by kernel_rfl) ⟨bc0,bx0⟩ (fun _=> ?_)
  refine wpAnyH_take (i:=0) (v:=?_) rfl (by kernel_rfl) (by kernel_rfl) (by kernel_rfl) (fun _ _ _ h=>h) (Or.inl ⟨by kernel_rfl,?_⟩) ⟨bc0,bx0⟩ ?_
  rotate_left
  focus (intro w' hSw;have b1:=hSw.1;have b2:=hSw.2;go_simp;(try with_reducible rfl))
  try simp only [put_lit2,List.set]
  refine wpAnyH_take (i:=1) (v:=?_) rfl (by kernel_rfl) (by kernel_rfl) (by kernel_rfl) (fun _ _ _ h=>h) (Or.inl ⟨by kernel_rfl,?_⟩) ⟨bc0,bx0⟩ ?_
  rotate_left
  focus (intro w' hSw;have b1:=hSw.1;have b2:=hSw.2;have q:w'.cell? ⟨w.heap.size+1,0,none⟩=some (.int .i64 x.by_):=(b2.cell 0).trans e0.out;go_simp;(try with_reducible rfl))
  try simp only [put_lit2,List.set]
  refine wpAnyH_take (i:=2) (v:=?_) rfl (by kernel_rfl) (by kernel_rfl) (by kernel_rfl) (fun _ _ _ h=>h) (Or.inl ⟨by kernel_rfl,?_⟩) ⟨bc0,bx0⟩ ?_
  rotate_left
  focus (intro w' hSw;have b1:=hSw.1;have b2:=hSw.2;go_simp;(try with_reducible rfl))
  try simp only [put_lit2,List.set]
  refine wpAnyH_take (i:=3) (v:=?_) rfl (by kernel_rfl) (by kernel_rfl) (by kernel_rfl) (fun _ _ _ h=>h) (Or.inl ⟨by kernel_rfl,?_⟩) ⟨bc0,bx0⟩ ?_
  rotate_left
  focus (intro w' hSw;have b1:=hSw.1;have b2:=hSw.2;have q:w'.cell? ⟨w.heap.size,0,none⟩=some (.int .i64 d):=b1.cell 0;go_simp;(try with_reducible rfl))
  try simp only [put_lit2,List.set]
  refine wpAnyH_take (i:=4) (v:=?_) rfl (by kernel_rfl) (by kernel_rfl) (by kernel_rfl) (fun _ _ _ h=>h) (Or.inl ⟨by kernel_rfl,?_⟩) ⟨bc0,bx0⟩ ?_
  rotate_left
  focus (intro w' hSw;have b1:=hSw.1;have b2:=hSw.2;go_simp;(try with_reducible rfl))
  try simp only [put_lit2,List.set]
  refine wpAnyH_take (i:=5) (v:=?_) rfl (by kernel_rfl) (by kernel_rfl) (by kernel_rfl) (fun _ _ _ h=>h) (Or.inl ⟨by kernel_rfl,?_⟩) ⟨bc0,bx0⟩ ?_
  rotate_left
  focus (intro w' hSw;have b1:=hSw.1;have b2:=hSw.2;go_simp;(try with_reducible rfl))
  try simp only [put_lit2,List.set]
  refine wpAnyH_take (i:=6) (v:=undef) rfl (by kernel_rfl) (by kernel_rfl) (by kernel_rfl) (fun _ _ _ h=>h) (Or.inr ⟨by kernel_rfl,rfl⟩) ⟨bc0,bx0⟩ ?_
  try simp only [put_lit2,List.set]
  refine wpAnyH_take (i:=7) (v:=undef) rfl (by kernel_rfl) (by kernel_rfl) (by kernel_rfl) (fun _ _ _ h=>h) (Or.inr ⟨by kernel_rfl,rfl⟩) ⟨bc0,bx0⟩ ?_
  try simp only [put_lit2,List.set]
  refine wpAnyH_take (i:=8) (v:=undef) rfl (by kernel_rfl) (by kernel_rfl) (by kernel_rfl) (fun _ _ _ h=>h) (Or.inr ⟨by kernel_rfl,rfl⟩) ⟨bc0,bx0⟩ ?_
  try simp only [put_lit2,List.set]
  refine wpAnyH_take (i:=9) (v:=undef) rfl (by kernel_rfl) (by kernel_rfl) (by kernel_rfl) (fun _ _ _ h=>h) (Or.inr ⟨by kernel_rfl,rfl⟩) ⟨bc0,bx0⟩ ?_
  try simp only [put_lit2,List.set]
  refine wpAnyH_take (i:=10) (v:=undef) rfl (by kernel_rfl) (by kernel_rfl) (by kernel_rfl) (fun _ _ _ h=>h) (Or.inr ⟨by kernel_rfl,rfl⟩) ⟨bc0,bx0⟩ ?_
  try simp only [put_lit2,List.set]
  refine wpAnyH_take (i:=11) (v:=undef) rfl (by kernel_rfl) (by kernel_rfl) (by kernel_rfl) (fun _ _ _ h=>h) (Or.inr ⟨by kernel_rfl,rfl⟩) ⟨bc0,bx0⟩ ?_
  try simp only [put_lit2,List.set]
  refine wpAnyH_take (i:=12) (v:=undef) rfl (by kernel_rfl) (by kernel_rfl) (by kernel_rfl) (fun _ _ _ h=>h) (Or.inr ⟨by kernel_rfl,rfl⟩) ⟨bc0,bx0⟩ ?_
  try simp only [put_lit2,List.set]
  refine wpAnyH_take (i:=13) (v:=undef) rfl (by kernel_rfl) (by kernel_rfl) (by kernel_rfl) (fun _ _ _ h=>h) (Or.inr ⟨by kernel_rfl,rfl⟩) ⟨bc0,bx0⟩ ?_
  try simp only [put_lit2,List.set]
  refine wpAnyH_take (i:=14) (v:=?_) rfl (by kernel_rfl) (by kernel_rfl) (by kernel_rfl) (fun _ _ _ h=>h) (Or.inl ⟨by kernel_rfl,?_⟩) ⟨bc0,bx0⟩ ?_
  rotate_left
  focus (intro w' hSw;have b1:=hSw.1;have b2:=hSw.2;go_simp;(try with_reducible rfl))
  try simp only [put_lit2,List.set]
  refine wpAnyH_take (i:=15) (v:=?_) rfl (by kernel_rfl) (by kernel_rfl) (by kernel_rfl) (fun _ _ _ h=>h) (Or.inl ⟨by kernel_rfl,?_⟩) ⟨bc0,bx0⟩ ?_
  rotate_left
  focus (intro w' hSw;have b1:=hSw.1;have b2:=hSw.2;go_simp;(try with_reducible rfl))
  try simp only [put_lit2,List.set]
  refine oD ?_
  go_wp2
  go_ret
  exact ⟨by go_simp,fr0⟩
theorem at_sig {x:OpL} {w:World} {B:Nat} (o:x.at w B) (r s:Nat):({x with r:=r,s:=s}:OpL).at w B:=⟨o.past,o.path,o.nodes,o.body,o.refs,o.guards,o.boxes,o.hist,o.seals⟩
theorem resig_op (x:OpL) (R S:Nat):({x with r:=R,s:=S}:OpL).op={x.op with r:=R,s:=S}:=rfl
def lSign:List UInt8:=[115,105,103,110]
def SignedEq (x:OpL) (secret:Nat) (w:World) (r:Ending) (w':World):Prop:=
 r=.returned (.agg ({x with r:=Sg.r secret x.op.bare,s:=Sg.s secret x.op.bare}:OpL).cells)∧Fr Non w w'
theorem signed11_eq (x:OpL) (u:Nat) (w:World) (hu:IntKind.u64.wrap x.by_=(u:Int)) (hu':u<18446744073709551616) (hat:x.at w w.heap.size) (hok:x.op.ok):
  Calls Tryz.prog 15 #[.agg x.cells] w (SignedEq x (sec lSign u) w):=by
 have hi:(Tryz.prog.info? 44).map (·.size)=some 27:=by kernel_rfl
 have bx0:Blk ((w.alloc (.cells x.cells 44)).alloc (.cells zO 44)).drew w.heap.size 44 x.cells:=((Blk.new w 44 _).alloc _).drew
 have br0:Blk ((w.alloc (.cells x.cells 44)).alloc (.cells zO 44)).drew (w.heap.size+1) 44 zO:=by
  have:=(Blk.new (w.alloc (.cells x.cells 44)) 44 zO).drew
  rwa [World.size_alloc] at this
 have fr0:Fr Non w ((w.alloc (.cells x.cells 44)).alloc (.cells zO 44)).drew:=(((Fr.refl Non w).alloc _).alloc _).drew
 have xd0:=OpL.frame hat fr0
 have hs:=sec_lt lSign u
 have k1:Hid (∀w':World,Calls Tryz.prog 61 #[.string ⟨#[115,105,103,110]⟩,.int .i64 x.by_] w' (PowPost (sec lSign u) w')):=fun w'=>secret11_any lSign x.by_ u w' hu hu' (by decide)
 have kb:=Lib.hid (fun w' (h:x.at w' w'.heap.size)=>bytes11_any x w' h hok)
 have lb:=Op.bare_len x.op hok
 have ks:=Lib.hid (fun (A:Option Addr) (c:Nat) (w':World) (B:Nat) (h:Own w' B 5 1 A x.op.bare.length c (x.op.bare.map Bv))=>sign08_any (sec lSign u) w'.heap.size x.op.bare.length c A x.op.bare w' (by omega) rfl (by omega) (Nat.le_refl _) h.rd)
 have hpost:∀(R S:Nat) (w':World),Sg.r (sec lSign u) x.op.bare=R→Sg.s (sec lSign u) x.op.bare=S→({x with r:=R,s:=S}:OpL).at w' w'.heap.size→Fr Non w w'→SignedEq x (sec lSign u) w (.returned (.agg ({x with r:=R,s:=S}:OpL).cells)) w':=fun R S w' h1 h2 h3 h4=>by subst h1;subst h2;exact ⟨rfl,h4⟩
 obtain ⟨D,hD⟩:=hid_ex x.op.bare
 rw [hD.out] at kb lb ks hpost
 generalize sec lSign u=V at*
 obtain ⟨R,hR⟩:=hid_ex (Sg.r V D)
 obtain ⟨S,hS⟩:=hid_ex (Sg.s V D)
 unfold SignPost SigV at ks
 rw [hR.out,hS.out] at ks
 have hpost':=Lib.hid (fun w'=>hpost R S w' hR.out hS.out)
 generalize SignedEq x V w=POST at hpost' ⊢
 have hlx:=ldS_blk (P:=Tryz.prog) w.heap.size 44 Tryz.underlying44 rfl (cs:=x.cells) hi
 have hat0:=Lib.hid hat
 clear hpost hat hok hs hD hR hS hu hu'
 go_enter Tryz.func15,Tryz.ntmps15
 go_upto_region 1 with (fail)
 generalize (w.alloc (.cells x.cells 44)).alloc (.cells zO 44)=w0 at*
 have c0:w0.drew.cell? ⟨w.heap.size,0,none⟩=some (.int .i64 x.by_):=bx0.cell 0
 have f0:Fr Non w0.drew w0.drew:=Fr.refl _ _
 go_region_with (first
  |(go_at_call 61;(with_reducible refine (k1.out _).mono ?_);rintro _ v1 ⟨rfl,f1⟩;have bx1:=bx0.fr f1 zq;have xd1:=OpL.frame xd0 f1;have br1:=br0.fr f1 zq;have fr1:=fr0.trans f1 zr)
  |(go_at_call 62;(with_reducible refine (kb.out _ xd1).mono ?_);rintro _ v2 ⟨A2,c2,rfl,o2,f2⟩;have bx2:=bx1.fr f2 zq;have xd2:=OpL.frame xd1 f2;have br2:=br1.fr f2 zq;have fr2:=fr1.trans f2 zr)
  |(go_at_call 60;(with_reducible refine (ks.out _ _ _ _ o2).mono ?_);rintro _ v3 ⟨rfl,f3⟩;have bx3:=bx2.fr f3 zq;have xd3:=OpL.frame xd2 f3;have br3:=br2.fr f3 zq;have fr3:=fr2.trans f3 zr;have z25:v3.cell? ⟨w.heap.size,25,none⟩=some _:=bx3.cell 25;have z26:v3.cell? ⟨w.heap.size,26,none⟩=some _:=bx3.cell 26;have q25:=bx3.frozen 25;have q26:=bx3.frozen 26))
 all_goals
  have hb4:Blk _ w.heap.size 44 ({x with r:=R,s:=S}:OpL).cells:=(bx3.set 25 (.int .u64 (R:Int))).set 26 (.int .u64 (S:Int))
  have hg4:=((Fr.refl (One w.heap.size) v3).setOne 25 (.int .u64 (R:Int))).setOne 26 (.int .u64 (S:Int))
  have br4:=br3.fr hg4 (fun e=>by have e':w.heap.size+1=w.heap.size:=e;omega)
  have fr4:=(fr3.setNew (Nat.le_refl _) 25 (.int .u64 (R:Int))).setNew (Nat.le_refl _) 26 (.int .u64 (S:Int))
  have xat4:=at_sig (OpL.frame hat0.out fr4) R S
  generalize (v3.setCell ⟨w.heap.size,25,none⟩ (.int .u64 (R:Int))).setCell ⟨w.heap.size,26,none⟩ (.int .u64 (S:Int))=w4 at*
  have honev:=one_cells ({x with r:=R,s:=S}:OpL)
  have fin:Hid (∀wz,Fr (One (w.heap.size+1)) w4 wz→POST (.returned (.agg ({x with r:=R,s:=S}:OpL).cells)) wz):=by
   intro wz hf
   have frz:=fr4.trans hf (fun k hk e=>absurd hk (by have e':k=w.heap.size+1:=e;omega))
   exact hpost'.out wz (at_sig (OpL.frame hat0.out frz) R S) frz
  clear xat4 hpost' hat0 fr4 bx0 bx1 bx2 bx3 br0 br1 br2 br3 xd0 xd1 xd2 xd3 fr0 fr1 fr2 fr3 z25 z26 q25 q26 hg4 hlx o2 f1 f2 f3 c0 f0
  generalize ({x with r:=R,s:=S}:OpL)=v at hb4 honev fin
  have tok1:True:=trivial
  go_wp2_with (first
   |(have _t:=tok1;refine wpList_load_row rfl 44 (.tmp 1) rfl rfl hb4 Tryz.underlying44 rfl hi ?_;clear tok1 _t)
   |(refine wpList_store_row rfl 44 (.tmp 2) (.tmp 10) rfl rfl rfl rfl br4 hi rfl honev ?_;have hfz:=(Fr.refl (One (w.heap.size+1)) w4).setRow (g:=w.heap.size+1) (fun _=>rfl) v.cells;have hz2:=br4.setRow (cs:=v.cells);generalize w4.setRow (w.heap.size+1) v.cells=wz at hfz hz2 ⊢;(repeat (first|go_values|go_skip|go_guarded|go_step));exact ret_blk (t:=44) rfl rfl hz2 rfl Tryz.underlying44 (by kernel_rfl) rfl (fin.out wz hfz)))
def lLead:List UInt8:=[108,101,97,100]
def lKeep:List UInt8:=[107,101,101,112]
def cardOf (i:Nat) (m:Int):Cd:=⟨(i:Int)+1,m,Sg.pub (sec lLead (i+1)),Sg.pub (sec lKeep (i+1)),Sg.pub (sec lSign (i+1))⟩
def cardsFrom (i:Nat):List Int→List Cd
 |[]=>[]
 |m::r=>cardOf i m::cardsFrom (i+1) r
theorem cardsFrom_len (l:List Int):∀i,(cardsFrom i l).length=l.length:=by
 induction l with
 |nil=>intro i;rfl
 |cons m r ih=>intro i;simp [cardsFrom,ih]
theorem cardsFrom_snoc (l:List Int) (m:Int):∀i,cardsFrom i (l++[m])=cardsFrom i l++[cardOf (i+l.length) m]:=by
 induction l with
 |nil=>intro i;rfl
 |cons x r ih=>
  intro i
  show cardOf i x::cardsFrom (i+1) (r++[m])=_
  rw [ih,List.length_cons,show i+1+r.length=i+(r.length+1) by omega]
  rfl
theorem slCd:SlT Tryz.prog 26 81 (.agg zC) 5 40:=⟨Tryz.underlying26,by kernel_rfl,rfl,by decide⟩
def CardsPost (l:List Int) (n:Nat) (w:World) (r:Ending) (w':World):Prop:=
 ∃A c,r=.returned (.slice A n c)∧Own w' w.heap.size 81 5 A n c ((cardsFrom 0 l).flatMap Cd.cells)∧Fr Non w w'
theorem cards_any (n c:Nat) (A:Option Addr) (l:List Int) (w:World) (hn:Hid (l.length=n)) (hl:n≤1000) (hr:Rd w w.heap.size 1 A n (l.map Iv)):
  Calls Tryz.prog 40 #[.slice A n c] w (CardsPost l n w):=by
 have hk1:∀(kind:List UInt8) (k:Nat) (w':World),k<n→kind.length≤1000→Calls Tryz.prog 61 #[.string (str kind),.int .i64 ((k:Int)+1)] w' (PowPost (sec kind (k+1)) w'):=fun kind k w' hkn hkl=>secret11_any kind _ (k+1) w' (by rw [IntKind.wrap_u64];omega) (by omega) hkl
 go_enter Tryz.func40,Tryz.ntmps40
 go_wp2
 go_loopw [3,4] (fun s v wr=>∃(k:Nat) (A':Option Addr) (c':Nat),v=.int .i64 (k:Int)∧s=.slice A' k c'∧k≤n∧Own wr w.heap.size 81 5 A' k c' ((cardsFrom 0 (l.take k)).flatMap Cd.cells)∧Fr Non w wr) (fun _ v _=>n-(intOf v).toNat)
 case atStart=>exact ⟨0,none,0,rfl,rfl,by omega,Own.nil _ _ _ _,Fr.refl _ _⟩
 case round=>
  obtain ⟨k,A',c',rfl,rfl,hk,hown,hf⟩:=hrel
  by_cases hlt:k<n
  ·
   obtain ⟨b,off,v,rfl,hb,hu,hc⟩:=(hr.fr hf zr).at hlt
   rw [List.getElem?_map] at hu
   obtain ⟨mm,hmm,rfl⟩:=Option.map_eq_some_iff.1 hu
   have hsn:l.take (k+1)=l.take k++[mm]:=by
    obtain ⟨hx,rfl⟩:=List.getElem?_eq_some_iff.1 hmm
    exact List.take_succ_eq_append_getElem hx
   have hlk:(l.take k).length=k:=by rw [List.length_take,hn.out];omega
   have ecd:Hid (((cardsFrom 0 (l.take (k+1))).flatMap Cd.cells)=(cardsFrom 0 (l.take k)).flatMap Cd.cells++(cardOf k mm).cells):=by
    show _=_
    rw [hsn,cardsFrom_snoc,hlk,Nat.zero_add,List.flatMap_append,List.flatMap_cons,List.flatMap_nil,List.append_nil]
   obtain ⟨V1,hV1⟩:=hid_ex (sec lLead (k+1))
   obtain ⟨V2,hV2⟩:=hid_ex (sec lKeep (k+1))
   obtain ⟨V3,hV3⟩:=hid_ex (sec lSign (k+1))
   have l1:=sec_lt lLead (k+1)
   have l2:=sec_lt lKeep (k+1)
   have l3:=sec_lt lSign (k+1)
   have k1:Hid (∀w':World,Calls Tryz.prog 61 #[.string ⟨#[108,101,97,100]⟩,.int .i64 ((k:Int)+1)] w' (PowPost (sec lLead (k+1)) w')):=fun w'=>hk1 lLead k w' hlt (by decide)
   have k2:Hid (∀w':World,Calls Tryz.prog 61 #[.string ⟨#[107,101,101,112]⟩,.int .i64 ((k:Int)+1)] w' (PowPost (sec lKeep (k+1)) w')):=fun w'=>hk1 lKeep k w' hlt (by decide)
   have k3:Hid (∀w':World,Calls Tryz.prog 61 #[.string ⟨#[115,105,103,110]⟩,.int .i64 ((k:Int)+1)] w' (PowPost (sec lSign (k+1)) w')):=fun w'=>hk1 lSign k w' hlt (by decide)
   have p1:=Lib.hid (fun w'=>pub08_any (sec lLead (k+1)) w' (by omega))
   have p2:=Lib.hid (fun w'=>pub08_any (sec lKeep (k+1)) w' (by omega))
   have p3:=Lib.hid (fun w'=>pub08_any (sec lSign (k+1)) w' (by omega))
   have ecc:Hid ((cardOf k mm).cells=[.int .i64 ((k:Int)+1),.int .i64 mm,.int .u64 (Sg.pub (sec lLead (k+1)):Int),.int .u64 (Sg.pub (sec lKeep (k+1)):Int),.int .u64 (Sg.pub (sec lSign (k+1)):Int)]):=by
    show _=_
    unfold cardOf
    exact cd_cells _ _ _ _ _
   rw [hV1.out] at k1 p1 ecc l1
   rw [hV2.out] at k2 p2 ecc l2
   rw [hV3.out] at k3 p3 ecc l3
   obtain ⟨Q1,hQ1⟩:=hid_ex (Sg.pub V1)
   obtain ⟨Q2,hQ2⟩:=hid_ex (Sg.pub V2)
   obtain ⟨Q3,hQ3⟩:=hid_ex (Sg.pub V3)
   rw [hQ1.out] at p1 ecc
   rw [hQ2.out] at p2 ecc
   rw [hQ3.out] at p3 ecc
   have hfin:Hid (∀(A2:Option Addr) (c2:Nat) (w2:World),Own w2 w.heap.size 81 5 A2 (k+1) c2 ((cardsFrom 0 (l.take k)).flatMap Cd.cells++[.int .i64 ((k:Int)+1),.int .i64 mm,.int .u64 (Q1:Int),.int .u64 (Q2:Int),.int .u64 (Q3:Int)])→Own w2 w.heap.size 81 5 A2 (k+1) c2 ((cardsFrom 0 (l.take (k+1))).flatMap Cd.cells)):=fun A2 c2 w2 h=>by rw [ecd.out,ecc.out];exact h
   clear hV1 hV2 hV3 hQ1 hQ2 hQ3 ecd ecc hsn hlk hmm hu hn hk1
   obtain ⟨XS,hXS⟩:=hid_ex ((cardsFrom 0 (l.take k)).flatMap Cd.cells)
   rw [hXS.out] at hown hfin
   have hbw:b<w.heap.size:=hb
   have cc0:wr.drew.cell? ⟨b,off+k,none⟩=some (.int .i64 mm):=hc
   have hown0:Own wr.drew w.heap.size 81 5 A' k c' XS:=hown
   have fr0:=hf.drew
   go_upto_region 6 with (fail)
   refine wp_region_held_drew (S:=fun w'=>w'.cell? ⟨b,off+k,none⟩=some (.int .i64 mm)) (by kernel_rfl) cc0 (fun _=> ?_)
   refine wpAnyH_take (i:=0) (v:=?_) rfl (by kernel_rfl) (by kernel_rfl) (by kernel_rfl) (fun _ _ _ h=>h) (Or.inl ⟨by kernel_rfl,?_⟩) cc0 ?_
   rotate_left
   focus (intro w' hSw;have b1:=hSw;(try dsimp only at b1);go_simp;(try with_reducible rfl))
   try simp only [put_lit2,List.set]
   refine wpAnyH_take (i:=1) (v:=?_) rfl (by kernel_rfl) (by kernel_rfl) (by kernel_rfl) (fun _ _ _ h=>h) (Or.inl ⟨by kernel_rfl,?_⟩) cc0 ?_
   rotate_left
   focus (intro w' hSw;have b1:=hSw;(try dsimp only at b1);go_simp;(try with_reducible rfl))
   try simp only [put_lit2,List.set]
   refine wpAnyH_take (i:=2) (v:=?_) rfl (by kernel_rfl) (by kernel_rfl) (by kernel_rfl) (fun _ _ _ h=>h) (Or.inl ⟨by kernel_rfl,?_⟩) cc0 ?_
   rotate_left
   focus (intro w' hSw;have b1:=hSw;(try dsimp only at b1);go_simp;(try with_reducible rfl))
   try simp only [put_lit2,List.set]
   refine wpAnyH_take (i:=3) (v:=?_) rfl (by kernel_rfl) (by kernel_rfl) (by kernel_rfl) (fun _ _ _ h=>h) (Or.inl ⟨by kernel_rfl,?_⟩) cc0 ?_
   rotate_left
   focus (intro w' hSw;have b1:=hSw;(try dsimp only at b1);go_simp;(try with_reducible rfl))
   try simp only [put_lit2,List.set]
   refine wpAnyH_take (i:=4) (v:=?_) rfl (by kernel_rfl) (by kernel_rfl) (by kernel_rfl) (fun _ _ _ h=>h) (Or.inl ⟨by kernel_rfl,?_⟩) cc0 ?_
   rotate_left
   focus (intro w' hSw;have b1:=hSw;(try dsimp only at b1);go_simp;(try with_reducible rfl))
   try simp only [put_lit2,List.set]
   refine wpAnyH_take (i:=5) (v:=?_) rfl (by kernel_rfl) (by kernel_rfl) (by kernel_rfl) (fun _ _ _ h=>h) (Or.inl ⟨by kernel_rfl,?_⟩) cc0 ?_
   rotate_left
   focus (intro w' hSw;have b1:=hSw;(try dsimp only at b1);go_simp;(try with_reducible rfl))
   try simp only [put_lit2,List.set]
   refine wpAnyH_take (i:=6) (v:=?_) rfl (by kernel_rfl) (by kernel_rfl) (by kernel_rfl) (fun _ _ _ h=>h) (Or.inl ⟨by kernel_rfl,?_⟩) cc0 ?_
   rotate_left
   focus (intro w' hSw;have b1:=hSw;(try dsimp only at b1);go_simp;(try with_reducible rfl))
   try simp only [put_lit2,List.set]
   refine wpAnyH_take (i:=9) (v:=?_) rfl (by kernel_rfl) (by kernel_rfl) (by kernel_rfl) (fun _ _ _ h=>h) (Or.inl ⟨by kernel_rfl,?_⟩) cc0 ?_
   rotate_left
   focus (intro w' hSw;have b1:=hSw;(try dsimp only at b1);go_simp;(try with_reducible rfl))
   try simp only [put_lit2,List.set]
   refine wpAnyH_take (i:=12) (v:=?_) rfl (by kernel_rfl) (by kernel_rfl) (by kernel_rfl) (fun _ _ _ h=>h) (Or.inl ⟨by kernel_rfl,?_⟩) cc0 ?_
   rotate_left
   focus (intro w' hSw;have b1:=hSw;(try dsimp only at b1);go_simp;(try with_reducible rfl))
   try simp only [put_lit2,List.set]
   refine wpAnyH_only2 7 (by kernel_rfl) rfl (by kernel_rfl) (fun K hK=> ?_)
   go_simp
   go_wp2_with (go_at_call 61;(with_reducible refine (k1.out _).mono ?_);rintro _ v1 ⟨rfl,f1⟩;have cc1:=f1.cell cc0 zq;have hown1:=hown0.fr f1 zr;have fr1:=fr0.trans f1 zr)
   refine hK.out _ _ cc1 (fun _=> ?_)
   clear hK K
   try simp only [put_lit2,List.set]
   refine wpAnyH_only2 8 (by kernel_rfl) rfl (by kernel_rfl) (fun K hK=> ?_)
   go_simp
   go_wp2_with (go_at_call 89;(with_reducible refine (p1.out _).mono ?_);rintro _ v2 ⟨rfl,f2⟩;have cc2:=f2.cell cc1 zq;have hown2:=hown1.fr f2 zr;have fr2:=fr1.trans f2 zr)
   refine hK.out _ _ cc2 (fun _=> ?_)
   clear hK K
   try simp only [put_lit2,List.set]
   refine wpAnyH_only2 10 (by kernel_rfl) rfl (by kernel_rfl) (fun K hK=> ?_)
   go_simp
   go_wp2_with (go_at_call 61;(with_reducible refine (k2.out _).mono ?_);rintro _ v3 ⟨rfl,f3⟩;have cc3:=f3.cell cc2 zq;have hown3:=hown2.fr f3 zr;have fr3:=fr2.trans f3 zr)
   refine hK.out _ _ cc3 (fun _=> ?_)
   clear hK K
   try simp only [put_lit2,List.set]
   refine wpAnyH_only2 11 (by kernel_rfl) rfl (by kernel_rfl) (fun K hK=> ?_)
   go_simp
   go_wp2_with (go_at_call 89;(with_reducible refine (p2.out _).mono ?_);rintro _ v4 ⟨rfl,f4⟩;have cc4:=f4.cell cc3 zq;have hown4:=hown3.fr f4 zr;have fr4:=fr3.trans f4 zr)
   refine hK.out _ _ cc4 (fun _=> ?_)
   clear hK K
   try simp only [put_lit2,List.set]
   refine wpAnyH_only2 13 (by kernel_rfl) rfl (by kernel_rfl) (fun K hK=> ?_)
   go_simp
   go_wp2_with (go_at_call 61;(with_reducible refine (k3.out _).mono ?_);rintro _ v5 ⟨rfl,f5⟩;have cc5:=f5.cell cc4 zq;have hown5:=hown4.fr f5 zr;have fr5:=fr4.trans f5 zr)
   refine hK.out _ _ cc5 (fun _=> ?_)
   clear hK K
   try simp only [put_lit2,List.set]
   refine wpAnyH_only2 14 (by kernel_rfl) rfl (by kernel_rfl) (fun K hK=> ?_)
   go_simp
   go_wp2_with (go_at_call 89;(with_reducible refine (p3.out _).mono ?_);rintro _ v6 ⟨rfl,f6⟩;have cc6:=f6.cell cc5 zq;have hown6:=hown5.fr f6 zr;have fr6:=fr5.trans f6 zr)
   refine hK.out _ _ cc6 (fun _=> ?_)
   clear hK K
   try simp only [put_lit2,List.set]
   refine wpAnyH_take (i:=15) (v:=?_) rfl (by kernel_rfl) (by kernel_rfl) (by kernel_rfl) (fun _ _ _ h=>h) (Or.inl ⟨by kernel_rfl,?_⟩) cc6 ?_
   rotate_left
   focus (intro w' hSw;have b1:=hSw;(try dsimp only at b1);go_simp;(try with_reducible rfl))
   try simp only [put_lit2,List.set]
   refine wpAnyH_only2 16 (by kernel_rfl) rfl (by kernel_rfl) (fun K hK=> ?_)
   go_simp
   have cc7:=cell_alloc cc6 (.cells #[.int .i64 ((k:Int)+1),.int .i64 mm,.int .u64 (Q1:Int),.int .u64 (Q2:Int),.int .u64 (Q3:Int)] 81)
   have hown7:=hown6.alloc (.cells #[.int .i64 ((k:Int)+1),.int .i64 mm,.int .u64 (Q1:Int),.int .u64 (Q2:Int),.int .u64 (Q3:Int)] 81)
   have hrd7:=Rd.blk (n:=1) (size:=5) (Blk.new v6 81 #[.int .i64 ((k:Int)+1),.int .i64 mm,.int .u64 (Q1:Int),.int .u64 (Q2:Int),.int .u64 (Q3:Int)]) rfl
   refine hK.out _ _ cc7 (fun _=> ?_)
   clear hK K
   go_simp
   refine wpAnyH_ready (rs:=[17]) (by kernel_rfl) (by simp) (AllReadyH.cons rfl (fun K hK=> ?_) AllReadyH.nil)
   refine step_app (base:=w.heap.size) (.tmp 14) (.tmp 30) 26 (by rfl) (by rfl) (by rfl) (by rfl) slCd hown7 hrd7 (by simp [Value.oneCell']) (by omega) (by omega) (by rw [World.size_alloc];have:=fr6.size;omega) ?_
   intro A2 c2 w9 own9 fr9 hat9
   have cc9:=fr9.cell cc7 (fun e=>by have h:w.heap.size≤b:=(hown.row b e).1;omega)
   refine hK.out _ _ cc9 (fun _=> ?_)
   clear hK K
   go_simp
   refine wpAnyH_take (i:=18) (v:=?_) rfl (by kernel_rfl) (by kernel_rfl) (by kernel_rfl) (fun _ _ _ h=>h) (Or.inl ⟨by kernel_rfl,?_⟩) cc9 ?_
   rotate_left
   focus (intro w' hSw;have b1:=hSw;(try dsimp only at b1);go_simp;(try with_reducible rfl))
   try simp only [put_lit2,List.set]
   refine oD ?_
   go_wp2
   go_roundw
   case rel=>exact ⟨k+1,A2,c2,by go_num,rfl,by omega,hfin.out A2 c2 _ own9,(fr6.alloc _).trans fr9 (fun j hj e=>by have:=(hown.row j e).1;omega)⟩
   case measure=>simp [intOf];omega
  ·
   obtain rfl:k=n:=by omega
   have ht:l.take k=l:=List.take_of_length_le (by rw [hn.out];exact Nat.le_refl _)
   rw [ht] at hown
   go_wp2
   go_ret
   exact ⟨A',c',rfl,hown,hf⟩
end Oq
end
section
open Go.RowKit
namespace Oq
structure Pn where
 o:Op
 id:Id
 ps:Nat→Bool
 lev:Nat
def NodeG.pn (n:NodeG):Pn:=⟨n.x.op,n.id,n.past,n.lev⟩
def Gph.pns (g:Gph):List Pn:=g.nodes.map NodeG.pn
def plc (l:List Pn) (id:Id):Option Nat:=l.findIdx? (fun n=>decide (n.id=id))
theorem plc_pns (l:List NodeG) (id:Id):plc (l.map NodeG.pn) id=place l id:=by
 unfold plc place
 rw [List.findIdx?_map]
 rfl
theorem plc_some {l:List Pn} {id:Id} {i:Nat} (h:plc l id=some i):∃n,l[i]? =some n∧n.id=id:=by
 obtain ⟨hi,h1,_⟩:=List.findIdx?_eq_some_iff_getElem.1 h
 exact ⟨l[i],List.getElem?_eq_getElem hi,by simpa using h1⟩
theorem plc_lt {l:List Pn} {id:Id} {i:Nat} (h:plc l id=some i):i<l.length:=by
 obtain ⟨n,hn,_⟩:=plc_some h
 exact (List.getElem?_eq_some_iff.1 hn).1
def parB (l:List Pn) (ids:List Id) (q:Nat):Bool:=ids.any (fun id=>plc l id==some q)
def upB (l:List Pn) (id:Id) (q:Nat):Bool:=match plc l id with|some i=>(l[i]?.map (fun n=>n.ps q)).getD false|none=>false
def abvB (l:List Pn) (ids:List Id) (q:Nat):Bool:=ids.any (fun id=>upB l id q)
def atOf (l:List Pn) (id:Id):Int:=match plc l id with|some i=>(l[i]?.map (fun n=>n.o.at_)).getD 0|none=>0
def late (l:List Pn) (ids:List Id):Int:=ids.foldl (fun t id=>max t (atOf l id)) 0
def levOf (l:List Pn) (id:Id):Nat:=match plc l id with|some i=>(l[i]?.map (fun n=>n.lev)).getD 0|none=>0
def lvl (l:List Pn) (ids:List Id):Nat:=ids.foldl (fun t id=>max t (levOf l id+1)) 1
def clash (l:List Pn) (ids:List Id):Bool:=(List.range 256).any (fun q=>parB l ids q&&abvB l ids q)
def lastTo (l:List Pn) (p:Nat→Bool) (d:Int):Nat→Int
 |0=>0
 |k+1=>match l[k]? with
  |some n=>if (n.o.by_==d&&p k)=true then max (lastTo l p d k) n.o.sq else lastTo l p d k
  |none=>lastTo l p d k
def aheadTo (l:List Pn) (p:Nat→Bool) (d s:Int):Nat→Bool
 |0=>false
 |k+1=>match l[k]? with
  |some n=>aheadTo l p d s k||(n.o.by_==d&&p k&&n.o.sq==s-1)
  |none=>aheadTo l p d s k
def psOf (l:List Pn) (ids:List Id) (q:Nat):Bool:=decide (q<256)&&(abvB l ids q||parB l ids q)
def seqBad (l:List Pn) (p:Nat→Bool) (o:Op):Bool:=decide (o.sq≤lastTo l p o.by_ l.length)||(decide (1<o.sq)&& !aheadTo l p o.by_ o.sq l.length)
def Op.name (o:Op):Id:=⟨o.by_,o.sq,o.id⟩
def cardOf? (cards:List Cd) (d:Int):Option Cd:=cards.find? (fun c=>c.d==d)
def addErr (cards:List Cd) (l:List Pn) (o:Op):Int:=
 if o.chk≠0 then o.chk
 else if (plc l o.name).isSome=true then 5
 else if 200≤l.length then 3
 else match cardOf? cards o.by_ with
  |none=>17
  |some c=>
   if Sg.check c.s o.bare o.r o.s=false then 12
   else if o.kind=1∧l≠[] then 1
   else if o.past.any (fun id=>(plc l id).isNone)=true then 10
   else if clash l o.past=true∨o.at_<late l o.past then 6
   else if seqBad l (psOf l o.past) o=true then 11
   else 0
def addPn (l:List Pn) (o:Op):Pn:=⟨o,o.name,psOf l o.past,lvl l o.past⟩
theorem take_snoc' {α:Type} {l:List α} {k:Nat} {x:α} (h:l[k]? =some x):l.take (k+1)=l.take k++[x]:=by
 obtain ⟨hk,rfl⟩:=List.getElem?_eq_some_iff.1 h
 rw [List.take_succ_eq_append_getElem hk]
theorem parB_snoc (l:List Pn) (ids:List Id) (k:Nat) {id:Id} (h:ids[k]? =some id):parB l (ids.take (k+1))=fun q=>(plc l id==some q)||parB l (ids.take k) q:=by
 funext q
 unfold parB
 rw [take_snoc' h,List.any_append]
 simp [Bool.or_comm]
theorem abvB_snoc (l:List Pn) (ids:List Id) (k:Nat) {id:Id} (h:ids[k]? =some id):abvB l (ids.take (k+1))=fun q=>abvB l (ids.take k) q||upB l id q:=by
 funext q
 unfold abvB
 rw [take_snoc' h,List.any_append]
 simp
theorem late_snoc (l:List Pn) (ids:List Id) (k:Nat) {id:Id} (h:ids[k]? =some id):late l (ids.take (k+1))=max (late l (ids.take k)) (atOf l id):=by
 unfold late
 rw [take_snoc' h,List.foldl_append]
 rfl
theorem lvl_snoc (l:List Pn) (ids:List Id) (k:Nat) {id:Id} (h:ids[k]? =some id):lvl l (ids.take (k+1))=max (lvl l (ids.take k)) (levOf l id+1):=by
 unfold lvl
 rw [take_snoc' h,List.foldl_append]
 rfl
theorem late_le (l:List Pn) (m:Int) (hm:0≤m) (h:∀n∈l,n.o.at_≤m) (ids:List Id):late l ids≤m:=by
 have hat:∀id,atOf l id≤m:=by
  intro id
  unfold atOf
  split
  ·
   rename_i i hi
   obtain ⟨n,hn,_⟩:=plc_some hi
   rw [hn]
   exact h n (List.mem_of_getElem? hn)
  · exact hm
 unfold late
 suffices H:∀(t:Int),t≤m→ids.foldl (fun t id=>max t (atOf l id)) t≤m from H 0 hm
 intro t
 induction ids generalizing t with
 |nil=>intro h;exact h
 |cons id r ih=>intro h;exact ih _ (by have:=hat id;dsimp only;omega)
theorem lvl_le (l:List Pn) (m:Nat) (h:∀n∈l,n.lev≤m) (ids:List Id):lvl l ids≤m+1:=by
 have hat:∀id,levOf l id≤m:=by
  intro id
  unfold levOf
  split
  ·
   rename_i i hi
   obtain ⟨n,hn,_⟩:=plc_some hi
   rw [hn]
   exact h n (List.mem_of_getElem? hn)
  · omega
 unfold lvl
 suffices H:∀(t:Nat),t≤m+1→ids.foldl (fun t id=>max t (levOf l id+1)) t≤m+1 from H 1 (by omega)
 intro t
 induction ids generalizing t with
 |nil=>intro h;exact h
 |cons id r ih=>intro h;exact ih _ (by have:=hat id;dsimp only;omega)
theorem ws_far (ws:List Nat) (h:ws.length=4) (k:Nat) (hk:256≤k):((ws.getD (k/64) 0).testBit (k%64))=false:=by
 rw [List.getD_eq_getElem?_getD,List.getElem?_eq_none (by omega)]
 simp
theorem past_of_set {n:NodeG} {m:Nat→Bool} (h:SetIs n.ws m):n.past=fun q=>decide (q<256)&&m q:=by
 funext q
 unfold NodeG.past
 by_cases hq:q<256
 ·
  rw [← h.bit q hq]
  simp [hq]
 ·
  rw [ws_far n.ws rfl q (by omega)]
  simp [hq]
theorem set_zero {a0 a1 a2 a3:Nat} {m:Nat→Bool} (h:SetIs [a0,a1,a2,a3] m):(a0==0&&a1==0&&a2==0&&a3==0)=!(List.range 256).any m:=by
 rw [Bool.eq_iff_iff]
 simp only [Bool.and_eq_true,beq_iff_eq,Bool.not_eq_true',List.any_eq_false,List.mem_range]
 constructor
 ·
  rintro ⟨⟨⟨rfl,rfl⟩,rfl⟩,rfl⟩ q hq
  rw [h.bit q hq]
  have hq4:q/64=0∨q/64=1∨q/64=2∨q/64=3:=by omega
  rcases hq4 with e|e|e|e<;>rw [e]<;>simp
 ·
  intro hz
  have key:∀k,k<4→[a0,a1,a2,a3].getD k 0=0:=by
   intro k hk
   refine Nat.eq_of_testBit_eq (fun j=> ?_)
   rw [Nat.zero_testBit]
   by_cases hj:j<64
   ·
    have h1:=h.bit (64*k+j) (by omega)
    have h2:=hz (64*k+j) (by omega)
    rw [show (64*k+j)/64=k by omega,show (64*k+j)%64=j by omega] at h1
    rw [← h1]
    simpa using h2
   ·
    have hu:=h.u64 k
    exact Nat.testBit_lt_two_pow (Nat.lt_of_lt_of_le hu (by
     have:(2:Nat)^64≤2^j:=Nat.pow_le_pow_right (by decide) (by omega)
     exact Nat.le_trans (by decide) this))
  exact ⟨⟨⟨key 0 (by omega),key 1 (by omega)⟩,key 2 (by omega)⟩,key 3 (by omega)⟩
inductive Rows (cards:List Cd):List Pn→Prop
 |nil:Rows cards []
 |snoc (l:List Pn) (o:Op):Rows cards l→addErr cards l o=0→Rows cards (l++[addPn l o])
structure Taken (cards:List Cd) (l:List Pn) (o:Op):Prop where
 chk:o.chk=0
 new:plc l o.name=none
 room:l.length<200
 card:(cardOf? cards o.by_).isSome=true
 past:∀id∈o.past,∃i,plc l id=some i
 clash:clash l o.past=false
 late:late l o.past≤o.at_
 seq:seqBad l (psOf l o.past) o=false
theorem taken_of {cards:List Cd} {l:List Pn} {o:Op} (h:addErr cards l o=0):Taken cards l o:=by
 unfold addErr at h
 by_cases h1:o.chk≠0
 · rw [if_pos h1] at h;exact absurd h h1
 rw [if_neg h1] at h
 by_cases h2:(plc l o.name).isSome=true
 · rw [if_pos h2] at h;omega
 rw [if_neg h2] at h
 by_cases h3:200≤l.length
 · rw [if_pos h3] at h;omega
 rw [if_neg h3] at h
 cases hc:cardOf? cards o.by_ with
 |none=>rw [hc] at h;dsimp only at h;omega
 |some c=>
  rw [hc] at h
  dsimp only at h
  by_cases h4:Sg.check c.s o.bare o.r o.s=false
  · rw [if_pos h4] at h;omega
  rw [if_neg h4] at h
  by_cases h5:o.kind=1∧l≠[]
  · rw [if_pos h5] at h;omega
  rw [if_neg h5] at h
  by_cases h6:o.past.any (fun id=>(plc l id).isNone)=true
  · rw [if_pos h6] at h;omega
  rw [if_neg h6] at h
  by_cases h7:Oq.clash l o.past=true∨o.at_<Oq.late l o.past
  · rw [if_pos h7] at h;omega
  rw [if_neg h7] at h
  by_cases h8:seqBad l (psOf l o.past) o=true
  · rw [if_pos h8] at h;omega
  refine ⟨Decidable.not_not.1 h1,?_,by omega,by rw [hc];rfl,?_,?_,?_,Bool.not_eq_true _▸h8⟩
  ·
   cases hp:plc l o.name with
   |none=>rfl
   |some i=>rw [hp] at h2;exact absurd rfl h2
  ·
   intro id hid
   cases hp:plc l id with
   |some i=>exact ⟨i,rfl⟩
   |none=>exact absurd (List.any_eq_true.2 ⟨id,hid,by rw [hp];rfl⟩) h6
  ·
   cases hcl:Oq.clash l o.past with
   |false=>rfl
   |true=>exact absurd (Or.inl hcl) h7
  · exact Int.not_lt.1 (fun hh=>h7 (Or.inr hh))
theorem plc_keep {l:List Pn} {id:Id} {i:Nat} (n:Pn) (h:plc l id=some i):plc (l++[n]) id=some i:=by
 unfold plc at h ⊢
 rw [List.findIdx?_append,h]
 rfl
theorem plc_end {l:List Pn} {n:Pn} (h:plc l n.id=none):plc (l++[n]) n.id=some l.length:=by
 unfold plc at h ⊢
 rw [List.findIdx?_append,h]
 simp
theorem at_app {l:List Pn} {p:Nat} {m n:Pn} (h:l[p]? =some m):(l++[n])[p]? =some m:=by
 obtain ⟨hp,hm⟩:=List.getElem?_eq_some_iff.1 h
 rw [List.getElem?_append_left hp]
 exact h
structure NOk (cards:List Cd) (l:List Pn) (i:Nat) (n:Pn):Prop where
 id:n.id=n.o.name
 plc:plc l n.id=some i
 chk:n.o.chk=0
 card:(cardOf? cards n.o.by_).isSome=true
 par:∀id∈n.o.past,∃p,p<i∧Oq.plc l id=some p
 lt:∀q,n.ps q=true→q<i
 ps:∀q,n.ps q=true↔∃id∈n.o.past,∃p m,Oq.plc l id=some p∧l[p]? =some m∧(q=p∨m.ps q=true)
 anti:∀id∈n.o.past,∀id'∈n.o.past,∀p p' m,Oq.plc l id=some p→Oq.plc l id'=some p'→l[p]? =some m→m.ps p'=false
 late:∀id∈n.o.past,∀p m,Oq.plc l id=some p→l[p]? =some m→m.o.at_≤n.o.at_
 lev:n.lev=lvl l n.o.past
 seqs:∀q m,n.ps q=true→l[q]? =some m→m.o.by_=n.o.by_→m.o.sq<n.o.sq
 one:n.o.sq=1∨∃q m,n.ps q=true∧l[q]? =some m∧m.o.by_=n.o.by_∧m.o.sq=n.o.sq-1
theorem lvl_congr {l l':List Pn} {ids:List Id} (h:∀id∈ids,levOf l' id=levOf l id):lvl l' ids=lvl l ids:=by
 unfold lvl
 suffices H:∀t:Nat,ids.foldl (fun t id=>max t (levOf l' id+1)) t=ids.foldl (fun t id=>max t (levOf l id+1)) t from H 1
 induction ids with
 |nil=>intro t;rfl
 |cons x r ih=>intro t;rw [List.foldl_cons,List.foldl_cons,h x List.mem_cons_self];exact ih (fun y hy=>h y (List.mem_cons_of_mem _ hy)) _
theorem NOk.keep {cards:List Cd} {l:List Pn} {i:Nat} {n n':Pn} (h:NOk cards l i n) (hi:l[i]? =some n):NOk cards (l++[n']) i n:=by
 have hil:i<l.length:=(List.getElem?_eq_some_iff.1 hi).1
 have hpar:∀id∈n.o.past,∀p,Oq.plc (l++[n']) id=some p→Oq.plc l id=some p:=by
  intro id hid p hp
  obtain ⟨q,_,hq⟩:=h.par id hid
  rw [plc_keep n' hq] at hp
  injection hp with hp
  subst hp
  exact hq
 have hat:∀id∈n.o.past,∀p m,Oq.plc l id=some p→(l++[n'])[p]? =some m→l[p]? =some m:=by
  intro id hid p m hp hm
  rw [List.getElem?_append_left (plc_lt hp)] at hm
  exact hm
 have hlow:∀q m,n.ps q=true→(l++[n'])[q]? =some m→l[q]? =some m:=by
  intro q m hq hm
  rw [List.getElem?_append_left (Nat.lt_trans (h.lt q hq) hil)] at hm
  exact hm
 refine ⟨h.id,plc_keep n' h.plc,h.chk,h.card,fun id hid=> ?_,h.lt,fun q=>(h.ps q).trans ⟨?_,?_⟩,?_,?_,?_,?_,?_⟩
 ·
  obtain ⟨p,hp,hq⟩:=h.par id hid
  exact ⟨p,hp,plc_keep n' hq⟩
 ·
  rintro ⟨id,hid,p,m,h1,h2,h3⟩
  exact ⟨id,hid,p,m,plc_keep n' h1,at_app h2,h3⟩
 ·
  rintro ⟨id,hid,p,m,h1,h2,h3⟩
  have h1':=hpar id hid p h1
  exact ⟨id,hid,p,m,h1',hat id hid p m h1' h2,h3⟩
 ·
  intro id hid id' hid' p p' m h1 h2 h3
  have h1':=hpar id hid p h1
  exact h.anti id hid id' hid' p p' m h1' (hpar id' hid' p' h2) (hat id hid p m h1' h3)
 ·
  intro id hid p m h1 h2
  have h1':=hpar id hid p h1
  exact h.late id hid p m h1' (hat id hid p m h1' h2)
 ·
  rw [h.lev]
  refine (lvl_congr (fun id hid=> ?_)).symm
  obtain ⟨p,_,hq⟩:=h.par id hid
  unfold levOf
  rw [plc_keep n' hq,hq]
  dsimp only
  rw [List.getElem?_append_left (plc_lt hq)]
 ·
  intro q m hq hm
  exact h.seqs q m hq (hlow q m hq hm)
 ·
  rcases h.one with h1|⟨q,m,h1,h2,h3⟩
  · exact .inl h1
  · exact .inr ⟨q,m,h1,at_app h2,h3⟩
theorem upB_iff {l:List Pn} {id:Id} {q:Nat}:upB l id q=true↔∃p m,plc l id=some p∧l[p]? =some m∧m.ps q=true:=by
 unfold upB
 constructor
 ·
  intro h
  split at h
  ·
   rename_i p hp
   obtain ⟨m,hm,_⟩:=plc_some hp
   rw [hm] at h
   exact ⟨p,m,hp,hm,h⟩
  · cases h
 ·
  rintro ⟨p,m,h1,h2,h3⟩
  rw [h1]
  dsimp only
  rw [h2]
  exact h3
theorem psOf_iff {l:List Pn} {ids:List Id} (hlen:l.length≤200) (hlt:∀(p:Nat) (m:Pn),l[p]? =some m→∀q,m.ps q=true→q<p) (q:Nat):
  psOf l ids q=true↔∃id∈ids,∃p m,plc l id=some p∧l[p]? =some m∧(q=p∨m.ps q=true):=by
 unfold psOf abvB parB
 rw [Bool.and_eq_true,Bool.or_eq_true,List.any_eq_true,List.any_eq_true,decide_eq_true_eq]
 constructor
 ·
  rintro ⟨_,⟨id,hid,h⟩|⟨id,hid,h⟩⟩
  ·
   obtain ⟨p,m,h1,h2,h3⟩:=upB_iff.1 h
   exact ⟨id,hid,p,m,h1,h2,.inr h3⟩
  ·
   have h1:plc l id=some q:=by simpa using h
   obtain ⟨m,hm,_⟩:=plc_some h1
   exact ⟨id,hid,q,m,h1,hm,.inl rfl⟩
 ·
  rintro ⟨id,hid,p,m,h1,h2,h3⟩
  have hp:=plc_lt h1
  rcases h3 with rfl|h3
  · exact ⟨by omega,.inr ⟨id,hid,by rw [h1];exact beq_self_eq_true _⟩⟩
  ·
   have:=hlt p m h2 q h3
   exact ⟨by omega,.inl ⟨id,hid,upB_iff.2 ⟨p,m,h1,h2,h3⟩⟩⟩
theorem le_late {l:List Pn} {ids:List Id} {id:Id} (h:id∈ids):atOf l id≤late l ids:=by
 unfold late
 have mono:∀(r:List Id) (t:Int),t≤r.foldl (fun t id=>max t (atOf l id)) t:=by
  intro r
  induction r with
  |nil=>intro t;exact Int.le_refl _
  |cons y r ih=>intro t;exact Int.le_trans (Int.le_max_left _ _) (ih _)
 suffices H:∀t:Int,atOf l id≤ids.foldl (fun t id=>max t (atOf l id)) t from H 0
 induction ids with
 |nil=>cases h
 |cons x r ih=>
  intro t
  rcases List.mem_cons.1 h with rfl|h'
  · exact Int.le_trans (Int.le_max_right t _) (mono r _)
  · exact ih h' _
theorem le_lvl {l:List Pn} {ids:List Id} {id:Id} (h:id∈ids):levOf l id+1≤lvl l ids:=by
 unfold lvl
 have mono:∀(r:List Id) (t:Nat),t≤r.foldl (fun t id=>max t (levOf l id+1)) t:=by
  intro r
  induction r with
  |nil=>intro t;exact Nat.le_refl _
  |cons y r ih=>intro t;exact Nat.le_trans (Nat.le_max_left _ _) (ih _)
 suffices H:∀t:Nat,levOf l id+1≤ids.foldl (fun t id=>max t (levOf l id+1)) t from H 1
 induction ids with
 |nil=>cases h
 |cons x r ih=>
  intro t
  rcases List.mem_cons.1 h with rfl|h'
  · exact Nat.le_trans (Nat.le_max_right t _) (mono r _)
  · exact ih h' _
theorem atOf_at {l:List Pn} {id:Id} {p:Nat} {m:Pn} (h1:plc l id=some p) (h2:l[p]? =some m):atOf l id=m.o.at_:=by
 unfold atOf
 rw [h1]
 dsimp only
 rw [h2]
 rfl
theorem levOf_at {l:List Pn} {id:Id} {p:Nat} {m:Pn} (h1:plc l id=some p) (h2:l[p]? =some m):levOf l id=m.lev:=by
 unfold levOf
 rw [h1]
 dsimp only
 rw [h2]
 rfl
theorem le_lastTo {l:List Pn} {p:Nat→Bool} {d:Int}:∀{K k:Nat} {m:Pn},k<K→l[k]? =some m→m.o.by_=d→p k=true→m.o.sq≤lastTo l p d K:=by
 intro K
 induction K with
 |zero=>intro k m h;omega
 |succ K ih=>
  intro k m h hm hd hp
  unfold lastTo
  rcases Nat.lt_or_ge k K with hk|hk
  ·
   have:=ih hk hm hd hp
   split
   ·
    split
    · exact Int.le_trans this (Int.le_max_left _ _)
    · exact this
   · exact this
  ·
   have e:k=K:=by omega
   subst e
   rw [hm]
   dsimp only
   rw [if_pos (by rw [Bool.and_eq_true];exact ⟨beq_iff_eq.2 hd,hp⟩)]
   exact Int.le_max_right _ _
theorem aheadTo_iff {l:List Pn} {p:Nat→Bool} {d s:Int}:∀{K:Nat},aheadTo l p d s K=true↔∃k m,k<K∧l[k]? =some m∧m.o.by_=d∧p k=true∧m.o.sq=s-1:=by
 intro K
 induction K with
 |zero=>exact ⟨fun h=>(by cases h),fun ⟨k,m,h,_⟩=>by omega⟩
 |succ K ih=>
  unfold aheadTo
  cases hK:l[K]? with
  |none=>
   dsimp only
   rw [ih]
   constructor
   ·
    rintro ⟨k,m,h,h'⟩
    exact ⟨k,m,by omega,h'⟩
   ·
    rintro ⟨k,m,h,h1,h'⟩
    have:k≠K:=fun e=>by subst e;rw [hK] at h1;cases h1
    exact ⟨k,m,by omega,h1,h'⟩
  |some n=>
   dsimp only
   rw [Bool.or_eq_true,ih,Bool.and_eq_true,Bool.and_eq_true,beq_iff_eq,beq_iff_eq]
   constructor
   ·
    rintro (⟨k,m,h,h'⟩|⟨⟨h1,h2⟩,h3⟩)
    · exact ⟨k,m,by omega,h'⟩
    · exact ⟨K,n,by omega,hK,h1,h2,h3⟩
   ·
    rintro ⟨k,m,h,h1,h2,h3,h4⟩
    rcases Nat.lt_or_ge k K with hk|hk
    · exact .inl ⟨k,m,hk,h1,h2,h3,h4⟩
    ·
     have e:k=K:=by omega
     subst e
     rw [hK] at h1
     injection h1 with h1
     subst h1
     exact .inr ⟨⟨h2,h3⟩,h4⟩
theorem nok_new {cards:List Cd} {l:List Pn} {o:Op} (hl:∀i n,l[i]? =some n→NOk cards l i n) (T:Taken cards l o):NOk cards (l++[addPn l o]) l.length (addPn l o):=by
 have hlt:∀(p:Nat) (m:Pn),l[p]? =some m→∀q,m.ps q=true→q<p:=fun p m hm=>(hl p m hm).lt
 have hps:=psOf_iff (ids:=o.past) (Nat.le_of_lt T.room) hlt
 have hpar:∀id∈o.past,∀p,plc (l++[addPn l o]) id=some p→plc l id=some p:=by
  intro id hid p hp
  obtain ⟨q,hq⟩:=T.past id hid
  rw [plc_keep _ hq] at hp
  injection hp with hp
  subst hp
  exact hq
 have hat:∀id∈o.past,∀p m,plc l id=some p→(l++[addPn l o])[p]? =some m→l[p]? =some m:=by
  intro id hid p m hp hm
  rw [List.getElem?_append_left (plc_lt hp)] at hm
  exact hm
 have hlow:∀q,psOf l o.past q=true→q<l.length:=by
  intro q hq
  obtain ⟨id,hid,p,m,h1,h2,h3⟩:=(hps q).1 hq
  have:=plc_lt h1
  rcases h3 with rfl|h3
  · exact this
  ·
   have:=hlt p m h2 q h3
   omega
 have hseq:=T.seq
 unfold seqBad at hseq
 rw [Bool.or_eq_false_iff,decide_eq_false_iff_not] at hseq
 refine ⟨rfl,plc_end (n:=addPn l o) T.new,T.chk,T.card,?_,hlow,fun q=>(hps q).trans ⟨?_,?_⟩,?_,?_,?_,?_,?_⟩
 ·
  intro id hid
  obtain ⟨p,hp⟩:=T.past id hid
  exact ⟨p,plc_lt hp,plc_keep _ hp⟩
 ·
  rintro ⟨id,hid,p,m,h1,h2,h3⟩
  exact ⟨id,hid,p,m,plc_keep _ h1,at_app h2,h3⟩
 ·
  rintro ⟨id,hid,p,m,h1,h2,h3⟩
  have h1':=hpar id hid p h1
  exact ⟨id,hid,p,m,h1',hat id hid p m h1' h2,h3⟩
 ·
  intro id hid id' hid' p p' m h1 h2 h3
  have h1':=hpar id hid p h1
  have h2':=hpar id' hid' p' h2
  have h3':=hat id hid p m h1' h3
  have hlen:=T.room
  have hp':=plc_lt h2'
  have hc:=T.clash
  unfold Oq.clash at hc
  rw [List.any_eq_false] at hc
  have hq:=hc p' (List.mem_range.2 (by omega))
  cases hm:m.ps p' with
  |false=>rfl
  |true=>
   refine absurd ?_ hq
   rw [Bool.and_eq_true]
   exact ⟨List.any_eq_true.2 ⟨id',hid',by rw [h2'];exact beq_self_eq_true _⟩,List.any_eq_true.2 ⟨id,hid,upB_iff.2 ⟨p,m,h1',h3',hm⟩⟩⟩
 ·
  intro id hid p m h1 h2
  have h1':=hpar id hid p h1
  have h2':=hat id hid p m h1' h2
  have:=le_late (l:=l) hid
  rw [atOf_at h1' h2'] at this
  exact Int.le_trans this T.late
 ·
  refine (lvl_congr (l:=l) (l':=l++[addPn l o]) (fun id hid=> ?_)).symm
  obtain ⟨p,hq⟩:=T.past id hid
  unfold levOf
  rw [plc_keep _ hq,hq]
  dsimp only
  rw [List.getElem?_append_left (plc_lt hq)]
 ·
  intro q m hq hm hb
  have hql:=hlow q hq
  rw [List.getElem?_append_left hql] at hm
  have:=le_lastTo (p:=psOf l o.past) hql hm hb hq
  exact Int.lt_of_le_of_lt this (Int.not_le.1 hseq.1)
 ·
  rcases Int.lt_or_le 1 o.sq with h1|h1
  ·
   have h2:=hseq.2
   rw [Bool.and_eq_false_iff] at h2
   rcases h2 with h2|h2
   ·
    rw [decide_eq_false_iff_not] at h2
    exact absurd h1 h2
   ·
    have h3:aheadTo l (psOf l o.past) o.by_ o.sq l.length=true:=by
     cases ha:aheadTo l (psOf l o.past) o.by_ o.sq l.length with
     |true=>rfl
     |false=>rw [ha] at h2;cases h2
    obtain ⟨k,m,hk,hm,hb,hp,hs⟩:=aheadTo_iff.1 h3
    exact .inr ⟨k,m,hp,at_app hm,hb,hs⟩
  ·
   refine .inl ?_
   have h0:∀K,0≤lastTo l (psOf l o.past) o.by_ K:=by
    intro K
    induction K with
    |zero=>exact Int.le_refl _
    |succ K ih=>
     unfold lastTo
     split
     ·
      split
      · exact Int.le_trans ih (Int.le_max_left _ _)
      · exact ih
     · exact ih
   have h2:=h0 l.length
   have h3:=Int.not_le.1 hseq.1
   have h4:(addPn l o).o.sq=o.sq:=rfl
   rw [h4]
   omega
theorem Rows.ok {cards:List Cd} {l:List Pn} (h:Rows cards l):∀i n,l[i]? =some n→NOk cards l i n:=by
 induction h with
 |nil=>intro i n h;simp at h
 |snoc l o hl ho ih=>
  intro i n hi
  rcases Nat.lt_or_ge i l.length with hlt|hge
  ·
   rw [List.getElem?_append_left hlt] at hi
   exact (ih i n hi).keep hi
  ·
   rw [List.getElem?_append_right hge] at hi
   have e:i-l.length=0:=by
    rcases Nat.eq_zero_or_pos (i-l.length) with h0|h0
    · exact h0
    · rw [List.getElem?_eq_none (by simp;omega)] at hi;cases hi
   rw [e] at hi
   injection hi with hi
   subst hi
   have:i=l.length:=by omega
   subst this
   exact nok_new ih (taken_of ho)
theorem Rows.few {cards:List Cd} {l:List Pn} (h:Rows cards l):l.length≤200:=by
 induction h with
 |nil=>simp
 |snoc l o hl ho ih=>
  have:=(taken_of ho).room
  simp
  omega
theorem Rows.trans {cards:List Cd} {l:List Pn} (h:Rows cards l):∀(i:Nat) {n m:Pn} {q r:Nat},l[i]? =some n→n.ps q=true→l[q]? =some m→m.ps r=true→n.ps r=true:=by
 intro i
 induction i using Nat.strongRecOn with
 |_ i ih=>
  intro n m q r hn hq hm hr
  have k:=h.ok i n hn
  obtain ⟨id,hid,p,m',h1,h2,h3⟩:=(k.ps q).1 hq
  refine (k.ps r).2 ⟨id,hid,p,m',h1,h2,.inr ?_⟩
  rcases h3 with rfl|h3
  ·
   rw [h2] at hm
   injection hm with hm
   subst hm
   exact hr
  ·
   obtain ⟨p2,hp2,e⟩:=k.par id hid
   rw [h1] at e
   injection e with e
   subst e
   exact ih p hp2 h2 h3 hm hr
theorem Rows.at_le {cards:List Cd} {l:List Pn} (h:Rows cards l):∀(i:Nat) {n m:Pn} {q:Nat},l[i]? =some n→n.ps q=true→l[q]? =some m→m.o.at_≤n.o.at_:=by
 intro i
 induction i using Nat.strongRecOn with
 |_ i ih=>
  intro n m q hn hq hm
  have k:=h.ok i n hn
  obtain ⟨id,hid,p,m',h1,h2,h3⟩:=(k.ps q).1 hq
  have hl:=k.late id hid p m' h1 h2
  rcases h3 with rfl|h3
  ·
   rw [h2] at hm
   injection hm with hm
   subst hm
   exact hl
  ·
   obtain ⟨p2,hp2,e⟩:=k.par id hid
   rw [h1] at e
   injection e with e
   subst e
   exact Int.le_trans (ih p hp2 h2 h3 hm) hl
theorem Rows.lev_lt {cards:List Cd} {l:List Pn} (h:Rows cards l):∀(i:Nat) {n m:Pn} {q:Nat},l[i]? =some n→n.ps q=true→l[q]? =some m→m.lev<n.lev:=by
 intro i
 induction i using Nat.strongRecOn with
 |_ i ih=>
  intro n m q hn hq hm
  have k:=h.ok i n hn
  obtain ⟨id,hid,p,m',h1,h2,h3⟩:=(k.ps q).1 hq
  have hl:=le_lvl (l:=l) hid
  rw [levOf_at h1 h2,← k.lev] at hl
  rcases h3 with rfl|h3
  ·
   rw [h2] at hm
   injection hm with hm
   subst hm
   omega
  ·
   obtain ⟨p2,hp2,e⟩:=k.par id hid
   rw [h1] at e
   injection e with e
   subst e
   have:=ih p hp2 h2 h3 hm
   omega
def upOf (l:List Pn) (ids:List Id):List Nat:=ids.map (fun id=>(plc l id).getD 0)
def upRows (l:List Pn):List (List Nat):=l.map (fun n=>upOf l n.o.past)
def boolsTo (n:Nat) (p:Nat→Bool):List Bool:=(List.range n).map p
def inRows (l:List Pn):List (List Bool):=l.map (fun n=>boolsTo l.length n.ps)
theorem boolsTo_len (n:Nat) (p:Nat→Bool):(boolsTo n p).length=n:=by simp [boolsTo]
theorem boolsTo_at {n:Nat} {p:Nat→Bool} {k:Nat} (h:k<n):(boolsTo n p)[k]? =some (p k):=by simp [boolsTo,h]
theorem boolsTo_succ (n:Nat) (p:Nat→Bool):boolsTo (n+1) p=boolsTo n p++[p n]:=by simp [boolsTo,List.range_succ]
theorem inRows_len (l:List Pn):(inRows l).length=l.length:=by simp [inRows]
theorem upRows_at {l:List Pn} {i:Nat} {n:Pn} (h:l[i]? =some n):(upRows l)[i]? =some (upOf l n.o.past):=by simp [upRows,h]
theorem inRows_at {l:List Pn} {i:Nat} {n:Pn} (h:l[i]? =some n):(inRows l)[i]? =some (boolsTo l.length n.ps):=by simp [inRows,h]
theorem upOf_len (l:List Pn) (ids:List Id):(upOf l ids).length=ids.length:=by simp [upOf]
theorem upOf_lt {l:List Pn} {ids:List Id} (h:∀id∈ids,∃p,plc l id=some p):∀q∈upOf l ids,q<l.length:=by
 intro q hq
 obtain ⟨id,hid,rfl⟩:=List.mem_map.1 hq
 obtain ⟨p,hp⟩:=h id hid
 rw [hp]
 exact plc_lt hp
theorem mem_upOf {l:List Pn} {ids:List Id} (h:∀id∈ids,∃p,plc l id=some p) (q:Nat):q∈upOf l ids↔∃id∈ids,plc l id=some q:=by
 unfold upOf
 rw [List.mem_map]
 constructor
 ·
  rintro ⟨id,hid,rfl⟩
  obtain ⟨p,hp⟩:=h id hid
  exact ⟨id,hid,by rw [hp];rfl⟩
 ·
  rintro ⟨id,hid,hq⟩
  exact ⟨id,hid,by rw [hq];rfl⟩
theorem NOk.placed {cards:List Cd} {l:List Pn} {i:Nat} {n:Pn} (h:NOk cards l i n):∀id∈n.o.past,∃p,Oq.plc l id=some p:=fun id hid=>by
 obtain ⟨p,_,hp⟩:=h.par id hid
 exact ⟨p,hp⟩
theorem upRows_app {cards:List Cd} {l:List Pn} {o:Op} (h:Rows cards l) (T:Taken cards l o):upRows (l++[addPn l o])=upRows l++[upOf l o.past]:=by
 have key:∀ids:List Id,(∀id∈ids,∃p,plc l id=some p)→upOf (l++[addPn l o]) ids=upOf l ids:=by
  intro ids hids
  unfold upOf
  refine List.map_congr_left (fun id hid=> ?_)
  obtain ⟨p,hp⟩:=hids id hid
  rw [plc_keep _ hp,hp]
 unfold upRows
 rw [List.map_append,List.map_cons,List.map_nil]
 have h1:upOf (l++[addPn l o]) (addPn l o).o.past=upOf l o.past:=key _ T.past
 rw [h1]
 congr 1
 refine List.map_congr_left (fun n hn=> ?_)
 obtain ⟨i,hi⟩:=List.getElem?_of_mem hn
 exact key _ (h.ok i n hi).placed
theorem inRows_app {cards:List Cd} {l:List Pn} {o:Op} (h:Rows cards l) (T:Taken cards l o):inRows (l++[addPn l o])=(inRows l).map (· ++[false])++[boolsTo l.length (psOf l o.past)++[false]]:=by
 have hn:=(nok_new h.ok T).lt
 unfold inRows
 rw [List.map_append,List.map_cons,List.map_nil,List.map_map,List.length_append,List.length_singleton]
 congr 1
 ·
  refine List.map_congr_left (fun n hm=> ?_)
  obtain ⟨i,hi⟩:=List.getElem?_of_mem hm
  have hil:i<l.length:=(List.getElem?_eq_some_iff.1 hi).1
  show boolsTo (l.length+1) n.ps=boolsTo l.length n.ps++[false]
  rw [boolsTo_succ]
  have:n.ps l.length=false:=by
   cases hp:n.ps l.length with
   |false=>rfl
   |true=>have:=(h.ok i n hi).lt _ hp;omega
  rw [this]
 ·
  have:(addPn l o).ps l.length=false:=by
   cases hp:(addPn l o).ps l.length with
   |false=>rfl
   |true=>have:=hn _ hp;omega
  rw [boolsTo_succ,this]
  rfl
def pmark (up:List Nat) (i:Nat) (s:Nat→Bool):Nat→Bool:=fun q=>s q||(decide (q=i)&&up.contains i)
def pstep (us:Nat→List Nat) (up:List Nat) (i:Nat) (s:Nat→Bool):Nat→Bool:=
 fun q=>pmark up i s q||(pmark up i s i&&(us i).contains q)
def pdown (us:Nat→List Nat) (up:List Nat):Nat→(Nat→Bool)→(Nat→Bool)
 |0,s=>s
 |i+1,s=>pdown us up i (pstep us up i s)
theorem pdown_inv (us:Nat→List Nat) (up:List Nat) (P:Nat→Bool) (h1:∀q∈up,P q=true) (h2:∀j,P j=true→∀q∈us j,P q=true) (h3:∀j,∀q∈us j,q<j):
  ∀(i:Nat) (s:Nat→Bool),(∀q,s q=true→P q=true)→(∀q∈up,i≤q→s q=true)→(∀j,i≤j→s j=true→∀q∈us j,s q=true)→
  (∀q,pdown us up i s q=true→P q=true)∧(∀q∈up,pdown us up i s q=true)∧(∀j,pdown us up i s j=true→∀q∈us j,pdown us up i s q=true):=by
 intro i
 induction i with
 |zero=>intro s a b c;exact ⟨a,fun q hq=>b q hq (Nat.zero_le _),fun j=>c j (Nat.zero_le _)⟩
 |succ i ih=>
  intro s a b c
  have hm:∀q,pmark up i s q=true↔s q=true∨(q=i∧i∈up):=by
   intro q
   unfold pmark
   rw [Bool.or_eq_true,Bool.and_eq_true,decide_eq_true_eq,List.contains_iff_mem]
  have hs:∀q,pstep us up i s q=true↔pmark up i s q=true∨(pmark up i s i=true∧q∈us i):=by
   intro q
   unfold pstep
   rw [Bool.or_eq_true,Bool.and_eq_true,List.contains_iff_mem]
  have hmP:∀q,pmark up i s q=true→P q=true:=by
   intro q hq
   rcases (hm q).1 hq with h|⟨rfl,h⟩
   · exact a q h
   · exact h1 q h
  refine ih (pstep us up i s) ?_ ?_ ?_
  ·
   intro q hq
   rcases (hs q).1 hq with h|⟨h,h'⟩
   · exact hmP q h
   · exact h2 i (hmP i h) q h'
  ·
   intro q hq hiq
   refine (hs q).2 (.inl ((hm q).2 ?_))
   rcases Nat.lt_or_ge i q with h|h
   · exact .inl (b q hq h)
   ·
    have e:q=i:=by omega
    subst e
    exact .inr ⟨rfl,hq⟩
  ·
   intro j hij hj q hq
   rcases Nat.lt_or_ge i j with h|h
   ·
    have hsj:s j=true:=by
     rcases (hs j).1 hj with h'|⟨_,h'⟩
     ·
      rcases (hm j).1 h' with h''|⟨e,_⟩
      · exact h''
      · omega
     ·
      have:=h3 i j h'
      omega
    exact (hs q).2 (.inl ((hm q).2 (.inl (c j h hsj q hq))))
   ·
    have e:j=i:=by omega
    subst e
    refine (hs q).2 (.inr ⟨?_,hq⟩)
    rcases (hs j).1 hj with h'|⟨h',_⟩
    · exact h'
    · exact h'
def usOf (l:List Pn) (i:Nat):List Nat:=match l[i]? with|some n=>upOf l n.o.past|none=>[]
theorem usOf_at {l:List Pn} {i:Nat} {n:Pn} (h:l[i]? =some n):usOf l i=upOf l n.o.past:=by
 unfold usOf
 rw [h]
theorem pdown_eq {cards:List Cd} {l:List Pn} (h:Rows cards l) {ids:List Id} (hids:∀id∈ids,∃p,plc l id=some p) (q:Nat):
  pdown (usOf l) (upOf l ids) l.length (fun _=>false) q=psOf l ids q:=by
 have hlt:∀(p:Nat) (m:Pn),l[p]? =some m→∀q,m.ps q=true→q<p:=fun p m hm=>(h.ok p m hm).lt
 have hps:=psOf_iff (ids:=ids) h.few hlt
 have hus:∀j q,q∈usOf l j→∃n,l[j]? =some n∧∃id∈n.o.past,plc l id=some q:=by
  intro j q hq
  cases hj:l[j]? with
  |none=>unfold usOf at hq;rw [hj] at hq;cases hq
  |some n=>
   rw [usOf_at hj,mem_upOf (h.ok j n hj).placed] at hq
   exact ⟨n,rfl,hq⟩
 have hps1:∀j n,l[j]? =some n→∀q∈usOf l j,n.ps q=true:=by
  intro j n hj q hq
  obtain ⟨n',hn',id,hid,hp⟩:=hus j q hq
  rw [hj] at hn'
  injection hn' with e
  subst e
  obtain ⟨m,hm,_⟩:=plc_some hp
  exact ((h.ok j n hj).ps q).2 ⟨id,hid,q,m,hp,hm,.inl rfl⟩
 obtain ⟨a,b,c⟩:=pdown_inv (usOf l) (upOf l ids) (psOf l ids) (by
   intro q hq
   obtain ⟨id,hid,hp⟩:=(mem_upOf hids q).1 hq
   obtain ⟨m,hm,_⟩:=plc_some hp
   exact (hps q).2 ⟨id,hid,q,m,hp,hm,.inl rfl⟩) (by
   intro j hj q hq
   obtain ⟨n,hn,_⟩:=hus j q hq
   have hnq:=hps1 j n hn q hq
   obtain ⟨id,hid,p,m,h1,h2,h3⟩:=(hps j).1 hj
   refine (hps q).2 ⟨id,hid,p,m,h1,h2,.inr ?_⟩
   rcases h3 with rfl|h3
   ·
    rw [hn] at h2
    injection h2 with e
    subst e
    exact hnq
   · exact h.trans p h2 h3 hn hnq) (by
   intro j q hq
   obtain ⟨n,hn,id,hid,hp⟩:=hus j q hq
   obtain ⟨p,hpj,hp'⟩:=(h.ok j n hn).par id hid
   rw [hp] at hp'
   injection hp' with e
   omega) l.length (fun _=>false) (fun q hq=>by cases hq) (fun q hq hle=>by have:=upOf_lt hids q hq;omega) (fun j _ hj=>by cases hj)
 rw [Bool.eq_iff_iff]
 refine ⟨a q,fun hq=> ?_⟩
 obtain ⟨id,hid,p,m,h1,h2,h3⟩:=(hps q).1 hq
 have hp:=b p ((mem_upOf hids p).2 ⟨id,hid,h1⟩)
 have down:∀(j:Nat) (n:Pn) (r:Nat),l[j]? =some n→pdown (usOf l) (upOf l ids) l.length (fun _=>false) j=true→n.ps r=true→pdown (usOf l) (upOf l ids) l.length (fun _=>false) r=true:=by
  intro j
  induction j using Nat.strongRecOn with
  |_ j ih=>
   intro n r hn hj hr
   obtain ⟨id',hid',p',m',k1,k2,k3⟩:=((h.ok j n hn).ps r).1 hr
   have hp':p'∈usOf l j:=by rw [usOf_at hn,mem_upOf (h.ok j n hn).placed];exact ⟨id',hid',k1⟩
   have hd:=c j hj p' hp'
   rcases k3 with rfl|k3
   · exact hd
   ·
    obtain ⟨p2,hp2,e⟩:=(h.ok j n hn).par id' hid'
    rw [k1] at e
    injection e with e
    exact ih p' (by omega) m' r k2 hd k3
 rcases h3 with rfl|h3
 · exact hp
 · exact down p m q h2 hp h3
theorem right_bad {l:List Pn} {p:Nat→Bool} {o:Op} {k:Nat} {m:Pn} (hm:l[k]? =some m) (hb:m.o.by_=o.by_) (hp:p k=true) (hs:o.sq≤m.o.sq):seqBad l p o=true:=by
 unfold seqBad
 rw [Bool.or_eq_true]
 have hk:k<l.length:=(List.getElem?_eq_some_iff.1 hm).1
 exact .inl (decide_eq_true (Int.le_trans hs (le_lastTo hk hm hb hp)))
theorem right_ok {l:List Pn} {p:Nat→Bool} {o:Op} (h1:1≤o.sq) (h:∀k m,l[k]? =some m→m.o.by_=o.by_→p k=true→m.o.sq<o.sq):
  seqBad l p o=!((o.sq==1)||aheadTo l p o.by_ o.sq l.length):=by
 have hl:∀K,lastTo l p o.by_ K<o.sq:=by
  intro K
  induction K with
  |zero=>exact h1
  |succ K ih=>
   unfold lastTo
   split
   ·
    rename_i n hn
    split
    ·
     rename_i hc
     rw [Bool.and_eq_true,beq_iff_eq] at hc
     have:=h K n hn hc.1 hc.2
     exact Int.max_lt.2 ⟨ih,this⟩
    · exact ih
   · exact ih
 unfold seqBad
 rw [decide_eq_false (Int.not_le.2 (hl _)),Bool.false_or]
 rcases Int.lt_or_le 1 o.sq with h2|h2
 ·
  rw [decide_eq_true h2,beq_eq_false_iff_ne.2 (fun e=>by omega)]
  rfl
 ·
  rw [decide_eq_false (Int.not_lt.2 h2),beq_iff_eq.2 (by omega)]
  rfl
theorem clash_at {l:List Pn} {ids:List Id} (hlen:l.length≤200) {a b:Id} (ha:a∈ids) (hb:b∈ids) {p r:Nat} {m:Pn} (h1:plc l a=some p) (h2:plc l b=some r) (h3:l[p]? =some m) (h4:m.ps r=true):clash l ids=true:=by
 unfold clash
 rw [List.any_eq_true]
 have:=plc_lt h2
 refine ⟨r,List.mem_range.2 (by omega),?_⟩
 rw [Bool.and_eq_true]
 exact ⟨List.any_eq_true.2 ⟨b,hb,by rw [h2];exact beq_self_eq_true _⟩,List.any_eq_true.2 ⟨a,ha,upB_iff.2 ⟨p,m,h1,h3,h4⟩⟩⟩
theorem clash_not {l:List Pn} {ids:List Id} (h:∀a∈ids,∀b∈ids,∀p r m,plc l a=some p→plc l b=some r→l[p]? =some m→m.ps r=false):clash l ids=false:=by
 unfold clash
 rw [List.any_eq_false]
 intro q _ hq
 rw [Bool.and_eq_true] at hq
 obtain ⟨b,hb,h2⟩:=List.any_eq_true.1 hq.1
 obtain ⟨a,ha,h3⟩:=List.any_eq_true.1 hq.2
 obtain ⟨p,m,h4,h5,h6⟩:=upB_iff.1 h3
 rw [h a ha b hb p q m h4 (by simpa using h2) h5] at h6
 cases h6
theorem late_at {l:List Pn} {ids:List Id} {t:Int} {a:Id} (ha:a∈ids) {p:Nat} {m:Pn} (h1:plc l a=some p) (h2:l[p]? =some m) (h3:t<m.o.at_):t<late l ids:=by
 have:=le_late (l:=l) ha
 rw [atOf_at h1 h2] at this
 omega
theorem late_not {l:List Pn} {ids:List Id} {t:Int} (h0:0≤t) (hp:∀id∈ids,∃p,plc l id=some p) (h:∀a∈ids,∀p m,plc l a=some p→l[p]? =some m→m.o.at_≤t):¬t<late l ids:=by
 unfold late
 suffices H:∀s:Int,s≤t→ids.foldl (fun t id=>max t (atOf l id)) s≤t from Int.not_lt.2 (H 0 h0)
 induction ids with
 |nil=>intro s hs;exact hs
 |cons x r ih=>
  intro s hs
  refine ih (fun id hid=>hp id (List.mem_cons_of_mem _ hid)) (fun a ha=>h a (List.mem_cons_of_mem _ ha)) _ ?_
  obtain ⟨p,hpx⟩:=hp x List.mem_cons_self
  obtain ⟨m,hm,_⟩:=plc_some hpx
  have:=h x List.mem_cons_self p m hpx hm
  exact Int.max_le.2 ⟨hs,by rw [atOf_at hpx hm];exact this⟩
def Qv (q:Nat):Value:=Iv (q:Int)
structure UpL where
 A:Option Addr
 c:Nat
 xs:List Nat
def UpL.cell (x:UpL):Value:=.slice x.A x.xs.length x.c
def UpL.own (w:World) (base:Nat) (x:UpL):Prop:=RowAt w base 3 1 x.A x.xs.length x.c (x.xs.map Qv)
structure InL where
 A:Option Addr
 c:Nat
 bs:List Bool
def InL.cell (x:InL):Value:=.slice x.A x.bs.length x.c
def InL.own (w:World) (base:Nat) (x:InL):Prop:=RowAt w base 4 1 x.A x.bs.length x.c (x.bs.map Value.bool)
structure RG where
 cA:Option Addr
 cC:Nat
 cards:List Cd
 lA:Option Addr
 lC:Nat
 xs:List OpL
 iA:Option Addr
 iC:Nat
 uA:Option Addr
 uC:Nat
 us:List UpL
 nA:Option Addr
 nC:Nat
 ns:List InL
 l:List Pn
def RG.ids (r:RG):List Id:=r.l.map Pn.id
def RG.cells (r:RG):Array Value:=#[.slice r.cA r.cards.length r.cC,.slice r.lA r.l.length r.lC,.slice r.iA r.l.length r.iC,.slice r.uA r.l.length r.uC,.slice r.nA r.l.length r.nC]
structure RG.own (w:World) (base:Nat) (r:RG):Prop where
 cards:RowAt w base 81 5 r.cA r.cards.length r.cC (r.cards.flatMap Cd.cells)
 ops:RowAt w base 44 27 r.lA r.l.length r.lC (r.xs.flatMap (fun x=>x.cells.toList))
 each:∀x∈r.xs,x.own w base
 same:r.xs.map OpL.op=r.l.map Pn.o
 ok:∀n∈r.l,n.o.ok∧n.id.ok
 ids:RowAt w base 38 3 r.iA r.l.length r.iC (r.ids.flatMap Id.cells)
 ups:RowAt w base 22 1 r.uA r.l.length r.uC (r.us.map UpL.cell)
 eachU:∀x∈r.us,x.own w base
 sameU:r.us.map UpL.xs=upRows r.l
 ins:RowAt w base 112 1 r.nA r.l.length r.nC (r.ns.map InL.cell)
 eachN:∀x∈r.ns,x.own w base
 sameN:r.ns.map InL.bs=inRows r.l
 rows:Rows r.cards r.l
 cfew:r.cards.length≤1000
 cok:∀c∈r.cards,c.s<18446744073709551616
theorem RG.own.keepP {S:Nat→Prop} {P:TypeId→Prop} {w w':World} {base:Nat} {r:RG} (h:r.own w base) (hf:Fr S w w') (hS:Types S w P) (h1:¬P 38) (h2:¬P 103) (h3:¬P 144) (h4:¬P 5) (h5:¬P 23) (h6:¬P 3) (h7:¬P 106)
  (h8:¬P 81) (h9:¬P 44) (h10:¬P 22) (h11:¬P 112) (h12:¬P 4):r.own w' base where
 cards:=h.cards.keepT hf (hS.not h8)
 ops:=h.ops.keepT hf (hS.not h9)
 each x hx:=(h.each x hx).keepP hf hS h1 h2 h3 h4 h5 h6 h7
 same:=h.same
 ok:=h.ok
 ids:=h.ids.keepT hf (hS.not h1)
 ups:=h.ups.keepT hf (hS.not h10)
 eachU x hx:=RowAt.keepT (h.eachU x hx) hf (hS.not h6)
 sameU:=h.sameU
 ins:=h.ins.keepT hf (hS.not h11)
 eachN x hx:=RowAt.keepT (h.eachN x hx) hf (hS.not h12)
 sameN:=h.sameN
 rows:=h.rows
 cfew:=h.cfew
 cok:=h.cok
theorem RG.own.non {w w':World} {base:Nat} {r:RG} (h:r.own w base) (hf:Fr Non w w'):r.own w' base:=
 h.keepP (P:=fun _=>False) hf (fun _ _ _ _ _ e=>e.elim) zq zq zq zq zq zq zq zq zq zq zq zq
theorem RG.own.few {w:World} {base:Nat} {r:RG} (h:r.own w base):r.l.length≤200:=h.rows.few
theorem RG.own.rdIds {w:World} {base:Nat} {r:RG} (h:r.own w base):Rd w w.heap.size 3 r.iA r.l.length (r.ids.flatMap Id.cells):=h.ids.sl.rd
theorem RG.own.xAt {w:World} {base:Nat} {r:RG} (h:r.own w base) {i:Nat} {n:Pn} (hi:r.l[i]? =some n):
  ∃(x:OpL) (b off:Nat),r.xs[i]? =some x∧x.op=n.o∧x.own w base∧r.lA=some ⟨b,off,none⟩∧b<w.heap.size∧∀j,j<27→∀u,x.cells.toList[j]? =some u→w.cell? ⟨b,off+i*27+j,none⟩=some u:=by
 have hm:(r.xs.map OpL.op)[i]? =some n.o:=by rw [h.same,List.getElem?_map,hi];rfl
 rw [List.getElem?_map] at hm
 cases hx:r.xs[i]? with
 |none=>rw [hx] at hm;cases hm
 |some x=>
  rw [hx] at hm
  injection hm with hm
  obtain ⟨b,off,h1,h2,h3⟩:=el_at (f:=fun x:OpL=>x.cells.toList) (fun _=>rfl) (by omega) h.ops.sl.rd hx
  exact ⟨x,b,off,rfl,hm,h.each x (List.mem_of_getElem? hx),h1,h2,h3⟩
theorem RG.own.uAt {w:World} {base:Nat} {r:RG} (h:r.own w base) {i:Nat} {n:Pn} (hi:r.l[i]? =some n):
  ∃(x:UpL) (b off:Nat),x.xs=upOf r.l n.o.past∧x.own w base∧r.uA=some ⟨b,off,none⟩∧b<w.heap.size∧w.cell? ⟨b,off+i,none⟩=some x.cell:=by
 have hm:(r.us.map UpL.xs)[i]? =some (upOf r.l n.o.past):=by rw [h.sameU];exact upRows_at hi
 rw [List.getElem?_map] at hm
 cases hx:r.us[i]? with
 |none=>rw [hx] at hm;cases hm
 |some x=>
  rw [hx] at hm
  injection hm with hm
  obtain ⟨b,off,u,h1,h2,h3,h4⟩:=h.ups.sl.rd.at (List.getElem?_eq_some_iff.1 hi).1
  rw [List.getElem?_map,hx] at h3
  injection h3 with h3
  subst h3
  exact ⟨x,b,off,hm,h.eachU x (List.mem_of_getElem? hx),h1,h2,h4⟩
theorem RG.own.nAt {w:World} {base:Nat} {r:RG} (h:r.own w base) {i:Nat} {n:Pn} (hi:r.l[i]? =some n):
  ∃(x:InL) (b off:Nat),x.bs=boolsTo r.l.length n.ps∧x.own w base∧r.nA=some ⟨b,off,none⟩∧b<w.heap.size∧w.cell? ⟨b,off+i,none⟩=some x.cell:=by
 have hm:(r.ns.map InL.bs)[i]? =some (boolsTo r.l.length n.ps):=by rw [h.sameN];exact inRows_at hi
 rw [List.getElem?_map] at hm
 cases hx:r.ns[i]? with
 |none=>rw [hx] at hm;cases hm
 |some x=>
  rw [hx] at hm
  injection hm with hm
  obtain ⟨b,off,u,h1,h2,h3,h4⟩:=h.ins.sl.rd.at (List.getElem?_eq_some_iff.1 hi).1
  rw [List.getElem?_map,hx] at h3
  injection h3 with h3
  subst h3
  exact ⟨x,b,off,hm,h.eachN x (List.mem_of_getElem? hx),h1,h2,h4⟩
def plcI (l:List Pn) (id:Id):Int:=match plc l id with|some i=>(i:Int)|none=> -1
theorem plcI_some {l:List Pn} {id:Id} {i:Nat} (h:plc l id=some i):plcI l id=(i:Int):=by unfold plcI;rw [h]
theorem plcI_none {l:List Pn} {id:Id} (h:plc l id=none):plcI l id= -1:=by unfold plcI;rw [h]
end Oq
end
section
open Go.RowKit
attribute [local go_sem ↓] Go.wp_at_zero Go.wp_at_succ
namespace Oq
attribute [local go_sem] Bool.not_false Bool.not_true
theorem lackc_any (base:Nat) (g:Gph) (gv:Nat) (id:Id) (w:World) (hg:GAt w base g) (hv:w.cell? ⟨gv,0,none⟩=some (.pointer (some ⟨g.gb,0,none⟩))) (hid:id.ok):
  Calls Tryz.prog 81 #[.agg id.V,.pointer (some ⟨gv,0,none⟩)] w (BoolPost (place g.nodes id).isSome w):=by
 have f0:Fr Non w (w.alloc (.cells id.V 38)):=(Fr.refl Non w).alloc _
 have hb:=Blk.new w 38 id.V
 have hg1:=hg.fr f0
 replace hv:=f0.cell hv zq
 generalize hw0:w.alloc (.cells id.V 38)=w0 at*
 have i0:w0.cell? ⟨w.heap.size,0,none⟩=some (.int .i64 id.b):=hb.cell 0
 have i1:w0.cell? ⟨w.heap.size,1,none⟩=some (.int .i64 id.s):=hb.cell 1
 have i2:w0.cell? ⟨w.heap.size,2,none⟩=some (.int .u64 (id.u:Int)):=hb.cell 2
 have c1:w0.cell? ⟨g.gb,1,none⟩=some (.map (some g.mb)):=hg1.blk.cell 1
 have hmap:=hg1.map
 have hlook:=fun (w':World) (h:MapAt w' g.mb g.mm (place g.nodes))=>MapAt.look h id hid
 clear hg hg1 hb
 cases hp:place g.nodes id
 ·
  rw [hp] at hlook
  go_enter Tryz.func81,Tryz.ntmps81
  go_wp2_with (fail)
  try rw [hw0]
  clear hw0 hp
  refine wp_region_held_drew (S:=(fun w'=>w'.cell? ⟨w.heap.size,0,none⟩=some (.int .i64 id.b)∧w'.cell? ⟨w.heap.size,1,none⟩=some (.int .i64 id.s)∧w'.cell? ⟨w.heap.size,2,none⟩=some (.int .u64 (id.u:Int))∧w'.cell? ⟨g.gb,1,none⟩=some (.map (some g.mb))∧w'.cell? ⟨gv,0,none⟩=some (.pointer (some ⟨g.gb,0,none⟩))∧MapAt w' g.mb g.mm (place g.nodes))) (by kernel_rfl) ⟨i0,i1,i2,c1,hv,hmap⟩ (fun hHeld=> ?_)
  clear hHeld
  have hS:(fun w'=>w'.cell? ⟨w.heap.size,0,none⟩=some (.int .i64 id.b)∧w'.cell? ⟨w.heap.size,1,none⟩=some (.int .i64 id.s)∧w'.cell? ⟨w.heap.size,2,none⟩=some (.int .u64 (id.u:Int))∧w'.cell? ⟨g.gb,1,none⟩=some (.map (some g.mb))∧w'.cell? ⟨gv,0,none⟩=some (.pointer (some ⟨g.gb,0,none⟩))∧MapAt w' g.mb g.mm (place g.nodes)) w0.drew:=⟨i0,i1,i2,c1,hv,hmap⟩
  replace f0:=f0.drew
  refine tkH 0 hS (h:=tkH 1 hS (h:=tkH 2 hS (h:=tkH 3 hS (h:=tkH 4 hS (h:=tkH 5 hS (h:=tkH 6 hS (h:=tkH 7 hS (h:=tkH 8 hS (h:=tkH 9 hS (h:=tkH 10 hS (h:=?_)))))))))))
  simp only [List.set]
  refine oD ?_
  go_simp
  go_wp2_with (fail)
  go_ret
  exact ⟨rfl,f0⟩
 ·
  rw [hp] at hlook
  go_enter Tryz.func81,Tryz.ntmps81
  go_wp2_with (fail)
  try rw [hw0]
  clear hw0 hp
  refine wp_region_held_drew (S:=(fun w'=>w'.cell? ⟨w.heap.size,0,none⟩=some (.int .i64 id.b)∧w'.cell? ⟨w.heap.size,1,none⟩=some (.int .i64 id.s)∧w'.cell? ⟨w.heap.size,2,none⟩=some (.int .u64 (id.u:Int))∧w'.cell? ⟨g.gb,1,none⟩=some (.map (some g.mb))∧w'.cell? ⟨gv,0,none⟩=some (.pointer (some ⟨g.gb,0,none⟩))∧MapAt w' g.mb g.mm (place g.nodes))) (by kernel_rfl) ⟨i0,i1,i2,c1,hv,hmap⟩ (fun hHeld=> ?_)
  clear hHeld
  have hS:(fun w'=>w'.cell? ⟨w.heap.size,0,none⟩=some (.int .i64 id.b)∧w'.cell? ⟨w.heap.size,1,none⟩=some (.int .i64 id.s)∧w'.cell? ⟨w.heap.size,2,none⟩=some (.int .u64 (id.u:Int))∧w'.cell? ⟨g.gb,1,none⟩=some (.map (some g.mb))∧w'.cell? ⟨gv,0,none⟩=some (.pointer (some ⟨g.gb,0,none⟩))∧MapAt w' g.mb g.mm (place g.nodes)) w0.drew:=⟨i0,i1,i2,c1,hv,hmap⟩
  replace f0:=f0.drew
  refine tkH 0 hS (h:=tkH 1 hS (h:=tkH 2 hS (h:=tkH 3 hS (h:=tkH 4 hS (h:=tkH 5 hS (h:=tkH 6 hS (h:=tkH 7 hS (h:=tkH 8 hS (h:=tkH 9 hS (h:=tkH 10 hS (h:=?_)))))))))))
  simp only [List.set]
  refine oD ?_
  go_simp
  go_wp2_with (fail)
  go_ret
  exact ⟨rfl,f0⟩
end Oq
end
end Go.Proofs.YtafonabghnogaaaGreatDoor
