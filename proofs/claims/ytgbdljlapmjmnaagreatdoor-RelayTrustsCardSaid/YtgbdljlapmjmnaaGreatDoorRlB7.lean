/-
  Contracts of the functions that the claim's statement reaches, walked one by one (part 7).
  Conditions: as each theorem says.
-/
import Derived.Test.YtgbdljlapmjmnaaGreatDoorRlB6
set_option maxRecDepth 100000
set_option maxHeartbeats 16000000
open Bool renaming false_and->At3,true_and->At4,and_eq_true->At5
open Int renaming le_trans->At6,le_max_left->Au8
open List renaming getElem?_append_left->As9,mem_of_getElem?->Au1,getElem?_map->Au4,take_succ_eq_append_getElem->Au5,range->Au6,any_append->Au7,take_of_length_le->Av0,getElem?_eq_getElem->Av1,foldl_append->Av2,getElem?_eq_none->Av3,any_eq_false->Av4,findIdx?_append->Av6,any_eq_true->Av7
open Nat renaming mod_lt->At0,mul_mod->At1,le_refl->At2,pow_mul->At7,mod_mod->At8,add_mod->At9,mul_comm->Au2,pow_mod->Au3,lt_or_ge->Au9,lt_of_lt_of_le->Av5
open Go.World renaming size_alloc->Au0
open Go.Proofs.Tryz
open Go.Proofs.Tryz renaming prog->zp
open Go.Lib renaming hid->lh
open List renaming set->zl
open Go.Ending renaming returned->ze
namespace Go.Proofs.YtgbdljlapmjmnaaGreatDoor
open Go.RowKit
attribute [local go_sem ↓] Go.wp_at_zero Go.wp_at_succ
namespace Dv
def Top (u t q s:Nat):Prop:=q*4294967295+s=u/\s<4294967296/\(u*4294967296+t)/18446744073709551600<=q
theorem over1 {u t q s:Nat} (h1:q*4294967295+s=u) (hq:4294967296*s+t<q*4294967280):u*4294967296+t<q*18446744073709551600:=by omega
theorem over2 {U q:Nat} (h:U<q*18446744073709551600):U/18446744073709551600<=q-1/\0<q:=by
 have h1:U/18446744073709551600<q:=Nat.div_lt_of_lt_mul (by rw [Au2];exact h);omega
theorem over {u t q s:Nat} (h:Top u t q s) (hq:4294967296*s+t<q*4294967280):(u*4294967296+t)/18446744073709551600<=q-1/\0<q:=over2 (over1 h.1 hq)
theorem step (k d u:Nat) (h:(d+1)*k+0=u):d*k+k=u:=by rw [<- h,Nat.succ_mul,Nat.add_zero]
theorem next {u t q:Nat} (h:Top u t q 0) (h1:(u*4294967296+t)/18446744073709551600<=q-1) (h0:0<q):Top u t (q-1) 4294967295:=by
 obtain ⟨d,rfl⟩:∃d,q=d+1:=⟨q-1,(Nat.succ_pred_eq_of_pos h0).symm⟩;obtain ⟨h2,_,_⟩:=h;rw [Nat.add_sub_cancel] at h1 ⊢;exact And.intro (step _ _ _ h2) (And.intro (by decide) h1)
theorem left {W V:Int} (hW:Hid (4294967296=W)) (hV:Hid (18446744073709551600=V)) {u t q z:Nat} (hq:(u*4294967296+t)/18446744073709551600=q) (hz:Hid (u*4294967296+t-q*18446744073709551600=z)):
  IntKind.u64.wrap (IntKind.u64.wrap (IntKind.u64.wrap ((u:Int)*W)+(t:Int))-IntKind.u64.wrap ((q:Int)*V))=(z:Int)/\z<18446744073709551600:=by
 rw [<- hz.out,<- hW.out,<- hV.out];simp only [IntKind.wrap_u64];omega
theorem rest {W1:Int} (hW1:Hid (4294967295=W1)) {u q1 r1:Nat} (_hu:u<18446744073709551616) (hq1:Hid (u/4294967295=q1)) (hr1:Hid (u-u/4294967295*4294967295=r1)):IntKind.u64.wrap ((u:Int)-IntKind.u64.wrap ((q1:Int)*W1))=(r1:Int):=by
 rw [<- hW1.out,IntKind.wrap_u64,IntKind.wrap_u64,<- hq1.out,<- hr1.out];omega
theorem fin {hi lo u t t1 u0 q z q0 R:Nat} (hu:Hid (hi*8+lo/2305843009213693952=u)) (ht:Hid (lo*8%18446744073709551616=t)) (ht1:Hid (t/4294967296=t1)) (hu0:Hid (t%4294967296=u0)) (hq:Hid ((u*4294967296+t1)/18446744073709551600=q)) (hz:Hid (u*4294967296+t1-q*18446744073709551600=z))
  (hq0:(z*4294967296+u0)/18446744073709551600=q0) (hR:Hid (z*4294967296+u0-q0*18446744073709551600=R)):R/8=(hi*18446744073709551616+lo)%2305843009213693950:=by
 have e1:8*(hi*18446744073709551616+lo)=u*18446744073709551616+t:=by rw [<- hu.out,<- ht.out];omega
 have e4:t=t1*4294967296+u0:=by rw [<- ht1.out,<- hu0.out];omega
 have e2:u*4294967296+t1=q*18446744073709551600+z:=by rw [<- hz.out,<- hq.out];omega
 have e3:z*4294967296+u0=q0*18446744073709551600+R/\R<18446744073709551600:=by rw [<- hR.out];omega
 clear hu ht hq hz hq0 hR ht1 hu0;omega
end Dv
namespace Sg
def lSigned:List UInt8:=[115,105,103,110,101,100]
def lSig:List UInt8:=[115,105,103]
def lNonce:List UInt8:=[110,111,110,99,101]
def m (bs:List UInt8):Nat:=Hs.ofBytes lSigned bs
def e (r pub:Nat) (bs:List UInt8):Nat:=Hs.of lSig [r,pub,m bs]
def pub (secret:Nat):Nat:=Fd.pow 37 secret
def once (secret:Nat) (bs:List UInt8):Nat:=Hs.secret lNonce [secret,m bs]
def r (secret:Nat) (bs:List UInt8):Nat:=Fd.pow 37 (once secret bs)
def x (secret:Nat) (bs:List UInt8):Nat:=e (r secret bs) (pub secret) bs*secret%2305843009213693950
def s (secret:Nat) (bs:List UInt8):Nat:=(once secret bs+x secret bs)%2305843009213693950
def within (n lo hi:Int):Bool:=decide (lo<=n)&&decide (n<=hi)
def check (pub:Nat) (bs:List UInt8) (R S:Nat):Bool:=
 within pub 1 2305843009213693950&&within R 1 2305843009213693950&&within S 0 2305843009213693949&&(Fd.pow 37 S==Fd.mul R (Fd.pow pub (e R pub bs)))
theorem m_lt (bs:List UInt8):m bs<2305843009213693951:=Hs.of_lt _ _
theorem e_lt (r pub:Nat) (bs:List UInt8):e r pub bs<2305843009213693951:=Hs.of_lt _ _
theorem once_lt (secret:Nat) (bs:List UInt8):once secret bs<2305843009213693950:=Hs.secret_lt _ _
theorem r_lt (secret:Nat) (bs:List UInt8):r secret bs<2305843009213693951:=Fd.pow_lt _ _
theorem x_lt (secret:Nat) (bs:List UInt8):x secret bs<2305843009213693950:=At0 _ (by omega)
theorem s_lt (secret:Nat) (bs:List UInt8):s secret bs<2305843009213693950:=At0 _ (by omega)
end Sg
section
open Go.RowKit Go.Shelf
def Yp (m e:Nat) (w:World) (r:Ending) (w':World):Prop:=r=.returned (.tuple #[.int .u64 (m:Int),.int .u64 (e:Int)])/\Fr Non w w'
theorem Yq (pub r B n c:Nat) (A:Option Addr) (bs:List UInt8) (w:World) (hp:pub<18446744073709551616) (hr0:r<18446744073709551616) (hlen:Hid (bs.length=n)) (hnc:n<=c) (hn:n<=1099511627775) (hB:B<=w.heap.size) (hr:Rd w B 1 A n (bs.map Bv)):
  Calls zp 187 #[.int .u64 (pub:Int),.int .u64 (r:Int),.slice A n c] w (Yp (Sg.m bs) (Sg.e r pub bs) w):=by
 have he:Hid (Sg.e r pub bs=Hs.of Sg.lSig [r,pub,Sg.m bs]):=rfl;have hm:=Sg.m_lt bs;have hby:=lh (P9 Sg.lSigned B n c A bs w hlen hnc hn (by decide) hB hr);have hmm:Hid (Hs.ofBytes Sg.lSigned bs=Sg.m bs):=rfl;rw [hmm.out] at hby;obtain ⟨v,hv⟩:=Aa (Sg.m bs);rw [hv.out] at he hm hby;rw [he.out,hv.out];go_enter func187,ntmps187;go_wp2_with fail;refine hby.out.mono ?_;rintro _ w1 ⟨rfl,hf1⟩;go_wp2_with fail;have hnew:=Blk.new w1 46 #[.int .u64 (r:Int),.int .u64 (pub:Int),.int .u64 (v:Int)]
 have hrd:Rd (w1.alloc (.cells #[.int .u64 (r:Int),.int .u64 (pub:Int),.int .u64 (v:Int)] 46)) (w1.heap.size+1) 1 (some ⟨w1.heap.size,0,none⟩) 3 ([r,pub,v].map Wv):=by
  refine ⟨rfl,.inr ⟨w1.heap.size,0,rfl,by omega,fun j u hu=> ?_⟩⟩;rw [hnew.cell]
  match j,hu with
  |0,hu=>simpa [Wv] using hu
  |1,hu=>simpa [Wv] using hu
  |2,hu=>simpa [Wv] using hu
 refine (P8 Sg.lSig [r,pub,v] _ 3 3 _ _ rfl (by decide) (by omega) hrd (by simp;omega)).mono ?_;rintro _ w2 ⟨rfl,hf2⟩;go_wp2
 go_ret2
 exact ⟨rfl,(hf1.alloc _).trans hf2 zr⟩
def Hp (R S:Nat):Value:=.agg #[.int .u64 (R:Int),.int .u64 (S:Int)]
def Qg (secret:Nat) (bs:List UInt8) (w:World) (r:Ending) (w':World):Prop:=r=.returned (Hp (Sg.r secret bs) (Sg.s secret bs))/\Fr Non w w'
theorem Ma (n lo hi:Int) (b:Bool) (w:World) (hb:Hid (Sg.within n lo hi=b)):
  Calls zp 186 #[.int .u64 n,.int .u64 lo,.int .u64 hi] w fun e w'=>e=.returned (.bool b)/\w=w':=by
 have hb':=hb.out;unfold Sg.within at hb'
 by_cases h1:lo<=n
 ·
  by_cases h2:n<=hi
  ·
   have hbb:Hid (true=b):=by rw [<- hb'];simp [h1,h2,Hid]
   clear hb' hb;go_enter func186,ntmps186;go_wp2
   go_ret
   exact ⟨congrArg (fun z=>ze (.bool z)) (Eq.trans (by first|simp|(simp;omega)) hbb.out),rfl⟩
  ·
   have hbb:Hid (false=b):=by rw [<- hb'];simp [h2,Hid]
   clear hb' hb;go_enter func186,ntmps186;go_wp2
   go_ret
   exact ⟨congrArg (fun z=>ze (.bool z)) (Eq.trans (by first|simp|(simp;omega)) hbb.out),rfl⟩
 ·
  have hbb:Hid (false=b):=by rw [<- hb'];simp [h1,Hid]
  clear hb' hb;go_enter func186,ntmps186;go_wp2
  go_ret
  exact ⟨congrArg (fun z=>ze (.bool z)) hbb.out,rfl⟩
theorem Mb (pub R S B n c:Nat) (A:Option Addr) (bs:List UInt8) (w:World) (hp:pub<18446744073709551616) (hR:R<18446744073709551616) (hS:S<18446744073709551616) (hlen:Hid (bs.length=n)) (hnc:n<=c) (hn:n<=1099511627775) (hB:B<=w.heap.size) (hr:Rd w B 1 A n (bs.map Bv)):
  Calls zp 124 #[.int .u64 (pub:Int),.slice A n c,Hp R S] w (Ae (Sg.check pub bs R S) w):=by
 unfold Hp;have aa:Hid (Sg.check pub bs R S=(Sg.within pub 1 2305843009213693950&&Sg.within R 1 2305843009213693950&&Sg.within S 0 2305843009213693949&&(Fd.pow 37 S==Fd.mul R (Fd.pow pub (Sg.e R pub bs))))):=rfl;have ae:=Blk.new w 53 #[.int .u64 (R:Int),.int .u64 (S:Int)];have ac:Fr Non w (w.alloc (.cells #[.int .u64 (R:Int),.int .u64 (S:Int)] 53)):=(Fr.refl _ _).alloc _;have c0:=ae.cell 0;have c1:=ae.cell 1;have ai:=hr.alloc (.cells #[.int .u64 (R:Int),.int .u64 (S:Int)] 53);obtain ⟨b1,h1⟩:=Aa (Sg.within pub 1 2305843009213693950);obtain ⟨b2,h2⟩:=Aa (Sg.within R 1 2305843009213693950);obtain ⟨b3,h3⟩:=Aa (Sg.within S 0 2305843009213693949);have k1:=lh (fun w=>Ma pub 1 2305843009213693950 b1 w h1);have k2:=lh (fun w=>Ma R 1 2305843009213693950 b2 w h2);have k3:=lh (fun w=>Ma S 0 2305843009213693949 b3 w h3);rw [h1.out,h2.out,h3.out] at aa
 cases b1 with
 |false=>
  rw [At3,At3,At3] at aa;rw [aa.out];go_enter func124,ntmps124;go_wp2_with (first|(go_at_call 186;refine (k1.out _).mono ?_;rintro _ _ ⟨rfl,rfl⟩))
  go_ret
  exact ⟨rfl,ac⟩
 |true=>
  cases b2 with
  |false=>
   rw [At4,At3,At3] at aa;rw [aa.out];go_enter func124,ntmps124;go_wp2_with (first|(go_at_call 186;(with_reducible refine (k1.out _).mono ?_);rintro _ _ ⟨rfl,rfl⟩)|(go_at_call 186;(with_reducible refine (k2.out _).mono ?_);rintro _ _ ⟨rfl,rfl⟩))
   go_ret
   exact ⟨rfl,ac⟩
  |true=>
   cases b3 with
   |false=>
    rw [At4,At4,At3] at aa;rw [aa.out];go_enter func124,ntmps124;go_wp2_with (first|(go_at_call 186;(with_reducible refine (k1.out _).mono ?_);rintro _ _ ⟨rfl,rfl⟩)|(go_at_call 186;(with_reducible refine (k2.out _).mono ?_);rintro _ _ ⟨rfl,rfl⟩)|(go_at_call 186;(with_reducible refine (k3.out _).mono ?_);rintro _ _ ⟨rfl,rfl⟩))
    go_ret
    exact ⟨rfl,ac⟩
   |true=>
    rw [At4,At4,At4] at aa;have le:=Sg.e_lt R pub bs;go_enter func124,ntmps124;go_wp2_with (first|(go_at_call 186;(with_reducible refine (k1.out _).mono ?_);rintro _ _ ⟨rfl,rfl⟩)|(go_at_call 186;(with_reducible refine (k2.out _).mono ?_);rintro _ _ ⟨rfl,rfl⟩)|(go_at_call 186;(with_reducible refine (k3.out _).mono ?_);rintro _ _ ⟨rfl,rfl⟩));refine (Yq pub R B n c A bs _ hp hR hlen hnc hn (by simp;omega) ai).mono ?_;rintro _ w1 ⟨rfl,ag⟩;have ak:=ae.fr ag zq;have ah:=ac.trans ag zr;obtain ⟨E,hE⟩:=Aa (Sg.e R pub bs);rw [hE.out] at le aa;rw [hE.out];generalize Sg.m bs=m0;have p1:=lh (fun w=>Lu 37 S w (by omega) hS);have p2:=lh (fun w=>Lu pub E w hp (by omega));have lq:=Fd.pow_lt pub E;obtain ⟨q,hq⟩:=Aa (Fd.pow pub E);obtain ⟨t,ht⟩:=Aa (Fd.pow 37 S);rw [hq.out] at p2 lq aa;rw [ht.out] at p1 aa;have p3:=lh (fun w=>Je R q hR (by omega) w);obtain ⟨v,hv⟩:=Aa (Fd.mul R q);rw [hv.out] at p3 aa;have aj:Hid (∀w,Calls zp 188 #[.int .u64 37,.int .u64 (S:Int)] w (Cq t w)):=p1.out;have ab:Blk w1.drew w.heap.size 53 #[.int .u64 (R:Int),.int .u64 (S:Int)]:=ak;have d0:=ab.cell 0;have d1:=ab.cell 1;clear c0 c1;go_wp2_with fail
    go_region_held3 (fun w'=>w'.cell? ⟨w.heap.size,0,none⟩=some (.int .u64 (R:Int))/\w'.cell? ⟨w.heap.size,1,none⟩=some (.int .u64 (S:Int))) (go_keep) (first
     |(go_at_call 188;(with_reducible refine (aj.out _).mono ?_);rintro _ w2 ⟨rfl,ad⟩;obtain ⟨g0,g1⟩:=zk2 ad d0 d1)
     |(go_at_call 188;(with_reducible refine (p2.out _).mono ?_);rintro _ w3 ⟨rfl,af⟩;obtain ⟨ao,al⟩:=zk2 af g0 g1)
     |(go_at_call 189;(with_reducible refine (p3.out _).mono ?_);rintro _ _ ⟨rfl,rfl⟩))
    go_wp2
    go_ret
    refine ⟨congrArg (fun z=>ze (.bool z)) ?_,(((ah.drew.trans ad zr).trans af zr))⟩;rw [aa.out,Bool.eq_iff_iff];simp only [beq_iff_eq];exact Int.ofNat_inj
end
namespace Sg
theorem Yr {M:Nat} (hM:M=2305843009213693950):37^M%2305843009213693951=1:=by
 have h:=Fd.pow_eq 37 M (by omega);rw [<- h,hM]
 decide+kernel
theorem pow_one {M:Nat} (hM:M=2305843009213693950) (k:Nat):(37^M)^k%2305843009213693951=1:=by
 rw [Au3,Yr hM,Nat.one_pow]
theorem Ys {M:Nat} (hM:M=2305843009213693950) (k:Nat):37^(k%M)%2305843009213693951=37^k%2305843009213693951:=by
 conv=>rhs;rw [<- Nat.div_add_mod k M,Nat.pow_add,At7,At1,pow_one hM,Nat.one_mul,At8]
theorem Qh (k:Nat):37^(k%2305843009213693950)%2305843009213693951=37^k%2305843009213693951:=Ys rfl k
theorem Yt {M:Nat} (hM:M=2305843009213693950) (k:Nat):37^k%2305843009213693951≠0:=by
 intro h;have h1:(37^k)^M%2305843009213693951=1:=by rw [<- At7,Au2,At7];exact pow_one hM k
 rw [Au3,h,Nat.zero_pow (by omega)] at h1;simp at h1
theorem Qi (k:Nat):37^k%2305843009213693951≠0:=Yt rfl k
theorem Qj {k:Nat} (hk:k<18446744073709551616):1<=Fd.pow 37 k:=by
 rw [Fd.pow_eq 37 k hk];exact Nat.one_le_iff_ne_zero.2 (Qi k)
theorem sides {x o e:Nat} (hx:x<18446744073709551616) (ho:o<18446744073709551616) (he:e<18446744073709551616):
  Fd.pow 37 ((o+e*x%2305843009213693950)%2305843009213693950)=Fd.mul (Fd.pow 37 o) (Fd.pow (Fd.pow 37 x) e):=by
 have hs:(o+e*x%2305843009213693950)%2305843009213693950=(o+e*x)%2305843009213693950:=by rw [Nat.add_mod_mod]
 have hlt:(o+e*x)%2305843009213693950<18446744073709551616:=by have:=At0 (o+e*x) (show 0<2305843009213693950 by omega);omega
 rw [hs,Fd.pow_eq _ _ hlt,Qh,Nat.pow_add];unfold Fd.mul;rw [Fd.pow_eq _ _ ho,Fd.pow_eq _ _ he,Fd.pow_eq _ _ hx,<- Au3,<- At1,<- At7,Au2 x e]
theorem Mc {n lo hi:Nat} (h1:lo<=n) (h2:n<=hi):within n lo hi=true:=by
 unfold within;simp;omega
theorem takes (x:Nat) (bs:List UInt8) (hx:x<18446744073709551616):check (pub x) bs (r x bs) (s x bs)=true:=by
 have lo:=once_lt x bs;have lr:=r_lt x bs;have ls:=s_lt x bs;have lp:=Fd.pow_lt 37 x;have le:=e_lt (r x bs) (pub x) bs;have p1:1<=Fd.pow 37 x:=Qj hx;have p2:1<=r x bs:=Qj (by omega);have w1:within (pub x) 1 2305843009213693950=true:=Mc (lo:=1) (hi:=2305843009213693950) p1 (by unfold pub;omega);have w2:within (r x bs) 1 2305843009213693950=true:=Mc (lo:=1) (hi:=2305843009213693950) p2 (by omega);have w3:within (s x bs) 0 2305843009213693949=true:=Mc (lo:=0) (hi:=2305843009213693949) (by omega) (by omega);unfold check;rw [w1,w2,w3];have h:=sides (x:=x) (o:=once x bs) (e:=e (r x bs) (pub x) bs) hx (by omega) (by omega);have hs:s x bs=(once x bs+e (r x bs) (pub x) bs*x%2305843009213693950)%2305843009213693950:=rfl;have hr:r x bs=Fd.pow 37 (once x bs):=rfl;rw [hs,h,<- hr];simp [pub]
end Sg
namespace R8
theorem step (M o x h:Nat):((o+x)%M+(x+x)%M*h)%M=(o+x*(2*h+1))%M:=by
 have e:o+x*(2*h+1)=(o+x)+(x+x)*h:=by rw [Nat.mul_add,Nat.add_mul,Nat.mul_one,<- Nat.mul_assoc,Nat.mul_two,Nat.add_mul];omega
 rw [e,At9 (o+x) ((x+x)*h),At1 (x+x) h,At9 ((o+x)%M),At8,At1 ((x+x)%M),At8]
theorem step0 (M o x h:Nat):(o+(x+x)%M*h)%M=(o+x*(2*h))%M:=by
 have e:x*(2*h)=(x+x)*h:=by rw [<- Nat.mul_assoc,Nat.mul_two]
 rw [e,At9 o ((x+x)*h),At1 (x+x) h,At9 o,At1 ((x+x)%M),At8]
end R8
theorem Qk (w:World):Calls zp 204 #[] w fun e w'=>e=.returned (.int .u64 2305843009213693950)/\w=w':=by
 go_enter func204,ntmps204;go_wp2
 go_ret
 exact ⟨rfl,rfl⟩
theorem Yu (a b:Nat) (w:World):Calls zp 202 #[.int .u64 (a:Int),.int .u64 (b:Int)] w fun e w'=>e=.returned (.int .u64 ((a*b%2305843009213693950:Nat):Int))/\w=w':=by
 obtain ⟨x,hx⟩:=Aa (a%2305843009213693950);obtain ⟨y,hy⟩:=Aa (b%2305843009213693950);have lx:x<2305843009213693950:=by rw [<- hx.out];exact At0 _ (by omega)
 have ly:y<2305843009213693950:=by rw [<- hy.out];exact At0 _ (by omega)
 have ab:Hid ((0+x*y)%2305843009213693950=a*b%2305843009213693950):=by show _=_;rw [Nat.zero_add,<- hx.out,<- hy.out,<- At1]
 obtain ⟨r,hr⟩:=Aa (a*b%2305843009213693950);rw [hr.out] at ab ⊢;obtain ⟨fa,ao⟩:=R1.nn 2305843009213693950 rfl hx.out;obtain ⟨fb,ar⟩:=R1.nn 2305843009213693950 rfl hy.out;have z1:¬(2305843009213693950:Int)=0:=by decide
 have ho:Hid (∀w,Calls zp 204 #[] w fun e w'=>e=.returned (.int .u64 2305843009213693950)/\w=w'):=fun w=>Qk w;clear hx hy;go_enter func202,ntmps202;unfold Hid at ho;generalize eM:(2305843009213693950:Int)=M at*;have hM:=lh eM;have ac:=lh ho;clear eM ho;go_wp2_with fail;refine (ac.out _).mono ?_;rintro _ _ ⟨rfl,rfl⟩;go_wp2_with fail;refine (ac.out _).mono ?_;rintro _ _ ⟨rfl,rfl⟩;go_wp2_with fail
 go_loopw [0,1,5] (fun p q o wr=>∃x' y' o':Nat,p=.int .u64 (x':Int)/\q=.int .u64 (y':Int)/\o=.int .u64 (o':Int)/\x'<2305843009213693950/\y'<2305843009213693950/\o'<2305843009213693950/\Hid ((o'+x'*y')%2305843009213693950=r)/\wr=w) (fun _ q _ _=>(intOf q).toNat)
 case atStart=>exact ⟨x,y,0,rfl,rfl,rfl,lx,ly,by omega,ab,rfl⟩
 case round=>
  obtain ⟨x',y',o',rfl,rfl,rfl,au,aq,af,hd,rfl⟩:=hrel
  by_cases hz:y'=0
  ·
   subst hz;have e:o'=r:=by have h:=hd.out;rw [Nat.mul_zero,Nat.add_zero,Nat.mod_eq_of_lt af] at h;exact h
   go_wp2
   go_ret
   exact ⟨by rw [<- e];rfl,rfl⟩
  ·
   have ap:(0:Int)<(y':Int):=by omega
   have l1:(o'+x')%2305843009213693950<2305843009213693950:=At0 _ (by omega);have l2:(x'+x')%2305843009213693950<2305843009213693950:=At0 _ (by omega);have s1:=R8.step 2305843009213693950 o' x' (y'/2);have s0:=R8.step0 2305843009213693950 o' x' (y'/2);obtain ⟨ox,ag⟩:=Aa ((o'+x')%2305843009213693950);obtain ⟨xx,ae⟩:=Aa ((x'+x')%2305843009213693950);obtain ⟨g1,ak⟩:=R1.nn M hM.out ag.out;obtain ⟨g2,ah⟩:=R1.nn M hM.out ae.out;rw [Int.natCast_add] at g1 ak g2 ah;rw [ag.out] at l1 s1;rw [ae.out] at l2 s1 s0;have al:=lh s1;have ai:=lh s0;clear s1 s0;have aa:y'%2=1\/y'%2=0:=by omega
   rcases aa with hp|hp
   ·
    have aj:((y':Int)%2==1)=true:=by simp;omega
    have ad:Hid ((ox+xx*(y'/2))%2305843009213693950=r):=by show _=_;rw [al.out,show 2*(y'/2)+1=y' by omega];exact hd.out
    clear hd hp;go_wp2_with (first|(go_at_call 204;refine (ac.out _).mono ?_;rintro _ _ ⟨rfl,rfl⟩));exact ⟨⟨xx,y'/2,ox,rfl,by go_num,rfl,l2,by omega,l1,ad,by first|rfl|trivial⟩,by simp [intOf];omega⟩
   ·
    have aj:((y':Int)%2==1)=false:=by simp;omega
    have ad:Hid ((o'+xx*(y'/2))%2305843009213693950=r):=by show _=_;rw [ai.out,show 2*(y'/2)=y' by omega];exact hd.out
    clear hd hp;go_wp2_with (first|(go_at_call 204;refine (ac.out _).mono ?_;rintro _ _ ⟨rfl,rfl⟩));exact ⟨⟨xx,y'/2,o',rfl,by go_num,rfl,l2,by omega,af,ad,by first|rfl|trivial⟩,by simp [intOf];omega⟩
theorem Jl (n:Nat) (w:World) (hn:n<18446744073709551616):Calls zp 100 #[.int .u64 (n:Int)] w (Cq (Sg.pub n) w):=by
 have hp:Hid (∀w,Calls zp 155 #[.int .u64 37,.int .u64 (n:Int)] w fun e w'=>e=.returned (.int .u64 (Sg.pub n:Int))/\∃k,w'=w.drewN k):=fun w=>Lx 37 n w (by omega) hn;go_enter func100,ntmps100;go_wp2_with fail;refine (hp.out _).mono ?_;rintro _ _ ⟨rfl,k,rfl⟩;go_wp2
 go_ret
 exact ⟨rfl,(Fr.refl _ _).drewN _⟩
theorem Ql (B n c:Nat) (A:Option Addr) (bs:List UInt8) (w:World) (hlen:Hid (bs.length=n)) (hn:n<=1099511627775) (hB:B<=w.heap.size) (hr:Rd w B 1 A n (bs.map Bv)):
  Calls zp 201 #[.slice A n c] w (Cq (Sg.m bs) w):=by
 have hby:Hid (Calls zp 157 #[.string ⟨#[115,105,103,110,101,100]⟩,.slice A n c] w (Cq (Sg.m bs) w)):=Qd Sg.lSigned B n c A bs w hlen hn (by decide) hB hr;go_enter func201,ntmps201;go_wp2_with fail;refine hby.out.mono ?_;rintro _ w1 ⟨rfl,hf1⟩;go_wp2
 go_ret
 exact ⟨rfl,hf1⟩
theorem Yv (r pub B n c:Nat) (A:Option Addr) (bs:List UInt8) (w:World) (hr0:r<18446744073709551616) (hp:pub<18446744073709551616) (hlen:Hid (bs.length=n)) (hn:n<=1099511627775) (hB:B<=w.heap.size) (hr:Rd w B 1 A n (bs.map Bv)):
  Calls zp 203 #[.int .u64 (r:Int),.int .u64 (pub:Int),.slice A n c] w (Cq (Sg.e r pub bs) w):=by
 have he:Hid (Sg.e r pub bs=Hs.of Sg.lSig [r,pub,Sg.m bs]):=rfl;have hm:=Sg.m_lt bs;have hby:=lh (Ql B n c A bs w hlen hn hB hr);obtain ⟨v,hv⟩:=Aa (Sg.m bs);rw [hv.out] at he hm hby;rw [he.out];go_enter func203,ntmps203;go_wp2_with fail;refine hby.out.mono ?_;rintro _ w1 ⟨rfl,hf1⟩;go_wp2_with fail;have hnew:=Blk.new w1 46 #[.int .u64 (r:Int),.int .u64 (pub:Int),.int .u64 (v:Int)]
 have hrd:Rd (w1.alloc (.cells #[.int .u64 (r:Int),.int .u64 (pub:Int),.int .u64 (v:Int)] 46)) (w1.heap.size+1) 1 (some ⟨w1.heap.size,0,none⟩) 3 ([r,pub,v].map Wv):=by
  refine ⟨rfl,.inr ⟨w1.heap.size,0,rfl,by omega,fun j u hu=> ?_⟩⟩;rw [hnew.cell]
  match j,hu with
  |0,hu=>simpa [Wv] using hu
  |1,hu=>simpa [Wv] using hu
  |2,hu=>simpa [Wv] using hu
 refine (Ly Sg.lSig [r,pub,v] _ 3 3 _ _ rfl (by decide) (by omega) hrd (by simp;omega)).mono ?_;rintro _ w2 ⟨rfl,hf2⟩;go_wp2
 go_ret
 exact ⟨rfl,(hf1.alloc _).trans hf2 zr⟩
theorem Yw (o X S:Nat) (ho:o<2305843009213693950) (hX:X<2305843009213693950) (hS:Hid ((o+X)%2305843009213693950=S)):((o:Int)+(X:Int))%2305843009213693950=(S:Int)/\((o:Int)+(X:Int)).tmod 2305843009213693950=(S:Int):=by
 have h2:((o:Int)+(X:Int))%2305843009213693950=(S:Int):=by rw [<- hS.out];omega
 exact ⟨h2,by rw [Int.tmod_eq_emod_of_nonneg (by omega),h2]⟩
theorem Yx (secret B n c:Nat) (A:Option Addr) (bs:List UInt8) (w:World) (hs:secret<18446744073709551616) (hlen:Hid (bs.length=n)) (hn:n<=1099511627775) (hB:B<=w.heap.size) (hr:Rd w B 1 A n (bs.map Bv)):
  Calls zp 158 #[.int .u64 (secret:Int),.slice A n c] w (Qg secret bs w):=by
 have aw:=Blk.new w 53 #[.int .u64 0,.int .u64 0];have a1:Fr Non w (w.alloc (.cells #[.int .u64 0,.int .u64 0] 53)):=(Fr.refl _ _).alloc _;have aq:=hr.alloc (.cells #[.int .u64 0,.int .u64 0] 53);have lp:=Fd.pow_lt 37 secret;have lm:=Sg.m_lt bs;have lo:=Sg.once_lt secret bs;have lr:=Sg.r_lt secret bs;have al:Hid (Sg.x secret bs=Sg.e (Sg.r secret bs) (Sg.pub secret) bs*secret%2305843009213693950):=rfl;have aj:Hid ((Sg.once secret bs+Sg.x secret bs)%2305843009213693950=Sg.s secret bs):=rfl;have lx:=Sg.x_lt secret bs;have ls:=Sg.s_lt secret bs;have ag:Hid (∀w,Calls zp 155 #[.int .u64 37,.int .u64 (Sg.once secret bs:Int)] w fun e w'=>e=.returned (.int .u64 (Sg.r secret bs:Int))/\∃k,w'=w.drewN k):=fun w=>Lx 37 (Sg.once secret bs) w (by omega) (by omega);have ay:Sg.pub secret<2305843009213693951:=lp;have le:=Sg.e_lt (Sg.r secret bs) (Sg.pub secret) bs;have ab:Hid (Sg.once secret bs=Hs.secret Sg.lNonce [secret,Sg.m bs]):=rfl;have ac:=lh (fun w=>Jl secret w hs);obtain ⟨P,hP⟩:=Aa (Sg.pub secret);obtain ⟨m,hm⟩:=Aa (Sg.m bs);obtain ⟨o,ho⟩:=Aa (Sg.once secret bs);obtain ⟨R,hR⟩:=Aa (Sg.r secret bs);rw [hR.out,hP.out] at al le;rw [hR.out,ho.out] at ag;rw [ho.out] at aj lo ab;rw [hm.out] at ab lm;rw [hR.out] at lr;rw [hP.out] at ay ac;obtain ⟨E,hE⟩:=Aa (Sg.e R P bs);rw [hE.out] at al le;have aa:Hid (∀w,Calls zp 202 #[.int .u64 (E:Int),.int .u64 (secret:Int)] w fun e w'=>e=.returned (.int .u64 (Sg.x secret bs:Int))/\w=w'):=fun w=>by rw [al.out];exact Yu E secret w
 obtain ⟨X,hX⟩:=Aa (Sg.x secret bs);obtain ⟨S,hS⟩:=Aa (Sg.s secret bs);rw [hX.out] at aa lx aj;rw [hS.out] at aj ls;obtain ⟨v1,v2⟩:=Yw o X S lo lx aj;have ad:Hid (∀w,Calls zp 204 #[] w fun e w'=>e=.returned (.int .u64 2305843009213693950)/\w=w'):=fun w=>Qk w;have z1:¬(2305843009213693950:Int)=0:=by decide
 go_enter func158,ntmps158;go_wp2_with fail;refine (Ql B n c A bs _ hlen hn (by simp;omega) aq).mono ?_;rw [hm.out];rintro _ w2 ⟨rfl,ah⟩;go_wp2_with fail;have ao:=Blk.new w2 46 #[.int .u64 (secret:Int),.int .u64 (m:Int)]
 have av:Rd (w2.alloc (.cells #[.int .u64 (secret:Int),.int .u64 (m:Int)] 46)) (w2.heap.size+1) 1 (some ⟨w2.heap.size,0,none⟩) 2 ([secret,m].map Wv):=by
  refine ⟨rfl,.inr ⟨w2.heap.size,0,rfl,by omega,fun j u hu=> ?_⟩⟩;rw [ao.cell]
  match j,hu with
  |0,hu=>simpa [Wv] using hu
  |1,hu=>simpa [Wv] using hu
 refine (Qe Sg.lNonce [secret,m] _ 2 2 _ _ rfl (by decide) (by omega) av (by simp;omega)).mono ?_;rw [<- ab.out];rintro _ w3 ⟨rfl,ak⟩;go_wp2_with fail;refine (ag.out _).mono ?_;rintro _ _ ⟨rfl,k4,rfl⟩;go_wp2_with fail;refine (ac.out _).mono ?_;rintro _ w4 ⟨rfl,ai⟩;have ax:=ah.size;have au:=ak.size;have a0:=ai.size;simp only [Au0] at ax au;have a2:w3.heap.size<=w4.heap.size:=a0;have az:=((((aq.fr ah zr).alloc (.cells #[.int .u64 (secret:Int),.int .u64 (m:Int)] 46)).fr ak zr).drewN k4).fr ai zr;go_wp2_with fail;refine (Yv R P B n c A bs w4 (by omega) (by omega) hlen hn (by omega) az).mono ?_;rw [hE.out];rintro _ w5 ⟨rfl,ap⟩;go_wp2_with fail;refine (aa.out _).mono ?_;rintro _ _ ⟨rfl,rfl⟩;unfold Hid at ad;generalize (2305843009213693950:Int)=M at*;have af:=lh ad;clear ad;go_wp2_with fail;refine (af.out _).mono ?_;rintro _ _ ⟨rfl,rfl⟩;have ae:=(((((aw.fr ah zq).alloc (.cells #[.int .u64 (secret:Int),.int .u64 (m:Int)] 46)).fr ak zq).drewN k4).fr ai zq).fr ap zq;have ar:=(((((a1.trans ah zr).alloc (.cells #[.int .u64 (secret:Int),.int .u64 (m:Int)] 46)).trans ak zr).drewN k4).trans ai zr).trans ap zr;have a4:=ae.cell 0;have a6:=ae.cell 1;have a5:=ae.frozen 0;have a3:=ae.frozen 1;go_wp2;refine C9 rfl rfl ((ae.set 0 _).set 1 _) rfl underlying53 (by kernel_rfl) rfl ⟨?_,(ar.setNew (At2 _) _ _).setNew (At2 _) _ _⟩;rw [hR.out,hS.out];rfl
namespace Oq
attribute [local go_sem ↓] Be
attribute [local go_sem] Bool.not_false Bool.not_true
theorem Af (l:List Value) (ds:List Deferred) (i:Nat) (v:Value):(⟨l.toArray,ds⟩:Act).put (some i) v=⟨(l.set i v).toArray,ds⟩:=by simp [Act.put]
theorem C5 {P:Program} {Q:Exit->Act->World->Prop} {ops:Array Oper} {md:Region.Mode} {S:World->Prop} {fuel:Nat} {listed:Array Bool} {a:Act} {w:World} (i:Nat) {o:Oper} (hr:Region.ready md ops listed=[i]) (ho:ops[i]? =some o)
  (hw:Region.wanted o (yielded ops a.tmps)=true)
  (h:∀K':Act->World->Prop,Shut (∀a w,S w->(S w->wpAnyH P md ops Q S fuel (listed.setIfInBounds i true) a w)->K' a w)->Oper.wp P o a w K' Q):
  wpAnyH P md ops Q S (fuel+1) listed a w:=
 wpAnyH_ready hr (by simp) (AllReadyH.cons ho (fun K' hK=>by rw [if_pos hw];exact h K' hK) AllReadyH.nil)
def sec (kind:List UInt8) (u:Nat):Nat:=Hs.secret kind [u]
theorem Hq (kind:List UInt8) (u:Nat):sec kind u<2305843009213693950:=Hs.secret_lt _ _
theorem Qm (kind:List UInt8) (d:Int) (u:Nat) (w:World) (hu:IntKind.u64.wrap d=(u:Int)) (hu':u<18446744073709551616) (hk:kind.length<=1000):
  Calls zp 101 #[.string (str kind),.int .i64 d] w (Cq (sec kind u) w):=by
 have hb:=Blk.new w 46 #[.int .u64 (u:Int)];have hr:Rd (w.alloc (.cells #[.int .u64 (u:Int)] 46)) (w.alloc (.cells #[.int .u64 (u:Int)] 46)).heap.size 1 (some ⟨w.heap.size,0,none⟩) 1 ([u].map Wv):=Rd.blk (n:=1) (size:=1) (l:=[.int .u64 (u:Int)]) hb rfl;have hf:Fr Non w (w.alloc (.cells #[.int .u64 (u:Int)] 46)):=(Fr.refl Non w).alloc _;obtain ⟨st,hst⟩:=Aa (str kind);have k:=lh (Qe kind [u] (some ⟨w.heap.size,0,none⟩) 1 1 _ _ rfl (by omega) (by omega) hr (by simp;omega));rw [hst.out] at k ⊢;go_enter func101,ntmps101;go_wp2_with fail;refine k.out.mono ?_;rintro _ w1 ⟨rfl,f1⟩;go_wp2
 go_ret
 exact ⟨rfl,hf.trans f1 zr⟩
theorem Qn (d m:Int) (ld kp sg:Nat) (x:OpL) (w:World) (hat:x.at w w.heap.size) (hok:x.op.ok) (hsg:sg<18446744073709551616):
  Calls zp 61 #[.agg #[.int .i64 d,.int .i64 m,.int .u64 (ld:Int),.int .u64 (kp:Int),.int .u64 (sg:Int)],.agg x.cells] w (Ae ((x.by_==d)&&Sg.check sg x.op.bare x.r x.s) w):=by
 have aj:x.cells.size=27:=rfl;obtain ⟨CS,ae⟩:=Aa x.cells;have e0:Hid (CS[0]? =some (.int .i64 x.by_)):=by show _=_;rw [<- ae.out];rfl
 have ay:Hid (CS[25]? =some (.int .u64 (x.r:Int))):=by show _=_;rw [<- ae.out];rfl
 have ar:Hid (CS[26]? =some (.int .u64 (x.s:Int))):=by show _=_;rw [<- ae.out];rfl
 have ab:Blk ((w.alloc (.cells #[.int .i64 d,.int .i64 m,.int .u64 (ld:Int),.int .u64 (kp:Int),.int .u64 (sg:Int)] 96)).alloc (.cells x.cells 55)).drew w.heap.size 96 #[.int .i64 d,.int .i64 m,.int .u64 (ld:Int),.int .u64 (kp:Int),.int .u64 (sg:Int)]:=((Blk.new w 96 _).alloc _).drew
 have ac:Blk ((w.alloc (.cells #[.int .i64 d,.int .i64 m,.int .u64 (ld:Int),.int .u64 (kp:Int),.int .u64 (sg:Int)] 96)).alloc (.cells x.cells 55)).drew (w.heap.size+1) 55 x.cells:=by
  have:=(Blk.new (w.alloc (.cells #[.int .i64 d,.int .i64 m,.int .u64 (ld:Int),.int .u64 (kp:Int),.int .u64 (sg:Int)] 96)) 55 x.cells).drew;rwa [Au0] at this
 have af:Fr Non w ((w.alloc (.cells #[.int .i64 d,.int .i64 m,.int .u64 (ld:Int),.int .u64 (kp:Int),.int .u64 (sg:Int)] 96)).alloc (.cells x.cells 55)).drew:=(((Fr.refl Non w).alloc _).alloc _).drew;have ah:=OpL.frame hat af;have kb:=lh (fun w' (h:x.at w' w'.heap.size)=>Pf x w' h hok);have lb:=Op.bare_len x.op hok;have hr:=hok.r;have hs:=hok.s;have kc:=lh (fun (A:Option Addr) (c:Nat) (w':World) (B:Nat) (h:Own w' B 5 1 A x.op.bare.length c (x.op.bare.map Bv))=>Mb sg x.r x.s w'.heap.size x.op.bare.length c A x.op.bare w' hsg hr hs rfl h.cap.1 (by omega) (At2 _) h.rd);obtain ⟨D,hD⟩:=Aa x.op.bare;rw [hD.out] at kb lb kc;rw [hD.out];rw [ae.out] at aj ac ab kb ah af;rw [ae.out];have hi:(zp.info? 55).map (·.size)=some CS.size:=by rw [aj];kernel_rfl
 have hl:=B0 (P:=zp) (w.heap.size+1) 55 underlying55 rfl hi;obtain ⟨V,hV⟩:=Aa (Sg.check sg D x.r x.s);rw [hV.out] at kc ⊢;unfold Hp at kc;clear hat hok hr hs hD
 by_cases hd:x.by_=d
 ·
  have hb:(x.by_==d)=true:=by simp [hd]
  have ad:Hid (((x.by_==d)&&V)=V):=by show _=_;rw [hb];simp
  rw [ad.out];clear hd ad;go_enter func61,ntmps61;go_upto_region 1 with (fail)
  generalize (w.alloc (.cells #[.int .i64 d,.int .i64 m,.int .u64 (ld:Int),.int .u64 (kp:Int),.int .u64 (sg:Int)] 96)).alloc (.cells CS 55)=w0 at*;refine wp_region_held_drew (S:=fun w'=>Blk w' w.heap.size 96 #[.int .i64 d,.int .i64 m,.int .u64 (ld:Int),.int .u64 (kp:Int),.int .u64 (sg:Int)]/\Blk w' (w.heap.size+1) 55 CS) (by kernel_rfl) ⟨ab,ac⟩ (fun _=> ?_);refine tkH 0 ⟨ab,ac⟩ (h:=?_);(try simp only [zl]);refine wpAnyH_take (i:=1) (v:=?_) rfl (by kernel_rfl) (by kernel_rfl) (by kernel_rfl) (fun _ _ _ h=>h) (Or.inl ⟨by kernel_rfl,?_⟩) ⟨ab,ac⟩ ?_;rotate_left
  focus (intro w' aa;have b1:=aa.1;have b2:=aa.2;have q:cI w' (w.heap.size+1) 0 x.by_:=(b2.cell 0).trans e0.out;go_simp;(try with_reducible rfl))
  try simp only [Af,zl]
  refine tkH 2 ⟨ab,ac⟩ (h:=?_);(try simp only [zl]);refine wpAnyH_take (i:=3) (v:=?_) rfl (by kernel_rfl) (by kernel_rfl) (by kernel_rfl) (fun _ _ _ h=>h) (Or.inl ⟨by kernel_rfl,?_⟩) ⟨ab,ac⟩ ?_;rotate_left
  focus (intro w' aa;have b1:=aa.1;have b2:=aa.2;have q:cI w' w.heap.size 0 d:=b1.cell 0;go_simp;(try with_reducible rfl))
  try simp only [Af,zl]
  refine tkH 4 ⟨ab,ac⟩ (h:=?_);(try simp only [zl]);refine tkH 5 ⟨ab,ac⟩ (h:=?_);(try simp only [zl]);refine tkH 6 ⟨ab,ac⟩ (h:=?_);(try simp only [zl]);refine wpAnyH_take (i:=7) (v:=?_) rfl (by kernel_rfl) (by kernel_rfl) (by kernel_rfl) (fun _ _ _ h=>h) (Or.inl ⟨by kernel_rfl,?_⟩) ⟨ab,ac⟩ ?_;rotate_left
  focus (intro w' aa;have b1:=aa.1;have b2:=aa.2;have q:cU w' w.heap.size 4 sg:=b1.cell 4;go_simp;(try with_reducible rfl))
  try simp only [Af,zl]
  refine tkH 8 ⟨ab,ac⟩ (h:=?_);(try simp only [zl]);refine tkH 11 ⟨ab,ac⟩ (h:=?_);(try simp only [zl]);refine wpAnyH_take (i:=12) (v:=?_) rfl (by kernel_rfl) (by kernel_rfl) (by kernel_rfl) (fun _ _ _ h=>h) (Or.inl ⟨by kernel_rfl,?_⟩) ⟨ab,ac⟩ ?_;rotate_left
  focus (intro w' aa;have b1:=aa.1;have b2:=aa.2;have q1:cU w' (w.heap.size+1) 25 x.r:=(b2.cell 25).trans ay.out;have q2:cU w' (w.heap.size+1) 26 x.s:=(b2.cell 26).trans ar.out;go_simp;(try with_reducible rfl))
  try simp only [Af,zl]
  refine C5 9 (by kernel_rfl) rfl (by kernel_rfl) (fun K hK=> ?_);go_simp;go_wp2_with (go_at_call 96;(with_reducible refine (kb.out _ ah).mono ?_);rintro _ v1 ⟨A1,c1,rfl,o1,f1⟩;have ao:=ab.fr f1 zq;have ap:=ac.fr f1 zq;have aw:=OpL.frame ah f1;have aq:=af.trans f1 zr;have au:OutAt v1 w0.heap.size (w0.heap.size+1) A1 c1 D:=o1);refine hK.out _ _ ⟨ao,ap⟩ (fun _=> ?_);clear hK K;try simp only [Af,zl]
  refine C5 10 (by kernel_rfl) rfl (by kernel_rfl) (fun K hK=> ?_);go_simp;go_wp2_with (go_at_call 97;(with_reducible refine (Od _ _ A1 c1 _ _ au (by omega)).mono ?_);rintro _ v2 ⟨A2,c2,rfl,o2,f2⟩;have al:=ao.fr f2 zq;have ak:=ap.fr f2 zq;have av:=OpL.frame aw f2;have ax:=aq.trans f2 zr);refine hK.out _ _ ⟨al,ak⟩ (fun _=> ?_);clear hK K;try simp only [Af,zl]
  refine C5 13 (by kernel_rfl) rfl (by kernel_rfl) (fun K hK=> ?_);go_simp;go_wp2_with (go_at_call 124;(with_reducible refine (kc.out _ _ _ _ o2).mono ?_);rintro _ v3 ⟨rfl,f3⟩;have ag:=al.fr f3 zq;have ai:=ak.fr f3 zq;have a0:=OpL.frame av f3;have az:=ax.trans f3 zr);refine hK.out _ _ ⟨ag,ai⟩ (fun _=> ?_);clear hK K;try simp only [Af,zl]
  refine tkH 14 ⟨ag,ai⟩ (h:=?_);(try simp only [zl]);refine tkH 15 ⟨ag,ai⟩ (h:=?_);(try simp only [zl]);refine oD ?_;go_wp2
  go_ret
  exact ⟨rfl,az⟩
 ·
  have hb:(x.by_==d)=false:=by simp [hd]
  have ad:Hid (((x.by_==d)&&V)=false):=by show _=_;rw [hb];simp
  rw [ad.out];clear hd ad;go_enter func61,ntmps61;go_upto_region 1 with (fail)
  generalize (w.alloc (.cells #[.int .i64 d,.int .i64 m,.int .u64 (ld:Int),.int .u64 (kp:Int),.int .u64 (sg:Int)] 96)).alloc (.cells CS 55)=w0 at*;refine wp_region_held_drew (S:=fun w'=>Blk w' w.heap.size 96 #[.int .i64 d,.int .i64 m,.int .u64 (ld:Int),.int .u64 (kp:Int),.int .u64 (sg:Int)]/\Blk w' (w.heap.size+1) 55 CS) (by kernel_rfl) ⟨ab,ac⟩ (fun _=> ?_);refine tkH 0 ⟨ab,ac⟩ (h:=?_);(try simp only [zl]);refine wpAnyH_take (i:=1) (v:=?_) rfl (by kernel_rfl) (by kernel_rfl) (by kernel_rfl) (fun _ _ _ h=>h) (Or.inl ⟨by kernel_rfl,?_⟩) ⟨ab,ac⟩ ?_;rotate_left
  focus (intro w' aa;have b1:=aa.1;have b2:=aa.2;have q:cI w' (w.heap.size+1) 0 x.by_:=(b2.cell 0).trans e0.out;go_simp;(try with_reducible rfl))
  try simp only [Af,zl]
  refine tkH 2 ⟨ab,ac⟩ (h:=?_);(try simp only [zl]);refine wpAnyH_take (i:=3) (v:=?_) rfl (by kernel_rfl) (by kernel_rfl) (by kernel_rfl) (fun _ _ _ h=>h) (Or.inl ⟨by kernel_rfl,?_⟩) ⟨ab,ac⟩ ?_;rotate_left
  focus (intro w' aa;have b1:=aa.1;have b2:=aa.2;have q:cI w' w.heap.size 0 d:=b1.cell 0;go_simp;(try with_reducible rfl))
  try simp only [Af,zl]
  refine tkH 4 ⟨ab,ac⟩ (h:=?_);(try simp only [zl]);refine tkH 5 ⟨ab,ac⟩ (h:=?_);(try simp only [zl]);refine wpAnyH_take (i:=6) (v:=undef) rfl (by kernel_rfl) (by kernel_rfl) (by kernel_rfl) (fun _ _ _ h=>h) (Or.inr ⟨by kernel_rfl,rfl⟩) ⟨ab,ac⟩ ?_;try simp only [Af,zl]
  refine wpAnyH_take (i:=7) (v:=undef) rfl (by kernel_rfl) (by kernel_rfl) (by kernel_rfl) (fun _ _ _ h=>h) (Or.inr ⟨by kernel_rfl,rfl⟩) ⟨ab,ac⟩ ?_;try simp only [Af,zl]
  refine wpAnyH_take (i:=8) (v:=undef) rfl (by kernel_rfl) (by kernel_rfl) (by kernel_rfl) (fun _ _ _ h=>h) (Or.inr ⟨by kernel_rfl,rfl⟩) ⟨ab,ac⟩ ?_;try simp only [Af,zl]
  refine wpAnyH_take (i:=9) (v:=undef) rfl (by kernel_rfl) (by kernel_rfl) (by kernel_rfl) (fun _ _ _ h=>h) (Or.inr ⟨by kernel_rfl,rfl⟩) ⟨ab,ac⟩ ?_;try simp only [Af,zl]
  refine wpAnyH_take (i:=10) (v:=undef) rfl (by kernel_rfl) (by kernel_rfl) (by kernel_rfl) (fun _ _ _ h=>h) (Or.inr ⟨by kernel_rfl,rfl⟩) ⟨ab,ac⟩ ?_;try simp only [Af,zl]
  refine wpAnyH_take (i:=11) (v:=undef) rfl (by kernel_rfl) (by kernel_rfl) (by kernel_rfl) (fun _ _ _ h=>h) (Or.inr ⟨by kernel_rfl,rfl⟩) ⟨ab,ac⟩ ?_;try simp only [Af,zl]
  refine wpAnyH_take (i:=12) (v:=undef) rfl (by kernel_rfl) (by kernel_rfl) (by kernel_rfl) (fun _ _ _ h=>h) (Or.inr ⟨by kernel_rfl,rfl⟩) ⟨ab,ac⟩ ?_;try simp only [Af,zl]
  refine wpAnyH_take (i:=13) (v:=undef) rfl (by kernel_rfl) (by kernel_rfl) (by kernel_rfl) (fun _ _ _ h=>h) (Or.inr ⟨by kernel_rfl,rfl⟩) ⟨ab,ac⟩ ?_;try simp only [Af,zl]
  refine tkH 14 ⟨ab,ac⟩ (h:=?_);(try simp only [zl]);refine tkH 15 ⟨ab,ac⟩ (h:=?_);(try simp only [zl]);refine oD ?_;go_wp2
  go_ret
  exact ⟨by go_simp,af⟩
theorem Qo {x:OpL} {w:World} {B:Nat} (o:x.at w B) (r s:Nat):({x with r:=r,s:=s}:OpL).at w B:=⟨o.past,o.path,o.nodes,o.body,o.refs,o.guards,o.boxes,o.hist,o.seals⟩
theorem Yy (x:OpL) (R S:Nat):({x with r:=R,s:=S}:OpL).op={x.op with r:=R,s:=S}:=rfl
def Bn:List UInt8:=[115,105,103,110]
def Md (x:OpL) (secret:Nat) (w:World) (r:Ending) (w':World):Prop:=
 r=.returned (.agg ({x with r:=Sg.r secret x.op.bare,s:=Sg.s secret x.op.bare}:OpL).cells)/\Fr Non w w'
theorem Yz (x:OpL) (u:Nat) (w:World) (hu:IntKind.u64.wrap x.by_=(u:Int)) (hu':u<18446744073709551616) (hat:x.at w w.heap.size) (hok:x.op.ok):
  Calls zp 103 #[.agg x.cells] w (Md x (sec Bn u) w):=by
 have hi:(zp.info? 55).map (·.size)=some 27:=by kernel_rfl
 have ak:Blk ((w.alloc (.cells x.cells 55)).alloc (.cells zO 55)).drew w.heap.size 55 x.cells:=((Blk.new w 55 _).alloc _).drew
 have az:Blk ((w.alloc (.cells x.cells 55)).alloc (.cells zO 55)).drew (w.heap.size+1) 55 zO:=by
  have:=(Blk.new (w.alloc (.cells x.cells 55)) 55 zO).drew;rwa [Au0] at this
 have ag:Fr Non w ((w.alloc (.cells x.cells 55)).alloc (.cells zO 55)).drew:=(((Fr.refl Non w).alloc _).alloc _).drew;have a0:=OpL.frame hat ag;have hs:=Hq Bn u;have k1:Hid (∀w':World,Calls zp 101 #[.string ⟨#[115,105,103,110]⟩,.int .i64 x.by_] w' (Cq (sec Bn u) w')):=fun w'=>Qm Bn x.by_ u w' hu hu' (by decide);have kb:=lh (fun w' (h:x.at w' w'.heap.size)=>Lq x w' h hok);have lb:=Op.bare_len x.op hok;have ks:=lh (fun (A:Option Addr) (c:Nat) (w':World) (B:Nat) (h:Own w' B 5 1 A x.op.bare.length c (x.op.bare.map Bv))=>Yx (sec Bn u) w'.heap.size x.op.bare.length c A x.op.bare w' (by omega) rfl (by omega) (At2 _) h.rd);have ab:∀(R S:Nat) (w':World),Sg.r (sec Bn u) x.op.bare=R->Sg.s (sec Bn u) x.op.bare=S->({x with r:=R,s:=S}:OpL).at w' w'.heap.size->Fr Non w w'->Md x (sec Bn u) w (.returned (.agg ({x with r:=R,s:=S}:OpL).cells)) w':=fun R S w' h1 h2 h3 h4=>by subst h1;subst h2;exact ⟨rfl,h4⟩
 obtain ⟨D,hD⟩:=Aa x.op.bare;rw [hD.out] at kb lb ks ab;generalize sec Bn u=V at*;obtain ⟨R,hR⟩:=Aa (Sg.r V D);obtain ⟨S,hS⟩:=Aa (Sg.s V D);unfold Qg Hp at ks;rw [hR.out,hS.out] at ks;have aa:=lh (fun w'=>ab R S w' hR.out hS.out);generalize Md x V w=POST at aa ⊢;have ba:=B0 (P:=zp) w.heap.size 55 underlying55 rfl (cs:=x.cells) hi;have ad:=lh hat;clear ab hat hok hs hD hR hS hu hu';go_enter func103,ntmps103;go_upto_region 1 with (fail)
 generalize (w.alloc (.cells x.cells 55)).alloc (.cells zO 55)=w0 at*;have c0:cI w0.drew w.heap.size 0 x.by_:=ak.cell 0;have f0:Fr Non w0.drew w0.drew:=Fr.refl _ _
 go_region_with (first
  |(go_at_call 101;(with_reducible refine (k1.out _).mono ?_);rintro _ v1 ⟨rfl,f1⟩;have a2:=ak.fr f1 zq;have ai:=OpL.frame a0 f1;have aq:=az.fr f1 zq;have ao:=ag.trans f1 zr)
  |(go_at_call 56;(with_reducible refine (kb.out _ ai).mono ?_);rintro _ v2 ⟨A2,c2,rfl,o2,f2⟩;have ar:=a2.fr f2 zq;have ay:=OpL.frame ai f2;have av:=aq.fr f2 zq;have a1:=ao.trans f2 zr)
  |(go_at_call 158;(with_reducible refine (ks.out _ _ _ _ o2).mono ?_);rintro _ v3 ⟨rfl,f3⟩;have ae:=ar.fr f3 zq;have bb:=OpL.frame ay f3;have ax:=av.fr f3 zq;have a4:=a1.trans f3 zr;have a8:v3.cell? ⟨w.heap.size,25,none⟩=some _:=ae.cell 25;have a9:v3.cell? ⟨w.heap.size,26,none⟩=some _:=ae.cell 26;have bc:=ae.frozen 25;have a7:=ae.frozen 26))
 all_goals
  have al:Blk _ w.heap.size 55 ({x with r:=R,s:=S}:OpL).cells:=(ae.set 25 (.int .u64 (R:Int))).set 26 (.int .u64 (S:Int));have a3:=((Fr.refl (One w.heap.size) v3).setOne 25 (.int .u64 (R:Int))).setOne 26 (.int .u64 (S:Int));have aw:=ax.fr a3 (fun e=>by have e':w.heap.size+1=w.heap.size:=e;omega);have aj:=(a4.setNew (At2 _) 25 (.int .u64 (R:Int))).setNew (At2 _) 26 (.int .u64 (S:Int));have ah:=Qo (OpL.frame ad.out aj) R S;generalize (v3.setCell ⟨w.heap.size,25,none⟩ (.int .u64 (R:Int))).setCell ⟨w.heap.size,26,none⟩ (.int .u64 (S:Int))=w4 at*;have ac:=Ek ({x with r:=R,s:=S}:OpL)
  have a6:Hid (∀wz,Fr (One (w.heap.size+1)) w4 wz->POST (.returned (.agg ({x with r:=R,s:=S}:OpL).cells)) wz):=by
   intro wz hf;have ap:=aj.trans hf (fun k hk e=>absurd hk (by have e':k=w.heap.size+1:=e;omega));exact aa.out wz (Qo (OpL.frame ad.out ap) R S) ap
  clear ah aa ad aj ak a2 ar ae az aq av ax a0 ai ay bb ag ao a1 a4 a8 a9 bc a7 a3 ba o2 f1 f2 f3 c0 f0;generalize ({x with r:=R,s:=S}:OpL)=v at al ac a6;have af:True:=trivial
  go_wp2_with (first
   |(have _t:=af;refine K9 rfl 55 (.tmp 1) rfl rfl al underlying55 rfl hi ?_;clear af _t)
   |(refine Hm rfl 55 (.tmp 2) (.tmp 10) rfl rfl rfl rfl aw hi rfl ac ?_;have a5:=(Fr.refl (One (w.heap.size+1)) w4).setRow (g:=w.heap.size+1) (fun _=>rfl) v.cells;have au:=aw.setRow (cs:=v.cells);generalize w4.setRow (w.heap.size+1) v.cells=wz at a5 au ⊢;(repeat (first|go_values|go_skip|go_guarded|go_step));exact C9 (t:=55) rfl rfl au rfl underlying55 (by kernel_rfl) rfl (a6.out wz a5)))
def Gb:List UInt8:=[108,101,97,100]
def Gc:List UInt8:=[107,101,101,112]
def Ce (i:Nat) (m:Int):Cd:=⟨(i:Int)+1,m,Sg.pub (sec Gb (i+1)),Sg.pub (sec Gc (i+1)),Sg.pub (sec Bn (i+1))⟩
def As (i:Nat):List Int->List Cd
 |[]=>[]
 |m::r=>Ce i m::As (i+1) r
theorem Hr (l:List Int):∀i,(As i l).length=l.length:=by
 induction l with
 |nil=>intro i;rfl
 |cons m r ih=>intro i;simp [As,ih]
theorem Y2 (l:List Int) (m:Int):∀i,As i (l++[m])=As i l++[Ce (i+l.length) m]:=by
 induction l with
 |nil=>intro i;rfl
 |cons x r ih=>
  intro i;show Ce i x::As (i+1) (r++[m])=_;rw [ih,List.length_cons,show i+1+r.length=i+(r.length+1) by omega];rfl
theorem slCd:SlT zp 23 96 (.agg zC) 5 40:=⟨underlying23,by kernel_rfl,rfl,by decide⟩
def Qp (l:List Int) (n:Nat) (w:World) (r:Ending) (w':World):Prop:=
 ∃A c,r=.returned (.slice A n c)/\Own w' w.heap.size 96 5 A n c ((As 0 l).flatMap Cd.cells)/\Fr Non w w'
theorem Y3 (n c:Nat) (A:Option Addr) (l:List Int) (w:World) (hn:Hid (l.length=n)) (hl:n<=1000) (hr:Rd w w.heap.size 1 A n (l.map Iv)):
  Calls zp 44 #[.slice A n c] w (Qp l n w):=by
 have ap:∀(kind:List UInt8) (k:Nat) (w':World),k<n->kind.length<=1000->Calls zp 101 #[.string (str kind),.int .i64 ((k:Int)+1)] w' (Cq (sec kind (k+1)) w'):=fun kind k w' hkn hkl=>Qm kind _ (k+1) w' (by rw [IntKind.wrap_u64];omega) (by omega) hkl;go_enter func44,ntmps44;go_wp2
 go_loopw [3,4] (fun s v wr=>∃(k:Nat) (A':Option Addr) (c':Nat),v=.int .i64 (k:Int)/\s=.slice A' k c'/\k<=n/\Own wr w.heap.size 96 5 A' k c' ((As 0 (l.take k)).flatMap Cd.cells)/\Fr Non w wr) (fun _ v _=>n-(intOf v).toNat)
 case atStart=>exact ⟨0,none,0,rfl,rfl,by omega,Own.nil _ _ _ _,Fr.refl _ _⟩
 case round=>
  obtain ⟨k,A',c',rfl,rfl,hk,ab,hf⟩:=hrel
  by_cases hlt:k<n
  ·
   obtain ⟨b,a5,v,rfl,hb,hu,hc⟩:=(hr.fr hf zr).at hlt;rw [Au4] at hu;obtain ⟨mm,a3,rfl⟩:=Option.map_eq_some_iff.1 hu
   have a4:l.take (k+1)=l.take k++[mm]:=by
    obtain ⟨hx,rfl⟩:=List.getElem?_eq_some_iff.1 a3;exact Au5 hx
   have a9:(l.take k).length=k:=by rw [List.length_take,hn.out];omega
   have bb:Hid (((As 0 (l.take (k+1))).flatMap Cd.cells)=(As 0 (l.take k)).flatMap Cd.cells++(Ce k mm).cells):=by
    show _=_;rw [a4,Y2,a9,Nat.zero_add,List.flatMap_append,List.flatMap_cons,List.flatMap_nil,List.append_nil]
   obtain ⟨V1,bc⟩:=Aa (sec Gb (k+1));obtain ⟨V2,aw⟩:=Aa (sec Gc (k+1));obtain ⟨V3,ax⟩:=Aa (sec Bn (k+1));have l1:=Hq Gb (k+1);have l2:=Hq Gc (k+1);have l3:=Hq Bn (k+1);have k1:Hid (∀w':World,Calls zp 101 #[.string ⟨#[108,101,97,100]⟩,.int .i64 ((k:Int)+1)] w' (Cq (sec Gb (k+1)) w')):=fun w'=>ap Gb k w' hlt (by decide);have k2:Hid (∀w':World,Calls zp 101 #[.string ⟨#[107,101,101,112]⟩,.int .i64 ((k:Int)+1)] w' (Cq (sec Gc (k+1)) w')):=fun w'=>ap Gc k w' hlt (by decide);have k3:Hid (∀w':World,Calls zp 101 #[.string ⟨#[115,105,103,110]⟩,.int .i64 ((k:Int)+1)] w' (Cq (sec Bn (k+1)) w')):=fun w'=>ap Bn k w' hlt (by decide);have p1:=lh (fun w'=>Jl (sec Gb (k+1)) w' (by omega));have p2:=lh (fun w'=>Jl (sec Gc (k+1)) w' (by omega));have p3:=lh (fun w'=>Jl (sec Bn (k+1)) w' (by omega))
   have ad:Hid ((Ce k mm).cells=[.int .i64 ((k:Int)+1),.int .i64 mm,.int .u64 (Sg.pub (sec Gb (k+1)):Int),.int .u64 (Sg.pub (sec Gc (k+1)):Int),.int .u64 (Sg.pub (sec Bn (k+1)):Int)]):=by
    show _=_;unfold Ce;exact W7 _ _ _ _ _
   rw [bc.out] at k1 p1 ad l1;rw [aw.out] at k2 p2 ad l2;rw [ax.out] at k3 p3 ad l3;obtain ⟨Q1,bd⟩:=Aa (Sg.pub V1);obtain ⟨Q2,a7⟩:=Aa (Sg.pub V2);obtain ⟨Q3,a2⟩:=Aa (Sg.pub V3);rw [bd.out] at p1 ad;rw [a7.out] at p2 ad;rw [a2.out] at p3 ad;have ag:Hid (∀(A2:Option Addr) (c2:Nat) (w2:World),Own w2 w.heap.size 96 5 A2 (k+1) c2 ((As 0 (l.take k)).flatMap Cd.cells++[.int .i64 ((k:Int)+1),.int .i64 mm,.int .u64 (Q1:Int),.int .u64 (Q2:Int),.int .u64 (Q3:Int)])->Own w2 w.heap.size 96 5 A2 (k+1) c2 ((As 0 (l.take (k+1))).flatMap Cd.cells)):=fun A2 c2 w2 h=>by rw [bb.out,ad.out];exact h
   clear bc aw ax bd a7 a2 bb ad a4 a9 a3 hu hn ap;obtain ⟨XS,bk⟩:=Aa ((As 0 (l.take k)).flatMap Cd.cells);rw [bk.out] at ab ag;have bn:b<w.heap.size:=hb;have ac:cI wr.drew b (a5+k) mm:=hc;have aj:Own wr.drew w.heap.size 96 5 A' k c' XS:=ab;have bf:=hf.drew;go_upto_region 6 with (fail)
   refine wp_region_held_drew (S:=fun w'=>cI w' b (a5+k) mm) (by kernel_rfl) ac (fun _=> ?_);refine tkH 0 ac (h:=?_);(try simp only [zl]);refine tkH 1 ac (h:=?_);(try simp only [zl]);refine tkH 2 ac (h:=?_);(try simp only [zl]);refine tkH 3 ac (h:=?_);(try simp only [zl]);refine tkH 4 ac (h:=?_);(try simp only [zl]);refine tkH 5 ac (h:=?_);(try simp only [zl]);refine tkH 6 ac (h:=?_);(try simp only [zl]);refine tkH 9 ac (h:=?_);(try simp only [zl]);refine tkH 12 ac (h:=?_);(try simp only [zl]);refine C5 7 (by kernel_rfl) rfl (by kernel_rfl) (fun K hK=> ?_);go_simp;go_wp2_with (go_at_call 101;(with_reducible refine (k1.out _).mono ?_);rintro _ v1 ⟨rfl,f1⟩;have a6:=f1.cell ac zq;have ao:=aj.fr f1 zr;have bg:=bf.trans f1 zr);refine hK.out _ _ a6 (fun _=> ?_);clear hK K;try simp only [Af,zl]
   refine C5 8 (by kernel_rfl) rfl (by kernel_rfl) (fun K hK=> ?_);go_simp;go_wp2_with (go_at_call 100;(with_reducible refine (p1.out _).mono ?_);rintro _ v2 ⟨rfl,f2⟩;have a1:=f2.cell a6 zq;have al:=ao.fr f2 zr;have bl:=bg.trans f2 zr);refine hK.out _ _ a1 (fun _=> ?_);clear hK K;try simp only [Af,zl]
   refine C5 10 (by kernel_rfl) rfl (by kernel_rfl) (fun K hK=> ?_);go_simp;go_wp2_with (go_at_call 101;(with_reducible refine (k2.out _).mono ?_);rintro _ v3 ⟨rfl,f3⟩;have a0:=f3.cell a1 zq;have af:=al.fr f3 zr;have bm:=bl.trans f3 zr);refine hK.out _ _ a0 (fun _=> ?_);clear hK K;try simp only [Af,zl]
   refine C5 11 (by kernel_rfl) rfl (by kernel_rfl) (fun K hK=> ?_);go_simp;go_wp2_with (go_at_call 100;(with_reducible refine (p2.out _).mono ?_);rintro _ v4 ⟨rfl,f4⟩;have be:=f4.cell a0 zq;have ai:=af.fr f4 zr;have bh:=bm.trans f4 zr);refine hK.out _ _ be (fun _=> ?_);clear hK K;try simp only [Af,zl]
   refine C5 13 (by kernel_rfl) rfl (by kernel_rfl) (fun K hK=> ?_);go_simp;go_wp2_with (go_at_call 101;(with_reducible refine (k3.out _).mono ?_);rintro _ v5 ⟨rfl,f5⟩;have ay:=f5.cell be zq;have ak:=ai.fr f5 zr;have bi:=bh.trans f5 zr);refine hK.out _ _ ay (fun _=> ?_);clear hK K;try simp only [Af,zl]
   refine C5 14 (by kernel_rfl) rfl (by kernel_rfl) (fun K hK=> ?_);go_simp;go_wp2_with (go_at_call 100;(with_reducible refine (p3.out _).mono ?_);rintro _ v6 ⟨rfl,f6⟩;have ar:=f6.cell ay zq;have ae:=ak.fr f6 zr;have a8:=bi.trans f6 zr);refine hK.out _ _ ar (fun _=> ?_);clear hK K;try simp only [Af,zl]
   refine tkH 15 ar (h:=?_);(try simp only [zl]);refine C5 16 (by kernel_rfl) rfl (by kernel_rfl) (fun K hK=> ?_);go_simp;have az:=Ld ar (.cells #[.int .i64 ((k:Int)+1),.int .i64 mm,.int .u64 (Q1:Int),.int .u64 (Q2:Int),.int .u64 (Q3:Int)] 96);have ah:=ae.alloc (.cells #[.int .i64 ((k:Int)+1),.int .i64 mm,.int .u64 (Q1:Int),.int .u64 (Q2:Int),.int .u64 (Q3:Int)] 96);have aq:=Rd.blk (n:=1) (size:=5) (Blk.new v6 96 #[.int .i64 ((k:Int)+1),.int .i64 mm,.int .u64 (Q1:Int),.int .u64 (Q2:Int),.int .u64 (Q3:Int)]) rfl;refine hK.out _ _ az (fun _=> ?_);clear hK K;go_simp;refine wpAnyH_ready (rs:=[17]) (by kernel_rfl) (by simp) (AllReadyH.cons rfl (fun K hK=> ?_) AllReadyH.nil);refine Kq (base:=w.heap.size) (.tmp 14) (.tmp 30) 23 (by rfl) (by rfl) (by rfl) (by rfl) slCd ah aq (by simp [Value.oneCell']) (by omega) (by omega) (by rw [Au0];have:=a8.size;omega) ?_;intro A2 c2 w9 au ba bj;have av:=ba.cell az (fun e=>by have h:w.heap.size<=b:=(ab.row b e).1;omega);refine hK.out _ _ av (fun _=> ?_);clear hK K;go_simp;refine tkH 18 av (h:=?_);(try simp only [zl]);refine oD ?_;go_wp2;go_roundw
   case rel=>exact ⟨k+1,A2,c2,by go_num,rfl,by omega,ag.out A2 c2 _ au,(a8.alloc _).trans ba (fun j hj e=>by have:=(ab.row j e).1;omega)⟩
   case measure=>simp [intOf];omega
  ·
   obtain rfl:k=n:=by omega
   have ht:l.take k=l:=Av0 (by rw [hn.out];exact At2 _);rw [ht] at ab;go_wp2
   go_ret
   exact ⟨A',c',rfl,ab,hf⟩
end Oq
namespace Oq
structure Pn where
 o:Op
 id:Id
 ps:Nat->Bool
 lev:Nat
def Ag.pn (n:Ag):Pn:=⟨n.x.op,n.id,n.past,n.lev⟩
def Gph.pns (g:Gph):List Pn:=g.nodes.map Ag.pn
def plc (l:List Pn) (id:Id):Option Nat:=l.findIdx? (fun n=>decide (n.id=id))
theorem Gd (l:List Ag) (id:Id):plc (l.map Ag.pn) id=place l id:=by
 unfold plc place;rw [List.findIdx?_map];rfl
theorem Bo {l:List Pn} {id:Id} {i:Nat} (h:plc l id=some i):∃n,l[i]? =some n/\n.id=id:=by
 obtain ⟨hi,h1,_⟩:=List.findIdx?_eq_some_iff_getElem.1 h;exact ⟨l[i],Av1 hi,by simpa using h1⟩
theorem E4 {l:List Pn} {id:Id} {i:Nat} (h:plc l id=some i):i<l.length:=by
 obtain ⟨n,hn,_⟩:=Bo h;exact (List.getElem?_eq_some_iff.1 hn).1
def Cn (l:List Pn) (ids:List Id) (q:Nat):Bool:=ids.any (fun id=>plc l id==some q)
def upB (l:List Pn) (id:Id) (q:Nat):Bool:=match plc l id with|some i=>(l[i]?.map (fun n=>n.ps q)).getD false|none=>false
def B1 (l:List Pn) (ids:List Id) (q:Nat):Bool:=ids.any (fun id=>upB l id q)
def Cf (l:List Pn) (id:Id):Int:=match plc l id with|some i=>(l[i]?.map (fun n=>n.o.at_)).getD 0|none=>0
def late (l:List Pn) (ids:List Id):Int:=ids.foldl (fun t id=>max t (Cf l id)) 0
def Bp (l:List Pn) (id:Id):Nat:=match plc l id with|some i=>(l[i]?.map (fun n=>n.lev)).getD 0|none=>0
def lvl (l:List Pn) (ids:List Id):Nat:=ids.foldl (fun t id=>max t (Bp l id+1)) 1
def clash (l:List Pn) (ids:List Id):Bool:=(Au6 256).any (fun q=>Cn l ids q&&B1 l ids q)
def Av (l:List Pn) (p:Nat->Bool) (d:Int):Nat->Int
 |0=>0
 |k+1=>match l[k]? with
  |some n=>if (n.o.by_==d&&p k)=true then max (Av l p d k) n.o.sq else Av l p d k
  |none=>Av l p d k
def C6 (l:List Pn) (p:Nat->Bool) (d s:Int):Nat->Bool
 |0=>false
 |k+1=>match l[k]? with
  |some n=>C6 l p d s k||(n.o.by_==d&&p k&&n.o.sq==s-1)
  |none=>C6 l p d s k
def Ah (l:List Pn) (ids:List Id) (q:Nat):Bool:=decide (q<256)&&(B1 l ids q||Cn l ids q)
def Cg (l:List Pn) (p:Nat->Bool) (o:Op):Bool:=decide (o.sq<=Av l p o.by_ l.length)||(decide (1<o.sq)&& !C6 l p o.by_ o.sq l.length)
def Op.name (o:Op):Id:=⟨o.by_,o.sq,o.id⟩
def Ea (cards:List Cd) (d:Int):Option Cd:=cards.find? (fun c=>c.d==d)
def Aj (cards:List Cd) (l:List Pn) (o:Op):Int:=
 if o.chk≠0 then o.chk
 else if (plc l o.name).isSome=true then 5
 else if 200<=l.length then 3
 else match Ea cards o.by_ with
  |none=>17
  |some c=>
   if Sg.check c.s o.bare o.r o.s=false then 12
   else if o.kind=1/\l≠[] then 1
   else if o.past.any (fun id=>(plc l id).isNone)=true then 10
   else if clash l o.past=true\/o.at_<late l o.past then 6
   else if Cg l (Ah l o.past) o=true then 11
   else 0
def Ak (l:List Pn) (o:Op):Pn:=⟨o,o.name,Ah l o.past,lvl l o.past⟩
theorem Dd {α:Type} {l:List α} {k:Nat} {x:α} (h:l[k]? =some x):l.take (k+1)=l.take k++[x]:=by
 obtain ⟨hk,rfl⟩:=List.getElem?_eq_some_iff.1 h;rw [Au5 hk]
theorem Y4 (l:List Pn) (ids:List Id) (k:Nat) {id:Id} (h:ids[k]? =some id):Cn l (ids.take (k+1))=fun q=>(plc l id==some q)||Cn l (ids.take k) q:=by
 funext q;unfold Cn;rw [Dd h,Au7];simp [Bool.or_comm]
theorem Y5 (l:List Pn) (ids:List Id) (k:Nat) {id:Id} (h:ids[k]? =some id):B1 l (ids.take (k+1))=fun q=>B1 l (ids.take k) q||upB l id q:=by
 funext q;unfold B1;rw [Dd h,Au7];simp
theorem Qq (l:List Pn) (ids:List Id) (k:Nat) {id:Id} (h:ids[k]? =some id):late l (ids.take (k+1))=max (late l (ids.take k)) (Cf l id):=by
 unfold late;rw [Dd h,Av2];rfl
theorem Y6 (l:List Pn) (ids:List Id) (k:Nat) {id:Id} (h:ids[k]? =some id):lvl l (ids.take (k+1))=max (lvl l (ids.take k)) (Bp l id+1):=by
 unfold lvl;rw [Dd h,Av2];rfl
theorem Qr (l:List Pn) (m:Int) (hm:0<=m) (h:∀n∈l,n.o.at_<=m) (ids:List Id):late l ids<=m:=by
 have hat:∀id,Cf l id<=m:=by
  intro id;unfold Cf
  split
  ·
   rename_i i hi;obtain ⟨n,hn,_⟩:=Bo hi;rw [hn];exact h n (Au1 hn)
  · exact hm
 unfold late
 suffices H:∀(t:Int),t<=m->ids.foldl (fun t id=>max t (Cf l id)) t<=m from H 0 hm
 intro t
 induction ids generalizing t with
 |nil=>intro h;exact h
 |cons id r ih=>intro h;exact ih _ (by have:=hat id;dsimp only;omega)
theorem Y7 (l:List Pn) (m:Nat) (h:∀n∈l,n.lev<=m) (ids:List Id):lvl l ids<=m+1:=by
 have hat:∀id,Bp l id<=m:=by
  intro id;unfold Bp
  split
  ·
   rename_i i hi;obtain ⟨n,hn,_⟩:=Bo hi;rw [hn];exact h n (Au1 hn)
  · omega
 unfold lvl
 suffices H:∀(t:Nat),t<=m+1->ids.foldl (fun t id=>max t (Bp l id+1)) t<=m+1 from H 1 (by omega)
 intro t
 induction ids generalizing t with
 |nil=>intro h;exact h
 |cons id r ih=>intro h;exact ih _ (by have:=hat id;dsimp only;omega)
theorem Y8 (ws:List Nat) (h:ws.length=4) (k:Nat) (hk:256<=k):((ws.getD (k/64) 0).testBit (k%64))=false:=by
 rw [List.getD_eq_getElem?_getD,Av3 (by omega)];simp
theorem Y9 {n:Ag} {m:Nat->Bool} (h:Am n.ws m):n.past=fun q=>decide (q<256)&&m q:=by
 funext q;unfold Ag.past
 by_cases hq:q<256
 ·
  rw [<- h.bit q hq];simp [hq]
 ·
  rw [Y8 n.ws rfl q (by omega)];simp [hq]
theorem Za {a0 a1 a2 a3:Nat} {m:Nat->Bool} (h:Am [a0,a1,a2,a3] m):(a0==0&&a1==0&&a2==0&&a3==0)=!(Au6 256).any m:=by
 rw [Bool.eq_iff_iff];simp only [At5,beq_iff_eq,Bool.not_eq_true',Av4,List.mem_range];constructor
 ·
  rintro ⟨⟨⟨rfl,rfl⟩,rfl⟩,rfl⟩ q hq;rw [h.bit q hq];have hq4:q/64=0\/q/64=1\/q/64=2\/q/64=3:=by omega
  rcases hq4 with e|e|e|e<;>rw [e]<;>simp
 ·
  intro hz
  have key:∀k,k<4->[a0,a1,a2,a3].getD k 0=0:=by
   intro k hk;refine Nat.eq_of_testBit_eq (fun j=> ?_);rw [Nat.zero_testBit]
   by_cases hj:j<64
   ·
    have h1:=h.bit (64*k+j) (by omega);have h2:=hz (64*k+j) (by omega);rw [show (64*k+j)/64=k by omega,show (64*k+j)%64=j by omega] at h1;rw [<- h1];simpa using h2
   ·
    have hu:=h.u64 k
    exact Nat.testBit_lt_two_pow (Av5 hu (by
     have:(2:Nat)^64<=2^j:=Nat.pow_le_pow_right (by decide) (by omega);exact Nat.le_trans (by decide) this))
  exact ⟨⟨⟨key 0 (by omega),key 1 (by omega)⟩,key 2 (by omega)⟩,key 3 (by omega)⟩
inductive Rows (cards:List Cd):List Pn->Prop
 |nil:Rows cards []
 |snoc (l:List Pn) (o:Op):Rows cards l->Aj cards l o=0->Rows cards (l++[Ak l o])
structure Qs (cards:List Cd) (l:List Pn) (o:Op):Prop where
 chk:o.chk=0
 new:plc l o.name=none
 room:l.length<200
 card:(Ea cards o.by_).isSome=true
 past:∀id∈o.past,∃i,plc l id=some i
 clash:clash l o.past=false
 late:late l o.past<=o.at_
 seq:Cg l (Ah l o.past) o=false
theorem Jm {cards:List Cd} {l:List Pn} {o:Op} (h:Aj cards l o=0):Qs cards l o:=by
 unfold Aj at h
 by_cases h1:o.chk≠0
 · rw [if_pos h1] at h;exact absurd h h1
 rw [if_neg h1] at h
 by_cases h2:(plc l o.name).isSome=true
 · rw [if_pos h2] at h;omega
 rw [if_neg h2] at h
 by_cases h3:200<=l.length
 · rw [if_pos h3] at h;omega
 rw [if_neg h3] at h
 cases hc:Ea cards o.by_ with
 |none=>rw [hc] at h;dsimp only at h;omega
 |some c=>
  rw [hc] at h;dsimp only at h
  by_cases h4:Sg.check c.s o.bare o.r o.s=false
  · rw [if_pos h4] at h;omega
  rw [if_neg h4] at h
  by_cases h5:o.kind=1/\l≠[]
  · rw [if_pos h5] at h;omega
  rw [if_neg h5] at h
  by_cases h6:o.past.any (fun id=>(plc l id).isNone)=true
  · rw [if_pos h6] at h;omega
  rw [if_neg h6] at h
  by_cases h7:Oq.clash l o.past=true\/o.at_<Oq.late l o.past
  · rw [if_pos h7] at h;omega
  rw [if_neg h7] at h
  by_cases h8:Cg l (Ah l o.past) o=true
  · rw [if_pos h8] at h;omega
  refine ⟨Decidable.not_not.1 h1,?_,by omega,by rw [hc];rfl,?_,?_,?_,Bool.not_eq_true _▸h8⟩
  ·
   cases hp:plc l o.name with
   |none=>rfl
   |some i=>rw [hp] at h2;exact absurd rfl h2
  ·
   intro id hid
   cases hp:plc l id with
   |some i=>exact ⟨i,rfl⟩
   |none=>exact absurd (List.any_eq_true.2 ⟨id,hid,by rw [hp];rfl⟩) h6
  ·
   cases hcl:Oq.clash l o.past with
   |false=>rfl
   |true=>exact absurd (Or.inl hcl) h7
  · exact Int.not_lt.1 (fun hh=>h7 (Or.inr hh))
theorem E5 {l:List Pn} {id:Id} {i:Nat} (n:Pn) (h:plc l id=some i):plc (l++[n]) id=some i:=by
 unfold plc at h ⊢;rw [Av6,h];rfl
theorem Zb {l:List Pn} {n:Pn} (h:plc l n.id=none):plc (l++[n]) n.id=some l.length:=by
 unfold plc at h ⊢;rw [Av6,h];simp
theorem Jn {l:List Pn} {p:Nat} {m n:Pn} (h:l[p]? =some m):(l++[n])[p]? =some m:=by
 obtain ⟨hp,hm⟩:=List.getElem?_eq_some_iff.1 h;rw [As9 hp];exact h
structure NOk (cards:List Cd) (l:List Pn) (i:Nat) (n:Pn):Prop where
 id:n.id=n.o.name
 plc:plc l n.id=some i
 chk:n.o.chk=0
 card:(Ea cards n.o.by_).isSome=true
 par:∀id∈n.o.past,∃p,p<i/\Oq.plc l id=some p
 lt:∀q,n.ps q=true->q<i
 ps:∀q,n.ps q=true<->∃id∈n.o.past,∃p m,Oq.plc l id=some p/\l[p]? =some m/\(q=p\/m.ps q=true)
 anti:∀id∈n.o.past,∀id'∈n.o.past,∀p p' m,Oq.plc l id=some p->Oq.plc l id'=some p'->l[p]? =some m->m.ps p'=false
 late:∀id∈n.o.past,∀p m,Oq.plc l id=some p->l[p]? =some m->m.o.at_<=n.o.at_
 lev:n.lev=lvl l n.o.past
 seqs:∀q m,n.ps q=true->l[q]? =some m->m.o.by_=n.o.by_->m.o.sq<n.o.sq
 one:n.o.sq=1\/∃q m,n.ps q=true/\l[q]? =some m/\m.o.by_=n.o.by_/\m.o.sq=n.o.sq-1
theorem Me {l l':List Pn} {ids:List Id} (h:∀id∈ids,Bp l' id=Bp l id):lvl l' ids=lvl l ids:=by
 unfold lvl
 suffices H:∀t:Nat,ids.foldl (fun t id=>max t (Bp l' id+1)) t=ids.foldl (fun t id=>max t (Bp l id+1)) t from H 1
 induction ids with
 |nil=>intro t;rfl
 |cons x r ih=>intro t;rw [List.foldl_cons,List.foldl_cons,h x List.mem_cons_self];exact ih (fun y hy=>h y (List.mem_cons_of_mem _ hy)) _
theorem NOk.keep {cards:List Cd} {l:List Pn} {i:Nat} {n n':Pn} (h:NOk cards l i n) (hi:l[i]? =some n):NOk cards (l++[n']) i n:=by
 have hil:i<l.length:=(List.getElem?_eq_some_iff.1 hi).1
 have hpar:∀id∈n.o.past,∀p,Oq.plc (l++[n']) id=some p->Oq.plc l id=some p:=by
  intro id hid p hp;obtain ⟨q,_,hq⟩:=h.par id hid;rw [E5 n' hq] at hp;injection hp with hp
  subst hp;exact hq
 have hat:∀id∈n.o.past,∀p m,Oq.plc l id=some p->(l++[n'])[p]? =some m->l[p]? =some m:=by
  intro id hid p m hp hm;rw [As9 (E4 hp)] at hm;exact hm
 have hlow:∀q m,n.ps q=true->(l++[n'])[q]? =some m->l[q]? =some m:=by
  intro q m hq hm;rw [As9 (Nat.lt_trans (h.lt q hq) hil)] at hm;exact hm
 refine ⟨h.id,E5 n' h.plc,h.chk,h.card,fun id hid=> ?_,h.lt,fun q=>(h.ps q).trans ⟨?_,?_⟩,?_,?_,?_,?_,?_⟩
 ·
  obtain ⟨p,hp,hq⟩:=h.par id hid;exact ⟨p,hp,E5 n' hq⟩
 ·
  rintro ⟨id,hid,p,m,h1,h2,h3⟩;exact ⟨id,hid,p,m,E5 n' h1,Jn h2,h3⟩
 ·
  rintro ⟨id,hid,p,m,h1,h2,h3⟩;have h1':=hpar id hid p h1;exact ⟨id,hid,p,m,h1',hat id hid p m h1' h2,h3⟩
 ·
  intro id hid id' hid' p p' m h1 h2 h3;have h1':=hpar id hid p h1;exact h.anti id hid id' hid' p p' m h1' (hpar id' hid' p' h2) (hat id hid p m h1' h3)
 ·
  intro id hid p m h1 h2;have h1':=hpar id hid p h1;exact h.late id hid p m h1' (hat id hid p m h1' h2)
 ·
  rw [h.lev];refine (Me (fun id hid=> ?_)).symm;obtain ⟨p,_,hq⟩:=h.par id hid;unfold Bp;rw [E5 n' hq,hq];dsimp only;rw [As9 (E4 hq)]
 ·
  intro q m hq hm;exact h.seqs q m hq (hlow q m hq hm)
 ·
  rcases h.one with h1|⟨q,m,h1,h2,h3⟩
  · exact .inl h1
  · exact .inr ⟨q,m,h1,Jn h2,h3⟩
theorem upB_iff {l:List Pn} {id:Id} {q:Nat}:upB l id q=true<->∃p m,plc l id=some p/\l[p]? =some m/\m.ps q=true:=by
 unfold upB;constructor
 ·
  intro h
  split at h
  ·
   rename_i p hp;obtain ⟨m,hm,_⟩:=Bo hp;rw [hm] at h;exact ⟨p,m,hp,hm,h⟩
  · cases h
 ·
  rintro ⟨p,m,h1,h2,h3⟩;rw [h1];dsimp only;rw [h2];exact h3
theorem Qt {l:List Pn} {ids:List Id} (hlen:l.length<=200) (hlt:∀(p:Nat) (m:Pn),l[p]? =some m->∀q,m.ps q=true->q<p) (q:Nat):
  Ah l ids q=true<->∃id∈ids,∃p m,plc l id=some p/\l[p]? =some m/\(q=p\/m.ps q=true):=by
 unfold Ah B1 Cn;rw [At5,Bool.or_eq_true,Av7,Av7,decide_eq_true_eq];constructor
 ·
  rintro ⟨_,⟨id,hid,h⟩|⟨id,hid,h⟩⟩
  ·
   obtain ⟨p,m,h1,h2,h3⟩:=upB_iff.1 h;exact ⟨id,hid,p,m,h1,h2,.inr h3⟩
  ·
   have h1:plc l id=some q:=by simpa using h
   obtain ⟨m,hm,_⟩:=Bo h1;exact ⟨id,hid,q,m,h1,hm,.inl rfl⟩
 ·
  rintro ⟨id,hid,p,m,h1,h2,h3⟩;have hp:=E4 h1
  rcases h3 with rfl|h3
  · exact ⟨by omega,.inr ⟨id,hid,by rw [h1];exact beq_self_eq_true _⟩⟩
  ·
   have:=hlt p m h2 q h3;exact ⟨by omega,.inl ⟨id,hid,upB_iff.2 ⟨p,m,h1,h2,h3⟩⟩⟩
theorem Qu {l:List Pn} {ids:List Id} {id:Id} (h:id∈ids):Cf l id<=late l ids:=by
 unfold late
 have mono:∀(r:List Id) (t:Int),t<=r.foldl (fun t id=>max t (Cf l id)) t:=by
  intro r
  induction r with
  |nil=>intro t;exact Int.le_refl _
  |cons y r ih=>intro t;exact At6 (Au8 _ _) (ih _)
 suffices H:∀t:Int,Cf l id<=ids.foldl (fun t id=>max t (Cf l id)) t from H 0
 induction ids with
 |nil=>cases h
 |cons x r ih=>
  intro t
  rcases List.mem_cons.1 h with rfl|h'
  · exact At6 (Int.le_max_right t _) (mono r _)
  · exact ih h' _
theorem Ht {l:List Pn} {id:Id} {p:Nat} {m:Pn} (h1:plc l id=some p) (h2:l[p]? =some m):Cf l id=m.o.at_:=by
 unfold Cf;rw [h1];dsimp only;rw [h2];rfl
theorem Qw {l:List Pn} {id:Id} {p:Nat} {m:Pn} (h1:plc l id=some p) (h2:l[p]? =some m):Bp l id=m.lev:=by
 unfold Bp;rw [h1];dsimp only;rw [h2];rfl
theorem Mf {l:List Pn} {p:Nat->Bool} {d:Int}:∀{K k:Nat} {m:Pn},k<K->l[k]? =some m->m.o.by_=d->p k=true->m.o.sq<=Av l p d K:=by
 intro K
 induction K with
 |zero=>intro k m h;omega
 |succ K ih=>
  intro k m h hm hd hp;unfold Av
  rcases Au9 k K with hk|hk
  ·
   have:=ih hk hm hd hp
   split
   ·
    split
    · exact At6 this (Au8 _ _)
    · exact this
   · exact this
  ·
   have e:k=K:=by omega
   subst e;rw [hm];dsimp only;rw [if_pos (by rw [At5];exact ⟨beq_iff_eq.2 hd,hp⟩)];exact Int.le_max_right _ _
theorem aheadTo_iff {l:List Pn} {p:Nat->Bool} {d s:Int}:∀{K:Nat},C6 l p d s K=true<->∃k m,k<K/\l[k]? =some m/\m.o.by_=d/\p k=true/\m.o.sq=s-1:=by
 intro K
 induction K with
 |zero=>exact ⟨fun h=>(by cases h),fun ⟨k,m,h,_⟩=>by omega⟩
 |succ K ih=>
  unfold C6
  cases hK:l[K]? with
  |none=>
   dsimp only;rw [ih];constructor
   ·
    rintro ⟨k,m,h,h'⟩;exact ⟨k,m,by omega,h'⟩
   ·
    rintro ⟨k,m,h,h1,h'⟩;have:k≠K:=fun e=>by subst e;rw [hK] at h1;cases h1
    exact ⟨k,m,by omega,h1,h'⟩
  |some n=>
   dsimp only;rw [Bool.or_eq_true,ih,At5,At5,beq_iff_eq,beq_iff_eq];constructor
   ·
    rintro (⟨k,m,h,h'⟩|⟨⟨h1,h2⟩,h3⟩)
    · exact ⟨k,m,by omega,h'⟩
    · exact ⟨K,n,by omega,hK,h1,h2,h3⟩
   ·
    rintro ⟨k,m,h,h1,h2,h3,h4⟩
    rcases Au9 k K with hk|hk
    · exact .inl ⟨k,m,hk,h1,h2,h3,h4⟩
    ·
     have e:k=K:=by omega
     subst e;rw [hK] at h1;injection h1 with h1
     subst h1;exact .inr ⟨⟨h2,h3⟩,h4⟩
theorem Zc {cards:List Cd} {l:List Pn} {o:Op} (hl:∀i n,l[i]? =some n->NOk cards l i n) (T:Qs cards l o):NOk cards (l++[Ak l o]) l.length (Ak l o):=by
 have al:∀(p:Nat) (m:Pn),l[p]? =some m->∀q,m.ps q=true->q<p:=fun p m hm=>(hl p m hm).lt;have ak:=Qt (ids:=o.past) (Nat.le_of_lt T.room) al
 have ac:∀id∈o.past,∀p,plc (l++[Ak l o]) id=some p->plc l id=some p:=by
  intro id aa p hp;obtain ⟨q,hq⟩:=T.past id aa;rw [E5 _ hq] at hp;injection hp with hp
  subst hp;exact hq
 have ah:∀id∈o.past,∀p m,plc l id=some p->(l++[Ak l o])[p]? =some m->l[p]? =some m:=by
  intro id aa p m hp hm;rw [As9 (E4 hp)] at hm;exact hm
 have af:∀q,Ah l o.past q=true->q<l.length:=by
  intro q hq;obtain ⟨id,aa,p,m,h1,h2,h3⟩:=(ak q).1 hq;have:=E4 h1
  rcases h3 with rfl|h3
  · exact this
  ·
   have:=al p m h2 q h3;omega
 have ab:=T.seq;unfold Cg at ab;rw [Bool.or_eq_false_iff,decide_eq_false_iff_not] at ab;refine ⟨rfl,Zb (n:=Ak l o) T.new,T.chk,T.card,?_,af,fun q=>(ak q).trans ⟨?_,?_⟩,?_,?_,?_,?_,?_⟩
 ·
  intro id aa;obtain ⟨p,hp⟩:=T.past id aa;exact ⟨p,E4 hp,E5 _ hp⟩
 ·
  rintro ⟨id,aa,p,m,h1,h2,h3⟩;exact ⟨id,aa,p,m,E5 _ h1,Jn h2,h3⟩
 ·
  rintro ⟨id,aa,p,m,h1,h2,h3⟩;have ad:=ac id aa p h1;exact ⟨id,aa,p,m,ad,ah id aa p m ad h2,h3⟩
 ·
  intro id aa ai ae p p' m h1 h2 h3;have ad:=ac id aa p h1;have ag:=ac ai ae p' h2;have ao:=ah id aa p m ad h3;have ap:=T.room;have aq:=E4 ag;have hc:=T.clash;unfold Oq.clash at hc;rw [Av4] at hc;have hq:=hc p' (List.mem_range.2 (by omega))
  cases hm:m.ps p' with
  |false=>rfl
  |true=>
   refine absurd ?_ hq;rw [At5];exact ⟨List.any_eq_true.2 ⟨ai,ae,by rw [ag];exact beq_self_eq_true _⟩,List.any_eq_true.2 ⟨id,aa,upB_iff.2 ⟨p,m,ad,ao,hm⟩⟩⟩
 ·
  intro id aa p m h1 h2;have ad:=ac id aa p h1;have ag:=ah id aa p m ad h2;have:=Qu (l:=l) aa;rw [Ht ad ag] at this;exact At6 this T.late
 ·
  refine (Me (l:=l) (l':=l++[Ak l o]) (fun id aa=> ?_)).symm;obtain ⟨p,hq⟩:=T.past id aa;unfold Bp;rw [E5 _ hq,hq];dsimp only;rw [As9 (E4 hq)]
 ·
  intro q m hq hm hb;have aj:=af q hq;rw [As9 aj] at hm;have:=Mf (p:=Ah l o.past) aj hm hb hq;exact Int.lt_of_le_of_lt this (Int.not_le.1 ab.1)
 ·
  rcases Int.lt_or_le 1 o.sq with h1|h1
  ·
   have h2:=ab.2;rw [Bool.and_eq_false_iff] at h2
   rcases h2 with h2|h2
   ·
    rw [decide_eq_false_iff_not] at h2;exact absurd h1 h2
   ·
    have h3:C6 l (Ah l o.past) o.by_ o.sq l.length=true:=by
     cases ha:C6 l (Ah l o.past) o.by_ o.sq l.length with
     |true=>rfl
     |false=>rw [ha] at h2;cases h2
    obtain ⟨k,m,hk,hm,hb,hp,hs⟩:=aheadTo_iff.1 h3;exact .inr ⟨k,m,hp,Jn hm,hb,hs⟩
  ·
   refine .inl ?_
   have h0:∀K,0<=Av l (Ah l o.past) o.by_ K:=by
    intro K
    induction K with
    |zero=>exact Int.le_refl _
    |succ K ih=>
     unfold Av
     split
     ·
      split
      · exact At6 ih (Au8 _ _)
      · exact ih
     · exact ih
   have h2:=h0 l.length;have h3:=Int.not_le.1 ab.1;have h4:(Ak l o).o.sq=o.sq:=rfl;rw [h4];omega
theorem Rows.ok {cards:List Cd} {l:List Pn} (h:Rows cards l):∀i n,l[i]? =some n->NOk cards l i n:=by
 induction h with
 |nil=>intro i n h;simp at h
 |snoc l o hl ho ih=>
  intro i n hi
  rcases Au9 i l.length with hlt|hge
  ·
   rw [As9 hlt] at hi;exact (ih i n hi).keep hi
  ·
   rw [List.getElem?_append_right hge] at hi
   have e:i-l.length=0:=by
    rcases Nat.eq_zero_or_pos (i-l.length) with h0|h0
    · exact h0
    · rw [Av3 (by simp;omega)] at hi;cases hi
   rw [e] at hi;injection hi with hi
   subst hi;have:i=l.length:=by omega
   subst this;exact Zc ih (Jm ho)
theorem Rows.few {cards:List Cd} {l:List Pn} (h:Rows cards l):l.length<=200:=by
 induction h with
 |nil=>simp
 |snoc l o hl ho ih=>
  have:=(Jm ho).room;simp;omega
theorem Rows.trans {cards:List Cd} {l:List Pn} (h:Rows cards l):∀(i:Nat) {n m:Pn} {q r:Nat},l[i]? =some n->n.ps q=true->l[q]? =some m->m.ps r=true->n.ps r=true:=by
 intro i
 induction i using Nat.strongRecOn with
 |_ i ih=>
  intro n m q r hn hq hm hr;have k:=h.ok i n hn;obtain ⟨id,hid,p,m',h1,h2,h3⟩:=(k.ps q).1 hq;refine (k.ps r).2 ⟨id,hid,p,m',h1,h2,.inr ?_⟩
  rcases h3 with rfl|h3
  ·
   rw [h2] at hm;injection hm with hm
   subst hm;exact hr
  ·
   obtain ⟨p2,hp2,e⟩:=k.par id hid;rw [h1] at e;injection e with e
   subst e;exact ih p hp2 h2 h3 hm hr
theorem Rows.node {cards:List Cd} {l:List Pn} (h:Rows cards l) {i:Nat} {n:Pn} {id:Id} (hn:l[i]? =some n):plc l id=some i<->n.id=id:=by
 constructor
 ·
  intro hp;obtain ⟨m,hm,e⟩:=Bo hp;rw [hn] at hm;injection hm with hm
  subst hm;exact e
 ·
  rintro rfl;exact (h.ok i n hn).plc
def upOf (l:List Pn) (ids:List Id):List Nat:=ids.map (fun id=>(plc l id).getD 0)
def Zd (l:List Pn):List (List Nat):=l.map (fun n=>upOf l n.o.past)
def Ze (n:Nat) (p:Nat->Bool):List Bool:=(Au6 n).map p
def Zf (l:List Pn):List (List Bool):=l.map (fun n=>Ze l.length n.ps)
def RowLies (w:World) (base:Nat) (t:TypeId) (size:Nat) (A:Option Addr) (n c:Nat) (xs:List Value):Prop:=
 SlAt w w.heap.size size A n c xs/\(n=0\/∃k off cs fr,A=some ⟨k,off,none⟩/\base<=k/\w.heap[k]? =some (.cells cs t fr))
section
variable {S : Nat -> Prop} {P : TypeId -> Prop} {w w' : World} {base base' size n c : Nat} {t : TypeId} {A : Option Addr} {xs : List Value}
theorem RowAt.lies (h:RowAt w base t size A n c xs):RowLies w base t size A n c xs:=⟨h.1,h.2.imp zq (fun ⟨k,cs,fr,e,h1,h2,_⟩=>⟨k,0,cs,fr,e,h1,h2⟩)⟩
theorem RowLies.fr (h:RowLies w base t size A n c xs) (hf:Fr S w w') (hs:n≠0->∀k cs fr,Ab A=some k->w.heap[k]? =some (.cells cs t fr)->¬S k):RowLies w' base t size A n c xs:=by
 obtain ⟨⟨⟨h1,h2⟩,h3⟩,h4⟩:=h
 rcases h4 with h0|⟨k,o,cs,fr,rfl,hk,hb⟩
 · exact ⟨⟨⟨h1,.inl h0⟩,h3⟩,.inl h0⟩
 ·
  by_cases h0:n=0
  · exact ⟨⟨⟨h1,.inl h0⟩,h3⟩,.inl h0⟩
  ·
   have hkl:=(Array.getElem?_eq_some_iff.1 hb).1;have hbk:=hf.block k hkl (hs h0 k cs fr rfl hb);refine ⟨⟨⟨h1,?_⟩,h3⟩,.inr ⟨k,o,cs,fr,rfl,hk,hbk.trans hb⟩⟩
   rcases h2 with h2|⟨b,off,e,hlt,hc⟩
   · exact .inl h2
   ·
    injection e with e
    injection e with e1 e2
    subst e1 e2;exact .inr ⟨k,o,rfl,Av5 hkl hf.size,fun j u hu=>(World.cell?_of_block hbk).trans (hc j u hu)⟩
theorem RowLies.keepT (h:RowLies w base t size A n c xs) (hf:Fr S w w') (hS:∀k cs fr,w.heap[k]? =some (.cells cs t fr)->¬S k):RowLies w' base t size A n c xs:=h.fr hf (fun _ k cs fr _ hb=>hS k cs fr hb)
theorem RowLies.non (h:RowLies w base t size A n c xs) (hf:Fr Non w w'):RowLies w' base t size A n c xs:=h.fr hf (fun _ _ _ _ _ _ e=>e)
theorem RowLies.lower (h:RowLies w base t size A n c xs) (hb:base'<=base):RowLies w base' t size A n c xs:=
 ⟨h.1,h.2.imp id fun ⟨k,o,cs,fr,e,hk,r⟩=>⟨k,o,cs,fr,e,Nat.le_trans hb hk,r⟩⟩
end
structure OpL.lies (w:World) (base:Nat) (x:OpL):Prop where
 past:RowLies w base 48 3 x.pastA x.past.length x.pastC (x.past.flatMap Id.cells)
 path:RowLies w base 134 2 x.pathA x.path.length x.pathC (x.path.flatMap NdL.cells)
 nodes:∀y∈x.path,RowLies w base 125 4 y.A y.xs.length y.c (y.xs.flatMap Bx.cells)
 body:RowLies w base 5 1 x.bodyA x.body.length x.bodyC (x.body.map Bv)
 refs:RowLies w base 46 1 x.refsA x.refs.length x.refsC (x.refs.map Uv)
 guards:RowLies w base 3 1 x.guardsA x.guards.length x.guardsC (x.guards.map Iv)
 boxes:RowLies w base 125 4 x.boxesA x.boxes.length x.boxesC (x.boxes.flatMap Bx.cells)
 hist:RowLies w base 141 4 x.histA x.hist.length x.histC (x.hist.flatMap SlL.cells)
 seals:∀y∈x.hist,RowLies w base 5 1 y.A y.y.length y.c (y.y.map Bv)
theorem OpL.own.lies {w:World} {base:Nat} {x:OpL} (h:x.own w base):x.lies w base where
 past:=h.past.lies
 path:=h.path.lies
 nodes y hy:=(h.nodes y hy).lies
 body:=h.body.lies
 refs:=h.refs.lies
 guards:=h.guards.lies
 boxes:=h.boxes.lies
 hist:=h.hist.lies
 seals y hy:=(h.seals y hy).lies
theorem OpL.lies.at {w:World} {base:Nat} {x:OpL} (h:x.lies w base):x.at w w.heap.size where
 past:=h.past.1
 path:=h.path.1
 nodes y hy:=(h.nodes y hy).1
 body:=h.body.1
 refs:=h.refs.1
 guards:=h.guards.1
 boxes:=h.boxes.1
 hist:=h.hist.1
 seals y hy:=(h.seals y hy).1
theorem OpL.lies.lower {w:World} {base base':Nat} {x:OpL} (h:x.lies w base) (hb:base'<=base):x.lies w base' where
 past:=h.past.lower hb
 path:=h.path.lower hb
 nodes y hy:=(h.nodes y hy).lower hb
 body:=h.body.lower hb
 refs:=h.refs.lower hb
 guards:=h.guards.lower hb
 boxes:=h.boxes.lower hb
 hist:=h.hist.lower hb
 seals y hy:=(h.seals y hy).lower hb
theorem OpL.lies.keepP {S:Nat->Prop} {P:TypeId->Prop} {w w':World} {base:Nat} {x:OpL} (h:x.lies w base) (hf:Fr S w w') (hS:Types S w P) (h1:¬P 48) (h2:¬P 134) (h3:¬P 125) (h4:¬P 5) (h5:¬P 46) (h6:¬P 3) (h7:¬P 141):x.lies w' base where
 past:=h.past.keepT hf (hS.not h1)
 path:=h.path.keepT hf (hS.not h2)
 nodes y hy:=(h.nodes y hy).keepT hf (hS.not h3)
 body:=h.body.keepT hf (hS.not h4)
 refs:=h.refs.keepT hf (hS.not h5)
 guards:=h.guards.keepT hf (hS.not h6)
 boxes:=h.boxes.keepT hf (hS.not h3)
 hist:=h.hist.keepT hf (hS.not h7)
 seals y hy:=(h.seals y hy).keepT hf (hS.not h4)
theorem OpL.lies.non {w w':World} {base:Nat} {x:OpL} (h:x.lies w base) (hf:Fr Non w w'):x.lies w' base:=
 h.keepP (P:=fun _=>False) hf (fun _ _ _ _ _ e=>e.elim) zq zq zq zq zq zq zq
def OpL.past! (x:OpL) (A:Option Addr) (c:Nat) (ps:List Id):OpL:={x with pastA:=A,pastC:=c,past:=ps}
theorem OpL.lies.past! {w:World} {base c:Nat} {x:OpL} {A:Option Addr} {ps:List Id} (h:x.lies w base) (ho:RowLies w base 48 3 A ps.length c (ps.flatMap Id.cells)):(x.past! A c ps).lies w base:=
 ⟨ho,h.path,h.nodes,h.body,h.refs,h.guards,h.boxes,h.hist,h.seals⟩
def Qv (q:Nat):Value:=Iv (q:Int)
structure UpL where
 A:Option Addr
 c:Nat
 xs:List Nat
def UpL.cell (x:UpL):Value:=.slice x.A x.xs.length x.c
def UpL.own (w:World) (base:Nat) (x:UpL):Prop:=RowAt w base 3 1 x.A x.xs.length x.c (x.xs.map Qv)
structure InL where
 A:Option Addr
 c:Nat
 bs:List Bool
def InL.cell (x:InL):Value:=.slice x.A x.bs.length x.c
def InL.own (w:World) (base:Nat) (x:InL):Prop:=RowAt w base 4 1 x.A x.bs.length x.c (x.bs.map Value.bool)
structure RG where
 cA:Option Addr
 cC:Nat
 cards:List Cd
 lA:Option Addr
 lC:Nat
 xs:List OpL
 iA:Option Addr
 iC:Nat
 uA:Option Addr
 uC:Nat
 us:List UpL
 nA:Option Addr
 nC:Nat
 ns:List InL
 l:List Pn
def RG.ids (r:RG):List Id:=r.l.map Pn.id
def RG.cells (r:RG):Array Value:=#[.slice r.cA r.cards.length r.cC,.slice r.lA r.l.length r.lC,.slice r.iA r.l.length r.iC,.slice r.uA r.l.length r.uC,.slice r.nA r.l.length r.nC]
structure RG.own (w:World) (base:Nat) (r:RG):Prop where
 cards:RowAt w base 96 5 r.cA r.cards.length r.cC (r.cards.flatMap Cd.cells)
 ops:RowAt w base 55 27 r.lA r.l.length r.lC (r.xs.flatMap (fun x=>x.cells.toList))
 each:∀x∈r.xs,x.lies w base
 same:r.xs.map OpL.op=r.l.map Pn.o
 ok:∀n∈r.l,n.o.ok/\n.id.ok
 ids:RowAt w base 48 3 r.iA r.l.length r.iC (r.ids.flatMap Id.cells)
 ups:RowAt w base 22 1 r.uA r.l.length r.uC (r.us.map UpL.cell)
 eachU:∀x∈r.us,x.own w base
 sameU:r.us.map UpL.xs=Zd r.l
 ins:RowAt w base 70 1 r.nA r.l.length r.nC (r.ns.map InL.cell)
 eachN:∀x∈r.ns,x.own w base
 sameN:r.ns.map InL.bs=Zf r.l
 rows:Rows r.cards r.l
 cfew:r.cards.length<=1000
 cok:∀c∈r.cards,c.s<18446744073709551616
theorem RG.own.lower {w:World} {base base':Nat} {r:RG} (h:r.own w base) (hb:base'<=base):r.own w base' where
 cards:=h.cards.lower hb
 ops:=h.ops.lower hb
 each x hx:=(h.each x hx).lower hb
 same:=h.same
 ok:=h.ok
 ids:=h.ids.lower hb
 ups:=h.ups.lower hb
 eachU x hx:=(h.eachU x hx).lower hb
 sameU:=h.sameU
 ins:=h.ins.lower hb
 eachN x hx:=(h.eachN x hx).lower hb
 sameN:=h.sameN
 rows:=h.rows
 cfew:=h.cfew
 cok:=h.cok
theorem RG.own.keepP {S:Nat->Prop} {P:TypeId->Prop} {w w':World} {base:Nat} {r:RG} (h:r.own w base) (hf:Fr S w w') (hS:Types S w P) (h1:¬P 48) (h2:¬P 134) (h3:¬P 125) (h4:¬P 5) (h5:¬P 46) (h6:¬P 3) (h7:¬P 141)
  (h8:¬P 96) (h9:¬P 55) (h10:¬P 22) (h11:¬P 70) (h12:¬P 4):r.own w' base where
 cards:=h.cards.keepT hf (hS.not h8)
 ops:=h.ops.keepT hf (hS.not h9)
 each x hx:=(h.each x hx).keepP hf hS h1 h2 h3 h4 h5 h6 h7
 same:=h.same
 ok:=h.ok
 ids:=h.ids.keepT hf (hS.not h1)
 ups:=h.ups.keepT hf (hS.not h10)
 eachU x hx:=RowAt.keepT (h.eachU x hx) hf (hS.not h6)
 sameU:=h.sameU
 ins:=h.ins.keepT hf (hS.not h11)
 eachN x hx:=RowAt.keepT (h.eachN x hx) hf (hS.not h12)
 sameN:=h.sameN
 rows:=h.rows
 cfew:=h.cfew
 cok:=h.cok
theorem RG.own.non {w w':World} {base:Nat} {r:RG} (h:r.own w base) (hf:Fr Non w w'):r.own w' base:=
 h.keepP (P:=fun _=>False) hf (fun _ _ _ _ _ e=>e.elim) zq zq zq zq zq zq zq zq zq zq zq zq
theorem RG.own.few {w:World} {base:Nat} {r:RG} (h:r.own w base):r.l.length<=200:=h.rows.few
theorem RG.own.rdIds {w:World} {base:Nat} {r:RG} (h:r.own w base):Rd w w.heap.size 3 r.iA r.l.length (r.ids.flatMap Id.cells):=h.ids.sl.rd
theorem RG.own.xAt {w:World} {base:Nat} {r:RG} (h:r.own w base) {i:Nat} {n:Pn} (hi:r.l[i]? =some n):
  ∃(x:OpL) (b off:Nat),r.xs[i]? =some x/\x.op=n.o/\x.lies w base/\r.lA=some ⟨b,off,none⟩/\b<w.heap.size/\∀j,j<27->∀u,x.cells.toList[j]? =some u->w.cell? ⟨b,off+i*27+j,none⟩=some u:=by
 have hm:(r.xs.map OpL.op)[i]? =some n.o:=by rw [h.same,Au4,hi];rfl
 rw [Au4] at hm
 cases hx:r.xs[i]? with
 |none=>rw [hx] at hm;cases hm
 |some x=>
  rw [hx] at hm;injection hm with hm
  obtain ⟨b,off,h1,h2,h3⟩:=Ew (f:=fun x:OpL=>x.cells.toList) (fun _=>rfl) (by omega) h.ops.sl.rd hx;exact ⟨x,b,off,rfl,hm,h.each x (Au1 hx),h1,h2,h3⟩
end Oq
namespace Oq
attribute [local go_sem] Bool.not_false Bool.not_true
theorem Zg (base:Nat) (g:Gph) (gv:Nat) (id:Id) (w:World) (hg:GAt w base g) (hv:w.cell? ⟨gv,0,none⟩=some (.pointer (some ⟨g.gb,0,none⟩))) (hid:id.ok):
  Calls zp 85 #[.agg id.V,.pointer (some ⟨gv,0,none⟩)] w (Ae (place g.nodes id).isSome w):=by
 have f0:Fr Non w (w.alloc (.cells id.V 48)):=(Fr.refl Non w).alloc _;have hb:=Blk.new w 48 id.V;have ac:=hg.fr f0;replace hv:=f0.cell hv zq;generalize hw0:w.alloc (.cells id.V 48)=w0 at*;have i0:cI w0 w.heap.size 0 id.b:=hb.cell 0;have i1:cI w0 w.heap.size 1 id.s:=hb.cell 1;have i2:cU w0 w.heap.size 2 id.u:=hb.cell 2;have c1:w0.cell? ⟨g.gb,1,none⟩=some (.map (some g.mb)):=ac.blk.cell 1;have aa:=ac.map;have ab:=fun (w':World) (h:MapAt w' g.mb g.mm (place g.nodes))=>MapAt.look h id hid;clear hg ac hb
 cases hp:place g.nodes id
 ·
  rw [hp] at ab;go_enter func85,ntmps85;go_wp2_with fail;try rw [hw0]
  clear hw0 hp;refine wp_region_held_drew (S:=(fun w'=>cI w' w.heap.size 0 id.b/\cI w' w.heap.size 1 id.s/\cU w' w.heap.size 2 id.u/\w'.cell? ⟨g.gb,1,none⟩=some (.map (some g.mb))/\w'.cell? ⟨gv,0,none⟩=some (.pointer (some ⟨g.gb,0,none⟩))/\MapAt w' g.mb g.mm (place g.nodes))) (by kernel_rfl) ⟨i0,i1,i2,c1,hv,aa⟩ (fun hS=> ?_);replace f0:=f0.drew;refine tkH 0 hS (h:=tkH 1 hS (h:=tkH 2 hS (h:=tkH 3 hS (h:=tkH 4 hS (h:=tkH 5 hS (h:=tkH 6 hS (h:=tkH 7 hS (h:=tkH 8 hS (h:=tkH 9 hS (h:=tkH 10 hS (h:=?_)))))))))));simp only [zl];refine oD ?_;go_simp;go_wp2_with fail
  go_ret
  exact ⟨rfl,f0⟩
 ·
  rw [hp] at ab;go_enter func85,ntmps85;go_wp2_with fail;try rw [hw0]
  clear hw0 hp;refine wp_region_held_drew (S:=(fun w'=>cI w' w.heap.size 0 id.b/\cI w' w.heap.size 1 id.s/\cU w' w.heap.size 2 id.u/\w'.cell? ⟨g.gb,1,none⟩=some (.map (some g.mb))/\w'.cell? ⟨gv,0,none⟩=some (.pointer (some ⟨g.gb,0,none⟩))/\MapAt w' g.mb g.mm (place g.nodes))) (by kernel_rfl) ⟨i0,i1,i2,c1,hv,aa⟩ (fun hS=> ?_);replace f0:=f0.drew;refine tkH 0 hS (h:=tkH 1 hS (h:=tkH 2 hS (h:=tkH 3 hS (h:=tkH 4 hS (h:=tkH 5 hS (h:=tkH 6 hS (h:=tkH 7 hS (h:=tkH 8 hS (h:=tkH 9 hS (h:=tkH 10 hS (h:=?_)))))))))));simp only [zl];refine oD ?_;go_simp;go_wp2_with fail
  go_ret
  exact ⟨rfl,f0⟩
end Oq
namespace Oq
theorem Qx {α:Type} (l:List α) (q:α->Bool) {k:Nat} {x:α} (h:l[k]? =some x):(l.take (k+1)).any q=((l.take k).any q||q x):=by
 obtain ⟨hk,rfl⟩:=List.getElem?_eq_some_iff.1 h;rw [Au5 hk,Au7];simp
def Zh (l:List Id) (p:Id->Bool) (w:World) (e:Ending) (w':World):Prop:=
 ((∃(k:Nat) (id:Id),e=.returned (.int .i64 (k:Int))/\l[k]? =some id/\p id=true/\(l.take k).any p=false)\/(e=.returned (.int .i64 (-1))/\l.any p=false))/\Fr Non w w'
theorem Zi (B n c gv:Nat) (A:Option Addr) (l:List Id) (p:Id->Bool) (w:World) (hn:Hid (l.length=n)) (hr:Rd w B 3 A n (l.flatMap Id.cells)) (hnm:n<=1000000)
  (hmay:Hid (∀x∈l,∀w':World,Fr Non w w'->Calls zp 85 #[.agg x.V,.pointer (some ⟨gv,0,none⟩)] w' (Ae (p x) w'))):
  Calls zp 133 #[.slice A n c,.func (.func 85) #[] #[.pointer (some ⟨gv,0,none⟩)]] w (Zh l p w):=by
 go_enter func133,ntmps133;go_wp2
 go_loopw [8] (fun v wr=>∃k:Nat,v=.int .i64 (k:Int)/\k<=n/\Hid ((l.take k).any p=false)/\Fr Non w wr) (fun v _=>n-(intOf v).toNat)
 case atStart=>exact ⟨0,rfl,by omega,rfl,Fr.refl _ _⟩
 case round=>
  obtain ⟨k,rfl,hk,hh,hf⟩:=hrel
  by_cases hlt:k<n
  ·
   obtain ⟨i1,i2,i3⟩:=ix k n
   obtain ⟨x,hx⟩:∃x,l[k]? =some x:=⟨_,Av1 (by rw [hn.out];exact hlt)⟩;obtain ⟨b,off,rfl,hbB,k0,k1,k2⟩:=Id.at (hr.fr hf zr) hx;have hmem:=Au1 hx;have hsn:=lh (Qx l p hx);have hc:=lh (fun w' (h:Fr Non wr w')=>hmay.out x hmem w' (hf.trans h zr));have hx':=lh hx;clear hx hmem
   rcases zb (p x) with hp|hp
   ·
    have hp':=lh hp;rw [hp] at hc hsn;clear hp;go_wp2_with (go_at_call 85;(with_reducible refine (hc.out _ (by first|exact Fr.refl _ _|exact (Fr.refl Non wr).alloc _)).mono ?_);rintro _ w1 ⟨rfl,f1⟩)
    go_ret
    exact ⟨.inl ⟨k,x,rfl,hx'.out,hp'.out,hh.out⟩,by first|exact hf.trans f1 zr|exact (hf.alloc _).trans f1 zr⟩
   ·
    rw [hp] at hc hsn;clear hp;go_wp2_with (go_at_call 85;(with_reducible refine (hc.out _ (by first|exact Fr.refl _ _|exact (Fr.refl Non wr).alloc _)).mono ?_);rintro _ w1 ⟨rfl,f1⟩);go_roundw
    case rel=>exact ⟨k+1,by go_num,by omega,by show _=_;rw [hsn.out,hh.out];rfl,by first|exact hf.trans f1 zr|exact (hf.alloc _).trans f1 zr⟩
    case measure=>simp [intOf];omega
  ·
   obtain rfl:k=n:=by omega
   have hfin:l.any p=false:=by have h:=hh.out;rw [Av0 (by rw [hn.out];omega)] at h;exact h
   go_wp2
   go_ret
   exact ⟨.inr ⟨rfl,hfin⟩,hf⟩
end Oq
end Go.Proofs.YtgbdljlapmjmnaaGreatDoor
