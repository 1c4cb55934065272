/- Contracts of functions, walked (part 6).
Conditions: as each theorem says. -/
import Derived.Lib.Mul64
import Derived.Laws.Bits64b
import Derived.TacticsInMore
import Derived.LoopIn
import Derived.OwnWalkIn
import Derived.Test.YtmcpnjoomlgmlaaGreatDoorRpM5
set_option maxRecDepth 100000
set_option maxHeartbeats 16000000
open Array renaming replicate_succ->A78,replicate_zero->A79
open Int renaming natCast_mul->A86
open List renaming length_cons->A61,length_drop->A63,map_append->A66,length_nil->A68,mem_of_getElem?->A69,cons_append->A72,size_toArray->A75,push_toArray->A80,append_toArray->A81,nil_append->A82,take_succ_eq_append_getElem->A83,length_map->A84,getElem?_map->A87,range->A88,length_take->A89,drop_length->A90,getElem?_range->A91,length_range->A92,getElem?_take_of_lt->A93,getElem?_drop->A94,take_of_length_le->A95,length_append->A96,take_length->A97
open Nat renaming le_refl->A59,mod_lt->A60,lt_trans->A62,zero_le->A64,mul_le_mul->A67,mul_mod->A70,pow_succ->A71,pow_le_pow_right->A73,mul_comm->A74,reduceAdd->A76,reduceSub->A77,and_two_pow_sub_one_eq_mod->A85
open Go.World renaming size_alloc->A65
open Go.Proofs.Tryz
open Go.Proofs.Tryz renaming prog->zp
open Go.Lib renaming hid->lh
open List renaming set->zl
open Go.Ending renaming returned->ze
namespace Go.Proofs.YtmcpnjoomlgmlaaGreatDoor
open Go.RowKit
attribute [local go_sem ↓] Go.wp_at_zero Go.wp_at_succ
namespace Fd
theorem fold_mul (m:Nat):(m%18446744073709551616%2305843009213693951+m/18446744073709551616*8)%2305843009213693951=m%2305843009213693951:=by omega
theorem mul_lt {a b:Nat} (ha:a<2305843009213693951) (hb:b<2305843009213693951):a*b<5316911983139663487003542222693990401:=
 Nat.lt_of_le_of_lt (A67 (show a<=2305843009213693950 by omega) (show b<=2305843009213693950 by omega)) (by decide)
def mul (a b:Nat):Nat:=a*b%2305843009213693951
theorem mul_bd (a b:Nat):mul a b<2305843009213693951:=A60 _ (by omega)
theorem mul_mod (a b:Nat):(a%2305843009213693951)*(b%2305843009213693951)%2305843009213693951=mul a b:=(A70 a b _).symm
def sqs:Nat->Nat->Nat->List (Nat × Bool)
 |0,_,_=>[]
 |f+1,b,n=>if n=0 then [] else (b,n%2==1)::sqs f (mul b b) (n/2)
def foldS:List (Nat × Bool)->Nat->Nat
 |[],o=>o
 |(b,t)::r,o=>foldS r (if t then mul o b else o)
def pow (a n:Nat):Nat:=foldS (sqs 64 (a%2305843009213693951) n) 1
theorem pow_mod (b k:Nat):(b%2305843009213693951)^k%2305843009213693951=b^k%2305843009213693951:=(Nat.pow_mod b k _).symm
theorem Ab1:∀(f b n o:Nat),n<2^f->foldS (sqs f b n) o%2305843009213693951=o*b^n%2305843009213693951:=by
 intro f
 induction f with
 |zero=>
  intro b n o hn;have:n=0:=by simpa using hn
  subst this;simp [sqs,foldS]
 |succ f ih=>
  intro b n o hn;unfold sqs
  by_cases h:n=0
  · subst h;simp [foldS]
  ·
   rw [if_neg h];unfold foldS;rw [ih _ _ _ (by rw [A71] at hn;omega)]
   have hsq:(mul b b)^(n/2)%2305843009213693951=(b^(2*(n/2)))%2305843009213693951:=by
    unfold mul;rw [pow_mod,Nat.pow_mul,Nat.pow_two]
   have hn2:n=2*(n/2)+n%2:=by omega
   by_cases h1:n%2=1
   ·
    have hb:(n%2==1)=true:=by simp [h1]
    rw [hb,if_pos rfl,A70,hsq];unfold mul;rw [Nat.mod_mod,<- A70];conv=>rhs;rw [hn2,h1,Nat.pow_add,Nat.pow_one]
    rw [Nat.mul_assoc,A74 b]
   ·
    have hb:(n%2==1)=false:=by simp;omega
    rw [hb,if_neg (by simp),A70,hsq,<- A70];conv=>rhs;rw [hn2,show n%2=0 by omega,Nat.add_zero]
theorem Rp:∀(l:List (Nat × Bool)) (o:Nat),o<2305843009213693951->foldS l o<2305843009213693951
 |[],_,h=>h
 |(b,t)::r,o,h=>Rp r _ (by cases t<;>simp<;>first|exact h|exact mul_bd _ _)
theorem pow_lt (a n:Nat):pow a n<2305843009213693951:=Rp _ _ (by omega)
theorem pow_eq (a n:Nat) (hn:n<18446744073709551616):pow a n=a^n%2305843009213693951:=by
 have h:=Ab1 64 (a%2305843009213693951) n 1 (by omega);rw [Nat.one_mul,pow_mod] at h;exact (Nat.mod_eq_of_lt (pow_lt a n)).symm.trans h
theorem sqs_lt:∀(f b n:Nat) (x:Nat × Bool),b<2305843009213693951->x∈sqs f b n->x.1<2305843009213693951:=by
 intro f
 induction f with
 |zero=>intro b n x _ hx;simp [sqs] at hx
 |succ f ih=>
  intro b n x hb hx;unfold sqs at hx
  by_cases h:n=0
  · rw [if_pos h] at hx;simp at hx
  ·
   rw [if_neg h] at hx
   rcases List.mem_cons.1 hx with rfl|hx
   · exact hb
   · exact ih _ _ _ (mul_bd _ _) hx
end Fd
def num (u:Nat):Nat:=u%2305843009213693951
theorem Ei (u:Nat):num u<2305843009213693951:=A60 _ (by omega)
theorem Fq (u:Nat) (w:World) (hu:u<18446744073709551616):
  Calls zp 152 #[.int .u64 (u:Int)] w fun e w'=>e=.returned (.int .u64 (num u:Int))/\w=w':=by
 have hm:bits .and .u64 (u:Int) 2305843009213693951=((u%2305843009213693952:Nat):Int):=by
  have:=u64_and_nat u 2305843009213693951 hu (by omega);rw [show (u&&&2305843009213693951)=u%2305843009213693952 from A85 u 61] at this;exact this
 obtain ⟨x,hx⟩:=Ab (u%2305843009213693952);rw [hx.out] at hm;have hxl:x<2305843009213693952:=by rw [<- hx.out];omega
 have hw1:IntKind.u64.wrap ((x:Int)+(u:Int)/2305843009213693952)=(x:Int)+(u:Int)/2305843009213693952:=IntWalk.u64_in _ ⟨by omega,by omega⟩
 by_cases h:(2305843009213693951:Int)<=(x:Int)+(u:Int)/2305843009213693952
 ·
  have hw2:IntKind.u64.wrap ((x:Int)+(u:Int)/2305843009213693952-2305843009213693951)=(x:Int)+(u:Int)/2305843009213693952-2305843009213693951:=IntWalk.u64_in _ ⟨by omega,by omega⟩
  have hs:Hid ((x:Int)+(u:Int)/2305843009213693952-2305843009213693951=(num u:Int)):=by
   show _=_;unfold num;rw [<- hx.out] at*;omega
  go_enter func152,ntmps152;generalize (2305843009213693951:Int)=P at*;clear hxl;go_wp2
  go_ret
  exact ⟨congrArg (fun z=>ze (.int .u64 z)) hs.out,rfl⟩
 ·
  have hs:Hid ((x:Int)+(u:Int)/2305843009213693952=(num u:Int)):=by
   show _=_;unfold num;rw [<- hx.out] at*;omega
  go_enter func152,ntmps152;generalize (2305843009213693951:Int)=P at*;clear hxl;go_wp2
  go_ret
  exact ⟨congrArg (fun z=>ze (.int .u64 z)) hs.out,rfl⟩
namespace M64
theorem maskN (a:Nat) (ha:a<18446744073709551616):bits .and .u64 (a:Int) 4294967295=((a%4294967296:Nat):Int):=by
 have h:=bits_and_u64_nat a 4294967295 ha (by omega);have e:a&&&4294967295=a%4294967296:=A85 a 32;rw [e] at h;exact h
theorem divN (a:Nat):(a:Int)/4294967296=((a/4294967296:Nat):Int):=by omega
theorem mulN (a b:Nat):(a:Int)*(b:Int)=((a*b:Nat):Int):=(A86 a b).symm
theorem addN (a b:Nat):(a:Int)+(b:Int)=((a+b:Nat):Int):=(Int.natCast_add a b).symm
theorem wrapN (a:Nat) (ha:a<18446744073709551616):IntKind.u64.wrap (a:Int)=(a:Int):=by rw [IntKind.wrap_u64];omega
theorem wrapM (a:Nat):IntKind.u64.wrap (a:Int)=((a%18446744073709551616:Nat):Int):=by rw [IntKind.wrap_u64];omega
end M64
theorem Ab2 (x y:Nat) (hx:x<18446744073709551616) (hy:y<18446744073709551616) (w:World):
  Calls zp 226 #[.int .u64 (x:Int),.int .u64 (y:Int)] w fun e w'=>e=.returned (.tuple #[.int .u64 ((x*y/18446744073709551616:Nat):Int),.int .u64 ((x*y%18446744073709551616:Nat):Int)])/\w=w':=by
 obtain ⟨bd,bt,bw,hhi⟩:=Lib.mul64_hi x y hx hy;have ba:=Lib.half_mul_le (a:=x/4294967296) (b:=y/4294967296) (by omega) (by omega);have bb:=Lib.half_mul_le (a:=x/4294967296) (b:=y%4294967296) (by omega) (by omega);have bc:=Lib.half_mul_le (a:=x%4294967296) (b:=y/4294967296) (by omega) (by omega);have ba':x/4294967296*(y/4294967296)<18446744073709551616:=by omega
 have bb':x/4294967296*(y%4294967296)<18446744073709551616:=by omega
 have bc':x%4294967296*(y/4294967296)<18446744073709551616:=by omega
 have bh1:x/4294967296*(y/4294967296)+(x/4294967296*(y%4294967296)+x%4294967296*(y%4294967296)/4294967296)/4294967296<18446744073709551616:=by omega
 have bh:x/4294967296*(y/4294967296)+(x/4294967296*(y%4294967296)+x%4294967296*(y%4294967296)/4294967296)/4294967296+((x/4294967296*(y%4294967296)+x%4294967296*(y%4294967296)/4294967296)%4294967296+x%4294967296*(y/4294967296))/4294967296<18446744073709551616:=by omega
 go_enter func226,ntmps226;go_wp2;simp only [M64.maskN x hx,M64.maskN y hy,M64.divN,M64.mulN,M64.addN,M64.wrapN _ bd,M64.wrapN _ bb',M64.wrapN _ bt,M64.maskN _ bt,M64.wrapN _ bc',M64.wrapN _ bw,M64.wrapN _ ba',M64.wrapN _ bh1,M64.wrapN _ bh,M64.wrapM (x*y)];rw [hhi]
 go_ret2
 exact ⟨rfl,rfl⟩
theorem Kc (a b:Nat) (ha:a<18446744073709551616) (hb:b<18446744073709551616) (w:World):
  Calls zp 195 #[.int .u64 (a:Int),.int .u64 (b:Int)] w fun e w'=>e=.returned (.int .u64 (Fd.mul a b:Int))/\w=w':=by
 have la:=Ei a;have lb:=Ei b;have lm:=Fd.mul_lt la lb
 have he:Hid (num (num (num a*num b%18446744073709551616)+num a*num b/18446744073709551616*8)=Fd.mul a b):=by
  show _=_;unfold num;rw [Fd.fold_mul,Fd.mul_mod]
 obtain ⟨x,hx⟩:=Ab (num a);obtain ⟨y,hy⟩:=Ab (num b);rw [hx.out] at la lm he;rw [hy.out] at lb lm he;have hhi:x*y/18446744073709551616<288230376151711744:=by omega
 have hlo:x*y%18446744073709551616<18446744073709551616:=A60 _ (by omega);go_enter func195,ntmps195;go_wp2_with fail;refine (Fq a _ ha).mono ?_;rw [hx.out];rintro _ _ ⟨rfl,rfl⟩;go_wp2_with fail;refine (Fq b _ hb).mono ?_;rw [hy.out];rintro _ _ ⟨rfl,rfl⟩;go_wp2_with fail;refine (Ab2 x y (by omega) (by omega) _).mono ?_;clear lm;generalize x*y/18446744073709551616=hi at*;generalize x*y%18446744073709551616=lo at*;rintro _ _ ⟨rfl,rfl⟩;go_wp2_with fail;refine (Fq lo _ hlo).mono ?_;have ll:=Ei lo;obtain ⟨z,hz⟩:=Ab (num lo);rw [hz.out] at ll he;rw [hz.out];rintro _ _ ⟨rfl,rfl⟩;go_wp2_with fail;rw [show ((z:Int)+(hi:Int)*8)=((z+hi*8:Nat):Int) by omega];refine (Fq _ _ (by omega)).mono ?_;rw [he.out];rintro _ _ ⟨rfl,rfl⟩;go_wp2
 go_ret
 exact ⟨rfl,rfl⟩
theorem Nb (a b:Nat) (ha:a<18446744073709551616) (hb:b<18446744073709551616) (w:World):
  Calls zp 204 #[.int .u64 (a:Int),.int .u64 (b:Int)] w fun e w'=>e=.returned (.int .u64 (num (a+b):Int))/\w=w':=by
 have la:=Ei a;have lb:=Ei b
 have he:Hid (num (num a+num b)=num (a+b)):=by
  show _=_;unfold num;exact (Nat.add_mod a b _).symm
 obtain ⟨x,hx⟩:=Ab (num a);obtain ⟨y,hy⟩:=Ab (num b);rw [hx.out] at la he;rw [hy.out] at lb he;go_enter func204,ntmps204;go_wp2_with fail;refine (Fq a _ ha).mono ?_;rw [hx.out];rintro _ _ ⟨rfl,rfl⟩;go_wp2_with fail;refine (Fq b _ hb).mono ?_;rw [hy.out];rintro _ _ ⟨rfl,rfl⟩;go_wp2_with fail;rw [show ((x:Int)+(y:Int))=((x+y:Nat):Int) by omega];refine (Fq _ _ (by omega)).mono ?_;rw [he.out];rintro _ _ ⟨rfl,rfl⟩;go_wp2
 go_ret
 exact ⟨rfl,rfl⟩
section
open Go.RowKit Go.Shelf
def Nc (w:World) (g:Nat):Nat:=match w.cell? ⟨g,0,none⟩ with
 |some (.int _ n)=>n.toNat
 |_=>0
theorem Rq {w:World} {g:Nat} {t:TypeId} {k:IntKind} {n:Nat} (h:Blk w g t #[.int k (n:Int)]):Nc w g=n:=by
 have:=h.cell 0;unfold Nc;rw [this];simp
def Kd (x:Nat × Bool):Array Value:=#[.int .u64 (x.1:Int),.bool x.2]
theorem Ab3 (a n ga gn : Nat) (ha : a < 18446744073709551616) (hn : n < 18446744073709551616) (T : Nat -> Prop) (hT : ¬ T gn) (W0 : World) (hba : Blk W0 ga 43 #[.int .u64 (a : Int)]) (hbn : Blk W0 gn 43 #[.int .u64 (n : Int)]) :
    J9 zp 236 #[.pointer (some ⟨ga, 0, none⟩), .pointer (some ⟨gn, 0, none⟩)] Kd (Fd.sqs 64 (num a) n) (One gn) T W0.heap.size W0 := by
  intro l J hJ h0 hY;obtain ⟨xs, hxs⟩ := Ab (Fd.sqs 64 (num a) n);rw [hxs.out] at hY ⊢;show Calls _ _ #[.func (.yield l) #[] #[], .pointer (some ⟨ga, 0, none⟩), .pointer (some ⟨gn, 0, none⟩)] W0 _;have hca := hba.cell 0;have hla := Ei a;go_enter func236, ntmps236;go_wp2_with fail;refine (Fq a _ ha).mono ?_;rintro _ _ ⟨rfl, rfl⟩;obtain ⟨b0, hb0⟩ := Ab (num a);rw [hb0.out] at hxs hla;rw [hb0.out];go_wp2
  go_loopw [4] (fun v wr => ∃ (i f b m : Nat), v = .int .u64 (b : Int) /\ Hid (xs.drop i = Fd.sqs f b m) /\ i <= xs.length /\ m < 2 ^ f /\ b < 2305843009213693951 /\ m < 18446744073709551616 /\ Blk wr gn 43 #[.int .u64 (m : Int)] /\ J i wr /\ W0.heap.size <= wr.heap.size) (fun _ wr => Nc wr gn)
  case atStart => exact ⟨0, 64, b0, n, rfl, by show _ = _; rw [List.drop_zero, hxs.out], A64 _, by omega, hla, hn, hbn, h0, A59 _⟩
  case round =>
    obtain ⟨i, f, b, m, rfl, hd, hi, hm, hb, hm64, hbm, hj, hs⟩ := hrel;have hcm := hbm.cell 0
    by_cases hz : m = 0
    · subst hz
      go_wp2
      go_end0
      refine ⟨⟨_, rfl⟩, ?_⟩;have hl : xs.drop i = [] := by rw [hd.out]; cases f <;> simp [Fd.sqs]
      rw [List.drop_eq_nil_iff] at hl;rw [show xs.length = i by omega];exact hj
    · obtain ⟨f, rfl⟩ : ∃ f', f = f' + 1 := ⟨f - 1, by rcases f with _ | f; · simp at hm; omega
                                                       · rfl⟩
      have hd2 : xs.drop i = (b, m % 2 == 1) :: Fd.sqs f (Fd.mul b b) (m / 2) := by rw [hd.out, Fd.sqs, if_neg hz]
      have hx : xs[i]? = some (b, m % 2 == 1) := by
        have h := congrArg (fun l => l[0]?) hd2;simpa using h
      have hi' : i < xs.length := (List.getElem?_eq_some_iff.1 hx).1
      have hd3 : Hid (xs.drop (i + 1) = Fd.sqs f (Fd.mul b b) (m / 2)) := by
        have h := congrArg List.tail hd2;show _ = _;simpa [List.tail_drop] using h
      obtain ⟨fn, tmps, assign, body, hy, hR⟩ := Na (m := 2) (hY i _ wr hx hj hs);have hbb := Fd.mul_bd b b;obtain ⟨b', hb'⟩ := Ab (Fd.mul b b);rw [hb'.out] at hd3 hbb
      have hand : bits .and .u64 (m : Int) 1 = ((m % 2 : Nat) : Int) := by
        have := u64_and_nat m 1 hm64 (by omega);rw [show (m &&& 1) = m % 2 from A85 m 1] at this;exact this
      clear hd2 hx hd;unfold Kd at hy;have hmp : (0 : Int) < (m : Int) := by omega
      have hparity : m % 2 = 1 \/ m % 2 = 0 := by omega
      rcases hparity with hp | hp
      all_goals
        rw [hp] at hy hand;simp only [Nat.reduceBEq] at hy;refine (wpIn_wide (n := 3)).1 ?_
        gi_wp2_with (first | fail)
        refine hR.mono ?_;clear hR hy hcm;rintro _ W1 ⟨rfl, hj1, hf1⟩;have hbm1 := hbm.fr hf1 hT;have hcm1 := hbm1.cell 0;have hfz1 := hbm1.frozen 0;have hs1 := hf1.size
        gi_wp2_with (first | (refine ⟨trivial, ?_⟩; gi_at_call 195; refine (callsIn_wide.2 (Kc b b (by omega) (by omega) _)).mono ?_; rw [hb'.out]; rintro _ _ ⟨rfl, rfl⟩))
        have hset := hbm1.set 0 (.int .u64 ((m : Int) / 2));rw [show ((m : Int) / 2) = ((m / 2 : Nat) : Int) by omega] at hset ⊢;have hjj := hJ _ _ _ hj1 ((Fr.refl (One gn) W1).setOne 0 (.int .u64 ((m / 2 : Nat) : Int)));go_roundw
        case rel => exact ⟨i + 1, f, b', m / 2, rfl, hd3, hi', by rw [A71] at hm; omega, hbb, by omega, hset, hjj, by simp [World.setCell]; omega⟩
        case measure => rw [Rq hset, Rq hbm]; omega
def Ab4 (a n:Nat) (w:World) (r:Ending) (w':World):Prop:=
 r=.returned (.func (.func 236) #[] #[.pointer (some ⟨w.heap.size,0,none⟩),.pointer (some ⟨w.heap.size+1,0,none⟩)])/\Blk w' w.heap.size 43 #[.int .u64 (a:Int)]/\Blk w' (w.heap.size+1) 43 #[.int .u64 (n:Int)]/\Fr Non w w'/\w'.heap.size=w.heap.size+2
theorem Ab5 (a n:Nat) (w:World):Calls zp 225 #[.int .u64 (a:Int),.int .u64 (n:Int)] w (Ab4 a n w):=by
 have hb:=Blk.new w 43 #[.int .u64 (a:Int)];have hb2:=hb.alloc (.cells #[.int .u64 (n:Int)] 43);have hn2:=Blk.new (w.alloc (.cells #[.int .u64 (a:Int)] 43)) 43 #[.int .u64 (n:Int)];rw [A65] at hn2;go_enter func225,ntmps225;go_wp2
 go_ret
 exact ⟨rfl,hb2,hn2,((Fr.refl _ _).alloc _).alloc _,by simp⟩
end
section
open Go.RowKit Go.Shelf
attribute [local go_sem] Oper.semAt_some
def De (v:Nat) (w:World) (r:Ending) (w':World):Prop:=r=.returned (.int .u64 (v:Int))/\Fr Non w w'
theorem Nf (a n:Nat) (w:World) (ha:a<18446744073709551616) (hn:n<18446744073709551616):
  Calls zp 194 #[.int .u64 (a:Int),.int .u64 (n:Int)] w (De (Fd.pow a n) w):=by
 refine callsIn_wide.1 (callsIn_of_wp_marks (n:=3) func194 rfl trivial ?_ rfl);simp only [ntmps194,A75,A61,A68,A76,A77,A78,A79,A80,A81,A82,A72];refine wpIn_wide.2 ?_;have hb0:=Blk.new w 43 #[.int .u64 1];have hf0:Fr Non w (w.alloc (.cells #[.int .u64 1] 43)):=(Fr.refl _ _).alloc _;go_wp2_with fail;refine (Ab5 a n _).mono ?_;rintro _ w1 ⟨rfl,hba,hbn,hf1,hz1⟩;have hb1:=hb0.fr hf1 zq;rw [A65] at hba hbn hz1;go_wp2_with fail;have hw1:Fr Non w w1:=hf0.trans hf1 zr;have hz:w1.heap.size=w.heap.size+3:=by omega
 refine Ka (n:=3) (gf:=236) (lb:=#[.pointer (some ⟨w.heap.size+1,0,none⟩),.pointer (some ⟨w.heap.size+1+1,0,none⟩)]) rfl (enters_of func236 (by kernel_rfl) rfl) (encs:=Kd) (xs:=Fd.sqs 64 (num a) n)
  (S:=One (w.heap.size+1+1)) (Tb:=One w.heap.size) (C:=w1.heap.size+2) (fun _=>rfl) ?_ ?_ ?_
  (fun i W=>∃o:Nat,Blk W w.heap.size 43 #[.int .u64 (o:Int)]/\o<2305843009213693951/\Hid (Fd.foldS ((Fd.sqs 64 (num a) n).drop i) o=Fd.pow a n)/\Fr Non w W) ?_ ?_ ?_ ?_
 ·
  intro W1 hf hs;rw [<- hs];exact Ab3 a n _ _ ha hn _ (by unfold One;omega) W1 (hba.fr hf zq) (hbn.fr hf zq)
 · unfold One;omega
 · unfold One;omega
 ·
  rintro i A B ⟨o,hb,ho,hd,hf⟩ hAB;exact ⟨o,hb.fr hAB (by unfold One;omega),ho,hd,hf.trans hAB (fun k hk e=>by unfold One at e;unfold Non;omega)⟩
 · exact ⟨1,hb1,by omega,rfl,hw1⟩
 ·
  intro i x W hx;obtain ⟨b,t⟩:=x;have hbl:b<2305843009213693951:=Fd.sqs_lt 64 (num a) n (b,t) (Ei a) (A69 hx);have hdr:(Fd.sqs 64 (num a) n).drop i=(b,t)::(Fd.sqs 64 (num a) n).drop (i+1):=Fx hx;unfold Kd;simp only []
  gi_wp2
  refine ⟨trivial,?_⟩;rintro W2 ⟨o,hb,ho,hd,hf⟩ hC;rw [hdr] at hd;have hc:=hb.cell 0;have hfz:=hb.frozen 0
  cases t with
  |false=>
   gi_wp2
   exact ⟨⟨o,hb,ho,hd,hf⟩,Fr.refl _ _⟩
  |true=>
   have hml:=Fd.mul_bd o b;have hd':Hid (Fd.foldS ((Fd.sqs 64 (num a) n).drop (i+1)) (Fd.mul o b)=Fd.pow a n):=hd;clear hd;obtain ⟨m,hm⟩:=Ab (Fd.mul o b);rw [hm.out] at hd' hml
   gi_wp2_with (first|(refine ⟨trivial,rfl,?_⟩;gi_at_call 195;refine (Ro (Kc o b (by omega) (by omega) _)).mono ?_;rw [hm.out];rintro _ _ ⟨rfl,rfl⟩))
   exact ⟨⟨m,hb.set 0 _,hml,hd',hf.setNew (A59 _) _ _⟩,(Fr.refl (One w.heap.size) W2).setOne _ _⟩
 ·
  rintro W ⟨o,hb,ho,hd,hf⟩ hD;rw [A90] at hd;have hc:=hb.cell 0;have ho':o=Fd.pow a n:=hd.out;have ho'':=lh ho';clear hd ho';go_wp2;refine ⟨by simp,.inl ⟨_,_,rfl,run_takeDeferred hD,?_⟩⟩;exact ⟨_,results_tmp rfl _ _ _,by rw [ho''.out];rfl,hf.putObj (fun h=>by omega) _⟩
end
namespace Hs
def le:List UInt8->Nat
 |[]=>0
 |x::r=>x.toNat+256*le r
theorem le_lt:∀l:List UInt8,le l<256^l.length
 |[]=>by simp [le]
 |x::r=>by
  have h:=le_lt r;have hx:=x.toNat_lt;rw [A61,A71];unfold le;omega
theorem le_snoc:∀(l:List UInt8) (x:UInt8),le (l++[x])=le l+256^l.length*x.toNat
 |[],x=>by simp [le]
 |y::l,x=>by
  rw [A72];unfold le;rw [le_snoc l x,A61,A71,Nat.mul_add,A74 (256^l.length) 256,Nat.mul_assoc];omega
def Dz:Nat->List UInt8->List Nat
 |0,_=>[]
 |f+1,bs=>if bs=[] then [] else le (bs.take 7)::Dz f (bs.drop 7)
def words (bs:List UInt8):List Nat:=Dz bs.length bs
theorem Ab6:∀(f g:Nat) (bs:List UInt8),bs.length<=f->f<=g->Dz g bs=Dz f bs:=by
 intro f
 induction f with
 |zero=>
  intro g bs h _;have:bs=[]:=List.eq_nil_of_length_eq_zero (by omega);subst this
  cases g<;>simp [Dz]
 |succ f ih=>
  intro g bs h hg;obtain ⟨g,rfl⟩:∃g',g=g'+1:=⟨g-1,by omega⟩;unfold Dz
  by_cases hb:bs=[]
  · rw [if_pos hb,if_pos hb]
  · rw [if_neg hb,if_neg hb,ih g _ (by rw [A63];have:=List.length_pos_iff.2 hb;omega) (by omega)]
theorem Rr {bs:List UInt8} (h:bs≠[]):words bs=le (bs.take 7)::words (bs.drop 7):=by
 have hl:=List.length_pos_iff.2 h;unfold words;obtain ⟨f,hf⟩:∃f,bs.length=f+1:=⟨bs.length-1,by omega⟩;rw [hf,Dz,if_neg h,Ab6 (bs.drop 7).length f _ (A59 _) (by rw [A63];omega)]
theorem Ab7 (bs:List UInt8):le (bs.take 7)<72057594037927936:=by
 have h:=le_lt (bs.take 7);have h2:(bs.take 7).length<=7:=List.length_take_le _ _;have h3:256^(bs.take 7).length<=256^7:=A73 (by omega) h2;have h4:(256:Nat)^7=72057594037927936:=by decide
 omega
theorem words_lt:∀(f:Nat) (bs:List UInt8),∀x∈Dz f bs,x<72057594037927936:=by
 intro f
 induction f with
 |zero=>intro bs x hx;simp [Dz] at hx
 |succ f ih=>
  intro bs x hx;unfold Dz at hx
  by_cases hb:bs=[]
  · rw [if_pos hb] at hx;simp at hx
  ·
   rw [if_neg hb] at hx
   rcases List.mem_cons.1 hx with rfl|hx
   · exact Ab7 bs
   · exact ih _ _ hx
theorem Ab8:∀(f:Nat) (bs:List UInt8),(Dz f bs).length<=bs.length:=by
 intro f
 induction f with
 |zero=>intro bs;simp [Dz]
 |succ f ih=>
  intro bs;unfold Dz
  by_cases hb:bs=[]
  · rw [if_pos hb];simp
  ·
   rw [if_neg hb,A61];have:=ih (bs.drop 7);rw [A63] at this;have:=List.length_pos_iff.2 hb;omega
theorem words_len (bs:List UInt8):(words bs).length<=bs.length:=Ab8 _ _
theorem words_get:∀(i:Nat) (bs:List UInt8),7*i<bs.length->(words bs)[i]? =some (le ((bs.drop (7*i)).take 7))
 |0,bs,h=>by
  have hb:bs≠[]:=by rintro rfl;simp at h
  rw [Rr hb];simp
 |i+1,bs,h=>by
  have hb:bs≠[]:=by rintro rfl;simp at h
  rw [Rr hb,List.getElem?_cons_succ,words_get i (bs.drop 7) (by rw [A63];omega),List.drop_drop,show 7+7*i=7*(i+1) by omega]
theorem Ab9 : ∀ (f : Nat) (bs : List UInt8), bs.length <= f -> (Dz f bs).length = (bs.length + 6) / 7 := by
  intro f
  induction f with
  | zero => intro bs h; have : bs.length = 0 := by omega
            rw [this]; rfl
  | succ f ih =>
    intro bs h;unfold Dz
    by_cases hb : bs = []
    · subst hb; rfl
    · have := List.length_pos_iff.2 hb
      rw [if_neg hb, A61, ih _ (by rw [A63]; omega), A63];omega
theorem words_length (bs:List UInt8):(words bs).length=(bs.length+6)/7:=Ab9 _ _ (A59 _)
def tk (s w k:Nat):Nat:=Fd.pow (num (Fd.mul 37 s+num (w+k))) 17
theorem tk_lt (s w k:Nat):tk s w k<2305843009213693951:=Fd.pow_lt _ _
def foldT:List Nat->Nat->Nat->Nat
 |[],_,s=>s
 |w::r,k,s=>foldT r (k+1) (tk s w (k+1))
theorem foldT_app:∀(a b:List Nat) (k s:Nat),foldT (a++b) k s=foldT b (k+a.length) (foldT a k s)
 |[],b,k,s=>by simp [foldT]
 |w::a,b,k,s=>by
  show foldT (a++b) (k+1) (tk s w (k+1))=foldT b (k+(a.length+1)) (foldT a (k+1) (tk s w (k+1)));rw [foldT_app a b,show k+1+a.length=k+(a.length+1) by omega]
theorem foldT_lt:∀(a:List Nat) (k s:Nat),s<2305843009213693951->foldT a k s<2305843009213693951
 |[],_,_,h=>h
 |_::a,_,_,_=>foldT_lt a _ _ (tk_lt _ _ _)
def of (label:List UInt8) (l:List Nat):Nat:=foldT (words label++[l.length]++l.map num++[0]) 0 label.length
theorem foldT_snoc (a:List Nat) (w k s:Nat):foldT (a++[w]) k s=tk (foldT a k s) w (k+a.length+1):=by
 rw [foldT_app];rfl
theorem of_lt (label:List UInt8) (l:List Nat):of label l<2305843009213693951:=by
 unfold of;rw [foldT_snoc];exact tk_lt _ _ _
def ofBytes (label:List UInt8) (bs:List UInt8):Nat:=of label (words bs++[bs.length])
def secret (label:List UInt8) (l:List Nat):Nat:=1+of label l%2305843009213693949
theorem secret_lt (label:List UInt8) (l:List Nat):secret label l<2305843009213693950:=by
 have:=A60 (of label l) (show 0<2305843009213693949 by omega);unfold secret;omega
end Hs
section
open Go.RowKit Go.Shelf
def Wv (n:Nat):Value:=.int .u64 (n:Int)
theorem Ke (l:List Nat):∀u∈l.map Wv,u.oneCell'=true:=by
 intro u hu;obtain ⟨x,_,rfl⟩:=List.mem_map.1 hu;rfl
theorem Kf {l:List Nat} {k:Nat} {u:Value} (h:(l.map Wv)[k]? =some u):∃x,l[k]? =some x/\u=.int .u64 (x:Int):=by
 rw [A87] at h
 cases hx:l[k]? with
 |none=>rw [hx] at h;cases h
 |some x=>rw [hx] at h;injection h with h;exact ⟨x,rfl,h.symm⟩
theorem slW:SlT zp 46 43 (.int .u64 0) 1 8:=⟨underlying46,by kernel_rfl,rfl,by decide⟩
theorem Rd.frA {S:Nat->Prop} {w w':World} {B size n:Nat} {A:Option Addr} {xs:List Value} (h:Rd w B size A n xs) (hf:Fr S w w') (hs:∀k,Ad A=some k->¬S k):Rd w' B size A n xs:=
 ⟨h.1,h.2.imp id fun ⟨b,off,e,hb,hc⟩=>⟨b,off,e,hb,fun j u hu=>by
  have hv:=hc j u hu;rw [World.cell?_of_block (hf.block b (World.block_lt_of_cell? w ⟨b,off+j,none⟩ hv) (hs b (by rw [e];rfl)))];exact hv⟩⟩
def Rs (g s k:Nat) (w:World) (r:Ending) (w':World):Prop:=
 r=.returned (.tuple #[])/\Blk w' g 215 #[.int .u64 (s:Int),.int .u64 (k:Int)]/\Fr (One g) w w'
theorem Kg (B g n c:Nat) (A:Option Addr) (ws:List Nat) (s k:Nat) (w:World) (hn:Hid (ws.length=n)) (hb:Blk w g 215 #[.int .u64 (s:Int),.int .u64 (k:Int)]) (hr:Rd w B 1 A n (ws.map Wv)) (hA:Ad A≠some g)
  (hw:∀x∈ws,x<9223372036854775808) (hk:k+n<=4611686018427387904) (hs:s<9223372036854775808):
  Calls zp 151 #[.pointer (some ⟨g,0,none⟩),.slice A n c] w (Rs g (Hs.foldT ws k s) (k+n) w):=by
 obtain ⟨R,hR⟩:=Ab (Hs.foldT ws k s);rw [hR.out];go_enter func151,ntmps151;go_wp2
 go_loopw [8] (fun v wr=>∃(i s':Nat),v=.int .i64 (i:Int)/\i<=n/\Blk wr g 215 #[.int .u64 (s':Int),.int .u64 ((k+i:Nat):Int)]/\Hid (Hs.foldT (ws.drop i) (k+i) s'=R)/\s'<9223372036854775808/\Fr (One g) w wr) (fun v _=>n-(intOf v).toNat)
 case atStart=>exact ⟨0,s,rfl,A64 _,hb,hR,hs,Fr.refl _ _⟩
 case round=>
  obtain ⟨i,s',rfl,hi,ab,hd,a4,hf⟩:=hrel
  by_cases hlt:i<n
  ·
   obtain ⟨b,a3,u,rfl,a7,al,au⟩:=(hr.frA hf (fun q hq e=>hA (by rw [hq,e]))).at hlt;obtain ⟨x,ag,rfl⟩:=Kf al;have a8:=hw x (A69 ag);have ap:ws.drop i=x::ws.drop (i+1):=Fx ag;rw [ap] at hd;have ak:Hid (Hs.foldT (ws.drop (i+1)) (k+i+1) (Hs.tk s' x (k+i+1))=R):=hd;clear hd ap al ag;have aq:=ab.cell 0;have ax:=ab.cell 1;have a0:=ab.frozen 0;have az:=ab.frozen 1;have av:b≠g:=fun e=>hA (by simp [Ad,e]);go_wp2_with fail;have aw:=ab.set 1 (.int .u64 ((k:Int)+(i:Int)+1));have ay:=hf.setOne 1 (.int .u64 ((k:Int)+(i:Int)+1));generalize wr.setCell ⟨g,1,none⟩ (.int .u64 ((k:Int)+(i:Int)+1))=w1 at*;clear aq ax a0 az au;have aa:Blk w1.drew g 215 #[.int .u64 (s':Int),.int .u64 ((k:Int)+(i:Int)+1)]:=aw;have c0:=aa.cell 0;have c1:=aa.cell 1;have f0:=aa.frozen 0;have lm:=Fd.mul_bd 37 s';have lp:=Ei (x+(k+i+1));have ac:Hid (Hs.tk s' x (k+i+1)=Fd.pow (num (Fd.mul 37 s'+num (x+(k+i+1)))) 17):=rfl;obtain ⟨m,hm⟩:=Ab (Fd.mul 37 s');obtain ⟨p,hp⟩:=Ab (num (x+(k+i+1)));rw [hm.out] at lm;rw [hp.out] at lp;rw [hm.out,hp.out] at ac;have lq:=Ei (m+p);obtain ⟨q,hq⟩:=Ab (num (m+p));rw [hq.out] at lq ac;have lr:=Fd.pow_lt q 17;obtain ⟨r,af⟩:=Ab (Fd.pow q 17);rw [af.out] at lr ac;rw [ac.out] at ak;have aj:Hid (∀w,Calls zp 195 #[.int .u64 37,.int .u64 (s':Int)] w fun e w'=>e=.returned (.int .u64 (m:Int))/\w=w'):=fun w=>by rw [<- hm.out];exact Kc 37 s' (by omega) (by omega) w
   have ae:Hid (∀w,Calls zp 152 #[.int .u64 (IntKind.u64.wrap ((x:Int)+((k:Int)+(i:Int)+1)))] w fun e w'=>e=.returned (.int .u64 (p:Int))/\w=w'):=fun w=>by rw [<- hp.out,IntWalk.u64_in ((x:Int)+((k:Int)+(i:Int)+1)) ⟨by omega,by omega⟩,show ((x:Int)+((k:Int)+(i:Int)+1))=((x+(k+i+1):Nat):Int) by omega];exact Fq _ w (by omega)
   have ah:Hid (∀w,Calls zp 204 #[.int .u64 (m:Int),.int .u64 (p:Int)] w fun e w'=>e=.returned (.int .u64 (q:Int))/\w=w'):=fun w=>by rw [<- hq.out];exact Nb m p (by omega) (by omega) w
   have ai:Hid (∀w,Calls zp 194 #[.int .u64 (q:Int),.int .u64 17] w (De r w)):=fun w=>by rw [<- af.out];exact Nf q 17 w (by omega) (by omega)
   clear hm hp hq af ac
   go_region_with (first
    |(go_at_call 195;(with_reducible refine (aj.out _).mono ?_);rintro _ _ ⟨rfl,rfl⟩)
    |(go_at_call 152;(with_reducible refine (ae.out _).mono ?_);rintro _ _ ⟨rfl,rfl⟩)
    |(go_at_call 204;(with_reducible refine (ah.out _).mono ?_);rintro _ _ ⟨rfl,rfl⟩)
    |(go_at_call 194;(with_reducible refine (ai.out _).mono ?_);rintro _ w2 ⟨rfl,ad⟩;obtain ⟨a5,a2⟩:=zk2 ad c0 c1;have ao:=aa.fr ad zq;have a6:=ao.frozen 0))
   all_goals
    have ar:Blk (w2.setCell ⟨g,0,none⟩ (.int .u64 (r:Int))) g 215 #[.int .u64 (r:Int),.int .u64 ((k+(i+1):Nat):Int)]:=by
     rw [show ((k+(i+1):Nat):Int)=(k:Int)+(i:Int)+1 by omega];exact ao.set 0 _
    have a1:=(ay.drew.trans ad (fun _ _ e=>e.elim)).setOne 0 (.int .u64 (r:Int));go_wp2;exact ⟨⟨i+1,r,rfl,by omega,ar,ak,by omega,a1⟩,by simp [intOf];omega⟩
  ·
   go_wp2
   go_end0
   rw [show ws.drop i=[] from List.drop_eq_nil_iff.2 (by rw [hn.out];omega)] at hd;rw [show i=n by omega] at ab;have e:s'=R:=hd.out;subst e;exact ⟨rfl,ab,hf⟩
end
section
open Go.RowKit Go.Shelf
attribute [local go_sem] Oper.semAt_some
def Kh (b off n:Nat) (i:Nat):Array Value:=#[.slice (some ⟨b,off+7*i,none⟩) (min 7 (n-7*i)) (min 7 (n-7*i))]
def Ac0 (s:Value) (w:World) (r:Ending) (w':World):Prop:=
 r=.returned (.func (.func 205) #[] #[.pointer (some ⟨w.heap.size,0,none⟩),.pointer (some ⟨w.heap.size+1,0,none⟩)])/\Blk w' w.heap.size 40 #[s]/\Blk w' (w.heap.size+1) 3 #[.int .i64 7]/\Fr Non w w'/\w'.heap.size=w.heap.size+2
theorem Ac1 (A:Option Addr) (n c:Nat) (w:World):Calls zp 155 #[.slice A n c,.int .i64 7] w (Ac0 (.slice A n c) w):=by
 have hb:=Blk.new w 40 #[.slice A n c];have hb2:=hb.alloc (.cells #[.int .i64 7] 3);have hn2:=Blk.new (w.alloc (.cells #[.slice A n c] 40)) 3 #[.int .i64 7];rw [A65] at hn2;have c2:=hn2.cell 0;go_enter func155,ntmps155;go_wp2
 go_ret
 exact ⟨rfl,hb2,hn2,((Fr.refl _ _).alloc _).alloc _,by simp⟩
theorem Ac2 (A:Option Addr) (b off n c g1 g2:Nat) (hA:n=0\/A=some ⟨b,off,none⟩) (hnc:n<=c) (hn:n<=1099511627776) (T:Nat->Prop) (hT1:¬T g1) (hT2:¬T g2) (W0:World) (hb1:Blk W0 g1 40 #[.slice A n c]) (hb2:Blk W0 g2 3 #[.int .i64 7]):
  J9 zp 205 #[.pointer (some ⟨g1,0,none⟩),.pointer (some ⟨g2,0,none⟩)] (Kh b off n) (A88 ((n+6)/7)) Non T W0.heap.size W0:=by
 intro l J hJ h0 hY;show Calls _ _ #[.func (.yield l) #[] #[],.pointer (some ⟨g1,0,none⟩),.pointer (some ⟨g2,0,none⟩)] W0 _;go_enter func205,ntmps205;go_wp2
 go_loopw [4] (fun v wr=>∃i:Nat,v=.int .i64 ((7*i:Nat):Int)/\i<=(n+6)/7/\Blk wr g1 40 #[.slice A n c]/\Blk wr g2 3 #[.int .i64 7]/\J i wr/\W0.heap.size<=wr.heap.size) (fun v _=>n+7-(intOf v).toNat)
 case atStart=>exact ⟨0,rfl,A64 _,hb1,hb2,h0,A59 _⟩
 case round=>
  obtain ⟨i,rfl,hi,h1,h2,hj,hs⟩:=hrel;have c1:=h1.cell 0;have c2:=h2.cell 0
  by_cases hlt:7*i<n
  ·
   obtain rfl:A=some ⟨b,off,none⟩:=hA.elim (fun h=>by omega) id;have hx:(A88 ((n+6)/7))[i]? =some i:=by rw [A91 (by omega)]
   have hx':=lh hx;clear hx;go_wp2
   go_quiet (fail)
   have hjn:J i (wr.drewN nq):=hJ _ _ _ hj ((Fr.refl _ _).drewN _);obtain ⟨fn,tmps,assign,body,hy,hR⟩:=Na (m:=2) (hY i i (wr.drewN nq) hx'.out hjn hs);unfold Kh at hy;obtain ⟨k,hk⟩:=Ab (min 7 (n-7*i));have hk7:k<=7:=by rw [<- hk.out];omega
   have hkn:7*i+k<=n:=by rw [<- hk.out];omega
   have hmin:(if ((n-7*i:Nat):Int)<7 then ((n-7*i:Nat):Int) else 7)=(k:Int):=by
    rw [<- hk.out]
    split<;>omega
   have hk0:¬k=0:=by rw [<- hk.out];omega
   rw [hk.out] at hy;rw [hmin];clear hmin hk;have c1':cS (wr.drewN nq) g1 0 (some ⟨b,off,none⟩) n c:=c1
   go_step
   go_step
   refine (wpIn_wide (n:=3)).1 ?_
   gi_wp2
   refine hR.mono ?_;clear hR hy c1';rintro _ w1 ⟨rfl,hj1,hf1⟩;have h1':=(h1.drewN nq).fr hf1 hT1;have h2':=(h2.drewN nq).fr hf1 hT2;have c2':=h2'.cell 0;have hs1:=hf1.size
   gi_wp2
   go_wp2;go_roundw
   case rel=>exact ⟨i+1,by go_num,by omega,h1',h2',hj1,Nat.le_trans hs hs1⟩
   case measure=>simp [intOf];omega
  ·
   go_wp2
   go_end0
   refine ⟨⟨_,rfl⟩,?_⟩;rw [A92,show (n+6)/7=i by omega];exact hj
def H3 (x:Nat):Array Value:=#[.int .u64 (x:Int)]
def Cz (B:Nat):Nat->Prop:=fun k=>B<=k/\k<B+5
def Ac3 (s:Value) (w:World) (r:Ending) (w':World):Prop:=
 r=.returned (.func (.func 154) #[] #[.pointer (some ⟨w.heap.size,0,none⟩)])/\Blk w' w.heap.size 40 #[s]/\Fr Non w w'/\w'.heap.size=w.heap.size+1
theorem Rt (A:Option Addr) (n c:Nat) (w:World):Calls zp 114 #[.slice A n c] w (Ac3 (.slice A n c) w):=by
 have hb:=Blk.new w 40 #[.slice A n c];go_enter func114,ntmps114;go_wp2
 go_ret
 exact ⟨rfl,hb,(Fr.refl _ _).alloc _,by simp⟩
theorem le_or (l:List UInt8) (x:UInt8) (hl:l.length<7):bits BinOp.or IntKind.u64 (Hs.le l:Int) (IntKind.u64.wrap ((x.toNat:Int)*2^(8*l.length)))=((Hs.le (l++[x]):Nat):Int)/\Hs.le (l++[x])<18446744073709551616:=by
 have h1:=Hs.le_lt l;have hx:=x.toNat_lt;have e8:(256:Nat)^l.length=2^(8*l.length):=by rw [show (256:Nat)=2^8 by decide,<- Nat.pow_mul]
 have e0:(2:Nat)^(8*l.length)<=2^48:=A73 (by omega) (by omega)
 have e1:(x.toNat:Int)*2^(8*l.length)=((x.toNat*2^(8*l.length):Nat):Int):=by
  rw [A86,Int.natCast_pow];rfl
 have hxm:x.toNat*2^(8*l.length)<=255*2^48:=A67 (by omega) e0;have hxm':2^(8*l.length)*x.toNat<=255*2^48:=by rw [A74];exact hxm
 rw [e8] at h1;rw [Hs.le_snoc,e8,e1,IntWalk.u64_in _ ⟨by omega,by omega⟩,u64_or_nat _ _ (by omega) (by omega),Nat.or_comm,nat_join (8*l.length) _ _ (by simp) h1,Nat.add_comm,A74];exact ⟨rfl,by omega⟩
theorem Ru (B gb n c:Nat) (A:Option Addr) (bs:List UInt8) (hlen:Hid (bs.length=n)) (hnc:n<=c) (hn:n<=1099511627776) (T:Nat->Prop) (W0:World) (hB:B<=W0.heap.size) (hb0:Blk W0 gb 40 #[.slice A n c]) (hr:Rd W0 B 1 A n (bs.map Bv))
  (hTA:0<n->∀k,Ad A=some k->¬T k) (hT5:∀k,Cz W0.heap.size k->¬T k):
  J9 zp 154 #[.pointer (some ⟨gb,0,none⟩)] H3 (Hs.words bs) (Cz W0.heap.size) T (W0.heap.size+5) W0:=by
 obtain ⟨b,aa,hA,a0⟩:∃b aa,(n=0\/A=some ⟨b,aa,none⟩)/\(n=0\/b<W0.heap.size):=by
  rcases hr.2 with h|⟨b,aa,h,hb,_⟩
  · exact ⟨0,0,.inl h,.inl h⟩
  · exact ⟨b,aa,.inr h,.inr (by omega)⟩
 intro l J hJ h0 hY;show Calls _ _ #[.func (.yield l) #[] #[],.pointer (some ⟨gb,0,none⟩)] W0 _;have a9:=hb0.cell 0;have al:=Blk.new W0 218 #[.func (.yield l) #[] #[]];have bg:=hb0.lt;have a6:=(hb0.alloc (.cells #[.func (.yield l) #[] #[]] 218)).cell 0;refine callsIn_wide.1 (callsIn_of_wp_marks (n:=3) func154 rfl trivial ?_ rfl);simp only [ntmps154,A75,A61,A68,A76,A77,A78,A79,A80,A81,A82,A72];refine wpIn_wide.2 ?_;go_wp2_with fail;refine (Ac1 A n c _).mono ?_;rintro _ w1 ⟨rfl,ar,az,ay,a1⟩;rw [A65] at ar az a1;have ad:=al.fr ay zq;have av:Fr Non W0 w1:=((Fr.refl _ _).alloc _).trans ay zr;go_wp2_with fail;have a4:=hr.fr av zr;have bf:w1.heap.size=W0.heap.size+3:=by omega
 refine Ka (n:=3) (gf:=205) (lb:=#[.pointer (some ⟨W0.heap.size+1,0,none⟩),.pointer (some ⟨W0.heap.size+1+1,0,none⟩)]) rfl (enters_of func205 (by kernel_rfl) rfl) (encs:=Kh b aa n) (xs:=A88 ((n+6)/7))
  (S:=Non) (Tb:=T) (C:=w1.heap.size+2) (fun _=>rfl) ?_ ⟨fun e=>e,fun e=>e⟩ ⟨hT5 _ (by unfold Cz;omega),hT5 _ (by unfold Cz;omega)⟩
  (fun i W=>J i W/\Blk W W0.heap.size 218 #[.func (.yield l) #[] #[]]/\Rd W B 1 A n (bs.map Bv)) ?_ ?_ ?_ ?_
 ·
  intro W1 hf hs;rw [<- hs];exact Ac2 A b aa n c _ _ hA hnc hn _ (fun e=>e.elim (hT5 _ (by unfold Cz;omega)) (fun e=>by omega)) (fun e=>e.elim (hT5 _ (by unfold Cz;omega)) (fun e=>by omega)) W1 (ar.fr hf zq) (az.fr hf zq)
 ·
  rintro i X Y ⟨hj,hb,af⟩ ah;refine ⟨hJ i X Y hj (ah.mono (fun k _ e=> ?_)),hb.fr ah ?_,af.fr ah (fun k hk=> ?_)⟩
  ·
   rcases e with e|e|e
   · exact e.elim
   · unfold Cz;omega
   · unfold Cz;omega
  ·
   rintro (e|e|e)
   · exact e
   · omega
   · omega
  ·
   rintro (e|e|e)
   · exact e
   · omega
   · omega
 · exact ⟨hJ 0 W0 w1 h0 (av.of_non _),ad,a4⟩
 ·
  intro i x W hx;have hi:i<(n+6)/7:=by have:=(List.getElem?_eq_some_iff.1 hx).1;simpa using this
  rw [A91 hi] at hx;obtain rfl:i=x:=by simpa using hx
  unfold Kh;simp only []
  gi_wp2
  intro W2 hj hb af hC;have ae:7*i<n:=by omega
  obtain ⟨rfl,a0⟩:A=some ⟨b,aa,none⟩/\b<W0.heap.size:=⟨hA.elim (fun h=>by omega) id,a0.elim (fun h=>by omega) id⟩;have aw:(Hs.words bs)[i]? =some (Hs.le ((bs.drop (7*i)).take 7)):=Hs.words_get i bs (by rw [hlen.out];exact ae);obtain ⟨fn,a2,ai,a3,hy,hR⟩:=Na (m:=2) (hY i _ W2 aw hj (by omega));have ao:=hb.cell 0;obtain ⟨k,hk⟩:=Ab (min 7 (n-7*i));have bh:k<=7:=by rw [<- hk.out];omega
  have bb:7*i+k<=n:=by rw [<- hk.out];omega
  have bi:0<k:=by rw [<- hk.out];omega
  rw [hk.out];obtain ⟨X,hX⟩:=Ab ((bs.drop (7*i)).take 7);have aq:X.length=k:=by rw [<- hX.out,A89,A63,hlen.out,<- hk.out]
  have ac:Hid (∀j,j<k->∃x:UInt8,X[j]? =some x/\W2.cell? ⟨b,aa+7*i+j,none⟩=some (.int .u8 (x.toNat:Int))):=by
   intro j hj;obtain ⟨b',a8,u,e,_,hu,hc⟩:=af.at (k:=7*i+j) (by omega)
   cases e
   obtain ⟨x,hx,rfl⟩:=Md hu;refine ⟨x,?_,by rw [Nat.add_assoc];exact hc⟩;rw [<- hX.out,A93 (by omega),A94];exact hx
  rw [hX.out] at hy;have ab:=lh aq;clear aq aw hX hk
  gi_wp2
  gi_loopw [4,12] (fun u v wr=>∃j:Nat,u=.int .u64 (Hs.le (X.take j):Int)/\v=.int .i64 (j:Int)/\j<=k/\wr=W2) (fun _ v _=>k-(intOf v).toNat)
  case atStart=>exact ⟨0,rfl,rfl,A64 _,rfl⟩
  case round=>
   obtain ⟨j,rfl,rfl,bd,rfl⟩:=hrel
   by_cases hlt:j<k
   ·
    obtain ⟨x,au,bc⟩:=ac.out j hlt;have ax:(X.take j).length=j:=by rw [A89,ab.out];omega
    have ag:=le_or (X.take j) x (by omega);rw [ax] at ag
    have ht:X.take (j+1)=X.take j++[x]:=by
     obtain ⟨h1,rfl⟩:=List.getElem?_eq_some_iff.1 au;exact A83 h1
    rw [<- ht] at ag;have aj:=lh ag.1;clear ag ht au ax;have be:=x.toNat_lt
    gi_wp2
    go_roundw
    case rel=>exact ⟨j+1,by rw [aj.out],by go_num,by omega,trivial⟩
    case measure=>simp [intOf];omega
   ·
    have a5:j=k:=by omega
    have ap:X.take j=X:=A95 (by rw [ab.out];omega);rw [ap]
    have ba:Hs.le X<18446744073709551616:=by
     have h1:=Hs.le_lt X;have h2:256^X.length<=256^7:=A73 (by omega) (by rw [ab.out];omega);have h4:(256:Nat)^7=72057594037927936:=by decide
     omega
    unfold H3 at hy;generalize Hs.le X=v at*;clear ap
    gi_wp2
    refine ⟨rfl,(Aa9 hR).mono ?_⟩;clear hR hy;rintro _ w3 ⟨rfl,a7,ak⟩
    gi_wp2
    exact ⟨⟨a7,hb.fr ak (hT5 _ (by unfold Cz;omega)),af.frA ak (hTA (by omega))⟩,ak⟩
 ·
  rintro W ⟨hj,hb,af⟩ hD;rw [A92] at hj;go_wp2;refine ⟨by simp,.inl ⟨_,_,rfl,run_takeDeferred hD,?_⟩⟩;refine ⟨_,results_none rfl _ _ _,⟨_,rfl⟩,?_⟩;rw [Hs.words_length,hlen.out];exact hJ _ _ _ hj ((Fr.putOne _ _ _).mono (fun k _ e=>by unfold Cz;omega))
theorem Rv (label:List UInt8) (l:List Nat) (A:Option Addr) (n c B:Nat) (w:World) (hn:Hid (l.length=n)) (hl:label.length<=1099511627776) (hn':n<=1099511627776) (hr:Rd w B 1 A n (l.map Wv)) (hx:∀x∈l,x<18446744073709551616):
  Calls zp 112 #[.string (str label),.slice A n c] w (De (Hs.of label l) w):=by
 have bu:=Ep label;refine callsIn_wide.1 (callsIn_of_wp_marks (n:=3) func112 rfl trivial ?_ rfl);simp only [ntmps112,A75,A61,A68,A76,A77,A78,A79,A80,A81,A82,A72];refine wpIn_wide.2 ?_;obtain ⟨c1,w1,ae,af,bb,av,bm,_⟩:=Pj 9 40 5 underlying9 underlying40 underlying5 label (w.alloc (.cells #[.int .u64 (label.length:Int),.int .u64 0] 215));have bd:=Blk.new w 215 #[.int .u64 (label.length:Int),.int .u64 0];have bi:=((Fr.refl Non w).alloc (.cells #[.int .u64 (label.length:Int),.int .u64 0] 215)).trans bb zr;have bf:=bd.fr bb zq;rw [A65] at ae af av;go_wp2_with fail;refine (Rt _ label.length c1 _).mono ?_;rintro _ w2 ⟨rfl,a2,a1,bj⟩;go_wp2_with fail;have be:=bi.trans a1 zr;have bo:=bf.fr a1 zq;have a0:=af.fr a1 zr;rw [av] at a2;obtain ⟨F0,a4⟩:=Ab (Hs.foldT (Hs.words label) 0 label.length);have bn:=Hs.words_len label
 refine Ka (n:=3) (gf:=154) (lb:=#[.pointer (some ⟨w.heap.size+1+1,0,none⟩)]) rfl (enters_of func154 (by kernel_rfl) rfl) (encs:=H3) (xs:=Hs.words label)
  (S:=Cz (w2.heap.size+2)) (Tb:=One w.heap.size) (C:=w2.heap.size+2+5) (fun _=>rfl) ?_ (by unfold Cz;omega) (by unfold One;omega)
  (fun i W=>∃s:Nat,Blk W w.heap.size 215 #[.int .u64 (s:Int),.int .u64 (i:Int)]/\s<9223372036854775808/\Hid (Hs.foldT ((Hs.words label).drop i) i s=F0)/\Fr Non w W) ?_ ?_ ?_ ?_
 ·
  intro W1 hf hs;rw [<- hs];exact Ru _ _ _ c1 _ label rfl bm hl _ W1 (by omega) (a2.fr hf zq) (a0.fr hf zr) (fun _ k hk e=>by unfold One at e;simp [Ad] at hk;omega) (fun k hk e=>by unfold One at e;unfold Cz at hk;omega)
 ·
  rintro i X Y ⟨s,hb,hs,hd,hf⟩ a3;refine ⟨s,hb.fr a3 (by unfold Cz;omega),hs,hd,hf.trans a3 (fun k hk e=>by unfold Cz at e;unfold Non;omega)⟩
 · exact ⟨label.length,bo,by omega,a4,be⟩
 ·
  intro i x W hx;have ah:(Hs.words label).drop i=x::(Hs.words label).drop (i+1):=Fx hx;have a7:x<72057594037927936:=Hs.words_lt _ label x (A69 hx);have br:i<(Hs.words label).length:=(List.getElem?_eq_some_iff.1 hx).1;unfold H3;simp only []
  gi_wp2
  refine ⟨trivial,?_⟩;rintro W2 ⟨s,hb,hs,hd,hf⟩ hC;rw [ah] at hd;have ab:Hid (Hs.foldT ((Hs.words label).drop (i+1)) (i+1) (Hs.tk s x (i+1))=F0):=hd;clear hd ah;have aj:=Hs.tk_lt s x (i+1);have ar:=hb.lt
  gi_wp2_with (first|(refine ⟨trivial,rfl,?_⟩;gi_at_call 151;refine (Ro (Kg (W2.heap.size+1) w.heap.size 1 1 _ [x] s i _ rfl (hb.alloc _) (Rd.one _ _ _) (by simp [Ad];omega) (by simp;omega) (by omega) hs)).mono ?_;rintro _ w3 ⟨rfl,ap,ag⟩))
  have aw:Hs.foldT [x] i s<9223372036854775808:=by show Hs.tk s x (i+1)<_;omega
  exact ⟨⟨_,ap,aw,ab,(hf.alloc _).trans ag (fun k hk e=>by unfold One at e;unfold Non;omega)⟩,((Fr.refl (One w.heap.size) W2).alloc _).trans ag zr⟩
 ·
  rintro W ⟨s,hb,hs,hd,hf⟩ hD;rw [A90] at hd;rw [bj,av] at hD;have ab:s=F0:=hd.out;subst ab;clear hd;obtain ⟨m,hm⟩:=Ab (Hs.words label).length;rw [hm.out] at hb bn;have ar:=hb.lt;have bg:=(Array.getElem?_eq_some_iff.1 hD).1
  have ak:Hid (Hs.of label l=Hs.tk (Hs.foldT (l.map num) (m+1) (Hs.tk s n (m+1))) 0 (m+1+n+1)):=by
   show _=_;unfold Hs.of;rw [Hs.foldT_snoc,Hs.foldT_app,Hs.foldT_snoc,a4.out];simp only [A96,A84,hm.out,hn.out,Nat.zero_add,A61,A68]
  obtain ⟨F1,a5⟩:=Ab (Hs.tk s n (m+1));have a9:=Hs.tk_lt s n (m+1);rw [a5.out] at ak a9;obtain ⟨F2,a8⟩:=Ab (Hs.foldT (l.map num) (m+1) F1);have bh:=Hs.foldT_lt (l.map num) (m+1) F1 a9;rw [a8.out] at ak bh;have bl:=hf.size;go_wp2_with fail;refine (Kg (W.heap.size+1) w.heap.size 1 1 _ [n] s m _ rfl (hb.alloc _) (Rd.one _ _ _) (by simp [Ad];omega) (by simp;omega) (by omega) hs).mono ?_;rintro _ w3 ⟨rfl,ap,ag⟩;have ao:Blk w3 w.heap.size 215 #[.int .u64 (F1:Int),.int .u64 ((m+1+0:Nat):Int)]:=by rw [<- a5.out];exact ap
  have bk:=(hf.alloc _).trans ag (fun k hk e=>by unfold One at e;unfold Non;omega);have bp:=(((Fr.refl (One w.heap.size) W).alloc _).trans ag zr).obj hD (by unfold One;omega);go_wp2
  go_loopw [27] (fun v wr=>∃(i s':Nat),v=.int .i64 (i:Int)/\i<=n/\Blk wr w.heap.size 215 #[.int .u64 (s':Int),.int .u64 ((m+1+i:Nat):Int)]/\s'<9223372036854775808/\Hid (Hs.foldT ((l.map num).drop i) (m+1+i) s'=F2)/\Fr Non w wr/\wr.heap[w.heap.size+1+1+1]? =some (.deferred (some []))) (fun v _=>n-(intOf v).toNat)
  case atStart=>exact ⟨0,F1,rfl,A64 _,ao,by omega,a8,bk,bp⟩
  case round=>
   obtain ⟨i,s',rfl,hi,az,ba,ad,aq,ax⟩:=hrel;have bt:=(Array.getElem?_eq_some_iff.1 ax).1;have bw:=az.lt
   by_cases hlt:i<n
   ·
    obtain ⟨b,bv,u,rfl,bx,a6,bs⟩:=(hr.fr aq zr).at hlt;obtain ⟨x,au,rfl⟩:=Kf a6;have a7:=hx x (A69 au);have ah:(l.map num).drop i=num x::(l.map num).drop (i+1):=Fx (by rw [A87,au];rfl);rw [ah] at ad;have ab:Hid (Hs.foldT ((l.map num).drop (i+1)) (m+1+i+1) (Hs.tk s' (num x) (m+1+i+1))=F2):=ad;have aj:=Hs.tk_lt s' (num x) (m+1+i+1);clear ad ah a6 au;go_wp2_with fail;refine (Fq x _ a7).mono ?_;rintro _ _ ⟨rfl,rfl⟩;have bc:=Ei x;obtain ⟨y,hy⟩:=Ab (num x);rw [hy.out] at bc ab aj;rw [hy.out];go_wp2_with fail;refine (Kg (wr.heap.size+1) w.heap.size 1 1 _ [y] s' (m+1+i) _ rfl (az.alloc _) (Rd.one _ _ _) (by simp [Ad];omega) (by simp;omega) (by omega) ba).mono ?_;rintro _ w4 ⟨rfl,ai,ac⟩;have aa:Blk w4 w.heap.size 215 #[.int .u64 (Hs.tk s' y (m+1+i+1):Int),.int .u64 ((m+1+(i+1):Nat):Int)]:=ai;have ay:=(aq.alloc _).trans ac (fun k hk e=>by unfold One at e;unfold Non;omega);have al:=(((Fr.refl (One w.heap.size) wr).alloc _).trans ac zr).obj ax (by unfold One;omega);obtain ⟨t,ht⟩:=Ab (Hs.tk s' y (m+1+i+1));rw [ht.out] at aa ab aj;clear ai ac;go_wp2;exact ⟨⟨i+1,t,rfl,by omega,aa,by omega,ab,ay,al⟩,by simp [intOf];omega⟩
   ·
    rw [show (l.map num).drop i=[] from List.drop_eq_nil_iff.2 (by rw [A84,hn.out];omega)] at ad;obtain rfl:i=n:=by omega
    have e2:s'=F2:=ad.out;subst e2;clear ad;have aj:=Hs.tk_lt s' 0 (m+1+i+1);go_wp2_with fail;refine (Kg (wr.heap.size+1) w.heap.size 1 1 _ [0] s' (m+1+i) _ rfl (az.alloc _) (Rd.one _ _ _) (by simp [Ad];omega) (by simp) (by omega) ba).mono ?_;rintro _ w4 ⟨rfl,ai,ac⟩;have aa:Blk w4 w.heap.size 215 #[.int .u64 (Hs.of label l:Int),.int .u64 ((m+1+i+1:Nat):Int)]:=by rw [ak.out];exact ai
    have ay:=(aq.alloc _).trans ac (fun k hk e=>by unfold One at e;unfold Non;omega);have al:=(((Fr.refl (One w.heap.size) wr).alloc _).trans ac zr).obj ax (by unfold One;omega);have bq:=aa.cell 0;obtain ⟨t,ht⟩:=Ab (Hs.of label l);rw [ht.out] at bq;clear ai ac aa ak;go_wp2;refine ⟨by simp,.inl ⟨_,_,rfl,run_takeDeferred al,?_⟩⟩;exact ⟨_,results_tmp rfl _ _ _,by rw [ht.out];rfl,ay.putObj (fun h=>by omega) _⟩
theorem Ac4 {P:Program} {ops:Array Oper} {rest:List Oper} {o:Oper} {a:Act} {Q:Exit->Act->World->Prop} {w:World} {l m':Nat} (s x:Operand) (t:TypeId) (hgd:o.guard=none)
  (ho:o.op=.call {callee:=.builtin .append,args:=#[s,x],argTypes:=#[t,t]})
  {base size n c:Nat} {e:TypeId} {A:Option Addr} {xs:List Value} {z:Value} {bytes m cx B:Nat} {Ax:Option Addr} {news:List Value}
  (hs:a.eval s=.slice A n c) (hx:a.eval x=.slice Ax m cx)
  (hT:SlT P t e z size bytes) (h:Own w base e size A n c xs) (hr:Rd w B size Ax m news)
  (h1:∀u∈news,u.oneCell'=true) (hbytes:(n+m)*bytes<=140737488355328) (hmax:n+m<=9223372036854775807) (hbase:base<=w.heap.size)
  (hk:∀A' c' w',Own w' base e size A' (n+m) c' (xs++news)->Fr (fun k=>Ad A=some k) w w'->(Ad A'=Ad A\/Ad A'=some w.heap.size)->
   wpListIn (Fence.wide.inRound l) m' P ops Q rest (a.put o.dst (.slice A' (n+m) c')) w'):wpListIn (Fence.wide.inRound l) m' P ops Q (o::rest) a w:=by
 refine wpListIn_plain hgd fun K hK=> ?_;obtain ⟨A',c',w',hrun,h2,h3,h4⟩:=Ij (P:=P) (ty:=o.type) (cx:=cx) hT h hr h1 hbytes hmax hbase;refine ⟨fun _ _=>trivial,?_⟩;rw [Fence.inRound_round,Oper.semAt_some l _ o (fun c hc=>by rw [ho] at hc;cases hc)];unfold execOp;simp only [ho,resolve,invoke,builtin,Sem.run_bind,Sem.run_pure,Result.andThen_ok,List.map_toArray,List.map_cons,List.map_nil,hs,hx,hrun];exact hK _ _ (hk A' c' w' h2 h3 h4)
def Ng (w:World) (ws:List Nat) (r:Ending) (w':World):Prop:=
 ∃A c,r=.returned (.slice A ws.length c)/\Own w' w.heap.size 43 1 A ws.length c (ws.map Wv)/\Fr Non w w'
theorem Ac5 (B gb n c:Nat) (A:Option Addr) (bs:List UInt8) (w:World) (hlen:Hid (bs.length=n)) (hnc:n<=c) (hn:n<=1099511627776) (hB:B<=w.heap.size) (hb0:Blk w gb 40 #[.slice A n c]) (hr:Rd w B 1 A n (bs.map Bv)):
  Calls zp 153 #[.slice none 0 0,.func (.func 154) #[] #[.pointer (some ⟨gb,0,none⟩)]] w (Ng w (Hs.words bs)):=by
 have a1:=hb0.lt
 have ar:0<n->∀k,Ad A=some k->k<w.heap.size:=by
  intro h0 k hk
  rcases hr.2 with h|⟨b,off,rfl,hb,_⟩
  · omega
  · simp [Ad] at hk;omega
 have ak:=Hs.words_len bs;rw [hlen.out] at ak;have af:=Blk.new w 46 #[.slice none 0 0];refine callsIn_wide.1 (callsIn_of_wp_marks (n:=3) func153 rfl trivial ?_ rfl);simp only [ntmps153,A75,A61,A68,A76,A77,A78,A79,A80,A81,A82,A72];refine wpIn_wide.2 ?_;go_wp2_with fail;have aw:∀x∈Hs.words bs,x<72057594037927936:=Hs.words_lt _ bs;obtain ⟨ws,hW⟩:=Ab (Hs.words bs);rw [hW.out] at ak aw;rw [hW.out]
 refine Ka (n:=3) (gf:=154) (lb:=#[.pointer (some ⟨gb,0,none⟩)]) rfl (enters_of func154 (by kernel_rfl) rfl) (encs:=H3) (xs:=ws)
  (S:=Cz (w.heap.size+3)) (Tb:=fun k=>k=w.heap.size\/w.heap.size+8<=k) (C:=w.heap.size+8) (fun _=>rfl) ?_ (by unfold Cz;simp) (by simp;omega)
  (fun i W=>∃A' c',Blk W w.heap.size 46 #[.slice A' i c']/\Own W (w.heap.size+8) 43 1 A' i c' ((ws.take i).map Wv)/\Fr Non w W) ?_ ?_ ?_ ?_
 ·
  intro W1 hf hs;have ax:W1.heap.size=w.heap.size+3:=by rw [hs];simp
  have ai:Fr Non w W1:=((Fr.refl _ _).alloc _).trans hf zr
  have h:=Ru B gb n c A bs hlen hnc hn (fun k=>(k=w.heap.size\/w.heap.size+8<=k)\/k=(w.alloc (.cells #[.slice none 0 0] 46)).heap.size+1) W1 (by omega) (hb0.fr ai zq) (hr.fr ai zr)
   (fun h0 k hk e=>by have:=ar h0 k hk;simp at e;omega) (fun k hk e=>by unfold Cz at hk;simp at e;omega)
  rw [hW.out,ax] at h;exact h
 ·
  rintro i X Y ⟨A',c',hb,ho,hf⟩ ae;have aa:=ho.row;refine ⟨A',c',hb.fr ae ?_,ho.fr ae (fun k hk=> ?_),hf.trans ae (fun k hk e=> ?_)⟩
  · unfold Cz;simp;omega
  ·
   have:=aa k hk;unfold Cz;simp;omega
  · unfold Cz at e;simp at e;unfold Non;omega
 · exact ⟨none,0,af,Own.nil _ _ _ _,(Fr.refl _ _).alloc _⟩
 ·
  intro i x W hx;have a0:i<ws.length:=(List.getElem?_eq_some_iff.1 hx).1
  have al:ws.take (i+1)=ws.take i++[x]:=by
   obtain ⟨h1,rfl⟩:=List.getElem?_eq_some_iff.1 hx;exact A83 h1
  have ah:=lh al;clear al hx;unfold H3;simp only []
  gi_wp2
  refine ⟨trivial,?_⟩;rintro W2 ⟨A',c',hb,ho,hf⟩ hC;have au:=hb.cell 0;have a3:=hb.frozen 0;have ay:=ho.ne hb (by decide);have aa:=ho.row;have a2:=hb.lt
  gi_wp2_with (first|(gi_at_builtin;refine Ac4 (.tmp 8) (.tmp 10) 46 rfl rfl rfl rfl slW (ho.alloc _) (Rd.one _ _ _) (by simp [Value.oneCell']) (by omega) (by omega) (by simp;omega) ?_;intro A1 c1 w1 ab ao av;have ag:=(hb.alloc _).fr ao (fun e=>ay e);have aq:=ag.cell 0;have az:=ag.frozen 0))
  have ac:=ab.row
  have ad:Own (w1.setCell ⟨w.heap.size,0,none⟩ (.slice A1 (i+1) c1)) (w.heap.size+8) 43 1 A1 (i+1) c1 ((ws.take (i+1)).map Wv):=by
   rw [ah.out,A66];exact ab.fr ((Fr.refl (One w.heap.size) w1).setOne 0 _) (fun k hk e=>by have:=(ac k hk).1;unfold One at e;omega)
  have aj:Fr (fun k=>k=w.heap.size\/w.heap.size+8<=k) W2 (w1.setCell ⟨w.heap.size,0,none⟩ (.slice A1 (i+1) c1)):=
   ((((Fr.refl _ W2).alloc _).trans ao (fun k _ e=> .inr (aa k e).1))).setCell (fun _=> .inl rfl) _
  exact ⟨⟨A1,c1,ag.set 0 _,ad,hf.trans aj (fun k hk e=>by unfold Non;omega)⟩,aj⟩
 ·
  rintro W ⟨A',c',hb,ho,hf⟩ hD;rw [A97] at ho;have au:=hb.cell 0;go_wp2;refine ⟨by simp,.inl ⟨_,_,rfl,run_takeDeferred hD,?_⟩⟩;have aa:=ho.row;have ap:Fr (fun k=>k=w.heap.size+1) W (W.putObj (w.alloc (.cells #[.slice none 0 0] 46)).heap.size (.deferred none)):=(Fr.putOne _ _ _).mono (fun k _ e=>by simpa using e);rw [hW.out];exact ⟨_,results_tmp rfl _ _ _,A',c',rfl,(ho.fr ap (fun k hk e=>by have:=(aa k hk).1;omega)).lower (by omega),hf.trans ap (fun k hk e=>by omega)⟩
theorem Ac6 (B gb n c:Nat) (A:Option Addr) (bs:List UInt8) (w:World) (hlen:Hid (bs.length=n)) (hnc:n<=c) (hn:n<=1099511627776) (hB:B<=w.heap.size) (hb0:Blk w gb 40 #[.slice A n c]) (hr:Rd w B 1 A n (bs.map Bv)):
  Calls zp 113 #[.func (.func 154) #[] #[.pointer (some ⟨gb,0,none⟩)]] w (Ng w (Hs.words bs)):=by
 go_enter func113,ntmps113;go_wp2_with fail;refine (Ac5 B gb n c A bs _ hlen hnc hn hB hb0 hr).mono ?_;rintro _ w1 ⟨A1,c1,rfl,hown1,hf1⟩;go_wp2
 go_ret
 exact ⟨A1,c1,rfl,hown1,hf1⟩
theorem Rw (label:List UInt8) (B n c:Nat) (A:Option Addr) (bs:List UInt8) (w:World) (hlen:Hid (bs.length=n)) (hnc:n<=c) (hn:n<=1099511627775) (hl:label.length<=1099511627776) (hB:B<=w.heap.size) (hr:Rd w B 1 A n (bs.map Bv)):
  Calls zp 71 #[.string (str label),.slice A n c] w (De (Hs.ofBytes label bs) w):=by
 have hwl:=Hs.words_len bs;have hws:∀x∈Hs.words bs,x<72057594037927936:=Hs.words_lt _ bs;rw [hlen.out] at hwl;go_enter func71,ntmps71;go_wp2_with fail;refine (Rt A n c _).mono ?_;rintro _ w1 ⟨rfl,hbw,hf1,hz1⟩;have hs1:=hf1.size;have hz1':=lh hz1;clear hz1;have hr1:=hr.fr hf1 zr;go_wp2_with fail;refine (Ac6 B w.heap.size n c A bs _ hlen hnc (by omega) (by omega) hbw hr1).mono ?_;rintro _ w2 ⟨A2,c2,rfl,hown2,hf2⟩;have hs2:=hf2.size;have hof:Hid (Hs.ofBytes label bs=Hs.of label (Hs.words bs++[n])):=by show _=_;unfold Hs.ofBytes;rw [hlen.out]
 obtain ⟨ws,hW⟩:=Ab (Hs.words bs);rw [hW.out] at hwl hws hown2 hof;rw [hW.out,hof.out];go_wp2_with (first|(at_builtin;go_loud (refine Av (.tmp 8) (.tmp 12) 46 rfl rfl rfl rfl slW (hown2.alloc _) (Rd.one _ _ _) (by simp [Value.oneCell']) (by omega) (by omega) (by simp;omega) ?_);intro A3 c3 w3 hown3 hf3 hat3));have hown3':Own w3 w1.heap.size 43 1 A3 (ws.length+1) c3 ((ws++[n]).map Wv):=by rw [A66];exact hown3
 have hfw:=((hf1.trans hf2 zr).alloc (.cells #[.int .u64 (n:Int)] 43)).trans hf3 (hown2.notNon (by omega));refine (Rv label (ws++[n]) A3 (ws.length+1) c3 w3.heap.size w3 (by show _=_;simp) hl (by omega) hown3'.rd (fun x hx=> ?_)).mono ?_
 ·
  rcases List.mem_append.1 hx with h|h
  · have:=hws x h;omega
  · simp at h;omega
 ·
  rintro _ w4 ⟨rfl,hf4⟩;go_wp2
  go_ret
  exact ⟨by rw [hof.out];rfl,hfw.trans hf4 zr⟩
end
namespace R1
theorem halves (al ah bl bh:Nat) (h1:al<4294967296) (h2:ah<536870912) (h3:bl<4294967296) (h4:bh<536870912):
  ∃low m1 m2 mid high me mq lp:Nat,low=al*bl/\m1=ah*bl/\m2=al*bh/\mid=m1+m2/\high=ah*bh/\me=mid%536870912/\mq=mid/536870912/\lp=low%2305843009213693951/\
   low<18446744073709551616/\m1<2305843009213693952/\m2<2305843009213693952/\high<288230376151711744/\me<536870912/\mq<8589934592/\lp<2305843009213693951:=by
 have p1:al*bl<=4294967295*4294967295:=A67 (by omega) (by omega);have p2:ah*bl<=536870911*4294967295:=A67 (by omega) (by omega);have p3:al*bh<=4294967295*536870911:=A67 (by omega) (by omega);have p4:ah*bh<=536870911*536870911:=A67 (by omega) (by omega);exact ⟨_,_,_,_,_,_,_,_,rfl,rfl,rfl,rfl,rfl,rfl,rfl,rfl,by omega,by omega,by omega,by omega,by omega,by omega,A60 _ (by omega)⟩
theorem split (x:Nat) (hx:x<2305843009213693952):∃l h:Nat,l<4294967296/\h<536870912/\x=h*4294967296+l/\x%4294967296=l/\x/4294967296=h:=⟨x%4294967296,x/4294967296,by omega,by omega,by omega,rfl,rfl⟩
theorem whole (al ah bl bh low mid high me mq lp:Nat) (e1:low=al*bl) (e2:mid=ah*bl+al*bh) (e3:high=ah*bh) (e4:me=mid%536870912) (e5:mq=mid/536870912) (e6:lp=low%2305843009213693951):
  (lp+me*4294967296+mq+8*high)%2305843009213693951=(ah*4294967296+al)*(bh*4294967296+bl)%2305843009213693951:=by
 have h:(ah*4294967296+al)*(bh*4294967296+bl)=high*18446744073709551616+mid*4294967296+low:=by
  rw [Lib.split_mul,<- e1,<- e3];have:ah*bl+al*bh=mid:=e2.symm;rw [this]
 rw [h,e4,e5,e6];omega
theorem nn {a b c:Nat} (B:Int) (hB:(b:Int)=B) (h:a%b=c):(a:Int)%B=(c:Int)/\(a:Int).tmod B=(c:Int):=by
 subst h hB;rw [Int.tmod_eq_emod_of_nonneg (by omega)];exact ⟨(Int.natCast_emod a b).symm,(Int.natCast_emod a b).symm⟩
theorem dd {a b c:Nat} (B:Int) (hB:(b:Int)=B) (h:a/b=c):(a:Int)/B=(c:Int)/\(a:Int).tdiv B=(c:Int):=by
 subst h hB;rw [Int.tdiv_eq_ediv_of_nonneg (by omega)];exact ⟨(Int.natCast_ediv a b).symm,(Int.natCast_ediv a b).symm⟩
theorem ww {a b c:Nat} (B:Int) (hB:(b:Int)=B) (h:c=a*b) (hc:c<18446744073709551616):IntKind.u64.wrap ((a:Int)*B)=(c:Int):=by
 subst hB;rw [<- A86,<- h,IntKind.wrap_u64];omega
theorem w1 {k:Nat} (hk:k<18446744073709551616):IntKind.u64.wrap (k:Int)=(k:Int):=by rw [IntKind.wrap_u64];omega
end R1
theorem Nh (a b:Nat) (w:World) (_ha:a<18446744073709551616) (_hb:b<18446744073709551616):
  Calls zp 159 #[.int .u64 (a:Int),.int .u64 (b:Int)] w fun e w'=>e=.returned (.int .u64 (Fd.mul a b:Int))/\∃n,w'=w.drewN n:=by
 obtain ⟨x,hx⟩:=Ab (a%2305843009213693951);obtain ⟨y,hy⟩:=Ab (b%2305843009213693951);have lx:x<2305843009213693951:=by rw [<- hx.out];exact A60 _ (by omega)
 have ly:y<2305843009213693951:=by rw [<- hy.out];exact A60 _ (by omega)
 obtain ⟨al,ah,lal,lah,exx,e1,e2⟩:=R1.split x (A62 lx (by decide));obtain ⟨bl,bh,lbl,lbh,eyy,e3,e4⟩:=R1.split y (A62 ly (by decide));obtain ⟨low,m1,m2,mid,high,me,mq,lp,d1,d2,d3,d4,d5,d6,d7,d8,g1,g2,g3,g4,g5,g6,g7⟩:=R1.halves al ah bl bh lal lah lbl lbh
 have hres:Hid ((lp+me*4294967296+mq+8*high)%2305843009213693951=Fd.mul a b):=by
  show _=_;rw [R1.whole al ah bl bh low mid high me mq lp d1 (by rw [d4,d2,d3]) d5 d6 d7 d8,<- exx,<- eyy,<- hx.out,<- hy.out,Fd.mul_mod]
 obtain ⟨r,hr⟩:=Ab (Fd.mul a b);rw [hr.out] at hres ⊢;obtain ⟨meh,hmeh⟩:=Ab (me*4294967296);rw [hmeh.out] at hres;have lmeh:meh<2305843009213693952:=by rw [<- hmeh.out];omega
 obtain ⟨fa,fa'⟩:=R1.nn 2305843009213693951 rfl hx.out;obtain ⟨fb,fb'⟩:=R1.nn 2305843009213693951 rfl hy.out;obtain ⟨f1,f1'⟩:=R1.nn 4294967296 rfl e1;obtain ⟨f2,f2'⟩:=R1.dd 4294967296 rfl e2;obtain ⟨f3,f3'⟩:=R1.nn 4294967296 rfl e3;obtain ⟨f4,f4'⟩:=R1.dd 4294967296 rfl e4;obtain ⟨f5,f5'⟩:=R1.nn 536870912 rfl d6.symm;obtain ⟨f6,f6'⟩:=R1.dd 536870912 rfl d7.symm;obtain ⟨f7,f7'⟩:=R1.nn 2305843009213693951 rfl d8.symm;obtain ⟨f8,f8'⟩:=R1.nn 2305843009213693951 rfl hres.out;have k1:=R1.ww bl rfl d1 g1;have k2:=R1.ww bl rfl d2 (A62 g2 (by decide));have k3:=R1.ww bh rfl d3 (A62 g3 (by decide));have k4:=R1.ww bh rfl d5 (A62 g4 (by decide));have k5:=R1.ww (c:=meh) 4294967296 rfl hmeh.out.symm (A62 lmeh (by decide));have k6:IntKind.u64.wrap ((m1:Int)+(m2:Int))=(mid:Int):=by rw [IntKind.wrap_u64,d4];omega
 rw [show ((lp+meh+mq+8*high:Nat):Int)=(lp:Int)+(meh:Int)+(mq:Int)+8*(high:Int) by omega] at f8 f8';clear hx hy lx ly exx e1 e2 eyy e3 e4 d1 d2 d3 d4 d5 d6 d7 d8 hres hmeh lal lbl;have wah:=R1.w1 (A62 lah (by decide));have wbh:=R1.w1 (A62 lbh (by decide));have wmq:=R1.w1 (A62 g6 (by decide));clear lah lbh;have z1:¬(2305843009213693951:Int)=0:=by decide
 have z2:¬(4294967296:Int)=0:=by decide
 have z3:¬(536870912:Int)=0:=by decide
 go_enter func159,ntmps159;generalize (2305843009213693951:Int)=P at*;generalize (4294967296:Int)=H at*;generalize (536870912:Int)=E at*;go_wp2
 go_quiet (fail)
 go_wp2
 go_quiet (fail)
 go_wp2
 go_quiet (fail)
 go_wp2
 go_quiet (fail)
 go_wp2
 go_ret
 exact ⟨rfl,_,by simp only [World.drewN_drewN];rfl⟩
theorem Rx (a b:Nat) (w:World):Calls zp 207 #[.int .u64 (a:Int),.int .u64 (b:Int)] w fun e w'=>e=.returned (.int .u64 (num (a+b):Int))/\w=w':=by
 obtain ⟨x,hx⟩:=Ab (a%2305843009213693951);obtain ⟨y,hy⟩:=Ab (b%2305843009213693951);have lx:x<2305843009213693951:=by rw [<- hx.out];exact A60 _ (by omega)
 have ly:y<2305843009213693951:=by rw [<- hy.out];exact A60 _ (by omega)
 have hres:(x+y)%2305843009213693951=num (a+b):=by rw [<- hx.out,<- hy.out];exact (Nat.add_mod a b _).symm
 obtain ⟨r,hr⟩:=Ab (num (a+b));rw [hr.out] at hres ⊢;obtain ⟨fa,fa'⟩:=R1.nn 2305843009213693951 rfl hx.out;obtain ⟨fb,fb'⟩:=R1.nn 2305843009213693951 rfl hy.out;obtain ⟨f8,f8'⟩:=R1.nn 2305843009213693951 rfl hres;rw [show ((x+y:Nat):Int)=(x:Int)+(y:Int) by omega] at f8 f8';have z1:¬(2305843009213693951:Int)=0:=by decide
 clear hres hx hy;go_enter func207,ntmps207;generalize (2305843009213693951:Int)=P at*;go_wp2
 go_ret
 exact ⟨rfl,rfl⟩
theorem Ni (a n : Nat) (w : World) (_ha : a < 18446744073709551616) (hn : n < 18446744073709551616) : Calls zp 138 #[.int .u64 (a : Int), .int .u64 (n : Int)] w fun e w' => e = .returned (.int .u64 (Fd.pow a n : Int)) /\ ∃ k, w' = w.drewN k := by
  obtain ⟨x, hx⟩ := Ab (a % 2305843009213693951);have lx : x < 2305843009213693951 := by rw [<- hx.out]; exact A60 _ (by omega)
  have hpow : Hid (Fd.foldS (Fd.sqs 64 x n) 1 = Fd.pow a n) := by show _ = _; unfold Fd.pow; rw [hx.out]
  obtain ⟨r, hr⟩ := Ab (Fd.pow a n);rw [hr.out] at hpow ⊢;obtain ⟨fa, fa'⟩ := R1.nn 2305843009213693951 rfl hx.out;have z1 : ¬ (2305843009213693951 : Int) = 0 := by decide
  clear hx;go_enter func138, ntmps138;generalize (2305843009213693951 : Int) = P at *;go_wp2
  go_loopw [5, 6, 7] (fun o b m wr => ∃ o' b' m' f k : Nat, o = .int .u64 (o' : Int) /\ b = .int .u64 (b' : Int) /\ m = .int .u64 (m' : Int) /\ o' < 2305843009213693951 /\ b' < 2305843009213693951 /\ m' < 18446744073709551616 /\ m' < 2 ^ f /\ Hid (Fd.foldS (Fd.sqs f b' m') o' = r) /\ wr = w.drewN k) (fun _ _ m _ => (intOf m).toNat)
  case atStart => exact ⟨1, x, n, 64, 0, rfl, rfl, rfl, by omega, lx, hn, by omega, hpow, rfl⟩
  case round =>
    obtain ⟨o, b, m, f, k, rfl, rfl, rfl, lo, lb, lm, hf, hd, rfl⟩ := hrel
    by_cases hz : m = 0
    · subst hz
      have e : o = r := by have h := hd.out; cases f <;> simpa [Fd.sqs, Fd.foldS] using h
      subst e;go_wp2
      go_ret
      exact ⟨rfl, k, rfl⟩
    · obtain ⟨f, rfl⟩ : ∃ f', f = f' + 1 := ⟨f - 1, by rcases f with _ | f; · simp at hf; omega
                                                       · rfl⟩
      have hd2 : Fd.foldS (Fd.sqs f (Fd.mul b b) (m / 2)) (if (m % 2 == 1) = true then Fd.mul o b else o) = r := by have h := hd.out; rw [Fd.sqs, if_neg hz] at h; exact h
      have hmp : (0 : Int) < (m : Int) := by omega
      have hb2 := Fd.mul_bd b b;have ho2 := Fd.mul_bd o b;have k1 := lh (fun w => Nh o b w (by omega) (by omega));have k2 := lh (fun w => Nh b b w (by omega) (by omega));obtain ⟨bb, hbb⟩ := Ab (Fd.mul b b);obtain ⟨ob, hob⟩ := Ab (Fd.mul o b);rw [hbb.out] at hd2 hb2 k2;rw [hob.out] at hd2 ho2 k1;have hf2 : m / 2 < 2 ^ f := by rw [A71] at hf; omega
      clear hd hf hz;have hparity : m % 2 = 1 \/ m % 2 = 0 := by omega
      rcases hparity with hp | hp
      · have hpz : ((m : Int) % 2 == 1) = true := by simp; omega
        rw [hp] at hd2;have hd3 : Hid (Fd.foldS (Fd.sqs f bb (m / 2)) ob = r) := hd2;clear hd2 hp;go_wp2_with fail;refine (k1.out _).mono ?_;rintro _ _ ⟨rfl, n1, rfl⟩;go_wp2_with fail;refine (k2.out _).mono ?_;rintro _ _ ⟨rfl, n2, rfl⟩;go_wp2;exact ⟨⟨ob, bb, m / 2, f, k + n1 + n2, rfl, rfl, by go_num, ho2, hb2, by omega, hf2, hd3, by first | rfl | trivial⟩, by simp [intOf]; omega⟩
      · have hpz : ((m : Int) % 2 == 1) = false := by simp; omega
        rw [hp] at hd2;have hd3 : Hid (Fd.foldS (Fd.sqs f bb (m / 2)) o = r) := hd2;clear hd2 hp;go_wp2_with fail;refine (k2.out _).mono ?_;rintro _ _ ⟨rfl, n2, rfl⟩;go_wp2;exact ⟨⟨o, bb, m / 2, f, k + n2, rfl, rfl, by go_num, lo, hb2, by omega, hf2, hd3, by first | rfl | trivial⟩, by simp [intOf]; omega⟩
theorem Ry (A:Option Addr) (n c B:Nat) (bs:List UInt8) (w:World) (hlen:Hid (bs.length=n)) (hn:n<=1099511627776) (_hB:B<=w.heap.size) (hr:Rd w B 1 A n (bs.map Bv)):
  Calls zp 161 #[.slice A n c] w (Ng w (Hs.words bs)):=by
 have al:(Hs.words bs).length=(n+6)/7:=by rw [Hs.words_length,hlen.out]
 obtain ⟨ws,hW⟩:=Ab (Hs.words bs);have ao:Hid (∀j,7*j<n->ws[j]? =some (Hs.le ((bs.drop (7*j)).take 7))):=fun j hj=>by rw [<- hW.out];exact Hs.words_get j bs (by rw [hlen.out];exact hj)
 rw [hW.out] at al;rw [hW.out];have ap:=lh al;clear al;go_enter func161,ntmps161;go_wp2
 go_loopw [3,4] (fun s v wr=>∃(j:Nat) (A':Option Addr) (c':Nat),v=.int .i64 ((7*j:Nat):Int)/\s=.slice A' j c'/\j<=(n+6)/7/\Own wr w.heap.size 43 1 A' j c' ((ws.take j).map Wv)/\Fr Non w wr) (fun _ v _=>n+7-(intOf v).toNat)
 case atStart=>exact ⟨0,none,0,rfl,rfl,A64 _,Own.nil _ _ _ _,Fr.refl _ _⟩
 case round=>
  obtain ⟨j,A',c',rfl,rfl,hj,aa,hf⟩:=hrel;have hs:=hf.size
  by_cases hlt:7*j<n
  ·
   obtain ⟨k,hk⟩:=Ab (min 7 (n-7*j));have a8:0<k:=by rw [<- hk.out];omega
   have a7:k<=7:=by rw [<- hk.out];omega
   have a3:7*j+k<=n:=by rw [<- hk.out];omega
   have ak:min (n:Int) (7*(j:Int)+7)=7*(j:Int)+(k:Int):=by rw [<- hk.out];omega
   have aj:(if (7*(j:Int)+7)<(n:Int) then (7*(j:Int)+7) else (n:Int))=7*(j:Int)+(k:Int):=by rw [<- hk.out];split<;>omega
   have aq:(if (n:Int)<(7*(j:Int)+7) then (n:Int) else (7*(j:Int)+7))=7*(j:Int)+(k:Int):=by rw [<- hk.out];split<;>omega
   obtain ⟨X,hX⟩:=Ab ((bs.drop (7*j)).take 7);have ai:Hid (X.length=k):=by show _=_;rw [<- hX.out,A89,A63,hlen.out,<- hk.out]
   have a1:Hid (ws[j]? =some (Hs.le X)):=by rw [<- hX.out];exact ao.out j hlt
   have ay:=hr.fr hf zr
   have ad:Hid (∀m,m<k->∃(b off:Nat) (x:UInt8),A=some ⟨b,off,none⟩/\X.drop m=x::X.drop (m+1)/\wr.cell? ⟨b,off+(7*j+m),none⟩=some (.int .u8 (x.toNat:Int))):=by
    intro m hm;obtain ⟨b',af,u,e,_,hu,av⟩:=ay.at (k:=7*j+m) (by omega);obtain ⟨x,hx,rfl⟩:=Md hu;refine ⟨b',af,x,e,Fx ?_,av⟩;rw [<- hX.out,A93 (by omega),A94];exact hx
   clear hk hX;go_wp2_with fail
   go_loopw [5,6] (fun u v wy=>∃m:Nat,u=.int .u64 (Hs.le (X.drop m):Int)/\v=.int .i64 (7*(j:Int)+(m:Int)-1)/\m<=k/\wy=wr) (fun _ v _=>(intOf v+1).toNat)
   case atStart=>
    refine ⟨k,?_,?_,A59 _,rfl⟩
    · rw [List.drop_eq_nil_iff.2 (by rw [ai.out];exact A59 _)];rfl
    · first|rfl|(simp only [ak];done)|(simp only [aj];done)|(simp only [aq];done)|(simp;omega)
   case round=>
    obtain ⟨m,rfl,rfl,hm,rfl⟩:=hrel
    by_cases hm0:m=0
    ·
     subst hm0;have ax:X.drop 0=X:=rfl;rw [ax]
     have a2:Hs.le X<18446744073709551616:=by
      have h1:=Hs.le_lt X;have h2:256^X.length<=256^7:=A73 (by omega) (by rw [ai.out];omega);have h4:(256:Nat)^7=72057594037927936:=by decide
      omega
     have ac:Hid (ws.take (j+1)=ws.take j++[Hs.le X]):=by
      obtain ⟨h1,h2⟩:=List.getElem?_eq_some_iff.1 a1.out;show _=_;rw [A83 h1,h2]
     generalize Hs.le X=v at*;go_wp2_with (first|(at_builtin;go_loud (refine Av (.tmp 32) (.tmp 34) 46 rfl rfl rfl rfl slW (aa.alloc _) (Rd.one _ _ _) (by simp [Value.oneCell']) (by omega) (by omega) (by simp;omega) ?_);intro A1 c1 w1 ab az au));have ae:Own w1 w.heap.size 43 1 A1 (j+1) c1 ((ws.take (j+1)).map Wv):=by rw [ac.out,A66];exact ab
     have a0:=(hf.alloc (.cells #[.int .u64 (v:Int)] 43)).trans az (aa.notNon (A59 _));exact ⟨⟨j+1,A1,c1,by go_num,rfl,by omega,ae,a0⟩,by simp [intOf];omega⟩
    ·
     obtain ⟨m,rfl⟩:∃m',m=m'+1:=⟨m-1,by omega⟩;obtain ⟨b',af,x,rfl,ar,a4⟩:=ad.out m (by omega);have aw:Hid (Hs.le (X.drop m)=x.toNat+256*Hs.le (X.drop (m+1))):=by show _=_;rw [ar];rfl
     have a6:Hs.le (X.drop (m+1))<281474976710656:=by
      have h1:=Hs.le_lt (X.drop (m+1));have h2:(X.drop (m+1)).length<=6:=by rw [A63,ai.out];omega
      have h3:256^(X.drop (m+1)).length<=256^6:=A73 (by omega) h2;have h4:(256:Nat)^6=281474976710656:=by decide
      omega
     have a5:=x.toNat_lt;clear ar;generalize Hs.le (X.drop (m+1))=v at*;have ah:7*(j:Int)+((m+1:Nat):Int)-1=((7*j+m:Nat):Int):=by omega
     rw [ah];go_wp2;exact ⟨⟨m,congrArg (Value.int .u64) (by rw [aw.out];omega),by go_num,by omega,by first|rfl|trivial⟩,by simp [intOf];omega⟩
  ·
   go_wp2
   go_ret
   have ag:j=ws.length:=by rw [ap.out];omega
   rw [ag,A97] at aa;rw [<- ag] at aa;exact ⟨A',c',by rw [<- ag];rfl,by rw [<- ag];exact aa,hf⟩
theorem Nj (label:List UInt8) (l:List Nat) (A:Option Addr) (n c B:Nat) (w:World) (hn:Hid (l.length=n)) (hl:label.length<=1099511627776) (hn':n<=1099511627776) (hr:Rd w B 1 A n (l.map Wv)) (hx:∀x∈l,x<18446744073709551616):
  Calls zp 160 #[.string (str label),.slice A n c] w (De (Hs.of label l) w):=by
 have bt:=Ep label;have bb:=Hs.words_len label;have a9:∀x∈Hs.words label,x<72057594037927936:=Hs.words_lt _ label;have aw:Hid (Hs.of label l=Hs.foldT (Hs.words label++[n]++l.map num++[0]) 0 label.length):=by show _=_;unfold Hs.of;rw [hn.out]
 obtain ⟨c1,w1,aj,ay,bn,a6,bw,_⟩:=Pj 9 40 5 underlying9 underlying40 underlying5 label w;have au:=lh a6;clear a6;obtain ⟨ws,hW⟩:=Ab (Hs.words label);have a3:=lh (fun B hB hrd=>Ry (some ⟨w.heap.size,0,none⟩) label.length c1 B label w1 rfl hl hB hrd);rw [hW.out] at bb a9 aw a3;obtain ⟨r,bf⟩:=Ab (Hs.of label l);rw [bf.out] at aw ⊢;obtain ⟨m,hm⟩:=Ab ws.length;rw [hm.out] at bb;go_enter func160,ntmps160;go_wp2_with fail;refine (a3.out w1.heap.size (A59 _) (ay.mono (by rw [au.out];exact A59 _))).mono ?_;rintro _ w2 ⟨A2,c2,rfl,af,bq⟩;rw [hm.out] at af;rw [hm.out];have a4:=bn.trans bq zr;have ac:Own w2 w.heap.size 43 1 A2 m c2 (ws.map Wv):=af.lower (by rw [au.out];omega);have bs:=a4.size;go_wp2_with (first|(at_builtin;go_loud (refine Av (.tmp 12) (.tmp 16) 46 rfl rfl rfl rfl slW (ac.alloc _) (Rd.one _ _ _) (by simp [Value.oneCell']) (by omega) (by omega) (by simp;omega) ?_);intro A3 c3 w3 ao bh bm));have bj:=(a4.alloc (.cells #[.int .u64 (n:Int)] 43)).trans bh (ac.notNon (A59 _));have ah:Own w3 w.heap.size 43 1 A3 (m+1) c3 ((ws++[n]++(l.map num).take 0).map Wv):=by rw [List.take_zero,List.append_nil,A66];exact ao
 have z1:¬(2305843009213693951:Int)=0:=by decide
 generalize eP:(2305843009213693951:Int)=P at*;have hP:=lh eP;clear eP aj
 go_loopw [5,6] (fun s v wr=>∃(i:Nat) (A':Option Addr) (c':Nat),v=.int .i64 (i:Int)/\s=.slice A' (m+1+i) c'/\i<=n/\Own wr w.heap.size 43 1 A' (m+1+i) c' ((ws++[n]++(l.map num).take i).map Wv)/\Fr Non w wr) (fun _ v _=>n-(intOf v).toNat)
 case atStart=>exact ⟨0,A3,c3,rfl,rfl,A64 _,ah,bj⟩
 case round=>
  obtain ⟨i,A',c',rfl,rfl,hi,ab,hf⟩:=hrel;have hs:=hf.size
  by_cases hlt:i<n
  ·
   obtain ⟨b,bk,u,rfl,bo,ap,bd⟩:=(hr.fr hf zr).at hlt;obtain ⟨x,ai,rfl⟩:=Kf ap;have bi:=hx x (A69 ai)
   have ae:Hid ((l.map num).take (i+1)=(l.map num).take i++[num x]):=by
    have h1:(l.map num)[i]? =some (num x):=by rw [A87,ai];rfl
    obtain ⟨h2,h3⟩:=List.getElem?_eq_some_iff.1 h1;show _=_;rw [A83 h2,h3]
   have ly:=Ei x;obtain ⟨fa,bc⟩:=R1.nn (a:=x) (c:=num x) P hP.out rfl;obtain ⟨y,hy⟩:=Ab (num x);rw [hy.out] at ae fa bc ly;have wy:IntKind.u64.wrap (y:Int)=(y:Int):=R1.w1 (A62 ly (by decide));clear ai ap;go_wp2_with (first|(at_builtin;go_loud (refine Av (.tmp 24) (.tmp 30) 46 rfl rfl rfl rfl slW (ab.alloc _) (Rd.one _ _ _) (by simp [Value.oneCell']) (by omega) (by omega) (by simp;omega) ?_);intro A4 c4 w4 aa ax aq))
   have ad:Own w4 w.heap.size 43 1 A4 (m+1+(i+1)) c4 ((ws++[n]++(l.map num).take (i+1)).map Wv):=by
    rw [ae.out,<- List.append_assoc,A66];exact aa
   have az:=(hf.alloc (.cells #[.int .u64 (y:Int)] 43)).trans ax (ab.notNon (A59 _));exact ⟨⟨i+1,A4,c4,by go_num,by first|rfl|(simp;omega),by omega,ad,az⟩,by simp [intOf];omega⟩
  ·
   obtain rfl:i=n:=by omega
   rw [A95 (by rw [A84,hn.out];exact A59 _)] at ab
   have a5:∀x∈ws++[i]++l.map num++[0],x<2305843009213693952:=by
    intro x hx;simp only [List.mem_append,List.mem_singleton,List.mem_map] at hx
    rcases hx with ((h|h)|⟨y,_,h⟩)|h
    · have:=a9 x h;omega
    · omega
    · have:=Ei y;omega
    · omega
   have av:Hid ((ws++[i]++l.map num++[0]).length=m+1+i+1):=by show _=_;simp only [A96,A84,A61,A68,hm.out,hn.out]
   obtain ⟨al,ar⟩:=Ab (ws++[i]++l.map num++[0]);rw [ar.out] at a5 av aw;go_wp2_with (first|(at_builtin;go_loud (refine Av (.tmp 32) (.tmp 33) 46 rfl rfl rfl rfl slW (ab.alloc _) (Rd.one _ _ _) (by simp [Value.oneCell']) (by omega) (by omega) (by simp;omega) ?_);intro A4 c4 w4 aa ax aq))
   have ad:Own w4 w.heap.size 43 1 A4 (m+1+i+1) c4 (al.map Wv):=by
    rw [<- ar.out,A66];exact aa
   have az:=(hf.alloc (.cells #[.int .u64 0] 43)).trans ax (ab.notNon (A59 _));clear ab aa ax aq;generalize hna0:m+1+i+1=na at*;have bv:na<=4398046511104:=by omega
   go_loopw [7,8] (fun s v wy=>∃(k s':Nat),v=.int .i64 (k:Int)/\s=.int .u64 (s':Int)/\k<=na/\s'<9223372036854775808/\Hid (Hs.foldT (al.drop k) k s'=r)/\Own wy w.heap.size 43 1 A4 na c4 (al.map Wv)/\Fr Non w wy) (fun _ v _=>na-(intOf v).toNat)
   case atStart=>exact ⟨0,label.length,rfl,rfl,A64 _,by omega,aw.out.symm,ad,az⟩
   case round=>
    obtain ⟨k,s',rfl,rfl,hk,bu,hd,ag,a8⟩:=hrel
    by_cases hlt2:k<na
    ·
     obtain ⟨b,bk,u,bp,bo,ap,bd⟩:=ag.rd.at hlt2;subst bp;obtain ⟨x,ai,rfl⟩:=Kf ap;have bi:=a5 x (A69 ai);have a7:al.drop k=x::al.drop (k+1):=Fx ai;rw [a7] at hd;have a2:Hid (Hs.foldT (al.drop (k+1)) (k+1) (Hs.tk s' x (k+1))=r):=hd;clear hd a7 ap ai;have ak:Hid (Hs.tk s' x (k+1)=Fd.pow (num (Fd.mul 37 s'+num (x+(k+1)))) 17):=rfl;have be:=Fd.mul_bd 37 s';have bg:=Ei (x+(k+1));have j1:Hid (∀w,Calls zp 159 #[.int .u64 37,.int .u64 (s':Int)] w fun e w'=>e=.returned (.int .u64 (Fd.mul 37 s':Int))/\∃n,w'=w.drewN n):=fun w=>Nh 37 s' w (by omega) (by omega);have j2:Hid (∀w,Calls zp 207 #[.int .u64 (x:Int),.int .u64 ((k:Int)+1)] w fun e w'=>e=.returned (.int .u64 (num (x+(k+1)):Int))/\w'=w):=fun w=>(Rx x (k+1) w).mono fun _ _ h=>⟨h.1,h.2.symm⟩;obtain ⟨mm,a1⟩:=Ab (Fd.mul 37 s');obtain ⟨pp,a0⟩:=Ab (num (x+(k+1)));rw [a1.out,a0.out] at ak;rw [a1.out] at j1 be;rw [a0.out] at j2 bg;have j3:Hid (∀w,Calls zp 207 #[.int .u64 (mm:Int),.int .u64 (pp:Int)] w fun e w'=>e=.returned (.int .u64 (num (mm+pp):Int))/\w'=w):=fun w=>(Rx mm pp w).mono fun _ _ h=>⟨h.1,h.2.symm⟩;have br:=Ei (mm+pp);obtain ⟨qq,ba⟩:=Ab (num (mm+pp));rw [ba.out] at ak j3 br;have bl:=Fd.pow_lt qq 17;have j4:Hid (∀w,Calls zp 138 #[.int .u64 (qq:Int),.int .u64 17] w fun e w'=>e=.returned (.int .u64 (Fd.pow qq 17:Int))/\∃k,w'=w.drewN k):=fun w=>Ni qq 17 w (by omega) (by omega);obtain ⟨t,ht⟩:=Ab (Fd.pow qq 17);rw [ht.out] at ak bl j4;rw [ak.out] at a2;clear a1 a0 ba ht ak;go_wp2
     go_quiet (first
      |(go_at_call 159;exact Calls.quiet_of (j1.out _))
      |(go_at_call 207;(with_reducible exact Calls.quiet_of_same (j2.out _)))
      |(go_at_call 207;(with_reducible exact Calls.quiet_of_same (j3.out _))))
     go_wp2_with fail;refine (j4.out _).mono ?_;rintro _ _ ⟨rfl,n2,rfl⟩;go_wp2;exact ⟨⟨k+1,t,by go_num,rfl,by omega,by omega,a2,ag.drewN _,a8.drewN _⟩,by simp [intOf];omega⟩
    ·
     rw [show al.drop k=[] from List.drop_eq_nil_iff.2 (by rw [av.out];omega)] at hd;have e:s'=r:=hd.out;go_wp2
     go_ret
     exact ⟨by rw [<- e];rfl,a8⟩
theorem Rz (label:List UInt8) (B n c:Nat) (A:Option Addr) (bs:List UInt8) (w:World) (hlen:Hid (bs.length=n)) (hn:n<=1099511627775) (hl:label.length<=1099511627776) (hB:B<=w.heap.size) (hr:Rd w B 1 A n (bs.map Bv)):
  Calls zp 140 #[.string (str label),.slice A n c] w (De (Hs.ofBytes label bs) w):=by
 have hwl:=Hs.words_len bs;have hws:∀x∈Hs.words bs,x<72057594037927936:=Hs.words_lt _ bs;rw [hlen.out] at hwl;have hof:Hid (Hs.ofBytes label bs=Hs.of label (Hs.words bs++[n])):=by show _=_;unfold Hs.ofBytes;rw [hlen.out]
 go_enter func140,ntmps140;go_wp2_with fail;refine (Ry A n c B bs _ hlen (by omega) hB hr).mono ?_;rintro _ w2 ⟨A2,c2,rfl,hown2,hf2⟩;have hs2:=hf2.size;obtain ⟨ws,hW⟩:=Ab (Hs.words bs);rw [hW.out] at hwl hws hown2 hof;rw [hW.out];go_wp2_with (first|(at_builtin;go_loud (refine Av (.tmp 7) (.tmp 11) 46 rfl rfl rfl rfl slW (hown2.alloc _) (Rd.one _ _ _) (by simp [Value.oneCell']) (by omega) (by omega) (by simp;omega) ?_);intro A3 c3 w3 hown3 hf3 hat3));have hown3':Own w3 w.heap.size 43 1 A3 (ws.length+1) c3 ((ws++[n]).map Wv):=by rw [A66];exact hown3
 have hfw:=(hf2.alloc (.cells #[.int .u64 (n:Int)] 43)).trans hf3 (hown2.notNon (A59 _));refine (Nj label (ws++[n]) A3 (ws.length+1) c3 w3.heap.size w3 (by show _=_;simp) hl (by omega) hown3'.rd (fun x hx=> ?_)).mono ?_
 ·
  rcases List.mem_append.1 hx with h|h
  · have:=hws x h;omega
  · simp at h;omega
 ·
  rintro _ w4 ⟨rfl,hf4⟩;go_wp2
  go_ret
  exact ⟨by rw [hof.out];rfl,hfw.trans hf4 zr⟩
theorem R9 (label:List UInt8) (l:List Nat) (A:Option Addr) (n c B:Nat) (w:World) (hn:Hid (l.length=n)) (hl:label.length<=1099511627776) (hn':n<=1099511627776) (hr:Rd w B 1 A n (l.map Wv)) (hx:∀x∈l,x<18446744073709551616):
  Calls zp 139 #[.string (str label),.slice A n c] w (De (Hs.secret label l) w):=by
 have hlt:=Hs.of_lt label l;have he:Hid (Hs.secret label l=1+Hs.of label l%2305843009213693949):=rfl;obtain ⟨v,hv⟩:=Ab (Hs.of label l);rw [hv.out] at he hlt;rw [he.out];go_enter func139,ntmps139;go_wp2_with fail;refine (Nj label l A n c B _ hn hl hn' hr hx).mono ?_;rw [hv.out];rintro _ w4 ⟨rfl,hf4⟩;go_wp2
 go_ret
 exact ⟨by simp,hf4⟩
namespace Oq
attribute [local go_sem ↓] Bq
def Op.id (o:Op):Nat:=Hs.ofBytes [111,112] o.bare
def Nk (b s:Int) (u:Nat) (w:World) (r:Ending) (w':World):Prop:=r=.returned (.agg #[.int .i64 b,.int .i64 s,.int .u64 (u:Int)])/\Fr Non w w'
theorem fr3 (w:World) (g:Nat) (a b c:Value):Fr (fun k=>k=g+1) w (((w.setCell ⟨g+1,0,none⟩ a).setCell ⟨g+1,1,none⟩ b).setCell ⟨g+1,2,none⟩ c):=by
 have h1:Fr (fun k=>k=g+1) w (w.setCell ⟨g+1,0,none⟩ a):=(Fr.refl (fun k=>k=g+1) w).setCell (p:=⟨g+1,0,none⟩) (fun _=>rfl) a;have h2:=h1.setCell (p:=⟨g+1,1,none⟩) (fun _=>rfl) b;exact h2.setCell (p:=⟨g+1,2,none⟩) (fun _=>rfl) c
theorem blk3 {w:World} {g:Nat} {t:TypeId} {cs:Array Value} {a b c:Value} (h:Blk w g t cs):Blk (((w.setCell ⟨g+1,0,none⟩ a).setCell ⟨g+1,1,none⟩ b).setCell ⟨g+1,2,none⟩ c) g t cs:=h.fr (fr3 w g a b c) (by omega)
theorem Ki {w:World} {g i:Nat} {v a b c:Value} (h:w.cell? ⟨g,i,none⟩=some v):(((w.setCell ⟨g+1,0,none⟩ a).setCell ⟨g+1,1,none⟩ b).setCell ⟨g+1,2,none⟩ c).cell? ⟨g,i,none⟩=some v:=(fr3 w g a b c).cell h (fun e=>by have e':g=g+1:=e;omega)
theorem _root_.Go.Proofs.YtmcpnjoomlgmlaaGreatDoor.Fr.setNew3 {S:Nat->Prop} {a w:World} (h:Fr S a w) {g:Nat} (hg:a.heap.size<=g) (u0 u1 u2:Value):Fr S a (((w.setCell ⟨g,0,none⟩ u0).setCell ⟨g,1,none⟩ u1).setCell ⟨g,2,none⟩ u2):=((h.setNew hg _ _).setNew hg _ _).setNew hg _ _
theorem Sa (x:OpL) (w:World) (hat:x.at w w.heap.size) (hok:x.op.ok):Calls zp 26 #[.agg x.cells] w (Nk x.by_ x.sq x.op.id w):=by
 have ao:x.cells.size=27:=rfl;have ag:Blk ((w.alloc (.cells x.cells 52)).alloc (.cells #[.int .i64 0,.int .i64 0,.int .u64 0] 45)).drew w.heap.size 52 x.cells:=((Blk.new w 52 x.cells).alloc _).drew
 have al:Blk ((w.alloc (.cells x.cells 52)).alloc (.cells #[.int .i64 0,.int .i64 0,.int .u64 0] 45)).drew (w.heap.size+1) 45 #[.int .i64 0,.int .i64 0,.int .u64 0]:=by
  have:=(Blk.new (w.alloc (.cells x.cells 52)) 45 #[.int .i64 0,.int .i64 0,.int .u64 0]).drew;rwa [A65] at this
 have aj:Fr Non w ((w.alloc (.cells x.cells 52)).alloc (.cells #[.int .i64 0,.int .i64 0,.int .u64 0] 45)).drew:=(((Fr.refl Non w).alloc _).alloc _).drew;have ac:=OpL.frame hat aj;have k1:=lh (M5 x _ ac hok);have lb:=Op.bare_len x.op hok;have ai:Hid (x.op.id=Hs.ofBytes [111,112] x.op.bare):=rfl;obtain ⟨D,hD⟩:=Ab x.op.bare;rw [hD.out] at k1 lb ai;rw [ai.out];clear hD hok hat ai ac;obtain ⟨CS,ah⟩:=Ab x.cells;have e0:Hid (CS[0]? =some (.int .i64 x.by_)):=by show _=_;rw [<- ah.out];rfl
 have e1:Hid (CS[1]? =some (.int .i64 x.sq)):=by show _=_;rw [<- ah.out];rfl
 rw [ah.out] at ao ag al k1 aj;rw [ah.out];have hi:(zp.info? 52).map (·.size)=some CS.size:=by rw [ao];kernel_rfl
 have hl:=Be (P:=zp) w.heap.size 52 underlying52 rfl hi;go_enter func26,ntmps26;go_upto_region 1 with (fail)
 generalize (w.alloc (.cells CS 52)).alloc (.cells #[.int .i64 0,.int .i64 0,.int .u64 0] 45)=w0 at*;have c0:w0.drew.cell? ⟨w.heap.size,0,none⟩=some (.int .i64 x.by_):=(ag.cell 0).trans e0.out;have c1:w0.drew.cell? ⟨w.heap.size,1,none⟩=some (.int .i64 x.sq):=(ag.cell 1).trans e1.out;have k3:∀(w':World) (b':Nat) (A:Option Addr) (c:Nat),Own w' b' 5 1 A D.length c (D.map Bv)->Calls zp 71 #[.string ⟨#[111,112]⟩,.slice A D.length c] w' (De (Hs.ofBytes [111,112] D) w'):=fun w' b' A c h=>Rw [111,112] w'.heap.size D.length c A D w' rfl h.cap.1 (by omega) (by decide) (A59 _) h.rd;obtain ⟨V,hV⟩:=Ab (Hs.ofBytes [111,112] D);rw [hV.out] at k3 ⊢
 go_region_held3 (fun w'=>Blk w' w.heap.size 52 CS/\w'.cell? ⟨w.heap.size,0,none⟩=some (.int .i64 x.by_)/\w'.cell? ⟨w.heap.size,1,none⟩=some (.int .i64 x.sq)) ((and_intros<;>first|assumption|exact blk3 aq|exact Ki g0|exact Ki g1)) (first
  |(go_at_call 72;(with_reducible refine (k1.out).mono ?_);rintro _ w1 ⟨A1,ap,rfl,av,ad⟩;have ak:OutAt w1 w0.heap.size (w0.heap.size+1) A1 ap D:=av;have au:=ag.fr ad zq;obtain ⟨d0,d1⟩:=zk2 ad c0 c1;have ax:=al.fr ad zq)
  |(go_at_call 73;(with_reducible refine (Mp _ _ A1 ap _ _ ak (by omega)).mono ?_);rintro _ w2 ⟨A2,ay,rfl,ab,af⟩;have aw:=au.fr af zq;obtain ⟨f0,f1⟩:=zk2 af d0 d1;have ar:=ax.fr af zq)
  |(go_at_call 71;(with_reducible refine (k3 _ _ _ _ ab).mono ?_);rintro _ w3 ⟨rfl,ae⟩;have aq:=aw.fr ae zq;obtain ⟨g0,g1⟩:=zk2 ae f0 f1;have aa:=ar.fr ae zq;have y0:w3.cell? ⟨w.heap.size+1,0,none⟩=some _:=aa.cell 0;have y1:w3.cell? ⟨w.heap.size+1,1,none⟩=some _:=aa.cell 1;have y2:w3.cell? ⟨w.heap.size+1,2,none⟩=some _:=aa.cell 2;have z0:=aa.frozen 0;have z1:=aa.frozen 1;have z2:=aa.frozen 2))
 all_goals
  go_wp2;exact Ed (t:=45) rfl rfl (((aa.set 0 _).set 1 _).set 2 _) rfl underlying45 (by kernel_rfl) rfl ⟨by rw [hV.out];rfl,(((aj.trans ad zr).trans af zr).trans ae zr).setNew3 (by omega) _ _ _⟩
theorem Ac7 (x:OpL) (w:World) (hat:x.at w w.heap.size) (hok:x.op.ok):Calls zp 79 #[.agg x.cells] w (Nk x.by_ x.sq x.op.id w):=by
 have ak:x.cells.size=27:=rfl;have af:Blk ((w.alloc (.cells x.cells 52)).alloc (.cells #[.int .i64 0,.int .i64 0,.int .u64 0] 45)).drew w.heap.size 52 x.cells:=((Blk.new w 52 x.cells).alloc _).drew
 have aj:Blk ((w.alloc (.cells x.cells 52)).alloc (.cells #[.int .i64 0,.int .i64 0,.int .u64 0] 45)).drew (w.heap.size+1) 45 #[.int .i64 0,.int .i64 0,.int .u64 0]:=by
  have:=(Blk.new (w.alloc (.cells x.cells 52)) 45 #[.int .i64 0,.int .i64 0,.int .u64 0]).drew;rwa [A65] at this
 have ai:Fr Non w ((w.alloc (.cells x.cells 52)).alloc (.cells #[.int .i64 0,.int .i64 0,.int .u64 0] 45)).drew:=(((Fr.refl Non w).alloc _).alloc _).drew;have ac:=OpL.frame hat ai;have k1:=lh (M8 x _ ac hok);have lb:=Op.bare_len x.op hok;have ah:Hid (x.op.id=Hs.ofBytes [111,112] x.op.bare):=rfl;obtain ⟨D,hD⟩:=Ab x.op.bare;rw [hD.out] at k1 lb ah;rw [ah.out];clear hD hok hat ah ac;obtain ⟨CS,ag⟩:=Ab x.cells;have e0:Hid (CS[0]? =some (.int .i64 x.by_)):=by show _=_;rw [<- ag.out];rfl
 have e1:Hid (CS[1]? =some (.int .i64 x.sq)):=by show _=_;rw [<- ag.out];rfl
 rw [ag.out] at ak af aj k1 ai;rw [ag.out];have hi:(zp.info? 52).map (·.size)=some CS.size:=by rw [ak];kernel_rfl
 have hl:=Be (P:=zp) w.heap.size 52 underlying52 rfl hi;go_enter func79,ntmps79;go_upto_region 1 with (fail)
 generalize (w.alloc (.cells CS 52)).alloc (.cells #[.int .i64 0,.int .i64 0,.int .u64 0] 45)=w0 at*;have c0:w0.drew.cell? ⟨w.heap.size,0,none⟩=some (.int .i64 x.by_):=(af.cell 0).trans e0.out;have c1:w0.drew.cell? ⟨w.heap.size,1,none⟩=some (.int .i64 x.sq):=(af.cell 1).trans e1.out;have k3:∀(w':World) (b':Nat) (A:Option Addr) (c:Nat),Own w' b' 5 1 A D.length c (D.map Bv)->Calls zp 140 #[.string ⟨#[111,112]⟩,.slice A D.length c] w' (De (Hs.ofBytes [111,112] D) w'):=fun w' b' A c h=>Rz [111,112] w'.heap.size D.length c A D w' rfl (by omega) (by decide) (A59 _) h.rd;obtain ⟨V,hV⟩:=Ab (Hs.ofBytes [111,112] D);rw [hV.out] at k3 ⊢
 go_region_held3 (fun w'=>Blk w' w.heap.size 52 CS/\w'.cell? ⟨w.heap.size,0,none⟩=some (.int .i64 x.by_)/\w'.cell? ⟨w.heap.size,1,none⟩=some (.int .i64 x.sq)) ((and_intros<;>first|assumption|exact blk3 al|exact Ki g0|exact Ki g1)) (first
  |(go_at_call 53;(with_reducible refine (k1.out).mono ?_);rintro _ w2 ⟨A2,aq,rfl,ab,ae⟩;have ap:=af.fr ae zq;obtain ⟨f0,f1⟩:=zk2 ae c0 c1;have ao:=aj.fr ae zq)
  |(go_at_call 140;(with_reducible refine (k3 _ _ _ _ ab).mono ?_);rintro _ w3 ⟨rfl,ad⟩;have al:=ap.fr ad zq;obtain ⟨g0,g1⟩:=zk2 ad f0 f1;have aa:=ao.fr ad zq;have y0:w3.cell? ⟨w.heap.size+1,0,none⟩=some _:=aa.cell 0;have y1:w3.cell? ⟨w.heap.size+1,1,none⟩=some _:=aa.cell 1;have y2:w3.cell? ⟨w.heap.size+1,2,none⟩=some _:=aa.cell 2;have z0:=aa.frozen 0;have z1:=aa.frozen 1;have z2:=aa.frozen 2))
 all_goals
  go_wp2;exact Ed (t:=45) rfl rfl (((aa.set 0 _).set 1 _).set 2 _) rfl underlying45 (by kernel_rfl) rfl ⟨by rw [hV.out];rfl,((ai.trans ae zr).trans ad zr).setNew3 (by omega) _ _ _⟩
