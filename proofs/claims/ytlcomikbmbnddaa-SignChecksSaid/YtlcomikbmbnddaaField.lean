/-
  The field: Num, Mul, Add as numbers modulo 2^61 - 1 (bits.Mul64 is walked too).
  Conditions: the arguments are of their kind.
-/
import Derived.Test.YtlcomikbmbnddaaRangeAny
import Derived.Test.YtlcomikbmbnddaaCommon
import Derived.Test.YtlcomikbmbnddaaFieldSpec
import Derived.Lib.Mul64
import Derived.Laws.Bits64b
namespace Go.Proofs.Ytlcomikbmbnddaa
open Go.RowKit

def num (u : Nat) : Nat := u % 2305843009213693951
theorem num_lt (u : Nat) : num u < 2305843009213693951 := Nat.mod_lt _ (by omega)

set_option maxRecDepth 100000 in
theorem num_any (u : Nat) (w : World) (hu : u < 18446744073709551616) :
    Calls Try.prog 37 #[.int .u64 (u : Int)] w fun e w' => e = .returned (.int .u64 (num u : Int)) ∧ w = w' := by
  have hm : bits .and .u64 (u : Int) 2305843009213693951 = ((u % 2305843009213693952 : Nat) : Int) := by
    have := u64_and_nat u 2305843009213693951 hu (by omega)
    rw [show (u &&& 2305843009213693951) = u % 2305843009213693952 from Nat.and_two_pow_sub_one_eq_mod u 61] at this
    exact this
  obtain ⟨x, hx⟩ := hid_ex (u % 2305843009213693952)
  rw [hx.out] at hm
  have hxl : x < 2305843009213693952 := by rw [← hx.out]; omega
  have hw1 : IntKind.u64.wrap ((x : Int) + (u : Int) / 2305843009213693952) = (x : Int) + (u : Int) / 2305843009213693952 := IntWalk.u64_in _ ⟨by omega, by omega⟩
  by_cases h : (2305843009213693951 : Int) ≤ (x : Int) + (u : Int) / 2305843009213693952
  · have hw2 : IntKind.u64.wrap ((x : Int) + (u : Int) / 2305843009213693952 - 2305843009213693951) = (x : Int) + (u : Int) / 2305843009213693952 - 2305843009213693951 := IntWalk.u64_in _ ⟨by omega, by omega⟩
    have hs : Hid ((x : Int) + (u : Int) / 2305843009213693952 - 2305843009213693951 = (num u : Int)) := by
      show _ = _
      unfold num
      rw [← hx.out] at *
      omega
    go_enter Try.func37, Try.ntmps37
    generalize (2305843009213693951 : Int) = P at *
    clear hxl
    go_wp2
    go_ret
    exact ⟨congrArg (fun z => Ending.returned (.int .u64 z)) hs.out, rfl⟩
  · have hs : Hid ((x : Int) + (u : Int) / 2305843009213693952 = (num u : Int)) := by
      show _ = _
      unfold num
      rw [← hx.out] at *
      omega
    go_enter Try.func37, Try.ntmps37
    generalize (2305843009213693951 : Int) = P at *
    clear hxl
    go_wp2
    go_ret
    exact ⟨congrArg (fun z => Ending.returned (.int .u64 z)) hs.out, rfl⟩

namespace M64
theorem maskN (a : Nat) (ha : a < 18446744073709551616) : bits .and .u64 (a : Int) 4294967295 = ((a % 4294967296 : Nat) : Int) := by
  have h := bits_and_u64_nat a 4294967295 ha (by omega)
  have e : a &&& 4294967295 = a % 4294967296 := Nat.and_two_pow_sub_one_eq_mod a 32
  rw [e] at h
  exact h
theorem divN (a : Nat) : (a : Int) / 4294967296 = ((a / 4294967296 : Nat) : Int) := by omega
theorem mulN (a b : Nat) : (a : Int) * (b : Int) = ((a * b : Nat) : Int) := (Int.natCast_mul a b).symm
theorem addN (a b : Nat) : (a : Int) + (b : Int) = ((a + b : Nat) : Int) := (Int.natCast_add a b).symm
theorem wrapN (a : Nat) (ha : a < 18446744073709551616) : IntKind.u64.wrap (a : Int) = (a : Int) := by rw [IntKind.wrap_u64]; omega
theorem wrapM (a : Nat) : IntKind.u64.wrap (a : Int) = ((a % 18446744073709551616 : Nat) : Int) := by rw [IntKind.wrap_u64]; omega
end M64

set_option maxHeartbeats 1000000 in
theorem mul64_any (x y : Nat) (hx : x < 18446744073709551616) (hy : y < 18446744073709551616) (w : World) :
    Calls Try.prog 36 #[.int .u64 (x : Int), .int .u64 (y : Int)] w fun e w' => e = .returned (.tuple #[.int .u64 ((x * y / 18446744073709551616 : Nat) : Int), .int .u64 ((x * y % 18446744073709551616 : Nat) : Int)]) ∧ w = w' := by
  obtain ⟨bd, bt, bw, hhi⟩ := Lib.mul64_hi x y hx hy
  have ba := Lib.half_mul_le (a := x / 4294967296) (b := y / 4294967296) (by omega) (by omega)
  have bb := Lib.half_mul_le (a := x / 4294967296) (b := y % 4294967296) (by omega) (by omega)
  have bc := Lib.half_mul_le (a := x % 4294967296) (b := y / 4294967296) (by omega) (by omega)
  have ba' : x / 4294967296 * (y / 4294967296) < 18446744073709551616 := by omega
  have bb' : x / 4294967296 * (y % 4294967296) < 18446744073709551616 := by omega
  have bc' : x % 4294967296 * (y / 4294967296) < 18446744073709551616 := by omega
  have bh1 : x / 4294967296 * (y / 4294967296) + (x / 4294967296 * (y % 4294967296) + x % 4294967296 * (y % 4294967296) / 4294967296) / 4294967296 < 18446744073709551616 := by omega
  have bh : x / 4294967296 * (y / 4294967296) + (x / 4294967296 * (y % 4294967296) + x % 4294967296 * (y % 4294967296) / 4294967296) / 4294967296 + ((x / 4294967296 * (y % 4294967296) + x % 4294967296 * (y % 4294967296) / 4294967296) % 4294967296 + x % 4294967296 * (y / 4294967296)) / 4294967296 < 18446744073709551616 := by omega
  go_enter Try.func36, Try.ntmps36
  go_wp2
  simp only [M64.maskN x hx, M64.maskN y hy, M64.divN, M64.mulN, M64.addN, M64.wrapN _ bd, M64.wrapN _ bb', M64.wrapN _ bt, M64.maskN _ bt, M64.wrapN _ bc', M64.wrapN _ bw, M64.wrapN _ ba', M64.wrapN _ bh1, M64.wrapN _ bh, M64.wrapM (x * y)]
  rw [hhi]
  go_ret2
  exact ⟨rfl, rfl⟩

theorem mul_any (a b : Nat) (ha : a < 18446744073709551616) (hb : b < 18446744073709551616) (w : World) :
    Calls Try.prog 22 #[.int .u64 (a : Int), .int .u64 (b : Int)] w fun e w' => e = .returned (.int .u64 (Fd.mul a b : Int)) ∧ w = w' := by
  have la := num_lt a
  have lb := num_lt b
  have lm := Fd.mul_lt la lb
  have he : Hid (num (num (num a * num b % 18446744073709551616) + num a * num b / 18446744073709551616 * 8) = Fd.mul a b) := by
    show _ = _
    unfold num
    rw [Fd.fold_mul, Fd.mul_mod]
  obtain ⟨x, hx⟩ := hid_ex (num a)
  obtain ⟨y, hy⟩ := hid_ex (num b)
  rw [hx.out] at la lm he
  rw [hy.out] at lb lm he
  have hhi : x * y / 18446744073709551616 < 288230376151711744 := by omega
  have hlo : x * y % 18446744073709551616 < 18446744073709551616 := Nat.mod_lt _ (by omega)
  go_enter Try.func22, Try.ntmps22
  go_wp2_with (fail)
  refine (num_any a _ ha).mono ?_
  rw [hx.out]
  rintro _ _ ⟨rfl, rfl⟩
  go_wp2_with (fail)
  refine (num_any b _ hb).mono ?_
  rw [hy.out]
  rintro _ _ ⟨rfl, rfl⟩
  go_wp2_with (fail)
  refine (mul64_any x y (by omega) (by omega) _).mono ?_
  clear lm
  generalize x * y / 18446744073709551616 = hi at *
  generalize x * y % 18446744073709551616 = lo at *
  rintro _ _ ⟨rfl, rfl⟩
  go_wp2_with (fail)
  refine (num_any lo _ hlo).mono ?_
  have ll := num_lt lo
  obtain ⟨z, hz⟩ := hid_ex (num lo)
  rw [hz.out] at ll he
  rw [hz.out]
  rintro _ _ ⟨rfl, rfl⟩
  go_wp2_with (fail)
  rw [show ((z : Int) + (hi : Int) * 8) = ((z + hi * 8 : Nat) : Int) by omega]
  refine (num_any _ _ (by omega)).mono ?_
  rw [he.out]
  rintro _ _ ⟨rfl, rfl⟩
  go_wp2
  go_ret
  exact ⟨rfl, rfl⟩

theorem add_any (a b : Nat) (ha : a < 18446744073709551616) (hb : b < 18446744073709551616) (w : World) :
    Calls Try.prog 54 #[.int .u64 (a : Int), .int .u64 (b : Int)] w fun e w' => e = .returned (.int .u64 (num (a + b) : Int)) ∧ w = w' := by
  have la := num_lt a
  have lb := num_lt b
  have he : Hid (num (num a + num b) = num (a + b)) := by
    show _ = _
    unfold num
    exact (Nat.add_mod a b _).symm
  obtain ⟨x, hx⟩ := hid_ex (num a)
  obtain ⟨y, hy⟩ := hid_ex (num b)
  rw [hx.out] at la he
  rw [hy.out] at lb he
  go_enter Try.func54, Try.ntmps54
  go_wp2_with (fail)
  refine (num_any a _ ha).mono ?_
  rw [hx.out]
  rintro _ _ ⟨rfl, rfl⟩
  go_wp2_with (fail)
  refine (num_any b _ hb).mono ?_
  rw [hy.out]
  rintro _ _ ⟨rfl, rfl⟩
  go_wp2_with (fail)
  rw [show ((x : Int) + (y : Int)) = ((x + y : Nat) : Int) by omega]
  refine (num_any _ _ (by omega)).mono ?_
  rw [he.out]
  rintro _ _ ⟨rfl, rfl⟩
  go_wp2
  go_ret
  exact ⟨rfl, rfl⟩
end Go.Proofs.Ytlcomikbmbnddaa
