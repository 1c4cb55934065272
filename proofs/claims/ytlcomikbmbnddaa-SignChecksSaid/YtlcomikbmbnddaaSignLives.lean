/-
  The document's examples of layer 8; a secret made of a number.
-/
import Derived.Test.YtlcomikbmbnddaaSign3
import Derived.Test.YtlcomikbmbnddaaSignLaw
import Derived.Lib.SlBytesConst
namespace Go.Proofs.Ytlcomikbmbnddaa
open Go.RowKit Go.Shelf
attribute [local go_sem ↓] Go.wp_at_zero Go.wp_at_succ

theorem Rd.oneM (w : World) (x : Value) (e : TypeId) : Rd (w.alloc (.cells #[x] e (1, 2))) (w.heap.size + 1) 1 (some ⟨w.heap.size, 0, none⟩) 1 [x] := by
  refine ⟨rfl, .inr ⟨w.heap.size, 0, rfl, by omega, fun j u hu => ?_⟩⟩
  have h : (w.alloc (.cells #[x] e (1, 2))).heap[w.heap.size]? = some (.cells #[x] e (1, 2)) := heap_alloc_new w _
  match j, hu with
  | 0, hu =>
    have hx : x = u := by simpa using hu
    subst hx
    unfold World.cell?
    rw [Nat.zero_add]
    show (match (w.alloc (.cells #[x] e (1, 2))).heap[w.heap.size]? with | some (Obj.cells c _ _) => c[0]? | _ => none) = some x
    rw [h]
    rfl

set_option maxHeartbeats 1000000 in
theorem lives08_any (w : World) : Calls Try.prog 16 #[] w (BoolPost true w) := by
  have e1 : Hid (Sg.pub 1 = 37) := by show _ = _; decide +kernel
  have e2 : Hid (Sg.pub 2 = 1369) := by show _ = _; decide +kernel
  have p1 : Hid (∀ w, Calls Try.prog 12 #[.int .u64 1] w (PowPost 37 w)) := fun w => by have := pub_any 1 w (by omega); rwa [e1.out] at this
  have p2 : Hid (∀ w, Calls Try.prog 12 #[.int .u64 2] w (PowPost 1369 w)) := fun w => by have := pub_any 2 w (by omega); rwa [e2.out] at this
  have ht : Hid (Sg.check 1369 [97] (Sg.r 2 [97]) (Sg.s 2 [97]) = true) := by have := Sg.takes 2 [97] (by omega); rwa [e2.out] at this
  have lr := Sg.r_lt 2 [97]
  have ls := Sg.s_lt 2 [97]
  have hsig : Hid (∀ (A : Option Addr) (w : World), Rd w w.heap.size 1 A 1 [.int .u8 97] → Calls Try.prog 14 #[.int .u64 2, .slice A 1 1] w (SignPost 2 [97] w)) := fun A w hr => sign_any 2 w.heap.size 1 1 A [97] w (by omega) rfl (by omega) (by omega) (Nat.le_refl _) hr
  unfold SignPost at hsig
  obtain ⟨R, hR⟩ := hid_ex (Sg.r 2 [97])
  obtain ⟨S, hS⟩ := hid_ex (Sg.s 2 [97])
  rw [hR.out, hS.out] at ht hsig
  rw [hR.out] at lr
  rw [hS.out] at ls
  have hck : Hid (∀ (A : Option Addr) (w : World), Rd w w.heap.size 1 A 1 [.int .u8 97] → Calls Try.prog 18 #[.int .u64 1369, .slice A 1 1, SigV R S] w (BoolPost true w)) := fun A w hr => by
    have := check_any 1369 R S w.heap.size 1 1 A [97] w (by omega) (by omega) (by omega) rfl (by omega) (by omega) (Nat.le_refl _) hr
    rwa [ht.out] at this
  clear hR hS
  go_enter Try.func16, Try.ntmps16
  go_wp2_with (fail)
  refine (p1.out _).mono ?_
  rintro _ w1 ⟨rfl, hf1⟩
  go_wp2_with (fail)
  refine (p2.out _).mono ?_
  rintro _ w2 ⟨rfl, hf2⟩
  have hcv := fun (w : World) => Lib.run_convert_bytes_const (P := Try.prog) w 23 5 #[.int .u8 97] 1 1 Try.underlying23 Try.underlying5
  have hcv2 := hcv (w2.alloc (.cells #[.int .u8 97] 5 (1, 2)))
  rw [World.size_alloc] at hcv2
  go_wp2_with (fail)
  have r1 := Rd.oneM w2 (.int .u8 97) 5
  have r2 := Rd.oneM (w2.alloc (.cells #[.int .u8 97] 5 (1, 2))) (.int .u8 97) 5
  refine (hsig.out _ _ (by rw [World.size_alloc] at r2; exact r2.mono (by simp))).mono ?_
  rintro _ w3 ⟨rfl, hf3⟩
  go_wp2_with (fail)
  have r3 := (r1.alloc (.cells #[.int .u8 97] 5 (1, 2))).fr hf3 (fun _ _ e => e)
  have hz := hf3.size
  simp only [World.size_alloc] at hz
  refine (hck.out _ _ (r3.mono (by omega))).mono ?_
  rintro _ w4 ⟨rfl, hf4⟩
  go_wp2
  go_ret
  exact ⟨rfl, ((((hf1.trans hf2 (fun _ _ e => e)).alloc _).alloc _).trans hf3 (fun _ _ e => e)).trans hf4 (fun _ _ e => e)⟩

theorem secret08_any (n : Nat) (w : World) (hn : n < 18446744073709551616) : Calls Try.prog 11 #[.int .u64 (n : Int)] w fun e w' => e = .returned (.int .u64 ((1 + n % 2305843009213693949 : Nat) : Int)) ∧ w = w' := by
  have h1 : (n : Int).tmod 2305843009213693949 = ((n % 2305843009213693949 : Nat) : Int) := by rw [Int.tmod_eq_emod_of_nonneg (by omega)]; omega
  have h2 : (n : Int) % 2305843009213693949 = ((n % 2305843009213693949 : Nat) : Int) := by omega
  obtain ⟨v, hv⟩ := hid_ex (n % 2305843009213693949)
  have lv : v < 2305843009213693949 := by rw [← hv.out]; omega
  rw [hv.out] at h1 h2
  rw [hv.out]
  go_enter Try.func11, Try.ntmps11
  go_wp2
  go_ret
  exact ⟨congrArg (fun z => Ending.returned (.int .u64 z)) (by omega), rfl⟩
end Go.Proofs.Ytlcomikbmbnddaa
