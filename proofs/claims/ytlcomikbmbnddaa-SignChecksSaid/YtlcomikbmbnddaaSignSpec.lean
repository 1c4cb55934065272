/-
  Signatures, as numbers. Plain Lean.
-/
import Derived.Test.YtlcomikbmbnddaaHashSpec
namespace Go.Proofs.Ytlcomikbmbnddaa
open Go.RowKit
namespace Sg
/-- The labels. -/
def lSigned : List UInt8 := [115, 105, 103, 110, 101, 100]
def lSig : List UInt8 := [115, 105, 103]
def lNonce : List UInt8 := [110, 111, 110, 99, 101]
def m (bs : List UInt8) : Nat := Hs.ofBytes lSigned bs
def e (r pub : Nat) (bs : List UInt8) : Nat := Hs.of lSig [r, pub, m bs]
def pub (secret : Nat) : Nat := Fd.pow 37 secret
def once (secret : Nat) (bs : List UInt8) : Nat := Hs.secret lNonce [secret, m bs]
def r (secret : Nat) (bs : List UInt8) : Nat := Fd.pow 37 (once secret bs)
def x (secret : Nat) (bs : List UInt8) : Nat := e (r secret bs) (pub secret) bs * secret % 2305843009213693950
def s (secret : Nat) (bs : List UInt8) : Nat := (once secret bs + x secret bs) % 2305843009213693950
def within (n lo hi : Int) : Bool := decide (lo ≤ n) && decide (n ≤ hi)
def check (pub : Nat) (bs : List UInt8) (R S : Nat) : Bool :=
  within pub 1 2305843009213693950 && within R 1 2305843009213693950 && within S 0 2305843009213693949 && (Fd.pow 37 S == Fd.mul R (Fd.pow pub (e R pub bs)))
theorem m_lt (bs : List UInt8) : m bs < 2305843009213693951 := Hs.of_lt _ _
theorem e_lt (r pub : Nat) (bs : List UInt8) : e r pub bs < 2305843009213693951 := Hs.of_lt _ _
theorem once_lt (secret : Nat) (bs : List UInt8) : once secret bs < 2305843009213693950 := Hs.secret_lt _ _
theorem r_lt (secret : Nat) (bs : List UInt8) : r secret bs < 2305843009213693951 := Fd.pow_lt _ _
theorem x_lt (secret : Nat) (bs : List UInt8) : x secret bs < 2305843009213693950 := Nat.mod_lt _ (by omega)
theorem s_lt (secret : Nat) (bs : List UInt8) : s secret bs < 2305843009213693950 := Nat.mod_lt _ (by omega)
end Sg
end Go.Proofs.Ytlcomikbmbnddaa
