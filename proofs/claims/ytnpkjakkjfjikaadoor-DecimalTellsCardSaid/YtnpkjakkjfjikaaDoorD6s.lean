/- The small case of decimals; whole numbers; what Compare tells. -/
import Derived.Test.YtnpkjakkjfjikaaDoorAll7
import Derived.Test.YtnpkjakkjfjikaaDoorDe
import Derived.KernelRfl
namespace Go.Proofs.YtnpkjakkjfjikaaDoor.Pure
open Go.RowKit Go.Proofs.YtnpkjakkjfjikaaDoorW.PrintWords Go.Proofs.YtnpkjakkjfjikaaDoor.All Go.Proofs.YtnpkjakkjfjikaaDoor.Dm Go.Proofs.YtnpkjakkjfjikaaDoor.Ba Go.Proofs.YtnpkjakkjfjikaaDoor.De Go.Lib

theorem small_ev : Ev (fun k => decklelaw06_small.f k) true := Ev.of decklelaw06_small.mono (show decklelaw06_small.f 60 = some true by kernel_rfl)

theorem whole_of {n m e : Int} (h : I n) (hr : isRight m e) (hn : n = m * 10 ^ e.toNat) (h0 : 0 ≤ e) (h1 : e ≤ 18) : whole m e = (n, true) := by
  unfold whole
  rw [← hn, if_pos ⟨hr, h0, h1, h.1, h.2⟩]
theorem mant_I {m e : Int} {n : Int} (h : I n) (hn : n = m * 10 ^ e.toNat) : I m := by
  have hp := pow_ge e.toNat
  generalize (10 : Int) ^ e.toNat = p at hn hp
  unfold I at h ⊢
  rcases Int.le_total 0 m with k | k
  · have : m * 1 ≤ m * p := Int.mul_le_mul_of_nonneg_left hp k
    omega
  · have : m * p ≤ m * 1 := Int.mul_le_mul_of_nonpos_left k hp
    omega

theorem cmpD_val (am ae bm be : Int) : cmpD am ae bm be = compareInt (val (clean am ae).1 (clean am ae).2) (val (clean bm be).1 (clean bm be).2) := rfl
theorem cmpD_range (am ae bm be : Int) : -1 ≤ cmpD am ae bm be ∧ cmpD am ae bm be ≤ 1 := by
  unfold cmpD compareInt
  repeat' split
  all_goals omega
theorem cmpD_right {am ae bm be : Int} (ha : isRight am ae) (hb : isRight bm be) : cmpD am ae bm be = compareInt (val am ae) (val bm be) := by
  rw [cmpD_val, clean_of ha, clean_of hb]
/-- Whole numbers stand as they do. -/
theorem cmpD_of {p q a b c d : Int} (hp : isRight a b) (hq : isRight c d) (ep : p = a * 10 ^ b.toNat) (eq_ : q = c * 10 ^ d.toNat) (b0 : 0 ≤ b) (d0 : 0 ≤ d) : cmpD a b c d = compareInt p q := by
  rw [cmpD_right hp hq, of_val' ep b0, of_val' eq_ d0, compareInt_mul (Int.pow_pos (by decide))]
end Go.Proofs.YtnpkjakkjfjikaaDoor.Pure
