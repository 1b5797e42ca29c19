/- Signs: the small case; the program's functions, told in the plain law's words. -/
import Derived.Test.YtenngdkgahngjaaDoorAll1
import Derived.Test.YtenngdkgahngjaaDoorSi
import Derived.KernelRfl
namespace Go.Proofs.YtenngdkgahngjaaDoor.Pure
open Go.RowKit Go.Proofs.YtenngdkgahngjaaDoorW.PrintWords Go.Proofs.YtenngdkgahngjaaDoor.All Go.Proofs.YtenngdkgahngjaaDoor.Ba Go.Proofs.YtenngdkgahngjaaDoor.Si Go.Lib

theorem small_f : decklelaw07_small.f = some true := by kernel_rfl
theorem esc_f (a : ByteArray) (h : a.size ≤ 100000000) : signs_Escape.f a = some (ba (escE a.data.toList).1, (escE a.data.toList).2) := if_pos h
theorem un_f (a : ByteArray) (h : a.size ≤ 10000000) : signs_Unescape.f a = some (ba (unE a.data.toList).1, (unE a.data.toList).2) := if_pos h
theorem right_f (a : ByteArray) (h : a.size ≤ 100000000) : signs_Right.f a = some (validD a.data.toList) := by
  unfold signs_Right.f utf8_ValidString.f
  rw [if_pos (by omega)]
  rfl
theorem valid_of (rs : List Nat) (h : ∀ c ∈ rs, Rn c) : validD (encs rs) = true := by
  have := valid_encs rs h []
  rwa [List.append_nil] at this
end Go.Proofs.YtenngdkgahngjaaDoor.Pure
