/- Walks through the code of signs, by hand. -/
import Derived.Test.YtenngdkgahngjaaDoorGTabs
import Derived.Test.YtenngdkgahngjaaDoorWMore
import Derived.Lib.OthersKept
import Derived.WalkKit
import Derived.BigCall
import Derived.KernelRfl
import Derived.Below
import Derived.Test.YtenngdkgahngjaaDoorGShelf
import Derived.Lib.TrimU
import Derived.Laws.Slices
import Derived.Laws.Cover4
import Derived.Laws.BitsAllLaws
import Derived.Laws.BytesArg
import Derived.Lib.LazyBuf
import Derived.Lib.IfaceEq
import Derived.Test.YtenngdkgahngjaaDoorSgU
namespace Go.Proofs.YtenngdkgahngjaaDoor.All
open Go.RowKit Go.Proofs.YtenngdkgahngjaaDoorW.PrintWords Go.Proofs.YtenngdkgahngjaaDoorW.PrintLast Go.Proofs.YtenngdkgahngjaaDoorW.PrintMore Go.Proofs.YtenngdkgahngjaaDoor.G
set_option linter.unusedVariables false
set_option linter.unusedSimpArgs false
set_option maxHeartbeats 4000000
set_option maxRecDepth 1000000
theorem right_walk (s : ByteArray) (w : World) (hT : Tabs w) (hs : s.size ≤ 9223372036854775807) :
    Calls Tryd.prog 13 #[.string s] w fun e w' => e = .returned (.bool (Lib.validD s.data.toList)) ∧ Below w.heap.size w w' := by
  go_enter Tryd.func13, Tryd.ntmps13
  go_wp2_with (go_at_call 25; (with_reducible refine (Tryd.utf8_ValidString s _ hs hT.utf8).mono ?_); rintro e w1 ⟨rfl, hb1⟩)
  go_ret
  exact ⟨rfl, hb1⟩
theorem plain_walk (c : Nat) (w : World) :
    Calls Tryd.prog 27 #[.int .i32 (c : Int)] w fun e w' => e = .returned (.bool (decide (32 ≤ c ∧ c ≤ 126 ∧ c ≠ 64))) ∧ Drawn0 w w' := by
  go_enter Tryd.func27, Tryd.ntmps27
  by_cases h1 : 32 ≤ c
  · have a1 : decide ((c : Int) ≥ 32) = true := decide_eq_true (by omega)
    have a2 : decide (32 ≤ (c : Int)) = true := decide_eq_true (by omega)
    by_cases h2 : c ≤ 126
    · have a3 : decide ((c : Int) ≤ 126) = true := decide_eq_true (by omega)
      by_cases h3 : c = 64
      · have a4 : ((c : Int) != 64) = false := by subst h3; rfl
        have a5 : ((c : Int) == 64) = true := beq_iff_eq.2 (by omega)
        rw [decide_eq_false (by omega)]
        go_wp2_with go_in
        go_ret
        exact ⟨rfl, Drawn0.refl _⟩
      · have a5 : ((c : Int) == 64) = false := beq_eq_false_iff_ne.2 (by omega)
        have a4 : ((c : Int) != 64) = true := by rw [bne, a5]; rfl
        rw [decide_eq_true (by omega)]
        go_wp2_with go_in
        go_ret
        exact ⟨rfl, Drawn0.refl _⟩
    · have a3 : decide ((c : Int) ≤ 126) = false := decide_eq_false (by omega)
      rw [decide_eq_false (by omega)]
      go_wp2_with go_in
      go_ret
      exact ⟨rfl, Drawn0.refl _⟩
  · have a1 : decide ((c : Int) ≥ 32) = false := decide_eq_false (by omega)
    have a2 : decide (32 ≤ (c : Int)) = false := decide_eq_false (by omega)
    rw [decide_eq_false (by omega)]
    go_wp2_with go_in
    go_ret
    exact ⟨rfl, Drawn0.refl _⟩
theorem lookup_le (c : Int) (M : Nat) : ∀ (xs ys : List Nat), (∀ y ∈ ys, y ≤ M) → 0 ≤ lookup c xs ys ∧ lookup c xs ys ≤ M
  | [], ys, h => by cases ys <;> simp [lookup]
  | x :: xs, [], h => by simp [lookup]
  | x :: xs, y :: ys, h => by
    rw [lookup]
    split
    · have := h y (by simp)
      omega
    · exact lookup_le c M xs ys (fun z hz => h z (by simp [hz]))
theorem hexDig_lt (d : Nat) (h : d < 16) : (hexDig d).toNat < 128 := by
  have : ∀ k : Fin 16, (hexDig k.val).toNat < 128 := by decide +kernel
  exact this ⟨d, h⟩
theorem hexD_lt (u : Nat) : ∀ b ∈ hexD u, b.toNat < 128 := by
  induction u using Nat.strongRecOn with
  | _ u ih =>
    by_cases h : u < 16
    · rw [hexD_small h]
      intro b hb
      rw [List.mem_singleton.1 hb]
      exact hexDig_lt u h
    · rw [hexD_big h]
      intro b hb
      rcases List.mem_append.1 hb with hb | hb
      · exact ih (u / 16) (by omega) b hb
      · rw [List.mem_singleton.1 hb]
        exact hexDig_lt _ (Nat.mod_lt _ (by decide))
theorem escape_all (c : Nat) (hc : c ≤ 1114111) (w : World) (hT : Tabs w) :
    Calls Tryd.prog 16 #[.int .i32 (c : Int)] w fun e w' => e = .returned (.string ⟨(escL c).toArray⟩) ∧ Below w.heap.size w w' := by
  have C1 := plain_walk c
  unfold escL
  by_cases hp : 32 ≤ c ∧ c ≤ 126 ∧ c ≠ 64
  · rw [if_pos hp]
    rw [decide_eq_true hp] at C1
    exact escape_plain c (by omega) w C1
  · rw [if_neg hp]
    rw [decide_eq_false hp] at C1
    by_cases h64 : c = 64
    · rw [if_pos h64]
      subst h64
      exact escape_mark w C1
    · rw [if_neg h64]
      obtain ⟨l1, l2⟩ := lookup_le (c : Int) 255 farR nearL (by decide +kernel)
      have C2 := fun W => short_walk (c : Int) W
      generalize lookup (c : Int) farR nearL = x at l1 l2 C2 ⊢
      by_cases hx : 0 < x
      · rw [if_pos hx]
        have e : ((UInt8.ofNat x.toNat).toNat : Int) = x := by
          rw [UInt8.toNat_ofNat', Nat.mod_eq_of_lt (by omega)]
          omega
        refine escape_short c (UInt8.ofNat x.toNat) (by omega) (by omega) w C1 (fun W => ?_)
        rw [e]
        exact C2 W
      · rw [if_neg hx]
        obtain rfl : x = 0 := by omega
        have hl := upHex_len c hc
        have := escape_hex c ⟨(hexD c).toArray⟩ ⟨(upHex c).toArray⟩ (by omega) hc (by rw [Lib.size_eq]; simp only; omega) w C1 C2 (fun W hW => formatInt_walk c (by omega) W (hT.below hW).tz)
          (fun W => Tryd.strings_ToUpper_ascii ⟨(hexD c).toArray⟩ W (by
            have := (hexD_len 6 c (by decide) (by have : (16 : Nat) ^ 6 = 16777216 := by decide
                                                  omega)).2
            rw [Lib.size_eq]
            simp only
            omega) (fun j b hj => hexD_lt c b (List.mem_of_getElem? hj)))
        have e : (⟨#[64, 123]⟩ ++ ⟨(upHex c).toArray⟩ ++ ⟨#[125]⟩ : ByteArray) = ⟨(64 :: 123 :: (upHex c ++ [125])).toArray⟩ := by
          apply ByteArray.ext
          apply Array.toList_inj.1
          simp
        rw [e] at this
        exact this
theorem escape_no (s : ByteArray) (w : World)
    (C1 : ∀ W, W = w → Calls Tryd.prog 13 #[.string s] W fun e w' => e = .returned (.bool false) ∧ Below W.heap.size W w') :
    Calls Tryd.prog 9 #[.string s] w fun e w' => e = .returned (.tuple #[.string ⟨#[]⟩, .bool false]) ∧ Below w.heap.size w w' := by
  go_enter Tryd.func9, Tryd.ntmps9
  go_wp2_with (go_at_call 13; (with_reducible refine (C1 _ rfl).mono ?_); rintro e w0 ⟨rfl, hb0⟩)
  go_ret2
  exact ⟨rfl, hb0⟩
theorem Escape_all (o : List UInt8) (hs : o.length ≤ 100000000) (w : World) (hT : Tabs w) :
    Calls Tryd.prog 9 #[.string ⟨o.toArray⟩] w fun e w' => e = .returned (.tuple #[.string ⟨(escE o).1.toArray⟩, .bool (escE o).2]) ∧ Below w.heap.size w w' := by
  have hz : (⟨o.toArray⟩ : ByteArray).size = o.length := by rw [Lib.size_eq]
  have C := fun W hW => right_walk ⟨o.toArray⟩ W hW (by omega)
  unfold escE
  cases hv : Lib.validD o with
  | true =>
    rw [if_pos rfl]
    refine Escape_walk ⟨o.toArray⟩ w hT (by omega) (fun W hW => ?_) (fun W hW c hc => escape_all c hc W hW)
    have := C W hW
    rw [show (⟨o.toArray⟩ : ByteArray).data.toList = o from rfl, hv] at this
    exact this
  | false =>
    rw [if_neg (by decide)]
    refine escape_no ⟨o.toArray⟩ w (fun W hW => ?_)
    have := C w hT
    rw [show (⟨o.toArray⟩ : ByteArray).data.toList = o from rfl, hv] at this
    rw [hW]
    exact this
theorem Unescape_all (t : List UInt8) (hs : t.length ≤ 10000000) (w : World) (hT : Tabs w) :
    Calls Tryd.prog 11 #[.string ⟨t.toArray⟩] w fun e w' => e = .returned (.tuple #[.string ⟨(unE t).1.toArray⟩, .bool (unE t).2]) ∧ Below w.heap.size w w' := by
  refine Unescape_walk t w hT hs (fun W hW o ho => Escape_all o ho W hW) (fun W hW l hl => ?_) (fun W hW l hl => ?_)
  · obtain ⟨m, hm⟩ := hW.maxlen
    exact (Tryd.strings_Cut ⟨l.toArray⟩ ⟨#[64]⟩ m W (by rw [Lib.size_eq]; simp only; omega) hm).mono fun e w' k => ⟨k.1, by obtain ⟨n, rfl⟩ := k.2; exact pw_below_drewN (Below.refl _ _) n⟩
  · exact sign_all ⟨l.toArray⟩ (by rw [Lib.size_eq]; simp only; omega) W hW
end Go.Proofs.YtenngdkgahngjaaDoor.All
