/- The law SignsPlain over what the printed functions compute. -/
import Derived.Test.YtenngdkgahngjaaDoorAll8
import Derived.Test.YtenngdkgahngjaaDoorS07s
namespace Go.Proofs.YtenngdkgahngjaaDoor.Pure
open Go.RowKit Go.Proofs.YtenngdkgahngjaaDoorW.PrintWords Go.Proofs.YtenngdkgahngjaaDoor.All Go.Proofs.YtenngdkgahngjaaDoor.Ba Go.Proofs.YtenngdkgahngjaaDoor.Si Go.Lib

theorem rd_at (l : List Int) (i : Nat) (h : i < l.length) : rd l (i : Int) = l[i] := by
  unfold rd
  rw [Int.toNat_natCast, List.getD_eq_getElem?_getD, List.getElem?_eq_getElem h]
  rfl
def toB (l : List Int) : List UInt8 := l.map fun n => UInt8.ofNat n.toNat
theorem strOf_toB (l : List Int) : strOfNums l = ba (toB l) := rfl
theorem plain_loop (l0 : List Int) (hl : l0.length ≤ 300) : ∀ (d i : Nat), i + d = l0.length → (∀ x ∈ l0.take i, 32 ≤ x ∧ x ≤ 126 ∧ x ≠ 64) →
    Ev (fun k => decklelaw07_SignsPlain_t.l0 k l0 true (i : Int)) true
  | 0, i, hd, hp => by
    have hp : ∀ x ∈ l0, 32 ≤ x ∧ x ≤ 126 ∧ x ≠ 64 := by rwa [List.take_of_length_le (by omega)] at hp
    have hb : ∀ b ∈ toB l0, 32 ≤ b.toNat ∧ b.toNat ≤ 126 ∧ b.toNat ≠ 64 := by
      intro b hb
      obtain ⟨x, hx, rfl⟩ := List.mem_map.1 hb
      have := hp x hx
      rw [ofNat_lt (by omega)]
      omega
    obtain ⟨rs, h1, h2, h3⟩ := plain_runes (toB l0) hb
    have hlen : (toB l0).length = l0.length := List.length_map ..
    have e1 := escE_encs rs h1
    have e2 := unE_escs rs h1
    rw [h2, h3] at e1 e2
    refine Ev.step (f := fun _ => some _) (fun k => ?_) (Ev.now _)
    simp only [decklelaw07_SignsPlain_t.l0]
    rw [if_neg (by omega), strOf_toB, esc_f _ (by rw [ba_size]; omega), un_f _ (by rw [ba_size]; omega), ba_data, e1, e2]
    simp only [Option.bind_some, if_true]
  | d + 1, i, hd, hp => by
    have hi : i < l0.length := by omega
    have hr := rd_at l0 i hi
    by_cases h : 32 ≤ l0[i] ∧ l0[i] ≤ 126 ∧ l0[i] ≠ 64
    · have ih := plain_loop l0 hl d (i + 1) (by omega) (fun x hx => by
        rw [List.take_succ_eq_append_getElem hi] at hx
        rcases List.mem_append.1 hx with hx | hx
        · exact hp x hx
        · rw [List.mem_singleton.1 hx]
          exact h)
      refine Ev.step (fun k => ?_) ih
      simp only [decklelaw07_SignsPlain_t.l0]
      rw [if_pos (by omega), if_pos (by omega), hr, if_neg (by omega), if_neg (by omega), if_neg (by omega), wrapI (by unfold I; omega)]
      rfl
    · refine Ev.step (f := fun _ => some _) (fun k => ?_) (Ev.now _)
      simp only [decklelaw07_SignsPlain_t.l0]
      rw [if_pos (by omega), if_pos (by omega), hr]
      by_cases c1 : l0[i] < 32
      · rw [if_pos c1]
      · rw [if_neg c1]
        by_cases c2 : l0[i] > 126
        · rw [if_pos c2]
        · rw [if_neg c2, if_pos (by omega)]
theorem SignsPlain (l0 : List Int) (_w0 : l0.length ≤ 140737488351232) (_h0 : ∀ x ∈ l0, (Lit.int .u8 x).wf = true) : ∃ k, decklelaw07_SignsPlain_t.f k l0 = some true := by
  refine Ev.rounds (g := fun k => decklelaw07_SignsPlain_t.f k l0) ?_
  unfold decklelaw07_SignsPlain_t.f
  refine Ev.bind0 small_f ?_
  by_cases hs : (l0.length : Int) > 300
  · exact Ev.if_pos hs (Ev.now _)
  · exact Ev.if_neg hs (plain_loop l0 (by omega) _ 0 (Nat.zero_add _) (by simp))
end Go.Proofs.YtenngdkgahngjaaDoor.Pure
