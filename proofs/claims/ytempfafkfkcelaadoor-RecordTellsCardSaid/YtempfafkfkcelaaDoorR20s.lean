/- Records: the small case; lines taken apart; records of a text; texts got. -/
import Derived.Test.YtempfafkfkcelaaDoorAll5
import Derived.Test.YtempfafkfkcelaaDoorReRef
import Derived.KernelRfl
namespace Go.Proofs.YtempfafkfkcelaaDoor.Pure
open Go.RowKit Go.Proofs.YtempfafkfkcelaaDoorW.PrintWords Go.Proofs.YtempfafkfkcelaaDoor.All Go.Proofs.YtempfafkfkcelaaDoor.Ba Go.Proofs.YtempfafkfkcelaaDoor.Re Go.Lib

theorem small_ev : Ev (fun k => decklelaw20_small.f k) true := Ev.of decklelaw20_small.mono (show decklelaw20_small.f 100 = some true by kernel_rfl)

theorem hd_line (c : UInt8) (d : List UInt8) (n : Nat) : hd (lineL c d n) = (c.toNat : Int) := rfl
theorem line_app (c : UInt8) (d : List UInt8) (n : Nat) : lineL c d n = c :: ((d ++ List.replicate (71 - d.length) 32) ++ num8 n) := by
  unfold lineL
  simp
theorem pad_length {d : List UInt8} (h : d.length ≤ 71) : (d ++ List.replicate (71 - d.length) (32 : UInt8)).length = 71 := by
  simp
  omega
theorem mid_line (c : UInt8) {d : List UInt8} (n : Nat) (h : d.length ≤ 71) : mid (lineL c d n) = d ++ List.replicate (71 - d.length) 32 := by
  unfold mid
  rw [line_app, List.drop_succ_cons, List.drop_zero]
  exact List.take_left' (pad_length h)
theorem drop_line (c : UInt8) {d : List UInt8} (n : Nat) (h : d.length ≤ 71) : (lineL c d n).drop 72 = num8 n := by
  rw [line_app, List.drop_succ_cons]
  exact List.drop_left' (pad_length h)
theorem plain_pad {d : List UInt8} (m : Nat) (h : plainL d = true) : plainL (d ++ List.replicate m 32) = true := by
  rw [plainL_append, h]
  unfold plainL
  rw [Bool.true_and, List.all_eq_true]
  intro x hx
  rw [List.eq_of_mem_replicate hx]
  rfl
/-- A line is read by its number alone. -/
theorem readOk_line {c : UInt8} {d : List UInt8} {n : Nat} {m : Int} (hc : (c.toNat : Int) = 32 ∨ (c.toNat : Int) = 88 ∨ (c.toNat : Int) = 42) (hd' : d.length ≤ 71) (hp : plainL d = true) (h0 : 0 ≤ m) :
    readOk (lineL c d n) m ↔ num8 n = num8 m.toNat := by
  unfold readOk okP
  rw [hd_line, mid_line c n hd', drop_line c n hd', pad_length hd']
  exact ⟨fun k => k.2.2, fun k => ⟨lineL_length c d n hd', ⟨hc, plain_pad _ hp, Nat.le_refl _, h0⟩, k⟩⟩
theorem num8_mod (n : Nat) : num8 (n % 100000000) = num8 n := by unfold num8; rw [Nat.mod_mod]
theorem digs_inj : ∀ (i a b : Nat), digs i a = digs i b → a % 10 ^ i = b % 10 ^ i
  | 0, a, b, _ => by rw [Nat.pow_zero, Nat.mod_one, Nat.mod_one]
  | i + 1, a, b, h => by
    rw [digs, digs] at h
    obtain ⟨h1, h2⟩ := List.append_inj' h rfl
    have e1 := digs_inj i (a / 10) (b / 10) h1
    have e2 : a % 10 = b % 10 := by
      have h3 : UInt8.ofNat (48 + a % 10) = UInt8.ofNat (48 + b % 10) := by simpa using h2
      have h4 := congrArg UInt8.toNat h3
      rw [UInt8.toNat_ofNat', UInt8.toNat_ofNat'] at h4
      omega
    have s : ∀ x : Nat, x % 10 ^ (i + 1) = 10 * (x / 10 % 10 ^ i) + x % 10 := fun x => by
      rw [Nat.pow_succ, Nat.mul_comm, Nat.mod_mul]
      omega
    rw [s a, s b, e1, e2]
theorem num8_iff (m n : Nat) : num8 m = num8 n ↔ m % 100000000 = n % 100000000 := by
  constructor
  · intro h
    rw [num8_digs, num8_digs] at h
    exact digs_inj 8 m n h
  · intro h
    rw [← num8_mod m, h, num8_mod]
theorem lineL_iff (c : UInt8) {d : List UInt8} (m n : Nat) (h : d.length ≤ 71) : lineL c d m = lineL c d n ↔ num8 m = num8 n := by
  constructor
  · intro k
    rw [← drop_line c m h, k, drop_line c n h]
  · intro k
    unfold lineL
    rw [k]

/-! ### Texts got -/
theorem trim_spaces (t : List UInt8) : ∀ n, trimRightB (t ++ List.replicate n 32) 32 = trimRightB t 32
  | 0 => by simp
  | n + 1 => by
    rw [List.replicate_succ', ← List.append_assoc, trim_snoc, if_pos rfl, trim_spaces t n]
theorem getV_spaces (t : List UInt8) (n : Nat) : getV (t ++ List.replicate n 32) = getV t := by
  unfold getV
  rw [trim_spaces]
theorem getV_end (t : List UInt8) : getV (t ++ [36]) = (ba t, true) := by
  have e : trimRightB (t ++ [36]) 32 = t ++ [36] := by rw [trim_snoc, if_neg (by decide)]
  unfold getV
  rw [e, if_pos (by simp)]
  simp
theorem getV_dot (t : List UInt8) : (getV (t ++ [46])).2 = false := by
  have e : trimRightB (t ++ [46]) 32 = t ++ [46] := by rw [trim_snoc, if_neg (by decide)]
  unfold getV
  rw [e, if_neg (by simp)]
theorem joinB_cons (x : ByteArray) (l : List ByteArray) : joinB (x :: l) = x.data.toList ++ joinB l := rfl
theorem joinB_nil : joinB [] = [] := rfl
theorem joinB_append (a b : List ByteArray) : joinB (a ++ b) = joinB a ++ joinB b := by
  unfold joinB
  rw [List.map_append, List.flatten_append]

/-! ### The records of a text -/
/-- putL with numbers that run on. -/
def putM (s : List UInt8) (n : Nat) : List ByteArray := if 71 < s.length then ba (lineL 32 (s.take 71) n) :: putM (s.drop 71) (n + 1) else [ba (lineL 88 s n)]
termination_by s.length
decreasing_by simp; omega
theorem putM_far {s : List UInt8} {n : Nat} (h : 71 < s.length) : putM s n = ba (lineL 32 (s.take 71) n) :: putM (s.drop 71) (n + 1) := by rw [putM, if_pos h]
theorem putM_near {s : List UInt8} {n : Nat} (h : ¬ 71 < s.length) : putM s n = [ba (lineL 88 s n)] := by rw [putM, if_neg h]
theorem lineL_num {c : UInt8} {d : List UInt8} {m n : Nat} (h : num8 m = num8 n) : lineL c d m = lineL c d n := by
  unfold lineL
  rw [h]
theorem putM_num : ∀ (k : Nat) (s : List UInt8), s.length = k → ∀ m n, m % 100000000 = n % 100000000 → putL s m = putM s n := by
  intro k
  induction k using Nat.strongRecOn with
  | _ k ih =>
    intro s hk m n h
    subst hk
    have h8 := (num8_iff m n).2 h
    by_cases c : 71 < s.length
    · rw [putL_far c, putM_far c, lineL_num h8, ih (s.drop 71).length (by rw [List.length_drop]; omega) _ rfl (next m) (n + 1) (by unfold next; omega)]
    · rw [putL_near c, putM_near c, lineL_num h8]
theorem putL_eq (s : List UInt8) (n : Nat) : putL s n = putM s n := putM_num s.length s rfl n n rfl
theorem putM_length : ∀ (k : Nat) (s : List UInt8), s.length = k → 0 < k → ∀ n, (putM s n).length = (k - 1) / 71 + 1 := by
  intro k
  induction k using Nat.strongRecOn with
  | _ k ih =>
    intro s hk h0 n
    subst hk
    by_cases c : 71 < s.length
    · rw [putM_far c, List.length_cons, ih (s.drop 71).length (by rw [List.length_drop]; omega) _ rfl (by rw [List.length_drop]; omega), List.length_drop]
      omega
    · rw [putM_near c, List.length_singleton]
      omega
theorem putV_length (s : List UInt8) (n : Int) : (putV s n).1.length ≤ s.length + 1 := by
  unfold putV
  split
  · show (putL (s ++ [36]) n.toNat).length ≤ _
    rw [putL_eq, putM_length _ _ rfl (by simp)]
    simp
    omega
  · exact Nat.zero_le _
end Go.Proofs.YtempfafkfkcelaaDoor.Pure
