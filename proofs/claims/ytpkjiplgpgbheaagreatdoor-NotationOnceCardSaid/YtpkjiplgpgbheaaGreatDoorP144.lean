/- What the laws lean on, part 4: texts of this claim, merged and cut to what is used. -/
import Derived.Test.YtpkjiplgpgbheaaGreatDoorP14EpSh
import Derived.Test.YtpkjiplgpgbheaaGreatDoorP14EpSp
import Derived.Test.YtpkjiplgpgbheaaGreatDoorP14GTabs
import Derived.Test.YtpkjiplgpgbheaaGreatDoorP143
import Derived.Test.YtpkjiplgpgbheaaGreatDoorP142
set_option linter.unusedVariables false
set_option linter.unusedSimpArgs false
set_option linter.unusedSectionVars false
namespace Go.Proofs.YtpkjiplgpgbheaaGreatDoor.V
open Go Go.Proofs Go.Proofs.Ev Go.Proofs.YtpkjiplgpgbheaaGreatDoor Go.Proofs.YtpkjiplgpgbheaaGreatDoor.Sp Go.Proofs.YtpkjiplgpgbheaaGreatDoor.Dm Go.Proofs.YtpkjiplgpgbheaaGreatDoor.Ba Go.Proofs.YtpkjiplgpgbheaaGreatDoor.G
set_option linter.unusedVariables false
set_option linter.unusedSimpArgs false
set_option maxHeartbeats 4000000
set_option maxRecDepth 100000
instance tbl : Tbl Tryz.prog := ⟨G.Tabs⟩
@[go_sem] def eI (n : Int) : List PV := [.int .i64 n]
@[go_sem] def eS (s : ByteArray) : List PV := [.str s]
@[go_sem] def eD (d : Sp.Dec) : List PV := [.int .i64 d.f0, .int .i64 d.f1]
@[go_sem] def eN (n : Sp.Nd) : List PV := [.int .i64 n.f0, .ro (n.f1.map eI), .ro (n.f2.map eI), .ro (n.f3.map eD)]
@[go_sem] def eO (o : Sp.Ob) : List PV := [.int .i64 o.f0, .str o.f1, .ro (o.f2.map eN), .ro (o.f3.map eS)]
@[go_sem] theorem boolT : boolP Tryz.prog 4 = true := by kernel_rfl
theorem mix : Tryz.prog.follows .mixedOrders = true := by kernel_rfl
theorem drop_get {α : Type} {l : List α} {k : Nat} {s : α} (hs : l[k]? = some s) : l.drop k = s :: l.drop (k + 1) := by
  have hl : k < l.length := (List.getElem?_eq_some_iff.1 hs).1
  rw [List.drop_eq_getElem_cons hl]
  congr 1
  rw [List.getElem?_eq_getElem hl] at hs
  exact Option.some.inj hs
/-- The place of the first one for which it holds. -/
@[go_sem] def idx {α : Type} (p : α → Bool) : List α → Nat → Int
  | [], _ => -1
  | x :: l, k => if p x then k else idx p l (k + 1)
theorem idx_any_t {α : Type} {p : α → Bool} : ∀ {l : List α} {k : Nat}, l.any p = true → 0 ≤ idx p l k
  | [], _, h => by simp at h
  | x :: l, k, h => by
    unfold idx
    split
    · omega
    · rename_i hx
      exact idx_any_t (by simpa [hx] using h)
theorem idx_any_f {α : Type} {p : α → Bool} : ∀ {l : List α} {k : Nat}, l.any p = false → idx p l k = -1
  | [], _, h => rfl
  | x :: l, k, h => by
    rw [List.any_cons, Bool.or_eq_false_iff] at h
    unfold idx
    rw [if_neg (by simp [h.1])]
    exact idx_any_f h.2
end Go.Proofs.YtpkjiplgpgbheaaGreatDoor.V
namespace Go.Proofs.YtpkjiplgpgbheaaGreatDoor.V
open Go Go.RowKit Go.Proofs Go.Proofs.Ev Go.Proofs.YtpkjiplgpgbheaaGreatDoor Go.Proofs.YtpkjiplgpgbheaaGreatDoor.Ba
set_option maxHeartbeats 4000000
set_option maxRecDepth 100000
set_option linter.unusedSimpArgs false
set_option linter.unusedVariables false
theorem setCell_other (w : World) (g o k : Nat) (v : Value) (h : k ≠ g) : (w.setCell ⟨g, o, none⟩ v).heap[k]? = w.heap[k]? := Below.heap_setCell _ _ _ _ (fun e => h (by simp [e]))
/-- A builder that is fresh notes its own address. -/
theorem copy_den0 (x : PV) (y : Cont) : DenD Tryz.prog 167 [.ptr (.ext 0) 0 0 0] [.rows false 117 2 [[.nilp, x]], y] (.tup []) [] [(0, some (.rows false 117 2 [[.ptr (.ext 0) 0 0 0, x]])), (0, some y)] := by
  intro us foot omut c hT hbase hlen hargs R
  match us, hlen with
  | [u], _ =>
  have hu := hargs 0 _ _ rfl rfl
  have hv : ∀ b, c.ver b = 0 := fun b => by rw [R.ver b]; cases b <;> rfl
  have hl : Ev.look (stM (m0 [.rows false 117 2 [[.nilp, x]], y])).m (.ext 0) 0 = some (.rows false 117 2 [[.nilp, x]]) := rfl
  obtain ⟨g, cap, cur, q1, q2, q3, q4, q5, q6, q7, q8, q9, q10, q11, q12⟩ := ptr_at R hu hl (Nat.zero_lt_one)
  have hsz : cur.size = 2 := q7.2 rfl
  obtain ⟨u0, c0, r0⟩ := q11 0 _ 0 _ rfl rfl
  obtain ⟨u1, c1, r1⟩ := q11 0 _ 1 _ rfl rfl
  cases r0
  simp only [Nat.zero_mul, Nat.zero_add] at c0 c1
  have e0 : (0 * 2 + 0 : Nat) = 0 := rfl
  rw [e0] at q3
  subst q3
  have hlt : g < c.w.heap.size := by
    rcases Nat.lt_or_ge g c.w.heap.size with h | h
    · exact h
    · rw [Array.getElem?_eq_none h] at q4; cases q4
  refine (copy_fresh g c.w ((cell_block q4).trans c0) (by simp [World.shape?, q4, hsz]) (by simp [World.frozen?, q4])).mono ?_
  rintro e w' ⟨rfl, rfl⟩
  have hnew : (c.w.setCell ⟨g, 0, none⟩ (.pointer (some ⟨g, 0, none⟩))).heap[g]? = some (.cells (cur.setIfInBounds 0 (.pointer (some ⟨g, 0, none⟩))) 117 (0, 0)) := by
    simp [World.setCell, Array.getElem?_modify, q4]
  obtain ⟨d, h1, h2, h3, h4, h5, h6, h7⟩ := R.turn (.ext 0) 0 (.rows false 117 2 [[.ptr (.ext 0) 0 0 0, x]]) (c.w.setCell ⟨g, 0, none⟩ (.pointer (some ⟨g, 0, none⟩))) (some (g, cap)) 2 (by rw [hv]; exact Nat.le_refl _) (fun _ => ⟨q1.symm, q2.symm⟩) rfl rfl rfl (by simp [World.setCell])
    (fun k hk hne => setCell_other _ _ _ _ _ (fun e => hne _ cap rfl (by rw [e]; exact q1))) (fun g' cap' e => by cases e; exact .inr ⟨_, cap, rfl, q1⟩)
    (fun d h1 h2 h3 h4 h5 h6 => by
      refine .rows _ _ _ _ g cap _ h4 (by decide) h3 (by rw [h2]; exact q12) (by rw [h1]; exact hnew) q5 q6 (by rw [Array.size_setIfInBounds]; exact q7) (fun i row hi => ?_) (fun i row j z hi hz => ?_) (fun i row j z hi hz => ?_)
      · match i, hi with
        | 0, hi => cases hi; rfl
      · match i, hi with
        | 0, hi =>
          cases hi
          match j, hz with
          | 0, hz => cases hz; exact ⟨rfl, fun e => by cases e⟩
          | 1, hz => cases hz; exact q10 0 _ 1 _ rfl rfl
      · match i, hi with
        | 0, hi =>
          cases hi
          match j, hz with
          | 0, hz =>
            cases hz
            refine ⟨.pointer (some ⟨g, 0, none⟩), by simp [hsz], .ptr _ _ _ _ _ rfl (by rw [h5]; exact Nat.le_refl _) (fun _ => ⟨g, cap, h3, by simp⟩)⟩
          | 1, hz =>
            cases hz
            exact ⟨u1, by simp [c1], r1.le h6⟩)
  let d' : Cx := { d with ver := fun b => match b with | .loc _ _ => 1 | .ext k => d.ver (.ext k) }
  have hvd : ∀ k, d.ver (.ext k) = 0 := fun k => by
    rw [h7.ver (.ext k)]
    simp only [updm]
    split
    · rfl
    · rfl
  have hld : d.le d' := by
    refine ⟨rfl, Nat.le_refl _, fun k _ hm => ⟨hm, rfl⟩, fun b => ?_, fun b _ => ⟨rfl, rfl⟩⟩
    cases b with
    | loc i j =>
      have : d.ver (.loc i j) = 0 := by
        rw [h7.ver (.loc i j)]
        simp only [updm]
        split
        · rfl
        · rfl
      show d.ver (.loc i j) ≤ 1
      omega
    | ext k => exact Nat.le_refl _
  have hm : ∀ b z, ((stM (m1D [(0, some (.rows false 117 2 [[.ptr (.ext 0) 0 0 0, x]])), (0, some y)] [])).m b).live = some z → (∃ k, b = .ext k) ∧ (updm (stM (m0 [.rows false 117 2 [[.nilp, x]], y])).m (.ext 0) ⟨0, some (.rows false 117 2 [[.ptr (.ext 0) 0 0 0, x]])⟩ b).live = some z := by
    intro b z h
    cases b with
    | loc i j => cases j <;> cases h
    | ext k =>
      refine ⟨⟨k, rfl⟩, ?_⟩
      match k, h with
      | 0, h => cases h; rfl
      | 1, h => cases h; rfl
      | k + 2, h => cases h
  have hm' : ∀ b z, (updm (stM (m0 [.rows false 117 2 [[.nilp, x]], y])).m (.ext 0) ⟨0, some (.rows false 117 2 [[.ptr (.ext 0) 0 0 0, x]])⟩ b).live = some z → ((stM (m1D [(0, some (.rows false 117 2 [[.ptr (.ext 0) 0 0 0, x]])), (0, some y)] [])).m b).live = some z := by
    intro b z h
    cases b with
    | loc i j => cases h
    | ext k =>
      match k, h with
      | 0, h => cases h; rfl
      | 1, h => cases h; rfl
      | k + 2, h => cases h
  refine ⟨_, d', rfl, h1, h2, h6.trans hld, .tup [] [] rfl (by simp), ?_⟩
  refine ⟨fun i => .dead _, fun b => ?_, fun b z h => ?_, fun k => ?_, fun b b' z z' g cap cap' h h' h3 h4 => ?_, h7.om, h7.fr, h7.bs, h7.fb, h7.bw⟩
  · cases b with
    | loc i j => cases j <;> rfl
    | ext k =>
      show d.ver (.ext k) = _
      rw [hvd]
      match k with
      | 0 => rfl
      | 1 => rfl
      | k + 2 => rfl
  · obtain ⟨⟨k, rfl⟩, h2⟩ := hm b z h
    exact (h7.mem _ z h2).le hld rfl (fun _ _ _ => rfl)
  · refine (h7.mt k).trans ⟨?_, ?_⟩
    · rintro (h | ⟨b, z, cap, h, h'⟩)
      · exact .inl h
      · exact .inr ⟨b, z, cap, hm' b z h, h'⟩
    · rintro (h | ⟨b, z, cap, h, h'⟩)
      · exact .inl h
      · exact .inr ⟨b, z, cap, (hm b z h).2, h'⟩
  · exact h7.inj b b' z z' g cap cap' (hm b z h).2 (hm b' z' h').2 h3 h4
end Go.Proofs.YtpkjiplgpgbheaaGreatDoor.V
