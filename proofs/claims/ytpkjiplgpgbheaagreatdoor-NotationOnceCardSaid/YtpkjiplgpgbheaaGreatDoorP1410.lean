/- What the laws lean on, part 10: texts of this claim, merged and cut to what is used. -/
import Derived.Test.YtpkjiplgpgbheaaGreatDoorP14EpNt
import Derived.Test.YtpkjiplgpgbheaaGreatDoorP149
import Derived.Test.YtpkjiplgpgbheaaGreatDoorP142
set_option linter.unusedVariables false
set_option linter.unusedSimpArgs false
set_option linter.unusedSectionVars false
namespace Go.Proofs.YtpkjiplgpgbheaaGreatDoor.V
open Go Go.Proofs Go.Proofs.Ev Go.Proofs.YtpkjiplgpgbheaaGreatDoor Go.Proofs.YtpkjiplgpgbheaaGreatDoor.Sp Go.Proofs.YtpkjiplgpgbheaaGreatDoor.Ba Go.Proofs.YtpkjiplgpgbheaaGreatDoor.Nt
set_option maxHeartbeats 4000000
set_option maxRecDepth 100000
set_option linter.unusedSimpArgs false
set_option linter.unusedVariables false
set_option linter.unusedSectionVars false
theorem drop_at {s : ByteArray} {k : Nat} (h : k < s.size) : ∃ b, s[k]? = some b ∧ s.data.toList.drop k = b :: s.data.toList.drop (k + 1) := by
  have hl : k < s.data.toList.length := by rw [Array.length_toList, ByteArray.size_data]; exact h
  refine ⟨s.data.toList[k], ?_, List.drop_eq_getElem_cons hl⟩
  rw [getElem?_pos s k h]
  rfl
theorem ends_den (s : ByteArray) (hs : s.size ≤ 1099511627776) : Den Tryz.prog 264 [.str s] [] (.int .i64 (endsL s.data.toList 0)) [] [] := by
  have h39 : (⟨#[39]⟩ : ByteArray)[0]? = some 39 := rfl
  (refine den_walk mix Tryz.func264 rfl (by kernel_rfl) rfl [.tmp 2] rfl (by simp) ?_; simp only [bodyOf, Tryz.f264])
  (repeat refine stp ?_)
  refine Run_loop (fun m σ => ∃ k : Nat, σ.t 0 = .str s ∧ σ.t 3 = .int .i64 k ∧ m + k = s.size ∧ endsL (s.data.toList.drop k) k = endsL s.data.toList 0) s.size ?_ ?_
  · exact ⟨0, rd, rd, by omega, rfl⟩
  rintro m σ ⟨k, h0, h3, hm, he⟩
  by_cases hk : k < s.size
  · obtain ⟨b, hb, hd⟩ := drop_at hk
    rw [hd] at he
    by_cases h9 : b = 39
    · subst h9
      by_cases hk1 : k + 1 < s.size
      · obtain ⟨d, hb2, hd2⟩ := drop_at hk1
        rw [hd2, endsL, if_pos rfl] at he
        by_cases hd9 : d = 39
        · subst hd9
          rw [if_pos rfl] at he
          clear hd hd2
          have h9 := Asd.mk he
          clear he
          (repeat refine stp ?_)
          exact ⟨m - 2, by omega, k + 2, rd, rd, by omega, h9.out⟩
        · rw [if_neg hd9] at he
          have hdn : d.toNat ≠ (39 : UInt8).toNat := fun h => hd9 (UInt8.toNat_inj.1 h)
          rw [← he]
          clear he hd hd2 hd9
          (repeat refine stp ?_)
          exact FE
      · have e : s.data.toList.drop (k + 1) = [] := List.drop_of_length_le (by rw [Array.length_toList, ByteArray.size_data]; omega)
        rw [e, endsL, if_pos rfl] at he
        rw [← he]
        clear he hd e
        (repeat refine stp ?_)
        exact FE
    · have hdn : b.toNat ≠ (39 : UInt8).toNat := fun h => h9 (UInt8.toNat_inj.1 h)
      have e : endsL (s.data.toList.drop (k + 1)) (k + 1) = endsL s.data.toList 0 := by
        rw [← he]
        cases s.data.toList.drop (k + 1) with
        | nil => rw [endsL, endsL, if_neg h9]
        | cons d l => rw [endsL, if_neg h9]
      clear he hd h9
      have h9 := Asd.mk e
      clear e
      (repeat refine stp ?_)
      exact ⟨m - 1, by omega, k + 1, rd, rd, by omega, h9.out⟩
  · rw [List.drop_of_length_le (by rw [Array.length_toList, ByteArray.size_data]; omega), endsL] at he
    rw [← he]
    clear he
    (repeat refine stp ?_)
    exact FE
theorem halve_den (s : ByteArray) (hs : s.size ≤ 1000000000) : Den Tryz.prog 164 [.str s, .str ⟨#[39, 39]⟩, .str ⟨#[39]⟩, .int .i64 (-1)] [] (.str (halve s)) [] [] :=
  repl_den s ⟨#[39, 39]⟩ ⟨#[39]⟩ (-1) (by omega) (by decide) (by have := countB_le s ⟨#[39, 39]⟩ (by decide); rw [show (⟨#[39]⟩ : ByteArray).size = 1 from rfl]; omega)
theorem replAll_den (s : ByteArray) (hs : s.size ≤ 1000000000) : Den Tryz.prog 266 [.str s, .str ⟨#[39, 39]⟩, .str ⟨#[39]⟩] [] (.str (halve s)) [] [] := by
  have h := halve_den s hs
  generalize halve s = r at *
  (refine den_walk mix Tryz.func266 rfl (by kernel_rfl) rfl [.tmp 6] rfl (by simp) ?_; simp only [bodyOf, Tryz.f266])
  (repeat refine stp ?_)
  (refine RC (h) ?_)
  (repeat refine stp ?_)
  exact FE
theorem endsL_lt : ∀ (l : List UInt8) (k : Nat), endsL l k < 0 ∨ ((k : Int) ≤ endsL l k ∧ endsL l k < k + l.length)
  | [], k => .inl (by rw [endsL]; omega)
  | [c], k => by
    rw [endsL]
    split
    · right; simp only [List.length_cons, List.length_nil]; omega
    · left; omega
  | c :: d :: l, k => by
    rw [endsL]
    split
    · split
      · rcases endsL_lt l (k + 2) with h | h
        · exact .inl h
        · right; simp only [List.length_cons]; omega
      · right; simp only [List.length_cons]; omega
    · rcases endsL_lt (d :: l) (k + 1) with h | h
      · exact .inl h
      · right; simp only [List.length_cons] at h ⊢; omega
theorem runesG_end (s : ByteArray) (f p : Nat) (h : s.size ≤ p) : runesG s f p = [] := by
  cases f with
  | zero => rfl
  | succ f => rw [runesG, if_neg (by omega)]
theorem replaceK_le (old new : List UInt8) (h : new.length ≤ old.length) : ∀ (k : Nat) (s : List UInt8), (Lib.replaceK old new k s).length ≤ s.length
  | 0, s => by rw [Lib.replaceK]; exact Nat.le_refl _
  | k + 1, s => by
    rw [Lib.replaceK]
    split
    · exact Nat.le_refl _
    · rename_i h1
      rcases Lib.index_spec s old with ⟨e, _⟩ | ⟨i, e, _⟩
      · exact absurd (by rw [e]; rfl) h1
      · have hr := Lib.index_room s old (by omega)
        have ih := replaceK_le old new h k (s.drop ((Lib.index s old).toNat + old.length))
        simp only [List.length_append, List.length_take, List.length_drop] at ih ⊢
        omega
theorem halve_le (s : ByteArray) : (halve s).size ≤ s.size := by
  unfold halve Lib.replace
  rw [ba_size, size_data]
  split
  · exact Nat.le_refl _
  · exact replaceK_le _ _ (by decide) _ _
theorem qread_den (s : ByteArray) (hs : s.size ≤ 1000000000) : Den Tryz.prog 211 [.str s] [] (.tup [.ro ((readQ s).1.map eI), .str (readQ s).2.1, .bool (readQ s).2.2]) [] [] := by
  unfold readQ
  have hP := cutP_den s tMark
  have hle := cutP_le s tMark
  generalize cutP s tMark = r at *
  have hE := ends_den r.1 (by omega)
  have hlt := endsL_lt r.1.data.toList 0
  generalize endsL r.1.data.toList 0 = e at *
  cases hb : r.2 with
  | false =>
    rw [hb] at hP
    have hq : readQ2 r e = ([], e0, false) := by rw [readQ2, if_pos hb]
    rw [hq]
    clear hlt hq
    (refine den_walk mix Tryz.func211 rfl (by kernel_rfl) rfl [.tmp 2, .tmp 3, .tmp 4] rfl (by simp) ?_; simp only [bodyOf, Tryz.f211])
    (repeat refine stp ?_)
    (refine RC (hP) ?_)
    (repeat refine stp ?_)
    (refine RC (hE) ?_)
    (repeat refine stp ?_)
    exact FZ (.loc 2 0)
  | true =>
    rw [hb] at hP
    by_cases h0 : e < 0
    · have hq : readQ2 r e = ([], e0, false) := by rw [readQ2, if_neg (by rw [hb]; decide), if_pos h0]
      rw [hq]
      clear hlt hq
      (refine den_walk mix Tryz.func211 rfl (by kernel_rfl) rfl [.tmp 2, .tmp 3, .tmp 4] rfl (by simp) ?_; simp only [bodyOf, Tryz.f211])
      (repeat refine stp ?_)
      (refine RC (hP) ?_)
      (repeat refine stp ?_)
      (refine RC (hE) ?_)
      (repeat refine stp ?_)
      exact FZ (.loc 2 0)
    · obtain ⟨n, rfl⟩ : ∃ n : Nat, e = n := ⟨e.toNat, by omega⟩
      have hn : n < r.1.size := by
        rw [← ByteArray.size_data, ← Array.length_toList]
        omega
      have hq : readQ2 r n = if Lib.validD (r.1.extract 0 n).data.toList = false then ([], e0, false) else (runesL (halve (r.1.extract 0 n)), r.1.extract (n + 1) r.1.size, true) := by rw [readQ2, if_neg (by rw [hb]; decide), if_neg h0, Int.toNat_natCast]
      rw [hq]
      clear hq
      have hV : Den Tryz.prog 265 [.str (r.1.extract 0 n)] [] (.bool (Lib.validD (r.1.extract 0 n).data.toList)) [] [] :=
        den_of_calls (us := [.string (r.1.extract 0 n)]) rfl rfl (fun w hT => Tryz.utf8_ValidString _ w (by rw [ByteArray.size_extract]; omega) (G.Tabs.utf8 hT))
      have hx : (r.1.extract 0 n).size ≤ 1000000000 := by rw [ByteArray.size_extract]; omega
      have hA := replAll_den (r.1.extract 0 n) hx
      have hh := halve_le (r.1.extract 0 n)
      generalize hq0 : r.1.extract 0 n = q at *
      generalize halve q = p at *
      cases hv : Lib.validD q.data.toList with
      | false =>
        rw [hv] at hV
        simp only [if_true]
        clear hlt h0 hv
        (refine den_walk mix Tryz.func211 rfl (by kernel_rfl) rfl [.tmp 2, .tmp 3, .tmp 4] rfl (by simp) ?_; simp only [bodyOf, Tryz.f211])
        (repeat refine stp ?_)
        (refine RC (hP) ?_)
        (repeat refine stp ?_)
        (refine RC (hE) ?_)
        (repeat refine stp ?_)
        (refine RC (hV) ?_)
        (repeat refine stp ?_)
        exact FZ (.loc 2 0)
      | true =>
        rw [hv] at hV
        simp only [Bool.true_eq_false, if_false]
        clear hlt h0 hv
        have hr0 : runesG p (p.size + 1) 0 = runesL p := rfl
        (refine den_walk mix Tryz.func211 rfl (by kernel_rfl) rfl [.tmp 2, .tmp 3, .tmp 4] rfl (by simp) ?_; simp only [bodyOf, Tryz.f211])
        (repeat refine stp ?_)
        (refine RC (hP) ?_)
        (repeat refine stp ?_)
        (refine RC (hE) ?_)
        (repeat refine stp ?_)
        (refine RC (hV) ?_)
        (repeat refine stp ?_)
        (refine RC (hA) ?_)
        (repeat refine stp ?_)
        clear hP hE hV hA
        refine Run_loop (fun m σ => ∃ (i v u : Nat) (out : List Int), σ.t 0 = .str r.1 ∧ σ.t 5 = .int .i64 n ∧ σ.t 32 = .it (.loc 32 0) v ∧ σ.m (.loc 32 0) = ⟨v, some (.iter p i)⟩ ∧ σ.t 2 = .own (.loc 2 0) u out.length ∧ σ.m (.loc 2 0) = ⟨u, some (.rows true 3 1 (out.map eI))⟩ ∧ Asd (out ++ runesG p m i = runesL p) ∧ p.size < m + i ∧ out.length ≤ i) (p.size + 1) ?_ ?_
        · exact ⟨0, _, _, [], rd, rd, rd, rdm, rd, rdm, ⟨hr0⟩, by omega, by simp⟩
        clear hr0
        rintro m σ ⟨i, v, u, out, h0, h5, h32, hm, h2, hm2, hr, hf, ho⟩
        generalize hRR : runesL p = R at *
        clear hRR
        by_cases hi : i < p.size
        · obtain ⟨f, rfl⟩ : ∃ f, m = f + 1 := ⟨m - 1, by omega⟩
          have hr' := hr.out
          rw [runesG, if_pos hi] at hr'
          have hd := dec_pos p i
          have hd1 := Lib.rune_le p i
          generalize hDec : Utf8.decode p i = D at *
          have hr2 : (out ++ [(D.1 : Int)]) ++ runesG p f (i + D.2) = R := by rw [← hr', List.append_assoc]; rfl
          clear hr hr'
          replace hr2 := Asd.mk hr2
          have hlen : (out ++ [(D.1 : Int)]).length = out.length + 1 := by simp
          (repeat refine stp ?_)
          exact ⟨f, by omega, i + D.2, _, _, out ++ [(D.1 : Int)], rd, rd, rd, rdm, (by rw [hlen]; exact rd), (by rw [List.map_append]; exact rdm), hr2, by omega, by omega⟩
        · have hr' := hr.out
          rw [runesG_end p m i (by omega), List.append_nil] at hr'
          subst hr'
          clear hr hf
          (repeat refine stp ?_)
          exact FZ (.loc 2 0)
end Go.Proofs.YtpkjiplgpgbheaaGreatDoor.V
namespace Go.Proofs.YtpkjiplgpgbheaaGreatDoor.V
open Go Go.RowKit Go.Proofs Go.Proofs.Ev Go.Proofs.YtpkjiplgpgbheaaGreatDoor Go.Proofs.YtpkjiplgpgbheaaGreatDoor.Sp Go.Proofs.YtpkjiplgpgbheaaGreatDoor.Ba Go.Proofs.YtpkjiplgpgbheaaGreatDoor.Nu Go.Proofs.YtpkjiplgpgbheaaGreatDoor.NuP Go.Proofs.YtpkjiplgpgbheaaGreatDoor.Nt
set_option maxHeartbeats 4000000
set_option maxRecDepth 100000
set_option linter.unusedSimpArgs false
set_option linter.unusedVariables false
set_option linter.unusedSectionVars false
theorem pieces_size (s : ByteArray) : (ba (s.data.toList.take (pieces s.data.toList))).size ≤ s.size ∧ (ba (s.data.toList.drop (pieces s.data.toList))).size ≤ s.size := by
  have := pieces_le s.data.toList
  rw [ba_size, ba_size, size_data, List.length_take, List.length_drop]
  omega
theorem resR_cons (x : Int × Int) (q : Option (List (Int × Int) × List UInt8)) (out : List Sp.Dec) : NuP.resR (q.map fun q => (x :: q.1, q.2)) out = NuP.resR q (out ++ [toS x]) := by
  cases q with
  | none => rfl
  | some q => simp [NuP.resR]
theorem cut32 (b : ByteArray) : cutP b (⟨#[32]⟩ : ByteArray) = if b.data.toList.head? = some 32 then (ba (b.data.toList.drop 1), true) else (b, false) := by
  unfold cutP
  cases hb : b.data.toList with
  | nil =>
    have : (⟨([] : List UInt8).toArray⟩ : ByteArray) = b := by rw [← hb]
    simp [Lib.trimPrefix, Lib.hasPrefix]
    exact this
  | cons c l =>
    by_cases hc : c = 32
    · subst hc
      simp [Lib.trimPrefix, Lib.hasPrefix, ba]
    · have : (⟨(c :: l).toArray⟩ : ByteArray) = b := by rw [← hb]
      have hc' : ¬ (32 : UInt8) = c := fun h => hc h.symm
      simp [Lib.trimPrefix, Lib.hasPrefix, hc, hc', List.isPrefixOf]
      exact this
theorem ba_nil (l : List UInt8) : (ba l = (⟨#[]⟩ : ByteArray)) ↔ l = [] := by
  constructor
  · intro h
    have := congrArg (fun s => s.data.toList) h
    simpa [ba] using this
  · rintro rfl
    rfl
theorem numread_den (s : ByteArray) (hs : s.size ≤ 1000000) : Den Tryz.prog 209 [.str s] [] (.tup [.ro ((readNP s).1.map eD), .str (readNP s).2.1, .bool (readNP s).2.2]) [] [] := by
  unfold readNP
  (refine den_walk mix Tryz.func209 rfl (by kernel_rfl) rfl [.tmp 2, .tmp 3, .tmp 4] rfl (by simp) ?_; simp only [bodyOf, Tryz.f209])
  (repeat refine stp ?_)
  refine Run_loop (fun m σ => ∃ (t : ByteArray) (out : List Sp.Dec) (v : Nat), σ.t 0 = .str t ∧ σ.t 2 = .own (.loc 2 0) v out.length ∧ σ.m (.loc 2 0) = ⟨v, some (.rows true 70 2 (out.map eD))⟩ ∧ m = t.size ∧ out.length + t.size ≤ s.size ∧ NuP.resR (readL t.data.toList) out = NuP.resR (readL s.data.toList) []) s.size ?_ ?_
  · exact ⟨s, [], _, rd, rd, rdm, rfl, by simp, rfl⟩
  rintro m σ ⟨t, out, v, h0, h2, hm, rfl, hz, hr⟩
  have hC := ncut_den t (by omega)
  obtain ⟨hz1, hz2⟩ := pieces_size t
  have hR := nread_den (ba (t.data.toList.take (pieces t.data.toList))) (by omega)
  rw [ba_data] at hR
  have hlt : ∀ l, (ba (t.data.toList.drop (pieces t.data.toList))).data.toList = 32 :: l → l.length < t.size := by
    intro l h
    rw [ba_data] at h
    rw [size_data]
    exact rest_lt h
  rcases readN_or (t.data.toList.take (pieces t.data.toList)) with hn | ⟨a, b, hn⟩
  · rw [readL_none hn] at hr
    rw [← hr]
    rw [hn] at hR
    clear hr hn hlt
    (repeat refine stp ?_)
    (refine RC (hC) ?_)
    (repeat refine stp ?_)
    (refine RC (hR) ?_)
    (repeat refine stp ?_)
    exact FZ (.loc 2 0)
  · rw [hn] at hR
    have hP := cutP_den (ba (t.data.toList.drop (pieces t.data.toList))) ⟨#[32]⟩
    have hlen : (out ++ [toS (a, b)]).length = out.length + 1 := by simp
    have heD : eD (toS (a, b)) = [.int .i64 a, .int .i64 b] := rfl
    by_cases hg : goesOn (t.data.toList.drop (pieces t.data.toList)) = true
    · rw [readL_go hn hg, resR_cons] at hr
      obtain ⟨l, hl, hpl⟩ := goesOn_cons hg
      have e32 : cutP (ba (t.data.toList.drop (pieces t.data.toList))) (⟨#[32]⟩ : ByteArray) = (ba l, true) := by
        rw [cut32, ba_data, hl, List.head?_cons, if_pos rfl, List.drop_one, List.tail_cons]
      rw [e32] at hP
      rw [hl] at hr
      have hlt' := hlt l (by rw [ba_data]; exact hl)
      have hC2 := ncut_den (ba l) (by rw [ba_size]; omega)
      rw [ba_data] at hC2
      have hne : Sp.seq (ba (l.take (pieces l))) e0 = false := by
        cases h : Sp.seq (ba (l.take (pieces l))) e0 with
        | false => rfl
        | true =>
          have h2 := (seq_iff _ _).1 h
          rw [show e0 = (⟨#[]⟩ : ByteArray) from rfl, ba_nil, take_nil] at h2
          exact absurd h2 hpl
      have hbl : (ba l).size = l.length := ba_size l
      rw [List.drop_one, List.tail_cons] at hr
      generalize ba (l.take (pieces l)) = q1 at *
      generalize ba (l.drop (pieces l)) = q2 at *
      generalize ba (t.data.toList.take (pieces t.data.toList)) = q3 at *
      generalize ba (t.data.toList.drop (pieces t.data.toList)) = q4 at *
      replace hr := Asd.mk hr
      clear hn hg hl hpl hlt e32
      (repeat refine stp ?_)
      (refine RC (hC) ?_)
      (repeat refine stp ?_)
      (refine RC (hR) ?_)
      (repeat refine stp ?_)
      (refine RC (hP) ?_)
      (repeat refine stp ?_)
      (refine RC (hC2) ?_)
      (repeat refine stp ?_)
      exact ⟨l.length, by omega, ba l, out ++ [toS (a, b)], _, rd, (by rw [hlen]; exact rd), (by rw [List.map_append]; exact rdm), hbl.symm, by omega, by rw [ba_data]; exact hr.out⟩
    · have hg' : goesOn (t.data.toList.drop (pieces t.data.toList)) = false := by simpa using hg
      rw [readL_stop hn hg'] at hr
      have hres : NuP.resR (some ([(a, b)], t.data.toList.drop (pieces t.data.toList))) out = (out ++ [toS (a, b)], ba (t.data.toList.drop (pieces t.data.toList)), true) := rfl
      rw [hres] at hr
      rw [← hr]
      have hmap : (out ++ [toS (a, b)]).map eD = List.map eD out ++ [[PV.int .i64 a, PV.int .i64 b]] := by rw [List.map_append]; rfl
      have hlen2 : out.length + 1 ≤ (List.map eD out ++ [[PV.int .i64 a, PV.int .i64 b]]).length := by simp
      have htk : List.take (out.length + 1) (List.map eD out ++ [[PV.int .i64 a, PV.int .i64 b]]) = List.map eD out ++ [[PV.int .i64 a, PV.int .i64 b]] := List.take_of_length_le (by simp)
      by_cases h32 : (t.data.toList.drop (pieces t.data.toList)).head? = some 32
      · have e32 : cutP (ba (t.data.toList.drop (pieces t.data.toList))) (⟨#[32]⟩ : ByteArray) = (ba ((t.data.toList.drop (pieces t.data.toList)).drop 1), true) := by rw [cut32, ba_data, if_pos h32]
        have hp0 : pieces ((t.data.toList.drop (pieces t.data.toList)).drop 1) = 0 := by
          rcases Nat.eq_zero_or_pos (pieces ((t.data.toList.drop (pieces t.data.toList)).drop 1)) with h | h
          · exact h
          · exact absurd ((goesOn_eq _).2 ⟨h32, by omega⟩) hg
        have hC2 := ncut_den (ba ((t.data.toList.drop (pieces t.data.toList)).drop 1)) (by
          have : (ba ((t.data.toList.drop (pieces t.data.toList)).drop 1)).size ≤ (ba (t.data.toList.drop (pieces t.data.toList))).size := by rw [ba_size, ba_size, List.length_drop]; omega
          omega)
        rw [ba_data, hp0] at hC2
        have e1 : ba (List.take 0 ((t.data.toList.drop (pieces t.data.toList)).drop 1)) = (⟨#[]⟩ : ByteArray) := rfl
        rw [e1] at hC2
        rw [e32] at hP
        generalize ba (List.drop 0 ((t.data.toList.drop (pieces t.data.toList)).drop 1)) = q1 at *
        generalize ba ((t.data.toList.drop (pieces t.data.toList)).drop 1) = q2 at *
        generalize ba (t.data.toList.take (pieces t.data.toList)) = q3 at *
        generalize ba (t.data.toList.drop (pieces t.data.toList)) = q4 at *
        clear hn hg hg' h32 hp0 hlt e32 e1 hr hres
        dsimp only
        rw [hmap]
        clear hmap
        (repeat refine stp ?_)
        (refine RC (hC) ?_)
        (repeat refine stp ?_)
        (refine RC (hR) ?_)
        (repeat refine stp ?_)
        (refine RC (hP) ?_)
        (repeat refine stp ?_)
        (refine RC (hC2) ?_)
        (repeat refine stp ?_)
        exact FZ (.loc 2 0)
      · have e32 : cutP (ba (t.data.toList.drop (pieces t.data.toList))) (⟨#[32]⟩ : ByteArray) = (ba (t.data.toList.drop (pieces t.data.toList)), false) := by rw [cut32, ba_data, if_neg h32]
        have hC2 := ncut_den (ba (t.data.toList.drop (pieces t.data.toList))) (by omega)
        generalize ba ((ba (t.data.toList.drop (pieces t.data.toList))).data.toList.take (pieces (ba (t.data.toList.drop (pieces t.data.toList))).data.toList)) = q1 at *
        generalize ba ((ba (t.data.toList.drop (pieces t.data.toList))).data.toList.drop (pieces (ba (t.data.toList.drop (pieces t.data.toList))).data.toList)) = q2 at *
        rw [e32] at hP
        generalize ba (t.data.toList.take (pieces t.data.toList)) = q3 at *
        generalize ba (t.data.toList.drop (pieces t.data.toList)) = q4 at *
        clear hn hg hg' h32 hlt e32 hr hres
        dsimp only
        rw [hmap]
        clear hmap
        (repeat refine stp ?_)
        (refine RC (hC) ?_)
        (repeat refine stp ?_)
        (refine RC (hR) ?_)
        (repeat refine stp ?_)
        (refine RC (hP) ?_)
        (repeat refine stp ?_)
        (refine RC (hC2) ?_)
        (repeat refine stp ?_)
        exact FZ (.loc 2 0)
end Go.Proofs.YtpkjiplgpgbheaaGreatDoor.V
namespace Go.Proofs.YtpkjiplgpgbheaaGreatDoor.V
open Go Go.RowKit Go.Proofs Go.Proofs.Ev Go.Proofs.YtpkjiplgpgbheaaGreatDoor Go.Proofs.YtpkjiplgpgbheaaGreatDoor.Sp Go.Proofs.YtpkjiplgpgbheaaGreatDoor.Ba Go.Proofs.YtpkjiplgpgbheaaGreatDoor.Nt
set_option maxHeartbeats 4000000
set_option maxRecDepth 100000
set_option linter.unusedSimpArgs false
set_option linter.unusedVariables false
set_option linter.unusedSectionVars false
/-- The parser's block: what is left, whether all went well. -/
@[go_sem] def psC (l : ByteArray) (ok : Bool) : Cont := .rows false 111 2 [[.str l, .bool ok]]
theorem cutP_no {l t : ByteArray} (h : (cutP l t).2 = false) : (cutP l t).1 = l := by
  unfold cutP Lib.trimPrefix at *
  simp only at h ⊢
  rw [if_neg (by simp [h])]
theorem pskip_den (l t : ByteArray) (ok : Bool) : Den Tryz.prog 142 [.ptr (.ext 0) 0 0 0, .str t] [psC l ok] (.bool (cutP l t).2) [] [psC (cutP l t).1 ok] := by
  have hT := cutP_den l t
  have hf := @cutP_no l t
  generalize cutP l t = T at *
  cases hb : T.2 with
  | true =>
    rw [hb] at hT
    clear hf
    (refine den_walk mix Tryz.func142 rfl (by kernel_rfl) rfl [.tmp 4] rfl (by simp) ?_; simp only [bodyOf, Tryz.f142])
    (repeat refine stp ?_)
    (refine RC (hT) ?_)
    (repeat refine stp ?_)
    exact FP
  | false =>
    rw [hb] at hT
    rw [hf hb]
    clear hf
    (refine den_walk mix Tryz.func142 rfl (by kernel_rfl) rfl [.tmp 4] rfl (by simp) ?_; simp only [bodyOf, Tryz.f142])
    (repeat refine stp ?_)
    (refine RC (hT) ?_)
    (repeat refine stp ?_)
    exact FP
theorem pnum_den (l : ByteArray) (hl : l.size ≤ 1000000) (ok : Bool) : Den Tryz.prog 144 [.ptr (.ext 0) 0 0 0] [psC l ok] (.ro ((readNP l).1.map eD)) [] [psC (readNP l).2.1 (ok && (readNP l).2.2)] := by
  have hT := numread_den l hl
  generalize readNP l = T at *
  cases ok with
  | true =>
    rw [Bool.true_and]
    (refine den_walk mix Tryz.func144 rfl (by kernel_rfl) rfl [.tmp 2] rfl (by simp) ?_; simp only [bodyOf, Tryz.f144])
    (repeat refine stp ?_)
    (refine RC (hT) ?_)
    (repeat refine stp ?_)
    exact FP
  | false =>
    rw [Bool.false_and]
    (refine den_walk mix Tryz.func144 rfl (by kernel_rfl) rfl [.tmp 2] rfl (by simp) ?_; simp only [bodyOf, Tryz.f144])
    (repeat refine stp ?_)
    (refine RC (hT) ?_)
    (repeat refine stp ?_)
    exact FP
theorem kidsP_false (arr : ByteArray → Res) (more : Bool) (c : Nat) (l : ByteArray) : kidsP arr more c l false = ([], l, false) := by
  cases c with
  | zero => rfl
  | succ c => rw [kidsP, if_pos rfl]
end Go.Proofs.YtpkjiplgpgbheaaGreatDoor.V
namespace Go.Proofs.YtpkjiplgpgbheaaGreatDoor.V
open Go Go.RowKit Go.Proofs Go.Proofs.Ev Go.Proofs.YtpkjiplgpgbheaaGreatDoor Go.Proofs.YtpkjiplgpgbheaaGreatDoor.Sp Go.Proofs.YtpkjiplgpgbheaaGreatDoor.Ba Go.Proofs.YtpkjiplgpgbheaaGreatDoor.Nt
set_option maxHeartbeats 4000000
set_option maxRecDepth 100000
set_option linter.unusedSimpArgs false
set_option linter.unusedVariables false
set_option linter.unusedSectionVars false
theorem cutP_yes {l t : ByteArray} (h : (cutP l t).2 = true) : (cutP l t).1.size + t.size = l.size := by
  unfold cutP Lib.trimPrefix at *
  simp only at h ⊢
  rw [if_pos (by simp [h])]
  have h2 : t.data.toList.length ≤ l.data.toList.length := by
    unfold Lib.hasPrefix at h
    exact (List.isPrefixOf_iff_prefix.1 h).length_le
  rw [← ByteArray.size_data, ← ByteArray.size_data, ← ByteArray.size_data, List.size_toArray, List.length_drop]
  simp only [Array.length_toList] at h2 ⊢
  omega
/-- One that reads an array. -/
def ArrDen (d : Nat) : Prop := ∀ l : ByteArray, l.size ≤ 1000000 → Den Tryz.prog 78 [.ptr (.ext 0) 0 0 0, .int .i64 d] [psC l true] (.ro ((arrayP d l).1.map eN)) [] [psC (arrayP d l).2.1 (arrayP d l).2.2]
theorem kids_arr (d : Nat) (hd : d ≤ 16) (hA : 0 < d → ArrDen d) (hS : ∀ l, (arrayP d l).1.length + (arrayP d l).2.1.size ≤ l.size + 1) (c : Nat) (hc : c ≤ 1048576) (l : ByteArray) (hl : l.size ≤ 1000000) (ok : Bool) :
    Den Tryz.prog 143 [.ptr (.ext 0) 0 0 0, .int .i64 c, .int .i64 d] [psC l ok] (.ro ((kidsP (arrayP d) (decide (0 < d)) c l ok).1.map eN)) [] [psC (kidsP (arrayP d) (decide (0 < d)) c l ok).2.1 (kidsP (arrayP d) (decide (0 < d)) c l ok).2.2] := by
  obtain ⟨R, hR⟩ : ∃ R, kidsP (arrayP d) (decide (0 < d)) c l ok = R := ⟨_, rfl⟩
  rw [hR]
  have hR := Asd.mk hR
  (refine den_walk mix Tryz.func143 rfl (by kernel_rfl) rfl [.tmp 6] rfl (by simp) ?_; simp only [bodyOf, Tryz.f143])
  (repeat refine stp ?_)
  refine Run_loop (fun m σ => ∃ (k : Nat) (l' : ByteArray) (ok' : Bool) (out : List Nd) (v : Nat), σ.t 0 = .ptr (.ext 0) 0 0 0 ∧ σ.t 1 = .int .i64 c ∧ σ.t 2 = .int .i64 d ∧ σ.t 7 = .int .i64 k ∧ σ.t 6 = .own (.loc 6 0) v out.length ∧ σ.m (.loc 6 0) = ⟨v, some (.rows true 63 4 (out.map eN))⟩ ∧ σ.m (.ext 0) = ⟨0, some (psC l' ok')⟩ ∧ k + m = c ∧ out.length + l'.size ≤ l.size ∧ Asd ((out ++ (kidsP (arrayP d) (decide (0 < d)) m l' ok').1, (kidsP (arrayP d) (decide (0 < d)) m l' ok').2) = R)) c ?_ ?_
  · exact ⟨0, l, ok, [], _, rd, rd, rd, rd, rd, rdm, rdm, by omega, by simp, ⟨by rw [← hR.out]; rfl⟩⟩
  rintro m σ ⟨k, l', ok', out, v, h0, h1, h2, h7, h6, hm, hp, hk, hz, hr⟩
  clear hR
  have hr' := hr.out
  have hsf := sf_eN out
  have htk : (List.map eN out).take out.length = List.map eN out := take_allm eN _
  have hTl : out.length ≤ (List.map eN out).length := by simp
  have hall := all_eN out
  cases m with
  | zero =>
    rw [kidsP, List.append_nil] at hr'
    subst hr'
    clear hr
    cases ok' <;> ((repeat refine stp ?_); exact FZP (.loc 6 0))
  | succ m =>
    cases ok' with
    | false =>
      rw [kidsP_false, List.append_nil] at hr'
      subst hr'
      clear hr
      (repeat refine stp ?_)
      exact FZP (.loc 6 0)
    | true =>
      rw [kidsP, if_neg (by decide)] at hr'
      by_cases h0d : 0 < d
      · rw [if_neg (by simp [h0d])] at hr'
        have hP := pskip_den l' tOpen true
        cases ho : (cutP l' tOpen).2 with
        | false =>
          rw [if_pos ho, List.append_nil] at hr'
          rw [ho, cutP_no ho] at hP
          replace hr := Asd.mk hr'
          clear hr' ho
          (repeat refine stp ?_)
          (refine RP (.ext 0) (hP) ?_)
          (repeat refine stp ?_)
          exact ⟨m, by omega, k + 1, l', false, out, v, rd, rd, rd, rd, rd, rdm, rdm, by omega, by omega, ⟨by rw [kidsP_false, List.append_nil]; exact hr.out⟩⟩
        | true =>
          rw [if_neg (by rw [ho]; decide)] at hr'
          rw [ho] at hP
          have hy := cutP_yes ho
          have hoz : tOpen.size = 1 := rfl
          have hQ := hA h0d (cutP l' tOpen).1 (by omega)
          have hSz := hS (cutP l' tOpen).1
          generalize (cutP l' tOpen).1 = l1 at *
          generalize arrayP d l1 = a at *
          have hmap : (out ++ a.1).map eN = List.map eN out ++ List.map eN a.1 := List.map_append
          have hlen : (out ++ a.1).length = out.length + a.1.length := List.length_append
          have halla := all_eN a.1
          cases hb : a.2.2 with
          | false =>
            rw [if_pos hb] at hr'
            rw [hb] at hQ
            replace hr := Asd.mk hr'
            clear hr' ho hb
            (repeat refine stp ?_)
            (refine RP (.ext 0) (hP) ?_)
            (repeat refine stp ?_)
            (refine RP (.ext 0) (hQ) ?_)
            (repeat refine stp ?_)
            exact ⟨m, by omega, k + 1, a.2.1, false, out ++ a.1, _, rd, rd, rd, rd, (by rw [hlen]; exact rd), (by rw [hmap]; exact rdm), rdm, by omega, by omega, ⟨by rw [kidsP_false, List.append_nil]; exact hr.out⟩⟩
          | true =>
            rw [if_neg (by rw [hb]; decide)] at hr'
            rw [hb] at hQ
            have hE := pskip_den a.2.1 tEnd true
            have hle := cutP_le a.2.1 tEnd
            dsimp only at hr'
            generalize cutP a.2.1 tEnd = e at *
            have hr2 : (((out ++ a.1) ++ (kidsP (arrayP d) (decide (0 < d)) m e.1 e.2).1, (kidsP (arrayP d) (decide (0 < d)) m e.1 e.2).2) : Res) = R := by rw [← hr', List.append_assoc]
            clear hr hr' ho hb
            replace hr2 := Asd.mk hr2
            (repeat refine stp ?_)
            (refine RP (.ext 0) (hP) ?_)
            (repeat refine stp ?_)
            (refine RP (.ext 0) (hQ) ?_)
            (repeat refine stp ?_)
            (refine RP (.ext 0) (hE) ?_)
            (repeat refine stp ?_)
            exact ⟨m, by omega, k + 1, e.1, e.2, out ++ a.1, _, rd, rd, rd, rd, (by rw [hlen]; exact rd), (by rw [hmap]; exact rdm), rdm, by omega, by omega, hr2⟩
      · rw [if_pos (by simp [h0d]), List.append_nil] at hr'
        have hd0 : d = 0 := by omega
        subst hd0
        replace hr := Asd.mk hr'
        clear hr'
        (repeat refine stp ?_)
        exact ⟨m, by omega, k + 1, l', false, out, v, rd, rd, rd, rd, rd, rdm, rdm, by omega, by omega, ⟨by rw [kidsP_false, List.append_nil]; exact hr.out⟩⟩
end Go.Proofs.YtpkjiplgpgbheaaGreatDoor.V
namespace Go.Proofs.YtpkjiplgpgbheaaGreatDoor.V
open Go Go.RowKit Go.Proofs Go.Proofs.Ev Go.Proofs.YtpkjiplgpgbheaaGreatDoor Go.Proofs.YtpkjiplgpgbheaaGreatDoor.Sp Go.Proofs.YtpkjiplgpgbheaaGreatDoor.Ba Go.Proofs.YtpkjiplgpgbheaaGreatDoor.Nu Go.Proofs.YtpkjiplgpgbheaaGreatDoor.NuP Go.Proofs.YtpkjiplgpgbheaaGreatDoor.Nt
set_option maxHeartbeats 4000000
set_option maxRecDepth 100000
set_option linter.unusedSimpArgs false
set_option linter.unusedVariables false
set_option linter.unusedSectionVars false
def fstR (q : Option (List (Int × Int) × List UInt8)) : List (Int × Int) := match q with
  | some (l, _) => l
  | none => []
theorem resR_nil (q : Option (List (Int × Int) × List UInt8)) : NuP.resR q [] = ((fstR q).map toS, ba (match q with | some (_, r) => r | none => []), q.isSome) := by
  cases q with
  | none => rfl
  | some q => rfl
theorem fstR_len : ∀ (n : Nat) (s : List UInt8), s.length ≤ n → (fstR (readL s)).length ≤ s.length := by
  intro n
  induction n with
  | zero =>
    intro s hs
    obtain rfl : s = [] := List.eq_nil_of_length_eq_zero (by omega)
    rw [readL_none (by exact readN_nil)]
    exact Nat.le_refl _
  | succ n ih =>
    intro s hs
    rcases readN_or (s.take (pieces s)) with h1 | ⟨m, e, h1⟩
    · rw [readL_none h1]
      exact Nat.zero_le _
    · have hpos : pieces s ≠ 0 := by
        intro k0
        rw [k0, List.take_zero] at h1
        have := readN_nil
        rw [h1] at this
        cases this
      have hle := pieces_le s
      cases hg : goesOn (s.drop (pieces s)) with
      | false =>
        rw [readL_stop h1 hg]
        show 1 ≤ s.length
        omega
      | true =>
        obtain ⟨l, hl, hp⟩ := goesOn_cons hg
        have hlt := rest_lt hl
        rw [readL_go h1 hg, hl, List.drop_one, List.tail_cons]
        have := ih l (by omega)
        cases hq : readL l with
        | none => exact Nat.zero_le _
        | some q =>
          rw [hq] at this
          show (_ :: q.1).length ≤ s.length
          have h3 : (fstR (some q)).length = q.1.length := rfl
          rw [List.length_cons]
          omega
theorem readNP_facts (l : ByteArray) : (readNP l).1.length ≤ l.size ∧ (readNP l).2.1.size ≤ l.size ∧ ∀ x ∈ (readNP l).1, wfD x := by
  unfold readNP
  have h1 := fstR_len _ l.data.toList (Nat.le_refl _)
  rw [resR_nil]
  dsimp only
  rw [List.length_map, size_data l]
  cases h : readL l.data.toList with
  | none => exact ⟨Nat.zero_le _, Nat.zero_le _, by simp [fstR]⟩
  | some q =>
    obtain ⟨a, b⟩ := q
    obtain ⟨_, _, h3, h4⟩ := readL_spec _ _ (Nat.le_refl _) a b h
    rw [h] at h1
    refine ⟨h1, ?_, ?_⟩
    · show (ba b).size ≤ _
      rw [ba_size]
      omega
    · intro x hx
      obtain ⟨y, hy, rfl⟩ := List.mem_map.1 hx
      have := h4 y hy
      exact ⟨this.2, De.isRight_I this.1⟩
theorem wholeB_I (d : Sp.Dec) : I (wholeB d).1 := by
  cases h : (wholeB d).2 with
  | true => exact whole_I h
  | false =>
    unfold wholeB Dm.whole at *
    split
    · rename_i k
      rw [if_pos k] at h
      cases h
    · exact ⟨by decide, by decide⟩
theorem runesG_len (s : ByteArray) : ∀ (f p : Nat), (runesG s f p).length ≤ s.size - p ∧ ∀ x ∈ runesG s f p, 0 ≤ x ∧ x ≤ 1114111
  | 0, p => by simp [runesG]
  | f + 1, p => by
    rw [runesG]
    split
    · rename_i h
      have hd := dec_pos s p
      have hr := Lib.rune_le s p
      obtain ⟨h1, h2⟩ := runesG_len s f (p + (Utf8.decode s p).2)
      refine ⟨by rw [List.length_cons]; omega, fun x hx => ?_⟩
      rcases List.mem_cons.1 hx with rfl | hx
      · omega
      · exact h2 x hx
    · simp
theorem readQ_facts (s : ByteArray) : (readQ s).1.length ≤ s.size ∧ (readQ s).2.1.size ≤ s.size ∧ ∀ x ∈ (readQ s).1, I x := by
  unfold readQ readQ2
  have hle := cutP_le s tMark
  generalize cutP s tMark = r at *
  split
  · exact ⟨Nat.zero_le _, Nat.zero_le _, by simp⟩
  · split
    · exact ⟨Nat.zero_le _, Nat.zero_le _, by simp⟩
    · split
      · exact ⟨Nat.zero_le _, Nat.zero_le _, by simp⟩
      · dsimp only
        have h1 := halve_le (r.1.extract 0 (endsL r.1.data.toList 0).toNat)
        have h2 : (r.1.extract 0 (endsL r.1.data.toList 0).toNat).size ≤ r.1.size := by rw [ByteArray.size_extract]; omega
        have h3 := runesG_len (halve (r.1.extract 0 (endsL r.1.data.toList 0).toNat)) ((halve (r.1.extract 0 (endsL r.1.data.toList 0).toNat)).size + 1) 0
        refine ⟨?_, ?_, fun x hx => ?_⟩
        · have := h3.1
          show (runesG _ _ _).length ≤ _
          omega
        · rw [ByteArray.size_extract]
          omega
        · have := h3.2 x hx
          exact ⟨by omega, by omega⟩
/-- What a reader of arrays keeps to. -/
def Keeps (arr : ByteArray → Res) : Prop := ∀ l : ByteArray, (arr l).1.length + (arr l).2.1.size ≤ l.size + 1 ∧ (l.size ≤ 1000000 → ∀ n ∈ (arr l).1, wfN n)
theorem kids_keeps {arr : ByteArray → Res} (h : Keeps arr) (more : Bool) : ∀ (c : Nat) (l : ByteArray) (ok : Bool), (kidsP arr more c l ok).1.length + (kidsP arr more c l ok).2.1.size ≤ l.size ∧ (l.size ≤ 1000000 → ∀ n ∈ (kidsP arr more c l ok).1, wfN n)
  | 0, l, ok => by simp [kidsP]
  | c + 1, l, ok => by
    rw [kidsP]
    split
    · simp
    · split
      · simp
      · split
        · simp
        · rename_i ho
          have ho' : (cutP l tOpen).2 = true := by simpa using ho
          have hy := cutP_yes ho'
          have hoz : tOpen.size = 1 := rfl
          obtain ⟨a1, a2⟩ := h (cutP l tOpen).1
          generalize (cutP l tOpen).1 = l1 at *
          generalize arr l1 = a at *
          dsimp only
          split
          · exact ⟨by dsimp only; omega, fun hl => a2 (by omega)⟩
          · have hle := cutP_le a.2.1 tEnd
            obtain ⟨k1, k2⟩ := kids_keeps h more c (cutP a.2.1 tEnd).1 (cutP a.2.1 tEnd).2
            refine ⟨by dsimp only; rw [List.length_append]; omega, fun hl n hn => ?_⟩
            rcases List.mem_append.1 hn with hn | hn
            · exact a2 (by omega) n hn
            · exact k2 (by omega) n hn
theorem wf_plain {k : Int} (hk : I k) {s i : List Int} (hs : ∀ x ∈ s, I x) (hl : s.length ≤ 1000000) (hi : ∀ x ∈ i, I x) (hil : i.length ≤ 1000000) : wfN ⟨k, s, i, []⟩ :=
  ⟨hk, hs, hi, by simp, by dsimp only; omega, by dsimp only; omega, by simp⟩
theorem items_keeps {arr : ByteArray → Res} (h : Keeps arr) (more : Bool) (s : List Int) (l : ByteArray) (ok : Bool) : (itemsP arr more s l ok).1.length + (itemsP arr more s l ok).2.1.size ≤ l.size + 1 ∧ (l.size ≤ 1000000 → (∀ x ∈ s, I x) → s.length ≤ 1000000 → ∀ n ∈ (itemsP arr more s l ok).1, wfN n) := by
  unfold itemsP
  obtain ⟨q1, q2, q3⟩ := readQ_facts l
  obtain ⟨n1, n2, n3⟩ := readNP_facts l
  split
  · exact ⟨by simp, by simp⟩
  · split
    · refine ⟨by dsimp only; rw [List.length_singleton]; omega, fun hl hs hsl n hn => ?_⟩
      rw [List.mem_singleton.1 hn]
      exact wf_plain ⟨by decide, by decide⟩ hs hsl q3 (by omega)
    · split
      · obtain ⟨k1, k2⟩ := kids_keeps h more (cnt s).1.toNat l true
        refine ⟨by dsimp only; rw [List.length_cons]; omega, fun hl hs hsl n hn => ?_⟩
        rcases List.mem_cons.1 hn with rfl | hn
        · exact wf_plain ⟨by decide, by decide⟩ hs hsl (by simp) (by simp)
        · exact k2 hl n hn
      · split
        · have := cutP_le l tNone
          refine ⟨by dsimp only; rw [List.length_singleton]; omega, fun hl hs hsl n hn => ?_⟩
          rw [List.mem_singleton.1 hn]
          exact wf_plain ⟨by decide, by decide⟩ hs hsl (by simp) (by simp)
        · refine ⟨by dsimp only; rw [List.length_singleton]; omega, fun hl hs hsl n hn => ?_⟩
          rw [List.mem_singleton.1 hn]
          exact numbersL_wf hs (by omega) n3 (by omega)
theorem side_I (ds : List Sp.Dec) : (∀ x ∈ sideP ds, I x) ∧ (sideP ds).length = ds.length := by
  refine ⟨fun x hx => ?_, by simp [sideP]⟩
  obtain ⟨d, _, rfl⟩ := List.mem_map.1 hx
  exact wholeB_I d
theorem arr_keeps : ∀ d : Nat, Keeps (arrayP d)
  | 0 => fun l => by simp [arrayP]
  | d + 1 => fun l => by
    have ih := arr_keeps d
    rw [arrayP]
    obtain ⟨n1, n2, n3⟩ := readNP_facts l
    split
    · have := cutP_le l tAlone
      obtain ⟨k1, k2⟩ := kids_keeps ih (decide (0 < d)) 1 (cutP l tAlone).1 true
      refine ⟨by dsimp only; rw [List.length_cons]; omega, fun hl n hn => ?_⟩
      rcases List.mem_cons.1 hn with rfl | hn
      · exact wf_plain ⟨by decide, by decide⟩ (by simp) (by simp) (by simp) (by simp)
      · exact k2 (by omega) n hn
    · split
      · have := cutP_le (readNP l).2.1 tReach
        obtain ⟨s1, s2⟩ := side_I (readNP l).1
        obtain ⟨k1, k2⟩ := items_keeps ih (decide (0 < d)) (sideP (readNP l).1) (cutP (readNP l).2.1 tReach).1 (sideB (readNP l).1)
        exact ⟨by omega, fun hl => k2 (by omega) s1 (by omega)⟩
      · obtain ⟨k1, k2⟩ := items_keeps ih (decide (0 < d)) [] l true
        exact ⟨k1, fun hl => k2 hl (by simp) (by simp)⟩
end Go.Proofs.YtpkjiplgpgbheaaGreatDoor.V
namespace Go.Proofs.YtpkjiplgpgbheaaGreatDoor.V
open Go Go.RowKit Go.Proofs Go.Proofs.Ev Go.Proofs.YtpkjiplgpgbheaaGreatDoor Go.Proofs.YtpkjiplgpgbheaaGreatDoor.Sp Go.Proofs.YtpkjiplgpgbheaaGreatDoor.Ba Go.Proofs.YtpkjiplgpgbheaaGreatDoor.Nt
set_option maxHeartbeats 4000000
set_option maxRecDepth 100000
set_option linter.unusedSimpArgs false
set_option linter.unusedVariables false
set_option linter.unusedSectionVars false
theorem pitems_den (d : Nat) (hd : d ≤ 15) (hA : 0 < d → ArrDen d) (s : List Int) (hs : s.length ≤ 1000000) (l : ByteArray) (hl : l.size ≤ 1000000) (ok : Bool) :
    Den Tryz.prog 145 [.ptr (.ext 0) 0 0 0, .ro (s.map eI), .int .i64 (d + 1)] [psC l ok] (.ro ((itemsP (arrayP d) (decide (0 < d)) s l ok).1.map eN)) [] [psC (itemsP (arrayP d) (decide (0 < d)) s l ok).2.1 (itemsP (arrayP d) (decide (0 < d)) s l ok).2.2] := by
  have hC := count_den s (by omega)
  have hcl := cnt_le s
  have hK := fun (c : Nat) (hc : c ≤ 1048576) => kids_arr d (by omega) hA (fun l => (arr_keeps d l).1) c hc l hl true
  unfold itemsP
  generalize cnt s = C at *
  cases h1 : (ok && C.2) with
  | false =>
    simp only [if_true]
    clear hK
    cases ok with
    | false =>
      (refine den_walk mix Tryz.func145 rfl (by kernel_rfl) rfl [.tmp 6] rfl (by simp) ?_; simp only [bodyOf, Tryz.f145])
      (repeat refine stp ?_)
      (refine RC (hC) ?_)
      (repeat refine stp ?_)
      exact FZP (.loc 6 0)
    | true =>
      have hc2 : C.2 = false := h1
      rw [hc2] at hC
      clear h1 hc2
      (refine den_walk mix Tryz.func145 rfl (by kernel_rfl) rfl [.tmp 6] rfl (by simp) ?_; simp only [bodyOf, Tryz.f145])
      (repeat refine stp ?_)
      (refine RC (hC) ?_)
      (repeat refine stp ?_)
      exact FZP (.loc 6 0)
  | true =>
    simp only [Bool.true_eq_false, if_false]
    have hok : ok = true := by cases ok; cases h1; rfl
    have hc2 : C.2 = true := by subst hok; exact h1
    subst hok
    rw [hc2] at hC
    clear h1 hc2
    have hM := hasP_den l tMark (by omega) (by decide)
    cases hm : hasP l tMark with
    | true =>
      rw [hm] at hM
      simp only [if_true]
      have hQ := qread_den l (by omega)
      have hq := readQ_facts l
      generalize readQ l = q at *
      clear hK hm
      cases hb : q.2.2 with
      | false =>
        rw [hb] at hQ
        rw [Bool.false_and]
        (refine den_walk mix Tryz.func145 rfl (by kernel_rfl) rfl [.tmp 6] rfl (by simp) ?_; simp only [bodyOf, Tryz.f145])
        (repeat refine stp ?_)
        (refine RC (hC) ?_)
        (repeat refine stp ?_)
        (refine RC (hM) ?_)
        (repeat refine stp ?_)
        (refine RC (hQ) ?_)
        (repeat ((fail_if_success (show Run _ _ (.reg _ (⟨some 64, _, _, _, _, _⟩ :: _) :: _) _)); refine stp ?_))
        refine R1z ?_
        (repeat refine stp ?_)
        exact FZP (.loc 65 0)
      | true =>
        rw [hb] at hQ
        rw [Bool.true_and]
        by_cases he : (q.1.length : Int) = C.1
        · rw [decide_eq_true he]
          (refine den_walk mix Tryz.func145 rfl (by kernel_rfl) rfl [.tmp 6] rfl (by simp) ?_; simp only [bodyOf, Tryz.f145])
          (repeat refine stp ?_)
          (refine RC (hC) ?_)
          (repeat refine stp ?_)
          (refine RC (hM) ?_)
          (repeat refine stp ?_)
          (refine RC (hQ) ?_)
          (repeat ((fail_if_success (show Run _ _ (.reg _ (⟨some 64, _, _, _, _, _⟩ :: _) :: _) _)); refine stp ?_))
          refine R1z ?_
          (repeat refine stp ?_)
          exact FZP (.loc 65 0)
        · rw [decide_eq_false he]
          (refine den_walk mix Tryz.func145 rfl (by kernel_rfl) rfl [.tmp 6] rfl (by simp) ?_; simp only [bodyOf, Tryz.f145])
          (repeat refine stp ?_)
          (refine RC (hC) ?_)
          (repeat refine stp ?_)
          (refine RC (hM) ?_)
          (repeat refine stp ?_)
          (refine RC (hQ) ?_)
          (repeat ((fail_if_success (show Run _ _ (.reg _ (⟨some 64, _, _, _, _, _⟩ :: _) :: _) _)); refine stp ?_))
          refine R1z ?_
          (repeat refine stp ?_)
          exact FZP (.loc 65 0)
    | false =>
      rw [hm] at hM
      simp only [Bool.false_eq_true, if_false]
      have hO := hasP_den l tOpen (by omega) (by decide)
      obtain ⟨c, hc0⟩ : ∃ c : Nat, C.1 = c := ⟨C.1.toNat, by omega⟩
      rw [hc0] at hC hcl
      rw [hc0, Int.toNat_natCast]
      have hK := hK c (by omega)
      cases ho : hasP l tOpen with
      | true =>
        rw [ho] at hO
        simp only [if_true]
        have hkk := (kids_keeps (arr_keeps d) (decide (0 < d)) c l true).1
        generalize kidsP (arrayP d) (decide (0 < d)) c l true = q at *
        clear hm ho hc0
        have hmap : List.map eN (⟨5, s, [], []⟩ :: q.1) = [PV.int .i64 5, PV.ro (s.map eI), PV.ro [], PV.ro []] :: q.1.map eN := rfl
        rw [hmap]
        have hall := all_eN q.1
        have hsf := sf_eN q.1
        have hdd : ((d : Int) + 1 - 1) = d := by omega
        have h1l : 1 + q.1.length = q.1.length + 1 := Nat.add_comm _ _
        (refine den_walk mix Tryz.func145 rfl (by kernel_rfl) rfl [.tmp 6] rfl (by simp) ?_; simp only [bodyOf, Tryz.f145])
        (repeat refine stp ?_)
        (refine RC (hC) ?_)
        (repeat refine stp ?_)
        (refine RC (hM) ?_)
        (repeat refine stp ?_)
        (refine RC (hO) ?_)
        (repeat ((fail_if_success (show Run _ _ (.reg _ (⟨some 73, _, _, _, _, _⟩ :: _) :: _) _)); refine stp ?_))
        refine R1z ?_
        (repeat refine stp ?_)
        (refine RP (.ext 0) (hK) ?_)
        (repeat refine stp ?_)
        exact FZP (.loc 74 0)
      | false =>
        rw [ho] at hO
        simp only [Bool.false_eq_true, if_false]
        clear hK hm ho
        by_cases h0 : (c : Int) = 0
        · rw [if_pos h0]
          have hc0' : c = 0 := by omega
          subst hc0'
          have hN := pskip_den l tNone true
          generalize cutP l tNone = q at *
          clear hc0 h0
          (refine den_walk mix Tryz.func145 rfl (by kernel_rfl) rfl [.tmp 6] rfl (by simp) ?_; simp only [bodyOf, Tryz.f145])
          (repeat refine stp ?_)
          (refine RC (hC) ?_)
          (repeat refine stp ?_)
          (refine RC (hM) ?_)
          (repeat refine stp ?_)
          (refine RC (hO) ?_)
          (repeat refine stp ?_)
          (refine RP (.ext 0) (hN) ?_)
          (repeat ((fail_if_success (show Run _ _ (.reg _ (⟨some 90, _, _, _, _, _⟩ :: _) :: _) _)); refine stp ?_))
          refine R1z ?_
          (repeat refine stp ?_)
          exact FZP (.loc 91 0)
        · rw [if_neg h0]
          have hN := pnum_den l hl true
          rw [Bool.true_and] at hN
          obtain ⟨n1, n2, n3⟩ := readNP_facts l
          generalize readNP l = q at *
          have hT := numbers_den s q.1 (by omega) (by omega) n3
          generalize numbersL s q.1 = N at *
          clear hc0 n3
          cases hb : q.2.2 with
          | true =>
            rw [hb] at hN
            rw [Bool.true_and]
            (refine den_walk mix Tryz.func145 rfl (by kernel_rfl) rfl [.tmp 6] rfl (by simp) ?_; simp only [bodyOf, Tryz.f145])
            (repeat refine stp ?_)
            (refine RC (hC) ?_)
            (repeat refine stp ?_)
            (refine RC (hM) ?_)
            (repeat refine stp ?_)
            (refine RC (hO) ?_)
            (repeat refine stp ?_)
            (refine RP (.ext 0) (hN) ?_)
            (repeat refine stp ?_)
            (refine RC (hT) ?_)
            (repeat refine stp ?_)
            exact FZP (.loc 110 0)
          | false =>
            rw [hb] at hN
            rw [Bool.false_and]
            (refine den_walk mix Tryz.func145 rfl (by kernel_rfl) rfl [.tmp 6] rfl (by simp) ?_; simp only [bodyOf, Tryz.f145])
            (repeat refine stp ?_)
            (refine RC (hC) ?_)
            (repeat refine stp ?_)
            (refine RC (hM) ?_)
            (repeat refine stp ?_)
            (refine RC (hO) ?_)
            (repeat refine stp ?_)
            (refine RP (.ext 0) (hN) ?_)
            (repeat refine stp ?_)
            (refine RC (hT) ?_)
            (repeat refine stp ?_)
            exact FZP (.loc 110 0)
end Go.Proofs.YtpkjiplgpgbheaaGreatDoor.V
namespace Go.Proofs.YtpkjiplgpgbheaaGreatDoor.V
open Go Go.RowKit Go.Proofs Go.Proofs.Ev Go.Proofs.YtpkjiplgpgbheaaGreatDoor Go.Proofs.YtpkjiplgpgbheaaGreatDoor.Sp Go.Proofs.YtpkjiplgpgbheaaGreatDoor.Ba Go.Proofs.YtpkjiplgpgbheaaGreatDoor.Nt
set_option maxHeartbeats 4000000
set_option maxRecDepth 100000
set_option linter.unusedSimpArgs false
set_option linter.unusedVariables false
set_option linter.unusedSectionVars false
theorem side_take (ds : List Sp.Dec) (k : Nat) (x : Sp.Dec) (h : ds[k]? = some x) : sideP (ds.take (k + 1)) = sideP (ds.take k) ++ [(wholeB x).1] ∧ sideB (ds.take (k + 1)) = (sideB (ds.take k) && (wholeB x).2) := by
  rw [List.take_add_one, h]
  simp [sideP, sideB]
theorem parr_step (d : Nat) (hd : d ≤ 15) (hA : 0 < d → ArrDen d) : ArrDen (d + 1) := by
  intro l hl
  have hS := pskip_den l tAlone true
  have hcl := cutP_le l tAlone
  have hdd : ((d : Int) + 1 - 1) = d := by omega
  rw [Int.natCast_add, Int.cast_ofNat_Int]
  unfold arrayP
  cases h1 : (cutP l tAlone).2 with
  | true =>
    rw [h1] at hS
    simp only [if_true]
    generalize (cutP l tAlone).1 = l1 at *
    have hK := kids_arr d (by omega) hA (fun l => (arr_keeps d l).1) 1 (by omega) l1 (by omega) true
    have hkk := (kids_keeps (arr_keeps d) (decide (0 < d)) 1 l1 true).1
    generalize kidsP (arrayP d) (decide (0 < d)) 1 l1 true = q at *
    rw [Int.cast_ofNat_Int] at hK
    have hmap : List.map eN (⟨5, [], [], []⟩ :: q.1) = [PV.int .i64 5, PV.ro [], PV.ro [], PV.ro []] :: q.1.map eN := rfl
    rw [hmap]
    have hall := all_eN q.1
    have hsf := sf_eN q.1
    have h1l : 1 + q.1.length = q.1.length + 1 := Nat.add_comm _ _
    clear h1
    (refine den_walk mix Tryz.func78 rfl (by kernel_rfl) rfl [.tmp 4] rfl (by simp) ?_; simp only [bodyOf, Tryz.f78])
    (repeat refine stp ?_)
    (refine RP (.ext 0) (hS) ?_)
    (repeat ((fail_if_success (show Run _ _ (.reg _ (⟨some 14, _, _, _, _, _⟩ :: _) :: _) _)); refine stp ?_))
    refine R1z ?_
    (repeat refine stp ?_)
    (refine RP (.ext 0) (hK) ?_)
    (repeat refine stp ?_)
    exact FZP (.loc 15 0)
  | false =>
    rw [h1, cutP_no h1] at hS
    simp only [Bool.false_eq_true, if_false]
    clear h1 hcl
    have hN := pnum_den l hl true
    rw [Bool.true_and] at hN
    obtain ⟨n1, n2, n3⟩ := readNP_facts l
    have hIN := fun ok => pitems_den d hd hA [] (by simp) l hl ok
    have hI := pitems_den d hd hA (sideP (readNP l).1) (by rw [(side_I _).2]; omega) (cutP (readNP l).2.1 tReach).1 (by have := cutP_le (readNP l).2.1 tReach; omega) (sideB (readNP l).1)
    generalize readNP l = q at *
    have hRS := pskip_den q.2.1 tReach true
    have hno := @cutP_no q.2.1 tReach
    have hIz : Den Tryz.prog 145 [.ptr (.ext 0) 0 0 0, .nils, .int .i64 (d + 1)] [psC l true] (.ro ((itemsP (arrayP d) (decide (0 < d)) [] l true).1.map eN)) [] [psC (itemsP (arrayP d) (decide (0 < d)) [] l true).2.1 (itemsP (arrayP d) (decide (0 < d)) [] l true).2.2] := Den_nz (hIN true)
    clear hIN
    generalize itemsP (arrayP d) (decide (0 < d)) [] l true = qz at *
    cases hb : q.2.2 with
    | false =>
      rw [hb] at hN
      simp only [Bool.false_and, Bool.false_eq_true, if_false]
      clear hI hRS hno n3
      (refine den_walk mix Tryz.func78 rfl (by kernel_rfl) rfl [.tmp 4] rfl (by simp) ?_; simp only [bodyOf, Tryz.f78])
      (repeat refine stp ?_)
      (refine RP (.ext 0) (hS) ?_)
      (repeat refine stp ?_)
      (refine RP (.loc 5 0) (hN) ?_)
      (repeat refine stp ?_)
      (refine RP (.ext 0) (hIz) ?_)
      (repeat refine stp ?_)
      exact FP
    | true =>
      rw [hb] at hN
      rw [Bool.true_and]
      cases hr : (cutP q.2.1 tReach).2 with
      | false =>
        rw [hr] at hRS
        simp only [Bool.false_eq_true, if_false]
        clear hI hno n3 hr
        (refine den_walk mix Tryz.func78 rfl (by kernel_rfl) rfl [.tmp 4] rfl (by simp) ?_; simp only [bodyOf, Tryz.f78])
        (repeat refine stp ?_)
        (refine RP (.ext 0) (hS) ?_)
        (repeat refine stp ?_)
        (refine RP (.loc 5 0) (hN) ?_)
        (repeat refine stp ?_)
        (refine RP (.loc 5 0) (hRS) ?_)
        (repeat refine stp ?_)
        (refine RP (.ext 0) (hIz) ?_)
        (repeat refine stp ?_)
        exact FP
      | true =>
        rw [hr] at hRS
        simp only [if_true]
        generalize (cutP q.2.1 tReach).1 = l2 at *
        clear hIz qz hno hr hb
        obtain ⟨R, hR⟩ : ∃ R, itemsP (arrayP d) (decide (0 < d)) (sideP q.1) l2 (sideB q.1) = R := ⟨_, rfl⟩
        rw [hR] at hI ⊢
        clear hR
        (refine den_walk mix Tryz.func78 rfl (by kernel_rfl) rfl [.tmp 4] rfl (by simp) ?_; simp only [bodyOf, Tryz.f78])
        (repeat refine stp ?_)
        (refine RP (.ext 0) (hS) ?_)
        (repeat refine stp ?_)
        (refine RP (.loc 5 0) (hN) ?_)
        (repeat refine stp ?_)
        (refine RP (.loc 5 0) (hRS) ?_)
        (repeat refine stp ?_)
        refine Run_loop (fun m σ => ∃ (k v : Nat), σ.t 0 = .ptr (.ext 0) 0 0 0 ∧ σ.t 1 = .int .i64 (d + 1) ∧ σ.t 33 = .ro (q.1.map eD) ∧ σ.t 34 = .int .i64 q.1.length ∧ σ.t 35 = .int .i64 k ∧ σ.t 7 = .own (.loc 7 0) v k ∧ σ.m (.loc 7 0) = ⟨v, some (.rows true 3 1 ((sideP (q.1.take k)).map eI))⟩ ∧ σ.m (.ext 0) = ⟨0, some (psC l2 (sideB (q.1.take k)))⟩ ∧ m + k = q.1.length) q.1.length ?_ ?_
        · exact ⟨0, _, rd, rd, rd, rd, rd, rd, rdm, rdm, by omega⟩
        rintro m σ ⟨k, v, h0, h1, h33, h34, h35, h7, hm, hp, hk⟩
        by_cases hk1 : k < q.1.length
        · obtain ⟨x, hs⟩ : ∃ x, q.1[k]? = some x := ⟨_, List.getElem?_eq_getElem hk1⟩
          have hW := whole_den x (n3 x (List.mem_of_getElem? hs))
          obtain ⟨s1, s2⟩ := side_take q.1 k x hs
          have hlen : (sideP (q.1.take k)).length = k := by simp [sideP]; omega
          have htk : ((sideP (q.1.take k)).map eI).take k = (sideP (q.1.take k)).map eI := List.take_of_length_le (by rw [List.length_map]; omega)
          have hle : k ≤ (sideP (q.1.take k)).length := by omega
          generalize sideP (q.1.take k) = sp at *
          generalize sideB (q.1.take k) = sb at *
          generalize wholeB x = W at *
          replace s1 := Asd.mk s1
          replace s2 := Asd.mk s2
          clear hlen
          cases sb with
          | true =>
            (repeat refine stp ?_)
            (refine RC (hW) ?_)
            (repeat refine stp ?_)
            exact ⟨m - 1, by omega, k + 1, _, rd, rd, rd, rd, rd, rd, (by rw [s1.out]; simp only [List.map_append, List.map_cons, List.map_nil]; exact rdm), (by rw [s2.out, Bool.true_and]; exact rdm), by omega⟩
          | false =>
            (repeat refine stp ?_)
            (refine RC (hW) ?_)
            (repeat refine stp ?_)
            exact ⟨m - 1, by omega, k + 1, _, rd, rd, rd, rd, rd, rd, (by rw [s1.out]; simp only [List.map_append, List.map_cons, List.map_nil]; exact rdm), (by rw [s2.out, Bool.false_and]; exact rdm), by omega⟩
        · have hke : k = q.1.length := by omega
          subst hke
          rw [List.take_length] at hm hp
          have hln : (sideP q.1).length = q.1.length := (side_I q.1).2
          have htk : ((sideP q.1).map eI).take q.1.length = (sideP q.1).map eI := List.take_of_length_le (by simp [sideP])
          have hle : q.1.length ≤ (sideP q.1).length := by omega
          clear hk1 hk n3
          generalize sideP q.1 = sp at *
          generalize sideB q.1 = sb at *
          (repeat ((fail_if_success (show Run _ _ (.reg _ (⟨some 62, _, _, _, _, _⟩ :: _) :: _) _)); refine stp ?_))
          refine RZ (.loc 7 0) ?_
          (refine RP (.ext 0) (hI) ?_)
          (repeat refine stp ?_)
          exact FP
theorem parr_den : ∀ d : Nat, d ≤ 16 → 0 < d → ArrDen d
  | 0, _, h => by omega
  | d + 1, hd, _ => parr_step d (by omega) (fun h => parr_den d (by omega) h)
end Go.Proofs.YtpkjiplgpgbheaaGreatDoor.V
namespace Go.Proofs.YtpkjiplgpgbheaaGreatDoor.V
open Go Go.RowKit Go.Proofs Go.Proofs.Ev Go.Proofs.YtpkjiplgpgbheaaGreatDoor Go.Proofs.YtpkjiplgpgbheaaGreatDoor.Sp Go.Proofs.YtpkjiplgpgbheaaGreatDoor.Dm Go.Proofs.YtpkjiplgpgbheaaGreatDoor.Ba Go.Proofs.YtpkjiplgpgbheaaGreatDoor.De Go.Proofs.YtpkjiplgpgbheaaGreatDoor.NuP Go.Proofs.YtpkjiplgpgbheaaGreatDoor.Nt
set_option maxHeartbeats 4000000
set_option maxRecDepth 100000
set_option linter.unusedSimpArgs false
set_option linter.unusedVariables false
theorem ok_items : ∀ f : Fo, f.ok → ∀ x ∈ f.flat, 0 ≤ items x
  | .nil, _, x, h => by cases h
  | .node n k s, h, x, hx => by
    simp only [Fo.flat, List.mem_cons, List.mem_append] at hx
    rcases hx with rfl | hx | hx
    · exact h.1
    · exact ok_items k h.2.2.2.1 x hx
    · exact ok_items s h.2.2.2.2 x hx
theorem items_small {n : Nd} (h : 0 ≤ items n) : n.f1.length ≤ 16 ∧ n.f2.length ≤ 1048576 ∧ n.f3.length ≤ 1048576 := by
  have hc := cnt_le n.f1
  unfold items at h
  split at h
  · simp at h
  rename_i hk
  have hl : n.f1.length ≤ 16 := by
    refine Nat.le_of_not_lt fun hl => hk ?_
    unfold cnt
    rw [if_pos hl]
  split at h
  · simp at h
  · rename_i i d hw
    split at h
    · simp at h
    rename_i hi
    split at h
    · simp at h
    rename_i hd
    simp only [ne_eq, Decidable.not_not] at hi hd
    unfold wants at hw
    split at hw
    · cases hw; exact ⟨hl, by omega, by omega⟩
    · split at hw
      · cases hw; exact ⟨hl, by omega, by omega⟩
      · split at hw
        · cases hw; exact ⟨hl, by omega, by omega⟩
        · cases hw
theorem small_of {n : Nd} (hw : wfN n) (h : 0 ≤ items n) : smN n := by
  obtain ⟨h1, h2, h3⟩ := items_small h
  exact ⟨hw, by omega, by omega, by omega⟩
theorem head_le {n : Nd} (h : smN n) (h0 : 0 ≤ items n) : (headN n).length ≤ 360 := by
  have hj := join_len 21 (n.f1.map numL) (fun t ht => by obtain ⟨x, hx, rfl⟩ := List.mem_map.1 ht; exact numL_len (h.1.s x hx))
  rw [List.length_map] at hj
  have := (items_small h0).1
  unfold headN
  split
  · rw [List.length_append]
    unfold intsL
    simp only [List.length_cons, List.length_nil]
    omega
  · split <;> simp
theorem value_le {n : Nd} (h : smN n) (h0 : 0 ≤ items n) : (valueN n).length ≤ 47000000 := by
  have hj := join_len 21 (n.f2.map numL) (fun t ht => by obtain ⟨x, hx, rfl⟩ := List.mem_map.1 ht; exact numL_len (h.1.i x hx))
  have hj2 := join_len 43 (n.f3.map textS) (fun t ht => by obtain ⟨x, hx, rfl⟩ := List.mem_map.1 ht; exact textL_len (h.1.d x hx).1 (h.1.d x hx).2)
  rw [List.length_map] at hj hj2
  obtain ⟨_, h2, h3⟩ := items_small h0
  have hq := qtext_le n.f2
  unfold valueN
  split
  · unfold textQ
    split
    · rw [ba_data, List.length_cons, List.length_append]
      simp only [List.length_cons, List.length_nil]
      omega
    · simp
  · split
    · unfold decsL
      split
      · omega
      · simp
    · split
      · simp
      · unfold intsL
        omega
theorem kids_le : ∀ f : Fo, f.ok → (∀ x ∈ f.flat, wfN x) → (kidsF f).length ≤ 48000000 * f.flat.length
  | .nil, _, _ => by simp [kidsF]
  | .node n k s, h, hw => by
    have hn := small_of (hw n (by simp [Fo.flat])) h.1
    have h1 := head_le hn h.1
    have h2 := value_le hn h.1
    have h3 := kids_le k h.2.2.2.1 (fun x hx => hw x (by simp [Fo.flat, hx]))
    have h4 := kids_le s h.2.2.2.2 (fun x hx => hw x (by simp [Fo.flat, hx]))
    rw [kidsF_node]
    unfold textT
    simp only [List.length_cons, List.length_append, Fo.flat]
    split <;> omega
theorem tight_tree {a : List Nd} (hw : ∀ x ∈ a, wfN x) (h : tightR a = true) : ∃ n k, a = n :: k.flat ∧ (Fo.node n k .nil).ok := by
  have h1 := tightR_iff.1 h
  obtain ⟨n, k, m, q, rfl, h2, _⟩ := make_tree hw (makeL_right (by rw [h1]))
  exact ⟨n, k, rfl, h2⟩
open Classical in
/-- An array's notation. -/
noncomputable def textB (a : List Nd) : ByteArray := if h : tightR a = true ∧ ∃ n k, a = n :: k.flat ∧ (Fo.node n k .nil).ok then ba (textT h.2.choose h.2.choose_spec.choose) else e0
theorem text_den (a : List Nd) (ha : a.length ≤ 1048576) (hw : ∀ x ∈ a, wfN x) : Den Tryz.prog 34 [.ro (a.map eN)] [] (.str (textB a)) [] [] := by
  cases ht : tightR a with
  | false =>
    have e : textB a = e0 := dif_neg (fun h => by rw [h.1] at ht; cases ht)
    rw [e]
    exact text_no a ha hw ht
  | true =>
    have h : tightR a = true ∧ ∃ n k, a = n :: k.flat ∧ (Fo.node n k .nil).ok := ⟨ht, tight_tree hw ht⟩
    have e : textB a = ba (textT h.2.choose h.2.choose_spec.choose) := dif_pos h
    rw [e]
    obtain ⟨h1, h2⟩ := h.2.choose_spec.choose_spec
    generalize h.2.choose_spec.choose = k at *
    generalize h.2.choose = n at *
    subst h1
    have hit := ok_items _ h2
    have hl := kids_le _ h2 (fun x hx => hw x (by simpa [Fo.flat] using hx))
    rw [kidsF_node] at hl
    simp only [List.length_cons, List.length_append, Fo.flat, List.append_nil] at hl ha
    exact text_yes n k ht h2 (fun x hx => small_of (hw x hx) (hit x (by simpa [Fo.flat] using hx))) (by omega) (by omega)
end Go.Proofs.YtpkjiplgpgbheaaGreatDoor.V
namespace Go.Proofs.YtpkjiplgpgbheaaGreatDoor.V
open Go Go.RowKit Go.Proofs Go.Proofs.Ev Go.Proofs.YtpkjiplgpgbheaaGreatDoor Go.Proofs.YtpkjiplgpgbheaaGreatDoor.Sp Go.Proofs.YtpkjiplgpgbheaaGreatDoor.Dm Go.Proofs.YtpkjiplgpgbheaaGreatDoor.Ba Go.Proofs.YtpkjiplgpgbheaaGreatDoor.De Go.Proofs.YtpkjiplgpgbheaaGreatDoor.NuP Go.Proofs.YtpkjiplgpgbheaaGreatDoor.Nt
set_option maxHeartbeats 4000000
set_option maxRecDepth 100000
set_option linter.unusedSimpArgs false
set_option linter.unusedVariables false
/-- Whether it is a notation, and of what. -/
noncomputable def parseN (s : ByteArray) : Bool := (arrayP 16 s).2.2 && (Sp.seq (arrayP 16 s).2.1 e0 && Sp.seq (textB (arrayP 16 s).1) s)
theorem parse_no (s : ByteArray) (hs : s.size ≤ 1000000) (h : parseN s = false) : Den Tryz.prog 32 [.str s] [] (.tup [.ro [], .bool false]) [] [] := by
  have hA := parr_den 16 (Nat.le_refl _) (by decide) s hs
  obtain ⟨k1, k2⟩ := arr_keeps 16 s
  have hT := text_den (arrayP 16 s).1 (by omega) (k2 hs)
  unfold parseN at h
  generalize textB (arrayP 16 s).1 = t at *
  generalize arrayP 16 s = R at *
  clear k1 k2
  cases hb : R.2.2 with
  | false =>
    rw [hb] at hA
    clear h hT
    (refine den_walk mix Tryz.func32 rfl (by kernel_rfl) rfl [.tmp 2, .tmp 3] rfl (by simp) ?_; simp only [bodyOf, Tryz.f32])
    (repeat refine stp ?_)
    (refine RP (.loc 8 0) (hA) ?_)
    (repeat refine stp ?_)
    exact FZ (.loc 2 0)
  | true =>
    rw [hb] at hA h
    rw [Bool.true_and] at h
    cases hl : Sp.seq R.2.1 e0 with
    | false =>
      clear h hT
      (refine den_walk mix Tryz.func32 rfl (by kernel_rfl) rfl [.tmp 2, .tmp 3] rfl (by simp) ?_; simp only [bodyOf, Tryz.f32])
      (repeat refine stp ?_)
      (refine RP (.loc 8 0) (hA) ?_)
      (repeat refine stp ?_)
      exact FZ (.loc 2 0)
    | true =>
      rw [hl, Bool.true_and] at h
      (refine den_walk mix Tryz.func32 rfl (by kernel_rfl) rfl [.tmp 2, .tmp 3] rfl (by simp) ?_; simp only [bodyOf, Tryz.f32])
      (repeat refine stp ?_)
      (refine RP (.loc 8 0) (hA) ?_)
      (repeat refine stp ?_)
      (refine RC (hT) ?_)
      (repeat refine stp ?_)
      exact FZ (.loc 2 0)
theorem parse_yes (s : ByteArray) (hs : s.size ≤ 1000000) (h : parseN s = true) : Den Tryz.prog 32 [.str s] [] (.tup [.ro ((arrayP 16 s).1.map eN), .bool true]) [] [] := by
  have hA := parr_den 16 (Nat.le_refl _) (by decide) s hs
  obtain ⟨k1, k2⟩ := arr_keeps 16 s
  have hT := text_den (arrayP 16 s).1 (by omega) (k2 hs)
  unfold parseN at h
  generalize textB (arrayP 16 s).1 = t at *
  generalize arrayP 16 s = R at *
  clear k1 k2
  simp only [Bool.and_eq_true] at h
  obtain ⟨hb, hl, ht⟩ := h
  rw [hb] at hA
  (refine den_walk mix Tryz.func32 rfl (by kernel_rfl) rfl [.tmp 2, .tmp 3] rfl (by simp) ?_; simp only [bodyOf, Tryz.f32])
  (repeat refine stp ?_)
  (refine RP (.loc 8 0) (hA) ?_)
  (repeat refine stp ?_)
  (refine RC (hT) ?_)
  (repeat refine stp ?_)
  exact FE
end Go.Proofs.YtpkjiplgpgbheaaGreatDoor.V
namespace Go.Proofs.YtpkjiplgpgbheaaGreatDoor.V
open Go Go.RowKit Go.Proofs Go.Proofs.Ev Go.Proofs.YtpkjiplgpgbheaaGreatDoor Go.Proofs.YtpkjiplgpgbheaaGreatDoor.Sp Go.Proofs.YtpkjiplgpgbheaaGreatDoor.Dm Go.Proofs.YtpkjiplgpgbheaaGreatDoor.Ba Go.Proofs.YtpkjiplgpgbheaaGreatDoor.De Go.Proofs.YtpkjiplgpgbheaaGreatDoor.NuP Go.Proofs.YtpkjiplgpgbheaaGreatDoor.Nt
set_option linter.unusedSimpArgs false
set_option linter.unusedVariables false
theorem flat_inj : ∀ (f g : Fo) (r r' : List Nd), f.ok → g.ok → f.len = g.len → f.flat ++ r = g.flat ++ r' → f = g ∧ r = r'
  | .nil, .nil, r, r', _, _, _, h => ⟨rfl, h⟩
  | .nil, .node _ _ _, _, _, _, _, h, _ => by simp [Fo.len] at h
  | .node _ _ _, .nil, _, _, _, _, h, _ => by simp [Fo.len] at h
  | .node n k s, .node m q t, r, r', hf, hg, hl, h => by
    simp only [Fo.flat, List.cons_append, List.cons.injEq, List.append_assoc] at h
    obtain ⟨rfl, h⟩ := h
    have hkl : k.len = q.len := by
      by_cases h5 : n.f0 = 5
      · have h1 := hf.2.1 h5
        have h2 := hg.2.1 h5
        omega
      · rw [hf.2.2.1 h5, hg.2.2.1 h5]
    obtain ⟨rfl, h2⟩ := flat_inj k q _ _ hf.2.2.2.1 hg.2.2.2.1 hkl h
    obtain ⟨rfl, h3⟩ := flat_inj s t _ _ hf.2.2.2.2 hg.2.2.2.2 (by simp only [Fo.len] at hl; omega) h2
    exact ⟨rfl, h3⟩
theorem textB_of {n : Nd} {k : Fo} (hok : (Fo.node n k .nil).ok) (ht : tightR (n :: k.flat) = true) : textB (n :: k.flat) = ba (textT n k) := by
  have h : tightR (n :: k.flat) = true ∧ ∃ m q, n :: k.flat = m :: q.flat ∧ (Fo.node m q .nil).ok := ⟨ht, n, k, rfl, hok⟩
  have e : textB (n :: k.flat) = ba (textT h.2.choose h.2.choose_spec.choose) := dif_pos h
  rw [e]
  obtain ⟨h1, h2⟩ := h.2.choose_spec.choose_spec
  generalize h.2.choose_spec.choose = q at *
  generalize h.2.choose = m at *
  have := (flat_inj (.node n k .nil) (.node m q .nil) [] [] hok h2 rfl (by simpa [Fo.flat] using h1)).1
  injection this with e1 e2
  rw [e1, e2]
theorem textB_not {a : List Nd} (h : tightR a = false) : textB a = e0 := dif_neg (fun q => by rw [q.1] at h; cases h)
theorem arr_none : (arrayP 16 e0).2.2 = false := by kernel_rfl
theorem parseN_iff {s : ByteArray} : parseN s = true ↔ (arrayP 16 s).2.2 = true ∧ (arrayP 16 s).2.1 = e0 ∧ textB (arrayP 16 s).1 = s := by
  unfold parseN
  rw [Bool.and_eq_true, Bool.and_eq_true, seq_iff, seq_iff]
theorem parseN_no {s : ByteArray} (h : (arrayP 16 s).2.2 = false) : parseN s = false := by
  unfold parseN
  rw [h, Bool.false_and]
theorem parseN_of {s : ByteArray} {a : List Nd} (h : arrayP 16 s = (a, e0, true)) (ht : textB a = s) : parseN s = true := by
  rw [parseN_iff, h]
  exact ⟨rfl, rfl, ht⟩
theorem parseN_other {s : ByteArray} {a : List Nd} (h : arrayP 16 s = (a, e0, true)) (ht : textB a ≠ s) : parseN s = false := by
  cases hp : parseN s with
  | false => rfl
  | true =>
    rw [parseN_iff, h] at hp
    exact absurd hp.2.2 ht
/-- What is read is tight, and its notation is what was read. -/
theorem once {s : ByteArray} (h : parseN s = true) : tightR (arrayP 16 s).1 = true ∧ textB (arrayP 16 s).1 = s := by
  obtain ⟨h1, h2, h3⟩ := parseN_iff.1 h
  refine ⟨?_, h3⟩
  cases ht : tightR (arrayP 16 s).1 with
  | true => rfl
  | false =>
    rw [textB_not ht] at h3
    rw [← h3, arr_none] at h1
    cases h1
end Go.Proofs.YtpkjiplgpgbheaaGreatDoor.V
namespace Go.Proofs.YtpkjiplgpgbheaaGreatDoor.V
open Go Go.RowKit Go.Proofs Go.Proofs.Ev Go.Proofs.YtpkjiplgpgbheaaGreatDoor Go.Proofs.YtpkjiplgpgbheaaGreatDoor.Sp Go.Proofs.YtpkjiplgpgbheaaGreatDoor.Ba
set_option maxHeartbeats 4000000
set_option maxRecDepth 100000
set_option linter.unusedSimpArgs false
set_option linter.unusedVariables false
theorem same01_den (a b : List Int) (ha : a.length ≤ 140737488351232) (hb : b.length ≤ 140737488351232) : Den Tryz.prog 156 [.ro (a.map eI), .ro (b.map eI)] [] (.bool (same pI a b)) [] [] := by
  (refine den_walk mix Tryz.func156 rfl (by kernel_rfl) rfl [.tmp 4] rfl (by simp) ?_; simp only [bodyOf, Tryz.f156])
  unfold same
  by_cases hl : a.length = b.length
  · rw [decide_eq_true hl, Bool.true_and]
    (repeat refine stp ?_)
    refine Run_loop (fun m σ => ∃ k : Nat, σ.t 0 = .ro (a.map eI) ∧ σ.t 1 = .ro (b.map eI) ∧ σ.t 5 = .int .i64 k ∧ m = a.length - k ∧ eqBy pI (a.drop k) (b.drop k) = eqBy pI a b ∧ k ≤ a.length) a.length ?_ ?_
    · exact ⟨0, rd, rd, rd, rfl, rfl, by omega⟩
    · rintro m σ ⟨k, h0, h1, h5, rfl, hr, hk⟩
      by_cases hk1 : k < a.length
      · obtain ⟨x, hx⟩ : ∃ x, a[k]? = some x := ⟨_, List.getElem?_eq_getElem hk1⟩
        obtain ⟨y, hy⟩ : ∃ y, b[k]? = some y := ⟨_, List.getElem?_eq_getElem (by omega)⟩
        rw [drop_get hx, drop_get hy, eqBy] at hr
        by_cases c0 : x = y
        · have e : pI x y = true := by simp [pI, c0]
          rw [e, Bool.true_and] at hr
          clear e
          replace hr := Asd.mk hr
          (repeat refine stp ?_)
          exact ⟨_, by omega, k + 1, rd, rd, rd, rfl, hr.out, by omega⟩
        · have e : pI x y = false := by simpa [pI] using c0
          rw [e, Bool.false_and] at hr
          clear e
          rw [← hr]
          clear hr
          (repeat refine stp ?_)
          exact FE
      · have hke : k = a.length := by omega
        subst hke
        rw [List.drop_length, eqBy] at hr
        rw [← hr]
        clear hr
        (repeat refine stp ?_)
        exact FE
        intros; simp_all
  · rw [decide_eq_false hl, Bool.false_and]
    (repeat refine stp ?_)
    exact FE
def pM (x y : Sp.Nd) : Bool := same pD x.f3 y.f3 && (x.f0 == y.f0 && (same pI x.f1 y.f1 && same pI x.f2 y.f2))
theorem dec_ne {x y : Sp.Dec} (h : ¬ x = y) : (x.f0 == y.f0 && x.f1 == y.f1) = false := by
  obtain ⟨a, b⟩ := x
  obtain ⟨c, d⟩ := y
  simp only [Sp.Dec.mk.injEq, not_and] at h
  rw [Bool.and_eq_false_iff]
  by_cases q : a = c
  · exact .inr (by simpa using h q)
  · exact .inl (by simpa using q)
theorem one10_den (x y : Sp.Nd) (hx : wfN x) (hy : wfN y) : Den Tryz.prog 84 [.agg (eN x), .agg (eN y)] [] (.bool (pM x y)) [] [] := by
  obtain ⟨_, _, _, _, a1, a2, a3⟩ := hx
  obtain ⟨_, _, _, _, b1, b2, b3⟩ := hy
  have hS1 := same01_den x.f1 y.f1 (by omega) (by omega)
  have hS2 := same01_den x.f2 y.f2 (by omega) (by omega)
  unfold pM
  generalize same pI x.f1 y.f1 = s1 at *
  generalize same pI x.f2 y.f2 = s2 at *
  (refine den_walk mix Tryz.func84 rfl (by kernel_rfl) rfl [.tmp 4] rfl (by simp) ?_; simp only [bodyOf, Tryz.f84])
  unfold same
  by_cases hl : x.f3.length = y.f3.length
  · rw [decide_eq_true hl, Bool.true_and]
    (repeat refine stp ?_)
    refine Run_loop (fun m σ => ∃ k : Nat, σ.t 2 = .ptr (.loc 2 0) 1 0 0 ∧ σ.t 3 = .ptr (.loc 3 0) 1 0 0 ∧ σ.m (.loc 2 0) = ⟨1, some (.rows false 63 4 [eN x])⟩ ∧ σ.m (.loc 3 0) = ⟨1, some (.rows false 63 4 [eN y])⟩ ∧ σ.t 5 = .int .i64 k ∧ m = x.f3.length - k ∧ eqBy pD (x.f3.drop k) (y.f3.drop k) = eqBy pD x.f3 y.f3 ∧ k ≤ x.f3.length) x.f3.length ?_ ?_
    · exact ⟨0, rd, rd, rdm, rdm, rd, rfl, rfl, by omega⟩
    · rintro m σ ⟨k, h2, h3, m2, m3, h5, rfl, hr, hk⟩
      by_cases hk1 : k < x.f3.length
      · obtain ⟨d, hd⟩ : ∃ d, x.f3[k]? = some d := ⟨_, List.getElem?_eq_getElem hk1⟩
        obtain ⟨e, he⟩ : ∃ e, y.f3[k]? = some e := ⟨_, List.getElem?_eq_getElem (by omega)⟩
        rw [drop_get hd, drop_get he, eqBy] at hr
        by_cases c0 : d = e
        · subst c0
          have hp : pD d d = true := by simp [pD]
          rw [hp, Bool.true_and] at hr
          clear hp
          have e0 : (d.f0 == d.f0) = true := by simp
          have e1 : (d.f1 == d.f1) = true := by simp
          replace hr := Asd.mk hr
          (repeat refine stp ?_)
          exact ⟨_, by omega, k + 1, rd, rd, rdm, rdm, rd, rfl, hr.out, by omega⟩
        · have hp : pD d e = false := dec_ne c0
          rw [hp, Bool.false_and] at hr
          rw [← hr, Bool.false_and]
          unfold pD at hp
          clear hr c0 hS1 hS2
          cases q0 : (d.f0 == e.f0) with
          | false =>
            (repeat refine stp ?_)
            exact FE
          | true =>
            have q1 : (d.f1 == e.f1) = false := by rw [q0, Bool.true_and] at hp; exact hp
            clear hp
            (repeat refine stp ?_)
            exact FE
      · have hke : k = x.f3.length := by omega
        subst hke
        rw [List.drop_length] at hr
        have hr2 : eqBy pD x.f3 y.f3 = true := by
          rw [← hr, List.drop_of_length_le (by omega)]
          rfl
        rw [hr2, Bool.true_and]
        clear hr hr2
        cases q0 : (x.f0 == y.f0) with
        | false =>
          (repeat refine stp ?_)
          exact FE
        | true =>
          rw [Bool.true_and]
          cases s1 with
          | false =>
            (repeat refine stp ?_)
            (refine RC (hS1) ?_)
            (repeat refine stp ?_)
            exact FE
          | true =>
            rw [Bool.true_and]
            (repeat refine stp ?_)
            (refine RC (hS1) ?_)
            (repeat refine stp ?_)
            (refine RC (hS2) ?_)
            (repeat refine stp ?_)
            exact FE
  · rw [decide_eq_false hl, Bool.false_and, Bool.false_and]
    (repeat refine stp ?_)
    exact FE
theorem same10_den (a b : List Sp.Nd) (ha : a.length ≤ 140737488351232) (hb : b.length ≤ 140737488351232) (hwa : ∀ n ∈ a, wfN n) (hwb : ∀ n ∈ b, wfN n) : Den Tryz.prog 36 [.ro (a.map eN), .ro (b.map eN)] [] (.bool (same pM a b)) [] [] := by
  (refine den_walk mix Tryz.func36 rfl (by kernel_rfl) rfl [.tmp 4] rfl (by simp) ?_; simp only [bodyOf, Tryz.f36])
  unfold same
  by_cases hl : a.length = b.length
  · rw [decide_eq_true hl, Bool.true_and]
    (repeat refine stp ?_)
    refine Run_loop (fun m σ => ∃ k : Nat, σ.t 0 = .ro (a.map eN) ∧ σ.t 1 = .ro (b.map eN) ∧ σ.t 5 = .int .i64 k ∧ m = a.length - k ∧ eqBy pM (a.drop k) (b.drop k) = eqBy pM a b ∧ k ≤ a.length) a.length ?_ ?_
    · exact ⟨0, rd, rd, rd, rfl, rfl, by omega⟩
    · rintro m σ ⟨k, h0, h1, h5, rfl, hr, hk⟩
      by_cases hk1 : k < a.length
      · obtain ⟨x, hx⟩ : ∃ x, a[k]? = some x := ⟨_, List.getElem?_eq_getElem hk1⟩
        obtain ⟨y, hy⟩ : ∃ y, b[k]? = some y := ⟨_, List.getElem?_eq_getElem (by omega)⟩
        rw [drop_get hx, drop_get hy, eqBy] at hr
        have hO := one10_den x y (hwa x (List.mem_of_getElem? hx)) (hwb y (List.mem_of_getElem? hy))
        replace hr := Asd.mk hr
        (repeat refine stp ?_)
        (refine DC (hO) ?_)
        cases c0 : pM x y with
        | true =>
          (repeat refine stp ?_)
          exact ⟨_, by omega, k + 1, rd, rd, rd, rfl, by rw [← hr.out, c0, Bool.true_and], by omega⟩
        | false =>
          have hr := hr.out
          rw [c0, Bool.false_and] at hr
          rw [← hr]
          clear hr
          (repeat refine stp ?_)
          exact FE
      · have hke : k = a.length := by omega
        subst hke
        rw [List.drop_length, eqBy] at hr
        rw [← hr]
        clear hr
        (repeat refine stp ?_)
        exact FE
        intros; simp_all
  · rw [decide_eq_false hl, Bool.false_and]
    (repeat refine stp ?_)
    exact FE
end Go.Proofs.YtpkjiplgpgbheaaGreatDoor.V
namespace Go.Proofs.YtpkjiplgpgbheaaGreatDoor.V
open Go Go.RowKit Go.Proofs Go.Proofs.Ev Go.Proofs.YtpkjiplgpgbheaaGreatDoor Go.Proofs.YtpkjiplgpgbheaaGreatDoor.Sp Go.Proofs.YtpkjiplgpgbheaaGreatDoor.Dm Go.Proofs.YtpkjiplgpgbheaaGreatDoor.Ba Go.Proofs.YtpkjiplgpgbheaaGreatDoor.De Go.Proofs.YtpkjiplgpgbheaaGreatDoor.NuP Go.Proofs.YtpkjiplgpgbheaaGreatDoor.Nt
set_option maxHeartbeats 4000000
set_option maxRecDepth 100000
set_option linter.unusedSimpArgs false
set_option linter.unusedVariables false
theorem pD_eq (x y : Sp.Dec) : pD x y = true ↔ x = y := by
  obtain ⟨a, b⟩ := x
  obtain ⟨c, d⟩ := y
  simp [pD]
theorem pI_eq (x y : Int) : pI x y = true ↔ x = y := by simp [pI]
theorem pM_eq (x y : Sp.Nd) : pM x y = true ↔ x = y := by
  obtain ⟨a0, a1, a2, a3⟩ := x
  obtain ⟨b0, b1, b2, b3⟩ := y
  unfold pM
  simp only [Bool.and_eq_true, same_iff pD_eq, same_iff pI_eq, beq_iff_eq, Sp.Nd.mk.injEq]
  constructor
  · rintro ⟨h1, h2, h3, h4⟩; exact ⟨h2, h3, h4, h1⟩
  · rintro ⟨h1, h2, h3, h4⟩; exact ⟨h4, h1, h2, h3⟩
theorem same10_iff (a b : List Sp.Nd) : same pM a b = true ↔ a = b := same_iff pM_eq a b
theorem tight_of {n : Nd} {k : Fo} (h : (Fo.node n k .nil).ok) (ht : (Fo.node n k .nil).tot ≤ 1048576) (hd : (Fo.node n k .nil).dep ≤ 16) (e : form n k = n :: k.flat) : tightR (n :: k.flat) = true := by
  rw [tightR_iff, makeL_of n k h ht hd, e]
theorem tight_no {n : Nd} {k : Fo} (h : (Fo.node n k .nil).ok) (ht : (Fo.node n k .nil).tot ≤ 1048576) (hd : (Fo.node n k .nil).dep ≤ 16) (e : form n k ≠ n :: k.flat) : tightR (n :: k.flat) = false := by
  cases q : tightR (n :: k.flat) with
  | false => rfl
  | true =>
    rw [tightR_iff, makeL_of n k h ht hd] at q
    exact absurd (congrArg Prod.fst q) e
abbrev sAB : Nd := ⟨3, [2], [97, 98], []⟩
abbrev sTh : Nd := ⟨2, [], [3], []⟩
abbrev sR : Nd := ⟨5, [2], [], []⟩
abbrev sQ : Nd := ⟨5, [], [], []⟩
abbrev sO : Nd := ⟨1, [], [1], []⟩
abbrev sE : Nd := ⟨3, [0, 2], [], []⟩
abbrev sD : Nd := ⟨4, [], [], [⟨-15, -1⟩]⟩
abbrev sW : Nd := ⟨2, [0], [], []⟩
abbrev sU : Nd := ⟨2, [], [1], []⟩
abbrev sC : Nd := ⟨3, [], [97], []⟩
abbrev tx1 : ByteArray := ⟨#[50, 226, 141, 180, 40, 50, 226, 141, 180, 39, 97, 98, 39, 41, 40, 51, 41]⟩
abbrev tx2 : ByteArray := ⟨#[48, 32, 50, 226, 141, 180, 39, 39]⟩
abbrev tx3 : ByteArray := ⟨#[50, 226, 141, 180, 40, 49, 41, 40, 51, 41]⟩
abbrev tx4 : ByteArray := ⟨#[49, 226, 141, 180, 51, 32, 52]⟩
abbrev tx5 : ByteArray := ⟨#[51, 32, 52]⟩
abbrev tx6 : ByteArray := ⟨#[226, 138, 130, 40, 50, 226, 141, 180, 39, 97, 98, 39, 41]⟩
abbrev tx7 : ByteArray := ⟨#[194, 175, 49, 53, 69, 194, 175, 49]⟩
abbrev tx9 : ByteArray := ⟨#[226, 138, 130, 40, 51, 41]⟩
abbrev txW : ByteArray := ⟨#[48, 226, 141, 180, 48]⟩
abbrev txC : ByteArray := ⟨#[39, 97, 39]⟩
theorem leaf_ok {n : Nd} (h : items n = 1 ∨ items n = 2 ∨ items n = 0) (h5 : n.f0 ≠ 5) {s : Fo} (hs : s.ok) : (Fo.node n .nil s).ok := ⟨by omega, fun e => absurd e h5, fun _ => rfl, trivial, hs⟩
theorem ok1 : (Fo.node sR (.node sAB .nil (.node sTh .nil .nil)) .nil).ok := ⟨by decide +kernel, fun _ => by decide +kernel, fun h => absurd rfl h, leaf_ok (.inr (.inl (by decide +kernel))) (by decide) (leaf_ok (.inl (by decide +kernel)) (by decide) trivial), trivial⟩
theorem ok3 : (Fo.node sR (.node sO .nil (.node sTh .nil .nil)) .nil).ok := ⟨by decide +kernel, fun _ => by decide +kernel, fun h => absurd rfl h, leaf_ok (.inl (by decide +kernel)) (by decide) (leaf_ok (.inl (by decide +kernel)) (by decide) trivial), trivial⟩
theorem ok6 : (Fo.node sQ (.node sAB .nil .nil) .nil).ok := ⟨by decide +kernel, fun _ => by decide +kernel, fun h => absurd rfl h, leaf_ok (.inr (.inl (by decide +kernel))) (by decide) trivial, trivial⟩
theorem ok9 : (Fo.node sQ (.node sTh .nil .nil) .nil).ok := ⟨by decide +kernel, fun _ => by decide +kernel, fun h => absurd rfl h, leaf_ok (.inl (by decide +kernel)) (by decide) trivial, trivial⟩
theorem ok2 : (Fo.node sE .nil .nil).ok := leaf_ok (.inr (.inr (by decide +kernel))) (by decide) trivial
theorem ok7 : (Fo.node sD .nil .nil).ok := leaf_ok (.inl (by decide +kernel)) (by decide) trivial
theorem okW : (Fo.node sW .nil .nil).ok := leaf_ok (.inr (.inr (by decide +kernel))) (by decide) trivial
theorem okU : (Fo.node sU .nil .nil).ok := leaf_ok (.inl (by decide +kernel)) (by decide) trivial
theorem okC : (Fo.node sC .nil .nil).ok := leaf_ok (.inl (by decide +kernel)) (by decide) trivial
theorem tb1 : textB [sR, sAB, sTh] = tx1 := (textB_of ok1 (tight_of ok1 (by decide +kernel) (by decide +kernel) (by kernel_rfl))).trans (by kernel_rfl)
theorem tb2 : textB [sE] = tx2 := (textB_of ok2 (tight_of ok2 (by decide +kernel) (by decide +kernel) (by kernel_rfl))).trans (by kernel_rfl)
theorem tb3 : textB [sR, sO, sTh] = e0 := textB_not (tight_no ok3 (by decide +kernel) (by decide +kernel) (by
  have : form sR (.node sO .nil (.node sTh .nil .nil)) = [⟨2, [2], [1, 3], []⟩] := by kernel_rfl
  rw [this]
  simp [Fo.flat]))
theorem tb6 : textB [sQ, sAB] = tx6 := (textB_of ok6 (tight_of ok6 (by decide +kernel) (by decide +kernel) (by kernel_rfl))).trans (by kernel_rfl)
theorem tb7 : textB [sD] = tx7 := (textB_of ok7 (tight_of ok7 (by decide +kernel) (by decide +kernel) (by kernel_rfl))).trans (by kernel_rfl)
theorem tb9 : textB [sQ, sTh] = e0 := textB_not (tight_no ok9 (by decide +kernel) (by decide +kernel) (by
  have : form sQ (.node sTh .nil .nil) = [sTh] := by kernel_rfl
  rw [this]
  simp [Fo.flat]))
theorem tbW : textB [sW] = txW := (textB_of okW (tight_of okW (by decide +kernel) (by decide +kernel) (by kernel_rfl))).trans (by kernel_rfl)
theorem tbU : textB [sU] = e0 := textB_not (tight_no okU (by decide +kernel) (by decide +kernel) (by
  have : form sU .nil = [sO] := by kernel_rfl
  rw [this]
  simp [Fo.flat]))
theorem tbC : textB [sC] = txC := (textB_of okC (tight_of okC (by decide +kernel) (by decide +kernel) (by kernel_rfl))).trans (by kernel_rfl)
theorem ar1 : arrayP 16 tx1 = ([sR, sAB, sTh], e0, true) := by kernel_rfl
theorem ar2 : arrayP 16 tx2 = ([sE], e0, true) := by kernel_rfl
theorem ar3 : arrayP 16 tx3 = ([sR, sO, sTh], e0, true) := by kernel_rfl
theorem ar4 : (arrayP 16 tx4).2.2 = false := by kernel_rfl
theorem ar5 : (arrayP 16 tx5).2.2 = false := by kernel_rfl
theorem ar6 : arrayP 16 tx6 = ([sQ, sAB], e0, true) := by kernel_rfl
theorem ar7 : arrayP 16 tx7 = ([sD], e0, true) := by kernel_rfl
theorem ar9 : arrayP 16 tx9 = ([sQ, sTh], e0, true) := by kernel_rfl
theorem ne3 : e0 ≠ tx3 := by decide
theorem ne9 : e0 ≠ tx9 := by decide
end Go.Proofs.YtpkjiplgpgbheaaGreatDoor.V
namespace Go.Proofs.YtpkjiplgpgbheaaGreatDoor.V
open Go Go.RowKit Go.Proofs Go.Proofs.Ev Go.Proofs.YtpkjiplgpgbheaaGreatDoor Go.Proofs.YtpkjiplgpgbheaaGreatDoor.Sp Go.Proofs.YtpkjiplgpgbheaaGreatDoor.Dm Go.Proofs.YtpkjiplgpgbheaaGreatDoor.Ba Go.Proofs.YtpkjiplgpgbheaaGreatDoor.De Go.Proofs.YtpkjiplgpgbheaaGreatDoor.NuP Go.Proofs.YtpkjiplgpgbheaaGreatDoor.Nt
set_option maxHeartbeats 8000000
set_option maxRecDepth 100000
set_option linter.unusedSimpArgs false
set_option linter.unusedVariables false
abbrev rAB : List PV := [.int .i64 3, .ro [[.int .i64 2]], .ro [[.int .i64 97], [.int .i64 98]], .ro []]
abbrev rTh : List PV := [.int .i64 2, .ro [], .ro [[.int .i64 3]], .ro []]
abbrev rR : List PV := [.int .i64 5, .ro [[.int .i64 2]], .ro [], .ro []]
abbrev rQ : List PV := [.int .i64 5, .ro [], .ro [], .ro []]
abbrev rE : List PV := [.int .i64 3, .ro [[.int .i64 0], [.int .i64 2]], .ro [], .ro []]
abbrev rD : List PV := [.int .i64 4, .ro [], .ro [], .ro [[.int .i64 (-15), .int .i64 (-1)]]]
theorem wf_small {n : Nd} (h : 0 ≤ items n) (h0 : I n.f0) (h1 : ∀ x ∈ n.f1, I x) (h2 : ∀ x ∈ n.f2, I x) (h3 : ∀ x ∈ n.f3, wfD x) : wfN n := by
  obtain ⟨l1, l2, l3⟩ := items_small h
  exact ⟨h0, h1, h2, h3, by omega, by omega, by omega⟩
instance (x : Int) : Decidable (I x) := by unfold I; infer_instance
instance (x : Sp.Dec) : Decidable (wfD x) := by unfold wfD; infer_instance
theorem wAB : wfN sAB := wf_small (by decide +kernel) (by decide) (by decide) (by decide) (by decide)
theorem wTh : wfN sTh := wf_small (by decide +kernel) (by decide) (by decide) (by decide) (by decide)
theorem wR : wfN sR := ⟨by decide, by decide, by decide, by decide, by decide, by decide, by decide⟩
theorem wQ : wfN sQ := ⟨by decide, by decide, by decide, by decide, by decide, by decide, by decide⟩
theorem wE : wfN sE := ⟨by decide, by decide, by decide, by decide, by decide, by decide, by decide⟩
theorem wD : wfN sD := ⟨by decide, by decide, by decide, by decide, by decide, by decide, by decide⟩
theorem wW : wfN sW := ⟨by decide, by decide, by decide, by decide, by decide, by decide, by decide⟩
theorem wU : wfN sU := ⟨by decide, by decide, by decide, by decide, by decide, by decide, by decide⟩
theorem wC : wfN sC := ⟨by decide, by decide, by decide, by decide, by decide, by decide, by decide⟩
theorem all1 {P : Nd → Prop} {a : Nd} (ha : P a) : ∀ x ∈ [a], P x := by intro x hx; rw [List.mem_singleton.1 hx]; exact ha
theorem all2 {P : Nd → Prop} {a b : Nd} (ha : P a) (hb : P b) : ∀ x ∈ [a, b], P x := by intro x hx; simp only [List.mem_cons, List.not_mem_nil, or_false] at hx; rcases hx with rfl | rfl <;> assumption
theorem all3 {P : Nd → Prop} {a b c : Nd} (ha : P a) (hb : P b) (hc : P c) : ∀ x ∈ [a, b, c], P x := by intro x hx; simp only [List.mem_cons, List.not_mem_nil, or_false] at hx; rcases hx with rfl | rfl | rfl <;> assumption
theorem self10 (a : List Nd) (ha : a.length ≤ 140737488351232) (hw : ∀ x ∈ a, wfN x) : Den Tryz.prog 36 [.ro (a.map eN), .ro (a.map eN)] [] (.bool true) [] [] := by
  have := same10_den a a ha ha hw hw
  rwa [(same10_iff a a).2 rfl] at this
theorem small14 : Den Tryz.prog 30 [] [] (.bool true) [] [] := by
  have p1 := parse_yes tx1 (by decide) (parseN_of ar1 tb1)
  have p2 := parse_yes tx2 (by decide) (parseN_of ar2 tb2)
  have p3 := parse_no tx3 (by decide) (parseN_other ar3 (by rw [tb3]; exact ne3))
  have p4 := parse_no tx4 (by decide) (parseN_no ar4)
  have p5 := parse_no tx5 (by decide) (parseN_no ar5)
  have p6 := parse_yes tx6 (by decide) (parseN_of ar6 tb6)
  have p7 := parse_yes tx7 (by decide) (parseN_of ar7 tb7)
  have p8 := parse_no e0 (by decide) (parseN_no arr_none)
  have p9 := parse_no tx9 (by decide) (parseN_other ar9 (by rw [tb9]; exact ne9))
  have t1 := text_den [sR, sAB, sTh] (by decide) (all3 wR wAB wTh)
  have t2 := text_den [sW] (by decide) (all1 wW)
  have t3 := text_den [sU] (by decide) (all1 wU)
  have t4 := text_den [sC] (by decide) (all1 wC)
  have q1 := self10 [sR, sAB, sTh] (by decide) (all3 wR wAB wTh)
  have q2 := self10 [sE] (by decide) (all1 wE)
  have q3 := self10 [sQ, sAB] (by decide) (all2 wQ wAB)
  have q4 := self10 [sD] (by decide) (all1 wD)
  rw [tb1] at t1
  rw [tbW] at t2
  rw [tbU] at t3
  rw [tbC] at t4
  rw [ar1] at p1
  rw [ar2] at p2
  rw [ar6] at p6
  rw [ar7] at p7
  simp only [List.map_cons, List.map_nil, eN, eI, eD, sAB, sTh, sR, sQ, sO, sE, sD, sW, sU, sC] at p1 p2 p6 p7 t1 t2 t3 t4 q1 q2 q3 q4
  (refine den_walk mix Tryz.func30 rfl (by kernel_rfl) rfl [.tmp 0] rfl (by simp) ?_; simp only [bodyOf, Tryz.f30])
  (repeat ((fail_if_success (show Run _ _ (.reg _ (⟨some 24, _, _, _, _, _⟩ :: _) :: _) _)); refine stp ?_))
  refine RZ (.loc 22 0) ?_
  refine RZ (.loc 23 0) ?_
  refine R1z ?_
  (repeat ((fail_if_success (show Run _ _ (.c (.region 2 _ _) :: _) _)); refine stp ?_))
  refine Run_gen (fun τ => ∃ v1, τ.t 1 = .ptr (.loc 1 0) v1 0 0 ∧ τ.m (.loc 1 0) = ⟨v1, some (.rows false 63 4 [rAB])⟩) ⟨_, rd, rdm⟩ ?_
  rintro τ ⟨v1, g1, m1⟩
  (repeat ((fail_if_success (show Run _ _ (.reg _ (⟨some 26, _, _, _, _, _⟩ :: _) :: _) _)); refine stp ?_))
  refine RZ (.loc 25 0) ?_
  refine R1z ?_
  (repeat ((fail_if_success (show Run _ _ (.c (.region 3 _ _) :: _) _)); refine stp ?_))
  refine Run_gen (fun τ => ∃ v1 v2, τ.t 1 = .ptr (.loc 1 0) v1 0 0 ∧ τ.m (.loc 1 0) = ⟨v1, some (.rows false 63 4 [rAB])⟩ ∧ τ.t 2 = .ptr (.loc 2 0) v2 0 0 ∧ τ.m (.loc 2 0) = ⟨v2, some (.rows false 63 4 [rTh])⟩) ⟨_, _, rd, rdm, rd, rdm⟩ ?_
  rintro τ ⟨v1, v2, g1, m1, g2, m2⟩
  (repeat ((fail_if_success (show Run _ _ (.reg _ (⟨some 28, _, _, _, _, _⟩ :: _) :: _) _)); refine stp ?_))
  refine RZ (.loc 27 0) ?_
  refine R1z ?_
  (repeat ((fail_if_success (show Run _ _ (.reg _ (⟨some 3, _, _, _, _, _⟩ :: _) :: _) _)); refine stp ?_))
  refine RZ (.loc 31 0) ?_
  (repeat ((fail_if_success (show Run _ _ (.c (.region 4 _ _) :: _) _)); refine stp ?_))
  refine Run_gen (fun τ => ∃ v1, τ.t 1 = .ptr (.loc 1 0) v1 0 0 ∧ τ.m (.loc 1 0) = ⟨v1, some (.rows false 63 4 [rAB])⟩ ∧ τ.t 3 = .ro [rR, rAB, rTh]) ⟨_, rd, rdm, rd⟩ ?_
  clear g1 m1 g2 m2
  rintro τ ⟨v1, g1, m1, g3⟩
  (repeat refine stp ?_)
  (refine RC (p1) ?_)
  (repeat refine stp ?_)
  (refine RC (p2) ?_)
  (repeat refine stp ?_)
  (refine RC (p3) ?_)
  (repeat refine stp ?_)
  (refine RC (p4) ?_)
  (repeat refine stp ?_)
  (refine RC (p5) ?_)
  (repeat refine stp ?_)
  (refine RC (p6) ?_)
  (repeat refine stp ?_)
  (refine RC (p7) ?_)
  (repeat refine stp ?_)
  (refine RC (p8) ?_)
  (repeat refine stp ?_)
  (refine RC (p9) ?_)
  (repeat ((fail_if_success (show Run _ _ (.c (.region 13 _ _) :: _) _)); refine stp ?_))
  refine Run_gen (fun τ => ∃ v1, τ.t 1 = .ptr (.loc 1 0) v1 0 0 ∧ τ.m (.loc 1 0) = ⟨v1, some (.rows false 63 4 [rAB])⟩ ∧ τ.t 3 = .ro [rR, rAB, rTh] ∧ τ.t 4 = .ro [rR, rAB, rTh] ∧ τ.t 5 = .bool true ∧ τ.t 6 = .ro [rE] ∧ τ.t 7 = .bool true ∧ τ.t 9 = .bool false ∧ τ.t 11 = .bool false ∧ τ.t 13 = .bool false ∧ τ.t 14 = .ro [rQ, rAB] ∧ τ.t 15 = .bool true ∧ τ.t 16 = .ro [rD] ∧ τ.t 17 = .bool true ∧ τ.t 19 = .bool false ∧ τ.t 21 = .bool false) ⟨_, rd, rdm, rd, rd, rd, rd, rd, rd, rd, rd, rd, rd, rd, rd, rd, rd⟩ ?_
  clear g1 m1 g3 p1 p2 p3 p4 p5 p6 p7 p8 p9
  rintro τ ⟨v1, g1, m1, g3, g4, g5, g6, g7, g9, g11, g13, g14, g15, g16, g17, g19, g21⟩
  (repeat ((fail_if_success (show Run _ _ (.reg _ (⟨some 69, _, _, _, _, _⟩ :: _) :: _) _)); refine stp ?_))
  simp only [List.append_eq, List.cons_append, List.nil_append, List.toList_toArray]
  (repeat refine stp ?_)
  (refine RC (t1) ?_)
  (repeat ((fail_if_success (show Run _ _ (.reg _ (⟨some 75, _, _, _, _, _⟩ :: _) :: _) _)); refine stp ?_))
  refine Run_gen (fun τ => ∃ v1, τ.t 1 = .ptr (.loc 1 0) v1 0 0 ∧ τ.m (.loc 1 0) = ⟨v1, some (.rows false 63 4 [rAB])⟩ ∧ τ.t 3 = .ro [rR, rAB, rTh] ∧ τ.t 4 = .ro [rR, rAB, rTh] ∧ τ.t 6 = .ro [rE] ∧ τ.t 7 = .bool true ∧ τ.t 9 = .bool false ∧ τ.t 11 = .bool false ∧ τ.t 13 = .bool false ∧ τ.t 14 = .ro [rQ, rAB] ∧ τ.t 15 = .bool true ∧ τ.t 16 = .ro [rD] ∧ τ.t 17 = .bool true ∧ τ.t 19 = .bool false ∧ τ.t 21 = .bool false ∧ τ.t 74 = .bool true) ⟨_, rd, rdm, rd, rd, rd, rd, rd, rd, rd, rd, rd, rd, rd, rd, rd, rd⟩ ?_
  clear g1 m1 g3 g4 g5 g6 g7 g9 g11 g13 g14 g15 g16 g17 g19 g21 t1
  rintro τ ⟨v1, g1, m1, g3, g4, g6, g7, g9, g11, g13, g14, g15, g16, g17, g19, g21, gL⟩
  (repeat ((fail_if_success (show Run _ _ (.reg _ (⟨some 77, _, _, _, _, _⟩ :: _) :: _) _)); refine stp ?_))
  (refine RC (q1) ?_)
  (repeat ((fail_if_success (show Run _ _ (.reg _ (⟨some 83, _, _, _, _, _⟩ :: _) :: _) _)); refine stp ?_))
  refine Run_gen (fun τ => ∃ v1, τ.t 1 = .ptr (.loc 1 0) v1 0 0 ∧ τ.m (.loc 1 0) = ⟨v1, some (.rows false 63 4 [rAB])⟩ ∧ τ.t 6 = .ro [rE] ∧ τ.t 9 = .bool false ∧ τ.t 11 = .bool false ∧ τ.t 13 = .bool false ∧ τ.t 14 = .ro [rQ, rAB] ∧ τ.t 15 = .bool true ∧ τ.t 16 = .ro [rD] ∧ τ.t 17 = .bool true ∧ τ.t 19 = .bool false ∧ τ.t 21 = .bool false ∧ τ.t 82 = .bool true) ⟨_, rd, rdm, rd, rd, rd, rd, rd, rd, rd, rd, rd, rd, rd⟩ ?_
  clear g1 m1 g3 g4 g6 g7 g9 g11 g13 g14 g15 g16 g17 g19 g21 gL q1
  rintro τ ⟨v1, g1, m1, g6, g9, g11, g13, g14, g15, g16, g17, g19, g21, gL⟩
  (repeat ((fail_if_success (show Run _ _ (.reg _ (⟨some 85, _, _, _, _, _⟩ :: _) :: _) _)); refine stp ?_))
  refine RZ (.loc 84 0) ?_
  refine R1z ?_
  (repeat ((fail_if_success (show Run _ _ (.reg _ (⟨some 87, _, _, _, _, _⟩ :: _) :: _) _)); refine stp ?_))
  refine RZ (.loc 86 0) ?_
  (repeat refine stp ?_)
  (refine RC (q2) ?_)
  (repeat ((fail_if_success (show Run _ _ (.reg _ (⟨some 105, _, _, _, _, _⟩ :: _) :: _) _)); refine stp ?_))
  refine Run_gen (fun τ => ∃ v1, τ.t 1 = .ptr (.loc 1 0) v1 0 0 ∧ τ.m (.loc 1 0) = ⟨v1, some (.rows false 63 4 [rAB])⟩ ∧ τ.t 14 = .ro [rQ, rAB] ∧ τ.t 16 = .ro [rD] ∧ τ.t 17 = .bool true ∧ τ.t 19 = .bool false ∧ τ.t 21 = .bool false ∧ τ.t 104 = .bool true) ⟨_, rd, rdm, rd, rd, rd, rd, rd, rd⟩ ?_
  clear g1 m1 g6 g9 g11 g13 g14 g15 g16 g17 g19 g21 gL q2
  rintro τ ⟨v1, g1, m1, g14, g16, g17, g19, g21, gL⟩
  (repeat ((fail_if_success (show Run _ _ (.reg _ (⟨some 106, _, _, _, _, _⟩ :: _) :: _) _)); refine stp ?_))
  refine R1z ?_
  (repeat ((fail_if_success (show Run _ _ (.reg _ (⟨some 109, _, _, _, _, _⟩ :: _) :: _) _)); refine stp ?_))
  refine RZ (.loc 108 0) ?_
  (repeat refine stp ?_)
  (refine RC (q3) ?_)
  (repeat ((fail_if_success (show Run _ _ (.reg _ (⟨some 115, _, _, _, _, _⟩ :: _) :: _) _)); refine stp ?_))
  refine Run_gen (fun τ => τ.t 16 = .ro [rD] ∧ τ.t 19 = .bool false ∧ τ.t 21 = .bool false ∧ τ.t 114 = .bool true) ⟨rd, rd, rd, rd⟩ ?_
  clear g1 m1 g14 g16 g17 g19 g21 gL q3
  rintro τ ⟨g16, g19, g21, gL⟩
  (repeat ((fail_if_success (show Run _ _ (.reg _ (⟨some 118, _, _, _, _, _⟩ :: _) :: _) _)); refine stp ?_))
  refine RZ (.loc 117 0) ?_
  refine R1z ?_
  (repeat ((fail_if_success (show Run _ _ (.reg _ (⟨some 120, _, _, _, _, _⟩ :: _) :: _) _)); refine stp ?_))
  refine RZ (.loc 119 0) ?_
  (repeat refine stp ?_)
  (refine RC (q4) ?_)
  (repeat ((fail_if_success (show Run _ _ (.reg _ (⟨some 131, _, _, _, _, _⟩ :: _) :: _) _)); refine stp ?_))
  refine Run_gen (fun τ => τ.t 130 = .bool true) rd ?_
  clear g16 g19 g21 gL q4
  rintro τ gL
  (repeat ((fail_if_success (show Run _ _ (.reg _ (⟨some 132, _, _, _, _, _⟩ :: _) :: _) _)); refine stp ?_))
  refine RZ (.loc 131 0) ?_
  refine R1z ?_
  (repeat ((fail_if_success (show Run _ _ (.reg _ (⟨some 134, _, _, _, _, _⟩ :: _) :: _) _)); refine stp ?_))
  refine RZ (.loc 133 0) ?_
  (repeat refine stp ?_)
  (refine RC (t2) ?_)
  (repeat ((fail_if_success (show Run _ _ (.reg _ (⟨some 138, _, _, _, _, _⟩ :: _) :: _) _)); refine stp ?_))
  refine Run_gen (fun τ => τ.t 137 = .bool true) rd ?_
  clear gL t2
  rintro τ gL
  (repeat ((fail_if_success (show Run _ _ (.reg _ (⟨some 139, _, _, _, _, _⟩ :: _) :: _) _)); refine stp ?_))
  refine RZ (.loc 138 0) ?_
  refine R1z ?_
  (repeat ((fail_if_success (show Run _ _ (.reg _ (⟨some 141, _, _, _, _, _⟩ :: _) :: _) _)); refine stp ?_))
  refine RZ (.loc 140 0) ?_
  (repeat refine stp ?_)
  (refine RC (t3) ?_)
  (repeat ((fail_if_success (show Run _ _ (.reg _ (⟨some 145, _, _, _, _, _⟩ :: _) :: _) _)); refine stp ?_))
  refine Run_gen (fun τ => τ.t 144 = .bool true) rd ?_
  clear gL t3
  rintro τ gL
  (repeat ((fail_if_success (show Run _ _ (.reg _ (⟨some 146, _, _, _, _, _⟩ :: _) :: _) _)); refine stp ?_))
  refine RZ (.loc 145 0) ?_
  refine R1z ?_
  (repeat ((fail_if_success (show Run _ _ (.reg _ (⟨some 148, _, _, _, _, _⟩ :: _) :: _) _)); refine stp ?_))
  refine RZ (.loc 147 0) ?_
  (repeat refine stp ?_)
  (refine RC (t4) ?_)
  (repeat refine stp ?_)
  exact FE
end Go.Proofs.YtpkjiplgpgbheaaGreatDoor.V
namespace Go.Proofs.YtpkjiplgpgbheaaGreatDoor.V
open Go Go.RowKit Go.Proofs Go.Proofs.Ev Go.Proofs.YtpkjiplgpgbheaaGreatDoor Go.Proofs.YtpkjiplgpgbheaaGreatDoor.Sp Go.Proofs.YtpkjiplgpgbheaaGreatDoor.Dm Go.Proofs.YtpkjiplgpgbheaaGreatDoor.Ba Go.Proofs.YtpkjiplgpgbheaaGreatDoor.De Go.Proofs.YtpkjiplgpgbheaaGreatDoor.NuP Go.Proofs.YtpkjiplgpgbheaaGreatDoor.Nt
set_option maxHeartbeats 4000000
set_option maxRecDepth 100000
set_option linter.unusedSimpArgs false
set_option linter.unusedVariables false
theorem notationOnce_den (s : ByteArray) (hs : s.size ≤ 140737488351232) : Den Tryz.prog 9 [.str s] [] (.bool true) [] [] := by
  have hm := small14
  by_cases h5 : s.size > 500
  · (refine den_walk mix Tryz.func9 rfl (by kernel_rfl) rfl [.tmp 2] rfl (by simp) ?_; simp only [bodyOf, Tryz.f9])
    (repeat refine stp ?_)
    (refine RC (hm) ?_)
    (repeat refine stp ?_)
    exact FE
  · cases hp : parseN s with
    | false =>
      have hP := parse_no s (by omega) hp
      clear hp
      (refine den_walk mix Tryz.func9 rfl (by kernel_rfl) rfl [.tmp 2] rfl (by simp) ?_; simp only [bodyOf, Tryz.f9])
      (repeat refine stp ?_)
      (refine RC (hm) ?_)
      (repeat refine stp ?_)
      (refine RC (hP) ?_)
      (repeat refine stp ?_)
      exact FE
    | true =>
      have hP := parse_yes s (by omega) hp
      obtain ⟨k1, k2⟩ := arr_keeps 16 s
      have hR := tight_den (arrayP 16 s).1 (by omega) (k2 (by omega))
      have hT := text_den (arrayP 16 s).1 (by omega) (k2 (by omega))
      rw [(once hp).1] at hR
      rw [(once hp).2] at hT
      generalize (arrayP 16 s).1 = a at *
      have hss : (s.toList == s.toList) = true := by simp
      clear hp k1 k2
      (refine den_walk mix Tryz.func9 rfl (by kernel_rfl) rfl [.tmp 2] rfl (by simp) ?_; simp only [bodyOf, Tryz.f9])
      (repeat refine stp ?_)
      (refine RC (hm) ?_)
      (repeat refine stp ?_)
      (refine RC (hP) ?_)
      (repeat refine stp ?_)
      (refine RC (hR) ?_)
      (repeat refine stp ?_)
      (refine RC (hT) ?_)
      (repeat refine stp ?_)
      exact FE
end Go.Proofs.YtpkjiplgpgbheaaGreatDoor.V
