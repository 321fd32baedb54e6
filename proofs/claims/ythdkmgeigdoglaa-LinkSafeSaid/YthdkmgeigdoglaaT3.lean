import Derived.Test.YthdkmgeigdoglaaT2
/- A talk with noise behind the number: the sender's side, and what holds at each tick. No statement is proved here. -/
set_option linter.unusedVariables false
set_option linter.unusedSimpArgs false
set_option maxRecDepth 100000
namespace Go.Proofs.Ythdkmgeigdoglaa.SL
open Go Go.RowKit
section
/-- the sender sends block i -/
structure InP1 (w : Int) (qs : List (List Int)) (crc : Bool) (i : Nat) (s : Sn) : Prop where
  cw : s.cw = w
  qs : s.qs = qs
  cl : s.close = true
  crc : s.crc = crc
  ph : s.phase = 1
  at_ : s.at_ = i
  er : s.err = 0
/-- what one tick brings while block i is sent -/
def Fd (w : Int) (qs : List (List Int)) (crc : Bool) (i : Nat) (bk : List Int) (s : Sn) (d : List Int) : Prop :=
  (InP1 w qs crc i s ∧ (d = [] ∨ (∃ rest, d = bk ++ rest) ∧ s.left = w)) ∨ (s.phase = 3 ∧ s.err ≠ 0 ∧ (d = [] ∨ (∃ rest, d = bk ++ rest) ∨ d = [24, 24]))
theorem fd_again {w : Int} {qs : List (List Int)} {crc : Bool} {i : Nat} {bk d : List Int} {s : Sn} (h : InP1 w qs crc i s) (hbk : s.bytes = bk) (hd : d = [] ∨ ∃ rest, d = bk ++ rest) : Fd w qs crc i bk s.again (d ++ s.againOut) := by
  unfold Sn.again Sn.againOut
  by_cases ht : s.tries ≥ s.ct
  · rw [if_pos ht, if_pos ht]
    right
    refine ⟨rfl, by show (10 : Int) ≠ 0; decide, ?_⟩
    rcases hd with rfl | ⟨rest, rfl⟩
    · exact .inr (.inr rfl)
    · exact .inr (.inl ⟨rest ++ [24, 24], by rw [List.append_assoc]⟩)
  · rw [if_neg ht, if_neg ht]
    left
    have hn : s.now = bk := by unfold Sn.now; rw [if_pos h.ph, hbk]
    rw [hn]
    refine ⟨⟨h.cw, h.qs, h.cl, h.crc, h.ph, h.at_, h.er⟩, .inr ⟨?_, h.cw⟩⟩
    rcases hd with rfl | ⟨rest, rfl⟩
    · exact ⟨[], by simp⟩
    · exact ⟨rest ++ bk, by rw [List.append_assoc]⟩
theorem InP1.bytes {w : Int} {qs : List (List Int)} {crc : Bool} {i : Nat} {s s' : Sn} (h : InP1 w qs crc i s) (h' : InP1 w qs crc i s') : s.bytes = s'.bytes := by
  unfold Sn.bytes
  rw [h.qs, h'.qs, h.at_, h'.at_, h.crc, h'.crc]
theorem fd_put {w : Int} {qs : List (List Int)} {crc : Bool} {i : Nat} {bk d : List Int} {s : Sn} {c : Int} (hbk : ∀ s', InP1 w qs crc i s' → s'.bytes = bk) (h : Fd w qs crc i bk s d) (hc : c ≠ 6) : Fd w qs crc i bk (s.put c) (d ++ s.putOut c) := by
  rcases h with ⟨h, hd⟩ | ⟨h3, he, hd⟩
  · have hp := h.ph
    have n3 : ¬ s.phase = 3 := by omega
    have n0 : ¬ s.phase = 0 := by omega
    have n01 : ¬ (s.phase = 0 ∧ (c = 21 ∨ c = 67 ∧ s.crc = true)) := fun h => n0 h.1
    unfold Sn.put Sn.putOut
    rw [if_neg n3, if_neg n3]
    have h1 : InP1 w qs crc i (s.can1 c) := ⟨h.cw, h.qs, h.cl, h.crc, h.ph, h.at_, h.er⟩
    have hd' : d = [] ∨ ∃ rest, d = bk ++ rest := by
      rcases hd with h | ⟨h, _⟩
      · exact .inl h
      · exact .inr h
    by_cases hcan : s.can = true ∧ c = 24
    · rw [if_pos hcan, if_pos hcan, List.append_nil]
      right
      refine ⟨rfl, by show (9 : Int) ≠ 0; decide, ?_⟩
      rcases hd' with h | h
      · exact .inl h
      · exact .inr (.inl h)
    · rw [if_neg hcan, if_neg hcan, if_neg n01, if_neg n01, if_neg n0, if_neg n0, if_neg hc, if_neg hc]
      by_cases h21 : c = 21
      · rw [if_pos h21, if_pos h21]
        exact fd_again h1 (hbk _ h1) hd'
      · rw [if_neg h21, if_neg h21, List.append_nil]
        exact .inl ⟨h1, hd⟩
  · unfold Sn.put Sn.putOut
    rw [if_pos h3, if_pos h3, List.append_nil]
    exact .inr ⟨h3, he, hd⟩
theorem fd_feed {w : Int} {qs : List (List Int)} {crc : Bool} {i : Nat} {bk : List Int} (hbk : ∀ s', InP1 w qs crc i s' → s'.bytes = bk) : ∀ (L : List Int) (s : Sn) (d : List Int), (∀ c ∈ L, c ≠ 6) → Fd w qs crc i bk s d → Fd w qs crc i bk (feed L s d).1 (feed L s d).2
  | [], s, d, _, h => h
  | c :: L, s, d, hL, h => fd_feed hbk L (s.put c) (d ++ s.putOut c) (fun x hx => hL x (List.mem_cons_of_mem _ hx)) (fd_put hbk h (hL c List.mem_cons_self))
theorem fd_tick {w : Int} {qs : List (List Int)} {crc : Bool} {i : Nat} {bk : List Int} {s : Sn} (hbk : ∀ s', InP1 w qs crc i s' → s'.bytes = bk) (h : InP1 w qs crc i s) : Fd w qs crc i bk s.tick s.tickOut := by
  have hp := h.ph
  have n3 : ¬ s.phase = 3 := by omega
  unfold Sn.tick Sn.tickOut
  rw [if_neg n3, if_neg n3]
  have h1 : InP1 w qs crc i ({ s with left := s.left - 1 } : Sn) := ⟨h.cw, h.qs, h.cl, h.crc, h.ph, h.at_, h.er⟩
  by_cases hl : s.left - 1 > 0
  · rw [if_pos hl, if_pos hl]
    exact .inl ⟨h1, .inl rfl⟩
  · rw [if_neg hl, if_neg hl]
    have := fd_again h1 (hbk _ h1) (d := []) (.inl rfl)
    rwa [List.nil_append] at this
/-- the end's few bytes: so many they are at most -/
def Fe (n0 : Nat) (s : Sn) (d : List Int) : Prop := (s.phase = 2 ∧ ((n0 + d.length : Nat) : Int) ≤ s.tries) ∨ (s.phase = 3 ∧ n0 + d.length ≤ 11)
theorem fe_again {n0 : Nat} {s : Sn} {d : List Int} (h2 : s.phase = 2) (h : ((n0 + d.length : Nat) : Int) ≤ s.tries) (h9 : s.tries ≤ 9) : Fe n0 s.again (d ++ s.againOut) := by
  unfold Sn.again Sn.againOut
  by_cases ht : s.tries ≥ s.ct
  · rw [if_pos ht, if_pos ht]
    right
    refine ⟨rfl, ?_⟩
    simp only [List.length_append, List.length_cons, List.length_nil]
    omega
  · rw [if_neg ht, if_neg ht]
    left
    have hn : s.now = [4] := by unfold Sn.now; rw [if_neg (show ¬ s.phase = 1 by omega), if_pos h2]
    rw [hn]
    refine ⟨h2, ?_⟩
    simp only [List.length_append, List.length_cons, List.length_nil]
    omega
theorem fe_put {n0 : Nat} {s : Sn} {d : List Int} {c : Int} (hF : s.Fit) (hat : s.phase = 2 → s.qs.length ≤ s.at_) (h : Fe n0 s d) : Fe n0 (s.put c) (d ++ s.putOut c) := by
  have h9 := hF.tr.2
  rcases h with ⟨h2, h⟩ | ⟨h3, h⟩
  · have hl := hat h2
    have m3 : ¬ s.phase = 3 := by omega
    have m0 : ¬ s.phase = 0 := by omega
    have n1 : ¬ s.phase = 1 := by omega
    have n01 : ¬ (s.phase = 0 ∧ (c = 21 ∨ c = 67 ∧ s.crc = true)) := fun h => m0 h.1
    unfold Sn.put Sn.putOut
    rw [if_neg m3, if_neg m3]
    by_cases hcan : s.can = true ∧ c = 24
    · rw [if_pos hcan, if_pos hcan, List.append_nil]
      exact .inr ⟨rfl, by omega⟩
    · rw [if_neg hcan, if_neg hcan, if_neg n01, if_neg n01, if_neg m0, if_neg m0]
      by_cases h6 : c = 6
      · rw [if_pos h6, if_pos h6, if_neg n1, if_neg n1]
        right
        have hn : (s.can1 c).next = { s.can1 c with tries := 1, left := s.cw, phase := 3, err := 0 } := by
          unfold Sn.next
          rw [if_neg (by show ¬ s.at_ < s.qs.length; omega), if_neg (fun h => h.2 h2)]
          rfl
        rw [hn]
        refine ⟨rfl, ?_⟩
        have : ({ s.can1 c with tries := 1, left := s.cw, phase := 3, err := 0 } : Sn).now = [] := rfl
        rw [this, List.append_nil]
        omega
      · rw [if_neg h6, if_neg h6]
        by_cases h21 : c = 21
        · rw [if_pos h21, if_pos h21]
          exact fe_again (s := s.can1 c) h2 h h9
        · rw [if_neg h21, if_neg h21, List.append_nil]
          exact .inl ⟨h2, h⟩
  · unfold Sn.put Sn.putOut
    rw [if_pos h3, if_pos h3, List.append_nil]
    exact .inr ⟨h3, h⟩
end
end Go.Proofs.Ythdkmgeigdoglaa.SL
