import Derived.Test.YthdkmgeigdoglaaT3
/- A talk with noise behind the number: what holds at each tick. No statement is proved here. -/
set_option linter.unusedVariables false
set_option linter.unusedSimpArgs false
set_option maxRecDepth 100000
namespace Go.Proofs.Ythdkmgeigdoglaa.SL
open Go Go.RowKit
section
def numI (i : Nat) : Int := (((0 + i + 1) % 256 : Nat) : Int)
theorem numI_range (i : Nat) : 0 ≤ numI i ∧ numI i ≤ 255 := by unfold numI; omega
theorem numI_succ (i : Nat) : (numI i + 1) % 256 = numI (i + 1) := by unfold numI; omega
theorem Rc.done_keep (r : Rc) : r.done.close = r.close ∧ r.done.crc = r.crc ∧ r.done.wait = r.wait := by unfold Rc.done; split <;> exact ⟨rfl, rfl, rfl⟩
theorem Rc.put_keep (r : Rc) (d : List Int) : (r.put d).close = r.close ∧ (r.put d).crc = r.crc ∧ (r.put d).wait = r.wait := by
  unfold Rc.put
  split
  · exact ⟨rfl, rfl, rfl⟩
  · split
    · exact ⟨rfl, rfl, rfl⟩
    · split
      · exact ⟨rfl, rfl, rfl⟩
      · split
        · exact ⟨rfl, rfl, rfl⟩
        · split
          · exact ⟨rfl, rfl, rfl⟩
          · split
            · unfold Rc.take
              split
              · exact Rc.done_keep _
              · split
                · exact ⟨rfl, rfl, rfl⟩
                · exact Rc.done_keep _
            · exact ⟨rfl, rfl, rfl⟩
theorem Rc.put_over {r : Rc} {d : List Int} (h : r.over = true) : r.put d = r ∧ r.putOut d = [] := by
  unfold Rc.put Rc.putOut
  rw [if_pos (Or.inl h), if_pos (Or.inl h)]
  exact ⟨rfl, rfl⟩
/-- where it stands -/
def At (w : Int) (qs : List (List Int)) (crc : Bool) (s : Sn) (r : Rc) (up : List Int) (k : Nat) : Prop :=
  (∃ i, i < qs.length ∧ InP1 w qs crc i s ∧ r.buf = [] ∧ r.number = numI k ∧ ((k = i ∧ (up = [] ∨ up = [21])) ∨ (k = i + 1 ∧ up = [6] ∧ s.left = w ∧ r.left = w ∧ r.over = false)))
  ∨ (s.phase = 2 ∧ qs.length ≤ s.at_ ∧ k = qs.length ∧ (r.buf.length : Int) ≤ s.tries)
  ∨ (s.phase = 3 ∧ r.buf.length ≤ 11 ∧ (s.err = 0 → k = qs.length))
def Inv (w : Int) (qs : List (List Int)) (crc : Bool) (x : Lk) : Prop := x.r.close = true ∧ x.r.crc = crc ∧ x.r.wait = w ∧ ∃ k, k ≤ qs.length ∧ x.r.dat = (qs.take k).flatten ∧ At w qs crc x.s x.r x.up k
theorem next_zero {ns : List Nz} {x : Lk} (h : x.fed.2.length = 0) : (x.next ns).s = x.fed.1 ∧ (x.next ns).r = x.r.tick ∧ (x.next ns).up = [] := by
  unfold Lk.next
  rw [if_pos h]
  exact ⟨rfl, rfl, rfl⟩
theorem next_some {ns : List Nz} {x : Lk} (h : ¬ x.fed.2.length = 0) : (x.next ns).s = x.fed.1 ∧ (x.next ns).r = x.r.tick.put (downOf ns x.sent x.fed.2) ∧ (x.next ns).up = x.r.tick.putOut (downOf ns x.sent x.fed.2) := by
  unfold Lk.next
  rw [if_neg h]
  exact ⟨rfl, rfl, rfl⟩
theorem inv_block {w : Int} {qs : List (List Int)} {crc : Bool} {ns : List Nz} {x : Lk} {i : Nat} {q : List Int} (hns : ∀ z ∈ ns, 3 ≤ z.at_ ∧ z.at_ ≤ 102) (hi : i < qs.length) (hq : qs[i]? = some q) (hq1 : q.length = 128) (hq2 : U8s q)
    (hfd : Fd w qs crc i (blockL 1 (numI i) q crc) x.fed.1 x.fed.2) (hb : x.r.tick.buf = []) (hnum : x.r.tick.number = numI i) (hdat : x.r.tick.dat = (qs.take i).flatten) (hcl : x.r.tick.close = true) (hcrc : x.r.tick.crc = crc) (hw : x.r.tick.wait = w) : Inv w qs crc (x.next ns) := by
  have hstay : ∀ (u : List Int) (r : Rc), r.buf = [] → r.number = numI i → (u = [] ∨ u = [21]) → At w qs crc x.fed.1 r u i := by
    intro u r h1 h2 h3
    rcases hfd with ⟨hp, _⟩ | ⟨hp, he, _⟩
    · exact .inl ⟨i, hi, hp, h1, h2, .inl ⟨rfl, h3⟩⟩
    · exact .inr (.inr ⟨hp, by rw [h1]; exact Nat.zero_le _, fun h => absurd h he⟩)
  by_cases h0 : x.fed.2.length = 0
  · obtain ⟨e1, e2, e3⟩ := next_zero (ns := ns) h0
    unfold Inv
    rw [e1, e2, e3]
    exact ⟨hcl, hcrc, hw, i, by omega, hdat, hstay _ _ hb hnum (.inl rfl)⟩
  · obtain ⟨e1, e2, e3⟩ := next_some (ns := ns) h0
    unfold Inv
    rw [e1, e2, e3]
    rcases Bool.eq_false_or_eq_true x.r.tick.over with hov | hov
    · rw [(Rc.put_over hov).1, (Rc.put_over hov).2]
      exact ⟨hcl, hcrc, hw, i, by omega, hdat, hstay _ _ hb hnum (.inl rfl)⟩
    · have hk := Rc.put_keep x.r.tick (downOf ns x.sent x.fed.2)
      refine ⟨hk.1.trans hcl, hk.2.1.trans hcrc, hk.2.2.trans hw, ?_⟩
      have hblock : ∀ rest, x.fed.2 = blockL 1 (numI i) q crc ++ rest → (InP1 w qs crc i x.fed.1 ∧ x.fed.1.left = w ∨ x.fed.1.phase = 3 ∧ x.fed.1.err ≠ 0) → ∃ k, k ≤ qs.length ∧ (x.r.tick.put (downOf ns x.sent x.fed.2)).dat = (qs.take k).flatten ∧ At w qs crc x.fed.1 (x.r.tick.put (downOf ns x.sent x.fed.2)) (x.r.tick.putOut (downOf ns x.sent x.fed.2)) k := by
        intro rest hr hs
        rw [hr]
        have hd := downOf_noisy (rest := rest) (crc := crc) ns x.sent hns hq1 hq2 (numI_range i)
        rw [← hcrc] at hd
        rw [← hnum] at hd
        have hm := Rc.put_msg (q := q) hb hov hcl hd
        rw [hcrc, hnum] at hm
        rcases hm with ⟨m1, m2⟩ | ⟨m1, m2⟩ | ⟨m1, m2⟩
        · rw [m1, m2]
          exact ⟨i, by omega, hdat, hstay _ _ hb hnum (.inl rfl)⟩
        · rw [m1, m2]
          refine ⟨i + 1, by omega, ?_, ?_⟩
          · show x.r.tick.dat ++ q = _
            rw [hdat, List.take_add_one (i := i), hq, List.flatten_append]
            exact congrArg (_ ++ ·) (List.append_nil _).symm
          · rcases hs with ⟨hp, hl⟩ | ⟨hp, he⟩
            · exact .inl ⟨i, hi, hp, rfl, numI_succ i, .inr ⟨rfl, rfl, hl, hw, hov⟩⟩
            · exact .inr (.inr ⟨hp, Nat.zero_le _, fun h => absurd h he⟩)
        · rw [m1, m2]
          exact ⟨i, by omega, hdat, hstay _ _ rfl rfl (.inr rfl)⟩
      rcases hfd with ⟨hp, hd | ⟨⟨rest, hr⟩, hl⟩⟩ | ⟨hp, he, hd | ⟨rest, hr⟩ | hd⟩
      · rw [hd] at h0; exact absurd rfl h0
      · exact hblock rest hr (.inl ⟨hp, hl⟩)
      · rw [hd] at h0; exact absurd rfl h0
      · exact hblock rest hr (.inr ⟨hp, he⟩)
      · have hlen := (downOf_len ns x.sent (d := x.fed.2) (by rw [hd]; intro y hy; simp at hy; subst hy; omega)).1
        have h2 : x.fed.2.length = 2 := by rw [hd]; rfl
        have hf := Rc.put_few (r := x.r.tick) (d := downOf ns x.sent x.fed.2) (by rw [hb]; simp only [List.length_nil]; omega)
        rw [hb] at hf
        simp only [List.length_nil] at hf
        exact ⟨i, by omega, hf.1.trans hdat, .inr (.inr ⟨hp, by omega, fun h => absurd h he⟩)⟩
end
end Go.Proofs.Ythdkmgeigdoglaa.SL
