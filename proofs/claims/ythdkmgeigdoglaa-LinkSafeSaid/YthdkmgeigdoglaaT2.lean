import Derived.Test.YthdkmgeigdoglaaT1
/- A talk with noise behind the number: what is taken is a beginning of what was sent. No statement is proved here. -/
set_option linter.unusedVariables false
set_option linter.unusedSimpArgs false
set_option maxRecDepth 100000
namespace Go.Proofs.Ythdkmgeigdoglaa.SL
open Go Go.RowKit
section
theorem nzK_id {a : Int} {n : Nat} (h0 : 0 ≤ a) (h : a < (n : Int)) : nzK a n = a.toNat := by
  unfold nzK
  have e1 : Int.tmod a (n : Int) = a := Int.tmod_eq_of_lt h0 h
  rw [e1, Int.tmod_eq_emod_of_nonneg (by omega), Int.add_emod_right, Int.emod_eq_of_lt h0 h]
/-- a message that begins with a block, as it comes -/
theorem noisy {q rest : List Int} {num : Int} {crc : Bool} (hq : q.length = 128) (hu : U8s q) (hn : 0 ≤ num ∧ num ≤ 255) (z : Nz) (hz : 3 ≤ z.at_ ∧ z.at_ ≤ 102) :
    z.thru (blockL 1 num q crc ++ rest) = [] ∨ ((z.thru (blockL 1 num q crc ++ rest)).length ≠ 0 ∧ rd (z.thru (blockL 1 num q crc ++ rest)) 0 = 1 ∧ ((scanS (z.thru (blockL 1 num q crc ++ rest)) crc = 2 ∧ rd (z.thru (blockL 1 num q crc ++ rest)) 1 = num ∧ scanD (z.thru (blockL 1 num q crc ++ rest)) crc = q) ∨ scanS (z.thru (blockL 1 num q crc ++ rest)) crc = 1)) := by
  have hl := blockL_len' 1 num q crc
  have hl2 : (blockL 1 num q crc ++ rest).length = (blockL 1 num q crc).length + rest.length := List.length_append
  unfold Nz.thru
  split
  · exact .inl rfl
  · right
    have hk : nzK z.at_ (blockL 1 num q crc ++ rest).length = z.at_.toNat := nzK_id (by omega) (by omega)
    rw [hk]
    have hx := xor8_range (rd (blockL 1 num q crc ++ rest) ((z.at_.toNat : Nat) : Int)) z.by_
    have ht := turned_block (rest := rest) (crc := crc) hq hu hn (k := z.at_.toNat) (by omega) (by omega) _ hx.1 hx.2
    exact ⟨by rw [List.length_set]; omega, ht⟩
theorem downOf_noisy {q rest : List Int} {num : Int} {crc : Bool} (ns : List Nz) (k : Nat) (hns : ∀ z ∈ ns, 3 ≤ z.at_ ∧ z.at_ ≤ 102) (hq : q.length = 128) (hu : U8s q) (hn : 0 ≤ num ∧ num ≤ 255) :
    downOf ns k (blockL 1 num q crc ++ rest) = [] ∨ ((downOf ns k (blockL 1 num q crc ++ rest)).length ≠ 0 ∧ rd (downOf ns k (blockL 1 num q crc ++ rest)) 0 = 1 ∧ ((scanS (downOf ns k (blockL 1 num q crc ++ rest)) crc = 2 ∧ rd (downOf ns k (blockL 1 num q crc ++ rest)) 1 = num ∧ scanD (downOf ns k (blockL 1 num q crc ++ rest)) crc = q) ∨ scanS (downOf ns k (blockL 1 num q crc ++ rest)) crc = 1)) := by
  unfold downOf
  cases hz : ns[k]? with
  | some z => exact noisy hq hu hn z (hns z (List.mem_of_getElem? hz))
  | none =>
    right
    have hl := blockL_len' 1 num q crc
    have h := scan_of_block' (m := 128) (num := num) (l := q) (rest := rest) (crc := crc) hq (.inl rfl) hn
    exact ⟨by simp only [List.length_append]; omega, rfl, .inl h⟩
/-- such a message at a receiver that waits for that block -/
theorem Rc.put_msg {r : Rc} {q d : List Int} (hb : r.buf = []) (ho : r.over = false) (hc : r.close = true) (h : d = [] ∨ (d.length ≠ 0 ∧ rd d 0 = 1 ∧ ((scanS d r.crc = 2 ∧ rd d 1 = r.number ∧ scanD d r.crc = q) ∨ scanS d r.crc = 1))) :
    (r.put d = r ∧ r.putOut d = []) ∨ (r.put d = { r with left := r.wait, buf := [], dat := r.dat ++ q, number := (r.number + 1) % 256, blocks := r.blocks + 1, begun := true } ∧ r.putOut d = [6]) ∨ (r.put d = { r with left := r.wait, buf := [] } ∧ r.putOut d = [21]) := by
  rcases h with rfl | ⟨h0, h1, h2⟩
  · left
    unfold Rc.put Rc.putOut
    simp
  · right
    have k0 : ¬ (r.over = true ∨ d.length = 0) := by
      rw [ho]; intro h
      rcases h with h | h
      · cases h
      · omega
    have k1 : ¬ (rd d 0 = 4 ∧ r.close = true) := fun h => by rw [h1] at h; exact absurd h.1 (by decide)
    have k2 : ¬ (rd d 0 = 24 ∧ d.length > 1 ∧ rd d 1 = 24) := fun h => by rw [h1] at h; exact absurd h.1 (by decide)
    have k3 : ¬ (rd d 0 = 24 ∧ d.length = 1) := fun h => by rw [h1] at h; exact absurd h.1 (by decide)
    rcases h2 with ⟨s1, s2, s3⟩ | s1
    · left
      have k4 : ¬ scanS d r.crc = 0 := by rw [s1]; decide
      constructor
      · unfold Rc.put
        rw [hb, List.nil_append, if_neg k0, if_neg k1, if_neg k2, if_neg k3, if_neg k4, if_pos s1, s2, s3]
        unfold Rc.take
        rw [if_pos (show r.number = ({ r.got d with buf := [] } : Rc).number from rfl)]
        unfold Rc.done
        rw [if_neg (by intro h; have h1 : r.close = false := h.1; rw [hc] at h1; cases h1)]
        rfl
      · unfold Rc.putOut
        rw [hb, List.nil_append, if_neg k0, if_neg k1, if_neg k2, if_neg k3, if_neg k4, if_pos s1, s2]
        unfold Rc.takeOut
        exact if_pos rfl
    · right
      have k4 : ¬ scanS d r.crc = 0 := by rw [s1]; decide
      have k5 : ¬ scanS d r.crc = 2 := by rw [s1]; decide
      constructor
      · unfold Rc.put
        rw [hb, List.nil_append, if_neg k0, if_neg k1, if_neg k2, if_neg k3, if_neg k4, if_neg k5]
        rfl
      · unfold Rc.putOut
        rw [hb, List.nil_append, if_neg k0, if_neg k1, if_neg k2, if_neg k3, if_neg k4, if_neg k5]
theorem scan_long {l : List Int} {crc : Bool} (h : scanS l crc = 2) : 132 ≤ l.length := by
  unfold scanS at h
  split at h
  · cases h
  · split at h
    · cases h
    · rename_i hs
      split at h
      · cases h
      · split at h
        · cases h
        · rename_i hl
          have : 132 ≤ sizeL (rd l 0) crc := by
            unfold sizeL at hs ⊢
            split
            · split <;> omega
            · split
              · split <;> omega
              · rename_i h1 h2
                rw [if_neg h1, if_neg h2] at hs
                exact absurd rfl hs
          omega
/-- few bytes: nothing is taken -/
theorem Rc.put_few {r : Rc} {d : List Int} (h : r.buf.length + d.length < 132) : (r.put d).dat = r.dat ∧ (r.put d).buf.length ≤ r.buf.length + d.length := by
  have hl : (r.buf ++ d).length = r.buf.length + d.length := List.length_append
  unfold Rc.put
  split
  · exact ⟨rfl, by omega⟩
  · split
    · exact ⟨rfl, by show (r.buf ++ d).length ≤ _; omega⟩
    · split
      · exact ⟨rfl, by show (r.buf ++ d).length ≤ _; omega⟩
      · split
        · exact ⟨rfl, by show (r.buf ++ d).length ≤ _; omega⟩
        · split
          · exact ⟨rfl, by show (r.buf ++ d).length ≤ _; omega⟩
          · split
            · rename_i hs
              have := scan_long hs
              omega
            · exact ⟨rfl, Nat.zero_le _⟩
theorem Rc.tick_buf (r : Rc) : r.tick.buf.length ≤ r.buf.length ∧ (r.buf = [] → r.tick.buf = []) ∧ r.tick.close = r.close ∧ r.tick.crc = r.crc ∧ r.tick.wait = r.wait ∧ r.tick.number = r.number := by
  unfold Rc.tick
  split
  · exact ⟨Nat.le_refl _, fun h => h, rfl, rfl, rfl, rfl⟩
  · split
    · exact ⟨Nat.le_refl _, fun h => h, rfl, rfl, rfl, rfl⟩
    · split
      · exact ⟨Nat.zero_le _, fun _ => rfl, rfl, rfl, rfl, rfl⟩
      · split <;> exact ⟨Nat.zero_le _, fun _ => rfl, rfl, rfl, rfl, rfl⟩
theorem Rc.tick_no6 (r : Rc) : ∀ c ∈ r.tickOut, c ≠ 6 := by
  unfold Rc.tickOut
  split
  · simp
  · split
    · simp
    · split
      · simp
      · unfold Rc.askB
        split <;> simp
end
end Go.Proofs.Ythdkmgeigdoglaa.SL
