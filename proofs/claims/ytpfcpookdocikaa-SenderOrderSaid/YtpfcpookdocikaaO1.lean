import Derived.Test.YtpfcpookdocikaaS3
/- How often a sender sends a block: plain Lean. No statement is proved here. -/
set_option linter.unusedVariables false
set_option linter.unusedSimpArgs false
namespace Go.Proofs.Ytpfcpookdocikaa.SL
open Go Go.RowKit
theorem blockL_len' (lead num : Int) (l : List Int) (crc : Bool) : (blockL lead num l crc).length = 3 + l.length + (trailL l crc).length := by unfold blockL; simp; omega
theorem scan_of_block' {m : Nat} {num : Int} {l rest : List Int} {crc : Bool} (hm : l.length = m) (hm2 : m = 128 ∨ m = 1024) (h2 : 0 ≤ num ∧ num ≤ 255) :
    scanS (blockL (leadOf m) num l crc ++ rest) crc = 2 ∧ rd (blockL (leadOf m) num l crc ++ rest) 1 = num ∧ scanD (blockL (leadOf m) num l crc ++ rest) crc = l := by
  have hl := blockL_len' (leadOf m) num l crc
  have ht := trailL_len l crc
  have ht0 := trailL_len [] crc
  have e0 : rd (blockL (leadOf m) num l crc ++ rest) 0 = leadOf m := rfl
  have e1 : rd (blockL (leadOf m) num l crc ++ rest) 1 = num := rfl
  have e2 : rd (blockL (leadOf m) num l crc ++ rest) 2 = 255 - num := rfl
  have hs : sizeL (leadOf m) crc = (blockL (leadOf m) num l crc).length := by
    rw [hl, ht, hm]
    rcases hm2 with rfl | rfl <;> cases crc <;> rfl
  have hT : scanT (blockL (leadOf m) num l crc ++ rest) crc = 3 + m := by
    unfold scanT
    rw [e0, hs, hl, ht, ht0, hm]
    split <;> omega
  have hD : scanD (blockL (leadOf m) num l crc ++ rest) crc = l := by
    unfold scanD
    rw [hT, List.take_append_of_le_length (by omega)]
    unfold blockL
    rw [List.append_assoc, List.take_append]
    simp only [List.length_cons, List.length_nil, Nat.zero_add, Nat.reduceAdd]
    rw [List.take_of_length_le (by simp), show 3 + m - 3 = m by omega, List.take_append_of_le_length (by omega), List.take_of_length_le (by omega)]
    rfl
  have hE : scanE (blockL (leadOf m) num l crc ++ rest) crc = trailL l crc := by
    unfold scanE
    rw [hT, e0, hs, List.take_left]
    unfold blockL
    rw [List.drop_append_of_le_length (by simp; omega), List.drop_of_length_le (by simp; omega), List.nil_append]
  refine ⟨?_, e1, hD⟩
  unfold scanS
  rw [if_neg (by rw [List.length_append]; omega), e0, if_neg (by rw [hs]; omega), e1, e2, if_neg (by omega), if_neg (by rw [hs, List.length_append]; omega), hD, hE, if_pos rfl]
/-- so often each block was sent -/
structure Ord (s : Sn) (cnt : Nat → Int) : Prop where
  d1 : s.phase = 1 → cnt s.at_ = s.tries ∧ ∀ j, s.at_ < j → cnt j = 0
  z : s.phase = 0 → s.at_ = 0 ∧ ∀ j, cnt j = 0
  e : s.phase = 2 → ¬ s.at_ < s.qs.length
/-- a block is sent -/
structure Snd (n : Nat) (s : Sn) (out : List Int) (cnt : Nat → Int) : Prop where
  at_ : n ≤ s.at_
  ph : s.phase = 1
  out : out = s.bytes
  lt : s.at_ < s.qs.length
  one : cnt s.at_ + 1 = s.tries
  few : s.tries ≤ s.ct
  up : ∀ j, s.at_ < j → cnt j = 0
def Step (n : Nat) (s : Sn) (out : List Int) (cnt : Nat → Int) : Prop := (3 ≤ out.length → Snd n s out cnt) ∧ (¬ 3 ≤ out.length → Ord s cnt)
theorem Ord.over {s : Sn} {cnt : Nat → Int} (h : s.phase = 3) : Ord s cnt := ⟨fun e => absurd (h.symm.trans e) (by decide), fun e => absurd (h.symm.trans e) (by decide), fun e => absurd (h.symm.trans e) (by decide)⟩
theorem bytes_len {s : Sn} (h : s.at_ < s.qs.length) : 3 ≤ s.bytes.length := by
  unfold Sn.bytes
  rw [List.getElem?_eq_getElem h]
  simp only [blockL_len']
  omega
theorem Step.none {n : Nat} {s : Sn} {out : List Int} {cnt : Nat → Int} (ho : out.length < 3) (h : Ord s cnt) : Step n s out cnt := ⟨fun h3 => by omega, fun _ => h⟩
theorem Step.some {n : Nat} {s : Sn} {out : List Int} {cnt : Nat → Int} (h : Snd n s out cnt) : Step n s out cnt := ⟨fun _ => h, fun h3 => absurd (by rw [h.out]; exact bytes_len h.lt) h3⟩
theorem next_step {t : Sn} {cnt : Nat → Int} {n : Nat} (hn : n ≤ t.at_) (hct : 1 ≤ t.ct) (h0 : t.at_ < t.qs.length → ∀ j, t.at_ ≤ j → cnt j = 0) : Step n t.next t.next.now cnt := by
  unfold Sn.next
  split
  · rename_i hlt
    refine Step.some ⟨hn, rfl, rfl, hlt, ?_, hct, fun j hj => h0 hlt j (Nat.le_of_lt hj)⟩
    show cnt t.at_ + 1 = 1
    rw [h0 hlt t.at_ (Nat.le_refl _)]
    rfl
  · rename_i hge
    split
    · exact Step.none (by show ([4] : List Int).length < 3; decide) ⟨(fun e => absurd (show (2 : Int) = 1 from e) (by decide)), (fun e => absurd (show (2 : Int) = 0 from e) (by decide)), fun _ => hge⟩
    · exact Step.none (by show ([] : List Int).length < 3; decide) (Ord.over rfl)
theorem again_step {t : Sn} {cnt : Nat → Int} {n : Nat} (hn : n ≤ t.at_) (hF : t.phase = 1 → t.at_ < t.qs.length) (ho : Ord t cnt) : Step n t.again t.againOut cnt := by
  unfold Sn.again Sn.againOut
  by_cases h : t.tries ≥ t.ct
  · rw [if_pos h, if_pos h]
    exact Step.none (by decide) (Ord.over rfl)
  · rw [if_neg h, if_neg h]
    by_cases h1 : t.phase = 1
    · have hd := ho.d1 h1
      refine Step.some ⟨hn, h1, ?_, hF h1, ?_, by show t.tries + 1 ≤ t.ct; omega, hd.2⟩
      · unfold Sn.now
        rw [if_pos h1]
        rfl
      · show cnt t.at_ + 1 = t.tries + 1
        rw [hd.1]
    · refine Step.none ?_ ⟨fun e => absurd e h1, fun e => ho.z e, fun e => ho.e e⟩
      unfold Sn.now
      rw [if_neg h1]
      split <;> decide
theorem Ord.can1 {s : Sn} {cnt : Nat → Int} (h : Ord s cnt) (c : Int) : Ord (s.can1 c) cnt := ⟨h.d1, h.z, h.e⟩
theorem put_step {s : Sn} {cnt : Nat → Int} (hF : s.Fit) (ho : Ord s cnt) (c : Int) : Step s.at_ (s.put c) (s.putOut c) cnt := by
  have hct := hF.ct1
  unfold Sn.put Sn.putOut
  split
  · rename_i h; exact Step.none (by decide) (Ord.over h)
  · split
    · exact Step.none (by decide) (Ord.over rfl)
    · split
      · rename_i h
        have hz := ho.z h.1
        exact next_step (t := { s.can1 c with crc := c == 67 }) (Nat.le_refl _) hct.1 (fun _ j _ => hz.2 j)
      · split
        · exact Step.none (by decide) (ho.can1 c)
        · split
          · split
            · rename_i h1
              exact next_step (t := { s.can1 c with at_ := s.at_ + 1 }) (Nat.le_succ _) hct.1 (fun _ j hj => (ho.d1 h1).2 j hj)
            · have hph := hF.ph
              have h2' : s.phase = 2 := by omega
              exact next_step (t := s.can1 c) (Nat.le_refl _) hct.1 (fun hlt => absurd hlt (ho.e h2'))
          · split
            · exact again_step (t := s.can1 c) (Nat.le_refl _) hF.dat (ho.can1 c)
            · exact Step.none (by decide) (ho.can1 c)
theorem tick_step {s : Sn} {cnt : Nat → Int} (hF : s.Fit) (ho : Ord s cnt) : Step s.at_ s.tick s.tickOut cnt := by
  unfold Sn.tick Sn.tickOut
  split
  · rename_i h; exact Step.none (by decide) ho
  · split
    · exact Step.none (by decide) ⟨ho.d1, ho.z, ho.e⟩
    · exact again_step (t := { s with left := s.left - 1 }) (Nat.le_refl _) hF.dat ⟨ho.d1, ho.z, ho.e⟩
theorem next_ct (t : Sn) : t.next.ct = t.ct := by unfold Sn.next; split; rfl; split <;> rfl
theorem again_ct (t : Sn) : t.again.ct = t.ct := by unfold Sn.again; split <;> rfl
theorem put_ct (s : Sn) (c : Int) : (s.put c).ct = s.ct := by
  unfold Sn.put
  repeat' split
  all_goals first | rfl | (rw [next_ct]; rfl) | (rw [again_ct]; rfl)
theorem tick_ct (s : Sn) : s.tick.ct = s.ct := by
  unfold Sn.tick
  repeat' split
  all_goals first | rfl | (rw [again_ct])
/-- behind a block that was sent it was sent once more -/
def cntUp (cnt : Nat → Int) (k : Nat) : Nat → Int := fun j => if j = k then cnt k + 1 else cnt j
theorem Snd.next {n : Nat} {s : Sn} {out : List Int} {cnt : Nat → Int} (h : Snd n s out cnt) : Ord s (cntUp cnt s.at_) := by
  refine ⟨fun _ => ⟨?_, fun j hj => ?_⟩, fun e => absurd (h.ph.symm.trans e) (by decide), fun e => absurd (h.ph.symm.trans e) (by decide)⟩
  · unfold cntUp; rw [if_pos rfl]; exact h.one
  · unfold cntUp; rw [if_neg (by omega)]; exact h.up j hj
end Go.Proofs.Ytpfcpookdocikaa.SL
