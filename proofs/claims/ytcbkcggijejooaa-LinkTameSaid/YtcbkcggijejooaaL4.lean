import Derived.Test.YtcbkcggijejooaaL3
/- A talk without noise. No statement is proved here. -/
set_option linter.unusedVariables false
set_option linter.unusedSimpArgs false
set_option maxRecDepth 100000
namespace Go.Proofs.Ytcbkcggijejooaa.SL
open Go Go.RowKit
section
theorem blockL_len' (lead num : Int) (l : List Int) (crc : Bool) : (blockL lead num l crc).length = 3 + l.length + (trailL l crc).length := by unfold blockL; simp; omega
theorem scan_of_block' {m : Nat} {num : Int} {l rest : List Int} {crc : Bool} (hm : l.length = m) (hm2 : m = 128 ∨ m = 1024) (h2 : 0 ≤ num ∧ num ≤ 255) :
    scanS (blockL (leadOf m) num l crc ++ rest) crc = 2 ∧ rd (blockL (leadOf m) num l crc ++ rest) 1 = num ∧ scanD (blockL (leadOf m) num l crc ++ rest) crc = l := by
  have hl := blockL_len' (leadOf m) num l crc
  have ht := trailL_len l crc
  have ht0 := trailL_len [] crc
  have e0 : rd (blockL (leadOf m) num l crc ++ rest) 0 = leadOf m := rfl
  have e1 : rd (blockL (leadOf m) num l crc ++ rest) 1 = num := rfl
  have e2 : rd (blockL (leadOf m) num l crc ++ rest) 2 = 255 - num := rfl
  have hs : sizeL (leadOf m) crc = (blockL (leadOf m) num l crc).length := by
    rw [hl, ht, hm]
    rcases hm2 with rfl | rfl <;> cases crc <;> rfl
  have hT : scanT (blockL (leadOf m) num l crc ++ rest) crc = 3 + m := by
    unfold scanT
    rw [e0, hs, hl, ht, ht0, hm]
    split <;> omega
  have hD : scanD (blockL (leadOf m) num l crc ++ rest) crc = l := by
    unfold scanD
    rw [hT, List.take_append_of_le_length (by omega)]
    unfold blockL
    rw [List.append_assoc, List.take_append]
    simp only [List.length_cons, List.length_nil, Nat.zero_add, Nat.reduceAdd]
    rw [List.take_of_length_le (by simp), show 3 + m - 3 = m by omega, List.take_append_of_le_length (by omega), List.take_of_length_le (by omega)]
    rfl
  have hE : scanE (blockL (leadOf m) num l crc ++ rest) crc = trailL l crc := by
    unfold scanE
    rw [hT, e0, hs, List.take_left]
    unfold blockL
    rw [List.drop_append_of_le_length (by simp; omega), List.drop_of_length_le (by simp; omega), List.nil_append]
  refine ⟨?_, e1, hD⟩
  unfold scanS
  rw [if_neg (by rw [List.length_append]; omega), e0, if_neg (by rw [hs]; omega), e1, e2, if_neg (by omega), if_neg (by rw [hs, List.length_append]; omega), hD, hE, if_pos rfl]
/-- a block at a receiver that waits for it -/
theorem Rc.put_block {r : Rc} {q : List Int} {num : Int} (hb : r.buf = []) (ho : r.over = false) (hc : r.close = true) (hn : num = r.number) (h2 : 0 ≤ num ∧ num ≤ 255) (hq : q.length = 128 ∨ q.length = 1024) :
    r.put (blockL (leadOf q.length) num q r.crc) = { r with left := r.wait, buf := [], dat := r.dat ++ q, number := (r.number + 1) % 256, blocks := r.blocks + 1, begun := true } ∧ r.putOut (blockL (leadOf q.length) num q r.crc) = [6] := by
  obtain ⟨s1, s2, s3⟩ := scan_of_block' (rest := []) (crc := r.crc) (l := q) rfl hq h2
  rw [List.append_nil] at s1 s2 s3
  have hl := blockL_len' (leadOf q.length) num q r.crc
  have e0 : rd (blockL (leadOf q.length) num q r.crc) 0 = leadOf q.length := rfl
  have h4 : leadOf q.length ≠ 4 ∧ leadOf q.length ≠ 24 := by unfold leadOf; split <;> omega
  have k0 : ¬ (r.over = true ∨ (blockL (leadOf q.length) num q r.crc).length = 0) := by
    rw [ho]; intro h
    rcases h with h | h
    · cases h
    · omega
  have k1 : ¬ (rd (blockL (leadOf q.length) num q r.crc) 0 = 4 ∧ r.close = true) := fun h => h4.1 (e0 ▸ h.1)
  have k2 : ¬ (rd (blockL (leadOf q.length) num q r.crc) 0 = 24 ∧ (blockL (leadOf q.length) num q r.crc).length > 1 ∧ rd (blockL (leadOf q.length) num q r.crc) 1 = 24) := fun h => h4.2 (e0 ▸ h.1)
  have k3 : ¬ (rd (blockL (leadOf q.length) num q r.crc) 0 = 24 ∧ (blockL (leadOf q.length) num q r.crc).length = 1) := fun h => h4.2 (e0 ▸ h.1)
  have k4 : ¬ scanS (blockL (leadOf q.length) num q r.crc) r.crc = 0 := by rw [s1]; decide
  constructor
  · unfold Rc.put
    rw [hb, List.nil_append, if_neg k0, if_neg k1, if_neg k2, if_neg k3, if_neg k4, if_pos s1, s2, s3]
    unfold Rc.take
    rw [if_pos (show num = ({ r.got (blockL (leadOf q.length) num q r.crc) with buf := [] } : Rc).number from hn)]
    unfold Rc.done
    rw [if_neg (by intro h; have h1 : r.close = false := h.1; rw [hc] at h1; cases h1)]
    rfl
  · unfold Rc.putOut
    rw [hb, List.nil_append, if_neg k0, if_neg k1, if_neg k2, if_neg k3, if_neg k4, if_pos s1, s2]
    unfold Rc.takeOut
    exact if_pos hn
theorem Rc.put_eot {r : Rc} (hb : r.buf = []) (ho : r.over = false) (hc : r.close = true) : r.put [4] = { r with left := r.wait, buf := [4], over := true, err := 0 } ∧ r.putOut [4] = [6] := by
  constructor
  · unfold Rc.put
    rw [hb, List.nil_append, if_neg (by rw [ho]; simp), if_pos ⟨rfl, hc⟩]
    unfold Rc.fin Rc.got
    rw [hb]
    rfl
  · unfold Rc.putOut
    rw [hb, List.nil_append, if_neg (by rw [ho]; simp), if_pos ⟨rfl, hc⟩]
/-- the talk without noise, after i + 1 ticks -/
def cA (ct w t0 k : Int) (qs : List (List Int)) (crc : Bool) (i : Nat) : Lk := ⟨⟨ct, w, qs, true, crc, 1, i, 1, w, false, 0⟩, ⟨crc, w, t0, w, (((0 + (i + 1) + 1) % 256 : Nat) : Int), true, true, [], (qs.take (i + 1)).flatten, (i : Int) + 1, k, false, 0⟩, [6], i + 1, i + 1, false, 0, 0⟩
def cE (ct w t0 k nb : Int) (bg : Bool) (qs : List (List Int)) (crc : Bool) (nm : Int) : Lk := ⟨⟨ct, w, qs, true, crc, 2, qs.length, 1, w, false, 0⟩, ⟨crc, w, t0, w, nm, bg, true, [4], qs.flatten, nb, k, true, 0⟩, [6], qs.length + 1, qs.length + 1, false, 0, 0⟩
theorem next_ne {ns : List Nz} {x : Lk} {s : Sn} {d d' : List Int} {r : Rc} {u : List Int} (h : x.fed = (s, d)) (h0 : d.length ≠ 0) (hd : downOf ns x.sent d = d') (hr : x.r.tick.put d' = r) (hu : x.r.tick.putOut d' = u) : x.next ns = ⟨s, r, u, x.ticks + 1, x.sent + 1, false, x.s.err, x.r.err⟩ := by
  unfold Lk.next
  rw [h]
  simp only
  rw [if_neg h0, hd, hr, hu]
theorem next_eq {ns : List Nz} {x : Lk} {s : Sn} (h : x.fed = (s, [])) : x.next ns = ⟨s, x.r.tick, [], x.ticks + 1, x.sent, false, x.s.err, x.r.err⟩ := by
  unfold Lk.next
  rw [h]
  exact if_pos rfl
theorem block_ne (a b : Int) (l : List Int) (crc : Bool) : (blockL a b l crc).length ≠ 0 := by rw [blockL_len']; omega
theorem bytes_at {s : Sn} {q : List Int} (h : s.qs[s.at_]? = some q) : s.bytes = blockL (leadOf q.length) (((0 + s.at_ + 1) % 256 : Nat) : Int) q s.crc := by
  unfold Sn.bytes
  rw [h]
theorem clean_mid {ct w t0 k : Int} {qs : List (List Int)} {crc : Bool} {i : Nat} (hw : 2 ≤ w) (hq : ∀ q ∈ qs, q.length = 128 ∨ q.length = 1024) (hi : i + 1 < qs.length) : (cA ct w t0 k qs crc i).next [] = cA ct w t0 k qs crc (i + 1) := by
  have hg : qs[i + 1]? = some qs[i + 1] := List.getElem?_eq_getElem hi
  have hf : (cA ct w t0 k qs crc i).fed = (⟨ct, w, qs, true, crc, 1, i + 1, 1, w, false, 0⟩, blockL (leadOf qs[i + 1].length) (((0 + (i + 1) + 1) % 256 : Nat) : Int) qs[i + 1] crc) := by
    have hw1 : 1 < w := by omega
    simp [Lk.fed, cA, Rc.tickOut, Sn.tick, Sn.tickOut, hw1, feed, Sn.put, Sn.putOut, Sn.can1, Sn.next, hi, Sn.now, Sn.bytes, hg]
  have ht : (cA ct w t0 k qs crc i).r.tick = ⟨crc, w, t0, w - 1, (((0 + (i + 1) + 1) % 256 : Nat) : Int), true, true, [], (qs.take (i + 1)).flatten, (i : Int) + 1, k, false, 0⟩ := by
    have hw1 : 1 < w := by omega
    simp [cA, Rc.tick, hw1]
  have hp := Rc.put_block (r := ⟨crc, w, t0, w - 1, (((0 + (i + 1) + 1) % 256 : Nat) : Int), true, true, [], (qs.take (i + 1)).flatten, (i : Int) + 1, k, false, 0⟩) (q := qs[i + 1]) (num := (((0 + (i + 1) + 1) % 256 : Nat) : Int)) rfl rfl rfl rfl (by omega) (hq _ (List.getElem_mem hi))
  rw [next_ne hf (block_ne _ _ _ _) (show downOf [] _ _ = _ from rfl) ((congrArg (fun r => Rc.put r _) ht).trans hp.1) ((congrArg (fun r => Rc.putOut r _) ht).trans hp.2)]
  have hfl : (qs.take (i + 1)).flatten ++ qs[i + 1] = (qs.take (i + 1 + 1)).flatten := by
    rw [List.take_add_one (i := i + 1), hg, List.flatten_append]
    exact congrArg (_ ++ ·) (List.append_nil _).symm
  have hnm : ((((0 + (i + 1) + 1) % 256 : Nat) : Int) + 1) % 256 = (((0 + (i + 1 + 1) + 1) % 256 : Nat) : Int) := by omega
  simp only [hfl, hnm]
  rfl
theorem clean_last {ct w t0 k : Int} {qs : List (List Int)} {crc : Bool} {i : Nat} (hw : 2 ≤ w) (hi : i + 1 = qs.length) : ∃ nb nm, (cA ct w t0 k qs crc i).next [] = cE ct w t0 k nb true qs crc nm := by
  have hw1 : 1 < w := by omega
  have hnl : ¬ i + 1 < qs.length := by omega
  have hf : (cA ct w t0 k qs crc i).fed = (⟨ct, w, qs, true, crc, 2, qs.length, 1, w, false, 0⟩, [4]) := by
    simp [Lk.fed, cA, Rc.tickOut, Sn.tick, Sn.tickOut, hw1, feed, Sn.put, Sn.putOut, Sn.can1, Sn.next, hi, Sn.now]
  have ht : (cA ct w t0 k qs crc i).r.tick = ⟨crc, w, t0, w - 1, (((0 + (i + 1) + 1) % 256 : Nat) : Int), true, true, [], (qs.take (i + 1)).flatten, (i : Int) + 1, k, false, 0⟩ := by
    simp [cA, Rc.tick, hw1]
  have hp := Rc.put_eot (r := ⟨crc, w, t0, w - 1, (((0 + (i + 1) + 1) % 256 : Nat) : Int), true, true, [], (qs.take (i + 1)).flatten, (i : Int) + 1, k, false, 0⟩) rfl rfl rfl
  refine ⟨(i : Int) + 1, (((0 + (i + 1) + 1) % 256 : Nat) : Int), ?_⟩
  rw [next_ne hf (by decide) (show downOf [] _ _ = _ from rfl) ((congrArg (fun r => Rc.put r _) ht).trans hp.1) ((congrArg (fun r => Rc.putOut r _) ht).trans hp.2), hi, List.take_length]
  unfold cE
  simp only [← hi]
  rfl
theorem clean_end {ct w t0 k nb nm : Int} {bg : Bool} {qs : List (List Int)} {crc : Bool} (hw : 2 ≤ w) : (cE ct w t0 k nb bg qs crc nm).next [] = ⟨⟨ct, w, qs, true, crc, 3, qs.length, 1, w, false, 0⟩, ⟨crc, w, t0, w, nm, bg, true, [4], qs.flatten, nb, k, true, 0⟩, [], qs.length + 2, qs.length + 1, false, 0, 0⟩ := by
  have hw1 : 1 < w := by omega
  have hf : (cE ct w t0 k nb bg qs crc nm).fed = (⟨ct, w, qs, true, crc, 3, qs.length, 1, w, false, 0⟩, []) := by
    simp [Lk.fed, cE, Rc.tickOut, Sn.tick, Sn.tickOut, hw1, feed, Sn.put, Sn.putOut, Sn.can1, Sn.next, Sn.now]
  rw [next_eq hf]
  rfl
theorem run_over {ns : List Nz} {x : Lk} {n : Nat} (h : x.isOver = true) : x.run ns (n + 1) = { x with ov := true, e1 := x.s.err, e2 := x.r.err } := if_pos h
theorem run_step {ns : List Nz} {x : Lk} {n : Nat} (h : x.isOver = false) : x.run ns (n + 1) = (x.next ns).run ns n := by
  show (if x.isOver = true then _ else _) = _
  rw [h]
  rfl
/-- where it ends -/
def cZ (ct w t0 k nb : Int) (bg : Bool) (qs : List (List Int)) (crc : Bool) (nm : Int) : Lk := ⟨⟨ct, w, qs, true, crc, 3, qs.length, 1, w, false, 0⟩, ⟨crc, w, t0, w, nm, bg, true, [4], qs.flatten, nb, k, true, 0⟩, [], qs.length + 2, qs.length + 1, true, 0, 0⟩
theorem clean_E {ct w t0 k nb nm : Int} {bg : Bool} {qs : List (List Int)} {crc : Bool} (hw : 2 ≤ w) (n : Nat) : (cE ct w t0 k nb bg qs crc nm).run [] (n + 2) = cZ ct w t0 k nb bg qs crc nm := by
  rw [run_step rfl, clean_end hw, run_over rfl]
  rfl
theorem clean_A {ct w t0 k : Int} {qs : List (List Int)} {crc : Bool} (hw : 2 ≤ w) (hq : ∀ q ∈ qs, q.length = 128 ∨ q.length = 1024) : ∀ (j i n : Nat), i + 1 + j = qs.length → ∃ nb nm, (cA ct w t0 k qs crc i).run [] (n + j + 3) = cZ ct w t0 k nb true qs crc nm
  | 0, i, n, h => by
    obtain ⟨nb, nm, he⟩ := clean_last (ct := ct) (t0 := t0) (k := k) (crc := crc) hw h
    refine ⟨nb, nm, ?_⟩
    rw [run_step rfl, he]
    exact clean_E hw n
  | j + 1, i, n, h => by
    obtain ⟨nb, nm, he⟩ := clean_A (ct := ct) (t0 := t0) (k := k) (crc := crc) hw hq j (i + 1) n (by omega)
    refine ⟨nb, nm, ?_⟩
    rw [show n + (j + 1) + 3 = (n + j + 3) + 1 by omega, run_step rfl, clean_mid hw hq (by omega)]
    exact he
/-- a talk without noise -/
theorem clean_run {a b number : Int} {qs : List (List Int)} {crc : Bool} (hb : 2 ≤ b) (hq : ∀ q ∈ qs, q.length = 128 ∨ q.length = 1024) (n : Nat) : ∃ ct w t0 k nb bg nm, (Lk.start (Sn.of a b qs crc true) (Rc.of a b 1 crc true number)).run [] (n + qs.length + 3) = cZ ct w t0 k nb bg qs crc nm := by
  obtain ⟨w, hw⟩ : ∃ w, max 1 (min b 99) = w := ⟨_, rfl⟩
  obtain ⟨t, ht⟩ : ∃ t, max 1 (min a 9) = t := ⟨_, rfl⟩
  have hw2 : 2 ≤ w := by omega
  have hw1 : 1 < w := by omega
  have ht1 : ¬ t = 0 := by omega
  unfold Sn.of Rc.of
  rw [hw, ht]
  have hr : (Lk.start (⟨t, w, qs, true, crc, 0, 0, 1, w, false, 0⟩ : Sn) (⟨crc, w, t, 1, 1, false, true, [], [], 0, max 1 number, false, 0⟩ : Rc)).r.tick = ⟨crc, w, t - 1, w, 1, false, true, [], [], 0, max 1 number, false, 0⟩ := by
    simp [Lk.start, Rc.tick, ht1]
  rcases Nat.eq_zero_or_pos qs.length with h0 | h0
  · have hqn : qs = [] := List.length_eq_zero_iff.1 h0
    subst hqn
    have hf : (Lk.start (⟨t, w, [], true, crc, 0, 0, 1, w, false, 0⟩ : Sn) (⟨crc, w, t, 1, 1, false, true, [], [], 0, max 1 number, false, 0⟩ : Rc)).fed = (⟨t, w, [], true, crc, 2, 0, 1, w, false, 0⟩, [4]) := by
      cases crc <;> simp [Lk.start, Lk.fed, Rc.tickOut, Rc.askB, ht1, Sn.tick, Sn.tickOut, hw1, feed, Sn.put, Sn.putOut, Sn.can1, Sn.next, Sn.now]
    have hp := Rc.put_eot (r := ⟨crc, w, t - 1, w, 1, false, true, [], [], 0, max 1 number, false, 0⟩) rfl rfl rfl
    refine ⟨t, w, t - 1, max 1 number, 0, false, 1, ?_⟩
    rw [show n + ([] : List (List Int)).length + 3 = (n + 2) + 1 from rfl, run_step rfl, next_ne hf (by decide) (show downOf [] _ _ = _ from rfl) ((congrArg (fun r => Rc.put r _) hr).trans hp.1) ((congrArg (fun r => Rc.putOut r _) hr).trans hp.2)]
    exact clean_E hw2 n
  · have hg : qs[0]? = some qs[0] := List.getElem?_eq_getElem h0
    have hf : (Lk.start (⟨t, w, qs, true, crc, 0, 0, 1, w, false, 0⟩ : Sn) (⟨crc, w, t, 1, 1, false, true, [], [], 0, max 1 number, false, 0⟩ : Rc)).fed = (⟨t, w, qs, true, crc, 1, 0, 1, w, false, 0⟩, blockL (leadOf qs[0].length) 1 qs[0] crc) := by
      cases crc <;> simp [Lk.start, Lk.fed, Rc.tickOut, Rc.askB, ht1, Sn.tick, Sn.tickOut, hw1, feed, Sn.put, Sn.putOut, Sn.can1, Sn.next, Sn.now, Sn.bytes, h0]
    have hp := Rc.put_block (r := ⟨crc, w, t - 1, w, 1, false, true, [], [], 0, max 1 number, false, 0⟩) (q := qs[0]) (num := 1) rfl rfl rfl rfl (by decide) (hq _ (List.getElem_mem h0))
    obtain ⟨nb, nm, he⟩ := clean_A (ct := t) (t0 := t - 1) (k := max 1 number) (crc := crc) hw2 hq (qs.length - 1) 0 n (by omega)
    refine ⟨t, w, t - 1, max 1 number, nb, true, nm, ?_⟩
    rw [show n + qs.length + 3 = (n + (qs.length - 1) + 3) + 1 by omega, run_step rfl, next_ne hf (block_ne _ _ _ _) (show downOf [] _ _ = _ from rfl) ((congrArg (fun r => Rc.put r _) hr).trans hp.1) ((congrArg (fun r => Rc.putOut r _) hr).trans hp.2)]
    rw [← he]
    congr 1
    have hfl : (qs.take (0 + 1)).flatten = qs[0] := by
      rw [List.take_add_one (i := 0), hg, List.take_zero, List.nil_append]
      exact List.append_nil _
    unfold cA
    rw [hfl]
    rfl
end
end Go.Proofs.Ytcbkcggijejooaa.SL
