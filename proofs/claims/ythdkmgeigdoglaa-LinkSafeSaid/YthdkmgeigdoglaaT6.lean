import Derived.Test.YthdkmgeigdoglaaT5
/- A talk with noise behind the number: whole. No statement is proved here. -/
set_option linter.unusedVariables false
set_option linter.unusedSimpArgs false
set_option maxRecDepth 100000
namespace Go.Proofs.Ythdkmgeigdoglaa.SL
open Go Go.RowKit
section
theorem inv_run {w : Int} {qs : List (List Int)} {crc : Bool} {ns : List Nz} (hns : ∀ z ∈ ns, 3 ≤ z.at_ ∧ z.at_ ≤ 102) (hw : 2 ≤ w) (hqs : ∀ q ∈ qs, U8s q ∧ q.length = 128) : ∀ (n : Nat) (x : Lk), x.Fit qs → Inv w qs crc x → Inv w qs crc (x.run ns n)
  | 0, x, hF, h => h
  | n + 1, x, hF, h => by
    cases ho : x.isOver with
    | true => rw [run_over ho]; exact h
    | false => rw [run_step ho]; exact inv_run hns hw hqs n _ (hF.next ns) (inv_step hns hw hqs hF h)
theorem run_ov {ns : List Nz} : ∀ (n : Nat) (x : Lk), x.ov = false → (x.run ns n).ov = true → (x.run ns n).s.phase = 3 ∧ (x.run ns n).e1 = (x.run ns n).s.err
  | 0, x, h, h2 => by rw [show x.run ns 0 = x from rfl, h] at h2; cases h2
  | n + 1, x, h, h2 => by
    cases ho : x.isOver with
    | true =>
      rw [run_over ho]
      refine ⟨?_, rfl⟩
      unfold Lk.isOver at ho
      have h3 : (x.s.phase == 3) = true := by cases h : (x.s.phase == 3) <;> simp_all
      exact eq_of_beq h3
    | false =>
      rw [run_step ho] at h2 ⊢
      exact run_ov n _ (next_more ns x).2.2.2 h2
theorem inv_start {a b : Int} {qs : List (List Int)} {crc : Bool} {ns : List Nz} (hns : ∀ z ∈ ns, 3 ≤ z.at_ ∧ z.at_ ≤ 102) (hb : 2 ≤ b) (hqs : ∀ q ∈ qs, U8s q ∧ q.length = 128) (hm : qs.length ≤ 65535) : Inv (max 1 (min b 99)) qs crc ((Lk.start (Sn.of a b qs crc true) (Rc.of a b 1 crc true 1)).next ns) := by
  obtain ⟨w, hw⟩ : ∃ w, max 1 (min b 99) = w := ⟨_, rfl⟩
  obtain ⟨t, ht⟩ : ∃ t, max 1 (min a 9) = t := ⟨_, rfl⟩
  have hw1 : 1 < w := by omega
  have ht1 : ¬ t = 0 := by omega
  have hfit := start_fit (a := a) (b := b) (a' := a) (b' := b) (number := 1) (many := 1) (crc := crc) (close := true) hm (fun q hq => ⟨(hqs q hq).1, .inl (hqs q hq).2⟩) (by decide)
  have hfd8 := hfit.fed
  unfold Sn.of Rc.of at hfd8 ⊢
  rw [hw, ht] at hfd8
  rw [hw, ht]
  have hr : (Lk.start (⟨t, w, qs, true, crc, 0, 0, 1, w, false, 0⟩ : Sn) (⟨crc, w, t, 1, 1, false, true, [], [], 0, max 1 1, false, 0⟩ : Rc)).r.tick = ⟨crc, w, t - 1, w, 1, false, true, [], [], 0, max 1 1, false, 0⟩ := by
    simp [Lk.start, Rc.tick, ht1]
  rcases Nat.eq_zero_or_pos qs.length with h0 | h0
  · have hqn : qs = [] := List.length_eq_zero_iff.1 h0
    subst hqn
    have hf : (Lk.start (⟨t, w, [], true, crc, 0, 0, 1, w, false, 0⟩ : Sn) (⟨crc, w, t, 1, 1, false, true, [], [], 0, max 1 1, false, 0⟩ : Rc)).fed = (⟨t, w, [], true, crc, 2, 0, 1, w, false, 0⟩, [4]) := by
      cases crc <;> simp [Lk.start, Lk.fed, Rc.tickOut, Rc.askB, ht1, Sn.tick, Sn.tickOut, hw1, feed, Sn.put, Sn.putOut, Sn.can1, Sn.next, Sn.now]
    obtain ⟨e1, e2, e3⟩ := next_some (ns := ns) (x := Lk.start (⟨t, w, [], true, crc, 0, 0, 1, w, false, 0⟩ : Sn) (⟨crc, w, t, 1, 1, false, true, [], [], 0, max 1 1, false, 0⟩ : Rc)) (by rw [hf]; intro h; exact absurd (show ([4] : List Int).length = 0 from h) (by decide))
    unfold Inv
    rw [e1, e2, e3, hr, hf]
    have hlen := (downOf_len ns (Lk.start (⟨t, w, [], true, crc, 0, 0, 1, w, false, 0⟩ : Sn) (⟨crc, w, t, 1, 1, false, true, [], [], 0, max 1 1, false, 0⟩ : Rc)).sent (d := [4]) (U8s.one (by decide) (by decide))).1
    have hl1 : ([4] : List Int).length = 1 := rfl
    have hf2 := Rc.put_few (r := ⟨crc, w, t - 1, w, 1, false, true, [], [], 0, max 1 1, false, 0⟩) (d := downOf ns (Lk.start (⟨t, w, [], true, crc, 0, 0, 1, w, false, 0⟩ : Sn) (⟨crc, w, t, 1, 1, false, true, [], [], 0, max 1 1, false, 0⟩ : Rc)).sent [4]) (by show 0 + _ < 132; omega)
    have hkp := Rc.put_keep ⟨crc, w, t - 1, w, 1, false, true, [], [], 0, max 1 1, false, 0⟩ (downOf ns (Lk.start (⟨t, w, [], true, crc, 0, 0, 1, w, false, 0⟩ : Sn) (⟨crc, w, t, 1, 1, false, true, [], [], 0, max 1 1, false, 0⟩ : Rc)).sent [4])
    refine ⟨hkp.1, hkp.2.1, hkp.2.2, 0, Nat.le_refl _, hf2.1, .inr (.inl ⟨rfl, Nat.le_refl _, rfl, ?_⟩)⟩
    refine (Int.ofNat_le (n := 1)).2 (Nat.le_trans hf2.2 ?_)
    show 0 + _ ≤ 1
    omega
  · have hg : qs[0]? = some qs[0] := List.getElem?_eq_getElem h0
    have hf : (Lk.start (⟨t, w, qs, true, crc, 0, 0, 1, w, false, 0⟩ : Sn) (⟨crc, w, t, 1, 1, false, true, [], [], 0, max 1 1, false, 0⟩ : Rc)).fed = (⟨t, w, qs, true, crc, 1, 0, 1, w, false, 0⟩, blockL (leadOf qs[0].length) 1 qs[0] crc) := by
      cases crc <;> simp [Lk.start, Lk.fed, Rc.tickOut, Rc.askB, ht1, Sn.tick, Sn.tickOut, hw1, feed, Sn.put, Sn.putOut, Sn.can1, Sn.next, Sn.now, Sn.bytes, h0]
    have hq1 := hqs _ (List.getElem_mem h0)
    refine inv_block hns h0 hg hq1.2 hq1.1 ?_ (by rw [hr]) (by rw [hr]; rfl) (by rw [hr]; rfl) (by rw [hr]) (by rw [hr]) (by rw [hr])
    rw [hf, hq1.2]
    exact .inl ⟨⟨rfl, rfl, rfl, rfl, rfl, rfl, rfl⟩, .inr ⟨⟨[], by rw [List.append_nil]; rfl⟩, rfl⟩⟩
/-- whatever one byte behind the number is turned, or lost: what is taken is a beginning; all, where the sender ends well -/
theorem safe_run {a b : Int} {qs : List (List Int)} {crc : Bool} {ns : List Nz} (hns : ∀ z ∈ ns, 3 ≤ z.at_ ∧ z.at_ ≤ 102) (hb : 2 ≤ b) (hqs : ∀ q ∈ qs, U8s q ∧ q.length = 128) (hm : qs.length ≤ 65535) (n : Nat) :
    ∃ k, k ≤ qs.length ∧ ((Lk.start (Sn.of a b qs crc true) (Rc.of a b 1 crc true 1)).run ns (n + 1)).r.dat = (qs.take k).flatten ∧ (((Lk.start (Sn.of a b qs crc true) (Rc.of a b 1 crc true 1)).run ns (n + 1)).ov = true → ((Lk.start (Sn.of a b qs crc true) (Rc.of a b 1 crc true 1)).run ns (n + 1)).e1 = 0 → k = qs.length) := by
  have hfit := start_fit (a := a) (b := b) (a' := a) (b' := b) (number := 1) (many := 1) (crc := crc) (close := true) hm (fun q hq => ⟨(hqs q hq).1, .inl (hqs q hq).2⟩) (by decide)
  have hi : Inv (max 1 (min b 99)) qs crc ((Lk.start (Sn.of a b qs crc true) (Rc.of a b 1 crc true 1)).run ns (n + 1)) := by
    rw [run_step rfl]
    exact inv_run hns (by omega) hqs n _ (hfit.next ns) (inv_start hns hb hqs hm)
  have ho := run_ov (ns := ns) (n + 1) (Lk.start (Sn.of a b qs crc true) (Rc.of a b 1 crc true 1)) rfl
  obtain ⟨_, _, _, k, hk, hd, hat⟩ := hi
  refine ⟨k, hk, hd, fun h1 h2 => ?_⟩
  obtain ⟨h3, h4⟩ := ho h1
  rcases hat with ⟨i, _, hp, _⟩ | ⟨h5, _⟩ | ⟨_, _, h5⟩
  · have := hp.ph; omega
  · omega
  · exact h5 (by rw [← h4]; exact h2)
end
end Go.Proofs.Ythdkmgeigdoglaa.SL
