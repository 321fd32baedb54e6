import Derived.Test.YthdkmgeigdoglaaHS2
/- StoreLast, walked. -/
namespace Go.Proofs.Ythdkmgeigdoglaa.Hand
open Go.RowKit Go.Proofs.YthdkmgeigdoglaaW.PrintWords Go.Proofs.YthdkmgeigdoglaaW.PrintLast Go.Proofs.YthdkmgeigdoglaaW.PrintMore H
attribute [local go_sem] max_two min_two max_three min_three max_four min_four
set_option linter.unusedVariables false
set_option linter.unusedSimpArgs false
theorem max_nat (n k m : Nat) (h : m = max n k) : Builtin.max2 (.int .i64 (n : Int)) (.int .i64 (k : Int)) = pure (.int .i64 (m : Int)) := by
  rw [max2_int]; congr 2; split <;> omega
/-- what of two writes to one place is there -/
def over (x y : List Int) (i : Nat) : Int := if i < y.length then rd y i else if i < x.length then rd x i else 0
theorem rd_spl (bs : List Int) (q : Nat) (l : List Int) (h : q + l.length ≤ bs.length) (i : Nat) : rd (spl bs q l) ((q + i : Nat) : Int) = if i < l.length then rd l i else rd bs ((q + i : Nat) : Int) := by
  unfold rd spl
  simp only [Int.toNat_natCast, List.getD_eq_getElem?_getD]
  by_cases hi : i < l.length
  · rw [if_pos hi, List.append_assoc, List.getElem?_append_right (by simp; omega), List.getElem?_append_left (by simp; omega)]
    congr 2
    simp; omega
  · rw [if_neg hi, List.getElem?_append_right (by simp; omega), List.getElem?_drop]
    congr 2
    simp; omega
theorem rd_zer (i : Nat) : rd zer16 (i : Int) = 0 := by
  unfold rd zer16
  rw [List.getD_eq_getElem?_getD, Int.toNat_natCast, List.getElem?_replicate]
  split <;> rfl
theorem rd_cut (bs : List Int) (q n i : Nat) (h : i < n) : rd ((bs.drop q).take n) (i : Int) = rd bs ((q + i : Nat) : Int) := by
  unfold rd
  simp only [Int.toNat_natCast, List.getD_eq_getElem?_getD]
  rw [List.getElem?_take, if_pos h, List.getElem?_drop]
theorem rd_over (q : Nat) (x y : List Int) (hx : q + x.length ≤ 16384) (hy : q + y.length ≤ 16384) (n i : Nat) (h : i < n) : rd (((spl (spl zer16 q x) q y).drop q).take n) (i : Int) = over x y i := by
  rw [rd_cut _ _ _ _ h, rd_spl _ _ _ (by rw [spl_len _ _ _ (by rw [zer16_len]; omega), zer16_len]; exact hy), rd_spl _ _ _ (by rw [zer16_len]; exact hx), rd_zer]
  rfl
theorem take_take_cut (bs : List Int) (q n k : Nat) (h : k ≤ n) : ((bs.drop q).take n).take k = (bs.drop q).take k := by
  rw [List.take_take, Nat.min_eq_left h]
set_option maxHeartbeats 4000000 in
set_option maxRecDepth 100000 in
theorem StoreLast_walk (a0 : Int) (a1 : Option Addr) (c1 : Nat) (l1 : List Int) (a2 : Option Addr) (c2 : Nat) (l2 : List Int) (a3 : Int) (w : World) (hw0 : (Lit.int .u16 a0).wf = true)
    (hr1 : ReadsInt w .u8 a1 l1.length l1) (hc1 : l1.length ≤ c1) (y1 : l1.length * 1 ≤ 140737488351232) (hw1 : ∀ x ∈ l1, (Lit.int .u8 x).wf = true)
    (hr2 : ReadsInt w .u8 a2 l2.length l2) (hc2 : l2.length ≤ c2) (y2 : l2.length * 1 ≤ 140737488351232) (hw2 : ∀ x ∈ l2, (Lit.int .u8 x).wf = true) (hw3 : (Lit.int .u8 a3).wf = true) :
    Calls Try.prog 5 #[.int .u16 a0, .slice a1 l1.length c1, .slice a2 l2.length c2, .int .u8 a3] w fun e w' => e = .returned (.bool true) ∧ Below w.heap.size w w' := by
  have b0 : 0 ≤ a0 ∧ a0 ≤ 65535 := by simp [Lit.wf, IntKind.min, IntKind.max, IntKind.signed, IntKind.bits] at hw0; omega
  have b3 : 0 ≤ a3 ∧ a3 ≤ 255 := by simp [Lit.wf, IntKind.min, IntKind.max, IntKind.signed, IntKind.bits] at hw3; omega
  obtain ⟨q, hq⟩ : ∃ q : Nat, a0 % 15000 = q := ⟨(a0 % 15000).toNat, by omega⟩
  have hq8 : q < 15000 := by omega
  obtain ⟨n, hn⟩ : ∃ n, n = min l1.length 300 := ⟨_, rfl⟩
  obtain ⟨m, hm⟩ : ∃ m, m = min l2.length 300 := ⟨_, rfl⟩
  have hm1 : Builtin.min2 (.int .i64 (l1.length : Int)) (.int .i64 300) = pure (.int .i64 (n : Int)) := min_const l1.length 300 n hn
  have hm2 : Builtin.min2 (.int .i64 (l2.length : Int)) (.int .i64 300) = pure (.int .i64 (m : Int)) := min_const l2.length 300 m hm
  have hnl : n ≤ l1.length := by omega
  have hml : m ≤ l2.length := by omega
  have hn3 : n ≤ 300 := by omega
  have hm3 : m ≤ 300 := by omega
  have hnc : n ≤ c1 := by omega
  have hmc : m ≤ c2 := by omega
  have hnc' : (n : Int) ≤ (c1 : Int) := by omega
  have hmc' : (m : Int) ≤ (c2 : Int) := by omega
  obtain ⟨t, ht⟩ : ∃ t, t = max n m := ⟨_, rfl⟩
  have hmx := max_nat n m t ht
  have htn : n ≤ t := by omega
  have htm : m ≤ t := by omega
  have ht3 : t ≤ 300 := by omega
  obtain ⟨k, hk⟩ : ∃ k : Nat, a3 % ((t : Int) + 1) = k := ⟨(a3 % ((t : Int) + 1)).toNat, by have := Int.emod_nonneg a3 (show (t : Int) + 1 ≠ 0 by omega); omega⟩
  have hkt : k ≤ t := by have := Int.emod_lt_of_pos a3 (show (0 : Int) < (t : Int) + 1 by omega); omega
  have HR1 := Aside0.mk (hr1.take_ n hnl)
  have HR2 := Aside0.mk (hr2.take_ m hml)
  have HQ := Aside0.mk hq
  have HK := Aside0.mk hk
  have HTX := Aside0.mk (show t ≤ n ∨ t ≤ m by omega)
  clear hn hm ht hr1 hr2 hw0 hw1 hw2 hw3 y1 y2 hk
  obtain ⟨xs, hxs⟩ : ∃ xs, xs = l1.take n := ⟨_, rfl⟩
  obtain ⟨ys, hys⟩ : ∃ ys, ys = l2.take m := ⟨_, rfl⟩
  rw [← hxs] at HR1
  rw [← hys] at HR2
  clear hxs hys
  have HXL := Aside0.mk HR1.out.1
  have HYL := Aside0.mk HR2.out.1
  go_enter Try.func5, Try.ntmps5
  go_wp2_with fail
  refine (awake19_calls w).mono ?_
  rintro e w1 ⟨rfl, hb⟩
  have HB := Aside0.mk hb
  have HL := Aside0.mk hb.size
  clear hb
  go_wp2_with fail
  go_region
  go_wp2_with fail
  have hS0 : Stor (w1.alloc (.cells Try.zeroCells28 28)).drew w1.heap.size zer16 := stor_new w1
  have hB0 : Below w.heap.size w (w1.alloc (.cells Try.zeroCells28 28)).drew := (HB.out.alloc HL.out _).drew
  generalize (w1.alloc (.cells Try.zeroCells28 28)).drew = w2 at *
  have HS0 := Aside0.mk hS0
  have HB0 := Aside0.mk hB0
  clear hS0 hB0
  generalize w1.heap.size = g at *
  refine (store_write_at g zer16 _ q a1 n c1 xs w2 rfl HS0.out (HR1.out.below HB0.out) hnc (by omega)).mono ?_
  rintro e w3 ⟨rfl, hs, hc⟩
  have HS1 := Aside0.mk hs
  have HB1 := Aside0.mk (below_ch HB0.out hc HL.out)
  clear hs hc HS0 HB0
  go_wp2_with fail
  refine (store_write_at g (spl zer16 q xs) _ q a2 m c2 ys w3 rfl HS1.out (HR2.out.below HB1.out) hmc (by omega)).mono ?_
  rintro e w4 ⟨rfl, hs, hc⟩
  have HS2 := Aside0.mk hs
  have HB2 := Aside0.mk (below_ch HB1.out hc HL.out)
  clear hs hc HS1 HB1
  have HE := Aside0.mk (rd_over q xs ys (by rw [HXL.out]; omega) (by rw [HYL.out]; omega))
  have HT := Aside0.mk (take_take_cut (spl (spl zer16 q xs) q ys) q t k hkt)
  go_wp2_with fail
  refine (store_read_at g _ _ q _ t w4 rfl rfl HS2.out (by omega)).mono ?_
  rintro e w5 ⟨v, rfl, ⟨A, c, rfl, hlc, _, ho⟩, hb⟩
  have HO := Aside0.mk ho
  have HB3 := Aside0.mk (below_then HB2.out HB2.out.size hb)
  have HS3 := Aside0.mk (HS2.out.below_ hb)
  clear ho hb HS2
  obtain ⟨gs, hgs⟩ : ∃ gs, gs = ((spl (spl zer16 q xs) q ys).drop q).take t := ⟨_, rfl⟩
  have HE2 := Aside0.mk (show ∀ i, i < t → rd gs (i : Int) = over xs ys i from fun i hi => by rw [hgs]; exact HE.out t i hi)
  have HT2 := Aside0.mk (show gs.take k = ((spl (spl zer16 q xs) q ys).drop q).take k by rw [hgs]; exact HT.out)
  rw [← hgs] at HO
  clear hgs HE HT
  have HRG := Aside0.mk (own_reads' HO.out)
  have HXR := Aside0.mk (HR1.out.below HB3.out)
  have HYR := Aside0.mk (HR2.out.below HB3.out)
  go_wp2_with fail
  go_loop [71] (fun i => ∃ j : Nat, j ≤ t ∧ i = .int .i64 j) (fun i => t - (intOf i).toNat)
  case atStart => exact ⟨0, Nat.zero_le _, rfl⟩
  case round =>
    obtain ⟨j, hj, rfl⟩ := hrel
    by_cases hlt : j < t
    · obtain ⟨ad, e0, hx⟩ := HRG.out.at_ j (by omega) (by omega)
      cases e0
      simp only [Int.toNat_natCast] at hx
      rw [HE2.out j hlt] at hx
      have hov : over xs ys j = if j < m then rd ys j else if j < n then rd xs j else 0 := by unfold over; rw [HXL.out, HYL.out]
      by_cases hjm : j < m
      · rw [hov, if_pos hjm] at hx
        obtain ⟨ad2, e2, hy⟩ := HYR.out.at_ j (by omega) (by omega)
        cases e2
        simp only [Int.toNat_natCast] at hy
        clear hov
        have hjm' : (j : Int) < (m : Int) := by omega
        by_cases hjn : j < n
        · obtain ⟨ad1, e1, hz⟩ := HXR.out.at_ j (by omega) (by omega)
          cases e1
          simp only [Int.toNat_natCast] at hz
          have hjn' : (j : Int) < (n : Int) := by omega
          go_wp2
          go_round
          case rel => exact ⟨j + 1, by omega, by go_num⟩
          case measure => simp [intOf]; omega
        · have hjn' : ¬ (j : Int) < (n : Int) := by omega
          go_wp2
          go_round
          case rel => exact ⟨j + 1, by omega, by go_num⟩
          case measure => simp [intOf]; omega
      · have hjn : j < n := by have := HTX.out; omega
        rw [hov, if_neg hjm, if_pos hjn] at hx
        clear hov
        obtain ⟨ad1, e1, hz⟩ := HXR.out.at_ j (by omega) (by omega)
        cases e1
        simp only [Int.toNat_natCast] at hz
        have hjn' : (j : Int) < (n : Int) := by omega
        have hjm' : ¬ (j : Int) < (m : Int) := by omega
        go_wp2
        go_round
        case rel => exact ⟨j + 1, by omega, by go_num⟩
        case measure => simp [intOf]; omega
    · have hk := HK.out
      have hkc : k ≤ c := by omega
      have hkc' : (k : Int) ≤ (c : Int) := by omega
      go_wp2_with fail
      refine (store_read_at g _ _ q _ k w5 rfl rfl HS3.out (by omega)).mono ?_
      rw [← HT2.out]
      rintro e w6 ⟨v, rfl, ⟨A', c', rfl, hlc', _, ho'⟩, hb⟩
      have HB4 := Aside0.mk (below_then HB3.out HB3.out.size hb)
      have k1 := own_string (P := Try.prog) (src := 23) (dst := 9) (e := 5) Try.underlying23 Try.underlying5 Try.underlying9 ho'
      have k2 := string_of_reads (P := Try.prog) (src := 23) (dst := 9) (e := 5) (c := c) Try.underlying23 Try.underlying5 Try.underlying9 ((HRG.out.below hb).take_ k hkt)
      have k3 := fun (z : Nat) => own_string (w := w6.drewN z) (P := Try.prog) (src := 23) (dst := 9) (e := 5) Try.underlying23 Try.underlying5 Try.underlying9 (pw_own_drewN ho' z)
      have k4 := fun (z : Nat) => string_of_reads (w := w6.drewN z) (P := Try.prog) (src := 23) (dst := 9) (e := 5) (c := c) Try.underlying23 Try.underlying5 Try.underlying9 (((HRG.out.below hb).take_ k hkt).drewN z)
      clear ho' hb
      generalize strOfNums (gs.take k) = str at *
      go_wp2_with fail
      go_quiet (fail)
      go_wp2
      go_ret
      exact ⟨by simp, pw_below_drewN HB4.out _⟩
end Go.Proofs.Ythdkmgeigdoglaa.Hand
