import Derived.Test.YthdkmgeigdoglaaHS2
/- StorePrint, walked. -/
namespace Go.Proofs.Ythdkmgeigdoglaa.Hand
open Go.RowKit Go.Proofs.YthdkmgeigdoglaaW.PrintWords Go.Proofs.YthdkmgeigdoglaaW.PrintLast Go.Proofs.YthdkmgeigdoglaaW.PrintMore H
attribute [local go_sem] max_two min_two max_three min_three max_four min_four
set_option linter.unusedVariables false
set_option linter.unusedSimpArgs false
theorem adler_one (l : List Int) : ∀ (p : Int × Int), 0 ≤ p.1 → p.1 < 65521 → (adler p l).1 = (p.1 + l.sum) % 65521 := by
  induction l with
  | nil => intro p h0 h1; simp [adler]; omega
  | cons c l ih =>
    intro p h0 h1
    have h := adl_range p c
    show (adler (adl p c) l).1 = _
    rw [ih _ h.1 h.2.1]
    show ((p.1 + c) % 65521 + l.sum) % 65521 = _
    simp only [List.sum_cons]
    omega
theorem prI_set (l : List Int) (k : Nat) (hk : k < l.length) (v : Int) (hu : U8s l) (h0 : 0 ≤ v) (h1 : v ≤ 255) : prI l = prI (l.set k v) ↔ v = rd l k := by
  have hr := hu.at_ k
  have hs : l.sum = (l.take k).sum + (rd l k + (l.drop (k + 1)).sum) := by
    have := congrArg List.sum (split_at l k hk)
    simpa [List.sum_append, List.sum_cons] using this
  have hs2 : (l.set k v).sum = (l.take k).sum + (v + (l.drop (k + 1)).sum) := by
    rw [set_at l k hk]
    simp [List.sum_append, List.sum_cons]
  have a1 := adler_one l (0, 0) (by simp) (by simp)
  have a2 := adler_one (l.set k v) (0, 0) (by simp) (by simp)
  have r1 := adler_range (0, 0) l (by simp) (by simp) (by simp) (by simp)
  have r2 := adler_range (0, 0) (l.set k v) (by simp) (by simp) (by simp) (by simp)
  constructor
  · intro h
    unfold prI at h
    have h2 : (adler (0, 0) l).1 = (adler (0, 0) (l.set k v)).1 := by omega
    rw [a1, a2] at h2
    simp only at h2
    omega
  · rintro rfl
    have : l.set k (rd l k) = l := by rw [set_at l k hk, ← split_at l k hk]
    rw [this]
theorem spl_u8 {bs l : List Int} (q : Nat) (h : U8s bs) (k : U8s l) : U8s (spl bs q l) := ((h.take q).append k).append (h.drop _)
theorem store_print_at (g : Nat) (bs : List Int) (d : Int) (q : Nat) (k : Int) (n : Nat) (w : World) (hd : d = (q : Int)) (hk : k = (n : Int)) (hg : Stor w g bs) (hu : U8s bs) (h1 : q + n ≤ 16384) (hq : q < 16384) :
    Calls Try.prog 36 #[.pointer (some ⟨g, 0, none⟩), .int .i64 d, .int .i64 k] w fun e w' => e = .returned (.tuple #[.int .u32 (prI ((bs.drop q).take n)), .bool true]) ∧ Below w.heap.size w w' := by
  subst hd hk
  exact store_print g bs q n w hg hu h1 hq
set_option maxHeartbeats 4000000 in
set_option maxRecDepth 100000 in
theorem StorePrint_walk (a0 : Int) (a1 : Option Addr) (c1 : Nat) (l1 : List Int) (a2 a3 : Int) (w : World) (hw0 : (Lit.int .u16 a0).wf = true)
    (hr1 : ReadsInt w .u8 a1 l1.length l1) (hc1 : l1.length ≤ c1) (y1 : l1.length * 1 ≤ 140737488351232) (hw1 : ∀ x ∈ l1, (Lit.int .u8 x).wf = true) (hw2 : (Lit.int .u8 a2).wf = true) (hw3 : (Lit.int .u8 a3).wf = true) :
    Calls Try.prog 6 #[.int .u16 a0, .slice a1 l1.length c1, .int .u8 a2, .int .u8 a3] w fun e w' => e = .returned (.bool true) ∧ Below w.heap.size w w' := by
  have b0 : 0 ≤ a0 ∧ a0 ≤ 65535 := by simp [Lit.wf, IntKind.min, IntKind.max, IntKind.signed, IntKind.bits] at hw0; omega
  have b2 : 0 ≤ a2 ∧ a2 ≤ 255 := by simp [Lit.wf, IntKind.min, IntKind.max, IntKind.signed, IntKind.bits] at hw2; omega
  have b3 : 0 ≤ a3 ∧ a3 ≤ 255 := by simp [Lit.wf, IntKind.min, IntKind.max, IntKind.signed, IntKind.bits] at hw3; omega
  obtain ⟨q, hq⟩ : ∃ q : Nat, a0 % 15000 = q := ⟨(a0 % 15000).toNat, by omega⟩
  have hq8 : q < 15000 := by omega
  obtain ⟨n, hn⟩ : ∃ n, n = min l1.length 200 := ⟨_, rfl⟩
  have hm2 : Builtin.min2 (.int .i64 (l1.length : Int)) (.int .i64 200) = pure (.int .i64 (n : Int)) := min_const l1.length 200 n hn
  have hnl : n ≤ l1.length := by omega
  have hn2 : n ≤ 200 := by omega
  have hnc : n ≤ c1 := by omega
  have hnc' : (n : Int) ≤ (c1 : Int) := by omega
  obtain ⟨k, hk⟩ : ∃ k : Nat, a2 % ((n : Int) + 1) = k := ⟨(a2 % ((n : Int) + 1)).toNat, by have := Int.emod_nonneg a2 (show (n : Int) + 1 ≠ 0 by omega); omega⟩
  have hkn : k < n + 1 := by have := Int.emod_lt_of_pos a2 (show (0 : Int) < (n : Int) + 1 by omega); omega
  have HR1 := Aside0.mk (hr1.take_ n hnl)
  have HU1 := Aside0.mk ((U8s.of_wf hw1).take n)
  have HQ := Aside0.mk hq
  have HK := Aside0.mk hk
  clear hn hr1 hw0 hw1 hw2 hw3 y1 hq hk
  obtain ⟨xs, hxs⟩ : ∃ xs, xs = l1.take n := ⟨_, rfl⟩
  rw [← hxs] at HR1 HU1
  clear hxs
  have HXL := Aside0.mk HR1.out.1
  go_enter Try.func6, Try.ntmps6
  go_wp2_with fail
  refine (awake19_calls w).mono ?_
  rintro e w1 ⟨rfl, hb⟩
  have HB := Aside0.mk hb
  have HL := Aside0.mk hb.size
  clear hb
  have HS0 := Aside0.mk (stor_new w1)
  have HB0 := Aside0.mk (HB.out.alloc HL.out (.cells Try.zeroCells28 28))
  have hq := HQ.out
  have HXN : xs.length = n := HXL.out
  go_wp2_with (first | ((with_reducible refine gate_dst (N := 28) rfl ?_); refine app_bytes (w0 := w) w.heap.size rfl (.const (.slice none 0 0)) (.tmp 27) rfl (.slice none 0 0) [] xs a1 n c1 rfl rfl (own_nil _ _ _ _) (HR1.out.below HB0.out) HB0.out HB0.out.size (by simp; omega) ?_; intro v1 w2 hO hB2 hG2 hat; have HO := Aside0.mk hO; have HB2 := Aside0.mk hB2; have HS2 := Aside0.mk (HS0.out.grown_ hG2 (by simp [Value.ownBlock])); clear hO hB2 hG2 hat) | ((with_reducible refine gate_dst (N := 30) rfl ?_); refine app_one (w0 := w) w.heap.size rfl (.tmp 28) (.tmp 29) rfl _ xs 1 rfl rfl HO.out HB2.out HB2.out.size (by omega) ?_; intro v3 w3 hO hB3 hG3 hat; obtain ⟨ys, hys⟩ : ∃ ys, ys = xs ++ [1] := ⟨_, rfl⟩; rw [← hys] at hO; have hyl : ys.length = n + 1 := (by rw [hys]; simp; omega); rw [hyl] at hO; have HYL := Aside0.mk hyl; have HUY := Aside0.mk (show U8s ys from by rw [hys]; exact HU1.out.append (U8s.one (by omega) (by omega))); clear hys hyl; have HS3 := Aside0.mk (HS2.out.grown_ hG3 (HS2.out.own_ne_ HO.out)); have HO3 := Aside0.mk hO; have HB3 := Aside0.mk hB3; obtain ⟨gx, cx, hv, hgb, hgl⟩ := hO.form (by omega); subst hv; have HGX := Aside0.mk hgb; clear hO hB3 hG3 hat hgb hgl))
  clear HS0 HB0 HS2 HB2 HO
  have HNE := Aside0.mk (show w1.heap.size ≠ gx from by have := HS3.out.own_ne_ HO3.out; intro he; exact this (by simp [Value.ownBlock, he]))
  have HG := Aside0.mk HL.out
  generalize w1.heap.size = g at *
  refine (store_write_at g zer16 _ q (some ⟨gx, 0, none⟩) (n + 1) cx ys w3 rfl HS3.out (own_reads' HO3.out) (own_le HO3.out) (by omega)).mono ?_
  rintro e w4 ⟨rfl, hs, hc⟩
  have HS4 := Aside0.mk hs
  have HB4 := Aside0.mk (below_ch HB3.out hc HG.out)
  have HO4 := Aside0.mk (own_ch HO3.out hc (HS3.out.own_ne_ HO3.out))
  clear hs hc HS3 HB3
  have HE := Aside0.mk (show ((spl zer16 q ys).drop q).take (n + 1) = ys by have := spl_read zer16 q ys (by rw [zer16_len, HYL.out]; omega); rwa [HYL.out] at this)
  go_wp2_with fail
  refine (store_print_at g _ _ q _ (n + 1) w4 rfl (by omega) HS4.out (spl_u8 q zer16_u8 HUY.out) (by omega) (by omega)).mono ?_
  rw [HE.out]
  rintro e w5 ⟨rfl, hb⟩
  have HS5 := Aside0.mk (HS4.out.below_ hb)
  have HB5 := Aside0.mk (below_then HB4.out HB4.out.size hb)
  have HO5 := Aside0.mk (pw_own_below HO4.out hb)
  clear hb HS4 HB4 HO4
  obtain ⟨x1, x2⟩ := own_at HO5.out k (by omega) (by omega)
  simp only [Int.toNat_natCast] at x1 x2
  have hk := HK.out
  have hkn' : (k : Int) < (n : Int) + 1 := by omega
  go_wp2_with fail
  have hx8 := xor8_range (rd ys k) a3
  have hst := (own_store HO5.out k (Go.bits .xor .u8 (rd ys k) a3)).1
  simp only [Int.toNat_natCast] at hst
  have hS6 := HS5.out.far_ (p := ⟨gx, k, none⟩) HNE.out (.int .u8 (Go.bits .xor .u8 (rd ys k) a3))
  have hB6 := HB5.out.setCell (p := ⟨gx, k, none⟩) HGX.out (.int .u8 (Go.bits .xor .u8 (rd ys k) a3))
  clear x1 x2
  generalize w5.setCell { block := gx, off := k } (.int .u8 (Go.bits .xor .u8 (rd ys k) a3)) = w6 at *
  have HS6 := Aside0.mk hS6
  have HB6 := Aside0.mk hB6
  have HO6 := Aside0.mk hst
  have hr := HUY.out.at_ k
  have E1 := Aside0.mk (prI_set ys k (by rw [HYL.out]; exact hkn) (Go.bits .xor .u8 (rd ys k) a3) HUY.out hx8.1 hx8.2)
  have E3 := Aside0.mk (xor8_same (rd ys k) a3 hr.1 hr.2 b3.1 b3.2)
  have HUZ := Aside0.mk (U8s_set HUY.out k (Go.bits .xor .u8 (rd ys k) a3) hx8.1 hx8.2)
  have HZL := Aside0.mk (show (ys.set k (Go.bits .xor .u8 (rd ys k) a3)).length = n + 1 by rw [List.length_set]; exact HYL.out)
  clear hS6 hB6 hst hr hx8
  generalize ys.set k (Go.bits .xor .u8 (rd ys k) a3) = zs at *
  refine (store_write_at g (spl zer16 q ys) _ q (some ⟨gx, 0, none⟩) (n + 1) cx zs w6 rfl HS6.out (own_reads' HO6.out) (own_le HO6.out) (by omega)).mono ?_
  rintro e w7 ⟨rfl, hs, hc⟩
  have HS7 := Aside0.mk hs
  have HB7 := Aside0.mk (below_ch HB6.out hc HG.out)
  clear hs hc HS6 HB6
  have HE2 := Aside0.mk (show ((spl (spl zer16 q ys) q zs).drop q).take (n + 1) = zs by
    have := spl_read (spl zer16 q ys) q zs (by rw [spl_len _ _ _ (by rw [zer16_len, HYL.out]; omega), zer16_len, HZL.out]; omega)
    rwa [HZL.out] at this)
  go_wp2_with fail
  refine (store_print_at g _ _ q _ (n + 1) w7 rfl (by omega) HS7.out (spl_u8 q (spl_u8 q zer16_u8 HUY.out) HUZ.out) (by omega) (by omega)).mono ?_
  rw [HE2.out]
  rintro e w8 ⟨rfl, hb⟩
  have HB8 := Aside0.mk (below_then HB7.out HB7.out.size hb)
  have e2 : ((prI ys == prI zs) == (a3 == 0)) = true := by
    rw [beq_iff_eq, Bool.eq_iff_iff, beq_iff_eq, beq_iff_eq, E1.out, E3.out]
  clear hb
  go_wp2
  go_ret
  exact ⟨rfl, HB8.out⟩
end Go.Proofs.Ythdkmgeigdoglaa.Hand
