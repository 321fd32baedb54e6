import Derived.Test.YthdkmgeigdoglaaHS2
/- StoreOwn, walked. -/
namespace Go.Proofs.Ythdkmgeigdoglaa.Hand
open Go.RowKit Go.Proofs.YthdkmgeigdoglaaW.PrintWords Go.Proofs.YthdkmgeigdoglaaW.PrintLast Go.Proofs.YthdkmgeigdoglaaW.PrintMore H
attribute [local go_sem] max_two min_two max_three min_three max_four min_four
set_option linter.unusedVariables false
set_option linter.unusedSimpArgs false
set_option maxHeartbeats 2000000 in
set_option maxRecDepth 100000 in
theorem StoreOwn_walk (a0 : Int) (a1 : Option Addr) (c1 : Nat) (l1 : List Int) (a2 : Int) (w : World) (hw0 : (Lit.int .u16 a0).wf = true)
    (hr1 : ReadsInt w .u8 a1 l1.length l1) (hc1 : l1.length ≤ c1) (y1 : l1.length * 1 ≤ 140737488351232) (hw1 : ∀ x ∈ l1, (Lit.int .u8 x).wf = true) (hw2 : (Lit.int .u8 a2).wf = true) :
    Calls Try.prog 3 #[.int .u16 a0, .slice a1 l1.length c1, .int .u8 a2] w fun e w' => e = .returned (.bool true) ∧ Below w.heap.size w w' := by
  have b0 : 0 ≤ a0 ∧ a0 ≤ 65535 := by simp [Lit.wf, IntKind.min, IntKind.max, IntKind.signed, IntKind.bits] at hw0; omega
  have b2 : 0 ≤ a2 ∧ a2 ≤ 255 := by simp [Lit.wf, IntKind.min, IntKind.max, IntKind.signed, IntKind.bits] at hw2; omega
  obtain ⟨q, hq⟩ : ∃ q : Nat, a0 % 8000 = q := ⟨(a0 % 8000).toNat, by omega⟩
  have hq8 : q < 8000 := by omega
  obtain ⟨n, hn⟩ : ∃ n, n = min l1.length 100 := ⟨_, rfl⟩
  have hm2 : Builtin.min2 (.int .i64 (l1.length : Int)) (.int .i64 100) = pure (.int .i64 (n : Int)) := min_const l1.length 100 n hn
  have hnl : n ≤ l1.length := by omega
  have hn2 : n ≤ 100 := by omega
  have hnc : n ≤ c1 := by omega
  have hnc' : (n : Int) ≤ (c1 : Int) := by omega
  have HR1 := Aside0.mk (hr1.take_ n hnl)
  have HQ := Aside0.mk hq
  clear hn hr1 hw0 hw1 hw2 y1 hq
  obtain ⟨xs, hxs⟩ : ∃ xs, xs = l1.take n := ⟨_, rfl⟩
  rw [← hxs] at HR1
  clear hxs
  have HXL := Aside0.mk HR1.out.1
  go_enter Try.func3, Try.ntmps3
  go_wp2_with fail
  refine (awake19_calls w).mono ?_
  rintro e w1 ⟨rfl, hb⟩
  have HB := Aside0.mk hb
  have HL := Aside0.mk hb.size
  clear hb
  have HS0 := Aside0.mk (stor_new w1)
  have HB0 := Aside0.mk (HB.out.alloc HL.out (.cells Try.zeroCells28 28))
  have hq := HQ.out
  have HXN : xs.length = n := HXL.out
  go_wp2_with (first | ((with_reducible refine gate_dst (N := 27) rfl ?_); refine app_bytes (w0 := w) w.heap.size rfl (.const (.slice none 0 0)) (.tmp 26) rfl (.slice none 0 0) [] xs a1 n c1 rfl rfl (own_nil _ _ _ _) (HR1.out.below HB0.out) HB0.out HB0.out.size (by simp; omega) ?_; intro v1 w2 hO hB2 hG2 hat; have HO := Aside0.mk hO; have HB2 := Aside0.mk hB2; have HS2 := Aside0.mk (HS0.out.grown_ hG2 (by simp [Value.ownBlock])); clear hO hB2 hG2 hat) | ((with_reducible refine gate_dst (N := 29) rfl ?_); refine app_one (w0 := w) w.heap.size rfl (.tmp 27) (.tmp 28) rfl _ xs 7 rfl rfl HO.out HB2.out HB2.out.size (by omega) ?_; intro v3 w3 hO hB3 hG3 hat; obtain ⟨ys, hys⟩ : ∃ ys, ys = xs ++ [7] := ⟨_, rfl⟩; rw [← hys] at hO; have hyl : ys.length = n + 1 := (by rw [hys]; simp; omega); rw [hyl] at hO; have HYL := Aside0.mk hyl; clear hys hyl; have HS3 := Aside0.mk (HS2.out.grown_ hG3 (HS2.out.own_ne_ HO.out)); have HO3 := Aside0.mk hO; have HB3 := Aside0.mk hB3; obtain ⟨gx, cx, hv, hgb, hgl⟩ := hO.form (by omega); subst hv; have HGX := Aside0.mk hgb; have k1 := own_string (P := Try.prog) (src := 23) (dst := 9) (e := 5) Try.underlying23 Try.underlying5 Try.underlying9 hO; have hsz := str_size ys; rw [HYL.out] at hsz; obtain ⟨str, hstr⟩ : ∃ s, s = strOfNums ys := ⟨_, rfl⟩; rw [← hstr] at hsz k1; have HSTR := Aside0.mk hstr; clear hstr; clear hO hB3 hG3 hat hgb hgl))
  clear HS0 HB0 HS2 HB2 HO
  have HNE := Aside0.mk (show w1.heap.size ≠ gx from by have := HS3.out.own_ne_ HO3.out; intro he; exact this (by simp [Value.ownBlock, he]))
  have HG := Aside0.mk HL.out
  generalize w1.heap.size = g at *
  refine (store_write_at g zer16 _ q (some ⟨gx, 0, none⟩) (n + 1) cx ys w3 rfl HS3.out (own_reads' HO3.out) (own_le HO3.out) (by omega)).mono ?_
  rintro e w4 ⟨rfl, hs, hc⟩
  have HS4 := Aside0.mk hs
  have HB4 := Aside0.mk (below_ch HB3.out hc HG.out)
  have HO4 := Aside0.mk (own_ch HO3.out hc (HS3.out.own_ne_ HO3.out))
  clear hs hc HS3 HB3
  obtain ⟨x1, x2⟩ := own_at HO4.out 0 (by omega) (by omega)
  simp only [Int.toNat_zero] at x1 x2
  have hpos : 0 < n + 1 := by omega
  have HE := Aside0.mk (show ((spl zer16 q ys).drop q).take (n + 1) = ys by have := spl_read zer16 q ys (by rw [zer16_len, HYL.out]; omega); rwa [HYL.out] at this)
  go_wp2_with fail
  have hS5 := HS4.out.far_ (p := ⟨gx, 0, none⟩) HNE.out (.int .u8 ((rd ys 0 + a2) % 256))
  have hB5 := HB4.out.setCell (p := ⟨gx, 0, none⟩) HGX.out (.int .u8 ((rd ys 0 + a2) % 256))
  clear x1 x2
  generalize w4.setCell { block := gx, off := 0 } (.int .u8 ((rd ys 0 + a2) % 256)) = w5 at *
  have HS5 := Aside0.mk hS5
  have HB5 := Aside0.mk hB5
  clear hS5 hB5 HS4 HB4 HO4
  refine (store_read_at g _ _ q _ (n + 1) w5 rfl (by omega) HS5.out (by omega)).mono ?_
  rw [HE.out]
  rintro e w6 ⟨v, rfl, ⟨A, c, rfl, hlc, _, ho⟩, hb⟩
  have HB6 := Aside0.mk (below_then HB5.out HB5.out.size hb)
  have HS6 := Aside0.mk (HS5.out.below_ hb)
  have k2 := own_string (P := Try.prog) (src := 23) (dst := 9) (e := 5) Try.underlying23 Try.underlying5 Try.underlying9 ho
  rw [← HSTR.out] at k2
  obtain ⟨ga, ca, hv, hga, _⟩ := ho.form (by omega)
  injection hv with hv1 _ hv3
  subst hv1
  have HGA := Aside0.mk hga
  have HO6 := Aside0.mk ho
  obtain ⟨x1, x2⟩ := own_at ho 0 (by omega) (by omega)
  simp only [Int.toNat_zero] at x1 x2
  have HN6 := Aside0.mk (show g ≠ ga from by have := HS5.out.lt_; omega)
  clear hb ho hga hv3
  go_wp2_with fail
  have hS7 := HS6.out.far_ (p := ⟨ga, 0, none⟩) HN6.out (.int .u8 ((rd ys 0 + a2) % 256))
  have hB7 := HB6.out.setCell (p := ⟨ga, 0, none⟩) (Nat.le_trans HB5.out.size HGA.out) (.int .u8 ((rd ys 0 + a2) % 256))
  clear x1 x2 k2
  generalize w6.setCell { block := ga, off := 0 } (.int .u8 ((rd ys 0 + a2) % 256)) = w7 at *
  have HS7 := Aside0.mk hS7
  have HB7 := Aside0.mk hB7
  clear hS7 hB7
  refine (store_read_at g _ _ q _ (n + 1) w7 rfl (by omega) HS7.out (by omega)).mono ?_
  rw [HE.out]
  rintro e w8 ⟨v, rfl, ⟨A, c, rfl, hlc, _, ho⟩, hb⟩
  have HB8 := Aside0.mk (below_then HB7.out HB7.out.size hb)
  have k3 := own_string (P := Try.prog) (src := 23) (dst := 9) (e := 5) Try.underlying23 Try.underlying5 Try.underlying9 ho
  rw [← HSTR.out] at k3
  clear hb ho
  go_wp2
  go_ret
  exact ⟨rfl, HB8.out⟩
end Go.Proofs.Ythdkmgeigdoglaa.Hand
