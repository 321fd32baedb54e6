import Derived.Test.YthdkmgeigdoglaaH3
/- SumTurned, walked. -/
namespace Go.Proofs.Ythdkmgeigdoglaa.Hand
open Go.RowKit Go.Proofs.YthdkmgeigdoglaaW.PrintWords Go.Proofs.YthdkmgeigdoglaaW.PrintLast Go.Proofs.YthdkmgeigdoglaaW.PrintMore H
attribute [local go_sem] max_two min_two max_three min_three max_four min_four
set_option linter.unusedVariables false
set_option linter.unusedSimpArgs false
set_option maxHeartbeats 2000000 in
set_option maxRecDepth 100000 in
theorem SumTurned_walk (a0 : Option Addr) (c0 : Nat) (l0 : List Int) (a1 a2 : Int) (w : World)
    (hr0 : ReadsInt w .u8 a0 l0.length l0) (hc0 : l0.length ≤ c0) (y0 : l0.length * 1 ≤ 140737488351232) (hw0 : ∀ x ∈ l0, (Lit.int .u8 x).wf = true)
    (hw1 : (Lit.int .u16 a1).wf = true) (hw2 : (Lit.int .u8 a2).wf = true) :
    Calls Try.prog 9 #[.slice a0 l0.length c0, .int .u16 a1, .int .u8 a2] w fun e w' => e = .returned (.bool true) ∧ Below w.heap.size w w' := by
  have HR0 := Aside0.mk hr0
  have HU0 := Aside0.mk (U8s.of_wf hw0)
  have b1 : 0 ≤ a1 ∧ a1 ≤ 65535 := by simp [Lit.wf, IntKind.min, IntKind.max, IntKind.signed, IntKind.bits] at hw1; omega
  have b2 : 0 ≤ a2 ∧ a2 ≤ 255 := by simp [Lit.wf, IntKind.min, IntKind.max, IntKind.signed, IntKind.bits] at hw2; omega
  clear hr0 hw0 hw1 hw2
  by_cases hz : l0.length = 0
  · have e0 : (((l0.length : Nat) : Int) == 0) = true := by rw [hz]; rfl
    have HZ := Aside0.mk hz
    clear hz
    go_enter Try.func9, Try.ntmps9
    go_wp2_with fail
    refine (awake01_calls w).mono ?_
    rintro e w1 ⟨rfl, hb⟩
    have HB := Aside0.mk hb
    clear hb
    go_wp2_with fail
    refine (crc_calls a0 c0 l0 w1 (HR0.out.below HB.out) hc0 HU0.out).mono ?_
    rintro e w2 ⟨rfl, hd⟩
    have HB2 := Aside0.mk (below_then HB.out HB.out.size hd.below)
    have e1 : crcI l0 = 0 := by obtain rfl := List.eq_nil_of_length_eq_zero HZ.out; decide
    have e2 : sumI l0 = 0 := by obtain rfl := List.eq_nil_of_length_eq_zero HZ.out; decide
    rw [e1]
    clear hd e1
    have E2 := Aside0.mk e2
    clear e2
    go_wp2_with fail
    refine (check_calls a0 c0 l0 w2 (HR0.out.below HB2.out) hc0).mono ?_
    rintro e w3 ⟨rfl, hd⟩
    have HB3 := Aside0.mk (below_then HB2.out HB2.out.size hd.below)
    rw [E2.out]
    clear hd
    go_wp2
    go_ret
    exact ⟨rfl, HB3.out⟩
  · have e0 : (((l0.length : Nat) : Int) == 0) = false := by rw [beq_eq_false_iff_ne]; omega
    have hz1 : 0 < l0.length := by omega
    obtain ⟨k, hk⟩ : ∃ k : Nat, a1 % (l0.length : Int) = k := ⟨(a1 % (l0.length : Int)).toNat, by have := Int.emod_nonneg a1 (show (l0.length : Int) ≠ 0 by omega); omega⟩
    have hkl : k < l0.length := by have := Int.emod_lt_of_pos a1 (show (0 : Int) < l0.length by omega); omega
    clear hz
    go_enter Try.func9, Try.ntmps9
    go_wp2_with fail
    refine (awake01_calls w).mono ?_
    rintro e w1 ⟨rfl, hb⟩
    have HB := Aside0.mk hb
    have HL := Aside0.mk hb.size
    clear hb
    have HK := Aside0.mk hk
    clear hk
    go_wp2_with (at_builtin; go_loud (refine app_bytes (w0 := w) w.heap.size rfl (.const (.slice none 0 0)) (.tmp 22) rfl (.slice none 0 0) [] l0 a0 l0.length c0 rfl rfl (own_nil _ _ _ _) (HR0.out.below HB.out) HB.out HL.out (by simp; omega) ?_; intro v1 w2 hO hB2 hG2 hat; clear hat hG2; simp only [List.nil_append] at hO; obtain ⟨g, cap, hv, hgb, hgl⟩ := hO.form (by omega); subst hv; have HO := Aside0.mk hO; have HB2 := Aside0.mk hB2; have HG := Aside0.mk hgb; have hat := own_at hO k (by omega) (by omega); simp only [Int.toNat_natCast] at hat; obtain ⟨hat1, hat2⟩ := hat; clear hO hB2 hgb hgl; have hk := HK.out))
    have hst := (own_store HO.out k (Go.bits .xor .u8 (rd l0 k) a2)).1
    simp only [Int.toNat_natCast] at hst
    have hB3 := HB2.out.setCell (p := ⟨g, k, none⟩) HG.out (.int .u8 (Go.bits .xor .u8 (rd l0 k) a2))
    have hx := xor8_range (rd l0 k) a2
    have hr := HU0.out.at_ k
    have E1 := Aside0.mk (crcI_set l0 k hkl (Go.bits .xor .u8 (rd l0 k) a2) HU0.out hx.1 hx.2)
    have E2 := Aside0.mk (sumI_set l0 k hkl (Go.bits .xor .u8 (rd l0 k) a2) HU0.out hx.1 hx.2)
    have E3 := Aside0.mk (xor8_same (rd l0 k) a2 hr.1 hr.2 b2.1 b2.2)
    have HUx := Aside0.mk (U8s_set HU0.out k (Go.bits .xor .u8 (rd l0 k) a2) hx.1 hx.2)
    clear hx hr
    have R3 := Aside0.mk (own_reads' hst)
    have HB3 := Aside0.mk hB3
    clear hst hB3
    generalize (w2.setCell { block := g, off := k } (Value.int IntKind.u8 (bits BinOp.xor IntKind.u8 (rd l0 ↑k) a2))) = w3 at *
    generalize l0.set k (Go.bits .xor .u8 (rd l0 k) a2) = lx at *
    refine (crc_calls a0 c0 l0 w3 (HR0.out.below HB3.out) hc0 HU0.out).mono ?_
    rintro e w4 ⟨rfl, hd⟩
    have HD4 := Aside0.mk hd
    have HB4 := Aside0.mk (below_then HB3.out HB3.out.size hd.below)
    clear hd
    go_wp2_with fail
    have R4 := R3.out.below HD4.out.below
    refine (crc_any _ _ cap lx w4 R4 (own_le HO.out) HUx.out).mono ?_
    rintro e w5 ⟨rfl, hd⟩
    have R5 := Aside0.mk (R4.below hd.below)
    have HB5 := Aside0.mk (below_then HB4.out HB4.out.size hd.below)
    clear hd R4
    have e1 : ((crcI l0 == crcI lx) == (a2 == 0)) = true := by
      rw [beq_iff_eq, Bool.eq_iff_iff, beq_iff_eq, beq_iff_eq, E1.out, E3.out]
    go_wp2_with fail
    refine (check_calls a0 c0 l0 w5 (HR0.out.below HB5.out) hc0).mono ?_
    rintro e w6 ⟨rfl, hd⟩
    have R6 := Aside0.mk (R5.out.below hd.below)
    have HB6 := Aside0.mk (below_then HB5.out HB5.out.size hd.below)
    clear hd
    go_wp2_with fail
    refine (check_any _ _ cap lx w6 R6.out (own_le HO.out)).mono ?_
    rintro e w7 ⟨rfl, hd⟩
    have HB7 := Aside0.mk (below_then HB6.out HB6.out.size hd.below)
    have e2 : ((sumI l0 == sumI lx) == (a2 == 0)) = true := by
      rw [beq_iff_eq, Bool.eq_iff_iff, beq_iff_eq, beq_iff_eq, E2.out, E3.out]
    clear hd
    go_wp2
    go_ret
    exact ⟨rfl, HB7.out⟩
end Go.Proofs.Ythdkmgeigdoglaa.Hand
