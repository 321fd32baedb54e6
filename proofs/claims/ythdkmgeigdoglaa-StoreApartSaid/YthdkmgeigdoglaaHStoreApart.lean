import Derived.Test.YthdkmgeigdoglaaHS2
/- StoreApart, walked. -/
namespace Go.Proofs.Ythdkmgeigdoglaa.Hand
open Go.RowKit Go.Proofs.YthdkmgeigdoglaaW.PrintWords Go.Proofs.YthdkmgeigdoglaaW.PrintLast Go.Proofs.YthdkmgeigdoglaaW.PrintMore H
attribute [local go_sem] max_two min_two max_three min_three max_four min_four
set_option linter.unusedVariables false
set_option linter.unusedSimpArgs false
set_option maxHeartbeats 2000000 in
set_option maxRecDepth 100000 in
theorem StoreApart_walk (a0 a1 : Int) (a2 : Option Addr) (c2 : Nat) (l2 : List Int) (a3 : Option Addr) (c3 : Nat) (l3 : List Int) (w : World) (hw0 : (Lit.int .u16 a0).wf = true) (hw1 : (Lit.int .u16 a1).wf = true)
    (hr2 : ReadsInt w .u8 a2 l2.length l2) (hc2 : l2.length ≤ c2) (y2 : l2.length * 1 ≤ 140737488351232) (hw2 : ∀ x ∈ l2, (Lit.int .u8 x).wf = true)
    (hr3 : ReadsInt w .u8 a3 l3.length l3) (hc3 : l3.length ≤ c3) (y3 : l3.length * 1 ≤ 140737488351232) (hw3 : ∀ x ∈ l3, (Lit.int .u8 x).wf = true) :
    Calls Try.prog 4 #[.int .u16 a0, .int .u16 a1, .slice a2 l2.length c2, .slice a3 l3.length c3] w fun e w' => e = .returned (.bool true) ∧ Below w.heap.size w w' := by
  have b0 : 0 ≤ a0 ∧ a0 ≤ 65535 := by simp [Lit.wf, IntKind.min, IntKind.max, IntKind.signed, IntKind.bits] at hw0; omega
  have b1 : 0 ≤ a1 ∧ a1 ≤ 65535 := by simp [Lit.wf, IntKind.min, IntKind.max, IntKind.signed, IntKind.bits] at hw1; omega
  obtain ⟨q, hq⟩ : ∃ q : Nat, a0 % 8000 = q := ⟨(a0 % 8000).toNat, by omega⟩
  obtain ⟨r, hr⟩ : ∃ r : Nat, a1 % 7000 = r := ⟨(a1 % 7000).toNat, by omega⟩
  have hq8 : q < 8000 := by omega
  have hr7 : r < 7000 := by omega
  obtain ⟨n, hn⟩ : ∃ n, n = min l2.length 200 := ⟨_, rfl⟩
  obtain ⟨m, hm⟩ : ∃ m, m = min l3.length 200 := ⟨_, rfl⟩
  have hm2 : Builtin.min2 (.int .i64 (l2.length : Int)) (.int .i64 200) = pure (.int .i64 (n : Int)) := min_const l2.length 200 n hn
  have hm3 : Builtin.min2 (.int .i64 (l3.length : Int)) (.int .i64 200) = pure (.int .i64 (m : Int)) := min_const l3.length 200 m hm
  have hnl : n ≤ l2.length := by omega
  have hml : m ≤ l3.length := by omega
  have hn2 : n ≤ 200 := by omega
  have hm2' : m ≤ 200 := by omega
  have hnc : n ≤ c2 := by omega
  have hmc : m ≤ c3 := by omega
  have hnc' : (n : Int) ≤ (c2 : Int) := by omega
  have hmc' : (m : Int) ≤ (c3 : Int) := by omega
  have HR2 := Aside0.mk (hr2.take_ n hnl)
  have HR3 := Aside0.mk (hr3.take_ m hml)
  have HQ := Aside0.mk hq
  have HR := Aside0.mk hr
  clear hn hm hr2 hr3 hw0 hw1 hw2 hw3 y2 y3
  go_enter Try.func4, Try.ntmps4
  go_wp2_with fail
  refine (awake19_calls w).mono ?_
  rintro e w1 ⟨rfl, hb⟩
  have HB := Aside0.mk hb
  have HL := Aside0.mk hb.size
  clear hb
  go_wp2_with fail
  go_region
  go_wp2_with fail
  have hS0 : Stor (w1.alloc (.cells Try.zeroCells28 28)).drew w1.heap.size zer16 := stor_new w1
  have hB0 : Below w.heap.size w (w1.alloc (.cells Try.zeroCells28 28)).drew := (HB.out.alloc HL.out _).drew
  generalize (w1.alloc (.cells Try.zeroCells28 28)).drew = w2 at *
  have HS0 := Aside0.mk hS0
  have HB0 := Aside0.mk hB0
  clear hS0 hB0
  generalize w1.heap.size = g at *
  refine (store_write_at g zer16 _ q a2 n c2 (l2.take n) w2 rfl HS0.out (HR2.out.below HB0.out) hnc (by omega)).mono ?_
  rintro e w3 ⟨rfl, hs, hc⟩
  have HS1 := Aside0.mk hs
  have HB1 := Aside0.mk (below_ch HB0.out hc HL.out)
  clear hs hc HS0 HB0
  go_wp2_with fail
  refine (store_write_at g (spl zer16 q (l2.take n)) _ (q + n + r) a3 m c3 (l3.take m) w3 (by omega) HS1.out (HR3.out.below HB1.out) hmc (by omega)).mono ?_
  rintro e w4 ⟨rfl, hs, hc⟩
  have HS2 := Aside0.mk hs
  have HB2 := Aside0.mk (below_ch HB1.out hc HL.out)
  clear hs hc HS1 HB1
  have hln : (l2.take n).length = n := HR2.out.1
  have hlm : (l3.take m).length = m := HR3.out.1
  have hle : (spl zer16 q (l2.take n)).length = 16384 := by rw [spl_len _ _ _ (by rw [zer16_len, hln]; omega), zer16_len]
  have e1 : ((spl (spl zer16 q (l2.take n)) (q + n + r) (l3.take m)).drop q).take n = l2.take n := by
    rw [spl_before _ _ _ _ _ (by omega) (by rw [hle]; omega)]
    have := spl_read zer16 q (l2.take n) (by rw [zer16_len, hln]; omega)
    rwa [hln] at this
  have e2 : ((spl (spl zer16 q (l2.take n)) (q + n + r) (l3.take m)).drop (q + n + r)).take m = l3.take m := by
    have := spl_read (spl zer16 q (l2.take n)) (q + n + r) (l3.take m) (by rw [hle, hlm]; omega)
    rwa [hlm] at this
  have E1 := Aside0.mk e1
  have E2 := Aside0.mk e2
  clear hln hlm hle e1 e2
  go_wp2_with fail
  refine (store_read_at g _ _ q _ n w4 rfl rfl HS2.out (by omega)).mono ?_
  rw [E1.out]
  rintro e w5 ⟨v, rfl, ⟨A, c, rfl, hlc, _, ho⟩, hb⟩
  have HO := Aside0.mk ho
  have HB3 := Aside0.mk (below_then HB2.out HB2.out.size hb)
  have HS3 := Aside0.mk (HS2.out.below_ hb)
  clear ho hb
  go_wp2_with fail
  refine (store_read_at g _ _ (q + n + r) _ m w5 (by omega) rfl HS3.out (by omega)).mono ?_
  rw [E2.out]
  rintro e w6 ⟨v, rfl, ⟨A', c', rfl, hlc', _, ho'⟩, hb⟩
  have HB4 := Aside0.mk (below_then HB3.out HB3.out.size hb)
  have k1 := own_string (P := Try.prog) (src := 23) (dst := 9) (e := 5) Try.underlying23 Try.underlying5 Try.underlying9 (pw_own_below HO.out hb)
  have k2 := own_string (P := Try.prog) (src := 23) (dst := 9) (e := 5) Try.underlying23 Try.underlying5 Try.underlying9 ho'
  have k3 := string_of_reads (P := Try.prog) (src := 23) (dst := 9) (e := 5) (c := c2) Try.underlying23 Try.underlying5 Try.underlying9 (HR2.out.below HB4.out)
  have k4 := string_of_reads (P := Try.prog) (src := 23) (dst := 9) (e := 5) (c := c3) Try.underlying23 Try.underlying5 Try.underlying9 (HR3.out.below HB4.out)
  clear ho' hb
  generalize strOfNums (l2.take n) = s2 at *
  generalize strOfNums (l3.take m) = s3 at *
  go_wp2
  go_ret
  exact ⟨rfl, HB4.out⟩
end Go.Proofs.Ythdkmgeigdoglaa.Hand
