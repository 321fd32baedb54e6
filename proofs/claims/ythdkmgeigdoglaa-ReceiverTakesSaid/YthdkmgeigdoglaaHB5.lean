import Derived.Test.YthdkmgeigdoglaaHB3
/- Blocks: Make of other lengths; made. No statement is proved here. -/
namespace Go.Proofs.Ythdkmgeigdoglaa.Hand
open Go.RowKit Go.Proofs.YthdkmgeigdoglaaW.PrintWords Go.Proofs.YthdkmgeigdoglaaW.PrintLast Go.Proofs.YthdkmgeigdoglaaW.PrintMore H
attribute [local go_sem] max_two min_two max_three min_three max_four min_four
set_option linter.unusedVariables false
set_option linter.unusedSimpArgs false
set_option maxHeartbeats 2000000 in
set_option maxRecDepth 100000 in
theorem make_no (num : Int) (A : Option Addr) (m c : Nat) (crc : Bool) (w : World) (h1 : m ≠ 128) (h2 : m ≠ 1024) :
    Calls Try.prog 49 #[.agg #[.int .u8 num, .slice A m c], .bool crc] w fun e w' => e = .returned (.tuple #[.slice none 0 0, .bool false]) ∧ Below w.heap.size w w' := by
  have HB := Aside0.mk (below_alloc (Below.refl w.heap.size w) (.cells #[.int .u8 num, .slice A m c] 58))
  have e1 : ¬ (m : Int) = 128 := by omega
  have e2 : ¬ (m : Int) = 1024 := by omega
  have e3 : ((m : Int) == 128) = false := by simpa using e1
  have e4 : ((m : Int) == 1024) = false := by simpa using e2
  go_enter Try.func49, Try.ntmps49
  go_wp2
  go_ret2
  exact ⟨rfl, HB.out⟩
theorem str_len (xs : List Int) : (strOfNums xs).size = xs.length := by
  unfold strOfNums
  simp [ByteArray.size]
theorem str_app (xs ys : List Int) : strOfNums xs ++ strOfNums ys = strOfNums (xs ++ ys) := by
  apply ByteArray.ext
  rw [ByteArray.data_append]
  unfold strOfNums
  simp
theorem made_f (num : Int) (l : List Int) (crc : Bool) (hl : l.length ≤ 2000) (hu : U8s l) (hn : 0 ≤ num ∧ num ≤ 255) :
    PBlockAny.lifelinelaw04_made.f (l.length + 11) num l crc = some (strOfNums (blockL (if l.length = 1024 then 2 else 1) num l crc)) := by
  have hcr := crcI_range l
  have e1 : (255 - num) % 256 = 255 - num := by omega
  have e2 : (IntKind.u16.wrap ((crcI l).tdiv 256)) % 256 = crcI l / 256 := by rw [wrap_u16, Int.tdiv_eq_ediv_of_nonneg (by omega)]; omega
  have e3 : (crcI l).tmod 256 % 256 = crcI l % 256 := by rw [Int.tmod_eq_emod_of_nonneg (by omega)]; omega
  have key : ∀ lead : Int, PBlockAny.lifelinelaw04_made.j0 (l.length + 11) num l crc lead = some (strOfNums (blockL lead num l crc)) := by
    intro lead
    rw [show l.length + 11 = (l.length + 10) + 1 from rfl]
    simp only [PBlockAny.lifelinelaw04_made.j0, Option.bind_some, e1]
    rw [if_pos (by rw [str_len, str_len]; simp only [List.length_cons, List.length_nil]; omega)]
    cases crc with
    | true =>
      rw [if_pos rfl, crc_f l (by omega) hu _ (by omega)]
      simp only [Option.bind_some, e2, e3]
      rw [if_pos (by rw [str_app, str_len, str_len]; simp only [List.length_append, List.length_cons, List.length_nil]; omega), str_app, str_app]
      rfl
    | false =>
      rw [if_neg (by simp), check_f l (by omega) _ (by omega)]
      simp only [Option.bind_some]
      rw [if_pos (by rw [str_app, str_len, str_len]; simp only [List.length_append, List.length_cons, List.length_nil]; omega), str_app, str_app]
      rfl
  unfold PBlockAny.lifelinelaw04_made.f
  split
  · rw [if_pos (by omega)]
    exact key 2
  · rw [if_neg (by omega)]
    exact key 1
theorem made_any (num : Int) (A : Option Addr) (m c : Nat) (l : List Int) (crc : Bool) (w : World) (hr : ReadsInt w .u8 A m l) (hc : m ≤ c) (hm : m ≤ 2000) (hu : U8s l) (hn : 0 ≤ num ∧ num ≤ 255) :
    Calls Try.prog 50 #[.int .u8 num, .slice A m c, .bool crc] w fun e w' => e = .returned (.string (strOfNums (blockL (if m = 1024 then 2 else 1) num l crc))) ∧ Below w.heap.size w w' := by
  obtain rfl := hr.1
  exact PBlockAny.lifelinelaw04_made.calls (l.length + 11) num A c l crc _ w (Kd.C_of_reads (d := (0 : Int)) (h1 := fun _ => rfl) hr) hc (made_f num l crc hm hu hn)
end Go.Proofs.Ythdkmgeigdoglaa.Hand
