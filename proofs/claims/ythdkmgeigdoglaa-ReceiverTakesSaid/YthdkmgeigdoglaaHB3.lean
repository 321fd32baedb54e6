import Derived.Test.YthdkmgeigdoglaaHB2
import Derived.ScopeJumps
import Derived.Deep.QuietTactic
import Derived.BigQuiet
/- Blocks: Scan. No statement is proved here. -/
namespace Go.Proofs.Ythdkmgeigdoglaa.Hand
open Go.RowKit Go.Proofs.YthdkmgeigdoglaaW.PrintWords Go.Proofs.YthdkmgeigdoglaaW.PrintLast Go.Proofs.YthdkmgeigdoglaaW.PrintMore H
attribute [local go_sem] max_two min_two max_three min_three max_four min_four
set_option linter.unusedVariables false
set_option linter.unusedSimpArgs false
theorem wp_scope_fwd {P : Program} {a : Act} {w : World} {Q : Exit → Act → World → Prop} {c rest : Code} (l : Nat) (hf : findLabel c l = some rest)
    (first : c.wp P (Exit.jump l (fun a w => rest.wp P (Exit.noGoto Q) a w) Q) a w) : (Code.scope c).wp P Q a w :=
  wp_scope_jumps l (fun a w => rest.wp P (Exit.noGoto Q) a w) (fun _ _ => 0) hf first
    (fun a w h => wp_mono h (fun e a w hq => by cases e <;> first | exact hq | exact hq.elim))
theorem jump_ret {l : Nat} {J : Act → World → Prop} {Q : Exit → Act → World → Prop} {a : Act} {w : World} (h : Q .ret a w) : Exit.jump l J Q .ret a w := h
theorem noGoto_ret {Q : Exit → Act → World → Prop} {a : Act} {w : World} (h : Q .ret a w) : Exit.noGoto Q .ret a w := h
theorem size58 : (Try.prog.info? 58).map (·.size) = some 2 := by kernel_rfl
theorem at0 {w : World} {ad : Addr} {x : Option Value} (h : w.cell? (ad.add (Int.toNat 0)) = x) : w.cell? ad = x := h
theorem at1 {w : World} {ad : Addr} {x : Option Value} (h : w.cell? (ad.add (Int.toNat 1)) = x) : w.cell? { block := ad.block, off := ad.off + 1 } = x := h
theorem at2 {w : World} {ad : Addr} {x : Option Value} (h : w.cell? (ad.add (Int.toNat 2)) = x) : w.cell? { block := ad.block, off := ad.off + 2 } = x := h
theorem put2 {w : World} {g : Nat} {a b x y : Value} (h : w.heap[g]? = some (.cells #[a, b] 58 (0, 0))) : ((w.setCell ⟨g, 0, none⟩ x).setCell ⟨g, 1, none⟩ y).heap[g]? = some (.cells #[x, y] 58 (0, 0)) :=
  blk_put (cs := #[x, b]) (blk_put (cs := #[a, b]) h 0 x rfl) 1 y rfl
theorem below_put2 {w w1 : World} {g : Nat} {x y : Value} (h : Below w.heap.size w w1) (hg : w.heap.size ≤ g) : Below w.heap.size w ((w1.setCell ⟨g, 0, none⟩ x).setCell ⟨g, 1, none⟩ y) :=
  (h.setCell (by exact hg) _).setCell (by exact hg) _
def sizeL (lead : Int) (crc : Bool) : Nat := if lead = 1 then (if crc = true then 133 else 132) else if lead = 2 then (if crc = true then 1029 else 1028) else 0
theorem size_f (lead : Int) (crc : Bool) : PBlockAny.block_Size.f lead crc = some ((sizeL lead crc : Nat) : Int) := by
  unfold PBlockAny.block_Size.f sizeL
  cases crc <;> split <;> (try split) <;> rfl
set_option maxHeartbeats 2000000 in
set_option maxRecDepth 100000 in
theorem scan_nil (A : Option Addr) (c : Nat) (crc : Bool) (w : World) :
    Calls Try.prog 52 #[.slice A 0 c, .bool crc] w fun e w' => e = .returned (.tuple #[.agg #[.int .u8 0, .slice none 0 0], .int .i64 0]) ∧ Below w.heap.size w w' := by
  have HB := Aside0.mk (below_alloc (below_alloc (Below.refl w.heap.size w) (.cells #[.int .u8 0, .slice none 0 0] 58)) (.cells #[.int .u8 0, .slice none 0 0] 58))
  go_enter Try.func52, Try.ntmps52
  go_wp2
  refine wp_scope_fwd 0 rfl ?_
  go_wp2
  go_step3
  refine ⟨rfl, ?_⟩
  go_wp2
  refine noGoto_ret ?_
  refine bodyPost_ret (results_ct rfl _ _ w.heap.size 58 #[.int .u8 0, .slice none 0 0] (0, 0) _ rfl (blk_alloc (blk_new _ _) _) Try.underlying58 rfl size58) rfl ⟨rfl, HB.out⟩
set_option maxHeartbeats 2000000 in
set_option maxRecDepth 100000 in
theorem scan_bad0 (A : Option Addr) (m c : Nat) (l : List Int) (crc : Bool) (w : World) (hr : ReadsInt w .u8 A m l) (hc : m ≤ c) (hu : U8s l) (hm : 0 < m) (h0 : sizeL (rd l 0) crc = 0) :
    Calls Try.prog 52 #[.slice A m c, .bool crc] w fun e w' => e = .returned (.tuple #[.agg #[.int .u8 0, .slice none 0 0], .int .i64 1]) ∧ Below w.heap.size w w' := by
  have HB := Aside0.mk (below_alloc (below_alloc (Below.refl w.heap.size w) (.cells #[.int .u8 0, .slice none 0 0] 58)) (.cells #[.int .u8 0, .slice none 0 0] 58))
  obtain ⟨ad, e0, hx⟩ := hr.at_ 0 (by omega) (by omega)
  cases e0
  have hy := at0 (pw_cell_below HB.out hx)
  have hu0 := hu.at_ 0
  have HS := Aside0.mk (size_f (rd l 0) crc)
  rw [h0] at HS
  clear hr hu h0 hx
  go_enter Try.func52, Try.ntmps52
  go_wp2
  refine wp_scope_fwd 1 rfl ?_
  go_wp2_with fail
  refine (PBlockAny.block_Size.calls _ crc _ _ HS.out).mono ?_
  rintro e w1 ⟨rfl, ⟨k, rfl⟩⟩
  go_wp2
  go_step3
  refine ⟨rfl, ?_⟩
  go_wp2
  refine noGoto_ret ?_
  refine bodyPost_ret (results_ct rfl _ _ w.heap.size 58 #[.int .u8 0, .slice none 0 0] (0, 0) _ rfl (put2 (blk_drewN (blk_alloc (blk_new _ _) _) k)) Try.underlying58 rfl size58) rfl ⟨rfl, below_put2 (pw_below_drewN HB.out k) (Nat.le_refl _)⟩
set_option maxHeartbeats 2000000 in
set_option maxRecDepth 100000 in
theorem scan_xor (A : Option Addr) (m c : Nat) (l : List Int) (crc : Bool) (w : World) (hr : ReadsInt w .u8 A m l) (hc : m ≤ c) (hu : U8s l) (hm : 2 < m) (h0 : sizeL (rd l 0) crc ≠ 0) (h1 : ¬ rd l 1 = 255 - rd l 2) :
    Calls Try.prog 52 #[.slice A m c, .bool crc] w fun e w' => e = .returned (.tuple #[.agg #[.int .u8 0, .slice none 0 0], .int .i64 1]) ∧ Below w.heap.size w w' := by
  have HB := Aside0.mk (below_alloc (below_alloc (Below.refl w.heap.size w) (.cells #[.int .u8 0, .slice none 0 0] 58)) (.cells #[.int .u8 0, .slice none 0 0] 58))
  obtain ⟨ad, e0, hx⟩ := hr.at_ 0 (by omega) (by omega)
  cases e0
  have hy := at0 (pw_cell_below HB.out hx)
  obtain ⟨_, e0, hx⟩ := hr.at_ 1 (by omega) (by omega)
  cases e0
  have hy1 := at1 (pw_cell_below HB.out hx)
  obtain ⟨_, e0, hx⟩ := hr.at_ 2 (by omega) (by omega)
  cases e0
  have hy2 := at2 (pw_cell_below HB.out hx)
  have hu0 := hu.at_ 0
  have hu2 := hu.at_ 2
  have hm2 : (2 : Int) < (m : Int) := by omega
  have hmd : decide ((2 : Int) < (m : Int)) = true := decide_eq_true hm2
  have hxr := bits_xor_max8 (rd l 2) hu2
  have hsg : IntKind.u8.signed = false := rfl
  have hbn : (rd l 1 != 255 - rd l 2) = true := by simpa using h1
  have hbe : (rd l 1 == 255 - rd l 2) = false := by simpa using h1
  have HS := Aside0.mk (size_f (rd l 0) crc)
  have hs0 : ¬ ((sizeL (rd l 0) crc : Nat) : Int) = 0 := by omega
  generalize sizeL (rd l 0) crc = n at *
  clear hr hu h0 hx
  go_enter Try.func52, Try.ntmps52
  go_wp2
  refine wp_scope_fwd 1 rfl ?_
  go_wp2_with fail
  refine (PBlockAny.block_Size.calls _ crc _ _ HS.out).mono ?_
  rintro e w1 ⟨rfl, ⟨k, rfl⟩⟩
  go_wp2
  go_quiet (fail)
  go_wp2
  go_step3
  refine ⟨rfl, ?_⟩
  go_wp2
  refine noGoto_ret ?_
  refine bodyPost_ret (results_ct rfl _ _ w.heap.size 58 #[.int .u8 0, .slice none 0 0] (0, 0) _ rfl (put2 (blk_drewN (blk_alloc (blk_new _ _) _) _)) Try.underlying58 rfl size58) rfl ⟨rfl, below_put2 (pw_below_drewN HB.out _) (Nat.le_refl _)⟩
set_option maxHeartbeats 2000000 in
set_option maxRecDepth 100000 in
theorem scan_need2 (A : Option Addr) (m c : Nat) (l : List Int) (crc : Bool) (w : World) (hr : ReadsInt w .u8 A m l) (hc : m ≤ c) (hu : U8s l) (hm : 0 < m) (hm2 : m ≤ 2) (h0 : sizeL (rd l 0) crc ≠ 0) (hs : m < sizeL (rd l 0) crc) :
    Calls Try.prog 52 #[.slice A m c, .bool crc] w fun e w' => e = .returned (.tuple #[.agg #[.int .u8 0, .slice none 0 0], .int .i64 0]) ∧ Below w.heap.size w w' := by
  have HB := Aside0.mk (below_alloc (below_alloc (Below.refl w.heap.size w) (.cells #[.int .u8 0, .slice none 0 0] 58)) (.cells #[.int .u8 0, .slice none 0 0] 58))
  obtain ⟨ad, e0, hx⟩ := hr.at_ 0 (by omega) (by omega)
  cases e0
  have hy := at0 (pw_cell_below HB.out hx)
  have hu0 := hu.at_ 0
  have hm2 : ¬ (2 : Int) < (m : Int) := by omega
  have hmd : decide ((2 : Int) < (m : Int)) = false := decide_eq_false hm2
  have HS := Aside0.mk (size_f (rd l 0) crc)
  have hs0 : ¬ ((sizeL (rd l 0) crc : Nat) : Int) = 0 := by omega
  have hms : (m : Int) < ((sizeL (rd l 0) crc : Nat) : Int) := by omega
  generalize sizeL (rd l 0) crc = n at *
  clear hr hu h0 hx
  go_enter Try.func52, Try.ntmps52
  go_wp2
  refine wp_scope_fwd 0 rfl ?_
  go_wp2_with fail
  refine (PBlockAny.block_Size.calls _ crc _ _ HS.out).mono ?_
  rintro e w1 ⟨rfl, ⟨k, rfl⟩⟩
  go_wp2
  go_quiet (fail)
  go_wp2
  go_step3
  refine ⟨rfl, ?_⟩
  go_wp2
  refine noGoto_ret ?_
  refine bodyPost_ret (results_ct rfl _ _ w.heap.size 58 #[.int .u8 0, .slice none 0 0] (0, 0) _ rfl (put2 (blk_drewN (blk_alloc (blk_new _ _) _) _)) Try.underlying58 rfl size58) rfl ⟨rfl, below_put2 (pw_below_drewN HB.out _) (Nat.le_refl _)⟩
set_option maxHeartbeats 2000000 in
set_option maxRecDepth 100000 in
theorem scan_need3 (A : Option Addr) (m c : Nat) (l : List Int) (crc : Bool) (w : World) (hr : ReadsInt w .u8 A m l) (hc : m ≤ c) (hu : U8s l) (hm : 2 < m) (h1 : rd l 1 = 255 - rd l 2) (h0 : sizeL (rd l 0) crc ≠ 0) (hs : m < sizeL (rd l 0) crc) :
    Calls Try.prog 52 #[.slice A m c, .bool crc] w fun e w' => e = .returned (.tuple #[.agg #[.int .u8 0, .slice none 0 0], .int .i64 0]) ∧ Below w.heap.size w w' := by
  have HB := Aside0.mk (below_alloc (below_alloc (Below.refl w.heap.size w) (.cells #[.int .u8 0, .slice none 0 0] 58)) (.cells #[.int .u8 0, .slice none 0 0] 58))
  obtain ⟨ad, e0, hx⟩ := hr.at_ 0 (by omega) (by omega)
  cases e0
  have hy := at0 (pw_cell_below HB.out hx)
  obtain ⟨_, e0, hx⟩ := hr.at_ 1 (by omega) (by omega)
  cases e0
  have hy1 := at1 (pw_cell_below HB.out hx)
  obtain ⟨_, e0, hx⟩ := hr.at_ 2 (by omega) (by omega)
  cases e0
  have hy2 := at2 (pw_cell_below HB.out hx)
  have hu0 := hu.at_ 0
  have hu2 := hu.at_ 2
  have hm2 : (2 : Int) < (m : Int) := by omega
  have hmd : decide ((2 : Int) < (m : Int)) = true := decide_eq_true hm2
  have hxr := bits_xor_max8 (rd l 2) hu2
  have hsg : IntKind.u8.signed = false := rfl
  rw [h1] at hy1
  have HS := Aside0.mk (size_f (rd l 0) crc)
  have hs0 : ¬ ((sizeL (rd l 0) crc : Nat) : Int) = 0 := by omega
  have hms : (m : Int) < ((sizeL (rd l 0) crc : Nat) : Int) := by omega
  generalize sizeL (rd l 0) crc = n at *
  clear hr hu h0 hx
  go_enter Try.func52, Try.ntmps52
  go_wp2
  refine wp_scope_fwd 0 rfl ?_
  go_wp2_with fail
  refine (PBlockAny.block_Size.calls _ crc _ _ HS.out).mono ?_
  rintro e w1 ⟨rfl, ⟨k, rfl⟩⟩
  go_wp2
  go_quiet (fail)
  go_wp2
  go_step3
  refine ⟨rfl, ?_⟩
  go_wp2
  refine noGoto_ret ?_
  refine bodyPost_ret (results_ct rfl _ _ w.heap.size 58 #[.int .u8 0, .slice none 0 0] (0, 0) _ rfl (put2 (blk_drewN (blk_alloc (blk_new _ _) _) _)) Try.underlying58 rfl size58) rfl ⟨rfl, below_put2 (pw_below_drewN HB.out _) (Nat.le_refl _)⟩
end Go.Proofs.Ythdkmgeigdoglaa.Hand
