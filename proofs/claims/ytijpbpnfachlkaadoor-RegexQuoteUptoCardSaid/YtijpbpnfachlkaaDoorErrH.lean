import Derived.Test.YtijpbpnfachlkaaDoorErrG
/- api.Number and api.Place at errors that are a number at a place. No statement is proved here. -/
set_option linter.unusedVariables false
set_option linter.unusedSimpArgs false
set_option maxRecDepth 100000
set_option maxHeartbeats 8000000
namespace Go.Proofs.YtijpbpnfachlkaaDoor.SL
open Go Go.RowKit Go.Extern
theorem laid_alloc {w : World} (hg : Laid w) (o : Obj) : Laid (w.alloc o) := by
  have hlt := laid_pos hg
  unfold Laid at hg ⊢
  rw [World.cell?_alloc_lt _ _ ⟨0, 0, none⟩ hlt]; exact hg

theorem place_fault (no p : Int) (w : World) (hg : Laid w) :
    Calls Tryd.prog 14 #[.iface 77 (fv no p)] w fun ev w' => ev = .returned (.int .i64 p) ∧ Below w.heap.size w w' := by
  have hgA := laid_alloc hg (.cells #[.int .i64 0, .int .i64 0] 77)
  have hcA : ∀ j, j < 2 → ((w.alloc (.cells #[.int .i64 0, .int .i64 0] 77)).cell? ⟨w.heap.size, j, none⟩).isSome = true := fun j hj => by
    rw [World.cell?_alloc_at _ _ _ _ rfl]
    rcases j with _ | _ | j
    · rfl
    · rfl
    · omega
  have hfA : ∀ j, j < 2 → (w.alloc (.cells #[.int .i64 0, .int .i64 0] 77)).frozen? ⟨w.heap.size, j, none⟩ = false := fun j hj => by simp
  have hb : ∀ (W : World) (o : Obj), Below w.heap.size w W → Below w.heap.size w (W.alloc o) := fun W o h => h.alloc h.size o
  have ha : Calls Tryd.prog 36 #[.iface 77 (fv no p), .iface 78 (.pointer (some ⟨w.heap.size, 0, none⟩))] (w.alloc (.cells #[.int .i64 0, .int .i64 0] 77)) fun ev w' => ev = .returned (.bool true) ∧ w' = (((((((w.alloc (.cells #[.int .i64 0, .int .i64 0] 77)).alloc (.cells #[.pointer (some ⟨w.heap.size, 0, none⟩)] 78)).alloc (.cells #[hdl 78, .pointer (some ⟨(w.alloc (.cells #[.int .i64 0, .int .i64 0] 77)).heap.size, 0, none⟩), .int .u64 150] 109)).alloc (.cells #[hdl 78, .pointer (some ⟨(w.alloc (.cells #[.int .i64 0, .int .i64 0] 77)).heap.size, 0, none⟩), .int .u64 150] 109)).alloc (.cells #[.int .i64 no, .int .i64 p] 77))).setCell ⟨w.heap.size, 0, none⟩ (.int .i64 no)).setCell ⟨w.heap.size, 1, none⟩ (.int .i64 p) := (asFF no p w.heap.size ⟨w.heap.size, 0, none⟩ rfl (w.alloc (.cells #[.int .i64 0, .int .i64 0] 77)) hgA (by simp) hcA hfA).mono fun e w' h => ⟨h.1, by rw [h.2]; simp [World.setCells]⟩
  go_enter Tryd.func14, Tryd.ntmps14
  go_wp2_with (go_at_call 36; refine ha.mono ?_; rintro e w' ⟨rfl, rfl⟩)
  go_ret
  refine ⟨rfl, ?_⟩
  exact hb _ _ (hb _ _ (hb _ _ (hb _ _ (hb _ _ (Below.refl _ _)))))
theorem place_number (k : Int) (w : World) (hg : Laid w) :
    Calls Tryd.prog 14 #[.iface 37 (.int .i64 k)] w fun ev w' => ev = .returned (.int .i64 (-1)) ∧ Below w.heap.size w w' := by
  have hgA := laid_alloc hg (.cells #[.int .i64 0, .int .i64 0] 77)
  have hb : ∀ (W : World) (o : Obj), Below w.heap.size w W → Below w.heap.size w (W.alloc o) := fun W o h => h.alloc h.size o
  have ha := asFE k ⟨w.heap.size, 0, none⟩ (w.alloc (.cells #[.int .i64 0, .int .i64 0] 77)) hgA
  go_enter Tryd.func14, Tryd.ntmps14
  go_wp2_with (go_at_call 36; refine ha.mono ?_; rintro e w' ⟨rfl, rfl⟩)
  go_ret
  refine ⟨rfl, ?_⟩
  exact (hb _ _ (hb _ _ (hb _ _ (hb _ _ (Below.refl _ _)))))
theorem number_fault (no p : Int) (w : World) (hg : Laid w) :
    Calls Tryd.prog 13 #[.iface 77 (fv no p)] w fun ev w' => ev = .returned (.int .i64 no) ∧ Below w.heap.size w w' := by
  have hgA := laid_alloc hg (.cells #[.int .i64 0] 37)
  have htA : (w.alloc (.cells #[.int .i64 0] 37)).cell? ⟨w.heap.size, 0, none⟩ = some (.int .i64 0) := by simp
  have hfA : (w.alloc (.cells #[.int .i64 0] 37)).frozen? ⟨w.heap.size, 0, none⟩ = false := by simp
  have hb : ∀ (W : World) (o : Obj), Below w.heap.size w W → Below w.heap.size w (W.alloc o) := fun W o h => h.alloc h.size o
  go_enter Tryd.func13, Tryd.ntmps13
  go_wp2_with (go_at_call 36; refine (asEF no p _ (.int .i64 0) _ hgA htA hfA).mono ?_; rintro e w' ⟨rfl, rfl⟩)
  go_ret
  refine ⟨rfl, ?_⟩
  exact hb _ _ (hb _ _ (hb _ _ (hb _ _ (hb _ _ (hb _ _ (Below.refl _ _))))))
section
variable {w0 : World} {B : Nat} {H : List Chunk}
theorem numberF_t (hL : Laid w0) (hB : 0 < B) (no p : Int) :
    TCall Tryd.prog w0 B 13 #[.iface 77 (.agg #[.int .i64 no, .int .i64 p])] (fun r H' => r = .int .i64 no ∧ H' = H) H :=
  TCall.below fun w ⟨HX, hr⟩ => (number_fault no p w (hr.old hL hB)).mono fun e w' ⟨he, hb⟩ => ⟨_, he, rfl, hb⟩
theorem placeF_t (hL : Laid w0) (hB : 0 < B) (no p : Int) :
    TCall Tryd.prog w0 B 14 #[.iface 77 (.agg #[.int .i64 no, .int .i64 p])] (fun r H' => r = .int .i64 p ∧ H' = H) H :=
  TCall.below fun w ⟨HX, hr⟩ => (place_fault no p w (hr.old hL hB)).mono fun e w' ⟨he, hb⟩ => ⟨_, he, rfl, hb⟩
theorem placeE_t (hL : Laid w0) (hB : 0 < B) (k : Int) :
    TCall Tryd.prog w0 B 14 #[.iface 37 (.int .i64 k)] (fun r H' => r = .int .i64 (-1) ∧ H' = H) H :=
  TCall.below fun w ⟨HX, hr⟩ => (place_number k w (hr.old hL hB)).mono fun e w' ⟨he, hb⟩ => ⟨_, he, rfl, hb⟩
end
end Go.Proofs.YtijpbpnfachlkaaDoor.SL
