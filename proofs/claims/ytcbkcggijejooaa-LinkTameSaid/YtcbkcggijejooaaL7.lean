import Derived.Test.YtcbkcggijejooaaL6
import Derived.Lib.SmallJoins
import Derived.Deep.Matrix
/- Noise, as it comes in; LinkMost, walked. No statement is proved here. -/
set_option linter.unusedVariables false
set_option linter.unusedSimpArgs false
set_option maxRecDepth 100000
set_option maxHeartbeats 8000000
namespace Go.Proofs.Ytcbkcggijejooaa.SL
open Go Go.RowKit
section
variable {w0 : World} {B : Nat} {H X : List Chunk}
theorem cell_lt' {w : World} {a : Addr} {v : Value} (h : w.cell? a = some v) : a.block < w.heap.size := by
  by_cases hlt : a.block < w.heap.size
  · exact hlt
  · simp [World.cell?, Array.getElem?_eq_none (show w.heap.size ≤ a.block by omega)] at h
theorem shows_cells' {w0 : World} {H : List Chunk} {A : Option Addr} {m es : Nat} {ys : List Value} (hl : ys.length = m * es) (h : ∀ j v, ys[j]? = some v → ∃ p, A = some p ∧ w0.cell? (p.add j) = some v) : Shows (WH w0 w0.heap.size H) A m es ys := fun w ⟨HX, hr⟩ => by
  refine ⟨hl, fun j v hj => ?_⟩
  obtain ⟨p, e, hc⟩ := h j v hj
  exact ⟨p, e, hr.old hc (cell_lt' hc)⟩
theorem nzCells_inv : ∀ (ns : List Nz) (j : Nat) (v : Value), (nzCells ns)[j]? = some v → ∃ (i : Nat) (z : Nz), ns[i]? = some z ∧ (j = i * 3 ∧ v = .bool z.lost ∨ j = i * 3 + 1 ∧ v = .int .i64 z.at_ ∨ j = i * 3 + 2 ∧ v = .int .u8 z.by_)
  | [], j, v, h => by simp [nzCells] at h
  | z :: zs, 0, v, h => ⟨0, z, rfl, .inl ⟨rfl, by simpa [nzCells] using h.symm⟩⟩
  | z :: zs, 1, v, h => ⟨0, z, rfl, .inr (.inl ⟨rfl, by simpa [nzCells] using h.symm⟩)⟩
  | z :: zs, 2, v, h => ⟨0, z, rfl, .inr (.inr ⟨rfl, by simpa [nzCells] using h.symm⟩)⟩
  | z :: zs, j + 3, v, h => by
    obtain ⟨i, y, hi, hv⟩ := nzCells_inv zs j v (by simpa [nzCells] using h)
    refine ⟨i + 1, y, by simpa using hi, ?_⟩
    rcases hv with ⟨h1, h2⟩ | ⟨h1, h2⟩ | ⟨h1, h2⟩
    · exact .inl ⟨by omega, h2⟩
    · exact .inr (.inl ⟨by omega, h2⟩)
    · exact .inr (.inr ⟨by omega, h2⟩)
instance : Inhabited Nz := ⟨⟨false, 0, 0⟩⟩
theorem open_noise {K : Type} {enc : TypeId × Value → K} {w : World} {base : Nat} {a : Option Addr} {len cap : Nat} {d : DataW K} {ps : List MemPlace} (h : DataW.Trod enc Try.prog w base (fun _ => true) true 44 (.slice a len cap) d ps) : ∃ ns : List Nz, ns.length = len ∧ len ≤ cap ∧ len ≤ maxLen ∧ ∀ H, Shows (WH w w.heap.size H) a len 3 (nzCells ns) := by
  obtain ⟨fuel, hf⟩ := h
  have hC : Try.prog.cellsOf 68 = 3 := by kernel_rfl
  rcases Go.Deep.open_slice Try.underlying44 hf with ⟨hcs, _⟩ | ⟨x, l, c, m, n, D, Pl, hcs, _, hlc, hmx, hmm, _, hall⟩
  · simp [Value.cells] at hcs
    obtain ⟨rfl, rfl, rfl⟩ := hcs
    exact ⟨[], rfl, Nat.le_refl _, Nat.zero_le _, fun H w hw => ⟨rfl, fun j v h => by simp [nzCells] at h⟩⟩
  · simp [Value.cells] at hcs
    obtain ⟨rfl, rfl, rfl⟩ := hcs
    rw [if_pos rfl] at hmm
    have key : ∀ i, i < len → ∃ z : Nz, w.cell? (x.add (i * 3)) = some (.bool z.lost) ∧ w.cell? (x.add (i * 3 + 1)) = some (.int .i64 z.at_) ∧ w.cell? (x.add (i * 3 + 2)) = some (.int .u8 z.by_) := by
      intro i hi
      obtain ⟨cs', h1, h2⟩ := hall i (by omega)
      rw [hC] at h1
      obtain ⟨y0, y1, y2, n', _, hl3, t0, t1, t2⟩ := Go.Deep.trod_struct3 Try.underlying68 h2
      obtain ⟨b, e0, _⟩ := DataW.trod_bool Try.underlying4 t0
      obtain ⟨p, e1, _, _⟩ := DataW.trod_int Try.underlying3 t1
      obtain ⟨q, e2, _, _⟩ := DataW.trod_int Try.underlying5 t2
      have hc := (World.cells?_some h1).2.2
      rw [hC] at hl3
      obtain ⟨v0, v1, v2, rfl⟩ : ∃ v0 v1 v2, cs' = [v0, v1, v2] := by
        match cs', hl3 with
        | [u0, u1, u2], _ => exact ⟨_, _, _, rfl⟩
      simp [show Try.prog.cellsOf 4 = 1 by kernel_rfl] at e0
      simp [show Try.prog.cellsOf 3 = 1 by kernel_rfl] at e1
      simp [show Try.prog.cellsOf 5 = 1 by kernel_rfl] at e2
      subst e0 e1 e2
      refine ⟨⟨b, p, q⟩, ?_, ?_, ?_⟩
      · have := hc 0 (by decide)
        rw [Go.Deep.add_add] at this
        exact this
      · have := hc 1 (by decide)
        rw [Go.Deep.add_add] at this
        exact this
      · have := hc 2 (by decide)
        rw [Go.Deep.add_add] at this
        exact this
    obtain ⟨f, hf2⟩ := Go.Deep.choose_lt key
    refine ⟨(List.range len).map f, by simp, hlc, by omega, fun H => shows_cells' (by rw [nzCells_len]; simp) fun j v hj => ?_⟩
    obtain ⟨i, z, hi, hv⟩ := nzCells_inv _ j v hj
    rw [List.getElem?_map] at hi
    obtain ⟨r, hr, rfl⟩ := Option.map_eq_some_iff.1 hi
    obtain ⟨hr1, hr2⟩ := List.getElem?_eq_some_iff.1 hr
    simp only [List.getElem_range] at hr2
    subst hr2
    simp only [List.length_range] at hr1
    obtain ⟨k0, k1, k2⟩ := hf2 i hr1
    refine ⟨x, rfl, ?_⟩
    rcases hv with ⟨rfl, rfl⟩ | ⟨rfl, rfl⟩ | ⟨rfl, rfl⟩
    · exact k0
    · exact k1
    · exact k2
theorem shows_pre {W : World → Prop} {A : Option Addr} {m k : Nat} {xs ys : List Int} (h : Shows W A m 1 (nums .u8 ys)) (hk : k ≤ m) (hp : ys.take k = xs) : Shows W A k 1 (nums .u8 xs) := by
  have := h.upto k hk
  rw [Nat.mul_one] at this
  unfold nums at *
  rw [← hp, List.map_take]
  exact this
theorem run_fit {qs : List (List Int)} (ns : List Nz) : ∀ (n : Nat) {x : Lk}, x.Fit qs → (x.run ns n).Fit qs
  | 0, x, h => h
  | n + 1, x, h => by
    cases ho : x.isOver with
    | true => rw [run_over ho]; exact ⟨h.s, h.q, h.r, h.ul, h.uu, h.sl⟩
    | false => rw [run_step ho]; exact run_fit ns n (h.next ns)
theorem T_mid3 {P : Program} {n : Nat} {Q : Exit → Fr → List Chunk → Prop} {fr : Fr} {α0 α1 α2 : Type} {c y : Code} (inv : α0 → α1 → α2 → Prop) (F : α0 → α1 → α2 → Fr) (HH : α0 → α1 → α2 → List Chunk)
    (h1 : T P w0 B n c (Then (fun f h => ∃ a0 a1 a2, inv a0 a1 a2 ∧ FrSub (F a0 a1 a2) f ∧ Has h (HH a0 a1 a2)) Q) fr H) (h2 : ∀ a0 a1 a2, inv a0 a1 a2 → T P w0 B n y Q (F a0 a1 a2) (HH a0 a1 a2)) : T P w0 B n c (Then (fun f h => T P w0 B n y Q f h) Q) fr H := by
  refine h1.mono ?_
  rintro e f h hq
  cases e with
  | normal =>
    obtain ⟨a0, a1, a2, hi, hf, h3, p, s⟩ := hq
    exact T.weaken hf (T.perm p (T.drop s (h2 a0 a1 a2 hi)))
  | _ => exact hq
end
end Go.Proofs.Ytcbkcggijejooaa.SL
