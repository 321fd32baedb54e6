import Derived.Deep.Matrix
import Derived.SizedLaws
import Derived.Test.YtpfcpookdocikaaK2
/- Rows of bytes, as a row hands them. No statement is proved here. -/
set_option linter.unusedVariables false
namespace Go.Proofs.Ytpfcpookdocikaa.SL
open Go Go.RowKit
/-- rows as an argument brings them -/
structure PartsAt (w : World) (a : Option Addr) (rows : List Part) : Prop where
  row : ∀ H, Shows (WH w w.heap.size H) a rows.length 1 (rows.map pVal)
  all : ∀ H, ShowsAll (WH w w.heap.size H) rows
  u8 : ∀ p ∈ rows, U8s p.2.2
  max : ∀ p ∈ rows, p.2.2.length ≤ 140737488355328
theorem weightsAll_mem {HT : Type} {P : Program} {e : TypeId} {d : DataW HT} {n : Nat} : ∀ {l : List (DataW HT)}, d ∈ l → n ∈ d.weights P e → n ∈ DataW.weightsAll P e l
  | x :: l, hd, hn => by
    unfold DataW.weightsAll
    rcases List.mem_cons.1 hd with rfl | hd
    · exact List.mem_append_left _ hn
    · exact List.mem_append_right _ (weightsAll_mem hd hn)
open Go.ChangeShapes Go.WideShapes Go.Deep in
theorem open_rowsU {HT : Type} {enc : TypeId × Value → HT} {P : Program} {W : World} {base : Nat} {held : Bool} {t e q : TypeId} {a : Option Addr} {len cap : Nat} {d : DataW HT} {ps : List MemPlace} {ts : List TypeId} {ds : List (DataW HT)} {j : Nat}
    (hsz : (DataW.weightsEach P ts ds).all (· ≤ reachBytes) = true) (ht : ts[j]? = some t) (hd : ds[j]? = some d) (hu : P.underlying t = some (.slice e)) (he : P.underlying e = some (.slice q)) (hq : P.underlying q = some (.int .u8)) (hc : P.cellsOf e = 1) (hc2 : P.cellsOf q = 1) (hB : P.bytesOf e = 24) (hB2 : P.bytesOf q = 1)
    (h : DataW.Trod enc P W base (fun _ => true) held t (.slice a len cap) d ps) : ∃ rows : List Part, len = rows.length ∧ rows.length ≤ cap ∧ rows.length ≤ 5864062014634 ∧ PartsAt W a rows := by
  obtain ⟨fuel, hf⟩ := h
  rcases open_int_rows hu he hq hc hc2 hf with ⟨hcs, _⟩ | ⟨x, l, c, A, L, C, Z, hcs, _, hlc, hm, hx, hcell⟩
  · simp [Value.cells] at hcs
    obtain ⟨rfl, rfl, rfl⟩ := hcs
    exact ⟨[], rfl, Nat.le_refl _, by simp, ⟨fun H => Shows.nil, (fun H p hp => nomatch hp), (fun p hp => nomatch hp), (fun p hp => nomatch hp)⟩⟩
  · simp [Value.cells] at hcs
    obtain ⟨rfl, rfl, rfl⟩ := hcs
    obtain ⟨hx, _⟩ := Prod.mk.inj hx
    subst hx
    have hlen : ∀ r, r < len → ((Z r).take (L r)).length = L r := fun r hr => by
      have := hcell r (by omega)
      rw [List.length_take]
      omega
    have z := sized_slice hsz ht hd hu
    rw [hB] at z
    simp only [List.length_map, List.length_range, reachBytes] at z
    have hzl : ∀ r, r < len → L r ≤ 140737488355328 := fun r hr => by
      have hcr := hcell r (by omega)
      cases hA : A r with
      | none => have := hcr.2.2.2.2.2.1 hA; omega
      | some a' =>
        have hmem : (intRow .u8 (A r) (L r) (Z r) : DataW HT) ∈ (List.range len).map fun r => intRow .u8 (A r) (L r) (Z r) := List.mem_map.2 ⟨r, List.mem_range.2 hr, rfl⟩
        have hw : (Z r).length * 1 ∈ (intRow .u8 (A r) (L r) (Z r) : DataW HT).weights P e := by
          rw [hA]
          simp [intRow, DataW.weights, he, hB2, lits]
          omega
        have h1 := weightsAll_mem hmem hw
        have h2 := List.all_eq_true.1 hsz _ (DataW.weights_mem_each ht hd ((Z r).length * 1) (by simp only [DataW.weights, hu]; exact List.mem_cons_of_mem _ (List.mem_append_left _ h1)))
        have h2 := of_decide_eq_true h2
        simp only [reachBytes] at h2
        have := hcr.2.1
        have := hcr.2.2.2.1
        omega
    refine ⟨(List.range len).map fun r => (A r, C r, (Z r).take (L r)), by simp, by simpa using hlc, by simp; omega, ⟨fun H w' ⟨HX, hr⟩ => ?_, fun H p hp => ?_, fun p hp => ?_, fun p hp => ?_⟩⟩
    · refine ⟨by simp, fun j v hj => ?_⟩
      simp only [List.map_map, List.getElem?_map] at hj
      obtain ⟨r, hr1, hv⟩ := Option.map_eq_some_iff.1 hj
      obtain ⟨hr2, hr3⟩ := List.getElem?_eq_some_iff.1 hr1
      simp only [List.getElem_range] at hr3
      subst hr3
      simp only [List.length_range] at hr2
      have hc0 := (hcell j (by omega)).1
      have hv2 : v = .slice (A j) (L j) (C j) := by
        rw [← hv]
        show Value.slice (A j) ((Z j).take (L j)).length (C j) = _
        rw [hlen j hr2]
      exact ⟨x, rfl, hr.old (by rw [hc0, hv2]) (World.block_lt_of_cell? W _ hc0)⟩
    · obtain ⟨r, hr, rfl⟩ := List.mem_map.1 hp
      have hr1 := List.mem_range.1 hr
      have hcr := hcell r (by omega)
      refine ⟨fun w' ⟨HX, hrp⟩ => ⟨by simp [nums], fun j v hj => ?_⟩, by show ((Z r).take (L r)).length ≤ C r; rw [hlen r hr1]; omega⟩
      have hjl : j < ((Z r).take (L r)).length := by
        have := (List.getElem?_eq_some_iff.1 hj).1
        simpa [nums] using this
      rw [hlen r hr1] at hjl
      have hv : v = .int .u8 ((Z r).getD j 0) := by
        simp only [nums, List.getElem?_map] at hj
        obtain ⟨z, hz, rfl⟩ := Option.map_eq_some_iff.1 hj
        rw [List.getElem?_take_of_lt hjl] at hz
        rw [List.getD_eq_getElem?_getD, hz]
        rfl
      cases hA : A r with
      | none => have := hcr.2.2.2.2.2.1 hA; omega
      | some a' =>
        have hcc := (hcr.2.2.2.2.2.2 a' hA).2 j (by omega)
        exact ⟨a', rfl, hrp.old (by rw [hcc, hv]) (World.block_lt_of_cell? W _ hcc)⟩
    · obtain ⟨r, hr, rfl⟩ := List.mem_map.1 hp
      have hcr := hcell r (by have := List.mem_range.1 hr; omega)
      exact U8s.of_wf fun z hz => hcr.2.2.2.2.1 z (List.mem_of_mem_take hz)
    · obtain ⟨r, hr, rfl⟩ := List.mem_map.1 hp
      have hr1 := List.mem_range.1 hr
      show ((Z r).take (L r)).length ≤ _
      rw [hlen r hr1]
      exact hzl r hr1
end Go.Proofs.Ytpfcpookdocikaa.SL
