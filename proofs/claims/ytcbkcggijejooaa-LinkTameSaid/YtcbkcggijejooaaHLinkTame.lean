import Derived.Test.YtcbkcggijejooaaT10
/- The law LinkTame, as its row asks for it. -/
set_option linter.unusedVariables false
namespace Go.Proofs.Ytcbkcggijejooaa.SL
open Go Go.RowKit
theorem sized_noise {K : Type} {enc : TypeId × Value → K} {W : World} {base : Nat} {a : Option Addr} {len cap : Nat} {d : DataW K} {ps : List MemPlace} {ts : List TypeId} {ds : List (DataW K)} {j : Nat}
    (hsz : (DataW.weightsEach Try.prog ts ds).all (· ≤ reachBytes) = true) (ht : ts[j]? = some 44) (hd : ds[j]? = some d) (h : DataW.Trod enc Try.prog W base (fun _ => true) true 44 (.slice a len cap) d ps) : len * 24 ≤ 140737488351232 := by
  obtain ⟨fuel, hf⟩ := h
  have hB : Try.prog.bytesOf 68 = 24 := by kernel_rfl
  rcases Go.Deep.open_slice Try.underlying44 hf with ⟨hcs, _⟩ | ⟨x, l, c, m, n, D, Pl, hcs, _, hlc, hmx, hmm, hx, hall⟩
  · simp [Value.cells] at hcs
    obtain ⟨rfl, rfl, rfl⟩ := hcs
    simp
  · simp [Value.cells] at hcs
    obtain ⟨rfl, rfl, rfl⟩ := hcs
    obtain ⟨hx, _⟩ := Prod.mk.inj hx
    subst hx
    have z := sized_slice hsz ht hd Try.underlying44
    rw [hB] at z
    simp only [List.length_map, List.length_range] at z
    have e : reachBytes = 140737488351232 := rfl
    rw [e] at z
    omega
end Go.Proofs.Ytcbkcggijejooaa.SL
namespace Go.Proofs.Ytcbkcggijejooaa.Hand
open Go Go.RowKit SL
theorem u8_of_wf {n : Int} (h : (Lit.int .u8 n).wf = true) : 0 ≤ n ∧ n ≤ 255 := U8s.of_wf (l := [n]) (by simpa using h) n (by simp)
theorem LinkTame_walk (a0 : Option Addr) (c0 : Nat) (l0 : List Int) (a1 : Int) (a2 : Bool) (a3 : Option Addr) (c3 : Nat) (ns : List Nz) (a4 : Int) (w : World)
    (hr : ReadsInt w .u8 a0 l0.length l0) (hc : l0.length ≤ c0) (y : l0.length * 1 ≤ 140737488351232) (hw : ∀ x ∈ l0, (Lit.int .u8 x).wf = true) (w1 : (Lit.int .u8 a1).wf = true)
    (hn : ∀ H, Shows (WH w w.heap.size H) a3 ns.length 3 (nzCells ns)) (hc3 : ns.length ≤ c3) (hm3 : ns.length ≤ maxLen) (hy : ns.length * 24 ≤ 140737488351232) (w4 : (Lit.int .u8 a4).wf = true) :
    Calls Try.prog 5 #[.slice a0 l0.length c0, .int .u8 a1, .bool a2, .slice a3 ns.length c3, .int .u8 a4] w fun e w' => e = .returned (.bool true) ∧ Below w.heap.size w w' := by
  have h1 := u8_of_wf w1
  have h4 := u8_of_wf w4
  obtain ⟨k, rfl⟩ := Int.eq_ofNat_of_zero_le h1.1
  obtain ⟨j, rfl⟩ := Int.eq_ofNat_of_zero_le h4.1
  exact SL.law_of ((SL.LinkTame_t (H := []) k j a2 (shows_start hr) rfl (by omega) hc (U8s.of_wf hw) (by omega) (by omega) (hn []) rfl hy).mono fun v h q => q.1)
end Go.Proofs.Ytcbkcggijejooaa.Hand
