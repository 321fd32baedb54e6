import Derived.Test.YthdkmgeigdoglaaT7
/- The law LinkSafe, as its row asks for it. -/
set_option linter.unusedVariables false
namespace Go.Proofs.Ythdkmgeigdoglaa.SL
open Go Go.RowKit
theorem sized_noise {K : Type} {enc : TypeId × Value → K} {W : World} {base : Nat} {a : Option Addr} {len cap : Nat} {d : DataW K} {ps : List MemPlace} {ts : List TypeId} {ds : List (DataW K)} {j : Nat}
    (hsz : (DataW.weightsEach Try.prog ts ds).all (· ≤ reachBytes) = true) (ht : ts[j]? = some 114) (hd : ds[j]? = some d) (h : DataW.Trod enc Try.prog W base (fun _ => true) true 114 (.slice a len cap) d ps) : len * 24 ≤ 140737488351232 := by
  obtain ⟨fuel, hf⟩ := h
  have hB : Try.prog.bytesOf 119 = 24 := by kernel_rfl
  rcases Go.Deep.open_slice Try.underlying114 hf with ⟨hcs, _⟩ | ⟨x, l, c, m, n, D, Pl, hcs, _, hlc, hmx, hmm, hx, hall⟩
  · simp [Value.cells] at hcs
    obtain ⟨rfl, rfl, rfl⟩ := hcs
    simp
  · simp [Value.cells] at hcs
    obtain ⟨rfl, rfl, rfl⟩ := hcs
    obtain ⟨hx, _⟩ := Prod.mk.inj hx
    subst hx
    have z := sized_slice hsz ht hd Try.underlying114
    rw [hB] at z
    simp only [List.length_map, List.length_range] at z
    have e : reachBytes = 140737488351232 := rfl
    rw [e] at z
    omega
end Go.Proofs.Ythdkmgeigdoglaa.SL
namespace Go.Proofs.Ythdkmgeigdoglaa.Hand
open Go Go.RowKit SL
theorem u8_of_wf {n : Int} (h : (Lit.int .u8 n).wf = true) : 0 ≤ n ∧ n ≤ 255 := U8s.of_wf (l := [n]) (by simpa using h) n (by simp)
theorem LinkSafe_walk (a b : Int) (a1 : Option Addr) (c1 : Nat) (l1 : List Int) (a2 : Int) (a3 : Bool) (a4 : Option Addr) (c4 : Nat) (ns : List Nz) (w : World) (wa : (Lit.int .i64 a).wf = true) (wb : (Lit.int .i64 b).wf = true)
    (hr : ReadsInt w .u8 a1 l1.length l1) (hc : l1.length ≤ c1) (y : l1.length * 1 ≤ 140737488351232) (hw : ∀ x ∈ l1, (Lit.int .u8 x).wf = true) (w2 : (Lit.int .u8 a2).wf = true)
    (hn : ∀ H, Shows (WH w w.heap.size H) a4 ns.length 3 (nzCells ns)) (hc3 : ns.length ≤ c4) (hm3 : ns.length ≤ maxLen) (hy : ns.length * 24 ≤ 140737488351232) :
    Calls Try.prog 31 #[.agg #[.int .i64 a, .int .i64 b], .slice a1 l1.length c1, .int .u8 a2, .bool a3, .slice a4 ns.length c4] w fun e w' => e = .returned (.bool true) ∧ Below w.heap.size w w' := by
  have h2 := u8_of_wf w2
  obtain ⟨k, rfl⟩ := Int.eq_ofNat_of_zero_le h2.1
  exact SL.law_of ((SL.LinkSafe_t (H := []) a b k a3 (shows_start hr) rfl (by omega) hc (U8s.of_wf hw) (by omega) (hn []) rfl hy).mono fun v h q => q.1)
end Go.Proofs.Ythdkmgeigdoglaa.Hand
