import Derived.Test.YtijpbpnfachlkaaDoorG2
import Derived.Test.YtijpbpnfachlkaaDoorN6
/- Tables of patterns: the examples, and a text byte by byte. No statement is proved here. -/
set_option linter.unusedVariables false
set_option linter.unusedSimpArgs false
set_option maxRecDepth 100000
set_option maxHeartbeats 8000000
namespace Go.Proofs.YtijpbpnfachlkaaDoor.SL
open Go Go.RowKit
theorem mk_bound : ∀ (d : Nat) (l : List Int), pl (mk d l).2.1 ≤ 2 ^ d ∧ nx (mk d l).2.1 ≤ 8 ^ d
  | d, [] => by
    rw [mk_nil]
    exact ⟨Nat.one_le_two_pow, Nat.zero_le _⟩
  | 0, n :: l => ⟨Nat.le_refl _, Nat.zero_le _⟩
  | d + 1, n :: l => by
    have h1 := mk_bound d l
    have h2 := mk_bound d (mk d l).2.2
    have hm : ∀ a b : Nat, a ≤ 2 ^ d → b ≤ 2 ^ d → a * b ≤ 8 ^ d := fun a b ha hb => by
      refine Nat.le_trans (Nat.mul_le_mul ha hb) ?_
      rw [← Nat.mul_pow]
      exact Nat.pow_le_pow_left (by omega) d
    have e2 : 2 ^ (d + 1) = 2 * 2 ^ d := by rw [Nat.pow_succ, Nat.mul_comm]
    have e8 : 8 ^ (d + 1) = 8 * 8 ^ d := by rw [Nat.pow_succ, Nat.mul_comm]
    have p2 : 1 ≤ 2 ^ d := Nat.one_le_two_pow
    unfold mk
    rw [e2, e8]
    have k1 := hm _ _ h1.1 h2.1
    have k2 := hm _ _ h1.1 h1.1
    repeat' split
    all_goals simp only [pl, nx]
    all_goals omega
theorem mk_small {d : Nat} (hd : d ≤ 3) (l : List Int) : pl (mk d l).2.1 ≤ 8 ∧ nx (mk d l).2.1 ≤ 512 := by
  have h := mk_bound d l
  have : d = 0 ∨ d = 1 ∨ d = 2 ∨ d = 3 := by omega
  rcases this with rfl | rfl | rfl | rfl <;> (simp only [Nat.reducePow] at h; omega)
section
variable {w0 : World} {B : Nat} {H X : List Chunk}
theorem TO_Of {n : Nat} {fr : Fr} {dst : Option Tmp} {ty : TypeId} {pos : String} {aft : Array Edge} {gd : Option (Nat × Bool)} {K : Fr → List Chunk → Prop} {xs : Array Operand} {ats : Array TypeId} {t : Rx} {v : Nv} (hv : Tr (WH w0 B H) t v) (hn : nx t < 1000000000) (hp : pl t ≤ 1000000) (hd : dOk n dst = true) (hx : evs fr xs.toList = some [v.val])
    (h : ∀ g N, Tab (WH w0 B N) g t → K (frPut dst (.pointer (some ⟨g, 0, none⟩)) fr) (H ++ N)) : TO Tryd.prog w0 B n ⟨dst, .call { callee := .value (.func 24), args := xs, argTypes := ats }, ty, pos, aft, gd⟩ K fr H := by
  refine TO_call (HR := []) call24 hd hx (by rw [List.append_nil]) (Of_t (H := H) hv hn hp) ?_
  rintro v' H' ⟨g, N, rfl, hv, rfl⟩
  rw [List.append_nil]
  exact h g N hv
theorem pabs : ∃ t j, pParse [97, 98, 42] = .ok t j ∧ pl t = 2 ∧ nx t ≤ 10 ∧ nul t = false ∧ fitsT t [97, 98, 98] = true ∧ fitsT t [98, 97] = false := ⟨_, _, rfl, rfl, by decide +kernel, rfl, by decide +kernel, by decide +kernel⟩
/-- the text that numbers make, by name -/
theorem Text_v {A : Option Addr} {m c : Nat} {l s : List Int} (hs : txt l m = s) (hS : Shows (WH w0 B H) A m 1 (nums .u8 l)) (hlm : l.length = m) (hl : m ≤ 4611686018427387904) (hc : m ≤ c) (hu : U8s l) : TCall Tryd.prog w0 B 28 [.slice A m c].toArray (fun r H' => r = .string (strOfNums s) ∧ H' = H) H := by
  subst hs
  exact Text_t hS hlm (by omega) hc hu
end
end Go.Proofs.YtijpbpnfachlkaaDoor.SL
