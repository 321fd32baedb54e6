import Derived.Test.YtijpbpnfachlkaaDoorN7
import Derived.Test.YtijpbpnfachlkaaDoorQ2
/- A quoted text is fitted by itself alone: the law. No statement is proved here. -/
set_option linter.unusedVariables false
set_option linter.unusedSimpArgs false
set_option maxRecDepth 100000
set_option maxHeartbeats 8000000
namespace Go.Proofs.YtijpbpnfachlkaaDoor.SL
open Go Go.RowKit
theorem nx_chainF : ∀ (r : List Int) (out : Rx), nx (chainF r out false) ≤ nx out + (pl out + r.length) * r.length
  | [], out => by simp [chainF]
  | c :: r, out => by
    show nx (chainF r (.then_ out (oneC c)) false) ≤ _
    have h := nx_chainF r (.then_ out (oneC c))
    have e1 : nx (.then_ out (oneC c)) = nx out + pl out := by simp [nx, oneC, pl]
    have e2 : pl (.then_ out (oneC c)) = pl out + 1 := rfl
    rw [e1, e2] at h
    rw [List.length_cons]
    have e3 : (pl out + (r.length + 1)) * (r.length + 1) = (pl out + 1 + r.length) * r.length + (pl out + (r.length + 1)) := by
      rw [Nat.mul_succ]
      congr 2
      omega
    omega
theorem nx_chain {s : List Int} (h : s.length ≤ 64) : nx (chainT s) ≤ 5000 := by
  cases s with
  | nil => simp [chainT, chainF, nx]
  | cons c r =>
    show nx (chainF r (oneC c) false) ≤ _
    have := nx_chainF r (oneC c)
    have e1 : nx (oneC c) = 0 := rfl
    have e2 : pl (oneC c) = 1 := rfl
    rw [e1, e2] at this
    rw [List.length_cons] at h
    have h2 : (1 + r.length) * r.length ≤ 64 * 64 := Nat.mul_le_mul (by omega) (by omega)
    omega
theorem str_inj {s u : List Int} (hs : U8s s) (hu : U8s u) (h : strOfNums s = strOfNums u) : s = u := by
  have g : ∀ {l : List Int}, U8s l → ((strOfNums l).data.toList.map fun b : UInt8 => (b.toNat : Int)) = l := fun {l} hl => by
    show ((l.map fun n => UInt8.ofNat n.toNat).map fun b : UInt8 => (b.toNat : Int)) = l
    rw [List.map_map]
    conv => rhs; rw [← List.map_id l]
    refine List.map_congr_left fun x hx => ?_
    have := hl x hx
    simp only [Function.comp, id]
    have e : (UInt8.ofNat x.toNat).toNat = x.toNat := by
      rw [UInt8.toNat_ofNat']
      exact Nat.mod_eq_of_lt (by omega)
    rw [e]
    omega
  rw [← g hs, ← g hu, h]
theorem str_of (s : ByteArray) : ∃ l : List Int, U8s l ∧ strOfNums l = s := ⟨s.data.toList.map fun b : UInt8 => (b.toNat : Int), fun x hx => by
    obtain ⟨b, _, rfl⟩ := List.mem_map.1 hx
    have := b.toNat_lt
    omega, by
    show (⟨((s.data.toList.map fun b : UInt8 => (b.toNat : Int)).map fun n => UInt8.ofNat n.toNat).toArray⟩ : ByteArray) = s
    rw [List.map_map]
    have e : s.data.toList.map ((fun n : Int => UInt8.ofNat n.toNat) ∘ fun b : UInt8 => (b.toNat : Int)) = s.data.toList := by
      conv => rhs; rw [← List.map_id s.data.toList]
      exact List.map_congr_left fun x _ => by simp
    rw [e]⟩
section
variable {w0 : World} {B n : Nat} {H X : List Chunk}
end
end Go.Proofs.YtijpbpnfachlkaaDoor.SL
