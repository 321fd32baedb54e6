import Derived.Test.YtkgdphbccagjcaaE3
import Derived.Test.YtkgdphbccagjcaaN19
/- Several that wait at once: rules. No statement is proved here. -/
set_option linter.unusedVariables false
set_option linter.unusedSimpArgs false
set_option maxRecDepth 100000
set_option maxHeartbeats 8000000
namespace Go.Proofs.Ytkgdphbccagjcaa.SL
open Go Go.RowKit
/-- all pieces of one that waits -/
def wB (gw gT gA k cT cA seen : Nat) (over : Bool) (gs : List Nat) (vs : List Value) (Z : List Chunk) : List Chunk := wC gw gT gA k cT cA seen over :: tC gT k cT gs :: aC gA k cA vs :: Z
theorem perm_mid3 {X Y W H : List Chunk} : (Y ++ (X ++ (W ++ H))).Perm (W ++ (Y ++ (X ++ H))) :=
  ((List.perm_append_comm_assoc X W H).append_left Y).trans (List.perm_append_comm_assoc Y W (X ++ H))
theorem perm_rev3 {X Y W H : List Chunk} : (W ++ (Y ++ (X ++ H))).Perm (X ++ (Y ++ (W ++ H))) :=
  (List.perm_append_comm_assoc W Y (X ++ H)).trans (((List.perm_append_comm_assoc W X H).append_left Y).trans (List.perm_append_comm_assoc Y X (W ++ H)))
section
variable {w0 : World} {B n : Nat} {H HR : List Chunk} {fr : Fr} {dst : Option Tmp} {ty : TypeId} {pos : String} {aft : Array Edge} {gd : Option (Nat × Bool)} {K : Fr → List Chunk → Prop} {xs : Array Operand} {ats : Array TypeId}
theorem TO_OfWF {Hf : List Chunk} {A : Option Addr} {m c : Nat} {qs : List (List Int)} {ts : List Rx} (hH : H.Perm (Hf ++ HR)) (hS : Shows (WH w0 B Hf) A m 1 (strs qs)) (hqm : qs.length = m) (h1 : 1 ≤ m) (h8 : m ≤ 8) (hc : m ≤ c) (htl : ts.length = m) (hq : ∀ i, i < m → PatOk (qs.getD i []) (ts.getD i .nothing)) (hd : dOk n dst = true) (hx : evs fr xs.toList = some [.slice A m c])
    (h : ∀ gw gT gA cT cA gs vs Z, Wk (WH w0 B Z) ts gs (List.replicate m []) vs m → K (frPut dst (.tuple #[.pointer (some ⟨gw, 0, none⟩), .nilIface]) fr) (wB gw gT gA m cT cA 0 false gs vs Z ++ HR)) :
    TO Try.prog w0 B n ⟨dst, .call { callee := .value (.func 35), args := xs, argTypes := ats }, ty, pos, aft, gd⟩ K fr H := by
  refine TO_call (HR := HR) call35 hd hx hH (OfW_t hS hqm h1 h8 hc htl hq) ?_
  rintro v' H' ⟨gw, gT, gA, cT, cA, gs, vs, Z, rfl, hZ, hW, rfl⟩
  exact h gw gT gA cT cA gs vs Z hW
theorem TO_PutF {gw gT gA k cT cA seen cb : Nat} {N : List Chunk} {ts : List Rx} {gs : List Nat} {ps : List (List Bool)} {vs : List Value} {o : Option Nat} {V : Value} (hH : H.Perm (wB gw gT gA k cT cA seen false gs vs N ++ HR)) (hcb : cb ≤ 255) (hsn : seen < 4611686018427387904) (hk : k ≤ 1000) (hW : Wk (WH w0 B N) ts gs ps vs k) (ho : bestT ts ps cb k = o) (hV : .tuple #[.int .i64 ((o.getD 0 : Nat) : Int), .bool o.isSome] = V) (hd : dOk n dst = true) (hx : evs fr xs.toList = some [.pointer (some ⟨gw, 0, none⟩), .int .u8 (cb : Int)])
    (h : ∀ vs' N', Wk (WH w0 B N') ts gs (putL ts ps cb k) vs' k → K (frPut dst V fr) (wB gw gT gA k cT cA (seen + 1) o.isSome gs vs' N' ++ HR)) :
    TO Try.prog w0 B n ⟨dst, .call { callee := .value (.func 36), args := xs, argTypes := ats }, ty, pos, aft, gd⟩ K fr H := by
  refine TO_call (HR := HR) call36 hd hx hH (Put_t hcb hsn hk hW) ?_
  rintro v' H' ⟨vs', N', rfl, hN, hW', rfl⟩
  rw [ho]
  rw [← hV] at h
  exact h vs' N' hW'
theorem TO_OverF {gw gT gA k cT cA seen : Nat} {over : Bool} {N : List Chunk} {gs : List Nat} {vs : List Value} (hH : H.Perm (wB gw gT gA k cT cA seen over gs vs N ++ HR)) (hd : dOk n dst = true) (hx : evs fr xs.toList = some [.pointer (some ⟨gw, 0, none⟩)])
    (h : K (frPut dst (.bool over) fr) (wB gw gT gA k cT cA seen over gs vs N ++ HR)) :
    TO Try.prog w0 B n ⟨dst, .call { callee := .value (.func 37), args := xs, argTypes := ats }, ty, pos, aft, gd⟩ K fr H := by
  refine TO_call (HR := HR) call37 hd hx hH (Over_t (N := tC gT k cT gs :: aC gA k cA vs :: N)) ?_
  rintro v' H' ⟨rfl, rfl⟩
  exact h
/-- of two patterns -/
theorem best2 (t1 t2 : Rx) (p1 p2 : List Bool) (c : Nat) : bestT [t1, t2] [p1, p2] c 2 = if endsT t1 (stepL t1 p1 c true) = true then some 0 else if endsT t2 (stepL t2 p2 c true) = true then some 1 else none := by
  show (match (if endsT t1 (stepL t1 p1 c true) = true then some 0 else none) with | some b => some b | none => if endsT t2 (stepL t2 p2 c true) = true then some 1 else none) = _
  split <;> simp_all
theorem put2 (t1 t2 : Rx) (p1 p2 : List Bool) (c : Nat) : putL [t1, t2] [p1, p2] c 2 = [stepL t1 p1 c true, stepL t2 p2 c true] := rfl
end
end Go.Proofs.Ytkgdphbccagjcaa.SL
