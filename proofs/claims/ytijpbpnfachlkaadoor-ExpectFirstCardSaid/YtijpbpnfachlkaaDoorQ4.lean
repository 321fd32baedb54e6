import Derived.Test.YtijpbpnfachlkaaDoorQ3
/- The text that numbers make is read as its tree: plain Lean. No statement is proved here. -/
set_option linter.unusedVariables false
set_option linter.unusedSimpArgs false
set_option maxRecDepth 100000
namespace Go.Proofs.YtijpbpnfachlkaaDoor.SL
open Go Go.RowKit
theorem rd_off {s pre post m : List Int} (hs : s = pre ++ m ++ post) {j : Nat} (hj : j < m.length) : rd s ((pre.length + j : Nat) : Int) = m.getD j 0 := by
  subst hs
  unfold rd
  rw [Int.toNat_natCast, List.append_assoc, List.getD_eq_getElem?_getD, List.getElem?_append_right (by omega), show pre.length + j - pre.length = j by omega, List.getElem?_append_left hj, List.getD_eq_getElem?_getD]
theorem isB_off {s pre post m : List Int} (hs : s = pre ++ m ++ post) {j : Nat} (hj : j < m.length) (c : Int) : isB s (pre.length + j) c = (m.getD j 0 == c) := by
  unfold isB
  rw [rd_off hs hj, decide_eq_true (by rw [hs]; simp; omega)]
  simp
theorem plain_off {s pre post m : List Int} (hs : s = pre ++ m ++ post) {j : Nat} (hj : j < m.length) (h : m.getD j 0 ≠ 92) : pPlain s (pre.length + j) = .ok (m.getD j 0) (pre.length + j + 1) := by
  unfold pPlain
  rw [if_pos (by rw [hs]; simp; omega), rd_off hs hj, if_neg h]
theorem class_ab {s pre post : List Int} (hs : s = pre ++ [91, 94, 97, 45, 98, 93] ++ post) : pClass s pre.length = .ok (.one ((S4.zero.with_ 97).with_ 98).not_) (pre.length + 6) := by
  have b1 := isB_off hs (j := 1) (by decide) 94
  have b2 := isB_off hs (j := 2) (by decide) 93
  have b3 := isB_off hs (j := 3) (by decide) 45
  have b5 := isB_off hs (j := 5) (by decide) 93
  have p2 := plain_off hs (j := 2) (by decide) (by decide)
  have p4 := plain_off hs (j := 4) (by decide) (by decide)
  have hl : 6 ≤ s.length := by rw [hs]; simp; omega
  have hdr : s.drop (pre.length + 3) = 45 :: 98 :: 93 :: post := by
    rw [hs, List.append_assoc, List.drop_append]
    simp
  have hr : rngB s (pre.length + 3) = true := by
    unfold rngB
    rw [b3, hdr]
    rfl
  obtain ⟨n, hn⟩ : ∃ n, s.length = n + 1 := ⟨s.length - 1, by omega⟩
  unfold pClass
  rw [b1, hn]
  simp only [show ((([91, 94, 97, 45, 98, 93] : List Int).getD 1 0 == 94) = true) from rfl, if_true]
  show (match pClassL s pre.length (n + 1 + 1) (pre.length + 2) S4.zero with
    | .bad p e => Res.bad p e
    | .ok st j => Res.ok (Rx.one st.not_) j) = Res.ok (Rx.one ((S4.zero.with_ 97).with_ 98).not_) (pre.length + 6)
  unfold pClassL
  rw [b2, p2]
  simp only [show ((([91, 94, 97, 45, 98, 93] : List Int).getD 2 0 == 93) = false) from rfl, show pre.length + 2 + 1 = pre.length + 3 by omega]
  rw [hr, show pre.length + 3 + 1 = pre.length + 4 by omega, p4]
  simp only [show (([91, 94, 97, 45, 98, 93] : List Int).getD 4 0) = 98 from rfl, show (([91, 94, 97, 45, 98, 93] : List Int).getD 2 0) = 97 from rfl, if_true, show ¬ ((98 : Int) < 97) by decide, if_false, show pre.length + 4 + 1 = pre.length + 5 by omega, Bool.false_eq_true]
  unfold pClassL
  rw [b5]
  rfl
theorem stops_sign {post : List Int} (h : Stops post) : post = [] ∨ ∃ c p, post = c :: p ∧ c ≠ 42 ∧ c ≠ 43 ∧ c ≠ 63 := by
  rcases h with h | ⟨p, rfl⟩ | ⟨p, rfl⟩
  · exact .inl h
  · exact .inr ⟨41, p, rfl, by decide, by decide, by decide⟩
  · exact .inr ⟨124, p, rfl, by decide, by decide, by decide⟩
/-- a thing alone that no sign follows -/
theorem then_atom {pE : Nat → Res Rx} {top : Bool} {s pre x x' post : List Int} {c : Int} {t : Rx} (hs : s = pre ++ x ++ post) (hx : x = c :: x') (h1 : c ≠ 124) (h2 : c ≠ 41) (h : pOne pE top s pre.length = .ok t (pre.length + x.length)) (hp : Stops post) : pThen pE top s pre.length = .ok t (pre.length + x.length) := by
  refine then_one hs hx h1 h2 ?_ hp
  rw [← List.length_append] at h ⊢
  exact again_none hs h (stops_sign hp)
theorem one_plain {pE : Nat → Res Rx} {top : Bool} {s pre post : List Int} {c : Int} (hs : s = pre ++ [c] ++ post) (hc : isMeta c = false) : pOne pE top s pre.length = .ok (oneC c) (pre.length + 1) := by
  have e : rd s ((pre.length : Nat) : Int) = c := rd_off hs (j := 0) (by simp)
  have hp : pPlain s pre.length = .ok c (pre.length + 1) := plain_off hs (j := 0) (by simp) (meta_no hc).2.2.2.2.2.2.2.2.2
  have hm := meta_no hc
  unfold pOne
  rw [e, if_neg hm.1, if_neg hm.2.2.1, if_neg hm.2.2.2.2.1, if_neg (by simp [hm]), hp]
  rfl
theorem one_dot {pE : Nat → Res Rx} {top : Bool} {s pre post : List Int} (hs : s = pre ++ [46] ++ post) : pOne pE top s pre.length = .ok (.one S4.zero.not_) (pre.length + 1) := by
  have e : rd s ((pre.length : Nat) : Int) = 46 := rd_off hs (j := 0) (by simp)
  unfold pOne
  rw [e]
  rfl
theorem one_class {pE : Nat → Res Rx} {top : Bool} {s pre post : List Int} (hs : s = pre ++ [91, 94, 97, 45, 98, 93] ++ post) : pOne pE top s pre.length = .ok (.one ((S4.zero.with_ 97).with_ 98).not_) (pre.length + 6) := by
  have e : rd s ((pre.length : Nat) : Int) = 91 := rd_off hs (j := 0) (by simp)
  unfold pOne
  rw [e, if_neg (by decide), if_pos rfl, class_ab hs]
end Go.Proofs.YtijpbpnfachlkaaDoor.SL
