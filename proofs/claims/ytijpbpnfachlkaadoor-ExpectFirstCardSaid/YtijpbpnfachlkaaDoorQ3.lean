import Derived.Test.YtijpbpnfachlkaaDoorQ2
import Derived.Test.YtijpbpnfachlkaaDoorP12
/- The text that numbers make is read as its tree: plain Lean. No statement is proved here. -/
set_option linter.unusedVariables false
set_option linter.unusedSimpArgs false
set_option maxRecDepth 100000
namespace Go.Proofs.YtijpbpnfachlkaaDoor.SL
open Go Go.RowKit
/-- what reads within brackets, and whether none may come -/
def pEk (s : List Int) : Nat → (Nat → Res Rx)
  | 0 => fun _ => .bad 0 0
  | k + 1 => pE s k
theorem pE_eq (s : List Int) (r : Nat) : pE s r = pEither (pEk s r) (decide (r = 0)) s := by
  cases r <;> rfl
/-- nothing that goes on -/
def Stops (post : List Int) : Prop := post = [] ∨ (∃ p, post = 41 :: p) ∨ ∃ p, post = 124 :: p
def Ends1 (post : List Int) : Prop := post = [] ∨ ∃ p, post = 41 :: p
theorem Ends1.stops {post : List Int} (h : Ends1 post) : Stops post := h.elim .inl fun h => .inr (.inl h)
theorem stops_no {s pre post : List Int} (hs : s = pre ++ post) (h : Stops post) : goesOn s pre.length = false := by
  rcases h with rfl | ⟨p, rfl⟩ | ⟨p, rfl⟩
  · rw [List.append_nil] at hs
    subst hs
    simp [goesOn]
  · subst hs
    unfold goesOn
    rw [isB_mid, isB_mid]
    simp
  · subst hs
    unfold goesOn
    rw [isB_mid, isB_mid]
    simp
theorem ends_no {s pre post : List Int} (hs : s = pre ++ post) (h : Ends1 post) : isB s pre.length 124 = false := by
  rcases h with rfl | ⟨p, rfl⟩
  · rw [List.append_nil] at hs
    subst hs
    simp [isB]
  · subst hs
    rw [isB_mid]
    rfl
theorem goes_mid {pre r : List Int} {c : Int} (h1 : c ≠ 124) (h2 : c ≠ 41) : goesOn (pre ++ c :: r) pre.length = true := by
  unfold goesOn
  rw [isB_mid, isB_mid]
  simp [h1, h2]
/-- what is in brackets -/
theorem one_grp {s pre y post : List Int} {k : Nat} {t : Rx} (hs : s = pre ++ 40 :: (y ++ 41 :: post)) (h : pE s k (pre.length + 1) = .ok t (pre.length + 1 + y.length)) : pOne (pE s k) false s pre.length = .ok t (pre.length + y.length + 2) := by
  have e40 : rd s ((pre.length : Nat) : Int) = 40 := by rw [hs, rd_mid]
  have e41 : isB s (pre.length + 1 + y.length) 41 = true := by
    have : s = (pre ++ 40 :: y) ++ 41 :: post := by rw [hs]; simp
    rw [this, show pre.length + 1 + y.length = (pre ++ 40 :: y).length by simp; omega, isB_mid]
    rfl
  unfold pOne
  rw [if_pos e40, if_neg (by decide), h]
  simp only
  rw [if_pos e41]
  congr 1
  omega
/-- one without a sign behind it -/
theorem again_none {pE : Nat → Res Rx} {top : Bool} {s q post : List Int} {i : Nat} {t : Rx} (hs : s = q ++ post) (h : pOne pE top s i = .ok t q.length) (hp : post = [] ∨ ∃ c p, post = c :: p ∧ c ≠ 42 ∧ c ≠ 43 ∧ c ≠ 63) : pAgain pE top s i = .ok t q.length := by
  unfold pAgain
  rw [h]
  simp only
  rcases hp with rfl | ⟨c, p, rfl, h1, h2, h3⟩
  · rw [List.append_nil] at hs
    subst hs
    rw [if_neg (Nat.lt_irrefl _)]
  · have : rd s ((q.length : Nat) : Int) = c := by rw [hs, rd_mid]
    rw [this, if_neg h1, if_neg h2, if_neg h3, ite_self]
theorem again_sign {pE : Nat → Res Rx} {top : Bool} {s q p : List Int} {i : Nat} {t : Rx} {c : Int} (hs : s = q ++ c :: p) (h : pOne pE top s i = .ok t q.length) : pAgain pE top s i = if c = 42 then .ok (.star t) (q.length + 1) else if c = 43 then .ok (.then_ t (.star t)) (q.length + 1) else if c = 63 then .ok (.either t .nothing) (q.length + 1) else .ok t q.length := by
  unfold pAgain
  rw [h]
  simp only
  have : rd s ((q.length : Nat) : Int) = c := by rw [hs, rd_mid]
  rw [this, if_pos (by rw [hs]; simp)]
/-- one alone, up to what stops -/
theorem then_one {pE : Nat → Res Rx} {top : Bool} {s pre x post : List Int} {c : Int} {x' : List Int} {t : Rx} (hs : s = pre ++ x ++ post) (hx : x = c :: x') (h1 : c ≠ 124) (h2 : c ≠ 41) (h : pAgain pE top s pre.length = .ok t (pre.length + x.length)) (hp : Stops post) : pThen pE top s pre.length = .ok t (pre.length + x.length) := by
  have hg : goesOn s pre.length = true := by rw [hs, hx, List.append_assoc]; exact goes_mid h1 h2
  have hl : 1 ≤ s.length := by rw [hs, hx]; simp; omega
  obtain ⟨n, hn⟩ : ∃ n, s.length = n + 1 := ⟨s.length - 1, by omega⟩
  have hst : goesOn s (pre.length + x.length) = false := by
    have := stops_no (s := s) (pre := pre ++ x) hs hp
    rwa [List.length_append] at this
  unfold pThen
  rw [hn]
  unfold pThenL
  rw [if_pos hg, h]
  simp only
  unfold pThenL
  rw [if_neg (by rw [hst]; decide)]
  rfl
/-- two, one behind the other, up to what stops -/
theorem then_two {pE : Nat → Res Rx} {top : Bool} {s pre x y post : List Int} {c d : Int} {x' y' : List Int} {t u : Rx} (hs : s = pre ++ x ++ y ++ post) (hx : x = c :: x') (hy : y = d :: y') (h1 : c ≠ 124) (h2 : c ≠ 41) (h3 : d ≠ 124) (h4 : d ≠ 41) (h : pAgain pE top s pre.length = .ok t (pre.length + x.length)) (h' : pAgain pE top s (pre.length + x.length) = .ok u (pre.length + x.length + y.length)) (hp : Stops post) : pThen pE top s pre.length = .ok (.then_ t u) (pre.length + x.length + y.length) := by
  have hg : goesOn s pre.length = true := by rw [hs, hx, List.append_assoc, List.append_assoc]; exact goes_mid h1 h2
  have hg2 : goesOn s (pre.length + x.length) = true := by
    rw [← List.length_append, hs, hy, List.append_assoc]; exact goes_mid h3 h4
  have hl : 2 ≤ s.length := by rw [hs, hx, hy]; simp; omega
  obtain ⟨n, hn⟩ : ∃ n, s.length = n + 2 := ⟨s.length - 2, by omega⟩
  have hst : goesOn s (pre.length + x.length + y.length) = false := by
    have := stops_no (s := s) (pre := pre ++ x ++ y) hs hp
    rwa [List.length_append, List.length_append] at this
  unfold pThen
  rw [hn]
  unfold pThenL
  rw [if_pos hg, h]
  simp only
  unfold pThenL
  rw [if_pos hg2, h']
  simp only
  unfold pThenL
  rw [if_neg (by rw [hst]; decide)]
  rfl
theorem either_one {s pre x post : List Int} {r : Nat} {t : Rx} (hs : s = pre ++ x ++ post) (h : pThen (pEk s r) (decide (r = 0)) s pre.length = .ok t (pre.length + x.length)) (hp : Ends1 post) : pE s r pre.length = .ok t (pre.length + x.length) := by
  have hn := ends_no (s := s) (pre := pre ++ x) hs hp
  rw [List.length_append] at hn
  rw [pE_eq]
  unfold pEither
  rw [h]
  simp only
  unfold pEitherL
  rw [if_neg (by rw [hn]; decide)]
end Go.Proofs.YtijpbpnfachlkaaDoor.SL
