import Derived.Test.YtijpbpnfachlkaaDoorQ1
import Derived.Test.YtijpbpnfachlkaaDoorP8
import Derived.Test.YtijpbpnfachlkaaDoorG2
/- A text that is quoted, as a pattern: plain Lean. No statement is proved here. -/
set_option linter.unusedVariables false
set_option linter.unusedSimpArgs false
set_option maxRecDepth 100000
namespace Go.Proofs.YtijpbpnfachlkaaDoor.SL
open Go Go.RowKit
def oneC (c : Int) : Rx := .one (S4.zero.with_ c.toNat)
/-- bytes, one behind the other -/
def chainF : List Int → Rx → Bool → Rx
  | [], out, _ => out
  | c :: r, out, first => chainF r (if first = true then oneC c else .then_ out (oneC c)) false
def chainT (l : List Int) : Rx := chainF l .nothing true
theorem rd_mid (pre r : List Int) (c : Int) : rd (pre ++ c :: r) ((pre.length : Nat) : Int) = c := by
  unfold rd
  simp
theorem rd_mid1 (pre r : List Int) (c d : Int) : rd (pre ++ c :: d :: r) ((pre.length + 1 : Nat) : Int) = d := by
  unfold rd
  simp
theorem isB_mid (pre r : List Int) (c x : Int) : isB (pre ++ c :: r) pre.length x = (c == x) := by
  unfold isB
  rw [rd_mid, decide_eq_true (by simp)]
  simp
theorem meta_no {c : Int} (h : isMeta c = false) : c ≠ 40 ∧ c ≠ 41 ∧ c ≠ 91 ∧ c ≠ 93 ∧ c ≠ 46 ∧ c ≠ 42 ∧ c ≠ 43 ∧ c ≠ 63 ∧ c ≠ 124 ∧ c ≠ 92 := by
  unfold isMeta at h
  simpa [and_assoc] using h
theorem quoteL_cons (c : Int) (r : List Int) : quoteL (c :: r) = (if isMeta c then [92, c] else [c]) ++ quoteL r := by
  simp [quoteL]
/-- what stands at the head of a quoted text is no star, plus or question mark, bar or bracket -/
theorem quoteL_head (pre r : List Int) : pre.length < (pre ++ quoteL r).length → (let x := rd (pre ++ quoteL r) ((pre.length : Nat) : Int); x ≠ 40 ∧ x ≠ 41 ∧ x ≠ 91 ∧ x ≠ 93 ∧ x ≠ 46 ∧ x ≠ 42 ∧ x ≠ 43 ∧ x ≠ 63 ∧ x ≠ 124) := by
  cases r with
  | nil => intro h; simp [quoteL] at h
  | cons c r =>
    intro _
    rw [quoteL_cons]
    by_cases h : isMeta c = true
    · rw [if_pos h]
      rw [show [92, c] ++ quoteL r = 92 :: (c :: quoteL r) from rfl, rd_mid]
      decide
    · have h2 : isMeta c = false := by simpa using h
      rw [if_neg h, show [c] ++ quoteL r = c :: quoteL r from rfl, rd_mid]
      have := meta_no h2
      refine ⟨this.1, this.2.1, this.2.2.1, this.2.2.2.1, this.2.2.2.2.1, this.2.2.2.2.2.1, this.2.2.2.2.2.2.1, this.2.2.2.2.2.2.2.1, this.2.2.2.2.2.2.2.2.1⟩
theorem again_of {pE : Nat → Res Rx} {top : Bool} {pre r : List Int} {c : Int} {p2 : List Int} {s : List Int} (hs : s = pre ++ quoteL (c :: r)) (h2 : p2 = pre ++ (if isMeta c then [92, c] else [c])) : pAgain pE top s pre.length = .ok (oneC c) p2.length := by
  have hs2 : s = p2 ++ quoteL r := by rw [hs, h2, quoteL_cons, List.append_assoc]
  have hpl : pre.length < s.length := by
    rw [hs, List.length_append, quoteL_cons, List.length_append]
    split <;> simp <;> omega
  have hd : let x := rd s ((pre.length : Nat) : Int); x ≠ 40 ∧ x ≠ 41 ∧ x ≠ 91 ∧ x ≠ 93 ∧ x ≠ 46 ∧ x ≠ 42 ∧ x ≠ 43 ∧ x ≠ 63 ∧ x ≠ 124 := by
    rw [hs]; exact quoteL_head pre (c :: r) (by rw [← hs]; exact hpl)
  simp only at hd
  obtain ⟨d1, d2, d3, d4, d5, d6, d7, d8, d9⟩ := hd
  have hplain : pPlain s pre.length = .ok c p2.length := by
    unfold pPlain
    rw [if_pos hpl]
    by_cases h : isMeta c = true
    · have e : s = pre ++ 92 :: c :: quoteL r := by rw [hs, quoteL_cons, if_pos h]; rfl
      rw [e, rd_mid, if_pos rfl, if_neg (by simp), rd_mid1, h2, if_pos h]
      simp
    · have h3 : isMeta c = false := by simpa using h
      have e : s = pre ++ c :: quoteL r := by rw [hs, quoteL_cons, if_neg h]; rfl
      have := meta_no h3
      rw [e, rd_mid, if_neg this.2.2.2.2.2.2.2.2.2, h2, if_neg h]
      simp
  have hone : pOne pE top s pre.length = .ok (oneC c) p2.length := by
    unfold pOne
    rw [if_neg d1, if_neg d3, if_neg d5, if_neg (by simp [d6, d7, d8, d4]), hplain]
    rfl
  unfold pAgain
  rw [hone]
  simp only
  by_cases hl : p2.length < s.length
  · have hn : let x := rd s ((p2.length : Nat) : Int); x ≠ 40 ∧ x ≠ 41 ∧ x ≠ 91 ∧ x ≠ 93 ∧ x ≠ 46 ∧ x ≠ 42 ∧ x ≠ 43 ∧ x ≠ 63 ∧ x ≠ 124 := by
      rw [hs2]; exact quoteL_head p2 r (by rw [← hs2]; exact hl)
    simp only at hn
    obtain ⟨-, -, -, -, -, n6, n7, n8, -⟩ := hn
    rw [if_pos hl, if_neg n6, if_neg n7, if_neg n8]
  · rw [if_neg hl]
theorem thenL_quote {pE : Nat → Res Rx} {top : Bool} {s : List Int} : ∀ (r pre : List Int) (n : Nat) (out : Rx) (first : Bool), s = pre ++ quoteL r → r.length < n → pThenL pE top s n pre.length out first = .ok (chainF r out first) s.length
  | [], pre, n + 1, out, first, hs, hn => by
    have e : pre.length = s.length := by rw [hs]; simp [quoteL]
    unfold pThenL
    rw [if_neg (by unfold goesOn; simp [e]), e]
    rfl
  | c :: r, pre, n + 1, out, first, hs, hn => by
    have hpl : pre.length < s.length := by
      rw [hs, List.length_append, quoteL_cons, List.length_append]
      split <;> simp <;> omega
    have hd : let x := rd s ((pre.length : Nat) : Int); x ≠ 40 ∧ x ≠ 41 ∧ x ≠ 91 ∧ x ≠ 93 ∧ x ≠ 46 ∧ x ≠ 42 ∧ x ≠ 43 ∧ x ≠ 63 ∧ x ≠ 124 := by
      rw [hs]; exact quoteL_head pre (c :: r) (by rw [← hs]; exact hpl)
    simp only at hd
    obtain ⟨d1, d2, d3, d4, d5, d6, d7, d8, d9⟩ := hd
    unfold pThenL
    rw [if_pos (by unfold goesOn isB; simp [hpl, d9, d2]), again_of hs rfl]
    simp only
    rw [thenL_quote r _ n _ false (by rw [hs, quoteL_cons, List.append_assoc]) (by simp at hn; omega)]
    rfl
theorem parse_quote {s : List Int} : pParse (quoteL s) = .ok (chainT s) (quoteL s).length := by
  have h : ∀ (pE : Nat → Res Rx) (top : Bool), pEither pE top (quoteL s) 0 = .ok (chainT s) (quoteL s).length := fun pE top => by
    have := thenL_quote (pE := pE) (top := top) (s := quoteL s) s [] ((quoteL s).length + 1) .nothing true rfl (by have := (quoteL_len s).1; omega)
    unfold pEither pThen
    rw [show (0 : Nat) = ([] : List Int).length from rfl, this]
    simp only
    unfold pEitherL
    rw [if_neg (by unfold isB; simp)]
    rfl
  unfold pParse
  rw [show pE (quoteL s) 6 0 = _ from h _ _]
  simp
/-- the texts of bytes, one behind the other -/
theorem lg_oneC {c : Int} (hc : 0 ≤ c ∧ c ≤ 255) {u : List Int} (hu : U8s u) : Lg (oneC c) u ↔ u = [c] := by
  constructor
  · intro h
    cases h with
    | @one _ d h =>
      have hd := hu d (by simp)
      rw [S4.has_with _ _ _ (by omega) (by omega), S4.has_zero, Bool.false_or, decide_eq_true_eq] at h
      obtain rfl : c = d := by omega
      rfl
  · rintro rfl
    refine .one ?_
    rw [S4.has_with _ _ _ (by omega) (by omega)]
    simp
theorem lg_chainF : ∀ {r : List Int} {out : Rx} {pre u : List Int}, U8s r → (∀ v, U8s v → (Lg out v ↔ v = pre)) → U8s u → (Lg (chainF r out false) u ↔ u = pre ++ r)
  | [], out, pre, u, _, ho, hu => by
    rw [List.append_nil]
    exact ho u hu
  | c :: r, out, pre, u, hr, ho, hu => by
    have hc := hr c (by simp)
    show Lg (chainF r (.then_ out (oneC c)) false) u ↔ _
    rw [lg_chainF (pre := pre ++ [c]) (fun x hx => hr x (by simp [hx])) ?_ hu, List.append_assoc]
    · rfl
    · intro v hv
      constructor
      · intro h
        cases h with
        | @then_ _ _ s1 s2 h1 h2 =>
          rw [(ho s1 fun x hx => hv x (by simp [hx])).1 h1, (lg_oneC hc fun x hx => hv x (by simp [hx])).1 h2]
      · rintro rfl
        exact .then_ ((ho pre fun x hx => hv x (by simp [hx])).2 rfl) ((lg_oneC hc fun x hx => hv x (by simp [hx])).2 rfl)
theorem lg_chain {s u : List Int} (hs : U8s s) (hu : U8s u) : Lg (chainT s) u ↔ u = s := by
  cases s with
  | nil =>
    constructor
    · intro h; cases h; rfl
    · rintro rfl; exact .nothing
  | cons c r =>
    have hc := hs c (by simp)
    exact lg_chainF (out := oneC c) (pre := [c]) (fun x hx => hs x (by simp [hx])) (fun v hv => lg_oneC hc hv) hu
theorem fits_chain {s u : List Int} (hs : U8s s) (hu : U8s u) : fitsT (chainT s) u = decide (u = s) := by
  rw [Bool.eq_iff_iff, fitsT_iff, lg_chain hs hu, decide_eq_true_eq]
theorem pl_chainF : ∀ (r : List Int) (out : Rx), pl (chainF r out false) = pl out + r.length
  | [], out => rfl
  | c :: r, out => by
    show pl (chainF r (.then_ out (oneC c)) false) = _
    rw [pl_chainF]
    show pl out + 1 + r.length = _
    rw [List.length_cons]
    omega
theorem pl_chain (s : List Int) : pl (chainT s) = s.length := by
  cases s with
  | nil => rfl
  | cons c r =>
    show pl (chainF r (oneC c) false) = _
    rw [pl_chainF, List.length_cons]
    show 1 + r.length = _
    omega
theorem nul_chain {s : List Int} (hs : U8s s) : nul (chainT s) = decide (s = []) := by
  rw [Bool.eq_iff_iff, nul_iff, lg_chain hs (fun x hx => by simp at hx), decide_eq_true_eq]
  exact eq_comm
end Go.Proofs.YtijpbpnfachlkaaDoor.SL
