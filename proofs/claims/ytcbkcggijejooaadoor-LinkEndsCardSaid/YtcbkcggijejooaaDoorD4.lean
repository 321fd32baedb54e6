import Derived.Test.YtcbkcggijejooaaDoorL6
/- A talk in which all is lost from some time on: plain. No statement is proved here. -/
set_option linter.unusedVariables false
set_option linter.unusedSimpArgs false
set_option maxRecDepth 100000
namespace Go.Proofs.YtcbkcggijejooaaDoor.SL
open Go Go.RowKit
section
theorem thru_quiet {z : Nz} {d : List Int} (hl : z.lost = false) (hb : z.by_ = 0) (hu : U8s d) : z.thru d = d := by
  unfold Nz.thru
  by_cases h0 : d.length = 0
  · rw [if_pos (Or.inr h0)]
    exact (List.length_eq_zero_iff.1 h0).symm
  · rw [if_neg (by rw [hl]; simp [h0]), hb]
    have hk := (nzK_lt z.at_ (Nat.pos_of_ne_zero h0)).1
    have hr := hu.at_ ((nzK z.at_ d.length : Nat) : Int)
    have hx : Go.bits .xor .u8 (rd d ((nzK z.at_ d.length : Nat) : Int)) 0 = rd d ((nzK z.at_ d.length : Nat) : Int) := (xor8_same _ 0 hr.1 hr.2 (by decide) (by decide)).2 rfl
    rw [hx]
    have hg : rd d ((nzK z.at_ d.length : Nat) : Int) = d[nzK z.at_ d.length] := by
      unfold rd
      simp [List.getD_eq_getElem?_getD, List.getElem?_eq_getElem hk]
    rw [hg, List.set_getElem_self]
theorem thru_lost {z : Nz} {d : List Int} (hl : z.lost = true) : z.thru d = [] := if_pos (Or.inl hl)
/-- where nothing becomes of what is sent -/
theorem next_quiet {qs : List (List Int)} {ns : List Nz} {x : Lk} (hF : x.Fit qs) (h : ∀ z, ns[x.sent]? = some z → z.lost = false ∧ z.by_ = 0) : x.next ns = x.next [] := by
  have hu := hF.fed.2.2.2
  unfold Lk.next
  have hd : downOf ns x.sent x.fed.2 = downOf [] x.sent x.fed.2 := by
    unfold downOf
    cases hz : ns[x.sent]? with
    | none => rfl
    | some z =>
      have := h z hz
      exact thru_quiet this.1 this.2 hu
  rw [hd]
/-- noise by which all is lost from the send L on -/
def nzL (L : Nat) : List Nz := (List.range 60).map fun k => ⟨decide (L ≤ k), 0, 0⟩
theorem nzL_get (L k : Nat) : (nzL L)[k]? = if k < 60 then some ⟨decide (L ≤ k), 0, 0⟩ else none := by
  unfold nzL
  rw [List.getElem?_map]
  by_cases h : k < 60
  · rw [List.getElem?_eq_getElem (by simpa using h), if_pos h]
    simp
  · rw [List.getElem?_eq_none (by simpa using Nat.le_of_not_lt h), if_neg h]
    rfl
theorem nzL_quiet {L k : Nat} (h : k < L) : ∀ z, (nzL L)[k]? = some z → z.lost = false ∧ z.by_ = 0 := by
  intro z hz
  rw [nzL_get] at hz
  split at hz
  · cases hz
    exact ⟨decide_eq_false (by omega), rfl⟩
  · cases hz
theorem nzL_lost {L k : Nat} (h : L ≤ k) (h6 : k < 60) (d : List Int) : downOf (nzL L) k d = [] := by
  unfold downOf
  rw [nzL_get, if_pos h6]
  exact thru_lost (decide_eq_true h)
theorem put_nil (r : Rc) : r.put [] = r ∧ r.putOut [] = [] := by
  constructor
  · unfold Rc.put
    exact if_pos (Or.inr rfl)
  · unfold Rc.putOut
    exact if_pos (Or.inr rfl)
/-- a send that is lost, or none: the receiver goes on by its tick -/
theorem next_lost {L : Nat} {x : Lk} {s : Sn} {d : List Int} (h : x.fed = (s, d)) (hL : L ≤ x.sent) (h6 : x.sent < 60) : (x.next (nzL L)).s = s ∧ (x.next (nzL L)).r = x.r.tick ∧ (x.next (nzL L)).up = [] ∧ (x.next (nzL L)).sent = if d.length = 0 then x.sent else x.sent + 1 := by
  unfold Lk.next
  rw [h]
  simp only
  split
  · exact ⟨rfl, rfl, rfl, rfl⟩
  · rw [nzL_lost hL h6, (put_nil _).1, (put_nil _).2]
    exact ⟨rfl, rfl, rfl, rfl⟩
/-- a sender that waits for an answer, and one that gave up -/
structure Sg (T : Nat) (s : Sn) : Prop where
  ph : s.phase = 1 ∨ s.phase = 2
  err : s.err = 0
  ct : s.ct = T
  cw : 1 ≤ s.cw ∧ s.cw ≤ 99
  can : s.can = false
  t1 : 1 ≤ s.tries ∧ s.tries ≤ T
  lf : 1 ≤ s.left ∧ s.left ≤ 99
def Se (s : Sn) : Prop := s.phase = 3 ∧ s.err = 10
theorem Sg.again {T : Nat} {s : Sn} (h : Sg T s) (l : Int) : (Sg T ({ s with left := l } : Sn).again ∧ ({ s with left := l } : Sn).again.tries = s.tries + 1 ∧ ({ s with left := l } : Sn).again.left = s.cw ∧ ({ s with left := l } : Sn).again.cw = s.cw ∧ s.tries < T) ∨ (Se ({ s with left := l } : Sn).again ∧ ({ s with left := l } : Sn).againOut = [24, 24] ∧ s.tries = T) := by
  have h1 := h.t1
  have h2 := h.ct
  unfold Sn.again Sn.againOut
  by_cases hc : s.tries ≥ s.ct
  · exact .inr ⟨by rw [if_pos hc]; exact ⟨rfl, rfl⟩, if_pos hc, by omega⟩
  · rw [if_neg hc]
    exact .inl ⟨⟨h.ph, h.err, h.ct, h.cw, h.can, by show 1 ≤ s.tries + 1 ∧ s.tries + 1 ≤ (T : Int); omega, h.cw⟩, rfl, rfl, rfl, by omega⟩
theorem Sg.tick {T : Nat} {s : Sn} (h : Sg T s) : (1 < s.left ∧ Sg T s.tick ∧ s.tick.tries = s.tries ∧ s.tick.left = s.left - 1 ∧ s.tick.cw = s.cw ∧ s.tickOut = []) ∨ (s.left = 1 ∧ Sg T s.tick ∧ s.tick.tries = s.tries + 1 ∧ s.tick.left = s.cw ∧ s.tick.cw = s.cw ∧ s.tries < T) ∨ (s.left = 1 ∧ Se s.tick ∧ s.tickOut = [24, 24] ∧ s.tries = T) := by
  have hp : ¬ s.phase = 3 := by rcases h.ph with e | e <;> omega
  have hl := h.lf
  by_cases h1 : s.left - 1 > 0
  · left
    have e1 : s.tick = { s with left := s.left - 1 } := by unfold Sn.tick; rw [if_neg hp, if_pos h1]
    have e2 : s.tickOut = [] := by unfold Sn.tickOut; rw [if_neg hp, if_pos h1]
    rw [e1, e2]
    exact ⟨by omega, ⟨h.ph, h.err, h.ct, h.cw, h.can, h.t1, by show 1 ≤ s.left - 1 ∧ s.left - 1 ≤ 99; omega⟩, rfl, rfl, rfl, rfl⟩
  · right
    have e1 : s.tick = ({ s with left := s.left - 1 } : Sn).again := by unfold Sn.tick; rw [if_neg hp, if_neg h1]
    have e2 : s.tickOut = ({ s with left := s.left - 1 } : Sn).againOut := by unfold Sn.tickOut; rw [if_neg hp, if_neg h1]
    rw [e1, e2]
    rcases h.again (s.left - 1) with ⟨a, b, c, d, e⟩ | ⟨a, b, c⟩
    · exact .inl ⟨by omega, a, b, c, d, e⟩
    · exact .inr ⟨by omega, a, b, c⟩
theorem Sg.nak {T : Nat} {s : Sn} (h : Sg T s) : (Sg T (s.put 21) ∧ (s.put 21).tries = s.tries + 1 ∧ (s.put 21).left = s.cw ∧ (s.put 21).cw = s.cw ∧ s.tries < T) ∨ (Se (s.put 21) ∧ s.tries = T) := by
  have e : s.put 21 = ({ s with left := s.left } : Sn).again := by
    have hs : s.can1 21 = s := by
      unfold Sn.can1
      rw [show ((21 : Int) == 24) = false from rfl, ← h.can]
    unfold Sn.put
    rw [if_neg (by rcases h.ph with e | e <;> omega), if_neg (fun q => by exact absurd q.2 (by decide)), if_neg (fun q => by rcases h.ph with e | e <;> omega), if_neg (by rcases h.ph with e | e <;> omega), if_neg (by decide), if_pos rfl, hs]
  rw [e]
  rcases h.again s.left with ⟨a, b, c, d, f⟩ | ⟨a, b, c⟩
  · exact .inl ⟨a, b, c, d, f⟩
  · exact .inr ⟨a, c⟩
theorem Sg.go {T : Nat} {s : Sn} (h : Sg T s) : s.put 67 = s ∧ s.putOut 67 = [] := by
  have hs : s.can1 67 = s := by
    unfold Sn.can1
    rw [show ((67 : Int) == 24) = false from rfl, ← h.can]
  constructor
  · unfold Sn.put
    rw [if_neg (by rcases h.ph with e | e <;> omega), if_neg (fun q => by exact absurd q.2 (by decide)), if_neg (fun q => by rcases h.ph with e | e <;> omega), if_neg (by rcases h.ph with e | e <;> omega), if_neg (by decide), if_neg (by decide), hs]
  · unfold Sn.putOut
    rw [if_neg (by rcases h.ph with e | e <;> omega), if_neg (fun q => by exact absurd q.2 (by decide)), if_neg (fun q => by rcases h.ph with e | e <;> omega), if_neg (by rcases h.ph with e | e <;> omega), if_neg (by decide), if_neg (by decide)]
theorem Se.put {s : Sn} (h : Se s) (c : Int) : Se (s.put c) ∧ s.putOut c = [] := by
  constructor
  · unfold Sn.put
    rw [if_pos h.1]
    exact ⟨h.1, h.2⟩
  · unfold Sn.putOut
    exact if_pos h.1
theorem Se.tick {s : Sn} (h : Se s) : s.tick = s ∧ s.tickOut = [] := by
  constructor
  · unfold Sn.tick
    exact if_pos h.1
  · unfold Sn.tickOut
    exact if_pos h.1
theorem Se.feed : ∀ (l : List Int) (s : Sn) (d : List Int), Se s → Se (feed l s d).1 ∧ (feed l s d).2 = d
  | [], s, d, h => ⟨h, rfl⟩
  | c :: l, s, d, h => by
    have hp := h.put c
    have h2 := Se.feed l (s.put c) (d ++ s.putOut c) hp.1
    rw [hp.2, List.append_nil] at h2
    show Se (SL.feed l (s.put c) (d ++ s.putOut c)).1 ∧ (SL.feed l (s.put c) (d ++ s.putOut c)).2 = d
    rw [hp.2, List.append_nil]
    exact h2
/-- a receiver that took something and waits -/
structure Rg (D : List Int) (r : Rc) : Prop where
  bg : r.begun = true
  ov : r.over = false
  dat : r.dat = D
theorem Rg.tick {D : List Int} {r : Rc} (h : Rg D r) : Rg D r.tick ∧ (r.tickOut = [] ∨ r.tickOut = [21]) := by
  have ho : ¬ r.over = true := by rw [h.ov]; decide
  have hb : ¬ (r.begun = false ∧ r.tries = 0) := fun q => by rw [h.bg] at q; exact absurd q.1 (by decide)
  have hb2 : ¬ r.begun = false := by rw [h.bg]; decide
  unfold Rc.tick Rc.tickOut
  rw [if_neg ho, if_neg ho]
  by_cases h1 : r.left - 1 > 0
  · rw [if_pos h1, if_pos h1]
    exact ⟨⟨h.bg, h.ov, h.dat⟩, .inl rfl⟩
  · rw [if_neg h1, if_neg h1, if_neg hb, if_neg hb, if_neg hb2]
    refine ⟨⟨h.bg, h.ov, h.dat⟩, .inr ?_⟩
    unfold Rc.askB
    rw [if_neg (fun q => hb2 q.2)]
/-- one that gave up: it is over with the sender, to the end -/
theorem run_given {D : List Int} {L : Nat} : ∀ (n : Nat) (x : Lk), Se x.s → x.up = [] → (Rg D x.r ∨ x.r.over = true ∧ x.r.dat = D) → Se (x.run (nzL L) n).s ∧ (x.run (nzL L) n).r.dat = D
  | 0, x, hs, hu, hr => ⟨hs, hr.elim (fun h => h.dat) (fun h => h.2)⟩
  | n + 1, x, hs, hu, hr => by
    rcases hr with hr | hr
    · have ho : x.isOver = false := by unfold Lk.isOver; rw [hr.ov, Bool.and_false]
      rw [run_step ho]
      have hf : x.fed = ((feed x.r.tickOut x.s []).1, []) := by
        unfold Lk.fed
        rw [hu, List.nil_append, hs.tick.1, hs.tick.2]
        exact Prod.ext rfl (Se.feed _ _ _ hs).2
      rw [next_eq hf]
      exact run_given n _ (Se.feed _ _ _ hs).1 rfl (.inl hr.tick.1)
    · have ho : x.isOver = true := by unfold Lk.isOver; rw [hr.1, hs.1]; rfl
      rw [run_over ho]
      exact ⟨hs, hr.2⟩
/-- how long it may still wait -/
def mu (T : Nat) (s : Sn) : Nat := (T - s.tries.toNat) * 100 + s.left.toNat
theorem run_begun {D : List Int} {L T : Nat} (hT : T ≤ 9) : ∀ (n : Nat) (x : Lk), Sg T x.s → x.up = [] → Rg D x.r → L ≤ x.sent → x.sent + (T - x.s.tries.toNat) ≤ 50 → mu T x.s < n → Se (x.run (nzL L) n).s ∧ (x.run (nzL L) n).r.dat = D
  | 0, x, _, _, _, _, _, hm => by omega
  | n + 1, x, hs, hu, hr, hL, h5, hm => by
    have ho : x.isOver = false := by unfold Lk.isOver; rw [hr.ov, Bool.and_false]
    rw [run_step ho]
    obtain ⟨hr2, hto⟩ := hr.tick
    have ht1 := hs.t1
    have hcw := hs.cw
    have hlf := hs.lf
    obtain ⟨n1, n2, n3, n4⟩ := next_lost (L := L) (x := x) (s := x.fed.1) (d := x.fed.2) rfl hL (by omega)
    have hL2 : L ≤ (x.next (nzL L)).sent := by rw [n4]; split <;> omega
    have hs1 : (x.next (nzL L)).sent ≤ x.sent + 1 := by rw [n4]; split <;> omega
    have hs0 : x.fed.2 = [] → (x.next (nzL L)).sent = x.sent := fun h => by rw [n4, h]; rfl
    -- given up
    have fin : Se x.fed.1 → Se ((x.next (nzL L)).run (nzL L) n).s ∧ ((x.next (nzL L)).run (nzL L) n).r.dat = D := fun h => run_given n _ (n1 ▸ h) n3 (.inl (n2 ▸ hr2))
    -- goes on
    have go : Sg T x.fed.1 → mu T x.fed.1 < mu T x.s → (x.fed.1.tries = x.s.tries ∧ x.fed.2 = [] ∨ x.s.tries < x.fed.1.tries) → Se ((x.next (nzL L)).run (nzL L) n).s ∧ ((x.next (nzL L)).run (nzL L) n).r.dat = D := fun h hlt ht => by
      have := h.t1
      refine run_begun hT n _ (n1 ▸ h) n3 (n2 ▸ hr2) hL2 ?_ (by rw [n1]; omega)
      rw [n1]
      rcases ht with ⟨ht, hd⟩ | ht
      · rw [hs0 hd, ht]; exact h5
      · omega
    have hfd : x.fed = feed x.r.tickOut x.s.tick x.s.tickOut := by unfold Lk.fed; rw [hu, List.nil_append]
    rcases hs.tick with ⟨a1, a2, a3, a4, a5, a6⟩ | ⟨a1, a2, a3, a4, a5, a6⟩ | ⟨a1, a2, a3, a4⟩
    · rcases hto with hto | hto
      · rw [hto] at hfd
        have e1 : x.fed.1 = x.s.tick := by rw [hfd]; rfl
        have e2 : x.fed.2 = [] := by rw [hfd]; exact a6
        exact go (e1 ▸ a2) (by rw [e1]; unfold mu; rw [a3, a4]; omega) (.inl ⟨by rw [e1, a3], e2⟩)
      · rw [hto] at hfd
        have e1 : x.fed.1 = x.s.tick.put 21 := by rw [hfd]; rfl
        rcases a2.nak with ⟨b1, b2, b3, b4, b5⟩ | ⟨b1, b2⟩
        · exact go (e1 ▸ b1) (by rw [e1]; unfold mu; rw [b2, b3, a3, a5]; omega) (.inr (by rw [e1, b2, a3]; omega))
        · exact fin (e1 ▸ b1)
    · rcases hto with hto | hto
      · rw [hto] at hfd
        have e1 : x.fed.1 = x.s.tick := by rw [hfd]; rfl
        exact go (e1 ▸ a2) (by rw [e1]; unfold mu; rw [a3, a4]; omega) (.inr (by rw [e1, a3]; omega))
      · rw [hto] at hfd
        have e1 : x.fed.1 = x.s.tick.put 21 := by rw [hfd]; rfl
        rcases a2.nak with ⟨b1, b2, b3, b4, b5⟩ | ⟨b1, b2⟩
        · have := a2.t1
          exact go (e1 ▸ b1) (by rw [e1]; unfold mu; rw [b2, b3, a3, a5]; omega) (.inr (by rw [e1, b2, a3]; omega))
        · exact fin (e1 ▸ b1)
    · refine fin ?_
      rw [hfd]
      exact (Se.feed _ _ _ a2).1
/-- a receiver that has nothing yet, in step with the sender -/
structure Rf (T : Nat) (s : Sn) (r : Rc) : Prop where
  bg : r.begun = false
  ov : r.over = false
  crc : r.crc = true
  dat : r.dat = []
  left : r.left = s.left
  wait : r.wait = s.cw
  tries : r.tries + s.tries = T
theorem run_fresh {L T : Nat} (hT : T ≤ 9) : ∀ (n : Nat) (x : Lk), Sg T x.s → x.up = [] → Rf T x.s x.r → L ≤ x.sent → x.sent + (T - x.s.tries.toNat) ≤ 50 → mu T x.s < n → Se (x.run (nzL L) n).s ∧ (x.run (nzL L) n).r.dat = []
  | 0, x, _, _, _, _, _, hm => by omega
  | n + 1, x, hs, hu, hr, hL, h5, hm => by
    have ho : x.isOver = false := by unfold Lk.isOver; rw [hr.ov, Bool.and_false]
    rw [run_step ho]
    have ht1 := hs.t1
    have hcw := hs.cw
    have hlf := hs.lf
    have hro : ¬ x.r.over = true := by rw [hr.ov]; decide
    obtain ⟨n1, n2, n3, n4⟩ := next_lost (L := L) (x := x) (s := x.fed.1) (d := x.fed.2) rfl hL (by omega)
    have hL2 : L ≤ (x.next (nzL L)).sent := by rw [n4]; split <;> omega
    have hs1 : (x.next (nzL L)).sent ≤ x.sent + 1 := by rw [n4]; split <;> omega
    have hs0 : x.fed.2 = [] → (x.next (nzL L)).sent = x.sent := fun h => by rw [n4, h]; rfl
    have hfd : x.fed = feed x.r.tickOut x.s.tick x.s.tickOut := by unfold Lk.fed; rw [hu, List.nil_append]
    have hrl := hr.left
    have hrt := hr.tries
    have hrw := hr.wait
    rcases hs.tick with ⟨a1, a2, a3, a4, a5, a6⟩ | ⟨a1, a2, a3, a4, a5, a6⟩ | ⟨a1, a2, a3, a4⟩
    · have k1 : x.r.left - 1 > 0 := by omega
      have t1 : x.r.tick = { x.r with left := x.r.left - 1 } := by unfold Rc.tick; rw [if_neg hro, if_pos k1]
      have t2 : x.r.tickOut = [] := by unfold Rc.tickOut; rw [if_neg hro, if_pos k1]
      rw [t2] at hfd
      have e1 : x.fed.1 = x.s.tick := by rw [hfd]; rfl
      have e2 : x.fed.2 = [] := by rw [hfd]; exact a6
      refine run_fresh hT n _ (n1 ▸ e1 ▸ a2) n3 ?_ hL2 ?_ ?_
      · rw [n1, n2, e1, t1]
        exact ⟨hr.bg, hr.ov, hr.crc, hr.dat, by show x.r.left - 1 = _; rw [a4, hrl], by show x.r.wait = _; rw [a5, hrw], by show x.r.tries + _ = _; rw [a3, hrt]⟩
      · rw [n1, hs0 e2, e1, a3]; exact h5
      · rw [n1, e1]; unfold mu at hm ⊢; rw [a3, a4]; omega
    · have k1 : ¬ x.r.left - 1 > 0 := by omega
      have k2 : ¬ (x.r.begun = false ∧ x.r.tries = 0) := fun q => by omega
      have t1 : x.r.tick = { x.r with left := x.r.wait, buf := [], tries := x.r.tries - 1 } := by unfold Rc.tick; rw [if_neg hro, if_neg k1, if_neg k2, if_pos hr.bg]
      have t2 : x.r.tickOut = [67] := by
        unfold Rc.tickOut Rc.askB
        rw [if_neg hro, if_neg k1, if_neg k2, if_pos ⟨hr.crc, hr.bg⟩]
      rw [t2] at hfd
      have e1 : x.fed.1 = x.s.tick := by
        rw [hfd]
        show x.s.tick.put 67 = _
        exact a2.go.1
      have := a2.t1
      refine run_fresh hT n _ (n1 ▸ e1 ▸ a2) n3 ?_ hL2 ?_ ?_
      · rw [n1, n2, e1, t1]
        exact ⟨hr.bg, hr.ov, hr.crc, hr.dat, by show x.r.wait = _; rw [a4, hrw], by show x.r.wait = _; rw [a5, hrw], by show x.r.tries - 1 + _ = _; rw [a3]; omega⟩
      · rw [n1, e1, a3]; omega
      · rw [n1, e1]; unfold mu at hm ⊢; rw [a3, a4]; omega
    · have k1 : ¬ x.r.left - 1 > 0 := by omega
      have k2 : x.r.begun = false ∧ x.r.tries = 0 := ⟨hr.bg, by omega⟩
      have t1 : x.r.tick = ({ x.r with left := x.r.wait, buf := [] } : Rc).fin 10 := by unfold Rc.tick; rw [if_neg hro, if_neg k1, if_pos k2]
      refine run_given n _ ?_ n3 (.inr ?_)
      · rw [n1, hfd]
        exact (Se.feed _ _ _ a2).1
      · rw [n2, t1]
        exact ⟨rfl, hr.dat⟩
/-- the first tick, where the sender has blocks, or none -/
def sS (t w : Int) (qs : List (List Int)) : Sn := ⟨t, w, qs, true, true, 0, 0, 1, w, false, 0⟩
def rS (t w k : Int) : Rc := ⟨true, w, t, 1, 1, false, true, [], [], 0, k, false, 0⟩
theorem first_tick {t w k : Int} {qs : List (List Int)} (hw : 2 ≤ w) (ht : 1 ≤ t) : (Lk.start (sS t w qs) (rS t w k)).r.tick = ⟨true, w, t - 1, w, 1, false, true, [], [], 0, k, false, 0⟩ := by
  have ht1 : ¬ t = 0 := by omega
  simp [Lk.start, rS, Rc.tick, ht1]
theorem first_fed {t w k : Int} {qs : List (List Int)} (hw : 2 ≤ w) (ht : 1 ≤ t) (h0 : 0 < qs.length) : (Lk.start (sS t w qs) (rS t w k)).fed = (⟨t, w, qs, true, true, 1, 0, 1, w, false, 0⟩, blockL (leadOf qs[0].length) 1 qs[0] true) := by
  have ht1 : ¬ t = 0 := by omega
  have hw1 : 1 < w := by omega
  have hg : qs[0]? = some qs[0] := List.getElem?_eq_getElem h0
  simp [Lk.start, sS, rS, Lk.fed, Rc.tickOut, Rc.askB, ht1, Sn.tick, Sn.tickOut, hw1, feed, Sn.put, Sn.putOut, Sn.can1, Sn.next, Sn.now, Sn.bytes, h0]
theorem first_fed0 {t w k : Int} (hw : 2 ≤ w) (ht : 1 ≤ t) : (Lk.start (sS t w []) (rS t w k)).fed = (⟨t, w, [], true, true, 2, 0, 1, w, false, 0⟩, [4]) := by
  have ht1 : ¬ t = 0 := by omega
  have hw1 : 1 < w := by omega
  simp [Lk.start, sS, rS, Lk.fed, Rc.tickOut, Rc.askB, ht1, Sn.tick, Sn.tickOut, hw1, feed, Sn.put, Sn.putOut, Sn.can1, Sn.next, Sn.now]
theorem first_next {t w k : Int} {qs : List (List Int)} (hw : 2 ≤ w) (ht : 1 ≤ t) (hq : ∀ q ∈ qs, q.length = 128 ∨ q.length = 1024) (h0 : 0 < qs.length) : (Lk.start (sS t w qs) (rS t w k)).next [] = cA t w (t - 1) k qs true 0 := by
  have hg : qs[0]? = some qs[0] := List.getElem?_eq_getElem h0
  have hp := Rc.put_block (r := ⟨true, w, t - 1, w, 1, false, true, [], [], 0, k, false, 0⟩) (q := qs[0]) (num := 1) rfl rfl rfl rfl (by decide) (hq _ (List.getElem_mem h0))
  rw [next_ne (first_fed hw ht h0) (block_ne _ _ _ _) (show downOf [] _ _ = _ from rfl) ((congrArg (fun r => Rc.put r _) (first_tick hw ht)).trans hp.1) ((congrArg (fun r => Rc.putOut r _) (first_tick hw ht)).trans hp.2)]
  have hfl : (qs.take (0 + 1)).flatten = qs[0] := by
    rw [List.take_add_one (i := 0), hg, List.take_zero, List.nil_append]
    exact List.append_nil _
  unfold cA
  rw [hfl]
  rfl
theorem first_next0 {t w k : Int} (hw : 2 ≤ w) (ht : 1 ≤ t) : (Lk.start (sS t w []) (rS t w k)).next [] = cE t w (t - 1) k 0 false [] true 1 := by
  have hp := Rc.put_eot (r := ⟨true, w, t - 1, w, 1, false, true, [], [], 0, k, false, 0⟩) rfl rfl rfl
  rw [next_ne (first_fed0 hw ht) (by decide) (show downOf [] _ _ = _ from rfl) ((congrArg (fun r => Rc.put r _) (first_tick hw ht)).trans hp.1) ((congrArg (fun r => Rc.putOut r _) (first_tick hw ht)).trans hp.2)]
  rfl
theorem cA_isOver {ct w t0 k : Int} {qs : List (List Int)} {crc : Bool} {i : Nat} : (cA ct w t0 k qs crc i).isOver = false := rfl
theorem cA_lost {T : Nat} {w t0 k : Int} {qs : List (List Int)} {i : Nat} {L : Nat} (hT : 1 ≤ T) (hw : 2 ≤ w ∧ w ≤ 99) (hi : i < qs.length) (hL : L ≤ i + 1) (h6 : i + 1 < 50) :
    Sg T ((cA T w t0 k qs true i).next (nzL L)).s ∧ ((cA T w t0 k qs true i).next (nzL L)).s.tries = 1 ∧ ((cA T w t0 k qs true i).next (nzL L)).s.left = w ∧ ((cA T w t0 k qs true i).next (nzL L)).up = [] ∧ Rg ((qs.take (i + 1)).flatten) ((cA T w t0 k qs true i).next (nzL L)).r ∧ i + 1 ≤ ((cA T w t0 k qs true i).next (nzL L)).sent ∧ ((cA T w t0 k qs true i).next (nzL L)).sent ≤ i + 2 := by
  have hw1 : 1 < w := by omega
  have hf : ∃ d : List Int, ∃ p : Int, (p = 1 ∨ p = 2) ∧ (cA T w t0 k qs true i).fed = (⟨T, w, qs, true, true, p, i + 1, 1, w, false, 0⟩, d) := by
    by_cases hi2 : i + 1 < qs.length
    · have hg : qs[i + 1]? = some qs[i + 1] := List.getElem?_eq_getElem hi2
      refine ⟨blockL (leadOf qs[i + 1].length) (((0 + (i + 1) + 1) % 256 : Nat) : Int) qs[i + 1] true, 1, .inl rfl, ?_⟩
      simp [Lk.fed, cA, Rc.tickOut, Sn.tick, Sn.tickOut, hw1, feed, Sn.put, Sn.putOut, Sn.can1, Sn.next, hi2, Sn.now, Sn.bytes, hg]
    · refine ⟨[4], 2, .inr rfl, ?_⟩
      simp [Lk.fed, cA, Rc.tickOut, Sn.tick, Sn.tickOut, hw1, feed, Sn.put, Sn.putOut, Sn.can1, Sn.next, hi2, Sn.now]
  obtain ⟨d, p, hp, hf⟩ := hf
  obtain ⟨n1, n2, n3, n4⟩ := next_lost (L := L) hf (by exact hL) (by show i + 1 < 60; omega)
  have ht : (cA T w t0 k qs true i).r.tick = ⟨true, w, t0, w - 1, (((0 + (i + 1) + 1) % 256 : Nat) : Int), true, true, [], (qs.take (i + 1)).flatten, (i : Int) + 1, k, false, 0⟩ := by
    simp [cA, Rc.tick, hw1]
  rw [n1, n2, n3, n4, ht]
  refine ⟨⟨hp, rfl, rfl, by show 1 ≤ w ∧ w ≤ 99; omega, rfl, by show 1 ≤ (1 : Int) ∧ (1 : Int) ≤ (T : Int); omega, by show 1 ≤ w ∧ w ≤ 99; omega⟩, rfl, rfl, rfl, ⟨rfl, rfl, rfl⟩, ?_, ?_⟩
  · have hsn : (cA T w t0 k qs true i).sent = i + 1 := rfl
    rw [hsn]
    split <;> omega
  · have hsn : (cA T w t0 k qs true i).sent = i + 1 := rfl
    rw [hsn]
    split <;> omega
theorem cA_up {t w k : Int} {qs : List (List Int)} {L : Nat} (hw : 2 ≤ w) (ht : 1 ≤ t) (hq : ∀ q ∈ qs, q.length = 128 ∨ q.length = 1024) (hF : (Lk.start (sS t w qs) (rS t w k)).Fit qs) : ∀ (i m : Nat), i < qs.length → i + 1 ≤ L → (cA t w (t - 1) k qs true i).Fit qs ∧ (Lk.start (sS t w qs) (rS t w k)).run (nzL L) (m + i + 1) = (cA t w (t - 1) k qs true i).run (nzL L) m
  | 0, m, hi, hL => by
    have hn := first_next (k := k) hw ht hq hi
    have hn2 := next_quiet (ns := nzL L) hF (nzL_quiet (by exact hL))
    refine ⟨hn ▸ hF.next [], ?_⟩
    rw [show m + 0 + 1 = m + 1 from rfl, run_step rfl, hn2, hn]
  | i + 1, m, hi, hL => by
    obtain ⟨f1, f2⟩ := cA_up (L := L) hw ht hq hF i (m + 1) (by omega) (by omega)
    have hn := clean_mid (ct := t) (t0 := t - 1) (k := k) (crc := true) hw hq hi
    have hn2 := next_quiet (ns := nzL L) f1 (nzL_quiet (by exact hL))
    refine ⟨hn ▸ f1.next [], ?_⟩
    rw [show m + (i + 1) + 1 = m + 1 + i + 1 by omega, f2, run_step rfl, hn2, hn]
theorem cE_run {ct w t0 k nb nm : Int} {bg : Bool} {qs : List (List Int)} {ns : List Nz} (hw : 2 ≤ w) (m : Nat) : ((cE ct w t0 k nb bg qs true nm).run ns (m + 2)).ov = true ∧ ((cE ct w t0 k nb bg qs true nm).run ns (m + 2)).e1 = 0 := by
  have hw1 : 1 < w := by omega
  have hf : (cE ct w t0 k nb bg qs true nm).fed = (⟨ct, w, qs, true, true, 3, qs.length, 1, w, false, 0⟩, []) := by
    simp [Lk.fed, cE, Rc.tickOut, Sn.tick, Sn.tickOut, hw1, feed, Sn.put, Sn.putOut, Sn.can1, Sn.next, Sn.now]
  rw [run_step rfl, next_eq hf, run_over rfl]
  exact ⟨rfl, rfl⟩
/-- where all is lost from the send L on -/
theorem ends_run {a b : Int} {qs : List (List Int)} {L : Nat} (hb : 2 ≤ b ∧ b ≤ 99) (hL : L ≤ 3) (hm : qs.length ≤ 4) (hq : ∀ q ∈ qs, U8s q ∧ (q.length = 128 ∨ q.length = 1024)) (fx : Lk) (he : (Lk.start (Sn.of a b qs true true) (Rc.of a b 1 true true 1)).run (nzL L) 2000 = fx) :
    (qs.length < L → fx.ov = true ∧ fx.e1 = 0) ∧ (L ≤ qs.length → Se fx.s ∧ fx.r.dat = (qs.take L).flatten) := by
  obtain ⟨T, hT⟩ := Int.eq_ofNat_of_zero_le (show 0 ≤ max 1 (min a 9) by omega)
  have hT9 : 1 ≤ T ∧ T ≤ 9 := by omega
  have hw : max 1 (min b 99) = b := by omega
  have hF := start_fit (a := a) (b := b) (a' := a) (b' := b) (number := 1) (many := 1) (crc := true) (close := true) (by omega : qs.length ≤ 65535) hq (by decide)
  have hS : Sn.of a b qs true true = sS T b qs := by unfold Sn.of sS; rw [hT, hw]
  have hR : Rc.of a b 1 true true 1 = rS T b 1 := by unfold Rc.of rS; rw [hT, hw]; rfl
  rw [hS, hR] at hF he
  have hq2 : ∀ q ∈ qs, q.length = 128 ∨ q.length = 1024 := fun q h => (hq q h).2
  have ht1 : (1 : Int) ≤ T := by omega
  subst he
  refine ⟨fun h => ?_, fun h => ?_⟩
  · rcases Nat.eq_zero_or_pos qs.length with h0 | h0
    · have hqn : qs = [] := List.length_eq_zero_iff.1 h0
      subst hqn
      have hn2 := next_quiet (ns := nzL L) hF (nzL_quiet (by exact h))
      rw [show 2000 = 1997 + 2 + 1 from rfl, run_step rfl, hn2, first_next0 hb.1 ht1]
      exact cE_run hb.1 1997
    · obtain ⟨f1, f2⟩ := cA_up (L := L) hb.1 ht1 hq2 hF (qs.length - 1) (2000 - qs.length) (by omega) (by omega)
      rw [show 2000 - qs.length + (qs.length - 1) + 1 = 2000 by omega] at f2
      obtain ⟨nb, nm, hn⟩ := clean_last (ct := T) (t0 := T - 1) (k := 1) (crc := true) (i := qs.length - 1) hb.1 (show qs.length - 1 + 1 = qs.length by omega)
      have hn2 := next_quiet (ns := nzL L) f1 (nzL_quiet (by show qs.length - 1 + 1 < L; omega))
      rw [f2, show 2000 - qs.length = (1997 - qs.length + 2) + 1 by omega, run_step rfl, hn2, hn]
      exact cE_run hb.1 _
  · rcases Nat.eq_zero_or_pos L with h0 | h0
    · subst h0
      have hfd : ∃ p : Int, (p = 1 ∨ p = 2) ∧ (Lk.start (sS T b qs) (rS T b 1)).fed.1 = ⟨T, b, qs, true, true, p, 0, 1, b, false, 0⟩ := by
        rcases Nat.eq_zero_or_pos qs.length with h1 | h1
        · have hqn : qs = [] := List.length_eq_zero_iff.1 h1
          subst hqn
          exact ⟨2, .inr rfl, by rw [first_fed0 hb.1 ht1]⟩
        · exact ⟨1, .inl rfl, by rw [first_fed hb.1 ht1 h1]⟩
      obtain ⟨p, hp, hfd⟩ := hfd
      obtain ⟨n1, n2, n3, n4⟩ := next_lost (L := 0) (x := Lk.start (sS T b qs) (rS T b 1)) (s := (Lk.start (sS T b qs) (rS T b 1)).fed.1) (d := (Lk.start (sS T b qs) (rS T b 1)).fed.2) rfl (Nat.zero_le _) (by show 0 < 60; decide)
      rw [hfd] at n1
      rw [first_tick hb.1 ht1] at n2
      have n5 : ((Lk.start (sS T b qs) (rS T b 1)).next (nzL 0)).sent ≤ 1 := by
        have hsn : (Lk.start (sS T b qs) (rS T b 1)).sent = 0 := rfl
        rw [n4, hsn]
        split <;> omega
      rw [show 2000 = 1999 + 1 from rfl, run_step rfl]
      refine run_fresh hT9.2 1999 _ ?_ n3 ?_ (Nat.zero_le _) ?_ ?_
      · rw [n1]
        exact ⟨hp, rfl, rfl, by show 1 ≤ b ∧ b ≤ 99; omega, rfl, by show 1 ≤ (1 : Int) ∧ (1 : Int) ≤ (T : Int); omega, by show 1 ≤ b ∧ b ≤ 99; omega⟩
      · rw [n1, n2]
        exact ⟨rfl, rfl, rfl, rfl, rfl, rfl, by show (T : Int) - 1 + 1 = T; omega⟩
      · rw [n1]; show _ + (T - (1 : Int).toNat) ≤ 50; omega
      · rw [n1]; show (T - (1 : Int).toNat) * 100 + b.toNat < 1999; omega
    · obtain ⟨f1, f2⟩ := cA_up (L := L) hb.1 ht1 hq2 hF (L - 1) (2000 - L) (by omega) (by omega)
      rw [show 2000 - L + (L - 1) + 1 = 2000 by omega] at f2
      obtain ⟨c1, c2, c3, c4, c5, c6, c7⟩ := cA_lost (T := T) (w := b) (t0 := T - 1) (k := 1) (qs := qs) (i := L - 1) (L := L) hT9.1 hb (by omega) (by omega) (by omega)
      rw [f2, show 2000 - L = (1999 - L) + 1 by omega, run_step rfl]
      rw [show L - 1 + 1 = L by omega] at c5
      refine run_begun hT9.2 _ _ c1 c4 c5 (by omega) ?_ ?_
      · rw [c2]; show _ + (T - (1 : Int).toNat) ≤ 50; omega
      · unfold mu; rw [c2, c3]; show (T - (1 : Int).toNat) * 100 + b.toNat < _; omega
end
end Go.Proofs.YtcbkcggijejooaaDoor.SL
