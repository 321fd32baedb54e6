import Derived.Test.YtcbkcggijejooaaL1
/- A sender and a receiver that talk: what they do. No statement is proved here. -/
set_option linter.unusedVariables false
set_option linter.unusedSimpArgs false
set_option maxRecDepth 100000
namespace Go.Proofs.Ytcbkcggijejooaa.SL
open Go Go.RowKit
section
variable {w0 : World} {B : Nat} {H X : List Chunk}
/-- bytes for the sender, one by one -/
def feed : List Int → Sn → List Int → Sn × List Int
  | [], s, d => (s, d)
  | c :: cs, s, d => feed cs (s.put c) (d ++ s.putOut c)
theorem feed_snoc : ∀ (l : List Int) (c : Int) (s : Sn) (d : List Int), feed (l ++ [c]) s d = ((feed l s d).1.put c, (feed l s d).2 ++ (feed l s d).1.putOut c)
  | [], c, s, d => rfl
  | b :: l, c, s, d => by simp only [List.cons_append, feed]; exact feed_snoc l c _ _
/-- both, and what is on its way up -/
structure Lk where
  s : Sn
  r : Rc
  up : List Int
  ticks : Nat
  sent : Nat
  ov : Bool
  e1 : Int
  e2 : Int
def Lk.fed (x : Lk) : Sn × List Int := feed (x.up ++ x.r.tickOut) x.s.tick x.s.tickOut
def downOf (ns : List Nz) (k : Nat) (d : List Int) : List Int := match ns[k]? with
  | some z => z.thru d
  | none => d
def Lk.next (ns : List Nz) (x : Lk) : Lk :=
  if x.fed.2.length = 0 then ⟨x.fed.1, x.r.tick, [], x.ticks + 1, x.sent, false, x.s.err, x.r.err⟩
  else ⟨x.fed.1, x.r.tick.put (downOf ns x.sent x.fed.2), x.r.tick.putOut (downOf ns x.sent x.fed.2), x.ticks + 1, x.sent + 1, false, x.s.err, x.r.err⟩
def Lk.isOver (x : Lk) : Bool := x.s.phase == 3 && x.r.over
def Lk.run (ns : List Nz) : Nat → Lk → Lk
  | 0, x => x
  | n + 1, x => if x.isOver = true then { x with ov := true, e1 := x.s.err, e2 := x.r.err } else (x.next ns).run ns n
def Lk.start (s : Sn) (r : Rc) : Lk := ⟨s, r, [], 0, 0, false, 0, 0⟩
structure Rc.Fit (t : Nat) (r : Rc) : Prop where
  bu : U8s r.buf
  bl : r.buf.length ≤ 7000 * t
  dl : r.dat.length ≤ 1100 * t
  b0 : 0 ≤ r.blocks
  b1 : r.blocks ≤ (t : Int)
  n0 : 0 ≤ r.number
  n1 : r.number ≤ 255
  l0 : 1 ≤ r.left
  l1 : r.left ≤ 99
  w0 : 1 ≤ r.wait
  w1 : r.wait ≤ 99
  t0 : 0 ≤ r.tries
  t1 : r.tries ≤ 9
theorem Rc.Fit.tick {t : Nat} {r : Rc} (h : r.Fit t) : r.tick.Fit t := by
  have h1 := h.l0
  have h2 := h.t0
  unfold Rc.tick
  split
  · exact h
  · split
    · exact ⟨h.bu, h.bl, h.dl, h.b0, h.b1, h.n0, h.n1, by show 1 ≤ r.left - 1; omega, by show r.left - 1 ≤ 99; have := h.l1; omega, h.w0, h.w1, h.t0, h.t1⟩
    · split
      · exact ⟨U8s.nil, Nat.zero_le _, h.dl, h.b0, h.b1, h.n0, h.n1, h.w0, h.w1, h.w0, h.w1, h.t0, h.t1⟩
      · split
        · rename_i hb hc
          have : r.tries ≠ 0 := fun e => hb ⟨hc, e⟩
          exact ⟨U8s.nil, Nat.zero_le _, h.dl, h.b0, h.b1, h.n0, h.n1, h.w0, h.w1, h.w0, h.w1, by show 0 ≤ r.tries - 1; omega, by show r.tries - 1 ≤ 9; have := h.t1; omega⟩
        · exact ⟨U8s.nil, Nat.zero_le _, h.dl, h.b0, h.b1, h.n0, h.n1, h.w0, h.w1, h.w0, h.w1, h.t0, h.t1⟩
theorem scanD_1100 (l : List Int) (crc : Bool) : (scanD l crc).length ≤ 1026 := by
  have h9 : sizeL (rd l 0) crc ≤ 1029 := by unfold sizeL; split <;> (try split) <;> (try split) <;> omega
  unfold scanD scanT
  simp
  omega
theorem Rc.Fit.mono {t t' : Nat} {r : Rc} (h : r.Fit t) (ht : t ≤ t') : r.Fit t' :=
  ⟨h.bu, by have := h.bl; omega, by have := h.dl; omega, h.b0, by have := h.b1; omega, h.n0, h.n1, h.l0, h.l1, h.w0, h.w1, h.t0, h.t1⟩
theorem Rc.Fit.put {t : Nat} {r : Rc} {b : List Int} (h : r.Fit t) (hb : b.length ≤ 7000) (hu : U8s b) : (r.put b).Fit (t + 1) := by
  have hg : (r.got b).Fit (t + 1) := ⟨h.bu.append hu, by show (r.buf ++ b).length ≤ _; rw [List.length_append]; have := h.bl; omega, by show r.dat.length ≤ _; have := h.dl; omega, h.b0, by show r.blocks ≤ _; have := h.b1; omega, h.n0, h.n1, h.w0, h.w1, h.w0, h.w1, h.t0, h.t1⟩
  have hc : ({ r.got b with buf := [] } : Rc).Fit (t + 1) := ⟨U8s.nil, Nat.zero_le _, hg.dl, hg.b0, hg.b1, hg.n0, hg.n1, hg.l0, hg.l1, hg.w0, hg.w1, hg.t0, hg.t1⟩
  have hfin : ∀ (q : Rc) (e : Int), q.Fit (t + 1) → (q.fin e).Fit (t + 1) := fun q e hq => ⟨hq.bu, hq.bl, hq.dl, hq.b0, hq.b1, hq.n0, hq.n1, hq.l0, hq.l1, hq.w0, hq.w1, hq.t0, hq.t1⟩
  have hdone : ∀ (q : Rc), q.Fit (t + 1) → q.done.Fit (t + 1) := fun q hq => by unfold Rc.done; split; exact hfin _ _ hq; exact hq
  unfold Rc.put
  split
  · exact h.mono (by omega)
  · split
    · exact hfin _ _ hg
    · split
      · exact hfin _ _ hg
      · split
        · exact hg
        · split
          · exact hg
          · split
            · unfold Rc.take
              split
              · refine hdone _ ⟨U8s.nil, Nat.zero_le _, ?_, ?_, ?_, ?_, ?_, hc.l0, hc.l1, hc.w0, hc.w1, hc.t0, hc.t1⟩
                · show (r.dat ++ scanD (r.buf ++ b) r.crc).length ≤ _
                  rw [List.length_append]
                  have := scanD_1100 (r.buf ++ b) r.crc
                  have := h.dl
                  omega
                · show 0 ≤ r.blocks + 1; have := h.b0; omega
                · show r.blocks + 1 ≤ _; have := h.b1; omega
                · show 0 ≤ (r.number + 1) % 256; omega
                · show (r.number + 1) % 256 ≤ 255; omega
              · split
                · exact hfin _ _ hc
                · exact hdone _ hc
            · exact hc
theorem Sn.bytes_len {s : Sn} (h : s.Fit) : s.bytes.length ≤ 1029 ∧ U8s s.bytes := by
  unfold Sn.bytes
  cases hq : s.qs[s.at_]? with
  | none => exact ⟨by simp, U8s.nil⟩
  | some q =>
    have hn := h.num q (List.mem_of_getElem? hq)
    have ht := trailL_le q s.crc
    constructor
    · simp only
      unfold blockL
      simp
      omega
    · simp only
      unfold blockL
      refine (U8s.append (fun x hx => ?_) hn.1).append ?_
      · unfold leadOf at hx
        simp at hx
        rcases hx with rfl | rfl | rfl
        · split <;> omega
        · omega
        · omega
      · have h1 := crcI_range q
        have h2 := sumI_range q
        intro x hx
        unfold trailL at hx
        split at hx
        · simp at hx; rcases hx with rfl | rfl <;> omega
        · simp at hx; subst hx; exact h2
theorem Sn.now_len {s : Sn} (h : s.Fit) : s.now.length ≤ 1029 ∧ U8s s.now := by
  unfold Sn.now
  split
  · exact Sn.bytes_len h
  · split
    · exact ⟨by simp, U8s.one (by decide) (by decide)⟩
    · exact ⟨by simp, U8s.nil⟩
theorem Sn.againOut_len {s : Sn} (h : s.Fit) : s.againOut.length ≤ 1029 ∧ U8s s.againOut := by
  unfold Sn.againOut
  split
  · exact ⟨by simp, fun x hx => by simp at hx; subst hx; omega⟩
  · exact Sn.now_len h
theorem Sn.tickOut_len {s : Sn} (h : s.Fit) : s.tickOut.length ≤ 1029 ∧ U8s s.tickOut := by
  unfold Sn.tickOut
  split
  · exact ⟨by simp, U8s.nil⟩
  · split
    · exact ⟨by simp, U8s.nil⟩
    · unfold Sn.againOut
      split
      · exact ⟨by simp, fun x hx => by simp at hx; subst hx; omega⟩
      · exact (show s.now.length ≤ 1029 ∧ U8s s.now from Sn.now_len h)
theorem Sn.putOut_len {s : Sn} (h : s.Fit) (c : Int) : (s.putOut c).length ≤ 1029 ∧ U8s (s.putOut c) := by
  have h1 := h.can1 c
  have hn : ([] : List Int).length ≤ 1029 ∧ U8s [] := ⟨by simp, U8s.nil⟩
  unfold Sn.putOut
  split
  · exact hn
  · split
    · exact hn
    · split
      · exact Sn.now_len (Sn.Fit0.next ⟨h.many, h.num, h.ct1, h.cw1, h.ph, h.at1, h.tr, h.lf⟩)
      · split
        · exact hn
        · split
          · split
            · rename_i hp
              exact Sn.now_len (Sn.Fit0.next ⟨h.many, h.num, h.ct1, h.cw1, h.ph, h.dat hp, h.tr, h.lf⟩)
            · exact Sn.now_len h1.toFit0.next
          · split
            · exact Sn.againOut_len h1
            · exact hn
theorem feed_fit : ∀ (l : List Int) (s : Sn) (d : List Int), s.Fit → U8s d → (feed l s d).1.Fit ∧ (feed l s d).1.qs = s.qs ∧ (feed l s d).2.length ≤ d.length + 1029 * l.length ∧ U8s (feed l s d).2
  | [], s, d, h, hd => ⟨h, rfl, by simp [feed], hd⟩
  | c :: l, s, d, h, hd => by
    have h1 := Sn.putOut_len h c
    have h2 := feed_fit l (s.put c) (d ++ s.putOut c) (h.put c) (hd.append h1.2)
    refine ⟨h2.1, h2.2.1.trans (Sn.put_qs s c), ?_, h2.2.2.2⟩
    have := h2.2.2.1
    rw [List.length_append] at this
    simp only [feed, List.length_cons]
    omega
theorem Rc.takeOut_len (r : Rc) (num : Int) : (r.takeOut num).length ≤ 2 ∧ U8s (r.takeOut num) := by
  unfold Rc.takeOut
  split
  · exact ⟨by simp, U8s.one (by decide) (by decide)⟩
  · split
    · exact ⟨by simp, fun x hx => by simp at hx; subst hx; omega⟩
    · exact ⟨by simp, U8s.one (by decide) (by decide)⟩
theorem Rc.putOut_len (r : Rc) (b : List Int) : (r.putOut b).length ≤ 2 ∧ U8s (r.putOut b) := by
  have hn : ([] : List Int).length ≤ 2 ∧ U8s [] := ⟨by simp, U8s.nil⟩
  unfold Rc.putOut
  split
  · exact hn
  · split
    · exact ⟨by simp, U8s.one (by decide) (by decide)⟩
    · split
      · exact hn
      · split
        · exact hn
        · split
          · exact hn
          · split
            · exact Rc.takeOut_len _ _
            · exact ⟨by simp, U8s.one (by decide) (by decide)⟩
theorem Rc.tickOut_len (r : Rc) : r.tickOut.length ≤ 2 ∧ U8s r.tickOut := by
  have hn : ([] : List Int).length ≤ 2 ∧ U8s [] := ⟨by simp, U8s.nil⟩
  unfold Rc.tickOut
  split
  · exact hn
  · split
    · exact hn
    · split
      · exact ⟨by simp, fun x hx => by simp at hx; subst hx; omega⟩
      · unfold Rc.askB
        split
        · exact ⟨by simp, U8s.one (by decide) (by decide)⟩
        · exact ⟨by simp, U8s.one (by decide) (by decide)⟩
theorem downOf_len (ns : List Nz) (k : Nat) {d : List Int} (hd : U8s d) : (downOf ns k d).length ≤ d.length ∧ U8s (downOf ns k d) := by
  unfold downOf
  cases ns[k]? with
  | none => exact ⟨Nat.le_refl _, hd⟩
  | some z => exact ⟨thru_len z d, thru_u8 hd⟩
/-- what holds at each tick -/
structure Lk.Fit (qs : List (List Int)) (x : Lk) : Prop where
  s : x.s.Fit
  q : x.s.qs = qs
  r : x.r.Fit x.ticks
  ul : x.up.length ≤ 2
  uu : U8s x.up
  sl : x.sent ≤ x.ticks
theorem Lk.Fit.fed {qs : List (List Int)} {x : Lk} (h : x.Fit qs) : x.fed.1.Fit ∧ x.fed.1.qs = qs ∧ x.fed.2.length ≤ 6000 ∧ U8s x.fed.2 := by
  have h1 := Sn.tickOut_len h.s
  have h2 := feed_fit (x.up ++ x.r.tickOut) x.s.tick x.s.tickOut h.s.tick h1.2
  have h3 := Rc.tickOut_len x.r
  have h4 := h.ul
  refine ⟨h2.1, h2.2.1.trans ((Sn.tick_qs x.s).trans h.q), ?_, h2.2.2.2⟩
  have h5 := h2.2.2.1
  rw [List.length_append] at h5
  show (feed (x.up ++ x.r.tickOut) x.s.tick x.s.tickOut).2.length ≤ 6000
  omega
theorem Lk.Fit.next {qs : List (List Int)} {x : Lk} (ns : List Nz) (h : x.Fit qs) : (x.next ns).Fit qs := by
  have h1 := h.fed
  have h2 := downOf_len ns x.sent h1.2.2.2
  unfold Lk.next
  split
  · exact ⟨h1.1, h1.2.1, h.r.tick.mono (by show x.ticks ≤ x.ticks + 1; omega), by simp, U8s.nil, by show x.sent ≤ x.ticks + 1; have := h.sl; omega⟩
  · exact ⟨h1.1, h1.2.1, h.r.tick.put (by omega) h2.2, (Rc.putOut_len _ _).1, (Rc.putOut_len _ _).2, by show x.sent + 1 ≤ x.ticks + 1; have := h.sl; omega⟩
end
end Go.Proofs.Ytcbkcggijejooaa.SL
