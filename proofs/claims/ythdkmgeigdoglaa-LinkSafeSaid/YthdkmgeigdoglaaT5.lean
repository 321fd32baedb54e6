import Derived.Test.YthdkmgeigdoglaaT4
/- A talk with noise behind the number: from tick to tick. No statement is proved here. -/
set_option linter.unusedVariables false
set_option linter.unusedSimpArgs false
set_option maxRecDepth 100000
namespace Go.Proofs.Ythdkmgeigdoglaa.SL
open Go Go.RowKit
section
theorem feed_over : ∀ (L : List Int) (s : Sn) (d : List Int), s.phase = 3 → (feed L s d).1.phase = 3 ∧ (feed L s d).1.err = s.err ∧ (feed L s d).2 = d
  | [], s, d, h => ⟨h, rfl, rfl⟩
  | c :: L, s, d, h => by
    have e1 : s.put c = s.can1 c := by unfold Sn.put; rw [if_pos h]
    have e2 : s.putOut c = [] := by unfold Sn.putOut; rw [if_pos h]
    have := feed_over L (s.put c) (d ++ s.putOut c) (by rw [e1]; exact h)
    rw [e1, e2, List.append_nil] at this
    simp only [feed]
    rw [e1, e2, List.append_nil]
    exact this
theorem at_put {s : Sn} {c : Int} (h : s.phase = 2 ∨ s.phase = 3) (h2 : (s.put c).phase = 2) : s.phase = 2 ∧ (s.put c).at_ = s.at_ := by
  rcases h with h | h
  · refine ⟨h, ?_⟩
    have m3 : ¬ s.phase = 3 := by omega
    have m0 : ¬ s.phase = 0 := by omega
    have n1 : ¬ s.phase = 1 := by omega
    have n01 : ¬ (s.phase = 0 ∧ (c = 21 ∨ c = 67 ∧ s.crc = true)) := fun h => m0 h.1
    unfold Sn.put
    rw [if_neg m3]
    rw [if_neg n01, if_neg m0, if_neg n1]
    by_cases hc : s.can = true ∧ c = 24
    · rw [if_pos hc]; rfl
    · rw [if_neg hc]
      by_cases h6 : c = 6
      · rw [if_pos h6]
        unfold Sn.next
        split
        · rfl
        · split <;> rfl
      · rw [if_neg h6]
        by_cases h21 : c = 21
        · rw [if_pos h21]
          unfold Sn.again
          split <;> rfl
        · rw [if_neg h21]
          rfl
  · have e1 : s.put c = s.can1 c := by unfold Sn.put; rw [if_pos h]
    rw [e1] at h2
    have : s.phase = 2 := h2
    omega
theorem fe_phase {n0 : Nat} {s : Sn} {d : List Int} (h : Fe n0 s d) : s.phase = 2 ∨ s.phase = 3 := h.elim (fun h => .inl h.1) (fun h => .inr h.1)
theorem fe_feed {n0 : Nat} : ∀ (L : List Int) (s : Sn) (d : List Int), s.Fit → (s.phase = 2 → s.qs.length ≤ s.at_) → Fe n0 s d → Fe n0 (feed L s d).1 (feed L s d).2 ∧ ((feed L s d).1.phase = 2 → (feed L s d).1.qs.length ≤ (feed L s d).1.at_)
  | [], s, d, _, ha, h => ⟨h, ha⟩
  | c :: L, s, d, hF, ha, h => by
    refine fe_feed L (s.put c) (d ++ s.putOut c) (hF.put c) (fun h2 => ?_) ?_
    · have h3 := at_put (fe_phase h) h2
      rw [h3.2, Sn.put_qs]
      exact ha h3.1
    · exact fe_put hF ha h
theorem fe_tick {n0 : Nat} {s : Sn} (hF : s.Fit) (h2 : s.phase = 2) (h : (n0 : Int) ≤ s.tries) : Fe n0 s.tick s.tickOut := by
  have n3 : ¬ s.phase = 3 := by omega
  have h9 := hF.tr.2
  unfold Sn.tick Sn.tickOut
  rw [if_neg n3, if_neg n3]
  by_cases hl : s.left - 1 > 0
  · rw [if_pos hl, if_pos hl]
    exact .inl ⟨h2, by simpa using h⟩
  · rw [if_neg hl, if_neg hl]
    have := fe_again (n0 := n0) (s := ({ s with left := s.left - 1 } : Sn)) (d := []) h2 (by simpa using h) h9
    rwa [List.nil_append] at this
theorem tick_at (s : Sn) : s.tick.at_ = s.at_ ∧ (s.tick.phase = 2 → s.phase = 2) := by
  unfold Sn.tick
  split
  · exact ⟨rfl, fun h => h⟩
  · split
    · exact ⟨rfl, fun h => h⟩
    · unfold Sn.again
      split
      · exact ⟨rfl, fun h => by have : (3 : Int) = 2 := h; omega⟩
      · exact ⟨rfl, fun h => h⟩
theorem inv_step {w : Int} {qs : List (List Int)} {crc : Bool} {ns : List Nz} {x : Lk} (hns : ∀ z ∈ ns, 3 ≤ z.at_ ∧ z.at_ ≤ 102) (hw : 2 ≤ w) (hqs : ∀ q ∈ qs, U8s q ∧ q.length = 128) (hF : x.Fit qs) (h : Inv w qs crc x) : Inv w qs crc (x.next ns) := by
  obtain ⟨hcl, hcrc, hrw, k, hk, hdat, hat⟩ := h
  obtain ⟨b1, b2, c1, c2, c3, c4⟩ := Rc.tick_buf x.r
  have c5 := Rc.tick_dat x.r
  have hout := (Rc.tickOut_len x.r)
  have hfd8 := hF.fed
  have hbk : ∀ (i : Nat) (q : List Int), qs[i]? = some q → ∀ s', InP1 w qs crc i s' → s'.bytes = blockL 1 (numI i) q crc := by
    intro i q hq s' hp
    have hl := (hqs q (List.mem_of_getElem? hq)).2
    rw [bytes_at (s := s') (q := q) (by rw [hp.qs, hp.at_]; exact hq), hl, hp.crc, hp.at_]
    rfl
  rcases hat with ⟨i, hi, hp, hb, hnum, hcase⟩ | ⟨h2, hat, hkn, hbt⟩ | ⟨h3, hb, he⟩
  · have hq : qs[i]? = some qs[i] := List.getElem?_eq_getElem hi
    rcases hcase with ⟨rfl, hup⟩ | ⟨rfl, hup, hsl, hrl, hov⟩
    · have hfd : Fd w qs crc k (blockL 1 (numI k) qs[k] crc) x.fed.1 x.fed.2 := by
        refine fd_feed (hbk k _ hq) _ _ _ (fun c hc => ?_) (fd_tick (hbk k _ hq) hp)
        rcases List.mem_append.1 hc with h | h
        · rcases hup with e | e
          · rw [e] at h; cases h
          · rw [e] at h; simp at h; omega
        · exact Rc.tick_no6 _ c h
      exact inv_block hns hi hq (hqs _ (List.getElem_mem hi)).2 (hqs _ (List.getElem_mem hi)).1 hfd (b2 hb) (c4.trans hnum) (c5.trans hdat) (c1.trans hcl) (c2.trans hcrc) (c3.trans hrw)
    · have hw1 : w - 1 > 0 := by omega
      have ho : x.r.tickOut = [] := by
        unfold Rc.tickOut
        rw [if_neg (by rw [hov]; decide), hrl, if_pos hw1]
      have hpp := hp.ph
      have n3 : ¬ x.s.phase = 3 := by omega
      have n0 : ¬ x.s.phase = 0 := by omega
      have t1 : x.s.tick = { x.s with left := x.s.left - 1 } := by
        unfold Sn.tick
        rw [if_neg n3, if_pos (by rw [hsl]; exact hw1)]
      have t2 : x.s.tickOut = [] := by
        unfold Sn.tickOut
        rw [if_neg n3, if_pos (by rw [hsl]; exact hw1)]
      have hfed : x.fed = (x.s.tick.put 6, x.s.tick.putOut 6) := by
        unfold Lk.fed
        rw [ho, hup, t2]
        simp [feed]
      have m3 : ¬ x.s.tick.phase = 3 := by rw [t1]; exact n3
      have m0 : ¬ x.s.tick.phase = 0 := by rw [t1]; exact n0
      have m1 : x.s.tick.phase = 1 := by rw [t1]; exact hpp
      have mc : ¬ (x.s.tick.can = true ∧ (6 : Int) = 24) := fun h => absurd h.2 (by decide)
      have m01 : ¬ (x.s.tick.phase = 0 ∧ ((6 : Int) = 21 ∨ (6 : Int) = 67 ∧ x.s.tick.crc = true)) := fun h => m0 h.1
      have p1 : x.s.tick.put 6 = ({ x.s.tick.can1 6 with at_ := x.s.tick.at_ + 1 } : Sn).next := by
        unfold Sn.put
        rw [if_neg m3, if_neg mc, if_neg m01, if_neg m0, if_pos rfl, if_pos m1]
      have p2 : x.s.tick.putOut 6 = ({ x.s.tick.can1 6 with at_ := x.s.tick.at_ + 1 } : Sn).next.now := by
        unfold Sn.putOut
        rw [if_neg m3, if_neg mc, if_neg m01, if_neg m0, if_pos rfl, if_pos m1]
      have hat1 : ({ x.s.tick.can1 6 with at_ := x.s.tick.at_ + 1 } : Sn).at_ = i + 1 := by
        show x.s.tick.at_ + 1 = i + 1
        rw [(tick_at x.s).1, hp.at_]
      have hqs1 : ({ x.s.tick.can1 6 with at_ := x.s.tick.at_ + 1 } : Sn).qs = qs := (Sn.tick_qs x.s).trans hp.qs
      by_cases hi1 : i + 1 < qs.length
      · have hq1 : qs[i + 1]? = some qs[i + 1] := List.getElem?_eq_getElem hi1
        have hn : ({ x.s.tick.can1 6 with at_ := x.s.tick.at_ + 1 } : Sn).next = { ({ x.s.tick.can1 6 with at_ := x.s.tick.at_ + 1 } : Sn) with tries := 1, left := ({ x.s.tick.can1 6 with at_ := x.s.tick.at_ + 1 } : Sn).cw, phase := 1 } := by
          unfold Sn.next
          rw [if_pos (by rw [hat1, hqs1]; exact hi1)]
        have hin : InP1 w qs crc (i + 1) (x.s.tick.put 6) := by
          rw [p1, hn]
          exact ⟨by show x.s.tick.cw = w; rw [t1]; exact hp.cw, hqs1, by show x.s.tick.close = true; rw [t1]; exact hp.cl, by show x.s.tick.crc = crc; rw [t1]; exact hp.crc, rfl, hat1, by show x.s.tick.err = 0; rw [t1]; exact hp.er⟩
        have hlf : (x.s.tick.put 6).left = w := by
          rw [p1, hn]
          show x.s.tick.cw = w
          rw [t1]
          exact hp.cw
        have hout1 : x.s.tick.putOut 6 = blockL 1 (numI (i + 1)) qs[i + 1] crc := by
          rw [p2, ← p1]
          unfold Sn.now
          rw [if_pos hin.ph]
          exact hbk (i + 1) _ hq1 _ hin
        refine inv_block hns hi1 hq1 (hqs _ (List.getElem_mem hi1)).2 (hqs _ (List.getElem_mem hi1)).1 ?_ (b2 hb) (c4.trans hnum) (c5.trans hdat) (c1.trans hcl) (c2.trans hcrc) (c3.trans hrw)
        rw [hfed]
        exact .inl ⟨hin, .inr ⟨⟨[], by rw [List.append_nil]; exact hout1⟩, hlf⟩⟩
      · have hn : ({ x.s.tick.can1 6 with at_ := x.s.tick.at_ + 1 } : Sn).next = { ({ x.s.tick.can1 6 with at_ := x.s.tick.at_ + 1 } : Sn) with tries := 1, left := ({ x.s.tick.can1 6 with at_ := x.s.tick.at_ + 1 } : Sn).cw, phase := 2 } := by
          unfold Sn.next
          rw [if_neg (by rw [hat1, hqs1]; exact hi1), if_pos ⟨by show x.s.tick.close = true; rw [t1]; exact hp.cl, by show x.s.tick.phase ≠ 2; omega⟩]
        have hd : x.fed.2 = [4] := by
          rw [hfed]
          show x.s.tick.putOut 6 = [4]
          rw [p2, hn]
          rfl
        obtain ⟨e1, e2, e3⟩ := next_some (ns := ns) (x := x) (by rw [hd]; decide)
        have hlen := (downOf_len ns x.sent (d := x.fed.2) hfd8.2.2.2).1
        have h1 : x.fed.2.length = 1 := by rw [hd]; rfl
        have hb' := b2 hb
        have hf := Rc.put_few (r := x.r.tick) (d := downOf ns x.sent x.fed.2) (by rw [hb']; simp only [List.length_nil]; omega)
        rw [hb'] at hf
        simp only [List.length_nil] at hf
        have hkp := Rc.put_keep x.r.tick (downOf ns x.sent x.fed.2)
        unfold Inv
        rw [e1, e2, e3]
        refine ⟨hkp.1.trans (c1.trans hcl), hkp.2.1.trans (c2.trans hcrc), hkp.2.2.trans (c3.trans hrw), i + 1, hk, hf.1.trans (c5.trans hdat), .inr (.inl ⟨?_, ?_, by omega, ?_⟩)⟩
        · rw [hfed]
          show (x.s.tick.put 6).phase = 2
          rw [p1, hn]
        · rw [hfed]
          show qs.length ≤ (x.s.tick.put 6).at_
          rw [p1, hn]
          show qs.length ≤ x.s.tick.at_ + 1
          have : x.s.tick.at_ + 1 = i + 1 := hat1
          omega
        · have htr : x.fed.1.tries = 1 := by
            rw [hfed]
            show (x.s.tick.put 6).tries = 1
            rw [p1, hn]
          rw [htr]
          have := hf.2
          omega
  · have hft := hF.s.tick
    have hfe := fe_tick (n0 := x.r.tick.buf.length) hF.s h2 (by omega)
    have hq0 : x.s.tick.qs = qs := (Sn.tick_qs x.s).trans hF.q
    obtain ⟨hfe2, ha2⟩ := fe_feed (x.up ++ x.r.tickOut) x.s.tick x.s.tickOut hft (fun _ => by rw [(tick_at x.s).1, hq0]; exact hat) hfe
    have hfe3 : Fe x.r.tick.buf.length x.fed.1 x.fed.2 := hfe2
    have ha3 : x.fed.1.phase = 2 → x.fed.1.qs.length ≤ x.fed.1.at_ := ha2
    have hqf := hfd8.2.1
    rw [hqf] at ha3
    have h9 := hfd8.1.tr.2
    have hfin : ∀ (r : Rc) (u : List Int), r.buf.length ≤ x.r.tick.buf.length + x.fed.2.length → At w qs crc x.fed.1 r u k := by
      intro r u hr
      rcases hfe3 with ⟨f1, f2⟩ | ⟨f1, f2⟩
      · exact .inr (.inl ⟨f1, ha3 f1, hkn, by omega⟩)
      · exact .inr (.inr ⟨f1, by omega, fun _ => hkn⟩)
    by_cases h0 : x.fed.2.length = 0
    · obtain ⟨e1, e2, e3⟩ := next_zero (ns := ns) h0
      unfold Inv
      rw [e1, e2, e3]
      exact ⟨c1.trans hcl, c2.trans hcrc, c3.trans hrw, k, hk, c5.trans hdat, hfin _ _ (by omega)⟩
    · obtain ⟨e1, e2, e3⟩ := next_some (ns := ns) h0
      have hlen := (downOf_len ns x.sent (d := x.fed.2) hfd8.2.2.2).1
      have hsm : x.r.tick.buf.length + x.fed.2.length ≤ 11 := by
        rcases hfe3 with ⟨f1, f2⟩ | ⟨f1, f2⟩ <;> omega
      have hf := Rc.put_few (r := x.r.tick) (d := downOf ns x.sent x.fed.2) (by omega)
      have hkp := Rc.put_keep x.r.tick (downOf ns x.sent x.fed.2)
      unfold Inv
      rw [e1, e2, e3]
      exact ⟨hkp.1.trans (c1.trans hcl), hkp.2.1.trans (c2.trans hcrc), hkp.2.2.trans (c3.trans hrw), k, hk, hf.1.trans (c5.trans hdat), hfin _ _ (by omega)⟩
  · have t1 : x.s.tick = x.s := by unfold Sn.tick; rw [if_pos h3]
    have t2 : x.s.tickOut = [] := by unfold Sn.tickOut; rw [if_pos h3]
    have hfo := feed_over (x.up ++ x.r.tickOut) x.s [] h3
    have hfed : x.fed = feed (x.up ++ x.r.tickOut) x.s [] := by unfold Lk.fed; rw [t1, t2]
    obtain ⟨e1, e2, e3⟩ := next_zero (ns := ns) (x := x) (by rw [hfed, hfo.2.2]; rfl)
    unfold Inv
    rw [e1, e2, e3]
    refine ⟨c1.trans hcl, c2.trans hcrc, c3.trans hrw, k, hk, c5.trans hdat, .inr (.inr ⟨?_, by omega, fun h => ?_⟩)⟩
    · rw [hfed]; exact hfo.1
    · rw [hfed] at h; exact he (hfo.2.1 ▸ h)
end
end Go.Proofs.Ythdkmgeigdoglaa.SL
