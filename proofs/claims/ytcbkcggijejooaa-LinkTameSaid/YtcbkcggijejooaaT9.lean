import Derived.Test.YtcbkcggijejooaaT8
import Derived.Test.YtcbkcggijejooaaL5
/- A talk with tame noise: it ends well, in time. No statement is proved here. -/
set_option linter.unusedVariables false
set_option linter.unusedSimpArgs false
set_option maxRecDepth 100000
namespace Go.Proofs.Ytcbkcggijejooaa.SL
open Go Go.RowKit
section
theorem msg_u8 {qs : List (List Int)} {idx : Nat} (hq : ∀ q ∈ qs, U8s q ∧ (q.length = 128 ∨ q.length = 1024)) : U8s (msg qs idx) ∧ ((msg qs idx).length = 1 ∨ 133 ≤ (msg qs idx).length) := by
  by_cases h : idx < qs.length
  · have hqi := hq _ (List.getElem_mem h)
    rw [msg_block h]
    refine ⟨?_, .inr ?_⟩
    · unfold blockL
      refine U8s.append (U8s.append (fun x hx => ?_) hqi.1) (trailL_u8 _ _)
      simp only [List.mem_cons, List.not_mem_nil, or_false] at hx
      have hld : leadOf qs[idx].length = 2 ∨ leadOf qs[idx].length = 1 := by unfold leadOf; split <;> simp
      rcases hx with rfl | rfl | rfl <;> omega
    · rw [blockL_len', trailL_len]
      simp
      omega
  · have e : msg qs idx = [4] := by
      unfold msg
      rw [List.getElem?_eq_none (by omega)]
    rw [e]
    exact ⟨U8s.one (by decide) (by decide), .inl rfl⟩
theorem msg_ne {qs : List (List Int)} {idx : Nat} (hq : ∀ q ∈ qs, U8s q ∧ (q.length = 128 ∨ q.length = 1024)) : (msg qs idx).length ≠ 0 := by
  have := (msg_u8 (idx := idx) hq).2
  omega
/-- where both wait -/
def Wt (n idx t : Nat) (l m tr : Int) (buf : List Int) : Prop :=
  (l = 3 ∧ m = 2 ∧ (buf = [] ∨ idx = n) ∧ (idx = 0 → 10 ≤ tr + 2 * t)) ∨ (l = 2 ∧ m = 1 ∧ (idx = 0 → 10 ≤ tr + 2 * t)) ∨ (l = 3 ∧ m = 1 ∧ buf = [] ∧ (idx = 0 → 10 ≤ tr + 2 * t))
  ∨ (idx = 0 ∧ buf = [] ∧ 9 ≤ tr + 2 * t ∧ ((l = 1 ∧ m = 2) ∨ (l = 2 ∧ m = 2) ∨ (l = 1 ∧ m = 1)))
def J (T : Nat) (qs : List (List Int)) (ns : List Nz) (p : Nat) (x : Lk) : Prop :=
  ∃ idx t c : Nat, ∃ tr : Int, idx ≤ qs.length ∧ c < T ∧ TameOk T c (ns.drop x.sent) ∧
    ((∃ l m : Int, ∃ buf, x.s = sx T qs idx t l ∧ x.r = rx qs idx m tr buf ∧ x.up = [] ∧ t ≤ c ∧ Wt qs.length idx t l m tr buf ∧ p = (qs.length + 1 - idx) * 20 + (T - t) * 4 + l.toNat)
    ∨ (x.s = sx T qs idx t 3 ∧ x.r = rx qs idx 2 tr [] ∧ x.up = [21] ∧ t ≤ c ∧ (idx = 0 → 10 ≤ tr + 2 * t) ∧ p = (qs.length + 1 - idx) * 20 + (T - t) * 4 + 3)
    ∨ (idx < qs.length ∧ x.s = sx T qs idx t 3 ∧ x.r = rx qs (idx + 1) 2 tr [] ∧ x.up = [6] ∧ p = (qs.length - idx) * 20 + 19)
    ∨ (idx = qs.length ∧ x.s = sx T qs qs.length t 3 ∧ x.r = { rx qs qs.length 2 tr [4] with over := true } ∧ x.up = [6] ∧ p = 10))
/-- a send -/
theorem send {T : Nat} {qs : List (List Int)} {ns : List Nz} {x : Lk} {idx t c : Nat} {m tr : Int} (hq : ∀ q ∈ qs, U8s q ∧ (q.length = 128 ∨ q.length = 1024)) (hi : idx ≤ qs.length) (hm : m = 1 ∨ m = 2)
    (hf : x.fed = (sx T qs idx t 3, msg qs idx)) (hr : x.r.tick = rx qs idx m tr []) (hT : TameOk T c (ns.drop x.sent)) (hc : c < T) (ht : t ≤ c + 1) (htr : idx = 0 → 10 ≤ tr + 2 * t) :
    ∃ p, p ≤ (qs.length + 1 - idx) * 20 + (T - t) * 4 + 3 ∧ J T qs ns p (x.next ns) := by
  have hne := msg_ne (idx := idx) hq
  have hmu := msg_u8 (idx := idx) hq
  rcases fate hT hc hmu.1 hmu.2 with ⟨hd, c', hc', hT'⟩ | ⟨hd, hc', hT'⟩
  · by_cases hin : idx < qs.length
    · have hp := rx_take (m := m) (tr := tr) hq hin
      rw [← hr] at hp
      rw [next_ne hf hne hd hp.1 hp.2]
      exact ⟨_, by omega, idx, t, c', tr, hi, hc', hT', .inr (.inr (.inl ⟨hin, rfl, rfl, rfl, rfl⟩))⟩
    · obtain rfl : idx = qs.length := by omega
      have hp := rx_eot (qs := qs) (m := m) (tr := tr)
      rw [← hr, ← msg_eot (qs := qs)] at hp
      rw [next_ne hf hne hd hp.1 hp.2]
      exact ⟨10, by omega, qs.length, t, c', tr, hi, hc', hT', .inr (.inr (.inr ⟨rfl, rfl, by rw [msg_eot], rfl, rfl⟩))⟩
  · obtain ⟨d', hd'⟩ : ∃ d', downOf ns x.sent (msg qs idx) = d' := ⟨_, rfl⟩
    rw [hd'] at hd
    have hidx : idx ≤ qs.length := hi
    cases hd with
    | lost =>
      have hp : x.r.tick.put [] = rx qs idx m tr [] ∧ x.r.tick.putOut [] = [] := by
        rw [hr]
        constructor
        · unfold Rc.put
          exact if_pos (Or.inr rfl)
        · unfold Rc.putOut
          exact if_pos (Or.inr rfl)
      rw [next_ne hf hne hd' hp.1 hp.2]
      refine ⟨_, Nat.le_refl _, idx, t, c + 1, tr, hi, hc', hT', .inl ⟨3, m, [], rfl, rfl, rfl, ht, ?_, rfl⟩⟩
      rcases hm with rfl | rfl
      · exact .inr (.inr (.inl ⟨rfl, rfl, rfl, htr⟩))
      · exact .inl ⟨rfl, rfl, .inl rfl, htr⟩
    | turned k v hk hk1 h0 h1 hv =>
      by_cases hin : idx < qs.length
      · have hl1 : (msg qs idx).length ≠ 1 := by
          rw [msg_block hin, blockL_len']
          omega
        have hp := rx_turned (m := m) (tr := tr) hq hin hk (hk1 hl1) h0 h1 hv
        rw [← hr] at hp
        rw [next_ne hf hne hd' hp.1 hp.2]
        exact ⟨_, Nat.le_refl _, idx, t, c + 1, tr, hi, hc', hT', .inr (.inl ⟨rfl, rfl, rfl, ht, htr, rfl⟩)⟩
      · obtain rfl : idx = qs.length := by omega
        have hk0 : k = 0 := by rw [msg_eot] at hk; simpa using hk
        subst hk0
        have hv4 : v ≠ 4 := fun e => hv (by rw [e, msg_eot]; rfl)
        have hs : (msg qs qs.length).set 0 v = [v] := by rw [msg_eot]; rfl
        rw [hs] at hd'
        rcases rx_byte (qs := qs) (m := m) (tr := tr) hv4 with hp | hp
        · rw [← hr] at hp
          rw [next_ne hf hne hd' hp.1 hp.2]
          exact ⟨_, Nat.le_refl _, qs.length, t, c + 1, tr, hi, hc', hT', .inl ⟨3, 2, [v], rfl, rfl, rfl, ht, .inl ⟨rfl, rfl, .inr rfl, htr⟩, rfl⟩⟩
        · rw [← hr] at hp
          rw [next_ne hf hne hd' hp.1 hp.2]
          exact ⟨_, Nat.le_refl _, qs.length, t, c + 1, tr, hi, hc', hT', .inr (.inl ⟨rfl, rfl, rfl, ht, htr, rfl⟩)⟩
theorem fed_eq {x : Lk} {s : Sn} {d u ro : List Int} (hu : x.up = u) (hr : x.r.tickOut = ro) (hs : x.s.tick = s ∧ x.s.tickOut = d) : x.fed = feed (u ++ ro) s d := by
  unfold Lk.fed
  rw [hu, hr, hs.1, hs.2]
/-- a tick: on, by less; or both are over -/
theorem step {T : Nat} {qs : List (List Int)} {ns : List Nz} {x : Lk} {p : Nat} (hT4 : T ≤ 4) (hq : ∀ q ∈ qs, U8s q ∧ (q.length = 128 ∨ q.length = 1024)) (h : J T qs ns p x) :
    (∃ p', p' < p ∧ J T qs ns p' (x.next ns)) ∨ ((x.next ns).s.phase = 3 ∧ (x.next ns).s.err = 0 ∧ (x.next ns).r.over = true ∧ (x.next ns).r.err = 0 ∧ (x.next ns).r.dat = qs.flatten) := by
  obtain ⟨idx, t, c, tr, hi, hc, hTm, h | h | h | h⟩ := h
  · obtain ⟨l, m, buf, e1, e2, e3, htc, hw, hp⟩ := h
    left
    rcases hw with ⟨rfl, rfl, hb, htr⟩ | ⟨rfl, rfl, htr⟩ | ⟨rfl, rfl, rfl, htr⟩ | ⟨rfl, rfl, htr, hw⟩
    · have hr := rx_wait (qs := qs) (idx := idx) (tr := tr) (buf := buf)
      have hs := sx_wait (T := T) (t := t) (idx := idx) (qs := qs) (l := 3) (by decide)
      rw [← e2] at hr
      rw [← e1] at hs
      rw [next_eq (fed_eq e3 hr.2 hs)]
      refine ⟨_, ?_, idx, t, c, tr, hi, hc, hTm, .inl ⟨2, 1, buf, rfl, hr.1, rfl, htc, .inr (.inl ⟨rfl, rfl, htr⟩), rfl⟩⟩
      subst hp
      show _ + 2 < _ + 3
      omega
    · have hs := sx_wait (T := T) (t := t) (idx := idx) (qs := qs) (l := 2) (by decide)
      rw [← e1] at hs
      by_cases h0 : 0 < idx
      · have hr := rx_nak (qs := qs) (tr := tr) (buf := buf) h0
        rw [← e2] at hr
        have hn := sx_nak (T := T) (t := t) (idx := idx) (qs := qs) (l := 2 - 1) (by omega)
        have hf : x.fed = (sx T qs idx (t + 1) 3, msg qs idx) := by
          rw [fed_eq e3 hr.2 hs]
          show (_, [] ++ _) = _
          rw [hn.1, hn.2]
          rfl
        obtain ⟨p', hp', hj⟩ := send hq hi (.inr rfl) hf hr.1 hTm hc (by omega) (fun e => by omega)
        refine ⟨p', ?_, hj⟩
        have : (2 : Int).toNat = 2 := rfl
        omega
      · obtain rfl : idx = 0 := by omega
        have h1 := htr rfl
        have hr := rx_go (qs := qs) (tr := tr) (buf := buf) (by omega)
        rw [← e2] at hr
        have hg := sx_go (T := T) (t := t) (idx := 0) (qs := qs) (l := 2 - 1)
        have hf : x.fed = (sx T qs 0 t 1, []) := by
          rw [fed_eq e3 hr.2 hs]
          show (_, [] ++ _) = _
          rw [hg.1, hg.2]
          rfl
        rw [next_eq hf]
        refine ⟨_, ?_, 0, t, c, tr - 1, hi, hc, hTm, .inl ⟨1, 2, [], rfl, hr.1, rfl, htc, .inr (.inr (.inr ⟨rfl, rfl, by omega, .inl ⟨rfl, rfl⟩⟩)), rfl⟩⟩
        subst hp
        show _ + 1 < _ + 2
        omega
    · have hs := sx_wait (T := T) (t := t) (idx := idx) (qs := qs) (l := 3) (by decide)
      rw [← e1] at hs
      by_cases h0 : 0 < idx
      · have hr := rx_nak (qs := qs) (tr := tr) (buf := []) h0
        rw [← e2] at hr
        have hn := sx_nak (T := T) (t := t) (idx := idx) (qs := qs) (l := 3 - 1) (by omega)
        have hf : x.fed = (sx T qs idx (t + 1) 3, msg qs idx) := by
          rw [fed_eq e3 hr.2 hs]
          show (_, [] ++ _) = _
          rw [hn.1, hn.2]
          rfl
        obtain ⟨p', hp', hj⟩ := send hq hi (.inr rfl) hf hr.1 hTm hc (by omega) (fun e => by omega)
        refine ⟨p', ?_, hj⟩
        have : (3 : Int).toNat = 3 := rfl
        omega
      · obtain rfl : idx = 0 := by omega
        have h1 := htr rfl
        have hr := rx_go (qs := qs) (tr := tr) (buf := []) (by omega)
        rw [← e2] at hr
        have hg := sx_go (T := T) (t := t) (idx := 0) (qs := qs) (l := 3 - 1)
        have hf : x.fed = (sx T qs 0 t 2, []) := by
          rw [fed_eq e3 hr.2 hs]
          show (_, [] ++ _) = _
          rw [hg.1, hg.2]
          rfl
        rw [next_eq hf]
        refine ⟨_, ?_, 0, t, c, tr - 1, hi, hc, hTm, .inl ⟨2, 2, [], rfl, hr.1, rfl, htc, .inr (.inr (.inr ⟨rfl, rfl, by omega, .inr (.inl ⟨rfl, rfl⟩)⟩)), rfl⟩⟩
        subst hp
        show _ + 2 < _ + 3
        omega
    · rcases hw with ⟨rfl, rfl⟩ | ⟨rfl, rfl⟩ | ⟨rfl, rfl⟩
      · have hr := rx_wait (qs := qs) (idx := 0) (tr := tr) (buf := [])
        rw [← e2] at hr
        have hs := sx_out (T := T) (t := t) (idx := 0) (qs := qs) (by omega)
        rw [← e1] at hs
        have hf : x.fed = (sx T qs 0 (t + 1) 3, msg qs 0) := fed_eq e3 hr.2 hs
        obtain ⟨p', hp', hj⟩ := send hq hi (.inl rfl) hf hr.1 hTm hc (by omega) (fun e => by push_cast; omega)
        refine ⟨p', ?_, hj⟩
        have : (1 : Int).toNat = 1 := rfl
        omega
      · have hr := rx_wait (qs := qs) (idx := 0) (tr := tr) (buf := [])
        rw [← e2] at hr
        have hs := sx_wait (T := T) (t := t) (idx := 0) (qs := qs) (l := 2) (by decide)
        rw [← e1] at hs
        rw [next_eq (fed_eq e3 hr.2 hs)]
        refine ⟨_, ?_, 0, t, c, tr, hi, hc, hTm, .inl ⟨1, 1, [], rfl, hr.1, rfl, htc, .inr (.inr (.inr ⟨rfl, rfl, htr, .inr (.inr ⟨rfl, rfl⟩)⟩)), rfl⟩⟩
        subst hp
        show _ + 1 < _ + 2
        omega
      · have hr := rx_go (qs := qs) (tr := tr) (buf := []) (by omega)
        rw [← e2] at hr
        have hs := sx_out (T := T) (t := t) (idx := 0) (qs := qs) (by omega)
        rw [← e1] at hs
        have hg := sx_go (T := T) (t := t + 1) (idx := 0) (qs := qs) (l := 3)
        have hf : x.fed = (sx T qs 0 (t + 1) 3, msg qs 0) := by
          rw [fed_eq e3 hr.2 hs]
          show (_, _ ++ _) = _
          rw [hg.1, hg.2, List.append_nil]
        obtain ⟨p', hp', hj⟩ := send hq hi (.inr rfl) hf hr.1 hTm hc (by omega) (fun e => by push_cast; omega)
        refine ⟨p', ?_, hj⟩
        have : (1 : Int).toNat = 1 := rfl
        omega
  · obtain ⟨e1, e2, e3, htc, htr, hp⟩ := h
    left
    have hr := rx_wait (qs := qs) (idx := idx) (tr := tr) (buf := [])
    rw [← e2] at hr
    have hs := sx_wait (T := T) (t := t) (idx := idx) (qs := qs) (l := 3) (by decide)
    rw [← e1] at hs
    have hn := sx_nak (T := T) (t := t) (idx := idx) (qs := qs) (l := 3 - 1) (by omega)
    have hf : x.fed = (sx T qs idx (t + 1) 3, msg qs idx) := by
      rw [fed_eq e3 hr.2 hs]
      show (_, [] ++ _) = _
      rw [hn.1, hn.2]
      rfl
    obtain ⟨p', hp', hj⟩ := send hq hi (.inl rfl) hf hr.1 hTm hc (by omega) (fun e => by have := htr e; push_cast; omega)
    exact ⟨p', by omega, hj⟩
  · obtain ⟨hin, e1, e2, e3, hp⟩ := h
    left
    have hr := rx_wait (qs := qs) (idx := idx + 1) (tr := tr) (buf := [])
    rw [← e2] at hr
    have hs := sx_wait (T := T) (t := t) (idx := idx) (qs := qs) (l := 3) (by decide)
    rw [← e1] at hs
    have hn := sx_ack (T := T) (t := t) (qs := qs) (l := 3 - 1) hin
    have hf : x.fed = (sx T qs (idx + 1) 1 3, msg qs (idx + 1)) := by
      rw [fed_eq e3 hr.2 hs]
      show (_, [] ++ _) = _
      rw [hn.1, hn.2]
      rfl
    obtain ⟨p', hp', hj⟩ := send hq (by omega) (.inl rfl) hf hr.1 hTm hc (by omega) (fun e => by omega)
    exact ⟨p', by omega, hj⟩
  · obtain ⟨hin, e1, e2, e3, hp⟩ := h
    right
    have hr : x.r.tick = x.r ∧ x.r.tickOut = [] := by
      rw [e2]
      constructor
      · unfold Rc.tick
        exact if_pos rfl
      · unfold Rc.tickOut
        exact if_pos rfl
    have hs := sx_wait (T := T) (t := t) (idx := qs.length) (qs := qs) (l := 3) (by decide)
    rw [← e1] at hs
    have hn := sx_end (T := T) (t := t) (qs := qs) (l := 3 - 1)
    have hf : x.fed = ((sx T qs qs.length t (3 - 1)).put 6, []) := by
      rw [fed_eq e3 hr.2 hs]
      show (_, [] ++ _) = _
      rw [hn.2.2]
      rfl
    rw [next_eq hf]
    refine ⟨hn.1, hn.2.1, ?_, ?_, ?_⟩
    · show x.r.tick.over = true
      rw [hr.1, e2]
    · show x.r.tick.err = 0
      rw [hr.1, e2]
      rfl
    · show x.r.tick.dat = _
      rw [hr.1, e2]
      show (qs.take qs.length).flatten = _
      rw [List.take_length]
theorem J_isOver {T : Nat} {qs : List (List Int)} {ns : List Nz} {x : Lk} {p : Nat} (h : J T qs ns p x) : x.isOver = false := by
  have h3 : ∀ (idx t : Nat) (l : Int), x.s = sx T qs idx t l → x.isOver = false := fun idx t l e => by
    unfold Lk.isOver
    rw [e]
    have hp := sx_ph (T := T) (t := t) (idx := idx) (qs := qs) (l := l)
    rcases hp with hp | hp <;> rw [hp] <;> rfl
  obtain ⟨idx, t, c, tr, hi, hc, hTm, ⟨l, m, buf, e1, _⟩ | ⟨e1, _⟩ | ⟨_, e1, _⟩ | ⟨_, e1, _⟩⟩ := h
  · exact h3 _ _ _ e1
  · exact h3 _ _ _ e1
  · exact h3 _ _ _ e1
  · exact h3 _ _ _ e1
theorem J_run {T : Nat} {qs : List (List Int)} {ns : List Nz} (hT4 : T ≤ 4) (hq : ∀ q ∈ qs, U8s q ∧ (q.length = 128 ∨ q.length = 1024)) : ∀ (n p : Nat) (x : Lk), J T qs ns p x → p + 1 < n → (x.run ns n).ov = true ∧ (x.run ns n).e1 = 0 ∧ (x.run ns n).e2 = 0 ∧ (x.run ns n).r.dat = qs.flatten
  | 0, p, x, h, hn => by omega
  | n + 1, p, x, h, hn => by
    rw [run_step (J_isOver h)]
    rcases step hT4 hq h with ⟨p', hp', hj⟩ | ⟨a1, a2, a3, a4, a5⟩
    · exact J_run hT4 hq n p' _ hj (by omega)
    · obtain ⟨n, rfl⟩ : ∃ k, n = k + 1 := ⟨n - 1, by omega⟩
      have ho : (x.next ns).isOver = true := by unfold Lk.isOver; rw [a1, a3]; rfl
      rw [run_over ho]
      exact ⟨rfl, a2, a4, a5⟩
/-- a talk with tame noise -/
theorem tame_run {T : Nat} {qs : List (List Int)} {ns : List Nz} (hT2 : 2 ≤ T) (hT4 : T ≤ 4) (hm : qs.length ≤ 4) (hq : ∀ q ∈ qs, U8s q ∧ (q.length = 128 ∨ q.length = 1024)) (hns : TameOk T 0 ns) (fx : Lk) (he : (Lk.start (Sn.of T 3 qs true true) (Rc.of 9 2 1 true true 1)).run ns 400 = fx) :
    fx.ov = true ∧ fx.e1 = 0 ∧ fx.e2 = 0 ∧ fx.r.dat = qs.flatten := by
  have hS : Sn.of T 3 qs true true = ⟨T, 3, qs, true, true, 0, 0, 1, 3, false, 0⟩ := by
    unfold Sn.of
    rw [show max 1 (min (T : Int) 9) = T by omega, show max 1 (min (3 : Int) 99) = 3 by decide]
  have hR : Rc.of 9 2 1 true true 1 = ⟨true, 2, 9, 1, 1, false, true, [], [], 0, 1, false, 0⟩ := rfl
  rw [hS, hR] at he
  have hr : (Lk.start (⟨T, 3, qs, true, true, 0, 0, 1, 3, false, 0⟩ : Sn) (⟨true, 2, 9, 1, 1, false, true, [], [], 0, 1, false, 0⟩ : Rc)).r.tick = rx qs 0 2 8 [] := rfl
  have hf : (Lk.start (⟨T, 3, qs, true, true, 0, 0, 1, 3, false, 0⟩ : Sn) (⟨true, 2, 9, 1, 1, false, true, [], [], 0, 1, false, 0⟩ : Rc)).fed = (sx T qs 0 1 3, msg qs 0) := by
    have e1 : (Lk.start (⟨T, 3, qs, true, true, 0, 0, 1, 3, false, 0⟩ : Sn) (⟨true, 2, 9, 1, 1, false, true, [], [], 0, 1, false, 0⟩ : Rc)).fed = (({ (⟨T, 3, qs, true, true, 0, 0, 1, 2, false, 0⟩ : Sn) with can := false } : Sn).next, ({ (⟨T, 3, qs, true, true, 0, 0, 1, 2, false, 0⟩ : Sn) with can := false } : Sn).next.now) := rfl
    have e2 : ({ (⟨T, 3, qs, true, true, 0, 0, 1, 2, false, 0⟩ : Sn) with can := false } : Sn).next = sx T qs 0 1 3 := by
      unfold Sn.next sx
      by_cases h0 : 0 < qs.length
      · simp [h0]
      · simp [h0]
    rw [e1, e2, sx_now]
  obtain ⟨p, hp, hj⟩ := send hq (Nat.zero_le _) (.inr rfl) hf hr (c := 0) hns (by omega) (by omega) (fun _ => by decide)
  subst he
  rw [show 400 = 399 + 1 from rfl, run_step rfl]
  exact J_run hT4 hq 399 p _ hj (by omega)
end
end Go.Proofs.Ytcbkcggijejooaa.SL
