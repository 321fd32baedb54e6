import Derived.Test.YtcbkcggijejooaaT1
/- A talk with tame noise: plain. No statement is proved here. -/
set_option linter.unusedVariables false
set_option linter.unusedSimpArgs false
set_option maxRecDepth 100000
namespace Go.Proofs.Ytcbkcggijejooaa.SL
open Go Go.RowKit
section
/-- noise that turns or loses, fewer times one behind the other than T: c of them have just been -/
def Nz.bad (z : Nz) : Prop := z.lost = true ∨ z.by_ ≠ 0
def TameOk (T : Nat) : Nat → List Nz → Prop
  | c, [] => True
  | c, z :: zs => (1 ≤ z.at_ ∧ z.at_ ≤ 100 ∧ z.bad ∧ c + 1 < T ∧ TameOk T (c + 1) zs) ∨ (z.lost = false ∧ z.by_ = 0 ∧ TameOk T 0 zs)
theorem nzK_small {a : Int} {n : Nat} (h1 : 1 ≤ a) (h2 : a ≤ 100) (hn : 133 ≤ n) : nzK a n = a.toNat := by
  unfold nzK
  have e1 : Int.tmod a (n : Int) = a := Int.tmod_eq_of_lt (by omega) (by omega)
  rw [e1, Int.tmod_eq_emod_of_nonneg (by omega), Int.add_emod_right, Int.emod_eq_of_lt (by omega) (by omega)]
/-- what becomes of a send -/
inductive Fate (d : List Int) : List Int → Prop where
  | lost : Fate d []
  | turned (k : Nat) (v : Int) (hk : k < d.length) (hk1 : d.length ≠ 1 → 1 ≤ k) (h0 : 0 ≤ v) (h1 : v ≤ 255) (hv : v ≠ rd d k) : Fate d (d.set k v)
theorem fate {T c : Nat} {ns : List Nz} {i : Nat} {d : List Int} (h : TameOk T c (ns.drop i)) (hc : c < T) (hu : U8s d) (hd : d.length = 1 ∨ 133 ≤ d.length) :
    (downOf ns i d = d ∧ ∃ c', c' < T ∧ TameOk T c' (ns.drop (i + 1))) ∨ (Fate d (downOf ns i d) ∧ c + 1 < T ∧ TameOk T (c + 1) (ns.drop (i + 1))) := by
  cases hz : ns[i]? with
  | none =>
    have hl : ns.length ≤ i := List.getElem?_eq_none_iff.1 hz
    refine .inl ⟨by unfold downOf; rw [hz], c, hc, ?_⟩
    rw [List.drop_eq_nil_of_le (by omega)]
    exact trivial
  | some z =>
    have hi : i < ns.length := (List.getElem?_eq_some_iff.1 hz).1
    have hdr : ns.drop i = z :: ns.drop (i + 1) := by
      rw [List.drop_eq_getElem_cons hi, (List.getElem?_eq_some_iff.1 hz).2]
    rw [hdr] at h
    have hdo : downOf ns i d = z.thru d := by unfold downOf; rw [hz]
    rw [hdo]
    have hr := hu.at_ ((nzK z.at_ d.length : Nat) : Int)
    have hk : nzK z.at_ d.length < d.length := (nzK_lt z.at_ (by omega)).1
    rcases h with ⟨a1, a2, a3, a4, a5⟩ | ⟨a1, a2, a3⟩
    · rcases Bool.eq_false_or_eq_true z.lost with hl | hl
      · refine .inr ⟨?_, a4, a5⟩
        rw [show z.thru d = [] from if_pos (.inl hl)]
        exact .lost
      · have ht : z.thru d = d.set (nzK z.at_ d.length) (Go.bits .xor .u8 (rd d ((nzK z.at_ d.length : Nat) : Int)) z.by_) := if_neg (by rw [hl]; simp; intro e; rw [e] at hd; simp at hd)
        rw [ht]
        by_cases hv : Go.bits .xor .u8 (rd d ((nzK z.at_ d.length : Nat) : Int)) z.by_ = rd d ((nzK z.at_ d.length : Nat) : Int)
        · rw [hv, set_same _ _ hk]
          exact .inl ⟨rfl, c + 1, a4, a5⟩
        · refine .inr ⟨.turned _ _ hk (fun h1 => ?_) (xor8_range _ _).1 (xor8_range _ _).2 hv, a4, a5⟩
          rcases hd with hd | hd
          · exact absurd hd h1
          · rw [nzK_small a1 a2 hd]; omega
    · refine .inl ⟨?_, 0, by omega, a3⟩
      have ht : z.thru d = d.set (nzK z.at_ d.length) (Go.bits .xor .u8 (rd d ((nzK z.at_ d.length : Nat) : Int)) z.by_) := if_neg (by rw [a1]; simp; intro e; rw [e] at hd; simp at hd)
      rw [ht, a2, (xor8_same _ 0 hr.1 hr.2 (by decide) (by decide)).2 rfl, set_same _ _ hk]
/-- the sender that waits for an answer to the message idx -/
def sx (T : Nat) (qs : List (List Int)) (idx t : Nat) (l : Int) : Sn := ⟨T, 3, qs, true, true, if idx < qs.length then 1 else 2, idx, t, l, false, 0⟩
def msg (qs : List (List Int)) (idx : Nat) : List Int := match qs[idx]? with
  | some q => blockL (leadOf q.length) (((0 + idx + 1) % 256 : Nat) : Int) q true
  | none => [4]
def rx (qs : List (List Int)) (idx : Nat) (m tr : Int) (buf : List Int) : Rc := ⟨true, 2, tr, m, (((0 + idx + 1) % 256 : Nat) : Int), decide (0 < idx), true, buf, (qs.take idx).flatten, idx, 1, false, 0⟩
theorem sx_now {T t idx : Nat} {qs : List (List Int)} {l : Int} : (sx T qs idx t l).now = msg qs idx := by
  unfold Sn.now sx msg
  by_cases h : idx < qs.length
  · rw [List.getElem?_eq_getElem h]
    simp only [if_pos h, if_true]
    exact bytes_at (List.getElem?_eq_getElem h)
  · rw [List.getElem?_eq_none (by omega)]
    simp [if_neg h]
theorem sx_ph {T t idx : Nat} {qs : List (List Int)} {l : Int} : (sx T qs idx t l).phase = 1 ∨ (sx T qs idx t l).phase = 2 := by
  unfold sx
  simp only
  split <;> simp
theorem sx_wait {T t idx : Nat} {qs : List (List Int)} {l : Int} (h : l - 1 > 0) : (sx T qs idx t l).tick = sx T qs idx t (l - 1) ∧ (sx T qs idx t l).tickOut = [] := by
  have hp := sx_ph (T := T) (t := t) (idx := idx) (qs := qs) (l := l)
  have h2 : (sx T qs idx t l).left - 1 > 0 := h
  constructor
  · unfold Sn.tick
    rw [if_neg (by omega), if_pos h2]
    rfl
  · unfold Sn.tickOut
    rw [if_neg (by omega), if_pos h2]
theorem sx_again {T t idx : Nat} {qs : List (List Int)} {l l' : Int} (h : t < T) : ({ sx T qs idx t l with left := l' } : Sn).again = sx T qs idx (t + 1) 3 ∧ ({ sx T qs idx t l with left := l' } : Sn).againOut = msg qs idx := by
  have hc : ¬ (({ sx T qs idx t l with left := l' } : Sn).tries ≥ ({ sx T qs idx t l with left := l' } : Sn).ct) := by
    show ¬ ((t : Int) ≥ (T : Int))
    omega
  constructor
  · unfold Sn.again
    rw [if_neg hc]
    unfold sx
    simp
  · unfold Sn.againOut
    rw [if_neg hc]
    have e : ({ sx T qs idx t l with left := l' } : Sn) = sx T qs idx t l' := rfl
    rw [e]
    exact sx_now
theorem sx_out {T t idx : Nat} {qs : List (List Int)} (h : t < T) : (sx T qs idx t 1).tick = sx T qs idx (t + 1) 3 ∧ (sx T qs idx t 1).tickOut = msg qs idx := by
  have hp := sx_ph (T := T) (t := t) (idx := idx) (qs := qs) (l := 1)
  have hg : ¬ ((sx T qs idx t 1).left - 1 > 0) := by show ¬ ((1 : Int) - 1 > 0); decide
  constructor
  · unfold Sn.tick
    rw [if_neg (by omega), if_neg hg]
    exact (sx_again h).1
  · unfold Sn.tickOut
    rw [if_neg (by omega), if_neg hg]
    exact (sx_again h).2
theorem sx_can {T t idx : Nat} {qs : List (List Int)} {l c : Int} (h : c ≠ 24) : (sx T qs idx t l).can1 c = sx T qs idx t l := by
  unfold Sn.can1 sx
  simp [h]
theorem sx_nak {T t idx : Nat} {qs : List (List Int)} {l : Int} (h : t < T) : (sx T qs idx t l).put 21 = sx T qs idx (t + 1) 3 ∧ (sx T qs idx t l).putOut 21 = msg qs idx := by
  have hp := sx_ph (T := T) (t := t) (idx := idx) (qs := qs) (l := l)
  have e : ({ sx T qs idx t l with left := l } : Sn) = sx T qs idx t l := rfl
  constructor
  · unfold Sn.put
    rw [if_neg (by omega), if_neg (fun q => by exact absurd q.2 (by decide)), if_neg (fun q => by omega), if_neg (by omega), if_neg (by decide), if_pos rfl, sx_can (by decide), ← e]
    exact (sx_again h).1
  · unfold Sn.putOut
    rw [if_neg (by omega), if_neg (fun q => by exact absurd q.2 (by decide)), if_neg (fun q => by omega), if_neg (by omega), if_neg (by decide), if_pos rfl, sx_can (by decide), ← e]
    exact (sx_again h).2
theorem sx_go {T t idx : Nat} {qs : List (List Int)} {l : Int} : (sx T qs idx t l).put 67 = sx T qs idx t l ∧ (sx T qs idx t l).putOut 67 = [] := by
  have hp := sx_ph (T := T) (t := t) (idx := idx) (qs := qs) (l := l)
  constructor
  · unfold Sn.put
    rw [if_neg (by omega), if_neg (fun q => by exact absurd q.2 (by decide)), if_neg (fun q => by omega), if_neg (by omega), if_neg (by decide), if_neg (by decide), sx_can (by decide)]
  · unfold Sn.putOut
    rw [if_neg (by omega), if_neg (fun q => by exact absurd q.2 (by decide)), if_neg (fun q => by omega), if_neg (by omega), if_neg (by decide), if_neg (by decide)]
theorem sx_ack {T t idx : Nat} {qs : List (List Int)} {l : Int} (hi : idx < qs.length) : (sx T qs idx t l).put 6 = sx T qs (idx + 1) 1 3 ∧ (sx T qs idx t l).putOut 6 = msg qs (idx + 1) := by
  have hp1 : (sx T qs idx t l).phase = 1 := if_pos hi
  have hn : ({ sx T qs idx t l with at_ := (sx T qs idx t l).at_ + 1 } : Sn).next = sx T qs (idx + 1) 1 3 := by
    unfold Sn.next sx
    by_cases h : idx + 1 < qs.length
    · simp [hi, h]
    · simp [hi, h]
  constructor
  · unfold Sn.put
    rw [if_neg (by omega), if_neg (fun q => by exact absurd q.2 (by decide)), if_neg (fun q => by omega), if_neg (by omega), if_pos rfl, if_pos hp1, sx_can (by decide)]
    exact hn
  · unfold Sn.putOut
    rw [if_neg (by omega), if_neg (fun q => by exact absurd q.2 (by decide)), if_neg (fun q => by omega), if_neg (by omega), if_pos rfl, if_pos hp1, sx_can (by decide), hn]
    exact sx_now
theorem sx_end {T t : Nat} {qs : List (List Int)} {l : Int} : ((sx T qs qs.length t l).put 6).phase = 3 ∧ ((sx T qs qs.length t l).put 6).err = 0 ∧ (sx T qs qs.length t l).putOut 6 = [] := by
  have hp2 : (sx T qs qs.length t l).phase = 2 := if_neg (Nat.lt_irrefl _)
  have hn : (sx T qs qs.length t l).next = { sx T qs qs.length t l with tries := 1, left := 3, phase := 3, err := 0 } := by
    unfold Sn.next sx
    simp
  have e : (sx T qs qs.length t l).put 6 = { sx T qs qs.length t l with tries := 1, left := 3, phase := 3, err := 0 } := by
    unfold Sn.put
    rw [if_neg (by omega), if_neg (fun q => by exact absurd q.2 (by decide)), if_neg (fun q => by omega), if_neg (by omega), if_pos rfl, if_neg (by omega), sx_can (by decide)]
    exact hn
  refine ⟨by rw [e], by rw [e], ?_⟩
  unfold Sn.putOut
  rw [if_neg (by omega), if_neg (fun q => by exact absurd q.2 (by decide)), if_neg (fun q => by omega), if_neg (by omega), if_pos rfl, if_neg (by omega), sx_can (by decide), hn]
  unfold Sn.now
  exact (if_neg (fun q => absurd (show (3 : Int) = 1 from q) (by decide))).trans (if_neg (fun q => absurd (show (3 : Int) = 2 from q) (by decide)))
/-- the receiver -/
theorem rx_wait {qs : List (List Int)} {idx : Nat} {tr : Int} {buf : List Int} : (rx qs idx 2 tr buf).tick = rx qs idx 1 tr buf ∧ (rx qs idx 2 tr buf).tickOut = [] := by
  have ho : ¬ ((rx qs idx 2 tr buf).over = true) := by show ¬ (false = true); decide
  have hg : (rx qs idx 2 tr buf).left - 1 > 0 := by show (2 : Int) - 1 > 0; decide
  constructor
  · unfold Rc.tick
    rw [if_neg ho, if_pos hg]
    rfl
  · unfold Rc.tickOut
    rw [if_neg ho, if_pos hg]
theorem rx_nak {qs : List (List Int)} {idx : Nat} {tr : Int} {buf : List Int} (h : 0 < idx) : (rx qs idx 1 tr buf).tick = rx qs idx 2 tr [] ∧ (rx qs idx 1 tr buf).tickOut = [21] := by
  have hb : (rx qs idx 1 tr buf).begun = true := decide_eq_true h
  have hg : ¬ ((rx qs idx 1 tr buf).left - 1 > 0) := by show ¬ ((1 : Int) - 1 > 0); decide
  have ho : ¬ ((rx qs idx 1 tr buf).over = true) := by show ¬ (false = true); decide
  constructor
  · unfold Rc.tick
    rw [if_neg ho, if_neg hg, if_neg (fun q => by rw [hb] at q; exact absurd q.1 (by decide)), if_neg (by rw [hb]; decide)]
    rfl
  · unfold Rc.tickOut Rc.askB
    rw [if_neg ho, if_neg hg, if_neg (fun q => by rw [hb] at q; exact absurd q.1 (by decide)), if_neg (fun q => by rw [hb] at q; exact absurd q.2 (by decide))]
theorem rx_go {qs : List (List Int)} {tr : Int} {buf : List Int} (h : tr ≠ 0) : (rx qs 0 1 tr buf).tick = rx qs 0 2 (tr - 1) [] ∧ (rx qs 0 1 tr buf).tickOut = [67] := by
  have hg : ¬ ((rx qs 0 1 tr buf).left - 1 > 0) := by show ¬ ((1 : Int) - 1 > 0); decide
  have ho : ¬ ((rx qs 0 1 tr buf).over = true) := by show ¬ (false = true); decide
  have hz : ¬ ((rx qs 0 1 tr buf).begun = false ∧ (rx qs 0 1 tr buf).tries = 0) := fun q => h q.2
  constructor
  · unfold Rc.tick
    rw [if_neg ho, if_neg hg, if_neg hz, if_pos (show (rx qs 0 1 tr buf).begun = false from rfl)]
    rfl
  · unfold Rc.tickOut Rc.askB
    rw [if_neg ho, if_neg hg, if_neg hz, if_pos ⟨rfl, rfl⟩]
theorem msg_block {qs : List (List Int)} {idx : Nat} (h : idx < qs.length) : msg qs idx = blockL (leadOf qs[idx].length) (((0 + idx + 1) % 256 : Nat) : Int) qs[idx] true := by
  unfold msg
  rw [List.getElem?_eq_getElem h]
theorem msg_eot {qs : List (List Int)} : msg qs qs.length = [4] := by
  unfold msg
  rw [List.getElem?_eq_none (Nat.le_refl _)]
theorem rx_take {qs : List (List Int)} {idx : Nat} {m tr : Int} (hq : ∀ q ∈ qs, U8s q ∧ (q.length = 128 ∨ q.length = 1024)) (h : idx < qs.length) : (rx qs idx m tr []).put (msg qs idx) = rx qs (idx + 1) 2 tr [] ∧ (rx qs idx m tr []).putOut (msg qs idx) = [6] := by
  have hg : qs[idx]? = some qs[idx] := List.getElem?_eq_getElem h
  have hp := Rc.put_block (r := rx qs idx m tr []) (q := qs[idx]) (num := (((0 + idx + 1) % 256 : Nat) : Int)) rfl rfl rfl rfl (by omega) (hq _ (List.getElem_mem h)).2
  rw [msg_block h]
  refine ⟨hp.1.trans ?_, hp.2⟩
  have hfl : (qs.take idx).flatten ++ qs[idx] = (qs.take (idx + 1)).flatten := by
    rw [List.take_add_one (i := idx), hg, List.flatten_append]
    exact congrArg (_ ++ ·) (List.append_nil _).symm
  have hnm : ((((0 + idx + 1) % 256 : Nat) : Int) + 1) % 256 = (((0 + (idx + 1) + 1) % 256 : Nat) : Int) := by omega
  unfold rx
  simp only [hfl, hnm]
  simp
theorem rx_eot {qs : List (List Int)} {m tr : Int} : (rx qs qs.length m tr []).put [4] = { rx qs qs.length 2 tr [4] with over := true } ∧ (rx qs qs.length m tr []).putOut [4] = [6] := by
  have hp := Rc.put_eot (r := rx qs qs.length m tr []) rfl rfl rfl
  exact ⟨hp.1, hp.2⟩
theorem rx_turned {qs : List (List Int)} {idx : Nat} {m tr : Int} (hq : ∀ q ∈ qs, U8s q ∧ (q.length = 128 ∨ q.length = 1024)) (h : idx < qs.length) {k : Nat} {v : Int} (hk : k < (msg qs idx).length) (hk1 : 1 ≤ k) (h0 : 0 ≤ v) (h1 : v ≤ 255) (hv : v ≠ rd (msg qs idx) k) :
    (rx qs idx m tr []).put ((msg qs idx).set k v) = rx qs idx 2 tr [] ∧ (rx qs idx m tr []).putOut ((msg qs idx).set k v) = [21] := by
  have hqi := hq _ (List.getElem_mem h)
  rw [msg_block h] at hk hv ⊢
  have hs := scan_turned (m := qs[idx].length) (num := (((0 + idx + 1) % 256 : Nat) : Int)) (l := qs[idx]) (crc := true) rfl hqi.2 (by omega) hqi.1 k hk1 hk v h0 h1 hv
  have hr0 : rd ((blockL (leadOf qs[idx].length) (((0 + idx + 1) % 256 : Nat) : Int) qs[idx] true).set k v) 0 = leadOf qs[idx].length := (rd_set0 _ _ _ hk1).trans rfl
  have h4 : leadOf qs[idx].length ≠ 4 ∧ leadOf qs[idx].length ≠ 24 := by unfold leadOf; split <;> omega
  have hl := block_ne (leadOf qs[idx].length) (((0 + idx + 1) % 256 : Nat) : Int) qs[idx] true
  generalize hd : (blockL (leadOf qs[idx].length) (((0 + idx + 1) % 256 : Nat) : Int) qs[idx] true).set k v = d at *
  have hl2 : d.length ≠ 0 := by rw [← hd, List.length_set]; exact hl
  have k0 : ¬ ((rx qs idx m tr []).over = true ∨ d.length = 0) := fun q => q.elim (fun q => by exact absurd (show false = true from q) (by decide)) hl2
  constructor
  · unfold Rc.put
    rw [if_neg k0, show (rx qs idx m tr []).buf ++ d = d from rfl, if_neg (fun q => h4.1 (hr0 ▸ q.1)), if_neg (fun q => h4.2 (hr0 ▸ q.1)), if_neg (fun q => h4.2 (hr0 ▸ q.1)), if_neg (by show ¬ scanS d true = 0; rw [hs]; decide), if_neg (by show ¬ scanS d true = 2; rw [hs]; decide)]
    rfl
  · unfold Rc.putOut
    rw [if_neg k0, show (rx qs idx m tr []).buf ++ d = d from rfl, if_neg (fun q => h4.1 (hr0 ▸ q.1)), if_neg (fun q => h4.2 (hr0 ▸ q.1)), if_neg (fun q => h4.2 (hr0 ▸ q.1)), if_neg (by show ¬ scanS d true = 0; rw [hs]; decide), if_neg (by show ¬ scanS d true = 2; rw [hs]; decide)]
theorem rx_byte {qs : List (List Int)} {m tr : Int} {v : Int} (hv : v ≠ 4) :
    ((rx qs qs.length m tr []).put [v] = rx qs qs.length 2 tr [v] ∧ (rx qs qs.length m tr []).putOut [v] = []) ∨ ((rx qs qs.length m tr []).put [v] = rx qs qs.length 2 tr [] ∧ (rx qs qs.length m tr []).putOut [v] = [21]) := by
  have k0 : ¬ ((rx qs qs.length m tr []).over = true ∨ [v].length = 0) := fun q => q.elim (fun q => by exact absurd (show false = true from q) (by decide)) (by simp)
  have hbuf : (rx qs qs.length m tr []).buf ++ [v] = [v] := rfl
  have hrd : rd [v] 0 = v := rfl
  have k1 : ¬ (rd ((rx qs qs.length m tr []).buf ++ [v]) 0 = 4 ∧ (rx qs qs.length m tr []).close = true) := fun q => hv q.1
  have k2 : ¬ (rd ((rx qs qs.length m tr []).buf ++ [v]) 0 = 24 ∧ ((rx qs qs.length m tr []).buf ++ [v]).length > 1 ∧ rd ((rx qs qs.length m tr []).buf ++ [v]) 1 = 24) := fun q => absurd (show 1 > 1 from q.2.1) (by decide)
  by_cases h24 : v = 24
  · have k3 : rd ((rx qs qs.length m tr []).buf ++ [v]) 0 = 24 ∧ ((rx qs qs.length m tr []).buf ++ [v]).length = 1 := ⟨h24, rfl⟩
    left
    unfold Rc.put Rc.putOut
    simp only [if_neg k0, if_neg k1, if_neg k2, if_pos k3]
    exact ⟨rfl, trivial⟩
  · have k3 : ¬ (rd ((rx qs qs.length m tr []).buf ++ [v]) 0 = 24 ∧ ((rx qs qs.length m tr []).buf ++ [v]).length = 1) := fun q => h24 q.1
    by_cases hs : scanS ((rx qs qs.length m tr []).buf ++ [v]) (rx qs qs.length m tr []).crc = 0
    · left
      unfold Rc.put Rc.putOut
      simp only [if_neg k0, if_neg k1, if_neg k2, if_neg k3, if_pos hs]
      exact ⟨rfl, trivial⟩
    · have hs2 : ¬ scanS ((rx qs qs.length m tr []).buf ++ [v]) (rx qs qs.length m tr []).crc = 2 := by
        intro e
        revert e
        show ¬ scanS [v] true = 2
        unfold scanS
        rw [if_neg (by simp)]
        by_cases hz : sizeL (rd [v] 0) true = 0
        · rw [if_pos hz]; decide
        · rw [if_neg hz, if_neg (fun q => absurd (show 2 < 1 from q.1) (by decide)), if_pos]
          · decide
          · show 1 < sizeL v true
            have hz2 : sizeL v true ≠ 0 := hz
            unfold sizeL at hz2 ⊢
            split
            · simp
            · split
              · simp
              · simp_all
      right
      unfold Rc.put Rc.putOut
      simp only [if_neg k0, if_neg k1, if_neg k2, if_neg k3, if_neg hs, if_neg hs2]
      exact ⟨rfl, trivial⟩
end
end Go.Proofs.Ytcbkcggijejooaa.SL
