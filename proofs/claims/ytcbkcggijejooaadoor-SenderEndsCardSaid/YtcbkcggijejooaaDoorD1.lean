import Derived.Test.YtcbkcggijejooaaDoorS3
import Derived.Test.YtcbkcggijejooaaDoorErrAs
/- SenderEnds: where nobody answers. No statement is proved here. -/
set_option linter.unusedVariables false
set_option linter.unusedSimpArgs false
set_option maxRecDepth 100000
set_option maxHeartbeats 4000000
namespace Go.Proofs.YtcbkcggijejooaaDoor.SL
open Go Go.RowKit
section
variable {w0 : World} {B : Nat} {H X : List Chunk}
/-- the sender behind k ticks at which nobody answered -/
def sE (T C : Nat) (qs : List (List Int)) (crc : Bool) (k : Nat) : Sn :=
  if k < T * C then ⟨T, C, qs, true, crc, 0, 0, ((1 + k / C : Nat) : Int), ((C - k % C : Nat) : Int), false, 0⟩ else ⟨T, C, qs, true, crc, 3, 0, T, 0, false, 10⟩
theorem sE_lt {T C : Nat} {qs : List (List Int)} {crc : Bool} {k : Nat} (h : k < T * C) : sE T C qs crc k = ⟨T, C, qs, true, crc, 0, 0, ((1 + k / C : Nat) : Int), ((C - k % C : Nat) : Int), false, 0⟩ := if_pos h
theorem sE_ge {T C : Nat} {qs : List (List Int)} {crc : Bool} {k : Nat} (h : ¬ k < T * C) : sE T C qs crc k = ⟨T, C, qs, true, crc, 3, 0, T, 0, false, 10⟩ := if_neg h
theorem divs {T C k : Nat} (hC : 1 ≤ C) (h : k < T * C) : k / C < T ∧ k % C < C ∧ k = C * (k / C) + k % C :=
  ⟨Nat.div_lt_of_lt_mul (by rw [Nat.mul_comm]; exact h), Nat.mod_lt _ hC, (Nat.div_add_mod k C).symm⟩
theorem div_step {C k : Nat} (hC : 1 ≤ C) : (k % C + 1 < C → (k + 1) / C = k / C ∧ (k + 1) % C = k % C + 1) ∧ (k % C + 1 = C → (k + 1) / C = k / C + 1 ∧ (k + 1) % C = 0) := by
  have e := Nat.div_add_mod k C
  refine ⟨fun h => ?_, fun h => ?_⟩
  · have e1 : k + 1 = (k % C + 1) + C * (k / C) := by omega
    exact ⟨by rw [e1, Nat.add_mul_div_left _ _ hC, Nat.div_eq_of_lt h, Nat.zero_add], by rw [e1, Nat.add_mul_mod_self_left, Nat.mod_eq_of_lt h]⟩
  · have e1 : k + 1 = C * (k / C + 1) := by rw [Nat.mul_add]; omega
    exact ⟨by rw [e1, Nat.mul_div_cancel_left _ hC], by rw [e1, Nat.mul_mod_right]⟩
theorem tick0 (s : Sn) (h : s.phase = 0) : (s.left - 1 > 0 → s.tick = { s with left := s.left - 1 } ∧ s.tickOut = []) ∧ (¬ s.left - 1 > 0 → ¬ s.tries ≥ s.ct → s.tick = { s with tries := s.tries + 1, left := s.cw } ∧ s.tickOut = []) ∧ (¬ s.left - 1 > 0 → s.tries ≥ s.ct → s.tick = { s with left := s.left - 1, phase := 3, err := 10 } ∧ s.tickOut = [24, 24]) := by
  have h3 : ¬ s.phase = 3 := by omega
  refine ⟨fun h1 => ?_, fun h1 h2 => ?_, fun h1 h2 => ?_⟩
  · unfold Sn.tick Sn.tickOut
    rw [if_neg h3, if_neg h3, if_pos h1, if_pos h1]
    exact ⟨rfl, rfl⟩
  · unfold Sn.tick Sn.tickOut Sn.again Sn.againOut Sn.now
    rw [if_neg h3, if_neg h3, if_neg h1, if_neg h1]
    simp only
    rw [if_neg h2, if_neg h2, if_neg (by omega), if_neg (by omega)]
    exact ⟨rfl, rfl⟩
  · unfold Sn.tick Sn.tickOut Sn.again Sn.againOut Sn.now
    rw [if_neg h3, if_neg h3, if_neg h1, if_neg h1]
    simp only
    rw [if_pos h2, if_pos h2]
    exact ⟨rfl, rfl⟩
theorem sE_tick {T C : Nat} {qs : List (List Int)} {crc : Bool} {k : Nat} (hC : 1 ≤ C) (h : k < T * C) : (sE T C qs crc k).tick = sE T C qs crc (k + 1) ∧ (sE T C qs crc k).tickOut = if k + 1 < T * C then [] else [24, 24] := by
  obtain ⟨h1, h2, h3⟩ := divs hC h
  have hs := div_step (k := k) hC
  have hy := tick0 (sE T C qs crc k) (by rw [sE_lt h])
  have eS := sE_lt (qs := qs) (crc := crc) h
  have eN := sE_lt (T := T) (C := C) (qs := qs) (crc := crc) (k := k + 1)
  have eM := sE_ge (T := T) (C := C) (qs := qs) (crc := crc) (k := k + 1)
  rw [eS] at hy ⊢
  generalize (k + 1) / C = q' at *
  generalize (k + 1) % C = r' at *
  generalize k / C = q at *
  generalize k % C = r at *
  have e0 : ((C - r : Nat) : Int) = (C : Int) - r := by omega
  rw [e0] at hy ⊢
  obtain ⟨y1, y2, y3⟩ := hy
  by_cases hr : r + 1 < C
  · obtain ⟨d1, d2⟩ := hs.1 hr
    have hk : k + 1 < T * C := by
      have h5 := Nat.mul_le_mul_left C (show q + 1 ≤ T from h1)
      rw [Nat.mul_add, Nat.mul_comm C T] at h5
      omega
    obtain ⟨a1, a2⟩ := y1 (show (C : Int) - r - 1 > 0 by omega)
    rw [a1, a2, eN hk, if_pos hk, d1, d2]
    refine ⟨?_, rfl⟩
    congr 1
    show (C : Int) - r - 1 = _
    omega
  · have hr2 : r + 1 = C := by omega
    obtain ⟨d1, d2⟩ := hs.2 hr2
    have hl : ¬ (C : Int) - r - 1 > 0 := by omega
    by_cases ht : q + 1 < T
    · have hk : k + 1 < T * C := by
        have h5 := Nat.mul_le_mul_left C (show q + 2 ≤ T from ht)
        rw [Nat.mul_add, Nat.mul_comm C T] at h5
        omega
      obtain ⟨a1, a2⟩ := y2 hl (show ¬ ((1 + q : Nat) : Int) ≥ (T : Int) by omega)
      rw [a1, a2, eN hk, if_pos hk, d1, d2]
      refine ⟨?_, rfl⟩
      congr 1
    · have hT : q + 1 = T := by omega
      have hk : ¬ k + 1 < T * C := by
        have h5 : C * (q + 1) = T * C := by rw [hT, Nat.mul_comm]
        rw [Nat.mul_add] at h5
        omega
      obtain ⟨a1, a2⟩ := y3 hl (show ((1 + q : Nat) : Int) ≥ (T : Int) by omega)
      rw [a1, a2, eM hk, if_neg hk]
      refine ⟨?_, rfl⟩
      congr 1
      · show ((1 + q : Nat) : Int) = _
        omega
      · show (C : Int) - r - 1 = 0
        omega
theorem sE_fit {T C : Nat} {qs : List (List Int)} {crc : Bool} {k : Nat} (hT : 1 ≤ T ∧ T ≤ 9) (hC : 1 ≤ C ∧ C ≤ 99) (hm : qs.length ≤ 65535) (hn : ∀ q ∈ qs, U8s q ∧ (q.length = 128 ∨ q.length = 1024)) : (sE T C qs crc k).Fit := by
  by_cases h : k < T * C
  · obtain ⟨h1, h2, h3⟩ := divs hC.1 h
    rw [sE_lt h]
    generalize k / C = q at *
    generalize k % C = r at *
    exact ⟨⟨hm, hn, by show 1 ≤ (T : Int) ∧ (T : Int) ≤ 9; omega, by show 1 ≤ (C : Int) ∧ (C : Int) ≤ 99; omega, by show (0 : Int) ≤ 0 ∧ (0 : Int) ≤ 3; decide, Nat.zero_le _, by show 1 ≤ ((1 + q : Nat) : Int) ∧ ((1 + q : Nat) : Int) ≤ 9; omega, Or.inr (by show 1 ≤ ((C - r : Nat) : Int) ∧ ((C - r : Nat) : Int) ≤ 99; omega)⟩, fun e => by exact absurd (show (0 : Int) = 1 from e) (by decide)⟩
  · rw [sE_ge h]
    exact ⟨⟨hm, hn, by show 1 ≤ (T : Int) ∧ (T : Int) ≤ 9; omega, by show 1 ≤ (C : Int) ∧ (C : Int) ≤ 99; omega, by show (0 : Int) ≤ 3 ∧ (3 : Int) ≤ 3; decide, Nat.zero_le _, by show 1 ≤ (T : Int) ∧ (T : Int) ≤ 9; omega, Or.inl rfl⟩, fun e => by exact absurd (show (3 : Int) = 1 from e) (by decide)⟩
/-- the sender that gave up -/
def sF (T C : Nat) (qs : List (List Int)) (crc : Bool) : Sn := ⟨T, C, qs, true, crc, 3, 0, T, 0, false, 10⟩
theorem t65e {T C k : Nat} {qs : List (List Int)} {crc : Bool} {g : Nat} {A : Option Addr} {c : Nat} (hT : 1 ≤ T ∧ T ≤ 9) (hC : 1 ≤ C ∧ C ≤ 99) (hk : k < T * C) (hm : qs.length ≤ 65535) (hn : ∀ q ∈ qs, U8s q ∧ (q.length = 128 ∨ q.length = 1024)) (hB : SBlk (WH w0 B X) A c qs) :
    TCall Tryd.prog w0 B 11 #[.pointer (some ⟨g, 0, none⟩)] (fun r H' => Gives (if k + 1 < T * C then [] else [24, 24]) (sC g A c (sE T C qs crc (k + 1))) X r H') (sC g A c (sE T C qs crc k) :: X) := by
  have hq : (sE T C qs crc k).qs = qs := by rw [sE_lt hk]
  have h := t65 (g := g) (sE T C qs crc k) (sE_fit hT hC hm hn) (hq ▸ hB)
  rw [(sE_tick hC.1 hk).1, (sE_tick hC.1 hk).2] at h
  exact h
theorem t61e {T C k : Nat} {qs : List (List Int)} {crc : Bool} {g : Nat} {A : Option Addr} {c : Nat} (hk : k < T * C) :
    TCall Tryd.prog w0 B 10 #[.pointer (some ⟨g, 0, none⟩)] (fun r H' => r = .tuple #[.bool false, .nilIface] ∧ H' = sC g A c (sE T C qs crc k) :: X) (sC g A c (sE T C qs crc k) :: X) := by
  have h := t61 (w0 := w0) (B := B) (X := X) (g := g) (A := A) (c := c) (sE T C qs crc k)
  refine h.mono fun v h' q => ⟨?_, q.2⟩
  rw [q.1, sE_lt hk]
  rfl
theorem t61f {T C : Nat} {qs : List (List Int)} {crc : Bool} {g : Nat} {A : Option Addr} {c : Nat} :
    TCall Tryd.prog w0 B 10 #[.pointer (some ⟨g, 0, none⟩)] (fun r H' => r = .tuple #[.bool true, .iface 35 (.int .i64 10)] ∧ H' = sC g A c (sF T C qs crc) :: X) (sC g A c (sF T C qs crc) :: X) := by
  refine (t61 (w0 := w0) (B := B) (X := X) (g := g) (A := A) (c := c) (sF T C qs crc)).mono fun v h' q => ⟨?_, q.2⟩
  rw [q.1]
  rfl
theorem sF_fit {T C : Nat} {qs : List (List Int)} {crc : Bool} (hT : 1 ≤ T ∧ T ≤ 9) (hC : 1 ≤ C ∧ C ≤ 99) (hm : qs.length ≤ 65535) (hn : ∀ q ∈ qs, U8s q ∧ (q.length = 128 ∨ q.length = 1024)) : (sF T C qs crc).Fit := by
  have h := sE_fit (T := T) (C := C) (qs := qs) (crc := crc) (k := T * C) hT hC hm hn
  rw [sE_ge (Nat.lt_irrefl _)] at h
  exact h
theorem t65f {T C : Nat} {qs : List (List Int)} {crc : Bool} {g : Nat} {A : Option Addr} {c : Nat} (hT : 1 ≤ T ∧ T ≤ 9) (hC : 1 ≤ C ∧ C ≤ 99) (hm : qs.length ≤ 65535) (hn : ∀ q ∈ qs, U8s q ∧ (q.length = 128 ∨ q.length = 1024)) (hB : SBlk (WH w0 B X) A c qs) :
    TCall Tryd.prog w0 B 11 #[.pointer (some ⟨g, 0, none⟩)] (fun r H' => Gives [] (sC g A c (sF T C qs crc)) X r H') (sC g A c (sF T C qs crc) :: X) :=
  t65 (g := g) (sF T C qs crc) (sF_fit hT hC hm hn) hB
theorem t59f {T C : Nat} {qs : List (List Int)} {crc : Bool} {g : Nat} {A : Option Addr} {c : Nat} (b : Int) (hT : 1 ≤ T ∧ T ≤ 9) (hC : 1 ≤ C ∧ C ≤ 99) (hm : qs.length ≤ 65535) (hn : ∀ q ∈ qs, U8s q ∧ (q.length = 128 ∨ q.length = 1024)) (hB : SBlk (WH w0 B X) A c qs) :
    TCall Tryd.prog w0 B 13 #[.pointer (some ⟨g, 0, none⟩), .int .u8 b] (fun r H' => Gives [] (sC g A c ((sF T C qs crc).can1 b)) X r H') (sC g A c (sF T C qs crc) :: X) :=
  t59 (g := g) (sF T C qs crc) b (sF_fit hT hC hm hn) hB
theorem SenderEnds_t {A : Option Addr} {m c : Nat} {l : List Int} (a b : Int) (mn : Nat) (crc : Bool) (hL : Laid w0) (hB0 : 0 < B) (hS : Shows (WH w0 B H) A m 1 (nums .u8 l)) (hlm : l.length = m) (hl : m ≤ 9223372036854775807) (hc : m ≤ c) (hu : U8s l) (hmn : mn ≤ 255) :
    TCall Tryd.prog w0 B 3 #[.agg #[.int .i64 a, .int .i64 b], .slice A m c, .int .u8 (mn : Int), .bool crc] (fun r H' => r = .bool true ∧ H' = H) H := by
  have hq : ∀ q ∈ blksL l false (mn % 5), U8s q ∧ (q.length = 128 ∨ q.length = 1024) := blksL_num (by omega)
  have hln : (blksL l false (mn % 5)).length = mn % 5 := blksL_len _ _ _
  obtain ⟨T, hT⟩ := Int.eq_ofNat_of_zero_le (show 0 ≤ max 1 (min a 9) by omega)
  obtain ⟨C, hC⟩ := Int.eq_ofNat_of_zero_le (show 0 ≤ max 1 (min b 99) by omega)
  have hT9 : 1 ≤ T ∧ T ≤ 9 := by omega
  have hC9 : 1 ≤ C ∧ C ≤ 99 := by omega
  have hTC : 1 ≤ T * C ∧ T * C ≤ 891 := ⟨Nat.mul_le_mul hT9.1 hC9.1, Nat.mul_le_mul hT9.2 hC9.2⟩
  have e28 : Value.int .i64 (max 1 (min a 9)) = .int .i64 (T : Int) := by rw [hT]
  have e32 : Value.int .i64 (max 1 (min b 99)) = .int .i64 (C : Int) := by rw [hC]
  have e33 : Value.int .i64 (IntKind.i64.wrap ((T : Int) * (C : Int))) = .int .i64 ((T * C : Nat) : Int) := by
    rw [show (T : Int) * (C : Int) = ((T * C : Nat) : Int) from (Int.natCast_mul T C).symm]
    exact wr64 (by omega)
  have hs0 : Sn.of a b (blksL l false (mn % 5)) crc true = sE T C (blksL l false (mn % 5)) crc 0 := by
    rw [sE_lt (by omega)]
    unfold Sn.of
    rw [hT, hC]
    simp
  refine TCall_intro (args := [_, _, _, _]) Tryd.func3 rfl Tryd.ntmps3 (Nat.le_of_ble_eq_true rfl) ?_
  refine T_seq ?_
  refine T_region ?_
  refine TL_cons rfl (TO_box rfl rfl fun g1 => ?_)
  refine TL_pure (d := (some 8)) rfl rfl rfl (PV_assign rfl) ?_
  refine TL_nil ?_
  refine T_seq ?_
  refine T_seq ?_
  refine T_region ?_
  refine TL_cons rfl (TO_call0 call7 rfl rfl (t56) ?_)
  rintro v17_4 H17_4 ⟨rfl, rfl⟩
  refine TL_pure (d := (some 18)) rfl rfl rfl (PV_not rfl) ?_
  refine TL_nil ?_
  refine T_else rfl (by rfl) ?_
  refine T_skip ?_
  refine T_seq ?_
  refine T_drawn (WH _ _ _) mixed (fun w h => h) ?_
  refine TA_take (dd := (some 19)) 0 rfl (by kernel_rfl) (by kernel_rfl) (by kernel_rfl) rfl rfl rfl (PV_loadAt Tryd.underlying23 rfl sz23 rfl (Rds.take 0 rfl rfl rfl)) ?_
  refine TA_take (dd := (some 20)) 1 rfl (by kernel_rfl) (by kernel_rfl) (by kernel_rfl) rfl rfl rfl (PV_move rfl) ?_
  refine TA_take (dd := (some 21)) 2 rfl (by kernel_rfl) (by kernel_rfl) (by kernel_rfl) rfl rfl rfl (PV_move rfl) ?_
  refine TA_take (dd := (some 23)) 4 rfl (by kernel_rfl) (by kernel_rfl) (by kernel_rfl) rfl rfl rfl (PV_move rfl) ?_
  refine TA_one 3 (by kernel_rfl) rfl rfl (TO_call0 call9 rfl rfl (t57 mn false (Shows.mono hS (fun w h => h.sub (by (repeat (first | exact List.Sublist.refl _ | exact List.sublist_append_right _ _ | exact List.sublist_append_left _ _ | apply List.Sublist.cons | refine List.Sublist.trans ?_ (List.sublist_append_left _ _))); done))) ?sd6q152_1 ?sd6q152_2 ?sd6q152_3 ?sd6q152_4 ?sd6q152_5) ?_)
  case sd6q152_1 => omega
  case sd6q152_2 => exact hl
  case sd6q152_3 => exact hc
  case sd6q152_4 => exact hu
  case sd6q152_5 => exact hmn
  rintro v22_7 H22_7 ⟨A'_7, c'_7, N_7, rfl, h_7_0, rfl⟩
  refine ⟨by intro w h; first | exact h | exact trivial | (refine WH.sub h ?_; (repeat (first | exact List.Sublist.refl _ | exact List.sublist_append_right _ _ | exact List.sublist_append_left _ _ | apply List.Sublist.cons | refine List.Sublist.trans ?_ (List.sublist_append_left _ _))); done) | (refine WH.sub h ?_; (repeat (first | exact List.Sublist.refl _ | exact List.sublist_append_right _ _ | exact List.sublist_append_left _ _ | apply List.Sublist.cons_cons | apply List.Sublist.cons | refine List.Sublist.trans ?_ (List.sublist_append_left _ _))); done), ?_⟩
  refine TA_one 5 (by kernel_rfl) rfl rfl (TO_call0 call8 rfl rfl (t58 _ _ _ _ h_7_0 ?sd9q152_5 ?sd9q152_6 ?sd9q152_7) ?_)
  case sd9q152_5 => omega
  case sd9q152_6 => omega
  case sd9q152_7 => with_reducible assumption
  rintro v24_10 H24_10 ⟨g_10, A'_10, c'_10, N_10, rfl, h_10_0, rfl⟩
  refine ⟨by intro w h; first | exact h | exact trivial | (refine WH.sub h ?_; (repeat (first | exact List.Sublist.refl _ | exact List.sublist_append_right _ _ | exact List.sublist_append_left _ _ | apply List.Sublist.cons | refine List.Sublist.trans ?_ (List.sublist_append_left _ _))); done) | (refine WH.sub h ?_; (repeat (first | exact List.Sublist.refl _ | exact List.sublist_append_right _ _ | exact List.sublist_append_left _ _ | apply List.Sublist.cons_cons | apply List.Sublist.cons | refine List.Sublist.trans ?_ (List.sublist_append_left _ _))); done), ?_⟩
  refine TA_take (dd := (some 9)) 6 rfl (by kernel_rfl) (by kernel_rfl) (by kernel_rfl) rfl rfl rfl (PV_assign rfl) ?_
  refine TA_done (by kernel_rfl) ?_
  refine T_seq ?_
  refine T_region ?_
  refine TL_pure (d := (some 25)) rfl rfl rfl (PV_fieldAddr (D := 0) Tryd.underlying23 rfl sz3 (by decide) rfl rfl) ?_
  refine TL_pure (d := (some 26)) rfl rfl rfl (PV_load Tryd.underlying3 rfl rfl (Rd.at 1 rfl rfl)) ?_
  refine TL_pure (d := (some 27)) rfl rfl rfl (PV_min rfl rfl) ?_
  refine TL_pure (d := (some 28)) rfl rfl rfl (PV.cast (PV_max rfl rfl) e28) ?_
  refine TL_pure (d := (some 29)) rfl rfl rfl (PV_fieldAddr (D := 1) Tryd.underlying23 rfl sz3 (by decide) rfl rfl) ?_
  refine TL_pure (d := (some 30)) rfl rfl rfl (PV_load Tryd.underlying3 rfl rfl (Rd.at 1 rfl rfl)) ?_
  refine TL_pure (d := (some 31)) rfl rfl rfl (PV_min rfl rfl) ?_
  refine TL_pure (d := (some 32)) rfl rfl rfl (PV.cast (PV_max rfl rfl) e32) ?_
  refine TL_pure (d := (some 33)) rfl rfl rfl (PV.cast (PV_bin rfl rfl bin_mul) e33) ?_
  refine TL_pure (d := (some 10)) rfl rfl rfl (PV_assign rfl) ?_
  refine TL_nil ?_
  refine T_seq ?_
  refine T_region ?_
  refine TL_pure (d := (some 11)) rfl rfl rfl (PV_assign rfl) ?_
  refine TL_nil ?_
  refine T_seq ?_
  refine T_seq ?_
  refine T_region ?_
  refine TL_pure (d := (some 12)) rfl rfl rfl (PV_assign rfl) ?_
  refine TL_nil ?_
  refine T_block ?_
  refine ?L1
  case L1 =>
    rw [hs0]
    refine T_loopP1 (fun (k : Nat) => k ≤ T * C) (fun k => T * C - k) (fun k => [(8, .bool false), (9, .pointer (some ⟨g_10, 0, none⟩)), (10, .int .i64 ((T * C : Nat) : Int)), (11, .string (strOfNums (if k < T * C then [] else [24, 24]))), (12, .int .i64 (k : Int))]) (fun k => sC g_10 A'_10 c'_10 (sE T C (blksL l false (mn % 5)) crc k) :: ((.own g1 2 [.int .i64 a, .int .i64 b] :: H ++ N_7) ++ N_10)) 0 (Nat.zero_le _) (by rw [if_pos (by omega)]; repeat (first | exact FrSub.nil _ | refine FrSub.cons rfl ?_)) (Has.of_sub (by repeat (first | exact List.Sublist.refl _ | exact List.sublist_append_right _ _ | exact List.sublist_append_left _ _ | apply List.Sublist.cons_cons | apply List.Sublist.cons | refine List.Sublist.trans ?_ (List.sublist_append_left _ _)))) ?_
    intro k hk
    by_cases hkn : k < T * C
    · rw [if_pos hkn]
      have e49 : Value.string (strOfNums [] ++ strOfNums (if k + 1 < T * C then [] else [24, 24])) = .string (strOfNums (if k + 1 < T * C then [] else [24, 24])) := by
        congr 1

      refine T_seq ?_
      refine T_seq ?_
      refine T_region ?_
      refine TL_pure (d := (some 34)) rfl rfl rfl (PV_move rfl) ?_
      refine TL_pure (d := (some 35)) rfl rfl rfl (PV_move rfl) ?_
      refine TL_pure (d := (some 36)) rfl rfl rfl (PV_bin rfl rfl bin_lss) ?_
      refine TL_nil ?_
      refine T_then rfl (by exact decide_eq_true (by omega)) ?_
      refine T_skip ?_
      refine T_seq ?_
      refine T_block ?_
      refine T_seq ?_
      refine T_seq ?_
      refine T_region ?_
      refine TL_pure (d := (some 40)) rfl rfl rfl (PV_move rfl) ?_
      refine TL_cons rfl (TO_call0 call10 rfl rfl (t61e (T := T) (C := C) (k := k) ?sd102q167_0) ?_)
      case sd102q167_0 => exact hkn
      rintro v41_103 H41_103 ⟨rfl, rfl⟩
      refine TL_pure (d := (some 39)) rfl rfl rfl (PV_move rfl) ?_
      refine TL_pure (d := (some 42)) rfl rfl rfl (PV_extract rfl rfl) ?_
      refine TL_pure (d := (some 43)) rfl rfl rfl (PV_extract rfl rfl) ?_
      refine TL_pure (d := (some 13)) rfl rfl rfl (PV_assign rfl) ?_
      refine TL_pure (d := (some 14)) rfl rfl rfl (PV_assign rfl) ?_
      refine TL_nil ?_
      refine T_seq ?_
      refine T_region ?_
      refine TL_pure (d := (some 44)) rfl rfl rfl (PV_move rfl) ?_
      refine TL_nil ?_
      refine T_else rfl (by rfl) ?_
      refine T_skip ?_
      refine T_region ?_
      refine TL_pure (d := (some 45)) rfl rfl rfl (PV_move rfl) ?_
      refine TL_pure (d := (some 46)) rfl rfl rfl (PV_move rfl) ?_
      refine TL_cons rfl (TO_call0 call11 rfl rfl (t65e (T := T) (C := C) (k := k) ?sd105q167_0 ?sd105q167_1 ?sd105q167_2 ?sd105q167_3 ?sd105q167_4 ?sd105q167_5) ?_)
      case sd105q167_0 => omega
      case sd105q167_1 => omega
      case sd105q167_2 => exact hkn
      case sd105q167_3 => omega
      case sd105q167_4 => with_reducible assumption
      case sd105q167_5 => exact h_10_0
      rintro v47_106 H47_106 ⟨A_106, k_106, rfl, h_106_0, rfl⟩
      refine TL_pure (d := (some 48)) rfl rfl rfl (PV_b2s Tryd.underlying24 Tryd.underlying5 Tryd.underlying9 rfl (Shows.at 0 rfl)) ?_
      refine TL_pure (d := (some 49)) rfl rfl rfl (PV.cast (PV_bin rfl rfl (bin_str_add (by split <;> decide))) e49) ?_
      refine TL_pure (d := (some 11)) rfl rfl rfl (PV_assign rfl) ?_
      refine TL_nil ?_
      refine T_region ?_
      refine TL_pure (d := (some 37)) rfl rfl rfl (PV_move rfl) ?_
      refine TL_pure (d := (some 38)) rfl rfl rfl (PV.cast (PV_bin rfl rfl bin_add) (wr64 (by omega))) ?_
      refine TL_pure (d := (some 12)) rfl rfl rfl (PV_assign rfl) ?_
      refine TL_nil ?_
      refine ?L2
      case L2 => exact ⟨k + 1, by omega, by omega, (by repeat (first | exact FrSub.nil _ | refine FrSub.cons rfl ?_)), Has.of_sub (by repeat (first | exact List.Sublist.refl _ | exact List.sublist_append_right _ _ | exact List.sublist_append_left _ _ | apply List.Sublist.cons_cons | apply List.Sublist.cons | refine List.Sublist.trans ?_ (List.sublist_append_left _ _)))⟩
    · obtain rfl : k = T * C := by omega
      rw [if_neg hkn, sE_ge hkn]
      show SL.T _ _ _ _ _ _ _ (sC g_10 A'_10 c'_10 (sF T C (blksL l false (mn % 5)) crc) :: _)
      refine T_seq ?_
      refine T_seq ?_
      refine T_region ?_
      refine TL_pure (d := (some 34)) rfl rfl rfl (PV_move rfl) ?_
      refine TL_pure (d := (some 35)) rfl rfl rfl (PV_move rfl) ?_
      refine TL_pure (d := (some 36)) rfl rfl rfl (PV_bin rfl rfl bin_lss) ?_
      refine TL_nil ?_
      refine T_else rfl (by (simp; done)) ?_
      refine T_exit ?_
      refine T_seq ?_
      refine T_region ?_
      refine TL_pure (d := (some 51)) rfl rfl rfl (PV_move rfl) ?_
      refine TL_cons rfl (TO_call0 call10 rfl rfl (t61f) ?_)
      rintro v52_203 H52_203 ⟨rfl, rfl⟩
      refine TL_pure (d := (some 50)) rfl rfl rfl (PV_move rfl) ?_
      refine TL_pure (d := (some 53)) rfl rfl rfl (PV_extract rfl rfl) ?_
      refine TL_pure (d := (some 54)) rfl rfl rfl (PV_extract rfl rfl) ?_
      refine TL_pure (d := (some 15)) rfl rfl rfl (PV_assign rfl) ?_
      refine TL_pure (d := (some 16)) rfl rfl rfl (PV_assign rfl) ?_
      refine TL_nil ?_
      refine T_seq ?_
      refine T_region ?_
      refine TL_pure (d := (some 55)) rfl rfl rfl (PV_move rfl) ?_
      refine TL_pure (d := (some 56)) rfl rfl rfl (PV_move rfl) ?_
      refine TL_yes rfl rfl rfl (TO_pure rfl (PV_move rfl) ?_)
      refine TL_yes rfl rfl rfl (TO_call0 call12 rfl rfl (number_t ?sd205q175_0 ?sd205q175_1 _) ?_)
      case sd205q175_0 => exact hL
      case sd205q175_1 => exact hB0
      rintro v58_206 H58_206 ⟨rfl, rfl⟩
      refine TL_yes rfl rfl rfl (TO_pure rfl (PV_bin rfl rfl bin_eql) ?_)
      refine TL_pure (d := (some 60)) rfl rfl rfl (PV_pickAnd rfl rfl rfl) ?_
      refine TL_pure (d := (some 61)) rfl rfl rfl (PV_move rfl) ?_
      refine TL_yes rfl rfl rfl (TO_pure rfl (PV_move rfl) ?_)
      refine TL_yes rfl rfl rfl (TO_pure rfl (PV_bin rfl rfl bin_str_eql) ?_)
      refine TL_pure (d := (some 64)) rfl rfl rfl (PV_pickAnd rfl rfl rfl) ?_
      refine TL_pure (d := (some 65)) rfl rfl rfl (PV_move rfl) ?_
      refine TL_yes rfl rfl rfl (TO_pure rfl (PV_move rfl) ?_)
      refine TL_yes rfl rfl rfl (TO_call0 call11 rfl rfl (t65f ?sd208q175_0 ?sd208q175_1 ?sd208q175_2 ?sd208q175_3 ?sd208q175_4) ?_)
      case sd208q175_0 => omega
      case sd208q175_1 => omega
      case sd208q175_2 => omega
      case sd208q175_3 => with_reducible assumption
      case sd208q175_4 => exact h_10_0
      rintro v67_209 H67_209 ⟨A_209, k_209, rfl, h_209_0, rfl⟩
      refine TL_yes rfl rfl rfl (TO_pure rfl (PV_len_slice Tryd.underlying24 rfl) ?_)
      refine TL_yes rfl rfl rfl (TO_pure rfl (PV_bin rfl rfl bin_eql) ?_)
      refine TL_pure (d := (some 70)) rfl rfl rfl (PV_pickAnd rfl rfl rfl) ?_
      refine TL_pure (d := (some 71)) rfl rfl rfl (PV_move rfl) ?_
      refine TL_yes rfl rfl rfl (TO_pure rfl (PV_move rfl) ?_)
      refine TL_perm ((perm_pick (i := 1) rfl).trans (List.Perm.cons _ (List.Perm.refl _))) ?_
      refine TL_yes rfl rfl rfl (TO_call0 call13 rfl rfl (t59f 6 ?sd211q175_0 ?sd211q175_1 ?sd211q175_2 ?sd211q175_3 ?sd211q175_4) ?_)
      case sd211q175_0 => omega
      case sd211q175_1 => omega
      case sd211q175_2 => omega
      case sd211q175_3 => with_reducible assumption
      case sd211q175_4 => exact SBlk.mono h_10_0 (fun w h => h.sub (by (repeat (first | exact List.Sublist.refl _ | exact List.sublist_append_right _ _ | exact List.sublist_append_left _ _ | apply List.Sublist.cons | refine List.Sublist.trans ?_ (List.sublist_append_left _ _))); done))
      rintro v73_212 H73_212 ⟨A_212, k_212, rfl, h_212_0, rfl⟩
      refine TL_yes rfl rfl rfl (TO_pure rfl (PV_len_slice Tryd.underlying24 rfl) ?_)
      refine TL_yes rfl rfl rfl (TO_pure rfl (PV_bin rfl rfl bin_eql) ?_)
      refine TL_pure (d := (some 76)) rfl rfl rfl (PV_pickAnd rfl rfl rfl) ?_
      refine TL_pure (d := (some 8)) rfl rfl rfl (PV_assign rfl) ?_
      refine TL_nil ?_
      refine T_ret ?_
      refine ret_ret (ResV_one rfl rfl) ⟨_, ?zb213q175, ⟨rfl, rfl⟩⟩
      case zb213q175 => exact (by (repeat (first | exact List.Sublist.refl _ | exact List.sublist_append_right _ _ | exact List.sublist_append_left _ _ | apply List.Sublist.cons_cons | apply List.Sublist.cons | refine List.Sublist.trans ?_ (List.sublist_append_left _ _))); done)
end
end Go.Proofs.YtcbkcggijejooaaDoor.SL
