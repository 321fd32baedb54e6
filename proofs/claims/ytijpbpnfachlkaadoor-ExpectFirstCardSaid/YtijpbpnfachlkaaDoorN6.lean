import Derived.Test.YtijpbpnfachlkaaDoorN5
/- Tables of patterns: what one asks of a table. No statement is proved here. -/
set_option linter.unusedVariables false
set_option linter.unusedSimpArgs false
set_option maxRecDepth 100000
set_option maxHeartbeats 8000000
namespace Go.Proofs.YtijpbpnfachlkaaDoor.SL
open Go Go.RowKit
section
variable {w0 : World} {B n : Nat} {fr : Fr} {H X : List Chunk} {W : World → Prop} {g : Nat} {t : Rx}
theorem Tab.open (h : Tab W g t) : ∃ (As An Af Al : Option Addr) (cs cn cf cl : Nat) (rv : List Value),
    (Rd W ⟨g, 0 + 0, none⟩ (.slice As (pl t) cs) ∧ Rd W ⟨g, 0 + 1, none⟩ (.slice An (pl t) cn) ∧ Rd W ⟨g, 0 + 2, none⟩ (.slice Af (pl t) cf) ∧ Rd W ⟨g, 0 + 3, none⟩ (.slice Al (pl t) cl) ∧ Rd W ⟨g, 0 + 4, none⟩ (.bool (nul t))) ∧ pl t ≤ cs ∧ pl t ≤ cn ∧ pl t ≤ cf ∧ pl t ≤ cl ∧
    Shows W As (pl t) 4 (setCells (lvs t)) ∧ Shows W An (pl t) 1 rv ∧ Rows W t (pl t) rv (pl t) ∧ Shows W Af (pl t) 1 (bools (upL (fstP t 0) (pl t))) ∧ Shows W Al (pl t) 1 (bools (upL (lstP t 0) (pl t))) := by
  obtain ⟨As, An, Af, Al, cs, cn, cf, cl, rv, h1, r⟩ := h
  have k := fun j v hj => by have := h1 j v hj; rwa [add_plain'] at this
  exact ⟨As, An, Af, Al, cs, cn, cf, cl, rv, ⟨k 0 _ rfl, k 1 _ rfl, k 2 _ rfl, k 3 _ rfl, k 4 _ rfl⟩, r⟩
theorem Empty_t (hT : Tab (WH w0 B H) g t) : TCall Tryd.prog w0 B 25 #[.pointer (some ⟨g, 0, none⟩)] (fun r H' => r = .bool (nul t) ∧ H' = H) H := by
  obtain ⟨As, An, Af, Al, cs, cn, cf, cl, rv, ⟨r0, r1, r2, r3, r4⟩, h2, h3, h4, h5, h6, h7, h8, h9, h10⟩ := hT.open
  refine TCall_intro (args := [_]) Tryd.func25 rfl Tryd.ntmps25 (Nat.le_of_ble_eq_true rfl) ?_
  refine T_seq ?_
  refine T_region ?_
  refine TL_p (PV_assign rfl) ?_
  refine TL_nil ?_
  refine T_seq ?_
  refine T_region ?_
  refine TL_p (PV_move rfl) ?_
  refine TL_p (PV_nilCheck rfl) ?_
  refine TL_p (PV_fieldAddr (D := 4) Tryd.underlying101 rfl sz4 (by decide) rfl rfl) ?_
  refine TL_p (PV_load Tryd.underlying4 rfl rfl r4) ?_
  refine TL_p (PV_assign rfl) ?_
  refine TL_nil ?_
  refine T_ret ?_
  refine ret_ret (ResV_one rfl rfl) ⟨_, List.Sublist.refl _, ⟨rfl, rfl⟩⟩
theorem setCells_at : ∀ {L : List S4} {k j : Nat}, k < L.length → j < 4 → (setCells L)[k * 4 + j]? = (L.getD k S4.zero).cells[j]?
  | [], k, j, h, _ => absurd h (by simp)
  | s :: L, 0, j, _, hj => by
    show (s.cells ++ setCells L)[0 * 4 + j]? = _
    rw [List.getElem?_append_left (by simp [S4.cells]; omega), Nat.zero_mul, Nat.zero_add]
    rfl
  | s :: L, k + 1, j, h, hj => by
    show (s.cells ++ setCells L)[(k + 1) * 4 + j]? = _
    rw [List.getElem?_append_right (by simp [S4.cells]; omega), show (k + 1) * 4 + j - s.cells.length = k * 4 + j by simp [S4.cells]; omega, setCells_at (by simpa using h) hj]
    rfl
theorem setCells_len (L : List S4) : (setCells L).length = 4 * L.length := by
  induction L with
  | nil => rfl
  | cons s L ih => show (s.cells ++ setCells L).length = _; rw [List.length_append, ih]; simp [S4.cells]; omega
theorem fillL_skip {f : Nat → Bool} {i n : Nat} (h : f i = false) : fillL f (i + 1) n = fillL f i n := by
  unfold fillL
  apply List.map_congr_left
  intro j _
  by_cases hj : j = i
  · subst hj; simp [h]
  · rw [show decide (j < i + 1) = decide (j < i) from decide_eq_decide.2 (by omega)]
theorem stepL_fill (t : Rx) (at_ : List Bool) (c : Nat) (b : Bool) : fillL (stepAt t at_ c b) (pl t) (pl t) = stepL t at_ c b := by
  rw [fillL_full]; rfl
theorem Step_t (hT : Tab (WH w0 B H) g t) (hp : pl t ≤ 1000000) {A : Option Addr} {m c : Nat} {at_ : List Bool} (hS : Shows (WH w0 B H) A m 1 (bools at_)) (hm : at_.length = m) (hc : m ≤ c) (hm2 : m ≤ 4611686018427387904) {cb : Nat} (hcb : cb ≤ 255) (b : Bool) :
    TCall Tryd.prog w0 B 42 #[.pointer (some ⟨g, 0, none⟩), .slice A m c, .int .u8 (cb : Int), .bool b] (fun r H' => ∃ (g' : Nat), r = .slice (some ⟨g', 0, none⟩) (pl t) (pl t) ∧ H' = .sl (.slice (some ⟨g', 0, none⟩) (pl t) (pl t)) 1 (pl t) (bools (stepL t at_ cb b)) :: H) H := by
  obtain ⟨As, An, Af, Al, cs, cn, cf, cl, rv, ⟨r0, r1, r2, r3, r4⟩, h2, h3, h4, h5, h6, h7, h8, h9, h10⟩ := hT.open
  subst hm
  refine TCall_intro (args := [_, _, _, _]) Tryd.func42 rfl Tryd.ntmps42 (Nat.le_of_ble_eq_true rfl) ?_
  refine T_seq ?_
  refine T_region ?_
  refine TL_p (PV_assign rfl) ?_
  refine TL_nil ?_
  refine T_seq ?_
  refine T_region ?_
  refine TL_p (PV_move rfl) ?_
  refine TL_p (PV_nilCheck rfl) ?_
  refine TL_p (PV_fieldAddr (D := 0) Tryd.underlying101 rfl sz92 (by decide) rfl rfl) ?_
  refine TL_p (PV_load Tryd.underlying92 rfl rfl r0) ?_
  refine TL_p (PV_len_slice Tryd.underlying92 rfl) ?_
  refine TL_cons rfl (TO_make Tryd.underlying99 zb4 rfl (by omega) (by omega) rfl ⟨_, rfl⟩ ⟨_, rfl⟩ fun g1 => ?_)
  refine TL_p (PV_assign rfl) ?_
  refine TL_nil ?_
  refine T_seq ?_
  refine T_seq ?_
  refine T_region ?_
  refine TL_p (PV_move rfl) ?_
  refine TL_p (PV_nilCheck rfl) ?_
  refine TL_p (PV_fieldAddr (D := 0) Tryd.underlying101 rfl sz92 (by decide) rfl rfl) ?_
  refine TL_p (PV_load Tryd.underlying92 rfl rfl (Rd.mono r0 (fun w h => h.sub (by (repeat (first | exact Sb.r | exact Sb.ar | exact Sb.al | apply Sb.d | refine Sb.t ?_)); done)))) ?_
  refine TL_p (PV_len_slice Tryd.underlying92 rfl) ?_
  refine TL_p (PV_move rfl) ?_
  refine TL_nil ?_
  refine T_block ?_
  refine ?L1
  case L1 =>
    refine T_loopP1 (fun (k : Nat) => k ≤ pl t) (fun k => pl t - k) (fun k => [(0, .pointer (some ⟨g, 0, none⟩)), (1, .slice A at_.length c), (2, .int .u8 (cb : Int)), (3, .bool b), (9, .slice (some ⟨g1, 0, none⟩) (pl t) (pl t)), (23, .slice As (pl t) cs), (24, .int .i64 ((pl t : Nat) : Int)), (25, .int .i64 (k : Int))]) (fun k => .sl (.slice (some ⟨g1, 0, none⟩) (pl t) (pl t)) 1 (pl t) (bools (fillL (stepAt t at_ cb b) k (pl t))) :: H) 0 (Nat.zero_le _) (by repeat (first | exact FrSub.nil _ | refine FrSub.cons rfl ?_)) (by rw [fillL_zero]; exact Has.of_sub (by repeat (first | exact Sb.r | exact Sb.ar | exact Sb.al | apply Sb.c | apply Sb.d | refine Sb.t ?_))) ?_
    intro k hk
    by_cases hkl : k < pl t
    · have e82 : Value.int .i64 (IntKind.i64.wrap ((k : Int) + 1)) = .int .i64 ((k + 1 : Nat) : Int) := wr64n _ (by push_cast; rfl) (by omega)
      have hll := lvs_len t
      obtain ⟨st, hst⟩ : ∃ st, (lvs t).getD k S4.zero = st := ⟨_, rfl⟩
      have hhas := has_lvs t 0 k cb hkl
      rw [Nat.zero_add, hst] at hhas
      refine T_shows (h6.mono fun w h => h.sub (by repeat (first | exact Sb.r | exact Sb.ar | exact Sb.al | apply Sb.d | refine Sb.t ?_))) (by rw [setCells_len]; omega) fun gs os hA hrs => ?_
      subst hA
      have hset : RdsK _ gs (os + k * 4) 4 st.cells := ⟨rfl, fun j v hj => by
        rw [add_plain', Nat.add_assoc]
        have hj4 : j < 4 := (List.getElem?_eq_some_iff.1 hj).1
        exact hrs (k * 4 + j) v (by rw [setCells_at (by omega) hj4, hst]; exact hj)⟩
      have hh := fun {X : List Chunk} => Has_t (w0 := w0) (B := B) (H := X) st cb (by omega)
      have hz : (bools (fillL (stepAt t at_ cb b) k (pl t))).length = pl t := by rw [bools_len, fillL_len]
      cases hb : st.has cb with
      | false =>
        rw [hb] at hh hhas
        have hsk := fillL_skip (f := stepAt t at_ cb b) (i := k) (n := pl t) (by unfold stepAt; rw [hhas]; rfl)
        refine T_seq ?_
        refine T_region ?_
        refine TL_p (PV_bin rfl rfl bin_lss) ?_
        refine TL_nil ?_
        refine T_seq ?_
        refine T_then rfl (by exact decide_eq_true (by omega)) ?_
        refine T_skip ?_
        refine T_seq ?_
        refine T_block ?_
        refine T_seq ?_
        refine T_region ?_
        refine TL_p (PV_move rfl) ?_
        refine TL_p (PV_indexAddr Tryd.underlying92 sz27 rfl rfl rfl (by first | omega | decide | assumption)) ?_
        refine TL_p (PV_loadAt Tryd.underlying27 rfl sz27 rfl hset) ?_
        refine TL_cons rfl (TO_alloc rfl zr27 fun g1001 => ?_)
        refine TL_p (PV_assign rfl) ?_
        refine TL_cons rfl (TO_store 0 rfl rfl rfl sz27 rfl rfl rfl (all_one rfl) (by first | exact Nat.le_of_ble_eq_true rfl | (simp; done) | (simp; omega) | omega) ?_)
        refine TL_nil ?_
        refine T_seq ?_
        refine T_seq ?_
        refine T_region ?_
        refine TL_p (PV_loadAt Tryd.underlying27 rfl sz27 rfl (Rds.take 0 rfl rfl rfl)) ?_
        refine TL_p (PV_move rfl) ?_
        refine TL_cons rfl (TO_call0 call17 rfl rfl (hh) ?_)
        rintro v32_1005 H32_1005 ⟨rfl, rfl⟩
        refine TL_p (PV_not rfl) ?_
        refine TL_nil ?_
        refine T_then rfl (by rfl) ?_
        refine T_exit ?_
        refine T_region ?_
        refine TL_p (PV.cast (PV_bin rfl rfl bin_add) e82) ?_
        refine TL_p (PV_move rfl) ?_
        refine TL_nil ?_
        refine ?L11
        case L11 =>
          refine ⟨k + 1, by omega, by omega, (by repeat (first | exact FrSub.nil _ | refine FrSub.cons rfl ?_)), ?_⟩
          rw [hsk]
          exact Has.of_sub (by repeat (first | exact Sb.r | exact Sb.ar | exact Sb.al | apply Sb.c | apply Sb.d | refine Sb.t ?_))
      | true =>
        rw [hb] at hh hhas
        refine T_shows (h9.mono fun w h => h.sub (by repeat (first | exact Sb.r | exact Sb.ar | exact Sb.al | apply Sb.d | refine Sb.t ?_))) (by rw [bools_len, upL_len]; omega) fun gf of_ hA hrf => ?_
        subst hA
        have hf : Rd _ ⟨gf, of_ + k * 1, none⟩ (.bool (fstP t 0 k)) := hrf (k * 1) _ (by rw [Nat.mul_one, bools_at (by rw [upL_len]; exact hkl), upL_get _ hkl])
        cases b with
        | true =>
          refine T_seq ?_
          refine T_region ?_
          refine TL_p (PV_bin rfl rfl bin_lss) ?_
          refine TL_nil ?_
          refine T_seq ?_
          refine T_then rfl (by exact decide_eq_true (by omega)) ?_
          refine T_skip ?_
          refine T_seq ?_
          refine T_block ?_
          refine T_seq ?_
          refine T_region ?_
          refine TL_p (PV_move rfl) ?_
          refine TL_p (PV_indexAddr Tryd.underlying92 sz27 rfl rfl rfl (by first | omega | decide | assumption)) ?_
          refine TL_p (PV_loadAt Tryd.underlying27 rfl sz27 rfl hset) ?_
          refine TL_cons rfl (TO_alloc rfl zr27 fun g10001 => ?_)
          refine TL_p (PV_assign rfl) ?_
          refine TL_cons rfl (TO_store 0 rfl rfl rfl sz27 rfl rfl rfl (all_one rfl) (by first | exact Nat.le_of_ble_eq_true rfl | (simp; done) | (simp; omega) | omega) ?_)
          refine TL_nil ?_
          refine T_seq ?_
          refine T_seq ?_
          refine T_region ?_
          refine TL_p (PV_loadAt Tryd.underlying27 rfl sz27 rfl (Rds.take 0 rfl rfl rfl)) ?_
          refine TL_p (PV_move rfl) ?_
          refine TL_cons rfl (TO_call0 call17 rfl rfl (hh) ?_)
          rintro v32_10005 H32_10005 ⟨rfl, rfl⟩
          refine TL_p (PV_not rfl) ?_
          refine TL_nil ?_
          refine T_else rfl (by rfl) ?_
          refine T_skip ?_
          refine T_seq ?_
          refine T_region ?_
          refine TL_p (PV_move rfl) ?_
          refine TL_p (PV_move rfl) ?_
          refine TL_yes rfl rfl rfl (TO_pure rfl (PV_move rfl) ?_)
          refine TL_yes rfl rfl rfl (TO_pure rfl (PV_nilCheck rfl) ?_)
          refine TL_yes rfl rfl rfl (TO_pure rfl (PV_fieldAddr (D := 2) Tryd.underlying101 rfl sz99 (by decide) rfl rfl) ?_)
          refine TL_yes rfl rfl rfl (TO_pure rfl (PV_load Tryd.underlying99 rfl rfl (Rd.mono r2 (fun w h => h.sub (by (repeat (first | exact Sb.r | exact Sb.ar | exact Sb.al | apply Sb.d | refine Sb.t ?_)); done)))) ?_)
          refine TL_yes rfl rfl rfl (TO_pure rfl (PV_move rfl) ?_)
          refine TL_yes rfl rfl rfl (TO_pure rfl (PV_indexAddr Tryd.underlying99 sz4 rfl rfl rfl (by first | omega | decide | assumption)) ?_)
          refine TL_yes rfl rfl rfl (TO_pure rfl (PV_load Tryd.underlying4 rfl rfl (Rd.mono hf (fun w h => h.sub (by (repeat (first | exact Sb.r | exact Sb.ar | exact Sb.al | apply Sb.d | refine Sb.t ?_)); done)))) ?_)
          refine TL_p (PV_pickAnd rfl rfl rfl) ?_
          refine TL_p (PV_assign rfl) ?_
          refine TL_nil ?_
          refine T_seq ?_
          refine T_seq ?_
          refine T_region ?_
          refine TL_p (PV_move rfl) ?_
          refine TL_p (PV_len_slice Tryd.underlying99 rfl) ?_
          refine TL_p (PV_move rfl) ?_
          refine TL_nil ?_
          refine T_block ?_
          refine ?L101
          case L101 =>
            refine T_loopP2 (fun (j : Nat) (q : Bool) => j ≤ at_.length ∧ q = (fstP t 0 k || anyB t at_ k j)) (fun j _ => at_.length - j) (fun j q => [(0, .pointer (some ⟨g, 0, none⟩)), (1, .slice A at_.length c), (2, .int .u8 (cb : Int)), (3, .bool true), (9, .slice (some ⟨g1, 0, none⟩) (pl t) (pl t)), (10, .int .i64 (k : Int)), (12, .bool q), (23, .slice (some ⟨gs, os, none⟩) (pl t) cs), (24, .int .i64 ((pl t : Nat) : Int)), (25, .int .i64 (k : Int)), (45, .int .i64 (at_.length : Int)), (46, .int .i64 (j : Int))]) (fun j q => .sl (.slice (some ⟨g1, 0, none⟩) (pl t) (pl t)) 1 (pl t) (bools (fillL (stepAt t at_ cb true) k (pl t))) :: H) 0 _ ⟨Nat.zero_le _, (Bool.or_false _).symm⟩ (by repeat (first | exact FrSub.nil _ | refine FrSub.cons rfl ?_)) (Has.of_sub (by repeat (first | exact Sb.r | exact Sb.ar | exact Sb.al | apply Sb.c | apply Sb.d | refine Sb.t ?_))) ?_
            rintro j q ⟨hj, hq⟩
            by_cases hjl : j < at_.length
            · have e77 : Value.int .i64 (IntKind.i64.wrap ((j : Int) + 1)) = .int .i64 ((j + 1 : Nat) : Int) := wr64n _ (by push_cast; rfl) (by omega)
              have hany : anyB t at_ k (j + 1) = (anyB t at_ k j || (decide (j < pl t) && at_.getD j false && nxtP t 0 j k)) := rfl
              cases hqv : q with
              | true =>
                subst hqv
                refine T_seq ?_
                refine T_region ?_
                refine TL_p (PV_bin rfl rfl bin_lss) ?_
                refine TL_nil ?_
                refine T_seq ?_
                refine T_then rfl (by exact decide_eq_true (by omega)) ?_
                refine T_skip ?_
                refine T_seq ?_
                refine T_block ?_
                refine T_seq ?_
                refine T_region ?_
                refine TL_p (PV_move rfl) ?_
                refine TL_p (PV_assign rfl) ?_
                refine TL_nil ?_
                refine T_region ?_
                refine TL_p (PV_move rfl) ?_
                refine TL_p (PV_move rfl) ?_
                refine TL_no (b := true) rfl rfl rfl rfl ?_
                refine TL_no (b := true) rfl rfl rfl rfl ?_
                refine TL_no (b := true) rfl rfl rfl rfl ?_
                refine TL_no (b := true) rfl rfl rfl rfl ?_
                refine TL_no (b := true) rfl rfl rfl rfl ?_
                refine TL_no (b := true) rfl rfl rfl rfl ?_
                refine TL_no (b := true) rfl rfl rfl rfl ?_
                refine TL_no (b := true) rfl rfl rfl rfl ?_
                refine TL_noU rfl rfl rfl rfl ?_
                refine TL_noU rfl rfl rfl rfl ?_
                refine TL_noU rfl rfl rfl rfl ?_
                refine TL_noU rfl rfl rfl rfl ?_
                refine TL_no (b := true) rfl rfl rfl rfl ?_
                refine TL_no (b := true) rfl rfl rfl rfl ?_
                refine TL_noU rfl rfl rfl rfl ?_
                refine TL_noU rfl rfl rfl rfl ?_
                refine TL_noU rfl rfl rfl rfl ?_
                refine TL_noU rfl rfl rfl rfl ?_
                refine TL_noU rfl rfl rfl rfl ?_
                refine TL_noU rfl rfl rfl rfl ?_
                refine TL_noU rfl rfl rfl rfl ?_
                refine TL_noU rfl rfl rfl rfl ?_
                refine TL_noU rfl rfl rfl rfl ?_
                refine TL_noU rfl rfl rfl rfl ?_
                refine TL_no (b := true) rfl rfl rfl rfl ?_
                refine TL_p (PV_pickT rfl (by first | assumption | rfl | (simp; done) | (simp; omega) | (simp [*]; done) | (simp [*]; omega)) rfl rfl) ?_
                refine TL_p (PV_assign rfl) ?_
                refine TL_nil ?_
                refine T_region ?_
                refine TL_p (PV.cast (PV_bin rfl rfl bin_add) e77) ?_
                refine TL_p (PV_move rfl) ?_
                refine TL_nil ?_
                refine ?L111
                case L111 =>
                  exact ⟨j + 1, true, ⟨by omega, by rw [hany, ← Bool.or_assoc, ← hq]; rfl⟩, by omega, (by repeat (first | exact FrSub.nil _ | refine FrSub.cons rfl ?_)), Has.of_sub (by repeat (first | exact Sb.r | exact Sb.ar | exact Sb.al | apply Sb.c | apply Sb.d | refine Sb.t ?_))⟩
              | false =>
                subst hqv
                by_cases hjn : j < pl t
                · refine T_shows (hS.mono fun w h => h.sub (by repeat (first | exact Sb.r | exact Sb.ar | exact Sb.al | apply Sb.d | refine Sb.t ?_))) (by rw [bools_len]; omega) fun ga oa hA hra => ?_
                  subst hA
                  have ha : Rd _ ⟨ga, oa + j * 1, none⟩ (.bool (at_.getD j false)) := hra (j * 1) _ (by rw [Nat.mul_one]; exact bools_at hjl)
                  cases hav : at_.getD j false with
                  | false =>
                    rw [hav] at ha
                    refine T_seq ?_
                    refine T_region ?_
                    refine TL_p (PV_bin rfl rfl bin_lss) ?_
                    refine TL_nil ?_
                    refine T_seq ?_
                    refine T_then rfl (by exact decide_eq_true (by omega)) ?_
                    refine T_skip ?_
                    refine T_seq ?_
                    refine T_block ?_
                    refine T_seq ?_
                    refine T_region ?_
                    refine TL_p (PV_move rfl) ?_
                    refine TL_p (PV_assign rfl) ?_
                    refine TL_nil ?_
                    refine T_region ?_
                    refine TL_p (PV_move rfl) ?_
                    refine TL_p (PV_move rfl) ?_
                    refine TL_yes rfl rfl rfl (TO_pure rfl (PV_move rfl) ?_)
                    refine TL_yes rfl rfl rfl (TO_pure rfl (PV_move rfl) ?_)
                    refine TL_yes rfl rfl rfl (TO_pure rfl (PV_nilCheck rfl) ?_)
                    refine TL_yes rfl rfl rfl (TO_pure rfl (PV_fieldAddr (D := 1) Tryd.underlying101 rfl sz86 (by decide) rfl rfl) ?_)
                    refine TL_yes rfl rfl rfl (TO_pure rfl (PV_load Tryd.underlying86 rfl rfl (Rd.mono r1 (fun w h => h.sub (by (repeat (first | exact Sb.r | exact Sb.ar | exact Sb.al | apply Sb.d | refine Sb.t ?_)); done)))) ?_)
                    refine TL_yes rfl rfl rfl (TO_pure rfl (PV_len_slice Tryd.underlying86 rfl) ?_)
                    refine TL_yes rfl rfl rfl (TO_pure rfl (PV_bin rfl rfl bin_lss) ?_)
                    refine TL_yes rfl rfl rfl (TO_pure rfl (PV_move rfl) ?_)
                    refine TL_yes rfl rfl (gtrue (by exact decide_eq_true (by omega))) (TO_pure rfl (PV_move rfl) ?_)
                    refine TL_yes rfl rfl (gtrue (by exact decide_eq_true (by omega))) (TO_pure rfl (PV_move rfl) ?_)
                    refine TL_yes rfl rfl (gtrue (by exact decide_eq_true (by omega))) (TO_pure rfl (PV_indexAddr Tryd.underlying99 sz4 rfl rfl rfl (by first | omega | decide | assumption)) ?_)
                    refine TL_yes rfl rfl (gtrue (by exact decide_eq_true (by omega))) (TO_pure rfl (PV_load Tryd.underlying4 rfl rfl ha) ?_)
                    refine TL_yes rfl rfl rfl (TO_pure rfl (PV_pickAnd rfl rfl rfl) ?_)
                    refine TL_yes rfl rfl rfl (TO_pure rfl (PV_move rfl) ?_)
                    refine TL_no (b := false) rfl rfl (gfalse (by (simp; done))) rfl ?_
                    refine TL_no (b := false) rfl rfl (gfalse (by (simp; done))) rfl ?_
                    refine TL_no (b := false) rfl rfl (gfalse (by (simp; done))) rfl ?_
                    refine TL_no (b := false) rfl rfl (gfalse (by (simp; done))) rfl ?_
                    refine TL_no (b := false) rfl rfl (gfalse (by (simp; done))) rfl ?_
                    refine TL_no (b := false) rfl rfl (gfalse (by (simp; done))) rfl ?_
                    refine TL_no (b := false) rfl rfl (gfalse (by (simp; done))) rfl ?_
                    refine TL_no (b := false) rfl rfl (gfalse (by (simp; done))) rfl ?_
                    refine TL_no (b := false) rfl rfl (gfalse (by (simp; done))) rfl ?_
                    refine TL_no (b := false) rfl rfl (gfalse (by (simp; done))) rfl ?_
                    refine TL_yes rfl rfl rfl (TO_pure rfl (PV_pickF rfl (by first | assumption | rfl | (simp; done) | (simp; omega) | (simp [*]; done) | (simp [*]; omega)) rfl rfl) ?_)
                    refine TL_p (PV_pickOr rfl rfl rfl) ?_
                    refine TL_p (PV_assign rfl) ?_
                    refine TL_nil ?_
                    refine T_region ?_
                    refine TL_p (PV.cast (PV_bin rfl rfl bin_add) e77) ?_
                    refine TL_p (PV_move rfl) ?_
                    refine TL_nil ?_
                    refine ?L121
                    case L121 =>
                      exact ⟨j + 1, false, ⟨by omega, by rw [hany, ← Bool.or_assoc, ← hq, hav]; simp⟩, by omega, (by repeat (first | exact FrSub.nil _ | refine FrSub.cons rfl ?_)), Has.of_sub (by repeat (first | exact Sb.r | exact Sb.ar | exact Sb.al | apply Sb.c | apply Sb.d | refine Sb.t ?_))⟩
                  | true =>
                    rw [hav] at ha
                    refine T_shows (h7.mono fun w h => h.sub (by repeat (first | exact Sb.r | exact Sb.ar | exact Sb.al | apply Sb.d | refine Sb.t ?_))) (by rw [h8.1]; omega) fun gn on hA hrn => ?_
                    subst hA
                    obtain ⟨Ar, cr, hr1, hr2, hr3⟩ := h8.2 j hjn
                    have hrow : Rd _ ⟨gn, on + j * 1, none⟩ (.slice Ar (pl t) cr) := hrn (j * 1) _ (by rw [Nat.mul_one]; exact hr1)
                    refine T_shows (hr3.mono fun w h => h.sub (by repeat (first | exact Sb.r | exact Sb.ar | exact Sb.al | apply Sb.d | refine Sb.t ?_))) (by rw [bools_len, upL_len]; omega) fun gr or_ hA hrr => ?_
                    subst hA
                    have hcell : Rd _ ⟨gr, or_ + k * 1, none⟩ (.bool (nxtP t 0 j k)) := hrr (k * 1) _ (by rw [Nat.mul_one, bools_at (by rw [upL_len]; exact hkl), upL_get _ hkl])
                    refine T_seq ?_
                    refine T_region ?_
                    refine TL_p (PV_bin rfl rfl bin_lss) ?_
                    refine TL_nil ?_
                    refine T_seq ?_
                    refine T_then rfl (by exact decide_eq_true (by omega)) ?_
                    refine T_skip ?_
                    refine T_seq ?_
                    refine T_block ?_
                    refine T_seq ?_
                    refine T_region ?_
                    refine TL_p (PV_move rfl) ?_
                    refine TL_p (PV_assign rfl) ?_
                    refine TL_nil ?_
                    refine T_region ?_
                    refine TL_p (PV_move rfl) ?_
                    refine TL_p (PV_move rfl) ?_
                    refine TL_yes rfl rfl rfl (TO_pure rfl (PV_move rfl) ?_)
                    refine TL_yes rfl rfl rfl (TO_pure rfl (PV_move rfl) ?_)
                    refine TL_yes rfl rfl rfl (TO_pure rfl (PV_nilCheck rfl) ?_)
                    refine TL_yes rfl rfl rfl (TO_pure rfl (PV_fieldAddr (D := 1) Tryd.underlying101 rfl sz86 (by decide) rfl rfl) ?_)
                    refine TL_yes rfl rfl rfl (TO_pure rfl (PV_load Tryd.underlying86 rfl rfl (Rd.mono r1 (fun w h => h.sub (by (repeat (first | exact Sb.r | exact Sb.ar | exact Sb.al | apply Sb.d | refine Sb.t ?_)); done)))) ?_)
                    refine TL_yes rfl rfl rfl (TO_pure rfl (PV_len_slice Tryd.underlying86 rfl) ?_)
                    refine TL_yes rfl rfl rfl (TO_pure rfl (PV_bin rfl rfl bin_lss) ?_)
                    refine TL_yes rfl rfl rfl (TO_pure rfl (PV_move rfl) ?_)
                    refine TL_yes rfl rfl (gtrue (by exact decide_eq_true (by omega))) (TO_pure rfl (PV_move rfl) ?_)
                    refine TL_yes rfl rfl (gtrue (by exact decide_eq_true (by omega))) (TO_pure rfl (PV_move rfl) ?_)
                    refine TL_yes rfl rfl (gtrue (by exact decide_eq_true (by omega))) (TO_pure rfl (PV_indexAddr Tryd.underlying99 sz4 rfl rfl rfl (by first | omega | decide | assumption)) ?_)
                    refine TL_yes rfl rfl (gtrue (by exact decide_eq_true (by omega))) (TO_pure rfl (PV_load Tryd.underlying4 rfl rfl ha) ?_)
                    refine TL_yes rfl rfl rfl (TO_pure rfl (PV_pickAnd rfl rfl rfl) ?_)
                    refine TL_yes rfl rfl rfl (TO_pure rfl (PV_move rfl) ?_)
                    refine TL_yes rfl rfl (gtrue (by (simp; omega))) (TO_pure rfl (PV_move rfl) ?_)
                    refine TL_yes rfl rfl (gtrue (by (simp; omega))) (TO_pure rfl (PV_nilCheck rfl) ?_)
                    refine TL_yes rfl rfl (gtrue (by (simp; omega))) (TO_pure rfl (PV_fieldAddr (D := 1) Tryd.underlying101 rfl sz86 (by decide) rfl rfl) ?_)
                    refine TL_yes rfl rfl (gtrue (by (simp; omega))) (TO_pure rfl (PV_load Tryd.underlying86 rfl rfl (Rd.mono r1 (fun w h => h.sub (by (repeat (first | exact Sb.r | exact Sb.ar | exact Sb.al | apply Sb.d | refine Sb.t ?_)); done)))) ?_)
                    refine TL_yes rfl rfl (gtrue (by (simp; omega))) (TO_pure rfl (PV_move rfl) ?_)
                    refine TL_yes rfl rfl (gtrue (by (simp; omega))) (TO_pure rfl (PV_indexAddr Tryd.underlying86 sz99 rfl rfl rfl (by first | omega | decide | assumption)) ?_)
                    refine TL_yes rfl rfl (gtrue (by (simp; omega))) (TO_pure rfl (PV_load Tryd.underlying99 rfl rfl hrow) ?_)
                    refine TL_yes rfl rfl (gtrue (by (simp; omega))) (TO_pure rfl (PV_move rfl) ?_)
                    refine TL_yes rfl rfl (gtrue (by (simp; omega))) (TO_pure rfl (PV_indexAddr Tryd.underlying99 sz4 rfl rfl rfl (by first | omega | decide | assumption)) ?_)
                    refine TL_yes rfl rfl (gtrue (by (simp; omega))) (TO_pure rfl (PV_load Tryd.underlying4 rfl rfl hcell) ?_)
                    refine TL_yes rfl rfl rfl (TO_pure rfl (PV_pickAnd rfl rfl rfl) ?_)
                    refine TL_p (PV_pickOr rfl rfl rfl) ?_
                    refine TL_p (PV_assign rfl) ?_
                    refine TL_nil ?_
                    refine T_region ?_
                    refine TL_p (PV.cast (PV_bin rfl rfl bin_add) e77) ?_
                    refine TL_p (PV_move rfl) ?_
                    refine TL_nil ?_
                    refine ?L131
                    case L131 =>
                      exact ⟨j + 1, (false || decide ((j : Int) < ((pl t : Nat) : Int)) && true && nxtP t 0 j k), ⟨by omega, by rw [hany, ← Bool.or_assoc, ← hq, hav, decide_eq_true hjn, decide_eq_true (show (j : Int) < ((pl t : Nat) : Int) by omega)] <;> simp⟩, by omega, (by repeat (first | exact FrSub.nil _ | refine FrSub.cons rfl ?_)), Has.of_sub (by repeat (first | exact Sb.r | exact Sb.ar | exact Sb.al | apply Sb.c | apply Sb.d | refine Sb.t ?_))⟩
                · refine T_seq ?_
                  refine T_region ?_
                  refine TL_p (PV_bin rfl rfl bin_lss) ?_
                  refine TL_nil ?_
                  refine T_seq ?_
                  refine T_then rfl (by exact decide_eq_true (by omega)) ?_
                  refine T_skip ?_
                  refine T_seq ?_
                  refine T_block ?_
                  refine T_seq ?_
                  refine T_region ?_
                  refine TL_p (PV_move rfl) ?_
                  refine TL_p (PV_assign rfl) ?_
                  refine TL_nil ?_
                  refine T_region ?_
                  refine TL_p (PV_move rfl) ?_
                  refine TL_p (PV_move rfl) ?_
                  refine TL_yes rfl rfl rfl (TO_pure rfl (PV_move rfl) ?_)
                  refine TL_yes rfl rfl rfl (TO_pure rfl (PV_move rfl) ?_)
                  refine TL_yes rfl rfl rfl (TO_pure rfl (PV_nilCheck rfl) ?_)
                  refine TL_yes rfl rfl rfl (TO_pure rfl (PV_fieldAddr (D := 1) Tryd.underlying101 rfl sz86 (by decide) rfl rfl) ?_)
                  refine TL_yes rfl rfl rfl (TO_pure rfl (PV_load Tryd.underlying86 rfl rfl (Rd.mono r1 (fun w h => h.sub (by (repeat (first | exact Sb.r | exact Sb.ar | exact Sb.al | apply Sb.d | refine Sb.t ?_)); done)))) ?_)
                  refine TL_yes rfl rfl rfl (TO_pure rfl (PV_len_slice Tryd.underlying86 rfl) ?_)
                  refine TL_yes rfl rfl rfl (TO_pure rfl (PV_bin rfl rfl bin_lss) ?_)
                  refine TL_yes rfl rfl rfl (TO_pure rfl (PV_move rfl) ?_)
                  refine TL_no (b := false) rfl rfl (gfalse (by exact decide_eq_false (by omega))) rfl ?_
                  refine TL_no (b := false) rfl rfl (gfalse (by exact decide_eq_false (by omega))) rfl ?_
                  refine TL_no (b := false) rfl rfl (gfalse (by exact decide_eq_false (by omega))) rfl ?_
                  refine TL_no (b := false) rfl rfl (gfalse (by exact decide_eq_false (by omega))) rfl ?_
                  refine TL_yes rfl rfl rfl (TO_pure rfl (PV_pickF rfl (by first | assumption | rfl | (simp; done) | (simp; omega) | (simp [*]; done) | (simp [*]; omega)) rfl rfl) ?_)
                  refine TL_yes rfl rfl rfl (TO_pure rfl (PV_move rfl) ?_)
                  refine TL_no (b := false) rfl rfl rfl rfl ?_
                  refine TL_no (b := false) rfl rfl rfl rfl ?_
                  refine TL_no (b := false) rfl rfl rfl rfl ?_
                  refine TL_no (b := false) rfl rfl rfl rfl ?_
                  refine TL_no (b := false) rfl rfl rfl rfl ?_
                  refine TL_no (b := false) rfl rfl rfl rfl ?_
                  refine TL_no (b := false) rfl rfl rfl rfl ?_
                  refine TL_no (b := false) rfl rfl rfl rfl ?_
                  refine TL_no (b := false) rfl rfl rfl rfl ?_
                  refine TL_no (b := false) rfl rfl rfl rfl ?_
                  refine TL_yes rfl rfl rfl (TO_pure rfl (PV_pickF rfl (by first | assumption | rfl | (simp; done) | (simp; omega) | (simp [*]; done) | (simp [*]; omega)) rfl rfl) ?_)
                  refine TL_p (PV_pickOr rfl rfl rfl) ?_
                  refine TL_p (PV_assign rfl) ?_
                  refine TL_nil ?_
                  refine T_region ?_
                  refine TL_p (PV.cast (PV_bin rfl rfl bin_add) e77) ?_
                  refine TL_p (PV_move rfl) ?_
                  refine TL_nil ?_
                  refine ?L141
                  case L141 =>
                    exact ⟨j + 1, false, ⟨by omega, by rw [hany, ← Bool.or_assoc, ← hq, decide_eq_false hjn]; simp⟩, by omega, (by repeat (first | exact FrSub.nil _ | refine FrSub.cons rfl ?_)), Has.of_sub (by repeat (first | exact Sb.r | exact Sb.ar | exact Sb.al | apply Sb.c | apply Sb.d | refine Sb.t ?_))⟩
            · obtain rfl : j = at_.length := by omega
              have hsv : stepAt t at_ cb true k = q := by unfold stepAt; rw [hhas, hq]; simp
              have hst2 := fillL_step (stepAt t at_ cb true) hkl
              rw [hsv] at hst2
              refine T_seq ?_
              refine T_region ?_
              refine TL_p (PV_bin rfl rfl bin_lss) ?_
              refine TL_nil ?_
              refine T_seq ?_
              refine T_else rfl (by (simp; done)) ?_
              refine T_exit ?_
              refine T_region ?_
              refine TL_p (PV_move rfl) ?_
              refine TL_p (PV_move rfl) ?_
              refine TL_p (PV_move rfl) ?_
              refine TL_p (PV_indexAddr Tryd.underlying99 sz4 rfl rfl rfl (by first | omega | decide | assumption)) ?_
              refine TL_cons rfl (TO_store1 0 rfl rfl rfl sz4 rfl rfl rfl (by first | exact Nat.le_of_ble_eq_true rfl | (simp; done) | (simp; omega) | omega) ?_)
              refine TL_nil ?_
              refine T_region ?_
              refine TL_p (PV.cast (PV_bin rfl rfl bin_add) e82) ?_
              refine TL_p (PV_move rfl) ?_
              refine TL_nil ?_
              refine ?L151
              case L151 =>
                refine ⟨k + 1, by omega, by omega, (by repeat (first | exact FrSub.nil _ | refine FrSub.cons rfl ?_)), ?_⟩
                rw [← hst2, ← bools_set, show 0 + k * 1 = k by omega]
                exact Has.of_sub (by repeat (first | exact Sb.r | exact Sb.ar | exact Sb.al | apply Sb.c | apply Sb.d | refine Sb.t ?_))
        | false =>
          refine T_seq ?_
          refine T_region ?_
          refine TL_p (PV_bin rfl rfl bin_lss) ?_
          refine TL_nil ?_
          refine T_seq ?_
          refine T_then rfl (by exact decide_eq_true (by omega)) ?_
          refine T_skip ?_
          refine T_seq ?_
          refine T_block ?_
          refine T_seq ?_
          refine T_region ?_
          refine TL_p (PV_move rfl) ?_
          refine TL_p (PV_indexAddr Tryd.underlying92 sz27 rfl rfl rfl (by first | omega | decide | assumption)) ?_
          refine TL_p (PV_loadAt Tryd.underlying27 rfl sz27 rfl hset) ?_
          refine TL_cons rfl (TO_alloc rfl zr27 fun g20001 => ?_)
          refine TL_p (PV_assign rfl) ?_
          refine TL_cons rfl (TO_store 0 rfl rfl rfl sz27 rfl rfl rfl (all_one rfl) (by first | exact Nat.le_of_ble_eq_true rfl | (simp; done) | (simp; omega) | omega) ?_)
          refine TL_nil ?_
          refine T_seq ?_
          refine T_seq ?_
          refine T_region ?_
          refine TL_p (PV_loadAt Tryd.underlying27 rfl sz27 rfl (Rds.take 0 rfl rfl rfl)) ?_
          refine TL_p (PV_move rfl) ?_
          refine TL_cons rfl (TO_call0 call17 rfl rfl (hh) ?_)
          rintro v32_20005 H32_20005 ⟨rfl, rfl⟩
          refine TL_p (PV_not rfl) ?_
          refine TL_nil ?_
          refine T_else rfl (by rfl) ?_
          refine T_skip ?_
          refine T_seq ?_
          refine T_region ?_
          refine TL_p (PV_move rfl) ?_
          refine TL_p (PV_move rfl) ?_
          refine TL_no (b := false) rfl rfl rfl rfl ?_
          refine TL_no (b := false) rfl rfl rfl rfl ?_
          refine TL_no (b := false) rfl rfl rfl rfl ?_
          refine TL_no (b := false) rfl rfl rfl rfl ?_
          refine TL_no (b := false) rfl rfl rfl rfl ?_
          refine TL_no (b := false) rfl rfl rfl rfl ?_
          refine TL_no (b := false) rfl rfl rfl rfl ?_
          refine TL_p (PV_pickF rfl (by first | assumption | rfl | (simp; done) | (simp; omega) | (simp [*]; done) | (simp [*]; omega)) rfl rfl) ?_
          refine TL_p (PV_assign rfl) ?_
          refine TL_nil ?_
          refine T_seq ?_
          refine T_seq ?_
          refine T_region ?_
          refine TL_p (PV_move rfl) ?_
          refine TL_p (PV_len_slice Tryd.underlying99 rfl) ?_
          refine TL_p (PV_move rfl) ?_
          refine TL_nil ?_
          refine T_block ?_
          refine ?L201
          case L201 =>
            refine T_loopP2 (fun (j : Nat) (q : Bool) => j ≤ at_.length ∧ q = (false || anyB t at_ k j)) (fun j _ => at_.length - j) (fun j q => [(0, .pointer (some ⟨g, 0, none⟩)), (1, .slice A at_.length c), (2, .int .u8 (cb : Int)), (3, .bool false), (9, .slice (some ⟨g1, 0, none⟩) (pl t) (pl t)), (10, .int .i64 (k : Int)), (12, .bool q), (23, .slice (some ⟨gs, os, none⟩) (pl t) cs), (24, .int .i64 ((pl t : Nat) : Int)), (25, .int .i64 (k : Int)), (45, .int .i64 (at_.length : Int)), (46, .int .i64 (j : Int))]) (fun j q => .sl (.slice (some ⟨g1, 0, none⟩) (pl t) (pl t)) 1 (pl t) (bools (fillL (stepAt t at_ cb false) k (pl t))) :: H) 0 _ ⟨Nat.zero_le _, (Bool.or_false _).symm⟩ (by repeat (first | exact FrSub.nil _ | refine FrSub.cons rfl ?_)) (Has.of_sub (by repeat (first | exact Sb.r | exact Sb.ar | exact Sb.al | apply Sb.c | apply Sb.d | refine Sb.t ?_))) ?_
            rintro j q ⟨hj, hq⟩
            by_cases hjl : j < at_.length
            · have e77 : Value.int .i64 (IntKind.i64.wrap ((j : Int) + 1)) = .int .i64 ((j + 1 : Nat) : Int) := wr64n _ (by push_cast; rfl) (by omega)
              have hany : anyB t at_ k (j + 1) = (anyB t at_ k j || (decide (j < pl t) && at_.getD j false && nxtP t 0 j k)) := rfl
              cases hqv : q with
              | true =>
                subst hqv
                refine T_seq ?_
                refine T_region ?_
                refine TL_p (PV_bin rfl rfl bin_lss) ?_
                refine TL_nil ?_
                refine T_seq ?_
                refine T_then rfl (by exact decide_eq_true (by omega)) ?_
                refine T_skip ?_
                refine T_seq ?_
                refine T_block ?_
                refine T_seq ?_
                refine T_region ?_
                refine TL_p (PV_move rfl) ?_
                refine TL_p (PV_assign rfl) ?_
                refine TL_nil ?_
                refine T_region ?_
                refine TL_p (PV_move rfl) ?_
                refine TL_p (PV_move rfl) ?_
                refine TL_no (b := true) rfl rfl rfl rfl ?_
                refine TL_no (b := true) rfl rfl rfl rfl ?_
                refine TL_no (b := true) rfl rfl rfl rfl ?_
                refine TL_no (b := true) rfl rfl rfl rfl ?_
                refine TL_no (b := true) rfl rfl rfl rfl ?_
                refine TL_no (b := true) rfl rfl rfl rfl ?_
                refine TL_no (b := true) rfl rfl rfl rfl ?_
                refine TL_no (b := true) rfl rfl rfl rfl ?_
                refine TL_noU rfl rfl rfl rfl ?_
                refine TL_noU rfl rfl rfl rfl ?_
                refine TL_noU rfl rfl rfl rfl ?_
                refine TL_noU rfl rfl rfl rfl ?_
                refine TL_no (b := true) rfl rfl rfl rfl ?_
                refine TL_no (b := true) rfl rfl rfl rfl ?_
                refine TL_noU rfl rfl rfl rfl ?_
                refine TL_noU rfl rfl rfl rfl ?_
                refine TL_noU rfl rfl rfl rfl ?_
                refine TL_noU rfl rfl rfl rfl ?_
                refine TL_noU rfl rfl rfl rfl ?_
                refine TL_noU rfl rfl rfl rfl ?_
                refine TL_noU rfl rfl rfl rfl ?_
                refine TL_noU rfl rfl rfl rfl ?_
                refine TL_noU rfl rfl rfl rfl ?_
                refine TL_noU rfl rfl rfl rfl ?_
                refine TL_no (b := true) rfl rfl rfl rfl ?_
                refine TL_p (PV_pickT rfl (by first | assumption | rfl | (simp; done) | (simp; omega) | (simp [*]; done) | (simp [*]; omega)) rfl rfl) ?_
                refine TL_p (PV_assign rfl) ?_
                refine TL_nil ?_
                refine T_region ?_
                refine TL_p (PV.cast (PV_bin rfl rfl bin_add) e77) ?_
                refine TL_p (PV_move rfl) ?_
                refine TL_nil ?_
                refine ?L211
                case L211 =>
                  exact ⟨j + 1, true, ⟨by omega, by rw [hany, ← Bool.or_assoc, ← hq]; rfl⟩, by omega, (by repeat (first | exact FrSub.nil _ | refine FrSub.cons rfl ?_)), Has.of_sub (by repeat (first | exact Sb.r | exact Sb.ar | exact Sb.al | apply Sb.c | apply Sb.d | refine Sb.t ?_))⟩
              | false =>
                subst hqv
                by_cases hjn : j < pl t
                · refine T_shows (hS.mono fun w h => h.sub (by repeat (first | exact Sb.r | exact Sb.ar | exact Sb.al | apply Sb.d | refine Sb.t ?_))) (by rw [bools_len]; omega) fun ga oa hA hra => ?_
                  subst hA
                  have ha : Rd _ ⟨ga, oa + j * 1, none⟩ (.bool (at_.getD j false)) := hra (j * 1) _ (by rw [Nat.mul_one]; exact bools_at hjl)
                  cases hav : at_.getD j false with
                  | false =>
                    rw [hav] at ha
                    refine T_seq ?_
                    refine T_region ?_
                    refine TL_p (PV_bin rfl rfl bin_lss) ?_
                    refine TL_nil ?_
                    refine T_seq ?_
                    refine T_then rfl (by exact decide_eq_true (by omega)) ?_
                    refine T_skip ?_
                    refine T_seq ?_
                    refine T_block ?_
                    refine T_seq ?_
                    refine T_region ?_
                    refine TL_p (PV_move rfl) ?_
                    refine TL_p (PV_assign rfl) ?_
                    refine TL_nil ?_
                    refine T_region ?_
                    refine TL_p (PV_move rfl) ?_
                    refine TL_p (PV_move rfl) ?_
                    refine TL_yes rfl rfl rfl (TO_pure rfl (PV_move rfl) ?_)
                    refine TL_yes rfl rfl rfl (TO_pure rfl (PV_move rfl) ?_)
                    refine TL_yes rfl rfl rfl (TO_pure rfl (PV_nilCheck rfl) ?_)
                    refine TL_yes rfl rfl rfl (TO_pure rfl (PV_fieldAddr (D := 1) Tryd.underlying101 rfl sz86 (by decide) rfl rfl) ?_)
                    refine TL_yes rfl rfl rfl (TO_pure rfl (PV_load Tryd.underlying86 rfl rfl (Rd.mono r1 (fun w h => h.sub (by (repeat (first | exact Sb.r | exact Sb.ar | exact Sb.al | apply Sb.d | refine Sb.t ?_)); done)))) ?_)
                    refine TL_yes rfl rfl rfl (TO_pure rfl (PV_len_slice Tryd.underlying86 rfl) ?_)
                    refine TL_yes rfl rfl rfl (TO_pure rfl (PV_bin rfl rfl bin_lss) ?_)
                    refine TL_yes rfl rfl rfl (TO_pure rfl (PV_move rfl) ?_)
                    refine TL_yes rfl rfl (gtrue (by exact decide_eq_true (by omega))) (TO_pure rfl (PV_move rfl) ?_)
                    refine TL_yes rfl rfl (gtrue (by exact decide_eq_true (by omega))) (TO_pure rfl (PV_move rfl) ?_)
                    refine TL_yes rfl rfl (gtrue (by exact decide_eq_true (by omega))) (TO_pure rfl (PV_indexAddr Tryd.underlying99 sz4 rfl rfl rfl (by first | omega | decide | assumption)) ?_)
                    refine TL_yes rfl rfl (gtrue (by exact decide_eq_true (by omega))) (TO_pure rfl (PV_load Tryd.underlying4 rfl rfl ha) ?_)
                    refine TL_yes rfl rfl rfl (TO_pure rfl (PV_pickAnd rfl rfl rfl) ?_)
                    refine TL_yes rfl rfl rfl (TO_pure rfl (PV_move rfl) ?_)
                    refine TL_no (b := false) rfl rfl (gfalse (by (simp; done))) rfl ?_
                    refine TL_no (b := false) rfl rfl (gfalse (by (simp; done))) rfl ?_
                    refine TL_no (b := false) rfl rfl (gfalse (by (simp; done))) rfl ?_
                    refine TL_no (b := false) rfl rfl (gfalse (by (simp; done))) rfl ?_
                    refine TL_no (b := false) rfl rfl (gfalse (by (simp; done))) rfl ?_
                    refine TL_no (b := false) rfl rfl (gfalse (by (simp; done))) rfl ?_
                    refine TL_no (b := false) rfl rfl (gfalse (by (simp; done))) rfl ?_
                    refine TL_no (b := false) rfl rfl (gfalse (by (simp; done))) rfl ?_
                    refine TL_no (b := false) rfl rfl (gfalse (by (simp; done))) rfl ?_
                    refine TL_no (b := false) rfl rfl (gfalse (by (simp; done))) rfl ?_
                    refine TL_yes rfl rfl rfl (TO_pure rfl (PV_pickF rfl (by first | assumption | rfl | (simp; done) | (simp; omega) | (simp [*]; done) | (simp [*]; omega)) rfl rfl) ?_)
                    refine TL_p (PV_pickOr rfl rfl rfl) ?_
                    refine TL_p (PV_assign rfl) ?_
                    refine TL_nil ?_
                    refine T_region ?_
                    refine TL_p (PV.cast (PV_bin rfl rfl bin_add) e77) ?_
                    refine TL_p (PV_move rfl) ?_
                    refine TL_nil ?_
                    refine ?L221
                    case L221 =>
                      exact ⟨j + 1, false, ⟨by omega, by rw [hany, ← Bool.or_assoc, ← hq, hav]; simp⟩, by omega, (by repeat (first | exact FrSub.nil _ | refine FrSub.cons rfl ?_)), Has.of_sub (by repeat (first | exact Sb.r | exact Sb.ar | exact Sb.al | apply Sb.c | apply Sb.d | refine Sb.t ?_))⟩
                  | true =>
                    rw [hav] at ha
                    refine T_shows (h7.mono fun w h => h.sub (by repeat (first | exact Sb.r | exact Sb.ar | exact Sb.al | apply Sb.d | refine Sb.t ?_))) (by rw [h8.1]; omega) fun gn on hA hrn => ?_
                    subst hA
                    obtain ⟨Ar, cr, hr1, hr2, hr3⟩ := h8.2 j hjn
                    have hrow : Rd _ ⟨gn, on + j * 1, none⟩ (.slice Ar (pl t) cr) := hrn (j * 1) _ (by rw [Nat.mul_one]; exact hr1)
                    refine T_shows (hr3.mono fun w h => h.sub (by repeat (first | exact Sb.r | exact Sb.ar | exact Sb.al | apply Sb.d | refine Sb.t ?_))) (by rw [bools_len, upL_len]; omega) fun gr or_ hA hrr => ?_
                    subst hA
                    have hcell : Rd _ ⟨gr, or_ + k * 1, none⟩ (.bool (nxtP t 0 j k)) := hrr (k * 1) _ (by rw [Nat.mul_one, bools_at (by rw [upL_len]; exact hkl), upL_get _ hkl])
                    refine T_seq ?_
                    refine T_region ?_
                    refine TL_p (PV_bin rfl rfl bin_lss) ?_
                    refine TL_nil ?_
                    refine T_seq ?_
                    refine T_then rfl (by exact decide_eq_true (by omega)) ?_
                    refine T_skip ?_
                    refine T_seq ?_
                    refine T_block ?_
                    refine T_seq ?_
                    refine T_region ?_
                    refine TL_p (PV_move rfl) ?_
                    refine TL_p (PV_assign rfl) ?_
                    refine TL_nil ?_
                    refine T_region ?_
                    refine TL_p (PV_move rfl) ?_
                    refine TL_p (PV_move rfl) ?_
                    refine TL_yes rfl rfl rfl (TO_pure rfl (PV_move rfl) ?_)
                    refine TL_yes rfl rfl rfl (TO_pure rfl (PV_move rfl) ?_)
                    refine TL_yes rfl rfl rfl (TO_pure rfl (PV_nilCheck rfl) ?_)
                    refine TL_yes rfl rfl rfl (TO_pure rfl (PV_fieldAddr (D := 1) Tryd.underlying101 rfl sz86 (by decide) rfl rfl) ?_)
                    refine TL_yes rfl rfl rfl (TO_pure rfl (PV_load Tryd.underlying86 rfl rfl (Rd.mono r1 (fun w h => h.sub (by (repeat (first | exact Sb.r | exact Sb.ar | exact Sb.al | apply Sb.d | refine Sb.t ?_)); done)))) ?_)
                    refine TL_yes rfl rfl rfl (TO_pure rfl (PV_len_slice Tryd.underlying86 rfl) ?_)
                    refine TL_yes rfl rfl rfl (TO_pure rfl (PV_bin rfl rfl bin_lss) ?_)
                    refine TL_yes rfl rfl rfl (TO_pure rfl (PV_move rfl) ?_)
                    refine TL_yes rfl rfl (gtrue (by exact decide_eq_true (by omega))) (TO_pure rfl (PV_move rfl) ?_)
                    refine TL_yes rfl rfl (gtrue (by exact decide_eq_true (by omega))) (TO_pure rfl (PV_move rfl) ?_)
                    refine TL_yes rfl rfl (gtrue (by exact decide_eq_true (by omega))) (TO_pure rfl (PV_indexAddr Tryd.underlying99 sz4 rfl rfl rfl (by first | omega | decide | assumption)) ?_)
                    refine TL_yes rfl rfl (gtrue (by exact decide_eq_true (by omega))) (TO_pure rfl (PV_load Tryd.underlying4 rfl rfl ha) ?_)
                    refine TL_yes rfl rfl rfl (TO_pure rfl (PV_pickAnd rfl rfl rfl) ?_)
                    refine TL_yes rfl rfl rfl (TO_pure rfl (PV_move rfl) ?_)
                    refine TL_yes rfl rfl (gtrue (by (simp; omega))) (TO_pure rfl (PV_move rfl) ?_)
                    refine TL_yes rfl rfl (gtrue (by (simp; omega))) (TO_pure rfl (PV_nilCheck rfl) ?_)
                    refine TL_yes rfl rfl (gtrue (by (simp; omega))) (TO_pure rfl (PV_fieldAddr (D := 1) Tryd.underlying101 rfl sz86 (by decide) rfl rfl) ?_)
                    refine TL_yes rfl rfl (gtrue (by (simp; omega))) (TO_pure rfl (PV_load Tryd.underlying86 rfl rfl (Rd.mono r1 (fun w h => h.sub (by (repeat (first | exact Sb.r | exact Sb.ar | exact Sb.al | apply Sb.d | refine Sb.t ?_)); done)))) ?_)
                    refine TL_yes rfl rfl (gtrue (by (simp; omega))) (TO_pure rfl (PV_move rfl) ?_)
                    refine TL_yes rfl rfl (gtrue (by (simp; omega))) (TO_pure rfl (PV_indexAddr Tryd.underlying86 sz99 rfl rfl rfl (by first | omega | decide | assumption)) ?_)
                    refine TL_yes rfl rfl (gtrue (by (simp; omega))) (TO_pure rfl (PV_load Tryd.underlying99 rfl rfl hrow) ?_)
                    refine TL_yes rfl rfl (gtrue (by (simp; omega))) (TO_pure rfl (PV_move rfl) ?_)
                    refine TL_yes rfl rfl (gtrue (by (simp; omega))) (TO_pure rfl (PV_indexAddr Tryd.underlying99 sz4 rfl rfl rfl (by first | omega | decide | assumption)) ?_)
                    refine TL_yes rfl rfl (gtrue (by (simp; omega))) (TO_pure rfl (PV_load Tryd.underlying4 rfl rfl hcell) ?_)
                    refine TL_yes rfl rfl rfl (TO_pure rfl (PV_pickAnd rfl rfl rfl) ?_)
                    refine TL_p (PV_pickOr rfl rfl rfl) ?_
                    refine TL_p (PV_assign rfl) ?_
                    refine TL_nil ?_
                    refine T_region ?_
                    refine TL_p (PV.cast (PV_bin rfl rfl bin_add) e77) ?_
                    refine TL_p (PV_move rfl) ?_
                    refine TL_nil ?_
                    refine ?L231
                    case L231 =>
                      exact ⟨j + 1, (false || decide ((j : Int) < ((pl t : Nat) : Int)) && true && nxtP t 0 j k), ⟨by omega, by rw [hany, ← Bool.or_assoc, ← hq, hav, decide_eq_true hjn, decide_eq_true (show (j : Int) < ((pl t : Nat) : Int) by omega)] <;> simp⟩, by omega, (by repeat (first | exact FrSub.nil _ | refine FrSub.cons rfl ?_)), Has.of_sub (by repeat (first | exact Sb.r | exact Sb.ar | exact Sb.al | apply Sb.c | apply Sb.d | refine Sb.t ?_))⟩
                · refine T_seq ?_
                  refine T_region ?_
                  refine TL_p (PV_bin rfl rfl bin_lss) ?_
                  refine TL_nil ?_
                  refine T_seq ?_
                  refine T_then rfl (by exact decide_eq_true (by omega)) ?_
                  refine T_skip ?_
                  refine T_seq ?_
                  refine T_block ?_
                  refine T_seq ?_
                  refine T_region ?_
                  refine TL_p (PV_move rfl) ?_
                  refine TL_p (PV_assign rfl) ?_
                  refine TL_nil ?_
                  refine T_region ?_
                  refine TL_p (PV_move rfl) ?_
                  refine TL_p (PV_move rfl) ?_
                  refine TL_yes rfl rfl rfl (TO_pure rfl (PV_move rfl) ?_)
                  refine TL_yes rfl rfl rfl (TO_pure rfl (PV_move rfl) ?_)
                  refine TL_yes rfl rfl rfl (TO_pure rfl (PV_nilCheck rfl) ?_)
                  refine TL_yes rfl rfl rfl (TO_pure rfl (PV_fieldAddr (D := 1) Tryd.underlying101 rfl sz86 (by decide) rfl rfl) ?_)
                  refine TL_yes rfl rfl rfl (TO_pure rfl (PV_load Tryd.underlying86 rfl rfl (Rd.mono r1 (fun w h => h.sub (by (repeat (first | exact Sb.r | exact Sb.ar | exact Sb.al | apply Sb.d | refine Sb.t ?_)); done)))) ?_)
                  refine TL_yes rfl rfl rfl (TO_pure rfl (PV_len_slice Tryd.underlying86 rfl) ?_)
                  refine TL_yes rfl rfl rfl (TO_pure rfl (PV_bin rfl rfl bin_lss) ?_)
                  refine TL_yes rfl rfl rfl (TO_pure rfl (PV_move rfl) ?_)
                  refine TL_no (b := false) rfl rfl (gfalse (by exact decide_eq_false (by omega))) rfl ?_
                  refine TL_no (b := false) rfl rfl (gfalse (by exact decide_eq_false (by omega))) rfl ?_
                  refine TL_no (b := false) rfl rfl (gfalse (by exact decide_eq_false (by omega))) rfl ?_
                  refine TL_no (b := false) rfl rfl (gfalse (by exact decide_eq_false (by omega))) rfl ?_
                  refine TL_yes rfl rfl rfl (TO_pure rfl (PV_pickF rfl (by first | assumption | rfl | (simp; done) | (simp; omega) | (simp [*]; done) | (simp [*]; omega)) rfl rfl) ?_)
                  refine TL_yes rfl rfl rfl (TO_pure rfl (PV_move rfl) ?_)
                  refine TL_no (b := false) rfl rfl rfl rfl ?_
                  refine TL_no (b := false) rfl rfl rfl rfl ?_
                  refine TL_no (b := false) rfl rfl rfl rfl ?_
                  refine TL_no (b := false) rfl rfl rfl rfl ?_
                  refine TL_no (b := false) rfl rfl rfl rfl ?_
                  refine TL_no (b := false) rfl rfl rfl rfl ?_
                  refine TL_no (b := false) rfl rfl rfl rfl ?_
                  refine TL_no (b := false) rfl rfl rfl rfl ?_
                  refine TL_no (b := false) rfl rfl rfl rfl ?_
                  refine TL_no (b := false) rfl rfl rfl rfl ?_
                  refine TL_yes rfl rfl rfl (TO_pure rfl (PV_pickF rfl (by first | assumption | rfl | (simp; done) | (simp; omega) | (simp [*]; done) | (simp [*]; omega)) rfl rfl) ?_)
                  refine TL_p (PV_pickOr rfl rfl rfl) ?_
                  refine TL_p (PV_assign rfl) ?_
                  refine TL_nil ?_
                  refine T_region ?_
                  refine TL_p (PV.cast (PV_bin rfl rfl bin_add) e77) ?_
                  refine TL_p (PV_move rfl) ?_
                  refine TL_nil ?_
                  refine ?L241
                  case L241 =>
                    exact ⟨j + 1, false, ⟨by omega, by rw [hany, ← Bool.or_assoc, ← hq, decide_eq_false hjn]; simp⟩, by omega, (by repeat (first | exact FrSub.nil _ | refine FrSub.cons rfl ?_)), Has.of_sub (by repeat (first | exact Sb.r | exact Sb.ar | exact Sb.al | apply Sb.c | apply Sb.d | refine Sb.t ?_))⟩
            · obtain rfl : j = at_.length := by omega
              have hsv : stepAt t at_ cb false k = q := by unfold stepAt; rw [hhas, hq]; simp
              have hst2 := fillL_step (stepAt t at_ cb false) hkl
              rw [hsv] at hst2
              refine T_seq ?_
              refine T_region ?_
              refine TL_p (PV_bin rfl rfl bin_lss) ?_
              refine TL_nil ?_
              refine T_seq ?_
              refine T_else rfl (by (simp; done)) ?_
              refine T_exit ?_
              refine T_region ?_
              refine TL_p (PV_move rfl) ?_
              refine TL_p (PV_move rfl) ?_
              refine TL_p (PV_move rfl) ?_
              refine TL_p (PV_indexAddr Tryd.underlying99 sz4 rfl rfl rfl (by first | omega | decide | assumption)) ?_
              refine TL_cons rfl (TO_store1 0 rfl rfl rfl sz4 rfl rfl rfl (by first | exact Nat.le_of_ble_eq_true rfl | (simp; done) | (simp; omega) | omega) ?_)
              refine TL_nil ?_
              refine T_region ?_
              refine TL_p (PV.cast (PV_bin rfl rfl bin_add) e82) ?_
              refine TL_p (PV_move rfl) ?_
              refine TL_nil ?_
              refine ?L251
              case L251 =>
                refine ⟨k + 1, by omega, by omega, (by repeat (first | exact FrSub.nil _ | refine FrSub.cons rfl ?_)), ?_⟩
                rw [← hst2, ← bools_set, show 0 + k * 1 = k by omega]
                exact Has.of_sub (by repeat (first | exact Sb.r | exact Sb.ar | exact Sb.al | apply Sb.c | apply Sb.d | refine Sb.t ?_))
    · obtain rfl : k = pl t := by omega
      have hsf := stepL_fill t at_ cb b
      rw [hsf]
      refine T_seq ?_
      refine T_region ?_
      refine TL_p (PV_bin rfl rfl bin_lss) ?_
      refine TL_nil ?_
      refine T_seq ?_
      refine T_else rfl (by (simp; done)) ?_
      refine T_exit ?_
      refine T_seq ?_
      refine T_region ?_
      refine TL_p (PV_move rfl) ?_
      refine TL_p (PV_assign rfl) ?_
      refine TL_nil ?_
      refine T_ret ?_
      refine ret_ret (ResV_one rfl rfl) ⟨_, List.Sublist.refl _, ⟨_, rfl, rfl⟩⟩
theorem Ends_t' (hT : Tab (WH w0 B H) g t) (hp : pl t ≤ 1000000) {A : Option Addr} {m c : Nat} {at_ : List Bool} (hS : Shows (WH w0 B H) A m 1 (bools at_)) (hm : at_.length = m) (hc : m ≤ c) (hm2 : m ≤ 4611686018427387904) :
    TCall Tryd.prog w0 B 43 #[.pointer (some ⟨g, 0, none⟩), .slice A m c] (fun r H' => r = .bool (endsT t at_) ∧ H' = H) H := by
  obtain ⟨As, An, Af, Al, cs, cn, cf, cl, rv, ⟨r0, r1, r2, r3, r4⟩, h2, h3, h4, h5, h6, h7, h8, h9, h10⟩ := hT.open
  subst hm
  obtain ⟨Q, hQ⟩ : ∃ q, endsT t at_ = q := ⟨_, rfl⟩
  rw [hQ]
  refine TCall_intro (args := [_, _]) Tryd.func43 rfl Tryd.ntmps43 (Nat.le_of_ble_eq_true rfl) ?_
  refine T_seq ?_
  refine T_region ?_
  refine TL_p (PV_assign rfl) ?_
  refine TL_nil ?_
  refine T_seq ?_
  refine T_seq ?_
  refine T_region ?_
  refine TL_p (PV_move rfl) ?_
  refine TL_p (PV_len_slice Tryd.underlying99 rfl) ?_
  refine TL_p (PV_move rfl) ?_
  refine TL_nil ?_
  refine T_block ?_
  refine ?L401
  case L401 =>
    refine T_loopP1 (fun (k : Nat) => k ≤ at_.length ∧ endsB t at_ k = false) (fun k => at_.length - k) (fun k => [(0, .pointer (some ⟨g, 0, none⟩)), (7, .slice A at_.length c), (8, .int .i64 (at_.length : Int)), (9, .int .i64 (k : Int))]) (fun k => H) 0 ⟨Nat.zero_le _, rfl⟩ (by repeat (first | exact FrSub.nil _ | refine FrSub.cons rfl ?_)) (Has.of_sub (by repeat (first | exact Sb.r | exact Sb.ar | exact Sb.al | apply Sb.c | apply Sb.d | refine Sb.t ?_))) ?_
    rintro k ⟨hk, hq⟩
    by_cases hkl : k < at_.length
    · have e33 : Value.int .i64 (IntKind.i64.wrap ((k : Int) + 1)) = .int .i64 ((k + 1 : Nat) : Int) := wr64n _ (by push_cast; rfl) (by omega)
      have hen : endsB t at_ (k + 1) = (endsB t at_ k || (at_.getD k false && decide (k < pl t) && lstP t 0 k)) := rfl
      refine T_shows (hS.mono fun w h => h.sub (by repeat (first | exact Sb.r | exact Sb.ar | exact Sb.al | apply Sb.d | refine Sb.t ?_))) (by rw [bools_len]; omega) fun ga oa hA hra => ?_
      subst hA
      have ha : Rd _ ⟨ga, oa + k * 1, none⟩ (.bool (at_.getD k false)) := hra (k * 1) _ (by rw [Nat.mul_one]; exact bools_at hkl)
      cases hav : at_.getD k false with
      | false =>
        rw [hav] at ha hen
        refine T_seq ?_
        refine T_region ?_
        refine TL_p (PV_bin rfl rfl bin_lss) ?_
        refine TL_nil ?_
        refine T_seq ?_
        refine T_then rfl (by exact decide_eq_true (by omega)) ?_
        refine T_skip ?_
        refine T_seq ?_
        refine T_block ?_
        refine T_seq ?_
        refine T_region ?_
        refine TL_p (PV_move rfl) ?_
        refine TL_p (PV_indexAddr Tryd.underlying99 sz4 rfl rfl rfl (by first | omega | decide | assumption)) ?_
        refine TL_p (PV_load Tryd.underlying4 rfl rfl ha) ?_
        refine TL_p (PV_assign rfl) ?_
        refine TL_p (PV_assign rfl) ?_
        refine TL_nil ?_
        refine T_seq ?_
        refine T_region ?_
        refine TL_p (PV_move rfl) ?_
        refine TL_p (PV_move rfl) ?_
        refine TL_no (b := false) rfl rfl rfl rfl ?_
        refine TL_no (b := false) rfl rfl rfl rfl ?_
        refine TL_no (b := false) rfl rfl rfl rfl ?_
        refine TL_no (b := false) rfl rfl rfl rfl ?_
        refine TL_no (b := false) rfl rfl rfl rfl ?_
        refine TL_no (b := false) rfl rfl rfl rfl ?_
        refine TL_no (b := false) rfl rfl rfl rfl ?_
        refine TL_p (PV_pickF rfl (by first | assumption | rfl | (simp; done) | (simp; omega) | (simp [*]; done) | (simp [*]; omega)) rfl rfl) ?_
        refine TL_p (PV_move rfl) ?_
        refine TL_no (b := false) rfl rfl rfl rfl ?_
        refine TL_no (b := false) rfl rfl rfl rfl ?_
        refine TL_no (b := false) rfl rfl rfl rfl ?_
        refine TL_no (b := false) rfl rfl rfl rfl ?_
        refine TL_no (b := false) rfl rfl rfl rfl ?_
        refine TL_no (b := false) rfl rfl rfl rfl ?_
        refine TL_no (b := false) rfl rfl rfl rfl ?_
        refine TL_p (PV_pickF rfl (by first | assumption | rfl | (simp; done) | (simp; omega) | (simp [*]; done) | (simp [*]; omega)) rfl rfl) ?_
        refine TL_nil ?_
        refine T_else rfl (by rfl) ?_
        refine T_skip ?_
        refine T_region ?_
        refine TL_p (PV.cast (PV_bin rfl rfl bin_add) e33) ?_
        refine TL_p (PV_move rfl) ?_
        refine TL_nil ?_
        refine ?L411
        case L411 =>
          exact ⟨k + 1, ⟨by omega, by rw [hen, hq]; rfl⟩, by omega, (by repeat (first | exact FrSub.nil _ | refine FrSub.cons rfl ?_)), Has.of_sub (by repeat (first | exact Sb.r | exact Sb.ar | exact Sb.al | apply Sb.c | apply Sb.d | refine Sb.t ?_))⟩
      | true =>
        rw [hav] at ha hen
        by_cases hkn : k < pl t
        · refine T_shows (h10.mono fun w h => h.sub (by repeat (first | exact Sb.r | exact Sb.ar | exact Sb.al | apply Sb.d | refine Sb.t ?_))) (by rw [bools_len, upL_len]; omega) fun gl ol hA hrl => ?_
          subst hA
          have hl : Rd _ ⟨gl, ol + k * 1, none⟩ (.bool (lstP t 0 k)) := hrl (k * 1) _ (by rw [Nat.mul_one, bools_at (by rw [upL_len]; exact hkn), upL_get _ hkn])
          cases hlv : lstP t 0 k with
          | false =>
            rw [hlv] at hl hen
            refine T_seq ?_
            refine T_region ?_
            refine TL_p (PV_bin rfl rfl bin_lss) ?_
            refine TL_nil ?_
            refine T_seq ?_
            refine T_then rfl (by exact decide_eq_true (by omega)) ?_
            refine T_skip ?_
            refine T_seq ?_
            refine T_block ?_
            refine T_seq ?_
            refine T_region ?_
            refine TL_p (PV_move rfl) ?_
            refine TL_p (PV_indexAddr Tryd.underlying99 sz4 rfl rfl rfl (by first | omega | decide | assumption)) ?_
            refine TL_p (PV_load Tryd.underlying4 rfl rfl ha) ?_
            refine TL_p (PV_assign rfl) ?_
            refine TL_p (PV_assign rfl) ?_
            refine TL_nil ?_
            refine T_seq ?_
            refine T_region ?_
            refine TL_p (PV_move rfl) ?_
            refine TL_p (PV_move rfl) ?_
            refine TL_yes rfl rfl rfl (TO_pure rfl (PV_move rfl) ?_)
            refine TL_yes rfl rfl rfl (TO_pure rfl (PV_move rfl) ?_)
            refine TL_yes rfl rfl rfl (TO_pure rfl (PV_nilCheck rfl) ?_)
            refine TL_yes rfl rfl rfl (TO_pure rfl (PV_fieldAddr (D := 3) Tryd.underlying101 rfl sz99 (by decide) rfl rfl) ?_)
            refine TL_yes rfl rfl rfl (TO_pure rfl (PV_load Tryd.underlying99 rfl rfl r3) ?_)
            refine TL_yes rfl rfl rfl (TO_pure rfl (PV_len_slice Tryd.underlying99 rfl) ?_)
            refine TL_yes rfl rfl rfl (TO_pure rfl (PV_bin rfl rfl bin_lss) ?_)
            refine TL_p (PV_pickAnd rfl rfl rfl) ?_
            refine TL_p (PV_move rfl) ?_
            refine TL_yes rfl rfl (gtrue (by exact decide_eq_true (by omega))) (TO_pure rfl (PV_move rfl) ?_)
            refine TL_yes rfl rfl (gtrue (by exact decide_eq_true (by omega))) (TO_pure rfl (PV_nilCheck rfl) ?_)
            refine TL_yes rfl rfl (gtrue (by exact decide_eq_true (by omega))) (TO_pure rfl (PV_fieldAddr (D := 3) Tryd.underlying101 rfl sz99 (by decide) rfl rfl) ?_)
            refine TL_yes rfl rfl (gtrue (by exact decide_eq_true (by omega))) (TO_pure rfl (PV_load Tryd.underlying99 rfl rfl r3) ?_)
            refine TL_yes rfl rfl (gtrue (by exact decide_eq_true (by omega))) (TO_pure rfl (PV_move rfl) ?_)
            refine TL_yes rfl rfl (gtrue (by exact decide_eq_true (by omega))) (TO_pure rfl (PV_indexAddr Tryd.underlying99 sz4 rfl rfl rfl (by first | omega | decide | assumption)) ?_)
            refine TL_yes rfl rfl (gtrue (by exact decide_eq_true (by omega))) (TO_pure rfl (PV_load Tryd.underlying4 rfl rfl hl) ?_)
            refine TL_p (PV_pickAnd rfl rfl rfl) ?_
            refine TL_nil ?_
            refine T_else rfl (by (simp; done)) ?_
            refine T_skip ?_
            refine T_region ?_
            refine TL_p (PV.cast (PV_bin rfl rfl bin_add) e33) ?_
            refine TL_p (PV_move rfl) ?_
            refine TL_nil ?_
            refine ?L421
            case L421 =>
              exact ⟨k + 1, ⟨by omega, by rw [hen, hq]; simp⟩, by omega, (by repeat (first | exact FrSub.nil _ | refine FrSub.cons rfl ?_)), Has.of_sub (by repeat (first | exact Sb.r | exact Sb.ar | exact Sb.al | apply Sb.c | apply Sb.d | refine Sb.t ?_))⟩
          | true =>
            rw [hlv] at hl hen
            have hQt : Q = true := by
              rw [← hQ]
              unfold endsT
              exact endsB_iff.2 ⟨k, hkl, hav, hlv⟩
            subst hQt
            refine T_seq ?_
            refine T_region ?_
            refine TL_p (PV_bin rfl rfl bin_lss) ?_
            refine TL_nil ?_
            refine T_seq ?_
            refine T_then rfl (by exact decide_eq_true (by omega)) ?_
            refine T_skip ?_
            refine T_seq ?_
            refine T_block ?_
            refine T_seq ?_
            refine T_region ?_
            refine TL_p (PV_move rfl) ?_
            refine TL_p (PV_indexAddr Tryd.underlying99 sz4 rfl rfl rfl (by first | omega | decide | assumption)) ?_
            refine TL_p (PV_load Tryd.underlying4 rfl rfl ha) ?_
            refine TL_p (PV_assign rfl) ?_
            refine TL_p (PV_assign rfl) ?_
            refine TL_nil ?_
            refine T_seq ?_
            refine T_region ?_
            refine TL_p (PV_move rfl) ?_
            refine TL_p (PV_move rfl) ?_
            refine TL_yes rfl rfl rfl (TO_pure rfl (PV_move rfl) ?_)
            refine TL_yes rfl rfl rfl (TO_pure rfl (PV_move rfl) ?_)
            refine TL_yes rfl rfl rfl (TO_pure rfl (PV_nilCheck rfl) ?_)
            refine TL_yes rfl rfl rfl (TO_pure rfl (PV_fieldAddr (D := 3) Tryd.underlying101 rfl sz99 (by decide) rfl rfl) ?_)
            refine TL_yes rfl rfl rfl (TO_pure rfl (PV_load Tryd.underlying99 rfl rfl r3) ?_)
            refine TL_yes rfl rfl rfl (TO_pure rfl (PV_len_slice Tryd.underlying99 rfl) ?_)
            refine TL_yes rfl rfl rfl (TO_pure rfl (PV_bin rfl rfl bin_lss) ?_)
            refine TL_p (PV_pickAnd rfl rfl rfl) ?_
            refine TL_p (PV_move rfl) ?_
            refine TL_yes rfl rfl (gtrue (by exact decide_eq_true (by omega))) (TO_pure rfl (PV_move rfl) ?_)
            refine TL_yes rfl rfl (gtrue (by exact decide_eq_true (by omega))) (TO_pure rfl (PV_nilCheck rfl) ?_)
            refine TL_yes rfl rfl (gtrue (by exact decide_eq_true (by omega))) (TO_pure rfl (PV_fieldAddr (D := 3) Tryd.underlying101 rfl sz99 (by decide) rfl rfl) ?_)
            refine TL_yes rfl rfl (gtrue (by exact decide_eq_true (by omega))) (TO_pure rfl (PV_load Tryd.underlying99 rfl rfl r3) ?_)
            refine TL_yes rfl rfl (gtrue (by exact decide_eq_true (by omega))) (TO_pure rfl (PV_move rfl) ?_)
            refine TL_yes rfl rfl (gtrue (by exact decide_eq_true (by omega))) (TO_pure rfl (PV_indexAddr Tryd.underlying99 sz4 rfl rfl rfl (by first | omega | decide | assumption)) ?_)
            refine TL_yes rfl rfl (gtrue (by exact decide_eq_true (by omega))) (TO_pure rfl (PV_load Tryd.underlying4 rfl rfl hl) ?_)
            refine TL_p (PV_pickAnd rfl rfl rfl) ?_
            refine TL_nil ?_
            refine T_then rfl (by (simp; omega)) ?_
            refine T_seq ?_
            refine T_region ?_
            refine TL_p (PV_assign rfl) ?_
            refine TL_nil ?_
            refine T_ret ?_
            refine ret_ret (ResV_one rfl rfl) ⟨_, List.Sublist.refl _, ⟨rfl, rfl⟩⟩
        · refine T_seq ?_
          refine T_region ?_
          refine TL_p (PV_bin rfl rfl bin_lss) ?_
          refine TL_nil ?_
          refine T_seq ?_
          refine T_then rfl (by exact decide_eq_true (by omega)) ?_
          refine T_skip ?_
          refine T_seq ?_
          refine T_block ?_
          refine T_seq ?_
          refine T_region ?_
          refine TL_p (PV_move rfl) ?_
          refine TL_p (PV_indexAddr Tryd.underlying99 sz4 rfl rfl rfl (by first | omega | decide | assumption)) ?_
          refine TL_p (PV_load Tryd.underlying4 rfl rfl ha) ?_
          refine TL_p (PV_assign rfl) ?_
          refine TL_p (PV_assign rfl) ?_
          refine TL_nil ?_
          refine T_seq ?_
          refine T_region ?_
          refine TL_p (PV_move rfl) ?_
          refine TL_p (PV_move rfl) ?_
          refine TL_yes rfl rfl rfl (TO_pure rfl (PV_move rfl) ?_)
          refine TL_yes rfl rfl rfl (TO_pure rfl (PV_move rfl) ?_)
          refine TL_yes rfl rfl rfl (TO_pure rfl (PV_nilCheck rfl) ?_)
          refine TL_yes rfl rfl rfl (TO_pure rfl (PV_fieldAddr (D := 3) Tryd.underlying101 rfl sz99 (by decide) rfl rfl) ?_)
          refine TL_yes rfl rfl rfl (TO_pure rfl (PV_load Tryd.underlying99 rfl rfl r3) ?_)
          refine TL_yes rfl rfl rfl (TO_pure rfl (PV_len_slice Tryd.underlying99 rfl) ?_)
          refine TL_yes rfl rfl rfl (TO_pure rfl (PV_bin rfl rfl bin_lss) ?_)
          refine TL_p (PV_pickAnd rfl rfl rfl) ?_
          refine TL_p (PV_move rfl) ?_
          refine TL_no (b := false) rfl rfl (gfalse (by exact decide_eq_false (by omega))) rfl ?_
          refine TL_no (b := false) rfl rfl (gfalse (by exact decide_eq_false (by omega))) rfl ?_
          refine TL_no (b := false) rfl rfl (gfalse (by exact decide_eq_false (by omega))) rfl ?_
          refine TL_no (b := false) rfl rfl (gfalse (by exact decide_eq_false (by omega))) rfl ?_
          refine TL_no (b := false) rfl rfl (gfalse (by exact decide_eq_false (by omega))) rfl ?_
          refine TL_no (b := false) rfl rfl (gfalse (by exact decide_eq_false (by omega))) rfl ?_
          refine TL_no (b := false) rfl rfl (gfalse (by exact decide_eq_false (by omega))) rfl ?_
          refine TL_p (PV_pickF rfl (by first | assumption | rfl | (simp; done) | (simp; omega) | (simp [*]; done) | (simp [*]; omega)) rfl rfl) ?_
          refine TL_nil ?_
          refine T_else rfl (by rfl) ?_
          refine T_skip ?_
          refine T_region ?_
          refine TL_p (PV.cast (PV_bin rfl rfl bin_add) e33) ?_
          refine TL_p (PV_move rfl) ?_
          refine TL_nil ?_
          refine ?L441
          case L441 =>
            exact ⟨k + 1, ⟨by omega, by rw [hen, hq, decide_eq_false hkn]; simp⟩, by omega, (by repeat (first | exact FrSub.nil _ | refine FrSub.cons rfl ?_)), Has.of_sub (by repeat (first | exact Sb.r | exact Sb.ar | exact Sb.al | apply Sb.c | apply Sb.d | refine Sb.t ?_))⟩
    · obtain rfl : k = at_.length := by omega
      have hQf : Q = false := by rw [← hQ]; exact hq
      subst hQf
      refine T_seq ?_
      refine T_region ?_
      refine TL_p (PV_bin rfl rfl bin_lss) ?_
      refine TL_nil ?_
      refine T_seq ?_
      refine T_else rfl (by (simp; done)) ?_
      refine T_exit ?_
      refine T_seq ?_
      refine T_region ?_
      refine TL_p (PV_assign rfl) ?_
      refine TL_nil ?_
      refine T_ret ?_
      refine ret_ret (ResV_one rfl rfl) ⟨_, List.Sublist.refl _, ⟨rfl, rfl⟩⟩
theorem atL_len (t : Rx) (s : List Int) : ∀ (k : Nat), 0 < k → (atL t s k).length = pl t
  | 0, h => absurd h (by omega)
  | k + 1, _ => stepL_len _ _ _ _
theorem atL_le (t : Rx) (s : List Int) (k : Nat) : (atL t s k).length ≤ pl t := by
  cases k with
  | zero => exact Nat.zero_le _
  | succ k => rw [atL_len t s (k + 1) (by omega)]; exact Nat.le_refl _
end
end Go.Proofs.YtijpbpnfachlkaaDoor.SL
