import Derived.SizedLaws
import Derived.Deep.Grids
import Derived.Test.YtkgdphbccagjcaaN7
/- Who is at more places comes to more of them: the law; and slices of bools that come in. No statement is proved here. -/
set_option linter.unusedVariables false
set_option linter.unusedSimpArgs false
set_option maxRecDepth 100000
set_option maxHeartbeats 8000000
namespace Go.Proofs.Ytkgdphbccagjcaa.SL
open Go Go.RowKit
/-- a slice of bools that came in -/
def ReadsB (w : World) (A : Option Addr) (l : List Bool) : Prop := 0 < l.length → ∃ ad, A = some ad ∧ ∀ j, j < l.length → w.cell? (ad.add j) = some (.bool (l.getD j false))
open Go.ChangeShapes Go.WideShapes Go.Deep in
theorem open_boolS {HT : Type} {enc : TypeId × Value → HT} {P : Program} {W : World} {base : Nat} {spare : Nat → Bool} {held : Bool} {t e : TypeId} {a : Option Addr} {len cap : Nat} {d : DataW HT} {ps : List MemPlace} {ts : List TypeId} {ds : List (DataW HT)} {j : Nat}
    (hsz : (DataW.weightsEach P ts ds).all (· ≤ reachBytes) = true) (ht : ts[j]? = some t) (hd : ds[j]? = some d) (hu : P.underlying t = some (.slice e)) (he : P.underlying e = some .bool) (hc : P.cellsOf e = 1) (hB : P.bytesOf e = 1)
    (h : DataW.Trod enc P W base spare held t (.slice a len cap) d ps) : ∃ l : List Bool, len = l.length ∧ ReadsB W a l ∧ l.length ≤ cap ∧ l.length ≤ 140737488351232 := by
  obtain ⟨fuel, hf⟩ := h
  rcases open_slice1 hu hc hf with ⟨hcs, _⟩ | ⟨x, l, c, m, n, V, D, Pl, hcs, _, hl, _, hm, hx, hcell⟩
  · simp [Value.cells] at hcs
    obtain ⟨rfl, rfl, rfl⟩ := hcs
    exact ⟨[], rfl, fun h => absurd h (by simp), Nat.le_refl _, by simp⟩
  · simp [Value.cells] at hcs
    obtain ⟨rfl, rfl, rfl⟩ := hcs
    obtain ⟨hx, _⟩ := Prod.mk.inj hx
    subst hx
    have z := sized_slice hsz ht hd hu
    rw [hB, Nat.mul_one] at z
    have hlm : len ≤ m := by rw [hm]; split <;> omega
    obtain ⟨b, hb⟩ := choose_lt (α := Bool) (p := fun i b => V i = .bool b) (n := len) (fun i hi => by
      obtain ⟨b, h1, _⟩ := DataW.trod_bool he (hcell i (by omega)).2
      exact ⟨b, by simpa using h1⟩)
    refine ⟨(List.range len).map b, by simp, fun _ => ⟨x, rfl, fun j hj => ?_⟩, by simpa using hl, ?_⟩
    · simp at hj
      rw [(hcell j (by omega)).1, hb j hj]
      simp [List.getD_eq_getElem?_getD, List.getElem?_range hj]
    · simp only [List.length_map, List.length_range] at z ⊢
      simp only [reachBytes] at z
      omega
theorem shows_startB {w : World} {H : List Chunk} {A : Option Addr} {l : List Bool} (h : ReadsB w A l) : Shows (WH w w.heap.size H) A l.length 1 (bools l) := fun w' ⟨HX, hr⟩ => by
  refine ⟨by simp [bools], fun j v hj => ?_⟩
  have hj' : j < l.length := by have := (List.getElem?_eq_some_iff.1 hj).1; simpa [bools] using this
  obtain ⟨ad, rfl, hc⟩ := h (by omega)
  have h0 := World.block_lt_of_cell? w _ (hc 0 (by omega))
  have h0' : ad.block < w.heap.size := by simpa [Addr.add] using h0
  refine ⟨ad, rfl, hr.old ?_ ?_⟩
  · rw [hc j hj', ← hj, bools_at hj']
  · have := World.block_lt_of_cell? w _ (hc j hj'); exact this
theorem anyB_get {t : Rx} {a : List Bool} {j : Nat} : anyB t a j a.length = true ↔ ∃ i, a.getD i false = true ∧ nxtP t 0 i j = true := by
  rw [anyB_iff]
  constructor
  · rintro ⟨i, _, h⟩; exact ⟨i, h⟩
  · rintro ⟨i, h1, h2⟩; exact ⟨i, getD_lt h1, h1, h2⟩
/-- both of two -/
def bothL (a b : List Bool) : Nat → List Bool
  | 0 => []
  | n + 1 => bothL a b n ++ [a.getD n false || b.getD n false]
def bothB (a b : List Bool) (j : Nat) : Bool := a.getD j false || b.getD j false
theorem both_get (a b : List Bool) (j : Nat) : (upL (bothB a b) (max a.length b.length)).getD j false = (a.getD j false || b.getD j false) := by
  by_cases hj : j < max a.length b.length
  · rw [upL_get _ hj]; rfl
  · have h1 : a.getD j false = false := by
      cases h : a.getD j false with
      | false => rfl
      | true => have := getD_lt h; omega
    have h2 : b.getD j false = false := by
      cases h : b.getD j false with
      | false => rfl
      | true => have := getD_lt h; omega
    rw [h1, h2, List.getD_eq_getElem?_getD, List.getElem?_eq_none (by rw [upL_len]; omega)]
    rfl
theorem step_both {t : Rx} {a b : List Bool} {c : Nat} {be : Bool} (k : Nat) : stepAt t (upL (bothB a b) (max a.length b.length)) c be k = (stepAt t a c be k || stepAt t b c be k) := by
  have h : anyB t (upL (bothB a b) (max a.length b.length)) k (upL (bothB a b) (max a.length b.length)).length = (anyB t a k a.length || anyB t b k b.length) := by
    rw [Bool.eq_iff_iff, Bool.or_eq_true, anyB_get, anyB_get, anyB_get]
    constructor
    · rintro ⟨i, h1, h2⟩
      rw [both_get, Bool.or_eq_true] at h1
      rcases h1 with h1 | h1
      · exact .inl ⟨i, h1, h2⟩
      · exact .inr ⟨i, h1, h2⟩
    · rintro (⟨i, h1, h2⟩ | ⟨i, h1, h2⟩)
      · exact ⟨i, by rw [both_get, h1]; rfl, h2⟩
      · exact ⟨i, by rw [both_get, h1]; simp, h2⟩
  unfold stepAt
  rw [h]
  cases hasP t 0 k c <;> cases be <;> cases fstP t 0 k <;> simp
theorem ends_both {t : Rx} {a b : List Bool} : endsT t (upL (bothB a b) (max a.length b.length)) = (endsT t a || endsT t b) := by
  rw [Bool.eq_iff_iff, Bool.or_eq_true, endsT_iff, endsT_iff, endsT_iff]
  constructor
  · rintro ⟨i, h1, h2⟩
    rw [both_get, Bool.or_eq_true] at h1
    rcases h1 with h1 | h1
    · exact .inl ⟨i, h1, h2⟩
    · exact .inr ⟨i, h1, h2⟩
  · rintro (⟨i, h1, h2⟩ | ⟨i, h1, h2⟩)
    · exact ⟨i, by rw [both_get, h1]; rfl, h2⟩
    · exact ⟨i, by rw [both_get, h1]; simp, h2⟩
section
variable {w0 : World} {B : Nat} {H X : List Chunk}
theorem NfaMore_t {A0 A1 A2 : Option Addr} {m0 c0 c1 c2 : Nat} {l0 : List Int} {a b : List Bool} (cb : Nat) (hcb : cb ≤ 255) (be : Bool) (hS0 : Shows (WH w0 B H) A0 m0 1 (nums .u8 l0)) (hm0 : l0.length = m0) (hl0 : m0 ≤ 4611686018427387904) (hc0 : m0 ≤ c0) (hu0 : U8s l0) (hS1 : Shows (WH w0 B H) A1 a.length 1 (bools a)) (hc1 : a.length ≤ c1) (hl1 : a.length ≤ 140737488351232) (hS2 : Shows (WH w0 B H) A2 b.length 1 (bools b)) (hc2 : b.length ≤ c2) (hl2 : b.length ≤ 140737488351232) :
    TCall Try.prog w0 B 9 #[.slice A0 m0 c0, .slice A1 a.length c1, .slice A2 b.length c2, .int .u8 (cb : Int), .bool be] (fun r H' => r = .bool true ∧ H' = H) H := by
  obtain ⟨t, ht⟩ : ∃ t, (mk 3 l0).2.1 = t := ⟨_, rfl⟩
  have hsm := mk_small (Nat.le_refl 3) l0
  rw [ht] at hsm
  have hvt : ∀ {W : World → Prop} {v : Nv}, Tr W (mk 3 l0).2.1 v → Tr W t v := fun h => ht ▸ h
  have hHN : ∀ N : List Chunk, H.Sublist (H ++ N) := fun N => List.sublist_append_left H N
  have hHX : ∀ N N2 : List Chunk, H.Sublist ((H ++ N) ++ N2) := fun N N2 => (hHN N).trans (List.sublist_append_left _ _)
  obtain ⟨M, hM⟩ : ∃ M, max a.length b.length = M := ⟨_, rfl⟩
  have e33 : Value.int .i64 (max (a.length : Int) (b.length : Int)) = .int .i64 (M : Int) := by congr 1; omega
  obtain ⟨Z, hZ⟩ : ∃ Z, upL (bothB a b) M = Z := ⟨_, rfl⟩
  have hZl : Z.length = M := by rw [← hZ, upL_len]
  have hsb := fun k => step_both (t := t) (a := a) (b := b) (c := cb) (be := be) k
  have heb := ends_both (t := t) (a := a) (b := b)
  rw [hM, hZ] at heb
  rw [hM, hZ] at hsb
  refine TCall_intro (args := [_, _, _, _, _]) Try.func9 rfl Try.ntmps9 (Nat.le_of_ble_eq_true rfl) ?_
  refine T_seq ?_
  refine T_region ?_
  refine TL_p (PV_assign rfl) ?_
  refine TL_nil ?_
  refine T_seq ?_
  refine T_seq ?_
  refine T_region ?_
  refine TL_cons rfl (TO_call0 call25 rfl rfl (awake07s) ?_)
  rintro v20_3 H20_3 ⟨rfl, rfl⟩
  refine TL_p (PV_not rfl) ?_
  refine TL_nil ?_
  refine T_else rfl (by rfl) ?_
  refine T_skip ?_
  refine T_seq ?_
  refine T_region ?_
  refine TL_p (PV_move rfl) ?_
  refine TL_cons rfl (TO_mk (d := 3) (by omega) hS0 hm0 hc0 hl0 hu0 rfl rfl fun v24 N24 hv24 => ?_)
  refine TL_p (PV_move rfl) ?_
  refine TL_p (PV_extract rfl rfl) ?_
  refine TL_p (PV_extract rfl rfl) ?_
  refine TL_cons rfl (TO_alloc rfl zr30 fun g5 => ?_)
  refine TL_p (PV_assign rfl) ?_
  refine TL_cons rfl (TO_store 0 rfl rfl rfl sz30 rfl rfl rfl (all_one rfl) (by first | exact Nat.le_of_ble_eq_true rfl | (simp; done) | (simp; omega) | omega) ?_)
  refine TL_nil ?_
  refine T_seq ?_
  refine T_region ?_
  refine TL_p (PV_loadAt Try.underlying30 rfl sz30 rfl (Rds.take 0 rfl rfl rfl)) ?_
  refine TL_cons rfl (TO_Of ((hvt hv24).mono fun w h => h.sub (by repeat (first | exact Sb.r | exact Sb.ar | exact Sb.al | apply Sb.d | refine Sb.t ?_))) (by omega) (by omega) rfl rfl fun g28 N28 hT28 => ?_)
  refine TL_p (PV_assign rfl) ?_
  refine TL_nil ?_
  refine T_seq ?_
  refine T_region ?_
  refine TL_p (PV_move rfl) ?_
  refine TL_p (PV_len_slice Try.underlying55 rfl) ?_
  refine TL_p (PV_move rfl) ?_
  refine TL_p (PV_len_slice Try.underlying55 rfl) ?_
  refine TL_p (PV.cast (PV_max rfl rfl) e33) ?_
  refine TL_cons rfl (TO_make Try.underlying55 zb4 rfl (by omega) (by omega) rfl ⟨_, rfl⟩ ⟨_, rfl⟩ fun g8 => ?_)
  refine TL_p (PV_assign rfl) ?_
  refine TL_nil ?_
  refine T_seq ?_
  refine T_seq ?_
  refine T_region ?_
  refine TL_p (PV_move rfl) ?_
  refine TL_p (PV_len_slice Try.underlying55 rfl) ?_
  refine TL_p (PV_move rfl) ?_
  refine TL_nil ?_
  refine T_block ?_
  refine ?L1
  case L1 =>
    refine T.drop (H' := .sl (.slice (some ⟨_, 0, none⟩) M M) 1 M (List.replicate M (.bool false)) :: ((H ++ N24) ++ N28)) (by repeat (first | exact Sb.r | exact Sb.ar | exact Sb.al | apply Sb.c | apply Sb.d | refine Sb.t ?_)) ?_
    refine T_loopP1 (fun (i : Nat) => i ≤ M) (fun i => M - i) (fun i => [(1, .slice A1 a.length c1), (2, .slice A2 b.length c2), (3, .int .u8 (cb : Int)), (4, .bool be), (13, .pointer (some ⟨g28, 0, none⟩)), (14, .slice (some ⟨g8, 0, none⟩) M M), (36, .int .i64 (M : Int)), (37, .int .i64 (i : Int))]) (fun i => .sl (.slice (some ⟨g8, 0, none⟩) M M) 1 M (bools (fillL (bothB a b) i M)) :: ((H ++ N24) ++ N28)) 0 (Nat.zero_le _) (by repeat (first | exact FrSub.nil _ | refine FrSub.cons rfl ?_)) (by rw [fillL_zero]; exact Has.of_sub (by repeat (first | exact Sb.r | exact Sb.ar | exact Sb.al | apply Sb.c | apply Sb.d | refine Sb.t ?_))) ?_
    intro i hi
    by_cases hil : i < M
    · have e65 : Value.int .i64 (IntKind.i64.wrap ((i : Int) + 1)) = .int .i64 ((i + 1 : Nat) : Int) := wr64n _ (by push_cast; rfl) (by omega)
      have hst := fillL_step (bothB a b) hil
      have hz : (bools (fillL (bothB a b) i M)).length = M := by rw [bools_len, fillL_len]
      by_cases ha : i < a.length
      · refine T_shows (hS1.mono fun w h => h.sub (by repeat (first | exact Sb.r | exact Sb.ar | exact Sb.al | apply Sb.d | refine Sb.t ?_))) (by rw [bools_len]; omega) fun ga oa hA hra => ?_
        subst hA
        have hra2 : Rd _ ⟨ga, oa + i * 1, none⟩ (.bool (a.getD i false)) := hra (i * 1) _ (by rw [Nat.mul_one]; exact bools_at ha)
        cases hav : a.getD i false with
        | true =>
          rw [hav] at hra2
          have hv : bothB a b i = true := by unfold bothB; rw [hav]; rfl
          rw [hv] at hst
          have e51 : Value.bool (decide ((i : Int) < (a.length : Int)) && true) = .bool true := by rw [decide_eq_true (by omega)]; rfl
          refine T_seq ?_
          refine T_region ?_
          refine TL_p (PV_bin rfl rfl bin_lss) ?_
          refine TL_nil ?_
          refine T_seq ?_
          refine T_then rfl (by exact decide_eq_true (by omega)) ?_
          refine T_skip ?_
          refine T_seq ?_
          refine T_block ?_
          refine T_seq ?_
          refine T_region ?_
          refine TL_p (PV_move rfl) ?_
          refine TL_p (PV_assign rfl) ?_
          refine TL_nil ?_
          refine T_region ?_
          refine TL_p (PV_move rfl) ?_
          refine TL_p (PV_move rfl) ?_
          refine TL_p (PV_move rfl) ?_
          refine TL_p (PV_move rfl) ?_
          refine TL_p (PV_len_slice Try.underlying55 rfl) ?_
          refine TL_p (PV_bin rfl rfl bin_lss) ?_
          refine TL_p (PV_move rfl) ?_
          refine TL_yes rfl rfl (gtrue (by exact decide_eq_true (by omega))) (TO_pure rfl (PV_move rfl) ?_)
          refine TL_yes rfl rfl (gtrue (by exact decide_eq_true (by omega))) (TO_pure rfl (PV_move rfl) ?_)
          refine TL_yes rfl rfl (gtrue (by exact decide_eq_true (by omega))) (TO_pure rfl (PV_indexAddr Try.underlying55 sz4 rfl rfl rfl (by first | omega | decide | assumption)) ?_)
          refine TL_yes rfl rfl (gtrue (by exact decide_eq_true (by omega))) (TO_pure rfl (PV_load Try.underlying4 rfl rfl hra2) ?_)
          refine TL_p (PV.cast (PV_pickAnd rfl rfl rfl) e51) ?_
          refine TL_p (PV_move rfl) ?_
          refine TL_no (b := true) rfl rfl rfl rfl ?_
          refine TL_no (b := true) rfl rfl rfl rfl ?_
          refine TL_no (b := true) rfl rfl rfl rfl ?_
          refine TL_no (b := true) rfl rfl rfl rfl ?_
          refine TL_no (b := true) rfl rfl rfl rfl ?_
          refine TL_noU rfl rfl rfl rfl ?_
          refine TL_noU rfl rfl rfl rfl ?_
          refine TL_noU rfl rfl rfl rfl ?_
          refine TL_noU rfl rfl rfl rfl ?_
          refine TL_no (b := true) rfl rfl rfl rfl ?_
          refine TL_p (PV_pickT rfl (by first | assumption | rfl | (simp; done) | (simp; omega) | (simp [*]; done) | (simp [*]; omega)) rfl rfl) ?_
          refine TL_p (PV_indexAddr Try.underlying55 sz4 rfl rfl rfl (by first | omega | decide | assumption)) ?_
          refine TL_cons rfl (TO_store1 0 rfl rfl rfl sz4 rfl rfl rfl (by first | exact Nat.le_of_ble_eq_true rfl | (simp; done) | (simp; omega) | omega) ?_)
          refine TL_nil ?_
          refine T_region ?_
          refine TL_p (PV.cast (PV_bin rfl rfl bin_add) e65) ?_
          refine TL_p (PV_move rfl) ?_
          refine TL_nil ?_
          refine ?L11
          case L11 =>
            refine ⟨i + 1, by omega, by omega, (by repeat (first | exact FrSub.nil _ | refine FrSub.cons rfl ?_)), ?_⟩
            rw [← hst, ← bools_set, show 0 + i * 1 = i by omega]
            exact Has.of_sub (by repeat (first | exact Sb.r | exact Sb.ar | exact Sb.al | apply Sb.c | apply Sb.d | refine Sb.t ?_))
        | false =>
          rw [hav] at hra2
          have hv : bothB a b i = b.getD i false := by unfold bothB; rw [hav]; rfl
          rw [hv] at hst
          have e51 : Value.bool (decide ((i : Int) < (a.length : Int)) && false) = .bool false := by rw [Bool.and_false]
          by_cases hb : i < b.length
          · refine T_shows (hS2.mono fun w h => h.sub (by repeat (first | exact Sb.r | exact Sb.ar | exact Sb.al | apply Sb.d | refine Sb.t ?_))) (by rw [bools_len]; omega) fun gb ob hB hrb => ?_
            subst hB
            have hrb2 : Rd _ ⟨gb, ob + i * 1, none⟩ (.bool (b.getD i false)) := hrb (i * 1) _ (by rw [Nat.mul_one]; exact bools_at hb)
            have e62 : Value.bool (decide ((i : Int) < (b.length : Int)) && b.getD i false) = .bool (b.getD i false) := by rw [decide_eq_true (by omega), Bool.true_and]
            refine T_seq ?_
            refine T_region ?_
            refine TL_p (PV_bin rfl rfl bin_lss) ?_
            refine TL_nil ?_
            refine T_seq ?_
            refine T_then rfl (by exact decide_eq_true (by omega)) ?_
            refine T_skip ?_
            refine T_seq ?_
            refine T_block ?_
            refine T_seq ?_
            refine T_region ?_
            refine TL_p (PV_move rfl) ?_
            refine TL_p (PV_assign rfl) ?_
            refine TL_nil ?_
            refine T_region ?_
            refine TL_p (PV_move rfl) ?_
            refine TL_p (PV_move rfl) ?_
            refine TL_p (PV_move rfl) ?_
            refine TL_p (PV_move rfl) ?_
            refine TL_p (PV_len_slice Try.underlying55 rfl) ?_
            refine TL_p (PV_bin rfl rfl bin_lss) ?_
            refine TL_p (PV_move rfl) ?_
            refine TL_yes rfl rfl (gtrue (by exact decide_eq_true (by omega))) (TO_pure rfl (PV_move rfl) ?_)
            refine TL_yes rfl rfl (gtrue (by exact decide_eq_true (by omega))) (TO_pure rfl (PV_move rfl) ?_)
            refine TL_yes rfl rfl (gtrue (by exact decide_eq_true (by omega))) (TO_pure rfl (PV_indexAddr Try.underlying55 sz4 rfl rfl rfl (by first | omega | decide | assumption)) ?_)
            refine TL_yes rfl rfl (gtrue (by exact decide_eq_true (by omega))) (TO_pure rfl (PV_load Try.underlying4 rfl rfl hra2) ?_)
            refine TL_p (PV.cast (PV_pickAnd rfl rfl rfl) e51) ?_
            refine TL_p (PV_move rfl) ?_
            refine TL_yes rfl rfl rfl (TO_pure rfl (PV_move rfl) ?_)
            refine TL_yes rfl rfl rfl (TO_pure rfl (PV_move rfl) ?_)
            refine TL_yes rfl rfl rfl (TO_pure rfl (PV_len_slice Try.underlying55 rfl) ?_)
            refine TL_yes rfl rfl rfl (TO_pure rfl (PV_bin rfl rfl bin_lss) ?_)
            refine TL_yes rfl rfl rfl (TO_pure rfl (PV_move rfl) ?_)
            refine TL_yes rfl rfl (gtrue (by exact decide_eq_true (by omega))) (TO_pure rfl (PV_move rfl) ?_)
            refine TL_yes rfl rfl (gtrue (by exact decide_eq_true (by omega))) (TO_pure rfl (PV_move rfl) ?_)
            refine TL_yes rfl rfl (gtrue (by exact decide_eq_true (by omega))) (TO_pure rfl (PV_indexAddr Try.underlying55 sz4 rfl rfl rfl (by first | omega | decide | assumption)) ?_)
            refine TL_yes rfl rfl (gtrue (by exact decide_eq_true (by omega))) (TO_pure rfl (PV_load Try.underlying4 rfl rfl hrb2) ?_)
            refine TL_yes rfl rfl rfl (TO_pure rfl (PV.cast (PV_pickAnd rfl rfl rfl) e62) ?_)
            refine TL_p (PV_pickOr rfl rfl rfl) ?_
            refine TL_p (PV_indexAddr Try.underlying55 sz4 rfl rfl rfl (by first | omega | decide | assumption)) ?_
            refine TL_cons rfl (TO_store1 0 rfl rfl rfl sz4 rfl rfl rfl (by first | exact Nat.le_of_ble_eq_true rfl | (simp; done) | (simp; omega) | omega) ?_)
            refine TL_nil ?_
            refine T_region ?_
            refine TL_p (PV.cast (PV_bin rfl rfl bin_add) e65) ?_
            refine TL_p (PV_move rfl) ?_
            refine TL_nil ?_
            refine ?L21
            case L21 =>
              refine ⟨i + 1, by omega, by omega, (by repeat (first | exact FrSub.nil _ | refine FrSub.cons rfl ?_)), ?_⟩
              rw [← hst, ← bools_set, show 0 + i * 1 = i by omega]
              exact Has.of_sub (by repeat (first | exact Sb.r | exact Sb.ar | exact Sb.al | apply Sb.c | apply Sb.d | refine Sb.t ?_))
          · have hbv : b.getD i false = false := by
              cases h : b.getD i false with
              | false => rfl
              | true => exact absurd (getD_lt h) hb
            rw [hbv] at hst
            refine T_seq ?_
            refine T_region ?_
            refine TL_p (PV_bin rfl rfl bin_lss) ?_
            refine TL_nil ?_
            refine T_seq ?_
            refine T_then rfl (by exact decide_eq_true (by omega)) ?_
            refine T_skip ?_
            refine T_seq ?_
            refine T_block ?_
            refine T_seq ?_
            refine T_region ?_
            refine TL_p (PV_move rfl) ?_
            refine TL_p (PV_assign rfl) ?_
            refine TL_nil ?_
            refine T_region ?_
            refine TL_p (PV_move rfl) ?_
            refine TL_p (PV_move rfl) ?_
            refine TL_p (PV_move rfl) ?_
            refine TL_p (PV_move rfl) ?_
            refine TL_p (PV_len_slice Try.underlying55 rfl) ?_
            refine TL_p (PV_bin rfl rfl bin_lss) ?_
            refine TL_p (PV_move rfl) ?_
            refine TL_yes rfl rfl (gtrue (by exact decide_eq_true (by omega))) (TO_pure rfl (PV_move rfl) ?_)
            refine TL_yes rfl rfl (gtrue (by exact decide_eq_true (by omega))) (TO_pure rfl (PV_move rfl) ?_)
            refine TL_yes rfl rfl (gtrue (by exact decide_eq_true (by omega))) (TO_pure rfl (PV_indexAddr Try.underlying55 sz4 rfl rfl rfl (by first | omega | decide | assumption)) ?_)
            refine TL_yes rfl rfl (gtrue (by exact decide_eq_true (by omega))) (TO_pure rfl (PV_load Try.underlying4 rfl rfl hra2) ?_)
            refine TL_p (PV.cast (PV_pickAnd rfl rfl rfl) e51) ?_
            refine TL_p (PV_move rfl) ?_
            refine TL_yes rfl rfl rfl (TO_pure rfl (PV_move rfl) ?_)
            refine TL_yes rfl rfl rfl (TO_pure rfl (PV_move rfl) ?_)
            refine TL_yes rfl rfl rfl (TO_pure rfl (PV_len_slice Try.underlying55 rfl) ?_)
            refine TL_yes rfl rfl rfl (TO_pure rfl (PV_bin rfl rfl bin_lss) ?_)
            refine TL_yes rfl rfl rfl (TO_pure rfl (PV_move rfl) ?_)
            refine TL_no (b := false) rfl rfl (gfalse (by exact decide_eq_false (by omega))) rfl ?_
            refine TL_no (b := false) rfl rfl (gfalse (by exact decide_eq_false (by omega))) rfl ?_
            refine TL_no (b := false) rfl rfl (gfalse (by exact decide_eq_false (by omega))) rfl ?_
            refine TL_no (b := false) rfl rfl (gfalse (by exact decide_eq_false (by omega))) rfl ?_
            refine TL_yes rfl rfl rfl (TO_pure rfl (PV_pickF rfl (by first | assumption | rfl | (simp; done) | (simp; omega) | (simp [*]; done) | (simp [*]; omega)) rfl rfl) ?_)
            refine TL_p (PV_pickOr rfl rfl rfl) ?_
            refine TL_p (PV_indexAddr Try.underlying55 sz4 rfl rfl rfl (by first | omega | decide | assumption)) ?_
            refine TL_cons rfl (TO_store1 0 rfl rfl rfl sz4 rfl rfl rfl (by first | exact Nat.le_of_ble_eq_true rfl | (simp; done) | (simp; omega) | omega) ?_)
            refine TL_nil ?_
            refine T_region ?_
            refine TL_p (PV.cast (PV_bin rfl rfl bin_add) e65) ?_
            refine TL_p (PV_move rfl) ?_
            refine TL_nil ?_
            refine ?L31
            case L31 =>
              refine ⟨i + 1, by omega, by omega, (by repeat (first | exact FrSub.nil _ | refine FrSub.cons rfl ?_)), ?_⟩
              rw [← hst, ← bools_set, show 0 + i * 1 = i by omega]
              exact Has.of_sub (by repeat (first | exact Sb.r | exact Sb.ar | exact Sb.al | apply Sb.c | apply Sb.d | refine Sb.t ?_))
      · have hav : a.getD i false = false := by
          cases h : a.getD i false with
          | false => rfl
          | true => exact absurd (getD_lt h) ha
        have hv : bothB a b i = b.getD i false := by unfold bothB; rw [hav]; rfl
        rw [hv] at hst
        have hb : i < b.length := by omega
        refine T_shows (hS2.mono fun w h => h.sub (by repeat (first | exact Sb.r | exact Sb.ar | exact Sb.al | apply Sb.d | refine Sb.t ?_))) (by rw [bools_len]; omega) fun gb ob hB hrb => ?_
        subst hB
        have hrb2 : Rd _ ⟨gb, ob + i * 1, none⟩ (.bool (b.getD i false)) := hrb (i * 1) _ (by rw [Nat.mul_one]; exact bools_at hb)
        have e62 : Value.bool (decide ((i : Int) < (b.length : Int)) && b.getD i false) = .bool (b.getD i false) := by rw [decide_eq_true (by omega), Bool.true_and]
        refine T_seq ?_
        refine T_region ?_
        refine TL_p (PV_bin rfl rfl bin_lss) ?_
        refine TL_nil ?_
        refine T_seq ?_
        refine T_then rfl (by exact decide_eq_true (by omega)) ?_
        refine T_skip ?_
        refine T_seq ?_
        refine T_block ?_
        refine T_seq ?_
        refine T_region ?_
        refine TL_p (PV_move rfl) ?_
        refine TL_p (PV_assign rfl) ?_
        refine TL_nil ?_
        refine T_region ?_
        refine TL_p (PV_move rfl) ?_
        refine TL_p (PV_move rfl) ?_
        refine TL_p (PV_move rfl) ?_
        refine TL_p (PV_move rfl) ?_
        refine TL_p (PV_len_slice Try.underlying55 rfl) ?_
        refine TL_p (PV_bin rfl rfl bin_lss) ?_
        refine TL_p (PV_move rfl) ?_
        refine TL_no (b := false) rfl rfl (gfalse (by exact decide_eq_false (by omega))) rfl ?_
        refine TL_no (b := false) rfl rfl (gfalse (by exact decide_eq_false (by omega))) rfl ?_
        refine TL_no (b := false) rfl rfl (gfalse (by exact decide_eq_false (by omega))) rfl ?_
        refine TL_no (b := false) rfl rfl (gfalse (by exact decide_eq_false (by omega))) rfl ?_
        refine TL_p (PV_pickF rfl (by first | assumption | rfl | (simp; done) | (simp; omega) | (simp [*]; done) | (simp [*]; omega)) rfl rfl) ?_
        refine TL_p (PV_move rfl) ?_
        refine TL_yes rfl rfl rfl (TO_pure rfl (PV_move rfl) ?_)
        refine TL_yes rfl rfl rfl (TO_pure rfl (PV_move rfl) ?_)
        refine TL_yes rfl rfl rfl (TO_pure rfl (PV_len_slice Try.underlying55 rfl) ?_)
        refine TL_yes rfl rfl rfl (TO_pure rfl (PV_bin rfl rfl bin_lss) ?_)
        refine TL_yes rfl rfl rfl (TO_pure rfl (PV_move rfl) ?_)
        refine TL_yes rfl rfl (gtrue (by exact decide_eq_true (by omega))) (TO_pure rfl (PV_move rfl) ?_)
        refine TL_yes rfl rfl (gtrue (by exact decide_eq_true (by omega))) (TO_pure rfl (PV_move rfl) ?_)
        refine TL_yes rfl rfl (gtrue (by exact decide_eq_true (by omega))) (TO_pure rfl (PV_indexAddr Try.underlying55 sz4 rfl rfl rfl (by first | omega | decide | assumption)) ?_)
        refine TL_yes rfl rfl (gtrue (by exact decide_eq_true (by omega))) (TO_pure rfl (PV_load Try.underlying4 rfl rfl hrb2) ?_)
        refine TL_yes rfl rfl rfl (TO_pure rfl (PV.cast (PV_pickAnd rfl rfl rfl) e62) ?_)
        refine TL_p (PV_pickOr rfl rfl rfl) ?_
        refine TL_p (PV_indexAddr Try.underlying55 sz4 rfl rfl rfl (by first | omega | decide | assumption)) ?_
        refine TL_cons rfl (TO_store1 0 rfl rfl rfl sz4 rfl rfl rfl (by first | exact Nat.le_of_ble_eq_true rfl | (simp; done) | (simp; omega) | omega) ?_)
        refine TL_nil ?_
        refine T_region ?_
        refine TL_p (PV.cast (PV_bin rfl rfl bin_add) e65) ?_
        refine TL_p (PV_move rfl) ?_
        refine TL_nil ?_
        refine ?L41
        case L41 =>
          refine ⟨i + 1, by omega, by omega, (by repeat (first | exact FrSub.nil _ | refine FrSub.cons rfl ?_)), ?_⟩
          rw [← hst, ← bools_set, show 0 + i * 1 = i by omega]
          exact Has.of_sub (by repeat (first | exact Sb.r | exact Sb.ar | exact Sb.al | apply Sb.c | apply Sb.d | refine Sb.t ?_))
    · obtain rfl : i = M := by omega
      rw [fillL_full, hZ]
      have hs1 := fun {X : List Chunk} (hT : Tab (WH w0 B X) g28 t) (hS : Shows (WH w0 B X) A1 a.length 1 (bools a)) => Step_t (w0 := w0) (B := B) (H := X) hT (by omega) hS rfl hc1 (by omega) (cb := cb) hcb be
      have hs2 := fun {X : List Chunk} (hT : Tab (WH w0 B X) g28 t) (hS : Shows (WH w0 B X) A2 b.length 1 (bools b)) => Step_t (w0 := w0) (B := B) (H := X) hT (by omega) hS rfl hc2 (by omega) (cb := cb) hcb be
      have hs3 := fun {X : List Chunk} {A3 : Option Addr} (hT : Tab (WH w0 B X) g28 t) (hS : Shows (WH w0 B X) A3 i 1 (bools Z)) => Step_t (w0 := w0) (B := B) (H := X) hT (by omega) hS hZl (Nat.le_refl i) (by omega) (cb := cb) hcb be
      have he1 := fun {X : List Chunk} (hT : Tab (WH w0 B X) g28 t) (hS : Shows (WH w0 B X) A1 a.length 1 (bools a)) => Ends_t' (w0 := w0) (B := B) (H := X) hT (by omega) hS rfl hc1 (by omega)
      have he2 := fun {X : List Chunk} (hT : Tab (WH w0 B X) g28 t) (hS : Shows (WH w0 B X) A2 b.length 1 (bools b)) => Ends_t' (w0 := w0) (B := B) (H := X) hT (by omega) hS rfl hc2 (by omega)
      have he3 := fun {X : List Chunk} {A3 : Option Addr} (hT : Tab (WH w0 B X) g28 t) (hS : Shows (WH w0 B X) A3 i 1 (bools Z)) => Ends_t' (w0 := w0) (B := B) (H := X) hT (by omega) hS hZl (Nat.le_refl i) (by omega)
      refine T_seq ?_
      refine T_region ?_
      refine TL_p (PV_bin rfl rfl bin_lss) ?_
      refine TL_nil ?_
      refine T_seq ?_
      refine T_else rfl (by (simp; done)) ?_
      refine T_exit ?_
      refine T_seq ?_
      refine T_region ?_
      refine TL_p (PV_move rfl) ?_
      refine TL_p (PV_move rfl) ?_
      refine TL_p (PV_move rfl) ?_
      refine TL_p (PV_move rfl) ?_
      refine TL_perm ((perm_pick (i := 0) rfl).trans (List.Perm.cons _ (List.Perm.refl _))) ?_
      refine TL_cons rfl (TO_call0 call32 rfl rfl ((hs1 (hT28.mono fun w h => h.sub (by repeat (first | exact Sb.r | exact Sb.ar | exact Sb.al | apply Sb.d | refine Sb.t ?_))) (hS1.mono fun w h => h.sub ((hHX N24 N28).trans (by repeat (first | exact Sb.r | exact Sb.ar | exact Sb.al | apply Sb.d | refine Sb.t ?_)))))) ?_)
      rintro v70_6002 H70_6002 ⟨g'_6002, rfl, rfl⟩
      refine TL_p (PV_move rfl) ?_
      refine TL_p (PV_move rfl) ?_
      refine TL_p (PV_move rfl) ?_
      refine TL_p (PV_move rfl) ?_
      refine TL_perm ((perm_pick (i := 0) rfl).trans (List.Perm.cons _ (List.Perm.refl _))) ?_
      refine TL_cons rfl (TO_call0 call32 rfl rfl ((hs2 (hT28.mono fun w h => h.sub (by repeat (first | exact Sb.r | exact Sb.ar | exact Sb.al | apply Sb.d | refine Sb.t ?_))) (hS2.mono fun w h => h.sub ((hHX N24 N28).trans (by repeat (first | exact Sb.r | exact Sb.ar | exact Sb.al | apply Sb.d | refine Sb.t ?_)))))) ?_)
      rintro v75_6004 H75_6004 ⟨g'_6004, rfl, rfl⟩
      refine TL_p (PV_move rfl) ?_
      refine TL_p (PV_move rfl) ?_
      refine TL_p (PV_move rfl) ?_
      refine TL_p (PV_move rfl) ?_
      refine TL_perm ((perm_pick (i := 0) rfl).trans (List.Perm.cons _ (List.Perm.refl _))) ?_
      refine TL_cons rfl (TO_call0 call32 rfl rfl ((hs3 (hT28.mono fun w h => h.sub (by repeat (first | exact Sb.r | exact Sb.ar | exact Sb.al | apply Sb.d | refine Sb.t ?_))) (Shows.at 2 rfl))) ?_)
      rintro v80_6006 H80_6006 ⟨g'_6006, rfl, rfl⟩
      refine TL_p (PV_assign rfl) ?_
      refine TL_p (PV_assign rfl) ?_
      refine TL_p (PV_assign rfl) ?_
      refine TL_nil ?_
      refine T_seq ?_
      refine T_seq ?_
      refine T_region ?_
      refine TL_p (PV_move rfl) ?_
      refine TL_p (PV_len_slice Try.underlying55 rfl) ?_
      refine TL_p (PV_move rfl) ?_
      refine TL_cons rfl (TO_eqD call30 (Len_t (hT28.mono fun w h => h.sub (by repeat (first | exact Sb.r | exact Sb.ar | exact Sb.al | apply Sb.d | refine Sb.t ?_)))) rfl rfl _ (List.Sublist.refl _) ?_)
      refine TL_p (PV_bin rfl rfl bin_neq) ?_
      refine TL_p (PV_move rfl) ?_
      refine TL_yes rfl rfl (gfalse (by (simp; done))) (TO_pure rfl (PV_move rfl) ?_)
      refine TL_yes rfl rfl (gfalse (by (simp; done))) (TO_pure rfl (PV_len_slice Try.underlying55 rfl) ?_)
      refine TL_yes rfl rfl (gfalse (by (simp; done))) (TO_pure rfl (PV_move rfl) ?_)
      refine TL_yes rfl rfl (gfalse (by (simp; done))) (TO_eqD call30 (Len_t (hT28.mono fun w h => h.sub (by repeat (first | exact Sb.r | exact Sb.ar | exact Sb.al | apply Sb.d | refine Sb.t ?_)))) rfl rfl _ (List.Sublist.refl _) ?_)
      refine TL_yes rfl rfl (gfalse (by (simp; done))) (TO_pure rfl (PV_bin rfl rfl bin_neq) ?_)
      refine TL_p (PV_pickOr rfl rfl rfl) ?_
      refine TL_p (PV_move rfl) ?_
      refine TL_yes rfl rfl (gfalse (by (simp; done))) (TO_pure rfl (PV_move rfl) ?_)
      refine TL_yes rfl rfl (gfalse (by (simp; done))) (TO_pure rfl (PV_len_slice Try.underlying55 rfl) ?_)
      refine TL_yes rfl rfl (gfalse (by (simp; done))) (TO_pure rfl (PV_move rfl) ?_)
      refine TL_yes rfl rfl (gfalse (by (simp; done))) (TO_eqD call30 (Len_t (hT28.mono fun w h => h.sub (by repeat (first | exact Sb.r | exact Sb.ar | exact Sb.al | apply Sb.d | refine Sb.t ?_)))) rfl rfl _ (List.Sublist.refl _) ?_)
      refine TL_yes rfl rfl (gfalse (by (simp; done))) (TO_pure rfl (PV_bin rfl rfl bin_neq) ?_)
      refine TL_p (PV_pickOr rfl rfl rfl) ?_
      refine TL_nil ?_
      refine T_else rfl (by (simp; done)) ?_
      refine T_skip ?_
      refine T_seq ?_
      refine T_seq ?_
      refine T_region ?_
      refine TL_p (PV_move rfl) ?_
      refine TL_p (PV_len_slice Try.underlying55 rfl) ?_
      refine TL_p (PV_move rfl) ?_
      refine TL_nil ?_
      refine T_block ?_
      refine ?L61
      case L61 =>
        refine T_loopP1 (fun (k : Nat) => k ≤ pl t) (fun k => pl t - k) (fun k => [(1, .slice A1 a.length c1), (2, .slice A2 b.length c2), (13, .pointer (some ⟨g28, 0, none⟩)), (14, .slice (some ⟨g8, 0, none⟩) i i), (16, .slice (some ⟨g'_6002, 0, none⟩) (pl t) (pl t)), (17, .slice (some ⟨g'_6004, 0, none⟩) (pl t) (pl t)), (18, .slice (some ⟨g'_6006, 0, none⟩) (pl t) (pl t)), (101, .int .i64 ((pl t : Nat) : Int)), (102, .int .i64 (k : Int))]) (fun k => .sl (.slice (some ⟨g'_6006, 0, none⟩) (pl t) (pl t)) 1 (pl t) (bools (stepL t Z cb be)) :: .sl (.slice (some ⟨g'_6004, 0, none⟩) (pl t) (pl t)) 1 (pl t) (bools (stepL t b cb be)) :: .sl (.slice (some ⟨g'_6002, 0, none⟩) (pl t) (pl t)) 1 (pl t) (bools (stepL t a cb be)) :: .sl (.slice (some ⟨g8, 0, none⟩) i i) 1 i (bools Z) :: ((H ++ N24) ++ N28)) 0 (Nat.zero_le _) (by repeat (first | exact FrSub.nil _ | refine FrSub.cons rfl ?_)) (Has.of_sub (by repeat (first | exact Sb.r | exact Sb.ar | exact Sb.al | apply Sb.c | apply Sb.d | refine Sb.t ?_))) ?_
        intro k hk
        by_cases hkl : k < pl t
        · have e120 : Value.int .i64 (IntKind.i64.wrap ((k : Int) + 1)) = .int .i64 ((k + 1 : Nat) : Int) := wr64n _ (by push_cast; rfl) (by omega)
          have hg := fun (l : List Bool) (h : l.length = pl t) => bools_at1 (l := l) (i := k) (by omega)
          have h1 := hg _ (stepL_len t a cb be)
          have h2 := hg _ (stepL_len t b cb be)
          have h3 := hg _ (stepL_len t Z cb be)
          rw [stepL_get] at h1 h2 h3
          rw [hsb k] at h3
          obtain ⟨xb, hxb⟩ : ∃ x, stepAt t b cb be k = x := ⟨_, rfl⟩
          rw [hxb] at h2 h3
          cases hxa : stepAt t a cb be k with
          | true =>
            rw [hxa] at h1 h3
            refine T_seq ?_
            refine T_region ?_
            refine TL_p (PV_bin rfl rfl bin_lss) ?_
            refine TL_nil ?_
            refine T_seq ?_
            refine T_then rfl (by exact decide_eq_true (by omega)) ?_
            refine T_skip ?_
            refine T_seq ?_
            refine T_block ?_
            refine T_seq ?_
            refine T_region ?_
            refine TL_p (PV_move rfl) ?_
            refine TL_p (PV_assign rfl) ?_
            refine TL_nil ?_
            refine T_seq ?_
            refine T_drawn (WH _ _ _) mixed (fun w h => h) ?_
            refine TA_p 0 rfl (by kernel_rfl) (PV_move rfl) ?_
            refine TA_p 1 rfl (by kernel_rfl) (PV_move rfl) ?_
            refine TA_p 2 rfl (by kernel_rfl) (PV_indexAddr Try.underlying55 sz4 rfl rfl rfl (by first | omega | decide | assumption)) ?_
            refine TA_p 3 rfl (by kernel_rfl) (PV_load Try.underlying4 rfl rfl (Rd.at 0 rfl h3)) ?_
            refine TA_p 4 rfl (by kernel_rfl) (PV_move rfl) ?_
            refine TA_p 5 rfl (by kernel_rfl) (PV_move rfl) ?_
            refine TA_p 6 rfl (by kernel_rfl) (PV_indexAddr Try.underlying55 sz4 rfl rfl rfl (by first | omega | decide | assumption)) ?_
            refine TA_p 7 rfl (by kernel_rfl) (PV_load Try.underlying4 rfl rfl (Rd.at 2 rfl h1)) ?_
            refine TA_p 8 rfl (by kernel_rfl) (PV_move rfl) ?_
            refine TA_no (dd := (some 114)) (b := true) 9 rfl (by kernel_rfl) (by kernel_rfl) (by kernel_rfl) rfl rfl rfl rfl rfl ?_
            refine TA_no (dd := (some 115)) (b := true) 10 rfl (by kernel_rfl) (by kernel_rfl) (by kernel_rfl) rfl rfl rfl rfl rfl ?_
            refine TA_no (dd := (some 116)) (b := true) 11 rfl (by kernel_rfl) (by kernel_rfl) (by kernel_rfl) rfl rfl rfl rfl rfl ?_
            refine TA_no (dd := (some 117)) (b := true) 12 rfl (by kernel_rfl) (by kernel_rfl) (by kernel_rfl) rfl rfl rfl rfl rfl ?_
            refine TA_p 13 rfl (by kernel_rfl) (PV_pickT rfl (by first | assumption | rfl | (simp; done) | (simp; omega) | (simp [*]; done) | (simp [*]; omega)) rfl rfl) ?_
            refine TA_p 14 rfl (by kernel_rfl) (PV_bin rfl rfl (bin_bool_neq Try.underlying4)) ?_
            refine TA_done (by kernel_rfl) ?_
            refine T_else rfl (by rfl) ?_
            refine T_skip ?_
            refine T_region ?_
            refine TL_p (PV.cast (PV_bin rfl rfl bin_add) e120) ?_
            refine TL_p (PV_move rfl) ?_
            refine TL_nil ?_
            refine ?L71
            case L71 => exact ⟨k + 1, by omega, by omega, (by repeat (first | exact FrSub.nil _ | refine FrSub.cons rfl ?_)), Has.of_sub (by repeat (first | exact Sb.r | exact Sb.ar | exact Sb.al | apply Sb.c | apply Sb.d | refine Sb.t ?_))⟩
          | false =>
            rw [hxa] at h1 h3
            refine T_seq ?_
            refine T_region ?_
            refine TL_p (PV_bin rfl rfl bin_lss) ?_
            refine TL_nil ?_
            refine T_seq ?_
            refine T_then rfl (by exact decide_eq_true (by omega)) ?_
            refine T_skip ?_
            refine T_seq ?_
            refine T_block ?_
            refine T_seq ?_
            refine T_region ?_
            refine TL_p (PV_move rfl) ?_
            refine TL_p (PV_assign rfl) ?_
            refine TL_nil ?_
            refine T_seq ?_
            refine T_drawn (WH _ _ _) mixed (fun w h => h) ?_
            refine TA_p 0 rfl (by kernel_rfl) (PV_move rfl) ?_
            refine TA_p 1 rfl (by kernel_rfl) (PV_move rfl) ?_
            refine TA_p 2 rfl (by kernel_rfl) (PV_indexAddr Try.underlying55 sz4 rfl rfl rfl (by first | omega | decide | assumption)) ?_
            refine TA_p 3 rfl (by kernel_rfl) (PV_load Try.underlying4 rfl rfl (Rd.at 0 rfl h3)) ?_
            refine TA_p 4 rfl (by kernel_rfl) (PV_move rfl) ?_
            refine TA_p 5 rfl (by kernel_rfl) (PV_move rfl) ?_
            refine TA_p 6 rfl (by kernel_rfl) (PV_indexAddr Try.underlying55 sz4 rfl rfl rfl (by first | omega | decide | assumption)) ?_
            refine TA_p 7 rfl (by kernel_rfl) (PV_load Try.underlying4 rfl rfl (Rd.at 2 rfl h1)) ?_
            refine TA_p 8 rfl (by kernel_rfl) (PV_move rfl) ?_
            refine TA_yes (dd := (some 114)) 9 rfl (by kernel_rfl) (by kernel_rfl) (by kernel_rfl) rfl rfl rfl rfl rfl (PV_move rfl) ?_
            refine TA_yes (dd := (some 115)) 10 rfl (by kernel_rfl) (by kernel_rfl) (by kernel_rfl) rfl rfl rfl rfl rfl (PV_move rfl) ?_
            refine TA_yes (dd := (some 116)) 11 rfl (by kernel_rfl) (by kernel_rfl) (by kernel_rfl) rfl rfl rfl rfl rfl (PV_indexAddr Try.underlying55 sz4 rfl rfl rfl (by first | omega | decide | assumption)) ?_
            refine TA_yes (dd := (some 117)) 12 rfl (by kernel_rfl) (by kernel_rfl) (by kernel_rfl) rfl rfl rfl rfl rfl (PV_load Try.underlying4 rfl rfl (Rd.at 1 rfl h2)) ?_
            refine TA_p 13 rfl (by kernel_rfl) (PV_pickOr rfl rfl rfl) ?_
            refine TA_p 14 rfl (by kernel_rfl) (PV_bin rfl rfl (bin_bool_neq Try.underlying4)) ?_
            refine TA_done (by kernel_rfl) ?_
            refine T_else rfl (by (simp; done)) ?_
            refine T_skip ?_
            refine T_region ?_
            refine TL_p (PV.cast (PV_bin rfl rfl bin_add) e120) ?_
            refine TL_p (PV_move rfl) ?_
            refine TL_nil ?_
            refine ?L81
            case L81 => exact ⟨k + 1, by omega, by omega, (by repeat (first | exact FrSub.nil _ | refine FrSub.cons rfl ?_)), Has.of_sub (by repeat (first | exact Sb.r | exact Sb.ar | exact Sb.al | apply Sb.c | apply Sb.d | refine Sb.t ?_))⟩
        · obtain rfl : k = pl t := by omega
          rcases Bool.eq_false_or_eq_true (endsT t a) with hea | hea
          · refine T_seq ?_
            refine T_region ?_
            refine TL_p (PV_bin rfl rfl bin_lss) ?_
            refine TL_nil ?_
            refine T_seq ?_
            refine T_else rfl (by (simp; done)) ?_
            refine T_exit ?_
            refine T_seq ?_
            refine T_region ?_
            refine TL_p (PV_move rfl) ?_
            refine TL_p (PV_move rfl) ?_
            refine TL_cons rfl (TO_eqD call33 (he3 (hT28.mono fun w h => h.sub (by repeat (first | exact Sb.r | exact Sb.ar | exact Sb.al | apply Sb.d | refine Sb.t ?_))) (Shows.at 3 rfl)) rfl rfl _ (List.Sublist.refl _) ?_)
            refine TL_p (PV_move rfl) ?_
            refine TL_p (PV_move rfl) ?_
            refine TL_cons rfl (TO_eqD call33 (he1 (hT28.mono fun w h => h.sub (by repeat (first | exact Sb.r | exact Sb.ar | exact Sb.al | apply Sb.d | refine Sb.t ?_))) (hS1.mono fun w h => h.sub ((hHX N24 N28).trans (by repeat (first | exact Sb.r | exact Sb.ar | exact Sb.al | apply Sb.d | refine Sb.t ?_))))) rfl rfl _ (List.Sublist.refl _) ?_)
            refine TL_p (PV_move rfl) ?_
            refine TL_no (b := true) rfl rfl (gtrue (by with_reducible assumption)) rfl ?_
            refine TL_no (b := true) rfl rfl (gtrue (by with_reducible assumption)) rfl ?_
            refine TL_no (b := true) rfl rfl (gtrue (by with_reducible assumption)) rfl ?_
            refine TL_p (PV_pickT rfl (by first | assumption | rfl | (simp; done) | (simp; omega) | (simp [*]; done) | (simp [*]; omega)) rfl rfl) ?_
            refine TL_p (PV_bin rfl rfl (bin_bool_eql Try.underlying4)) ?_
            refine TL_p (PV_assign rfl) ?_
            refine TL_nil ?_
            refine T_ret ?_
            refine ret_ret (ResV_one rfl rfl) ⟨_, ?zb9003q240, ⟨?L91, rfl⟩⟩
            case zb9003q240 => exact (by (repeat (first | exact Sb.r | exact Sb.ar | exact Sb.al | apply Sb.c | apply Sb.d | refine Sb.t ?_)); done)
            case L91 => rw [heb, hea]; rfl
          · refine T_seq ?_
            refine T_region ?_
            refine TL_p (PV_bin rfl rfl bin_lss) ?_
            refine TL_nil ?_
            refine T_seq ?_
            refine T_else rfl (by (simp; done)) ?_
            refine T_exit ?_
            refine T_seq ?_
            refine T_region ?_
            refine TL_p (PV_move rfl) ?_
            refine TL_p (PV_move rfl) ?_
            refine TL_cons rfl (TO_eqD call33 (he3 (hT28.mono fun w h => h.sub (by repeat (first | exact Sb.r | exact Sb.ar | exact Sb.al | apply Sb.d | refine Sb.t ?_))) (Shows.at 3 rfl)) rfl rfl _ (List.Sublist.refl _) ?_)
            refine TL_p (PV_move rfl) ?_
            refine TL_p (PV_move rfl) ?_
            refine TL_cons rfl (TO_eqD call33 (he1 (hT28.mono fun w h => h.sub (by repeat (first | exact Sb.r | exact Sb.ar | exact Sb.al | apply Sb.d | refine Sb.t ?_))) (hS1.mono fun w h => h.sub ((hHX N24 N28).trans (by repeat (first | exact Sb.r | exact Sb.ar | exact Sb.al | apply Sb.d | refine Sb.t ?_))))) rfl rfl _ (List.Sublist.refl _) ?_)
            refine TL_p (PV_move rfl) ?_
            refine TL_yes rfl rfl (gfalse (by with_reducible assumption)) (TO_pure rfl (PV_move rfl) ?_)
            refine TL_yes rfl rfl (gfalse (by with_reducible assumption)) (TO_pure rfl (PV_move rfl) ?_)
            refine TL_yes rfl rfl (gfalse (by with_reducible assumption)) (TO_eqD call33 (he2 (hT28.mono fun w h => h.sub (by repeat (first | exact Sb.r | exact Sb.ar | exact Sb.al | apply Sb.d | refine Sb.t ?_))) (hS2.mono fun w h => h.sub ((hHX N24 N28).trans (by repeat (first | exact Sb.r | exact Sb.ar | exact Sb.al | apply Sb.d | refine Sb.t ?_))))) rfl rfl _ (List.Sublist.refl _) ?_)
            refine TL_p (PV_pickOr rfl rfl rfl) ?_
            refine TL_p (PV_bin rfl rfl (bin_bool_eql Try.underlying4)) ?_
            refine TL_p (PV_assign rfl) ?_
            refine TL_nil ?_
            refine T_ret ?_
            refine ret_ret (ResV_one rfl rfl) ⟨_, ?zb10004q244, ⟨?L101, rfl⟩⟩
            case zb10004q244 => exact (by (repeat (first | exact Sb.r | exact Sb.ar | exact Sb.al | apply Sb.c | apply Sb.d | refine Sb.t ?_)); done)
            case L101 => rw [heb, hea]; simp
end
end Go.Proofs.Ytkgdphbccagjcaa.SL
