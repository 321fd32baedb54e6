import Derived.Test.YtpfcpookdocikaaK1
/- Numbered parts keep their bytes, and change by nobody: the law. No statement is proved here. -/
set_option linter.unusedVariables false
set_option linter.unusedSimpArgs false
set_option maxRecDepth 100000
set_option maxHeartbeats 8000000
namespace Go.Proofs.Ytpfcpookdocikaa.SL
open Go Go.RowKit
def incI (x : Int) : Int := (x + 1) % 256
def incL (l : List Int) : List Int := l.map incI
def incP (p : Part) : Part := (p.1, p.2.1, incL p.2.2)
def pI (l : List Int) (i : Nat) : List Int := incL (l.take i) ++ l.drop i
theorem pI_len (l : List Int) (i : Nat) : (pI l i).length = l.length := by
  simp only [pI, incL, List.length_append, List.length_map, List.length_take, List.length_drop]; omega
theorem pI_0 (l : List Int) : pI l 0 = l := rfl
theorem pI_all (l : List Int) : pI l l.length = incL l := by simp [pI]
theorem pI_at {l : List Int} {i : Nat} (h : i < l.length) : rd (pI l i) (i : Int) = rd l (i : Int) := by
  simp only [rd, Int.toNat_natCast, List.getD_eq_getElem?_getD, pI]
  rw [List.getElem?_append_right (by simp [incL]; omega)]
  simp only [incL, List.length_map, List.length_take, List.getElem?_drop]
  rw [show i + (i - min i l.length) = i by omega]
theorem pI_set {l : List Int} {i : Nat} (h : i < l.length) : (pI l i).set i (incI (rd l (i : Int))) = pI l (i + 1) := by
  have hr : rd l (i : Int) = l[i] := by simp [rd, List.getD_eq_getElem?_getD, List.getElem?_eq_getElem h]
  have hlen : (incL (l.take i)).length = i := by simp [incL]; omega
  unfold pI
  rw [List.set_append_right _ _ (by omega), hlen, Nat.sub_self, List.drop_eq_getElem_cons h, List.set_cons_zero, List.take_succ_eq_append_getElem h, hr]
  simp only [incL, List.map_append, List.map_cons, List.map_nil, List.append_assoc, List.cons_append, List.nil_append]
def rowsAt (qs : List Part) (k : Nat) : List Part := (qs.take k).map incP ++ qs.drop k
theorem rowsAt_mid {qs : List Part} {k : Nat} (h : k < qs.length) : rowsAt qs k = (qs.take k).map incP ++ qs[k] :: qs.drop (k + 1) := by
  unfold rowsAt
  rw [List.drop_eq_getElem_cons h]
theorem rowsAt_next {qs : List Part} {k : Nat} (h : k < qs.length) : rowsAt qs (k + 1) = (qs.take k).map incP ++ incP qs[k] :: qs.drop (k + 1) := by
  unfold rowsAt
  rw [List.take_succ_eq_append_getElem h]
  simp only [List.map_append, List.map_cons, List.map_nil, List.append_assoc, List.cons_append, List.nil_append]
/-- what is beside a row -/
def restR (qs : List Part) (k : Nat) (H : List Chunk) : List Chunk := (((qs.take k).map incP).map pCh ++ (qs.drop (k + 1)).map pCh) ++ H
theorem rows_perm {qs : List Part} {k : Nat} {S : Chunk} {H : List Chunk} (h : k < qs.length) : (S :: ((rowsAt qs k).map pCh ++ H)).Perm (pCh qs[k] :: S :: restR qs k H) := by
  rw [rowsAt_mid h, List.map_append, List.map_cons]
  exact ((List.perm_middle.append_right H).cons S).trans (List.Perm.swap _ _ _)
theorem rows_perm2 {qs : List Part} {k : Nat} {S : Chunk} {H : List Chunk} (h : k < qs.length) : (pCh (incP qs[k]) :: S :: restR qs k H).Perm (S :: ((rowsAt qs (k + 1)).map pCh ++ H)) := by
  rw [rowsAt_next h, List.map_append, List.map_cons]
  exact (List.Perm.swap _ _ _).trans ((List.perm_middle.symm.append_right H).cons S)
theorem rest_sub {qs : List Part} {k : Nat} {H : List Chunk} : H.Sublist (restR qs k H) := List.sublist_append_right _ _
section
variable {w0 : World} {B n : Nat} {H : List Chunk}
theorem TL_shows {P : Program} {ops : Array Oper} {rest : List Oper} {Q : Exit → Fr → List Chunk → Prop} {fr : Fr} {A : Option Addr} {m es : Nat} {ys : List Value} (hS : Shows (WH w0 B H) A m es ys) (hne : 0 < ys.length) (h : ∀ g off, A = some ⟨g, off, none⟩ → (∀ j v, ys[j]? = some v → Rd (WH w0 B H) ⟨g, off + j, none⟩ v) → TL P w0 B n ops rest Q fr H) : TL P w0 B n ops rest Q fr H := by
  intro HX a w hf hr
  have hn : ys ≠ [] := by intro e; subst e; simp at hne
  obtain ⟨p, rfl, hc⟩ := hS.run hn ⟨HX, hr⟩
  have hp : p.spot = none := by
    have h1 := hc 0 _ (List.getElem?_eq_getElem hne)
    simp only [Addr.add, if_true, World.cell?] at h1
    split at h1
    · cases hsp : p.spot with
      | none => rfl
      | some q => simp [hsp] at h1
    · cases h1
  obtain ⟨g, off, sp⟩ := p
  simp only at hp
  subst hp
  refine h g off rfl (fun j v hj w' hw' => ?_) HX a w hf hr
  obtain ⟨p, e, hc⟩ := hS.run hn hw'
  cases e
  have := hc j v hj
  rwa [add_plain'] at this
theorem awake04_t : TCall Try.prog w0 B 5 #[] (fun r H' => r = .bool true ∧ H = H') H := by
  have hrep : nums .u8 (List.replicate 128 0) = List.replicate 128 (.int .u8 0) := by simp [nums]
  obtain ⟨bs, hbs⟩ : ∃ bs, blockL (leadOf 128) 1 (List.replicate 128 0) false = bs := ⟨_, rfl⟩
  have hlen : bs.length = 132 := by rw [← hbs]; decide +kernel
  have hs : scanS bs false = 2 := by rw [← hbs]; decide +kernel
  have hd : (scanD bs false).length = 128 := by rw [← hbs]; decide +kernel
  have h1 : rd bs 1 = 1 := by rw [← hbs]; decide +kernel
  have hn : (nums .u8 bs)[0]? = some (.int .u8 1) ∧ (nums .u8 bs)[1]? = some (.int .u8 1) ∧ (nums .u8 bs)[2]? = some (.int .u8 254) := by
    rw [← hbs]; exact ⟨rfl, rfl, rfl⟩
  have hub : U8s bs := by
    have hu : ∀ x ∈ blockL (leadOf 128) 1 (List.replicate 128 0) false, 0 ≤ x ∧ x ≤ 255 := by decide +kernel
    rw [← hbs]; exact hu
  have hmk := fun {X : List Chunk} {g : Nat} => t49 (w0 := w0) (B := B) (H := .sl (.slice (some ⟨g, 0, none⟩) 128 128) 1 128 (List.replicate 128 (.int .u8 0)) :: X) (num := 1) (A := some ⟨g, 0, none⟩) (c := 128) (l := List.replicate 128 0) (m := 128) false (by rw [hrep]; exact Shows.at 0 rfl) (by simp) (Or.inl rfl) (Nat.le_refl _) (fun x hx => by rw [(List.mem_replicate.1 hx).2]; omega) ⟨by omega, by omega⟩
  rw [hbs, hlen] at hmk
  refine TCall_intro (args := []) Try.func5 rfl Try.ntmps5 (Nat.le_of_ble_eq_true rfl) ?_
  refine T_seq ?_
  refine T_region ?_
  refine TL_p (PV_assign rfl) ?_
  refine TL_nil ?_
  refine T_seq ?_
  refine T_region ?_
  refine TL_cons rfl (TO_make (m := 128) Try.underlying26 zb5 rfl (by omega) (by omega) rfl ⟨_, rfl⟩ ⟨_, rfl⟩ fun g1 => ?_)
  refine TL_p (PV_bld (cs := [_, _]) Try.underlying28 pl28 zr28 rfl rfl) ?_
  refine TL_cons rfl (TO_call0 call15 rfl rfl (hmk) ?_)
  rintro v8_4 H8_4 ⟨A_4, c'_4, rfl, h_4_0, rfl⟩
  refine TL_p (PV_move rfl) ?_
  refine TL_p (PV_extract rfl rfl) ?_
  refine TL_p (PV_extract rfl rfl) ?_
  refine TL_p (PV_assign rfl) ?_
  refine TL_p (PV_assign rfl) ?_
  refine TL_nil ?_
  refine T_seq ?_
  refine T_region ?_
  refine ?L1
  case L1 =>
    refine TL_shows (A := A_4) (Shows.at 0 rfl) (by simp [nums, hlen]) fun ga oa hA hr => ?_
    subst hA
    have r0 : Rd _ ⟨ga, oa + 0 * 1, none⟩ (.int .u8 1) := hr (0 * 1) _ hn.1
    have r1 : Rd _ ⟨ga, oa + 1 * 1, none⟩ (.int .u8 1) := hr (1 * 1) _ hn.2.1
    have r2 : Rd _ ⟨ga, oa + 2 * 1, none⟩ (.int .u8 254) := hr (2 * 1) _ hn.2.2
    have hsc := fun {X : List Chunk} => t52yes (w0 := w0) (B := B) (H := .sl (.slice (some ⟨ga, oa, none⟩) 132 c'_4) 1 132 (nums .u8 bs) :: X) (A := some ⟨ga, oa, none⟩) (l := bs) (m := 132) (c := c'_4) false (Shows.at 0 rfl) hlen (by omega) (by omega) hub hs
    rw [hd, h1] at hsc
    refine TL_p (PV_move rfl) ?_
    refine TL_cons rfl (TO_call0 call14 rfl rfl (hsc) ?_)
    rintro v13_1003 H13_1003 ⟨A'_1003, c'_1003, rfl, h_1003_0, rfl⟩
    refine TL_p (PV_move rfl) ?_
    refine TL_p (PV_extract rfl rfl) ?_
    refine TL_p (PV_extract rfl rfl) ?_
    refine TL_cons rfl (TO_alloc rfl zr28 fun g1004 => ?_)
    refine TL_cons rfl (TO_store 0 rfl rfl rfl sz28 rfl rfl rfl (all_one rfl) (by first | exact Nat.le_of_ble_eq_true rfl | (simp; done) | (simp; omega) | omega) ?_)
    refine TL_p (PV_assign rfl) ?_
    refine TL_nil ?_
    refine T_seq ?_
    refine T_region ?_
    refine TL_p (PV_move rfl) ?_
    refine TL_p (PV_move rfl) ?_
    refine TL_yes rfl rfl rfl (TO_pure rfl (PV_move rfl) ?_)
    refine TL_yes rfl rfl rfl (TO_pure rfl (PV_len_slice Try.underlying26 rfl) ?_)
    refine TL_yes rfl rfl rfl (TO_pure rfl (PV_bin rfl rfl bin_eql) ?_)
    refine TL_p (PV_pickAnd rfl rfl rfl) ?_
    refine TL_p (PV_move rfl) ?_
    refine TL_yes rfl rfl rfl (TO_pure rfl (PV_move rfl) ?_)
    refine TL_yes rfl rfl rfl (TO_pure rfl (PV_indexAddr (i := 0) Try.underlying26 sz5 rfl rfl rfl (by first | omega | decide | assumption)) ?_)
    refine TL_yes rfl rfl rfl (TO_pure rfl (PV_load Try.underlying5 rfl rfl (Rd.mono r0 (fun w h => h.sub (by (repeat (first | exact Sb.r | exact Sb.ar | exact Sb.al | apply Sb.d | refine Sb.t ?_)); done)))) ?_)
    refine TL_yes rfl rfl rfl (TO_pure rfl (PV_bin rfl rfl bin_eql) ?_)
    refine TL_p (PV_pickAnd rfl rfl rfl) ?_
    refine TL_p (PV_move rfl) ?_
    refine TL_yes rfl rfl rfl (TO_pure rfl (PV_move rfl) ?_)
    refine TL_yes rfl rfl rfl (TO_pure rfl (PV_indexAddr (i := 1) Try.underlying26 sz5 rfl rfl rfl (by first | omega | decide | assumption)) ?_)
    refine TL_yes rfl rfl rfl (TO_pure rfl (PV_load Try.underlying5 rfl rfl (Rd.mono r1 (fun w h => h.sub (by (repeat (first | exact Sb.r | exact Sb.ar | exact Sb.al | apply Sb.d | refine Sb.t ?_)); done)))) ?_)
    refine TL_yes rfl rfl rfl (TO_pure rfl (PV_bin rfl rfl bin_eql) ?_)
    refine TL_p (PV_pickAnd rfl rfl rfl) ?_
    refine TL_p (PV_move rfl) ?_
    refine TL_yes rfl rfl rfl (TO_pure rfl (PV_move rfl) ?_)
    refine TL_yes rfl rfl rfl (TO_pure rfl (PV_indexAddr (i := 2) Try.underlying26 sz5 rfl rfl rfl (by first | omega | decide | assumption)) ?_)
    refine TL_yes rfl rfl rfl (TO_pure rfl (PV_load Try.underlying5 rfl rfl (Rd.mono r2 (fun w h => h.sub (by (repeat (first | exact Sb.r | exact Sb.ar | exact Sb.al | apply Sb.d | refine Sb.t ?_)); done)))) ?_)
    refine TL_yes rfl rfl rfl (TO_pure rfl (PV_bin rfl rfl bin_eql) ?_)
    refine TL_p (PV_pickAnd rfl rfl rfl) ?_
    refine TL_p (PV_move rfl) ?_
    refine TL_yes rfl rfl rfl (TO_pure rfl (PV_move rfl) ?_)
    refine TL_yes rfl rfl rfl (TO_pure rfl (PV_bin rfl rfl bin_eql) ?_)
    refine TL_p (PV_pickAnd rfl rfl rfl) ?_
    refine TL_p (PV_move rfl) ?_
    refine TL_yes rfl rfl rfl (TO_pure rfl (PV_fieldAddr (D := 0) Try.underlying28 rfl sz5 (by decide) rfl rfl) ?_)
    refine TL_yes rfl rfl rfl (TO_pure rfl (PV_load Try.underlying5 rfl rfl (Rd.at 0 rfl rfl)) ?_)
    refine TL_yes rfl rfl rfl (TO_pure rfl (PV_bin rfl rfl bin_eql) ?_)
    refine TL_p (PV_pickAnd rfl rfl rfl) ?_
    refine TL_p (PV_move rfl) ?_
    refine TL_yes rfl rfl rfl (TO_pure rfl (PV_fieldAddr (D := 1) Try.underlying28 rfl sz26 (by decide) rfl rfl) ?_)
    refine TL_yes rfl rfl rfl (TO_pure rfl (PV_load Try.underlying26 rfl rfl (Rd.at 0 rfl rfl)) ?_)
    refine TL_yes rfl rfl rfl (TO_pure rfl (PV_len_slice Try.underlying26 rfl) ?_)
    refine TL_yes rfl rfl rfl (TO_pure rfl (PV_bin rfl rfl bin_eql) ?_)
    refine TL_p (PV_pickAnd rfl rfl rfl) ?_
    refine TL_p (PV_assign rfl) ?_
    refine TL_nil ?_
    refine T_ret ?_
    refine ret_ret (ResV_one rfl rfl) ⟨_, ?zb1006q92, ⟨rfl, rfl⟩⟩
    case zb1006q92 => exact (by (repeat (first | exact Sb.r | exact Sb.ar | exact Sb.al | apply Sb.c | apply Sb.d | refine Sb.t ?_)); done)
theorem BlockBack_t {A : Option Addr} {m c : Nat} {ps : List Part} (hS : Shows (WH w0 B H) A m 1 (ps.map pVal)) (hP : ShowsAll (WH w0 B H) ps) (hm : ps.length = m) (hm2 : m ≤ 5864062014634) (hb : ∀ p ∈ ps, p.2.2.length ≤ 140737488355328) (hu : ∀ p ∈ ps, U8s p.2.2) (hc : m ≤ c) :
    TCall Try.prog w0 B 3 #[.slice A m c] (fun r H' => r = .bool true ∧ H' = H) H := by
  have e16 : Value.bool ((m : Int) != (m : Int)) = .bool false := by simp
  refine TCall_intro (args := [_]) Try.func3 rfl Try.ntmps3 (Nat.le_of_ble_eq_true rfl) ?_
  refine T_seq ?_
  refine T_region ?_
  refine TL_p (PV_assign rfl) ?_
  refine TL_nil ?_
  refine T_seq ?_
  refine T_seq ?_
  refine T_region ?_
  refine TL_cons rfl (TO_call0 call5 rfl rfl (awake04_t) ?_)
  rintro v8_3 H8_3 ⟨rfl, rfl⟩
  refine TL_p (PV_not rfl) ?_
  refine TL_nil ?_
  refine T_else rfl (by rfl) ?_
  refine T_skip ?_
  refine T_seq ?_
  refine T_region ?_
  refine TL_p (PV_move rfl) ?_
  refine TL_cons rfl (TO_num hS hP hm (by omega) hb hc rfl rfl fun A' c' qs hq1 hq2 hq3 hq4 => ?_)
  refine TL_p (PV_assign rfl) ?_
  refine TL_nil ?_
  refine T_seq ?_
  refine T_seq ?_
  refine T_region ?_
  refine TL_p (PV_move rfl) ?_
  refine TL_p (PV_len_slice Try.underlying24 rfl) ?_
  refine TL_p (PV_move rfl) ?_
  refine TL_p (PV_len_slice Try.underlying22 rfl) ?_
  refine TL_p (PV.cast (PV_bin rfl rfl bin_neq) e16) ?_
  refine TL_nil ?_
  refine T_else rfl (by rfl) ?_
  refine T_skip ?_
  refine T_seq ?_
  refine T_seq ?_
  refine T_region ?_
  refine TL_p (PV_move rfl) ?_
  refine TL_p (PV_len_slice Try.underlying24 rfl) ?_
  refine TL_p (PV_move rfl) ?_
  refine TL_nil ?_
  refine T_block ?_
  refine ?L1
  case L1 =>
    refine T_loopP1 (fun (k : Nat) => k ≤ m) (fun k => m - k) (fun k => [(0, .slice A m c), (3, .slice A' m c'), (17, .slice A' m c'), (18, .int .i64 (m : Int)), (19, .int .i64 (k : Int))]) (fun k => .sl (.slice A' m c') 2 m (bCells 0 qs) :: ((rowsAt qs k).map pCh ++ H)) 0 (Nat.zero_le _) (by repeat (first | exact FrSub.nil _ | refine FrSub.cons rfl ?_)) ⟨_, List.Perm.cons _ (((List.reverse_perm qs).map pCh).append_right H), List.Sublist.refl _⟩ ?_
    rintro k hk
    by_cases hkm : k < m
    · have hkq : k < qs.length := by omega
      have hkp : k < ps.length := by omega
      refine T.perm (rows_perm hkq) ?_
      obtain ⟨R, hR⟩ : ∃ R, restR qs k H = R := ⟨_, rfl⟩
      have hHR : H.Sublist R := hR ▸ rest_sub
      have hpk := hP ps[k] (List.getElem_mem _)
      have hqk := hq3 qs[k] (List.getElem_mem _)
      have hbc := bCells_get 0 qs k qs[k] (List.getElem?_eq_getElem hkq)
      have hbk := hb ps[k] (List.getElem_mem _)
      have hdat : qs[k].2.2 = ps[k].2.2 := by
        have h1 := congrArg (fun l : List (List Int) => l[k]?) hq1
        simpa [List.getElem?_map, List.getElem?_eq_getElem hkq, List.getElem?_eq_getElem hkp] using h1
      have hback := rows_perm2 (S := .sl (.slice A' m c') 2 m (bCells 0 qs)) (H := H) hkq
      have hrow : (ps.map pVal)[k * 1]? = some (pVal ps[k]) := by rw [Nat.mul_one, List.getElem?_map, List.getElem?_eq_getElem hkp]; rfl
      rw [hR] at hback ⊢
      obtain ⟨q, hq⟩ : ∃ q, qs[k] = q := ⟨_, rfl⟩
      obtain ⟨p, hp⟩ : ∃ p, ps[k] = p := ⟨_, rfl⟩
      rw [hq] at hqk hbc hdat hback ⊢
      rw [hp] at hpk hdat hbk hrow
      obtain ⟨Aq, cq, xs⟩ := q
      obtain ⟨Ap, cp, ys⟩ := p
      obtain rfl : xs = ys := hdat
      have hpc : pCh (incP (Aq, cq, xs)) = .sl (.slice Aq xs.length cq) 1 xs.length (nums .u8 (incL xs)) := by simp [pCh, incP, incL]
      rw [hpc] at hback
      have hpS := hpk.1
      have hpC := hpk.2
      dsimp only at hpS hpC hbk hqk
      have hbn : (bCells 0 qs)[k * 2]? = some (.int .u8 (((0 + k + 1) % 256 : Nat) : Int)) := hbc.1
      have hbd : (bCells 0 qs)[k * 2 + 1]? = some (.slice Aq xs.length cq) := hbc.2
      show T _ _ _ _ _ _ _ (.sl (.slice Aq xs.length cq) 1 xs.length (nums .u8 xs) :: .sl (.slice A' m c') 2 m (bCells 0 qs) :: R)
      refine T_slA 1 rfl (by omega) fun gb hA => ?_
      subst hA
      refine T_shows ((hS.mono fun w h => h.sub (hHR.trans (by repeat (first | exact Sb.r | exact Sb.ar | exact Sb.al | apply Sb.d | refine Sb.t ?_)))) : Shows (WH w0 B (.sl (.slice Aq xs.length cq) 1 xs.length (nums .u8 xs) :: .sl (.slice (some ⟨gb, 0, none⟩) m c') 2 m (bCells 0 qs) :: R)) A m 1 (ps.map pVal)) (by rw [List.length_map]; omega) fun ga oa hA hrd => ?_
      subst hA
      have hr : Rd _ ⟨ga, oa + k * 1, none⟩ (.slice Ap xs.length cp) := hrd (k * 1) _ hrow
      have r0 : Rd (WH w0 B (.sl (.slice Aq xs.length cq) 1 xs.length (nums .u8 xs) :: .sl (.slice (some ⟨gb, 0, none⟩) m c') 2 m (bCells 0 qs) :: R)) ⟨gb, 0 + k * 2 + 0, none⟩ (.int .u8 (((0 + k + 1) % 256 : Nat) : Int)) := (Shows.at 1 rfl).rd (k * 2) (by omega) hbn
      have r1 : Rd (WH w0 B (.sl (.slice Aq xs.length cq) 1 xs.length (nums .u8 xs) :: .sl (.slice (some ⟨gb, 0, none⟩) m c') 2 m (bCells 0 qs) :: R)) ⟨gb, 0 + k * 2 + 1, none⟩ (.slice Aq xs.length cq) := (Shows.at 1 rfl).rd (k * 2 + 1) (by omega) hbd
      have hpS2 : Shows (WH w0 B (.sl (.slice Aq xs.length cq) 1 xs.length (nums .u8 xs) :: .sl (.slice (some ⟨gb, 0, none⟩) m c') 2 m (bCells 0 qs) :: R)) Ap xs.length 1 (nums .u8 xs) := hpS.mono fun w h => h.sub (hHR.trans (by repeat (first | exact Sb.r | exact Sb.ar | exact Sb.al | apply Sb.d | refine Sb.t ?_)))
      have e33 : Value.bool (!decide (strOfNums xs = strOfNums xs)) = .bool false := by simp
      have e41 : Value.int .i64 (IntKind.i64.wrap ((k : Int) + 1)) = .int .i64 ((k + 1 : Nat) : Int) := wr64n _ (by push_cast; rfl) (by omega)
      have e42 : Value.int .i64 (((k + 1 : Nat) : Int).tmod 256) = .int .i64 (((k + 1) % 256 : Nat) : Int) := rfl
      have e43 : Value.int .u8 (IntKind.u8.wrap (((k + 1) % 256 : Nat) : Int)) = .int .u8 (((k + 1) % 256 : Nat) : Int) := by rw [IntKind.wrap_u8]; congr 1; omega
      have e44 : Value.bool ((((0 + k + 1) % 256 : Nat) : Int) != (((k + 1) % 256 : Nat) : Int)) = .bool false := by rw [show 0 + k + 1 = k + 1 by omega]; simp
      refine T_seq ?_
      refine T_region ?_
      refine TL_p (PV_bin rfl rfl bin_lss) ?_
      refine TL_nil ?_
      refine T_seq ?_
      refine T_then rfl (by exact decide_eq_true (by omega)) ?_
      refine T_skip ?_
      refine T_seq ?_
      refine T_block ?_
      refine T_seq ?_
      refine T_region ?_
      refine TL_p (PV_move rfl) ?_
      refine TL_p (PV_assign rfl) ?_
      refine TL_nil ?_
      refine T_seq ?_
      refine T_seq ?_
      refine T_drawn (WH _ _ _) mixed (fun w h => h) ?_
      refine TA_p 0 rfl (by kernel_rfl) (PV_move rfl) ?_
      refine TA_p 1 rfl (by kernel_rfl) (PV_move rfl) ?_
      refine TA_p 2 rfl (by kernel_rfl) (PV_indexAddr Try.underlying24 sz28 rfl rfl rfl (by first | omega | decide | assumption)) ?_
      refine TA_p 3 rfl (by kernel_rfl) (PV_fieldAddr (D := 1) Try.underlying28 rfl sz26 (by decide) rfl rfl) ?_
      refine TA_p 4 rfl (by kernel_rfl) (PV_load Try.underlying26 rfl rfl r1) ?_
      refine TA_p 5 rfl (by kernel_rfl) (PV_b2s Try.underlying26 Try.underlying5 Try.underlying9 rfl (Shows.at 0 rfl)) ?_
      refine TA_p 6 rfl (by kernel_rfl) (PV_move rfl) ?_
      refine TA_p 7 rfl (by kernel_rfl) (PV_move rfl) ?_
      refine TA_p 8 rfl (by kernel_rfl) (PV_indexAddr Try.underlying22 sz26 rfl rfl rfl (by first | omega | decide | assumption)) ?_
      refine TA_p 9 rfl (by kernel_rfl) (PV_load Try.underlying26 rfl rfl hr) ?_
      refine TA_p 10 rfl (by kernel_rfl) (PV_b2s Try.underlying26 Try.underlying5 Try.underlying9 rfl hpS2) ?_
      refine TA_p 11 rfl (by kernel_rfl) (PV.cast (PV_bin rfl rfl bin_str_neq) e33) ?_
      refine TA_p 12 rfl (by kernel_rfl) (PV_move rfl) ?_
      refine TA_yes (dd := (some 35)) 13 rfl (by kernel_rfl) (by kernel_rfl) (by kernel_rfl) rfl rfl rfl rfl rfl (PV_move rfl) ?_
      refine TA_yes (dd := (some 36)) 14 rfl (by kernel_rfl) (by kernel_rfl) (by kernel_rfl) rfl rfl rfl rfl rfl (PV_move rfl) ?_
      refine TA_yes (dd := (some 37)) 15 rfl (by kernel_rfl) (by kernel_rfl) (by kernel_rfl) rfl rfl rfl rfl rfl (PV_indexAddr Try.underlying24 sz28 rfl rfl rfl (by first | omega | decide | assumption)) ?_
      refine TA_yes (dd := (some 38)) 16 rfl (by kernel_rfl) (by kernel_rfl) (by kernel_rfl) rfl rfl rfl rfl rfl (PV_fieldAddr (D := 0) Try.underlying28 rfl sz5 (by decide) rfl rfl) ?_
      refine TA_yes (dd := (some 39)) 17 rfl (by kernel_rfl) (by kernel_rfl) (by kernel_rfl) rfl rfl rfl rfl rfl (PV_load Try.underlying5 rfl rfl r0) ?_
      refine TA_yes (dd := (some 40)) 18 rfl (by kernel_rfl) (by kernel_rfl) (by kernel_rfl) rfl rfl rfl rfl rfl (PV_move rfl) ?_
      refine TA_yes (dd := (some 41)) 19 rfl (by kernel_rfl) (by kernel_rfl) (by kernel_rfl) rfl rfl rfl rfl rfl (PV.cast (PV_bin rfl rfl bin_add) e41) ?_
      refine TA_yes (dd := (some 42)) 20 rfl (by kernel_rfl) (by kernel_rfl) (by kernel_rfl) rfl rfl rfl rfl rfl (PV.cast (PV_bin rfl rfl (bin_rem (by decide))) e42) ?_
      refine TA_yes (dd := (some 43)) 21 rfl (by kernel_rfl) (by kernel_rfl) (by kernel_rfl) rfl rfl rfl rfl rfl (PV.cast (PV_conv (by rw [Try.underlying3]; rfl) Try.underlying5 rfl) e43) ?_
      refine TA_yes (dd := (some 44)) 22 rfl (by kernel_rfl) (by kernel_rfl) (by kernel_rfl) rfl rfl rfl rfl rfl (PV.cast (PV_bin rfl rfl bin_neq) e44) ?_
      refine TA_p 23 rfl (by kernel_rfl) (PV_pickOr rfl rfl rfl) ?_
      refine TA_done (by kernel_rfl) ?_
      refine T_else rfl (by rfl) ?_
      refine T_skip ?_
      refine T_seq ?_
      refine T_region ?_
      refine TL_p (PV_move rfl) ?_
      refine TL_p (PV_move rfl) ?_
      refine TL_p (PV_indexAddr Try.underlying24 sz28 rfl rfl rfl (by first | omega | decide | assumption)) ?_
      refine TL_p (PV_fieldAddr (D := 1) Try.underlying28 rfl sz26 (by decide) rfl rfl) ?_
      refine TL_p (PV_load Try.underlying26 rfl rfl r1) ?_
      refine TL_p (PV_len_slice Try.underlying26 rfl) ?_
      refine TL_p (PV_move rfl) ?_
      refine TL_nil ?_
      refine T_block ?_
      refine ?L11
      case L11 =>
        refine T_loopP1 (fun (i : Nat) => i ≤ xs.length) (fun i => xs.length - i) (fun i => [(0, .slice (some ⟨ga, oa, none⟩) m c), (3, .slice (some ⟨gb, 0, none⟩) m c'), (4, .int .i64 (k : Int)), (17, .slice (some ⟨gb, 0, none⟩) m c'), (18, .int .i64 (m : Int)), (19, .int .i64 (k : Int)), (51, .int .i64 (xs.length : Int)), (52, .int .i64 (i : Int))]) (fun i => .sl (.slice Aq xs.length cq) 1 xs.length (nums .u8 (pI xs i)) :: .sl (.slice (some ⟨gb, 0, none⟩) m c') 2 m (bCells 0 qs) :: R) 0 (Nat.zero_le _) (by repeat (first | exact FrSub.nil _ | refine FrSub.cons rfl ?_)) (Has.of_sub (by repeat (first | exact Sb.r | exact Sb.ar | exact Sb.al | apply Sb.c | apply Sb.d | refine Sb.t ?_))) ?_
        rintro i hi
        by_cases hil : i < xs.length
        · have e65 : Value.int .i64 (IntKind.i64.wrap ((i : Int) + 1)) = .int .i64 ((i + 1 : Nat) : Int) := wr64n _ (by push_cast; rfl) (by omega)
          have e63 : Value.int .u8 (IntKind.u8.wrap (rd xs (i : Int) + 1)) = .int .u8 (incI (rd xs (i : Int))) := by rw [IntKind.wrap_u8]; rfl
          refine T_slA 0 rfl (by omega) fun gq hA => ?_
          subst hA
          have q1 : Rd (WH w0 B (.sl (.slice (some ⟨gq, 0, none⟩) xs.length cq) 1 xs.length (nums .u8 (pI xs i)) :: .sl (.slice (some ⟨gb, 0, none⟩) m c') 2 m (bCells 0 qs) :: R)) ⟨gb, 0 + k * 2 + 1, none⟩ (.slice (some ⟨gq, 0, none⟩) xs.length cq) := (Shows.at 1 rfl).rd (k * 2 + 1) (by omega) hbd
          have q2 : Rd (WH w0 B (.sl (.slice (some ⟨gq, 0, none⟩) xs.length cq) 1 xs.length (nums .u8 (pI xs i)) :: .sl (.slice (some ⟨gb, 0, none⟩) m c') 2 m (bCells 0 qs) :: R)) ⟨gq, 0 + i * 1, none⟩ (.int .u8 (rd xs (i : Int))) := (Shows.at 0 rfl).rd i (by omega) (by rw [nums_at i (by rw [pI_len]; exact hil), pI_at hil])
          have hset : (nums .u8 (pI xs i)).set (0 + i * 1) (.int .u8 (incI (rd xs (i : Int)))) = nums .u8 (pI xs (i + 1)) := by rw [nums_set' .u8 _ _ i _ (by omega), pI_set hil]
          refine T_seq ?_
          refine T_region ?_
          refine TL_p (PV_bin rfl rfl bin_lss) ?_
          refine TL_nil ?_
          refine T_seq ?_
          refine T_then rfl (by exact decide_eq_true (by omega)) ?_
          refine T_skip ?_
          refine T_seq ?_
          refine T_block ?_
          refine T_seq ?_
          refine T_region ?_
          refine TL_p (PV_move rfl) ?_
          refine TL_p (PV_assign rfl) ?_
          refine TL_nil ?_
          refine T_region ?_
          refine TL_p (PV_move rfl) ?_
          refine TL_p (PV_move rfl) ?_
          refine TL_p (PV_indexAddr Try.underlying24 sz28 rfl rfl rfl (by first | omega | decide | assumption)) ?_
          refine TL_p (PV_fieldAddr (D := 1) Try.underlying28 rfl sz26 (by decide) rfl rfl) ?_
          refine TL_p (PV_load Try.underlying26 rfl rfl q1) ?_
          refine TL_p (PV_move rfl) ?_
          refine TL_p (PV_indexAddr Try.underlying26 sz5 rfl rfl rfl (by first | omega | decide | assumption)) ?_
          refine TL_p (PV_load Try.underlying5 rfl rfl q2) ?_
          refine TL_p (PV.cast (PV_bin rfl rfl bin_add) e63) ?_
          refine TL_p (PV_indexAddr Try.underlying26 sz5 rfl rfl rfl (by first | omega | decide | assumption)) ?_
          refine TL_cons rfl (TO_store1 0 rfl rfl rfl sz5 rfl rfl rfl (by rw [nums_length, pI_len]; omega) ?_)
          refine TL_nil ?_
          refine T_region ?_
          refine TL_p (PV.cast (PV_bin rfl rfl bin_add) e65) ?_
          refine TL_p (PV_move rfl) ?_
          refine TL_nil ?_
          refine ?L21
          all_goals exact ⟨i + 1, by omega, by omega, (by repeat (first | exact FrSub.nil _ | refine FrSub.cons rfl ?_)), by rw [← hset]; exact Has.of_sub (by repeat (first | exact Sb.r | exact Sb.ar | exact Sb.al | apply Sb.c | apply Sb.d | refine Sb.t ?_))⟩
        · obtain rfl : i = xs.length := by omega
          rw [pI_all]
          refine T_seq ?_
          refine T_region ?_
          refine TL_p (PV_bin rfl rfl bin_lss) ?_
          refine TL_nil ?_
          refine T_seq ?_
          refine T_else rfl (by (simp; done)) ?_
          refine T_exit ?_
          refine T_region ?_
          refine TL_p (PV.cast (PV_bin rfl rfl bin_add) e41) ?_
          refine TL_p (PV_move rfl) ?_
          refine TL_nil ?_
          refine ?L41
          all_goals exact ⟨k + 1, by omega, by omega, (by repeat (first | exact FrSub.nil _ | refine FrSub.cons rfl ?_)), ⟨_, hback, List.Sublist.refl _⟩⟩
    · obtain rfl : k = m := by omega
      obtain ⟨X, hX⟩ : ∃ X, (Chunk.sl (.slice A' k c') 2 k (bCells 0 qs) :: ((rowsAt qs k).map pCh ++ H)) = X := ⟨_, rfl⟩
      have hHX : H.Sublist X := by rw [← hX]; exact (List.sublist_append_right _ _).trans (List.sublist_cons_self _ _)
      rw [hX]
      refine T_seq ?_
      refine T_region ?_
      refine TL_p (PV_bin rfl rfl bin_lss) ?_
      refine TL_nil ?_
      refine T_seq ?_
      refine T_else rfl (by (simp; done)) ?_
      refine T_exit ?_
      refine T_seq ?_
      refine T_region ?_
      refine TL_p (PV_move rfl) ?_
      refine TL_cons rfl (TO_num (hS.mono fun w h => h.sub hHX) (hP.mono fun w h => h.sub hHX) hm (by omega) hb hc rfl rfl fun A2 c2 qs2 hr1 hr2 hr3 hr4 => ?_)
      refine TL_p (PV_assign rfl) ?_
      refine TL_nil ?_
      refine T_seq ?_
      refine T_seq ?_
      refine T_region ?_
      refine TL_p (PV_move rfl) ?_
      refine TL_p (PV_len_slice Try.underlying24 rfl) ?_
      refine TL_p (PV_move rfl) ?_
      refine TL_nil ?_
      refine T_block ?_
      refine ?L61
      case L61 =>
        refine T_loopP1 (fun (j : Nat) => j ≤ k) (fun j => k - j) (fun j => [(0, .slice A k c), (6, .slice A2 k c2), (69, .slice A2 k c2), (70, .int .i64 (k : Int)), (71, .int .i64 (j : Int))]) (fun j => .sl (.slice A2 k c2) 2 k (bCells 0 qs2) :: (qs2.reverse.map pCh ++ X)) 0 (Nat.zero_le _) (by repeat (first | exact FrSub.nil _ | refine FrSub.cons rfl ?_)) (Has.of_sub (by repeat (first | exact Sb.r | exact Sb.ar | exact Sb.al | apply Sb.c | apply Sb.d | refine Sb.t ?_))) ?_
        rintro j hj
        by_cases hjk : j < k
        · have hjq : j < qs2.length := by omega
          have hjp : j < ps.length := by omega
          have hpk := hP ps[j] (List.getElem_mem _)
          have hqm : pCh qs2[j] ∈ qs2.reverse.map pCh := List.mem_map.2 ⟨_, List.mem_reverse.2 (List.getElem_mem hjq), rfl⟩
          have hqk := hr3 qs2[j] (List.getElem_mem _)
          have hbc := bCells_get 0 qs2 j qs2[j] (List.getElem?_eq_getElem hjq)
          have hbk := hb ps[j] (List.getElem_mem _)
          have hdat : qs2[j].2.2 = ps[j].2.2 := by
            have h1 := congrArg (fun l : List (List Int) => l[j]?) hr1
            simpa [List.getElem?_map, List.getElem?_eq_getElem hjq, List.getElem?_eq_getElem hjp] using h1
          have hrow : (ps.map pVal)[j * 1]? = some (pVal ps[j]) := by rw [Nat.mul_one, List.getElem?_map, List.getElem?_eq_getElem hjp]; rfl
          obtain ⟨q, hq⟩ : ∃ q, qs2[j] = q := ⟨_, rfl⟩
          obtain ⟨p, hp⟩ : ∃ p, ps[j] = p := ⟨_, rfl⟩
          rw [hq] at hqk hbc hdat hqm
          rw [hp] at hpk hdat hbk hrow
          obtain ⟨Aq, cq, xs⟩ := q
          obtain ⟨Ap, cp, ys⟩ := p
          obtain rfl : xs = ys := hdat
          have hpS := hpk.1
          have hpC := hpk.2
          dsimp only at hpS hpC hbk hqk
          have hbd : (bCells 0 qs2)[j * 2 + 1]? = some (.slice Aq xs.length cq) := hbc.2
          have hqS : Shows (WH w0 B (.sl (.slice A2 k c2) 2 k (bCells 0 qs2) :: (qs2.reverse.map pCh ++ X))) Aq xs.length 1 (nums .u8 xs) := Shows.mem (c := cq) (List.mem_cons_of_mem _ (List.mem_append_left _ hqm))
          have hpS2 : Shows (WH w0 B (.sl (.slice A2 k c2) 2 k (bCells 0 qs2) :: (qs2.reverse.map pCh ++ X))) Ap xs.length 1 (nums .u8 xs) := hpS.mono fun w h => h.sub (hHX.trans (by repeat (first | exact Sb.r | exact Sb.ar | exact Sb.al | apply Sb.d | refine Sb.t ?_)))
          refine T_shows ((hS.mono fun w h => h.sub (hHX.trans (by repeat (first | exact Sb.r | exact Sb.ar | exact Sb.al | apply Sb.d | refine Sb.t ?_)))) : Shows (WH w0 B (.sl (.slice A2 k c2) 2 k (bCells 0 qs2) :: (qs2.reverse.map pCh ++ X))) A k 1 (ps.map pVal)) (by rw [List.length_map]; omega) fun ga oa hA hrd => ?_
          subst hA
          refine T_slA 0 rfl (by omega) fun gb hA => ?_
          subst hA
          have hr : Rd _ ⟨ga, oa + j * 1, none⟩ (.slice Ap xs.length cp) := hrd (j * 1) _ hrow
          have q1 : Rd (WH w0 B (.sl (.slice (some ⟨gb, 0, none⟩) k c2) 2 k (bCells 0 qs2) :: (qs2.reverse.map pCh ++ X))) ⟨gb, 0 + j * 2 + 1, none⟩ (.slice Aq xs.length cq) := (Shows.at 0 rfl).rd (j * 2 + 1) (by omega) hbd
          have e85 : Value.bool (!decide (strOfNums xs = strOfNums xs)) = .bool false := by simp
          have e86 : Value.int .i64 (IntKind.i64.wrap ((j : Int) + 1)) = .int .i64 ((j + 1 : Nat) : Int) := wr64n _ (by push_cast; rfl) (by omega)
          refine T_seq ?_
          refine T_region ?_
          refine TL_p (PV_bin rfl rfl bin_lss) ?_
          refine TL_nil ?_
          refine T_seq ?_
          refine T_then rfl (by exact decide_eq_true (by omega)) ?_
          refine T_skip ?_
          refine T_seq ?_
          refine T_block ?_
          refine T_seq ?_
          refine T_region ?_
          refine TL_p (PV_move rfl) ?_
          refine TL_p (PV_assign rfl) ?_
          refine TL_nil ?_
          refine T_seq ?_
          refine T_drawn (WH _ _ _) mixed (fun w h => h) ?_
          refine TA_p 0 rfl (by kernel_rfl) (PV_move rfl) ?_
          refine TA_p 1 rfl (by kernel_rfl) (PV_move rfl) ?_
          refine TA_p 2 rfl (by kernel_rfl) (PV_indexAddr Try.underlying24 sz28 rfl rfl rfl (by first | omega | decide | assumption)) ?_
          refine TA_p 3 rfl (by kernel_rfl) (PV_fieldAddr (D := 1) Try.underlying28 rfl sz26 (by decide) rfl rfl) ?_
          refine TA_p 4 rfl (by kernel_rfl) (PV_load Try.underlying26 rfl rfl q1) ?_
          refine TA_p 5 rfl (by kernel_rfl) (PV_b2s Try.underlying26 Try.underlying5 Try.underlying9 rfl hqS) ?_
          refine TA_p 6 rfl (by kernel_rfl) (PV_move rfl) ?_
          refine TA_p 7 rfl (by kernel_rfl) (PV_move rfl) ?_
          refine TA_p 8 rfl (by kernel_rfl) (PV_indexAddr Try.underlying22 sz26 rfl rfl rfl (by first | omega | decide | assumption)) ?_
          refine TA_p 9 rfl (by kernel_rfl) (PV_load Try.underlying26 rfl rfl hr) ?_
          refine TA_p 10 rfl (by kernel_rfl) (PV_b2s Try.underlying26 Try.underlying5 Try.underlying9 rfl hpS2) ?_
          refine TA_p 11 rfl (by kernel_rfl) (PV.cast (PV_bin rfl rfl bin_str_neq) e85) ?_
          refine TA_done (by kernel_rfl) ?_
          refine T_else rfl (by rfl) ?_
          refine T_skip ?_
          refine T_region ?_
          refine TL_p (PV.cast (PV_bin rfl rfl bin_add) e86) ?_
          refine TL_p (PV_move rfl) ?_
          refine TL_nil ?_
          refine ?L71
          all_goals exact ⟨j + 1, by omega, by omega, (by repeat (first | exact FrSub.nil _ | refine FrSub.cons rfl ?_)), Has.of_sub (by repeat (first | exact Sb.r | exact Sb.ar | exact Sb.al | apply Sb.c | apply Sb.d | refine Sb.t ?_))⟩
        · obtain rfl : j = k := by omega
          refine T_seq ?_
          refine T_region ?_
          refine TL_p (PV_bin rfl rfl bin_lss) ?_
          refine TL_nil ?_
          refine T_seq ?_
          refine T_else rfl (by (simp; done)) ?_
          refine T_exit ?_
          refine T_seq ?_
          refine T_region ?_
          refine TL_p (PV_assign rfl) ?_
          refine TL_nil ?_
          refine ?L81
          all_goals exact T_ret (ret_ret (ResV_one rfl rfl) ⟨H, hHX.trans (by repeat (first | exact Sb.r | exact Sb.ar | exact Sb.al | apply Sb.d | refine Sb.t ?_)), rfl, rfl⟩)
end
end Go.Proofs.Ytpfcpookdocikaa.SL
