import Derived.Test.YtpfcpookdocikaaO2
/- A block is sent only when the one ahead of it was taken, and so often at most: the law. No statement is proved here. -/
set_option linter.unusedVariables false
set_option linter.unusedSimpArgs false
set_option maxRecDepth 100000
set_option maxHeartbeats 8000000
namespace Go.Proofs.Ytpfcpookdocikaa.SL
open Go Go.RowKit
def ansL : List Int := [6, 6, 6, 21, 24, 67, 6, 21, 0, 6]
def ansN (n : Nat) : Int := if n < 200 then rd ansL ((n % 10 : Nat) : Int) else (n : Int)
theorem ans_u8 (n : Nat) (h : n ≤ 255) : 0 ≤ ansN n ∧ ansN n ≤ 255 := by
  unfold ansN
  split
  · have : ∀ k : Nat, k < 10 → 0 ≤ rd ansL (k : Int) ∧ rd ansL (k : Int) ≤ 255 := by decide
    exact this _ (Nat.mod_lt _ (by decide))
  · omega
theorem trailL_u8' (l : List Int) (crc : Bool) : U8s (trailL l crc) := by
  have h1 := crcI_range l
  have h2 := sumI_range l
  intro x hx
  unfold trailL at hx
  split at hx
  · simp at hx; rcases hx with rfl | rfl <;> omega
  · simp at hx; subst hx; exact h2
theorem blockL_u8' {lead num : Int} {l : List Int} {crc : Bool} (h1 : 0 ≤ lead ∧ lead ≤ 255) (h2 : 0 ≤ num ∧ num ≤ 255) (hu : U8s l) : U8s (blockL lead num l crc) := by
  unfold blockL
  refine U8s.append (U8s.append (fun x hx => ?_) hu) (trailL_u8' l crc)
  simp only [List.mem_cons, List.not_mem_nil, or_false] at hx
  rcases hx with rfl | rfl | rfl <;> omega
section
variable {w0 : World} {B n : Nat} {H X : List Chunk}
theorem TL_shows {P : Program} {ops : Array Oper} {rest : List Oper} {Q : Exit → Fr → List Chunk → Prop} {fr : Fr} {A : Option Addr} {m es : Nat} {ys : List Value} {S : World → Prop} (hS : Shows S A m es ys) (hW : ∀ w, WH w0 B H w → S w) (hne : 0 < ys.length) (h : ∀ g off, A = some ⟨g, off, none⟩ → (∀ j v, ys[j]? = some v → Rd S ⟨g, off + j, none⟩ v) → TL P w0 B n ops rest Q fr H) : TL P w0 B n ops rest Q fr H := by
  intro HX a w hf hr
  have hn : ys ≠ [] := by intro e; subst e; simp at hne
  obtain ⟨p, rfl, hc⟩ := hS.run hn (hW _ ⟨HX, hr⟩)
  have hp : p.spot = none := by
    have h1 := hc 0 _ (List.getElem?_eq_getElem hne)
    simp only [Addr.add, if_true, World.cell?] at h1
    split at h1
    · cases hsp : p.spot with
      | none => rfl
      | some q => simp [hsp] at h1
    · cases h1
  obtain ⟨g, off, sp⟩ := p
  simp only at hp
  subst hp
  refine h g off rfl (fun j v hj w' hw' => ?_) HX a w hf hr
  obtain ⟨p, e, hc⟩ := hS.run hn hw'
  cases e
  have := hc j v hj
  rwa [add_plain'] at this
theorem answer_t (k : Nat) (hk : k ≤ 255) : TCall Try.prog w0 B 13 #[.int .u8 (k : Int)] (fun r H' => r = .int .u8 (ansN k) ∧ H' = H) H := by
  unfold ansN
  by_cases h : k < 200
  · rw [if_pos h]
    have e4 : Value.bool (decide ((k : Int) < 200)) = .bool true := congrArg Value.bool (decide_eq_true (by omega))
    have e7 : Value.int .u8 (Int.tmod (k : Int) 10) = .int .u8 ((k % 10 : Nat) : Int) := rfl
    refine TCall_intro (args := [_]) Try.func13 rfl Try.ntmps13 (Nat.le_of_ble_eq_true rfl) ?_
    refine T_seq ?_
    refine T_region ?_
    refine TL_p (PV_assign rfl) ?_
    refine TL_nil ?_
    refine T_seq ?_
    refine T_seq ?_
    refine T_region ?_
    refine TL_p (PV_move rfl) ?_
    refine TL_p (PV.cast (PV_bin rfl rfl bin_lss) e4) ?_
    refine TL_nil ?_
    refine T_then rfl (by rfl) ?_
    refine T_seq ?_
    refine T_region ?_
    refine TL_cons rfl (TO_bs (cs := [_, _, _, _, _, _, _, _, _, _]) Try.underlying26 zs5 (by decide) rfl rfl rfl rfl rfl rfl fun g1 => ?_)
    refine ?L1
    case L1 =>
      have hcell : ([.int .u8 6, .int .u8 6, .int .u8 6, .int .u8 21, .int .u8 24, .int .u8 67, .int .u8 6, .int .u8 21, .int .u8 0, .int .u8 6] : List Value)[k % 10]? = some (.int .u8 (rd ansL ((k % 10 : Nat) : Int))) := nums_at (k := .u8) (xs := ansL) (k % 10) (Nat.mod_lt _ (by decide))
      refine TL_shows (Shows.at 0 rfl) (fun w h => h) (by decide) fun ga oa hA hr => ?_
      have r8 := hr (k % 10 * 1) _ (by rw [Nat.mul_one]; exact hcell)
      cases hA
      refine TL_p (PV_move rfl) ?_
      refine TL_p (PV.cast (PV_bin rfl rfl (bin_rem (by decide))) e7) ?_
      refine TL_p (PV_indexAddr Try.underlying26 sz5 rfl rfl rfl (by first | omega | decide | assumption)) ?_
      refine TL_p (PV_load Try.underlying5 rfl rfl r8) ?_
      refine TL_p (PV_assign rfl) ?_
      refine TL_nil ?_
      refine T_ret ?_
      refine ret_ret (ResV_one rfl rfl) ⟨_, ?zb501q67, ⟨rfl, rfl⟩⟩
      case zb501q67 => exact (by (repeat (first | exact Sb.r | exact Sb.ar | exact Sb.al | apply Sb.c | apply Sb.d | refine Sb.t ?_)); done)
  · rw [if_neg h]
    have e4 : Value.bool (decide ((k : Int) < 200)) = .bool false := congrArg Value.bool (decide_eq_false (by omega))
    refine TCall_intro (args := [_]) Try.func13 rfl Try.ntmps13 (Nat.le_of_ble_eq_true rfl) ?_
    refine T_seq ?_
    refine T_region ?_
    refine TL_p (PV_assign rfl) ?_
    refine TL_nil ?_
    refine T_seq ?_
    refine T_seq ?_
    refine T_region ?_
    refine TL_p (PV_move rfl) ?_
    refine TL_p (PV.cast (PV_bin rfl rfl bin_lss) e4) ?_
    refine TL_nil ?_
    refine T_else rfl (by rfl) ?_
    refine T_skip ?_
    refine T_seq ?_
    refine T_region ?_
    refine TL_p (PV_move rfl) ?_
    refine TL_p (PV_assign rfl) ?_
    refine TL_nil ?_
    refine T_ret ?_
    refine ret_ret (ResV_one rfl rfl) ⟨_, List.Sublist.refl _, ⟨rfl, rfl⟩⟩
theorem SenderOrder_t {A : Option Addr} {m c : Nat} {l : List Int} {A3 : Option Addr} {m3 c3 : Nat} {l3 : List Int} (a b : Int) (mn : Nat) (hS : Shows (WH w0 B H) A m 1 (nums .u8 l)) (hlm : l.length = m) (hl : m ≤ 9223372036854775807) (hc : m ≤ c) (hu : U8s l) (hmn : mn ≤ 255)
    (hS3 : Shows (WH w0 B H) A3 m3 1 (nums .u8 l3)) (hl3m : l3.length = m3) (hl3 : m3 ≤ 4611686018427387904) (hc3 : m3 ≤ c3) (hu3 : U8s l3) :
    TCall Try.prog w0 B 4 #[.agg #[.int .i64 a, .int .i64 b], .slice A m c, .int .u8 (mn : Int), .slice A3 m3 c3] (fun r H' => r = .bool true ∧ H' = H) H := by
  have hq : ∀ q ∈ blksL l false (mn % 5), U8s q ∧ (q.length = 128 ∨ q.length = 1024) := blksL_num (by omega)
  have hln : (blksL l false (mn % 5)).length = mn % 5 := blksL_len _ _ _
  obtain ⟨mx, hT⟩ := Int.eq_ofNat_of_zero_le (show 0 ≤ max 1 (min a 9) by omega)
  have hT9 : 1 ≤ mx ∧ mx ≤ 9 := by omega
  have e31 : Value.int .i64 (max 1 (min a 9)) = .int .i64 (mx : Int) := by rw [hT]
  refine TCall_intro (args := [_, _, _, _]) Try.func4 rfl Try.ntmps4 (Nat.le_of_ble_eq_true rfl) ?_
  refine T_seq ?_
  refine T_region ?_
  refine TL_cons rfl (TO_box rfl rfl fun g1 => ?_)
  refine TL_p (PV_assign rfl) ?_
  refine TL_nil ?_
  refine T_seq ?_
  refine T_seq ?_
  refine T_region ?_
  refine TL_cons rfl (TO_call0 call7 rfl rfl (t56) ?_)
  rintro v20_4 H20_4 ⟨rfl, rfl⟩
  refine TL_p (PV_not rfl) ?_
  refine TL_nil ?_
  refine T_else rfl (by rfl) ?_
  refine T_skip ?_
  refine T_seq ?_
  refine T_region ?_
  refine TL_p (PV_move rfl) ?_
  refine TL_p (PV_move rfl) ?_
  refine TL_cons rfl (TO_call0 call8 rfl rfl (t57 mn false (Shows.mono hS (fun w h => h.sub (by (repeat (first | exact Sb.r | exact Sb.ar | exact Sb.al | apply Sb.d | refine Sb.t ?_)); done))) ?sd6q81_1 ?sd6q81_2 ?sd6q81_3 ?sd6q81_4 ?sd6q81_5) ?_)
  case sd6q81_1 => omega
  case sd6q81_2 => exact hl
  case sd6q81_3 => exact hc
  case sd6q81_4 => exact hu
  case sd6q81_5 => exact hmn
  rintro v24_7 H24_7 ⟨A'_7, c'_7, N_7, rfl, h_7_0, rfl⟩
  refine TL_p (PV_assign rfl) ?_
  refine TL_nil ?_
  refine T_seq ?_
  refine T_region ?_
  refine TL_p (PV_loadAt Try.underlying31 rfl sz31 rfl (Rds.take 0 rfl rfl rfl)) ?_
  refine TL_p (PV_move rfl) ?_
  refine TL_cons rfl (TO_call0 call9 rfl rfl (t58 _ _ _ _ h_7_0 ?sd9q81_5 ?sd9q81_6 ?sd9q81_7) ?_)
  case sd9q81_5 => omega
  case sd9q81_6 => omega
  case sd9q81_7 => with_reducible assumption
  rintro v27_10 H27_10 ⟨g_10, A'_10, c'_10, N_10, rfl, h_10_0, rfl⟩
  refine TL_p (PV_assign rfl) ?_
  refine TL_nil ?_
  refine T_seq ?_
  refine T_region ?_
  refine TL_p (PV_fieldAddr (D := 0) Try.underlying31 rfl sz3 (by decide) rfl rfl) ?_
  refine TL_p (PV_load Try.underlying3 rfl rfl (Rd.at 1 rfl rfl)) ?_
  refine TL_p (PV_min rfl rfl) ?_
  refine TL_p (PV.cast (PV_max rfl rfl) e31) ?_
  refine TL_p (PV_assign rfl) ?_
  refine TL_nil ?_
  refine T_seq ?_
  refine T_region ?_
  refine TL_cons rfl (TO_makeV rfl fun g32 => ?_)
  refine TL_p (PV_assign rfl) ?_
  refine TL_nil ?_
  refine T_seq ?_
  refine T_seq ?_
  refine T_region ?_
  refine TL_p (PV_move rfl) ?_
  refine TL_p (PV_len_slice Try.underlying26 rfl) ?_
  refine TL_p (PV_move rfl) ?_
  refine TL_nil ?_
  refine T_block ?_
  refine ?L1
  case L1 =>
    obtain ⟨Z0, hZ0⟩ : ∃ Z0, ((Chunk.own g1 2 [.int .i64 a, .int .i64 b] :: H ++ N_7) ++ N_10) = Z0 := ⟨_, rfl⟩
    have hHZ : H.Sublist Z0 := by rw [← hZ0]; exact (List.sublist_cons_self _ _).trans ((List.sublist_append_left _ _).trans (List.sublist_append_left _ _))
    have hB7 : SBlk (WH w0 B Z0) A'_7 c'_7 (blksL l false (mn % 5)) := by
      have h : SBlk (WH w0 B (Chunk.own g1 2 [.int .i64 a, .int .i64 b] :: H ++ N_7)) A'_7 c'_7 (blksL l false (mn % 5)) := by assumption
      rw [← hZ0]
      exact h.mono fun w h => h.sub (List.sublist_append_left _ _)
    have hB10 : SBlk (WH w0 B Z0) A'_10 c'_10 (blksL l false (mn % 5)) := by rw [← hZ0]; assumption
    show T _ _ _ _ _ _ _ (.ob g32 (MapO fun _ => 0) :: sC g_10 A'_10 c'_10 (Sn.of a b (blksL l false (mn % 5)) true true) :: ((Chunk.own g1 2 [.int .i64 a, .int .i64 b] :: H ++ N_7) ++ N_10))
    rw [hZ0]
    refine T_loopP3 (fun (i : Nat) (s : Sn) (cnt : Nat → Int) => i ≤ m3 ∧ s.Fit ∧ s.qs = blksL l false (mn % 5) ∧ s.ct = (mx : Int) ∧ Ord s cnt) (fun i _ _ => m3 - i) (fun i s cnt => [(9, .slice A'_7 (mn % 5) c'_7), (10, .pointer (some ⟨g_10, 0, none⟩)), (11, .int .i64 (mx : Int)), (12, .map (some g32)), (33, .slice A3 m3 c3), (34, .int .i64 (m3 : Int)), (35, .int .i64 (i : Int))]) (fun i s cnt => sC g_10 A'_10 c'_10 s :: .ob g32 (MapO cnt) :: Z0) 0 (Sn.of a b (blksL l false (mn % 5)) true true) (fun _ => 0) ⟨Nat.zero_le _, Sn.of_fit (by omega) hq, rfl, hT, ⟨(fun e => absurd (show (0 : Int) = 1 from e) (by decide)), fun _ => ⟨rfl, fun _ => rfl⟩, (fun e => absurd (show (0 : Int) = 2 from e) (by decide))⟩⟩ (by repeat (first | exact FrSub.nil _ | refine FrSub.cons rfl ?_)) (Has.of_perm (List.Perm.swap _ _ _) (by repeat (first | exact Sb.r | exact Sb.ar | exact Sb.al | apply Sb.c | apply Sb.d | refine Sb.t ?_))) ?_
    rintro i s cnt ⟨hi, hF, hqs, hct, ho⟩
    by_cases him : i < m3
    · have e113 : Value.int .i64 (IntKind.i64.wrap ((i : Int) + 1)) = .int .i64 ((i + 1 : Nat) : Int) := wr64n _ (by push_cast; rfl) (by omega)
      have hBs : SBlk (WH w0 B Z0) A'_10 c'_10 s.qs := hqs ▸ hB10
      have hx := hu3.at_ (i : Int)
      obtain ⟨av, hav⟩ : ∃ av : Nat, rd l3 (i : Int) = (av : Int) := Int.eq_ofNat_of_zero_le hx.1
      have hav2 : av ≤ 255 := by omega
      refine T_shows (hS3.mono fun w h => h.sub (hHZ.trans (by repeat (first | exact Sb.r | exact Sb.ar | exact Sb.al | apply Sb.d | refine Sb.t ?_)))) (by simp [nums]; omega) fun ga oa hA hrd => ?_
      subst hA
      have r38 : Rd _ ⟨ga, oa + i * 1, none⟩ (.int .u8 (av : Int)) := hrd (i * 1) _ (by rw [← hav]; exact nums_at' i (by omega) (by omega))
      have e42 : Value.int .u8 (Int.tmod (av : Int) 4) = .int .u8 ((av % 4 : Nat) : Int) := rfl
      by_cases h43 : av % 4 = 3
      · have e43 : Value.bool (((av % 4 : Nat) : Int) == 3) = .bool true := by rw [h43]; rfl
        refine T_seq ?_
        refine T_region ?_
        refine TL_p (PV_bin rfl rfl bin_lss) ?_
        refine TL_nil ?_
        refine T_seq ?_
        refine T_then rfl (by exact decide_eq_true (by omega)) ?_
        refine T_skip ?_
        refine T_seq ?_
        refine T_block ?_
        refine T_seq ?_
        refine T_region ?_
        refine TL_p (PV_indexAddr Try.underlying26 sz5 rfl rfl rfl (by first | omega | decide | assumption)) ?_
        refine TL_p (PV_load Try.underlying5 rfl rfl r38) ?_
        refine TL_p (PV_assign rfl) ?_
        refine TL_nil ?_
        refine T_seq ?_
        refine T_region ?_
        refine TL_p (PV_move rfl) ?_
        refine TL_cons rfl (TO_call0 call10 rfl rfl (t60 (s := s)) ?_)
        rintro v40_2003 H40_2003 ⟨rfl, rfl⟩
        refine TL_p (PV_assign rfl) ?_
        refine TL_nil ?_
        refine T_seq ?_
        refine T_region ?_
        refine TL_p (PV_assign rfl) ?_
        refine TL_nil ?_
        refine T_seq ?_
        refine T_seq ?_
        refine T_region ?_
        refine TL_p (PV_move rfl) ?_
        refine TL_p (PV.cast (PV_bin rfl rfl (bin_rem (by decide))) e42) ?_
        refine TL_p (PV.cast (PV_bin rfl rfl bin_eql) e43) ?_
        refine TL_nil ?_
        refine T_then rfl (by rfl) ?_
        refine T_region ?_
        refine TL_p (PV_move rfl) ?_
        refine TL_cons rfl (TO_call0 call11 rfl rfl (t65 (s := s) ?sd2005q110_0 ?sd2005q110_1) ?_)
        case sd2005q110_0 => exact hF
        case sd2005q110_1 => exact SBlk.mono hBs (fun w h => h.sub (by (repeat (first | exact Sb.r | exact Sb.ar | exact Sb.al | apply Sb.d | refine Sb.t ?_)); done))
        rintro v45_2006 H45_2006 ⟨A_2006, k_2006, rfl, h_2006_0, rfl⟩
        refine TL_p (PV_assign rfl) ?_
        refine TL_nil ?_
        refine T_seq ?_
        refine T_seq ?_
        refine T_region ?_
        refine ?L21
        case L21 =>
          have hstep := tick_step hF ho
          obtain ⟨out, hout⟩ : ∃ out, s.tickOut = out := ⟨_, rfl⟩
          obtain ⟨s2, hs2⟩ : ∃ s2, s.tick = s2 := ⟨_, rfl⟩
          have hF2 : s2.Fit := hs2 ▸ hF.tick
          have hqs2 : s2.qs = blksL l false (mn % 5) := hs2 ▸ (s.tick_qs).trans hqs
          have hct2 : s2.ct = (mx : Int) := hs2 ▸ (tick_ct s).trans hct
          have hkk2 : out.length ≤ k_2006 := by rw [← hout]; assumption
          rw [hout, hs2] at hstep ⊢
          by_cases h3 : 3 ≤ out.length
          · have hsd := hstep.1 h3
            have hk : s2.at_ < mn % 5 := by have := hsd.lt; rw [hqs2, hln] at this; exact this
            obtain ⟨k, hkk⟩ : ∃ k, s2.at_ = k := ⟨_, rfl⟩
            rw [hkk] at hk
            have hkq : k < (blksL l false (mn % 5)).length := by omega
            obtain ⟨q, hqe⟩ : ∃ q, (blksL l false (mn % 5))[k] = q := ⟨_, rfl⟩
            have hq128 : q.length = 128 := by rw [← hqe]; simp only [blksL, List.getElem_map]; rw [blkL_len]; rfl
            have hqu : U8s q := hqe ▸ (hq _ (List.getElem_mem hkq)).1
            have hbytes : out = blockL (leadOf 128) (((0 + k + 1) % 256 : Nat) : Int) q s2.crc := by
              rw [hsd.out]
              unfold Sn.bytes
              rw [hqs2, hkk, List.getElem?_eq_getElem hkq, hqe]
              simp only [hq128]
            have hnum : (0 : Int) ≤ (((0 + k + 1) % 256 : Nat) : Int) ∧ (((0 + k + 1) % 256 : Nat) : Int) ≤ 255 := by omega
            have hscan := scan_of_block' (rest := []) (crc := s2.crc) hq128 (Or.inl rfl) hnum
            rw [List.append_nil, ← hbytes] at hscan
            obtain ⟨z1, z2, z3⟩ := hscan
            have hou : U8s out := by rw [hbytes]; exact blockL_u8' (by decide) hnum hqu
            have hol : out.length = if s2.crc = true then 133 else 132 := by
              rw [hbytes, blockL_len', trailL_len, hq128]
              split <;> rfl
            have h0 : (nums .u8 out)[0]? = some (.int .u8 1) := by rw [hbytes]; rfl
            have hone := hsd.one
            have hfew := hsd.few
            have hat := hsd.at_
            have hnext := hsd.next
            rw [hkk] at hone hat hnext
            rw [hct2] at hfew
            have hset : cntUp cnt k = setN cnt k s2.tries := by unfold cntUp setN; rw [hone]
            rw [hset] at hnext
            obtain ⟨hc7, ps, hps, hrow, hall⟩ := hB7
            have hpl : ps.length = mn % 5 := by have := congrArg List.length hps; rw [List.length_map, hln] at this; exact this
            refine TL_shows hrow (fun w h => h.sub (by repeat (first | exact Sb.r | exact Sb.ar | exact Sb.al | apply Sb.d | refine Sb.t ?_))) (by rw [bCells_len]; omega) fun gb ob hA7 hr7 => ?_
            subst hA7
            refine TL_shows (Shows.at 0 rfl) (fun w h => h) (by simp [nums]; omega) fun go oo hAo hro => ?_
            subst hAo
            have r0 : Rd _ ⟨go, oo + 0 * 1, none⟩ (.int .u8 1) := hro (0 * 1) _ h0
            have hpk : ps[k]? = some ps[k] := List.getElem?_eq_getElem (by omega)
            have hbc := bCells_get 0 ps k ps[k] hpk
            have hpall := hall ps[k] (List.getElem_mem _)
            have hpd : ps[k].2.2 = q := by
              have h1 := congrArg (fun l : List (List Int) => l[k]?) hps
              simp only [List.getElem?_map, hpk, Option.map_some, List.getElem?_eq_getElem hkq, hqe] at h1
              exact Option.some.inj h1
            obtain ⟨p, hp⟩ : ∃ p, ps[k] = p := ⟨_, rfl⟩
            rw [hp] at hbc hpall hpd
            obtain ⟨Ap, cp, xs⟩ := p
            obtain rfl : xs = q := hpd
            have hpS := hpall.1
            have hpC := hpall.2
            dsimp only at hpS hpC
            rw [hq128] at hpC hpS
            have hbn : (bCells 0 ps)[k * 2]? = some (.int .u8 (((0 + k + 1) % 256 : Nat) : Int)) := hbc.1
            have hbd : (bCells 0 ps)[k * 2 + 1]? = some (.slice Ap 128 cp) := by rw [hbc.2]; show some (Value.slice Ap xs.length cp) = _; rw [hq128]
            have r7 : Rd _ ⟨gb, ob + k * 2 + 0, none⟩ (.int .u8 (((0 + k + 1) % 256 : Nat) : Int)) := hr7 (k * 2) _ hbn
            have r7d := hr7 (k * 2 + 1) _ hbd
            rw [← Nat.add_assoc] at r7d
            have e52 : Value.bool (decide (((out.length : Nat) : Int) < 3)) = .bool false := congrArg Value.bool (decide_eq_false (by omega))
            have e70 : Value.bool ((2 : Int) != 2) = .bool false := rfl
            have e75 : Value.bool (decide ((k : Int) ≥ ((mn % 5 : Nat) : Int))) = .bool false := congrArg Value.bool (decide_eq_false (by omega))
            have e85 : Value.bool ((((0 + k + 1) % 256 : Nat) : Int) != (((0 + k + 1) % 256 : Nat) : Int)) = .bool false := by simp
            have e97 : Value.bool (!decide (strOfNums xs = strOfNums xs)) = .bool false := by simp
            have e102 : Value.bool (decide ((k : Int) < (s.at_ : Int))) = .bool false := congrArg Value.bool (decide_eq_false (by omega))
            have e107 : Value.int .i64 (IntKind.i64.wrap (cnt k + 1)) = .int .i64 s2.tries := by
              rw [hone]
              have htr := hF2.tr
              exact wr64 (by omega)
            have e110 : Value.int .i64 (setN cnt k s2.tries k) = .int .i64 s2.tries := by unfold setN; rw [if_pos rfl]
            have e112 : Value.bool (decide (s2.tries > (mx : Int))) = .bool false := congrArg Value.bool (decide_eq_false (by omega))
            have hsent := fun {X : List Chunk} => t60 (w0 := w0) (B := B) (X := X) (g := g_10) (A := A'_10) (c := c'_10) s2
            rw [hkk] at hsent
            have hq1 : (scanD out s2.crc).length = 128 := by rw [z3]; exact hq128
            have hsc := fun {X : List Chunk} {A : Option Addr} {kk : Nat} (h1 : out.length ≤ kk) => t52yes (w0 := w0) (B := B) (H := byC A kk out :: X) s2.crc (Shows.at 0 rfl) rfl (by split at hol <;> omega) h1 hou z1
            rw [z2, z3, hq128] at hsc
            cases hcrc : s2.crc
            · have e62 : Value.bool (((out.length : Nat) : Int) == 133) = .bool false := by rw [hol, hcrc]; rfl
              rw [hcrc] at hsc
              refine TL_p (PV_move rfl) ?_
              refine TL_p (PV_len_slice Try.underlying26 rfl) ?_
              refine TL_p (PV.cast (PV_bin rfl rfl bin_lss) e52) ?_
              refine TL_nil ?_
              refine T_else rfl (by rfl) ?_
              refine T_skip ?_
              refine T_seq ?_
              refine T_region ?_
              refine TL_p (PV_move rfl) ?_
              refine TL_p (PV_move rfl) ?_
              refine TL_p (PV_indexAddr (i := 0) Try.underlying26 sz5 rfl rfl rfl (by first | omega | decide | assumption)) ?_
              refine TL_p (PV_load Try.underlying5 rfl rfl r0) ?_
              refine TL_p (PV_bin rfl rfl bin_eql) ?_
              refine TL_p (PV_move rfl) ?_
              refine TL_yes rfl rfl rfl (TO_pure rfl (PV_move rfl) ?_)
              refine TL_yes rfl rfl rfl (TO_pure rfl (PV_len_slice Try.underlying26 rfl) ?_)
              refine TL_yes rfl rfl rfl (TO_pure rfl (PV.cast (PV_bin rfl rfl bin_eql) e62) ?_)
              refine TL_p (PV_pickAnd rfl rfl rfl) ?_
              refine TL_cons rfl (TO_call0 call14 rfl rfl (hsc ?sd10002q203_0) ?_)
              case sd10002q203_0 => exact hkk2
              rintro v64_10003 H64_10003 ⟨A'_10003, c'_10003, rfl, h_10003_0, rfl⟩
              refine TL_p (PV_move rfl) ?_
              refine TL_p (PV_extract rfl rfl) ?_
              refine TL_p (PV_extract rfl rfl) ?_
              refine TL_cons rfl (TO_alloc rfl zr28 fun g10004 => ?_)
              refine TL_cons rfl (TO_store 0 rfl rfl rfl sz28 rfl rfl rfl (all_one rfl) (by first | exact Nat.le_of_ble_eq_true rfl | (simp; done) | (simp; omega) | omega) ?_)
              refine TL_p (PV_assign rfl) ?_
              refine TL_nil ?_
              refine T_seq ?_
              refine T_region ?_
              refine TL_p (PV_move rfl) ?_
              refine TL_perm ((perm_pick (i := 3) rfl).trans (List.Perm.cons _ (List.Perm.refl _))) ?_
              refine TL_cons rfl (TO_call0 call10 rfl rfl (hsent) ?_)
              rintro v68_10008 H68_10008 ⟨rfl, rfl⟩
              refine TL_p (PV_assign rfl) ?_
              refine TL_nil ?_
              refine T_seq ?_
              refine T_seq ?_
              refine T_slA 2 rfl (by omega) fun g10009 e10009 => ?_
              subst e10009
              refine T_drawn (WH _ _ _) mixed (fun w h => h) ?_
              refine TA_p 0 rfl (by kernel_rfl) (PV_move rfl) ?_
              refine TA_p 1 rfl (by kernel_rfl) (PV.cast (PV_bin rfl rfl bin_neq) e70) ?_
              refine TA_p 2 rfl (by kernel_rfl) (PV_move rfl) ?_
              refine TA_yes (dd := (some 72)) 3 rfl (by kernel_rfl) (by kernel_rfl) (by kernel_rfl) rfl rfl rfl rfl rfl (PV_move rfl) ?_
              refine TA_yes (dd := (some 73)) 4 rfl (by kernel_rfl) (by kernel_rfl) (by kernel_rfl) rfl rfl rfl rfl rfl (PV_move rfl) ?_
              refine TA_yes (dd := (some 74)) 5 rfl (by kernel_rfl) (by kernel_rfl) (by kernel_rfl) rfl rfl rfl rfl rfl (PV_len_slice Try.underlying24 rfl) ?_
              refine TA_yes (dd := (some 75)) 6 rfl (by kernel_rfl) (by kernel_rfl) (by kernel_rfl) rfl rfl rfl rfl rfl (PV.cast (PV_bin rfl rfl bin_geq) e75) ?_
              refine TA_p 7 rfl (by kernel_rfl) (PV_pickOr rfl rfl rfl) ?_
              refine TA_p 8 rfl (by kernel_rfl) (PV_move rfl) ?_
              refine TA_yes (dd := (some 78)) 9 rfl (by kernel_rfl) (by kernel_rfl) (by kernel_rfl) rfl rfl rfl rfl rfl (PV_fieldAddr (D := 0) Try.underlying28 rfl sz5 (by decide) rfl rfl) ?_
              refine TA_yes (dd := (some 79)) 10 rfl (by kernel_rfl) (by kernel_rfl) (by kernel_rfl) rfl rfl rfl rfl rfl (PV_load Try.underlying5 rfl rfl (Rd.at 1 rfl rfl)) ?_
              refine TA_yes (dd := (some 80)) 11 rfl (by kernel_rfl) (by kernel_rfl) (by kernel_rfl) rfl rfl rfl rfl rfl (PV_move rfl) ?_
              refine TA_yes (dd := (some 81)) 12 rfl (by kernel_rfl) (by kernel_rfl) (by kernel_rfl) rfl rfl rfl rfl rfl (PV_move rfl) ?_
              refine TA_yes (dd := (some 82)) 13 rfl (by kernel_rfl) (by kernel_rfl) (by kernel_rfl) rfl rfl rfl rfl rfl (PV_indexAddr Try.underlying24 sz28 rfl rfl rfl (by first | omega | decide | assumption)) ?_
              refine TA_yes (dd := (some 83)) 14 rfl (by kernel_rfl) (by kernel_rfl) (by kernel_rfl) rfl rfl rfl rfl rfl (PV_fieldAddr (D := 0) Try.underlying28 rfl sz5 (by decide) rfl rfl) ?_
              refine TA_yes (dd := (some 84)) 15 rfl (by kernel_rfl) (by kernel_rfl) (by kernel_rfl) rfl rfl rfl rfl rfl (PV_load Try.underlying5 rfl rfl (Rd.mono r7 (fun w h => h.sub (by (repeat (first | exact Sb.r | exact Sb.ar | exact Sb.al | apply Sb.d | refine Sb.t ?_)); done)))) ?_
              refine TA_yes (dd := (some 85)) 16 rfl (by kernel_rfl) (by kernel_rfl) (by kernel_rfl) rfl rfl rfl rfl rfl (PV.cast (PV_bin rfl rfl bin_neq) e85) ?_
              refine TA_p 17 rfl (by kernel_rfl) (PV_pickOr rfl rfl rfl) ?_
              refine TA_p 18 rfl (by kernel_rfl) (PV_move rfl) ?_
              refine TA_yes (dd := (some 88)) 19 rfl (by kernel_rfl) (by kernel_rfl) (by kernel_rfl) rfl rfl rfl rfl rfl (PV_fieldAddr (D := 1) Try.underlying28 rfl sz26 (by decide) rfl rfl) ?_
              refine TA_yes (dd := (some 89)) 20 rfl (by kernel_rfl) (by kernel_rfl) (by kernel_rfl) rfl rfl rfl rfl rfl (PV_load Try.underlying26 rfl rfl (Rd.at 1 rfl rfl)) ?_
              refine TA_yes (dd := (some 90)) 21 rfl (by kernel_rfl) (by kernel_rfl) (by kernel_rfl) rfl rfl rfl rfl rfl (PV_b2s Try.underlying26 Try.underlying5 Try.underlying9 rfl (Shows.at 2 rfl)) ?_
              refine TA_yes (dd := (some 91)) 22 rfl (by kernel_rfl) (by kernel_rfl) (by kernel_rfl) rfl rfl rfl rfl rfl (PV_move rfl) ?_
              refine TA_yes (dd := (some 92)) 23 rfl (by kernel_rfl) (by kernel_rfl) (by kernel_rfl) rfl rfl rfl rfl rfl (PV_move rfl) ?_
              refine TA_yes (dd := (some 93)) 24 rfl (by kernel_rfl) (by kernel_rfl) (by kernel_rfl) rfl rfl rfl rfl rfl (PV_indexAddr Try.underlying24 sz28 rfl rfl rfl (by first | omega | decide | assumption)) ?_
              refine TA_yes (dd := (some 94)) 25 rfl (by kernel_rfl) (by kernel_rfl) (by kernel_rfl) rfl rfl rfl rfl rfl (PV_fieldAddr (D := 1) Try.underlying28 rfl sz26 (by decide) rfl rfl) ?_
              refine TA_yes (dd := (some 95)) 26 rfl (by kernel_rfl) (by kernel_rfl) (by kernel_rfl) rfl rfl rfl rfl rfl (PV_load Try.underlying26 rfl rfl (Rd.mono r7d (fun w h => h.sub (by (repeat (first | exact Sb.r | exact Sb.ar | exact Sb.al | apply Sb.d | refine Sb.t ?_)); done)))) ?_
              refine TA_yes (dd := (some 96)) 27 rfl (by kernel_rfl) (by kernel_rfl) (by kernel_rfl) rfl rfl rfl rfl rfl (PV_b2s Try.underlying26 Try.underlying5 Try.underlying9 rfl (Shows.mono hpS (fun w h => h.sub (by (repeat (first | exact Sb.r | exact Sb.ar | exact Sb.al | apply Sb.d | refine Sb.t ?_)); done)))) ?_
              refine TA_yes (dd := (some 97)) 28 rfl (by kernel_rfl) (by kernel_rfl) (by kernel_rfl) rfl rfl rfl rfl rfl (PV.cast (PV_bin rfl rfl bin_str_neq) e97) ?_
              refine TA_p 29 rfl (by kernel_rfl) (PV_pickOr rfl rfl rfl) ?_
              refine TA_p 30 rfl (by kernel_rfl) (PV_move rfl) ?_
              refine TA_yes (dd := (some 100)) 31 rfl (by kernel_rfl) (by kernel_rfl) (by kernel_rfl) rfl rfl rfl rfl rfl (PV_move rfl) ?_
              refine TA_yes (dd := (some 101)) 32 rfl (by kernel_rfl) (by kernel_rfl) (by kernel_rfl) rfl rfl rfl rfl rfl (PV_move rfl) ?_
              refine TA_yes (dd := (some 102)) 33 rfl (by kernel_rfl) (by kernel_rfl) (by kernel_rfl) rfl rfl rfl rfl rfl (PV.cast (PV_bin rfl rfl bin_lss) e102) ?_
              refine TA_p 34 rfl (by kernel_rfl) (PV_pickOr rfl rfl rfl) ?_
              refine TA_done (by kernel_rfl) ?_
              refine T_else rfl (by rfl) ?_
              refine T_skip ?_
              refine T_seq ?_
              refine T_region ?_
              refine TL_p (PV_move rfl) ?_
              refine TL_p (PV_move rfl) ?_
              refine TL_p (PV_lookV 4 rfl (by omega) rfl rfl) ?_
              refine TL_p (PV.cast (PV_bin rfl rfl bin_add) e107) ?_
              refine TL_cons rfl (TO_upV (x := k) 4 rfl (by omega) rfl rfl rfl rfl ?_)
              refine TL_nil ?_
              refine T_seq ?_
              refine T_region ?_
              refine TL_p (PV_move rfl) ?_
              refine TL_p (PV_move rfl) ?_
              refine TL_p (PV.cast (PV_lookV (x := k) 4 rfl (by omega) rfl rfl) e110) ?_
              refine TL_p (PV_move rfl) ?_
              refine TL_p (PV.cast (PV_bin rfl rfl bin_gtr) e112) ?_
              refine TL_nil ?_
              refine T_else rfl (by rfl) ?_
              refine T_skip ?_
              refine T_region ?_
              refine TL_p (PV.cast (PV_bin rfl rfl bin_add) e113) ?_
              refine TL_p (PV_move rfl) ?_
              refine TL_nil ?_
              refine ?L101
              all_goals exact ⟨i + 1, s2, setN cnt k s2.tries, ⟨by omega, hF2, hqs2, hct2, hnext⟩, by omega, (by repeat (first | exact FrSub.nil _ | refine FrSub.cons rfl ?_)), Has.of_perm ((perm_pick (i := 0) rfl).trans (List.Perm.cons _ ((perm_pick (i := 3) rfl).trans (List.Perm.cons _ (List.Perm.refl _))))) (by repeat (first | exact Sb.r | exact Sb.ar | exact Sb.al | apply Sb.c | apply Sb.d | refine Sb.t ?_))⟩
            · have e62 : Value.bool (((out.length : Nat) : Int) == 133) = .bool true := by rw [hol, hcrc]; rfl
              rw [hcrc] at hsc
              refine TL_p (PV_move rfl) ?_
              refine TL_p (PV_len_slice Try.underlying26 rfl) ?_
              refine TL_p (PV.cast (PV_bin rfl rfl bin_lss) e52) ?_
              refine TL_nil ?_
              refine T_else rfl (by rfl) ?_
              refine T_skip ?_
              refine T_seq ?_
              refine T_region ?_
              refine TL_p (PV_move rfl) ?_
              refine TL_p (PV_move rfl) ?_
              refine TL_p (PV_indexAddr (i := 0) Try.underlying26 sz5 rfl rfl rfl (by first | omega | decide | assumption)) ?_
              refine TL_p (PV_load Try.underlying5 rfl rfl r0) ?_
              refine TL_p (PV_bin rfl rfl bin_eql) ?_
              refine TL_p (PV_move rfl) ?_
              refine TL_yes rfl rfl rfl (TO_pure rfl (PV_move rfl) ?_)
              refine TL_yes rfl rfl rfl (TO_pure rfl (PV_len_slice Try.underlying26 rfl) ?_)
              refine TL_yes rfl rfl rfl (TO_pure rfl (PV.cast (PV_bin rfl rfl bin_eql) e62) ?_)
              refine TL_p (PV_pickAnd rfl rfl rfl) ?_
              refine TL_cons rfl (TO_call0 call14 rfl rfl (hsc ?sd14002q222_0) ?_)
              case sd14002q222_0 => exact hkk2
              rintro v64_14003 H64_14003 ⟨A'_14003, c'_14003, rfl, h_14003_0, rfl⟩
              refine TL_p (PV_move rfl) ?_
              refine TL_p (PV_extract rfl rfl) ?_
              refine TL_p (PV_extract rfl rfl) ?_
              refine TL_cons rfl (TO_alloc rfl zr28 fun g14004 => ?_)
              refine TL_cons rfl (TO_store 0 rfl rfl rfl sz28 rfl rfl rfl (all_one rfl) (by first | exact Nat.le_of_ble_eq_true rfl | (simp; done) | (simp; omega) | omega) ?_)
              refine TL_p (PV_assign rfl) ?_
              refine TL_nil ?_
              refine T_seq ?_
              refine T_region ?_
              refine TL_p (PV_move rfl) ?_
              refine TL_perm ((perm_pick (i := 3) rfl).trans (List.Perm.cons _ (List.Perm.refl _))) ?_
              refine TL_cons rfl (TO_call0 call10 rfl rfl (hsent) ?_)
              rintro v68_14008 H68_14008 ⟨rfl, rfl⟩
              refine TL_p (PV_assign rfl) ?_
              refine TL_nil ?_
              refine T_seq ?_
              refine T_seq ?_
              refine T_slA 2 rfl (by omega) fun g14009 e14009 => ?_
              subst e14009
              refine T_drawn (WH _ _ _) mixed (fun w h => h) ?_
              refine TA_p 0 rfl (by kernel_rfl) (PV_move rfl) ?_
              refine TA_p 1 rfl (by kernel_rfl) (PV.cast (PV_bin rfl rfl bin_neq) e70) ?_
              refine TA_p 2 rfl (by kernel_rfl) (PV_move rfl) ?_
              refine TA_yes (dd := (some 72)) 3 rfl (by kernel_rfl) (by kernel_rfl) (by kernel_rfl) rfl rfl rfl rfl rfl (PV_move rfl) ?_
              refine TA_yes (dd := (some 73)) 4 rfl (by kernel_rfl) (by kernel_rfl) (by kernel_rfl) rfl rfl rfl rfl rfl (PV_move rfl) ?_
              refine TA_yes (dd := (some 74)) 5 rfl (by kernel_rfl) (by kernel_rfl) (by kernel_rfl) rfl rfl rfl rfl rfl (PV_len_slice Try.underlying24 rfl) ?_
              refine TA_yes (dd := (some 75)) 6 rfl (by kernel_rfl) (by kernel_rfl) (by kernel_rfl) rfl rfl rfl rfl rfl (PV.cast (PV_bin rfl rfl bin_geq) e75) ?_
              refine TA_p 7 rfl (by kernel_rfl) (PV_pickOr rfl rfl rfl) ?_
              refine TA_p 8 rfl (by kernel_rfl) (PV_move rfl) ?_
              refine TA_yes (dd := (some 78)) 9 rfl (by kernel_rfl) (by kernel_rfl) (by kernel_rfl) rfl rfl rfl rfl rfl (PV_fieldAddr (D := 0) Try.underlying28 rfl sz5 (by decide) rfl rfl) ?_
              refine TA_yes (dd := (some 79)) 10 rfl (by kernel_rfl) (by kernel_rfl) (by kernel_rfl) rfl rfl rfl rfl rfl (PV_load Try.underlying5 rfl rfl (Rd.at 1 rfl rfl)) ?_
              refine TA_yes (dd := (some 80)) 11 rfl (by kernel_rfl) (by kernel_rfl) (by kernel_rfl) rfl rfl rfl rfl rfl (PV_move rfl) ?_
              refine TA_yes (dd := (some 81)) 12 rfl (by kernel_rfl) (by kernel_rfl) (by kernel_rfl) rfl rfl rfl rfl rfl (PV_move rfl) ?_
              refine TA_yes (dd := (some 82)) 13 rfl (by kernel_rfl) (by kernel_rfl) (by kernel_rfl) rfl rfl rfl rfl rfl (PV_indexAddr Try.underlying24 sz28 rfl rfl rfl (by first | omega | decide | assumption)) ?_
              refine TA_yes (dd := (some 83)) 14 rfl (by kernel_rfl) (by kernel_rfl) (by kernel_rfl) rfl rfl rfl rfl rfl (PV_fieldAddr (D := 0) Try.underlying28 rfl sz5 (by decide) rfl rfl) ?_
              refine TA_yes (dd := (some 84)) 15 rfl (by kernel_rfl) (by kernel_rfl) (by kernel_rfl) rfl rfl rfl rfl rfl (PV_load Try.underlying5 rfl rfl (Rd.mono r7 (fun w h => h.sub (by (repeat (first | exact Sb.r | exact Sb.ar | exact Sb.al | apply Sb.d | refine Sb.t ?_)); done)))) ?_
              refine TA_yes (dd := (some 85)) 16 rfl (by kernel_rfl) (by kernel_rfl) (by kernel_rfl) rfl rfl rfl rfl rfl (PV.cast (PV_bin rfl rfl bin_neq) e85) ?_
              refine TA_p 17 rfl (by kernel_rfl) (PV_pickOr rfl rfl rfl) ?_
              refine TA_p 18 rfl (by kernel_rfl) (PV_move rfl) ?_
              refine TA_yes (dd := (some 88)) 19 rfl (by kernel_rfl) (by kernel_rfl) (by kernel_rfl) rfl rfl rfl rfl rfl (PV_fieldAddr (D := 1) Try.underlying28 rfl sz26 (by decide) rfl rfl) ?_
              refine TA_yes (dd := (some 89)) 20 rfl (by kernel_rfl) (by kernel_rfl) (by kernel_rfl) rfl rfl rfl rfl rfl (PV_load Try.underlying26 rfl rfl (Rd.at 1 rfl rfl)) ?_
              refine TA_yes (dd := (some 90)) 21 rfl (by kernel_rfl) (by kernel_rfl) (by kernel_rfl) rfl rfl rfl rfl rfl (PV_b2s Try.underlying26 Try.underlying5 Try.underlying9 rfl (Shows.at 2 rfl)) ?_
              refine TA_yes (dd := (some 91)) 22 rfl (by kernel_rfl) (by kernel_rfl) (by kernel_rfl) rfl rfl rfl rfl rfl (PV_move rfl) ?_
              refine TA_yes (dd := (some 92)) 23 rfl (by kernel_rfl) (by kernel_rfl) (by kernel_rfl) rfl rfl rfl rfl rfl (PV_move rfl) ?_
              refine TA_yes (dd := (some 93)) 24 rfl (by kernel_rfl) (by kernel_rfl) (by kernel_rfl) rfl rfl rfl rfl rfl (PV_indexAddr Try.underlying24 sz28 rfl rfl rfl (by first | omega | decide | assumption)) ?_
              refine TA_yes (dd := (some 94)) 25 rfl (by kernel_rfl) (by kernel_rfl) (by kernel_rfl) rfl rfl rfl rfl rfl (PV_fieldAddr (D := 1) Try.underlying28 rfl sz26 (by decide) rfl rfl) ?_
              refine TA_yes (dd := (some 95)) 26 rfl (by kernel_rfl) (by kernel_rfl) (by kernel_rfl) rfl rfl rfl rfl rfl (PV_load Try.underlying26 rfl rfl (Rd.mono r7d (fun w h => h.sub (by (repeat (first | exact Sb.r | exact Sb.ar | exact Sb.al | apply Sb.d | refine Sb.t ?_)); done)))) ?_
              refine TA_yes (dd := (some 96)) 27 rfl (by kernel_rfl) (by kernel_rfl) (by kernel_rfl) rfl rfl rfl rfl rfl (PV_b2s Try.underlying26 Try.underlying5 Try.underlying9 rfl (Shows.mono hpS (fun w h => h.sub (by (repeat (first | exact Sb.r | exact Sb.ar | exact Sb.al | apply Sb.d | refine Sb.t ?_)); done)))) ?_
              refine TA_yes (dd := (some 97)) 28 rfl (by kernel_rfl) (by kernel_rfl) (by kernel_rfl) rfl rfl rfl rfl rfl (PV.cast (PV_bin rfl rfl bin_str_neq) e97) ?_
              refine TA_p 29 rfl (by kernel_rfl) (PV_pickOr rfl rfl rfl) ?_
              refine TA_p 30 rfl (by kernel_rfl) (PV_move rfl) ?_
              refine TA_yes (dd := (some 100)) 31 rfl (by kernel_rfl) (by kernel_rfl) (by kernel_rfl) rfl rfl rfl rfl rfl (PV_move rfl) ?_
              refine TA_yes (dd := (some 101)) 32 rfl (by kernel_rfl) (by kernel_rfl) (by kernel_rfl) rfl rfl rfl rfl rfl (PV_move rfl) ?_
              refine TA_yes (dd := (some 102)) 33 rfl (by kernel_rfl) (by kernel_rfl) (by kernel_rfl) rfl rfl rfl rfl rfl (PV.cast (PV_bin rfl rfl bin_lss) e102) ?_
              refine TA_p 34 rfl (by kernel_rfl) (PV_pickOr rfl rfl rfl) ?_
              refine TA_done (by kernel_rfl) ?_
              refine T_else rfl (by rfl) ?_
              refine T_skip ?_
              refine T_seq ?_
              refine T_region ?_
              refine TL_p (PV_move rfl) ?_
              refine TL_p (PV_move rfl) ?_
              refine TL_p (PV_lookV 4 rfl (by omega) rfl rfl) ?_
              refine TL_p (PV.cast (PV_bin rfl rfl bin_add) e107) ?_
              refine TL_cons rfl (TO_upV (x := k) 4 rfl (by omega) rfl rfl rfl rfl ?_)
              refine TL_nil ?_
              refine T_seq ?_
              refine T_region ?_
              refine TL_p (PV_move rfl) ?_
              refine TL_p (PV_move rfl) ?_
              refine TL_p (PV.cast (PV_lookV (x := k) 4 rfl (by omega) rfl rfl) e110) ?_
              refine TL_p (PV_move rfl) ?_
              refine TL_p (PV.cast (PV_bin rfl rfl bin_gtr) e112) ?_
              refine TL_nil ?_
              refine T_else rfl (by rfl) ?_
              refine T_skip ?_
              refine T_region ?_
              refine TL_p (PV.cast (PV_bin rfl rfl bin_add) e113) ?_
              refine TL_p (PV_move rfl) ?_
              refine TL_nil ?_
              refine ?L141
              all_goals exact ⟨i + 1, s2, setN cnt k s2.tries, ⟨by omega, hF2, hqs2, hct2, hnext⟩, by omega, (by repeat (first | exact FrSub.nil _ | refine FrSub.cons rfl ?_)), Has.of_perm ((perm_pick (i := 0) rfl).trans (List.Perm.cons _ ((perm_pick (i := 3) rfl).trans (List.Perm.cons _ (List.Perm.refl _))))) (by repeat (first | exact Sb.r | exact Sb.ar | exact Sb.al | apply Sb.c | apply Sb.d | refine Sb.t ?_))⟩
          · have e52 : Value.bool (decide (((out.length : Nat) : Int) < 3)) = .bool true := congrArg Value.bool (decide_eq_true (by omega))
            have ho2 := hstep.2 h3
            refine TL_p (PV_move rfl) ?_
            refine TL_p (PV_len_slice Try.underlying26 rfl) ?_
            refine TL_p (PV.cast (PV_bin rfl rfl bin_lss) e52) ?_
            refine TL_nil ?_
            refine T_then rfl (by rfl) ?_
            refine T_exit ?_
            refine T_region ?_
            refine TL_p (PV.cast (PV_bin rfl rfl bin_add) e113) ?_
            refine TL_p (PV_move rfl) ?_
            refine TL_nil ?_
            refine ?L181
            all_goals exact ⟨i + 1, s2, cnt, ⟨by omega, hF2, hqs2, hct2, ho2⟩, by omega, (by repeat (first | exact FrSub.nil _ | refine FrSub.cons rfl ?_)), Has.of_perm ((perm_pick (i := 1) rfl).trans (List.Perm.cons _ ((perm_pick (i := 1) rfl).trans (List.Perm.cons _ (List.Perm.refl _))))) (by repeat (first | exact Sb.r | exact Sb.ar | exact Sb.al | apply Sb.c | apply Sb.d | refine Sb.t ?_))⟩
      · have e43 : Value.bool (((av % 4 : Nat) : Int) == 3) = .bool false := congrArg Value.bool (by rw [beq_eq_false_iff_ne]; omega)
        have han := fun {H : List Chunk} => answer_t (w0 := w0) (B := B) (H := H) av hav2
        refine T_seq ?_
        refine T_region ?_
        refine TL_p (PV_bin rfl rfl bin_lss) ?_
        refine TL_nil ?_
        refine T_seq ?_
        refine T_then rfl (by exact decide_eq_true (by omega)) ?_
        refine T_skip ?_
        refine T_seq ?_
        refine T_block ?_
        refine T_seq ?_
        refine T_region ?_
        refine TL_p (PV_indexAddr Try.underlying26 sz5 rfl rfl rfl (by first | omega | decide | assumption)) ?_
        refine TL_p (PV_load Try.underlying5 rfl rfl r38) ?_
        refine TL_p (PV_assign rfl) ?_
        refine TL_nil ?_
        refine T_seq ?_
        refine T_region ?_
        refine TL_p (PV_move rfl) ?_
        refine TL_cons rfl (TO_call0 call10 rfl rfl (t60 (s := s)) ?_)
        rintro v40_4003 H40_4003 ⟨rfl, rfl⟩
        refine TL_p (PV_assign rfl) ?_
        refine TL_nil ?_
        refine T_seq ?_
        refine T_region ?_
        refine TL_p (PV_assign rfl) ?_
        refine TL_nil ?_
        refine T_seq ?_
        refine T_seq ?_
        refine T_region ?_
        refine TL_p (PV_move rfl) ?_
        refine TL_p (PV.cast (PV_bin rfl rfl (bin_rem (by decide))) e42) ?_
        refine TL_p (PV.cast (PV_bin rfl rfl bin_eql) e43) ?_
        refine TL_nil ?_
        refine T_else rfl (by rfl) ?_
        refine T_region ?_
        refine TL_p (PV_move rfl) ?_
        refine TL_p (PV_move rfl) ?_
        refine TL_cons rfl (TO_call0 call13 rfl rfl (han) ?_)
        rintro v48_4006 H48_4006 ⟨rfl, rfl⟩
        refine TL_cons rfl (TO_call0 call12 rfl rfl (t59 (s := s) _ ?sd4008q247_1 ?sd4008q247_2) ?_)
        case sd4008q247_1 => exact hF
        case sd4008q247_2 => exact SBlk.mono hBs (fun w h => h.sub (by (repeat (first | exact Sb.r | exact Sb.ar | exact Sb.al | apply Sb.d | refine Sb.t ?_)); done))
        rintro v49_4009 H49_4009 ⟨A_4009, k_4009, rfl, h_4009_0, rfl⟩
        refine TL_p (PV_assign rfl) ?_
        refine TL_nil ?_
        refine T_seq ?_
        refine T_seq ?_
        refine T_region ?_
        refine ?L41
        case L41 =>
          have hstep := put_step hF ho (ansN av)
          obtain ⟨out, hout⟩ : ∃ out, s.putOut (ansN av) = out := ⟨_, rfl⟩
          obtain ⟨s2, hs2⟩ : ∃ s2, s.put (ansN av) = s2 := ⟨_, rfl⟩
          have hF2 : s2.Fit := hs2 ▸ hF.put (ansN av)
          have hqs2 : s2.qs = blksL l false (mn % 5) := hs2 ▸ (s.put_qs (ansN av)).trans hqs
          have hct2 : s2.ct = (mx : Int) := hs2 ▸ (put_ct s (ansN av)).trans hct
          have hkk2 : out.length ≤ k_4009 := by rw [← hout]; assumption
          rw [hout, hs2] at hstep ⊢
          by_cases h3 : 3 ≤ out.length
          · have hsd := hstep.1 h3
            have hk : s2.at_ < mn % 5 := by have := hsd.lt; rw [hqs2, hln] at this; exact this
            obtain ⟨k, hkk⟩ : ∃ k, s2.at_ = k := ⟨_, rfl⟩
            rw [hkk] at hk
            have hkq : k < (blksL l false (mn % 5)).length := by omega
            obtain ⟨q, hqe⟩ : ∃ q, (blksL l false (mn % 5))[k] = q := ⟨_, rfl⟩
            have hq128 : q.length = 128 := by rw [← hqe]; simp only [blksL, List.getElem_map]; rw [blkL_len]; rfl
            have hqu : U8s q := hqe ▸ (hq _ (List.getElem_mem hkq)).1
            have hbytes : out = blockL (leadOf 128) (((0 + k + 1) % 256 : Nat) : Int) q s2.crc := by
              rw [hsd.out]
              unfold Sn.bytes
              rw [hqs2, hkk, List.getElem?_eq_getElem hkq, hqe]
              simp only [hq128]
            have hnum : (0 : Int) ≤ (((0 + k + 1) % 256 : Nat) : Int) ∧ (((0 + k + 1) % 256 : Nat) : Int) ≤ 255 := by omega
            have hscan := scan_of_block' (rest := []) (crc := s2.crc) hq128 (Or.inl rfl) hnum
            rw [List.append_nil, ← hbytes] at hscan
            obtain ⟨z1, z2, z3⟩ := hscan
            have hou : U8s out := by rw [hbytes]; exact blockL_u8' (by decide) hnum hqu
            have hol : out.length = if s2.crc = true then 133 else 132 := by
              rw [hbytes, blockL_len', trailL_len, hq128]
              split <;> rfl
            have h0 : (nums .u8 out)[0]? = some (.int .u8 1) := by rw [hbytes]; rfl
            have hone := hsd.one
            have hfew := hsd.few
            have hat := hsd.at_
            have hnext := hsd.next
            rw [hkk] at hone hat hnext
            rw [hct2] at hfew
            have hset : cntUp cnt k = setN cnt k s2.tries := by unfold cntUp setN; rw [hone]
            rw [hset] at hnext
            obtain ⟨hc7, ps, hps, hrow, hall⟩ := hB7
            have hpl : ps.length = mn % 5 := by have := congrArg List.length hps; rw [List.length_map, hln] at this; exact this
            refine TL_shows hrow (fun w h => h.sub (by repeat (first | exact Sb.r | exact Sb.ar | exact Sb.al | apply Sb.d | refine Sb.t ?_))) (by rw [bCells_len]; omega) fun gb ob hA7 hr7 => ?_
            subst hA7
            refine TL_shows (Shows.at 0 rfl) (fun w h => h) (by simp [nums]; omega) fun go oo hAo hro => ?_
            subst hAo
            have r0 : Rd _ ⟨go, oo + 0 * 1, none⟩ (.int .u8 1) := hro (0 * 1) _ h0
            have hpk : ps[k]? = some ps[k] := List.getElem?_eq_getElem (by omega)
            have hbc := bCells_get 0 ps k ps[k] hpk
            have hpall := hall ps[k] (List.getElem_mem _)
            have hpd : ps[k].2.2 = q := by
              have h1 := congrArg (fun l : List (List Int) => l[k]?) hps
              simp only [List.getElem?_map, hpk, Option.map_some, List.getElem?_eq_getElem hkq, hqe] at h1
              exact Option.some.inj h1
            obtain ⟨p, hp⟩ : ∃ p, ps[k] = p := ⟨_, rfl⟩
            rw [hp] at hbc hpall hpd
            obtain ⟨Ap, cp, xs⟩ := p
            obtain rfl : xs = q := hpd
            have hpS := hpall.1
            have hpC := hpall.2
            dsimp only at hpS hpC
            rw [hq128] at hpC hpS
            have hbn : (bCells 0 ps)[k * 2]? = some (.int .u8 (((0 + k + 1) % 256 : Nat) : Int)) := hbc.1
            have hbd : (bCells 0 ps)[k * 2 + 1]? = some (.slice Ap 128 cp) := by rw [hbc.2]; show some (Value.slice Ap xs.length cp) = _; rw [hq128]
            have r7 : Rd _ ⟨gb, ob + k * 2 + 0, none⟩ (.int .u8 (((0 + k + 1) % 256 : Nat) : Int)) := hr7 (k * 2) _ hbn
            have r7d := hr7 (k * 2 + 1) _ hbd
            rw [← Nat.add_assoc] at r7d
            have e52 : Value.bool (decide (((out.length : Nat) : Int) < 3)) = .bool false := congrArg Value.bool (decide_eq_false (by omega))
            have e70 : Value.bool ((2 : Int) != 2) = .bool false := rfl
            have e75 : Value.bool (decide ((k : Int) ≥ ((mn % 5 : Nat) : Int))) = .bool false := congrArg Value.bool (decide_eq_false (by omega))
            have e85 : Value.bool ((((0 + k + 1) % 256 : Nat) : Int) != (((0 + k + 1) % 256 : Nat) : Int)) = .bool false := by simp
            have e97 : Value.bool (!decide (strOfNums xs = strOfNums xs)) = .bool false := by simp
            have e102 : Value.bool (decide ((k : Int) < (s.at_ : Int))) = .bool false := congrArg Value.bool (decide_eq_false (by omega))
            have e107 : Value.int .i64 (IntKind.i64.wrap (cnt k + 1)) = .int .i64 s2.tries := by
              rw [hone]
              have htr := hF2.tr
              exact wr64 (by omega)
            have e110 : Value.int .i64 (setN cnt k s2.tries k) = .int .i64 s2.tries := by unfold setN; rw [if_pos rfl]
            have e112 : Value.bool (decide (s2.tries > (mx : Int))) = .bool false := congrArg Value.bool (decide_eq_false (by omega))
            have hsent := fun {X : List Chunk} => t60 (w0 := w0) (B := B) (X := X) (g := g_10) (A := A'_10) (c := c'_10) s2
            rw [hkk] at hsent
            have hq1 : (scanD out s2.crc).length = 128 := by rw [z3]; exact hq128
            have hsc := fun {X : List Chunk} {A : Option Addr} {kk : Nat} (h1 : out.length ≤ kk) => t52yes (w0 := w0) (B := B) (H := byC A kk out :: X) s2.crc (Shows.at 0 rfl) rfl (by split at hol <;> omega) h1 hou z1
            rw [z2, z3, hq128] at hsc
            cases hcrc : s2.crc
            · have e62 : Value.bool (((out.length : Nat) : Int) == 133) = .bool false := by rw [hol, hcrc]; rfl
              rw [hcrc] at hsc
              refine TL_p (PV_move rfl) ?_
              refine TL_p (PV_len_slice Try.underlying26 rfl) ?_
              refine TL_p (PV.cast (PV_bin rfl rfl bin_lss) e52) ?_
              refine TL_nil ?_
              refine T_else rfl (by rfl) ?_
              refine T_skip ?_
              refine T_seq ?_
              refine T_region ?_
              refine TL_p (PV_move rfl) ?_
              refine TL_p (PV_move rfl) ?_
              refine TL_p (PV_indexAddr (i := 0) Try.underlying26 sz5 rfl rfl rfl (by first | omega | decide | assumption)) ?_
              refine TL_p (PV_load Try.underlying5 rfl rfl r0) ?_
              refine TL_p (PV_bin rfl rfl bin_eql) ?_
              refine TL_p (PV_move rfl) ?_
              refine TL_yes rfl rfl rfl (TO_pure rfl (PV_move rfl) ?_)
              refine TL_yes rfl rfl rfl (TO_pure rfl (PV_len_slice Try.underlying26 rfl) ?_)
              refine TL_yes rfl rfl rfl (TO_pure rfl (PV.cast (PV_bin rfl rfl bin_eql) e62) ?_)
              refine TL_p (PV_pickAnd rfl rfl rfl) ?_
              refine TL_cons rfl (TO_call0 call14 rfl rfl (hsc ?sd30002q341_0) ?_)
              case sd30002q341_0 => exact hkk2
              rintro v64_30003 H64_30003 ⟨A'_30003, c'_30003, rfl, h_30003_0, rfl⟩
              refine TL_p (PV_move rfl) ?_
              refine TL_p (PV_extract rfl rfl) ?_
              refine TL_p (PV_extract rfl rfl) ?_
              refine TL_cons rfl (TO_alloc rfl zr28 fun g30004 => ?_)
              refine TL_cons rfl (TO_store 0 rfl rfl rfl sz28 rfl rfl rfl (all_one rfl) (by first | exact Nat.le_of_ble_eq_true rfl | (simp; done) | (simp; omega) | omega) ?_)
              refine TL_p (PV_assign rfl) ?_
              refine TL_nil ?_
              refine T_seq ?_
              refine T_region ?_
              refine TL_p (PV_move rfl) ?_
              refine TL_perm ((perm_pick (i := 3) rfl).trans (List.Perm.cons _ (List.Perm.refl _))) ?_
              refine TL_cons rfl (TO_call0 call10 rfl rfl (hsent) ?_)
              rintro v68_30008 H68_30008 ⟨rfl, rfl⟩
              refine TL_p (PV_assign rfl) ?_
              refine TL_nil ?_
              refine T_seq ?_
              refine T_seq ?_
              refine T_slA 2 rfl (by omega) fun g30009 e30009 => ?_
              subst e30009
              refine T_drawn (WH _ _ _) mixed (fun w h => h) ?_
              refine TA_p 0 rfl (by kernel_rfl) (PV_move rfl) ?_
              refine TA_p 1 rfl (by kernel_rfl) (PV.cast (PV_bin rfl rfl bin_neq) e70) ?_
              refine TA_p 2 rfl (by kernel_rfl) (PV_move rfl) ?_
              refine TA_yes (dd := (some 72)) 3 rfl (by kernel_rfl) (by kernel_rfl) (by kernel_rfl) rfl rfl rfl rfl rfl (PV_move rfl) ?_
              refine TA_yes (dd := (some 73)) 4 rfl (by kernel_rfl) (by kernel_rfl) (by kernel_rfl) rfl rfl rfl rfl rfl (PV_move rfl) ?_
              refine TA_yes (dd := (some 74)) 5 rfl (by kernel_rfl) (by kernel_rfl) (by kernel_rfl) rfl rfl rfl rfl rfl (PV_len_slice Try.underlying24 rfl) ?_
              refine TA_yes (dd := (some 75)) 6 rfl (by kernel_rfl) (by kernel_rfl) (by kernel_rfl) rfl rfl rfl rfl rfl (PV.cast (PV_bin rfl rfl bin_geq) e75) ?_
              refine TA_p 7 rfl (by kernel_rfl) (PV_pickOr rfl rfl rfl) ?_
              refine TA_p 8 rfl (by kernel_rfl) (PV_move rfl) ?_
              refine TA_yes (dd := (some 78)) 9 rfl (by kernel_rfl) (by kernel_rfl) (by kernel_rfl) rfl rfl rfl rfl rfl (PV_fieldAddr (D := 0) Try.underlying28 rfl sz5 (by decide) rfl rfl) ?_
              refine TA_yes (dd := (some 79)) 10 rfl (by kernel_rfl) (by kernel_rfl) (by kernel_rfl) rfl rfl rfl rfl rfl (PV_load Try.underlying5 rfl rfl (Rd.at 1 rfl rfl)) ?_
              refine TA_yes (dd := (some 80)) 11 rfl (by kernel_rfl) (by kernel_rfl) (by kernel_rfl) rfl rfl rfl rfl rfl (PV_move rfl) ?_
              refine TA_yes (dd := (some 81)) 12 rfl (by kernel_rfl) (by kernel_rfl) (by kernel_rfl) rfl rfl rfl rfl rfl (PV_move rfl) ?_
              refine TA_yes (dd := (some 82)) 13 rfl (by kernel_rfl) (by kernel_rfl) (by kernel_rfl) rfl rfl rfl rfl rfl (PV_indexAddr Try.underlying24 sz28 rfl rfl rfl (by first | omega | decide | assumption)) ?_
              refine TA_yes (dd := (some 83)) 14 rfl (by kernel_rfl) (by kernel_rfl) (by kernel_rfl) rfl rfl rfl rfl rfl (PV_fieldAddr (D := 0) Try.underlying28 rfl sz5 (by decide) rfl rfl) ?_
              refine TA_yes (dd := (some 84)) 15 rfl (by kernel_rfl) (by kernel_rfl) (by kernel_rfl) rfl rfl rfl rfl rfl (PV_load Try.underlying5 rfl rfl (Rd.mono r7 (fun w h => h.sub (by (repeat (first | exact Sb.r | exact Sb.ar | exact Sb.al | apply Sb.d | refine Sb.t ?_)); done)))) ?_
              refine TA_yes (dd := (some 85)) 16 rfl (by kernel_rfl) (by kernel_rfl) (by kernel_rfl) rfl rfl rfl rfl rfl (PV.cast (PV_bin rfl rfl bin_neq) e85) ?_
              refine TA_p 17 rfl (by kernel_rfl) (PV_pickOr rfl rfl rfl) ?_
              refine TA_p 18 rfl (by kernel_rfl) (PV_move rfl) ?_
              refine TA_yes (dd := (some 88)) 19 rfl (by kernel_rfl) (by kernel_rfl) (by kernel_rfl) rfl rfl rfl rfl rfl (PV_fieldAddr (D := 1) Try.underlying28 rfl sz26 (by decide) rfl rfl) ?_
              refine TA_yes (dd := (some 89)) 20 rfl (by kernel_rfl) (by kernel_rfl) (by kernel_rfl) rfl rfl rfl rfl rfl (PV_load Try.underlying26 rfl rfl (Rd.at 1 rfl rfl)) ?_
              refine TA_yes (dd := (some 90)) 21 rfl (by kernel_rfl) (by kernel_rfl) (by kernel_rfl) rfl rfl rfl rfl rfl (PV_b2s Try.underlying26 Try.underlying5 Try.underlying9 rfl (Shows.at 2 rfl)) ?_
              refine TA_yes (dd := (some 91)) 22 rfl (by kernel_rfl) (by kernel_rfl) (by kernel_rfl) rfl rfl rfl rfl rfl (PV_move rfl) ?_
              refine TA_yes (dd := (some 92)) 23 rfl (by kernel_rfl) (by kernel_rfl) (by kernel_rfl) rfl rfl rfl rfl rfl (PV_move rfl) ?_
              refine TA_yes (dd := (some 93)) 24 rfl (by kernel_rfl) (by kernel_rfl) (by kernel_rfl) rfl rfl rfl rfl rfl (PV_indexAddr Try.underlying24 sz28 rfl rfl rfl (by first | omega | decide | assumption)) ?_
              refine TA_yes (dd := (some 94)) 25 rfl (by kernel_rfl) (by kernel_rfl) (by kernel_rfl) rfl rfl rfl rfl rfl (PV_fieldAddr (D := 1) Try.underlying28 rfl sz26 (by decide) rfl rfl) ?_
              refine TA_yes (dd := (some 95)) 26 rfl (by kernel_rfl) (by kernel_rfl) (by kernel_rfl) rfl rfl rfl rfl rfl (PV_load Try.underlying26 rfl rfl (Rd.mono r7d (fun w h => h.sub (by (repeat (first | exact Sb.r | exact Sb.ar | exact Sb.al | apply Sb.d | refine Sb.t ?_)); done)))) ?_
              refine TA_yes (dd := (some 96)) 27 rfl (by kernel_rfl) (by kernel_rfl) (by kernel_rfl) rfl rfl rfl rfl rfl (PV_b2s Try.underlying26 Try.underlying5 Try.underlying9 rfl (Shows.mono hpS (fun w h => h.sub (by (repeat (first | exact Sb.r | exact Sb.ar | exact Sb.al | apply Sb.d | refine Sb.t ?_)); done)))) ?_
              refine TA_yes (dd := (some 97)) 28 rfl (by kernel_rfl) (by kernel_rfl) (by kernel_rfl) rfl rfl rfl rfl rfl (PV.cast (PV_bin rfl rfl bin_str_neq) e97) ?_
              refine TA_p 29 rfl (by kernel_rfl) (PV_pickOr rfl rfl rfl) ?_
              refine TA_p 30 rfl (by kernel_rfl) (PV_move rfl) ?_
              refine TA_yes (dd := (some 100)) 31 rfl (by kernel_rfl) (by kernel_rfl) (by kernel_rfl) rfl rfl rfl rfl rfl (PV_move rfl) ?_
              refine TA_yes (dd := (some 101)) 32 rfl (by kernel_rfl) (by kernel_rfl) (by kernel_rfl) rfl rfl rfl rfl rfl (PV_move rfl) ?_
              refine TA_yes (dd := (some 102)) 33 rfl (by kernel_rfl) (by kernel_rfl) (by kernel_rfl) rfl rfl rfl rfl rfl (PV.cast (PV_bin rfl rfl bin_lss) e102) ?_
              refine TA_p 34 rfl (by kernel_rfl) (PV_pickOr rfl rfl rfl) ?_
              refine TA_done (by kernel_rfl) ?_
              refine T_else rfl (by rfl) ?_
              refine T_skip ?_
              refine T_seq ?_
              refine T_region ?_
              refine TL_p (PV_move rfl) ?_
              refine TL_p (PV_move rfl) ?_
              refine TL_p (PV_lookV 4 rfl (by omega) rfl rfl) ?_
              refine TL_p (PV.cast (PV_bin rfl rfl bin_add) e107) ?_
              refine TL_cons rfl (TO_upV (x := k) 4 rfl (by omega) rfl rfl rfl rfl ?_)
              refine TL_nil ?_
              refine T_seq ?_
              refine T_region ?_
              refine TL_p (PV_move rfl) ?_
              refine TL_p (PV_move rfl) ?_
              refine TL_p (PV.cast (PV_lookV (x := k) 4 rfl (by omega) rfl rfl) e110) ?_
              refine TL_p (PV_move rfl) ?_
              refine TL_p (PV.cast (PV_bin rfl rfl bin_gtr) e112) ?_
              refine TL_nil ?_
              refine T_else rfl (by rfl) ?_
              refine T_skip ?_
              refine T_region ?_
              refine TL_p (PV.cast (PV_bin rfl rfl bin_add) e113) ?_
              refine TL_p (PV_move rfl) ?_
              refine TL_nil ?_
              refine ?L301
              all_goals exact ⟨i + 1, s2, setN cnt k s2.tries, ⟨by omega, hF2, hqs2, hct2, hnext⟩, by omega, (by repeat (first | exact FrSub.nil _ | refine FrSub.cons rfl ?_)), Has.of_perm ((perm_pick (i := 0) rfl).trans (List.Perm.cons _ ((perm_pick (i := 3) rfl).trans (List.Perm.cons _ (List.Perm.refl _))))) (by repeat (first | exact Sb.r | exact Sb.ar | exact Sb.al | apply Sb.c | apply Sb.d | refine Sb.t ?_))⟩
            · have e62 : Value.bool (((out.length : Nat) : Int) == 133) = .bool true := by rw [hol, hcrc]; rfl
              rw [hcrc] at hsc
              refine TL_p (PV_move rfl) ?_
              refine TL_p (PV_len_slice Try.underlying26 rfl) ?_
              refine TL_p (PV.cast (PV_bin rfl rfl bin_lss) e52) ?_
              refine TL_nil ?_
              refine T_else rfl (by rfl) ?_
              refine T_skip ?_
              refine T_seq ?_
              refine T_region ?_
              refine TL_p (PV_move rfl) ?_
              refine TL_p (PV_move rfl) ?_
              refine TL_p (PV_indexAddr (i := 0) Try.underlying26 sz5 rfl rfl rfl (by first | omega | decide | assumption)) ?_
              refine TL_p (PV_load Try.underlying5 rfl rfl r0) ?_
              refine TL_p (PV_bin rfl rfl bin_eql) ?_
              refine TL_p (PV_move rfl) ?_
              refine TL_yes rfl rfl rfl (TO_pure rfl (PV_move rfl) ?_)
              refine TL_yes rfl rfl rfl (TO_pure rfl (PV_len_slice Try.underlying26 rfl) ?_)
              refine TL_yes rfl rfl rfl (TO_pure rfl (PV.cast (PV_bin rfl rfl bin_eql) e62) ?_)
              refine TL_p (PV_pickAnd rfl rfl rfl) ?_
              refine TL_cons rfl (TO_call0 call14 rfl rfl (hsc ?sd34002q360_0) ?_)
              case sd34002q360_0 => exact hkk2
              rintro v64_34003 H64_34003 ⟨A'_34003, c'_34003, rfl, h_34003_0, rfl⟩
              refine TL_p (PV_move rfl) ?_
              refine TL_p (PV_extract rfl rfl) ?_
              refine TL_p (PV_extract rfl rfl) ?_
              refine TL_cons rfl (TO_alloc rfl zr28 fun g34004 => ?_)
              refine TL_cons rfl (TO_store 0 rfl rfl rfl sz28 rfl rfl rfl (all_one rfl) (by first | exact Nat.le_of_ble_eq_true rfl | (simp; done) | (simp; omega) | omega) ?_)
              refine TL_p (PV_assign rfl) ?_
              refine TL_nil ?_
              refine T_seq ?_
              refine T_region ?_
              refine TL_p (PV_move rfl) ?_
              refine TL_perm ((perm_pick (i := 3) rfl).trans (List.Perm.cons _ (List.Perm.refl _))) ?_
              refine TL_cons rfl (TO_call0 call10 rfl rfl (hsent) ?_)
              rintro v68_34008 H68_34008 ⟨rfl, rfl⟩
              refine TL_p (PV_assign rfl) ?_
              refine TL_nil ?_
              refine T_seq ?_
              refine T_seq ?_
              refine T_slA 2 rfl (by omega) fun g34009 e34009 => ?_
              subst e34009
              refine T_drawn (WH _ _ _) mixed (fun w h => h) ?_
              refine TA_p 0 rfl (by kernel_rfl) (PV_move rfl) ?_
              refine TA_p 1 rfl (by kernel_rfl) (PV.cast (PV_bin rfl rfl bin_neq) e70) ?_
              refine TA_p 2 rfl (by kernel_rfl) (PV_move rfl) ?_
              refine TA_yes (dd := (some 72)) 3 rfl (by kernel_rfl) (by kernel_rfl) (by kernel_rfl) rfl rfl rfl rfl rfl (PV_move rfl) ?_
              refine TA_yes (dd := (some 73)) 4 rfl (by kernel_rfl) (by kernel_rfl) (by kernel_rfl) rfl rfl rfl rfl rfl (PV_move rfl) ?_
              refine TA_yes (dd := (some 74)) 5 rfl (by kernel_rfl) (by kernel_rfl) (by kernel_rfl) rfl rfl rfl rfl rfl (PV_len_slice Try.underlying24 rfl) ?_
              refine TA_yes (dd := (some 75)) 6 rfl (by kernel_rfl) (by kernel_rfl) (by kernel_rfl) rfl rfl rfl rfl rfl (PV.cast (PV_bin rfl rfl bin_geq) e75) ?_
              refine TA_p 7 rfl (by kernel_rfl) (PV_pickOr rfl rfl rfl) ?_
              refine TA_p 8 rfl (by kernel_rfl) (PV_move rfl) ?_
              refine TA_yes (dd := (some 78)) 9 rfl (by kernel_rfl) (by kernel_rfl) (by kernel_rfl) rfl rfl rfl rfl rfl (PV_fieldAddr (D := 0) Try.underlying28 rfl sz5 (by decide) rfl rfl) ?_
              refine TA_yes (dd := (some 79)) 10 rfl (by kernel_rfl) (by kernel_rfl) (by kernel_rfl) rfl rfl rfl rfl rfl (PV_load Try.underlying5 rfl rfl (Rd.at 1 rfl rfl)) ?_
              refine TA_yes (dd := (some 80)) 11 rfl (by kernel_rfl) (by kernel_rfl) (by kernel_rfl) rfl rfl rfl rfl rfl (PV_move rfl) ?_
              refine TA_yes (dd := (some 81)) 12 rfl (by kernel_rfl) (by kernel_rfl) (by kernel_rfl) rfl rfl rfl rfl rfl (PV_move rfl) ?_
              refine TA_yes (dd := (some 82)) 13 rfl (by kernel_rfl) (by kernel_rfl) (by kernel_rfl) rfl rfl rfl rfl rfl (PV_indexAddr Try.underlying24 sz28 rfl rfl rfl (by first | omega | decide | assumption)) ?_
              refine TA_yes (dd := (some 83)) 14 rfl (by kernel_rfl) (by kernel_rfl) (by kernel_rfl) rfl rfl rfl rfl rfl (PV_fieldAddr (D := 0) Try.underlying28 rfl sz5 (by decide) rfl rfl) ?_
              refine TA_yes (dd := (some 84)) 15 rfl (by kernel_rfl) (by kernel_rfl) (by kernel_rfl) rfl rfl rfl rfl rfl (PV_load Try.underlying5 rfl rfl (Rd.mono r7 (fun w h => h.sub (by (repeat (first | exact Sb.r | exact Sb.ar | exact Sb.al | apply Sb.d | refine Sb.t ?_)); done)))) ?_
              refine TA_yes (dd := (some 85)) 16 rfl (by kernel_rfl) (by kernel_rfl) (by kernel_rfl) rfl rfl rfl rfl rfl (PV.cast (PV_bin rfl rfl bin_neq) e85) ?_
              refine TA_p 17 rfl (by kernel_rfl) (PV_pickOr rfl rfl rfl) ?_
              refine TA_p 18 rfl (by kernel_rfl) (PV_move rfl) ?_
              refine TA_yes (dd := (some 88)) 19 rfl (by kernel_rfl) (by kernel_rfl) (by kernel_rfl) rfl rfl rfl rfl rfl (PV_fieldAddr (D := 1) Try.underlying28 rfl sz26 (by decide) rfl rfl) ?_
              refine TA_yes (dd := (some 89)) 20 rfl (by kernel_rfl) (by kernel_rfl) (by kernel_rfl) rfl rfl rfl rfl rfl (PV_load Try.underlying26 rfl rfl (Rd.at 1 rfl rfl)) ?_
              refine TA_yes (dd := (some 90)) 21 rfl (by kernel_rfl) (by kernel_rfl) (by kernel_rfl) rfl rfl rfl rfl rfl (PV_b2s Try.underlying26 Try.underlying5 Try.underlying9 rfl (Shows.at 2 rfl)) ?_
              refine TA_yes (dd := (some 91)) 22 rfl (by kernel_rfl) (by kernel_rfl) (by kernel_rfl) rfl rfl rfl rfl rfl (PV_move rfl) ?_
              refine TA_yes (dd := (some 92)) 23 rfl (by kernel_rfl) (by kernel_rfl) (by kernel_rfl) rfl rfl rfl rfl rfl (PV_move rfl) ?_
              refine TA_yes (dd := (some 93)) 24 rfl (by kernel_rfl) (by kernel_rfl) (by kernel_rfl) rfl rfl rfl rfl rfl (PV_indexAddr Try.underlying24 sz28 rfl rfl rfl (by first | omega | decide | assumption)) ?_
              refine TA_yes (dd := (some 94)) 25 rfl (by kernel_rfl) (by kernel_rfl) (by kernel_rfl) rfl rfl rfl rfl rfl (PV_fieldAddr (D := 1) Try.underlying28 rfl sz26 (by decide) rfl rfl) ?_
              refine TA_yes (dd := (some 95)) 26 rfl (by kernel_rfl) (by kernel_rfl) (by kernel_rfl) rfl rfl rfl rfl rfl (PV_load Try.underlying26 rfl rfl (Rd.mono r7d (fun w h => h.sub (by (repeat (first | exact Sb.r | exact Sb.ar | exact Sb.al | apply Sb.d | refine Sb.t ?_)); done)))) ?_
              refine TA_yes (dd := (some 96)) 27 rfl (by kernel_rfl) (by kernel_rfl) (by kernel_rfl) rfl rfl rfl rfl rfl (PV_b2s Try.underlying26 Try.underlying5 Try.underlying9 rfl (Shows.mono hpS (fun w h => h.sub (by (repeat (first | exact Sb.r | exact Sb.ar | exact Sb.al | apply Sb.d | refine Sb.t ?_)); done)))) ?_
              refine TA_yes (dd := (some 97)) 28 rfl (by kernel_rfl) (by kernel_rfl) (by kernel_rfl) rfl rfl rfl rfl rfl (PV.cast (PV_bin rfl rfl bin_str_neq) e97) ?_
              refine TA_p 29 rfl (by kernel_rfl) (PV_pickOr rfl rfl rfl) ?_
              refine TA_p 30 rfl (by kernel_rfl) (PV_move rfl) ?_
              refine TA_yes (dd := (some 100)) 31 rfl (by kernel_rfl) (by kernel_rfl) (by kernel_rfl) rfl rfl rfl rfl rfl (PV_move rfl) ?_
              refine TA_yes (dd := (some 101)) 32 rfl (by kernel_rfl) (by kernel_rfl) (by kernel_rfl) rfl rfl rfl rfl rfl (PV_move rfl) ?_
              refine TA_yes (dd := (some 102)) 33 rfl (by kernel_rfl) (by kernel_rfl) (by kernel_rfl) rfl rfl rfl rfl rfl (PV.cast (PV_bin rfl rfl bin_lss) e102) ?_
              refine TA_p 34 rfl (by kernel_rfl) (PV_pickOr rfl rfl rfl) ?_
              refine TA_done (by kernel_rfl) ?_
              refine T_else rfl (by rfl) ?_
              refine T_skip ?_
              refine T_seq ?_
              refine T_region ?_
              refine TL_p (PV_move rfl) ?_
              refine TL_p (PV_move rfl) ?_
              refine TL_p (PV_lookV 4 rfl (by omega) rfl rfl) ?_
              refine TL_p (PV.cast (PV_bin rfl rfl bin_add) e107) ?_
              refine TL_cons rfl (TO_upV (x := k) 4 rfl (by omega) rfl rfl rfl rfl ?_)
              refine TL_nil ?_
              refine T_seq ?_
              refine T_region ?_
              refine TL_p (PV_move rfl) ?_
              refine TL_p (PV_move rfl) ?_
              refine TL_p (PV.cast (PV_lookV (x := k) 4 rfl (by omega) rfl rfl) e110) ?_
              refine TL_p (PV_move rfl) ?_
              refine TL_p (PV.cast (PV_bin rfl rfl bin_gtr) e112) ?_
              refine TL_nil ?_
              refine T_else rfl (by rfl) ?_
              refine T_skip ?_
              refine T_region ?_
              refine TL_p (PV.cast (PV_bin rfl rfl bin_add) e113) ?_
              refine TL_p (PV_move rfl) ?_
              refine TL_nil ?_
              refine ?L341
              all_goals exact ⟨i + 1, s2, setN cnt k s2.tries, ⟨by omega, hF2, hqs2, hct2, hnext⟩, by omega, (by repeat (first | exact FrSub.nil _ | refine FrSub.cons rfl ?_)), Has.of_perm ((perm_pick (i := 0) rfl).trans (List.Perm.cons _ ((perm_pick (i := 3) rfl).trans (List.Perm.cons _ (List.Perm.refl _))))) (by repeat (first | exact Sb.r | exact Sb.ar | exact Sb.al | apply Sb.c | apply Sb.d | refine Sb.t ?_))⟩
          · have e52 : Value.bool (decide (((out.length : Nat) : Int) < 3)) = .bool true := congrArg Value.bool (decide_eq_true (by omega))
            have ho2 := hstep.2 h3
            refine TL_p (PV_move rfl) ?_
            refine TL_p (PV_len_slice Try.underlying26 rfl) ?_
            refine TL_p (PV.cast (PV_bin rfl rfl bin_lss) e52) ?_
            refine TL_nil ?_
            refine T_then rfl (by rfl) ?_
            refine T_exit ?_
            refine T_region ?_
            refine TL_p (PV.cast (PV_bin rfl rfl bin_add) e113) ?_
            refine TL_p (PV_move rfl) ?_
            refine TL_nil ?_
            refine ?L381
            all_goals exact ⟨i + 1, s2, cnt, ⟨by omega, hF2, hqs2, hct2, ho2⟩, by omega, (by repeat (first | exact FrSub.nil _ | refine FrSub.cons rfl ?_)), Has.of_perm ((perm_pick (i := 1) rfl).trans (List.Perm.cons _ ((perm_pick (i := 1) rfl).trans (List.Perm.cons _ (List.Perm.refl _))))) (by repeat (first | exact Sb.r | exact Sb.ar | exact Sb.al | apply Sb.c | apply Sb.d | refine Sb.t ?_))⟩
    · obtain rfl : i = m3 := by omega
      refine T_seq ?_
      refine T_region ?_
      refine TL_p (PV_bin rfl rfl bin_lss) ?_
      refine TL_nil ?_
      refine T_seq ?_
      refine T_else rfl (by (simp; done)) ?_
      refine T_exit ?_
      refine T_seq ?_
      refine T_region ?_
      refine TL_p (PV_assign rfl) ?_
      refine TL_nil ?_
      refine ?L61
      all_goals exact T_ret (ret_ret (ResV_one rfl rfl) ⟨H, hHZ.trans (by repeat (first | exact Sb.r | exact Sb.ar | exact Sb.al | apply Sb.d | refine Sb.t ?_)), rfl, rfl⟩)
end
end Go.Proofs.Ytpfcpookdocikaa.SL
