import Derived.Test.YtijpbpnfachlkaaDoorN3
/- Tables of patterns: a node's part, the other cases. No statement is proved here. -/
set_option linter.unusedVariables false
set_option linter.unusedSimpArgs false
set_option maxRecDepth 100000
set_option maxHeartbeats 8000000
namespace Go.Proofs.YtijpbpnfachlkaaDoor.SL
open Go Go.RowKit
section
variable {w0 : World} {B n : Nat} {fr : Fr} {H X : List Chunk} {W : World → Prop}
theorem MI_map {v : Value} {n : Nat} {m : Nat → Bool} (h : MI W v n m) : ∃ o, v = .map o := by
  rcases h with ⟨rfl, _⟩ | ⟨b, es, clock, rfl, _⟩ <;> exact ⟨_, rfl⟩
theorem make_either {a b : Rx} {x y : Nv} {A0 : Option Addr} {c0 : Nat} (h2 : 2 ≤ c0) (hK : Shows (WH w0 B X) A0 2 6 (x.cells ++ y.cells)) (hEa : MakeC w0 B a x X) (hEb : MakeC w0 B b y X) : MakeC w0 B (.either a b) ⟨3, S4.zero, A0, 2, c0⟩ X := by
  intro gm gn nn k c A L m H hsub hL hn hk hc
  simp only [nx] at hn
  simp only [pl] at hk
  refine TCall_showsN (hK.mono fun w h => h.sub (hsub.trans (by repeat (first | exact Sb.r | exact Sb.ar | exact Sb.al | apply Sb.d | refine Sb.t ?_)))) (by simp [Nv.cells]) fun ga oa hA hrd => ?_
  subst hA
  clear hrd
  have hKH := hK.mono (W' := WH w0 B H) fun w h => h.sub hsub
  have hk0 : RdsK (WH w0 B H) ga (oa + 0 * 6) 6 x.cells := ⟨rfl, fun j v hj => by
    rw [add_plain']
    refine hKH.rd (0 * 6 + j) (by omega) ?_
    rw [Nat.zero_mul, Nat.zero_add, List.getElem?_append_left (List.getElem?_eq_some_iff.1 hj).1]
    exact hj⟩
  have hk1 : RdsK (WH w0 B H) ga (oa + 1 * 6) 6 y.cells := ⟨rfl, fun j v hj => by
    rw [add_plain']
    refine hKH.rd (1 * 6 + j) (by omega) ?_
    rw [List.getElem?_append_right (by simp [Nv.cells])]
    simpa [Nv.cells] using hj⟩
  have hCa := fun {gm gn nn k c : Nat} {A : Option Addr} {L : List S4} {m : Nat × Nat → Bool} {H : List Chunk} (hs : X.Sublist H) (h1 : L.length = k) (h2 : nn + nx a < 1000000000) (h3 : k + pl a ≤ 1000000) (h4 : k ≤ c) => hEa gm gn nn k c A L m H hs h1 h2 h3 h4
  have hCb := fun {gm gn nn k c : Nat} {A : Option Addr} {L : List S4} {m : Nat × Nat → Bool} {H : List Chunk} (hs : X.Sublist H) (h1 : L.length = k) (h2 : nn + nx b < 1000000000) (h3 : k + pl b ≤ 1000000) (h4 : k ≤ c) => hEb gm gn nn k c A L m H hs h1 h2 h3 h4
  show TCall Tryd.prog w0 B 40 #[.pointer (some ⟨gm, 0, none⟩), .agg #[.int .i64 3, wv S4.zero.a, wv S4.zero.b, wv S4.zero.c, wv S4.zero.d, .slice (some ⟨ga, oa, none⟩) 2 c0]] _ _
  refine TCall_intro (args := [_, _]) Tryd.func40 rfl Tryd.ntmps40 (Nat.le_of_ble_eq_true rfl) ?_
  refine T_seq ?_
  refine T_region ?_
  refine TL_cons rfl (TO_box rfl rfl fun g2001 => ?_)
  refine TL_cons rfl (TO_alloc rfl zr97 fun g2002 => ?_)
  refine TL_nil ?_
  refine T_seq ?_
  refine T_seq ?_
  refine T_region ?_
  refine TL_p (PV_fieldAddr (D := 0) Tryd.underlying30 rfl sz24 (by decide) rfl rfl) ?_
  refine TL_p (PV_load Tryd.underlying24 rfl rfl (Rd.at 1 rfl rfl)) ?_
  refine TL_nil ?_
  refine T_block ?_
  refine T_seq ?_
  refine T_region ?_
  refine TL_p (PV_bin rfl rfl bin_eql) ?_
  refine TL_p (PV_assign rfl) ?_
  refine TL_nil ?_
  refine T_else rfl (by rfl) ?_
  refine T_seq ?_
  refine T_region ?_
  refine TL_p (PV_bin rfl rfl bin_eql) ?_
  refine TL_p (PV_assign rfl) ?_
  refine TL_nil ?_
  refine T_else rfl (by rfl) ?_
  refine T_seq ?_
  refine T_region ?_
  refine TL_p (PV_bin rfl rfl bin_eql) ?_
  refine TL_p (PV_assign rfl) ?_
  refine TL_nil ?_
  refine T_then rfl (by rfl) ?_
  refine T_seq ?_
  refine ?L21
  case L21 =>
    refine T_midR (fun f h => ∃ (g6 g7 c' n1 n2 : Nat) (A' : Option Addr) (m1 m2 : Nat × Nat → Bool) (vfa vla vfb vlb : Value) (Na Nb : List Chunk) (cs' : List Value), FrSub [(0, .pointer (some ⟨gm, 0, none⟩)), (4, .pointer (some ⟨g2002, 0, none⟩)), (8, .pointer (some ⟨g6, 0, none⟩)), (9, .pointer (some ⟨g7, 0, none⟩))] f ∧
      Has h (.own g6 3 [vfa, vla, .bool (nul a)] :: .own g7 3 [vfb, vlb, .bool (nul b)] :: mkC gm (.slice A' (k + pl a + pl b) c') gn :: .sl (.slice A' (k + pl a + pl b) c') 4 (k + pl a + pl b) cs' :: .ob gn (SetP n2 m2) :: .own g2002 3 [.map none, .map none, .bool false] :: ((H ++ Na) ++ Nb)) ∧
      cs' = setCells (L ++ lvs a ++ lvs b) ∧ k + pl a + pl b ≤ c' ∧ n1 ≤ nn + nx a ∧ n2 ≤ n1 + nx b ∧ (∀ x y, kI.ok x → kI.ok y → m1 (x, y) = (m (x, y) || nxtP a k x y)) ∧ (∀ x y, kI.ok x → kI.ok y → m2 (x, y) = (m1 (x, y) || nxtP b (k + pl a) x y)) ∧
      MI (WH w0 B Na) vfa (pl a) (fstP a k) ∧ MI (WH w0 B Na) vla (pl a) (lstP a k) ∧ MI (WH w0 B Nb) vfb (pl b) (fstP b (k + pl a)) ∧ MI (WH w0 B Nb) vlb (pl b) (lstP b (k + pl a))) ?_ ?_
    · refine T_drawn (WH w0 B (.own g2001 6 [.int .i64 3, wv S4.zero.a, wv S4.zero.b, wv S4.zero.c, wv S4.zero.d, .slice (some ⟨ga, oa, none⟩) 2 c0] :: H)) mixed (by intro w h; first | exact h | exact trivial | exact h.sub (by (repeat (first | exact Sb.r | exact Sb.ar | exact Sb.al | apply Sb.c | apply Sb.d | refine Sb.t ?_)); done)) ?_
      refine TA_p 0 rfl (by kernel_rfl) (PV_move rfl) ?_
      refine TA_p 1 rfl (by kernel_rfl) (PV_fieldAddr (D := 5) Tryd.underlying30 rfl sz28 (by decide) rfl rfl) ?_
      refine TA_p 2 rfl (by kernel_rfl) (PV_load Tryd.underlying28 rfl rfl (Rd.at 0 rfl rfl)) ?_
      refine TA_p 3 rfl (by kernel_rfl) (PV_indexAddr (i := 0) Tryd.underlying28 sz30 rfl rfl rfl (by first | omega | decide | assumption)) ?_
      refine TA_p 4 rfl (by kernel_rfl) (PV_loadAt Tryd.underlying30 rfl sz30 rfl (RdsK.mono hk0 (fun w h => h.sub (by (repeat (first | exact Sb.r | exact Sb.ar | exact Sb.al | apply Sb.d | refine Sb.t ?_)); done)))) ?_
      refine TA_p 6 rfl (by kernel_rfl) (PV_move rfl) ?_
      refine TA_p 7 rfl (by kernel_rfl) (PV_fieldAddr (D := 5) Tryd.underlying30 rfl sz28 (by decide) rfl rfl) ?_
      refine TA_p 8 rfl (by kernel_rfl) (PV_load Tryd.underlying28 rfl rfl (Rd.at 0 rfl rfl)) ?_
      refine TA_p 9 rfl (by kernel_rfl) (PV_indexAddr (i := 1) Tryd.underlying28 sz30 rfl rfl rfl (by first | omega | decide | assumption)) ?_
      refine TA_p 10 rfl (by kernel_rfl) (PV_loadAt Tryd.underlying30 rfl sz30 rfl (RdsK.mono hk1 (fun w h => h.sub (by (repeat (first | exact Sb.r | exact Sb.ar | exact Sb.al | apply Sb.d | refine Sb.t ?_)); done)))) ?_
      refine TA_hardG (rs := [5, 12, 13]) (by kernel_rfl) (by decide) ?_
      refine List.forall_mem_cons.2 ⟨?w3002q42_5, List.forall_mem_cons.2 ⟨?w3002q42_12, List.forall_mem_cons.2 ⟨?w3002q42_13, by simp⟩⟩⟩
      refine ⟨_, rfl, Or.inl rfl, TO_perm ((perm_pick (i := 2) rfl).trans (List.Perm.cons _ ((perm_pick (i := 2) rfl).trans (List.Perm.cons _ ((perm_pick (i := 2) rfl).trans (List.Perm.cons _ (List.Perm.refl _))))))) (TO_call0 call40 rfl rfl (hCa ?sd3006q42_0 ?sd3006q42_1 ?sd3006q42_2 ?sd3006q42_3 ?sd3006q42_4) ?_)⟩
      case sd3006q42_0 => exact hsub.trans (by repeat (first | exact Sb.r | exact Sb.ar | exact Sb.al | apply Sb.d | refine Sb.t ?_))
      case sd3006q42_1 => omega
      case sd3006q42_2 => omega
      case sd3006q42_3 => omega
      case sd3006q42_4 => exact hc
      rintro v88_3007 H88_3007 ⟨A'_3007, c'_3007, nn'_3007, m'_3007, vf_3007, vl_3007, N_3007, k'_3007, cs'_3007, rfl, rfl, rfl, h_3007_0, h_3007_1, h_3007_2, h_3007_3, h_3007_4, rfl⟩
      refine ⟨fun _ h => h.sub (by (repeat (first | exact Sb.r | exact Sb.ar | exact Sb.al | apply Sb.d | refine Sb.t ?_)); done), ?_⟩
      refine TA_hardG (rs := [11, 12, 13]) (by kernel_rfl) (by decide) ?_
      refine List.forall_mem_cons.2 ⟨?w3008q42_11, List.forall_mem_cons.2 ⟨?w3008q42_12, List.forall_mem_cons.2 ⟨?w3008q42_13, by simp⟩⟩⟩
      refine ⟨_, rfl, Or.inl rfl, (TO_call0 call40 rfl rfl (hCb ?sd3012q42_0 ?sd3012q42_1 ?sd3012q42_2 ?sd3012q42_3 ?sd3012q42_4) ?_)⟩
      case sd3012q42_0 => exact hsub.trans (by repeat (first | exact Sb.r | exact Sb.ar | exact Sb.al | apply Sb.d | refine Sb.t ?_))
      case sd3012q42_1 => (rw [List.length_append, lvs_len]; omega)
      case sd3012q42_2 => omega
      case sd3012q42_3 => omega
      case sd3012q42_4 => exact h_3007_0
      rintro v94_3013 H94_3013 ⟨A'_3013, c'_3013, nn'_3013, m'_3013, vf_3013, vl_3013, N_3013, k'_3013, cs'_3013, rfl, rfl, rfl, h_3013_0, h_3013_1, h_3013_2, h_3013_3, h_3013_4, rfl⟩
      refine ⟨fun _ h => h.sub (by (repeat (first | exact Sb.r | exact Sb.ar | exact Sb.al | apply Sb.c | apply Sb.d | refine Sb.t ?_)); done), ?_⟩
      refine TA_hardG (rs := [12, 13]) (by kernel_rfl) (by decide) ?_
      refine List.forall_mem_cons.2 ⟨?w3014q42_12, List.forall_mem_cons.2 ⟨?w3014q42_13, by simp⟩⟩
      refine ⟨_, rfl, Or.inl rfl, (TO_alloc rfl zr97 fun g3015 => ?_)⟩
      refine ⟨fun _ h => h.sub (by (repeat (first | exact Sb.r | exact Sb.ar | exact Sb.al | apply Sb.c | apply Sb.d | refine Sb.t ?_)); done), ?_⟩
      refine TA_one 13 (by kernel_rfl) rfl rfl (TO_alloc rfl zr97 fun g3017 => ?_)
      refine ⟨fun _ h => h.sub (by (repeat (first | exact Sb.r | exact Sb.ar | exact Sb.al | apply Sb.c | apply Sb.d | refine Sb.t ?_)); done), ?_⟩
      refine TA_one 14 (by kernel_rfl) rfl rfl (TO_store 1 rfl rfl rfl sz97 rfl rfl rfl (List.forall_mem_cons.2 ⟨by first | rfl | exact MI_one (by assumption), List.forall_mem_cons.2 ⟨by first | rfl | exact MI_one (by assumption), List.forall_mem_cons.2 ⟨by first | rfl | exact MI_one (by assumption), by simp⟩⟩⟩) (by first | exact Nat.le_of_ble_eq_true rfl | (simp; done) | (simp; omega) | omega) ?_)
      refine ⟨fun _ h => h.sub (by (repeat (first | exact Sb.r | exact Sb.ar | exact Sb.al | apply Sb.c | apply Sb.d | refine Sb.t ?_)); done), ?_⟩
      refine TA_one 15 (by kernel_rfl) rfl rfl (TO_store 0 rfl rfl rfl sz97 rfl rfl rfl (List.forall_mem_cons.2 ⟨by first | rfl | exact MI_one (by assumption), List.forall_mem_cons.2 ⟨by first | rfl | exact MI_one (by assumption), List.forall_mem_cons.2 ⟨by first | rfl | exact MI_one (by assumption), by simp⟩⟩⟩) (by first | exact Nat.le_of_ble_eq_true rfl | (simp; done) | (simp; omega) | omega) ?_)
      refine ⟨fun _ h => h.sub (by (repeat (first | exact Sb.r | exact Sb.ar | exact Sb.al | apply Sb.c | apply Sb.d | refine Sb.t ?_)); done), ?_⟩
      refine TA_done (by kernel_rfl) ?_
      refine ?L31
      rotate_left 1
      refine ⟨_, rfl, Or.inl rfl, (TO_alloc rfl zr97 fun g3016 => ?_)⟩
      refine ⟨fun _ h => h.sub (by (repeat (first | exact Sb.r | exact Sb.ar | exact Sb.al | apply Sb.c | apply Sb.d | refine Sb.t ?_)); done), ?_⟩
      refine TA_one 12 (by kernel_rfl) rfl rfl (TO_alloc rfl zr97 fun g3020 => ?_)
      refine ⟨fun _ h => h.sub (by (repeat (first | exact Sb.r | exact Sb.ar | exact Sb.al | apply Sb.c | apply Sb.d | refine Sb.t ?_)); done), ?_⟩
      refine TA_one 14 (by kernel_rfl) rfl rfl (TO_store 0 rfl rfl rfl sz97 rfl rfl rfl (List.forall_mem_cons.2 ⟨by first | rfl | exact MI_one (by assumption), List.forall_mem_cons.2 ⟨by first | rfl | exact MI_one (by assumption), List.forall_mem_cons.2 ⟨by first | rfl | exact MI_one (by assumption), by simp⟩⟩⟩) (by first | exact Nat.le_of_ble_eq_true rfl | (simp; done) | (simp; omega) | omega) ?_)
      refine ⟨fun _ h => h.sub (by (repeat (first | exact Sb.r | exact Sb.ar | exact Sb.al | apply Sb.c | apply Sb.d | refine Sb.t ?_)); done), ?_⟩
      refine TA_one 15 (by kernel_rfl) rfl rfl (TO_store 1 rfl rfl rfl sz97 rfl rfl rfl (List.forall_mem_cons.2 ⟨by first | rfl | exact MI_one (by assumption), List.forall_mem_cons.2 ⟨by first | rfl | exact MI_one (by assumption), List.forall_mem_cons.2 ⟨by first | rfl | exact MI_one (by assumption), by simp⟩⟩⟩) (by first | exact Nat.le_of_ble_eq_true rfl | (simp; done) | (simp; omega) | omega) ?_)
      refine ⟨fun _ h => h.sub (by (repeat (first | exact Sb.r | exact Sb.ar | exact Sb.al | apply Sb.c | apply Sb.d | refine Sb.t ?_)); done), ?_⟩
      refine TA_done (by kernel_rfl) ?_
      refine ?L32
      rotate_left 1
      refine ⟨_, rfl, Or.inl rfl, (TO_alloc rfl zr97 fun g3010 => ?_)⟩
      refine ⟨fun _ h => h.sub (by (repeat (first | exact Sb.r | exact Sb.ar | exact Sb.al | apply Sb.d | refine Sb.t ?_)); done), ?_⟩
      refine TA_hardG (rs := [11, 13]) (by kernel_rfl) (by decide) ?_
      refine List.forall_mem_cons.2 ⟨?w3023q42_11, List.forall_mem_cons.2 ⟨?w3023q42_13, by simp⟩⟩
      refine ⟨_, rfl, Or.inl rfl, TO_perm ((perm_pick (i := 1) rfl).trans (List.Perm.cons _ ((perm_pick (i := 1) rfl).trans (List.Perm.cons _ ((perm_pick (i := 1) rfl).trans (List.Perm.cons _ (List.Perm.refl _))))))) (TO_call0 call40 rfl rfl (hCb ?sd3026q42_0 ?sd3026q42_1 ?sd3026q42_2 ?sd3026q42_3 ?sd3026q42_4) ?_)⟩
      case sd3026q42_0 => exact hsub.trans (by repeat (first | exact Sb.r | exact Sb.ar | exact Sb.al | apply Sb.d | refine Sb.t ?_))
      case sd3026q42_1 => (rw [List.length_append, lvs_len]; omega)
      case sd3026q42_2 => omega
      case sd3026q42_3 => omega
      case sd3026q42_4 => exact h_3007_0
      rintro v94_3027 H94_3027 ⟨A'_3027, c'_3027, nn'_3027, m'_3027, vf_3027, vl_3027, N_3027, k'_3027, cs'_3027, rfl, rfl, rfl, h_3027_0, h_3027_1, h_3027_2, h_3027_3, h_3027_4, rfl⟩
      refine ⟨fun _ h => h.sub (by (repeat (first | exact Sb.r | exact Sb.ar | exact Sb.al | apply Sb.c | apply Sb.d | refine Sb.t ?_)); done), ?_⟩
      refine TA_one 13 (by kernel_rfl) rfl rfl (TO_alloc rfl zr97 fun g3028 => ?_)
      refine ⟨fun _ h => h.sub (by (repeat (first | exact Sb.r | exact Sb.ar | exact Sb.al | apply Sb.c | apply Sb.d | refine Sb.t ?_)); done), ?_⟩
      refine TA_one 14 (by kernel_rfl) rfl rfl (TO_store 4 rfl rfl rfl sz97 rfl rfl rfl (List.forall_mem_cons.2 ⟨by first | rfl | exact MI_one (by assumption), List.forall_mem_cons.2 ⟨by first | rfl | exact MI_one (by assumption), List.forall_mem_cons.2 ⟨by first | rfl | exact MI_one (by assumption), by simp⟩⟩⟩) (by first | exact Nat.le_of_ble_eq_true rfl | (simp; done) | (simp; omega) | omega) ?_)
      refine ⟨fun _ h => h.sub (by (repeat (first | exact Sb.r | exact Sb.ar | exact Sb.al | apply Sb.c | apply Sb.d | refine Sb.t ?_)); done), ?_⟩
      refine TA_one 15 (by kernel_rfl) rfl rfl (TO_store 0 rfl rfl rfl sz97 rfl rfl rfl (List.forall_mem_cons.2 ⟨by first | rfl | exact MI_one (by assumption), List.forall_mem_cons.2 ⟨by first | rfl | exact MI_one (by assumption), List.forall_mem_cons.2 ⟨by first | rfl | exact MI_one (by assumption), by simp⟩⟩⟩) (by first | exact Nat.le_of_ble_eq_true rfl | (simp; done) | (simp; omega) | omega) ?_)
      refine ⟨fun _ h => h.sub (by (repeat (first | exact Sb.r | exact Sb.ar | exact Sb.al | apply Sb.c | apply Sb.d | refine Sb.t ?_)); done), ?_⟩
      refine TA_done (by kernel_rfl) ?_
      refine ?L33
      rotate_left 1
      refine ⟨_, rfl, Or.inl rfl, (TO_alloc rfl zr97 fun g3025 => ?_)⟩
      refine ⟨fun _ h => h.sub (by (repeat (first | exact Sb.r | exact Sb.ar | exact Sb.al | apply Sb.d | refine Sb.t ?_)); done), ?_⟩
      refine TA_perm ((perm_pick (i := 2) rfl).trans (List.Perm.cons _ ((perm_pick (i := 2) rfl).trans (List.Perm.cons _ ((perm_pick (i := 2) rfl).trans (List.Perm.cons _ (List.Perm.refl _))))))) ?_
      refine TA_one 11 (by kernel_rfl) rfl rfl (TO_call0 call40 rfl rfl (hCb ?sd3032q42_0 ?sd3032q42_1 ?sd3032q42_2 ?sd3032q42_3 ?sd3032q42_4) ?_)
      case sd3032q42_0 => exact hsub.trans (by repeat (first | exact Sb.r | exact Sb.ar | exact Sb.al | apply Sb.d | refine Sb.t ?_))
      case sd3032q42_1 => (rw [List.length_append, lvs_len]; omega)
      case sd3032q42_2 => omega
      case sd3032q42_3 => omega
      case sd3032q42_4 => exact h_3007_0
      rintro v94_3033 H94_3033 ⟨A'_3033, c'_3033, nn'_3033, m'_3033, vf_3033, vl_3033, N_3033, k'_3033, cs'_3033, rfl, rfl, rfl, h_3033_0, h_3033_1, h_3033_2, h_3033_3, h_3033_4, rfl⟩
      refine ⟨fun _ h => h.sub (by (repeat (first | exact Sb.r | exact Sb.ar | exact Sb.al | apply Sb.c | apply Sb.d | refine Sb.t ?_)); done), ?_⟩
      refine TA_one 14 (by kernel_rfl) rfl rfl (TO_store 4 rfl rfl rfl sz97 rfl rfl rfl (List.forall_mem_cons.2 ⟨by first | rfl | exact MI_one (by assumption), List.forall_mem_cons.2 ⟨by first | rfl | exact MI_one (by assumption), List.forall_mem_cons.2 ⟨by first | rfl | exact MI_one (by assumption), by simp⟩⟩⟩) (by first | exact Nat.le_of_ble_eq_true rfl | (simp; done) | (simp; omega) | omega) ?_)
      refine ⟨fun _ h => h.sub (by (repeat (first | exact Sb.r | exact Sb.ar | exact Sb.al | apply Sb.c | apply Sb.d | refine Sb.t ?_)); done), ?_⟩
      refine TA_one 15 (by kernel_rfl) rfl rfl (TO_store 3 rfl rfl rfl sz97 rfl rfl rfl (List.forall_mem_cons.2 ⟨by first | rfl | exact MI_one (by assumption), List.forall_mem_cons.2 ⟨by first | rfl | exact MI_one (by assumption), List.forall_mem_cons.2 ⟨by first | rfl | exact MI_one (by assumption), by simp⟩⟩⟩) (by first | exact Nat.le_of_ble_eq_true rfl | (simp; done) | (simp; omega) | omega) ?_)
      refine ⟨fun _ h => h.sub (by (repeat (first | exact Sb.r | exact Sb.ar | exact Sb.al | apply Sb.c | apply Sb.d | refine Sb.t ?_)); done), ?_⟩
      refine TA_done (by kernel_rfl) ?_
      refine ?L34
      rotate_left 1
      refine ⟨_, rfl, Or.inl rfl, (TO_alloc rfl zr97 fun g3011 => ?_)⟩
      refine ⟨fun _ h => h.sub (by (repeat (first | exact Sb.r | exact Sb.ar | exact Sb.al | apply Sb.d | refine Sb.t ?_)); done), ?_⟩
      refine TA_hardG (rs := [11, 12]) (by kernel_rfl) (by decide) ?_
      refine List.forall_mem_cons.2 ⟨?w3036q42_11, List.forall_mem_cons.2 ⟨?w3036q42_12, by simp⟩⟩
      refine ⟨_, rfl, Or.inl rfl, TO_perm ((perm_pick (i := 1) rfl).trans (List.Perm.cons _ ((perm_pick (i := 1) rfl).trans (List.Perm.cons _ ((perm_pick (i := 1) rfl).trans (List.Perm.cons _ (List.Perm.refl _))))))) (TO_call0 call40 rfl rfl (hCb ?sd3039q42_0 ?sd3039q42_1 ?sd3039q42_2 ?sd3039q42_3 ?sd3039q42_4) ?_)⟩
      case sd3039q42_0 => exact hsub.trans (by repeat (first | exact Sb.r | exact Sb.ar | exact Sb.al | apply Sb.d | refine Sb.t ?_))
      case sd3039q42_1 => (rw [List.length_append, lvs_len]; omega)
      case sd3039q42_2 => omega
      case sd3039q42_3 => omega
      case sd3039q42_4 => exact h_3007_0
      rintro v94_3040 H94_3040 ⟨A'_3040, c'_3040, nn'_3040, m'_3040, vf_3040, vl_3040, N_3040, k'_3040, cs'_3040, rfl, rfl, rfl, h_3040_0, h_3040_1, h_3040_2, h_3040_3, h_3040_4, rfl⟩
      refine ⟨fun _ h => h.sub (by (repeat (first | exact Sb.r | exact Sb.ar | exact Sb.al | apply Sb.c | apply Sb.d | refine Sb.t ?_)); done), ?_⟩
      refine TA_one 12 (by kernel_rfl) rfl rfl (TO_alloc rfl zr97 fun g3041 => ?_)
      refine ⟨fun _ h => h.sub (by (repeat (first | exact Sb.r | exact Sb.ar | exact Sb.al | apply Sb.c | apply Sb.d | refine Sb.t ?_)); done), ?_⟩
      refine TA_one 14 (by kernel_rfl) rfl rfl (TO_store 0 rfl rfl rfl sz97 rfl rfl rfl (List.forall_mem_cons.2 ⟨by first | rfl | exact MI_one (by assumption), List.forall_mem_cons.2 ⟨by first | rfl | exact MI_one (by assumption), List.forall_mem_cons.2 ⟨by first | rfl | exact MI_one (by assumption), by simp⟩⟩⟩) (by first | exact Nat.le_of_ble_eq_true rfl | (simp; done) | (simp; omega) | omega) ?_)
      refine ⟨fun _ h => h.sub (by (repeat (first | exact Sb.r | exact Sb.ar | exact Sb.al | apply Sb.c | apply Sb.d | refine Sb.t ?_)); done), ?_⟩
      refine TA_one 15 (by kernel_rfl) rfl rfl (TO_store 4 rfl rfl rfl sz97 rfl rfl rfl (List.forall_mem_cons.2 ⟨by first | rfl | exact MI_one (by assumption), List.forall_mem_cons.2 ⟨by first | rfl | exact MI_one (by assumption), List.forall_mem_cons.2 ⟨by first | rfl | exact MI_one (by assumption), by simp⟩⟩⟩) (by first | exact Nat.le_of_ble_eq_true rfl | (simp; done) | (simp; omega) | omega) ?_)
      refine ⟨fun _ h => h.sub (by (repeat (first | exact Sb.r | exact Sb.ar | exact Sb.al | apply Sb.c | apply Sb.d | refine Sb.t ?_)); done), ?_⟩
      refine TA_done (by kernel_rfl) ?_
      refine ?L35
      rotate_left 1
      refine ⟨_, rfl, Or.inl rfl, (TO_alloc rfl zr97 fun g3038 => ?_)⟩
      refine ⟨fun _ h => h.sub (by (repeat (first | exact Sb.r | exact Sb.ar | exact Sb.al | apply Sb.d | refine Sb.t ?_)); done), ?_⟩
      refine TA_perm ((perm_pick (i := 2) rfl).trans (List.Perm.cons _ ((perm_pick (i := 2) rfl).trans (List.Perm.cons _ ((perm_pick (i := 2) rfl).trans (List.Perm.cons _ (List.Perm.refl _))))))) ?_
      refine TA_one 11 (by kernel_rfl) rfl rfl (TO_call0 call40 rfl rfl (hCb ?sd3045q42_0 ?sd3045q42_1 ?sd3045q42_2 ?sd3045q42_3 ?sd3045q42_4) ?_)
      case sd3045q42_0 => exact hsub.trans (by repeat (first | exact Sb.r | exact Sb.ar | exact Sb.al | apply Sb.d | refine Sb.t ?_))
      case sd3045q42_1 => (rw [List.length_append, lvs_len]; omega)
      case sd3045q42_2 => omega
      case sd3045q42_3 => omega
      case sd3045q42_4 => exact h_3007_0
      rintro v94_3046 H94_3046 ⟨A'_3046, c'_3046, nn'_3046, m'_3046, vf_3046, vl_3046, N_3046, k'_3046, cs'_3046, rfl, rfl, rfl, h_3046_0, h_3046_1, h_3046_2, h_3046_3, h_3046_4, rfl⟩
      refine ⟨fun _ h => h.sub (by (repeat (first | exact Sb.r | exact Sb.ar | exact Sb.al | apply Sb.c | apply Sb.d | refine Sb.t ?_)); done), ?_⟩
      refine TA_one 14 (by kernel_rfl) rfl rfl (TO_store 3 rfl rfl rfl sz97 rfl rfl rfl (List.forall_mem_cons.2 ⟨by first | rfl | exact MI_one (by assumption), List.forall_mem_cons.2 ⟨by first | rfl | exact MI_one (by assumption), List.forall_mem_cons.2 ⟨by first | rfl | exact MI_one (by assumption), by simp⟩⟩⟩) (by first | exact Nat.le_of_ble_eq_true rfl | (simp; done) | (simp; omega) | omega) ?_)
      refine ⟨fun _ h => h.sub (by (repeat (first | exact Sb.r | exact Sb.ar | exact Sb.al | apply Sb.c | apply Sb.d | refine Sb.t ?_)); done), ?_⟩
      refine TA_one 15 (by kernel_rfl) rfl rfl (TO_store 4 rfl rfl rfl sz97 rfl rfl rfl (List.forall_mem_cons.2 ⟨by first | rfl | exact MI_one (by assumption), List.forall_mem_cons.2 ⟨by first | rfl | exact MI_one (by assumption), List.forall_mem_cons.2 ⟨by first | rfl | exact MI_one (by assumption), by simp⟩⟩⟩) (by first | exact Nat.le_of_ble_eq_true rfl | (simp; done) | (simp; omega) | omega) ?_)
      refine ⟨fun _ h => h.sub (by (repeat (first | exact Sb.r | exact Sb.ar | exact Sb.al | apply Sb.c | apply Sb.d | refine Sb.t ?_)); done), ?_⟩
      refine TA_done (by kernel_rfl) ?_
      refine ?L36
      rotate_left 1
      refine ⟨_, rfl, Or.inl rfl, (TO_alloc rfl zr97 fun g3004 => ?_)⟩
      refine ⟨fun _ h => h.sub (by (repeat (first | exact Sb.r | exact Sb.ar | exact Sb.al | apply Sb.c | apply Sb.d | refine Sb.t ?_)); done), ?_⟩
      refine TA_hardG (rs := [5, 13]) (by kernel_rfl) (by decide) ?_
      refine List.forall_mem_cons.2 ⟨?w3049q42_5, List.forall_mem_cons.2 ⟨?w3049q42_13, by simp⟩⟩
      refine ⟨_, rfl, Or.inl rfl, TO_perm ((perm_pick (i := 3) rfl).trans (List.Perm.cons _ ((perm_pick (i := 3) rfl).trans (List.Perm.cons _ ((perm_pick (i := 3) rfl).trans (List.Perm.cons _ (List.Perm.refl _))))))) (TO_call0 call40 rfl rfl (hCa ?sd3052q42_0 ?sd3052q42_1 ?sd3052q42_2 ?sd3052q42_3 ?sd3052q42_4) ?_)⟩
      case sd3052q42_0 => exact hsub.trans (by repeat (first | exact Sb.r | exact Sb.ar | exact Sb.al | apply Sb.d | refine Sb.t ?_))
      case sd3052q42_1 => omega
      case sd3052q42_2 => omega
      case sd3052q42_3 => omega
      case sd3052q42_4 => exact hc
      rintro v88_3053 H88_3053 ⟨A'_3053, c'_3053, nn'_3053, m'_3053, vf_3053, vl_3053, N_3053, k'_3053, cs'_3053, rfl, rfl, rfl, h_3053_0, h_3053_1, h_3053_2, h_3053_3, h_3053_4, rfl⟩
      refine ⟨fun _ h => h.sub (by (repeat (first | exact Sb.r | exact Sb.ar | exact Sb.al | apply Sb.d | refine Sb.t ?_)); done), ?_⟩
      refine TA_hardG (rs := [11, 13]) (by kernel_rfl) (by decide) ?_
      refine List.forall_mem_cons.2 ⟨?w3054q42_11, List.forall_mem_cons.2 ⟨?w3054q42_13, by simp⟩⟩
      refine ⟨_, rfl, Or.inl rfl, (TO_call0 call40 rfl rfl (hCb ?sd3057q42_0 ?sd3057q42_1 ?sd3057q42_2 ?sd3057q42_3 ?sd3057q42_4) ?_)⟩
      case sd3057q42_0 => exact hsub.trans (by repeat (first | exact Sb.r | exact Sb.ar | exact Sb.al | apply Sb.d | refine Sb.t ?_))
      case sd3057q42_1 => (rw [List.length_append, lvs_len]; omega)
      case sd3057q42_2 => omega
      case sd3057q42_3 => omega
      case sd3057q42_4 => exact h_3053_0
      rintro v94_3058 H94_3058 ⟨A'_3058, c'_3058, nn'_3058, m'_3058, vf_3058, vl_3058, N_3058, k'_3058, cs'_3058, rfl, rfl, rfl, h_3058_0, h_3058_1, h_3058_2, h_3058_3, h_3058_4, rfl⟩
      refine ⟨fun _ h => h.sub (by (repeat (first | exact Sb.r | exact Sb.ar | exact Sb.al | apply Sb.c | apply Sb.d | refine Sb.t ?_)); done), ?_⟩
      refine TA_one 13 (by kernel_rfl) rfl rfl (TO_alloc rfl zr97 fun g3059 => ?_)
      refine ⟨fun _ h => h.sub (by (repeat (first | exact Sb.r | exact Sb.ar | exact Sb.al | apply Sb.c | apply Sb.d | refine Sb.t ?_)); done), ?_⟩
      refine TA_one 14 (by kernel_rfl) rfl rfl (TO_store 4 rfl rfl rfl sz97 rfl rfl rfl (List.forall_mem_cons.2 ⟨by first | rfl | exact MI_one (by assumption), List.forall_mem_cons.2 ⟨by first | rfl | exact MI_one (by assumption), List.forall_mem_cons.2 ⟨by first | rfl | exact MI_one (by assumption), by simp⟩⟩⟩) (by first | exact Nat.le_of_ble_eq_true rfl | (simp; done) | (simp; omega) | omega) ?_)
      refine ⟨fun _ h => h.sub (by (repeat (first | exact Sb.r | exact Sb.ar | exact Sb.al | apply Sb.c | apply Sb.d | refine Sb.t ?_)); done), ?_⟩
      refine TA_one 15 (by kernel_rfl) rfl rfl (TO_store 0 rfl rfl rfl sz97 rfl rfl rfl (List.forall_mem_cons.2 ⟨by first | rfl | exact MI_one (by assumption), List.forall_mem_cons.2 ⟨by first | rfl | exact MI_one (by assumption), List.forall_mem_cons.2 ⟨by first | rfl | exact MI_one (by assumption), by simp⟩⟩⟩) (by first | exact Nat.le_of_ble_eq_true rfl | (simp; done) | (simp; omega) | omega) ?_)
      refine ⟨fun _ h => h.sub (by (repeat (first | exact Sb.r | exact Sb.ar | exact Sb.al | apply Sb.c | apply Sb.d | refine Sb.t ?_)); done), ?_⟩
      refine TA_done (by kernel_rfl) ?_
      refine ?L37
      rotate_left 1
      refine ⟨_, rfl, Or.inl rfl, (TO_alloc rfl zr97 fun g3056 => ?_)⟩
      refine ⟨fun _ h => h.sub (by (repeat (first | exact Sb.r | exact Sb.ar | exact Sb.al | apply Sb.d | refine Sb.t ?_)); done), ?_⟩
      refine TA_perm ((perm_pick (i := 1) rfl).trans (List.Perm.cons _ ((perm_pick (i := 1) rfl).trans (List.Perm.cons _ ((perm_pick (i := 1) rfl).trans (List.Perm.cons _ (List.Perm.refl _))))))) ?_
      refine TA_one 11 (by kernel_rfl) rfl rfl (TO_call0 call40 rfl rfl (hCb ?sd3063q42_0 ?sd3063q42_1 ?sd3063q42_2 ?sd3063q42_3 ?sd3063q42_4) ?_)
      case sd3063q42_0 => exact hsub.trans (by repeat (first | exact Sb.r | exact Sb.ar | exact Sb.al | apply Sb.d | refine Sb.t ?_))
      case sd3063q42_1 => (rw [List.length_append, lvs_len]; omega)
      case sd3063q42_2 => omega
      case sd3063q42_3 => omega
      case sd3063q42_4 => exact h_3053_0
      rintro v94_3064 H94_3064 ⟨A'_3064, c'_3064, nn'_3064, m'_3064, vf_3064, vl_3064, N_3064, k'_3064, cs'_3064, rfl, rfl, rfl, h_3064_0, h_3064_1, h_3064_2, h_3064_3, h_3064_4, rfl⟩
      refine ⟨fun _ h => h.sub (by (repeat (first | exact Sb.r | exact Sb.ar | exact Sb.al | apply Sb.c | apply Sb.d | refine Sb.t ?_)); done), ?_⟩
      refine TA_one 14 (by kernel_rfl) rfl rfl (TO_store 4 rfl rfl rfl sz97 rfl rfl rfl (List.forall_mem_cons.2 ⟨by first | rfl | exact MI_one (by assumption), List.forall_mem_cons.2 ⟨by first | rfl | exact MI_one (by assumption), List.forall_mem_cons.2 ⟨by first | rfl | exact MI_one (by assumption), by simp⟩⟩⟩) (by first | exact Nat.le_of_ble_eq_true rfl | (simp; done) | (simp; omega) | omega) ?_)
      refine ⟨fun _ h => h.sub (by (repeat (first | exact Sb.r | exact Sb.ar | exact Sb.al | apply Sb.c | apply Sb.d | refine Sb.t ?_)); done), ?_⟩
      refine TA_one 15 (by kernel_rfl) rfl rfl (TO_store 3 rfl rfl rfl sz97 rfl rfl rfl (List.forall_mem_cons.2 ⟨by first | rfl | exact MI_one (by assumption), List.forall_mem_cons.2 ⟨by first | rfl | exact MI_one (by assumption), List.forall_mem_cons.2 ⟨by first | rfl | exact MI_one (by assumption), by simp⟩⟩⟩) (by first | exact Nat.le_of_ble_eq_true rfl | (simp; done) | (simp; omega) | omega) ?_)
      refine ⟨fun _ h => h.sub (by (repeat (first | exact Sb.r | exact Sb.ar | exact Sb.al | apply Sb.c | apply Sb.d | refine Sb.t ?_)); done), ?_⟩
      refine TA_done (by kernel_rfl) ?_
      refine ?L38
      rotate_left 1
      refine ⟨_, rfl, Or.inl rfl, (TO_alloc rfl zr97 fun g3051 => ?_)⟩
      refine ⟨fun _ h => h.sub (by (repeat (first | exact Sb.r | exact Sb.ar | exact Sb.al | apply Sb.c | apply Sb.d | refine Sb.t ?_)); done), ?_⟩
      refine TA_perm ((perm_pick (i := 4) rfl).trans (List.Perm.cons _ ((perm_pick (i := 4) rfl).trans (List.Perm.cons _ ((perm_pick (i := 4) rfl).trans (List.Perm.cons _ (List.Perm.refl _))))))) ?_
      refine TA_one 5 (by kernel_rfl) rfl rfl (TO_call0 call40 rfl rfl (hCa ?sd3068q42_0 ?sd3068q42_1 ?sd3068q42_2 ?sd3068q42_3 ?sd3068q42_4) ?_)
      case sd3068q42_0 => exact hsub.trans (by repeat (first | exact Sb.r | exact Sb.ar | exact Sb.al | apply Sb.d | refine Sb.t ?_))
      case sd3068q42_1 => omega
      case sd3068q42_2 => omega
      case sd3068q42_3 => omega
      case sd3068q42_4 => exact hc
      rintro v88_3069 H88_3069 ⟨A'_3069, c'_3069, nn'_3069, m'_3069, vf_3069, vl_3069, N_3069, k'_3069, cs'_3069, rfl, rfl, rfl, h_3069_0, h_3069_1, h_3069_2, h_3069_3, h_3069_4, rfl⟩
      refine ⟨fun _ h => h.sub (by (repeat (first | exact Sb.r | exact Sb.ar | exact Sb.al | apply Sb.d | refine Sb.t ?_)); done), ?_⟩
      refine TA_one 11 (by kernel_rfl) rfl rfl (TO_call0 call40 rfl rfl (hCb ?sd3071q42_0 ?sd3071q42_1 ?sd3071q42_2 ?sd3071q42_3 ?sd3071q42_4) ?_)
      case sd3071q42_0 => exact hsub.trans (by repeat (first | exact Sb.r | exact Sb.ar | exact Sb.al | apply Sb.d | refine Sb.t ?_))
      case sd3071q42_1 => (rw [List.length_append, lvs_len]; omega)
      case sd3071q42_2 => omega
      case sd3071q42_3 => omega
      case sd3071q42_4 => exact h_3069_0
      rintro v94_3072 H94_3072 ⟨A'_3072, c'_3072, nn'_3072, m'_3072, vf_3072, vl_3072, N_3072, k'_3072, cs'_3072, rfl, rfl, rfl, h_3072_0, h_3072_1, h_3072_2, h_3072_3, h_3072_4, rfl⟩
      refine ⟨fun _ h => h.sub (by (repeat (first | exact Sb.r | exact Sb.ar | exact Sb.al | apply Sb.c | apply Sb.d | refine Sb.t ?_)); done), ?_⟩
      refine TA_one 14 (by kernel_rfl) rfl rfl (TO_store 4 rfl rfl rfl sz97 rfl rfl rfl (List.forall_mem_cons.2 ⟨by first | rfl | exact MI_one (by assumption), List.forall_mem_cons.2 ⟨by first | rfl | exact MI_one (by assumption), List.forall_mem_cons.2 ⟨by first | rfl | exact MI_one (by assumption), by simp⟩⟩⟩) (by first | exact Nat.le_of_ble_eq_true rfl | (simp; done) | (simp; omega) | omega) ?_)
      refine ⟨fun _ h => h.sub (by (repeat (first | exact Sb.r | exact Sb.ar | exact Sb.al | apply Sb.c | apply Sb.d | refine Sb.t ?_)); done), ?_⟩
      refine TA_one 15 (by kernel_rfl) rfl rfl (TO_store 3 rfl rfl rfl sz97 rfl rfl rfl (List.forall_mem_cons.2 ⟨by first | rfl | exact MI_one (by assumption), List.forall_mem_cons.2 ⟨by first | rfl | exact MI_one (by assumption), List.forall_mem_cons.2 ⟨by first | rfl | exact MI_one (by assumption), by simp⟩⟩⟩) (by first | exact Nat.le_of_ble_eq_true rfl | (simp; done) | (simp; omega) | omega) ?_)
      refine ⟨fun _ h => h.sub (by (repeat (first | exact Sb.r | exact Sb.ar | exact Sb.al | apply Sb.c | apply Sb.d | refine Sb.t ?_)); done), ?_⟩
      refine TA_done (by kernel_rfl) ?_
      refine ?L39
      rotate_left 1
      refine ⟨_, rfl, Or.inl rfl, (TO_alloc rfl zr97 fun g3005 => ?_)⟩
      refine ⟨fun _ h => h.sub (by (repeat (first | exact Sb.r | exact Sb.ar | exact Sb.al | apply Sb.c | apply Sb.d | refine Sb.t ?_)); done), ?_⟩
      refine TA_hardG (rs := [5, 12]) (by kernel_rfl) (by decide) ?_
      refine List.forall_mem_cons.2 ⟨?w3075q42_5, List.forall_mem_cons.2 ⟨?w3075q42_12, by simp⟩⟩
      refine ⟨_, rfl, Or.inl rfl, TO_perm ((perm_pick (i := 3) rfl).trans (List.Perm.cons _ ((perm_pick (i := 3) rfl).trans (List.Perm.cons _ ((perm_pick (i := 3) rfl).trans (List.Perm.cons _ (List.Perm.refl _))))))) (TO_call0 call40 rfl rfl (hCa ?sd3078q42_0 ?sd3078q42_1 ?sd3078q42_2 ?sd3078q42_3 ?sd3078q42_4) ?_)⟩
      case sd3078q42_0 => exact hsub.trans (by repeat (first | exact Sb.r | exact Sb.ar | exact Sb.al | apply Sb.d | refine Sb.t ?_))
      case sd3078q42_1 => omega
      case sd3078q42_2 => omega
      case sd3078q42_3 => omega
      case sd3078q42_4 => exact hc
      rintro v88_3079 H88_3079 ⟨A'_3079, c'_3079, nn'_3079, m'_3079, vf_3079, vl_3079, N_3079, k'_3079, cs'_3079, rfl, rfl, rfl, h_3079_0, h_3079_1, h_3079_2, h_3079_3, h_3079_4, rfl⟩
      refine ⟨fun _ h => h.sub (by (repeat (first | exact Sb.r | exact Sb.ar | exact Sb.al | apply Sb.d | refine Sb.t ?_)); done), ?_⟩
      refine TA_hardG (rs := [11, 12]) (by kernel_rfl) (by decide) ?_
      refine List.forall_mem_cons.2 ⟨?w3080q42_11, List.forall_mem_cons.2 ⟨?w3080q42_12, by simp⟩⟩
      refine ⟨_, rfl, Or.inl rfl, (TO_call0 call40 rfl rfl (hCb ?sd3083q42_0 ?sd3083q42_1 ?sd3083q42_2 ?sd3083q42_3 ?sd3083q42_4) ?_)⟩
      case sd3083q42_0 => exact hsub.trans (by repeat (first | exact Sb.r | exact Sb.ar | exact Sb.al | apply Sb.d | refine Sb.t ?_))
      case sd3083q42_1 => (rw [List.length_append, lvs_len]; omega)
      case sd3083q42_2 => omega
      case sd3083q42_3 => omega
      case sd3083q42_4 => exact h_3079_0
      rintro v94_3084 H94_3084 ⟨A'_3084, c'_3084, nn'_3084, m'_3084, vf_3084, vl_3084, N_3084, k'_3084, cs'_3084, rfl, rfl, rfl, h_3084_0, h_3084_1, h_3084_2, h_3084_3, h_3084_4, rfl⟩
      refine ⟨fun _ h => h.sub (by (repeat (first | exact Sb.r | exact Sb.ar | exact Sb.al | apply Sb.c | apply Sb.d | refine Sb.t ?_)); done), ?_⟩
      refine TA_one 12 (by kernel_rfl) rfl rfl (TO_alloc rfl zr97 fun g3085 => ?_)
      refine ⟨fun _ h => h.sub (by (repeat (first | exact Sb.r | exact Sb.ar | exact Sb.al | apply Sb.c | apply Sb.d | refine Sb.t ?_)); done), ?_⟩
      refine TA_one 14 (by kernel_rfl) rfl rfl (TO_store 0 rfl rfl rfl sz97 rfl rfl rfl (List.forall_mem_cons.2 ⟨by first | rfl | exact MI_one (by assumption), List.forall_mem_cons.2 ⟨by first | rfl | exact MI_one (by assumption), List.forall_mem_cons.2 ⟨by first | rfl | exact MI_one (by assumption), by simp⟩⟩⟩) (by first | exact Nat.le_of_ble_eq_true rfl | (simp; done) | (simp; omega) | omega) ?_)
      refine ⟨fun _ h => h.sub (by (repeat (first | exact Sb.r | exact Sb.ar | exact Sb.al | apply Sb.c | apply Sb.d | refine Sb.t ?_)); done), ?_⟩
      refine TA_one 15 (by kernel_rfl) rfl rfl (TO_store 4 rfl rfl rfl sz97 rfl rfl rfl (List.forall_mem_cons.2 ⟨by first | rfl | exact MI_one (by assumption), List.forall_mem_cons.2 ⟨by first | rfl | exact MI_one (by assumption), List.forall_mem_cons.2 ⟨by first | rfl | exact MI_one (by assumption), by simp⟩⟩⟩) (by first | exact Nat.le_of_ble_eq_true rfl | (simp; done) | (simp; omega) | omega) ?_)
      refine ⟨fun _ h => h.sub (by (repeat (first | exact Sb.r | exact Sb.ar | exact Sb.al | apply Sb.c | apply Sb.d | refine Sb.t ?_)); done), ?_⟩
      refine TA_done (by kernel_rfl) ?_
      refine ?L40
      rotate_left 1
      refine ⟨_, rfl, Or.inl rfl, (TO_alloc rfl zr97 fun g3082 => ?_)⟩
      refine ⟨fun _ h => h.sub (by (repeat (first | exact Sb.r | exact Sb.ar | exact Sb.al | apply Sb.d | refine Sb.t ?_)); done), ?_⟩
      refine TA_perm ((perm_pick (i := 1) rfl).trans (List.Perm.cons _ ((perm_pick (i := 1) rfl).trans (List.Perm.cons _ ((perm_pick (i := 1) rfl).trans (List.Perm.cons _ (List.Perm.refl _))))))) ?_
      refine TA_one 11 (by kernel_rfl) rfl rfl (TO_call0 call40 rfl rfl (hCb ?sd3089q42_0 ?sd3089q42_1 ?sd3089q42_2 ?sd3089q42_3 ?sd3089q42_4) ?_)
      case sd3089q42_0 => exact hsub.trans (by repeat (first | exact Sb.r | exact Sb.ar | exact Sb.al | apply Sb.d | refine Sb.t ?_))
      case sd3089q42_1 => (rw [List.length_append, lvs_len]; omega)
      case sd3089q42_2 => omega
      case sd3089q42_3 => omega
      case sd3089q42_4 => exact h_3079_0
      rintro v94_3090 H94_3090 ⟨A'_3090, c'_3090, nn'_3090, m'_3090, vf_3090, vl_3090, N_3090, k'_3090, cs'_3090, rfl, rfl, rfl, h_3090_0, h_3090_1, h_3090_2, h_3090_3, h_3090_4, rfl⟩
      refine ⟨fun _ h => h.sub (by (repeat (first | exact Sb.r | exact Sb.ar | exact Sb.al | apply Sb.c | apply Sb.d | refine Sb.t ?_)); done), ?_⟩
      refine TA_one 14 (by kernel_rfl) rfl rfl (TO_store 3 rfl rfl rfl sz97 rfl rfl rfl (List.forall_mem_cons.2 ⟨by first | rfl | exact MI_one (by assumption), List.forall_mem_cons.2 ⟨by first | rfl | exact MI_one (by assumption), List.forall_mem_cons.2 ⟨by first | rfl | exact MI_one (by assumption), by simp⟩⟩⟩) (by first | exact Nat.le_of_ble_eq_true rfl | (simp; done) | (simp; omega) | omega) ?_)
      refine ⟨fun _ h => h.sub (by (repeat (first | exact Sb.r | exact Sb.ar | exact Sb.al | apply Sb.c | apply Sb.d | refine Sb.t ?_)); done), ?_⟩
      refine TA_one 15 (by kernel_rfl) rfl rfl (TO_store 4 rfl rfl rfl sz97 rfl rfl rfl (List.forall_mem_cons.2 ⟨by first | rfl | exact MI_one (by assumption), List.forall_mem_cons.2 ⟨by first | rfl | exact MI_one (by assumption), List.forall_mem_cons.2 ⟨by first | rfl | exact MI_one (by assumption), by simp⟩⟩⟩) (by first | exact Nat.le_of_ble_eq_true rfl | (simp; done) | (simp; omega) | omega) ?_)
      refine ⟨fun _ h => h.sub (by (repeat (first | exact Sb.r | exact Sb.ar | exact Sb.al | apply Sb.c | apply Sb.d | refine Sb.t ?_)); done), ?_⟩
      refine TA_done (by kernel_rfl) ?_
      refine ?L41
      rotate_left 1
      refine ⟨_, rfl, Or.inl rfl, (TO_alloc rfl zr97 fun g3077 => ?_)⟩
      refine ⟨fun _ h => h.sub (by (repeat (first | exact Sb.r | exact Sb.ar | exact Sb.al | apply Sb.c | apply Sb.d | refine Sb.t ?_)); done), ?_⟩
      refine TA_perm ((perm_pick (i := 4) rfl).trans (List.Perm.cons _ ((perm_pick (i := 4) rfl).trans (List.Perm.cons _ ((perm_pick (i := 4) rfl).trans (List.Perm.cons _ (List.Perm.refl _))))))) ?_
      refine TA_one 5 (by kernel_rfl) rfl rfl (TO_call0 call40 rfl rfl (hCa ?sd3094q42_0 ?sd3094q42_1 ?sd3094q42_2 ?sd3094q42_3 ?sd3094q42_4) ?_)
      case sd3094q42_0 => exact hsub.trans (by repeat (first | exact Sb.r | exact Sb.ar | exact Sb.al | apply Sb.d | refine Sb.t ?_))
      case sd3094q42_1 => omega
      case sd3094q42_2 => omega
      case sd3094q42_3 => omega
      case sd3094q42_4 => exact hc
      rintro v88_3095 H88_3095 ⟨A'_3095, c'_3095, nn'_3095, m'_3095, vf_3095, vl_3095, N_3095, k'_3095, cs'_3095, rfl, rfl, rfl, h_3095_0, h_3095_1, h_3095_2, h_3095_3, h_3095_4, rfl⟩
      refine ⟨fun _ h => h.sub (by (repeat (first | exact Sb.r | exact Sb.ar | exact Sb.al | apply Sb.d | refine Sb.t ?_)); done), ?_⟩
      refine TA_one 11 (by kernel_rfl) rfl rfl (TO_call0 call40 rfl rfl (hCb ?sd3097q42_0 ?sd3097q42_1 ?sd3097q42_2 ?sd3097q42_3 ?sd3097q42_4) ?_)
      case sd3097q42_0 => exact hsub.trans (by repeat (first | exact Sb.r | exact Sb.ar | exact Sb.al | apply Sb.d | refine Sb.t ?_))
      case sd3097q42_1 => (rw [List.length_append, lvs_len]; omega)
      case sd3097q42_2 => omega
      case sd3097q42_3 => omega
      case sd3097q42_4 => exact h_3095_0
      rintro v94_3098 H94_3098 ⟨A'_3098, c'_3098, nn'_3098, m'_3098, vf_3098, vl_3098, N_3098, k'_3098, cs'_3098, rfl, rfl, rfl, h_3098_0, h_3098_1, h_3098_2, h_3098_3, h_3098_4, rfl⟩
      refine ⟨fun _ h => h.sub (by (repeat (first | exact Sb.r | exact Sb.ar | exact Sb.al | apply Sb.c | apply Sb.d | refine Sb.t ?_)); done), ?_⟩
      refine TA_one 14 (by kernel_rfl) rfl rfl (TO_store 3 rfl rfl rfl sz97 rfl rfl rfl (List.forall_mem_cons.2 ⟨by first | rfl | exact MI_one (by assumption), List.forall_mem_cons.2 ⟨by first | rfl | exact MI_one (by assumption), List.forall_mem_cons.2 ⟨by first | rfl | exact MI_one (by assumption), by simp⟩⟩⟩) (by first | exact Nat.le_of_ble_eq_true rfl | (simp; done) | (simp; omega) | omega) ?_)
      refine ⟨fun _ h => h.sub (by (repeat (first | exact Sb.r | exact Sb.ar | exact Sb.al | apply Sb.c | apply Sb.d | refine Sb.t ?_)); done), ?_⟩
      refine TA_one 15 (by kernel_rfl) rfl rfl (TO_store 4 rfl rfl rfl sz97 rfl rfl rfl (List.forall_mem_cons.2 ⟨by first | rfl | exact MI_one (by assumption), List.forall_mem_cons.2 ⟨by first | rfl | exact MI_one (by assumption), List.forall_mem_cons.2 ⟨by first | rfl | exact MI_one (by assumption), by simp⟩⟩⟩) (by first | exact Nat.le_of_ble_eq_true rfl | (simp; done) | (simp; omega) | omega) ?_)
      refine ⟨fun _ h => h.sub (by (repeat (first | exact Sb.r | exact Sb.ar | exact Sb.al | apply Sb.c | apply Sb.d | refine Sb.t ?_)); done), ?_⟩
      refine TA_done (by kernel_rfl) ?_
      refine ?L42
      all_goals exact ⟨_, _, _, _, _, _, _, _, _, _, _, _, _, _, _, (by repeat (first | exact FrSub.nil _ | refine FrSub.cons rfl ?_)), (by first | (refine Has.of_perm ((perm_pick (i := 0) rfl).trans (List.Perm.cons _ ((perm_pick (i := 0) rfl).trans (List.Perm.cons _ (List.Perm.refl _))))) ?_; (repeat (first | apply Sb.c | apply Sb.d)); exact Sb.r) | (refine Has.of_perm ((perm_pick (i := 1) rfl).trans (List.Perm.cons _ ((perm_pick (i := 0) rfl).trans (List.Perm.cons _ (List.Perm.refl _))))) ?_; (repeat (first | apply Sb.c | apply Sb.d)); exact Sb.r) | (refine Has.of_perm ((perm_pick (i := 0) rfl).trans (List.Perm.cons _ ((perm_pick (i := 3) rfl).trans (List.Perm.cons _ (List.Perm.refl _))))) ?_; (repeat (first | apply Sb.c | apply Sb.d)); exact Sb.r) | (refine Has.of_perm ((perm_pick (i := 4) rfl).trans (List.Perm.cons _ ((perm_pick (i := 0) rfl).trans (List.Perm.cons _ (List.Perm.refl _))))) ?_; (repeat (first | apply Sb.c | apply Sb.d)); exact Sb.r) | (refine Has.of_perm ((perm_pick (i := 3) rfl).trans (List.Perm.cons _ ((perm_pick (i := 3) rfl).trans (List.Perm.cons _ (List.Perm.refl _))))) ?_; (repeat (first | apply Sb.c | apply Sb.d)); exact Sb.r) | (refine Has.of_perm ((perm_pick (i := 4) rfl).trans (List.Perm.cons _ ((perm_pick (i := 3) rfl).trans (List.Perm.cons _ (List.Perm.refl _))))) ?_; (repeat (first | apply Sb.c | apply Sb.d)); exact Sb.r) | (refine Has.of_perm ((perm_pick (i := 0) rfl).trans (List.Perm.cons _ ((perm_pick (i := 1) rfl).trans (List.Perm.cons _ (List.Perm.refl _))))) ?_; (repeat (first | apply Sb.c | apply Sb.d)); exact Sb.r) | (refine Has.of_perm ((perm_pick (i := 1) rfl).trans (List.Perm.cons _ ((perm_pick (i := 1) rfl).trans (List.Perm.cons _ (List.Perm.refl _))))) ?_; (repeat (first | apply Sb.c | apply Sb.d)); exact Sb.r) | (refine Has.of_perm ((perm_pick (i := 3) rfl).trans (List.Perm.cons _ ((perm_pick (i := 0) rfl).trans (List.Perm.cons _ (List.Perm.refl _))))) ?_; (repeat (first | apply Sb.c | apply Sb.d)); exact Sb.r) | (refine Has.of_perm ((perm_pick (i := 0) rfl).trans (List.Perm.cons _ ((perm_pick (i := 4) rfl).trans (List.Perm.cons _ (List.Perm.refl _))))) ?_; (repeat (first | apply Sb.c | apply Sb.d)); exact Sb.r) | (refine Has.of_perm ((perm_pick (i := 4) rfl).trans (List.Perm.cons _ ((perm_pick (i := 4) rfl).trans (List.Perm.cons _ (List.Perm.refl _))))) ?_; (repeat (first | apply Sb.c | apply Sb.d)); exact Sb.r) | (refine Has.of_perm ((perm_pick (i := 2) rfl).trans (List.Perm.cons _ ((perm_pick (i := 2) rfl).trans (List.Perm.cons _ (List.Perm.refl _))))) ?_; (repeat (first | apply Sb.c | apply Sb.d)); exact Sb.r) | (refine Has.of_perm ((perm_pick (i := 2) rfl).trans (List.Perm.cons _ ((perm_pick (i := 0) rfl).trans (List.Perm.cons _ (List.Perm.refl _))))) ?_; (repeat (first | apply Sb.c | apply Sb.d)); exact Sb.r) | (refine Has.of_perm ((perm_pick (i := 0) rfl).trans (List.Perm.cons _ ((perm_pick (i := 2) rfl).trans (List.Perm.cons _ (List.Perm.refl _))))) ?_; (repeat (first | apply Sb.c | apply Sb.d)); exact Sb.r)), rfl, by assumption, by assumption, by assumption, by assumption, by assumption, by assumption, by assumption, by assumption, by assumption⟩
    · rintro f h ⟨g6, g7, c', n1, n2, A', m1, m2, vfa, vla, vfb, vlb, Na, Nb, cs', hf, ⟨hh, hp, hs⟩, rfl, hc', hn1, hn2, hm1, hm2, hfa, hla, hfb, hlb⟩
      refine T.weaken hf (T.perm hp (T.drop hs ?_))
      have hmf : ∀ x y, kI.ok x → kI.ok y → m2 (x, y) = (m (x, y) || nxtP (.either a b) k x y) := fun x y hx hy => by
        rw [hm2 x y hx hy, hm1 x y hx hy]
        simp only [nxtP, Bool.or_assoc]
      rcases Bool.eq_false_or_eq_true (nul a) with hna | hna
      · refine T_seq ?_
        refine T_drawnE 5 mixed ?_
        refine TA_p 0 rfl (by kernel_rfl) (PV_fieldAddr (D := 0) Tryd.underlying97 rfl sz95 (by decide) rfl rfl) ?_
        refine TA_p 1 rfl (by kernel_rfl) (PV_load Tryd.underlying95 rfl rfl (Rd.at 0 rfl rfl)) ?_
        refine TA_p 2 rfl (by kernel_rfl) (PV_fieldAddr (D := 0) Tryd.underlying97 rfl sz95 (by decide) rfl rfl) ?_
        refine TA_p 3 rfl (by kernel_rfl) (PV_load Tryd.underlying95 rfl rfl (Rd.at 1 rfl rfl)) ?_
        refine TA_p 5 rfl (by kernel_rfl) (PV_fieldAddr (D := 1) Tryd.underlying97 rfl sz95 (by decide) rfl rfl) ?_
        refine TA_p 6 rfl (by kernel_rfl) (PV_load Tryd.underlying95 rfl rfl (Rd.at 0 rfl rfl)) ?_
        refine TA_p 7 rfl (by kernel_rfl) (PV_fieldAddr (D := 1) Tryd.underlying97 rfl sz95 (by decide) rfl rfl) ?_
        refine TA_p 8 rfl (by kernel_rfl) (PV_load Tryd.underlying95 rfl rfl (Rd.at 1 rfl rfl)) ?_
        refine TA_p 10 rfl (by kernel_rfl) (PV_fieldAddr (D := 2) Tryd.underlying97 rfl sz4 (by decide) rfl rfl) ?_
        refine TA_p 11 rfl (by kernel_rfl) (PV_load Tryd.underlying4 rfl rfl (Rd.at 0 rfl rfl)) ?_
        refine TA_perm ((perm_pick (i := 0) rfl).trans (List.Perm.cons _ (List.Perm.refl _))) ?_
        refine TA_one 4 (by kernel_rfl) rfl rfl (TO_call0 call53 rfl rfl (both_t (hfa.weak (fun w h => h.sub (by repeat (first | exact Sb.r | exact Sb.ar | exact Sb.al | apply Sb.d | refine Sb.t ?_)))) (hfb.weak (fun w h => h.sub (by repeat (first | exact Sb.r | exact Sb.ar | exact Sb.al | apply Sb.d | refine Sb.t ?_)))) (by omega)) ?_)
        rintro v99_6002 H99_6002 ⟨g_6002, nn_6002, m_6002, rfl, h_6002_0, h_6002_1, rfl⟩
        refine ⟨fun _ h => h.sub (by (repeat (first | exact Sb.r | exact Sb.ar | exact Sb.al | apply Sb.c | apply Sb.d | refine Sb.t ?_)); done), ?_⟩
        refine TA_perm ((perm_pick (i := 0) rfl).trans (List.Perm.cons _ (List.Perm.refl _))) ?_
        refine TA_one 9 (by kernel_rfl) rfl rfl (TO_call0 call53 rfl rfl (both_t (hla.weak (fun w h => h.sub (by repeat (first | exact Sb.r | exact Sb.ar | exact Sb.al | apply Sb.d | refine Sb.t ?_)))) (hlb.weak (fun w h => h.sub (by repeat (first | exact Sb.r | exact Sb.ar | exact Sb.al | apply Sb.d | refine Sb.t ?_)))) (by omega)) ?_)
        rintro v104_6004 H104_6004 ⟨g_6004, nn_6004, m_6004, rfl, h_6004_0, h_6004_1, rfl⟩
        refine ⟨fun _ h => h.sub (by (repeat (first | exact Sb.r | exact Sb.ar | exact Sb.al | apply Sb.c | apply Sb.d | refine Sb.t ?_)); done), ?_⟩
        refine TA_p 12 rfl (by kernel_rfl) (PV_move rfl) ?_
        refine TA_no (dd := (some 108)) (b := true) 13 rfl (by kernel_rfl) (by kernel_rfl) (by kernel_rfl) rfl rfl (gtrue (by with_reducible assumption)) rfl rfl ?_
        refine TA_no (dd := (some 109)) (b := true) 14 rfl (by kernel_rfl) (by kernel_rfl) (by kernel_rfl) rfl rfl (gtrue (by with_reducible assumption)) rfl rfl ?_
        refine TA_p 15 rfl (by kernel_rfl) (PV_pickT rfl (by first | assumption | rfl | (simp; done) | (simp; omega) | (simp [*]; done) | (simp [*]; omega)) rfl rfl) ?_
        refine TA_p 16 rfl (by kernel_rfl) (PV_bld (cs := [_, _, _]) Tryd.underlying97 pl97 zr97 rfl rfl) ?_
        refine TA_one 17 (by kernel_rfl) rfl rfl (TO_store 7 rfl rfl rfl sz97 rfl rfl rfl (all_one rfl) (by first | exact Nat.le_of_ble_eq_true rfl | (simp; done) | (simp; omega) | omega) ?_)
        refine ⟨fun _ h => h.sub (by (repeat (first | exact Sb.r | exact Sb.ar | exact Sb.al | apply Sb.c | apply Sb.d | refine Sb.t ?_)); done), ?_⟩
        refine TA_done (by kernel_rfl) ?_
        refine ?L61
        case L61 =>
          refine T_openOb 0 rfl fun o1 ho1 => ?_
          refine T_openOb 1 rfl fun o2 ho2 => ?_
          refine T.perm ((perm_pick (i := 4) rfl).trans (List.Perm.cons _ ((perm_pick (i := 4) rfl).trans (List.Perm.cons _ ((perm_pick (i := 4) rfl).trans (List.Perm.cons _ ((perm_pick (i := 4) rfl).trans (List.Perm.cons _ ((perm_pick (i := 2) rfl).trans (List.Perm.cons _ ((perm_pick (i := 2) rfl).trans (List.Perm.cons _ (List.Perm.refl _))))))))))))) ?_
          refine T.perm perm_six ?_
          refine T_ret ?_
          refine ret_ret (ResV_c rfl Tryd.underlying97 rfl sz97 rfl (Rds.take 3 rfl rfl rfl)) ?_
          exact ⟨_ :: _ :: _ :: (H ++ (_ :: _ :: (Na ++ Nb))), List.Sublist.cons_cons _ (List.Sublist.cons_cons _ (List.Sublist.cons_cons _ (List.Sublist.cons _ (List.Sublist.cons _ (List.Sublist.cons _ (List.Sublist.refl _)))))), A', c', n2, m2, _, _, _, k + pl a + pl b, _, (by first | rfl | (simp only [nul, hna, Bool.false_or, Bool.true_or]; rfl)), by simp only [pl]; omega, by simp only [lvs, List.append_assoc], by omega, by simp only [nx]; omega, hmf,
            MS.mono (MS.of_ob (H := _ :: _ :: (Na ++ Nb)) ho2 1 rfl) (fun w h => h) h_6002_0 h_6002_1, MS.mono (MS.of_ob (H := _ :: _ :: (Na ++ Nb)) ho1 0 rfl) (fun w h => h) h_6004_0 h_6004_1, rfl⟩
      · refine T_seq ?_
        refine T_drawnE 5 mixed ?_
        refine TA_p 0 rfl (by kernel_rfl) (PV_fieldAddr (D := 0) Tryd.underlying97 rfl sz95 (by decide) rfl rfl) ?_
        refine TA_p 1 rfl (by kernel_rfl) (PV_load Tryd.underlying95 rfl rfl (Rd.at 0 rfl rfl)) ?_
        refine TA_p 2 rfl (by kernel_rfl) (PV_fieldAddr (D := 0) Tryd.underlying97 rfl sz95 (by decide) rfl rfl) ?_
        refine TA_p 3 rfl (by kernel_rfl) (PV_load Tryd.underlying95 rfl rfl (Rd.at 1 rfl rfl)) ?_
        refine TA_p 5 rfl (by kernel_rfl) (PV_fieldAddr (D := 1) Tryd.underlying97 rfl sz95 (by decide) rfl rfl) ?_
        refine TA_p 6 rfl (by kernel_rfl) (PV_load Tryd.underlying95 rfl rfl (Rd.at 0 rfl rfl)) ?_
        refine TA_p 7 rfl (by kernel_rfl) (PV_fieldAddr (D := 1) Tryd.underlying97 rfl sz95 (by decide) rfl rfl) ?_
        refine TA_p 8 rfl (by kernel_rfl) (PV_load Tryd.underlying95 rfl rfl (Rd.at 1 rfl rfl)) ?_
        refine TA_p 10 rfl (by kernel_rfl) (PV_fieldAddr (D := 2) Tryd.underlying97 rfl sz4 (by decide) rfl rfl) ?_
        refine TA_p 11 rfl (by kernel_rfl) (PV_load Tryd.underlying4 rfl rfl (Rd.at 0 rfl rfl)) ?_
        refine TA_perm ((perm_pick (i := 0) rfl).trans (List.Perm.cons _ (List.Perm.refl _))) ?_
        refine TA_one 4 (by kernel_rfl) rfl rfl (TO_call0 call53 rfl rfl (both_t (hfa.weak (fun w h => h.sub (by repeat (first | exact Sb.r | exact Sb.ar | exact Sb.al | apply Sb.d | refine Sb.t ?_)))) (hfb.weak (fun w h => h.sub (by repeat (first | exact Sb.r | exact Sb.ar | exact Sb.al | apply Sb.d | refine Sb.t ?_)))) (by omega)) ?_)
        rintro v99_5002 H99_5002 ⟨g_5002, nn_5002, m_5002, rfl, h_5002_0, h_5002_1, rfl⟩
        refine ⟨fun _ h => h.sub (by (repeat (first | exact Sb.r | exact Sb.ar | exact Sb.al | apply Sb.c | apply Sb.d | refine Sb.t ?_)); done), ?_⟩
        refine TA_perm ((perm_pick (i := 0) rfl).trans (List.Perm.cons _ (List.Perm.refl _))) ?_
        refine TA_one 9 (by kernel_rfl) rfl rfl (TO_call0 call53 rfl rfl (both_t (hla.weak (fun w h => h.sub (by repeat (first | exact Sb.r | exact Sb.ar | exact Sb.al | apply Sb.d | refine Sb.t ?_)))) (hlb.weak (fun w h => h.sub (by repeat (first | exact Sb.r | exact Sb.ar | exact Sb.al | apply Sb.d | refine Sb.t ?_)))) (by omega)) ?_)
        rintro v104_5004 H104_5004 ⟨g_5004, nn_5004, m_5004, rfl, h_5004_0, h_5004_1, rfl⟩
        refine ⟨fun _ h => h.sub (by (repeat (first | exact Sb.r | exact Sb.ar | exact Sb.al | apply Sb.c | apply Sb.d | refine Sb.t ?_)); done), ?_⟩
        refine TA_p 12 rfl (by kernel_rfl) (PV_move rfl) ?_
        refine TA_yes (dd := (some 108)) 13 rfl (by kernel_rfl) (by kernel_rfl) (by kernel_rfl) rfl rfl (gfalse (by with_reducible assumption)) rfl rfl (PV_fieldAddr (D := 2) Tryd.underlying97 rfl sz4 (by decide) rfl rfl) ?_
        refine TA_yes (dd := (some 109)) 14 rfl (by kernel_rfl) (by kernel_rfl) (by kernel_rfl) rfl rfl (gfalse (by with_reducible assumption)) rfl rfl (PV_load Tryd.underlying4 rfl rfl (Rd.at 1 rfl rfl)) ?_
        refine TA_p 15 rfl (by kernel_rfl) (PV_pickOr rfl rfl rfl) ?_
        refine TA_p 16 rfl (by kernel_rfl) (PV_bld (cs := [_, _, _]) Tryd.underlying97 pl97 zr97 rfl rfl) ?_
        refine TA_one 17 (by kernel_rfl) rfl rfl (TO_store 7 rfl rfl rfl sz97 rfl rfl rfl (all_one rfl) (by first | exact Nat.le_of_ble_eq_true rfl | (simp; done) | (simp; omega) | omega) ?_)
        refine ⟨fun _ h => h.sub (by (repeat (first | exact Sb.r | exact Sb.ar | exact Sb.al | apply Sb.c | apply Sb.d | refine Sb.t ?_)); done), ?_⟩
        refine TA_done (by kernel_rfl) ?_
        refine ?L51
        case L51 =>
          refine T_openOb 0 rfl fun o1 ho1 => ?_
          refine T_openOb 1 rfl fun o2 ho2 => ?_
          refine T.perm ((perm_pick (i := 4) rfl).trans (List.Perm.cons _ ((perm_pick (i := 4) rfl).trans (List.Perm.cons _ ((perm_pick (i := 4) rfl).trans (List.Perm.cons _ ((perm_pick (i := 4) rfl).trans (List.Perm.cons _ ((perm_pick (i := 2) rfl).trans (List.Perm.cons _ ((perm_pick (i := 2) rfl).trans (List.Perm.cons _ (List.Perm.refl _))))))))))))) ?_
          refine T.perm perm_six ?_
          refine T_ret ?_
          refine ret_ret (ResV_c rfl Tryd.underlying97 rfl sz97 rfl (Rds.take 3 rfl rfl rfl)) ?_
          exact ⟨_ :: _ :: _ :: (H ++ (_ :: _ :: (Na ++ Nb))), List.Sublist.cons_cons _ (List.Sublist.cons_cons _ (List.Sublist.cons_cons _ (List.Sublist.cons _ (List.Sublist.cons _ (List.Sublist.cons _ (List.Sublist.refl _)))))), A', c', n2, m2, _, _, _, k + pl a + pl b, _, (by first | rfl | (simp only [nul, hna, Bool.false_or, Bool.true_or]; rfl)), by simp only [pl]; omega, by simp only [lvs, List.append_assoc], by omega, by simp only [nx]; omega, hmf,
            MS.mono (MS.of_ob (H := _ :: _ :: (Na ++ Nb)) ho2 1 rfl) (fun w h => h) h_5002_0 h_5002_1, MS.mono (MS.of_ob (H := _ :: _ :: (Na ++ Nb)) ho1 0 rfl) (fun w h => h) h_5004_0 h_5004_1, rfl⟩
theorem make_star {a : Rx} {x : Nv} {A0 : Option Addr} {c0 : Nat} (h2 : 1 ≤ c0) (hK : Shows (WH w0 B X) A0 1 6 x.cells) (hEa : MakeC w0 B a x X) : MakeC w0 B (.star a) ⟨4, S4.zero, A0, 1, c0⟩ X := by
  intro gm gn nn k c A L m H hsub hL hn hk hc
  simp only [nx] at hn
  simp only [pl] at hk
  refine TCall_showsN (hK.mono fun w h => h.sub (hsub.trans (by repeat (first | exact Sb.r | exact Sb.ar | exact Sb.al | apply Sb.d | refine Sb.t ?_)))) (by simp [Nv.cells]) fun ga oa hA hrd => ?_
  subst hA
  clear hrd
  have hKH := hK.mono (W' := WH w0 B H) fun w h => h.sub hsub
  have hk0 : RdsK (WH w0 B H) ga (oa + 0 * 6) 6 x.cells := ⟨rfl, fun j v hj => by
    rw [add_plain']
    refine hKH.rd (0 * 6 + j) (by omega) ?_
    rw [Nat.zero_mul, Nat.zero_add]
    exact hj⟩
  have hCa := fun {gm gn nn k c : Nat} {A : Option Addr} {L : List S4} {m : Nat × Nat → Bool} {H : List Chunk} (hs : X.Sublist H) (h1 : L.length = k) (h2 : nn + nx a < 1000000000) (h3 : k + pl a ≤ 1000000) (h4 : k ≤ c) => hEa gm gn nn k c A L m H hs h1 h2 h3 h4
  show TCall Tryd.prog w0 B 40 #[.pointer (some ⟨gm, 0, none⟩), .agg #[.int .i64 4, wv S4.zero.a, wv S4.zero.b, wv S4.zero.c, wv S4.zero.d, .slice (some ⟨ga, oa, none⟩) 1 c0]] _ _
  refine TCall_intro (args := [_, _]) Tryd.func40 rfl Tryd.ntmps40 (Nat.le_of_ble_eq_true rfl) ?_
  refine T_seq ?_
  refine T_region ?_
  refine TL_cons rfl (TO_box rfl rfl fun g2001 => ?_)
  refine TL_cons rfl (TO_alloc rfl zr97 fun g2002 => ?_)
  refine TL_nil ?_
  refine T_seq ?_
  refine T_seq ?_
  refine T_region ?_
  refine TL_p (PV_fieldAddr (D := 0) Tryd.underlying30 rfl sz24 (by decide) rfl rfl) ?_
  refine TL_p (PV_load Tryd.underlying24 rfl rfl (Rd.at 1 rfl rfl)) ?_
  refine TL_nil ?_
  refine T_block ?_
  refine T_seq ?_
  refine T_region ?_
  refine TL_p (PV_bin rfl rfl bin_eql) ?_
  refine TL_p (PV_assign rfl) ?_
  refine TL_nil ?_
  refine T_else rfl (by rfl) ?_
  refine T_seq ?_
  refine T_region ?_
  refine TL_p (PV_bin rfl rfl bin_eql) ?_
  refine TL_p (PV_assign rfl) ?_
  refine TL_nil ?_
  refine T_else rfl (by rfl) ?_
  refine T_seq ?_
  refine T_region ?_
  refine TL_p (PV_bin rfl rfl bin_eql) ?_
  refine TL_p (PV_assign rfl) ?_
  refine TL_nil ?_
  refine T_else rfl (by rfl) ?_
  refine T_seq ?_
  refine T_region ?_
  refine TL_p (PV_bin rfl rfl bin_eql) ?_
  refine TL_p (PV_assign rfl) ?_
  refine TL_nil ?_
  refine T_then rfl (by rfl) ?_
  refine T_seq ?_
  refine T_region ?_
  refine TL_p (PV_move rfl) ?_
  refine TL_p (PV_fieldAddr (D := 5) Tryd.underlying30 rfl sz28 (by decide) rfl rfl) ?_
  refine TL_p (PV_load Tryd.underlying28 rfl rfl (Rd.at 1 rfl rfl)) ?_
  refine TL_p (PV_indexAddr (i := 0) Tryd.underlying28 sz30 rfl rfl rfl (by first | omega | decide | assumption)) ?_
  refine TL_p (PV_loadAt Tryd.underlying30 rfl sz30 rfl (RdsK.mono hk0 (fun w h => h.sub (by (repeat (first | exact Sb.r | exact Sb.ar | exact Sb.al | apply Sb.d | refine Sb.t ?_)); done)))) ?_
  refine TL_perm ((perm_pick (i := 2) rfl).trans (List.Perm.cons _ ((perm_pick (i := 2) rfl).trans (List.Perm.cons _ ((perm_pick (i := 2) rfl).trans (List.Perm.cons _ (List.Perm.refl _))))))) ?_
  refine TL_cons rfl (TO_call0 call40 rfl rfl (hCa ?sd2004q96_0 ?sd2004q96_1 ?sd2004q96_2 ?sd2004q96_3 ?sd2004q96_4) ?_)
  case sd2004q96_0 => exact hsub.trans (by repeat (first | exact Sb.r | exact Sb.ar | exact Sb.al | apply Sb.d | refine Sb.t ?_))
  case sd2004q96_1 => omega
  case sd2004q96_2 => omega
  case sd2004q96_3 => exact hk
  case sd2004q96_4 => exact hc
  rintro v119_2005 H119_2005 ⟨A'_2005, c'_2005, nn'_2005, m'_2005, vf_2005, vl_2005, N_2005, k'_2005, cs'_2005, rfl, rfl, rfl, h_2005_0, h_2005_1, h_2005_2, h_2005_3, h_2005_4, rfl⟩
  refine TL_cons rfl (TO_alloc rfl zr97 fun g2006 => ?_)
  refine TL_cons rfl (TO_store 0 rfl rfl rfl sz97 rfl rfl rfl (List.forall_mem_cons.2 ⟨by first | rfl | exact MI_one (by assumption), List.forall_mem_cons.2 ⟨by first | rfl | exact MI_one (by assumption), List.forall_mem_cons.2 ⟨by first | rfl | exact MI_one (by assumption), by simp⟩⟩⟩) (by first | exact Nat.le_of_ble_eq_true rfl | (simp; done) | (simp; omega) | omega) ?_)
  refine TL_nil ?_
  refine T_seq ?_
  refine T_region ?_
  refine ?L21
  case L21 =>
    obtain ⟨of_, rfl⟩ := MI_map h_2005_3
    obtain ⟨ol_, rfl⟩ := MI_map h_2005_4
    refine TL_p (PV_move rfl) ?_
    refine TL_p (PV_fieldAddr (D := 1) Tryd.underlying97 rfl sz95 (by decide) rfl rfl) ?_
    refine TL_p (PV_load Tryd.underlying95 rfl rfl (Rd.at 0 rfl rfl)) ?_
    refine TL_p (PV_fieldAddr (D := 0) Tryd.underlying97 rfl sz95 (by decide) rfl rfl) ?_
    refine TL_p (PV_load Tryd.underlying95 rfl rfl (Rd.at 0 rfl rfl)) ?_
    refine TL_perm ((perm_pick (i := 1) rfl).trans (List.Perm.cons _ ((perm_pick (i := 2) rfl).trans (List.Perm.cons _ (List.Perm.refl _))))) ?_
    refine TL_cons rfl (TO_call0 call52 rfl rfl (join_t (na := pl a) (nb := pl a) (h_2005_4.weak (fun w h => h.sub (by repeat (first | exact Sb.r | exact Sb.ar | exact Sb.al | apply Sb.d | refine Sb.t ?_)))) (h_2005_3.weak (fun w h => h.sub (by repeat (first | exact Sb.r | exact Sb.ar | exact Sb.al | apply Sb.d | refine Sb.t ?_)))) (by omega)) ?_)
    rintro v125_3002 H125_3002 ⟨nn'_3002, m'_3002, rfl, h_3002_0, h_3002_1, rfl⟩
    refine TL_nil ?_
    refine T_seq ?_
    refine T_region ?_
    refine TL_p (PV_fieldAddr (D := 0) Tryd.underlying97 rfl sz95 (by decide) rfl rfl) ?_
    refine TL_p (PV_load Tryd.underlying95 rfl rfl (Rd.at 2 rfl rfl)) ?_
    refine TL_p (PV_fieldAddr (D := 1) Tryd.underlying97 rfl sz95 (by decide) rfl rfl) ?_
    refine TL_p (PV_load Tryd.underlying95 rfl rfl (Rd.at 2 rfl rfl)) ?_
    refine TL_p (PV_bld (cs := [_, _, _]) Tryd.underlying97 pl97 zr97 rfl rfl) ?_
    refine TL_cons rfl (TO_store 4 rfl rfl rfl sz97 rfl rfl rfl (all_one rfl) (by first | exact Nat.le_of_ble_eq_true rfl | (simp; done) | (simp; omega) | omega) ?_)
    refine TL_nil ?_
    refine ?L31
    case L31 =>
      refine T.perm ((perm_pick (i := 0) rfl).trans (List.Perm.cons _ ((perm_pick (i := 2) rfl).trans (List.Perm.cons _ ((perm_pick (i := 0) rfl).trans (List.Perm.cons _ ((perm_pick (i := 1) rfl).trans (List.Perm.cons _ (List.Perm.refl _))))))))) ?_
      refine T_ret ?_
      refine ret_ret (ResV_c rfl Tryd.underlying97 rfl sz97 rfl (Rds.take 3 rfl rfl rfl)) ?_
      exact ⟨_ :: _ :: _ :: (H ++ N_2005), List.Sublist.cons_cons _ (List.Sublist.cons_cons _ (List.Sublist.cons_cons _ (List.Sublist.cons _ (List.Sublist.cons _ (List.Sublist.cons _ (List.Sublist.refl _)))))), _, _, nn'_3002, m'_3002, _, _, N_2005, k + pl a, _, rfl, rfl, rfl, by omega, by simp only [nx]; omega, fun x y hx hy => by rw [h_3002_1 x y hx hy, h_2005_2 x y hx hy]; simp only [nxtP, Bool.or_assoc], h_2005_3, h_2005_4, rfl⟩
theorem make_t : ∀ {t : Rx} {v : Nv}, Tr (WH w0 B X) t v → MakeC w0 B t v X
  | .nothing, v, hv => make_nothing hv
  | .one st, v, hv => make_one hv
  | .then_ a b, v, ⟨A, c, x, y, h1, h2, h3, h4, h5⟩ => by
    subst h1
    exact make_then h2 h3 (make_t h4) (make_t h5)
  | .either a b, v, ⟨A, c, x, y, h1, h2, h3, h4, h5⟩ => by
    subst h1
    exact make_either h2 h3 (make_t h4) (make_t h5)
  | .star a, v, ⟨A, c, x, h1, h2, h3, h4⟩ => by
    subst h1
    exact make_star h2 h3 (make_t h4)
end
end Go.Proofs.YtijpbpnfachlkaaDoor.SL
