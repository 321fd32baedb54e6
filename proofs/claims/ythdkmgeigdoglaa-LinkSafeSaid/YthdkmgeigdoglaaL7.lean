import Derived.Test.YthdkmgeigdoglaaL6
import Derived.Lib.SmallJoins
import Derived.Deep.Matrix
/- Noise, as it comes in; LinkMost, walked. No statement is proved here. -/
set_option linter.unusedVariables false
set_option linter.unusedSimpArgs false
set_option maxRecDepth 100000
set_option maxHeartbeats 8000000
namespace Go.Proofs.Ythdkmgeigdoglaa.SL
open Go Go.RowKit
section
variable {w0 : World} {B : Nat} {H X : List Chunk}
theorem cell_lt' {w : World} {a : Addr} {v : Value} (h : w.cell? a = some v) : a.block < w.heap.size := by
  by_cases hlt : a.block < w.heap.size
  · exact hlt
  · simp [World.cell?, Array.getElem?_eq_none (show w.heap.size ≤ a.block by omega)] at h
theorem shows_cells' {w0 : World} {H : List Chunk} {A : Option Addr} {m es : Nat} {ys : List Value} (hl : ys.length = m * es) (h : ∀ j v, ys[j]? = some v → ∃ p, A = some p ∧ w0.cell? (p.add j) = some v) : Shows (WH w0 w0.heap.size H) A m es ys := fun w ⟨HX, hr⟩ => by
  refine ⟨hl, fun j v hj => ?_⟩
  obtain ⟨p, e, hc⟩ := h j v hj
  exact ⟨p, e, hr.old hc (cell_lt' hc)⟩
theorem nzCells_inv : ∀ (ns : List Nz) (j : Nat) (v : Value), (nzCells ns)[j]? = some v → ∃ (i : Nat) (z : Nz), ns[i]? = some z ∧ (j = i * 3 ∧ v = .bool z.lost ∨ j = i * 3 + 1 ∧ v = .int .i64 z.at_ ∨ j = i * 3 + 2 ∧ v = .int .u8 z.by_)
  | [], j, v, h => by simp [nzCells] at h
  | z :: zs, 0, v, h => ⟨0, z, rfl, .inl ⟨rfl, by simpa [nzCells] using h.symm⟩⟩
  | z :: zs, 1, v, h => ⟨0, z, rfl, .inr (.inl ⟨rfl, by simpa [nzCells] using h.symm⟩)⟩
  | z :: zs, 2, v, h => ⟨0, z, rfl, .inr (.inr ⟨rfl, by simpa [nzCells] using h.symm⟩)⟩
  | z :: zs, j + 3, v, h => by
    obtain ⟨i, y, hi, hv⟩ := nzCells_inv zs j v (by simpa [nzCells] using h)
    refine ⟨i + 1, y, by simpa using hi, ?_⟩
    rcases hv with ⟨h1, h2⟩ | ⟨h1, h2⟩ | ⟨h1, h2⟩
    · exact .inl ⟨by omega, h2⟩
    · exact .inr (.inl ⟨by omega, h2⟩)
    · exact .inr (.inr ⟨by omega, h2⟩)
instance : Inhabited Nz := ⟨⟨false, 0, 0⟩⟩
theorem open_noise {K : Type} {enc : TypeId × Value → K} {w : World} {base : Nat} {a : Option Addr} {len cap : Nat} {d : DataW K} {ps : List MemPlace} (h : DataW.Trod enc Try.prog w base (fun _ => true) true 114 (.slice a len cap) d ps) : ∃ ns : List Nz, ns.length = len ∧ len ≤ cap ∧ len ≤ maxLen ∧ ∀ H, Shows (WH w w.heap.size H) a len 3 (nzCells ns) := by
  obtain ⟨fuel, hf⟩ := h
  have hC : Try.prog.cellsOf 119 = 3 := by kernel_rfl
  rcases Go.Deep.open_slice Try.underlying114 hf with ⟨hcs, _⟩ | ⟨x, l, c, m, n, D, Pl, hcs, _, hlc, hmx, hmm, _, hall⟩
  · simp [Value.cells] at hcs
    obtain ⟨rfl, rfl, rfl⟩ := hcs
    exact ⟨[], rfl, Nat.le_refl _, Nat.zero_le _, fun H w hw => ⟨rfl, fun j v h => by simp [nzCells] at h⟩⟩
  · simp [Value.cells] at hcs
    obtain ⟨rfl, rfl, rfl⟩ := hcs
    rw [if_pos rfl] at hmm
    have key : ∀ i, i < len → ∃ z : Nz, w.cell? (x.add (i * 3)) = some (.bool z.lost) ∧ w.cell? (x.add (i * 3 + 1)) = some (.int .i64 z.at_) ∧ w.cell? (x.add (i * 3 + 2)) = some (.int .u8 z.by_) := by
      intro i hi
      obtain ⟨cs', h1, h2⟩ := hall i (by omega)
      rw [hC] at h1
      obtain ⟨y0, y1, y2, n', _, hl3, t0, t1, t2⟩ := Go.Deep.trod_struct3 Try.underlying119 h2
      obtain ⟨b, e0, _⟩ := DataW.trod_bool Try.underlying4 t0
      obtain ⟨p, e1, _, _⟩ := DataW.trod_int Try.underlying3 t1
      obtain ⟨q, e2, _, _⟩ := DataW.trod_int Try.underlying5 t2
      have hc := (World.cells?_some h1).2.2
      rw [hC] at hl3
      obtain ⟨v0, v1, v2, rfl⟩ : ∃ v0 v1 v2, cs' = [v0, v1, v2] := by
        match cs', hl3 with
        | [u0, u1, u2], _ => exact ⟨_, _, _, rfl⟩
      simp [show Try.prog.cellsOf 4 = 1 by kernel_rfl] at e0
      simp [show Try.prog.cellsOf 3 = 1 by kernel_rfl] at e1
      simp [show Try.prog.cellsOf 5 = 1 by kernel_rfl] at e2
      subst e0 e1 e2
      refine ⟨⟨b, p, q⟩, ?_, ?_, ?_⟩
      · have := hc 0 (by decide)
        rw [Go.Deep.add_add] at this
        exact this
      · have := hc 1 (by decide)
        rw [Go.Deep.add_add] at this
        exact this
      · have := hc 2 (by decide)
        rw [Go.Deep.add_add] at this
        exact this
    obtain ⟨f, hf2⟩ := Go.Deep.choose_lt key
    refine ⟨(List.range len).map f, by simp, hlc, by omega, fun H => shows_cells' (by rw [nzCells_len]; simp) fun j v hj => ?_⟩
    obtain ⟨i, z, hi, hv⟩ := nzCells_inv _ j v hj
    rw [List.getElem?_map] at hi
    obtain ⟨r, hr, rfl⟩ := Option.map_eq_some_iff.1 hi
    obtain ⟨hr1, hr2⟩ := List.getElem?_eq_some_iff.1 hr
    simp only [List.getElem_range] at hr2
    subst hr2
    simp only [List.length_range] at hr1
    obtain ⟨k0, k1, k2⟩ := hf2 i hr1
    refine ⟨x, rfl, ?_⟩
    rcases hv with ⟨rfl, rfl⟩ | ⟨rfl, rfl⟩ | ⟨rfl, rfl⟩
    · exact k0
    · exact k1
    · exact k2
theorem shows_pre {W : World → Prop} {A : Option Addr} {m k : Nat} {xs ys : List Int} (h : Shows W A m 1 (nums .u8 ys)) (hk : k ≤ m) (hp : ys.take k = xs) : Shows W A k 1 (nums .u8 xs) := by
  have := h.upto k hk
  rw [Nat.mul_one] at this
  unfold nums at *
  rw [← hp, List.map_take]
  exact this
theorem run_fit {qs : List (List Int)} (ns : List Nz) : ∀ (n : Nat) {x : Lk}, x.Fit qs → (x.run ns n).Fit qs
  | 0, x, h => h
  | n + 1, x, h => by
    cases ho : x.isOver with
    | true => rw [run_over ho]; exact ⟨h.s, h.q, h.r, h.ul, h.uu, h.sl⟩
    | false => rw [run_step ho]; exact run_fit ns n (h.next ns)
theorem T_mid3 {P : Program} {n : Nat} {Q : Exit → Fr → List Chunk → Prop} {fr : Fr} {α0 α1 α2 : Type} {c y : Code} (inv : α0 → α1 → α2 → Prop) (F : α0 → α1 → α2 → Fr) (HH : α0 → α1 → α2 → List Chunk)
    (h1 : T P w0 B n c (Then (fun f h => ∃ a0 a1 a2, inv a0 a1 a2 ∧ FrSub (F a0 a1 a2) f ∧ Has h (HH a0 a1 a2)) Q) fr H) (h2 : ∀ a0 a1 a2, inv a0 a1 a2 → T P w0 B n y Q (F a0 a1 a2) (HH a0 a1 a2)) : T P w0 B n c (Then (fun f h => T P w0 B n y Q f h) Q) fr H := by
  refine h1.mono ?_
  rintro e f h hq
  cases e with
  | normal =>
    obtain ⟨a0, a1, a2, hi, hf, h3, p, s⟩ := hq
    exact T.weaken hf (T.perm p (T.drop s (h2 a0 a1 a2 hi)))
  | _ => exact hq
theorem LinkMost_t {A An : Option Addr} {m c cn mz : Nat} {l : List Int} {ns : List Nz} (a b : Int) (mn M : Nat) (hS : Shows (WH w0 B H) A m 1 (nums .u8 l)) (hlm : l.length = m) (hl : m ≤ 9223372036854775807) (hc : m ≤ c) (hu : U8s l) (hmn : mn ≤ 255) (hN : Shows (WH w0 B H) An mz 3 (nzCells ns)) (hmz : ns.length = mz) (hM : M ≤ 255) :
    TCall Try.prog w0 B 32 #[.agg #[.int .i64 a, .int .i64 b], .slice A m c, .int .u8 (mn : Int), .slice An mz cn, .int .u8 (M : Int)] (fun r H' => r = .bool true ∧ H' = H) H := by
  have hq : ∀ q ∈ blksL l false (mn % 5), U8s q ∧ (q.length = 128 ∨ q.length = 1024) := blksL_num (by omega)
  have hln : (blksL l false (mn % 5)).length = mn % 5 := blksL_len _ _ _
  obtain ⟨fx, hfx⟩ : ∃ x, (Lk.start (Sn.of a b (blksL l false (mn % 5)) true true) (Rc.of a b 1 true true 1)).run ns M = x := ⟨_, rfl⟩
  obtain ⟨fy, hfy⟩ : ∃ x, (Lk.start (Sn.of a b (blksL l false (mn % 5)) true true) (Rc.of a b 1 true true 1)).run ns (M + 7) = x := ⟨_, rfl⟩
  have g1 := (run_more ns M (Lk.start (Sn.of a b (blksL l false (mn % 5)) true true) (Rc.of a b 1 true true 1))).1
  have g2 := (run_more ns (M + 7) (Lk.start (Sn.of a b (blksL l false (mn % 5)) true true) (Rc.of a b 1 true true 1))).1
  have g3 := run_leads (ns := ns) (x := Lk.start (Sn.of a b (blksL l false (mn % 5)) true true) (Rc.of a b 1 true true 1)) rfl M 7
  rw [hfx] at g1 g3
  rw [hfy] at g2 g3
  have g1' : fx.ticks ≤ M := by have h0 : (Lk.start (Sn.of a b (blksL l false (mn % 5)) true true) (Rc.of a b 1 true true 1)).ticks = 0 := rfl; omega
  have g2' : fy.ticks ≤ M + 7 := by have h0 : (Lk.start (Sn.of a b (blksL l false (mn % 5)) true true) (Rc.of a b 1 true true 1)).ticks = 0 := rfl; omega
  obtain ⟨g4, g5, g6, g7⟩ := g3
  have g8 := g6.length_le
  have hst := start_fit (a := a) (b := b) (a' := a) (b' := b) (number := 1) (many := 1) (crc := true) (close := true) (by omega) hq (by decide)
  have hdl1 : fx.r.dat.length ≤ 500000 := by
    have h0 := (run_fit ns M hst).r.dl
    rw [hfx] at h0
    omega
  have hdl2 : fy.r.dat.length ≤ 500000 := by
    have h0 := (run_fit ns (M + 7) hst).r.dl
    rw [hfy] at h0
    omega
  have e26 : Value.int .i64 (IntKind.i64.wrap (M : Int)) = .int .i64 (M : Int) := wr64n M rfl (by omega)
  have e36 : Value.int .i64 (IntKind.i64.wrap ((M : Int) + 7)) = .int .i64 ((M + 7 : Nat) : Int) := wr64n (M + 7) rfl (by omega)
  have hpre : fy.r.dat.take fx.r.dat.length = fx.r.dat := (List.prefix_iff_eq_take.1 g6).symm
  have hfl : fx.r.dat.length ≤ 500000 ∧ fy.r.dat.length ≤ 500000 := ⟨hdl1, hdl2⟩
  refine TCall_intro (args := [_, _, _, _, _]) Try.func32 rfl Try.ntmps32 (Nat.le_of_ble_eq_true rfl) ?_
  refine T_seq ?_
  refine T_region ?_
  refine TL_cons rfl (TO_box rfl rfl fun g1 => ?_)
  refine TL_pure (d := (some 10)) rfl rfl rfl (PV_assign rfl) ?_
  refine TL_nil ?_
  refine T_seq ?_
  refine T_seq ?_
  refine T_region ?_
  refine TL_cons rfl (TO_call0 call79 rfl rfl (t79) ?_)
  rintro v14_4 H14_4 ⟨rfl, rfl⟩
  refine TL_pure (d := (some 15)) rfl rfl rfl (PV_not rfl) ?_
  refine TL_nil ?_
  refine T_else rfl (by rfl) ?_
  refine T_skip ?_
  refine T_seq ?_
  refine T_region ?_
  refine TL_pure (d := (some 16)) rfl rfl rfl (PV_move rfl) ?_
  refine TL_pure (d := (some 17)) rfl rfl rfl (PV_move rfl) ?_
  refine TL_cons rfl (TO_call0 call57 rfl rfl (t57 mn false (Shows.mono hS (fun w h => h.sub (by (repeat (first | exact List.Sublist.refl _ | exact List.sublist_append_right _ _ | exact List.sublist_append_left _ _ | apply List.Sublist.cons | refine List.Sublist.trans ?_ (List.sublist_append_left _ _))); done))) ?sd6q136_1 ?sd6q136_2 ?sd6q136_3 ?sd6q136_4 ?sd6q136_5) ?_)
  case sd6q136_1 => omega
  case sd6q136_2 => exact hl
  case sd6q136_3 => exact hc
  case sd6q136_4 => exact hu
  case sd6q136_5 => exact hmn
  rintro v18_7 H18_7 ⟨A'_7, c'_7, N_7, rfl, h_7_0, rfl⟩
  refine TL_pure (d := (some 11)) rfl rfl rfl (PV_assign rfl) ?_
  refine TL_nil ?_
  refine T_seq ?_
  refine ?L1
  case L1 =>
    refine T_mid3 (fun (gx : Nat) (Ax : Option Addr) (kx : Nat) => fx.r.dat.length ≤ kx) (fun gx Ax kx => [(3, .slice An mz cn), (4, .int .u8 (M : Int)), (5, .pointer (some ⟨g1, 0, none⟩)), (10, .bool false), (11, .slice A'_7 (mn % 5) c'_7), (12, .pointer (some ⟨gx, 0, none⟩))]) (fun gx Ax kx => .own gx 6 [.bool fx.ov, errV fx.e1, errR fx.e2, .slice Ax fx.r.dat.length kx, .int .i64 (fx.ticks : Int), .int .i64 (fx.sent : Int)] :: byC Ax kx fx.r.dat :: .own g1 2 [.int .i64 a, .int .i64 b] :: (H ++ N_7)) ?_ ?_
    · refine T_drawn (WH _ _ _) mixed (fun w h => h) ?_
      refine TA_take (dd := (some 19)) 0 rfl (by kernel_rfl) (by kernel_rfl) (by kernel_rfl) rfl rfl rfl (PV_loadAt Try.underlying79 rfl sz79 rfl (Rds.take 0 rfl rfl rfl)) ?_
      refine TA_take (dd := (some 20)) 1 rfl (by kernel_rfl) (by kernel_rfl) (by kernel_rfl) rfl rfl rfl (PV_move rfl) ?_
      refine TA_take (dd := (some 22)) 3 rfl (by kernel_rfl) (by kernel_rfl) (by kernel_rfl) rfl rfl rfl (PV_loadAt Try.underlying79 rfl sz79 rfl (Rds.take 0 rfl rfl rfl)) ?_
      refine TA_take (dd := (some 24)) 5 rfl (by kernel_rfl) (by kernel_rfl) (by kernel_rfl) rfl rfl rfl (PV_move rfl) ?_
      refine TA_take (dd := (some 25)) 6 rfl (by kernel_rfl) (by kernel_rfl) (by kernel_rfl) rfl rfl rfl (PV_move rfl) ?_
      refine TA_take (dd := (some 26)) 7 rfl (by kernel_rfl) (by kernel_rfl) (by kernel_rfl) rfl rfl rfl (PV.cast (PV_conv (by rw [Try.underlying5]; rfl) Try.underlying3 rfl) e26) ?_
      refine TA_hardG (rs := [2, 9]) (by kernel_rfl) (by decide) ?_
      refine List.forall_mem_cons.2 ⟨?w10001q141_2, List.forall_mem_cons.2 ⟨?w10001q141_9, by simp⟩⟩
      refine ⟨_, rfl, Or.inl rfl, (TO_call0 call58 rfl rfl (t58 _ _ _ _ h_7_0 ?sd10004q141_5 ?sd10004q141_6 ?sd10004q141_7) ?_)⟩
      case sd10004q141_5 => omega
      case sd10004q141_6 => omega
      case sd10004q141_7 => with_reducible assumption
      rintro v21_10005 H21_10005 ⟨g_10005, A'_10005, c'_10005, N_10005, rfl, h_10005_0, rfl⟩
      refine ⟨by intro w h; first | exact h | exact trivial | (refine WH.sub h ?_; (repeat (first | exact List.Sublist.refl _ | exact List.sublist_append_right _ _ | exact List.sublist_append_left _ _ | apply List.Sublist.cons | refine List.Sublist.trans ?_ (List.sublist_append_left _ _))); done) | (refine WH.sub h ?_; (repeat (first | exact List.Sublist.refl _ | exact List.sublist_append_right _ _ | exact List.sublist_append_left _ _ | apply List.Sublist.cons_cons | apply List.Sublist.cons | refine List.Sublist.trans ?_ (List.sublist_append_left _ _))); done), ?_⟩
      refine TA_hardG (rs := [4, 9]) (by kernel_rfl) (by decide) ?_
      refine List.forall_mem_cons.2 ⟨?w10006q141_4, List.forall_mem_cons.2 ⟨?w10006q141_9, by simp⟩⟩
      refine ⟨_, rfl, Or.inl rfl, (TO_call0 call69 rfl rfl (t69 _ _ _ _ _ _) ?_)⟩
      rintro v23_10010 H23_10010 ⟨g_10010, rfl, rfl⟩
      refine ⟨by intro w h; first | exact h | exact trivial | (refine WH.sub h ?_; (repeat (first | exact List.Sublist.refl _ | exact List.sublist_append_right _ _ | exact List.sublist_append_left _ _ | apply List.Sublist.cons | refine List.Sublist.trans ?_ (List.sublist_append_left _ _))); done) | (refine WH.sub h ?_; (repeat (first | exact List.Sublist.refl _ | exact List.sublist_append_right _ _ | exact List.sublist_append_left _ _ | apply List.Sublist.cons_cons | apply List.Sublist.cons | refine List.Sublist.trans ?_ (List.sublist_append_left _ _))); done), ?_⟩
      refine TA_hardG (rs := [8, 9]) (by kernel_rfl) (by decide) ?_
      refine List.forall_mem_cons.2 ⟨?w10011q141_8, List.forall_mem_cons.2 ⟨?w10011q141_9, by simp⟩⟩
      refine ⟨_, rfl, Or.inl rfl, TO_perm ((perm_pick (i := 3) rfl).trans (List.Perm.cons _ ((perm_pick (i := 0) rfl).trans (List.Perm.cons _ ((perm_pick (i := 0) rfl).trans (List.Perm.cons _ ((perm_pick (i := 0) rfl).trans (List.Perm.cons _ (List.Perm.refl _))))))))) (TO_call0 call80 rfl rfl (t80m fx (Shows.mono hN (fun w h => h.sub (by (repeat (first | exact List.Sublist.refl _ | exact List.sublist_append_right _ _ | exact List.sublist_append_left _ _ | apply List.Sublist.cons | refine List.Sublist.trans ?_ (List.sublist_append_left _ _))); done))) ?sd10014q141_1 ?sd10014q141_2 ?sd10014q141_3 ?sd10014q141_4 ?sd10014q141_5 ?sd10014q141_6) ?_)⟩
      case sd10014q141_1 => omega
      case sd10014q141_2 => exact h_10005_0
      case sd10014q141_3 => omega
      case sd10014q141_4 => with_reducible assumption
      case sd10014q141_5 => omega
      case sd10014q141_6 => omega
      rintro v27_10015 H27_10015 ⟨A_10015, k_10015, rfl, h_10015_0, rfl⟩
      refine ⟨by intro w h; first | exact h | exact trivial | (refine WH.sub h ?_; (repeat (first | exact List.Sublist.refl _ | exact List.sublist_append_right _ _ | exact List.sublist_append_left _ _ | apply List.Sublist.cons | refine List.Sublist.trans ?_ (List.sublist_append_left _ _))); done) | (refine WH.sub h ?_; (repeat (first | exact List.Sublist.refl _ | exact List.sublist_append_right _ _ | exact List.sublist_append_left _ _ | apply List.Sublist.cons_cons | apply List.Sublist.cons | refine List.Sublist.trans ?_ (List.sublist_append_left _ _))); done), ?_⟩
      refine TA_one 9 (by kernel_rfl) rfl rfl (TO_alloc rfl zr116 fun g10016 => ?_)
      refine ⟨by intro w h; first | exact h | exact trivial | (refine WH.sub h ?_; (repeat (first | exact List.Sublist.refl _ | exact List.sublist_append_right _ _ | exact List.sublist_append_left _ _ | apply List.Sublist.cons | refine List.Sublist.trans ?_ (List.sublist_append_left _ _))); done) | (refine WH.sub h ?_; (repeat (first | exact List.Sublist.refl _ | exact List.sublist_append_right _ _ | exact List.sublist_append_left _ _ | apply List.Sublist.cons_cons | apply List.Sublist.cons | refine List.Sublist.trans ?_ (List.sublist_append_left _ _))); done), ?_⟩
      refine TA_one 10 (by kernel_rfl) rfl rfl (TO_store 0 rfl rfl rfl sz116 rfl rfl rfl (List.forall_mem_cons.2 ⟨by first | rfl | exact errV_one _ | exact errR_one _, List.forall_mem_cons.2 ⟨by first | rfl | exact errV_one _ | exact errR_one _, List.forall_mem_cons.2 ⟨by first | rfl | exact errV_one _ | exact errR_one _, List.forall_mem_cons.2 ⟨by first | rfl | exact errV_one _ | exact errR_one _, List.forall_mem_cons.2 ⟨by first | rfl | exact errV_one _ | exact errR_one _, List.forall_mem_cons.2 ⟨by first | rfl | exact errV_one _ | exact errR_one _, by simp⟩⟩⟩⟩⟩⟩) (by first | exact Nat.le_of_ble_eq_true rfl | (simp; done) | (simp; omega) | omega) ?_)
      refine ⟨by intro w h; first | exact h | exact trivial | (refine WH.sub h ?_; (repeat (first | exact List.Sublist.refl _ | exact List.sublist_append_right _ _ | exact List.sublist_append_left _ _ | apply List.Sublist.cons | refine List.Sublist.trans ?_ (List.sublist_append_left _ _))); done) | (refine WH.sub h ?_; (repeat (first | exact List.Sublist.refl _ | exact List.sublist_append_right _ _ | exact List.sublist_append_left _ _ | apply List.Sublist.cons_cons | apply List.Sublist.cons | refine List.Sublist.trans ?_ (List.sublist_append_left _ _))); done), ?_⟩
      refine TA_done (by kernel_rfl) ?_
      refine ?L101
      rotate_left 1
      refine ⟨_, rfl, Or.inl rfl, (TO_alloc rfl zr116 fun g10013 => ?_)⟩
      refine ⟨by intro w h; first | exact h | exact trivial | (refine WH.sub h ?_; (repeat (first | exact List.Sublist.refl _ | exact List.sublist_append_right _ _ | exact List.sublist_append_left _ _ | apply List.Sublist.cons | refine List.Sublist.trans ?_ (List.sublist_append_left _ _))); done) | (refine WH.sub h ?_; (repeat (first | exact List.Sublist.refl _ | exact List.sublist_append_right _ _ | exact List.sublist_append_left _ _ | apply List.Sublist.cons_cons | apply List.Sublist.cons | refine List.Sublist.trans ?_ (List.sublist_append_left _ _))); done), ?_⟩
      refine TA_perm ((perm_pick (i := 4) rfl).trans (List.Perm.cons _ ((perm_pick (i := 1) rfl).trans (List.Perm.cons _ ((perm_pick (i := 1) rfl).trans (List.Perm.cons _ ((perm_pick (i := 1) rfl).trans (List.Perm.cons _ (List.Perm.refl _))))))))) ?_
      refine TA_one 8 (by kernel_rfl) rfl rfl (TO_call0 call80 rfl rfl (t80m fx (Shows.mono hN (fun w h => h.sub (by (repeat (first | exact List.Sublist.refl _ | exact List.sublist_append_right _ _ | exact List.sublist_append_left _ _ | apply List.Sublist.cons | refine List.Sublist.trans ?_ (List.sublist_append_left _ _))); done))) ?sd10019q141_1 ?sd10019q141_2 ?sd10019q141_3 ?sd10019q141_4 ?sd10019q141_5 ?sd10019q141_6) ?_)
      case sd10019q141_1 => omega
      case sd10019q141_2 => exact SBlk.mono h_10005_0 (fun w h => h.sub (by (repeat (first | exact List.Sublist.refl _ | exact List.sublist_append_right _ _ | exact List.sublist_append_left _ _ | apply List.Sublist.cons | refine List.Sublist.trans ?_ (List.sublist_append_left _ _))); done))
      case sd10019q141_3 => omega
      case sd10019q141_4 => with_reducible assumption
      case sd10019q141_5 => omega
      case sd10019q141_6 => omega
      rintro v27_10020 H27_10020 ⟨A_10020, k_10020, rfl, h_10020_0, rfl⟩
      refine ⟨by intro w h; first | exact h | exact trivial | (refine WH.sub h ?_; (repeat (first | exact List.Sublist.refl _ | exact List.sublist_append_right _ _ | exact List.sublist_append_left _ _ | apply List.Sublist.cons | refine List.Sublist.trans ?_ (List.sublist_append_left _ _))); done) | (refine WH.sub h ?_; (repeat (first | exact List.Sublist.refl _ | exact List.sublist_append_right _ _ | exact List.sublist_append_left _ _ | apply List.Sublist.cons_cons | apply List.Sublist.cons | refine List.Sublist.trans ?_ (List.sublist_append_left _ _))); done), ?_⟩
      refine TA_one 10 (by kernel_rfl) rfl rfl (TO_store 1 rfl rfl rfl sz116 rfl rfl rfl (List.forall_mem_cons.2 ⟨by first | rfl | exact errV_one _ | exact errR_one _, List.forall_mem_cons.2 ⟨by first | rfl | exact errV_one _ | exact errR_one _, List.forall_mem_cons.2 ⟨by first | rfl | exact errV_one _ | exact errR_one _, List.forall_mem_cons.2 ⟨by first | rfl | exact errV_one _ | exact errR_one _, List.forall_mem_cons.2 ⟨by first | rfl | exact errV_one _ | exact errR_one _, List.forall_mem_cons.2 ⟨by first | rfl | exact errV_one _ | exact errR_one _, by simp⟩⟩⟩⟩⟩⟩) (by first | exact Nat.le_of_ble_eq_true rfl | (simp; done) | (simp; omega) | omega) ?_)
      refine ⟨by intro w h; first | exact h | exact trivial | (refine WH.sub h ?_; (repeat (first | exact List.Sublist.refl _ | exact List.sublist_append_right _ _ | exact List.sublist_append_left _ _ | apply List.Sublist.cons | refine List.Sublist.trans ?_ (List.sublist_append_left _ _))); done) | (refine WH.sub h ?_; (repeat (first | exact List.Sublist.refl _ | exact List.sublist_append_right _ _ | exact List.sublist_append_left _ _ | apply List.Sublist.cons_cons | apply List.Sublist.cons | refine List.Sublist.trans ?_ (List.sublist_append_left _ _))); done), ?_⟩
      refine TA_done (by kernel_rfl) ?_
      refine ?L102
      rotate_left 1
      refine ⟨_, rfl, Or.inl rfl, (TO_alloc rfl zr116 fun g10008 => ?_)⟩
      refine ⟨by intro w h; first | exact h | exact trivial | (refine WH.sub h ?_; (repeat (first | exact List.Sublist.refl _ | exact List.sublist_append_right _ _ | exact List.sublist_append_left _ _ | apply List.Sublist.cons | refine List.Sublist.trans ?_ (List.sublist_append_left _ _))); done) | (refine WH.sub h ?_; (repeat (first | exact List.Sublist.refl _ | exact List.sublist_append_right _ _ | exact List.sublist_append_left _ _ | apply List.Sublist.cons_cons | apply List.Sublist.cons | refine List.Sublist.trans ?_ (List.sublist_append_left _ _))); done), ?_⟩
      refine TA_one 4 (by kernel_rfl) rfl rfl (TO_call0 call69 rfl rfl (t69 _ _ _ _ _ _) ?_)
      rintro v23_10024 H23_10024 ⟨g_10024, rfl, rfl⟩
      refine ⟨by intro w h; first | exact h | exact trivial | (refine WH.sub h ?_; (repeat (first | exact List.Sublist.refl _ | exact List.sublist_append_right _ _ | exact List.sublist_append_left _ _ | apply List.Sublist.cons | refine List.Sublist.trans ?_ (List.sublist_append_left _ _))); done) | (refine WH.sub h ?_; (repeat (first | exact List.Sublist.refl _ | exact List.sublist_append_right _ _ | exact List.sublist_append_left _ _ | apply List.Sublist.cons_cons | apply List.Sublist.cons | refine List.Sublist.trans ?_ (List.sublist_append_left _ _))); done), ?_⟩
      refine TA_perm ((perm_pick (i := 4) rfl).trans (List.Perm.cons _ ((perm_pick (i := 0) rfl).trans (List.Perm.cons _ ((perm_pick (i := 0) rfl).trans (List.Perm.cons _ ((perm_pick (i := 0) rfl).trans (List.Perm.cons _ (List.Perm.refl _))))))))) ?_
      refine TA_one 8 (by kernel_rfl) rfl rfl (TO_call0 call80 rfl rfl (t80m fx (Shows.mono hN (fun w h => h.sub (by (repeat (first | exact List.Sublist.refl _ | exact List.sublist_append_right _ _ | exact List.sublist_append_left _ _ | apply List.Sublist.cons | refine List.Sublist.trans ?_ (List.sublist_append_left _ _))); done))) ?sd10026q141_1 ?sd10026q141_2 ?sd10026q141_3 ?sd10026q141_4 ?sd10026q141_5 ?sd10026q141_6) ?_)
      case sd10026q141_1 => omega
      case sd10026q141_2 => exact SBlk.mono h_10005_0 (fun w h => h.sub (by (repeat (first | exact List.Sublist.refl _ | exact List.sublist_append_right _ _ | exact List.sublist_append_left _ _ | apply List.Sublist.cons | refine List.Sublist.trans ?_ (List.sublist_append_left _ _))); done))
      case sd10026q141_3 => omega
      case sd10026q141_4 => with_reducible assumption
      case sd10026q141_5 => omega
      case sd10026q141_6 => omega
      rintro v27_10027 H27_10027 ⟨A_10027, k_10027, rfl, h_10027_0, rfl⟩
      refine ⟨by intro w h; first | exact h | exact trivial | (refine WH.sub h ?_; (repeat (first | exact List.Sublist.refl _ | exact List.sublist_append_right _ _ | exact List.sublist_append_left _ _ | apply List.Sublist.cons | refine List.Sublist.trans ?_ (List.sublist_append_left _ _))); done) | (refine WH.sub h ?_; (repeat (first | exact List.Sublist.refl _ | exact List.sublist_append_right _ _ | exact List.sublist_append_left _ _ | apply List.Sublist.cons_cons | apply List.Sublist.cons | refine List.Sublist.trans ?_ (List.sublist_append_left _ _))); done), ?_⟩
      refine TA_one 10 (by kernel_rfl) rfl rfl (TO_store 1 rfl rfl rfl sz116 rfl rfl rfl (List.forall_mem_cons.2 ⟨by first | rfl | exact errV_one _ | exact errR_one _, List.forall_mem_cons.2 ⟨by first | rfl | exact errV_one _ | exact errR_one _, List.forall_mem_cons.2 ⟨by first | rfl | exact errV_one _ | exact errR_one _, List.forall_mem_cons.2 ⟨by first | rfl | exact errV_one _ | exact errR_one _, List.forall_mem_cons.2 ⟨by first | rfl | exact errV_one _ | exact errR_one _, List.forall_mem_cons.2 ⟨by first | rfl | exact errV_one _ | exact errR_one _, by simp⟩⟩⟩⟩⟩⟩) (by first | exact Nat.le_of_ble_eq_true rfl | (simp; done) | (simp; omega) | omega) ?_)
      refine ⟨by intro w h; first | exact h | exact trivial | (refine WH.sub h ?_; (repeat (first | exact List.Sublist.refl _ | exact List.sublist_append_right _ _ | exact List.sublist_append_left _ _ | apply List.Sublist.cons | refine List.Sublist.trans ?_ (List.sublist_append_left _ _))); done) | (refine WH.sub h ?_; (repeat (first | exact List.Sublist.refl _ | exact List.sublist_append_right _ _ | exact List.sublist_append_left _ _ | apply List.Sublist.cons_cons | apply List.Sublist.cons | refine List.Sublist.trans ?_ (List.sublist_append_left _ _))); done), ?_⟩
      refine TA_done (by kernel_rfl) ?_
      refine ?L103
      rotate_left 1
      refine ⟨_, rfl, Or.inl rfl, (TO_alloc rfl zr116 fun g10003 => ?_)⟩
      refine ⟨by intro w h; first | exact h | exact trivial | (refine WH.sub h ?_; (repeat (first | exact List.Sublist.refl _ | exact List.sublist_append_right _ _ | exact List.sublist_append_left _ _ | apply List.Sublist.cons | refine List.Sublist.trans ?_ (List.sublist_append_left _ _))); done) | (refine WH.sub h ?_; (repeat (first | exact List.Sublist.refl _ | exact List.sublist_append_right _ _ | exact List.sublist_append_left _ _ | apply List.Sublist.cons_cons | apply List.Sublist.cons | refine List.Sublist.trans ?_ (List.sublist_append_left _ _))); done), ?_⟩
      refine TA_one 2 (by kernel_rfl) rfl rfl (TO_call0 call58 rfl rfl (t58 _ _ _ _ ?sd10030q141_4 hln ?sd10030q141_6 ?sd10030q141_7) ?_)
      case sd10030q141_4 => exact SBlk.mono h_7_0 (fun w h => h.sub (by (repeat (first | exact List.Sublist.refl _ | exact List.sublist_append_right _ _ | exact List.sublist_append_left _ _ | apply List.Sublist.cons | refine List.Sublist.trans ?_ (List.sublist_append_left _ _))); done))
      case sd10030q141_6 => omega
      case sd10030q141_7 => with_reducible assumption
      rintro v21_10031 H21_10031 ⟨g_10031, A'_10031, c'_10031, N_10031, rfl, h_10031_0, rfl⟩
      refine ⟨by intro w h; first | exact h | exact trivial | (refine WH.sub h ?_; (repeat (first | exact List.Sublist.refl _ | exact List.sublist_append_right _ _ | exact List.sublist_append_left _ _ | apply List.Sublist.cons | refine List.Sublist.trans ?_ (List.sublist_append_left _ _))); done) | (refine WH.sub h ?_; (repeat (first | exact List.Sublist.refl _ | exact List.sublist_append_right _ _ | exact List.sublist_append_left _ _ | apply List.Sublist.cons_cons | apply List.Sublist.cons | refine List.Sublist.trans ?_ (List.sublist_append_left _ _))); done), ?_⟩
      refine TA_one 4 (by kernel_rfl) rfl rfl (TO_call0 call69 rfl rfl (t69 _ _ _ _ _ _) ?_)
      rintro v23_10034 H23_10034 ⟨g_10034, rfl, rfl⟩
      refine ⟨by intro w h; first | exact h | exact trivial | (refine WH.sub h ?_; (repeat (first | exact List.Sublist.refl _ | exact List.sublist_append_right _ _ | exact List.sublist_append_left _ _ | apply List.Sublist.cons | refine List.Sublist.trans ?_ (List.sublist_append_left _ _))); done) | (refine WH.sub h ?_; (repeat (first | exact List.Sublist.refl _ | exact List.sublist_append_right _ _ | exact List.sublist_append_left _ _ | apply List.Sublist.cons_cons | apply List.Sublist.cons | refine List.Sublist.trans ?_ (List.sublist_append_left _ _))); done), ?_⟩
      refine TA_perm ((perm_pick (i := 3) rfl).trans (List.Perm.cons _ ((perm_pick (i := 0) rfl).trans (List.Perm.cons _ ((perm_pick (i := 0) rfl).trans (List.Perm.cons _ ((perm_pick (i := 0) rfl).trans (List.Perm.cons _ (List.Perm.refl _))))))))) ?_
      refine TA_one 8 (by kernel_rfl) rfl rfl (TO_call0 call80 rfl rfl (t80m fx (Shows.mono hN (fun w h => h.sub (by (repeat (first | exact List.Sublist.refl _ | exact List.sublist_append_right _ _ | exact List.sublist_append_left _ _ | apply List.Sublist.cons | refine List.Sublist.trans ?_ (List.sublist_append_left _ _))); done))) ?sd10036q141_1 ?sd10036q141_2 ?sd10036q141_3 ?sd10036q141_4 ?sd10036q141_5 ?sd10036q141_6) ?_)
      case sd10036q141_1 => omega
      case sd10036q141_2 => exact h_10031_0
      case sd10036q141_3 => omega
      case sd10036q141_4 => with_reducible assumption
      case sd10036q141_5 => omega
      case sd10036q141_6 => omega
      rintro v27_10037 H27_10037 ⟨A_10037, k_10037, rfl, h_10037_0, rfl⟩
      refine ⟨by intro w h; first | exact h | exact trivial | (refine WH.sub h ?_; (repeat (first | exact List.Sublist.refl _ | exact List.sublist_append_right _ _ | exact List.sublist_append_left _ _ | apply List.Sublist.cons | refine List.Sublist.trans ?_ (List.sublist_append_left _ _))); done) | (refine WH.sub h ?_; (repeat (first | exact List.Sublist.refl _ | exact List.sublist_append_right _ _ | exact List.sublist_append_left _ _ | apply List.Sublist.cons_cons | apply List.Sublist.cons | refine List.Sublist.trans ?_ (List.sublist_append_left _ _))); done), ?_⟩
      refine TA_one 10 (by kernel_rfl) rfl rfl (TO_store 1 rfl rfl rfl sz116 rfl rfl rfl (List.forall_mem_cons.2 ⟨by first | rfl | exact errV_one _ | exact errR_one _, List.forall_mem_cons.2 ⟨by first | rfl | exact errV_one _ | exact errR_one _, List.forall_mem_cons.2 ⟨by first | rfl | exact errV_one _ | exact errR_one _, List.forall_mem_cons.2 ⟨by first | rfl | exact errV_one _ | exact errR_one _, List.forall_mem_cons.2 ⟨by first | rfl | exact errV_one _ | exact errR_one _, List.forall_mem_cons.2 ⟨by first | rfl | exact errV_one _ | exact errR_one _, by simp⟩⟩⟩⟩⟩⟩) (by first | exact Nat.le_of_ble_eq_true rfl | (simp; done) | (simp; omega) | omega) ?_)
      refine ⟨by intro w h; first | exact h | exact trivial | (refine WH.sub h ?_; (repeat (first | exact List.Sublist.refl _ | exact List.sublist_append_right _ _ | exact List.sublist_append_left _ _ | apply List.Sublist.cons | refine List.Sublist.trans ?_ (List.sublist_append_left _ _))); done) | (refine WH.sub h ?_; (repeat (first | exact List.Sublist.refl _ | exact List.sublist_append_right _ _ | exact List.sublist_append_left _ _ | apply List.Sublist.cons_cons | apply List.Sublist.cons | refine List.Sublist.trans ?_ (List.sublist_append_left _ _))); done), ?_⟩
      refine TA_done (by kernel_rfl) ?_
      refine ?L104
      case L101 => exact ⟨g10016, A_10015, k_10015, by assumption, (by repeat (first | exact FrSub.nil _ | refine FrSub.cons rfl ?_)), Has.of_sub (by repeat (first | exact List.Sublist.refl _ | exact List.sublist_append_right _ _ | exact List.sublist_append_left _ _ | apply List.Sublist.cons_cons | apply List.Sublist.cons | refine List.Sublist.trans ?_ (List.sublist_append_left _ _)))⟩
      case L102 => exact ⟨g10013, A_10020, k_10020, by assumption, (by repeat (first | exact FrSub.nil _ | refine FrSub.cons rfl ?_)), Has.of_perm ((perm_pick (i := 1) rfl).trans (List.Perm.cons _ ((perm_pick (i := 0) rfl).trans (List.Perm.cons _ (List.Perm.refl _))))) (by repeat (first | exact List.Sublist.refl _ | exact List.sublist_append_right _ _ | exact List.sublist_append_left _ _ | apply List.Sublist.cons_cons | apply List.Sublist.cons | refine List.Sublist.trans ?_ (List.sublist_append_left _ _)))⟩
      case L103 => exact ⟨g10008, A_10027, k_10027, by assumption, (by repeat (first | exact FrSub.nil _ | refine FrSub.cons rfl ?_)), Has.of_perm ((perm_pick (i := 1) rfl).trans (List.Perm.cons _ ((perm_pick (i := 0) rfl).trans (List.Perm.cons _ (List.Perm.refl _))))) (by repeat (first | exact List.Sublist.refl _ | exact List.sublist_append_right _ _ | exact List.sublist_append_left _ _ | apply List.Sublist.cons_cons | apply List.Sublist.cons | refine List.Sublist.trans ?_ (List.sublist_append_left _ _)))⟩
      case L104 => exact ⟨g10003, A_10037, k_10037, by assumption, (by repeat (first | exact FrSub.nil _ | refine FrSub.cons rfl ?_)), Has.of_perm ((perm_pick (i := 1) rfl).trans (List.Perm.cons _ ((perm_pick (i := 0) rfl).trans (List.Perm.cons _ (List.Perm.refl _))))) (by repeat (first | exact List.Sublist.refl _ | exact List.sublist_append_right _ _ | exact List.sublist_append_left _ _ | apply List.Sublist.cons_cons | apply List.Sublist.cons | refine List.Sublist.trans ?_ (List.sublist_append_left _ _)))⟩
    · rintro gx Ax kx hkx
      refine T_seq ?_
      refine ?L201
      case L201 =>
        refine T_mid3 (fun (gy : Nat) (Ay : Option Addr) (ky : Nat) => fy.r.dat.length ≤ ky) (fun gy Ay ky => [(4, .int .u8 (M : Int)), (10, .bool false), (12, .pointer (some ⟨gx, 0, none⟩)), (13, .pointer (some ⟨gy, 0, none⟩))]) (fun gy Ay ky => .own gy 6 [.bool fy.ov, errV fy.e1, errR fy.e2, .slice Ay fy.r.dat.length ky, .int .i64 (fy.ticks : Int), .int .i64 (fy.sent : Int)] :: byC Ay ky fy.r.dat :: .own gx 6 [.bool fx.ov, errV fx.e1, errR fx.e2, .slice Ax fx.r.dat.length kx, .int .i64 (fx.ticks : Int), .int .i64 (fx.sent : Int)] :: byC Ax kx fx.r.dat :: H) ?_ ?_
        · refine T_drawn (WH _ _ _) mixed (fun w h => h) ?_
          refine TA_take (dd := (some 28)) 0 rfl (by kernel_rfl) (by kernel_rfl) (by kernel_rfl) rfl rfl rfl (PV_loadAt Try.underlying79 rfl sz79 rfl (Rds.take 2 rfl rfl rfl)) ?_
          refine TA_take (dd := (some 29)) 1 rfl (by kernel_rfl) (by kernel_rfl) (by kernel_rfl) rfl rfl rfl (PV_move rfl) ?_
          refine TA_take (dd := (some 31)) 3 rfl (by kernel_rfl) (by kernel_rfl) (by kernel_rfl) rfl rfl rfl (PV_loadAt Try.underlying79 rfl sz79 rfl (Rds.take 2 rfl rfl rfl)) ?_
          refine TA_take (dd := (some 33)) 5 rfl (by kernel_rfl) (by kernel_rfl) (by kernel_rfl) rfl rfl rfl (PV_move rfl) ?_
          refine TA_take (dd := (some 34)) 6 rfl (by kernel_rfl) (by kernel_rfl) (by kernel_rfl) rfl rfl rfl (PV_move rfl) ?_
          refine TA_take (dd := (some 35)) 7 rfl (by kernel_rfl) (by kernel_rfl) (by kernel_rfl) rfl rfl rfl (PV.cast (PV_conv (by rw [Try.underlying5]; rfl) Try.underlying3 rfl) e26) ?_
          refine TA_take (dd := (some 36)) 8 rfl (by kernel_rfl) (by kernel_rfl) (by kernel_rfl) rfl rfl rfl (PV.cast (PV_bin rfl rfl bin_add) e36) ?_
          refine TA_hardG (rs := [2, 10]) (by kernel_rfl) (by decide) ?_
          refine List.forall_mem_cons.2 ⟨?w30001q157_2, List.forall_mem_cons.2 ⟨?w30001q157_10, by simp⟩⟩
          refine ⟨_, rfl, Or.inl rfl, (TO_call0 call58 rfl rfl (t58 _ _ _ _ ?sd30004q157_4 hln ?sd30004q157_6 ?sd30004q157_7) ?_)⟩
          case sd30004q157_4 => exact SBlk.mono h_7_0 (fun w h => h.sub (by (repeat (first | exact List.Sublist.refl _ | exact List.sublist_append_right _ _ | exact List.sublist_append_left _ _ | apply List.Sublist.cons | refine List.Sublist.trans ?_ (List.sublist_append_left _ _))); done))
          case sd30004q157_6 => omega
          case sd30004q157_7 => with_reducible assumption
          rintro v30_30005 H30_30005 ⟨g_30005, A'_30005, c'_30005, N_30005, rfl, h_30005_0, rfl⟩
          refine ⟨by intro w h; first | exact h | exact trivial | (refine WH.sub h ?_; (repeat (first | exact List.Sublist.refl _ | exact List.sublist_append_right _ _ | exact List.sublist_append_left _ _ | apply List.Sublist.cons | refine List.Sublist.trans ?_ (List.sublist_append_left _ _))); done) | (refine WH.sub h ?_; (repeat (first | exact List.Sublist.refl _ | exact List.sublist_append_right _ _ | exact List.sublist_append_left _ _ | apply List.Sublist.cons_cons | apply List.Sublist.cons | refine List.Sublist.trans ?_ (List.sublist_append_left _ _))); done), ?_⟩
          refine TA_hardG (rs := [4, 10]) (by kernel_rfl) (by decide) ?_
          refine List.forall_mem_cons.2 ⟨?w30006q157_4, List.forall_mem_cons.2 ⟨?w30006q157_10, by simp⟩⟩
          refine ⟨_, rfl, Or.inl rfl, (TO_call0 call69 rfl rfl (t69 _ _ _ _ _ _) ?_)⟩
          rintro v32_30010 H32_30010 ⟨g_30010, rfl, rfl⟩
          refine ⟨by intro w h; first | exact h | exact trivial | (refine WH.sub h ?_; (repeat (first | exact List.Sublist.refl _ | exact List.sublist_append_right _ _ | exact List.sublist_append_left _ _ | apply List.Sublist.cons | refine List.Sublist.trans ?_ (List.sublist_append_left _ _))); done) | (refine WH.sub h ?_; (repeat (first | exact List.Sublist.refl _ | exact List.sublist_append_right _ _ | exact List.sublist_append_left _ _ | apply List.Sublist.cons_cons | apply List.Sublist.cons | refine List.Sublist.trans ?_ (List.sublist_append_left _ _))); done), ?_⟩
          refine TA_hardG (rs := [9, 10]) (by kernel_rfl) (by decide) ?_
          refine List.forall_mem_cons.2 ⟨?w30011q157_9, List.forall_mem_cons.2 ⟨?w30011q157_10, by simp⟩⟩
          refine ⟨_, rfl, Or.inl rfl, TO_perm ((perm_pick (i := 3) rfl).trans (List.Perm.cons _ ((perm_pick (i := 0) rfl).trans (List.Perm.cons _ ((perm_pick (i := 0) rfl).trans (List.Perm.cons _ ((perm_pick (i := 0) rfl).trans (List.Perm.cons _ (List.Perm.refl _))))))))) (TO_call0 call80 rfl rfl (t80m fy (Shows.mono hN (fun w h => h.sub (by (repeat (first | exact List.Sublist.refl _ | exact List.sublist_append_right _ _ | exact List.sublist_append_left _ _ | apply List.Sublist.cons | refine List.Sublist.trans ?_ (List.sublist_append_left _ _))); done))) ?sd30014q157_1 ?sd30014q157_2 ?sd30014q157_3 ?sd30014q157_4 ?sd30014q157_5 ?sd30014q157_6) ?_)⟩
          case sd30014q157_1 => omega
          case sd30014q157_2 => exact h_30005_0
          case sd30014q157_3 => omega
          case sd30014q157_4 => with_reducible assumption
          case sd30014q157_5 => omega
          case sd30014q157_6 => omega
          rintro v37_30015 H37_30015 ⟨A_30015, k_30015, rfl, h_30015_0, rfl⟩
          refine ⟨by intro w h; first | exact h | exact trivial | (refine WH.sub h ?_; (repeat (first | exact List.Sublist.refl _ | exact List.sublist_append_right _ _ | exact List.sublist_append_left _ _ | apply List.Sublist.cons | refine List.Sublist.trans ?_ (List.sublist_append_left _ _))); done) | (refine WH.sub h ?_; (repeat (first | exact List.Sublist.refl _ | exact List.sublist_append_right _ _ | exact List.sublist_append_left _ _ | apply List.Sublist.cons_cons | apply List.Sublist.cons | refine List.Sublist.trans ?_ (List.sublist_append_left _ _))); done), ?_⟩
          refine TA_one 10 (by kernel_rfl) rfl rfl (TO_alloc rfl zr116 fun g30016 => ?_)
          refine ⟨by intro w h; first | exact h | exact trivial | (refine WH.sub h ?_; (repeat (first | exact List.Sublist.refl _ | exact List.sublist_append_right _ _ | exact List.sublist_append_left _ _ | apply List.Sublist.cons | refine List.Sublist.trans ?_ (List.sublist_append_left _ _))); done) | (refine WH.sub h ?_; (repeat (first | exact List.Sublist.refl _ | exact List.sublist_append_right _ _ | exact List.sublist_append_left _ _ | apply List.Sublist.cons_cons | apply List.Sublist.cons | refine List.Sublist.trans ?_ (List.sublist_append_left _ _))); done), ?_⟩
          refine TA_one 11 (by kernel_rfl) rfl rfl (TO_store 0 rfl rfl rfl sz116 rfl rfl rfl (List.forall_mem_cons.2 ⟨by first | rfl | exact errV_one _ | exact errR_one _, List.forall_mem_cons.2 ⟨by first | rfl | exact errV_one _ | exact errR_one _, List.forall_mem_cons.2 ⟨by first | rfl | exact errV_one _ | exact errR_one _, List.forall_mem_cons.2 ⟨by first | rfl | exact errV_one _ | exact errR_one _, List.forall_mem_cons.2 ⟨by first | rfl | exact errV_one _ | exact errR_one _, List.forall_mem_cons.2 ⟨by first | rfl | exact errV_one _ | exact errR_one _, by simp⟩⟩⟩⟩⟩⟩) (by first | exact Nat.le_of_ble_eq_true rfl | (simp; done) | (simp; omega) | omega) ?_)
          refine ⟨by intro w h; first | exact h | exact trivial | (refine WH.sub h ?_; (repeat (first | exact List.Sublist.refl _ | exact List.sublist_append_right _ _ | exact List.sublist_append_left _ _ | apply List.Sublist.cons | refine List.Sublist.trans ?_ (List.sublist_append_left _ _))); done) | (refine WH.sub h ?_; (repeat (first | exact List.Sublist.refl _ | exact List.sublist_append_right _ _ | exact List.sublist_append_left _ _ | apply List.Sublist.cons_cons | apply List.Sublist.cons | refine List.Sublist.trans ?_ (List.sublist_append_left _ _))); done), ?_⟩
          refine TA_done (by kernel_rfl) ?_
          refine ?L301
          rotate_left 1
          refine ⟨_, rfl, Or.inl rfl, (TO_alloc rfl zr116 fun g30013 => ?_)⟩
          refine ⟨by intro w h; first | exact h | exact trivial | (refine WH.sub h ?_; (repeat (first | exact List.Sublist.refl _ | exact List.sublist_append_right _ _ | exact List.sublist_append_left _ _ | apply List.Sublist.cons | refine List.Sublist.trans ?_ (List.sublist_append_left _ _))); done) | (refine WH.sub h ?_; (repeat (first | exact List.Sublist.refl _ | exact List.sublist_append_right _ _ | exact List.sublist_append_left _ _ | apply List.Sublist.cons_cons | apply List.Sublist.cons | refine List.Sublist.trans ?_ (List.sublist_append_left _ _))); done), ?_⟩
          refine TA_perm ((perm_pick (i := 4) rfl).trans (List.Perm.cons _ ((perm_pick (i := 1) rfl).trans (List.Perm.cons _ ((perm_pick (i := 1) rfl).trans (List.Perm.cons _ ((perm_pick (i := 1) rfl).trans (List.Perm.cons _ (List.Perm.refl _))))))))) ?_
          refine TA_one 9 (by kernel_rfl) rfl rfl (TO_call0 call80 rfl rfl (t80m fy (Shows.mono hN (fun w h => h.sub (by (repeat (first | exact List.Sublist.refl _ | exact List.sublist_append_right _ _ | exact List.sublist_append_left _ _ | apply List.Sublist.cons | refine List.Sublist.trans ?_ (List.sublist_append_left _ _))); done))) ?sd30019q157_1 ?sd30019q157_2 ?sd30019q157_3 ?sd30019q157_4 ?sd30019q157_5 ?sd30019q157_6) ?_)
          case sd30019q157_1 => omega
          case sd30019q157_2 => exact SBlk.mono h_30005_0 (fun w h => h.sub (by (repeat (first | exact List.Sublist.refl _ | exact List.sublist_append_right _ _ | exact List.sublist_append_left _ _ | apply List.Sublist.cons | refine List.Sublist.trans ?_ (List.sublist_append_left _ _))); done))
          case sd30019q157_3 => omega
          case sd30019q157_4 => with_reducible assumption
          case sd30019q157_5 => omega
          case sd30019q157_6 => omega
          rintro v37_30020 H37_30020 ⟨A_30020, k_30020, rfl, h_30020_0, rfl⟩
          refine ⟨by intro w h; first | exact h | exact trivial | (refine WH.sub h ?_; (repeat (first | exact List.Sublist.refl _ | exact List.sublist_append_right _ _ | exact List.sublist_append_left _ _ | apply List.Sublist.cons | refine List.Sublist.trans ?_ (List.sublist_append_left _ _))); done) | (refine WH.sub h ?_; (repeat (first | exact List.Sublist.refl _ | exact List.sublist_append_right _ _ | exact List.sublist_append_left _ _ | apply List.Sublist.cons_cons | apply List.Sublist.cons | refine List.Sublist.trans ?_ (List.sublist_append_left _ _))); done), ?_⟩
          refine TA_one 11 (by kernel_rfl) rfl rfl (TO_store 1 rfl rfl rfl sz116 rfl rfl rfl (List.forall_mem_cons.2 ⟨by first | rfl | exact errV_one _ | exact errR_one _, List.forall_mem_cons.2 ⟨by first | rfl | exact errV_one _ | exact errR_one _, List.forall_mem_cons.2 ⟨by first | rfl | exact errV_one _ | exact errR_one _, List.forall_mem_cons.2 ⟨by first | rfl | exact errV_one _ | exact errR_one _, List.forall_mem_cons.2 ⟨by first | rfl | exact errV_one _ | exact errR_one _, List.forall_mem_cons.2 ⟨by first | rfl | exact errV_one _ | exact errR_one _, by simp⟩⟩⟩⟩⟩⟩) (by first | exact Nat.le_of_ble_eq_true rfl | (simp; done) | (simp; omega) | omega) ?_)
          refine ⟨by intro w h; first | exact h | exact trivial | (refine WH.sub h ?_; (repeat (first | exact List.Sublist.refl _ | exact List.sublist_append_right _ _ | exact List.sublist_append_left _ _ | apply List.Sublist.cons | refine List.Sublist.trans ?_ (List.sublist_append_left _ _))); done) | (refine WH.sub h ?_; (repeat (first | exact List.Sublist.refl _ | exact List.sublist_append_right _ _ | exact List.sublist_append_left _ _ | apply List.Sublist.cons_cons | apply List.Sublist.cons | refine List.Sublist.trans ?_ (List.sublist_append_left _ _))); done), ?_⟩
          refine TA_done (by kernel_rfl) ?_
          refine ?L302
          rotate_left 1
          refine ⟨_, rfl, Or.inl rfl, (TO_alloc rfl zr116 fun g30008 => ?_)⟩
          refine ⟨by intro w h; first | exact h | exact trivial | (refine WH.sub h ?_; (repeat (first | exact List.Sublist.refl _ | exact List.sublist_append_right _ _ | exact List.sublist_append_left _ _ | apply List.Sublist.cons | refine List.Sublist.trans ?_ (List.sublist_append_left _ _))); done) | (refine WH.sub h ?_; (repeat (first | exact List.Sublist.refl _ | exact List.sublist_append_right _ _ | exact List.sublist_append_left _ _ | apply List.Sublist.cons_cons | apply List.Sublist.cons | refine List.Sublist.trans ?_ (List.sublist_append_left _ _))); done), ?_⟩
          refine TA_one 4 (by kernel_rfl) rfl rfl (TO_call0 call69 rfl rfl (t69 _ _ _ _ _ _) ?_)
          rintro v32_30024 H32_30024 ⟨g_30024, rfl, rfl⟩
          refine ⟨by intro w h; first | exact h | exact trivial | (refine WH.sub h ?_; (repeat (first | exact List.Sublist.refl _ | exact List.sublist_append_right _ _ | exact List.sublist_append_left _ _ | apply List.Sublist.cons | refine List.Sublist.trans ?_ (List.sublist_append_left _ _))); done) | (refine WH.sub h ?_; (repeat (first | exact List.Sublist.refl _ | exact List.sublist_append_right _ _ | exact List.sublist_append_left _ _ | apply List.Sublist.cons_cons | apply List.Sublist.cons | refine List.Sublist.trans ?_ (List.sublist_append_left _ _))); done), ?_⟩
          refine TA_perm ((perm_pick (i := 4) rfl).trans (List.Perm.cons _ ((perm_pick (i := 0) rfl).trans (List.Perm.cons _ ((perm_pick (i := 0) rfl).trans (List.Perm.cons _ ((perm_pick (i := 0) rfl).trans (List.Perm.cons _ (List.Perm.refl _))))))))) ?_
          refine TA_one 9 (by kernel_rfl) rfl rfl (TO_call0 call80 rfl rfl (t80m fy (Shows.mono hN (fun w h => h.sub (by (repeat (first | exact List.Sublist.refl _ | exact List.sublist_append_right _ _ | exact List.sublist_append_left _ _ | apply List.Sublist.cons | refine List.Sublist.trans ?_ (List.sublist_append_left _ _))); done))) ?sd30026q157_1 ?sd30026q157_2 ?sd30026q157_3 ?sd30026q157_4 ?sd30026q157_5 ?sd30026q157_6) ?_)
          case sd30026q157_1 => omega
          case sd30026q157_2 => exact SBlk.mono h_30005_0 (fun w h => h.sub (by (repeat (first | exact List.Sublist.refl _ | exact List.sublist_append_right _ _ | exact List.sublist_append_left _ _ | apply List.Sublist.cons | refine List.Sublist.trans ?_ (List.sublist_append_left _ _))); done))
          case sd30026q157_3 => omega
          case sd30026q157_4 => with_reducible assumption
          case sd30026q157_5 => omega
          case sd30026q157_6 => omega
          rintro v37_30027 H37_30027 ⟨A_30027, k_30027, rfl, h_30027_0, rfl⟩
          refine ⟨by intro w h; first | exact h | exact trivial | (refine WH.sub h ?_; (repeat (first | exact List.Sublist.refl _ | exact List.sublist_append_right _ _ | exact List.sublist_append_left _ _ | apply List.Sublist.cons | refine List.Sublist.trans ?_ (List.sublist_append_left _ _))); done) | (refine WH.sub h ?_; (repeat (first | exact List.Sublist.refl _ | exact List.sublist_append_right _ _ | exact List.sublist_append_left _ _ | apply List.Sublist.cons_cons | apply List.Sublist.cons | refine List.Sublist.trans ?_ (List.sublist_append_left _ _))); done), ?_⟩
          refine TA_one 11 (by kernel_rfl) rfl rfl (TO_store 1 rfl rfl rfl sz116 rfl rfl rfl (List.forall_mem_cons.2 ⟨by first | rfl | exact errV_one _ | exact errR_one _, List.forall_mem_cons.2 ⟨by first | rfl | exact errV_one _ | exact errR_one _, List.forall_mem_cons.2 ⟨by first | rfl | exact errV_one _ | exact errR_one _, List.forall_mem_cons.2 ⟨by first | rfl | exact errV_one _ | exact errR_one _, List.forall_mem_cons.2 ⟨by first | rfl | exact errV_one _ | exact errR_one _, List.forall_mem_cons.2 ⟨by first | rfl | exact errV_one _ | exact errR_one _, by simp⟩⟩⟩⟩⟩⟩) (by first | exact Nat.le_of_ble_eq_true rfl | (simp; done) | (simp; omega) | omega) ?_)
          refine ⟨by intro w h; first | exact h | exact trivial | (refine WH.sub h ?_; (repeat (first | exact List.Sublist.refl _ | exact List.sublist_append_right _ _ | exact List.sublist_append_left _ _ | apply List.Sublist.cons | refine List.Sublist.trans ?_ (List.sublist_append_left _ _))); done) | (refine WH.sub h ?_; (repeat (first | exact List.Sublist.refl _ | exact List.sublist_append_right _ _ | exact List.sublist_append_left _ _ | apply List.Sublist.cons_cons | apply List.Sublist.cons | refine List.Sublist.trans ?_ (List.sublist_append_left _ _))); done), ?_⟩
          refine TA_done (by kernel_rfl) ?_
          refine ?L303
          rotate_left 1
          refine ⟨_, rfl, Or.inl rfl, (TO_alloc rfl zr116 fun g30003 => ?_)⟩
          refine ⟨by intro w h; first | exact h | exact trivial | (refine WH.sub h ?_; (repeat (first | exact List.Sublist.refl _ | exact List.sublist_append_right _ _ | exact List.sublist_append_left _ _ | apply List.Sublist.cons | refine List.Sublist.trans ?_ (List.sublist_append_left _ _))); done) | (refine WH.sub h ?_; (repeat (first | exact List.Sublist.refl _ | exact List.sublist_append_right _ _ | exact List.sublist_append_left _ _ | apply List.Sublist.cons_cons | apply List.Sublist.cons | refine List.Sublist.trans ?_ (List.sublist_append_left _ _))); done), ?_⟩
          refine TA_one 2 (by kernel_rfl) rfl rfl (TO_call0 call58 rfl rfl (t58 _ _ _ _ ?sd30030q157_4 hln ?sd30030q157_6 ?sd30030q157_7) ?_)
          case sd30030q157_4 => exact SBlk.mono h_7_0 (fun w h => h.sub (by (repeat (first | exact List.Sublist.refl _ | exact List.sublist_append_right _ _ | exact List.sublist_append_left _ _ | apply List.Sublist.cons | refine List.Sublist.trans ?_ (List.sublist_append_left _ _))); done))
          case sd30030q157_6 => omega
          case sd30030q157_7 => with_reducible assumption
          rintro v30_30031 H30_30031 ⟨g_30031, A'_30031, c'_30031, N_30031, rfl, h_30031_0, rfl⟩
          refine ⟨by intro w h; first | exact h | exact trivial | (refine WH.sub h ?_; (repeat (first | exact List.Sublist.refl _ | exact List.sublist_append_right _ _ | exact List.sublist_append_left _ _ | apply List.Sublist.cons | refine List.Sublist.trans ?_ (List.sublist_append_left _ _))); done) | (refine WH.sub h ?_; (repeat (first | exact List.Sublist.refl _ | exact List.sublist_append_right _ _ | exact List.sublist_append_left _ _ | apply List.Sublist.cons_cons | apply List.Sublist.cons | refine List.Sublist.trans ?_ (List.sublist_append_left _ _))); done), ?_⟩
          refine TA_one 4 (by kernel_rfl) rfl rfl (TO_call0 call69 rfl rfl (t69 _ _ _ _ _ _) ?_)
          rintro v32_30034 H32_30034 ⟨g_30034, rfl, rfl⟩
          refine ⟨by intro w h; first | exact h | exact trivial | (refine WH.sub h ?_; (repeat (first | exact List.Sublist.refl _ | exact List.sublist_append_right _ _ | exact List.sublist_append_left _ _ | apply List.Sublist.cons | refine List.Sublist.trans ?_ (List.sublist_append_left _ _))); done) | (refine WH.sub h ?_; (repeat (first | exact List.Sublist.refl _ | exact List.sublist_append_right _ _ | exact List.sublist_append_left _ _ | apply List.Sublist.cons_cons | apply List.Sublist.cons | refine List.Sublist.trans ?_ (List.sublist_append_left _ _))); done), ?_⟩
          refine TA_perm ((perm_pick (i := 3) rfl).trans (List.Perm.cons _ ((perm_pick (i := 0) rfl).trans (List.Perm.cons _ ((perm_pick (i := 0) rfl).trans (List.Perm.cons _ ((perm_pick (i := 0) rfl).trans (List.Perm.cons _ (List.Perm.refl _))))))))) ?_
          refine TA_one 9 (by kernel_rfl) rfl rfl (TO_call0 call80 rfl rfl (t80m fy (Shows.mono hN (fun w h => h.sub (by (repeat (first | exact List.Sublist.refl _ | exact List.sublist_append_right _ _ | exact List.sublist_append_left _ _ | apply List.Sublist.cons | refine List.Sublist.trans ?_ (List.sublist_append_left _ _))); done))) ?sd30036q157_1 ?sd30036q157_2 ?sd30036q157_3 ?sd30036q157_4 ?sd30036q157_5 ?sd30036q157_6) ?_)
          case sd30036q157_1 => omega
          case sd30036q157_2 => exact h_30031_0
          case sd30036q157_3 => omega
          case sd30036q157_4 => with_reducible assumption
          case sd30036q157_5 => omega
          case sd30036q157_6 => omega
          rintro v37_30037 H37_30037 ⟨A_30037, k_30037, rfl, h_30037_0, rfl⟩
          refine ⟨by intro w h; first | exact h | exact trivial | (refine WH.sub h ?_; (repeat (first | exact List.Sublist.refl _ | exact List.sublist_append_right _ _ | exact List.sublist_append_left _ _ | apply List.Sublist.cons | refine List.Sublist.trans ?_ (List.sublist_append_left _ _))); done) | (refine WH.sub h ?_; (repeat (first | exact List.Sublist.refl _ | exact List.sublist_append_right _ _ | exact List.sublist_append_left _ _ | apply List.Sublist.cons_cons | apply List.Sublist.cons | refine List.Sublist.trans ?_ (List.sublist_append_left _ _))); done), ?_⟩
          refine TA_one 11 (by kernel_rfl) rfl rfl (TO_store 1 rfl rfl rfl sz116 rfl rfl rfl (List.forall_mem_cons.2 ⟨by first | rfl | exact errV_one _ | exact errR_one _, List.forall_mem_cons.2 ⟨by first | rfl | exact errV_one _ | exact errR_one _, List.forall_mem_cons.2 ⟨by first | rfl | exact errV_one _ | exact errR_one _, List.forall_mem_cons.2 ⟨by first | rfl | exact errV_one _ | exact errR_one _, List.forall_mem_cons.2 ⟨by first | rfl | exact errV_one _ | exact errR_one _, List.forall_mem_cons.2 ⟨by first | rfl | exact errV_one _ | exact errR_one _, by simp⟩⟩⟩⟩⟩⟩) (by first | exact Nat.le_of_ble_eq_true rfl | (simp; done) | (simp; omega) | omega) ?_)
          refine ⟨by intro w h; first | exact h | exact trivial | (refine WH.sub h ?_; (repeat (first | exact List.Sublist.refl _ | exact List.sublist_append_right _ _ | exact List.sublist_append_left _ _ | apply List.Sublist.cons | refine List.Sublist.trans ?_ (List.sublist_append_left _ _))); done) | (refine WH.sub h ?_; (repeat (first | exact List.Sublist.refl _ | exact List.sublist_append_right _ _ | exact List.sublist_append_left _ _ | apply List.Sublist.cons_cons | apply List.Sublist.cons | refine List.Sublist.trans ?_ (List.sublist_append_left _ _))); done), ?_⟩
          refine TA_done (by kernel_rfl) ?_
          refine ?L304
          case L301 => exact ⟨g30016, A_30015, k_30015, by assumption, (by repeat (first | exact FrSub.nil _ | refine FrSub.cons rfl ?_)), Has.of_sub (by repeat (first | exact List.Sublist.refl _ | exact List.sublist_append_right _ _ | exact List.sublist_append_left _ _ | apply List.Sublist.cons_cons | apply List.Sublist.cons | refine List.Sublist.trans ?_ (List.sublist_append_left _ _)))⟩
          case L302 => exact ⟨g30013, A_30020, k_30020, by assumption, (by repeat (first | exact FrSub.nil _ | refine FrSub.cons rfl ?_)), Has.of_perm ((perm_pick (i := 1) rfl).trans (List.Perm.cons _ ((perm_pick (i := 0) rfl).trans (List.Perm.cons _ (List.Perm.refl _))))) (by repeat (first | exact List.Sublist.refl _ | exact List.sublist_append_right _ _ | exact List.sublist_append_left _ _ | apply List.Sublist.cons_cons | apply List.Sublist.cons | refine List.Sublist.trans ?_ (List.sublist_append_left _ _)))⟩
          case L303 => exact ⟨g30008, A_30027, k_30027, by assumption, (by repeat (first | exact FrSub.nil _ | refine FrSub.cons rfl ?_)), Has.of_perm ((perm_pick (i := 1) rfl).trans (List.Perm.cons _ ((perm_pick (i := 0) rfl).trans (List.Perm.cons _ (List.Perm.refl _))))) (by repeat (first | exact List.Sublist.refl _ | exact List.sublist_append_right _ _ | exact List.sublist_append_left _ _ | apply List.Sublist.cons_cons | apply List.Sublist.cons | refine List.Sublist.trans ?_ (List.sublist_append_left _ _)))⟩
          case L304 => exact ⟨g30003, A_30037, k_30037, by assumption, (by repeat (first | exact FrSub.nil _ | refine FrSub.cons rfl ?_)), Has.of_perm ((perm_pick (i := 1) rfl).trans (List.Perm.cons _ ((perm_pick (i := 0) rfl).trans (List.Perm.cons _ (List.Perm.refl _))))) (by repeat (first | exact List.Sublist.refl _ | exact List.sublist_append_right _ _ | exact List.sublist_append_left _ _ | apply List.Sublist.cons_cons | apply List.Sublist.cons | refine List.Sublist.trans ?_ (List.sublist_append_left _ _)))⟩
        · rintro gy Ay ky hky
          have hd1 : (strOfNums (fy.r.dat.take fx.r.dat.length) = strOfNums fx.r.dat) := by rw [hpre]
          have e41 : Value.int .i64 (IntKind.i64.wrap (M : Int)) = .int .i64 (M : Int) := e26
          have e48 : Value.int .i64 (IntKind.i64.wrap ((M : Int) + 7)) = .int .i64 ((M : Int) + 7) := e36
          rcases Bool.eq_false_or_eq_true fx.ov with ho | ho
          · have hyx : fy = fx := g7 ho
            subst hyx
            rw [ho]
            refine T_seq ?_
            refine T_seq ?_
            refine T_drawn (WH _ _ _) mixed (fun w h => h) ?_
            refine TA_take (dd := (some 38)) 0 rfl (by kernel_rfl) (by kernel_rfl) (by kernel_rfl) rfl rfl rfl (PV_fieldAddr (D := 4) Try.underlying116 rfl sz3 (by decide) rfl rfl) ?_
            refine TA_take (dd := (some 39)) 1 rfl (by kernel_rfl) (by kernel_rfl) (by kernel_rfl) rfl rfl rfl (PV_load Try.underlying3 rfl rfl (Rd.at 2 rfl rfl)) ?_
            refine TA_take (dd := (some 40)) 2 rfl (by kernel_rfl) (by kernel_rfl) (by kernel_rfl) rfl rfl rfl (PV_move rfl) ?_
            refine TA_take (dd := (some 41)) 3 rfl (by kernel_rfl) (by kernel_rfl) (by kernel_rfl) rfl rfl rfl (PV.cast (PV_conv (by rw [Try.underlying5]; rfl) Try.underlying3 rfl) e41) ?_
            refine TA_take (dd := (some 42)) 4 rfl (by kernel_rfl) (by kernel_rfl) (by kernel_rfl) rfl rfl rfl (PV_bin rfl rfl bin_gtr) ?_
            refine TA_take (dd := (some 43)) 5 rfl (by kernel_rfl) (by kernel_rfl) (by kernel_rfl) rfl rfl rfl (PV_move rfl) ?_
            refine TA_yes (dd := (some 44)) 6 rfl (by kernel_rfl) (by kernel_rfl) (by kernel_rfl) rfl rfl (gfalse (by exact decide_eq_false (by omega))) rfl rfl (PV_fieldAddr (D := 4) Try.underlying116 rfl sz3 (by decide) rfl rfl) ?_
            refine TA_yes (dd := (some 45)) 7 rfl (by kernel_rfl) (by kernel_rfl) (by kernel_rfl) rfl rfl (gfalse (by exact decide_eq_false (by omega))) rfl rfl (PV_load Try.underlying3 rfl rfl (Rd.at 0 rfl rfl)) ?_
            refine TA_yes (dd := (some 46)) 8 rfl (by kernel_rfl) (by kernel_rfl) (by kernel_rfl) rfl rfl (gfalse (by exact decide_eq_false (by omega))) rfl rfl (PV_move rfl) ?_
            refine TA_yes (dd := (some 47)) 9 rfl (by kernel_rfl) (by kernel_rfl) (by kernel_rfl) rfl rfl (gfalse (by exact decide_eq_false (by omega))) rfl rfl (PV.cast (PV_conv (by rw [Try.underlying5]; rfl) Try.underlying3 rfl) e41) ?_
            refine TA_yes (dd := (some 48)) 10 rfl (by kernel_rfl) (by kernel_rfl) (by kernel_rfl) rfl rfl (gfalse (by exact decide_eq_false (by omega))) rfl rfl (PV.cast (PV_bin rfl rfl bin_add) e48) ?_
            refine TA_yes (dd := (some 49)) 11 rfl (by kernel_rfl) (by kernel_rfl) (by kernel_rfl) rfl rfl (gfalse (by exact decide_eq_false (by omega))) rfl rfl (PV_bin rfl rfl bin_gtr) ?_
            refine TA_take (dd := (some 50)) 12 rfl (by kernel_rfl) (by kernel_rfl) (by kernel_rfl) rfl rfl rfl (PV_pickOr rfl rfl rfl) ?_
            refine TA_take (dd := (some 51)) 13 rfl (by kernel_rfl) (by kernel_rfl) (by kernel_rfl) rfl rfl rfl (PV_move rfl) ?_
            refine TA_yes (dd := (some 52)) 14 rfl (by kernel_rfl) (by kernel_rfl) (by kernel_rfl) rfl rfl (gfalse (by (simp; omega))) rfl rfl (PV_fieldAddr (D := 4) Try.underlying116 rfl sz3 (by decide) rfl rfl) ?_
            refine TA_yes (dd := (some 53)) 15 rfl (by kernel_rfl) (by kernel_rfl) (by kernel_rfl) rfl rfl (gfalse (by (simp; omega))) rfl rfl (PV_load Try.underlying3 rfl rfl (Rd.at 0 rfl rfl)) ?_
            refine TA_yes (dd := (some 54)) 16 rfl (by kernel_rfl) (by kernel_rfl) (by kernel_rfl) rfl rfl (gfalse (by (simp; omega))) rfl rfl (PV_fieldAddr (D := 4) Try.underlying116 rfl sz3 (by decide) rfl rfl) ?_
            refine TA_yes (dd := (some 55)) 17 rfl (by kernel_rfl) (by kernel_rfl) (by kernel_rfl) rfl rfl (gfalse (by (simp; omega))) rfl rfl (PV_load Try.underlying3 rfl rfl (Rd.at 2 rfl rfl)) ?_
            refine TA_yes (dd := (some 56)) 18 rfl (by kernel_rfl) (by kernel_rfl) (by kernel_rfl) rfl rfl (gfalse (by (simp; omega))) rfl rfl (PV_bin rfl rfl bin_lss) ?_
            refine TA_take (dd := (some 57)) 19 rfl (by kernel_rfl) (by kernel_rfl) (by kernel_rfl) rfl rfl rfl (PV_pickOr rfl rfl rfl) ?_
            refine TA_take (dd := (some 58)) 20 rfl (by kernel_rfl) (by kernel_rfl) (by kernel_rfl) rfl rfl rfl (PV_move rfl) ?_
            refine TA_yes (dd := (some 59)) 21 rfl (by kernel_rfl) (by kernel_rfl) (by kernel_rfl) rfl rfl (gfalse (by (simp; omega))) rfl rfl (PV_fieldAddr (D := 5) Try.underlying116 rfl sz3 (by decide) rfl rfl) ?_
            refine TA_yes (dd := (some 60)) 22 rfl (by kernel_rfl) (by kernel_rfl) (by kernel_rfl) rfl rfl (gfalse (by (simp; omega))) rfl rfl (PV_load Try.underlying3 rfl rfl (Rd.at 0 rfl rfl)) ?_
            refine TA_yes (dd := (some 61)) 23 rfl (by kernel_rfl) (by kernel_rfl) (by kernel_rfl) rfl rfl (gfalse (by (simp; omega))) rfl rfl (PV_fieldAddr (D := 5) Try.underlying116 rfl sz3 (by decide) rfl rfl) ?_
            refine TA_yes (dd := (some 62)) 24 rfl (by kernel_rfl) (by kernel_rfl) (by kernel_rfl) rfl rfl (gfalse (by (simp; omega))) rfl rfl (PV_load Try.underlying3 rfl rfl (Rd.at 2 rfl rfl)) ?_
            refine TA_yes (dd := (some 63)) 25 rfl (by kernel_rfl) (by kernel_rfl) (by kernel_rfl) rfl rfl (gfalse (by (simp; omega))) rfl rfl (PV_bin rfl rfl bin_lss) ?_
            refine TA_take (dd := (some 64)) 26 rfl (by kernel_rfl) (by kernel_rfl) (by kernel_rfl) rfl rfl rfl (PV_pickOr rfl rfl rfl) ?_
            refine TA_take (dd := (some 65)) 27 rfl (by kernel_rfl) (by kernel_rfl) (by kernel_rfl) rfl rfl rfl (PV_move rfl) ?_
            refine TA_yes (dd := (some 66)) 28 rfl (by kernel_rfl) (by kernel_rfl) (by kernel_rfl) rfl rfl (gfalse (by (simp; omega))) rfl rfl (PV_fieldAddr (D := 3) Try.underlying116 rfl sz23 (by decide) rfl rfl) ?_
            refine TA_yes (dd := (some 67)) 29 rfl (by kernel_rfl) (by kernel_rfl) (by kernel_rfl) rfl rfl (gfalse (by (simp; omega))) rfl rfl (PV_load Try.underlying23 rfl rfl (Rd.at 0 rfl rfl)) ?_
            refine TA_yes (dd := (some 68)) 30 rfl (by kernel_rfl) (by kernel_rfl) (by kernel_rfl) rfl rfl (gfalse (by (simp; omega))) rfl rfl (PV_len_slice Try.underlying23 rfl) ?_
            refine TA_yes (dd := (some 69)) 31 rfl (by kernel_rfl) (by kernel_rfl) (by kernel_rfl) rfl rfl (gfalse (by (simp; omega))) rfl rfl (PV_fieldAddr (D := 3) Try.underlying116 rfl sz23 (by decide) rfl rfl) ?_
            refine TA_yes (dd := (some 70)) 32 rfl (by kernel_rfl) (by kernel_rfl) (by kernel_rfl) rfl rfl (gfalse (by (simp; omega))) rfl rfl (PV_load Try.underlying23 rfl rfl (Rd.at 2 rfl rfl)) ?_
            refine TA_yes (dd := (some 71)) 33 rfl (by kernel_rfl) (by kernel_rfl) (by kernel_rfl) rfl rfl (gfalse (by (simp; omega))) rfl rfl (PV_len_slice Try.underlying23 rfl) ?_
            refine TA_yes (dd := (some 72)) 34 rfl (by kernel_rfl) (by kernel_rfl) (by kernel_rfl) rfl rfl (gfalse (by (simp; omega))) rfl rfl (PV_bin rfl rfl bin_lss) ?_
            refine TA_take (dd := (some 73)) 35 rfl (by kernel_rfl) (by kernel_rfl) (by kernel_rfl) rfl rfl rfl (PV_pickOr rfl rfl rfl) ?_
            refine TA_take (dd := (some 74)) 36 rfl (by kernel_rfl) (by kernel_rfl) (by kernel_rfl) rfl rfl rfl (PV_move rfl) ?_
            refine TA_yes (dd := (some 75)) 37 rfl (by kernel_rfl) (by kernel_rfl) (by kernel_rfl) rfl rfl (gfalse (by (simp; omega))) rfl rfl (PV_fieldAddr (D := 3) Try.underlying116 rfl sz23 (by decide) rfl rfl) ?_
            refine TA_yes (dd := (some 76)) 38 rfl (by kernel_rfl) (by kernel_rfl) (by kernel_rfl) rfl rfl (gfalse (by (simp; omega))) rfl rfl (PV_load Try.underlying23 rfl rfl (Rd.at 0 rfl rfl)) ?_
            refine TA_yes (dd := (some 77)) 39 rfl (by kernel_rfl) (by kernel_rfl) (by kernel_rfl) rfl rfl (gfalse (by (simp; omega))) rfl rfl (PV_fieldAddr (D := 3) Try.underlying116 rfl sz23 (by decide) rfl rfl) ?_
            refine TA_yes (dd := (some 78)) 40 rfl (by kernel_rfl) (by kernel_rfl) (by kernel_rfl) rfl rfl (gfalse (by (simp; omega))) rfl rfl (PV_load Try.underlying23 rfl rfl (Rd.at 2 rfl rfl)) ?_
            refine TA_yes (dd := (some 79)) 41 rfl (by kernel_rfl) (by kernel_rfl) (by kernel_rfl) rfl rfl (gfalse (by (simp; omega))) rfl rfl (PV_len_slice Try.underlying23 rfl) ?_
            refine TA_yes (dd := (some 80)) 42 rfl (by kernel_rfl) (by kernel_rfl) (by kernel_rfl) rfl rfl (gfalse (by (simp; omega))) rfl rfl (PV_sliceTo Try.underlying23 sz5 rfl (by omega) ⟨_, rfl⟩ (by omega)) ?_
            refine TA_yes (dd := (some 81)) 43 rfl (by kernel_rfl) (by kernel_rfl) (by kernel_rfl) rfl rfl (gfalse (by (simp; omega))) rfl rfl (PV_b2s Try.underlying23 Try.underlying5 Try.underlying9 rfl (Shows.at 1 rfl)) ?_
            refine TA_yes (dd := (some 82)) 44 rfl (by kernel_rfl) (by kernel_rfl) (by kernel_rfl) rfl rfl (gfalse (by (simp; omega))) rfl rfl (PV_fieldAddr (D := 3) Try.underlying116 rfl sz23 (by decide) rfl rfl) ?_
            refine TA_yes (dd := (some 83)) 45 rfl (by kernel_rfl) (by kernel_rfl) (by kernel_rfl) rfl rfl (gfalse (by (simp; omega))) rfl rfl (PV_load Try.underlying23 rfl rfl (Rd.at 2 rfl rfl)) ?_
            refine TA_yes (dd := (some 84)) 46 rfl (by kernel_rfl) (by kernel_rfl) (by kernel_rfl) rfl rfl (gfalse (by (simp; omega))) rfl rfl (PV_b2s Try.underlying23 Try.underlying5 Try.underlying9 rfl (Shows.at 3 rfl)) ?_
            refine TA_yes (dd := (some 85)) 47 rfl (by kernel_rfl) (by kernel_rfl) (by kernel_rfl) rfl rfl (gfalse (by (simp; omega))) rfl rfl (PV_bin rfl rfl bin_str_neq) ?_
            refine TA_take (dd := (some 86)) 48 rfl (by kernel_rfl) (by kernel_rfl) (by kernel_rfl) rfl rfl rfl (PV_pickOr rfl rfl rfl) ?_
            refine TA_done (by kernel_rfl) ?_
            refine T_else rfl (by (simp; omega)) ?_
            refine T_skip ?_
            refine T_seq ?_
            refine T_region ?_
            refine TL_pure (d := (some 87)) rfl rfl rfl (PV_fieldAddr (D := 0) Try.underlying116 rfl sz4 (by decide) rfl rfl) ?_
            refine TL_pure (d := (some 88)) rfl rfl rfl (PV_load Try.underlying4 rfl rfl (Rd.at 2 rfl rfl)) ?_
            refine TL_pure (d := (some 89)) rfl rfl rfl (PV_not rfl) ?_
            refine TL_pure (d := (some 90)) rfl rfl rfl (PV_move rfl) ?_
            refine TL_yes rfl rfl rfl (TO_pure rfl (PV_fieldAddr (D := 0) Try.underlying116 rfl sz4 (by decide) rfl rfl) ?_)
            refine TL_yes rfl rfl rfl (TO_pure rfl (PV_load Try.underlying4 rfl rfl (Rd.at 0 rfl rfl)) ?_)
            refine TL_yes rfl rfl rfl (TO_pure rfl (PV_move rfl) ?_)
            refine TL_yes rfl rfl rfl (TO_pure rfl (PV_fieldAddr (D := 4) Try.underlying116 rfl sz3 (by decide) rfl rfl) ?_)
            refine TL_yes rfl rfl rfl (TO_pure rfl (PV_load Try.underlying3 rfl rfl (Rd.at 0 rfl rfl)) ?_)
            refine TL_yes rfl rfl rfl (TO_pure rfl (PV_fieldAddr (D := 4) Try.underlying116 rfl sz3 (by decide) rfl rfl) ?_)
            refine TL_yes rfl rfl rfl (TO_pure rfl (PV_load Try.underlying3 rfl rfl (Rd.at 2 rfl rfl)) ?_)
            refine TL_yes rfl rfl rfl (TO_pure rfl (PV_bin rfl rfl bin_eql) ?_)
            refine TL_yes rfl rfl rfl (TO_pure rfl (PV_pickAnd rfl rfl rfl) ?_)
            refine TL_yes rfl rfl rfl (TO_pure rfl (PV_move rfl) ?_)
            refine TL_yes rfl rfl (gtrue (by (simp [hd1]; done))) (TO_pure rfl (PV_fieldAddr (D := 3) Try.underlying116 rfl sz23 (by decide) rfl rfl) ?_)
            refine TL_yes rfl rfl (gtrue (by (simp [hd1]; done))) (TO_pure rfl (PV_load Try.underlying23 rfl rfl (Rd.at 0 rfl rfl)) ?_)
            refine TL_yes rfl rfl (gtrue (by (simp [hd1]; done))) (TO_pure rfl (PV_b2s Try.underlying23 Try.underlying5 Try.underlying9 rfl (Shows.at 1 rfl)) ?_)
            refine TL_yes rfl rfl (gtrue (by (simp [hd1]; done))) (TO_pure rfl (PV_fieldAddr (D := 3) Try.underlying116 rfl sz23 (by decide) rfl rfl) ?_)
            refine TL_yes rfl rfl (gtrue (by (simp [hd1]; done))) (TO_pure rfl (PV_load Try.underlying23 rfl rfl (Rd.at 2 rfl rfl)) ?_)
            refine TL_yes rfl rfl (gtrue (by (simp [hd1]; done))) (TO_pure rfl (PV_b2s Try.underlying23 Try.underlying5 Try.underlying9 rfl (Shows.at 3 rfl)) ?_)
            refine TL_yes rfl rfl (gtrue (by (simp [hd1]; done))) (TO_pure rfl (PV_bin rfl rfl bin_str_eql) ?_)
            refine TL_yes rfl rfl rfl (TO_pure rfl (PV_pickAnd rfl rfl rfl) ?_)
            refine TL_pure (d := (some 109)) rfl rfl rfl (PV_pickOr rfl rfl rfl) ?_
            refine TL_pure (d := (some 10)) rfl rfl rfl (PV_assign rfl) ?_
            refine TL_nil ?_
            refine T_ret ?_
            refine ret_ret (ResV_one rfl rfl) ⟨_, ?zb40001q177, ⟨?L401, rfl⟩⟩
            case zb40001q177 => exact (by (repeat (first | exact List.Sublist.refl _ | exact List.sublist_append_right _ _ | exact List.sublist_append_left _ _ | apply List.Sublist.cons_cons | apply List.Sublist.cons | refine List.Sublist.trans ?_ (List.sublist_append_left _ _))); done)
            case L401 => simp
          · rw [ho]
            refine T_seq ?_
            refine T_seq ?_
            refine T_drawn (WH _ _ _) mixed (fun w h => h) ?_
            refine TA_take (dd := (some 38)) 0 rfl (by kernel_rfl) (by kernel_rfl) (by kernel_rfl) rfl rfl rfl (PV_fieldAddr (D := 4) Try.underlying116 rfl sz3 (by decide) rfl rfl) ?_
            refine TA_take (dd := (some 39)) 1 rfl (by kernel_rfl) (by kernel_rfl) (by kernel_rfl) rfl rfl rfl (PV_load Try.underlying3 rfl rfl (Rd.at 2 rfl rfl)) ?_
            refine TA_take (dd := (some 40)) 2 rfl (by kernel_rfl) (by kernel_rfl) (by kernel_rfl) rfl rfl rfl (PV_move rfl) ?_
            refine TA_take (dd := (some 41)) 3 rfl (by kernel_rfl) (by kernel_rfl) (by kernel_rfl) rfl rfl rfl (PV.cast (PV_conv (by rw [Try.underlying5]; rfl) Try.underlying3 rfl) e41) ?_
            refine TA_take (dd := (some 42)) 4 rfl (by kernel_rfl) (by kernel_rfl) (by kernel_rfl) rfl rfl rfl (PV_bin rfl rfl bin_gtr) ?_
            refine TA_take (dd := (some 43)) 5 rfl (by kernel_rfl) (by kernel_rfl) (by kernel_rfl) rfl rfl rfl (PV_move rfl) ?_
            refine TA_yes (dd := (some 44)) 6 rfl (by kernel_rfl) (by kernel_rfl) (by kernel_rfl) rfl rfl (gfalse (by exact decide_eq_false (by omega))) rfl rfl (PV_fieldAddr (D := 4) Try.underlying116 rfl sz3 (by decide) rfl rfl) ?_
            refine TA_yes (dd := (some 45)) 7 rfl (by kernel_rfl) (by kernel_rfl) (by kernel_rfl) rfl rfl (gfalse (by exact decide_eq_false (by omega))) rfl rfl (PV_load Try.underlying3 rfl rfl (Rd.at 0 rfl rfl)) ?_
            refine TA_yes (dd := (some 46)) 8 rfl (by kernel_rfl) (by kernel_rfl) (by kernel_rfl) rfl rfl (gfalse (by exact decide_eq_false (by omega))) rfl rfl (PV_move rfl) ?_
            refine TA_yes (dd := (some 47)) 9 rfl (by kernel_rfl) (by kernel_rfl) (by kernel_rfl) rfl rfl (gfalse (by exact decide_eq_false (by omega))) rfl rfl (PV.cast (PV_conv (by rw [Try.underlying5]; rfl) Try.underlying3 rfl) e41) ?_
            refine TA_yes (dd := (some 48)) 10 rfl (by kernel_rfl) (by kernel_rfl) (by kernel_rfl) rfl rfl (gfalse (by exact decide_eq_false (by omega))) rfl rfl (PV.cast (PV_bin rfl rfl bin_add) e48) ?_
            refine TA_yes (dd := (some 49)) 11 rfl (by kernel_rfl) (by kernel_rfl) (by kernel_rfl) rfl rfl (gfalse (by exact decide_eq_false (by omega))) rfl rfl (PV_bin rfl rfl bin_gtr) ?_
            refine TA_take (dd := (some 50)) 12 rfl (by kernel_rfl) (by kernel_rfl) (by kernel_rfl) rfl rfl rfl (PV_pickOr rfl rfl rfl) ?_
            refine TA_take (dd := (some 51)) 13 rfl (by kernel_rfl) (by kernel_rfl) (by kernel_rfl) rfl rfl rfl (PV_move rfl) ?_
            refine TA_yes (dd := (some 52)) 14 rfl (by kernel_rfl) (by kernel_rfl) (by kernel_rfl) rfl rfl (gfalse (by (simp; omega))) rfl rfl (PV_fieldAddr (D := 4) Try.underlying116 rfl sz3 (by decide) rfl rfl) ?_
            refine TA_yes (dd := (some 53)) 15 rfl (by kernel_rfl) (by kernel_rfl) (by kernel_rfl) rfl rfl (gfalse (by (simp; omega))) rfl rfl (PV_load Try.underlying3 rfl rfl (Rd.at 0 rfl rfl)) ?_
            refine TA_yes (dd := (some 54)) 16 rfl (by kernel_rfl) (by kernel_rfl) (by kernel_rfl) rfl rfl (gfalse (by (simp; omega))) rfl rfl (PV_fieldAddr (D := 4) Try.underlying116 rfl sz3 (by decide) rfl rfl) ?_
            refine TA_yes (dd := (some 55)) 17 rfl (by kernel_rfl) (by kernel_rfl) (by kernel_rfl) rfl rfl (gfalse (by (simp; omega))) rfl rfl (PV_load Try.underlying3 rfl rfl (Rd.at 2 rfl rfl)) ?_
            refine TA_yes (dd := (some 56)) 18 rfl (by kernel_rfl) (by kernel_rfl) (by kernel_rfl) rfl rfl (gfalse (by (simp; omega))) rfl rfl (PV_bin rfl rfl bin_lss) ?_
            refine TA_take (dd := (some 57)) 19 rfl (by kernel_rfl) (by kernel_rfl) (by kernel_rfl) rfl rfl rfl (PV_pickOr rfl rfl rfl) ?_
            refine TA_take (dd := (some 58)) 20 rfl (by kernel_rfl) (by kernel_rfl) (by kernel_rfl) rfl rfl rfl (PV_move rfl) ?_
            refine TA_yes (dd := (some 59)) 21 rfl (by kernel_rfl) (by kernel_rfl) (by kernel_rfl) rfl rfl (gfalse (by (simp; omega))) rfl rfl (PV_fieldAddr (D := 5) Try.underlying116 rfl sz3 (by decide) rfl rfl) ?_
            refine TA_yes (dd := (some 60)) 22 rfl (by kernel_rfl) (by kernel_rfl) (by kernel_rfl) rfl rfl (gfalse (by (simp; omega))) rfl rfl (PV_load Try.underlying3 rfl rfl (Rd.at 0 rfl rfl)) ?_
            refine TA_yes (dd := (some 61)) 23 rfl (by kernel_rfl) (by kernel_rfl) (by kernel_rfl) rfl rfl (gfalse (by (simp; omega))) rfl rfl (PV_fieldAddr (D := 5) Try.underlying116 rfl sz3 (by decide) rfl rfl) ?_
            refine TA_yes (dd := (some 62)) 24 rfl (by kernel_rfl) (by kernel_rfl) (by kernel_rfl) rfl rfl (gfalse (by (simp; omega))) rfl rfl (PV_load Try.underlying3 rfl rfl (Rd.at 2 rfl rfl)) ?_
            refine TA_yes (dd := (some 63)) 25 rfl (by kernel_rfl) (by kernel_rfl) (by kernel_rfl) rfl rfl (gfalse (by (simp; omega))) rfl rfl (PV_bin rfl rfl bin_lss) ?_
            refine TA_take (dd := (some 64)) 26 rfl (by kernel_rfl) (by kernel_rfl) (by kernel_rfl) rfl rfl rfl (PV_pickOr rfl rfl rfl) ?_
            refine TA_take (dd := (some 65)) 27 rfl (by kernel_rfl) (by kernel_rfl) (by kernel_rfl) rfl rfl rfl (PV_move rfl) ?_
            refine TA_yes (dd := (some 66)) 28 rfl (by kernel_rfl) (by kernel_rfl) (by kernel_rfl) rfl rfl (gfalse (by (simp; omega))) rfl rfl (PV_fieldAddr (D := 3) Try.underlying116 rfl sz23 (by decide) rfl rfl) ?_
            refine TA_yes (dd := (some 67)) 29 rfl (by kernel_rfl) (by kernel_rfl) (by kernel_rfl) rfl rfl (gfalse (by (simp; omega))) rfl rfl (PV_load Try.underlying23 rfl rfl (Rd.at 0 rfl rfl)) ?_
            refine TA_yes (dd := (some 68)) 30 rfl (by kernel_rfl) (by kernel_rfl) (by kernel_rfl) rfl rfl (gfalse (by (simp; omega))) rfl rfl (PV_len_slice Try.underlying23 rfl) ?_
            refine TA_yes (dd := (some 69)) 31 rfl (by kernel_rfl) (by kernel_rfl) (by kernel_rfl) rfl rfl (gfalse (by (simp; omega))) rfl rfl (PV_fieldAddr (D := 3) Try.underlying116 rfl sz23 (by decide) rfl rfl) ?_
            refine TA_yes (dd := (some 70)) 32 rfl (by kernel_rfl) (by kernel_rfl) (by kernel_rfl) rfl rfl (gfalse (by (simp; omega))) rfl rfl (PV_load Try.underlying23 rfl rfl (Rd.at 2 rfl rfl)) ?_
            refine TA_yes (dd := (some 71)) 33 rfl (by kernel_rfl) (by kernel_rfl) (by kernel_rfl) rfl rfl (gfalse (by (simp; omega))) rfl rfl (PV_len_slice Try.underlying23 rfl) ?_
            refine TA_yes (dd := (some 72)) 34 rfl (by kernel_rfl) (by kernel_rfl) (by kernel_rfl) rfl rfl (gfalse (by (simp; omega))) rfl rfl (PV_bin rfl rfl bin_lss) ?_
            refine TA_take (dd := (some 73)) 35 rfl (by kernel_rfl) (by kernel_rfl) (by kernel_rfl) rfl rfl rfl (PV_pickOr rfl rfl rfl) ?_
            refine TA_take (dd := (some 74)) 36 rfl (by kernel_rfl) (by kernel_rfl) (by kernel_rfl) rfl rfl rfl (PV_move rfl) ?_
            refine TA_yes (dd := (some 75)) 37 rfl (by kernel_rfl) (by kernel_rfl) (by kernel_rfl) rfl rfl (gfalse (by (simp; omega))) rfl rfl (PV_fieldAddr (D := 3) Try.underlying116 rfl sz23 (by decide) rfl rfl) ?_
            refine TA_yes (dd := (some 76)) 38 rfl (by kernel_rfl) (by kernel_rfl) (by kernel_rfl) rfl rfl (gfalse (by (simp; omega))) rfl rfl (PV_load Try.underlying23 rfl rfl (Rd.at 0 rfl rfl)) ?_
            refine TA_yes (dd := (some 77)) 39 rfl (by kernel_rfl) (by kernel_rfl) (by kernel_rfl) rfl rfl (gfalse (by (simp; omega))) rfl rfl (PV_fieldAddr (D := 3) Try.underlying116 rfl sz23 (by decide) rfl rfl) ?_
            refine TA_yes (dd := (some 78)) 40 rfl (by kernel_rfl) (by kernel_rfl) (by kernel_rfl) rfl rfl (gfalse (by (simp; omega))) rfl rfl (PV_load Try.underlying23 rfl rfl (Rd.at 2 rfl rfl)) ?_
            refine TA_yes (dd := (some 79)) 41 rfl (by kernel_rfl) (by kernel_rfl) (by kernel_rfl) rfl rfl (gfalse (by (simp; omega))) rfl rfl (PV_len_slice Try.underlying23 rfl) ?_
            refine TA_yes (dd := (some 80)) 42 rfl (by kernel_rfl) (by kernel_rfl) (by kernel_rfl) rfl rfl (gfalse (by (simp; omega))) rfl rfl (PV_sliceTo Try.underlying23 sz5 rfl (by omega) ⟨_, rfl⟩ (by omega)) ?_
            refine TA_yes (dd := (some 81)) 43 rfl (by kernel_rfl) (by kernel_rfl) (by kernel_rfl) rfl rfl (gfalse (by (simp; omega))) rfl rfl (PV_b2s Try.underlying23 Try.underlying5 Try.underlying9 rfl (shows_pre (Shows.at 1 rfl) (by omega) hpre)) ?_
            refine TA_yes (dd := (some 82)) 44 rfl (by kernel_rfl) (by kernel_rfl) (by kernel_rfl) rfl rfl (gfalse (by (simp; omega))) rfl rfl (PV_fieldAddr (D := 3) Try.underlying116 rfl sz23 (by decide) rfl rfl) ?_
            refine TA_yes (dd := (some 83)) 45 rfl (by kernel_rfl) (by kernel_rfl) (by kernel_rfl) rfl rfl (gfalse (by (simp; omega))) rfl rfl (PV_load Try.underlying23 rfl rfl (Rd.at 2 rfl rfl)) ?_
            refine TA_yes (dd := (some 84)) 46 rfl (by kernel_rfl) (by kernel_rfl) (by kernel_rfl) rfl rfl (gfalse (by (simp; omega))) rfl rfl (PV_b2s Try.underlying23 Try.underlying5 Try.underlying9 rfl (Shows.at 3 rfl)) ?_
            refine TA_yes (dd := (some 85)) 47 rfl (by kernel_rfl) (by kernel_rfl) (by kernel_rfl) rfl rfl (gfalse (by (simp; omega))) rfl rfl (PV_bin rfl rfl bin_str_neq) ?_
            refine TA_take (dd := (some 86)) 48 rfl (by kernel_rfl) (by kernel_rfl) (by kernel_rfl) rfl rfl rfl (PV_pickOr rfl rfl rfl) ?_
            refine TA_done (by kernel_rfl) ?_
            refine T_else rfl (by (simp; omega)) ?_
            refine T_skip ?_
            refine T_seq ?_
            refine T_region ?_
            refine TL_pure (d := (some 87)) rfl rfl rfl (PV_fieldAddr (D := 0) Try.underlying116 rfl sz4 (by decide) rfl rfl) ?_
            refine TL_pure (d := (some 88)) rfl rfl rfl (PV_load Try.underlying4 rfl rfl (Rd.at 2 rfl rfl)) ?_
            refine TL_pure (d := (some 89)) rfl rfl rfl (PV_not rfl) ?_
            refine TL_pure (d := (some 90)) rfl rfl rfl (PV_move rfl) ?_
            refine TL_no (b := true) rfl rfl rfl rfl ?_
            refine TL_no (b := true) rfl rfl rfl rfl ?_
            refine TL_no (b := true) rfl rfl rfl rfl ?_
            refine TL_noU rfl rfl rfl rfl ?_
            refine TL_noU rfl rfl rfl rfl ?_
            refine TL_noU rfl rfl rfl rfl ?_
            refine TL_noU rfl rfl rfl rfl ?_
            refine TL_noU rfl rfl rfl rfl ?_
            refine TL_no (b := true) rfl rfl rfl rfl ?_
            refine TL_no (b := true) rfl rfl rfl rfl ?_
            refine TL_noU rfl rfl rfl rfl ?_
            refine TL_noU rfl rfl rfl rfl ?_
            refine TL_noU rfl rfl rfl rfl ?_
            refine TL_noU rfl rfl rfl rfl ?_
            refine TL_noU rfl rfl rfl rfl ?_
            refine TL_noU rfl rfl rfl rfl ?_
            refine TL_noU rfl rfl rfl rfl ?_
            refine TL_no (b := true) rfl rfl rfl rfl ?_
            refine TL_pure (d := (some 109)) rfl rfl rfl (PV_pickT rfl (by first | assumption | rfl | (simp; done) | (simp; omega) | (simp [*]; done) | (simp [*]; omega)) rfl rfl) ?_
            refine TL_pure (d := (some 10)) rfl rfl rfl (PV_assign rfl) ?_
            refine TL_nil ?_
            refine T_ret ?_
            refine ret_ret (ResV_one rfl rfl) ⟨_, ?zb50001q186, ⟨rfl, rfl⟩⟩
            case zb50001q186 => exact (by (repeat (first | exact List.Sublist.refl _ | exact List.sublist_append_right _ _ | exact List.sublist_append_left _ _ | apply List.Sublist.cons_cons | apply List.Sublist.cons | refine List.Sublist.trans ?_ (List.sublist_append_left _ _))); done)
end
end Go.Proofs.Ythdkmgeigdoglaa.SL
