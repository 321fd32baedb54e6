import Derived.Test.YtijpbpnfachlkaaDoorP9
import Derived.Test.YtijpbpnfachlkaaDoorN4
/- Tables of patterns: the table itself. No statement is proved here. -/
set_option linter.unusedVariables false
set_option linter.unusedSimpArgs false
set_option maxRecDepth 100000
set_option maxHeartbeats 8000000
namespace Go.Proofs.YtijpbpnfachlkaaDoor.SL
open Go Go.RowKit
section
variable {w0 : World} {B n : Nat} {fr : Fr} {H X : List Chunk} {W : World → Prop}
def upL (f : Nat → Bool) (n : Nat) : List Bool := (List.range n).map f
theorem upL_len (f : Nat → Bool) (n : Nat) : (upL f n).length = n := by simp [upL]
theorem upL_succ (f : Nat → Bool) (n : Nat) : upL f (n + 1) = upL f n ++ [f n] := by simp [upL, List.range_succ]
theorem upL_get (f : Nat → Bool) {n i : Nat} (h : i < n) : (upL f n).getD i false = f i := by
  simp [upL, List.getD_eq_getElem?_getD, List.getElem?_range h]
theorem bools_app (a b : List Bool) : bools (a ++ b) = bools a ++ bools b := by simp [bools]
def fillL (f : Nat → Bool) (i n : Nat) : List Bool := (List.range n).map fun j => decide (j < i) && f j
theorem fillL_len (f : Nat → Bool) (i n : Nat) : (fillL f i n).length = n := by simp [fillL]
theorem fillL_zero (f : Nat → Bool) (n : Nat) : bools (fillL f 0 n) = List.replicate n (.bool false) := by
  unfold bools fillL
  apply List.ext_getElem
  · simp
  · intro j h1 h2
    simp
theorem fillL_step (f : Nat → Bool) {i n : Nat} (hi : i < n) : (fillL f i n).set i (f i) = fillL f (i + 1) n := by
  apply List.ext_getElem
  · simp [fillL]
  · intro j h1 h2
    rw [List.getElem_set]
    simp only [fillL, List.getElem_map, List.getElem_range]
    by_cases hj : i = j
    · subst hj; simp
    · rw [if_neg hj]
      congr 1
      exact decide_eq_decide.2 (by omega)
theorem fillL_full (f : Nat → Bool) (n : Nat) : fillL f n n = upL f n := by
  unfold fillL upL
  apply List.map_congr_left
  intro j hj
  rw [decide_eq_true (List.mem_range.1 hj), Bool.true_and]
/-- rows of bools, told by their headers -/
def Rows (W : World → Prop) (t : Rx) (n : Nat) (rv : List Value) (k : Nat) : Prop := rv.length = k ∧ ∀ i, i < k → ∃ (A : Option Addr) (c : Nat), rv[i]? = some (.slice A n c) ∧ n ≤ c ∧ Shows W A n 1 (bools (upL (nxtP t 0 i) n))
theorem Rows.mono {W' : World → Prop} {t : Rx} {n k : Nat} {rv : List Value} (h : Rows W t n rv k) (hw : ∀ w, W' w → W w) : Rows W' t n rv k :=
  ⟨h.1, fun i hi => by obtain ⟨A, c, h1, h2, h3⟩ := h.2 i hi; exact ⟨A, c, h1, h2, h3.mono hw⟩⟩
/-- a table in memory -/
def Tab (W : World → Prop) (g : Nat) (t : Rx) : Prop :=
  ∃ (As An Af Al : Option Addr) (cs cn cf cl : Nat) (rv : List Value), Rds W ⟨g, 0, none⟩ [.slice As (pl t) cs, .slice An (pl t) cn, .slice Af (pl t) cf, .slice Al (pl t) cl, .bool (nul t)] ∧ pl t ≤ cs ∧ pl t ≤ cn ∧ pl t ≤ cf ∧ pl t ≤ cl ∧
    Shows W As (pl t) 4 (setCells (lvs t)) ∧ Shows W An (pl t) 1 rv ∧ Rows W t (pl t) rv (pl t) ∧ Shows W Af (pl t) 1 (bools (upL (fstP t 0) (pl t))) ∧ Shows W Al (pl t) 1 (bools (upL (lstP t 0) (pl t)))
theorem Tab.mono {W' : World → Prop} {g : Nat} {t : Rx} (h : Tab W g t) (hw : ∀ w, W' w → W w) : Tab W' g t := by
  obtain ⟨As, An, Af, Al, cs, cn, cf, cl, rv, h1, h2, h3, h4, h5, h6, h7, h8, h9, h10⟩ := h
  exact ⟨As, An, Af, Al, cs, cn, cf, cl, rv, fun j v hj w hw' => h1 j v hj w (hw w hw'), h2, h3, h4, h5, h6.mono hw, h7.mono hw, h8.mono hw, h9.mono hw, h10.mono hw⟩
theorem make0 {t : Rx} {v : Nv} {gm gn : Nat} (hv : Tr (WH w0 B X) t v) (hs : X.Sublist H) (hn : nx t < 1000000000) (hp : pl t ≤ 1000000) : TCall Tryd.prog w0 B 40 #[.pointer (some ⟨gm, 0, none⟩), v.val]
    (fun r H' => ∃ (A' : Option Addr) (c' nn' : Nat) (m' : Nat × Nat → Bool) (of_ ol_ : Option Nat) (N : List Chunk), r = .agg #[.map of_, .map ol_, .bool (nul t)] ∧ pl t ≤ c' ∧ (∀ x y, kI.ok x → kI.ok y → m' (x, y) = nxtP t 0 x y) ∧ MI (WH w0 B N) (.map of_) (pl t) (fstP t 0) ∧ MI (WH w0 B N) (.map ol_) (pl t) (lstP t 0) ∧ H' = mkC gm (.slice A' (pl t) c') gn :: .sl (.slice A' (pl t) c') 4 (pl t) (setCells (lvs t)) :: .ob gn (SetP nn' m') :: (H ++ N))
    (mkC gm (.slice none 0 0) gn :: .sl (.slice none 0 0) 4 0 [] :: .ob gn (SetP 0 (fun _ => false)) :: H) := by
  refine (make_t hv gm gn 0 0 0 none [] (fun _ => false) H hs rfl (by omega) (by omega) (Nat.le_refl _)).mono ?_
  rintro r H' ⟨A', c', nn', m', vf, vl, N, k', cs', rfl, rfl, rfl, h1, h2, h3, h4, h5, rfl⟩
  obtain ⟨of_, rfl⟩ := MI_map h4
  obtain ⟨ol_, rfl⟩ := MI_map h5
  refine ⟨A', c', nn', m', of_, ol_, N, rfl, by omega, fun x y hx hy => by rw [h3 x y hx hy]; rfl, h4, h5, ?_⟩
  rw [Nat.zero_add]
  rfl
theorem perm_row {t r a b c d e f g h : Chunk} {X NR : List Chunk} : (t :: r :: a :: b :: c :: d :: e :: f :: g :: h :: (X ++ NR)).Perm (a :: b :: c :: d :: e :: f :: g :: h :: t :: (X ++ (r :: NR))) :=
  (((perm_pick (i := 2) rfl).trans (List.Perm.cons _ ((perm_pick (i := 2) rfl).trans (List.Perm.cons _ ((perm_pick (i := 2) rfl).trans (List.Perm.cons _ ((perm_pick (i := 2) rfl).trans (List.Perm.cons _ ((perm_pick (i := 2) rfl).trans (List.Perm.cons _ ((perm_pick (i := 2) rfl).trans (List.Perm.cons _ ((perm_pick (i := 2) rfl).trans (List.Perm.cons _ ((perm_pick (i := 2) rfl).trans (List.Perm.cons _ (List.Perm.refl _)))))))))))))))))).trans (((((((((List.Perm.cons t List.perm_middle.symm).cons h).cons g).cons f).cons e).cons d).cons c).cons b).cons a)
theorem perm_tab {a b c d e f g h : Chunk} {H N NR : List Chunk} : (a :: b :: c :: d :: e :: f :: g :: h :: ((H ++ N) ++ NR)).Perm (e :: f :: h :: (H ++ (a :: b :: c :: d :: g :: (N ++ NR)))) := by
  refine (((perm_pick (i := 4) rfl).trans (List.Perm.cons _ ((perm_pick (i := 4) rfl).trans (List.Perm.cons _ ((perm_pick (i := 5) rfl).trans (List.Perm.cons _ (List.Perm.refl _)))))))).trans ?_
  refine ((List.Perm.cons _ ?_).cons _).cons _
  show ([a, b, c, d, g] ++ ((H ++ N) ++ NR)).Perm (H ++ ([a, b, c, d, g] ++ (N ++ NR)))
  rw [List.append_assoc]
  exact List.perm_append_comm_assoc _ _ _
theorem Rows.snoc {t : Rx} {n k : Nat} {rv : List Value} {NR : List Chunk} (h : Rows (WH w0 B NR) t n rv k) (g : Nat) : Rows (WH w0 B (.sl (.slice (some ⟨g, 0, none⟩) n n) 1 n (bools (upL (nxtP t 0 k) n)) :: NR)) t n (rv ++ [.slice (some ⟨g, 0, none⟩) n n]) (k + 1) := by
  refine ⟨by simp [h.1], fun i hi => ?_⟩
  rcases Nat.lt_or_ge i k with hik | hik
  · obtain ⟨A, c, h1, h2, h3⟩ := h.2 i hik
    exact ⟨A, c, by rw [List.getElem?_append_left (by rw [h.1]; exact hik)]; exact h1, h2, h3.mono fun w hw => hw.sub (List.sublist_cons_self _ _)⟩
  · obtain rfl : i = k := by omega
    exact ⟨_, n, by rw [List.getElem?_append_right (by rw [h.1]; exact Nat.le_refl _), h.1, Nat.sub_self]; rfl, Nat.le_refl _, Shows.at 0 rfl⟩
structure OfS where
  k : Nat
  Af : Option Addr
  Al : Option Addr
  An : Option Addr
  cf : Nat
  cl : Nat
  cn : Nat
  rv : List Value
  NR : List Chunk
theorem oc_bool (b : Bool) : ∀ u ∈ [Value.bool b], u.oneCell' = true := bools_one (l := [b])
theorem Of_t {t : Rx} {v : Nv} (hv : Tr (WH w0 B H) t v) (hn : nx t < 1000000000) (hp : pl t ≤ 1000000) : TCall Tryd.prog w0 B 24 #[v.val] (fun r H' => ∃ (g : Nat) (N : List Chunk), r = .pointer (some ⟨g, 0, none⟩) ∧ Tab (WH w0 B N) g t ∧ H' = H ++ N) H := by
  refine TCall_intro (args := [_]) Tryd.func24 rfl Tryd.ntmps24 (Nat.le_of_ble_eq_true rfl) ?_
  refine T_addNil 4 ?_
  refine T_seq ?_
  refine T_region ?_
  refine TL_cons rfl (TO_box rfl rfl fun g1 => ?_)
  refine TL_p (PV_assign rfl) ?_
  refine TL_nil ?_
  refine T_seq ?_
  refine T_region ?_
  refine TL_cons rfl (TO_makeP rfl fun g9 => ?_)
  refine TL_p (PV_bld (cs := [_, _]) Tryd.underlying94 pl94 zr94 rfl rfl) ?_
  refine TL_cons rfl (TO_box rfl rfl fun g3 => ?_)
  refine TL_p (PV_assign rfl) ?_
  refine TL_nil ?_
  refine T_seq ?_
  refine T_region ?_
  refine TL_p (PV_move rfl) ?_
  refine TL_p (PV_loadAt Tryd.underlying30 rfl sz30 rfl (Rds.take 2 rfl rfl rfl)) ?_
  refine TL_perm ((perm_pick (i := 0) rfl).trans (List.Perm.cons _ ((perm_pick (i := 2) rfl).trans (List.Perm.cons _ ((perm_pick (i := 0) rfl).trans (List.Perm.cons _ (List.Perm.refl _))))))) ?_
  refine TL_cons rfl (TO_call0 call40 rfl rfl ((make0 hv (by repeat (first | exact Sb.r | exact Sb.ar | exact Sb.al | apply Sb.d | refine Sb.t ?_)) hn hp)) ?_)
  rintro v14_5 H14_5 ⟨A'_5, c'_5, nn'_5, m'_5, of__5, ol__5, N_5, rfl, h_5_0, h_5_1, h_5_2, h_5_3, rfl⟩
  refine TL_cons rfl (TO_alloc rfl zr97 fun g6 => ?_)
  refine TL_cons rfl (TO_store 0 rfl rfl rfl sz97 rfl rfl rfl (all_one rfl) (by first | exact Nat.le_of_ble_eq_true rfl | (simp; done) | (simp; omega) | omega) ?_)
  refine TL_nil ?_
  refine T_seq ?_
  refine T_drawn (WH _ _ _) mixed (fun w h => h) ?_
  refine TA_p 0 rfl (by kernel_rfl) (PV_move rfl) ?_
  refine TA_p 1 rfl (by kernel_rfl) (PV_nilCheck rfl) ?_
  refine TA_p 2 rfl (by kernel_rfl) (PV_fieldAddr (D := 0) Tryd.underlying94 rfl sz92 (by decide) rfl rfl) ?_
  refine TA_p 3 rfl (by kernel_rfl) (PV_load Tryd.underlying92 rfl rfl (Rd.at 1 rfl rfl)) ?_
  refine TA_p 4 rfl (by kernel_rfl) (PV_fieldAddr (D := 2) Tryd.underlying97 rfl sz4 (by decide) rfl rfl) ?_
  refine TA_p 5 rfl (by kernel_rfl) (PV_load Tryd.underlying4 rfl rfl (Rd.at 0 rfl rfl)) ?_
  refine TA_p 6 rfl (by kernel_rfl) (PV_bld (cs := [_, _, _, _, _]) Tryd.underlying101 pl101 zr101 rfl rfl) ?_
  refine TA_one 7 (by kernel_rfl) rfl rfl (TO_box rfl rfl fun g8 => ?_)
  refine ⟨fun _ h => h.sub (by (repeat (first | exact Sb.r | exact Sb.ar | exact Sb.al | apply Sb.d | refine Sb.t ?_)); done), ?_⟩
  refine TA_p 8 rfl (by kernel_rfl) (PV_assign rfl) ?_
  refine TA_done (by kernel_rfl) ?_
  refine T_seq ?_
  refine T_seq ?_
  refine T_region ?_
  refine TL_p (PV_move rfl) ?_
  refine TL_p (PV_nilCheck rfl) ?_
  refine TL_p (PV_fieldAddr (D := 0) Tryd.underlying94 rfl sz92 (by decide) rfl rfl) ?_
  refine TL_p (PV_load Tryd.underlying92 rfl rfl (Rd.at 2 rfl rfl)) ?_
  refine TL_p (PV_len_slice Tryd.underlying92 rfl) ?_
  refine TL_p (PV_move rfl) ?_
  refine TL_nil ?_
  refine T_block ?_
  refine ?L1
  case L1 =>
    refine T_addNil 1 (T_addNil 1 (T_addNil 1 ?_))
    refine T_loopPI (σ := OfS) (fun s => s.k ≤ pl t ∧ s.k ≤ s.cf ∧ s.k ≤ s.cl ∧ s.k ≤ s.cn ∧ Rows (WH w0 B s.NR) t (pl t) s.rv s.k) (fun s => pl t - s.k) (fun s => [(3, .pointer (some ⟨g3, 0, none⟩)), (4, .pointer (some ⟨g6, 0, none⟩)), (5, .pointer (some ⟨g8, 0, none⟩)), (27, .int .i64 ((pl t : Nat) : Int)), (28, .int .i64 (s.k : Int))]) (fun s => .own g8 5 [.slice A'_5 (pl t) c'_5, .slice s.An s.k s.cn, .slice s.Af s.k s.cf, .slice s.Al s.k s.cl, .bool (nul t)] :: .sl (.slice s.Af s.k s.cf) 1 s.k (bools (upL (fstP t 0) s.k)) :: .sl (.slice s.Al s.k s.cl) 1 s.k (bools (upL (lstP t 0) s.k)) :: .sl (.slice s.An s.k s.cn) 1 s.k s.rv :: .own g6 3 [.map of__5, .map ol__5, .bool (nul t)] :: mkC g3 (.slice A'_5 (pl t) c'_5) g9 :: .sl (.slice A'_5 (pl t) c'_5) 4 (pl t) (setCells (lvs t)) :: .ob g9 (SetP nn'_5 m'_5) :: ((H ++ N_5) ++ s.NR)) ⟨0, none, none, none, 0, 0, 0, [], []⟩ ⟨Nat.zero_le _, Nat.le_refl _, Nat.le_refl _, Nat.le_refl _, rfl, fun i hi => absurd hi (Nat.not_lt_zero i)⟩ (by repeat (first | exact FrSub.nil _ | refine FrSub.cons rfl ?_)) ?_ ?_
    · refine Has.of_perm ((perm_pick (i := 3) rfl).trans (List.Perm.cons _ ((perm_pick (i := 0) rfl).trans (List.Perm.cons _ ((perm_pick (i := 0) rfl).trans (List.Perm.cons _ ((perm_pick (i := 0) rfl).trans (List.Perm.cons _ ((perm_pick (i := 0) rfl).trans (List.Perm.cons _ ((perm_pick (i := 0) rfl).trans (List.Perm.cons _ ((perm_pick (i := 0) rfl).trans (List.Perm.cons _ ((perm_pick (i := 0) rfl).trans (List.Perm.cons _ (List.Perm.refl _))))))))))))))))) ?_
      rw [List.append_nil]
      exact (by repeat (first | exact Sb.r | exact Sb.ar | exact Sb.al | apply Sb.c | apply Sb.d | refine Sb.t ?_))
    rintro ⟨k, Af, Al, An, cf, cl, cn, rv, NR⟩ ⟨hk, h1, h2, h3, hR⟩
    dsimp only at hk h1 h2 h3 hR ⊢
    by_cases hkl : k < pl t
    · have hok : kI.ok k := okI (by omega)
      have e90 : Value.int .i64 (IntKind.i64.wrap ((k : Int) + 1)) = .int .i64 ((k + 1 : Nat) : Int) := wr64n _ (by push_cast; rfl) (by omega)
      refine T_seq ?_
      refine T_region ?_
      refine TL_p (PV_bin rfl rfl bin_lss) ?_
      refine TL_nil ?_
      refine T_seq ?_
      refine T_then rfl (by exact decide_eq_true (by omega)) ?_
      refine T_skip ?_
      refine T_seq ?_
      refine T_block ?_
      refine T_seq ?_
      refine T_region ?_
      refine TL_p (PV_move rfl) ?_
      refine TL_p (PV_assign rfl) ?_
      refine TL_nil ?_
      refine T_seq ?_
      refine ?L11
      case L11 =>
        refine T_midR (fun f h => ∃ (A1 : Option Addr) (c1 : Nat) (cs1 : List Value), k + 1 ≤ c1 ∧ cs1 = bools (upL (fstP t 0) (k + 1)) ∧ FrSub [(3, .pointer (some ⟨g3, 0, none⟩)), (4, .pointer (some ⟨g6, 0, none⟩)), (5, .pointer (some ⟨g8, 0, none⟩)), (27, .int .i64 ((pl t : Nat) : Int)), (28, .int .i64 (k : Int)), (6, .int .i64 (k : Int))] f ∧ Has h (.own g8 5 [.slice A'_5 (pl t) c'_5, .slice An k cn, .slice A1 (k + 1) c1, .slice Al k cl, .bool (nul t)] :: .sl (.slice A1 (k + 1) c1) 1 (k + 1) cs1 :: .sl (.slice Al k cl) 1 k (bools (upL (lstP t 0) k)) :: .sl (.slice An k cn) 1 k rv :: .own g6 3 [.map of__5, .map ol__5, .bool (nul t)] :: mkC g3 (.slice A'_5 (pl t) c'_5) g9 :: .sl (.slice A'_5 (pl t) c'_5) 4 (pl t) (setCells (lvs t)) :: .ob g9 (SetP nn'_5 m'_5) :: ((H ++ N_5) ++ NR))) ?_ ?_
        · refine T_drawn (WH w0 B (.own g6 3 [.map of__5, .map ol__5, .bool (nul t)] :: N_5)) mixed (by intro w h; first | exact h | exact trivial | exact h.sub (by (repeat (first | exact Sb.r | exact Sb.ar | exact Sb.al | apply Sb.c | apply Sb.d | refine Sb.t ?_)); done)) ?_
          refine TA_p 0 rfl (by kernel_rfl) (PV_move rfl) ?_
          refine TA_p 1 rfl (by kernel_rfl) (PV_move rfl) ?_
          refine TA_p 2 rfl (by kernel_rfl) (PV_nilCheck rfl) ?_
          refine TA_p 3 rfl (by kernel_rfl) (PV_fieldAddr (D := 2) Tryd.underlying101 rfl sz99 (by decide) rfl rfl) ?_
          refine TA_p 5 rfl (by kernel_rfl) (PV_fieldAddr (D := 0) Tryd.underlying97 rfl sz95 (by decide) rfl rfl) ?_
          refine TA_p 6 rfl (by kernel_rfl) (PV_load Tryd.underlying95 rfl rfl (Rd.at 0 rfl rfl)) ?_
          refine TA_p 7 rfl (by kernel_rfl) (PV_move rfl) ?_
          refine TA_p 8 rfl (by kernel_rfl) (PV_lookI (h_5_2.weak (fun w h => h.sub (by repeat (first | exact Sb.r | exact Sb.ar | exact Sb.al | apply Sb.d | refine Sb.t ?_)))) Tryd.underlying95 hok rfl rfl) ?_
          refine TA_hardG (rs := [4, 9]) (by kernel_rfl) (by decide) ?_
          refine List.forall_mem_cons.2 ⟨?w2001q109_4, List.forall_mem_cons.2 ⟨?w2001q109_9, by simp⟩⟩
          refine ⟨_, rfl, Or.inl rfl, (TO_pure rfl (PV_load Tryd.underlying99 rfl rfl (Rd.at 0 rfl rfl)) ?_)⟩
          refine ⟨fun _ h => h.sub (by (repeat (first | exact Sb.r | exact Sb.ar | exact Sb.al | apply Sb.c | apply Sb.d | refine Sb.t ?_)); done), ?_⟩
          refine TA_one 9 (by kernel_rfl) rfl rfl (TO_bs (cs := [_]) Tryd.underlying99 zs4 (by decide) rfl rfl rfl rfl rfl rfl fun g2004 => ?_)
          refine ⟨fun _ h => h.sub (by (repeat (first | exact Sb.r | exact Sb.ar | exact Sb.al | apply Sb.c | apply Sb.d | refine Sb.t ?_)); done), ?_⟩
          refine TA_one 10 (by kernel_rfl) rfl rfl (TO_append 2 rfl Tryd.underlying99 zb4 rfl (by decide) rfl rfl rfl (Shows.at 0 rfl) ?oc2005q109 ?bb2005q109 ?bc2005q109 fun A2005 c2005 hc2005 => ?_)
          case oc2005q109 => exact oc_bool _
          case bb2005q109 => omega
          case bc2005q109 => omega
          refine ⟨fun _ h => h.sub (by (repeat (first | exact Sb.r | exact Sb.ar | exact Sb.al | apply Sb.c | apply Sb.d | refine Sb.t ?_)); done), ?_⟩
          refine TA_p 11 rfl (by kernel_rfl) (PV_nilCheck rfl) ?_
          refine TA_p 12 rfl (by kernel_rfl) (PV_fieldAddr (D := 2) Tryd.underlying101 rfl sz99 (by decide) rfl rfl) ?_
          refine TA_one 13 (by kernel_rfl) rfl rfl (TO_store1 1 rfl rfl rfl sz99 rfl rfl rfl (by first | exact Nat.le_of_ble_eq_true rfl | (simp; done) | (simp; omega) | omega) ?_)
          refine ⟨fun _ h => h.sub (by (repeat (first | exact Sb.r | exact Sb.ar | exact Sb.al | apply Sb.c | apply Sb.d | refine Sb.t ?_)); done), ?_⟩
          refine TA_done (by kernel_rfl) ?_
          refine ?L21
          rotate_left 1
          refine ⟨_, rfl, Or.inl rfl, (TO_bs (cs := [_]) Tryd.underlying99 zs4 (by decide) rfl rfl rfl rfl rfl rfl fun g2003 => ?_)⟩
          refine ⟨fun _ h => h.sub (by (repeat (first | exact Sb.r | exact Sb.ar | exact Sb.al | apply Sb.c | apply Sb.d | refine Sb.t ?_)); done), ?_⟩
          refine TA_pure1 (dd := (some 35)) 4 (by kernel_rfl) rfl rfl rfl rfl (PV_load Tryd.underlying99 rfl rfl (Rd.at 1 rfl rfl)) ?_
          refine TA_one 10 (by kernel_rfl) rfl rfl (TO_append 2 rfl Tryd.underlying99 zb4 rfl (by decide) rfl rfl rfl (Shows.at 0 rfl) ?oc2007q109 ?bb2007q109 ?bc2007q109 fun A2007 c2007 hc2007 => ?_)
          case oc2007q109 => exact oc_bool _
          case bb2007q109 => omega
          case bc2007q109 => omega
          refine ⟨fun _ h => h.sub (by (repeat (first | exact Sb.r | exact Sb.ar | exact Sb.al | apply Sb.c | apply Sb.d | refine Sb.t ?_)); done), ?_⟩
          refine TA_p 11 rfl (by kernel_rfl) (PV_nilCheck rfl) ?_
          refine TA_p 12 rfl (by kernel_rfl) (PV_fieldAddr (D := 2) Tryd.underlying101 rfl sz99 (by decide) rfl rfl) ?_
          refine TA_one 13 (by kernel_rfl) rfl rfl (TO_store1 1 rfl rfl rfl sz99 rfl rfl rfl (by first | exact Nat.le_of_ble_eq_true rfl | (simp; done) | (simp; omega) | omega) ?_)
          refine ⟨fun _ h => h.sub (by (repeat (first | exact Sb.r | exact Sb.ar | exact Sb.al | apply Sb.c | apply Sb.d | refine Sb.t ?_)); done), ?_⟩
          refine TA_done (by kernel_rfl) ?_
          refine ?L22
          case L21 => exact ⟨A2005, c2005, _, hc2005, by rw [upL_succ, bools_app], (by repeat (first | exact FrSub.nil _ | refine FrSub.cons rfl ?_)), Has.of_sub (by repeat (first | exact Sb.r | exact Sb.ar | exact Sb.al | apply Sb.c | apply Sb.d | refine Sb.t ?_))⟩
          case L22 => exact ⟨A2007, c2007, _, hc2007, by rw [upL_succ, bools_app], (by repeat (first | exact FrSub.nil _ | refine FrSub.cons rfl ?_)), Has.of_sub (by repeat (first | exact Sb.r | exact Sb.ar | exact Sb.al | apply Sb.c | apply Sb.d | refine Sb.t ?_))⟩
        · rintro f h ⟨A1, c1, cs1, hc1, rfl, hf, ⟨hh, hp2, hs⟩⟩
          refine T.weaken hf (T.perm hp2 (T.drop hs ?_))
          refine T_seq ?_
          refine ?L31
          case L31 =>
            refine T_midR (fun f h => ∃ (A2 : Option Addr) (c2 : Nat) (cs2 : List Value), k + 1 ≤ c2 ∧ cs2 = bools (upL (lstP t 0) (k + 1)) ∧ FrSub [(3, .pointer (some ⟨g3, 0, none⟩)), (4, .pointer (some ⟨g6, 0, none⟩)), (5, .pointer (some ⟨g8, 0, none⟩)), (27, .int .i64 ((pl t : Nat) : Int)), (28, .int .i64 (k : Int)), (6, .int .i64 (k : Int))] f ∧ Has h (.own g8 5 [.slice A'_5 (pl t) c'_5, .slice An k cn, .slice A1 (k + 1) c1, .slice A2 (k + 1) c2, .bool (nul t)] :: .sl (.slice A1 (k + 1) c1) 1 (k + 1) (bools (upL (fstP t 0) (k + 1))) :: .sl (.slice A2 (k + 1) c2) 1 (k + 1) cs2 :: .sl (.slice An k cn) 1 k rv :: .own g6 3 [.map of__5, .map ol__5, .bool (nul t)] :: mkC g3 (.slice A'_5 (pl t) c'_5) g9 :: .sl (.slice A'_5 (pl t) c'_5) 4 (pl t) (setCells (lvs t)) :: .ob g9 (SetP nn'_5 m'_5) :: ((H ++ N_5) ++ NR))) ?_ ?_
            · refine T_drawn (WH w0 B (.own g6 3 [.map of__5, .map ol__5, .bool (nul t)] :: N_5)) mixed (by intro w h; first | exact h | exact trivial | exact h.sub (by (repeat (first | exact Sb.r | exact Sb.ar | exact Sb.al | apply Sb.c | apply Sb.d | refine Sb.t ?_)); done)) ?_
              refine TA_p 0 rfl (by kernel_rfl) (PV_move rfl) ?_
              refine TA_p 1 rfl (by kernel_rfl) (PV_move rfl) ?_
              refine TA_p 2 rfl (by kernel_rfl) (PV_nilCheck rfl) ?_
              refine TA_p 3 rfl (by kernel_rfl) (PV_fieldAddr (D := 3) Tryd.underlying101 rfl sz99 (by decide) rfl rfl) ?_
              refine TA_p 5 rfl (by kernel_rfl) (PV_fieldAddr (D := 1) Tryd.underlying97 rfl sz95 (by decide) rfl rfl) ?_
              refine TA_p 6 rfl (by kernel_rfl) (PV_load Tryd.underlying95 rfl rfl (Rd.at 0 rfl rfl)) ?_
              refine TA_p 7 rfl (by kernel_rfl) (PV_move rfl) ?_
              refine TA_p 8 rfl (by kernel_rfl) (PV_lookI (h_5_3.weak (fun w h => h.sub (by repeat (first | exact Sb.r | exact Sb.ar | exact Sb.al | apply Sb.d | refine Sb.t ?_)))) Tryd.underlying95 hok rfl rfl) ?_
              refine TA_hardG (rs := [4, 9]) (by kernel_rfl) (by decide) ?_
              refine List.forall_mem_cons.2 ⟨?w4001q121_4, List.forall_mem_cons.2 ⟨?w4001q121_9, by simp⟩⟩
              refine ⟨_, rfl, Or.inl rfl, (TO_pure rfl (PV_load Tryd.underlying99 rfl rfl (Rd.at 0 rfl rfl)) ?_)⟩
              refine ⟨fun _ h => h.sub (by (repeat (first | exact Sb.r | exact Sb.ar | exact Sb.al | apply Sb.c | apply Sb.d | refine Sb.t ?_)); done), ?_⟩
              refine TA_one 9 (by kernel_rfl) rfl rfl (TO_bs (cs := [_]) Tryd.underlying99 zs4 (by decide) rfl rfl rfl rfl rfl rfl fun g4004 => ?_)
              refine ⟨fun _ h => h.sub (by (repeat (first | exact Sb.r | exact Sb.ar | exact Sb.al | apply Sb.c | apply Sb.d | refine Sb.t ?_)); done), ?_⟩
              refine TA_one 10 (by kernel_rfl) rfl rfl (TO_append 3 rfl Tryd.underlying99 zb4 rfl (by decide) rfl rfl rfl (Shows.at 0 rfl) ?oc4005q121 ?bb4005q121 ?bc4005q121 fun A4005 c4005 hc4005 => ?_)
              case oc4005q121 => exact oc_bool _
              case bb4005q121 => omega
              case bc4005q121 => omega
              refine ⟨fun _ h => h.sub (by (repeat (first | exact Sb.r | exact Sb.ar | exact Sb.al | apply Sb.c | apply Sb.d | refine Sb.t ?_)); done), ?_⟩
              refine TA_p 11 rfl (by kernel_rfl) (PV_nilCheck rfl) ?_
              refine TA_p 12 rfl (by kernel_rfl) (PV_fieldAddr (D := 3) Tryd.underlying101 rfl sz99 (by decide) rfl rfl) ?_
              refine TA_one 13 (by kernel_rfl) rfl rfl (TO_store1 1 rfl rfl rfl sz99 rfl rfl rfl (by first | exact Nat.le_of_ble_eq_true rfl | (simp; done) | (simp; omega) | omega) ?_)
              refine ⟨fun _ h => h.sub (by (repeat (first | exact Sb.r | exact Sb.ar | exact Sb.al | apply Sb.c | apply Sb.d | refine Sb.t ?_)); done), ?_⟩
              refine TA_done (by kernel_rfl) ?_
              refine ?L41
              rotate_left 1
              refine ⟨_, rfl, Or.inl rfl, (TO_bs (cs := [_]) Tryd.underlying99 zs4 (by decide) rfl rfl rfl rfl rfl rfl fun g4003 => ?_)⟩
              refine ⟨fun _ h => h.sub (by (repeat (first | exact Sb.r | exact Sb.ar | exact Sb.al | apply Sb.c | apply Sb.d | refine Sb.t ?_)); done), ?_⟩
              refine TA_pure1 (dd := (some 48)) 4 (by kernel_rfl) rfl rfl rfl rfl (PV_load Tryd.underlying99 rfl rfl (Rd.at 1 rfl rfl)) ?_
              refine TA_one 10 (by kernel_rfl) rfl rfl (TO_append 3 rfl Tryd.underlying99 zb4 rfl (by decide) rfl rfl rfl (Shows.at 0 rfl) ?oc4007q121 ?bb4007q121 ?bc4007q121 fun A4007 c4007 hc4007 => ?_)
              case oc4007q121 => exact oc_bool _
              case bb4007q121 => omega
              case bc4007q121 => omega
              refine ⟨fun _ h => h.sub (by (repeat (first | exact Sb.r | exact Sb.ar | exact Sb.al | apply Sb.c | apply Sb.d | refine Sb.t ?_)); done), ?_⟩
              refine TA_p 11 rfl (by kernel_rfl) (PV_nilCheck rfl) ?_
              refine TA_p 12 rfl (by kernel_rfl) (PV_fieldAddr (D := 3) Tryd.underlying101 rfl sz99 (by decide) rfl rfl) ?_
              refine TA_one 13 (by kernel_rfl) rfl rfl (TO_store1 1 rfl rfl rfl sz99 rfl rfl rfl (by first | exact Nat.le_of_ble_eq_true rfl | (simp; done) | (simp; omega) | omega) ?_)
              refine ⟨fun _ h => h.sub (by (repeat (first | exact Sb.r | exact Sb.ar | exact Sb.al | apply Sb.c | apply Sb.d | refine Sb.t ?_)); done), ?_⟩
              refine TA_done (by kernel_rfl) ?_
              refine ?L42
              case L41 => exact ⟨A4005, c4005, _, hc4005, by rw [upL_succ, bools_app], (by repeat (first | exact FrSub.nil _ | refine FrSub.cons rfl ?_)), Has.of_sub (by repeat (first | exact Sb.r | exact Sb.ar | exact Sb.al | apply Sb.c | apply Sb.d | refine Sb.t ?_))⟩
              case L42 => exact ⟨A4007, c4007, _, hc4007, by rw [upL_succ, bools_app], (by repeat (first | exact FrSub.nil _ | refine FrSub.cons rfl ?_)), Has.of_sub (by repeat (first | exact Sb.r | exact Sb.ar | exact Sb.al | apply Sb.c | apply Sb.d | refine Sb.t ?_))⟩
            · rintro f h ⟨A2, c2, cs2, hc2, rfl, hf, ⟨hh, hp2, hs⟩⟩
              refine T.weaken hf (T.perm hp2 (T.drop hs ?_))
              refine T_seq ?_
              refine T_region ?_
              refine TL_p (PV_move rfl) ?_
              refine TL_p (PV_nilCheck rfl) ?_
              refine TL_p (PV_fieldAddr (D := 0) Tryd.underlying94 rfl sz92 (by decide) rfl rfl) ?_
              refine TL_p (PV_load Tryd.underlying92 rfl rfl (Rd.at 5 rfl rfl)) ?_
              refine TL_p (PV_len_slice Tryd.underlying92 rfl) ?_
              refine TL_cons rfl (TO_make Tryd.underlying99 zb4 rfl (by omega) (by omega) rfl ⟨_, rfl⟩ ⟨_, rfl⟩ fun g5001 => ?_)
              refine TL_p (PV_assign rfl) ?_
              refine TL_nil ?_
              refine T_seq ?_
              refine T_seq ?_
              refine T_region ?_
              refine TL_p (PV_move rfl) ?_
              refine TL_p (PV_len_slice Tryd.underlying99 rfl) ?_
              refine TL_p (PV_move rfl) ?_
              refine TL_nil ?_
              refine T_block ?_
              refine ?L51
              case L51 =>
                refine T_loopP1 (fun (i : Nat) => i ≤ pl t) (fun i => pl t - i) (fun i => [(3, .pointer (some ⟨g3, 0, none⟩)), (4, .pointer (some ⟨g6, 0, none⟩)), (5, .pointer (some ⟨g8, 0, none⟩)), (27, .int .i64 ((pl t : Nat) : Int)), (28, .int .i64 (k : Int)), (6, .int .i64 (k : Int)), (7, .slice (some ⟨g5001, 0, none⟩) (pl t) (pl t)), (64, .int .i64 ((pl t : Nat) : Int)), (65, .int .i64 (i : Int))]) (fun i => .sl (.slice (some ⟨g5001, 0, none⟩) (pl t) (pl t)) 1 (pl t) (bools (fillL (nxtP t 0 k) i (pl t))) :: .own g8 5 [.slice A'_5 (pl t) c'_5, .slice An k cn, .slice A1 (k + 1) c1, .slice A2 (k + 1) c2, .bool (nul t)] :: .sl (.slice A1 (k + 1) c1) 1 (k + 1) (bools (upL (fstP t 0) (k + 1))) :: .sl (.slice A2 (k + 1) c2) 1 (k + 1) (bools (upL (lstP t 0) (k + 1))) :: .sl (.slice An k cn) 1 k rv :: .own g6 3 [.map of__5, .map ol__5, .bool (nul t)] :: mkC g3 (.slice A'_5 (pl t) c'_5) g9 :: .sl (.slice A'_5 (pl t) c'_5) 4 (pl t) (setCells (lvs t)) :: .ob g9 (SetP nn'_5 m'_5) :: ((H ++ N_5) ++ NR)) 0 (Nat.zero_le _) (by repeat (first | exact FrSub.nil _ | refine FrSub.cons rfl ?_)) (by rw [fillL_zero]; exact Has.of_sub (by repeat (first | exact Sb.r | exact Sb.ar | exact Sb.al | apply Sb.c | apply Sb.d | refine Sb.t ?_))) ?_
                intro i hi
                by_cases hil : i < pl t
                · have e79 : Value.int .i64 (IntKind.i64.wrap ((i : Int) + 1)) = .int .i64 ((i + 1 : Nat) : Int) := wr64n _ (by push_cast; rfl) (by omega)
                  have hst := fillL_step (nxtP t 0 k) hil
                  have hz : (bools (fillL (nxtP t 0 k) i (pl t))).length = pl t := by rw [bools_len, fillL_len]
                  refine T_seq ?_
                  refine T_region ?_
                  refine TL_p (PV_bin rfl rfl bin_lss) ?_
                  refine TL_nil ?_
                  refine T_seq ?_
                  refine T_then rfl (by exact decide_eq_true (by omega)) ?_
                  refine T_skip ?_
                  refine T_seq ?_
                  refine T_block ?_
                  refine T_seq ?_
                  refine T_region ?_
                  refine TL_p (PV_move rfl) ?_
                  refine TL_p (PV_assign rfl) ?_
                  refine TL_nil ?_
                  refine T_region ?_
                  refine TL_p (PV_move rfl) ?_
                  refine TL_p (PV_move rfl) ?_
                  refine TL_p (PV_move rfl) ?_
                  refine TL_p (PV_nilCheck rfl) ?_
                  refine TL_p (PV_fieldAddr (D := 1) Tryd.underlying94 rfl sz91 (by decide) rfl rfl) ?_
                  refine TL_p (PV_load Tryd.underlying91 rfl rfl (Rd.at 6 rfl rfl)) ?_
                  refine TL_p (PV_move rfl) ?_
                  refine TL_p (PV_move rfl) ?_
                  refine TL_p (PV_pair Tryd.underlying102 sz3 zr102 rfl rfl) ?_
                  refine TL_p (PV.cast (PV_lookP 8 rfl Tryd.underlying91 (okP (by omega) (by omega)) rfl rfl) (by rw [h_5_1 k i hok (okI (by omega))])) ?_
                  refine TL_p (PV_indexAddr Tryd.underlying99 sz4 rfl rfl rfl (by first | omega | decide | assumption)) ?_
                  refine TL_cons rfl (TO_store1 0 rfl rfl rfl sz4 rfl rfl rfl (by first | exact Nat.le_of_ble_eq_true rfl | (simp; done) | (simp; omega) | omega) ?_)
                  refine TL_nil ?_
                  refine T_region ?_
                  refine TL_p (PV.cast (PV_bin rfl rfl bin_add) e79) ?_
                  refine TL_p (PV_move rfl) ?_
                  refine TL_nil ?_
                  refine ?L61
                  case L61 =>
                    refine ⟨i + 1, by omega, by omega, (by repeat (first | exact FrSub.nil _ | refine FrSub.cons rfl ?_)), ?_⟩
                    rw [← hst, ← bools_set, show 0 + i * 1 = i by omega]
                    exact Has.of_sub (by repeat (first | exact Sb.r | exact Sb.ar | exact Sb.al | apply Sb.c | apply Sb.d | refine Sb.t ?_))
                · obtain rfl : i = pl t := by omega
                  rw [fillL_full]
                  refine T_seq ?_
                  refine T_region ?_
                  refine TL_p (PV_bin rfl rfl bin_lss) ?_
                  refine TL_nil ?_
                  refine T_seq ?_
                  refine T_else rfl (by (simp; done)) ?_
                  refine T_exit ?_
                  refine T_region ?_
                  refine TL_p (PV_move rfl) ?_
                  refine TL_p (PV_move rfl) ?_
                  refine TL_p (PV_nilCheck rfl) ?_
                  refine TL_p (PV_fieldAddr (D := 1) Tryd.underlying101 rfl sz86 (by decide) rfl rfl) ?_
                  refine TL_p (PV_load Tryd.underlying86 rfl rfl (Rd.at 1 rfl rfl)) ?_
                  refine TL_p (PV_move rfl) ?_
                  refine TL_cons rfl (TO_bs (cs := [_]) Tryd.underlying86 zs99 (by decide) rfl rfl rfl rfl rfl rfl fun g7001 => ?_)
                  refine TL_cons rfl (TO_append 5 rfl Tryd.underlying86 zb99 rfl (by decide) rfl rfl rfl (Shows.at 0 rfl) ?oc7002q147 ?bb7002q147 ?bc7002q147 fun A7002 c7002 hc7002 => ?_)
                  case oc7002q147 => (simp [Value.oneCell'])
                  case bb7002q147 => omega
                  case bc7002q147 => omega
                  refine TL_p (PV_nilCheck rfl) ?_
                  refine TL_p (PV_fieldAddr (D := 1) Tryd.underlying101 rfl sz86 (by decide) rfl rfl) ?_
                  refine TL_cons rfl (TO_store1 2 rfl rfl rfl sz86 rfl rfl rfl (by first | exact Nat.le_of_ble_eq_true rfl | (simp; done) | (simp; omega) | omega) ?_)
                  refine TL_nil ?_
                  refine T_region ?_
                  refine TL_p (PV.cast (PV_bin rfl rfl bin_add) e90) ?_
                  refine TL_p (PV_move rfl) ?_
                  refine TL_nil ?_
                  refine ?L71
                  case L71 =>
                    refine ⟨⟨k + 1, A1, A2, A7002, c1, c2, c7002, rv ++ [.slice (some ⟨g5001, 0, none⟩) (pl t) (pl t)], .sl (.slice (some ⟨g5001, 0, none⟩) (pl t) (pl t)) 1 (pl t) (bools (upL (nxtP t 0 k) (pl t))) :: NR⟩, ⟨by show k + 1 ≤ pl t; omega, hc1, hc2, hc7002, hR.snoc g5001⟩, by show pl t - (k + 1) < pl t - k; omega, (by repeat (first | exact FrSub.nil _ | refine FrSub.cons rfl ?_)), ?_⟩
                    exact Has.of_perm perm_row (by repeat (first | exact Sb.r | exact Sb.ar | exact Sb.al | apply Sb.c | apply Sb.d | refine Sb.t ?_))
    · obtain rfl : k = pl t := by omega
      refine T_seq ?_
      refine T_region ?_
      refine TL_p (PV_bin rfl rfl bin_lss) ?_
      refine TL_nil ?_
      refine T_seq ?_
      refine T_else rfl (by (simp; done)) ?_
      refine T_exit ?_
      refine T_seq ?_
      refine T_region ?_
      refine TL_p (PV_move rfl) ?_
      refine TL_p (PV_assign rfl) ?_
      refine TL_nil ?_
      refine ?L81
      case L81 =>
        refine T.perm perm_tab ?_
        refine T_ret ?_
        refine ret_ret (ResV_one rfl rfl) ?_
        exact ⟨H ++ (_ :: _ :: _ :: _ :: _ :: (N_5 ++ NR)), List.Sublist.cons _ (List.Sublist.cons _ (List.Sublist.cons _ (List.Sublist.refl _))), g8, _, rfl, ⟨A'_5, An, Af, Al, c'_5, cn, cf, cl, rv, Rds.at 0 rfl rfl, h_5_0, h3, h1, h2, Shows.at 4 rfl, Shows.at 3 rfl, hR.mono (fun w h => h.sub (by repeat (first | exact Sb.r | exact Sb.ar | exact Sb.al | apply Sb.d | refine Sb.t ?_))), Shows.at 1 rfl, Shows.at 2 rfl⟩, rfl⟩
end
end Go.Proofs.YtijpbpnfachlkaaDoor.SL
