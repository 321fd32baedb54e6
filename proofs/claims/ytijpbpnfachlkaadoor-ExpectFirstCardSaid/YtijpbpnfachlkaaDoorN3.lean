import Derived.Test.YtijpbpnfachlkaaDoorN2
/- Tables of patterns: a node's part. No statement is proved here. -/
set_option linter.unusedVariables false
set_option linter.unusedSimpArgs false
set_option maxRecDepth 100000
set_option maxHeartbeats 8000000
namespace Go.Proofs.YtijpbpnfachlkaaDoor.SL
open Go Go.RowKit
section
variable {w0 : World} {B n : Nat} {fr : Fr} {H X : List Chunk} {dst : Option Tmp} {ty : TypeId} {pos : String} {aft : Array Edge} {gd : Option (Nat × Bool)} {K : Fr → List Chunk → Prop} {W : World → Prop}
theorem TCall_showsN {P : Program} {f : FuncId} {args : Array Value} {R : Value → List Chunk → Prop} {A : Option Addr} {m es : Nat} {ys : List Value} (hS : Shows (WH w0 B H) A m es ys) (hne : 0 < ys.length) (h : ∀ g off, A = some ⟨g, off, none⟩ → (∀ j v, ys[j]? = some v → Rd (WH w0 B H) ⟨g, off + j, none⟩ v) → TCall P w0 B f args R H) : TCall P w0 B f args R H := by
  intro HX w hr
  have hn : ys ≠ [] := by intro e; subst e; simp at hne
  obtain ⟨p, rfl, hc⟩ := hS.run hn ⟨HX, hr⟩
  have hp : p.spot = none := by
    have h1 := hc 0 _ (List.getElem?_eq_getElem hne)
    simp only [Addr.add, if_true, World.cell?] at h1
    split at h1
    · cases hsp : p.spot with
      | none => rfl
      | some q => simp [hsp] at h1
    · cases h1
  obtain ⟨g, off, sp⟩ := p
  simp only at hp
  subst hp
  refine h g off rfl (fun j v hj w' hw' => ?_) HX w hr
  obtain ⟨p, e, hc⟩ := hS.run hn hw'
  cases e
  have := hc j v hj
  rwa [add_plain'] at this
theorem T_midR {P : Program} {Q : Exit → Fr → List Chunk → Prop} {c y : Code} (R : Fr → List Chunk → Prop) (h1 : T P w0 B n c (Then R Q) fr H) (h2 : ∀ f h, R f h → T P w0 B n y Q f h) : T P w0 B n c (Then (fun f h => T P w0 B n y Q f h) Q) fr H := by
  refine h1.mono ?_
  rintro e f h hq
  cases e with
  | normal => exact h2 _ _ hq
  | _ => exact hq
def setCells (L : List S4) : List Value := L.flatMap S4.cells
theorem setCells_app (L M : List S4) : setCells (L ++ M) = setCells L ++ setCells M := by simp [setCells]
theorem setCells_one (s : S4) : setCells [s] = s.cells := by simp [setCells]
def setC (A : Option Addr) (c k : Nat) (L : List S4) : Chunk := .sl (.slice A k c) 4 k (setCells L)
theorem S4.cells_oc (s : S4) : ∀ u ∈ s.cells, u.oneCell' = true := by
  intro u hu
  simp only [S4.cells, List.mem_cons, List.not_mem_nil, or_false] at hu
  rcases hu with rfl | rfl | rfl | rfl <;> rfl
/-- how many times two places are joined at most -/
def nx : Rx → Nat
  | .nothing => 0
  | .one _ => 0
  | .then_ a b => nx a + nx b + pl a * pl b
  | .either a b => nx a + nx b
  | .star a => nx a + pl a * pl a
/-- what make is to do, for a pattern -/
def MakeR (w0 : World) (B : Nat) (t : Rx) (gm gn nn k : Nat) (L : List S4) (m : Nat × Nat → Bool) (H : List Chunk) (r : Value) (H' : List Chunk) : Prop :=
  ∃ (A' : Option Addr) (c' nn' : Nat) (m' : Nat × Nat → Bool) (vf vl : Value) (N : List Chunk) (k' : Nat) (cs' : List Value), r = .agg #[vf, vl, .bool (nul t)] ∧ k' = k + pl t ∧ cs' = setCells (L ++ lvs t) ∧ k' ≤ c' ∧ nn' ≤ nn + nx t ∧ (∀ x y, kI.ok x → kI.ok y → m' (x, y) = (m (x, y) || nxtP t k x y)) ∧ MI (WH w0 B N) vf (pl t) (fstP t k) ∧ MI (WH w0 B N) vl (pl t) (lstP t k) ∧ H' = mkC gm (.slice A' k' c') gn :: .sl (.slice A' k' c') 4 k' cs' :: .ob gn (SetP nn' m') :: (H ++ N)
def MakeC (w0 : World) (B : Nat) (t : Rx) (v : Nv) (H0 : List Chunk) : Prop :=
  ∀ (gm gn nn k c : Nat) (A : Option Addr) (L : List S4) (m : Nat × Nat → Bool) (H : List Chunk), H0.Sublist H → L.length = k → nn + nx t < 1000000000 → k + pl t ≤ 1000000 → k ≤ c →
    TCall Tryd.prog w0 B 40 #[.pointer (some ⟨gm, 0, none⟩), v.val] (MakeR w0 B t gm gn nn k L m H) (mkC gm (.slice A k c) gn :: setC A c k L :: .ob gn (SetP nn m) :: H)
theorem perm_two {a b : Chunk} {R : List Chunk} : (a :: b :: R).Perm (R ++ [a, b]) := List.perm_append_comm (l₁ := [a, b])
theorem one_mem (k x : Nat) : insB (fun _ => false) k x = decide (x = k) := by
  unfold insB
  by_cases h : x = k
  · subst h; simp
  · simp [h]
theorem make_nothing {v : Nv} (hv : v = nv0) : MakeC w0 B .nothing v X := by
  subst hv
  intro gm gn nn k c A L m H hsub hL hn hk hc
  show TCall Tryd.prog w0 B 40 #[.pointer (some ⟨gm, 0, none⟩), .agg #[.int .i64 0, wv S4.zero.a, wv S4.zero.b, wv S4.zero.c, wv S4.zero.d, .slice none 0 0]] _ _
  have hm : ∀ x y, kI.ok x → kI.ok y → m (x, y) = (m (x, y) || nxtP .nothing k x y) := fun x y _ _ => by simp [nxtP]
  have hf : MI (WH w0 B []) (.map none) (pl .nothing) (fstP .nothing k) := .inl ⟨rfl, fun _ _ => rfl⟩
  have hl : MI (WH w0 B []) (.map none) (pl .nothing) (lstP .nothing k) := .inl ⟨rfl, fun _ _ => rfl⟩
  refine TCall_intro (args := [_, _]) Tryd.func40 rfl Tryd.ntmps40 (Nat.le_of_ble_eq_true rfl) ?_
  refine T_seq ?_
  refine T_region ?_
  refine TL_cons rfl (TO_box rfl rfl fun g1 => ?_)
  refine TL_cons rfl (TO_alloc rfl zr97 fun g2 => ?_)
  refine TL_nil ?_
  refine T_seq ?_
  refine T_seq ?_
  refine T_region ?_
  refine TL_p (PV_fieldAddr (D := 0) Tryd.underlying30 rfl sz24 (by decide) rfl rfl) ?_
  refine TL_p (PV_load Tryd.underlying24 rfl rfl (Rd.at 1 rfl rfl)) ?_
  refine TL_nil ?_
  refine T_block ?_
  refine T_seq ?_
  refine T_region ?_
  refine TL_p (PV_bin rfl rfl bin_eql) ?_
  refine TL_p (PV_assign rfl) ?_
  refine TL_nil ?_
  refine T_else rfl (by rfl) ?_
  refine T_seq ?_
  refine T_region ?_
  refine TL_p (PV_bin rfl rfl bin_eql) ?_
  refine TL_p (PV_assign rfl) ?_
  refine TL_nil ?_
  refine T_else rfl (by rfl) ?_
  refine T_seq ?_
  refine T_region ?_
  refine TL_p (PV_bin rfl rfl bin_eql) ?_
  refine TL_p (PV_assign rfl) ?_
  refine TL_nil ?_
  refine T_else rfl (by rfl) ?_
  refine T_seq ?_
  refine T_region ?_
  refine TL_p (PV_bin rfl rfl bin_eql) ?_
  refine TL_p (PV_assign rfl) ?_
  refine TL_nil ?_
  refine T_else rfl (by rfl) ?_
  refine T_skip ?_
  refine T_seq ?_
  refine T_region ?_
  refine TL_p (PV_bld (cs := [_, _, _]) Tryd.underlying97 pl97 zr97 rfl rfl) ?_
  refine TL_cons rfl (TO_store 0 rfl rfl rfl sz97 rfl rfl rfl (all_one rfl) (by first | exact Nat.le_of_ble_eq_true rfl | (simp; done) | (simp; omega) | omega) ?_)
  refine TL_nil ?_
  refine ?L1
  case L1 =>
    refine T_ret ?_
    refine ret_ret (ResV_c rfl Tryd.underlying97 rfl sz97 rfl (Rds.take 0 rfl rfl rfl)) ?_
    exact ⟨mkC gm (.slice A k c) gn :: setC A c k L :: .ob gn (SetP nn m) :: (H ++ []), by rw [List.append_nil]; exact (by repeat (first | exact Sb.r | exact Sb.ar | exact Sb.al | apply Sb.c | apply Sb.d | refine Sb.t ?_)), A, c, nn, m, _, _, [], k, setCells L, rfl, rfl, by rw [show lvs .nothing = [] from rfl, List.append_nil], hc, Nat.le_refl _, hm, hf, hl, rfl⟩
theorem make_one {st : S4} {v : Nv} (hv : v = ⟨1, st, none, 0, 0⟩) : MakeC w0 B (.one st) v X := by
  subst hv
  intro gm gn nn k c A L m H hsub hL hn hk hc
  show TCall Tryd.prog w0 B 40 #[.pointer (some ⟨gm, 0, none⟩), .agg #[.int .i64 1, wv st.a, wv st.b, wv st.c, wv st.d, .slice none 0 0]] _ _
  simp only [pl] at hk
  have hk2 : kI.ok k := okI (by omega)
  refine TCall_intro (args := [_, _]) Tryd.func40 rfl Tryd.ntmps40 (Nat.le_of_ble_eq_true rfl) ?_
  refine T_seq ?_
  refine T_region ?_
  refine TL_cons rfl (TO_box rfl rfl fun g1001 => ?_)
  refine TL_cons rfl (TO_alloc rfl zr97 fun g1002 => ?_)
  refine TL_nil ?_
  refine T_seq ?_
  refine T_seq ?_
  refine T_region ?_
  refine TL_p (PV_fieldAddr (D := 0) Tryd.underlying30 rfl sz24 (by decide) rfl rfl) ?_
  refine TL_p (PV_load Tryd.underlying24 rfl rfl (Rd.at 1 rfl rfl)) ?_
  refine TL_nil ?_
  refine T_block ?_
  refine T_seq ?_
  refine T_region ?_
  refine TL_p (PV_bin rfl rfl bin_eql) ?_
  refine TL_p (PV_assign rfl) ?_
  refine TL_nil ?_
  refine T_then rfl (by rfl) ?_
  refine T_seq ?_
  refine T_region ?_
  refine TL_p (PV_move rfl) ?_
  refine TL_p (PV_nilCheck rfl) ?_
  refine TL_p (PV_fieldAddr (D := 0) Tryd.underlying94 rfl sz92 (by decide) rfl rfl) ?_
  refine TL_p (PV_load Tryd.underlying92 rfl rfl (Rd.at 2 rfl rfl)) ?_
  refine TL_p (PV_len_slice Tryd.underlying92 rfl) ?_
  refine TL_p (PV_assign rfl) ?_
  refine TL_nil ?_
  refine T_seq ?_
  refine T_drawnE2 2 3 mixed ?_
  refine TA_p 0 rfl (by kernel_rfl) (PV_move rfl) ?_
  refine TA_p 1 rfl (by kernel_rfl) (PV_move rfl) ?_
  refine TA_p 2 rfl (by kernel_rfl) (PV_nilCheck rfl) ?_
  refine TA_p 3 rfl (by kernel_rfl) (PV_fieldAddr (D := 0) Tryd.underlying94 rfl sz92 (by decide) rfl rfl) ?_
  refine TA_p 5 rfl (by kernel_rfl) (PV_fieldAddr (D := 1) Tryd.underlying30 rfl sz27 (by decide) rfl rfl) ?_
  refine TA_p 6 rfl (by kernel_rfl) (PV_loadAt Tryd.underlying27 rfl sz27 rfl (Rds.take 1 rfl rfl rfl)) ?_
  refine TA_hardG (rs := [4, 7]) (by kernel_rfl) (by decide) ?_
  refine List.forall_mem_cons.2 ⟨?w1003q83_4, List.forall_mem_cons.2 ⟨?w1003q83_7, by simp⟩⟩
  refine ⟨_, rfl, Or.inl rfl, (TO_pure rfl (PV_load Tryd.underlying92 rfl rfl (Rd.at 2 rfl rfl)) ?_)⟩
  refine ⟨fun _ h => h.sub (by (repeat (first | exact Sb.r | exact Sb.ar | exact Sb.al | apply Sb.c | apply Sb.d | refine Sb.t ?_)); done), ?_⟩
  refine TA_one 7 (by kernel_rfl) rfl rfl (TO_bs (cs := [_, _, _, _]) Tryd.underlying92 zs27 (by decide) rfl rfl rfl rfl rfl rfl fun g1006 => ?_)
  refine ⟨fun _ h => h.sub (by (repeat (first | exact Sb.r | exact Sb.ar | exact Sb.al | apply Sb.c | apply Sb.d | refine Sb.t ?_)); done), ?_⟩
  refine TA_one 8 (by kernel_rfl) rfl rfl (TO_append 4 rfl Tryd.underlying92 zb27 rfl (by decide) rfl rfl rfl (Shows.at 0 rfl) ?oc1007q83 ?bb1007q83 ?bc1007q83 fun A1007 c1007 hc1007 => ?_)
  case oc1007q83 => exact S4.cells_oc st
  case bb1007q83 => omega
  case bc1007q83 => omega
  refine ⟨fun _ h => h.sub (by (repeat (first | exact Sb.r | exact Sb.ar | exact Sb.al | apply Sb.c | apply Sb.d | refine Sb.t ?_)); done), ?_⟩
  refine TA_p 9 rfl (by kernel_rfl) (PV_nilCheck rfl) ?_
  refine TA_p 10 rfl (by kernel_rfl) (PV_fieldAddr (D := 0) Tryd.underlying94 rfl sz92 (by decide) rfl rfl) ?_
  refine TA_one 11 (by kernel_rfl) rfl rfl (TO_store1 3 rfl rfl rfl sz92 rfl rfl rfl (by first | exact Nat.le_of_ble_eq_true rfl | (simp; done) | (simp; omega) | omega) ?_)
  refine ⟨fun _ h => h.sub (by (repeat (first | exact Sb.r | exact Sb.ar | exact Sb.al | apply Sb.c | apply Sb.d | refine Sb.t ?_)); done), ?_⟩
  refine TA_done (by kernel_rfl) ?_
  refine T_seq ?_
  refine T_region ?_
  refine TL_cons rfl (TO_makeI rfl fun g31 => ?_)
  refine TL_p (PV_move rfl) ?_
  refine TL_cons rfl (TO_insI 0 rfl Tryd.underlying95 (by omega) hk2 rfl rfl rfl rfl ?_)
  refine TL_p (PV_move rfl) ?_
  refine TL_cons rfl (TO_makeI rfl fun g34 => ?_)
  refine TL_p (PV_move rfl) ?_
  refine TL_cons rfl (TO_insI 0 rfl Tryd.underlying95 (by omega) hk2 rfl rfl rfl rfl ?_)
  refine TL_p (PV_move rfl) ?_
  refine TL_p (PV_bld (cs := [_, _, _]) Tryd.underlying97 pl97 zr97 rfl rfl) ?_
  refine TL_cons rfl (TO_store 3 rfl rfl rfl sz97 rfl rfl rfl (all_one rfl) (by first | exact Nat.le_of_ble_eq_true rfl | (simp; done) | (simp; omega) | omega) ?_)
  refine TL_nil ?_
  refine ?L11
  rotate_left 1
  refine ⟨_, rfl, Or.inl rfl, (TO_bs (cs := [_, _, _, _]) Tryd.underlying92 zs27 (by decide) rfl rfl rfl rfl rfl rfl fun g1005 => ?_)⟩
  refine ⟨fun _ h => h.sub (by (repeat (first | exact Sb.r | exact Sb.ar | exact Sb.al | apply Sb.c | apply Sb.d | refine Sb.t ?_)); done), ?_⟩
  refine TA_pure1 (dd := (some 24)) 4 (by kernel_rfl) rfl rfl rfl rfl (PV_load Tryd.underlying92 rfl rfl (Rd.at 3 rfl rfl)) ?_
  refine TA_one 8 (by kernel_rfl) rfl rfl (TO_append 4 rfl Tryd.underlying92 zb27 rfl (by decide) rfl rfl rfl (Shows.at 0 rfl) ?oc1014q83 ?bb1014q83 ?bc1014q83 fun A1014 c1014 hc1014 => ?_)
  case oc1014q83 => exact S4.cells_oc st
  case bb1014q83 => omega
  case bc1014q83 => omega
  refine ⟨fun _ h => h.sub (by (repeat (first | exact Sb.r | exact Sb.ar | exact Sb.al | apply Sb.c | apply Sb.d | refine Sb.t ?_)); done), ?_⟩
  refine TA_p 9 rfl (by kernel_rfl) (PV_nilCheck rfl) ?_
  refine TA_p 10 rfl (by kernel_rfl) (PV_fieldAddr (D := 0) Tryd.underlying94 rfl sz92 (by decide) rfl rfl) ?_
  refine TA_one 11 (by kernel_rfl) rfl rfl (TO_store1 3 rfl rfl rfl sz92 rfl rfl rfl (by first | exact Nat.le_of_ble_eq_true rfl | (simp; done) | (simp; omega) | omega) ?_)
  refine ⟨fun _ h => h.sub (by (repeat (first | exact Sb.r | exact Sb.ar | exact Sb.al | apply Sb.c | apply Sb.d | refine Sb.t ?_)); done), ?_⟩
  refine TA_done (by kernel_rfl) ?_
  refine T_seq ?_
  refine T_region ?_
  refine TL_cons rfl (TO_makeI rfl fun g31 => ?_)
  refine TL_p (PV_move rfl) ?_
  refine TL_cons rfl (TO_insI 0 rfl Tryd.underlying95 (by omega) hk2 rfl rfl rfl rfl ?_)
  refine TL_p (PV_move rfl) ?_
  refine TL_cons rfl (TO_makeI rfl fun g34 => ?_)
  refine TL_p (PV_move rfl) ?_
  refine TL_cons rfl (TO_insI 0 rfl Tryd.underlying95 (by omega) hk2 rfl rfl rfl rfl ?_)
  refine TL_p (PV_move rfl) ?_
  refine TL_p (PV_bld (cs := [_, _, _]) Tryd.underlying97 pl97 zr97 rfl rfl) ?_
  refine TL_cons rfl (TO_store 3 rfl rfl rfl sz97 rfl rfl rfl (all_one rfl) (by first | exact Nat.le_of_ble_eq_true rfl | (simp; done) | (simp; omega) | omega) ?_)
  refine TL_nil ?_
  refine ?L12
  all_goals
    refine T_openOb 0 rfl fun o34 ho34 => ?_
    refine T_openOb 1 rfl fun o31 ho31 => ?_
    refine T.perm perm_two ?_
    refine T_ret ?_
    refine ret_ret (ResV_c rfl Tryd.underlying97 rfl sz97 rfl (Rds.take 1 rfl rfl rfl)) ?_
    have hm : ∀ x y, kI.ok x → kI.ok y → m (x, y) = (m (x, y) || nxtP (.one st) k x y) := fun x y _ _ => by simp [nxtP]
    exact ⟨mkC gm (.slice _ (k + 1) _) gn :: .sl (.slice _ (k + 1) _) 4 (k + 1) _ :: .ob gn (SetP nn m) :: (H ++ [.ob g34 (fun x => x = o34), .ob g31 (fun x => x = o31)]), (by repeat (first | exact Sb.r | exact Sb.ar | exact Sb.al | apply Sb.c | apply Sb.d | refine Sb.t ?_)), _, _, nn, m, _, _, _, k + 1, _, rfl, rfl, by rw [setCells_app, show lvs (.one st) = [st] from rfl, setCells_one]; rfl, by assumption, Nat.le_refl _, hm,
      MS.mono (MS.of_ob ho31 1 rfl) (fun w h => h) (Nat.le_refl _) (fun x _ => one_mem k x), MS.mono (MS.of_ob ho34 0 rfl) (fun w h => h) (Nat.le_refl _) (fun x _ => one_mem k x), rfl⟩
theorem MI_one {W : World → Prop} {v : Value} {n : Nat} {m : Nat → Bool} (h : MI W v n m) : v.oneCell' = true := by
  rcases h with ⟨rfl, _⟩ | ⟨b, es, clock, rfl, _⟩ <;> rfl
theorem MS.some_ {W : World → Prop} {v : Value} {n : Nat} {m : Nat → Bool} (h : MI W v n m) (b : Bool) : MI W (if b then v else .map none) n (fun x => b && m x) := by
  cases b with
  | true => exact h
  | false => exact .inl ⟨rfl, fun _ _ => rfl⟩
theorem perm_ab {a b : Chunk} {H Na Nb : List Chunk} : (a :: b :: ((H ++ Na) ++ Nb)).Perm (H ++ (a :: b :: (Na ++ Nb))) := by
  rw [List.append_assoc]
  exact List.perm_append_comm_assoc [a, b] H (Na ++ Nb)
theorem perm_six {a b c d e f g h : Chunk} {H Na Nb : List Chunk} : (c :: g :: d :: h :: e :: f :: a :: b :: ((H ++ Na) ++ Nb)).Perm (c :: g :: d :: h :: e :: f :: (H ++ (a :: b :: (Na ++ Nb)))) :=
  ((((((perm_ab).cons f).cons e).cons h).cons d).cons g).cons c
theorem make_then {a b : Rx} {x y : Nv} {A0 : Option Addr} {c0 : Nat} (h2 : 2 ≤ c0) (hK : Shows (WH w0 B X) A0 2 6 (x.cells ++ y.cells)) (hEa : MakeC w0 B a x X) (hEb : MakeC w0 B b y X) : MakeC w0 B (.then_ a b) ⟨2, S4.zero, A0, 2, c0⟩ X := by
  intro gm gn nn k c A L m H hsub hL hn hk hc
  simp only [nx] at hn
  simp only [pl] at hk
  refine TCall_showsN (hK.mono fun w h => h.sub (hsub.trans (by repeat (first | exact Sb.r | exact Sb.ar | exact Sb.al | apply Sb.d | refine Sb.t ?_)))) (by simp [Nv.cells]) fun ga oa hA hrd => ?_
  subst hA
  clear hrd
  have hKH := hK.mono (W' := WH w0 B H) fun w h => h.sub hsub
  have hk0 : RdsK (WH w0 B H) ga (oa + 0 * 6) 6 x.cells := ⟨rfl, fun j v hj => by
    rw [add_plain']
    refine hKH.rd (0 * 6 + j) (by omega) ?_
    rw [Nat.zero_mul, Nat.zero_add, List.getElem?_append_left (List.getElem?_eq_some_iff.1 hj).1]
    exact hj⟩
  have hk1 : RdsK (WH w0 B H) ga (oa + 1 * 6) 6 y.cells := ⟨rfl, fun j v hj => by
    rw [add_plain']
    refine hKH.rd (1 * 6 + j) (by omega) ?_
    rw [List.getElem?_append_right (by simp [Nv.cells])]
    simpa [Nv.cells] using hj⟩
  have hCa := fun {gm gn nn k c : Nat} {A : Option Addr} {L : List S4} {m : Nat × Nat → Bool} {H : List Chunk} (hs : X.Sublist H) (h1 : L.length = k) (h2 : nn + nx a < 1000000000) (h3 : k + pl a ≤ 1000000) (h4 : k ≤ c) => hEa gm gn nn k c A L m H hs h1 h2 h3 h4
  have hCb := fun {gm gn nn k c : Nat} {A : Option Addr} {L : List S4} {m : Nat × Nat → Bool} {H : List Chunk} (hs : X.Sublist H) (h1 : L.length = k) (h2 : nn + nx b < 1000000000) (h3 : k + pl b ≤ 1000000) (h4 : k ≤ c) => hEb gm gn nn k c A L m H hs h1 h2 h3 h4
  show TCall Tryd.prog w0 B 40 #[.pointer (some ⟨gm, 0, none⟩), .agg #[.int .i64 2, wv S4.zero.a, wv S4.zero.b, wv S4.zero.c, wv S4.zero.d, .slice (some ⟨ga, oa, none⟩) 2 c0]] _ _
  refine TCall_intro (args := [_, _]) Tryd.func40 rfl Tryd.ntmps40 (Nat.le_of_ble_eq_true rfl) ?_
  refine T_seq ?_
  refine T_region ?_
  refine TL_cons rfl (TO_box rfl rfl fun g2001 => ?_)
  refine TL_cons rfl (TO_alloc rfl zr97 fun g2002 => ?_)
  refine TL_nil ?_
  refine T_seq ?_
  refine T_seq ?_
  refine T_region ?_
  refine TL_p (PV_fieldAddr (D := 0) Tryd.underlying30 rfl sz24 (by decide) rfl rfl) ?_
  refine TL_p (PV_load Tryd.underlying24 rfl rfl (Rd.at 1 rfl rfl)) ?_
  refine TL_nil ?_
  refine T_block ?_
  refine T_seq ?_
  refine T_region ?_
  refine TL_p (PV_bin rfl rfl bin_eql) ?_
  refine TL_p (PV_assign rfl) ?_
  refine TL_nil ?_
  refine T_else rfl (by rfl) ?_
  refine T_seq ?_
  refine T_region ?_
  refine TL_p (PV_bin rfl rfl bin_eql) ?_
  refine TL_p (PV_assign rfl) ?_
  refine TL_nil ?_
  refine T_then rfl (by rfl) ?_
  refine T_seq ?_
  refine ?L21
  case L21 =>
    refine T_midR (fun f h => ∃ (g6 g7 c' n1 n2 : Nat) (A' : Option Addr) (m1 m2 : Nat × Nat → Bool) (vfa vla vfb vlb : Value) (Na Nb : List Chunk) (cs' : List Value), FrSub [(0, .pointer (some ⟨gm, 0, none⟩)), (4, .pointer (some ⟨g2002, 0, none⟩)), (6, .pointer (some ⟨g6, 0, none⟩)), (7, .pointer (some ⟨g7, 0, none⟩))] f ∧
      Has h (.own g6 3 [vfa, vla, .bool (nul a)] :: .own g7 3 [vfb, vlb, .bool (nul b)] :: mkC gm (.slice A' (k + pl a + pl b) c') gn :: .sl (.slice A' (k + pl a + pl b) c') 4 (k + pl a + pl b) cs' :: .ob gn (SetP n2 m2) :: .own g2002 3 [.map none, .map none, .bool false] :: ((H ++ Na) ++ Nb)) ∧
      cs' = setCells (L ++ lvs a ++ lvs b) ∧ k + pl a + pl b ≤ c' ∧ n1 ≤ nn + nx a ∧ n2 ≤ n1 + nx b ∧ (∀ x y, kI.ok x → kI.ok y → m1 (x, y) = (m (x, y) || nxtP a k x y)) ∧ (∀ x y, kI.ok x → kI.ok y → m2 (x, y) = (m1 (x, y) || nxtP b (k + pl a) x y)) ∧
      MI (WH w0 B Na) vfa (pl a) (fstP a k) ∧ MI (WH w0 B Na) vla (pl a) (lstP a k) ∧ MI (WH w0 B Nb) vfb (pl b) (fstP b (k + pl a)) ∧ MI (WH w0 B Nb) vlb (pl b) (lstP b (k + pl a))) ?_ ?_
    · refine T_drawn (WH w0 B (.own g2001 6 [.int .i64 2, wv S4.zero.a, wv S4.zero.b, wv S4.zero.c, wv S4.zero.d, .slice (some ⟨ga, oa, none⟩) 2 c0] :: H)) mixed (by intro w h; first | exact h | exact trivial | exact h.sub (by (repeat (first | exact Sb.r | exact Sb.ar | exact Sb.al | apply Sb.c | apply Sb.d | refine Sb.t ?_)); done)) ?_
      refine TA_p 0 rfl (by kernel_rfl) (PV_move rfl) ?_
      refine TA_p 1 rfl (by kernel_rfl) (PV_fieldAddr (D := 5) Tryd.underlying30 rfl sz28 (by decide) rfl rfl) ?_
      refine TA_p 2 rfl (by kernel_rfl) (PV_load Tryd.underlying28 rfl rfl (Rd.at 0 rfl rfl)) ?_
      refine TA_p 3 rfl (by kernel_rfl) (PV_indexAddr (i := 0) Tryd.underlying28 sz30 rfl rfl rfl (by first | omega | decide | assumption)) ?_
      refine TA_p 4 rfl (by kernel_rfl) (PV_loadAt Tryd.underlying30 rfl sz30 rfl (RdsK.mono hk0 (fun w h => h.sub (by (repeat (first | exact Sb.r | exact Sb.ar | exact Sb.al | apply Sb.d | refine Sb.t ?_)); done)))) ?_
      refine TA_p 6 rfl (by kernel_rfl) (PV_move rfl) ?_
      refine TA_p 7 rfl (by kernel_rfl) (PV_fieldAddr (D := 5) Tryd.underlying30 rfl sz28 (by decide) rfl rfl) ?_
      refine TA_p 8 rfl (by kernel_rfl) (PV_load Tryd.underlying28 rfl rfl (Rd.at 0 rfl rfl)) ?_
      refine TA_p 9 rfl (by kernel_rfl) (PV_indexAddr (i := 1) Tryd.underlying28 sz30 rfl rfl rfl (by first | omega | decide | assumption)) ?_
      refine TA_p 10 rfl (by kernel_rfl) (PV_loadAt Tryd.underlying30 rfl sz30 rfl (RdsK.mono hk1 (fun w h => h.sub (by (repeat (first | exact Sb.r | exact Sb.ar | exact Sb.al | apply Sb.d | refine Sb.t ?_)); done)))) ?_
      refine TA_hardG (rs := [5, 12, 13]) (by kernel_rfl) (by decide) ?_
      refine List.forall_mem_cons.2 ⟨?w3002q136_5, List.forall_mem_cons.2 ⟨?w3002q136_12, List.forall_mem_cons.2 ⟨?w3002q136_13, by simp⟩⟩⟩
      refine ⟨_, rfl, Or.inl rfl, TO_perm ((perm_pick (i := 2) rfl).trans (List.Perm.cons _ ((perm_pick (i := 2) rfl).trans (List.Perm.cons _ ((perm_pick (i := 2) rfl).trans (List.Perm.cons _ (List.Perm.refl _))))))) (TO_call0 call40 rfl rfl (hCa ?sd3006q136_0 ?sd3006q136_1 ?sd3006q136_2 ?sd3006q136_3 ?sd3006q136_4) ?_)⟩
      case sd3006q136_0 => exact hsub.trans (by repeat (first | exact Sb.r | exact Sb.ar | exact Sb.al | apply Sb.d | refine Sb.t ?_))
      case sd3006q136_1 => omega
      case sd3006q136_2 => omega
      case sd3006q136_3 => omega
      case sd3006q136_4 => exact hc
      rintro v45_3007 H45_3007 ⟨A'_3007, c'_3007, nn'_3007, m'_3007, vf_3007, vl_3007, N_3007, k'_3007, cs'_3007, rfl, rfl, rfl, h_3007_0, h_3007_1, h_3007_2, h_3007_3, h_3007_4, rfl⟩
      refine ⟨fun _ h => h.sub (by (repeat (first | exact Sb.r | exact Sb.ar | exact Sb.al | apply Sb.d | refine Sb.t ?_)); done), ?_⟩
      refine TA_hardG (rs := [11, 12, 13]) (by kernel_rfl) (by decide) ?_
      refine List.forall_mem_cons.2 ⟨?w3008q136_11, List.forall_mem_cons.2 ⟨?w3008q136_12, List.forall_mem_cons.2 ⟨?w3008q136_13, by simp⟩⟩⟩
      refine ⟨_, rfl, Or.inl rfl, (TO_call0 call40 rfl rfl (hCb ?sd3012q136_0 ?sd3012q136_1 ?sd3012q136_2 ?sd3012q136_3 ?sd3012q136_4) ?_)⟩
      case sd3012q136_0 => exact hsub.trans (by repeat (first | exact Sb.r | exact Sb.ar | exact Sb.al | apply Sb.d | refine Sb.t ?_))
      case sd3012q136_1 => (rw [List.length_append, lvs_len]; omega)
      case sd3012q136_2 => omega
      case sd3012q136_3 => omega
      case sd3012q136_4 => exact h_3007_0
      rintro v51_3013 H51_3013 ⟨A'_3013, c'_3013, nn'_3013, m'_3013, vf_3013, vl_3013, N_3013, k'_3013, cs'_3013, rfl, rfl, rfl, h_3013_0, h_3013_1, h_3013_2, h_3013_3, h_3013_4, rfl⟩
      refine ⟨fun _ h => h.sub (by (repeat (first | exact Sb.r | exact Sb.ar | exact Sb.al | apply Sb.c | apply Sb.d | refine Sb.t ?_)); done), ?_⟩
      refine TA_hardG (rs := [12, 13]) (by kernel_rfl) (by decide) ?_
      refine List.forall_mem_cons.2 ⟨?w3014q136_12, List.forall_mem_cons.2 ⟨?w3014q136_13, by simp⟩⟩
      refine ⟨_, rfl, Or.inl rfl, (TO_alloc rfl zr97 fun g3015 => ?_)⟩
      refine ⟨fun _ h => h.sub (by (repeat (first | exact Sb.r | exact Sb.ar | exact Sb.al | apply Sb.c | apply Sb.d | refine Sb.t ?_)); done), ?_⟩
      refine TA_one 13 (by kernel_rfl) rfl rfl (TO_alloc rfl zr97 fun g3017 => ?_)
      refine ⟨fun _ h => h.sub (by (repeat (first | exact Sb.r | exact Sb.ar | exact Sb.al | apply Sb.c | apply Sb.d | refine Sb.t ?_)); done), ?_⟩
      refine TA_one 14 (by kernel_rfl) rfl rfl (TO_store 1 rfl rfl rfl sz97 rfl rfl rfl (List.forall_mem_cons.2 ⟨by first | rfl | exact MI_one (by assumption), List.forall_mem_cons.2 ⟨by first | rfl | exact MI_one (by assumption), List.forall_mem_cons.2 ⟨by first | rfl | exact MI_one (by assumption), by simp⟩⟩⟩) (by first | exact Nat.le_of_ble_eq_true rfl | (simp; done) | (simp; omega) | omega) ?_)
      refine ⟨fun _ h => h.sub (by (repeat (first | exact Sb.r | exact Sb.ar | exact Sb.al | apply Sb.c | apply Sb.d | refine Sb.t ?_)); done), ?_⟩
      refine TA_one 15 (by kernel_rfl) rfl rfl (TO_store 0 rfl rfl rfl sz97 rfl rfl rfl (List.forall_mem_cons.2 ⟨by first | rfl | exact MI_one (by assumption), List.forall_mem_cons.2 ⟨by first | rfl | exact MI_one (by assumption), List.forall_mem_cons.2 ⟨by first | rfl | exact MI_one (by assumption), by simp⟩⟩⟩) (by first | exact Nat.le_of_ble_eq_true rfl | (simp; done) | (simp; omega) | omega) ?_)
      refine ⟨fun _ h => h.sub (by (repeat (first | exact Sb.r | exact Sb.ar | exact Sb.al | apply Sb.c | apply Sb.d | refine Sb.t ?_)); done), ?_⟩
      refine TA_done (by kernel_rfl) ?_
      refine ?L31
      rotate_left 1
      refine ⟨_, rfl, Or.inl rfl, (TO_alloc rfl zr97 fun g3016 => ?_)⟩
      refine ⟨fun _ h => h.sub (by (repeat (first | exact Sb.r | exact Sb.ar | exact Sb.al | apply Sb.c | apply Sb.d | refine Sb.t ?_)); done), ?_⟩
      refine TA_one 12 (by kernel_rfl) rfl rfl (TO_alloc rfl zr97 fun g3020 => ?_)
      refine ⟨fun _ h => h.sub (by (repeat (first | exact Sb.r | exact Sb.ar | exact Sb.al | apply Sb.c | apply Sb.d | refine Sb.t ?_)); done), ?_⟩
      refine TA_one 14 (by kernel_rfl) rfl rfl (TO_store 0 rfl rfl rfl sz97 rfl rfl rfl (List.forall_mem_cons.2 ⟨by first | rfl | exact MI_one (by assumption), List.forall_mem_cons.2 ⟨by first | rfl | exact MI_one (by assumption), List.forall_mem_cons.2 ⟨by first | rfl | exact MI_one (by assumption), by simp⟩⟩⟩) (by first | exact Nat.le_of_ble_eq_true rfl | (simp; done) | (simp; omega) | omega) ?_)
      refine ⟨fun _ h => h.sub (by (repeat (first | exact Sb.r | exact Sb.ar | exact Sb.al | apply Sb.c | apply Sb.d | refine Sb.t ?_)); done), ?_⟩
      refine TA_one 15 (by kernel_rfl) rfl rfl (TO_store 1 rfl rfl rfl sz97 rfl rfl rfl (List.forall_mem_cons.2 ⟨by first | rfl | exact MI_one (by assumption), List.forall_mem_cons.2 ⟨by first | rfl | exact MI_one (by assumption), List.forall_mem_cons.2 ⟨by first | rfl | exact MI_one (by assumption), by simp⟩⟩⟩) (by first | exact Nat.le_of_ble_eq_true rfl | (simp; done) | (simp; omega) | omega) ?_)
      refine ⟨fun _ h => h.sub (by (repeat (first | exact Sb.r | exact Sb.ar | exact Sb.al | apply Sb.c | apply Sb.d | refine Sb.t ?_)); done), ?_⟩
      refine TA_done (by kernel_rfl) ?_
      refine ?L32
      rotate_left 1
      refine ⟨_, rfl, Or.inl rfl, (TO_alloc rfl zr97 fun g3010 => ?_)⟩
      refine ⟨fun _ h => h.sub (by (repeat (first | exact Sb.r | exact Sb.ar | exact Sb.al | apply Sb.d | refine Sb.t ?_)); done), ?_⟩
      refine TA_hardG (rs := [11, 13]) (by kernel_rfl) (by decide) ?_
      refine List.forall_mem_cons.2 ⟨?w3023q136_11, List.forall_mem_cons.2 ⟨?w3023q136_13, by simp⟩⟩
      refine ⟨_, rfl, Or.inl rfl, TO_perm ((perm_pick (i := 1) rfl).trans (List.Perm.cons _ ((perm_pick (i := 1) rfl).trans (List.Perm.cons _ ((perm_pick (i := 1) rfl).trans (List.Perm.cons _ (List.Perm.refl _))))))) (TO_call0 call40 rfl rfl (hCb ?sd3026q136_0 ?sd3026q136_1 ?sd3026q136_2 ?sd3026q136_3 ?sd3026q136_4) ?_)⟩
      case sd3026q136_0 => exact hsub.trans (by repeat (first | exact Sb.r | exact Sb.ar | exact Sb.al | apply Sb.d | refine Sb.t ?_))
      case sd3026q136_1 => (rw [List.length_append, lvs_len]; omega)
      case sd3026q136_2 => omega
      case sd3026q136_3 => omega
      case sd3026q136_4 => exact h_3007_0
      rintro v51_3027 H51_3027 ⟨A'_3027, c'_3027, nn'_3027, m'_3027, vf_3027, vl_3027, N_3027, k'_3027, cs'_3027, rfl, rfl, rfl, h_3027_0, h_3027_1, h_3027_2, h_3027_3, h_3027_4, rfl⟩
      refine ⟨fun _ h => h.sub (by (repeat (first | exact Sb.r | exact Sb.ar | exact Sb.al | apply Sb.c | apply Sb.d | refine Sb.t ?_)); done), ?_⟩
      refine TA_one 13 (by kernel_rfl) rfl rfl (TO_alloc rfl zr97 fun g3028 => ?_)
      refine ⟨fun _ h => h.sub (by (repeat (first | exact Sb.r | exact Sb.ar | exact Sb.al | apply Sb.c | apply Sb.d | refine Sb.t ?_)); done), ?_⟩
      refine TA_one 14 (by kernel_rfl) rfl rfl (TO_store 4 rfl rfl rfl sz97 rfl rfl rfl (List.forall_mem_cons.2 ⟨by first | rfl | exact MI_one (by assumption), List.forall_mem_cons.2 ⟨by first | rfl | exact MI_one (by assumption), List.forall_mem_cons.2 ⟨by first | rfl | exact MI_one (by assumption), by simp⟩⟩⟩) (by first | exact Nat.le_of_ble_eq_true rfl | (simp; done) | (simp; omega) | omega) ?_)
      refine ⟨fun _ h => h.sub (by (repeat (first | exact Sb.r | exact Sb.ar | exact Sb.al | apply Sb.c | apply Sb.d | refine Sb.t ?_)); done), ?_⟩
      refine TA_one 15 (by kernel_rfl) rfl rfl (TO_store 0 rfl rfl rfl sz97 rfl rfl rfl (List.forall_mem_cons.2 ⟨by first | rfl | exact MI_one (by assumption), List.forall_mem_cons.2 ⟨by first | rfl | exact MI_one (by assumption), List.forall_mem_cons.2 ⟨by first | rfl | exact MI_one (by assumption), by simp⟩⟩⟩) (by first | exact Nat.le_of_ble_eq_true rfl | (simp; done) | (simp; omega) | omega) ?_)
      refine ⟨fun _ h => h.sub (by (repeat (first | exact Sb.r | exact Sb.ar | exact Sb.al | apply Sb.c | apply Sb.d | refine Sb.t ?_)); done), ?_⟩
      refine TA_done (by kernel_rfl) ?_
      refine ?L33
      rotate_left 1
      refine ⟨_, rfl, Or.inl rfl, (TO_alloc rfl zr97 fun g3025 => ?_)⟩
      refine ⟨fun _ h => h.sub (by (repeat (first | exact Sb.r | exact Sb.ar | exact Sb.al | apply Sb.d | refine Sb.t ?_)); done), ?_⟩
      refine TA_perm ((perm_pick (i := 2) rfl).trans (List.Perm.cons _ ((perm_pick (i := 2) rfl).trans (List.Perm.cons _ ((perm_pick (i := 2) rfl).trans (List.Perm.cons _ (List.Perm.refl _))))))) ?_
      refine TA_one 11 (by kernel_rfl) rfl rfl (TO_call0 call40 rfl rfl (hCb ?sd3032q136_0 ?sd3032q136_1 ?sd3032q136_2 ?sd3032q136_3 ?sd3032q136_4) ?_)
      case sd3032q136_0 => exact hsub.trans (by repeat (first | exact Sb.r | exact Sb.ar | exact Sb.al | apply Sb.d | refine Sb.t ?_))
      case sd3032q136_1 => (rw [List.length_append, lvs_len]; omega)
      case sd3032q136_2 => omega
      case sd3032q136_3 => omega
      case sd3032q136_4 => exact h_3007_0
      rintro v51_3033 H51_3033 ⟨A'_3033, c'_3033, nn'_3033, m'_3033, vf_3033, vl_3033, N_3033, k'_3033, cs'_3033, rfl, rfl, rfl, h_3033_0, h_3033_1, h_3033_2, h_3033_3, h_3033_4, rfl⟩
      refine ⟨fun _ h => h.sub (by (repeat (first | exact Sb.r | exact Sb.ar | exact Sb.al | apply Sb.c | apply Sb.d | refine Sb.t ?_)); done), ?_⟩
      refine TA_one 14 (by kernel_rfl) rfl rfl (TO_store 4 rfl rfl rfl sz97 rfl rfl rfl (List.forall_mem_cons.2 ⟨by first | rfl | exact MI_one (by assumption), List.forall_mem_cons.2 ⟨by first | rfl | exact MI_one (by assumption), List.forall_mem_cons.2 ⟨by first | rfl | exact MI_one (by assumption), by simp⟩⟩⟩) (by first | exact Nat.le_of_ble_eq_true rfl | (simp; done) | (simp; omega) | omega) ?_)
      refine ⟨fun _ h => h.sub (by (repeat (first | exact Sb.r | exact Sb.ar | exact Sb.al | apply Sb.c | apply Sb.d | refine Sb.t ?_)); done), ?_⟩
      refine TA_one 15 (by kernel_rfl) rfl rfl (TO_store 3 rfl rfl rfl sz97 rfl rfl rfl (List.forall_mem_cons.2 ⟨by first | rfl | exact MI_one (by assumption), List.forall_mem_cons.2 ⟨by first | rfl | exact MI_one (by assumption), List.forall_mem_cons.2 ⟨by first | rfl | exact MI_one (by assumption), by simp⟩⟩⟩) (by first | exact Nat.le_of_ble_eq_true rfl | (simp; done) | (simp; omega) | omega) ?_)
      refine ⟨fun _ h => h.sub (by (repeat (first | exact Sb.r | exact Sb.ar | exact Sb.al | apply Sb.c | apply Sb.d | refine Sb.t ?_)); done), ?_⟩
      refine TA_done (by kernel_rfl) ?_
      refine ?L34
      rotate_left 1
      refine ⟨_, rfl, Or.inl rfl, (TO_alloc rfl zr97 fun g3011 => ?_)⟩
      refine ⟨fun _ h => h.sub (by (repeat (first | exact Sb.r | exact Sb.ar | exact Sb.al | apply Sb.d | refine Sb.t ?_)); done), ?_⟩
      refine TA_hardG (rs := [11, 12]) (by kernel_rfl) (by decide) ?_
      refine List.forall_mem_cons.2 ⟨?w3036q136_11, List.forall_mem_cons.2 ⟨?w3036q136_12, by simp⟩⟩
      refine ⟨_, rfl, Or.inl rfl, TO_perm ((perm_pick (i := 1) rfl).trans (List.Perm.cons _ ((perm_pick (i := 1) rfl).trans (List.Perm.cons _ ((perm_pick (i := 1) rfl).trans (List.Perm.cons _ (List.Perm.refl _))))))) (TO_call0 call40 rfl rfl (hCb ?sd3039q136_0 ?sd3039q136_1 ?sd3039q136_2 ?sd3039q136_3 ?sd3039q136_4) ?_)⟩
      case sd3039q136_0 => exact hsub.trans (by repeat (first | exact Sb.r | exact Sb.ar | exact Sb.al | apply Sb.d | refine Sb.t ?_))
      case sd3039q136_1 => (rw [List.length_append, lvs_len]; omega)
      case sd3039q136_2 => omega
      case sd3039q136_3 => omega
      case sd3039q136_4 => exact h_3007_0
      rintro v51_3040 H51_3040 ⟨A'_3040, c'_3040, nn'_3040, m'_3040, vf_3040, vl_3040, N_3040, k'_3040, cs'_3040, rfl, rfl, rfl, h_3040_0, h_3040_1, h_3040_2, h_3040_3, h_3040_4, rfl⟩
      refine ⟨fun _ h => h.sub (by (repeat (first | exact Sb.r | exact Sb.ar | exact Sb.al | apply Sb.c | apply Sb.d | refine Sb.t ?_)); done), ?_⟩
      refine TA_one 12 (by kernel_rfl) rfl rfl (TO_alloc rfl zr97 fun g3041 => ?_)
      refine ⟨fun _ h => h.sub (by (repeat (first | exact Sb.r | exact Sb.ar | exact Sb.al | apply Sb.c | apply Sb.d | refine Sb.t ?_)); done), ?_⟩
      refine TA_one 14 (by kernel_rfl) rfl rfl (TO_store 0 rfl rfl rfl sz97 rfl rfl rfl (List.forall_mem_cons.2 ⟨by first | rfl | exact MI_one (by assumption), List.forall_mem_cons.2 ⟨by first | rfl | exact MI_one (by assumption), List.forall_mem_cons.2 ⟨by first | rfl | exact MI_one (by assumption), by simp⟩⟩⟩) (by first | exact Nat.le_of_ble_eq_true rfl | (simp; done) | (simp; omega) | omega) ?_)
      refine ⟨fun _ h => h.sub (by (repeat (first | exact Sb.r | exact Sb.ar | exact Sb.al | apply Sb.c | apply Sb.d | refine Sb.t ?_)); done), ?_⟩
      refine TA_one 15 (by kernel_rfl) rfl rfl (TO_store 4 rfl rfl rfl sz97 rfl rfl rfl (List.forall_mem_cons.2 ⟨by first | rfl | exact MI_one (by assumption), List.forall_mem_cons.2 ⟨by first | rfl | exact MI_one (by assumption), List.forall_mem_cons.2 ⟨by first | rfl | exact MI_one (by assumption), by simp⟩⟩⟩) (by first | exact Nat.le_of_ble_eq_true rfl | (simp; done) | (simp; omega) | omega) ?_)
      refine ⟨fun _ h => h.sub (by (repeat (first | exact Sb.r | exact Sb.ar | exact Sb.al | apply Sb.c | apply Sb.d | refine Sb.t ?_)); done), ?_⟩
      refine TA_done (by kernel_rfl) ?_
      refine ?L35
      rotate_left 1
      refine ⟨_, rfl, Or.inl rfl, (TO_alloc rfl zr97 fun g3038 => ?_)⟩
      refine ⟨fun _ h => h.sub (by (repeat (first | exact Sb.r | exact Sb.ar | exact Sb.al | apply Sb.d | refine Sb.t ?_)); done), ?_⟩
      refine TA_perm ((perm_pick (i := 2) rfl).trans (List.Perm.cons _ ((perm_pick (i := 2) rfl).trans (List.Perm.cons _ ((perm_pick (i := 2) rfl).trans (List.Perm.cons _ (List.Perm.refl _))))))) ?_
      refine TA_one 11 (by kernel_rfl) rfl rfl (TO_call0 call40 rfl rfl (hCb ?sd3045q136_0 ?sd3045q136_1 ?sd3045q136_2 ?sd3045q136_3 ?sd3045q136_4) ?_)
      case sd3045q136_0 => exact hsub.trans (by repeat (first | exact Sb.r | exact Sb.ar | exact Sb.al | apply Sb.d | refine Sb.t ?_))
      case sd3045q136_1 => (rw [List.length_append, lvs_len]; omega)
      case sd3045q136_2 => omega
      case sd3045q136_3 => omega
      case sd3045q136_4 => exact h_3007_0
      rintro v51_3046 H51_3046 ⟨A'_3046, c'_3046, nn'_3046, m'_3046, vf_3046, vl_3046, N_3046, k'_3046, cs'_3046, rfl, rfl, rfl, h_3046_0, h_3046_1, h_3046_2, h_3046_3, h_3046_4, rfl⟩
      refine ⟨fun _ h => h.sub (by (repeat (first | exact Sb.r | exact Sb.ar | exact Sb.al | apply Sb.c | apply Sb.d | refine Sb.t ?_)); done), ?_⟩
      refine TA_one 14 (by kernel_rfl) rfl rfl (TO_store 3 rfl rfl rfl sz97 rfl rfl rfl (List.forall_mem_cons.2 ⟨by first | rfl | exact MI_one (by assumption), List.forall_mem_cons.2 ⟨by first | rfl | exact MI_one (by assumption), List.forall_mem_cons.2 ⟨by first | rfl | exact MI_one (by assumption), by simp⟩⟩⟩) (by first | exact Nat.le_of_ble_eq_true rfl | (simp; done) | (simp; omega) | omega) ?_)
      refine ⟨fun _ h => h.sub (by (repeat (first | exact Sb.r | exact Sb.ar | exact Sb.al | apply Sb.c | apply Sb.d | refine Sb.t ?_)); done), ?_⟩
      refine TA_one 15 (by kernel_rfl) rfl rfl (TO_store 4 rfl rfl rfl sz97 rfl rfl rfl (List.forall_mem_cons.2 ⟨by first | rfl | exact MI_one (by assumption), List.forall_mem_cons.2 ⟨by first | rfl | exact MI_one (by assumption), List.forall_mem_cons.2 ⟨by first | rfl | exact MI_one (by assumption), by simp⟩⟩⟩) (by first | exact Nat.le_of_ble_eq_true rfl | (simp; done) | (simp; omega) | omega) ?_)
      refine ⟨fun _ h => h.sub (by (repeat (first | exact Sb.r | exact Sb.ar | exact Sb.al | apply Sb.c | apply Sb.d | refine Sb.t ?_)); done), ?_⟩
      refine TA_done (by kernel_rfl) ?_
      refine ?L36
      rotate_left 1
      refine ⟨_, rfl, Or.inl rfl, (TO_alloc rfl zr97 fun g3004 => ?_)⟩
      refine ⟨fun _ h => h.sub (by (repeat (first | exact Sb.r | exact Sb.ar | exact Sb.al | apply Sb.c | apply Sb.d | refine Sb.t ?_)); done), ?_⟩
      refine TA_hardG (rs := [5, 13]) (by kernel_rfl) (by decide) ?_
      refine List.forall_mem_cons.2 ⟨?w3049q136_5, List.forall_mem_cons.2 ⟨?w3049q136_13, by simp⟩⟩
      refine ⟨_, rfl, Or.inl rfl, TO_perm ((perm_pick (i := 3) rfl).trans (List.Perm.cons _ ((perm_pick (i := 3) rfl).trans (List.Perm.cons _ ((perm_pick (i := 3) rfl).trans (List.Perm.cons _ (List.Perm.refl _))))))) (TO_call0 call40 rfl rfl (hCa ?sd3052q136_0 ?sd3052q136_1 ?sd3052q136_2 ?sd3052q136_3 ?sd3052q136_4) ?_)⟩
      case sd3052q136_0 => exact hsub.trans (by repeat (first | exact Sb.r | exact Sb.ar | exact Sb.al | apply Sb.d | refine Sb.t ?_))
      case sd3052q136_1 => omega
      case sd3052q136_2 => omega
      case sd3052q136_3 => omega
      case sd3052q136_4 => exact hc
      rintro v45_3053 H45_3053 ⟨A'_3053, c'_3053, nn'_3053, m'_3053, vf_3053, vl_3053, N_3053, k'_3053, cs'_3053, rfl, rfl, rfl, h_3053_0, h_3053_1, h_3053_2, h_3053_3, h_3053_4, rfl⟩
      refine ⟨fun _ h => h.sub (by (repeat (first | exact Sb.r | exact Sb.ar | exact Sb.al | apply Sb.d | refine Sb.t ?_)); done), ?_⟩
      refine TA_hardG (rs := [11, 13]) (by kernel_rfl) (by decide) ?_
      refine List.forall_mem_cons.2 ⟨?w3054q136_11, List.forall_mem_cons.2 ⟨?w3054q136_13, by simp⟩⟩
      refine ⟨_, rfl, Or.inl rfl, (TO_call0 call40 rfl rfl (hCb ?sd3057q136_0 ?sd3057q136_1 ?sd3057q136_2 ?sd3057q136_3 ?sd3057q136_4) ?_)⟩
      case sd3057q136_0 => exact hsub.trans (by repeat (first | exact Sb.r | exact Sb.ar | exact Sb.al | apply Sb.d | refine Sb.t ?_))
      case sd3057q136_1 => (rw [List.length_append, lvs_len]; omega)
      case sd3057q136_2 => omega
      case sd3057q136_3 => omega
      case sd3057q136_4 => exact h_3053_0
      rintro v51_3058 H51_3058 ⟨A'_3058, c'_3058, nn'_3058, m'_3058, vf_3058, vl_3058, N_3058, k'_3058, cs'_3058, rfl, rfl, rfl, h_3058_0, h_3058_1, h_3058_2, h_3058_3, h_3058_4, rfl⟩
      refine ⟨fun _ h => h.sub (by (repeat (first | exact Sb.r | exact Sb.ar | exact Sb.al | apply Sb.c | apply Sb.d | refine Sb.t ?_)); done), ?_⟩
      refine TA_one 13 (by kernel_rfl) rfl rfl (TO_alloc rfl zr97 fun g3059 => ?_)
      refine ⟨fun _ h => h.sub (by (repeat (first | exact Sb.r | exact Sb.ar | exact Sb.al | apply Sb.c | apply Sb.d | refine Sb.t ?_)); done), ?_⟩
      refine TA_one 14 (by kernel_rfl) rfl rfl (TO_store 4 rfl rfl rfl sz97 rfl rfl rfl (List.forall_mem_cons.2 ⟨by first | rfl | exact MI_one (by assumption), List.forall_mem_cons.2 ⟨by first | rfl | exact MI_one (by assumption), List.forall_mem_cons.2 ⟨by first | rfl | exact MI_one (by assumption), by simp⟩⟩⟩) (by first | exact Nat.le_of_ble_eq_true rfl | (simp; done) | (simp; omega) | omega) ?_)
      refine ⟨fun _ h => h.sub (by (repeat (first | exact Sb.r | exact Sb.ar | exact Sb.al | apply Sb.c | apply Sb.d | refine Sb.t ?_)); done), ?_⟩
      refine TA_one 15 (by kernel_rfl) rfl rfl (TO_store 0 rfl rfl rfl sz97 rfl rfl rfl (List.forall_mem_cons.2 ⟨by first | rfl | exact MI_one (by assumption), List.forall_mem_cons.2 ⟨by first | rfl | exact MI_one (by assumption), List.forall_mem_cons.2 ⟨by first | rfl | exact MI_one (by assumption), by simp⟩⟩⟩) (by first | exact Nat.le_of_ble_eq_true rfl | (simp; done) | (simp; omega) | omega) ?_)
      refine ⟨fun _ h => h.sub (by (repeat (first | exact Sb.r | exact Sb.ar | exact Sb.al | apply Sb.c | apply Sb.d | refine Sb.t ?_)); done), ?_⟩
      refine TA_done (by kernel_rfl) ?_
      refine ?L37
      rotate_left 1
      refine ⟨_, rfl, Or.inl rfl, (TO_alloc rfl zr97 fun g3056 => ?_)⟩
      refine ⟨fun _ h => h.sub (by (repeat (first | exact Sb.r | exact Sb.ar | exact Sb.al | apply Sb.d | refine Sb.t ?_)); done), ?_⟩
      refine TA_perm ((perm_pick (i := 1) rfl).trans (List.Perm.cons _ ((perm_pick (i := 1) rfl).trans (List.Perm.cons _ ((perm_pick (i := 1) rfl).trans (List.Perm.cons _ (List.Perm.refl _))))))) ?_
      refine TA_one 11 (by kernel_rfl) rfl rfl (TO_call0 call40 rfl rfl (hCb ?sd3063q136_0 ?sd3063q136_1 ?sd3063q136_2 ?sd3063q136_3 ?sd3063q136_4) ?_)
      case sd3063q136_0 => exact hsub.trans (by repeat (first | exact Sb.r | exact Sb.ar | exact Sb.al | apply Sb.d | refine Sb.t ?_))
      case sd3063q136_1 => (rw [List.length_append, lvs_len]; omega)
      case sd3063q136_2 => omega
      case sd3063q136_3 => omega
      case sd3063q136_4 => exact h_3053_0
      rintro v51_3064 H51_3064 ⟨A'_3064, c'_3064, nn'_3064, m'_3064, vf_3064, vl_3064, N_3064, k'_3064, cs'_3064, rfl, rfl, rfl, h_3064_0, h_3064_1, h_3064_2, h_3064_3, h_3064_4, rfl⟩
      refine ⟨fun _ h => h.sub (by (repeat (first | exact Sb.r | exact Sb.ar | exact Sb.al | apply Sb.c | apply Sb.d | refine Sb.t ?_)); done), ?_⟩
      refine TA_one 14 (by kernel_rfl) rfl rfl (TO_store 4 rfl rfl rfl sz97 rfl rfl rfl (List.forall_mem_cons.2 ⟨by first | rfl | exact MI_one (by assumption), List.forall_mem_cons.2 ⟨by first | rfl | exact MI_one (by assumption), List.forall_mem_cons.2 ⟨by first | rfl | exact MI_one (by assumption), by simp⟩⟩⟩) (by first | exact Nat.le_of_ble_eq_true rfl | (simp; done) | (simp; omega) | omega) ?_)
      refine ⟨fun _ h => h.sub (by (repeat (first | exact Sb.r | exact Sb.ar | exact Sb.al | apply Sb.c | apply Sb.d | refine Sb.t ?_)); done), ?_⟩
      refine TA_one 15 (by kernel_rfl) rfl rfl (TO_store 3 rfl rfl rfl sz97 rfl rfl rfl (List.forall_mem_cons.2 ⟨by first | rfl | exact MI_one (by assumption), List.forall_mem_cons.2 ⟨by first | rfl | exact MI_one (by assumption), List.forall_mem_cons.2 ⟨by first | rfl | exact MI_one (by assumption), by simp⟩⟩⟩) (by first | exact Nat.le_of_ble_eq_true rfl | (simp; done) | (simp; omega) | omega) ?_)
      refine ⟨fun _ h => h.sub (by (repeat (first | exact Sb.r | exact Sb.ar | exact Sb.al | apply Sb.c | apply Sb.d | refine Sb.t ?_)); done), ?_⟩
      refine TA_done (by kernel_rfl) ?_
      refine ?L38
      rotate_left 1
      refine ⟨_, rfl, Or.inl rfl, (TO_alloc rfl zr97 fun g3051 => ?_)⟩
      refine ⟨fun _ h => h.sub (by (repeat (first | exact Sb.r | exact Sb.ar | exact Sb.al | apply Sb.c | apply Sb.d | refine Sb.t ?_)); done), ?_⟩
      refine TA_perm ((perm_pick (i := 4) rfl).trans (List.Perm.cons _ ((perm_pick (i := 4) rfl).trans (List.Perm.cons _ ((perm_pick (i := 4) rfl).trans (List.Perm.cons _ (List.Perm.refl _))))))) ?_
      refine TA_one 5 (by kernel_rfl) rfl rfl (TO_call0 call40 rfl rfl (hCa ?sd3068q136_0 ?sd3068q136_1 ?sd3068q136_2 ?sd3068q136_3 ?sd3068q136_4) ?_)
      case sd3068q136_0 => exact hsub.trans (by repeat (first | exact Sb.r | exact Sb.ar | exact Sb.al | apply Sb.d | refine Sb.t ?_))
      case sd3068q136_1 => omega
      case sd3068q136_2 => omega
      case sd3068q136_3 => omega
      case sd3068q136_4 => exact hc
      rintro v45_3069 H45_3069 ⟨A'_3069, c'_3069, nn'_3069, m'_3069, vf_3069, vl_3069, N_3069, k'_3069, cs'_3069, rfl, rfl, rfl, h_3069_0, h_3069_1, h_3069_2, h_3069_3, h_3069_4, rfl⟩
      refine ⟨fun _ h => h.sub (by (repeat (first | exact Sb.r | exact Sb.ar | exact Sb.al | apply Sb.d | refine Sb.t ?_)); done), ?_⟩
      refine TA_one 11 (by kernel_rfl) rfl rfl (TO_call0 call40 rfl rfl (hCb ?sd3071q136_0 ?sd3071q136_1 ?sd3071q136_2 ?sd3071q136_3 ?sd3071q136_4) ?_)
      case sd3071q136_0 => exact hsub.trans (by repeat (first | exact Sb.r | exact Sb.ar | exact Sb.al | apply Sb.d | refine Sb.t ?_))
      case sd3071q136_1 => (rw [List.length_append, lvs_len]; omega)
      case sd3071q136_2 => omega
      case sd3071q136_3 => omega
      case sd3071q136_4 => exact h_3069_0
      rintro v51_3072 H51_3072 ⟨A'_3072, c'_3072, nn'_3072, m'_3072, vf_3072, vl_3072, N_3072, k'_3072, cs'_3072, rfl, rfl, rfl, h_3072_0, h_3072_1, h_3072_2, h_3072_3, h_3072_4, rfl⟩
      refine ⟨fun _ h => h.sub (by (repeat (first | exact Sb.r | exact Sb.ar | exact Sb.al | apply Sb.c | apply Sb.d | refine Sb.t ?_)); done), ?_⟩
      refine TA_one 14 (by kernel_rfl) rfl rfl (TO_store 4 rfl rfl rfl sz97 rfl rfl rfl (List.forall_mem_cons.2 ⟨by first | rfl | exact MI_one (by assumption), List.forall_mem_cons.2 ⟨by first | rfl | exact MI_one (by assumption), List.forall_mem_cons.2 ⟨by first | rfl | exact MI_one (by assumption), by simp⟩⟩⟩) (by first | exact Nat.le_of_ble_eq_true rfl | (simp; done) | (simp; omega) | omega) ?_)
      refine ⟨fun _ h => h.sub (by (repeat (first | exact Sb.r | exact Sb.ar | exact Sb.al | apply Sb.c | apply Sb.d | refine Sb.t ?_)); done), ?_⟩
      refine TA_one 15 (by kernel_rfl) rfl rfl (TO_store 3 rfl rfl rfl sz97 rfl rfl rfl (List.forall_mem_cons.2 ⟨by first | rfl | exact MI_one (by assumption), List.forall_mem_cons.2 ⟨by first | rfl | exact MI_one (by assumption), List.forall_mem_cons.2 ⟨by first | rfl | exact MI_one (by assumption), by simp⟩⟩⟩) (by first | exact Nat.le_of_ble_eq_true rfl | (simp; done) | (simp; omega) | omega) ?_)
      refine ⟨fun _ h => h.sub (by (repeat (first | exact Sb.r | exact Sb.ar | exact Sb.al | apply Sb.c | apply Sb.d | refine Sb.t ?_)); done), ?_⟩
      refine TA_done (by kernel_rfl) ?_
      refine ?L39
      rotate_left 1
      refine ⟨_, rfl, Or.inl rfl, (TO_alloc rfl zr97 fun g3005 => ?_)⟩
      refine ⟨fun _ h => h.sub (by (repeat (first | exact Sb.r | exact Sb.ar | exact Sb.al | apply Sb.c | apply Sb.d | refine Sb.t ?_)); done), ?_⟩
      refine TA_hardG (rs := [5, 12]) (by kernel_rfl) (by decide) ?_
      refine List.forall_mem_cons.2 ⟨?w3075q136_5, List.forall_mem_cons.2 ⟨?w3075q136_12, by simp⟩⟩
      refine ⟨_, rfl, Or.inl rfl, TO_perm ((perm_pick (i := 3) rfl).trans (List.Perm.cons _ ((perm_pick (i := 3) rfl).trans (List.Perm.cons _ ((perm_pick (i := 3) rfl).trans (List.Perm.cons _ (List.Perm.refl _))))))) (TO_call0 call40 rfl rfl (hCa ?sd3078q136_0 ?sd3078q136_1 ?sd3078q136_2 ?sd3078q136_3 ?sd3078q136_4) ?_)⟩
      case sd3078q136_0 => exact hsub.trans (by repeat (first | exact Sb.r | exact Sb.ar | exact Sb.al | apply Sb.d | refine Sb.t ?_))
      case sd3078q136_1 => omega
      case sd3078q136_2 => omega
      case sd3078q136_3 => omega
      case sd3078q136_4 => exact hc
      rintro v45_3079 H45_3079 ⟨A'_3079, c'_3079, nn'_3079, m'_3079, vf_3079, vl_3079, N_3079, k'_3079, cs'_3079, rfl, rfl, rfl, h_3079_0, h_3079_1, h_3079_2, h_3079_3, h_3079_4, rfl⟩
      refine ⟨fun _ h => h.sub (by (repeat (first | exact Sb.r | exact Sb.ar | exact Sb.al | apply Sb.d | refine Sb.t ?_)); done), ?_⟩
      refine TA_hardG (rs := [11, 12]) (by kernel_rfl) (by decide) ?_
      refine List.forall_mem_cons.2 ⟨?w3080q136_11, List.forall_mem_cons.2 ⟨?w3080q136_12, by simp⟩⟩
      refine ⟨_, rfl, Or.inl rfl, (TO_call0 call40 rfl rfl (hCb ?sd3083q136_0 ?sd3083q136_1 ?sd3083q136_2 ?sd3083q136_3 ?sd3083q136_4) ?_)⟩
      case sd3083q136_0 => exact hsub.trans (by repeat (first | exact Sb.r | exact Sb.ar | exact Sb.al | apply Sb.d | refine Sb.t ?_))
      case sd3083q136_1 => (rw [List.length_append, lvs_len]; omega)
      case sd3083q136_2 => omega
      case sd3083q136_3 => omega
      case sd3083q136_4 => exact h_3079_0
      rintro v51_3084 H51_3084 ⟨A'_3084, c'_3084, nn'_3084, m'_3084, vf_3084, vl_3084, N_3084, k'_3084, cs'_3084, rfl, rfl, rfl, h_3084_0, h_3084_1, h_3084_2, h_3084_3, h_3084_4, rfl⟩
      refine ⟨fun _ h => h.sub (by (repeat (first | exact Sb.r | exact Sb.ar | exact Sb.al | apply Sb.c | apply Sb.d | refine Sb.t ?_)); done), ?_⟩
      refine TA_one 12 (by kernel_rfl) rfl rfl (TO_alloc rfl zr97 fun g3085 => ?_)
      refine ⟨fun _ h => h.sub (by (repeat (first | exact Sb.r | exact Sb.ar | exact Sb.al | apply Sb.c | apply Sb.d | refine Sb.t ?_)); done), ?_⟩
      refine TA_one 14 (by kernel_rfl) rfl rfl (TO_store 0 rfl rfl rfl sz97 rfl rfl rfl (List.forall_mem_cons.2 ⟨by first | rfl | exact MI_one (by assumption), List.forall_mem_cons.2 ⟨by first | rfl | exact MI_one (by assumption), List.forall_mem_cons.2 ⟨by first | rfl | exact MI_one (by assumption), by simp⟩⟩⟩) (by first | exact Nat.le_of_ble_eq_true rfl | (simp; done) | (simp; omega) | omega) ?_)
      refine ⟨fun _ h => h.sub (by (repeat (first | exact Sb.r | exact Sb.ar | exact Sb.al | apply Sb.c | apply Sb.d | refine Sb.t ?_)); done), ?_⟩
      refine TA_one 15 (by kernel_rfl) rfl rfl (TO_store 4 rfl rfl rfl sz97 rfl rfl rfl (List.forall_mem_cons.2 ⟨by first | rfl | exact MI_one (by assumption), List.forall_mem_cons.2 ⟨by first | rfl | exact MI_one (by assumption), List.forall_mem_cons.2 ⟨by first | rfl | exact MI_one (by assumption), by simp⟩⟩⟩) (by first | exact Nat.le_of_ble_eq_true rfl | (simp; done) | (simp; omega) | omega) ?_)
      refine ⟨fun _ h => h.sub (by (repeat (first | exact Sb.r | exact Sb.ar | exact Sb.al | apply Sb.c | apply Sb.d | refine Sb.t ?_)); done), ?_⟩
      refine TA_done (by kernel_rfl) ?_
      refine ?L40
      rotate_left 1
      refine ⟨_, rfl, Or.inl rfl, (TO_alloc rfl zr97 fun g3082 => ?_)⟩
      refine ⟨fun _ h => h.sub (by (repeat (first | exact Sb.r | exact Sb.ar | exact Sb.al | apply Sb.d | refine Sb.t ?_)); done), ?_⟩
      refine TA_perm ((perm_pick (i := 1) rfl).trans (List.Perm.cons _ ((perm_pick (i := 1) rfl).trans (List.Perm.cons _ ((perm_pick (i := 1) rfl).trans (List.Perm.cons _ (List.Perm.refl _))))))) ?_
      refine TA_one 11 (by kernel_rfl) rfl rfl (TO_call0 call40 rfl rfl (hCb ?sd3089q136_0 ?sd3089q136_1 ?sd3089q136_2 ?sd3089q136_3 ?sd3089q136_4) ?_)
      case sd3089q136_0 => exact hsub.trans (by repeat (first | exact Sb.r | exact Sb.ar | exact Sb.al | apply Sb.d | refine Sb.t ?_))
      case sd3089q136_1 => (rw [List.length_append, lvs_len]; omega)
      case sd3089q136_2 => omega
      case sd3089q136_3 => omega
      case sd3089q136_4 => exact h_3079_0
      rintro v51_3090 H51_3090 ⟨A'_3090, c'_3090, nn'_3090, m'_3090, vf_3090, vl_3090, N_3090, k'_3090, cs'_3090, rfl, rfl, rfl, h_3090_0, h_3090_1, h_3090_2, h_3090_3, h_3090_4, rfl⟩
      refine ⟨fun _ h => h.sub (by (repeat (first | exact Sb.r | exact Sb.ar | exact Sb.al | apply Sb.c | apply Sb.d | refine Sb.t ?_)); done), ?_⟩
      refine TA_one 14 (by kernel_rfl) rfl rfl (TO_store 3 rfl rfl rfl sz97 rfl rfl rfl (List.forall_mem_cons.2 ⟨by first | rfl | exact MI_one (by assumption), List.forall_mem_cons.2 ⟨by first | rfl | exact MI_one (by assumption), List.forall_mem_cons.2 ⟨by first | rfl | exact MI_one (by assumption), by simp⟩⟩⟩) (by first | exact Nat.le_of_ble_eq_true rfl | (simp; done) | (simp; omega) | omega) ?_)
      refine ⟨fun _ h => h.sub (by (repeat (first | exact Sb.r | exact Sb.ar | exact Sb.al | apply Sb.c | apply Sb.d | refine Sb.t ?_)); done), ?_⟩
      refine TA_one 15 (by kernel_rfl) rfl rfl (TO_store 4 rfl rfl rfl sz97 rfl rfl rfl (List.forall_mem_cons.2 ⟨by first | rfl | exact MI_one (by assumption), List.forall_mem_cons.2 ⟨by first | rfl | exact MI_one (by assumption), List.forall_mem_cons.2 ⟨by first | rfl | exact MI_one (by assumption), by simp⟩⟩⟩) (by first | exact Nat.le_of_ble_eq_true rfl | (simp; done) | (simp; omega) | omega) ?_)
      refine ⟨fun _ h => h.sub (by (repeat (first | exact Sb.r | exact Sb.ar | exact Sb.al | apply Sb.c | apply Sb.d | refine Sb.t ?_)); done), ?_⟩
      refine TA_done (by kernel_rfl) ?_
      refine ?L41
      rotate_left 1
      refine ⟨_, rfl, Or.inl rfl, (TO_alloc rfl zr97 fun g3077 => ?_)⟩
      refine ⟨fun _ h => h.sub (by (repeat (first | exact Sb.r | exact Sb.ar | exact Sb.al | apply Sb.c | apply Sb.d | refine Sb.t ?_)); done), ?_⟩
      refine TA_perm ((perm_pick (i := 4) rfl).trans (List.Perm.cons _ ((perm_pick (i := 4) rfl).trans (List.Perm.cons _ ((perm_pick (i := 4) rfl).trans (List.Perm.cons _ (List.Perm.refl _))))))) ?_
      refine TA_one 5 (by kernel_rfl) rfl rfl (TO_call0 call40 rfl rfl (hCa ?sd3094q136_0 ?sd3094q136_1 ?sd3094q136_2 ?sd3094q136_3 ?sd3094q136_4) ?_)
      case sd3094q136_0 => exact hsub.trans (by repeat (first | exact Sb.r | exact Sb.ar | exact Sb.al | apply Sb.d | refine Sb.t ?_))
      case sd3094q136_1 => omega
      case sd3094q136_2 => omega
      case sd3094q136_3 => omega
      case sd3094q136_4 => exact hc
      rintro v45_3095 H45_3095 ⟨A'_3095, c'_3095, nn'_3095, m'_3095, vf_3095, vl_3095, N_3095, k'_3095, cs'_3095, rfl, rfl, rfl, h_3095_0, h_3095_1, h_3095_2, h_3095_3, h_3095_4, rfl⟩
      refine ⟨fun _ h => h.sub (by (repeat (first | exact Sb.r | exact Sb.ar | exact Sb.al | apply Sb.d | refine Sb.t ?_)); done), ?_⟩
      refine TA_one 11 (by kernel_rfl) rfl rfl (TO_call0 call40 rfl rfl (hCb ?sd3097q136_0 ?sd3097q136_1 ?sd3097q136_2 ?sd3097q136_3 ?sd3097q136_4) ?_)
      case sd3097q136_0 => exact hsub.trans (by repeat (first | exact Sb.r | exact Sb.ar | exact Sb.al | apply Sb.d | refine Sb.t ?_))
      case sd3097q136_1 => (rw [List.length_append, lvs_len]; omega)
      case sd3097q136_2 => omega
      case sd3097q136_3 => omega
      case sd3097q136_4 => exact h_3095_0
      rintro v51_3098 H51_3098 ⟨A'_3098, c'_3098, nn'_3098, m'_3098, vf_3098, vl_3098, N_3098, k'_3098, cs'_3098, rfl, rfl, rfl, h_3098_0, h_3098_1, h_3098_2, h_3098_3, h_3098_4, rfl⟩
      refine ⟨fun _ h => h.sub (by (repeat (first | exact Sb.r | exact Sb.ar | exact Sb.al | apply Sb.c | apply Sb.d | refine Sb.t ?_)); done), ?_⟩
      refine TA_one 14 (by kernel_rfl) rfl rfl (TO_store 3 rfl rfl rfl sz97 rfl rfl rfl (List.forall_mem_cons.2 ⟨by first | rfl | exact MI_one (by assumption), List.forall_mem_cons.2 ⟨by first | rfl | exact MI_one (by assumption), List.forall_mem_cons.2 ⟨by first | rfl | exact MI_one (by assumption), by simp⟩⟩⟩) (by first | exact Nat.le_of_ble_eq_true rfl | (simp; done) | (simp; omega) | omega) ?_)
      refine ⟨fun _ h => h.sub (by (repeat (first | exact Sb.r | exact Sb.ar | exact Sb.al | apply Sb.c | apply Sb.d | refine Sb.t ?_)); done), ?_⟩
      refine TA_one 15 (by kernel_rfl) rfl rfl (TO_store 4 rfl rfl rfl sz97 rfl rfl rfl (List.forall_mem_cons.2 ⟨by first | rfl | exact MI_one (by assumption), List.forall_mem_cons.2 ⟨by first | rfl | exact MI_one (by assumption), List.forall_mem_cons.2 ⟨by first | rfl | exact MI_one (by assumption), by simp⟩⟩⟩) (by first | exact Nat.le_of_ble_eq_true rfl | (simp; done) | (simp; omega) | omega) ?_)
      refine ⟨fun _ h => h.sub (by (repeat (first | exact Sb.r | exact Sb.ar | exact Sb.al | apply Sb.c | apply Sb.d | refine Sb.t ?_)); done), ?_⟩
      refine TA_done (by kernel_rfl) ?_
      refine ?L42
      all_goals exact ⟨_, _, _, _, _, _, _, _, _, _, _, _, _, _, _, (by repeat (first | exact FrSub.nil _ | refine FrSub.cons rfl ?_)), (by first | (refine Has.of_perm ((perm_pick (i := 0) rfl).trans (List.Perm.cons _ ((perm_pick (i := 0) rfl).trans (List.Perm.cons _ (List.Perm.refl _))))) ?_; (repeat (first | apply Sb.c | apply Sb.d)); exact Sb.r) | (refine Has.of_perm ((perm_pick (i := 1) rfl).trans (List.Perm.cons _ ((perm_pick (i := 0) rfl).trans (List.Perm.cons _ (List.Perm.refl _))))) ?_; (repeat (first | apply Sb.c | apply Sb.d)); exact Sb.r) | (refine Has.of_perm ((perm_pick (i := 0) rfl).trans (List.Perm.cons _ ((perm_pick (i := 3) rfl).trans (List.Perm.cons _ (List.Perm.refl _))))) ?_; (repeat (first | apply Sb.c | apply Sb.d)); exact Sb.r) | (refine Has.of_perm ((perm_pick (i := 4) rfl).trans (List.Perm.cons _ ((perm_pick (i := 0) rfl).trans (List.Perm.cons _ (List.Perm.refl _))))) ?_; (repeat (first | apply Sb.c | apply Sb.d)); exact Sb.r) | (refine Has.of_perm ((perm_pick (i := 3) rfl).trans (List.Perm.cons _ ((perm_pick (i := 3) rfl).trans (List.Perm.cons _ (List.Perm.refl _))))) ?_; (repeat (first | apply Sb.c | apply Sb.d)); exact Sb.r) | (refine Has.of_perm ((perm_pick (i := 4) rfl).trans (List.Perm.cons _ ((perm_pick (i := 3) rfl).trans (List.Perm.cons _ (List.Perm.refl _))))) ?_; (repeat (first | apply Sb.c | apply Sb.d)); exact Sb.r) | (refine Has.of_perm ((perm_pick (i := 0) rfl).trans (List.Perm.cons _ ((perm_pick (i := 1) rfl).trans (List.Perm.cons _ (List.Perm.refl _))))) ?_; (repeat (first | apply Sb.c | apply Sb.d)); exact Sb.r) | (refine Has.of_perm ((perm_pick (i := 1) rfl).trans (List.Perm.cons _ ((perm_pick (i := 1) rfl).trans (List.Perm.cons _ (List.Perm.refl _))))) ?_; (repeat (first | apply Sb.c | apply Sb.d)); exact Sb.r) | (refine Has.of_perm ((perm_pick (i := 3) rfl).trans (List.Perm.cons _ ((perm_pick (i := 0) rfl).trans (List.Perm.cons _ (List.Perm.refl _))))) ?_; (repeat (first | apply Sb.c | apply Sb.d)); exact Sb.r) | (refine Has.of_perm ((perm_pick (i := 0) rfl).trans (List.Perm.cons _ ((perm_pick (i := 4) rfl).trans (List.Perm.cons _ (List.Perm.refl _))))) ?_; (repeat (first | apply Sb.c | apply Sb.d)); exact Sb.r) | (refine Has.of_perm ((perm_pick (i := 4) rfl).trans (List.Perm.cons _ ((perm_pick (i := 4) rfl).trans (List.Perm.cons _ (List.Perm.refl _))))) ?_; (repeat (first | apply Sb.c | apply Sb.d)); exact Sb.r) | (refine Has.of_perm ((perm_pick (i := 2) rfl).trans (List.Perm.cons _ ((perm_pick (i := 2) rfl).trans (List.Perm.cons _ (List.Perm.refl _))))) ?_; (repeat (first | apply Sb.c | apply Sb.d)); exact Sb.r) | (refine Has.of_perm ((perm_pick (i := 2) rfl).trans (List.Perm.cons _ ((perm_pick (i := 0) rfl).trans (List.Perm.cons _ (List.Perm.refl _))))) ?_; (repeat (first | apply Sb.c | apply Sb.d)); exact Sb.r) | (refine Has.of_perm ((perm_pick (i := 0) rfl).trans (List.Perm.cons _ ((perm_pick (i := 2) rfl).trans (List.Perm.cons _ (List.Perm.refl _))))) ?_; (repeat (first | apply Sb.c | apply Sb.d)); exact Sb.r)), rfl, by assumption, by assumption, by assumption, by assumption, by assumption, by assumption, by assumption, by assumption, by assumption⟩
    · rintro f h ⟨g6, g7, c', n1, n2, A', m1, m2, vfa, vla, vfb, vlb, Na, Nb, cs', hf, ⟨hh, hp, hs⟩, rfl, hc', hn1, hn2, hm1, hm2, hfa, hla, hfb, hlb⟩
      refine T.weaken hf (T.perm hp (T.drop hs ?_))
      have hmf : ∀ x y, kI.ok x → kI.ok y → (m2 (x, y) || (lstP a k x && fstP b (k + pl a) y)) = (m (x, y) || nxtP (.then_ a b) k x y) := fun x y hx hy => by
        rw [hm2 x y hx hy, hm1 x y hx hy]
        simp only [nxtP, Bool.or_assoc]
      have hsm : MI (WH w0 B Nb) (if nul a then vfb else .map none) (pl b) (fun x => nul a && fstP b (k + pl a) x) := hfb.some_ (nul a)
      have hsm2 : MI (WH w0 B Na) (if nul b then vla else .map none) (pl a) (fun x => nul b && lstP a k x) := hla.some_ (nul b)
      rcases Bool.eq_false_or_eq_true (nul a) with hna | hna
      · refine T_seq ?_
        refine T_region ?_
        refine TL_p (PV_move rfl) ?_
        refine TL_p (PV_fieldAddr (D := 1) Tryd.underlying97 rfl sz95 (by decide) rfl rfl) ?_
        refine TL_p (PV_load Tryd.underlying95 rfl rfl (Rd.at 0 rfl rfl)) ?_
        refine TL_p (PV_fieldAddr (D := 0) Tryd.underlying97 rfl sz95 (by decide) rfl rfl) ?_
        refine TL_p (PV_load Tryd.underlying95 rfl rfl (Rd.at 1 rfl rfl)) ?_
        refine TL_perm ((perm_pick (i := 2) rfl).trans (List.Perm.cons _ ((perm_pick (i := 3) rfl).trans (List.Perm.cons _ (List.Perm.refl _))))) ?_
        refine TL_cons rfl (TO_call0 call52 rfl rfl (join_t (na := pl a) (nb := pl b) (hla.weak (fun w h => h.sub (by repeat (first | exact Sb.r | exact Sb.ar | exact Sb.al | apply Sb.d | refine Sb.t ?_)))) (hfb.weak (fun w h => h.sub (by repeat (first | exact Sb.r | exact Sb.ar | exact Sb.al | apply Sb.d | refine Sb.t ?_)))) (by omega)) ?_)
        rintro v57_6002 H57_6002 ⟨nn'_6002, m'_6002, rfl, h_6002_0, h_6002_1, rfl⟩
        refine TL_nil ?_
        refine T_seq ?_
        refine T_drawnE 5 mixed ?_
        refine TA_p 0 rfl (by kernel_rfl) (PV_fieldAddr (D := 0) Tryd.underlying97 rfl sz95 (by decide) rfl rfl) ?_
        refine TA_p 1 rfl (by kernel_rfl) (PV_load Tryd.underlying95 rfl rfl (Rd.at 2 rfl rfl)) ?_
        refine TA_p 2 rfl (by kernel_rfl) (PV_fieldAddr (D := 2) Tryd.underlying97 rfl sz4 (by decide) rfl rfl) ?_
        refine TA_p 3 rfl (by kernel_rfl) (PV_load Tryd.underlying4 rfl rfl (Rd.at 2 rfl rfl)) ?_
        refine TA_p 4 rfl (by kernel_rfl) (PV_fieldAddr (D := 0) Tryd.underlying97 rfl sz95 (by decide) rfl rfl) ?_
        refine TA_p 5 rfl (by kernel_rfl) (PV_load Tryd.underlying95 rfl rfl (Rd.at 3 rfl rfl)) ?_
        refine TA_p 8 rfl (by kernel_rfl) (PV_fieldAddr (D := 1) Tryd.underlying97 rfl sz95 (by decide) rfl rfl) ?_
        refine TA_p 9 rfl (by kernel_rfl) (PV_load Tryd.underlying95 rfl rfl (Rd.at 3 rfl rfl)) ?_
        refine TA_p 10 rfl (by kernel_rfl) (PV_fieldAddr (D := 2) Tryd.underlying97 rfl sz4 (by decide) rfl rfl) ?_
        refine TA_p 11 rfl (by kernel_rfl) (PV_load Tryd.underlying4 rfl rfl (Rd.at 3 rfl rfl)) ?_
        refine TA_p 12 rfl (by kernel_rfl) (PV_fieldAddr (D := 1) Tryd.underlying97 rfl sz95 (by decide) rfl rfl) ?_
        refine TA_p 13 rfl (by kernel_rfl) (PV_load Tryd.underlying95 rfl rfl (Rd.at 2 rfl rfl)) ?_
        refine TA_p 16 rfl (by kernel_rfl) (PV_fieldAddr (D := 2) Tryd.underlying97 rfl sz4 (by decide) rfl rfl) ?_
        refine TA_p 17 rfl (by kernel_rfl) (PV_load Tryd.underlying4 rfl rfl (Rd.at 2 rfl rfl)) ?_
        refine TA_one 6 (by kernel_rfl) rfl rfl (TO_call0 call54 rfl rfl (some_t) ?_)
        rintro v64_6005 H64_6005 ⟨rfl, rfl⟩
        refine ⟨fun _ h => h.sub (by (repeat (first | exact Sb.r | exact Sb.ar | exact Sb.al | apply Sb.c | apply Sb.d | refine Sb.t ?_)); done), ?_⟩
        refine TA_perm ((perm_pick (i := 0) rfl).trans (List.Perm.cons _ (List.Perm.refl _))) ?_
        refine TA_one 7 (by kernel_rfl) rfl rfl (TO_call0 call53 rfl rfl (both_t (hfa.weak (fun w h => h.sub (by repeat (first | exact Sb.r | exact Sb.ar | exact Sb.al | apply Sb.d | refine Sb.t ?_)))) (hsm.weak (fun w h => h.sub (by repeat (first | exact Sb.r | exact Sb.ar | exact Sb.al | apply Sb.d | refine Sb.t ?_)))) (by omega)) ?_)
        rintro v65_6007 H65_6007 ⟨g_6007, nn_6007, m_6007, rfl, h_6007_0, h_6007_1, rfl⟩
        refine ⟨fun _ h => h.sub (by (repeat (first | exact Sb.r | exact Sb.ar | exact Sb.al | apply Sb.c | apply Sb.d | refine Sb.t ?_)); done), ?_⟩
        refine TA_one 14 (by kernel_rfl) rfl rfl (TO_call0 call54 rfl rfl (some_t) ?_)
        rintro v72_6010 H72_6010 ⟨rfl, rfl⟩
        refine ⟨fun _ h => h.sub (by (repeat (first | exact Sb.r | exact Sb.ar | exact Sb.al | apply Sb.c | apply Sb.d | refine Sb.t ?_)); done), ?_⟩
        refine TA_perm ((perm_pick (i := 0) rfl).trans (List.Perm.cons _ (List.Perm.refl _))) ?_
        refine TA_one 15 (by kernel_rfl) rfl rfl (TO_call0 call53 rfl rfl (both_t (hlb.weak (fun w h => h.sub (by repeat (first | exact Sb.r | exact Sb.ar | exact Sb.al | apply Sb.d | refine Sb.t ?_)))) (hsm2.weak (fun w h => h.sub (by repeat (first | exact Sb.r | exact Sb.ar | exact Sb.al | apply Sb.d | refine Sb.t ?_)))) (by omega)) ?_)
        rintro v73_6012 H73_6012 ⟨g_6012, nn_6012, m_6012, rfl, h_6012_0, h_6012_1, rfl⟩
        refine ⟨fun _ h => h.sub (by (repeat (first | exact Sb.r | exact Sb.ar | exact Sb.al | apply Sb.c | apply Sb.d | refine Sb.t ?_)); done), ?_⟩
        refine TA_p 18 rfl (by kernel_rfl) (PV_move rfl) ?_
        refine TA_yes (dd := (some 77)) 19 rfl (by kernel_rfl) (by kernel_rfl) (by kernel_rfl) rfl rfl (gtrue (by with_reducible assumption)) rfl rfl (PV_fieldAddr (D := 2) Tryd.underlying97 rfl sz4 (by decide) rfl rfl) ?_
        refine TA_yes (dd := (some 78)) 20 rfl (by kernel_rfl) (by kernel_rfl) (by kernel_rfl) rfl rfl (gtrue (by with_reducible assumption)) rfl rfl (PV_load Tryd.underlying4 rfl rfl (Rd.at 3 rfl rfl)) ?_
        refine TA_p 21 rfl (by kernel_rfl) (PV_pickAnd rfl rfl rfl) ?_
        refine TA_p 22 rfl (by kernel_rfl) (PV_bld (cs := [_, _, _]) Tryd.underlying97 pl97 zr97 rfl rfl) ?_
        refine TA_one 23 (by kernel_rfl) rfl rfl (TO_store 7 rfl rfl rfl sz97 rfl rfl rfl (all_one rfl) (by first | exact Nat.le_of_ble_eq_true rfl | (simp; done) | (simp; omega) | omega) ?_)
        refine ⟨fun _ h => h.sub (by (repeat (first | exact Sb.r | exact Sb.ar | exact Sb.al | apply Sb.c | apply Sb.d | refine Sb.t ?_)); done), ?_⟩
        refine TA_done (by kernel_rfl) ?_
        refine ?L61
        case L61 =>
          refine T_openOb 0 rfl fun o1 ho1 => ?_
          refine T_openOb 1 rfl fun o2 ho2 => ?_
          refine T.perm ((perm_pick (i := 2) rfl).trans (List.Perm.cons _ ((perm_pick (i := 5) rfl).trans (List.Perm.cons _ ((perm_pick (i := 2) rfl).trans (List.Perm.cons _ ((perm_pick (i := 4) rfl).trans (List.Perm.cons _ ((perm_pick (i := 2) rfl).trans (List.Perm.cons _ ((perm_pick (i := 2) rfl).trans (List.Perm.cons _ (List.Perm.refl _))))))))))))) ?_
          refine T.perm perm_six ?_
          refine T_ret ?_
          refine ret_ret (ResV_c rfl Tryd.underlying97 rfl sz97 rfl (Rds.take 3 rfl rfl rfl)) ?_
          exact ⟨_ :: _ :: _ :: (H ++ (_ :: _ :: (Na ++ Nb))), List.Sublist.cons_cons _ (List.Sublist.cons_cons _ (List.Sublist.cons_cons _ (List.Sublist.cons _ (List.Sublist.cons _ (List.Sublist.cons _ (List.Sublist.refl _)))))), A', c', nn'_6002, m'_6002, _, _, _, k + pl a + pl b, _, (by first | rfl | (simp only [nul, hna, Bool.false_and]; rfl)), by simp only [pl]; omega, by simp only [lvs, List.append_assoc], by omega, by simp only [nx]; omega, fun x y hx hy => (h_6002_1 x y hx hy).trans (hmf x y hx hy),
            MS.mono (MS.of_ob (H := _ :: _ :: (Na ++ Nb)) ho2 1 rfl) (fun w h => h) h_6007_0 h_6007_1, MS.mono (MS.of_ob (H := _ :: _ :: (Na ++ Nb)) ho1 0 rfl) (fun w h => h) (by simp only [pl]; omega) h_6012_1, rfl⟩
      · refine T_seq ?_
        refine T_region ?_
        refine TL_p (PV_move rfl) ?_
        refine TL_p (PV_fieldAddr (D := 1) Tryd.underlying97 rfl sz95 (by decide) rfl rfl) ?_
        refine TL_p (PV_load Tryd.underlying95 rfl rfl (Rd.at 0 rfl rfl)) ?_
        refine TL_p (PV_fieldAddr (D := 0) Tryd.underlying97 rfl sz95 (by decide) rfl rfl) ?_
        refine TL_p (PV_load Tryd.underlying95 rfl rfl (Rd.at 1 rfl rfl)) ?_
        refine TL_perm ((perm_pick (i := 2) rfl).trans (List.Perm.cons _ ((perm_pick (i := 3) rfl).trans (List.Perm.cons _ (List.Perm.refl _))))) ?_
        refine TL_cons rfl (TO_call0 call52 rfl rfl (join_t (na := pl a) (nb := pl b) (hla.weak (fun w h => h.sub (by repeat (first | exact Sb.r | exact Sb.ar | exact Sb.al | apply Sb.d | refine Sb.t ?_)))) (hfb.weak (fun w h => h.sub (by repeat (first | exact Sb.r | exact Sb.ar | exact Sb.al | apply Sb.d | refine Sb.t ?_)))) (by omega)) ?_)
        rintro v57_5002 H57_5002 ⟨nn'_5002, m'_5002, rfl, h_5002_0, h_5002_1, rfl⟩
        refine TL_nil ?_
        refine T_seq ?_
        refine T_drawnE 5 mixed ?_
        refine TA_p 0 rfl (by kernel_rfl) (PV_fieldAddr (D := 0) Tryd.underlying97 rfl sz95 (by decide) rfl rfl) ?_
        refine TA_p 1 rfl (by kernel_rfl) (PV_load Tryd.underlying95 rfl rfl (Rd.at 2 rfl rfl)) ?_
        refine TA_p 2 rfl (by kernel_rfl) (PV_fieldAddr (D := 2) Tryd.underlying97 rfl sz4 (by decide) rfl rfl) ?_
        refine TA_p 3 rfl (by kernel_rfl) (PV_load Tryd.underlying4 rfl rfl (Rd.at 2 rfl rfl)) ?_
        refine TA_p 4 rfl (by kernel_rfl) (PV_fieldAddr (D := 0) Tryd.underlying97 rfl sz95 (by decide) rfl rfl) ?_
        refine TA_p 5 rfl (by kernel_rfl) (PV_load Tryd.underlying95 rfl rfl (Rd.at 3 rfl rfl)) ?_
        refine TA_p 8 rfl (by kernel_rfl) (PV_fieldAddr (D := 1) Tryd.underlying97 rfl sz95 (by decide) rfl rfl) ?_
        refine TA_p 9 rfl (by kernel_rfl) (PV_load Tryd.underlying95 rfl rfl (Rd.at 3 rfl rfl)) ?_
        refine TA_p 10 rfl (by kernel_rfl) (PV_fieldAddr (D := 2) Tryd.underlying97 rfl sz4 (by decide) rfl rfl) ?_
        refine TA_p 11 rfl (by kernel_rfl) (PV_load Tryd.underlying4 rfl rfl (Rd.at 3 rfl rfl)) ?_
        refine TA_p 12 rfl (by kernel_rfl) (PV_fieldAddr (D := 1) Tryd.underlying97 rfl sz95 (by decide) rfl rfl) ?_
        refine TA_p 13 rfl (by kernel_rfl) (PV_load Tryd.underlying95 rfl rfl (Rd.at 2 rfl rfl)) ?_
        refine TA_p 16 rfl (by kernel_rfl) (PV_fieldAddr (D := 2) Tryd.underlying97 rfl sz4 (by decide) rfl rfl) ?_
        refine TA_p 17 rfl (by kernel_rfl) (PV_load Tryd.underlying4 rfl rfl (Rd.at 2 rfl rfl)) ?_
        refine TA_one 6 (by kernel_rfl) rfl rfl (TO_call0 call54 rfl rfl (some_t) ?_)
        rintro v64_5005 H64_5005 ⟨rfl, rfl⟩
        refine ⟨fun _ h => h.sub (by (repeat (first | exact Sb.r | exact Sb.ar | exact Sb.al | apply Sb.c | apply Sb.d | refine Sb.t ?_)); done), ?_⟩
        refine TA_perm ((perm_pick (i := 0) rfl).trans (List.Perm.cons _ (List.Perm.refl _))) ?_
        refine TA_one 7 (by kernel_rfl) rfl rfl (TO_call0 call53 rfl rfl (both_t (hfa.weak (fun w h => h.sub (by repeat (first | exact Sb.r | exact Sb.ar | exact Sb.al | apply Sb.d | refine Sb.t ?_)))) (hsm.weak (fun w h => h.sub (by repeat (first | exact Sb.r | exact Sb.ar | exact Sb.al | apply Sb.d | refine Sb.t ?_)))) (by omega)) ?_)
        rintro v65_5007 H65_5007 ⟨g_5007, nn_5007, m_5007, rfl, h_5007_0, h_5007_1, rfl⟩
        refine ⟨fun _ h => h.sub (by (repeat (first | exact Sb.r | exact Sb.ar | exact Sb.al | apply Sb.c | apply Sb.d | refine Sb.t ?_)); done), ?_⟩
        refine TA_one 14 (by kernel_rfl) rfl rfl (TO_call0 call54 rfl rfl (some_t) ?_)
        rintro v72_5010 H72_5010 ⟨rfl, rfl⟩
        refine ⟨fun _ h => h.sub (by (repeat (first | exact Sb.r | exact Sb.ar | exact Sb.al | apply Sb.c | apply Sb.d | refine Sb.t ?_)); done), ?_⟩
        refine TA_perm ((perm_pick (i := 0) rfl).trans (List.Perm.cons _ (List.Perm.refl _))) ?_
        refine TA_one 15 (by kernel_rfl) rfl rfl (TO_call0 call53 rfl rfl (both_t (hlb.weak (fun w h => h.sub (by repeat (first | exact Sb.r | exact Sb.ar | exact Sb.al | apply Sb.d | refine Sb.t ?_)))) (hsm2.weak (fun w h => h.sub (by repeat (first | exact Sb.r | exact Sb.ar | exact Sb.al | apply Sb.d | refine Sb.t ?_)))) (by omega)) ?_)
        rintro v73_5012 H73_5012 ⟨g_5012, nn_5012, m_5012, rfl, h_5012_0, h_5012_1, rfl⟩
        refine ⟨fun _ h => h.sub (by (repeat (first | exact Sb.r | exact Sb.ar | exact Sb.al | apply Sb.c | apply Sb.d | refine Sb.t ?_)); done), ?_⟩
        refine TA_p 18 rfl (by kernel_rfl) (PV_move rfl) ?_
        refine TA_no (dd := (some 77)) (b := false) 19 rfl (by kernel_rfl) (by kernel_rfl) (by kernel_rfl) rfl rfl (gfalse (by with_reducible assumption)) rfl rfl ?_
        refine TA_no (dd := (some 78)) (b := false) 20 rfl (by kernel_rfl) (by kernel_rfl) (by kernel_rfl) rfl rfl (gfalse (by with_reducible assumption)) rfl rfl ?_
        refine TA_p 21 rfl (by kernel_rfl) (PV_pickF rfl (by first | assumption | rfl | (simp; done) | (simp; omega) | (simp [*]; done) | (simp [*]; omega)) rfl rfl) ?_
        refine TA_p 22 rfl (by kernel_rfl) (PV_bld (cs := [_, _, _]) Tryd.underlying97 pl97 zr97 rfl rfl) ?_
        refine TA_one 23 (by kernel_rfl) rfl rfl (TO_store 7 rfl rfl rfl sz97 rfl rfl rfl (all_one rfl) (by first | exact Nat.le_of_ble_eq_true rfl | (simp; done) | (simp; omega) | omega) ?_)
        refine ⟨fun _ h => h.sub (by (repeat (first | exact Sb.r | exact Sb.ar | exact Sb.al | apply Sb.c | apply Sb.d | refine Sb.t ?_)); done), ?_⟩
        refine TA_done (by kernel_rfl) ?_
        refine ?L51
        case L51 =>
          refine T_openOb 0 rfl fun o1 ho1 => ?_
          refine T_openOb 1 rfl fun o2 ho2 => ?_
          refine T.perm ((perm_pick (i := 2) rfl).trans (List.Perm.cons _ ((perm_pick (i := 5) rfl).trans (List.Perm.cons _ ((perm_pick (i := 2) rfl).trans (List.Perm.cons _ ((perm_pick (i := 4) rfl).trans (List.Perm.cons _ ((perm_pick (i := 2) rfl).trans (List.Perm.cons _ ((perm_pick (i := 2) rfl).trans (List.Perm.cons _ (List.Perm.refl _))))))))))))) ?_
          refine T.perm perm_six ?_
          refine T_ret ?_
          refine ret_ret (ResV_c rfl Tryd.underlying97 rfl sz97 rfl (Rds.take 3 rfl rfl rfl)) ?_
          exact ⟨_ :: _ :: _ :: (H ++ (_ :: _ :: (Na ++ Nb))), List.Sublist.cons_cons _ (List.Sublist.cons_cons _ (List.Sublist.cons_cons _ (List.Sublist.cons _ (List.Sublist.cons _ (List.Sublist.cons _ (List.Sublist.refl _)))))), A', c', nn'_5002, m'_5002, _, _, _, k + pl a + pl b, _, (by first | rfl | (simp only [nul, hna, Bool.false_and]; rfl)), by simp only [pl]; omega, by simp only [lvs, List.append_assoc], by omega, by simp only [nx]; omega, fun x y hx hy => (h_5002_1 x y hx hy).trans (hmf x y hx hy),
            MS.mono (MS.of_ob (H := _ :: _ :: (Na ++ Nb)) ho2 1 rfl) (fun w h => h) h_5007_0 h_5007_1, MS.mono (MS.of_ob (H := _ :: _ :: (Na ++ Nb)) ho1 0 rfl) (fun w h => h) (by simp only [pl]; omega) h_5012_1, rfl⟩
end
end Go.Proofs.YtijpbpnfachlkaaDoor.SL
