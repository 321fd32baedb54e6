import Derived.Test.YtkgdphbccagjcaaN1
import Derived.Test.YtkgdphbccagjcaaG2
/- One pattern behind another one: the law. No statement is proved here. -/
set_option linter.unusedVariables false
set_option linter.unusedSimpArgs false
set_option maxRecDepth 100000
set_option maxHeartbeats 8000000
namespace Go.Proofs.Ytkgdphbccagjcaa.SL
open Go Go.RowKit
def idxN (l : List Bool) (n : Nat) : List Nat := (List.range n).filter fun k => l.getD k false
theorem idxN_mem {l : List Bool} {n k : Nat} : k ∈ idxN l n ↔ k < n ∧ l.getD k false = true := by simp [idxN]
theorem idxN_nodup (l : List Bool) (n : Nat) : (idxN l n).Nodup := List.Pairwise.filter _ List.nodup_range
theorem idxT_idxN (l : List Bool) (n : Nat) : idxT l n = (idxN l n).map fun k : Nat => (k : Int) := idxT_get l n
theorem idxN_len (l : List Bool) (n : Nat) : (idxT l n).length = (idxN l n).length := by rw [idxT_idxN, List.length_map]
section
variable {w0 : World} {B n : Nat} {fr : Fr} {H X : List Chunk} {dst : Option Tmp} {ty : TypeId} {pos : String} {aft : Array Edge} {gd : Option (Nat × Bool)}
theorem setE_size {P : Program} {k e : TypeId} {α : Type} {F : KeyFam P k α} {nn clock : Nat} {m : α → Bool} {es : Array MapEntry} (h : SetE F e nn m es clock) {ks : List α} (hnd : ks.Nodup) (hks : ∀ a ∈ ks, F.ok a) (hm : ∀ a, F.ok a → (m a = true ↔ a ∈ ks)) : es.size = ks.length := by
  have h1 : (es.toList.map (·.key)).Nodup := h.fit.stamped.2.2
  have h2 : (ks.map F.mkV).Nodup := by
    refine List.Pairwise.map _ (fun a b hab hv => hab (F.vinj hv)) hnd
  have hp := (List.perm_ext_iff_of_nodup h1 h2).2 fun v => by
    simp only [List.mem_map]
    constructor
    · rintro ⟨x, hx, rfl⟩
      obtain ⟨a, ha, hk⟩ := h.keys x hx
      exact ⟨a, (hm a ha).1 ((h.mem a ha).2 ⟨x, hx, hk⟩), hk.symm⟩
    · rintro ⟨a, ha, rfl⟩
      obtain ⟨x, hx, hk⟩ := (h.mem a (hks a ha)).1 ((hm a (hks a ha)).2 ha)
      exact ⟨x, hx, hk⟩
  have := hp.length_eq
  simpa using this
theorem PV_lenOb {P : Program} {k e t : TypeId} {α : Type} {F : KeyFam P k α} {x : Operand} {g nn : Nat} {m : α → Bool} (i : Nat) (hi : H[i]? = some (.ob g (SetO F e nn m))) (ht : P.underlying t = some (.map k e)) {ks : List α} (hnd : ks.Nodup) (hks : ∀ a ∈ ks, F.ok a) (hm : ∀ a, F.ok a → (m a = true ↔ a ∈ ks)) (hx : ev fr x = some (.map (some g))) :
    PV P n (WH w0 B H) fr ⟨dst, .call { callee := .builtin .len, args := #[x], argTypes := #[t] }, ty, pos, aft, gd⟩ (.int .i64 (ks.length : Int)) := fun a w hf hw => by
  obtain ⟨HX, hr⟩ := hw
  obtain ⟨o, hb, es, clock, rfl, hS⟩ := ob_at hi hr
  rw [← setE_size hS hnd hks hm]
  simp only [execOp, resolve, invoke, builtin, Builtin.len_]
  simp [hf.ev hx, run_underlying ht, MapKept.run_getObj_map hb, goInt]
theorem PV_lookIO {t : TypeId} {mo xo : Operand} {g nn : Nat} {m : Nat → Bool} (i : Nat) (hi : H[i]? = some (.ob g (SetI nn m))) (ht : Try.prog.underlying t = some (.map 3 4)) {x : Nat} (hx : kI.ok x) (hm : ev fr mo = some (.map (some g))) (hk : ev fr xo = some (.int .i64 (x : Int))) : PV Try.prog n (WH w0 B H) fr ⟨dst, .lookup t mo xo false, ty, pos, aft, gd⟩ (.bool (m x)) :=
  PV_lookOb (F := kI) i hi ht zr4 hx rfl hm hk
theorem natV_at {L : List Nat} {j : Nat} (h : j < L.length) : (intV (L.map fun k : Nat => (k : Int)))[j * 1]? = some (.int .i64 ((L.getD j 0 : Nat) : Int)) := by
  rw [Nat.mul_one]
  simp [intV, List.getD_eq_getElem?_getD, List.getElem?_eq_getElem h]
theorem getD_mem {L : List Nat} {j : Nat} (h : j < L.length) : L.getD j 0 ∈ L := by
  simp [List.getD_eq_getElem?_getD, List.getElem?_eq_getElem h]
theorem mem_getD {L : List Nat} {x : Nat} (h : x ∈ L) : ∃ j, j < L.length ∧ L.getD j 0 = x := by
  obtain ⟨j, hj, e⟩ := List.getElem_of_mem h
  exact ⟨j, hj, by simp [List.getD_eq_getElem?_getD, List.getElem?_eq_getElem hj, e]⟩
/-- the places at which b ends that began where a ended -/
theorem parts_iff {s : List Int} {a b : Rx} {f x : Nat} (hf : f ≤ s.length) : (endsL s (.then_ a b) (startL f (s.length + 1))).getD x false = true ↔ ∃ k, k ∈ idxN (endsL s a (startL f (s.length + 1))) (s.length + 1) ∧ x ∈ idxN (endsL s b (startL k (s.length + 1))) (s.length + 1) := by
  show (endsL s b (endsL s a (startL f (s.length + 1)))).getD x false = true ↔ _
  rw [ends_lg (endsL_len (startL_len _ _))]
  constructor
  · rintro ⟨k, h1, h2, h3, h4⟩
    exact ⟨k, idxN_mem.2 ⟨by omega, h3⟩, idxN_mem.2 ⟨by omega, (ends_start (by omega)).2 ⟨h1, h2, h4⟩⟩⟩
  · rintro ⟨k, h1, h2⟩
    obtain ⟨h1, h3⟩ := idxN_mem.1 h1
    obtain ⟨h2, h4⟩ := idxN_mem.1 h2
    obtain ⟨h5, h6, h7⟩ := (ends_start (by omega)).1 h4
    exact ⟨k, h5, h6, h3, h7⟩
theorem Text_v' {A : Option Addr} {m c : Nat} {l s : List Int} (hs : txt l m = s) (hS : Shows (WH w0 B H) A m 1 (nums .u8 l)) (hlm : l.length = m) (hl : m ≤ 4611686018427387904) (hc : m ≤ c) (hu : U8s l) : TCall Try.prog w0 B 20 [.slice A m c].toArray (fun r H' => r = .string (strOfNums s) ∧ H' = H) H := by
  subst hs
  exact Text_t hS hlm (by omega) hc hu
theorem MatchParts_t {A0 A1 A2 : Option Addr} {m0 m1 m2 c0 c1 c2 : Nat} {l0 l1 l2 : List Int} (fn : Nat) (hfn : fn ≤ 255) (hS0 : Shows (WH w0 B H) A0 m0 1 (nums .u8 l0)) (hm0 : l0.length = m0) (hl0 : m0 ≤ 4611686018427387904) (hc0 : m0 ≤ c0) (hu0 : U8s l0) (hS1 : Shows (WH w0 B H) A1 m1 1 (nums .u8 l1)) (hm1 : l1.length = m1) (hl1 : m1 ≤ 4611686018427387904) (hc1 : m1 ≤ c1) (hu1 : U8s l1) (hS2 : Shows (WH w0 B H) A2 m2 1 (nums .u8 l2)) (hm2 : l2.length = m2) (hl2 : m2 ≤ 4611686018427387904) (hc2 : m2 ≤ c2) (hu2 : U8s l2) :
    TCall Try.prog w0 B 3 #[.slice A0 m0 c0, .slice A1 m1 c1, .slice A2 m2 c2, .int .u8 (fn : Int)] (fun r H' => r = .bool true ∧ H' = H) H := by
  obtain ⟨a, ha⟩ : ∃ t, (mk 2 l0).2.1 = t := ⟨_, rfl⟩
  obtain ⟨b, hb⟩ : ∃ t, (mk 2 l1).2.1 = t := ⟨_, rfl⟩
  obtain ⟨s, hs⟩ : ∃ s, txt l2 m2 = s := ⟨_, rfl⟩
  have hms := txt_mem hu2 m2
  have hls := txt_len l2 m2
  rw [hs] at hms hls
  have hus : U8s s := fun x hx => by have := hms x hx; omega
  have hva : ∀ {W : World → Prop} {v : Nv}, Tr W (mk 2 l0).2.1 v → Tr W a v := fun h => ha ▸ h
  have hvb : ∀ {W : World → Prop} {v : Nv}, Tr W (mk 2 l1).2.1 v → Tr W b v := fun h => hb ▸ h
  have hHN : ∀ N : List Chunk, H.Sublist (H ++ N) := fun N => List.sublist_append_left H N
  have hHX : ∀ N N2 : List Chunk, H.Sublist ((H ++ N) ++ N2) := fun N N2 => (hHN N).trans (List.sublist_append_left _ _)
  have el : Value.int .i64 (((strOfNums s).size : Nat) : Int) = .int .i64 ((s.length : Nat) : Int) := by rw [str_len]
  obtain ⟨f, hf⟩ : ∃ f, fn % (s.length + 1) = f := ⟨_, rfl⟩
  have hfl : f < s.length + 1 := by rw [← hf]; exact Nat.mod_lt _ (by omega)
  have e38 : Value.int .i64 (IntKind.i64.wrap (fn : Int)) = .int .i64 (fn : Int) := wr64n _ rfl (by omega)
  have e41 : Value.int .i64 (IntKind.i64.wrap ((s.length : Int) + 1)) = .int .i64 ((s.length + 1 : Nat) : Int) := wr64n _ (by push_cast; rfl) (by omega)
  have e42 : Value.int .i64 (Int.tmod (fn : Int) ((s.length + 1 : Nat) : Int)) = .int .i64 (f : Int) := by rw [← hf]; rfl
  obtain ⟨La, hLa⟩ : ∃ L, idxN (endsL s a (startL f (s.length + 1))) (s.length + 1) = L := ⟨_, rfl⟩
  obtain ⟨Lc, hLc⟩ : ∃ L, idxN (endsL s (.then_ a b) (startL f (s.length + 1))) (s.length + 1) = L := ⟨_, rfl⟩
  have hLa2 : idxT (endsL s a (startL f (s.length + 1))) (s.length + 1) = La.map fun k : Nat => (k : Int) := by rw [← hLa, idxT_idxN]
  have hLc2 : idxT (endsL s (.then_ a b) (startL f (s.length + 1))) (s.length + 1) = Lc.map fun k : Nat => (k : Int) := by rw [← hLc, idxT_idxN]
  have hLam : ∀ k ∈ La, k ≤ s.length := fun k hk => by rw [← hLa] at hk; have := (idxN_mem.1 hk).1; omega
  have hLcm : ∀ k ∈ Lc, k ≤ s.length := fun k hk => by rw [← hLc] at hk; have := (idxN_mem.1 hk).1; omega
  have hLal : La.length ≤ s.length + 1 := by have := idxT_le (endsL s a (startL f (s.length + 1))) (s.length + 1); rw [hLa2, List.length_map] at this; exact this
  have hLcn : Lc.Nodup := by rw [← hLc]; exact idxN_nodup _ _
  have hpar : ∀ x, x ∈ Lc ↔ ∃ k, k ∈ La ∧ x ∈ idxN (endsL s b (startL k (s.length + 1))) (s.length + 1) := fun x => by
    rw [← hLc, ← hLa, ← parts_iff (by omega)]
    constructor
    · intro h; exact (idxN_mem.1 h).2
    · intro h
      have := (parts_iff (x := x) (by omega)).1 h
      obtain ⟨k, _, h2⟩ := this
      exact idxN_mem.2 ⟨(idxN_mem.1 h2).1, h⟩
  have hzm : ∀ L : List Nat, (intV (L.map fun k : Nat => (k : Int))).length = L.length := fun L => by simp [intV]
  have hzl : ∀ L : List Nat, (L.map fun k : Nat => (k : Int)).length = L.length := fun L => by simp
  refine TCall_intro (args := [_, _, _, _]) Try.func3 rfl Try.ntmps3 (Nat.le_of_ble_eq_true rfl) ?_
  refine T_seq ?_
  refine T_region ?_
  refine TL_p (PV_assign rfl) ?_
  refine TL_nil ?_
  refine T_seq ?_
  refine T_seq ?_
  refine T_region ?_
  refine TL_cons rfl (TO_call0 call18 rfl rfl (awake08s) ?_)
  rintro v23_3 H23_3 ⟨rfl, rfl⟩
  refine TL_p (PV_not rfl) ?_
  refine TL_nil ?_
  refine T_else rfl (by rfl) ?_
  refine T_skip ?_
  refine T_seq ?_
  refine T_region ?_
  refine TL_p (PV_move rfl) ?_
  refine TL_cons rfl (TO_mk (d := 2) (by omega) hS0 hm0 hc0 hl0 hu0 rfl rfl fun v27 N27 hv27 => ?_)
  refine TL_p (PV_move rfl) ?_
  refine TL_p (PV_extract rfl rfl) ?_
  refine TL_p (PV_extract rfl rfl) ?_
  refine TL_cons rfl (TO_alloc rfl zr30 fun g5 => ?_)
  refine TL_p (PV_assign rfl) ?_
  refine TL_cons rfl (TO_store 0 rfl rfl rfl sz30 rfl rfl rfl (all_one rfl) (by first | exact Nat.le_of_ble_eq_true rfl | (simp; done) | (simp; omega) | omega) ?_)
  refine TL_nil ?_
  refine T_seq ?_
  refine T_region ?_
  refine TL_p (PV_move rfl) ?_
  refine TL_cons rfl (TO_mk (d := 2) (by omega) (hS1.mono fun w h => h.sub ((hHN N27).trans (by repeat (first | exact Sb.r | exact Sb.ar | exact Sb.al | apply Sb.d | refine Sb.t ?_)))) hm1 hc1 hl1 hu1 rfl rfl fun v32 N32 hv32 => ?_)
  refine TL_p (PV_move rfl) ?_
  refine TL_p (PV_extract rfl rfl) ?_
  refine TL_p (PV_extract rfl rfl) ?_
  refine TL_cons rfl (TO_alloc rfl zr30 fun g8 => ?_)
  refine TL_p (PV_assign rfl) ?_
  refine TL_cons rfl (TO_store 0 rfl rfl rfl sz30 rfl rfl rfl (all_one rfl) (by first | exact Nat.le_of_ble_eq_true rfl | (simp; done) | (simp; omega) | omega) ?_)
  refine TL_nil ?_
  refine T_seq ?_
  refine T_region ?_
  refine TL_p (PV_move rfl) ?_
  refine TL_cons rfl (TO_eqD call20 (Text_v' hs (hS2.mono fun w h => h.sub ((hHX N27 N32).trans (by repeat (first | exact Sb.r | exact Sb.ar | exact Sb.al | apply Sb.d | refine Sb.t ?_)))) hm2 hl2 hc2 hu2) rfl rfl _ (List.Sublist.refl _) ?_)
  refine TL_p (PV_assign rfl) ?_
  refine TL_nil ?_
  refine T_seq ?_
  refine T_region ?_
  refine TL_p (PV_move rfl) ?_
  refine TL_p (PV.cast (PV_conv (by rw [Try.underlying5]; rfl) Try.underlying3 rfl) e38) ?_
  refine TL_p (PV_move rfl) ?_
  refine TL_p (PV.cast (PV_len_string Try.underlying9 rfl) el) ?_
  refine TL_p (PV.cast (PV_bin rfl rfl bin_add) e41) ?_
  refine TL_p (PV.cast (PV_bin rfl rfl (bin_rem (by omega))) e42) ?_
  refine TL_p (PV_assign rfl) ?_
  refine TL_nil ?_
  refine T_seq ?_
  refine T_region ?_
  refine TL_cons rfl (TO_makeI rfl fun g43 => ?_)
  refine TL_p (PV_assign rfl) ?_
  refine TL_nil ?_
  refine T_seq ?_
  refine T_seq ?_
  refine T_region ?_
  refine TL_p (PV_loadAt Try.underlying30 rfl sz30 rfl (Rds.take 2 rfl rfl rfl)) ?_
  refine TL_p (PV_move rfl) ?_
  refine TL_p (PV_move rfl) ?_
  refine TL_cons rfl (TO_Ends ((hva hv27).mono fun w h => h.sub (by repeat (first | exact Sb.r | exact Sb.ar | exact Sb.al | apply Sb.d | refine Sb.t ?_))) hus (by omega) (by omega) hLa2 rfl rfl fun A47 c47 hc47 => ?_)
  refine TL_p (PV_len_slice Try.underlying35 rfl) ?_
  refine TL_p (PV_move rfl) ?_
  refine TL_nil ?_
  refine T_block ?_
  refine ?L1
  case L1 =>
    have hr8 : ∀ {v : Nv}, v.cells.length = 6 := fun {v} => rfl
    rw [hzl La]
    refine T_loopP3 (fun (i nn : Nat) (m : Nat → Bool) => i ≤ La.length ∧ nn ≤ i * 100 ∧ ∀ x, kI.ok x → (m x = true ↔ ∃ j, j < i ∧ x ∈ idxN (endsL s b (startL (La.getD j 0) (s.length + 1))) (s.length + 1))) (fun i _ _ => La.length - i) (fun i nn m => [(10, .pointer (some ⟨g5, 0, none⟩)), (12, .pointer (some ⟨g8, 0, none⟩)), (13, .string (strOfNums s)), (14, .int .i64 (f : Int)), (15, .map (some g43)), (47, .slice A47 La.length c47), (48, .int .i64 (La.length : Int)), (49, .int .i64 (i : Int))]) (fun i nn m => .sl (.slice A47 La.length c47) 1 La.length (intV (La.map fun k : Nat => (k : Int))) :: .ob g43 (SetI nn m) :: .own g8 6 v32.cells :: .own g5 6 v27.cells :: ((H ++ N27) ++ N32)) 0 0 (fun _ => false) ⟨Nat.zero_le _, Nat.le_refl _, fun x _ => ⟨fun h => by simp at h, fun ⟨j, h, _⟩ => absurd h (Nat.not_lt_zero j)⟩⟩ (by repeat (first | exact FrSub.nil _ | refine FrSub.cons rfl ?_)) (Has.of_sub (by repeat (first | exact Sb.r | exact Sb.ar | exact Sb.al | apply Sb.c | apply Sb.d | refine Sb.t ?_))) ?_
    rintro i nn m ⟨hi, hnn, hm⟩
    by_cases hil : i < La.length
    · have e65 : Value.int .i64 (IntKind.i64.wrap ((i : Int) + 1)) = .int .i64 ((i + 1 : Nat) : Int) := wr64n _ (by push_cast; rfl) (by omega)
      obtain ⟨k, hk⟩ : ∃ k, La.getD i 0 = k := ⟨_, rfl⟩
      have hkl : k ≤ s.length := hLam k (hk ▸ getD_mem hil)
      obtain ⟨Lb, hLb⟩ : ∃ L, idxN (endsL s b (startL k (s.length + 1))) (s.length + 1) = L := ⟨_, rfl⟩
      have hLb2 : idxT (endsL s b (startL k (s.length + 1))) (s.length + 1) = Lb.map fun k : Nat => (k : Int) := by rw [← hLb, idxT_idxN]
      have hLbm : ∀ k ∈ Lb, k ≤ s.length := fun k hk => by rw [← hLb] at hk; have := (idxN_mem.1 hk).1; omega
      have hLbl : Lb.length ≤ s.length + 1 := by have := idxT_le (endsL s b (startL k (s.length + 1))) (s.length + 1); rw [hLb2, List.length_map] at this; exact this
      refine T_shows (Shows.at 0 rfl) (by rw [hzm]; omega) fun ga oa hA hra => ?_
      subst hA
      have hra2 : Rd _ ⟨ga, oa + i * 1, none⟩ (.int .i64 (k : Int)) := hra (i * 1) _ (by rw [← hk]; exact natV_at hil)
      refine T_seq ?_
      refine T_region ?_
      refine TL_p (PV_bin rfl rfl bin_lss) ?_
      refine TL_nil ?_
      refine T_seq ?_
      refine T_then rfl (by exact decide_eq_true (by omega)) ?_
      refine T_skip ?_
      refine T_seq ?_
      refine T_block ?_
      refine T_seq ?_
      refine T_region ?_
      refine TL_p (PV_indexAddr Try.underlying35 sz3 rfl rfl rfl (by first | omega | decide | assumption)) ?_
      refine TL_p (PV_load Try.underlying3 rfl rfl hra2) ?_
      refine TL_p (PV_assign rfl) ?_
      refine TL_nil ?_
      refine T_seq ?_
      refine T_region ?_
      refine TL_p (PV_loadAt Try.underlying30 rfl sz30 rfl (Rds.take 2 rfl rfl rfl)) ?_
      refine TL_p (PV_move rfl) ?_
      refine TL_p (PV_move rfl) ?_
      refine TL_cons rfl (TO_Ends ((hvb hv32).mono fun w h => h.sub (by repeat (first | exact Sb.r | exact Sb.ar | exact Sb.al | apply Sb.d | refine Sb.t ?_))) hus (by omega) hkl hLb2 rfl rfl fun A56 c56 hc56 => ?_)
      refine TL_p (PV_len_slice Try.underlying35 rfl) ?_
      refine TL_p (PV_move rfl) ?_
      refine TL_nil ?_
      refine T_block ?_
      refine ?L11
      case L11 =>
        rw [hzl Lb]
        refine T_loopP3 (fun (j n2 : Nat) (m2 : Nat → Bool) => j ≤ Lb.length ∧ n2 ≤ nn + j ∧ ∀ x, kI.ok x → (m2 x = true ↔ m x = true ∨ ∃ j', j' < j ∧ Lb.getD j' 0 = x)) (fun j _ _ => Lb.length - j) (fun j n2 m2 => [(10, .pointer (some ⟨g5, 0, none⟩)), (12, .pointer (some ⟨g8, 0, none⟩)), (13, .string (strOfNums s)), (14, .int .i64 (f : Int)), (15, .map (some g43)), (47, .slice (some ⟨ga, oa, none⟩) La.length c47), (48, .int .i64 (La.length : Int)), (49, .int .i64 (i : Int)), (56, .slice A56 Lb.length c56), (57, .int .i64 (Lb.length : Int)), (58, .int .i64 (j : Int))]) (fun j n2 m2 => .sl (.slice A56 Lb.length c56) 1 Lb.length (intV (Lb.map fun k : Nat => (k : Int))) :: .sl (.slice (some ⟨ga, oa, none⟩) La.length c47) 1 La.length (intV (La.map fun k : Nat => (k : Int))) :: .ob g43 (SetI n2 m2) :: .own g8 6 v32.cells :: .own g5 6 v27.cells :: ((H ++ N27) ++ N32)) 0 nn m ⟨Nat.zero_le _, Nat.le_refl _, fun x _ => ⟨.inl, fun h => h.elim id fun ⟨j, h, _⟩ => absurd h (Nat.not_lt_zero j)⟩⟩ (by repeat (first | exact FrSub.nil _ | refine FrSub.cons rfl ?_)) (Has.of_sub (by repeat (first | exact Sb.r | exact Sb.ar | exact Sb.al | apply Sb.c | apply Sb.d | refine Sb.t ?_))) ?_
        rintro j n2 m2 ⟨hj, hn2, hm2⟩
        by_cases hjl : j < Lb.length
        · have e64 : Value.int .i64 (IntKind.i64.wrap ((j : Int) + 1)) = .int .i64 ((j + 1 : Nat) : Int) := wr64n _ (by push_cast; rfl) (by omega)
          have hxl : Lb.getD j 0 ≤ s.length := hLbm _ (getD_mem hjl)
          refine T_shows (Shows.at 0 rfl) (by rw [hzm]; omega) fun gb ob hB hrb => ?_
          subst hB
          have hrb2 : Rd _ ⟨gb, ob + j * 1, none⟩ (.int .i64 ((Lb.getD j 0 : Nat) : Int)) := hrb (j * 1) _ (natV_at hjl)
          refine T_seq ?_
          refine T_region ?_
          refine TL_p (PV_bin rfl rfl bin_lss) ?_
          refine TL_nil ?_
          refine T_seq ?_
          refine T_then rfl (by exact decide_eq_true (by omega)) ?_
          refine T_skip ?_
          refine T_seq ?_
          refine T_block ?_
          refine T_seq ?_
          refine T_region ?_
          refine TL_p (PV_indexAddr Try.underlying35 sz3 rfl rfl rfl (by first | omega | decide | assumption)) ?_
          refine TL_p (PV_load Try.underlying3 rfl rfl hrb2) ?_
          refine TL_p (PV_assign rfl) ?_
          refine TL_nil ?_
          refine T_region ?_
          refine TL_p (PV_move rfl) ?_
          refine TL_p (PV_move rfl) ?_
          refine TL_cons rfl (TO_upI 2 rfl Try.underlying34 (by omega) (okI (by omega)) rfl rfl rfl rfl ?_)
          refine TL_nil ?_
          refine T_region ?_
          refine TL_p (PV.cast (PV_bin rfl rfl bin_add) e64) ?_
          refine TL_p (PV_move rfl) ?_
          refine TL_nil ?_
          refine ?L21
          case L21 =>
            refine ⟨j + 1, n2 + 1, insB m2 (Lb.getD j 0), ⟨by omega, by omega, fun x hx => ?_⟩, by omega, (by repeat (first | exact FrSub.nil _ | refine FrSub.cons rfl ?_)), Has.of_sub (by repeat (first | exact Sb.r | exact Sb.ar | exact Sb.al | apply Sb.c | apply Sb.d | refine Sb.t ?_))⟩
            unfold insB
            rw [Bool.or_eq_true, hm2 x hx, beq_iff_eq, or_assoc]
            constructor
            · rintro (h | ⟨j', h1, h2⟩ | h)
              · exact .inl h
              · exact .inr ⟨j', by omega, h2⟩
              · exact .inr ⟨j, by omega, h.symm⟩
            · rintro (h | ⟨j', h1, h2⟩)
              · exact .inl h
              · rcases Nat.lt_or_ge j' j with h3 | h3
                · exact .inr (.inl ⟨j', h3, h2⟩)
                · obtain rfl : j' = j := by omega
                  exact .inr (.inr h2.symm)
        · obtain rfl : j = Lb.length := by omega
          refine T_seq ?_
          refine T_region ?_
          refine TL_p (PV_bin rfl rfl bin_lss) ?_
          refine TL_nil ?_
          refine T_seq ?_
          refine T_else rfl (by (simp; done)) ?_
          refine T_exit ?_
          refine T_region ?_
          refine TL_p (PV.cast (PV_bin rfl rfl bin_add) e65) ?_
          refine TL_p (PV_move rfl) ?_
          refine TL_nil ?_
          refine ?L31
          case L31 =>
            refine ⟨i + 1, n2, m2, ⟨by omega, by omega, fun x hx => ?_⟩, by omega, (by repeat (first | exact FrSub.nil _ | refine FrSub.cons rfl ?_)), Has.of_sub (by repeat (first | exact Sb.r | exact Sb.ar | exact Sb.al | apply Sb.c | apply Sb.d | refine Sb.t ?_))⟩
            rw [hm2 x hx, hm x hx]
            constructor
            · rintro (⟨j', h1, h2⟩ | ⟨j', h1, h2⟩)
              · exact ⟨j', by omega, h2⟩
              · exact ⟨i, by omega, by rw [hk, hLb, ← h2]; exact getD_mem h1⟩
            · rintro ⟨j', h1, h2⟩
              rcases Nat.lt_or_ge j' i with h3 | h3
              · exact .inl ⟨j', h3, h2⟩
              · obtain rfl : j' = i := by omega
                rw [hk, hLb] at h2
                obtain ⟨q, h4, h5⟩ := mem_getD h2
                exact .inr ⟨q, h4, h5⟩
    · obtain rfl : i = La.length := by omega
      have hmc : ∀ x, kI.ok x → (m x = true ↔ x ∈ Lc) := fun x hx => by
        rw [hm x hx, hpar]
        constructor
        · rintro ⟨j, h1, h2⟩; exact ⟨_, getD_mem h1, h2⟩
        · rintro ⟨k, h1, h2⟩
          obtain ⟨j, h3, rfl⟩ := mem_getD h1
          exact ⟨j, h3, h2⟩
      have hLcl : Lc.length ≤ s.length + 1 := by have := idxT_le (endsL s (.then_ a b) (startL f (s.length + 1))) (s.length + 1); rw [hLc2, List.length_map] at this; exact this
      refine T_seq ?_
      refine T_region ?_
      refine TL_p (PV_bin rfl rfl bin_lss) ?_
      refine TL_nil ?_
      refine T_seq ?_
      refine T_else rfl (by (simp; done)) ?_
      refine T_exit ?_
      refine T_seq ?_
      refine T_region ?_
      refine TL_p (PV_loadAt Try.underlying30 rfl sz30 rfl (Rds.take 3 rfl rfl rfl)) ?_
      refine TL_p (PV_loadAt Try.underlying30 rfl sz30 rfl (Rds.take 2 rfl rfl rfl)) ?_
      refine TL_cons rfl (TO_bs (cs := [_, _, _, _, _, _, _, _, _, _, _, _]) Try.underlying28 zs30 (by decide) rfl rfl rfl rfl rfl rfl fun g4001 => ?_)
      refine TL_p (PV_bld (cs := [_, _, _, _, _, _]) Try.underlying30 pl30 zr30 rfl rfl) ?_
      refine TL_p (PV_move rfl) ?_
      refine TL_p (PV_move rfl) ?_
      refine TL_cons rfl (TO_Ends (t := .then_ a b) (v := ⟨2, S4.zero, some ⟨_, 0, none⟩, 2, 2⟩) ⟨_, _, v27, v32, rfl, Nat.le_refl _, Shows.cast rfl (Shows.at 0 rfl), (hva hv27).mono fun w h => h.sub (by repeat (first | exact Sb.r | exact Sb.ar | exact Sb.al | apply Sb.d | refine Sb.t ?_)), (hvb hv32).mono fun w h => h.sub (by repeat (first | exact Sb.r | exact Sb.ar | exact Sb.al | apply Sb.d | refine Sb.t ?_))⟩ hus (by omega) (by omega) hLc2 rfl rfl fun A72 c72 hc72 => ?_)
      refine TL_p (PV_assign rfl) ?_
      refine TL_nil ?_
      refine T_seq ?_
      refine T_seq ?_
      refine T_region ?_
      refine ?L41
      case L41 =>
        rw [hzl Lc]
        have epo : Value.bool (decide ((Lc.length : Int) ≠ (Lc.length : Int))) = .bool false := by simp
        refine TL_p (PV_move rfl) ?_
        refine TL_p (PV_len_slice Try.underlying35 rfl) ?_
        refine TL_p (PV_move rfl) ?_
        refine TL_p (PV_lenOb 3 rfl Try.underlying34 (F := kI) hLcn (fun k hk => okI (by have := hLcm k hk; omega)) hmc rfl) ?_
        refine TL_p (PV_bin rfl rfl bin_neq) ?_
        refine TL_nil ?_
        refine T_else rfl (by (simp; done)) ?_
        refine T_skip ?_
        refine T_seq ?_
        refine T_seq ?_
        refine T_region ?_
        refine TL_p (PV_move rfl) ?_
        refine TL_p (PV_len_slice Try.underlying35 rfl) ?_
        refine TL_p (PV_move rfl) ?_
        refine TL_nil ?_
        refine T_block ?_
        refine ?L51
        case L51 =>
          refine T_loopP1 (fun (j : Nat) => j ≤ Lc.length) (fun j => Lc.length - j) (fun j => [(15, .map (some g43)), (78, .slice A72 Lc.length c72), (79, .int .i64 (Lc.length : Int)), (80, .int .i64 (j : Int))]) (fun j => .sl (.slice A72 Lc.length c72) 1 Lc.length (intV (Lc.map fun k : Nat => (k : Int))) :: .ob g43 (SetI nn m) :: H) 0 (Nat.zero_le _) (by repeat (first | exact FrSub.nil _ | refine FrSub.cons rfl ?_)) (Has.of_sub (by repeat (first | exact Sb.r | exact Sb.ar | exact Sb.al | apply Sb.c | apply Sb.d | refine Sb.t ?_))) ?_
          intro j hj
          by_cases hjl : j < Lc.length
          · have e88 : Value.int .i64 (IntKind.i64.wrap ((j : Int) + 1)) = .int .i64 ((j + 1 : Nat) : Int) := wr64n _ (by push_cast; rfl) (by omega)
            have hxl : Lc.getD j 0 ≤ s.length := hLcm _ (getD_mem hjl)
            have hmt : m (Lc.getD j 0) = true := (hmc _ (okI (by omega))).2 (getD_mem hjl)
            refine T_shows (Shows.at 0 rfl) (by rw [hzm]; omega) fun gb ob hB hrb => ?_
            subst hB
            have hrb2 : Rd _ ⟨gb, ob + j * 1, none⟩ (.int .i64 ((Lc.getD j 0 : Nat) : Int)) := hrb (j * 1) _ (natV_at hjl)
            refine T_seq ?_
            refine T_region ?_
            refine TL_p (PV_bin rfl rfl bin_lss) ?_
            refine TL_nil ?_
            refine T_seq ?_
            refine T_then rfl (by exact decide_eq_true (by omega)) ?_
            refine T_skip ?_
            refine T_seq ?_
            refine T_block ?_
            refine T_seq ?_
            refine T_region ?_
            refine TL_p (PV_indexAddr Try.underlying35 sz3 rfl rfl rfl (by first | omega | decide | assumption)) ?_
            refine TL_p (PV_load Try.underlying3 rfl rfl hrb2) ?_
            refine TL_p (PV_assign rfl) ?_
            refine TL_nil ?_
            refine T_seq ?_
            refine T_region ?_
            refine TL_p (PV_move rfl) ?_
            refine TL_p (PV_move rfl) ?_
            refine TL_p (PV.cast (PV_lookIO 1 rfl Try.underlying34 (okI (by omega)) rfl rfl) (by rw [hmt])) ?_
            refine TL_p (PV_not rfl) ?_
            refine TL_nil ?_
            refine T_else rfl (by rfl) ?_
            refine T_skip ?_
            refine T_region ?_
            refine TL_p (PV.cast (PV_bin rfl rfl bin_add) e88) ?_
            refine TL_p (PV_move rfl) ?_
            refine TL_nil ?_
            refine ?L61
            case L61 => exact ⟨j + 1, by omega, by omega, (by repeat (first | exact FrSub.nil _ | refine FrSub.cons rfl ?_)), Has.of_sub (by repeat (first | exact Sb.r | exact Sb.ar | exact Sb.al | apply Sb.c | apply Sb.d | refine Sb.t ?_))⟩
          · obtain rfl : j = Lc.length := by omega
            refine T_seq ?_
            refine T_region ?_
            refine TL_p (PV_bin rfl rfl bin_lss) ?_
            refine TL_nil ?_
            refine T_seq ?_
            refine T_else rfl (by (simp; done)) ?_
            refine T_exit ?_
            refine T_seq ?_
            refine T_region ?_
            refine TL_p (PV_assign rfl) ?_
            refine TL_nil ?_
            refine T_ret ?_
            refine ret_ret (ResV_one rfl rfl) ⟨_, ?zb7001q208, ⟨rfl, rfl⟩⟩
            case zb7001q208 => exact (by (repeat (first | exact Sb.r | exact Sb.ar | exact Sb.al | apply Sb.c | apply Sb.d | refine Sb.t ?_)); done)
end
end Go.Proofs.Ytkgdphbccagjcaa.SL
