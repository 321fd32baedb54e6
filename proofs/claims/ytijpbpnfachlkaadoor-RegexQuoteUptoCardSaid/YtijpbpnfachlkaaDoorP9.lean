import Derived.Test.YtijpbpnfachlkaaDoorP8
/- Where patterns end. No statement is proved here. -/
set_option linter.unusedVariables false
set_option linter.unusedSimpArgs false
set_option maxRecDepth 100000
set_option maxHeartbeats 8000000
namespace Go.Proofs.YtijpbpnfachlkaaDoor.SL
open Go Go.RowKit
section
variable {w0 : World} {B : Nat} {H X : List Chunk}
def bools (l : List Bool) : List Value := l.map Value.bool
theorem bools_len (l : List Bool) : (bools l).length = l.length := by simp [bools]
theorem bools_at {l : List Bool} {i : Nat} (hi : i < l.length) : (bools l)[i]? = some (.bool (l.getD i false)) := by
  simp [bools, List.getElem?_eq_getElem hi, List.getD_eq_getElem?_getD]
theorem bools_set (l : List Bool) (i : Nat) (b : Bool) : (bools l).set i (.bool b) = bools (l.set i b) := by simp [bools]
/-- the places behind one byte of a set -/
def oneAt (st : S4) (s : List Int) (from_ : List Bool) (j : Nat) : Bool := match j with
  | 0 => false
  | k + 1 => from_.getD k false && st.has (rd s k).toNat
def oneL (st : S4) (s : List Int) (from_ : List Bool) (i : Nat) : List Bool := (List.range (s.length + 1)).map fun j => if j ≤ i then oneAt st s from_ j else false
def orL (a b : List Bool) (i n : Nat) : List Bool := (List.range n).map fun j => if j < i then a.getD j false || b.getD j false else false
/-- one round of "any number": place by place, with a mark that something came -/
def joinP (r o : List Bool) : Nat → List Bool × Bool
  | 0 => (o, false)
  | i + 1 => if r.getD i false = true ∧ (joinP r o i).1.getD i false = false then ((joinP r o i).1.set i true, true) else joinP r o i
def manyL (f : List Bool → List Bool) : Nat → List Bool → List Bool
  | 0, o => o
  | n + 1, o => if (joinP (f o) o o.length).2 = true then manyL f n (joinP (f o) o o.length).1 else (joinP (f o) o o.length).1
def cntF : List Bool → Nat
  | [] => 0
  | b :: l => (if b then 0 else 1) + cntF l
theorem cntF_set : ∀ {l : List Bool} {i : Nat}, i < l.length → l.getD i false = false → cntF (l.set i true) + 1 = cntF l
  | [], i, h, _ => absurd h (by simp)
  | b :: l, 0, h, e => by
    simp at e
    subst e
    simp [cntF]
    omega
  | b :: l, i + 1, h, e => by
    have := cntF_set (l := l) (i := i) (by simpa using h) (by simpa using e)
    simp [cntF]
    omega
theorem cntF_le : ∀ (l : List Bool), cntF l ≤ l.length
  | [] => by simp [cntF]
  | b :: l => by
    have := cntF_le l
    simp only [cntF, List.length_cons]
    split <;> omega
theorem joinP_len (r o : List Bool) : ∀ (i : Nat), (joinP r o i).1.length = o.length
  | 0 => rfl
  | i + 1 => by
    have := joinP_len r o i
    unfold joinP
    split
    · simp [this]
    · exact this
theorem joinP_cnt (r o : List Bool) : ∀ (i : Nat), i ≤ o.length → cntF (joinP r o i).1 ≤ cntF o ∧ ((joinP r o i).2 = true → cntF (joinP r o i).1 < cntF o)
  | 0, _ => ⟨Nat.le_refl _, fun h => by simp [joinP] at h⟩
  | i + 1, hi => by
    have ih := joinP_cnt r o i (by omega)
    have hl := joinP_len r o i
    unfold joinP
    split
    · rename_i h
      have := cntF_set (l := (joinP r o i).1) (i := i) (by omega) h.2
      exact ⟨by show cntF ((joinP r o i).1.set i true) ≤ _; omega, fun _ => by show cntF ((joinP r o i).1.set i true) < _; omega⟩
    · exact ih
theorem joinP_y {r o : List Bool} {i : Nat} (h1 : r.getD i false = true) (h2 : (joinP r o i).1.getD i false = false) : joinP r o (i + 1) = ((joinP r o i).1.set i true, true) := by
  show (if _ then _ else _) = _
  rw [if_pos ⟨h1, h2⟩]
theorem joinP_n {r o : List Bool} {i : Nat} (h : r.getD i false = true → (joinP r o i).1.getD i false = false → False) : joinP r o (i + 1) = joinP r o i := by
  show (if _ then _ else _) = _
  rw [if_neg fun ⟨h1, h2⟩ => h h1 h2]
def endsL (s : List Int) : Rx → List Bool → List Bool
  | .nothing, from_ => from_
  | .one st, from_ => oneL st s from_ s.length
  | .then_ a b, from_ => endsL s b (endsL s a from_)
  | .either a b, from_ => orL (endsL s a from_) (endsL s b from_) (s.length + 1) (s.length + 1)
  | .star a, from_ => manyL (endsL s a) (s.length + 2) from_
theorem manyL_len {f : List Bool → List Bool} : ∀ (n : Nat) (o : List Bool), (manyL f n o).length = o.length
  | 0, o => rfl
  | n + 1, o => by
    unfold manyL
    split
    · rw [manyL_len n, joinP_len]
    · rw [joinP_len]
theorem endsL_len {s : List Int} : ∀ {t : Rx} {from_ : List Bool}, from_.length = s.length + 1 → (endsL s t from_).length = s.length + 1
  | .nothing, from_, h => h
  | .one st, from_, h => by simp [endsL, oneL]
  | .then_ a b, from_, h => by
    show (endsL s b (endsL s a from_)).length = _
    exact endsL_len (endsL_len h)
  | .either a b, from_, h => by simp [endsL, orL]
  | .star a, from_, h => by
    show (manyL (endsL s a) (s.length + 2) from_).length = _
    rw [manyL_len]; exact h
/-- what ends is to do, for a pattern -/
def EndsC (w0 : World) (B : Nat) (s : List Int) (t : Rx) (v : Nv) (H : List Chunk) : Prop :=
  ∀ (A : Option Addr) (c : Nat) (from_ : List Bool) (H' : List Chunk), H.Sublist H' → Shows (WH w0 B H') A (s.length + 1) 1 (bools from_) → from_.length = s.length + 1 → s.length + 1 ≤ c →
    TCall Tryd.prog w0 B 41 #[v.val, .string (strOfNums s), .slice A (s.length + 1) c] (fun r H2 => ∃ (A' : Option Addr) (c' : Nat), r = .slice A' (s.length + 1) c' ∧ s.length + 1 ≤ c' ∧ H2 = .sl (.slice A' (s.length + 1) c') 1 (s.length + 1) (bools (endsL s t from_)) :: H') H'
theorem bools_one {l : List Bool} : ∀ u ∈ bools l, u.oneCell' = true := by
  intro u hu
  simp only [bools, List.mem_map] at hu
  obtain ⟨b, _, rfl⟩ := hu
  rfl
theorem bools_at1 {l : List Bool} {i : Nat} (hi : i < l.length) : (bools l)[0 + i * 1]? = some (.bool (l.getD i false)) := by
  rw [show 0 + i * 1 = i by omega]
  exact bools_at hi
theorem TCall_shows {P : Program} {f : FuncId} {args : Array Value} {R : Value → List Chunk → Prop} {A : Option Addr} {m es : Nat} {ys : List Value} (hS : Shows (WH w0 B H) A m es ys) (hne : 0 < ys.length) (h : ∀ g off, A = some ⟨g, off, none⟩ → (∀ j v, ys[j]? = some v → Rd (WH w0 B H) ⟨g, off + j, none⟩ v) → TCall P w0 B f args R H) : TCall P w0 B f args R H := by
  intro HX w hr
  have hn : ys ≠ [] := by intro e; subst e; simp at hne
  obtain ⟨p, rfl, hc⟩ := hS.run hn ⟨HX, hr⟩
  have hp : p.spot = none := by
    have h1 := hc 0 _ (List.getElem?_eq_getElem hne)
    simp only [Addr.add, if_true, World.cell?] at h1
    split at h1
    · cases hsp : p.spot with
      | none => rfl
      | some q => simp [hsp] at h1
    · cases h1
  obtain ⟨g, off, sp⟩ := p
  simp only at hp
  subst hp
  refine h g off rfl (fun j v hj w' hw' => ?_) HX w hr
  obtain ⟨p, e, hc⟩ := hS.run hn hw'
  cases e
  have := hc j v hj
  rwa [add_plain'] at this
theorem spl_all (ys : List Value) : ∀ (pre cs : List Value), ys.length = cs.length → spl (pre ++ cs) pre.length ys = pre ++ ys := by
  induction ys with
  | nil =>
    intro pre cs h
    have : cs = [] := List.eq_nil_of_length_eq_zero (by simpa using h.symm)
    subst this
    rfl
  | cons y ys ih =>
    intro pre cs h
    cases cs with
    | nil => simp at h
    | cons c cs =>
      have := ih (pre ++ [y]) cs (by simpa using h)
      simp only [spl]
      rw [show (pre ++ c :: cs).set pre.length y = (pre ++ [y]) ++ cs by simp]
      rw [show pre.length + 1 = (pre ++ [y]).length by simp, this]
      simp
/-- copy(x, y): all of a slice -/
theorem TO_copy {P : Program} {n : Nat} {fr : Fr} {dst : Option Tmp} {ty : TypeId} {pos : String} {aft : Array Edge} {gd : Option (Nat × Bool)} {K : Fr → List Chunk → Prop} {t1 t2 e : TypeId} {x y : Operand} {m c c2 g : Nat} {A : Option Addr} {cs ys : List Value} (i : Nat) (hi : H[i]? = some (.sl (.slice (some ⟨g, 0, none⟩) m c) 1 m cs)) (ht : P.underlying t1 = some (.slice e)) (hz : (P.info? e).map (·.size) = some 1) (hd : dOk n dst = true)
    (hx : ev fr x = some (.slice (some ⟨g, 0, none⟩) m c)) (hy : ev fr y = some (.slice A m c2)) (hS : Shows (WH w0 B H) A m 1 ys) (hm : 0 < m) (h1 : ∀ u ∈ ys, u.oneCell' = true)
    (h : K (frPut dst (.int .i64 (m : Int)) fr) (H.set i (.sl (.slice (some ⟨g, 0, none⟩) m c) 1 m ys))) : TO P w0 B n ⟨dst, .call { callee := .builtin .copy, args := #[x, y], argTypes := #[t1, t2] }, ty, pos, aft, gd⟩ K fr H := by
  intro HX a w Q hf hr
  have hl : i < H.length := (List.getElem?_eq_some_iff.1 hi).1
  have hp : (H ++ HX).Perm (.sl (.slice (some ⟨g, 0, none⟩) m c) 1 m cs :: (H.eraseIdx i ++ HX)) := (perm_pick hi).append_right HX
  have hr1 := hr.perm hp
  have hyl : ys.length = m := by rw [(hS w ⟨HX, hr⟩).1, Nat.mul_one]
  have hcl : cs.length = m := by rw [(hr1.ok _ List.mem_cons_self).1, Nat.mul_one]
  obtain ⟨p, rfl, hcells⟩ := hS.run (by intro e; subst e; simp at hyl; omega) ⟨HX, hr⟩
  obtain ⟨w', hrun, g1, g2, g3, g4, g5, g6⟩ := run_storeCells P g 0 ys 0 cs w ((hr1.ok _ List.mem_cons_self).own rfl) (by omega) h1
  have hsp : spl cs (0 + 0) ys = ys := by
    have := spl_all ys [] cs (by omega)
    simpa using this
  rw [hsp] at g1
  have hr2 := hr1.put (cs' := ys) rfl (by omega) g1 g2 g3 g4 g5 g6
  have hp2 : ((Chunk.sl (.slice (some ⟨g, 0, none⟩) m c) 1 m ys) :: (H.eraseIdx i ++ HX)).Perm (H.set i (.sl (.slice (some ⟨g, 0, none⟩) m c) 1 m ys) ++ HX) := (perm_set _ hl).append_right HX
  have hld := run_loadCells_list (P := P) w p ys hcells
  have hrun2 : (Builtin.copy_ #[t1, t2] ty #[.slice (some ⟨g, 0, none⟩) m c, .slice (some p) m c2]).run P w = .ok (.int .i64 (m : Int)) w' := by
    cases hq : P.info? e with
    | none => simp [hq] at hz
    | some inf =>
      have hi : inf.size = 1 := by simpa [hq] using hz
      rw [hyl] at hld
      simp [Builtin.copy_, run_underlying ht, Builtin.lenOf, Builtin.firstCells, sizeOf, typeInfo, hq, hi, Nat.min_self, hld, hrun, goInt]
  unfold Oper.wp execOp
  simp only [resolve, invoke, builtin, Sem.run_bind, Sem.run_pure, Result.andThen_ok, List.map_toArray, List.map_cons, List.map_nil, hf.ev hx, hf.ev hy, hrun2]
  simp only [Oper.upon]
  exact ⟨_, _, h, hf.put hd _, hr2.perm hp2⟩
theorem TO_ends {n : Nat} {fr : Fr} {dst : Option Tmp} {ty : TypeId} {pos : String} {aft : Array Edge} {gd : Option (Nat × Bool)} {K : Fr → List Chunk → Prop} {xs : Array Operand} {ats : Array TypeId} {s : List Int} {t : Rx} {v : Nv} {Hs : List Chunk} {A : Option Addr} {c : Nat} {from_ r : List Bool} (hr : endsL s t from_ = r) (hE : EndsC w0 B s t v Hs) (hd : dOk n dst = true) (hx : evs fr xs.toList = some [v.val, .string (strOfNums s), .slice A (s.length + 1) c]) (hsub : Hs.Sublist H) (hS : Shows (WH w0 B H) A (s.length + 1) 1 (bools from_)) (hl : from_.length = s.length + 1) (hc : s.length + 1 ≤ c)
    (h : ∀ A' c', s.length + 1 ≤ c' → K (frPut dst (.slice A' (s.length + 1) c') fr) (.sl (.slice A' (s.length + 1) c') 1 (s.length + 1) (bools r) :: H)) : TO Tryd.prog w0 B n ⟨dst, .call { callee := .value (.func 41), args := xs, argTypes := ats }, ty, pos, aft, gd⟩ K fr H := by
  subst hr
  refine TO_call (HR := []) call41 hd hx (by rw [List.append_nil]) (hE A c from_ H hsub hS hl hc) ?_
  rintro v' H' ⟨A', c', rfl, hc', rfl⟩
  rw [List.append_nil]
  exact h A' c' hc'
theorem oneL_zero (st : S4) (s : List Int) (from_ : List Bool) : bools (oneL st s from_ 0) = List.replicate (s.length + 1) (.bool false) := by
  unfold bools oneL
  apply List.ext_getElem
  · simp
  · intro j h1 h2
    simp only [List.getElem_map, List.getElem_range, List.getElem_replicate]
    split
    · rename_i h
      have : j = 0 := by omega
      subst this
      rfl
    · rfl
theorem oneL_step (st : S4) (s : List Int) (from_ : List Bool) (i : Nat) (hi : i < s.length) : (oneL st s from_ i).set (i + 1) (from_.getD i false && st.has (rd s i).toNat) = oneL st s from_ (i + 1) := by
  apply List.ext_getElem
  · simp [oneL]
  · intro j h1 h2
    simp only [oneL, List.length_map, List.length_range, List.length_set] at h1 h2
    rw [List.getElem_set]
    simp only [oneL, List.getElem_map, List.getElem_range]
    by_cases hj : i + 1 = j
    · subst hj
      simp [oneAt]
    · rw [if_neg hj]
      by_cases hl : j ≤ i
      · rw [if_pos hl, if_pos (by omega)]
      · rw [if_neg hl, if_neg (by omega)]
theorem ends_nothing {s : List Int} (hs : s.length ≤ 1000) {v : Nv} (hv : Tr (WH w0 B H) .nothing v) : EndsC w0 B s .nothing v H := by
  intro A c from_ H' hsub hS hl hc
  have e13 : Value.int .i64 (((strOfNums s).size : Nat) : Int) = .int .i64 ((s.length : Nat) : Int) := by rw [str_len]
  have e14 : Value.int .i64 (IntKind.i64.wrap (((s.length : Nat) : Int) + 1)) = .int .i64 ((s.length + 1 : Nat) : Int) := wr64n _ (by push_cast; rfl) (by omega)
  have hv2 : v = nv0 := hv
  subst hv2
  refine TCall_intro (args := [_, _, _]) Tryd.func41 rfl Tryd.ntmps41 (Nat.le_of_ble_eq_true rfl) ?_
  refine T_seq ?_
  refine T_region ?_
  refine TL_cons rfl (TO_box rfl rfl fun g1 => ?_)
  refine TL_p (PV_assign rfl) ?_
  refine TL_nil ?_
  refine T_seq ?_
  refine T_region ?_
  refine TL_p (PV_move rfl) ?_
  refine TL_p (PV.cast (PV_len_string Tryd.underlying9 rfl) e13) ?_
  refine TL_p (PV.cast (PV_bin rfl rfl bin_add) e14) ?_
  refine TL_cons rfl (TO_make Tryd.underlying99 zb4 rfl (by omega) (by omega) rfl ⟨_, rfl⟩ ⟨_, rfl⟩ fun g2 => ?_)
  refine TL_p (PV_assign rfl) ?_
  refine TL_nil ?_
  refine T_seq ?_
  refine T_seq ?_
  refine T_region ?_
  refine TL_p (PV_fieldAddr (D := 0) Tryd.underlying30 rfl sz24 (by decide) rfl rfl) ?_
  refine TL_p (PV_load Tryd.underlying24 rfl rfl (Rd.at 1 rfl rfl)) ?_
  refine TL_nil ?_
  refine T_block ?_
  refine T_seq ?_
  refine T_region ?_
  refine TL_p (PV_bin rfl rfl bin_eql) ?_
  refine TL_p (PV_assign rfl) ?_
  refine TL_nil ?_
  refine T_else rfl (by rfl) ?_
  refine T_seq ?_
  refine T_region ?_
  refine TL_p (PV_bin rfl rfl bin_eql) ?_
  refine TL_p (PV_assign rfl) ?_
  refine TL_nil ?_
  refine T_else rfl (by rfl) ?_
  refine T_seq ?_
  refine T_region ?_
  refine TL_p (PV_bin rfl rfl bin_eql) ?_
  refine TL_p (PV_assign rfl) ?_
  refine TL_nil ?_
  refine T_else rfl (by rfl) ?_
  refine T_seq ?_
  refine T_region ?_
  refine TL_p (PV_bin rfl rfl bin_eql) ?_
  refine TL_p (PV_assign rfl) ?_
  refine TL_nil ?_
  refine T_else rfl (by rfl) ?_
  refine T_region ?_
  refine TL_p (PV_move rfl) ?_
  refine TL_p (PV_move rfl) ?_
  refine TL_cons rfl (TO_copy 0 rfl Tryd.underlying99 (by rfl) rfl rfl rfl (hS.mono fun w h => h.sub (by repeat (first | exact Sb.r | exact Sb.ar | exact Sb.al | apply Sb.d | refine Sb.t ?_))) (by omega) bools_one ?_)
  refine TL_nil ?_
  refine T_seq ?_
  refine T_region ?_
  refine TL_p (PV_move rfl) ?_
  refine TL_p (PV_assign rfl) ?_
  refine TL_nil ?_
  refine T_ret ?_
  refine ret_ret (ResV_one rfl rfl) ⟨_, ?zb4q216, ⟨_, _, rfl, ?sd4q216_0, rfl⟩⟩
  case sd4q216_0 => omega
  case zb4q216 => exact (by (repeat (first | exact Sb.r | exact Sb.ar | exact Sb.al | apply Sb.c | apply Sb.d | refine Sb.t ?_)); done)
theorem ends_one {s : List Int} (hu : U8s s) (hs : s.length ≤ 1000) {v : Nv} {st : S4} (hv : Tr (WH w0 B H) (.one st) v) : EndsC w0 B s (.one st) v H := by
  intro A c from_ H' hsub hS hl hc
  have e13 : Value.int .i64 (((strOfNums s).size : Nat) : Int) = .int .i64 ((s.length : Nat) : Int) := by rw [str_len]
  have e14 : Value.int .i64 (IntKind.i64.wrap (((s.length : Nat) : Int) + 1)) = .int .i64 ((s.length + 1 : Nat) : Int) := wr64n _ (by push_cast; rfl) (by omega)
  have hv2 : v = ⟨1, st, none, 0, 0⟩ := hv
  subst hv2
  refine TCall_intro (args := [_, _, _]) Tryd.func41 rfl Tryd.ntmps41 (Nat.le_of_ble_eq_true rfl) ?_
  refine T_seq ?_
  refine T_region ?_
  refine TL_cons rfl (TO_box rfl rfl fun g2001 => ?_)
  refine TL_p (PV_assign rfl) ?_
  refine TL_nil ?_
  refine T_seq ?_
  refine T_region ?_
  refine TL_p (PV_move rfl) ?_
  refine TL_p (PV.cast (PV_len_string Tryd.underlying9 rfl) e13) ?_
  refine TL_p (PV.cast (PV_bin rfl rfl bin_add) e14) ?_
  refine TL_cons rfl (TO_make Tryd.underlying99 zb4 rfl (by omega) (by omega) rfl ⟨_, rfl⟩ ⟨_, rfl⟩ fun g2002 => ?_)
  refine TL_p (PV_assign rfl) ?_
  refine TL_nil ?_
  refine T_seq ?_
  refine T_seq ?_
  refine T_region ?_
  refine TL_p (PV_fieldAddr (D := 0) Tryd.underlying30 rfl sz24 (by decide) rfl rfl) ?_
  refine TL_p (PV_load Tryd.underlying24 rfl rfl (Rd.at 1 rfl rfl)) ?_
  refine TL_nil ?_
  refine T_block ?_
  refine T_seq ?_
  refine T_region ?_
  refine TL_p (PV_bin rfl rfl bin_eql) ?_
  refine TL_p (PV_assign rfl) ?_
  refine TL_nil ?_
  refine T_then rfl (by rfl) ?_
  refine T_seq ?_
  refine T_region ?_
  refine TL_p (PV_move rfl) ?_
  refine TL_p (PV.cast (PV_len_string Tryd.underlying9 rfl) e13) ?_
  refine TL_p (PV_move rfl) ?_
  refine TL_nil ?_
  refine T_block ?_
  refine ?L21
  case L21 =>
    refine T_loopP1 (fun (i : Nat) => i ≤ s.length) (fun i => s.length - i) (fun i => [(1, .string (strOfNums s)), (2, .slice A (s.length + 1) c), (3, .pointer (some ⟨g2001, 0, none⟩)), (7, .slice (some ⟨g2002, 0, none⟩) (s.length + 1) (s.length + 1)), (24, .int .i64 (s.length : Int)), (25, .int .i64 (i : Int))]) (fun i => .sl (.slice (some ⟨g2002, 0, none⟩) (s.length + 1) (s.length + 1)) 1 (s.length + 1) (bools (oneL st s from_ i)) :: .own g2001 6 (⟨1, st, none, 0, 0⟩ : Nv).cells :: H') 0 (Nat.zero_le _) (by repeat (first | exact FrSub.nil _ | refine FrSub.cons rfl ?_)) (by rw [oneL_zero]; exact Has.of_sub (by repeat (first | exact Sb.r | exact Sb.ar | exact Sb.al | apply Sb.c | apply Sb.d | refine Sb.t ?_))) ?_
    intro i hi
    by_cases hil : i < s.length
    · refine T_shows (hS.mono fun w h => h.sub (by repeat (first | exact Sb.r | exact Sb.ar | exact Sb.al | apply Sb.d | refine Sb.t ?_))) (by rw [bools_len]; omega) fun ga oa hA hrd => ?_
      subst hA
      have hr : Rd _ ⟨ga, oa + i * 1, none⟩ (.bool (from_.getD i false)) := hrd (i * 1) _ (by rw [Nat.mul_one]; exact bools_at (by omega))
      have hx := hu.at_ (i : Int)
      have hh := fun {X : List Chunk} => Has_t (w0 := w0) (B := B) (H := X) st (rd s i).toNat (by omega)
      rw [show (((rd s i).toNat : Nat) : Int) = rd s i by omega] at hh
      have e30 : Value.int .i64 (IntKind.i64.wrap ((i : Int) + 1)) = .int .i64 ((i + 1 : Nat) : Int) := wr64n _ (by push_cast; rfl) (by omega)
      have hst := oneL_step st s from_ i hil
      have hol : (bools (oneL st s from_ i)).length = s.length + 1 := by rw [bools_len]; simp [oneL]
      cases hb : from_.getD i false with
      | true =>
        rw [hb] at hr hst
        refine T_seq ?_
        refine T_region ?_
        refine TL_p (PV_bin rfl rfl bin_lss) ?_
        refine TL_nil ?_
        refine T_seq ?_
        refine T_then rfl (by exact decide_eq_true (by omega)) ?_
        refine T_skip ?_
        refine T_seq ?_
        refine T_block ?_
        refine T_seq ?_
        refine T_region ?_
        refine TL_p (PV_move rfl) ?_
        refine TL_p (PV_assign rfl) ?_
        refine TL_nil ?_
        refine T_drawnE 0 mixed ?_
        refine TA_p 0 rfl (by kernel_rfl) (PV_move rfl) ?_
        refine TA_p 1 rfl (by kernel_rfl) (PV_move rfl) ?_
        refine TA_p 2 rfl (by kernel_rfl) (PV.cast (PV_bin rfl rfl bin_add) e30) ?_
        refine TA_p 3 rfl (by kernel_rfl) (PV_move rfl) ?_
        refine TA_p 4 rfl (by kernel_rfl) (PV_move rfl) ?_
        refine TA_p 5 rfl (by kernel_rfl) (PV_indexAddr Tryd.underlying99 sz4 rfl rfl rfl (by first | omega | decide | assumption)) ?_
        refine TA_pure1 (dd := (some 34)) 6 (by kernel_rfl) rfl rfl rfl rfl (PV_load Tryd.underlying4 rfl rfl hr) ?_
        refine TA_p 7 rfl (by kernel_rfl) (PV_move rfl) ?_
        refine TA_yes (dd := (some 36)) 8 rfl (by kernel_rfl) (by kernel_rfl) (by kernel_rfl) rfl rfl rfl rfl rfl (PV_fieldAddr (D := 1) Tryd.underlying30 rfl sz27 (by decide) rfl rfl) ?_
        refine TA_yes (dd := (some 37)) 9 rfl (by kernel_rfl) (by kernel_rfl) (by kernel_rfl) rfl rfl rfl rfl rfl (PV_loadAt Tryd.underlying27 rfl sz27 rfl (Rds.take 0 rfl rfl rfl)) ?_
        refine TA_yes (dd := (some 38)) 10 rfl (by kernel_rfl) (by kernel_rfl) (by kernel_rfl) rfl rfl rfl rfl rfl (PV_move rfl) ?_
        refine TA_yes (dd := (some 39)) 11 rfl (by kernel_rfl) (by kernel_rfl) (by kernel_rfl) rfl rfl rfl rfl rfl (PV_move rfl) ?_
        refine TA_yes (dd := (some 40)) 12 rfl (by kernel_rfl) (by kernel_rfl) (by kernel_rfl) rfl rfl rfl rfl rfl (PV_indexNums Tryd.underlying9 rfl rfl rfl hu hil) ?_
        refine TA_oneYes 13 (by kernel_rfl) rfl rfl rfl rfl (TO_call0 call17 rfl rfl (hh) ?_)
        rintro v41_3003 H41_3003 ⟨rfl, rfl⟩
        refine ⟨fun _ h => h.sub (by (repeat (first | exact Sb.r | exact Sb.ar | exact Sb.al | apply Sb.d | refine Sb.t ?_)); done), ?_⟩
        refine TA_p 14 rfl (by kernel_rfl) (PV_pickAnd rfl rfl rfl) ?_
        refine TA_p 15 rfl (by kernel_rfl) (PV_indexAddr Tryd.underlying99 sz4 rfl rfl rfl (by first | omega | decide | assumption)) ?_
        refine TA_one 16 (by kernel_rfl) rfl rfl (TO_store1 0 rfl rfl rfl sz4 rfl rfl rfl (by first | exact Nat.le_of_ble_eq_true rfl | (simp; done) | (simp; omega) | omega) ?_)
        refine ⟨fun _ h => h.sub (by (repeat (first | exact Sb.r | exact Sb.ar | exact Sb.al | apply Sb.d | refine Sb.t ?_)); done), ?_⟩
        refine TA_done (by kernel_rfl) ?_
        refine T_region ?_
        refine TL_p (PV.cast (PV_bin rfl rfl bin_add) (wr64 (by omega))) ?_
        refine TL_p (PV_move rfl) ?_
        refine TL_nil ?_
        refine ?L31
        case L31 =>
          refine ⟨i + 1, by omega, by omega, (by repeat (first | exact FrSub.nil _ | refine FrSub.cons rfl ?_)), ?_⟩
          rw [← hst, ← bools_set, show 0 + (i + 1) * 1 = i + 1 by omega]
          exact Has.of_sub (by repeat (first | exact Sb.r | exact Sb.ar | exact Sb.al | apply Sb.c | apply Sb.d | refine Sb.t ?_))
      | false =>
        rw [hb] at hr hst
        refine T_seq ?_
        refine T_region ?_
        refine TL_p (PV_bin rfl rfl bin_lss) ?_
        refine TL_nil ?_
        refine T_seq ?_
        refine T_then rfl (by exact decide_eq_true (by omega)) ?_
        refine T_skip ?_
        refine T_seq ?_
        refine T_block ?_
        refine T_seq ?_
        refine T_region ?_
        refine TL_p (PV_move rfl) ?_
        refine TL_p (PV_assign rfl) ?_
        refine TL_nil ?_
        refine T_drawnE 0 mixed ?_
        refine TA_p 0 rfl (by kernel_rfl) (PV_move rfl) ?_
        refine TA_p 1 rfl (by kernel_rfl) (PV_move rfl) ?_
        refine TA_p 2 rfl (by kernel_rfl) (PV.cast (PV_bin rfl rfl bin_add) e30) ?_
        refine TA_p 3 rfl (by kernel_rfl) (PV_move rfl) ?_
        refine TA_p 4 rfl (by kernel_rfl) (PV_move rfl) ?_
        refine TA_p 5 rfl (by kernel_rfl) (PV_indexAddr Tryd.underlying99 sz4 rfl rfl rfl (by first | omega | decide | assumption)) ?_
        refine TA_pure1 (dd := (some 34)) 6 (by kernel_rfl) rfl rfl rfl rfl (PV_load Tryd.underlying4 rfl rfl hr) ?_
        refine TA_p 7 rfl (by kernel_rfl) (PV_move rfl) ?_
        refine TA_no (dd := (some 36)) (b := false) 8 rfl (by kernel_rfl) (by kernel_rfl) (by kernel_rfl) rfl rfl rfl rfl rfl ?_
        refine TA_no (dd := (some 37)) (b := false) 9 rfl (by kernel_rfl) (by kernel_rfl) (by kernel_rfl) rfl rfl rfl rfl rfl ?_
        refine TA_no (dd := (some 38)) (b := false) 10 rfl (by kernel_rfl) (by kernel_rfl) (by kernel_rfl) rfl rfl rfl rfl rfl ?_
        refine TA_no (dd := (some 39)) (b := false) 11 rfl (by kernel_rfl) (by kernel_rfl) (by kernel_rfl) rfl rfl rfl rfl rfl ?_
        refine TA_no (dd := (some 40)) (b := false) 12 rfl (by kernel_rfl) (by kernel_rfl) (by kernel_rfl) rfl rfl rfl rfl rfl ?_
        refine TA_no (dd := (some 41)) (b := false) 13 rfl (by kernel_rfl) (by kernel_rfl) (by kernel_rfl) rfl rfl rfl rfl rfl ?_
        refine TA_p 14 rfl (by kernel_rfl) (PV_pickF rfl (by first | assumption | rfl | (simp; done) | (simp; omega) | (simp [*]; done) | (simp [*]; omega)) rfl rfl) ?_
        refine TA_p 15 rfl (by kernel_rfl) (PV_indexAddr Tryd.underlying99 sz4 rfl rfl rfl (by first | omega | decide | assumption)) ?_
        refine TA_one 16 (by kernel_rfl) rfl rfl (TO_store1 0 rfl rfl rfl sz4 rfl rfl rfl (by first | exact Nat.le_of_ble_eq_true rfl | (simp; done) | (simp; omega) | omega) ?_)
        refine ⟨fun _ h => h.sub (by (repeat (first | exact Sb.r | exact Sb.ar | exact Sb.al | apply Sb.d | refine Sb.t ?_)); done), ?_⟩
        refine TA_done (by kernel_rfl) ?_
        refine T_region ?_
        refine TL_p (PV.cast (PV_bin rfl rfl bin_add) (wr64 (by omega))) ?_
        refine TL_p (PV_move rfl) ?_
        refine TL_nil ?_
        refine ?L41
        case L41 =>
          refine ⟨i + 1, by omega, by omega, (by repeat (first | exact FrSub.nil _ | refine FrSub.cons rfl ?_)), ?_⟩
          rw [← hst, ← bools_set, show 0 + (i + 1) * 1 = i + 1 by omega]
          exact Has.of_sub (by repeat (first | exact Sb.r | exact Sb.ar | exact Sb.al | apply Sb.c | apply Sb.d | refine Sb.t ?_))
    · obtain rfl : i = s.length := by omega
      refine T_seq ?_
      refine T_region ?_
      refine TL_p (PV_bin rfl rfl bin_lss) ?_
      refine TL_nil ?_
      refine T_seq ?_
      refine T_else rfl (by (simp; done)) ?_
      refine T_exit ?_
      refine T_seq ?_
      refine T_region ?_
      refine TL_p (PV_move rfl) ?_
      refine TL_p (PV_assign rfl) ?_
      refine TL_nil ?_
      refine T_ret ?_
      refine ret_ret (ResV_one rfl rfl) ⟨_, ?zb5001q262, ⟨_, _, rfl, ?sd5001q262_0, rfl⟩⟩
      case sd5001q262_0 => omega
      case zb5001q262 => exact (by (repeat (first | exact Sb.r | exact Sb.ar | exact Sb.al | apply Sb.c | apply Sb.d | refine Sb.t ?_)); done)
theorem ends_then {s : List Int} (hs : s.length ≤ 1000) {a b : Rx} {x y : Nv} {A0 : Option Addr} {c0 : Nat} (h2 : 2 ≤ c0) (hK : Shows (WH w0 B H) A0 2 6 (x.cells ++ y.cells)) (hEa : EndsC w0 B s a x H) (hEb : EndsC w0 B s b y H) : EndsC w0 B s (.then_ a b) ⟨2, S4.zero, A0, 2, c0⟩ H := by
  intro A c from_ H' hsub hS hl hc
  have e13 : Value.int .i64 (((strOfNums s).size : Nat) : Int) = .int .i64 ((s.length : Nat) : Int) := by rw [str_len]
  have e14 : Value.int .i64 (IntKind.i64.wrap (((s.length : Nat) : Int) + 1)) = .int .i64 ((s.length + 1 : Nat) : Int) := wr64n _ (by push_cast; rfl) (by omega)
  refine TCall_shows (hK.mono fun w h => h.sub hsub) (by simp [Nv.cells]) fun ga oa hA hrd => ?_
  subst hA
  have hk0 : RdsK (WH w0 B H') ga (oa + 0 * 6) 6 x.cells := ⟨rfl, fun j v hj => by
    rw [add_plain']
    refine hrd (0 * 6 + j) v ?_ |> fun h => by simpa [Nat.add_assoc] using h
    rw [Nat.zero_mul, Nat.zero_add, List.getElem?_append_left (List.getElem?_eq_some_iff.1 hj).1]
    exact hj⟩
  have hk1 : RdsK (WH w0 B H') ga (oa + 1 * 6) 6 y.cells := ⟨rfl, fun j v hj => by
    rw [add_plain', Nat.add_assoc]
    refine hrd (1 * 6 + j) v ?_
    rw [List.getElem?_append_right (by simp [Nv.cells])]
    simpa [Nv.cells] using hj⟩
  have hla := fun {o : List Bool} (h : o.length = s.length + 1) => endsL_len (t := a) h
  show TCall Tryd.prog w0 B 41 #[.agg #[.int .i64 2, wv S4.zero.a, wv S4.zero.b, wv S4.zero.c, wv S4.zero.d, .slice (some ⟨ga, oa, none⟩) 2 c0], .string (strOfNums s), .slice A (s.length + 1) c] _ H'
  refine TCall_intro (args := [_, _, _]) Tryd.func41 rfl Tryd.ntmps41 (Nat.le_of_ble_eq_true rfl) ?_
  refine T_seq ?_
  refine T_region ?_
  refine TL_cons rfl (TO_box rfl rfl fun g6001 => ?_)
  refine TL_p (PV_assign rfl) ?_
  refine TL_nil ?_
  refine T_seq ?_
  refine T_region ?_
  refine TL_p (PV_move rfl) ?_
  refine TL_p (PV.cast (PV_len_string Tryd.underlying9 rfl) e13) ?_
  refine TL_p (PV.cast (PV_bin rfl rfl bin_add) e14) ?_
  refine TL_cons rfl (TO_make Tryd.underlying99 zb4 rfl (by omega) (by omega) rfl ⟨_, rfl⟩ ⟨_, rfl⟩ fun g6002 => ?_)
  refine TL_p (PV_assign rfl) ?_
  refine TL_nil ?_
  refine T_seq ?_
  refine T_seq ?_
  refine T_region ?_
  refine TL_p (PV_fieldAddr (D := 0) Tryd.underlying30 rfl sz24 (by decide) rfl rfl) ?_
  refine TL_p (PV_load Tryd.underlying24 rfl rfl (Rd.at 1 rfl rfl)) ?_
  refine TL_nil ?_
  refine T_block ?_
  refine T_seq ?_
  refine T_region ?_
  refine TL_p (PV_bin rfl rfl bin_eql) ?_
  refine TL_p (PV_assign rfl) ?_
  refine TL_nil ?_
  refine T_else rfl (by rfl) ?_
  refine T_seq ?_
  refine T_region ?_
  refine TL_p (PV_bin rfl rfl bin_eql) ?_
  refine TL_p (PV_assign rfl) ?_
  refine TL_nil ?_
  refine T_then rfl (by rfl) ?_
  refine T_seq ?_
  refine T_drawn (WH _ _ _) mixed (fun w h => h) ?_
  refine TA_p 0 rfl (by kernel_rfl) (PV_fieldAddr (D := 5) Tryd.underlying30 rfl sz28 (by decide) rfl rfl) ?_
  refine TA_p 1 rfl (by kernel_rfl) (PV_load Tryd.underlying28 rfl rfl (Rd.at 1 rfl rfl)) ?_
  refine TA_p 2 rfl (by kernel_rfl) (PV_indexAddr (i := 1) Tryd.underlying28 sz30 rfl rfl rfl (by first | omega | decide | assumption)) ?_
  refine TA_p 3 rfl (by kernel_rfl) (PV_loadAt Tryd.underlying30 rfl sz30 rfl (RdsK.mono hk1 (fun w h => h.sub (by (repeat (first | exact Sb.r | exact Sb.ar | exact Sb.al | apply Sb.d | refine Sb.t ?_)); done)))) ?_
  refine TA_p 4 rfl (by kernel_rfl) (PV_move rfl) ?_
  refine TA_p 5 rfl (by kernel_rfl) (PV_fieldAddr (D := 5) Tryd.underlying30 rfl sz28 (by decide) rfl rfl) ?_
  refine TA_p 6 rfl (by kernel_rfl) (PV_load Tryd.underlying28 rfl rfl (Rd.at 1 rfl rfl)) ?_
  refine TA_p 7 rfl (by kernel_rfl) (PV_indexAddr (i := 0) Tryd.underlying28 sz30 rfl rfl rfl (by first | omega | decide | assumption)) ?_
  refine TA_p 8 rfl (by kernel_rfl) (PV_loadAt Tryd.underlying30 rfl sz30 rfl (RdsK.mono hk0 (fun w h => h.sub (by (repeat (first | exact Sb.r | exact Sb.ar | exact Sb.al | apply Sb.d | refine Sb.t ?_)); done)))) ?_
  refine TA_p 9 rfl (by kernel_rfl) (PV_move rfl) ?_
  refine TA_p 10 rfl (by kernel_rfl) (PV_move rfl) ?_
  refine TA_one 11 (by kernel_rfl) rfl rfl (TO_ends rfl hEa rfl rfl (hsub.trans (by repeat (first | exact Sb.r | exact Sb.ar | exact Sb.al | apply Sb.d | refine Sb.t ?_))) (hS.mono fun w h => h.sub (by repeat (first | exact Sb.r | exact Sb.ar | exact Sb.al | apply Sb.d | refine Sb.t ?_))) hl hc fun A58 c58 hc58 => ?_)
  refine ⟨fun _ h => h.sub (by (repeat (first | exact Sb.r | exact Sb.ar | exact Sb.al | apply Sb.d | refine Sb.t ?_)); done), ?_⟩
  refine TA_one 12 (by kernel_rfl) rfl rfl (TO_ends rfl hEb rfl rfl (hsub.trans (by repeat (first | exact Sb.r | exact Sb.ar | exact Sb.al | apply Sb.d | refine Sb.t ?_))) (Shows.at 0 rfl) (hla hl) hc58 fun A59 c59 hc59 => ?_)
  refine ⟨fun _ h => h.sub (by (repeat (first | exact Sb.r | exact Sb.ar | exact Sb.al | apply Sb.d | refine Sb.t ?_)); done), ?_⟩
  refine TA_p 13 rfl (by kernel_rfl) (PV_assign rfl) ?_
  refine TA_done (by kernel_rfl) ?_
  refine T_ret ?_
  refine ret_ret (ResV_one rfl rfl) ⟨_, ?zb6005q281, ⟨_, _, rfl, ?sd6005q281_0, rfl⟩⟩
  case sd6005q281_0 => exact hc59
  case zb6005q281 => exact (by (repeat (first | exact Sb.r | exact Sb.ar | exact Sb.al | apply Sb.c | apply Sb.d | refine Sb.t ?_)); done)
theorem orL_zero (a b : List Bool) (n : Nat) : bools (orL a b 0 n) = List.replicate n (.bool false) := by
  unfold bools orL
  apply List.ext_getElem
  · simp
  · intro j h1 h2
    simp
theorem orL_len (a b : List Bool) (i n : Nat) : (orL a b i n).length = n := by simp [orL]
theorem orL_step (a b : List Bool) (i n : Nat) (hi : i < n) : (orL a b i n).set i (a.getD i false || b.getD i false) = orL a b (i + 1) n := by
  apply List.ext_getElem
  · simp [orL]
  · intro j h1 h2
    simp only [orL, List.length_map, List.length_range, List.length_set] at h1 h2
    rw [List.getElem_set]
    simp only [orL, List.getElem_map, List.getElem_range]
    by_cases hj : i = j
    · subst hj
      simp
    · rw [if_neg hj]
      by_cases hl : j < i
      · rw [if_pos hl, if_pos (by omega)]
      · rw [if_neg hl, if_neg (by omega)]
theorem ends_either {s : List Int} (hs : s.length ≤ 1000) {a b : Rx} {x y : Nv} {A0 : Option Addr} {c0 : Nat} (h2 : 2 ≤ c0) (hK : Shows (WH w0 B H) A0 2 6 (x.cells ++ y.cells)) (hEa : EndsC w0 B s a x H) (hEb : EndsC w0 B s b y H) : EndsC w0 B s (.either a b) ⟨3, S4.zero, A0, 2, c0⟩ H := by
  intro A c from_ H' hsub hS hl hc
  have e13 : Value.int .i64 (((strOfNums s).size : Nat) : Int) = .int .i64 ((s.length : Nat) : Int) := by rw [str_len]
  have e14 : Value.int .i64 (IntKind.i64.wrap (((s.length : Nat) : Int) + 1)) = .int .i64 ((s.length + 1 : Nat) : Int) := wr64n _ (by push_cast; rfl) (by omega)
  refine TCall_shows (hK.mono fun w h => h.sub hsub) (by simp [Nv.cells]) fun ga oa hA hrd => ?_
  subst hA
  have hk0 : RdsK (WH w0 B H') ga (oa + 0 * 6) 6 x.cells := ⟨rfl, fun j v hj => by
    rw [add_plain']
    refine hrd (0 * 6 + j) v ?_ |> fun h => by simpa [Nat.add_assoc] using h
    rw [Nat.zero_mul, Nat.zero_add, List.getElem?_append_left (List.getElem?_eq_some_iff.1 hj).1]
    exact hj⟩
  have hk1 : RdsK (WH w0 B H') ga (oa + 1 * 6) 6 y.cells := ⟨rfl, fun j v hj => by
    rw [add_plain', Nat.add_assoc]
    refine hrd (1 * 6 + j) v ?_
    rw [List.getElem?_append_right (by simp [Nv.cells])]
    simpa [Nv.cells] using hj⟩
  obtain ⟨ra, hra⟩ : ∃ r, endsL s a from_ = r := ⟨_, rfl⟩
  obtain ⟨rb, hrb⟩ : ∃ r, endsL s b from_ = r := ⟨_, rfl⟩
  have hla : ra.length = s.length + 1 := by rw [← hra]; exact endsL_len hl
  have hlb : rb.length = s.length + 1 := by rw [← hrb]; exact endsL_len hl
  show TCall Tryd.prog w0 B 41 #[.agg #[.int .i64 3, wv S4.zero.a, wv S4.zero.b, wv S4.zero.c, wv S4.zero.d, .slice (some ⟨ga, oa, none⟩) 2 c0], .string (strOfNums s), .slice A (s.length + 1) c] _ H'
  rw [show endsL s (.either a b) from_ = orL ra rb (s.length + 1) (s.length + 1) by rw [← hra, ← hrb]; rfl]
  refine TCall_intro (args := [_, _, _]) Tryd.func41 rfl Tryd.ntmps41 (Nat.le_of_ble_eq_true rfl) ?_
  refine T_seq ?_
  refine T_region ?_
  refine TL_cons rfl (TO_box rfl rfl fun g7001 => ?_)
  refine TL_p (PV_assign rfl) ?_
  refine TL_nil ?_
  refine T_seq ?_
  refine T_region ?_
  refine TL_p (PV_move rfl) ?_
  refine TL_p (PV.cast (PV_len_string Tryd.underlying9 rfl) e13) ?_
  refine TL_p (PV.cast (PV_bin rfl rfl bin_add) e14) ?_
  refine TL_cons rfl (TO_make Tryd.underlying99 zb4 rfl (by omega) (by omega) rfl ⟨_, rfl⟩ ⟨_, rfl⟩ fun g7002 => ?_)
  refine TL_p (PV_assign rfl) ?_
  refine TL_nil ?_
  refine T_seq ?_
  refine T_seq ?_
  refine T_region ?_
  refine TL_p (PV_fieldAddr (D := 0) Tryd.underlying30 rfl sz24 (by decide) rfl rfl) ?_
  refine TL_p (PV_load Tryd.underlying24 rfl rfl (Rd.at 1 rfl rfl)) ?_
  refine TL_nil ?_
  refine T_block ?_
  refine T_seq ?_
  refine T_region ?_
  refine TL_p (PV_bin rfl rfl bin_eql) ?_
  refine TL_p (PV_assign rfl) ?_
  refine TL_nil ?_
  refine T_else rfl (by rfl) ?_
  refine T_seq ?_
  refine T_region ?_
  refine TL_p (PV_bin rfl rfl bin_eql) ?_
  refine TL_p (PV_assign rfl) ?_
  refine TL_nil ?_
  refine T_else rfl (by rfl) ?_
  refine T_seq ?_
  refine T_region ?_
  refine TL_p (PV_bin rfl rfl bin_eql) ?_
  refine TL_p (PV_assign rfl) ?_
  refine TL_nil ?_
  refine T_then rfl (by rfl) ?_
  refine T_seq ?_
  refine T_drawn (WH _ _ _) mixed (fun w h => h) ?_
  refine TA_p 0 rfl (by kernel_rfl) (PV_fieldAddr (D := 5) Tryd.underlying30 rfl sz28 (by decide) rfl rfl) ?_
  refine TA_p 1 rfl (by kernel_rfl) (PV_load Tryd.underlying28 rfl rfl (Rd.at 1 rfl rfl)) ?_
  refine TA_p 2 rfl (by kernel_rfl) (PV_indexAddr (i := 0) Tryd.underlying28 sz30 rfl rfl rfl (by first | omega | decide | assumption)) ?_
  refine TA_p 3 rfl (by kernel_rfl) (PV_loadAt Tryd.underlying30 rfl sz30 rfl (RdsK.mono hk0 (fun w h => h.sub (by (repeat (first | exact Sb.r | exact Sb.ar | exact Sb.al | apply Sb.d | refine Sb.t ?_)); done)))) ?_
  refine TA_p 4 rfl (by kernel_rfl) (PV_move rfl) ?_
  refine TA_p 5 rfl (by kernel_rfl) (PV_move rfl) ?_
  refine TA_p 7 rfl (by kernel_rfl) (PV_fieldAddr (D := 5) Tryd.underlying30 rfl sz28 (by decide) rfl rfl) ?_
  refine TA_p 8 rfl (by kernel_rfl) (PV_load Tryd.underlying28 rfl rfl (Rd.at 1 rfl rfl)) ?_
  refine TA_p 9 rfl (by kernel_rfl) (PV_indexAddr (i := 1) Tryd.underlying28 sz30 rfl rfl rfl (by first | omega | decide | assumption)) ?_
  refine TA_p 10 rfl (by kernel_rfl) (PV_loadAt Tryd.underlying30 rfl sz30 rfl (RdsK.mono hk1 (fun w h => h.sub (by (repeat (first | exact Sb.r | exact Sb.ar | exact Sb.al | apply Sb.d | refine Sb.t ?_)); done)))) ?_
  refine TA_p 11 rfl (by kernel_rfl) (PV_move rfl) ?_
  refine TA_p 12 rfl (by kernel_rfl) (PV_move rfl) ?_
  refine TA_one 6 (by kernel_rfl) rfl rfl (TO_ends hra hEa rfl rfl (hsub.trans (by repeat (first | exact Sb.r | exact Sb.ar | exact Sb.al | apply Sb.d | refine Sb.t ?_))) (hS.mono fun w h => h.sub (by repeat (first | exact Sb.r | exact Sb.ar | exact Sb.al | apply Sb.d | refine Sb.t ?_))) hl hc fun A68 c68 hc68 => ?_)
  refine ⟨fun _ h => h.sub (by (repeat (first | exact Sb.r | exact Sb.ar | exact Sb.al | apply Sb.d | refine Sb.t ?_)); done), ?_⟩
  refine TA_one 13 (by kernel_rfl) rfl rfl (TO_ends hrb hEb rfl rfl (hsub.trans (by repeat (first | exact Sb.r | exact Sb.ar | exact Sb.al | apply Sb.d | refine Sb.t ?_))) (hS.mono fun w h => h.sub (by repeat (first | exact Sb.r | exact Sb.ar | exact Sb.al | apply Sb.d | refine Sb.t ?_))) hl hc fun A75 c75 hc75 => ?_)
  refine ⟨fun _ h => h.sub (by (repeat (first | exact Sb.r | exact Sb.ar | exact Sb.al | apply Sb.d | refine Sb.t ?_)); done), ?_⟩
  refine TA_p 14 rfl (by kernel_rfl) (PV_assign rfl) ?_
  refine TA_p 15 rfl (by kernel_rfl) (PV_assign rfl) ?_
  refine TA_done (by kernel_rfl) ?_
  refine T_seq ?_
  refine T_region ?_
  refine TL_p (PV_move rfl) ?_
  refine TL_p (PV_len_slice Tryd.underlying99 rfl) ?_
  refine TL_p (PV_move rfl) ?_
  refine TL_nil ?_
  refine T_block ?_
  refine ?L71
  case L71 =>
    refine T_loopP1 (fun (i : Nat) => i ≤ s.length + 1) (fun i => s.length + 1 - i) (fun i => [(7, .slice (some ⟨g7002, 0, none⟩) (s.length + 1) (s.length + 1)), (9, .slice A68 (s.length + 1) c68), (10, .slice A75 (s.length + 1) c75), (77, .int .i64 ((s.length + 1 : Nat) : Int)), (78, .int .i64 (i : Int))]) (fun i => .sl (.slice (some ⟨g7002, 0, none⟩) (s.length + 1) (s.length + 1)) 1 (s.length + 1) (bools (orL ra rb i (s.length + 1))) :: .sl (.slice A75 (s.length + 1) c75) 1 (s.length + 1) (bools rb) :: .sl (.slice A68 (s.length + 1) c68) 1 (s.length + 1) (bools ra) :: H') 0 (Nat.zero_le _) (by repeat (first | exact FrSub.nil _ | refine FrSub.cons rfl ?_)) (by rw [orL_zero]; exact Has.of_perm ((perm_pick (i := 2) rfl).trans (List.Perm.cons _ ((perm_pick (i := 0) rfl).trans (List.Perm.cons _ ((perm_pick (i := 0) rfl).trans (List.Perm.cons _ (List.Perm.refl _))))))) (by repeat (first | exact Sb.r | exact Sb.ar | exact Sb.al | apply Sb.c | apply Sb.d | refine Sb.t ?_))) ?_
    intro i hi
    by_cases hil : i < s.length + 1
    · have e94 : Value.int .i64 (IntKind.i64.wrap ((i : Int) + 1)) = .int .i64 ((i + 1 : Nat) : Int) := wr64n _ (by push_cast; rfl) (by omega)
      have hst := orL_step ra rb i (s.length + 1) hil
      have hol : (bools (orL ra rb i (s.length + 1))).length = s.length + 1 := by rw [bools_len, orL_len]
      have hal : (bools ra).length = s.length + 1 := by rw [bools_len, hla]
      have hbl : (bools rb).length = s.length + 1 := by rw [bools_len, hlb]
      refine T_shows (Shows.at 2 rfl) (by omega) fun g68 o68 hA68 hrd68 => ?_
      subst hA68
      have hr68 : Rd _ ⟨g68, o68 + i * 1, none⟩ (.bool (ra.getD i false)) := hrd68 (i * 1) _ (by rw [Nat.mul_one]; exact bools_at (by omega))
      refine T_shows (Shows.at 1 rfl) (by omega) fun g75 o75 hA75 hrd75 => ?_
      subst hA75
      have hr75 : Rd _ ⟨g75, o75 + i * 1, none⟩ (.bool (rb.getD i false)) := hrd75 (i * 1) _ (by rw [Nat.mul_one]; exact bools_at (by omega))
      cases hb : ra.getD i false with
      | true =>
        rw [hb] at hr68 hst
        refine T_seq ?_
        refine T_region ?_
        refine TL_p (PV_bin rfl rfl bin_lss) ?_
        refine TL_nil ?_
        refine T_seq ?_
        refine T_then rfl (by exact decide_eq_true (by omega)) ?_
        refine T_skip ?_
        refine T_seq ?_
        refine T_block ?_
        refine T_seq ?_
        refine T_region ?_
        refine TL_p (PV_move rfl) ?_
        refine TL_p (PV_assign rfl) ?_
        refine TL_nil ?_
        refine T_region ?_
        refine TL_p (PV_move rfl) ?_
        refine TL_p (PV_move rfl) ?_
        refine TL_p (PV_move rfl) ?_
        refine TL_p (PV_move rfl) ?_
        refine TL_p (PV_indexAddr Tryd.underlying99 sz4 rfl rfl rfl (by first | omega | decide | assumption)) ?_
        refine TL_p (PV_load Tryd.underlying4 rfl rfl hr68) ?_
        refine TL_p (PV_move rfl) ?_
        refine TL_no (b := true) rfl rfl rfl rfl ?_
        refine TL_no (b := true) rfl rfl rfl rfl ?_
        refine TL_no (b := true) rfl rfl rfl rfl ?_
        refine TL_no (b := true) rfl rfl rfl rfl ?_
        refine TL_p (PV_pickT rfl (by first | assumption | rfl | (simp; done) | (simp; omega) | (simp [*]; done) | (simp [*]; omega)) rfl rfl) ?_
        refine TL_p (PV_indexAddr Tryd.underlying99 sz4 rfl rfl rfl (by first | omega | decide | assumption)) ?_
        refine TL_cons rfl (TO_store1 0 rfl rfl rfl sz4 rfl rfl rfl (by first | exact Nat.le_of_ble_eq_true rfl | (simp; done) | (simp; omega) | omega) ?_)
        refine TL_nil ?_
        refine T_region ?_
        refine TL_p (PV.cast (PV_bin rfl rfl bin_add) e94) ?_
        refine TL_p (PV_move rfl) ?_
        refine TL_nil ?_
        refine ?L81
        case L81 =>
          refine ⟨i + 1, by omega, by omega, (by repeat (first | exact FrSub.nil _ | refine FrSub.cons rfl ?_)), ?_⟩
          rw [← hst, ← bools_set, show 0 + i * 1 = i by omega]
          exact Has.of_sub (by repeat (first | exact Sb.r | exact Sb.ar | exact Sb.al | apply Sb.c | apply Sb.d | refine Sb.t ?_))
      | false =>
        rw [hb] at hr68 hst
        refine T_seq ?_
        refine T_region ?_
        refine TL_p (PV_bin rfl rfl bin_lss) ?_
        refine TL_nil ?_
        refine T_seq ?_
        refine T_then rfl (by exact decide_eq_true (by omega)) ?_
        refine T_skip ?_
        refine T_seq ?_
        refine T_block ?_
        refine T_seq ?_
        refine T_region ?_
        refine TL_p (PV_move rfl) ?_
        refine TL_p (PV_assign rfl) ?_
        refine TL_nil ?_
        refine T_region ?_
        refine TL_p (PV_move rfl) ?_
        refine TL_p (PV_move rfl) ?_
        refine TL_p (PV_move rfl) ?_
        refine TL_p (PV_move rfl) ?_
        refine TL_p (PV_indexAddr Tryd.underlying99 sz4 rfl rfl rfl (by first | omega | decide | assumption)) ?_
        refine TL_p (PV_load Tryd.underlying4 rfl rfl hr68) ?_
        refine TL_p (PV_move rfl) ?_
        refine TL_yes rfl rfl rfl (TO_pure rfl (PV_move rfl) ?_)
        refine TL_yes rfl rfl rfl (TO_pure rfl (PV_move rfl) ?_)
        refine TL_yes rfl rfl rfl (TO_pure rfl (PV_indexAddr Tryd.underlying99 sz4 rfl rfl rfl (by first | omega | decide | assumption)) ?_)
        refine TL_yes rfl rfl rfl (TO_pure rfl (PV_load Tryd.underlying4 rfl rfl hr75) ?_)
        refine TL_p (PV_pickOr rfl rfl rfl) ?_
        refine TL_p (PV_indexAddr Tryd.underlying99 sz4 rfl rfl rfl (by first | omega | decide | assumption)) ?_
        refine TL_cons rfl (TO_store1 0 rfl rfl rfl sz4 rfl rfl rfl (by first | exact Nat.le_of_ble_eq_true rfl | (simp; done) | (simp; omega) | omega) ?_)
        refine TL_nil ?_
        refine T_region ?_
        refine TL_p (PV.cast (PV_bin rfl rfl bin_add) e94) ?_
        refine TL_p (PV_move rfl) ?_
        refine TL_nil ?_
        refine ?L86
        case L86 =>
          refine ⟨i + 1, by omega, by omega, (by repeat (first | exact FrSub.nil _ | refine FrSub.cons rfl ?_)), ?_⟩
          rw [← hst, ← bools_set, show 0 + i * 1 = i by omega]
          exact Has.of_sub (by repeat (first | exact Sb.r | exact Sb.ar | exact Sb.al | apply Sb.c | apply Sb.d | refine Sb.t ?_))
    · obtain rfl : i = s.length + 1 := by omega
      refine T_seq ?_
      refine T_region ?_
      refine TL_p (PV_bin rfl rfl bin_lss) ?_
      refine TL_nil ?_
      refine T_seq ?_
      refine T_else rfl (by (simp; done)) ?_
      refine T_exit ?_
      refine T_seq ?_
      refine T_region ?_
      refine TL_p (PV_move rfl) ?_
      refine TL_p (PV_assign rfl) ?_
      refine TL_nil ?_
      refine T_ret ?_
      refine ret_ret (ResV_one rfl rfl) ⟨_, ?zb9001q367, ⟨_, _, rfl, ?sd9001q367_0, rfl⟩⟩
      case sd9001q367_0 => exact hi
      case zb9001q367 => exact (by (repeat (first | exact Sb.r | exact Sb.ar | exact Sb.al | apply Sb.c | apply Sb.d | refine Sb.t ?_)); done)
theorem many_t {s : List Int} (hs : s.length ≤ 1000) {a : Rx} {x : Nv} (hE : EndsC w0 B s a x H) : ∀ (A : Option Addr) (c : Nat) (from_ : List Bool) (H' : List Chunk), H.Sublist H' → Shows (WH w0 B H') A (s.length + 1) 1 (bools from_) → from_.length = s.length + 1 → s.length + 1 ≤ c →
    TCall Tryd.prog w0 B 55 #[x.val, .string (strOfNums s), .slice A (s.length + 1) c] (fun r H2 => ∃ (A' : Option Addr) (c' : Nat), r = .slice A' (s.length + 1) c' ∧ s.length + 1 ≤ c' ∧ H2 = .sl (.slice A' (s.length + 1) c') 1 (s.length + 1) (bools (manyL (endsL s a) (s.length + 2) from_)) :: H') H' := by
  intro A c from_ H' hsub hS hl hc
  have hob := @bools_one from_
  obtain ⟨R, hR⟩ : ∃ R, manyL (endsL s a) (s.length + 2) from_ = R := ⟨_, rfl⟩
  rw [hR]
  refine TCall_intro (args := [_, _, _]) Tryd.func55 rfl Tryd.ntmps55 (Nat.le_of_ble_eq_true rfl) ?_
  refine T_seq ?_
  refine T_region ?_
  refine TL_cons rfl (TO_box rfl rfl fun g10001 => ?_)
  refine TL_p (PV_assign rfl) ?_
  refine TL_nil ?_
  refine T_seq ?_
  refine T_region ?_
  refine TL_p (PV_move rfl) ?_
  refine TL_cons rfl (TO_appendNil Tryd.underlying99 zb4 rfl (by decide) rfl rfl rfl (Shows.mono hS (fun w h => h.sub (by (repeat (first | exact Sb.r | exact Sb.ar | exact Sb.al | apply Sb.d | refine Sb.t ?_)); done))) ?oc10002q374 ?bb10002q374 ?bc10002q374 fun A10002 c10002 hc10002 => ?_)
  case oc10002q374 => with_reducible assumption
  case bb10002q374 => omega
  case bc10002q374 => omega
  refine TL_p (PV_assign rfl) ?_
  refine TL_nil ?_
  refine T_seq ?_
  refine T_seq ?_
  refine T_region ?_
  refine TL_p (PV_assign rfl) ?_
  refine TL_nil ?_
  refine T_block ?_
  refine ?L101
  case L101 =>
    refine T_slA 0 rfl (by omega) fun g12 hA12 => ?_
    subst hA12
    refine T_loopP1 (fun (p : List Bool × Bool) => p.1.length = s.length + 1 ∧ ∃ k, R = (if p.2 = true then manyL (endsL s a) k p.1 else p.1) ∧ (p.2 = true → cntF p.1 < k)) (fun p => if p.2 = true then cntF p.1 + 1 else 0) (fun p => [(1, .string (strOfNums s)), (3, .pointer (some ⟨g10001, 0, none⟩)), (7, .slice (some ⟨g12, 0, none⟩) (s.length + 1) c10002), (8, .bool p.2)]) (fun p => .sl (.slice (some ⟨g12, 0, none⟩) (s.length + 1) c10002) 1 (s.length + 1) (bools p.1) :: .own g10001 6 x.cells :: H') (from_, true) ⟨hl, s.length + 2, hR.symm, fun _ => by have := cntF_le from_; show cntF from_ < _; omega⟩ (by repeat (first | exact FrSub.nil _ | refine FrSub.cons rfl ?_)) (Has.of_sub (by repeat (first | exact Sb.r | exact Sb.ar | exact Sb.al | apply Sb.c | apply Sb.d | refine Sb.t ?_))) ?_
    rintro ⟨o, m⟩ ⟨hol, k, hk, hcnt⟩
    cases m with
    | false =>
      have hRo : R = o := hk
      subst hRo
      refine T_seq ?_
      refine T_seq ?_
      refine T_region ?_
      refine TL_p (PV_move rfl) ?_
      refine TL_nil ?_
      refine T_else rfl (by rfl) ?_
      refine T_exit ?_
      refine T_seq ?_
      refine T_region ?_
      refine TL_p (PV_move rfl) ?_
      refine TL_p (PV_assign rfl) ?_
      refine TL_nil ?_
      refine T_ret ?_
      refine ret_ret (ResV_one rfl rfl) ⟨_, ?zb11001q385, ⟨_, _, rfl, ?sd11001q385_0, rfl⟩⟩
      case sd11001q385_0 => exact hc10002
      case zb11001q385 => exact (by (repeat (first | exact Sb.r | exact Sb.ar | exact Sb.al | apply Sb.c | apply Sb.d | refine Sb.t ?_)); done)
    | true =>
      have hcnt : cntF o < k := hcnt rfl
      have hol : o.length = s.length + 1 := hol
      have hk : R = manyL (endsL s a) k o := hk
      obtain ⟨k, rfl⟩ : ∃ k', k = k' + 1 := ⟨k - 1, by omega⟩
      obtain ⟨r, hr⟩ : ∃ r, endsL s a o = r := ⟨_, rfl⟩
      have hrl : r.length = s.length + 1 := by rw [← hr]; exact endsL_len hol
      have hk2 : R = if (joinP r o (s.length + 1)).2 = true then manyL (endsL s a) k (joinP r o (s.length + 1)).1 else (joinP r o (s.length + 1)).1 := by
        rw [hk]
        show (if _ then _ else _) = _
        rw [hr, hol]
      have hjc := joinP_cnt r o (s.length + 1) (by omega)
      refine T_seq ?_
      refine T_seq ?_
      refine T_region ?_
      refine TL_p (PV_move rfl) ?_
      refine TL_nil ?_
      refine T_then rfl (by rfl) ?_
      refine T_skip ?_
      refine T_block ?_
      refine T_seq ?_
      refine T_region ?_
      refine TL_p (PV_assign rfl) ?_
      refine TL_nil ?_
      refine T_seq ?_
      refine T_region ?_
      refine TL_p (PV_loadAt Tryd.underlying30 rfl sz30 rfl (Rds.take 1 rfl rfl rfl)) ?_
      refine TL_p (PV_move rfl) ?_
      refine TL_p (PV_move rfl) ?_
      refine TL_cons rfl (TO_ends hr hE rfl rfl (hsub.trans (by repeat (first | exact Sb.r | exact Sb.ar | exact Sb.al | apply Sb.d | refine Sb.t ?_))) (Shows.at 0 rfl) hol hc10002 fun A17 c17 hc17 => ?_)
      refine TL_p (PV_len_slice Tryd.underlying99 rfl) ?_
      refine TL_p (PV_move rfl) ?_
      refine TL_nil ?_
      refine T_block ?_
      refine ?L121
      case L121 =>
        have hjz : ∀ i, (bools (joinP r o i).1).length = s.length + 1 := fun i => by rw [bools_len, joinP_len, hol]
        have hjl : ∀ i, (joinP r o i).1.length = s.length + 1 := fun i => by rw [joinP_len, hol]
        refine T_loopP1 (fun (i : Nat) => i ≤ s.length + 1) (fun i => s.length + 1 - i) (fun i => [(1, .string (strOfNums s)), (3, .pointer (some ⟨g10001, 0, none⟩)), (7, .slice (some ⟨g12, 0, none⟩) (s.length + 1) c10002), (8, .bool (joinP r o i).2), (17, .slice A17 (s.length + 1) c17), (18, .int .i64 ((s.length + 1 : Nat) : Int)), (19, .int .i64 (i : Int))]) (fun i => .sl (.slice (some ⟨g12, 0, none⟩) (s.length + 1) c10002) 1 (s.length + 1) (bools (joinP r o i).1) :: .sl (.slice A17 (s.length + 1) c17) 1 (s.length + 1) (bools r) :: .own g10001 6 x.cells :: H') 0 (Nat.zero_le _) (by repeat (first | exact FrSub.nil _ | refine FrSub.cons rfl ?_)) (Has.of_perm ((perm_pick (i := 1) rfl).trans (List.Perm.cons _ ((perm_pick (i := 0) rfl).trans (List.Perm.cons _ ((perm_pick (i := 0) rfl).trans (List.Perm.cons _ (List.Perm.refl _))))))) (by repeat (first | exact Sb.r | exact Sb.ar | exact Sb.al | apply Sb.c | apply Sb.d | refine Sb.t ?_))) ?_
        intro i hi
        by_cases hil : i < s.length + 1
        · have e35 : Value.int .i64 (IntKind.i64.wrap ((i : Int) + 1)) = .int .i64 ((i + 1 : Nat) : Int) := wr64n _ (by push_cast; rfl) (by omega)
          have hji := hjz i
          have hrb : (bools r).length = s.length + 1 := by rw [bools_len, hrl]
          refine T_shows (Shows.at 1 rfl) (by omega) fun g17 o17 hA17 hrd17 => ?_
          subst hA17
          have hr17 : Rd _ ⟨g17, o17 + i * 1, none⟩ (.bool (r.getD i false)) := hrd17 (i * 1) _ (by rw [Nat.mul_one]; exact bools_at (by omega))
          have hro : Rd (WH w0 B (.sl (.slice (some ⟨g12, 0, none⟩) (s.length + 1) c10002) 1 (s.length + 1) (bools (joinP r o i).1) :: .sl (.slice (some ⟨g17, o17, none⟩) (s.length + 1) c17) 1 (s.length + 1) (bools r) :: .own g10001 6 x.cells :: H')) ⟨g12, 0 + i * 1, none⟩ (.bool ((joinP r o i).1.getD i false)) := Rd.at 0 rfl (bools_at1 (by rw [hjl]; omega))
          cases h1 : r.getD i false with
          | false =>
            rw [h1] at hr17
            have hst := joinP_n (r := r) (o := o) (i := i) (fun h => by rw [h1] at h; cases h)
            refine T_seq ?_
            refine T_region ?_
            refine TL_p (PV_bin rfl rfl bin_lss) ?_
            refine TL_nil ?_
            refine T_seq ?_
            refine T_then rfl (by exact decide_eq_true (by omega)) ?_
            refine T_skip ?_
            refine T_seq ?_
            refine T_block ?_
            refine T_seq ?_
            refine T_region ?_
            refine TL_p (PV_move rfl) ?_
            refine TL_p (PV_indexAddr Tryd.underlying99 sz4 rfl rfl rfl (by first | omega | decide | assumption)) ?_
            refine TL_p (PV_load Tryd.underlying4 rfl rfl hr17) ?_
            refine TL_p (PV_assign rfl) ?_
            refine TL_p (PV_assign rfl) ?_
            refine TL_nil ?_
            refine T_seq ?_
            refine T_region ?_
            refine TL_p (PV_move rfl) ?_
            refine TL_p (PV_move rfl) ?_
            refine TL_no (b := false) rfl rfl rfl rfl ?_
            refine TL_no (b := false) rfl rfl rfl rfl ?_
            refine TL_no (b := false) rfl rfl rfl rfl ?_
            refine TL_no (b := false) rfl rfl rfl rfl ?_
            refine TL_no (b := false) rfl rfl rfl rfl ?_
            refine TL_p (PV_pickF rfl (by first | assumption | rfl | (simp; done) | (simp; omega) | (simp [*]; done) | (simp [*]; omega)) rfl rfl) ?_
            refine TL_nil ?_
            refine T_else rfl (by rfl) ?_
            refine T_skip ?_
            refine T_region ?_
            refine TL_p (PV.cast (PV_bin rfl rfl bin_add) e35) ?_
            refine TL_p (PV_move rfl) ?_
            refine TL_nil ?_
            refine ?L131
            case L131 =>
              refine ⟨i + 1, by omega, by omega, by rw [hst]; exact (by repeat (first | exact FrSub.nil _ | refine FrSub.cons rfl ?_)), ?_⟩
              rw [hst]
              exact Has.of_sub (by repeat (first | exact Sb.r | exact Sb.ar | exact Sb.al | apply Sb.c | apply Sb.d | refine Sb.t ?_))
          | true =>
            rw [h1] at hr17
            cases h2 : (joinP r o i).1.getD i false with
            | true =>
              rw [h2] at hro
              have hst := joinP_n (r := r) (o := o) (i := i) (fun _ h => by rw [h2] at h; cases h)
              refine T_seq ?_
              refine T_region ?_
              refine TL_p (PV_bin rfl rfl bin_lss) ?_
              refine TL_nil ?_
              refine T_seq ?_
              refine T_then rfl (by exact decide_eq_true (by omega)) ?_
              refine T_skip ?_
              refine T_seq ?_
              refine T_block ?_
              refine T_seq ?_
              refine T_region ?_
              refine TL_p (PV_move rfl) ?_
              refine TL_p (PV_indexAddr Tryd.underlying99 sz4 rfl rfl rfl (by first | omega | decide | assumption)) ?_
              refine TL_p (PV_load Tryd.underlying4 rfl rfl hr17) ?_
              refine TL_p (PV_assign rfl) ?_
              refine TL_p (PV_assign rfl) ?_
              refine TL_nil ?_
              refine T_seq ?_
              refine T_region ?_
              refine TL_p (PV_move rfl) ?_
              refine TL_p (PV_move rfl) ?_
              refine TL_yes rfl rfl rfl (TO_pure rfl (PV_move rfl) ?_)
              refine TL_yes rfl rfl rfl (TO_pure rfl (PV_move rfl) ?_)
              refine TL_yes rfl rfl rfl (TO_pure rfl (PV_indexAddr Tryd.underlying99 sz4 rfl rfl rfl (by first | omega | decide | assumption)) ?_)
              refine TL_yes rfl rfl rfl (TO_pure rfl (PV_load Tryd.underlying4 rfl rfl hro) ?_)
              refine TL_yes rfl rfl rfl (TO_pure rfl (PV_not rfl) ?_)
              refine TL_p (PV_pickAnd rfl rfl rfl) ?_
              refine TL_nil ?_
              refine T_else rfl (by rfl) ?_
              refine T_skip ?_
              refine T_region ?_
              refine TL_p (PV.cast (PV_bin rfl rfl bin_add) e35) ?_
              refine TL_p (PV_move rfl) ?_
              refine TL_nil ?_
              refine ?L141
              case L141 =>
                refine ⟨i + 1, by omega, by omega, by rw [hst]; exact (by repeat (first | exact FrSub.nil _ | refine FrSub.cons rfl ?_)), ?_⟩
                rw [hst]
                exact Has.of_sub (by repeat (first | exact Sb.r | exact Sb.ar | exact Sb.al | apply Sb.c | apply Sb.d | refine Sb.t ?_))
            | false =>
              rw [h2] at hro
              have hst := joinP_y h1 h2
              refine T_seq ?_
              refine T_region ?_
              refine TL_p (PV_bin rfl rfl bin_lss) ?_
              refine TL_nil ?_
              refine T_seq ?_
              refine T_then rfl (by exact decide_eq_true (by omega)) ?_
              refine T_skip ?_
              refine T_seq ?_
              refine T_block ?_
              refine T_seq ?_
              refine T_region ?_
              refine TL_p (PV_move rfl) ?_
              refine TL_p (PV_indexAddr Tryd.underlying99 sz4 rfl rfl rfl (by first | omega | decide | assumption)) ?_
              refine TL_p (PV_load Tryd.underlying4 rfl rfl hr17) ?_
              refine TL_p (PV_assign rfl) ?_
              refine TL_p (PV_assign rfl) ?_
              refine TL_nil ?_
              refine T_seq ?_
              refine T_region ?_
              refine TL_p (PV_move rfl) ?_
              refine TL_p (PV_move rfl) ?_
              refine TL_yes rfl rfl rfl (TO_pure rfl (PV_move rfl) ?_)
              refine TL_yes rfl rfl rfl (TO_pure rfl (PV_move rfl) ?_)
              refine TL_yes rfl rfl rfl (TO_pure rfl (PV_indexAddr Tryd.underlying99 sz4 rfl rfl rfl (by first | omega | decide | assumption)) ?_)
              refine TL_yes rfl rfl rfl (TO_pure rfl (PV_load Tryd.underlying4 rfl rfl hro) ?_)
              refine TL_yes rfl rfl rfl (TO_pure rfl (PV_not rfl) ?_)
              refine TL_p (PV_pickAnd rfl rfl rfl) ?_
              refine TL_nil ?_
              refine T_then rfl (by rfl) ?_
              refine T_region ?_
              refine TL_p (PV_move rfl) ?_
              refine TL_p (PV_move rfl) ?_
              refine TL_p (PV_indexAddr Tryd.underlying99 sz4 rfl rfl rfl (by first | omega | decide | assumption)) ?_
              refine TL_cons rfl (TO_store1 0 rfl rfl rfl sz4 rfl rfl rfl (by first | exact Nat.le_of_ble_eq_true rfl | (simp; done) | (simp; omega) | omega) ?_)
              refine TL_p (PV_assign rfl) ?_
              refine TL_nil ?_
              refine T_region ?_
              refine TL_p (PV.cast (PV_bin rfl rfl bin_add) e35) ?_
              refine TL_p (PV_move rfl) ?_
              refine TL_nil ?_
              refine ?L151
              case L151 =>
                refine ⟨i + 1, by omega, by omega, by rw [hst]; exact (by repeat (first | exact FrSub.nil _ | refine FrSub.cons rfl ?_)), ?_⟩
                rw [hst, ← bools_set]
                rw [show 0 + i * 1 = i by omega]
                exact Has.of_sub (by repeat (first | exact Sb.r | exact Sb.ar | exact Sb.al | apply Sb.c | apply Sb.d | refine Sb.t ?_))
        · obtain rfl : i = s.length + 1 := by omega
          refine T_seq ?_
          refine T_region ?_
          refine TL_p (PV_bin rfl rfl bin_lss) ?_
          refine TL_nil ?_
          refine T_seq ?_
          refine T_else rfl (by (simp; done)) ?_
          refine T_exit ?_
          refine ?L161
          case L161 =>
            refine ⟨joinP r o (s.length + 1), ⟨hjl _, k, hk2, fun h => by have := hjc.2 h; omega⟩, ?_, (by repeat (first | exact FrSub.nil _ | refine FrSub.cons rfl ?_)), Has.of_sub (by repeat (first | exact Sb.r | exact Sb.ar | exact Sb.al | apply Sb.c | apply Sb.d | refine Sb.t ?_))⟩
            rcases Bool.eq_false_or_eq_true (joinP r o (s.length + 1)).2 with h | h
            · have := hjc.2 h
              show (if _ then _ else _) < (if _ then _ else _)
              rw [if_pos h, if_pos rfl]
              show cntF (joinP r o (s.length + 1)).1 + 1 < cntF o + 1
              omega
            · show (if _ then _ else _) < (if _ then _ else _)
              rw [if_neg (by rw [h]; decide), if_pos rfl]
              omega
theorem TO_many {n : Nat} {fr : Fr} {dst : Option Tmp} {ty : TypeId} {pos : String} {aft : Array Edge} {gd : Option (Nat × Bool)} {K : Fr → List Chunk → Prop} {xs : Array Operand} {ats : Array TypeId} {s : List Int} {r : List Bool → List Bool} {v : Nv} {Hs : List Chunk} {A : Option Addr} {c : Nat} {from_ : List Bool} (hE : ∀ (A : Option Addr) (c : Nat) (from_ : List Bool) (H' : List Chunk), Hs.Sublist H' → Shows (WH w0 B H') A (s.length + 1) 1 (bools from_) → from_.length = s.length + 1 → s.length + 1 ≤ c →
    TCall Tryd.prog w0 B 55 #[v.val, .string (strOfNums s), .slice A (s.length + 1) c] (fun r' H2 => ∃ (A' : Option Addr) (c' : Nat), r' = .slice A' (s.length + 1) c' ∧ s.length + 1 ≤ c' ∧ H2 = .sl (.slice A' (s.length + 1) c') 1 (s.length + 1) (bools (r from_)) :: H') H') (hd : dOk n dst = true) (hx : evs fr xs.toList = some [v.val, .string (strOfNums s), .slice A (s.length + 1) c]) (hsub : Hs.Sublist H) (hS : Shows (WH w0 B H) A (s.length + 1) 1 (bools from_)) (hl : from_.length = s.length + 1) (hc : s.length + 1 ≤ c)
    (h : ∀ A' c', s.length + 1 ≤ c' → K (frPut dst (.slice A' (s.length + 1) c') fr) (.sl (.slice A' (s.length + 1) c') 1 (s.length + 1) (bools (r from_)) :: H)) : TO Tryd.prog w0 B n ⟨dst, .call { callee := .value (.func 55), args := xs, argTypes := ats }, ty, pos, aft, gd⟩ K fr H := by
  refine TO_call (HR := []) call55 hd hx (by rw [List.append_nil]) (hE A c from_ H hsub hS hl hc) ?_
  rintro v' H' ⟨A', c', rfl, hc', rfl⟩
  rw [List.append_nil]
  exact h A' c' hc'
theorem ends_star {s : List Int} (hs : s.length ≤ 1000) {a : Rx} {x : Nv} {A0 : Option Addr} {c0 : Nat} (h2 : 1 ≤ c0) (hK : Shows (WH w0 B H) A0 1 6 x.cells) (hEa : EndsC w0 B s a x H) : EndsC w0 B s (.star a) ⟨4, S4.zero, A0, 1, c0⟩ H := by
  intro A c from_ H' hsub hS hl hc
  have e13 : Value.int .i64 (((strOfNums s).size : Nat) : Int) = .int .i64 ((s.length : Nat) : Int) := by rw [str_len]
  have e14 : Value.int .i64 (IntKind.i64.wrap (((s.length : Nat) : Int) + 1)) = .int .i64 ((s.length + 1 : Nat) : Int) := wr64n _ (by push_cast; rfl) (by omega)
  refine TCall_shows (hK.mono fun w h => h.sub hsub) (by simp [Nv.cells]) fun ga oa hA hrd => ?_
  subst hA
  have hk0 : RdsK (WH w0 B H') ga (oa + 0 * 6) 6 x.cells := ⟨rfl, fun j v hj => by
    rw [add_plain']
    refine hrd (0 * 6 + j) v ?_ |> fun h => by simpa [Nat.add_assoc] using h
    rw [Nat.zero_mul, Nat.zero_add]
    exact hj⟩
  have hM := many_t (w0 := w0) (B := B) hs hEa
  show TCall Tryd.prog w0 B 41 #[.agg #[.int .i64 4, wv S4.zero.a, wv S4.zero.b, wv S4.zero.c, wv S4.zero.d, .slice (some ⟨ga, oa, none⟩) 1 c0], .string (strOfNums s), .slice A (s.length + 1) c] _ H'
  refine TCall_intro (args := [_, _, _]) Tryd.func41 rfl Tryd.ntmps41 (Nat.le_of_ble_eq_true rfl) ?_
  refine T_seq ?_
  refine T_region ?_
  refine TL_cons rfl (TO_box rfl rfl fun g17001 => ?_)
  refine TL_p (PV_assign rfl) ?_
  refine TL_nil ?_
  refine T_seq ?_
  refine T_region ?_
  refine TL_p (PV_move rfl) ?_
  refine TL_p (PV.cast (PV_len_string Tryd.underlying9 rfl) e13) ?_
  refine TL_p (PV.cast (PV_bin rfl rfl bin_add) e14) ?_
  refine TL_cons rfl (TO_make Tryd.underlying99 zb4 rfl (by omega) (by omega) rfl ⟨_, rfl⟩ ⟨_, rfl⟩ fun g17002 => ?_)
  refine TL_p (PV_assign rfl) ?_
  refine TL_nil ?_
  refine T_seq ?_
  refine T_seq ?_
  refine T_region ?_
  refine TL_p (PV_fieldAddr (D := 0) Tryd.underlying30 rfl sz24 (by decide) rfl rfl) ?_
  refine TL_p (PV_load Tryd.underlying24 rfl rfl (Rd.at 1 rfl rfl)) ?_
  refine TL_nil ?_
  refine T_block ?_
  refine T_seq ?_
  refine T_region ?_
  refine TL_p (PV_bin rfl rfl bin_eql) ?_
  refine TL_p (PV_assign rfl) ?_
  refine TL_nil ?_
  refine T_else rfl (by rfl) ?_
  refine T_seq ?_
  refine T_region ?_
  refine TL_p (PV_bin rfl rfl bin_eql) ?_
  refine TL_p (PV_assign rfl) ?_
  refine TL_nil ?_
  refine T_else rfl (by rfl) ?_
  refine T_seq ?_
  refine T_region ?_
  refine TL_p (PV_bin rfl rfl bin_eql) ?_
  refine TL_p (PV_assign rfl) ?_
  refine TL_nil ?_
  refine T_else rfl (by rfl) ?_
  refine T_seq ?_
  refine T_region ?_
  refine TL_p (PV_bin rfl rfl bin_eql) ?_
  refine TL_p (PV_assign rfl) ?_
  refine TL_nil ?_
  refine T_then rfl (by rfl) ?_
  refine T_seq ?_
  refine T_region ?_
  refine TL_p (PV_fieldAddr (D := 5) Tryd.underlying30 rfl sz28 (by decide) rfl rfl) ?_
  refine TL_p (PV_load Tryd.underlying28 rfl rfl (Rd.at 1 rfl rfl)) ?_
  refine TL_p (PV_indexAddr (i := 0) Tryd.underlying28 sz30 rfl rfl rfl (by first | omega | decide | assumption)) ?_
  refine TL_p (PV_loadAt Tryd.underlying30 rfl sz30 rfl (RdsK.mono hk0 (fun w h => h.sub (by (repeat (first | exact Sb.r | exact Sb.ar | exact Sb.al | apply Sb.d | refine Sb.t ?_)); done)))) ?_
  refine TL_p (PV_move rfl) ?_
  refine TL_p (PV_move rfl) ?_
  refine TL_cons rfl (TO_many hM rfl rfl (hsub.trans (by repeat (first | exact Sb.r | exact Sb.ar | exact Sb.al | apply Sb.d | refine Sb.t ?_))) (hS.mono fun w h => h.sub (by repeat (first | exact Sb.r | exact Sb.ar | exact Sb.al | apply Sb.d | refine Sb.t ?_))) hl hc fun A103 c103 hc103 => ?_)
  refine TL_p (PV_assign rfl) ?_
  refine TL_nil ?_
  refine T_ret ?_
  refine ret_ret (ResV_one rfl rfl) ⟨_, ?zb17004q478, ⟨_, _, rfl, ?sd17004q478_0, rfl⟩⟩
  case sd17004q478_0 => exact hc103
  case zb17004q478 => exact (by (repeat (first | exact Sb.r | exact Sb.ar | exact Sb.al | apply Sb.c | apply Sb.d | refine Sb.t ?_)); done)
theorem ends_t {s : List Int} (hu : U8s s) (hs : s.length ≤ 1000) : ∀ {t : Rx} {v : Nv}, Tr (WH w0 B H) t v → EndsC w0 B s t v H
  | .nothing, v, hv => ends_nothing hs hv
  | .one st, v, hv => ends_one hu hs hv
  | .then_ a b, v, ⟨A, c, x, y, h1, h2, h3, h4, h5⟩ => by
    subst h1
    exact ends_then hs h2 h3 (ends_t hu hs h4) (ends_t hu hs h5)
  | .either a b, v, ⟨A, c, x, y, h1, h2, h3, h4, h5⟩ => by
    subst h1
    exact ends_either hs h2 h3 (ends_t hu hs h4) (ends_t hu hs h5)
  | .star a, v, ⟨A, c, x, h1, h2, h3, h4⟩ => by
    subst h1
    exact ends_star hs h2 h3 (ends_t hu hs h4)
end
end Go.Proofs.YtijpbpnfachlkaaDoor.SL
