import Derived.Test.YtijpbpnfachlkaaDoorX5
import Derived.Test.YtijpbpnfachlkaaDoorM1
/- Each node of a pattern has what its kind has: what the laws' right answers. No statement is proved here. -/
set_option linter.unusedVariables false
set_option linter.unusedSimpArgs false
set_option maxRecDepth 100000
set_option maxHeartbeats 8000000
namespace Go.Proofs.YtijpbpnfachlkaaDoor.SL
open Go Go.RowKit
def eK (x v : Int) (b : Nat) : MapEntry := ⟨.int .i64 x, .int .i64 v, b⟩
def kE0 : Array MapEntry := #[]
def kE1 : Array MapEntry := #[eK 2 2 0]
def kE2 : Array MapEntry := #[eK 2 2 0, eK 3 2 1]
def kE3 : Array MapEntry := #[eK 2 2 0, eK 3 2 1, eK 4 1 2]
def isMap (es : Array MapEntry) (clock : Nat) (o : Obj) : Prop := o = .map es clock
noncomputable def kK : KeyFam Tryd.prog 24 Nat := natFam Tryd.underlying24
theorem okK {x : Nat} (h : x ≤ 1000000000000) : kK.ok x := h
theorem kK_key {es : Array MapEntry} (h : ∀ y ∈ es.toList, ∃ a : Nat, a ≤ 1000 ∧ y.key = .int .i64 (a : Int)) : ∀ y ∈ es.toList, ∃ l, keyOf Tryd.prog 24 y.key = some l := fun y hy => by
  obtain ⟨a, ha, e⟩ := h y hy
  exact ⟨_, by rw [e]; exact kK.key (okK (by omega))⟩
theorem run_mapPut {w : World} {g clock : Nat} {es : Array MapEntry} (hb : w.heap[g]? = some (.map es clock)) (h : ∀ y ∈ es.toList, ∃ a : Nat, a ≤ 1000 ∧ y.key = .int .i64 (a : Int)) {x : Nat} (hx : x ≤ 1000) (hn : ∀ y ∈ es.toList, y.key ≠ .int .i64 (x : Int)) (hl : es.size < 1000) (v : Value) :
    (Instr.mapUpdate 79 (.map (some g)) (.int .i64 (x : Int)) v).run Tryd.prog w = .ok () (ChangeMaps.setBlock w g (.map (es.push ⟨.int .i64 (x : Int), v, clock⟩) (clock + 1))) := by
  have hkey := kK.key (okK (x := x) (by omega))
  have hK := kK.law
  rcases hK.find w hkey es.toList (kK_key h) with ⟨h1, h2⟩ | ⟨j, e0, h1, h2, h3⟩
  · have h1' : (Instr.findKey 24 (.int .i64 (x : Int)) es.toList).run Tryd.prog w = .ok none w := h1
    have hc : (Instr.checkKey false 10000 24 (.int .i64 (x : Int))).run Tryd.prog w = .ok () w := hK.check w false hkey
    simp [Instr.mapUpdate, run_underlying Tryd.underlying79, MapKept.run_getObj_map hb, hc, h1', MapKept.run_setObj_map _ hb, Result.andThen, ChangeMaps.setBlock]
  · exact absurd h3 (hn e0 (List.mem_of_getElem? h2))
section
variable {w0 : World} {B n : Nat} {fr : Fr} {H : List Chunk} {dst : Option Tmp} {ty : TypeId} {pos : String} {aft : Array Edge} {gd : Option (Nat × Bool)} {K : Fr → List Chunk → Prop}
theorem TO_makeC {P : Program} {t : TypeId} (hd : dOk n dst = true) (h : ∀ g, K (frPut dst (.map (some g)) fr) (.ob g (isMap kE0 0) :: H)) : TO P w0 B n ⟨dst, .makeMap t none, ty, pos, aft, gd⟩ K fr H := by
  intro HX a w Q hf hr
  have hrun : (Instr.makeMap t none).run P w = .ok (.map (some w.heap.size)) (w.alloc (.map #[] 0)) := rfl
  simp only [Oper.wp, execOp, Option.map_none, Sem.run_bind, hrun, Result.andThen_ok, Sem.run_pure, Oper.upon]
  exact ⟨_, _, h w.heap.size, hf.put hd _, hr.newOb (I := isMap kE0 0) _ rfl⟩
theorem TO_insC {mo xo vo : Operand} {g clock : Nat} {es es' : Array MapEntry} (i : Nat) (hi : H[i]? = some (.ob g (isMap es clock))) (h1 : ∀ y ∈ es.toList, ∃ a : Nat, a ≤ 1000 ∧ y.key = .int .i64 (a : Int)) {x : Nat} (hx : x ≤ 1000) (hn : ∀ y ∈ es.toList, y.key ≠ .int .i64 (x : Int)) (hl : es.size < 1000) {v : Value} (he : es.push ⟨.int .i64 (x : Int), v, clock⟩ = es') (hd : dOk n dst = true)
    (hm : ev fr mo = some (.map (some g))) (hk : ev fr xo = some (.int .i64 (x : Int))) (hv : ev fr vo = some v) (h : K (frPut dst undef fr) (H.set i (.ob g (isMap es' (clock + 1))))) : TO Tryd.prog w0 B n ⟨dst, .insert 79 mo xo vo, ty, pos, aft, gd⟩ K fr H := by
  intro HX a w Q hf hr
  obtain ⟨o, hb, ho⟩ := ob_at hi hr
  unfold isMap at ho
  subst ho
  have hrun := run_mapPut hb h1 hx hn hl v
  obtain ⟨g1, g2, g3⟩ := grownBy_setBlock (o' := .map (es.push ⟨.int .i64 (x : Int), v, clock⟩) (clock + 1)) hb
  simp only [Oper.wp, execOp, hf.ev hm, hf.ev hk, hf.ev hv]
  rw [Sem.run_bind, hrun]
  simp only [Result.andThen_ok, Sem.run_pure, Oper.upon]
  exact ⟨_, _, h, hf.put hd _, hr.turnOb i hi g1 g2 ⟨_, g3, by rw [he]; rfl⟩⟩
theorem TO_insC0 {mo xo vo : Operand} {g : Nat} (i : Nat) (hi : H[i]? = some (.ob g (isMap kE0 0))) (hd : dOk n dst = true) (hm : ev fr mo = some (.map (some g))) (hk : ev fr xo = some (.int .i64 2)) (hv : ev fr vo = some (.int .i64 2)) (h : K (frPut dst undef fr) (H.set i (.ob g (isMap kE1 1)))) : TO Tryd.prog w0 B n ⟨dst, .insert 79 mo xo vo, ty, pos, aft, gd⟩ K fr H :=
  TO_insC (x := 2) i hi (by simp [kE0]) (by omega) (by simp [kE0]) (by decide) rfl hd hm hk hv h
theorem TO_insC1 {mo xo vo : Operand} {g : Nat} (i : Nat) (hi : H[i]? = some (.ob g (isMap kE1 1))) (hd : dOk n dst = true) (hm : ev fr mo = some (.map (some g))) (hk : ev fr xo = some (.int .i64 3)) (hv : ev fr vo = some (.int .i64 2)) (h : K (frPut dst undef fr) (H.set i (.ob g (isMap kE2 2)))) : TO Tryd.prog w0 B n ⟨dst, .insert 79 mo xo vo, ty, pos, aft, gd⟩ K fr H :=
  TO_insC (x := 3) i hi (by simp only [kE1, List.mem_singleton, forall_eq]; exact ⟨2, by omega, rfl⟩) (by omega) (by simp [kE1, eK]) (by decide) rfl hd hm hk hv h
theorem TO_insC2 {mo xo vo : Operand} {g : Nat} (i : Nat) (hi : H[i]? = some (.ob g (isMap kE2 2))) (hd : dOk n dst = true) (hm : ev fr mo = some (.map (some g))) (hk : ev fr xo = some (.int .i64 4)) (hv : ev fr vo = some (.int .i64 1)) (h : K (frPut dst undef fr) (H.set i (.ob g (isMap kE3 3)))) : TO Tryd.prog w0 B n ⟨dst, .insert 79 mo xo vo, ty, pos, aft, gd⟩ K fr H :=
  TO_insC (x := 4) i hi (by simp only [kE2, List.mem_cons, List.not_mem_nil, or_false, forall_eq_or_imp, forall_eq]; exact ⟨⟨2, by omega, rfl⟩, ⟨3, by omega, rfl⟩⟩) (by omega) (by simp [kE2, eK]) (by decide) rfl hd hm hk hv h
def kidsOf (k : Nat) : Nat := if k = 2 then 2 else if k = 3 then 2 else if k = 4 then 1 else 0
theorem kE3_keys : ∀ y ∈ kE3.toList, ∃ a : Nat, a ≤ 1000 ∧ y.key = .int .i64 (a : Int) := by
  simp only [kE3, List.mem_cons, List.not_mem_nil, or_false, forall_eq_or_imp, forall_eq]
  exact ⟨⟨2, by omega, rfl⟩, ⟨3, by omega, rfl⟩, ⟨4, by omega, rfl⟩⟩
theorem kE3_val {k : Nat} : ∀ y ∈ kE3.toList, y.key = .int .i64 (k : Int) → y.val = .int .i64 (kidsOf k : Int) := by
  simp only [kE3, List.mem_cons, List.not_mem_nil, or_false, forall_eq_or_imp, forall_eq]
  refine ⟨fun h => ?_, fun h => ?_, fun h => ?_⟩
  · have h2 : (2 : Int) = (k : Int) := (Value.int.inj h).2
    obtain rfl : k = 2 := by omega
    rfl
  · have h2 : (3 : Int) = (k : Int) := (Value.int.inj h).2
    obtain rfl : k = 3 := by omega
    rfl
  · have h2 : (4 : Int) = (k : Int) := (Value.int.inj h).2
    obtain rfl : k = 4 := by omega
    rfl
theorem kE3_miss {k : Nat} (h : ∀ y ∈ kE3.toList, y.key ≠ .int .i64 (k : Int)) : kidsOf k = 0 := by
  simp only [kE3, List.mem_cons, List.not_mem_nil, or_false, forall_eq_or_imp, forall_eq, eK, ne_eq, Value.int.injEq, true_and] at h
  unfold kidsOf
  rw [if_neg (by omega), if_neg (by omega), if_neg (by omega)]
theorem PV_lookC {mo xo : Operand} {g k : Nat} (i : Nat) (hi : H[i]? = some (.ob g (isMap kE3 3))) (hk1 : k ≤ 1000) (hm : ev fr mo = some (.map (some g))) (hk : ev fr xo = some (.int .i64 (k : Int))) : PV Tryd.prog n (WH w0 B H) fr ⟨dst, .lookup 79 mo xo false, ty, pos, aft, gd⟩ (.int .i64 (kidsOf k : Int)) := fun a w hf hw => by
  obtain ⟨HX, hr⟩ := hw
  obtain ⟨o, hb, ho⟩ := ob_at hi hr
  unfold isMap at ho
  subst ho
  have hz' : (zeroValue 3).run Tryd.prog w = .ok (.int .i64 0) w := by
    obtain ⟨i, hi, hz⟩ := Option.map_eq_some_iff.1 zr3
    simp [zeroValue, typeInfo, hi, hz]
  have hkey := kK.key (okK (x := k) (by omega))
  have hK := kK.law
  have hc : ∀ em, (Instr.checkKey em 10000 24 (.int .i64 (k : Int))).run Tryd.prog w = .ok () w := fun em => hK.check w em hkey
  have hrun : (Instr.lookup 79 (.map (some g)) (.int .i64 (k : Int)) false).run Tryd.prog w = .ok (.int .i64 (kidsOf k : Int)) w := by
    rcases hK.find w hkey kE3.toList (kK_key kE3_keys) with ⟨h1, h2⟩ | ⟨j, e0, h1, h2, h3⟩
    · have h1' : (Instr.findKey 24 (.int .i64 (k : Int)) kE3.toList).run Tryd.prog w = .ok none w := h1
      rw [kE3_miss h2]
      simp [Instr.lookup, run_underlying Tryd.underlying79, MapKept.run_getObj_map hb, hc, h1', hz', Result.andThen]
    · have h1' : (Instr.findKey 24 (.int .i64 (k : Int)) kE3.toList).run Tryd.prog w = .ok (some (j, e0.val)) w := h1
      rw [← kE3_val e0 (List.mem_of_getElem? h2) h3]
      simp [Instr.lookup, run_underlying Tryd.underlying79, MapKept.run_getObj_map hb, hc, h1', Result.andThen]
  simp only [execOp, hf.ev hm, hf.ev hk]
  rw [Sem.run_bind, hrun]
  simp only [Result.andThen_ok, Sem.run_pure]
end
section
variable {w0 : World} {B n : Nat} {H : List Chunk}
theorem right_one (st : S4) : TCall Tryd.prog w0 B 19 #[.agg #[.int .i64 1, wv st.a, wv st.b, wv st.c, wv st.d, .slice none 0 0]] (fun r H' => r = .bool true ∧ H' = H) H := by
  refine TCall_intro (args := [_]) Tryd.func19 rfl Tryd.ntmps19 (Nat.le_of_ble_eq_true rfl) ?_
  refine T_seq ?_
  refine T_region ?_
  refine TL_cons rfl (TO_box rfl rfl fun g1 => ?_)
  refine TL_p (PV_assign rfl) ?_
  refine TL_nil ?_
  refine T_seq ?_
  refine T_region ?_
  refine TL_cons rfl (TO_makeC rfl fun g6 => ?_)
  refine TL_cons rfl (TO_insC0 0 rfl rfl rfl rfl rfl ?_)
  refine TL_cons rfl (TO_insC1 0 rfl rfl rfl rfl rfl ?_)
  refine TL_cons rfl (TO_insC2 0 rfl rfl rfl rfl rfl ?_)
  refine TL_p (PV_move rfl) ?_
  refine TL_p (PV_fieldAddr (D := 0) Tryd.underlying30 rfl sz24 (by decide) rfl rfl) ?_
  refine TL_p (PV_load Tryd.underlying24 rfl rfl (Rd.at 1 rfl rfl)) ?_
  refine TL_p (PV_lookC (k := 1) 0 rfl (by omega) rfl rfl) ?_
  refine TL_p (PV_assign rfl) ?_
  refine TL_nil ?_
  refine T_seq ?_
  refine T_seq ?_
  refine T_region ?_
  refine TL_p (PV_fieldAddr (D := 5) Tryd.underlying30 rfl sz28 (by decide) rfl rfl) ?_
  refine TL_p (PV_load Tryd.underlying28 rfl rfl (Rd.at 1 rfl rfl)) ?_
  refine TL_p (PV_len_slice Tryd.underlying28 rfl) ?_
  refine TL_p (PV_move rfl) ?_
  refine TL_p (PV_bin rfl rfl bin_neq) ?_
  refine TL_p (PV_move rfl) ?_
  refine TL_yes rfl rfl rfl (TO_pure rfl (PV_fieldAddr (D := 0) Tryd.underlying30 rfl sz24 (by decide) rfl rfl) ?_)
  refine TL_yes rfl rfl rfl (TO_pure rfl (PV_load Tryd.underlying24 rfl rfl (Rd.at 1 rfl rfl)) ?_)
  refine TL_yes rfl rfl rfl (TO_pure rfl (PV_bin rfl rfl bin_neq) ?_)
  refine TL_yes rfl rfl rfl (TO_pure rfl (PV_move rfl) ?_)
  refine TL_no (b := false) rfl rfl rfl rfl ?_
  refine TL_no (b := false) rfl rfl rfl rfl ?_
  refine TL_no (b := false) rfl rfl rfl rfl ?_
  refine TL_no (b := false) rfl rfl rfl rfl ?_
  refine TL_yes rfl rfl rfl (TO_pure rfl (PV_pickF rfl (by first | assumption | rfl | (simp; done) | (simp; omega) | (simp [*]; done) | (simp [*]; omega)) rfl rfl) ?_)
  refine TL_p (PV_pickOr rfl rfl rfl) ?_
  refine TL_p (PV_move rfl) ?_
  refine TL_yes rfl rfl rfl (TO_pure rfl (PV_fieldAddr (D := 0) Tryd.underlying30 rfl sz24 (by decide) rfl rfl) ?_)
  refine TL_yes rfl rfl rfl (TO_pure rfl (PV_load Tryd.underlying24 rfl rfl (Rd.at 1 rfl rfl)) ?_)
  refine TL_yes rfl rfl rfl (TO_pure rfl (PV_bin rfl rfl bin_lss) ?_)
  refine TL_p (PV_pickOr rfl rfl rfl) ?_
  refine TL_p (PV_move rfl) ?_
  refine TL_yes rfl rfl rfl (TO_pure rfl (PV_fieldAddr (D := 0) Tryd.underlying30 rfl sz24 (by decide) rfl rfl) ?_)
  refine TL_yes rfl rfl rfl (TO_pure rfl (PV_load Tryd.underlying24 rfl rfl (Rd.at 1 rfl rfl)) ?_)
  refine TL_yes rfl rfl rfl (TO_pure rfl (PV_bin rfl rfl bin_gtr) ?_)
  refine TL_p (PV_pickOr rfl rfl rfl) ?_
  refine TL_nil ?_
  refine T_else rfl (by rfl) ?_
  refine T_skip ?_
  refine T_seq ?_
  refine T_seq ?_
  refine T_region ?_
  refine TL_p (PV_fieldAddr (D := 5) Tryd.underlying30 rfl sz28 (by decide) rfl rfl) ?_
  refine TL_p (PV_load Tryd.underlying28 rfl rfl (Rd.at 1 rfl rfl)) ?_
  refine TL_p (PV_len_slice Tryd.underlying28 rfl) ?_
  refine TL_p (PV_move rfl) ?_
  refine TL_nil ?_
  refine T_block ?_
  refine ?L1
  case L1 =>
    refine T_loopP1 (fun (j : Nat) => j = 0) (fun j => 0 - j) (fun j => [(38, .slice none 0 0), (39, .int .i64 0), (40, .int .i64 0)]) (fun j => H) 0 rfl (by repeat (first | exact FrSub.nil _ | refine FrSub.cons rfl ?_)) (Has.of_sub (by repeat (first | exact Sb.r | exact Sb.ar | exact Sb.al | apply Sb.c | apply Sb.d | refine Sb.t ?_))) ?_
    rintro j rfl
    refine T_seq ?_
    refine T_region ?_
    refine TL_p (PV_bin rfl rfl bin_lss) ?_
    refine TL_nil ?_
    refine T_seq ?_
    refine T_else rfl (by rfl) ?_
    refine T_exit ?_
    refine T_seq ?_
    refine T_region ?_
    refine TL_p (PV_assign rfl) ?_
    refine TL_nil ?_
    refine T_ret ?_
    refine ret_ret (ResV_one rfl rfl) ⟨_, List.Sublist.refl _, ⟨rfl, rfl⟩⟩
theorem right_nothing : TCall Tryd.prog w0 B 19 #[.agg #[.int .i64 0, wv S4.zero.a, wv S4.zero.b, wv S4.zero.c, wv S4.zero.d, .slice none 0 0]] (fun r H' => r = .bool true ∧ H' = H) H := by
  refine TCall_intro (args := [_]) Tryd.func19 rfl Tryd.ntmps19 (Nat.le_of_ble_eq_true rfl) ?_
  refine T_seq ?_
  refine T_region ?_
  refine TL_cons rfl (TO_box rfl rfl fun g1 => ?_)
  refine TL_p (PV_assign rfl) ?_
  refine TL_nil ?_
  refine T_seq ?_
  refine T_region ?_
  refine TL_cons rfl (TO_makeC rfl fun g6 => ?_)
  refine TL_cons rfl (TO_insC0 0 rfl rfl rfl rfl rfl ?_)
  refine TL_cons rfl (TO_insC1 0 rfl rfl rfl rfl rfl ?_)
  refine TL_cons rfl (TO_insC2 0 rfl rfl rfl rfl rfl ?_)
  refine TL_p (PV_move rfl) ?_
  refine TL_p (PV_fieldAddr (D := 0) Tryd.underlying30 rfl sz24 (by decide) rfl rfl) ?_
  refine TL_p (PV_load Tryd.underlying24 rfl rfl (Rd.at 1 rfl rfl)) ?_
  refine TL_p (PV_lookC (k := 0) 0 rfl (by omega) rfl rfl) ?_
  refine TL_p (PV_assign rfl) ?_
  refine TL_nil ?_
  refine T_seq ?_
  refine T_seq ?_
  refine T_region ?_
  refine TL_p (PV_fieldAddr (D := 5) Tryd.underlying30 rfl sz28 (by decide) rfl rfl) ?_
  refine TL_p (PV_load Tryd.underlying28 rfl rfl (Rd.at 1 rfl rfl)) ?_
  refine TL_p (PV_len_slice Tryd.underlying28 rfl) ?_
  refine TL_p (PV_move rfl) ?_
  refine TL_p (PV_bin rfl rfl bin_neq) ?_
  refine TL_p (PV_move rfl) ?_
  refine TL_yes rfl rfl rfl (TO_pure rfl (PV_fieldAddr (D := 0) Tryd.underlying30 rfl sz24 (by decide) rfl rfl) ?_)
  refine TL_yes rfl rfl rfl (TO_pure rfl (PV_load Tryd.underlying24 rfl rfl (Rd.at 1 rfl rfl)) ?_)
  refine TL_yes rfl rfl rfl (TO_pure rfl (PV_bin rfl rfl bin_neq) ?_)
  refine TL_yes rfl rfl rfl (TO_pure rfl (PV_move rfl) ?_)
  refine TL_yes rfl rfl rfl (TO_pure rfl (PV_fieldAddr (D := 1) Tryd.underlying30 rfl sz27 (by decide) rfl rfl) ?_)
  refine TL_yes rfl rfl rfl (TO_pure rfl (PV_loadAt Tryd.underlying27 rfl sz27 rfl (Rds.take 1 rfl rfl rfl)) ?_)
  refine TL_yes rfl rfl rfl (TO_pure rfl (PV_buildArr Tryd.underlying27 sz25 zr27) ?_)
  refine TL_yes rfl rfl rfl (TO_pure rfl (PV_bin rfl rfl (bin_set_neq S4.zero)) ?_)
  refine TL_yes rfl rfl rfl (TO_pure rfl (PV_pickAnd rfl rfl rfl) ?_)
  refine TL_p (PV_pickOr rfl rfl rfl) ?_
  refine TL_p (PV_move rfl) ?_
  refine TL_yes rfl rfl rfl (TO_pure rfl (PV_fieldAddr (D := 0) Tryd.underlying30 rfl sz24 (by decide) rfl rfl) ?_)
  refine TL_yes rfl rfl rfl (TO_pure rfl (PV_load Tryd.underlying24 rfl rfl (Rd.at 1 rfl rfl)) ?_)
  refine TL_yes rfl rfl rfl (TO_pure rfl (PV_bin rfl rfl bin_lss) ?_)
  refine TL_p (PV_pickOr rfl rfl rfl) ?_
  refine TL_p (PV_move rfl) ?_
  refine TL_yes rfl rfl rfl (TO_pure rfl (PV_fieldAddr (D := 0) Tryd.underlying30 rfl sz24 (by decide) rfl rfl) ?_)
  refine TL_yes rfl rfl rfl (TO_pure rfl (PV_load Tryd.underlying24 rfl rfl (Rd.at 1 rfl rfl)) ?_)
  refine TL_yes rfl rfl rfl (TO_pure rfl (PV_bin rfl rfl bin_gtr) ?_)
  refine TL_p (PV_pickOr rfl rfl rfl) ?_
  refine TL_nil ?_
  refine T_else rfl (by rfl) ?_
  refine T_skip ?_
  refine T_seq ?_
  refine T_seq ?_
  refine T_region ?_
  refine TL_p (PV_fieldAddr (D := 5) Tryd.underlying30 rfl sz28 (by decide) rfl rfl) ?_
  refine TL_p (PV_load Tryd.underlying28 rfl rfl (Rd.at 1 rfl rfl)) ?_
  refine TL_p (PV_len_slice Tryd.underlying28 rfl) ?_
  refine TL_p (PV_move rfl) ?_
  refine TL_nil ?_
  refine T_block ?_
  refine ?L1
  case L1 =>
    refine T_loopP1 (fun (j : Nat) => j = 0) (fun j => 0 - j) (fun j => [(38, .slice none 0 0), (39, .int .i64 0), (40, .int .i64 0)]) (fun j => H) 0 rfl (by repeat (first | exact FrSub.nil _ | refine FrSub.cons rfl ?_)) (Has.of_sub (by repeat (first | exact Sb.r | exact Sb.ar | exact Sb.al | apply Sb.c | apply Sb.d | refine Sb.t ?_))) ?_
    rintro j rfl
    refine T_seq ?_
    refine T_region ?_
    refine TL_p (PV_bin rfl rfl bin_lss) ?_
    refine TL_nil ?_
    refine T_seq ?_
    refine T_else rfl (by rfl) ?_
    refine T_exit ?_
    refine T_seq ?_
    refine T_region ?_
    refine TL_p (PV_assign rfl) ?_
    refine TL_nil ?_
    refine T_ret ?_
    refine ret_ret (ResV_one rfl rfl) ⟨_, List.Sublist.refl _, ⟨rfl, rfl⟩⟩
theorem right_node (k : Nat) {m : Nat} (hk2 : 2 ≤ k) (hk4 : k ≤ 4) (hkm : kidsOf k = m) (hm : m ≤ 2) {ga oa ca : Nat} {xs : Nat → Nv} (hA : ∀ j, j < m → RdsK (WH w0 B H) ga (oa + j * 6) 6 (xs j).cells)
    (hr : ∀ j, j < m → ∀ H' : List Chunk, H.Sublist H' → TCall Tryd.prog w0 B 19 #[(xs j).val] (fun r H2 => r = .bool true ∧ H2 = H') H') :
    TCall Tryd.prog w0 B 19 #[.agg #[.int .i64 (k : Int), wv S4.zero.a, wv S4.zero.b, wv S4.zero.c, wv S4.zero.d, .slice (some ⟨ga, oa, none⟩) m ca]] (fun r H' => r = .bool true ∧ H' = H) H := by
  have e10 : Value.int .i64 ((kidsOf k : Nat) : Int) = .int .i64 (m : Int) := by rw [hkm]
  have e15 : Value.bool (((m : Nat) : Int) != (m : Int)) = .bool false := by simp
  have e19 : Value.bool ((k : Int) != 1) = .bool true := congrArg Value.bool (by rw [bne_iff_ne]; omega)
  have e30 : Value.bool (decide ((k : Int) < 0)) = .bool false := congrArg Value.bool (decide_eq_false (by omega))
  have e35 : Value.bool (decide ((k : Int) > 4)) = .bool false := congrArg Value.bool (decide_eq_false (by omega))
  refine TCall_intro (args := [_]) Tryd.func19 rfl Tryd.ntmps19 (Nat.le_of_ble_eq_true rfl) ?_
  refine T_seq ?_
  refine T_region ?_
  refine TL_cons rfl (TO_box rfl rfl fun g1 => ?_)
  refine TL_p (PV_assign rfl) ?_
  refine TL_nil ?_
  refine T_seq ?_
  refine T_region ?_
  refine TL_cons rfl (TO_makeC rfl fun g6 => ?_)
  refine TL_cons rfl (TO_insC0 0 rfl rfl rfl rfl rfl ?_)
  refine TL_cons rfl (TO_insC1 0 rfl rfl rfl rfl rfl ?_)
  refine TL_cons rfl (TO_insC2 0 rfl rfl rfl rfl rfl ?_)
  refine TL_p (PV_move rfl) ?_
  refine TL_p (PV_fieldAddr (D := 0) Tryd.underlying30 rfl sz24 (by decide) rfl rfl) ?_
  refine TL_p (PV_load Tryd.underlying24 rfl rfl (Rd.at 1 rfl rfl)) ?_
  refine TL_p (PV.cast (PV_lookC (k := k) 0 rfl (by omega) rfl rfl) e10) ?_
  refine TL_p (PV_assign rfl) ?_
  refine TL_nil ?_
  refine T_seq ?_
  refine T_seq ?_
  refine T_region ?_
  refine TL_p (PV_fieldAddr (D := 5) Tryd.underlying30 rfl sz28 (by decide) rfl rfl) ?_
  refine TL_p (PV_load Tryd.underlying28 rfl rfl (Rd.at 1 rfl rfl)) ?_
  refine TL_p (PV_len_slice Tryd.underlying28 rfl) ?_
  refine TL_p (PV_move rfl) ?_
  refine TL_p (PV.cast (PV_bin rfl rfl bin_neq) e15) ?_
  refine TL_p (PV_move rfl) ?_
  refine TL_yes rfl rfl rfl (TO_pure rfl (PV_fieldAddr (D := 0) Tryd.underlying30 rfl sz24 (by decide) rfl rfl) ?_)
  refine TL_yes rfl rfl rfl (TO_pure rfl (PV_load Tryd.underlying24 rfl rfl (Rd.at 1 rfl rfl)) ?_)
  refine TL_yes rfl rfl rfl (TO_pure rfl (PV.cast (PV_bin rfl rfl bin_neq) e19) ?_)
  refine TL_yes rfl rfl rfl (TO_pure rfl (PV_move rfl) ?_)
  refine TL_yes rfl rfl rfl (TO_pure rfl (PV_fieldAddr (D := 1) Tryd.underlying30 rfl sz27 (by decide) rfl rfl) ?_)
  refine TL_yes rfl rfl rfl (TO_pure rfl (PV_loadAt Tryd.underlying27 rfl sz27 rfl (Rds.take 1 rfl rfl rfl)) ?_)
  refine TL_yes rfl rfl rfl (TO_pure rfl (PV_buildArr Tryd.underlying27 sz25 zr27) ?_)
  refine TL_yes rfl rfl rfl (TO_pure rfl (PV_bin rfl rfl (bin_set_neq S4.zero)) ?_)
  refine TL_yes rfl rfl rfl (TO_pure rfl (PV_pickAnd rfl rfl rfl) ?_)
  refine TL_p (PV_pickOr rfl rfl rfl) ?_
  refine TL_p (PV_move rfl) ?_
  refine TL_yes rfl rfl rfl (TO_pure rfl (PV_fieldAddr (D := 0) Tryd.underlying30 rfl sz24 (by decide) rfl rfl) ?_)
  refine TL_yes rfl rfl rfl (TO_pure rfl (PV_load Tryd.underlying24 rfl rfl (Rd.at 1 rfl rfl)) ?_)
  refine TL_yes rfl rfl rfl (TO_pure rfl (PV.cast (PV_bin rfl rfl bin_lss) e30) ?_)
  refine TL_p (PV_pickOr rfl rfl rfl) ?_
  refine TL_p (PV_move rfl) ?_
  refine TL_yes rfl rfl rfl (TO_pure rfl (PV_fieldAddr (D := 0) Tryd.underlying30 rfl sz24 (by decide) rfl rfl) ?_)
  refine TL_yes rfl rfl rfl (TO_pure rfl (PV_load Tryd.underlying24 rfl rfl (Rd.at 1 rfl rfl)) ?_)
  refine TL_yes rfl rfl rfl (TO_pure rfl (PV.cast (PV_bin rfl rfl bin_gtr) e35) ?_)
  refine TL_p (PV_pickOr rfl rfl rfl) ?_
  refine TL_nil ?_
  refine T_else rfl (by rfl) ?_
  refine T_skip ?_
  refine T_seq ?_
  refine T_seq ?_
  refine T_region ?_
  refine TL_p (PV_fieldAddr (D := 5) Tryd.underlying30 rfl sz28 (by decide) rfl rfl) ?_
  refine TL_p (PV_load Tryd.underlying28 rfl rfl (Rd.at 1 rfl rfl)) ?_
  refine TL_p (PV_len_slice Tryd.underlying28 rfl) ?_
  refine TL_p (PV_move rfl) ?_
  refine TL_nil ?_
  refine T_block ?_
  refine ?L1
  case L1 =>
    refine T_loopP1 (fun (j : Nat) => j ≤ m) (fun j => m - j) (fun j => [(38, .slice (some ⟨ga, oa, none⟩) m ca), (39, .int .i64 (m : Int)), (40, .int .i64 (j : Int))]) (fun j => H) 0 (Nat.zero_le _) (by repeat (first | exact FrSub.nil _ | refine FrSub.cons rfl ?_)) (Has.of_sub (by repeat (first | exact Sb.r | exact Sb.ar | exact Sb.al | apply Sb.c | apply Sb.d | refine Sb.t ?_))) ?_
    rintro j hj
    by_cases hjm : j < m
    · have e47 : Value.int .i64 (IntKind.i64.wrap ((j : Int) + 1)) = .int .i64 ((j + 1 : Nat) : Int) := wr64n _ (by push_cast; rfl) (by omega)
      have hk0 := hA j hjm
      refine T_seq ?_
      refine T_region ?_
      refine TL_p (PV_bin rfl rfl bin_lss) ?_
      refine TL_nil ?_
      refine T_seq ?_
      refine T_then rfl (by exact decide_eq_true (by omega)) ?_
      refine T_skip ?_
      refine T_seq ?_
      refine T_block ?_
      refine T_seq ?_
      refine T_region ?_
      refine TL_p (PV_indexAddr Tryd.underlying28 sz30 rfl rfl rfl (by first | omega | decide | assumption)) ?_
      refine TL_p (PV_loadAt Tryd.underlying30 rfl sz30 rfl hk0) ?_
      refine TL_cons rfl (TO_alloc rfl zr30 fun g1001 => ?_)
      refine TL_cons rfl (TO_store 0 rfl rfl rfl sz30 rfl rfl rfl (all_one rfl) (by first | exact Nat.le_of_ble_eq_true rfl | (simp; done) | (simp; omega) | omega) ?_)
      refine TL_nil ?_
      refine T_seq ?_
      refine T_region ?_
      refine TL_p (PV_loadAt Tryd.underlying30 rfl sz30 rfl (Rds.take 0 rfl rfl rfl)) ?_
      refine TL_cons rfl (TO_eqD call19 (hr j hjm _ (by repeat (first | exact Sb.r | exact Sb.ar | exact Sb.al | apply Sb.d | refine Sb.t ?_))) rfl rfl _ (List.Sublist.refl _) ?_)
      refine TL_p (PV_not rfl) ?_
      refine TL_nil ?_
      refine T_else rfl (by rfl) ?_
      refine T_skip ?_
      refine T_region ?_
      refine TL_p (PV.cast (PV_bin rfl rfl bin_add) e47) ?_
      refine TL_p (PV_move rfl) ?_
      refine TL_nil ?_
      refine ?L11
      all_goals exact ⟨j + 1, by omega, by omega, (by repeat (first | exact FrSub.nil _ | refine FrSub.cons rfl ?_)), Has.of_sub (by repeat (first | exact Sb.r | exact Sb.ar | exact Sb.al | apply Sb.c | apply Sb.d | refine Sb.t ?_))⟩
    · obtain rfl : j = m := by omega
      refine T_seq ?_
      refine T_region ?_
      refine TL_p (PV_bin rfl rfl bin_lss) ?_
      refine TL_nil ?_
      refine T_seq ?_
      refine T_else rfl (by (simp; done)) ?_
      refine T_exit ?_
      refine T_seq ?_
      refine T_region ?_
      refine TL_p (PV_assign rfl) ?_
      refine TL_nil ?_
      refine T_ret ?_
      refine ret_ret (ResV_one rfl rfl) ⟨_, List.Sublist.refl _, ⟨rfl, rfl⟩⟩
theorem Right_t : ∀ {t : Rx} {v : Nv} {H : List Chunk}, Tr (WH w0 B H) t v → TCall Tryd.prog w0 B 19 #[v.val] (fun r H' => r = .bool true ∧ H' = H) H
  | .nothing, v, H, hv => by
    obtain rfl : v = nv0 := hv
    exact right_nothing
  | .one st, v, H, hv => by
    obtain rfl : v = ⟨1, st, none, 0, 0⟩ := hv
    exact right_one st
  | .then_ a b, v, H, ⟨A, c, x, y, hv, _, hS, hx, hy⟩ => by
    subst hv
    refine TCall_shows hS (by simp [Nv.cells]) fun ga oa hA hr => ?_
    subst hA
    refine right_node 2 (m := 2) (by omega) (by omega) rfl (Nat.le_refl 2) (xs := fun j => if j = 0 then x else y) (fun j hj => ?_) (fun j hj => ?_)
    all_goals rcases j with _ | _ | j
    · exact rds_kid hr
    · exact rds_kid2 hr
    · omega
    · exact fun H' hs => Right_t (hx.mono fun w h => h.sub hs)
    · exact fun H' hs => Right_t (hy.mono fun w h => h.sub hs)
    · omega
  | .either a b, v, H, ⟨A, c, x, y, hv, _, hS, hx, hy⟩ => by
    subst hv
    refine TCall_shows hS (by simp [Nv.cells]) fun ga oa hA hr => ?_
    subst hA
    refine right_node 3 (m := 2) (by omega) (by omega) rfl (Nat.le_refl 2) (xs := fun j => if j = 0 then x else y) (fun j hj => ?_) (fun j hj => ?_)
    all_goals rcases j with _ | _ | j
    · exact rds_kid hr
    · exact rds_kid2 hr
    · omega
    · exact fun H' hs => Right_t (hx.mono fun w h => h.sub hs)
    · exact fun H' hs => Right_t (hy.mono fun w h => h.sub hs)
    · omega
  | .star a, v, H, ⟨A, c, x, hv, _, hS, hx⟩ => by
    subst hv
    refine TCall_shows hS (by simp [Nv.cells]) fun ga oa hA hr => ?_
    subst hA
    refine right_node 4 (m := 1) (by omega) (by omega) rfl (by omega) (xs := fun _ => x) (fun j hj => ?_) (fun j hj => ?_)
    all_goals obtain rfl : j = 0 := by omega
    · exact rds_kid (r := []) (by rw [List.append_nil]; exact hr)
    · exact fun H' hs => Right_t (hx.mono fun w h => h.sub hs)
end
end Go.Proofs.YtijpbpnfachlkaaDoor.SL
