import Derived.Test.YtijpbpnfachlkaaDoorP1
/- Patterns: nodes, and the reader's small functions. No statement is proved here. -/
set_option linter.unusedVariables false
set_option linter.unusedSimpArgs false
set_option maxRecDepth 100000
set_option maxHeartbeats 4000000
namespace Go.Proofs.YtijpbpnfachlkaaDoor.SL
open Go Go.RowKit
/-- a node, as a value -/
structure Nv where
  k : Int
  w : S4
  A : Option Addr
  m : Nat
  c : Nat
def Nv.val (v : Nv) : Value := .agg #[.int .i64 v.k, wv v.w.a, wv v.w.b, wv v.w.c, wv v.w.d, .slice v.A v.m v.c]
def Nv.cells (v : Nv) : List Value := [.int .i64 v.k, wv v.w.a, wv v.w.b, wv v.w.c, wv v.w.d, .slice v.A v.m v.c]
def nv0 : Nv := ⟨0, S4.zero, none, 0, 0⟩
/-- a pattern -/
inductive Rx where
  | nothing
  | one (s : S4)
  | then_ (a b : Rx)
  | either (a b : Rx)
  | star (a : Rx)
def Tr (W : World → Prop) : Rx → Nv → Prop
  | .nothing, v => v = nv0
  | .one s, v => v = ⟨1, s, none, 0, 0⟩
  | .then_ a b, v => ∃ (A : Option Addr) (c : Nat) (x y : Nv), v = ⟨2, S4.zero, A, 2, c⟩ ∧ 2 ≤ c ∧ Shows W A 2 6 (x.cells ++ y.cells) ∧ Tr W a x ∧ Tr W b y
  | .either a b, v => ∃ (A : Option Addr) (c : Nat) (x y : Nv), v = ⟨3, S4.zero, A, 2, c⟩ ∧ 2 ≤ c ∧ Shows W A 2 6 (x.cells ++ y.cells) ∧ Tr W a x ∧ Tr W b y
  | .star a, v => ∃ (A : Option Addr) (c : Nat) (x : Nv), v = ⟨4, S4.zero, A, 1, c⟩ ∧ 1 ≤ c ∧ Shows W A 1 6 x.cells ∧ Tr W a x
theorem Tr.mono {W W' : World → Prop} (hw : ∀ w, W' w → W w) : ∀ {t : Rx} {v : Nv}, Tr W t v → Tr W' t v
  | .nothing, v, h => h
  | .one s, v, h => h
  | .then_ a b, v, ⟨A, c, x, y, h1, h2, h3, h4, h5⟩ => ⟨A, c, x, y, h1, h2, h3.mono hw, h4.mono hw, h5.mono hw⟩
  | .either a b, v, ⟨A, c, x, y, h1, h2, h3, h4, h5⟩ => ⟨A, c, x, y, h1, h2, h3.mono hw, h4.mono hw, h5.mono hw⟩
  | .star a, v, ⟨A, c, x, h1, h2, h3, h4⟩ => ⟨A, c, x, h1, h2, h3.mono hw, h4.mono hw⟩
/-- a reader -/
def rdC (g : Nat) (s : List Int) (i : Nat) : Chunk := .own g 2 [.string (strOfNums s), .int .i64 (i : Int)]
def faultV (p : Int) : Value := .iface 77 (.agg #[.int .i64 8, .int .i64 p])
def isB (s : List Int) (i : Nat) (c : Int) : Bool := decide (i < s.length) && (rd s i == c)
/-- what a reader comes to -/
inductive Res (α : Type) where
  | ok (a : α) (i : Nat)
  | bad (p j : Nat)
def pPlain (s : List Int) (i : Nat) : Res Int :=
  if i < s.length then (if rd s i = 92 then (if i + 1 = s.length then .bad i i else .ok (rd s ((i + 1 : Nat) : Int)) (i + 2)) else .ok (rd s i) (i + 1)) else .bad i i
section
variable {w0 : World} {B : Nat} {H X : List Chunk}
section
variable {P : Program} {n : Nat} {W : World → Prop} {fr : Fr} {dst : Option Tmp} {ty : TypeId} {pos : String} {aft : Array Edge} {gd : Option (Nat × Bool)}
theorem PV_buildArr {t e : TypeId} {m es : Nat} {z : Value} (ht : P.underlying t = some (.array m e)) (he : (P.info? e).map (·.size) = some es) (hz : (P.info? t).map (·.zero) = some (some z)) : PV P n W fr ⟨dst, .build t #[], ty, pos, aft, gd⟩ (.agg z.cells) := fun a w hf hw => by
  obtain ⟨i, hi, hz⟩ := Option.map_eq_some_iff.1 hz
  simp only [execOp, Instr.build, Sem.run_bind, zeroValue, typeInfo, run_program, Result.andThen_ok, hi, Sem.run_pure, hz, run_underlying ht, run_sizeOf_of he]
  have e : Instr.fill (fun i => some (i * es, es)) z.cells (Array.map (fun x : Nat × Operand => (x.fst, a.eval x.snd)) #[]).toList = some z.cells := by simp [Instr.fill]
  rw [e]
  rfl
theorem strOfNums_at {l : List Int} {i : Nat} (hl : i < l.length) : (strOfNums l)[i]? = some (UInt8.ofNat (rd l i).toNat) := by
  have e : rd l i = l[i] := by simp [rd, List.getD_eq_getElem?_getD, List.getElem?_eq_getElem hl]
  rw [e]
  unfold strOfNums
  have hs : i < (⟨(l.map fun n => UInt8.ofNat n.toNat).toArray⟩ : ByteArray).size := by simpa [ByteArray.size] using hl
  rw [getElem?_pos _ i hs]
  congr 1
  show (l.map fun n => UInt8.ofNat n.toNat).toArray[i]'_ = _
  simp
theorem PV_indexNums {t : TypeId} {x ix : Operand} {l : List Int} {k : IntKind} {z : Int} {i : Nat} (ht : P.underlying t = some .string) (hx : ev fr x = some (.string (strOfNums l))) (hi : ev fr ix = some (.int k z)) (hzi : z = (i : Int)) (hu : U8s l) (hl : i < l.length) : PV P n W fr ⟨dst, .index t x ix, ty, pos, aft, gd⟩ (.int .u8 (rd l i)) := by
  have h := PV_indexStr (P := P) (n := n) (W := W) (dst := dst) (ty := ty) (pos := pos) (aft := aft) (gd := gd) ht hx hi hzi (strOfNums_at hl)
  have hr := hu.at_ (i : Int)
  have e : ((UInt8.ofNat (rd l i).toNat).toNat : Int) = rd l i := by
    have : (UInt8.ofNat (rd l i).toNat).toNat = (rd l i).toNat % 256 := by simp
    rw [this]
    omega
  rw [e] at h
  exact h
end
theorem Wrap_t (no p : Int) : TCall Tryd.prog w0 B 32 #[.int .i64 no, .int .i64 p] (fun r H' => r = .iface 77 (.agg #[.int .i64 no, .int .i64 p]) ∧ H' = H) H := by
  refine TCall_intro (args := [_, _]) Tryd.func32 rfl Tryd.ntmps32 (Nat.le_of_ble_eq_true rfl) ?_
  refine T_seq ?_
  refine T_region ?_
  refine TL_p (PV_assign rfl) ?_
  refine TL_nil ?_
  refine T_seq ?_
  refine T_region ?_
  refine TL_p (PV_move rfl) ?_
  refine TL_p (PV_move rfl) ?_
  refine TL_p (PV_bld (cs := [_, _]) Tryd.underlying77 pl77 zr77 rfl rfl) ?_
  refine TL_p (PV_makeInterface (by kernel_rfl) rfl) ?_
  refine TL_p (PV_assign rfl) ?_
  refine TL_nil ?_
  refine T_ret ?_
  refine ret_ret (ResV_one rfl rfl) ⟨_, List.Sublist.refl _, ⟨rfl, rfl⟩⟩
theorem more_t {g : Nat} {s : List Int} {i : Nat} : TCall Tryd.prog w0 B 34 #[.pointer (some ⟨g, 0, none⟩)] (fun r H' => r = .bool (decide (i < s.length)) ∧ H' = rdC g s i :: X) (rdC g s i :: X) := by
  have e11 : Value.int .i64 (((strOfNums s).size : Nat) : Int) = .int .i64 ((s.length : Nat) : Int) := by rw [str_len]
  have e12 : Value.bool (decide ((i : Int) < (s.length : Int))) = .bool (decide (i < s.length)) := by congr 1; exact decide_eq_decide.2 (by omega)
  refine TCall_intro (args := [_]) Tryd.func34 rfl Tryd.ntmps34 (Nat.le_of_ble_eq_true rfl) ?_
  refine T_seq ?_
  refine T_region ?_
  refine TL_p (PV_assign rfl) ?_
  refine TL_nil ?_
  refine T_seq ?_
  refine T_drawn (WH _ _ _) mixed (fun w h => h) ?_
  refine TA_p 0 rfl (by kernel_rfl) (PV_move rfl) ?_
  refine TA_p 1 rfl (by kernel_rfl) (PV_nilCheck rfl) ?_
  refine TA_p 2 rfl (by kernel_rfl) (PV_fieldAddr (D := 1) Tryd.underlying71 rfl sz3 (by decide) rfl rfl) ?_
  refine TA_p 3 rfl (by kernel_rfl) (PV_load Tryd.underlying3 rfl rfl (Rd.at 0 rfl rfl)) ?_
  refine TA_p 4 rfl (by kernel_rfl) (PV_move rfl) ?_
  refine TA_p 5 rfl (by kernel_rfl) (PV_nilCheck rfl) ?_
  refine TA_p 6 rfl (by kernel_rfl) (PV_fieldAddr (D := 0) Tryd.underlying71 rfl sz9 (by decide) rfl rfl) ?_
  refine TA_p 7 rfl (by kernel_rfl) (PV_load Tryd.underlying9 rfl rfl (Rd.at 0 rfl rfl)) ?_
  refine TA_p 8 rfl (by kernel_rfl) (PV.cast (PV_len_string Tryd.underlying9 rfl) e11) ?_
  refine TA_p 9 rfl (by kernel_rfl) (PV.cast (PV_bin rfl rfl bin_lss) e12) ?_
  refine TA_p 10 rfl (by kernel_rfl) (PV_assign rfl) ?_
  refine TA_done (by kernel_rfl) ?_
  refine T_ret ?_
  refine ret_ret (ResV_one rfl rfl) ⟨_, List.Sublist.refl _, ⟨rfl, rfl⟩⟩
theorem bad_t {g : Nat} {s : List Int} {i : Nat} : TCall Tryd.prog w0 B 35 #[.pointer (some ⟨g, 0, none⟩)] (fun r H' => r = faultV (i : Int) ∧ H' = rdC g s i :: X) (rdC g s i :: X) := by
  refine TCall_intro (args := [_]) Tryd.func35 rfl Tryd.ntmps35 (Nat.le_of_ble_eq_true rfl) ?_
  refine T_seq ?_
  refine T_region ?_
  refine TL_p (PV_assign rfl) ?_
  refine TL_nil ?_
  refine T_seq ?_
  refine T_region ?_
  refine TL_p (PV_move rfl) ?_
  refine TL_p (PV_nilCheck rfl) ?_
  refine TL_p (PV_fieldAddr (D := 1) Tryd.underlying71 rfl sz3 (by decide) rfl rfl) ?_
  refine TL_p (PV_load Tryd.underlying3 rfl rfl (Rd.at 0 rfl rfl)) ?_
  refine TL_cons rfl (TO_call0 call32 rfl rfl (Wrap_t _ _) ?_)
  rintro v7_3 H7_3 ⟨rfl, rfl⟩
  refine TL_p (PV_assign rfl) ?_
  refine TL_nil ?_
  refine T_ret ?_
  refine ret_ret (ResV_one rfl rfl) ⟨_, List.Sublist.refl _, ⟨rfl, rfl⟩⟩
theorem is_t {g : Nat} {s : List Int} {i : Nat} (c : Int) (hu : U8s s) : TCall Tryd.prog w0 B 45 #[.pointer (some ⟨g, 0, none⟩), .int .u8 c] (fun r H' => r = .bool (isB s i c) ∧ H' = rdC g s i :: X) (rdC g s i :: X) := by
  unfold isB
  by_cases hi : i < s.length
  · rw [decide_eq_true hi]
    have hm : ∀ {w0 : World} {B : Nat} {X : List Chunk}, TCall Tryd.prog w0 B 34 #[.pointer (some ⟨g, 0, none⟩)] (fun r H' => r = .bool true ∧ H' = rdC g s i :: X) (rdC g s i :: X) := fun {w0 B X} => by
      have h := more_t (w0 := w0) (B := B) (X := X) (g := g) (s := s) (i := i)
      rw [decide_eq_true hi] at h
      exact h
    refine TCall_intro (args := [_, _]) Tryd.func45 rfl Tryd.ntmps45 (Nat.le_of_ble_eq_true rfl) ?_
    refine T_seq ?_
    refine T_region ?_
    refine TL_p (PV_assign rfl) ?_
    refine TL_nil ?_
    refine T_seq ?_
    refine T_drawn (WH _ _ _) mixed (fun w h => h) ?_
    refine TA_p 0 rfl (by kernel_rfl) (PV_move rfl) ?_
    refine TA_one 1 (by kernel_rfl) rfl rfl (TO_call0 call34 rfl rfl (hm) ?_)
    rintro v6_3 H6_3 ⟨rfl, rfl⟩
    refine ⟨fun _ h => h, ?_⟩
    refine TA_p 2 rfl (by kernel_rfl) (PV_move rfl) ?_
    refine TA_yes (dd := (some 8)) 3 rfl (by kernel_rfl) (by kernel_rfl) (by kernel_rfl) rfl rfl rfl rfl rfl (PV_move rfl) ?_
    refine TA_yes (dd := (some 9)) 4 rfl (by kernel_rfl) (by kernel_rfl) (by kernel_rfl) rfl rfl rfl rfl rfl (PV_nilCheck rfl) ?_
    refine TA_yes (dd := (some 10)) 5 rfl (by kernel_rfl) (by kernel_rfl) (by kernel_rfl) rfl rfl rfl rfl rfl (PV_fieldAddr (D := 0) Tryd.underlying71 rfl sz9 (by decide) rfl rfl) ?_
    refine TA_yes (dd := (some 11)) 6 rfl (by kernel_rfl) (by kernel_rfl) (by kernel_rfl) rfl rfl rfl rfl rfl (PV_load Tryd.underlying9 rfl rfl (Rd.at 0 rfl rfl)) ?_
    refine TA_yes (dd := (some 12)) 7 rfl (by kernel_rfl) (by kernel_rfl) (by kernel_rfl) rfl rfl rfl rfl rfl (PV_move rfl) ?_
    refine TA_yes (dd := (some 13)) 8 rfl (by kernel_rfl) (by kernel_rfl) (by kernel_rfl) rfl rfl rfl rfl rfl (PV_nilCheck rfl) ?_
    refine TA_yes (dd := (some 14)) 9 rfl (by kernel_rfl) (by kernel_rfl) (by kernel_rfl) rfl rfl rfl rfl rfl (PV_fieldAddr (D := 1) Tryd.underlying71 rfl sz3 (by decide) rfl rfl) ?_
    refine TA_yes (dd := (some 15)) 10 rfl (by kernel_rfl) (by kernel_rfl) (by kernel_rfl) rfl rfl rfl rfl rfl (PV_load Tryd.underlying3 rfl rfl (Rd.at 0 rfl rfl)) ?_
    refine TA_yes (dd := (some 16)) 11 rfl (by kernel_rfl) (by kernel_rfl) (by kernel_rfl) rfl rfl rfl rfl rfl (PV_indexNums Tryd.underlying9 rfl rfl rfl hu hi) ?_
    refine TA_yes (dd := (some 17)) 12 rfl (by kernel_rfl) (by kernel_rfl) (by kernel_rfl) rfl rfl rfl rfl rfl (PV_move rfl) ?_
    refine TA_yes (dd := (some 18)) 13 rfl (by kernel_rfl) (by kernel_rfl) (by kernel_rfl) rfl rfl rfl rfl rfl (PV_bin rfl rfl bin_eql) ?_
    refine TA_p 14 rfl (by kernel_rfl) (PV_pickAnd rfl rfl rfl) ?_
    refine TA_p 15 rfl (by kernel_rfl) (PV_assign rfl) ?_
    refine TA_done (by kernel_rfl) ?_
    refine T_ret ?_
    refine ret_ret (ResV_one rfl rfl) ⟨_, List.Sublist.refl _, ⟨rfl, rfl⟩⟩
  · rw [decide_eq_false hi]
    have hm : ∀ {w0 : World} {B : Nat} {X : List Chunk}, TCall Tryd.prog w0 B 34 #[.pointer (some ⟨g, 0, none⟩)] (fun r H' => r = .bool false ∧ H' = rdC g s i :: X) (rdC g s i :: X) := fun {w0 B X} => by
      have h := more_t (w0 := w0) (B := B) (X := X) (g := g) (s := s) (i := i)
      rw [decide_eq_false hi] at h
      exact h
    refine TCall_intro (args := [_, _]) Tryd.func45 rfl Tryd.ntmps45 (Nat.le_of_ble_eq_true rfl) ?_
    refine T_seq ?_
    refine T_region ?_
    refine TL_p (PV_assign rfl) ?_
    refine TL_nil ?_
    refine T_seq ?_
    refine T_drawn (WH _ _ _) mixed (fun w h => h) ?_
    refine TA_p 0 rfl (by kernel_rfl) (PV_move rfl) ?_
    refine TA_one 1 (by kernel_rfl) rfl rfl (TO_call0 call34 rfl rfl (hm) ?_)
    rintro v6_1003 H6_1003 ⟨rfl, rfl⟩
    refine ⟨fun _ h => h, ?_⟩
    refine TA_p 2 rfl (by kernel_rfl) (PV_move rfl) ?_
    refine TA_no (dd := (some 8)) (b := false) 3 rfl (by kernel_rfl) (by kernel_rfl) (by kernel_rfl) rfl rfl rfl rfl rfl ?_
    refine TA_no (dd := (some 9)) (b := false) 4 rfl (by kernel_rfl) (by kernel_rfl) (by kernel_rfl) rfl rfl rfl rfl rfl ?_
    refine TA_no (dd := (some 10)) (b := false) 5 rfl (by kernel_rfl) (by kernel_rfl) (by kernel_rfl) rfl rfl rfl rfl rfl ?_
    refine TA_no (dd := (some 11)) (b := false) 6 rfl (by kernel_rfl) (by kernel_rfl) (by kernel_rfl) rfl rfl rfl rfl rfl ?_
    refine TA_no (dd := (some 12)) (b := false) 7 rfl (by kernel_rfl) (by kernel_rfl) (by kernel_rfl) rfl rfl rfl rfl rfl ?_
    refine TA_no (dd := (some 13)) (b := false) 8 rfl (by kernel_rfl) (by kernel_rfl) (by kernel_rfl) rfl rfl rfl rfl rfl ?_
    refine TA_no (dd := (some 14)) (b := false) 9 rfl (by kernel_rfl) (by kernel_rfl) (by kernel_rfl) rfl rfl rfl rfl rfl ?_
    refine TA_no (dd := (some 15)) (b := false) 10 rfl (by kernel_rfl) (by kernel_rfl) (by kernel_rfl) rfl rfl rfl rfl rfl ?_
    refine TA_no (dd := (some 16)) (b := false) 11 rfl (by kernel_rfl) (by kernel_rfl) (by kernel_rfl) rfl rfl rfl rfl rfl ?_
    refine TA_no (dd := (some 17)) (b := false) 12 rfl (by kernel_rfl) (by kernel_rfl) (by kernel_rfl) rfl rfl rfl rfl rfl ?_
    refine TA_no (dd := (some 18)) (b := false) 13 rfl (by kernel_rfl) (by kernel_rfl) (by kernel_rfl) rfl rfl rfl rfl rfl ?_
    refine TA_p 14 rfl (by kernel_rfl) (PV_pickF rfl (by first | assumption | rfl | (simp; done) | (simp; omega) | (simp [*]; done) | (simp [*]; omega)) rfl rfl) ?_
    refine TA_p 15 rfl (by kernel_rfl) (PV_assign rfl) ?_
    refine TA_done (by kernel_rfl) ?_
    refine T_ret ?_
    refine ret_ret (ResV_one rfl rfl) ⟨_, List.Sublist.refl _, ⟨rfl, rfl⟩⟩
end
end Go.Proofs.YtijpbpnfachlkaaDoor.SL
