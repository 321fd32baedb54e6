import Derived.Test.YtijpbpnfachlkaaDoorN1
/- Tables of patterns: all ends of one lead to all beginnings of another one. No statement is proved here. -/
set_option linter.unusedVariables false
set_option linter.unusedSimpArgs false
set_option maxRecDepth 100000
set_option maxHeartbeats 8000000
namespace Go.Proofs.YtijpbpnfachlkaaDoor.SL
open Go Go.RowKit
section
variable {w0 : World} {B n : Nat} {fr : Fr} {H X : List Chunk} {dst : Option Tmp} {ty : TypeId} {pos : String} {aft : Array Edge} {gd : Option (Nat × Bool)} {K : Fr → List Chunk → Prop} {W : World → Prop}
theorem PV_pair {P : Program} {t e : TypeId} {x y : Operand} {a b : Int} (ht : P.underlying t = some (.array 2 e)) (he : (P.info? e).map (·.size) = some 1) (hz : (P.info? t).map (·.zero) = some (some (.agg #[.int .i64 0, .int .i64 0]))) (hx : ev fr x = some (.int .i64 a)) (hy : ev fr y = some (.int .i64 b)) : PV P n W fr ⟨dst, .build t #[(0, x), (1, y)], ty, pos, aft, gd⟩ (.agg #[.int .i64 a, .int .i64 b]) := fun ac w hf hw => by
  obtain ⟨i, hi, hz⟩ := Option.map_eq_some_iff.1 hz
  simp only [execOp, Instr.build, Sem.run_bind, zeroValue, typeInfo, run_program, Result.andThen_ok, hi, Sem.run_pure, hz, run_underlying ht, run_sizeOf_of he]
  have e : Instr.fill (fun i => some (i * 1, 1)) (Value.agg #[.int .i64 0, .int .i64 0]).cells (Array.map (fun x : Nat × Operand => (x.fst, ac.eval x.snd)) #[(0, x), (1, y)]).toList = some #[.int .i64 a, .int .i64 b] := by
    simp [Instr.fill, hf.ev hx, hf.ev hy, Value.cells]
  rw [e]
  rfl
def mkC (gm : Nat) (sv : Value) (gn : Nat) : Chunk := .own gm 2 [sv, .map (some gn)]
theorem left_step {left left' : Nat → Bool} {x y : Nat} (h : left' y = true ↔ left y = true ∧ y ≠ x) : left' y = (left y && !(y == x)) := by
  by_cases hyx : y = x
  · subst hyx
    cases h2 : left' y with
    | true => exact absurd rfl (h.1 h2).2
    | false => simp
  · rw [show (y == x) = false from by simpa using hyx]
    cases h2 : left y with
    | true => rw [h.2 ⟨h2, hyx⟩]; rfl
    | false => cases h3 : left' y with
      | true => rw [(h.1 h3).1] at h2; cases h2
      | false => rfl
theorem join_t {gm gn nn na nb : Nat} {sv vl vf : Value} {m : Nat × Nat → Bool} {ml mf : Nat → Bool} (hL : MI (WH w0 B X) vl na ml) (hF : MI (WH w0 B X) vf nb mf) (hn : nn + na * nb < 1000000000) :
    TCall Tryd.prog w0 B 52 #[.pointer (some ⟨gm, 0, none⟩), vl, vf] (fun r H' => ∃ (nn' : Nat) (m' : Nat × Nat → Bool), r = .tuple #[] ∧ nn' ≤ nn + na * nb ∧ (∀ x y, kI.ok x → kI.ok y → m' (x, y) = (m (x, y) || (ml x && mf y))) ∧ H' = mkC gm sv gn :: .ob gn (SetP nn' m') :: X) (mkC gm sv gn :: .ob gn (SetP nn m) :: X) := by
  refine TCall_intro (args := [_, _, _]) Tryd.func52 rfl Tryd.ntmps52 (Nat.le_of_ble_eq_true rfl) ?_
  refine T_seq ?_
  refine T_region ?_
  refine TL_p (PV_move rfl) ?_
  refine TL_cons rfl (TO_rangeI hL (fun w h => h.sub (by repeat (first | exact Sb.r | exact Sb.ar | exact Sb.al | apply Sb.d | refine Sb.t ?_))) Tryd.underlying95 rfl rfl fun I9 r9 c9 hR9 hc9 => ?_)
  refine TL_nil ?_
  refine T_block ?_
  refine ?L1
  case L1 =>
    have hc9n : c9 * nb ≤ na * nb := Nat.mul_le_mul_right _ hc9
    refine T_loopP5 (fun (left : Nat → Bool) (cnt : Nat) (last : Option Nat) (n1 : Nat) (m1 : Nat × Nat → Bool) => n1 + cnt * nb ≤ nn + na * nb ∧ ∀ x y, kI.ok x → kI.ok y → m1 (x, y) = (m (x, y) || (ml x && !left x && mf y))) (fun _ cnt _ _ _ => cnt) (fun left cnt last n1 m1 => [(0, .pointer (some ⟨gm, 0, none⟩)), (2, vf), (9, .pointer (some ⟨r9, 0, none⟩))]) (fun left cnt last n1 m1 => .ob r9 (I9 left cnt last) :: mkC gm sv gn :: .ob gn (SetP n1 m1) :: X) ml c9 none nn m ⟨by omega, fun x y hx hy => by cases ml x <;> simp⟩ (by repeat (first | exact FrSub.nil _ | refine FrSub.cons rfl ?_)) (Has.of_sub (by repeat (first | exact Sb.r | exact Sb.ar | exact Sb.al | apply Sb.c | apply Sb.d | refine Sb.t ?_))) ?_
    rintro left cnt last n1 m1 ⟨hn1, hm1⟩
    refine T_seq ?_
    refine T_region ?_
    refine ?L11
    case L11 =>
      refine TL_cons rfl (TO_nextI 0 rfl hR9 (fun w h => h.sub (by repeat (first | exact Sb.r | exact Sb.ar | exact Sb.al | apply Sb.d | refine Sb.t ?_))) rfl rfl (fun hl => ?_) (fun a cnt' left' ha hla hma hc hl' => ?_))
      · have hm2 : ∀ x y, kI.ok x → kI.ok y → m1 (x, y) = (m (x, y) || (ml x && mf y)) := fun x y hx hy => by rw [hm1 x y hx hy, hl x hx]; cases ml x <;> rfl
        have hn2 : n1 ≤ nn + na * nb := by omega
        refine TL_p (PV_extract rfl rfl) ?_
        refine TL_nil ?_
        refine T_seq ?_
        refine T_else rfl (by rfl) ?_
        refine T_exit ?_
        refine ret_normal (ResV_none rfl) ⟨_, ?zb2001q45, ⟨_, _, rfl, hn2, hm2, rfl⟩⟩
        case zb2001q45 => exact (by (repeat (first | exact Sb.r | exact Sb.ar | exact Sb.al | apply Sb.c | apply Sb.d | refine Sb.t ?_)); done)
      · have hcn : (cnt' + 1) * nb ≤ cnt * nb := Nat.mul_le_mul_right _ hc
        rw [Nat.add_mul, Nat.one_mul] at hcn
        refine TL_p (PV_extract rfl rfl) ?_
        refine TL_nil ?_
        refine T_seq ?_
        refine T_then rfl (by rfl) ?_
        refine T_skip ?_
        refine T_block ?_
        refine T_seq ?_
        refine T_region ?_
        refine TL_p (PV_entryI 0 rfl hR9 (fun w h => h.sub (by repeat (first | exact Sb.r | exact Sb.ar | exact Sb.al | apply Sb.d | refine Sb.t ?_))) rfl) ?_
        refine TL_p (PV_extract rfl rfl) ?_
        refine TL_p (PV_assign rfl) ?_
        refine TL_nil ?_
        refine T_seq ?_
        refine T_region ?_
        refine TL_p (PV_move rfl) ?_
        refine TL_cons rfl (TO_rangeI hF (fun w h => h.sub (by repeat (first | exact Sb.r | exact Sb.ar | exact Sb.al | apply Sb.d | refine Sb.t ?_))) Tryd.underlying95 rfl rfl fun I15 r15 c15 hR15 hc15 => ?_)
        refine TL_nil ?_
        refine T_block ?_
        refine ?L31
        case L31 =>
          refine T_loopP5 (fun (l2 : Nat → Bool) (c2 : Nat) (last : Option Nat) (n2 : Nat) (m2 : Nat × Nat → Bool) => n2 + c2 ≤ n1 + nb ∧ ∀ x y, kI.ok x → kI.ok y → m2 (x, y) = (m1 (x, y) || (x == a && mf y && !l2 y))) (fun _ c2 _ _ _ => c2) (fun l2 c2 last n2 m2 => [(0, .pointer (some ⟨gm, 0, none⟩)), (2, vf), (6, .int .i64 (a : Int)), (9, .pointer (some ⟨r9, 0, none⟩)), (15, .pointer (some ⟨r15, 0, none⟩))]) (fun l2 c2 last n2 m2 => .ob r15 (I15 l2 c2 last) :: .ob r9 (I9 left' cnt' (some a)) :: mkC gm sv gn :: .ob gn (SetP n2 m2) :: X) mf c15 none n1 m1 ⟨by omega, fun x y hx hy => by cases mf y <;> simp⟩ (by repeat (first | exact FrSub.nil _ | refine FrSub.cons rfl ?_)) (Has.of_sub (by repeat (first | exact Sb.r | exact Sb.ar | exact Sb.al | apply Sb.c | apply Sb.d | refine Sb.t ?_))) ?_
          rintro l2 c2 last n2 m2 ⟨hn2, hm2⟩
          refine T_seq ?_
          refine T_region ?_
          refine ?L41
          case L41 =>
            refine TL_cons rfl (TO_nextI 0 rfl hR15 (fun w h => h.sub (by repeat (first | exact Sb.r | exact Sb.ar | exact Sb.al | apply Sb.d | refine Sb.t ?_))) rfl rfl (fun hl => ?_) (fun b c2' l2' hb hlb hmb hc2 hl2' => ?_))
            · refine TL_p (PV_extract rfl rfl) ?_
              refine TL_nil ?_
              refine T_seq ?_
              refine T_else rfl (by rfl) ?_
              refine T_exit ?_
              refine ?L51
              case L51 =>
                refine ⟨left', cnt', some a, n2, m2, ⟨by omega, fun x y hx hy => ?_⟩, hc, (by repeat (first | exact FrSub.nil _ | refine FrSub.cons rfl ?_)), Has.of_sub (by repeat (first | exact Sb.r | exact Sb.ar | exact Sb.al | apply Sb.c | apply Sb.d | refine Sb.t ?_))⟩
                rw [hm2 x y hx hy, hl y hy, hm1 x y hx hy, left_step (hl' x hx)]
                by_cases hxa : x = a
                · subst hxa
                  rw [hma, hla]
                  simp
                · rw [show (x == a) = false from by simpa using hxa]
                  simp
            · refine TL_p (PV_extract rfl rfl) ?_
              refine TL_nil ?_
              refine T_seq ?_
              refine T_then rfl (by rfl) ?_
              refine T_skip ?_
              refine T_block ?_
              refine T_seq ?_
              refine T_region ?_
              refine TL_p (PV_entryI 0 rfl hR15 (fun w h => h.sub (by repeat (first | exact Sb.r | exact Sb.ar | exact Sb.al | apply Sb.d | refine Sb.t ?_))) rfl) ?_
              refine TL_p (PV_extract rfl rfl) ?_
              refine TL_p (PV_assign rfl) ?_
              refine TL_nil ?_
              refine T_region ?_
              refine TL_p (PV_move rfl) ?_
              refine TL_p (PV_nilCheck rfl) ?_
              refine TL_p (PV_fieldAddr (D := 1) Tryd.underlying94 rfl sz91 (by decide) rfl rfl) ?_
              refine TL_p (PV_load Tryd.underlying91 rfl rfl (Rd.at 2 rfl rfl)) ?_
              refine TL_p (PV_move rfl) ?_
              refine TL_p (PV_move rfl) ?_
              refine TL_p (PV_pair Tryd.underlying102 sz3 zr102 rfl rfl) ?_
              refine TL_cons rfl (TO_upP 3 rfl Tryd.underlying91 (by omega) (okP ha hb) rfl rfl rfl rfl ?_)
              refine TL_nil ?_
              refine ?L61
              case L61 =>
                refine ⟨l2', c2', some b, n2 + 1, insB m2 (a, b), ⟨by omega, fun x y hx hy => ?_⟩, hc2, (by repeat (first | exact FrSub.nil _ | refine FrSub.cons rfl ?_)), Has.of_sub (by repeat (first | exact Sb.r | exact Sb.ar | exact Sb.al | apply Sb.c | apply Sb.d | refine Sb.t ?_))⟩
                unfold insB
                rw [hm2 x y hx hy, left_step (hl2' y hy)]
                by_cases hxa : x = a
                · subst hxa
                  by_cases hyb : y = b
                  · subst hyb
                    rw [hmb, hlb]
                    simp
                  · rw [show (y == b) = false from by simpa using hyb, show ((x, y) == (x, b)) = false from by simpa using hyb]
                    simp
                · rw [show (x == a) = false from by simpa using hxa, show ((x, y) == (a, b)) = false from by simp [hxa]]
                  simp
end
end Go.Proofs.YtijpbpnfachlkaaDoor.SL
