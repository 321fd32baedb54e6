import Derived.Test.YtcbkcggijejooaaL2
/- A sender and a receiver that talk: what they do. No statement is proved here. -/
set_option linter.unusedVariables false
set_option linter.unusedSimpArgs false
set_option maxRecDepth 100000
set_option maxHeartbeats 8000000
namespace Go.Proofs.Ytcbkcggijejooaa.SL
open Go Go.RowKit
section
variable {w0 : World} {B : Nat} {H X : List Chunk}
/-- the cells of noise -/
def nzCells : List Nz → List Value
  | [] => []
  | z :: zs => .bool z.lost :: .int .i64 z.at_ :: .int .u8 z.by_ :: nzCells zs
theorem nzCells_len : ∀ ns, (nzCells ns).length = ns.length * 3
  | [] => rfl
  | z :: zs => by simp only [nzCells, List.length_cons, nzCells_len zs]; omega
theorem nzCells_get : ∀ (ns : List Nz) (i : Nat) (z : Nz), ns[i]? = some z → (nzCells ns)[i * 3]? = some (.bool z.lost) ∧ (nzCells ns)[i * 3 + 1]? = some (.int .i64 z.at_) ∧ (nzCells ns)[i * 3 + 2]? = some (.int .u8 z.by_)
  | [], i, z, h => by simp at h
  | q :: zs, 0, z, h => by
    simp only [List.getElem?_cons_zero, Option.some.injEq] at h
    subst h
    exact ⟨rfl, rfl, rfl⟩
  | q :: zs, i + 1, z, h => by
    rw [List.getElem?_cons_succ] at h
    have := nzCells_get zs i z h
    rw [show (i + 1) * 3 = i * 3 + 1 + 1 + 1 by omega]
    exact this
/-- where the talk's own count stands -/
def resC (g : Nat) (x : Lk) : Chunk := .own g 6 [.bool x.ov, errV x.e1, errR x.e2, .slice none 0 0, .int .i64 (x.ticks : Int), .int .i64 (x.sent : Int)]
def Lk.mid (x : Lk) (j : Nat) : Sn × List Int := feed ((x.up ++ x.r.tickOut).take j) x.s.tick x.s.tickOut
theorem Lk.mid_full (x : Lk) : x.mid (x.up ++ x.r.tickOut).length = x.fed := by unfold Lk.mid Lk.fed; rw [List.take_length]
theorem Lk.mid_succ (x : Lk) (j : Nat) (h : j < (x.up ++ x.r.tickOut).length) : x.mid (j + 1) = ((x.mid j).1.put (rd (x.up ++ x.r.tickOut) ((0 + j * 1 : Nat) : Int)), (x.mid j).2 ++ (x.mid j).1.putOut (rd (x.up ++ x.r.tickOut) ((0 + j * 1 : Nat) : Int))) := by
  rw [show 0 + j * 1 = j by omega]
  unfold Lk.mid
  generalize x.up ++ x.r.tickOut = l at *
  rw [List.take_add_one, List.getElem?_eq_getElem h]
  have : rd l (j : Nat) = l[j] := by simp [rd, h]
  rw [this]
  exact feed_snoc _ _ _ _
theorem Lk.Fit.mid {qs : List (List Int)} {x : Lk} (h : x.Fit qs) (j : Nat) : (x.mid j).1.Fit ∧ (x.mid j).1.qs = qs ∧ (x.mid j).2.length ≤ 6000 ∧ U8s (x.mid j).2 := by
  have h1 := Sn.tickOut_len h.s
  have h2 := feed_fit ((x.up ++ x.r.tickOut).take j) x.s.tick x.s.tickOut h.s.tick h1.2
  have h3 := Rc.tickOut_len x.r
  have h4 := h.ul
  refine ⟨h2.1, h2.2.1.trans ((Sn.tick_qs x.s).trans h.q), ?_, h2.2.2.2⟩
  have h5 := h2.2.2.1
  rw [List.length_take, List.length_append] at h5
  show (feed ((x.up ++ x.r.tickOut).take j) x.s.tick x.s.tickOut).2.length ≤ 6000
  omega
theorem nz_rds {W : World → Prop} {m : Nat} {ns : List Nz} {ga oa : Nat} (h : Shows W (some ⟨ga, oa, none⟩) m 3 (nzCells ns)) (k : Nat) (z : Nz) (hz : ns[k]? = some z) : RdsK W ga (oa + k * 3) 3 [.bool z.lost, .int .i64 z.at_, .int .u8 z.by_] := by
  obtain ⟨h1, h2, h3⟩ := nzCells_get ns k z hz
  refine ⟨rfl, fun j v hj => ?_⟩
  rw [add_plain']
  match j, hj with
  | 0, hj => cases hj; exact h.rd _ rfl h1
  | 1, hj => cases hj; exact h.rd _ (by omega) h2
  | 2, hj => cases hj; exact h.rd _ (by omega) h3
theorem t80 {gs gr cs bc dc m cn : Nat} {As bA dA An : Option Addr} {ns : List Nz} {qs : List (List Int)} (s : Sn) (r : Rc) (M : Nat) (hF : (Lk.start s r).Fit qs) (hB : SBlk (WH w0 B X) As cs qs) (hN : Shows (WH w0 B X) An m 3 (nzCells ns)) (hm : ns.length = m) (hM : M ≤ 3000) :
    TCall Try.prog w0 B 17 #[.pointer (some ⟨gs, 0, none⟩), .pointer (some ⟨gr, 0, none⟩), .slice An m cn, .int .i64 (M : Int)] (fun v H' => ∃ (A : Option Addr) (k : Nat) (bA' : Option Addr) (bc' : Nat) (dA' : Option Addr) (dc' : Nat), v = .agg #[.bool ((Lk.start s r).run ns M).ov, errV ((Lk.start s r).run ns M).e1, errR ((Lk.start s r).run ns M).e2, .slice A ((Lk.start s r).run ns M).r.dat.length k, .int .i64 ((((Lk.start s r).run ns M).ticks : Nat) : Int), .int .i64 ((((Lk.start s r).run ns M).sent : Nat) : Int)] ∧ ((Lk.start s r).run ns M).r.dat.length ≤ k ∧ H' = byC A k ((Lk.start s r).run ns M).r.dat :: sC gs As cs ((Lk.start s r).run ns M).s :: rcC gr bA' bc' dA' dc' ((Lk.start s r).run ns M).r :: byC bA' bc' ((Lk.start s r).run ns M).r.buf :: byC dA' dc' ((Lk.start s r).run ns M).r.dat :: X)
      (sC gs As cs s :: rcC gr bA bc dA dc r :: byC bA bc r.buf :: byC dA dc r.dat :: X) := by
  have e21 : Value.int .i64 (max 0 (M : Int)) = .int .i64 (M : Int) := congrArg _ (by omega)
  obtain ⟨fin, hfin⟩ : ∃ fin, (Lk.start s r).run ns M = fin := ⟨_, rfl⟩
  rw [hfin]
  refine TCall_intro (args := [_, _, _, _]) Try.func17 rfl Try.ntmps17 (Nat.le_of_ble_eq_true rfl) ?_
  refine T_addNil 1 ?_
  refine T_seq ?_
  refine T_region ?_
  refine TL_cons rfl (TO_alloc rfl zr48 fun g1 => ?_)
  refine TL_nil ?_
  refine T_seq ?_
  refine T_region ?_
  refine TL_cons rfl (TO_alloc rfl zr48 fun g2 => ?_)
  refine TL_nil ?_
  refine T_seq ?_
  refine T_region ?_
  refine TL_pure (d := (some 10)) rfl rfl rfl (PV_assign rfl) ?_
  refine TL_nil ?_
  refine T_seq ?_
  refine T_block ?_
  refine ?L1
  case L1 =>
    refine T_loopP7 (fun (x : Lk) (Au : Option Addr) (ku : Nat) (bA bA' : Option Addr × Nat) (q1 q2 : Unit) => x.Fit qs ∧ x.ticks ≤ M ∧ x.run ns (M - x.ticks) = fin) (fun x _ _ _ _ _ _ => M - x.ticks) (fun x Au ku _ _ _ _ => [(0, .pointer (some ⟨gs, 0, none⟩)), (1, .pointer (some ⟨gr, 0, none⟩)), (2, .slice An m cn), (3, .int .i64 (M : Int)), (8, .pointer (some ⟨g1, 0, none⟩)), (9, .pointer (some ⟨g2, 0, none⟩)), (10, .slice Au x.up.length ku)]) (fun x Au ku b d _ _ => resC g2 x :: byC Au ku x.up :: sC gs As cs x.s :: rcC gr b.1 b.2 d.1 d.2 x.r :: byC b.1 b.2 x.r.buf :: byC d.1 d.2 x.r.dat :: .own g1 6 [.bool false, .nilIface, .nilIface, .slice none 0 0, .int .i64 0, .int .i64 0] :: X) (Lk.start s r) none 0 (bA, bc) (dA, dc) () () ⟨hF, Nat.zero_le _, hfin⟩ (by repeat (first | exact FrSub.nil _ | refine FrSub.cons rfl ?_)) ?_ ?_
    · exact Has.of_perm ((perm_pick (i := 0) rfl).trans (List.Perm.cons _ ((perm_pick (i := 1) rfl).trans (List.Perm.cons _ ((perm_pick (i := 1) rfl).trans (List.Perm.cons _ ((perm_pick (i := 1) rfl).trans (List.Perm.cons _ ((perm_pick (i := 1) rfl).trans (List.Perm.cons _ ((perm_pick (i := 1) rfl).trans (List.Perm.cons _ ((perm_pick (i := 0) rfl).trans (List.Perm.cons _ (List.Perm.refl _))))))))))))))) (by repeat (first | exact List.Sublist.refl _ | exact List.sublist_append_right _ _ | exact List.sublist_append_left _ _ | apply List.Sublist.cons_cons | apply List.Sublist.cons | refine List.Sublist.trans ?_ (List.sublist_append_left _ _)))
    · rintro x Au ku ⟨bA', bc'⟩ ⟨dA', dc'⟩ ⟨⟩ ⟨⟩ ⟨hx, hxM, hxf⟩
      have hs := hx.s
      have hq := hx.q
      have hr := hx.r
      have hrl0 := hr.l0
      have hrl1 := hr.l1
      have hrt0 := hr.t0
      have hrt1 := hr.t1
      have hrdl := hr.dl
      have hrbl := hr.bl
      have hrb0 := hr.b0
      have hrb1 := hr.b1
      have hrn0 := hr.n0
      have hrn1 := hr.n1
      have hul := hx.ul
      have huu := hx.uu
      have hsl := hx.sl
      have hBs : SBlk (WH w0 B X) As cs x.s.qs := by rw [hq]; exact hB
      by_cases hlt : x.ticks < M
      · cases hov : x.isOver with
        | true =>
          have hfin2 : fin = { x with ov := true, e1 := x.s.err, e2 := x.r.err } := by
            rw [← hxf, show M - x.ticks = (M - x.ticks - 1) + 1 by omega]
            show (if x.isOver = true then _ else _) = _
            rw [if_pos hov]
          unfold Lk.isOver at hov
          have eov : Value.bool (x.s.phase == 3 && x.r.over) = .bool true := congrArg _ hov
          have hov1 : (x.s.phase == 3) = true := by cases h : (x.s.phase == 3) <;> simp_all
          have hov2 : x.r.over = true := by cases h : x.r.over <;> simp_all
          rw [hfin2]
          refine T_seq ?_
          refine T_seq ?_
          refine T_region ?_
          refine TL_pure (d := (some 18)) rfl rfl rfl (PV_fieldAddr (D := 4) Try.underlying48 rfl sz3 (by decide) rfl rfl) ?_
          refine TL_pure (d := (some 19)) rfl rfl rfl (PV_load Try.underlying3 rfl rfl (Rd.at 0 rfl rfl)) ?_
          refine TL_pure (d := (some 20)) rfl rfl rfl (PV_move rfl) ?_
          refine TL_pure (d := (some 21)) rfl rfl rfl (PV.cast (PV_max rfl rfl) e21) ?_
          refine TL_pure (d := (some 22)) rfl rfl rfl (PV_bin rfl rfl bin_lss) ?_
          refine TL_nil ?_
          refine T_then rfl (by exact decide_eq_true (by omega)) ?_
          refine T_skip ?_
          refine T_block ?_
          refine T_seq ?_
          refine T_region ?_
          refine TL_pure (d := (some 24)) rfl rfl rfl (PV_move rfl) ?_
          refine TL_perm ((perm_pick (i := 2) rfl).trans (List.Perm.cons _ (List.Perm.refl _))) ?_
          refine TL_cons rfl (TO_call0 call22 rfl rfl (t61 (s := x.s)) ?_)
          rintro v25_1003 H25_1003 ⟨rfl, rfl⟩
          refine TL_pure (d := (some 23)) rfl rfl rfl (PV_move rfl) ?_
          refine TL_pure (d := (some 26)) rfl rfl rfl (PV_extract rfl rfl) ?_
          refine TL_pure (d := (some 27)) rfl rfl rfl (PV_extract rfl rfl) ?_
          refine TL_pure (d := (some 11)) rfl rfl rfl (PV_assign rfl) ?_
          refine TL_pure (d := (some 12)) rfl rfl rfl (PV_assign rfl) ?_
          refine TL_nil ?_
          refine T_seq ?_
          refine T_region ?_
          refine TL_pure (d := (some 29)) rfl rfl rfl (PV_move rfl) ?_
          refine TL_perm ((perm_pick (i := 3) rfl).trans (List.Perm.cons _ (List.Perm.refl _))) ?_
          refine TL_cons rfl (TO_call0 call30 rfl rfl (t78 (r := x.r)) ?_)
          rintro v30_1006 H30_1006 ⟨rfl, rfl⟩
          refine TL_pure (d := (some 28)) rfl rfl rfl (PV_move rfl) ?_
          refine TL_pure (d := (some 31)) rfl rfl rfl (PV_extract rfl rfl) ?_
          refine TL_pure (d := (some 32)) rfl rfl rfl (PV_extract rfl rfl) ?_
          refine TL_pure (d := (some 13)) rfl rfl rfl (PV_assign rfl) ?_
          refine TL_pure (d := (some 14)) rfl rfl rfl (PV_assign rfl) ?_
          refine TL_nil ?_
          refine T_seq ?_
          refine T_region ?_
          refine TL_pure (d := (some 33)) rfl rfl rfl (PV_move rfl) ?_
          refine TL_pure (d := (some 34)) rfl rfl rfl (PV_move rfl) ?_
          refine TL_pure (d := (some 35)) rfl rfl rfl (PV_fieldAddr (D := 1) Try.underlying48 rfl sz46 (by decide) rfl rfl) ?_
          refine TL_cons rfl (TO_store1 2 rfl rfl rfl sz46 rfl rfl (errV_one _) (by first | exact Nat.le_of_ble_eq_true rfl | (simp; done) | (simp; omega) | omega) ?_)
          refine TL_pure (d := (some 36)) rfl rfl rfl (PV_fieldAddr (D := 2) Try.underlying48 rfl sz46 (by decide) rfl rfl) ?_
          refine TL_cons rfl (TO_store1 2 rfl rfl rfl sz46 rfl rfl (errV_one _) (by first | exact Nat.le_of_ble_eq_true rfl | (simp; done) | (simp; omega) | omega) ?_)
          refine TL_nil ?_
          refine T_seq ?_
          refine T_seq ?_
          refine T_region ?_
          refine TL_pure (d := (some 37)) rfl rfl rfl (PV_move rfl) ?_
          refine TL_pure (d := (some 38)) rfl rfl rfl (PV_move rfl) ?_
          refine TL_yes rfl rfl (gtrue (by with_reducible assumption)) (TO_pure rfl (PV_move rfl) ?_)
          refine TL_pure (d := (some 40)) rfl rfl rfl (PV.cast (PV_pickAnd rfl rfl rfl) eov) ?_
          refine TL_pure (d := (some 41)) rfl rfl rfl (PV_fieldAddr (D := 0) Try.underlying48 rfl sz4 (by decide) rfl rfl) ?_
          refine TL_cons rfl (TO_store1 2 rfl rfl rfl sz4 rfl rfl rfl (by first | exact Nat.le_of_ble_eq_true rfl | (simp; done) | (simp; omega) | omega) ?_)
          refine TL_nil ?_
          refine T_seq ?_
          refine T_region ?_
          refine TL_pure (d := (some 42)) rfl rfl rfl (PV_fieldAddr (D := 0) Try.underlying48 rfl sz4 (by decide) rfl rfl) ?_
          refine TL_pure (d := (some 43)) rfl rfl rfl (PV_load Try.underlying4 rfl rfl (Rd.at 2 rfl rfl)) ?_
          refine TL_nil ?_
          refine T_then rfl (by rfl) ?_
          refine T_exit ?_
          refine T_seq ?_
          refine T_region ?_
          refine TL_pure (d := (some 88)) rfl rfl rfl (PV_move rfl) ?_
          refine TL_perm ((perm_pick (i := 0) rfl).trans (List.Perm.cons _ ((perm_pick (i := 4) rfl).trans (List.Perm.cons _ (List.Perm.refl _))))) ?_
          refine TL_cons rfl (TO_call0 call34 rfl rfl (t77 (r := x.r) ?sd1011q102_0) ?_)
          case sd1011q102_0 => omega
          rintro v89_1012 H89_1012 ⟨A_1012, k_1012, rfl, h_1012_0, rfl⟩
          refine TL_pure (d := (some 90)) rfl rfl rfl (PV_fieldAddr (D := 3) Try.underlying48 rfl sz26 (by decide) rfl rfl) ?_
          refine TL_cons rfl (TO_store1 4 rfl rfl rfl sz26 rfl rfl rfl (by first | exact Nat.le_of_ble_eq_true rfl | (simp; done) | (simp; omega) | omega) ?_)
          refine TL_nil ?_
          refine T_seq ?_
          refine T_region ?_
          refine TL_pure (d := (some 91)) rfl rfl rfl (PV_loadAt Try.underlying48 rfl sz48 rfl (Rds.take 4 rfl rfl rfl)) ?_
          refine TL_cons rfl (TO_store 7 rfl rfl rfl sz48 rfl rfl rfl (List.forall_mem_cons.2 ⟨by first | rfl | exact errV_one _ | exact errR_one _, List.forall_mem_cons.2 ⟨by first | rfl | exact errV_one _ | exact errR_one _, List.forall_mem_cons.2 ⟨by first | rfl | exact errV_one _ | exact errR_one _, List.forall_mem_cons.2 ⟨by first | rfl | exact errV_one _ | exact errR_one _, List.forall_mem_cons.2 ⟨by first | rfl | exact errV_one _ | exact errR_one _, List.forall_mem_cons.2 ⟨by first | rfl | exact errV_one _ | exact errR_one _, by simp⟩⟩⟩⟩⟩⟩) (by first | exact Nat.le_of_ble_eq_true rfl | (simp; done) | (simp; omega) | omega) ?_)
          refine TL_nil ?_
          refine ?L11
          case L11 =>
            refine T.perm ((perm_pick (i := 7) rfl).trans (List.Perm.cons _ ((perm_pick (i := 0) rfl).trans (List.Perm.cons _ ((perm_pick (i := 2) rfl).trans (List.Perm.cons _ ((perm_pick (i := 0) rfl).trans (List.Perm.cons _ ((perm_pick (i := 3) rfl).trans (List.Perm.cons _ ((perm_pick (i := 0) rfl).trans (List.Perm.cons _ (List.Perm.refl _))))))))))))) ?_
            refine T_ret ?_
            refine ret_ret (ResV_c rfl Try.underlying48 rfl sz48 rfl (Rds.take 0 rfl rfl rfl)) ⟨byC A_1012 k_1012 x.r.dat :: sC gs As cs x.s :: rcC gr bA' bc' dA' dc' x.r :: byC bA' bc' x.r.buf :: byC dA' dc' x.r.dat :: X, (by repeat (first | exact List.Sublist.refl _ | exact List.sublist_append_right _ _ | exact List.sublist_append_left _ _ | apply List.Sublist.cons_cons | apply List.Sublist.cons | refine List.Sublist.trans ?_ (List.sublist_append_left _ _))), A_1012, k_1012, bA', bc', dA', dc', rfl, by assumption, rfl⟩
        | false =>
          unfold Lk.isOver at hov
          have eov : Value.bool (x.s.phase == 3 && x.r.over) = .bool false := congrArg _ hov
          have hfit := hx.next ns
          have htl := (Rc.tickOut_len x.r).1
          have hLl : (x.up ++ x.r.tickOut).length ≤ 4 := by rw [List.length_append]; omega
          have hst := (Sn.tickOut_len hs).1
          have hsf := hs.tick
          have hrun : (x.next ns).run ns (M - (x.ticks + 1)) = fin := by
            rw [← hxf, show M - x.ticks = (M - (x.ticks + 1)) + 1 by omega]
            show _ = (if x.isOver = true then _ else _)
            rw [if_neg (by unfold Lk.isOver; rw [hov]; decide)]
          refine T_seq ?_
          refine T_seq ?_
          refine T_region ?_
          refine TL_pure (d := (some 18)) rfl rfl rfl (PV_fieldAddr (D := 4) Try.underlying48 rfl sz3 (by decide) rfl rfl) ?_
          refine TL_pure (d := (some 19)) rfl rfl rfl (PV_load Try.underlying3 rfl rfl (Rd.at 0 rfl rfl)) ?_
          refine TL_pure (d := (some 20)) rfl rfl rfl (PV_move rfl) ?_
          refine TL_pure (d := (some 21)) rfl rfl rfl (PV.cast (PV_max rfl rfl) e21) ?_
          refine TL_pure (d := (some 22)) rfl rfl rfl (PV_bin rfl rfl bin_lss) ?_
          refine TL_nil ?_
          refine T_then rfl (by exact decide_eq_true (by omega)) ?_
          refine T_skip ?_
          refine T_block ?_
          refine T_seq ?_
          refine T_region ?_
          refine TL_pure (d := (some 24)) rfl rfl rfl (PV_move rfl) ?_
          refine TL_perm ((perm_pick (i := 2) rfl).trans (List.Perm.cons _ (List.Perm.refl _))) ?_
          refine TL_cons rfl (TO_call0 call22 rfl rfl (t61 (s := x.s)) ?_)
          rintro v25_2003 H25_2003 ⟨rfl, rfl⟩
          refine TL_pure (d := (some 23)) rfl rfl rfl (PV_move rfl) ?_
          refine TL_pure (d := (some 26)) rfl rfl rfl (PV_extract rfl rfl) ?_
          refine TL_pure (d := (some 27)) rfl rfl rfl (PV_extract rfl rfl) ?_
          refine TL_pure (d := (some 11)) rfl rfl rfl (PV_assign rfl) ?_
          refine TL_pure (d := (some 12)) rfl rfl rfl (PV_assign rfl) ?_
          refine TL_nil ?_
          refine T_seq ?_
          refine T_region ?_
          refine TL_pure (d := (some 29)) rfl rfl rfl (PV_move rfl) ?_
          refine TL_perm ((perm_pick (i := 3) rfl).trans (List.Perm.cons _ (List.Perm.refl _))) ?_
          refine TL_cons rfl (TO_call0 call30 rfl rfl (t78 (r := x.r)) ?_)
          rintro v30_2006 H30_2006 ⟨rfl, rfl⟩
          refine TL_pure (d := (some 28)) rfl rfl rfl (PV_move rfl) ?_
          refine TL_pure (d := (some 31)) rfl rfl rfl (PV_extract rfl rfl) ?_
          refine TL_pure (d := (some 32)) rfl rfl rfl (PV_extract rfl rfl) ?_
          refine TL_pure (d := (some 13)) rfl rfl rfl (PV_assign rfl) ?_
          refine TL_pure (d := (some 14)) rfl rfl rfl (PV_assign rfl) ?_
          refine TL_nil ?_
          refine T_seq ?_
          refine T_region ?_
          refine TL_pure (d := (some 33)) rfl rfl rfl (PV_move rfl) ?_
          refine TL_pure (d := (some 34)) rfl rfl rfl (PV_move rfl) ?_
          refine TL_pure (d := (some 35)) rfl rfl rfl (PV_fieldAddr (D := 1) Try.underlying48 rfl sz46 (by decide) rfl rfl) ?_
          refine TL_cons rfl (TO_store1 2 rfl rfl rfl sz46 rfl rfl (errV_one _) (by first | exact Nat.le_of_ble_eq_true rfl | (simp; done) | (simp; omega) | omega) ?_)
          refine TL_pure (d := (some 36)) rfl rfl rfl (PV_fieldAddr (D := 2) Try.underlying48 rfl sz46 (by decide) rfl rfl) ?_
          refine TL_cons rfl (TO_store1 2 rfl rfl rfl sz46 rfl rfl (errV_one _) (by first | exact Nat.le_of_ble_eq_true rfl | (simp; done) | (simp; omega) | omega) ?_)
          refine TL_nil ?_
          refine T_seq ?_
          refine T_seq ?_
          refine T_region ?_
          refine TL_pure (d := (some 37)) rfl rfl rfl (PV_move rfl) ?_
          refine TL_pure (d := (some 38)) rfl rfl rfl (PV_move rfl) ?_
          refine TL_split (d := 38) rfl (fun c2009 => ?w2009q126y) (fun c2009 => ?w2009q126n)
          try simp only [decide_eq_true_eq, decide_eq_false_iff_not, beq_iff_eq, beq_eq_false_iff_ne, bne_iff_ne, bne_eq_false_iff_eq, ne_eq, Bool.not_eq_true', Bool.not_eq_false', Bool.not_not, Bool.not_true, Bool.not_false, Bool.and_eq_true, Bool.or_eq_true, Bool.and_eq_false_iff, Bool.or_eq_false_iff, Int.not_lt, Int.not_le, gt_iff_lt, ge_iff_le] at c2009
          refine TL_yes rfl rfl (gtrue (by exact decide_eq_true (by omega))) (TO_pure rfl (PV_move rfl) ?_)
          refine TL_pure (d := (some 40)) rfl rfl rfl (PV.cast (PV_pickAnd rfl rfl rfl) eov) ?_
          refine TL_pure (d := (some 41)) rfl rfl rfl (PV_fieldAddr (D := 0) Try.underlying48 rfl sz4 (by decide) rfl rfl) ?_
          refine TL_cons rfl (TO_store1 2 rfl rfl rfl sz4 rfl rfl rfl (by first | exact Nat.le_of_ble_eq_true rfl | (simp; done) | (simp; omega) | omega) ?_)
          refine TL_nil ?_
          refine T_seq ?_
          refine T_region ?_
          refine TL_pure (d := (some 42)) rfl rfl rfl (PV_fieldAddr (D := 0) Try.underlying48 rfl sz4 (by decide) rfl rfl) ?_
          refine TL_pure (d := (some 43)) rfl rfl rfl (PV_load Try.underlying4 rfl rfl (Rd.at 2 rfl rfl)) ?_
          refine TL_nil ?_
          refine T_else rfl (by rfl) ?_
          refine T_skip ?_
          refine T_seq ?_
          refine T_region ?_
          refine TL_pure (d := (some 44)) rfl rfl rfl (PV_fieldAddr (D := 4) Try.underlying48 rfl sz3 (by decide) rfl rfl) ?_
          refine TL_pure (d := (some 45)) rfl rfl rfl (PV_load Try.underlying3 rfl rfl (Rd.at 2 rfl rfl)) ?_
          refine TL_pure (d := (some 46)) rfl rfl rfl (PV.cast (PV_bin rfl rfl bin_add) (wr64 (by omega))) ?_
          refine TL_pure (d := (some 47)) rfl rfl rfl (PV_fieldAddr (D := 4) Try.underlying48 rfl sz3 (by decide) rfl rfl) ?_
          refine TL_cons rfl (TO_store1 2 rfl rfl rfl sz3 rfl rfl rfl (by first | exact Nat.le_of_ble_eq_true rfl | (simp; done) | (simp; omega) | omega) ?_)
          refine TL_nil ?_
          refine T_seq ?_
          refine T_region ?_
          refine TL_pure (d := (some 48)) rfl rfl rfl (PV_move rfl) ?_
          refine TL_pure (d := (some 49)) rfl rfl rfl (PV_move rfl) ?_
          refine TL_perm ((perm_pick (i := 0) rfl).trans (List.Perm.cons _ ((perm_pick (i := 3) rfl).trans (List.Perm.cons _ ((perm_pick (i := 3) rfl).trans (List.Perm.cons _ (List.Perm.refl _))))))) ?_
          refine TL_cons rfl (TO_call0 call31 rfl rfl (t72 (r := x.r) ?sd2013q126_0 ?sd2013q126_1 ?sd2013q126_2 ?sd2013q126_3) ?_)
          case sd2013q126_0 => omega
          case sd2013q126_1 => omega
          case sd2013q126_2 => exact hrt0
          case sd2013q126_3 => omega
          rintro v50_2014 H50_2014 ⟨A_2014, k_2014, bA_2014, bc_2014, dA_2014, dc_2014, rfl, h_2014_0, rfl⟩
          refine TL_cons rfl (TO_appendB 6 rfl Try.underlying26 zb5 rfl rfl rfl rfl (Shows.at 0 rfl) ?bb2015q126 ?bc2015q126 fun A2015 c2015 hc2015 => ?_)
          case bb2015q126 => omega
          case bc2015q126 => omega
          refine TL_pure (d := (some 10)) rfl rfl rfl (PV_assign rfl) ?_
          refine TL_nil ?_
          refine T_seq ?_
          refine T_region ?_
          refine TL_pure (d := (some 52)) rfl rfl rfl (PV_move rfl) ?_
          refine TL_perm ((perm_pick (i := 4) rfl).trans (List.Perm.cons _ (List.Perm.refl _))) ?_
          refine TL_cons rfl (TO_call0 call12 rfl rfl (t65 (s := x.s) ?sd2017q126_0 ?sd2017q126_1) ?_)
          case sd2017q126_0 => exact hs
          case sd2017q126_1 => exact SBlk.mono hBs (fun w h => h.sub (by (repeat (first | exact List.Sublist.refl _ | exact List.sublist_append_right _ _ | exact List.sublist_append_left _ _ | apply List.Sublist.cons | refine List.Sublist.trans ?_ (List.sublist_append_left _ _))); done))
          rintro v53_2018 H53_2018 ⟨A_2018, k_2018, rfl, h_2018_0, rfl⟩
          refine TL_pure (d := (some 15)) rfl rfl rfl (PV_assign rfl) ?_
          refine TL_nil ?_
          refine T_seq ?_
          refine T_seq ?_
          refine T_region ?_
          refine TL_pure (d := (some 54)) rfl rfl rfl (PV_move rfl) ?_
          refine TL_pure (d := (some 55)) rfl rfl rfl (PV_len_slice Try.underlying26 rfl) ?_
          refine TL_pure (d := (some 56)) rfl rfl rfl (PV_move rfl) ?_
          refine TL_nil ?_
          refine T_block ?_
          refine ?L21
          rotate_left 1
          try simp only [decide_eq_true_eq, decide_eq_false_iff_not, beq_iff_eq, beq_eq_false_iff_ne, bne_iff_ne, bne_eq_false_iff_eq, ne_eq, Bool.not_eq_true', Bool.not_eq_false', Bool.not_not, Bool.not_true, Bool.not_false, Bool.and_eq_true, Bool.or_eq_true, Bool.and_eq_false_iff, Bool.or_eq_false_iff, Int.not_lt, Int.not_le, gt_iff_lt, ge_iff_le] at c2009
          refine TL_no (b := false) rfl rfl (gfalse (by exact decide_eq_false (by omega))) rfl ?_
          refine TL_pure (d := (some 40)) rfl rfl rfl (PV_pickF rfl (by first | assumption | rfl | (simp; done) | (simp; omega) | (simp [*]; done) | (simp [*]; omega)) rfl rfl) ?_
          refine TL_pure (d := (some 41)) rfl rfl rfl (PV_fieldAddr (D := 0) Try.underlying48 rfl sz4 (by decide) rfl rfl) ?_
          refine TL_cons rfl (TO_store1 2 rfl rfl rfl sz4 rfl rfl rfl (by first | exact Nat.le_of_ble_eq_true rfl | (simp; done) | (simp; omega) | omega) ?_)
          refine TL_nil ?_
          refine T_seq ?_
          refine T_region ?_
          refine TL_pure (d := (some 42)) rfl rfl rfl (PV_fieldAddr (D := 0) Try.underlying48 rfl sz4 (by decide) rfl rfl) ?_
          refine TL_pure (d := (some 43)) rfl rfl rfl (PV_load Try.underlying4 rfl rfl (Rd.at 2 rfl rfl)) ?_
          refine TL_nil ?_
          refine T_else rfl (by rfl) ?_
          refine T_skip ?_
          refine T_seq ?_
          refine T_region ?_
          refine TL_pure (d := (some 44)) rfl rfl rfl (PV_fieldAddr (D := 4) Try.underlying48 rfl sz3 (by decide) rfl rfl) ?_
          refine TL_pure (d := (some 45)) rfl rfl rfl (PV_load Try.underlying3 rfl rfl (Rd.at 2 rfl rfl)) ?_
          refine TL_pure (d := (some 46)) rfl rfl rfl (PV.cast (PV_bin rfl rfl bin_add) (wr64 (by omega))) ?_
          refine TL_pure (d := (some 47)) rfl rfl rfl (PV_fieldAddr (D := 4) Try.underlying48 rfl sz3 (by decide) rfl rfl) ?_
          refine TL_cons rfl (TO_store1 2 rfl rfl rfl sz3 rfl rfl rfl (by first | exact Nat.le_of_ble_eq_true rfl | (simp; done) | (simp; omega) | omega) ?_)
          refine TL_nil ?_
          refine T_seq ?_
          refine T_region ?_
          refine TL_pure (d := (some 48)) rfl rfl rfl (PV_move rfl) ?_
          refine TL_pure (d := (some 49)) rfl rfl rfl (PV_move rfl) ?_
          refine TL_perm ((perm_pick (i := 0) rfl).trans (List.Perm.cons _ ((perm_pick (i := 3) rfl).trans (List.Perm.cons _ ((perm_pick (i := 3) rfl).trans (List.Perm.cons _ (List.Perm.refl _))))))) ?_
          refine TL_cons rfl (TO_call0 call31 rfl rfl (t72 (r := x.r) ?sd2022q126_0 ?sd2022q126_1 ?sd2022q126_2 ?sd2022q126_3) ?_)
          case sd2022q126_0 => omega
          case sd2022q126_1 => omega
          case sd2022q126_2 => exact hrt0
          case sd2022q126_3 => omega
          rintro v50_2023 H50_2023 ⟨A_2023, k_2023, bA_2023, bc_2023, dA_2023, dc_2023, rfl, h_2023_0, rfl⟩
          refine TL_cons rfl (TO_appendB 6 rfl Try.underlying26 zb5 rfl rfl rfl rfl (Shows.at 0 rfl) ?bb2024q126 ?bc2024q126 fun A2024 c2024 hc2024 => ?_)
          case bb2024q126 => omega
          case bc2024q126 => omega
          refine TL_pure (d := (some 10)) rfl rfl rfl (PV_assign rfl) ?_
          refine TL_nil ?_
          refine T_seq ?_
          refine T_region ?_
          refine TL_pure (d := (some 52)) rfl rfl rfl (PV_move rfl) ?_
          refine TL_perm ((perm_pick (i := 4) rfl).trans (List.Perm.cons _ (List.Perm.refl _))) ?_
          refine TL_cons rfl (TO_call0 call12 rfl rfl (t65 (s := x.s) ?sd2026q126_0 ?sd2026q126_1) ?_)
          case sd2026q126_0 => exact hs
          case sd2026q126_1 => exact SBlk.mono hBs (fun w h => h.sub (by (repeat (first | exact List.Sublist.refl _ | exact List.sublist_append_right _ _ | exact List.sublist_append_left _ _ | apply List.Sublist.cons | refine List.Sublist.trans ?_ (List.sublist_append_left _ _))); done))
          rintro v53_2027 H53_2027 ⟨A_2027, k_2027, rfl, h_2027_0, rfl⟩
          refine TL_pure (d := (some 15)) rfl rfl rfl (PV_assign rfl) ?_
          refine TL_nil ?_
          refine T_seq ?_
          refine T_seq ?_
          refine T_region ?_
          refine TL_pure (d := (some 54)) rfl rfl rfl (PV_move rfl) ?_
          refine TL_pure (d := (some 55)) rfl rfl rfl (PV_len_slice Try.underlying26 rfl) ?_
          refine TL_pure (d := (some 56)) rfl rfl rfl (PV_move rfl) ?_
          refine TL_nil ?_
          refine T_block ?_
          refine ?L22
          case L21 =>
            refine T_addNil 1 ?_
            refine T_loopP3 (fun (j : Nat) (Ad : Option Addr) (kd : Nat) => j ≤ (x.up ++ x.r.tickOut).length) (fun j _ _ => (x.up ++ x.r.tickOut).length - j) (fun j Ad kd => [(0, .pointer (some ⟨gs, 0, none⟩)), (1, .pointer (some ⟨gr, 0, none⟩)), (2, .slice An m cn), (3, .int .i64 (M : Int)), (8, .pointer (some ⟨g1, 0, none⟩)), (9, .pointer (some ⟨g2, 0, none⟩)), (15, .slice Ad (x.mid j).2.length kd), (54, .slice A2015 (x.up ++ x.r.tickOut).length c2015), (55, .int .i64 ((x.up ++ x.r.tickOut).length : Int)), (56, .int .i64 (j : Int))]) (fun j Ad kd => byC Ad kd (x.mid j).2 :: sC gs As cs (x.mid j).1 :: rcC gr bA_2014 bc_2014 dA_2014 dc_2014 x.r.tick :: byC bA_2014 bc_2014 x.r.tick.buf :: byC dA_2014 dc_2014 x.r.tick.dat :: resC g2 ⟨x.s, x.r, x.up, x.ticks + 1, x.sent, false, x.s.err, x.r.err⟩ :: byC none 0 [] :: byC A2015 c2015 (x.up ++ x.r.tickOut) :: .own g1 6 [.bool false, .nilIface, .nilIface, .slice none 0 0, .int .i64 0, .int .i64 0] :: X) 0 A_2018 k_2018 (Nat.zero_le _) (by repeat (first | exact FrSub.nil _ | refine FrSub.cons rfl ?_)) ?_ ?_
            · exact Has.of_perm ((perm_pick (i := 1) rfl).trans (List.Perm.cons _ ((perm_pick (i := 1) rfl).trans (List.Perm.cons _ ((perm_pick (i := 2) rfl).trans (List.Perm.cons _ ((perm_pick (i := 2) rfl).trans (List.Perm.cons _ ((perm_pick (i := 2) rfl).trans (List.Perm.cons _ ((perm_pick (i := 2) rfl).trans (List.Perm.cons _ ((perm_pick (i := 0) rfl).trans (List.Perm.cons _ ((perm_pick (i := 1) rfl).trans (List.Perm.cons _ (List.Perm.refl _))))))))))))))))) (by repeat (first | exact List.Sublist.refl _ | exact List.sublist_append_right _ _ | exact List.sublist_append_left _ _ | apply List.Sublist.cons_cons | apply List.Sublist.cons | refine List.Sublist.trans ?_ (List.sublist_append_left _ _)))
            · rintro j Ad kd hj
              obtain ⟨m1, m2, m3, m4⟩ := hx.mid j
              have e83 : Value.int .i64 (IntKind.i64.wrap ((x.sent : Int) + 1)) = .int .i64 ((x.sent + 1 : Nat) : Int) := wr64n (x.sent + 1) rfl (by omega)
              have hBm : SBlk (WH w0 B X) As cs (x.mid j).1.qs := by rw [m2]; exact hB
              by_cases hjl : j < (x.up ++ x.r.tickOut).length
              · have ms := x.mid_succ j hjl
                have hpl := (Sn.putOut_len m1 (rd (x.up ++ x.r.tickOut) ((0 + j * 1 : Nat) : Int))).1
                refine T_seq ?_
                refine T_region ?_
                refine TL_pure (d := (some 57)) rfl rfl rfl (PV_bin rfl rfl bin_lss) ?_
                refine TL_nil ?_
                refine T_seq ?_
                refine T_then rfl (by exact decide_eq_true (by omega)) ?_
                refine T_skip ?_
                refine T_seq ?_
                refine T_block ?_
                refine T_seq ?_
                refine T_region ?_
                refine TL_slA 7 rfl (by omega) fun g10002 e10002 => ?_
                subst e10002
                refine TL_pure (d := (some 58)) rfl rfl rfl (PV_indexAddr Try.underlying26 sz5 rfl rfl rfl (by first | omega | decide | assumption)) ?_
                refine TL_pure (d := (some 59)) rfl rfl rfl (PV_load Try.underlying5 rfl rfl (Rd.at 7 rfl (nums_at' _ rfl (by omega)))) ?_
                refine TL_pure (d := (some 17)) rfl rfl rfl (PV_assign rfl) ?_
                refine TL_nil ?_
                refine T_region ?_
                refine TL_pure (d := (some 60)) rfl rfl rfl (PV_move rfl) ?_
                refine TL_pure (d := (some 61)) rfl rfl rfl (PV_move rfl) ?_
                refine TL_pure (d := (some 62)) rfl rfl rfl (PV_move rfl) ?_
                refine TL_perm ((perm_pick (i := 1) rfl).trans (List.Perm.cons _ (List.Perm.refl _))) ?_
                refine TL_cons rfl (TO_call0 call13 rfl rfl (t59 (s := (x.mid j).1) _ ?sd10004q146_1 ?sd10004q146_2) ?_)
                case sd10004q146_1 => exact m1
                case sd10004q146_2 => exact SBlk.mono hBm (fun w h => h.sub (by (repeat (first | exact List.Sublist.refl _ | exact List.sublist_append_right _ _ | exact List.sublist_append_left _ _ | apply List.Sublist.cons | refine List.Sublist.trans ?_ (List.sublist_append_left _ _))); done))
                rintro v63_10005 H63_10005 ⟨A_10005, k_10005, rfl, h_10005_0, rfl⟩
                refine TL_cons rfl (TO_appendB 2 rfl Try.underlying26 zb5 rfl rfl rfl rfl (Shows.at 0 rfl) ?bb10006q146 ?bc10006q146 fun A10006 c10006 hc10006 => ?_)
                case bb10006q146 => omega
                case bc10006q146 => omega
                refine TL_pure (d := (some 15)) rfl rfl rfl (PV_assign rfl) ?_
                refine TL_nil ?_
                refine T_region ?_
                refine TL_pure (d := (some 65)) rfl rfl rfl (PV.cast (PV_bin rfl rfl bin_add) (wr64 (by omega))) ?_
                refine TL_pure (d := (some 56)) rfl rfl rfl (PV_move rfl) ?_
                refine TL_nil ?_
                refine ?L101
                case L101 =>
                  refine ⟨j + 1, ?_⟩
                  rw [ms]
                  exact ⟨_, _, by omega, by omega, (by repeat (first | exact FrSub.nil _ | refine FrSub.cons rfl ?_)), Has.of_perm ((perm_pick (i := 2) rfl).trans (List.Perm.cons _ ((perm_pick (i := 1) rfl).trans (List.Perm.cons _ ((perm_pick (i := 1) rfl).trans (List.Perm.cons _ ((perm_pick (i := 1) rfl).trans (List.Perm.cons _ ((perm_pick (i := 1) rfl).trans (List.Perm.cons _ ((perm_pick (i := 1) rfl).trans (List.Perm.cons _ ((perm_pick (i := 1) rfl).trans (List.Perm.cons _ ((perm_pick (i := 1) rfl).trans (List.Perm.cons _ ((perm_pick (i := 1) rfl).trans (List.Perm.cons _ (List.Perm.refl _))))))))))))))))))) (by repeat (first | exact List.Sublist.refl _ | exact List.sublist_append_right _ _ | exact List.sublist_append_left _ _ | apply List.Sublist.cons_cons | apply List.Sublist.cons | refine List.Sublist.trans ?_ (List.sublist_append_left _ _)))⟩
              · obtain rfl : j = (x.up ++ x.r.tickOut).length := by omega
                rw [x.mid_full] at *
                have hfe := hx.fed
                by_cases h0 : x.fed.2.length = 0
                · have hnx : x.next ns = ⟨x.fed.1, x.r.tick, [], x.ticks + 1, x.sent, false, x.s.err, x.r.err⟩ := if_pos h0
                  rw [hnx] at hfit hrun
                  refine T_seq ?_
                  refine T_region ?_
                  refine TL_pure (d := (some 57)) rfl rfl rfl (PV_bin rfl rfl bin_lss) ?_
                  refine TL_nil ?_
                  refine T_seq ?_
                  refine T_else rfl (by (simp; done)) ?_
                  refine T_exit ?_
                  refine T_seq ?_
                  refine T_region ?_
                  refine TL_pure (d := (some 10)) rfl rfl rfl (PV_assign rfl) ?_
                  refine TL_nil ?_
                  refine T_seq ?_
                  refine T_seq ?_
                  refine T_region ?_
                  refine TL_pure (d := (some 66)) rfl rfl rfl (PV_move rfl) ?_
                  refine TL_pure (d := (some 67)) rfl rfl rfl (PV_len_slice Try.underlying26 rfl) ?_
                  refine TL_pure (d := (some 68)) rfl rfl rfl (PV_bin rfl rfl bin_eql) ?_
                  refine TL_nil ?_
                  refine T_then rfl (by exact decide_eq_true (by omega)) ?_
                  refine T_exit ?_
                  refine ?L111
                  case L111 =>
                    exact ⟨⟨x.fed.1, x.r.tick, [], x.ticks + 1, x.sent, false, x.s.err, x.r.err⟩, none, 0, (bA_2014, bc_2014), (dA_2014, dc_2014), (), (), ⟨hfit, by show x.ticks + 1 ≤ M; omega, hrun⟩, by show M - (x.ticks + 1) < M - x.ticks; omega, (by repeat (first | exact FrSub.nil _ | refine FrSub.cons rfl ?_)), Has.of_perm ((perm_pick (i := 5) rfl).trans (List.Perm.cons _ ((perm_pick (i := 5) rfl).trans (List.Perm.cons _ ((perm_pick (i := 1) rfl).trans (List.Perm.cons _ ((perm_pick (i := 1) rfl).trans (List.Perm.cons _ ((perm_pick (i := 1) rfl).trans (List.Perm.cons _ ((perm_pick (i := 1) rfl).trans (List.Perm.cons _ ((perm_pick (i := 2) rfl).trans (List.Perm.cons _ (List.Perm.refl _))))))))))))))) (by repeat (first | exact List.Sublist.refl _ | exact List.sublist_append_right _ _ | exact List.sublist_append_left _ _ | apply List.Sublist.cons_cons | apply List.Sublist.cons | refine List.Sublist.trans ?_ (List.sublist_append_left _ _)))⟩
                · have hrt := hr.tick
                  have hrtb := hrt.bl
                  have hrtd := hrt.dl
                  have hrtu := hrt.bu
                  have hrtk0 := hrt.b0
                  have hrtk1 := hrt.b1
                  have hrtn0 := hrt.n0
                  have hrtn1 := hrt.n1
                  have hf3 := hfe.2.2.1
                  by_cases hsn : x.sent < m
                  · obtain ⟨z, hz⟩ : ∃ z, ns[x.sent]? = some z := ⟨ns[x.sent], List.getElem?_eq_getElem (by omega)⟩
                    have hdn : downOf ns x.sent x.fed.2 = z.thru x.fed.2 := by unfold downOf; rw [hz]
                    have hnx : x.next ns = ⟨x.fed.1, x.r.tick.put (z.thru x.fed.2), x.r.tick.putOut (z.thru x.fed.2), x.ticks + 1, x.sent + 1, false, x.s.err, x.r.err⟩ := by rw [← hdn]; exact if_neg h0
                    rw [hnx] at hfit hrun
                    have htl := thru_len z x.fed.2
                    have hU := hrtu.append (thru_u8 (z := z) hfe.2.2.2)
                    obtain ⟨hz1, hz2, hz3⟩ := nzCells_get ns x.sent z hz
                    refine T_shows (hN.mono fun w h => h.sub (by repeat (first | exact List.Sublist.refl _ | exact List.sublist_append_right _ _ | exact List.sublist_append_left _ _ | apply List.Sublist.cons | refine List.Sublist.trans ?_ (List.sublist_append_left _ _)))) (by rw [nzCells_len]; omega) fun ga oa hA hrd => ?_
                    subst hA
                    have hds : RdsK (WH w0 B X) ga (oa + x.sent * 3) 3 [.bool z.lost, .int .i64 z.at_, .int .u8 z.by_] := nz_rds hN x.sent z hz
                    refine T_seq ?_
                    refine T_region ?_
                    refine TL_pure (d := (some 57)) rfl rfl rfl (PV_bin rfl rfl bin_lss) ?_
                    refine TL_nil ?_
                    refine T_seq ?_
                    refine T_else rfl (by (simp; done)) ?_
                    refine T_exit ?_
                    refine T_seq ?_
                    refine T_region ?_
                    refine TL_pure (d := (some 10)) rfl rfl rfl (PV_assign rfl) ?_
                    refine TL_nil ?_
                    refine T_seq ?_
                    refine T_seq ?_
                    refine T_region ?_
                    refine TL_pure (d := (some 66)) rfl rfl rfl (PV_move rfl) ?_
                    refine TL_pure (d := (some 67)) rfl rfl rfl (PV_len_slice Try.underlying26 rfl) ?_
                    refine TL_pure (d := (some 68)) rfl rfl rfl (PV_bin rfl rfl bin_eql) ?_
                    refine TL_nil ?_
                    refine T_else rfl (by exact decide_eq_false (by omega)) ?_
                    refine T_skip ?_
                    refine T_seq ?_
                    refine T_seq ?_
                    refine T_region ?_
                    refine TL_pure (d := (some 69)) rfl rfl rfl (PV_fieldAddr (D := 5) Try.underlying48 rfl sz3 (by decide) rfl rfl) ?_
                    refine TL_pure (d := (some 70)) rfl rfl rfl (PV_load Try.underlying3 rfl rfl (Rd.at 5 rfl rfl)) ?_
                    refine TL_pure (d := (some 71)) rfl rfl rfl (PV_move rfl) ?_
                    refine TL_pure (d := (some 72)) rfl rfl rfl (PV_len_slice Try.underlying44 rfl) ?_
                    refine TL_pure (d := (some 73)) rfl rfl rfl (PV_bin rfl rfl bin_lss) ?_
                    refine TL_nil ?_
                    refine T_then rfl (by (simp; omega)) ?_
                    refine T_region ?_
                    refine TL_pure (d := (some 74)) rfl rfl rfl (PV_move rfl) ?_
                    refine TL_pure (d := (some 75)) rfl rfl rfl (PV_fieldAddr (D := 5) Try.underlying48 rfl sz3 (by decide) rfl rfl) ?_
                    refine TL_pure (d := (some 76)) rfl rfl rfl (PV_load Try.underlying3 rfl rfl (Rd.at 5 rfl rfl)) ?_
                    refine TL_pure (d := (some 77)) rfl rfl rfl (PV_indexAddr Try.underlying44 sz68 rfl rfl rfl (by first | omega | decide | assumption)) ?_
                    refine TL_pure (d := (some 78)) rfl rfl rfl (PV_loadAt Try.underlying68 rfl sz68 rfl (RdsK.mono hds (fun w h => h.sub (by (repeat (first | exact List.Sublist.refl _ | exact List.sublist_append_right _ _ | exact List.sublist_append_left _ _ | apply List.Sublist.cons | refine List.Sublist.trans ?_ (List.sublist_append_left _ _))); done)))) ?_
                    refine TL_pure (d := (some 79)) rfl rfl rfl (PV_move rfl) ?_
                    refine TL_cons rfl (TO_call0 call32 rfl rfl (t100 (z := z) (Shows.at 0 rfl) ?sd12002q182_1 ?sd12002q182_2) ?_)
                    case sd12002q182_1 => omega
                    case sd12002q182_2 => omega
                    rintro v80_12003 H80_12003 ⟨A'_12003, k_12003, rfl, h_12003_0, rfl⟩
                    refine TL_pure (d := (some 15)) rfl rfl rfl (PV_assign rfl) ?_
                    refine TL_nil ?_
                    refine T_seq ?_
                    refine T_region ?_
                    refine TL_pure (d := (some 81)) rfl rfl rfl (PV_fieldAddr (D := 5) Try.underlying48 rfl sz3 (by decide) rfl rfl) ?_
                    refine TL_pure (d := (some 82)) rfl rfl rfl (PV_load Try.underlying3 rfl rfl (Rd.at 6 rfl rfl)) ?_
                    refine TL_pure (d := (some 83)) rfl rfl rfl (PV.cast (PV_bin rfl rfl bin_add) e83) ?_
                    refine TL_pure (d := (some 84)) rfl rfl rfl (PV_fieldAddr (D := 5) Try.underlying48 rfl sz3 (by decide) rfl rfl) ?_
                    refine TL_cons rfl (TO_store1 6 rfl rfl rfl sz3 rfl rfl rfl (by first | exact Nat.le_of_ble_eq_true rfl | (simp; done) | (simp; omega) | omega) ?_)
                    refine TL_nil ?_
                    refine T_region ?_
                    refine TL_pure (d := (some 85)) rfl rfl rfl (PV_move rfl) ?_
                    refine TL_pure (d := (some 86)) rfl rfl rfl (PV_move rfl) ?_
                    refine TL_perm ((perm_pick (i := 3) rfl).trans (List.Perm.cons _ ((perm_pick (i := 3) rfl).trans (List.Perm.cons _ ((perm_pick (i := 3) rfl).trans (List.Perm.cons _ (List.Perm.refl _))))))) ?_
                    refine TL_cons rfl (TO_call0 call33 rfl rfl (t75 (r := x.r.tick) (Shows.at 0 rfl) ?sd12006q182_1 ?sd12006q182_2 ?sd12006q182_3 ?sd12006q182_4 ?sd12006q182_5 ?sd12006q182_6 ?sd12006q182_7 ?sd12006q182_8) ?_)
                    case sd12006q182_1 => omega
                    case sd12006q182_2 => exact hU
                    case sd12006q182_3 => omega
                    case sd12006q182_4 => omega
                    case sd12006q182_5 => exact hrtk0
                    case sd12006q182_6 => omega
                    case sd12006q182_7 => exact hrtn0
                    case sd12006q182_8 => exact hrtn1
                    rintro v87_12007 H87_12007 ⟨A_12007, k_12007, bA_12007, bc_12007, dA_12007, dc_12007, rfl, h_12007_0, rfl⟩
                    refine TL_pure (d := (some 10)) rfl rfl rfl (PV_assign rfl) ?_
                    refine TL_nil ?_
                    refine ?L121
                    case L121 =>
                      exact ⟨⟨x.fed.1, x.r.tick.put (z.thru x.fed.2), x.r.tick.putOut (z.thru x.fed.2), x.ticks + 1, x.sent + 1, false, x.s.err, x.r.err⟩, A_12007, k_12007, (bA_12007, bc_12007), (dA_12007, dc_12007), (), (), ⟨hfit, by show x.ticks + 1 ≤ M; omega, hrun⟩, by show M - (x.ticks + 1) < M - x.ticks; omega, (by repeat (first | exact FrSub.nil _ | refine FrSub.cons rfl ?_)), Has.of_perm ((perm_pick (i := 7) rfl).trans (List.Perm.cons _ ((perm_pick (i := 0) rfl).trans (List.Perm.cons _ ((perm_pick (i := 5) rfl).trans (List.Perm.cons _ ((perm_pick (i := 0) rfl).trans (List.Perm.cons _ ((perm_pick (i := 0) rfl).trans (List.Perm.cons _ ((perm_pick (i := 0) rfl).trans (List.Perm.cons _ ((perm_pick (i := 4) rfl).trans (List.Perm.cons _ (List.Perm.refl _))))))))))))))) (by repeat (first | exact List.Sublist.refl _ | exact List.sublist_append_right _ _ | exact List.sublist_append_left _ _ | apply List.Sublist.cons_cons | apply List.Sublist.cons | refine List.Sublist.trans ?_ (List.sublist_append_left _ _)))⟩
                  · have hdn : downOf ns x.sent x.fed.2 = x.fed.2 := by unfold downOf; rw [List.getElem?_eq_none (by omega)]
                    have hnx : x.next ns = ⟨x.fed.1, x.r.tick.put x.fed.2, x.r.tick.putOut x.fed.2, x.ticks + 1, x.sent + 1, false, x.s.err, x.r.err⟩ := by rw [← hdn]; exact if_neg h0
                    rw [hnx] at hfit hrun
                    have hU := hrtu.append hfe.2.2.2
                    refine T_seq ?_
                    refine T_region ?_
                    refine TL_pure (d := (some 57)) rfl rfl rfl (PV_bin rfl rfl bin_lss) ?_
                    refine TL_nil ?_
                    refine T_seq ?_
                    refine T_else rfl (by (simp; done)) ?_
                    refine T_exit ?_
                    refine T_seq ?_
                    refine T_region ?_
                    refine TL_pure (d := (some 10)) rfl rfl rfl (PV_assign rfl) ?_
                    refine TL_nil ?_
                    refine T_seq ?_
                    refine T_seq ?_
                    refine T_region ?_
                    refine TL_pure (d := (some 66)) rfl rfl rfl (PV_move rfl) ?_
                    refine TL_pure (d := (some 67)) rfl rfl rfl (PV_len_slice Try.underlying26 rfl) ?_
                    refine TL_pure (d := (some 68)) rfl rfl rfl (PV_bin rfl rfl bin_eql) ?_
                    refine TL_nil ?_
                    refine T_else rfl (by exact decide_eq_false (by omega)) ?_
                    refine T_skip ?_
                    refine T_seq ?_
                    refine T_seq ?_
                    refine T_region ?_
                    refine TL_pure (d := (some 69)) rfl rfl rfl (PV_fieldAddr (D := 5) Try.underlying48 rfl sz3 (by decide) rfl rfl) ?_
                    refine TL_pure (d := (some 70)) rfl rfl rfl (PV_load Try.underlying3 rfl rfl (Rd.at 5 rfl rfl)) ?_
                    refine TL_pure (d := (some 71)) rfl rfl rfl (PV_move rfl) ?_
                    refine TL_pure (d := (some 72)) rfl rfl rfl (PV_len_slice Try.underlying44 rfl) ?_
                    refine TL_pure (d := (some 73)) rfl rfl rfl (PV_bin rfl rfl bin_lss) ?_
                    refine TL_nil ?_
                    refine T_else rfl (by (simp; omega)) ?_
                    refine T_skip ?_
                    refine T_seq ?_
                    refine T_region ?_
                    refine TL_pure (d := (some 81)) rfl rfl rfl (PV_fieldAddr (D := 5) Try.underlying48 rfl sz3 (by decide) rfl rfl) ?_
                    refine TL_pure (d := (some 82)) rfl rfl rfl (PV_load Try.underlying3 rfl rfl (Rd.at 5 rfl rfl)) ?_
                    refine TL_pure (d := (some 83)) rfl rfl rfl (PV.cast (PV_bin rfl rfl bin_add) e83) ?_
                    refine TL_pure (d := (some 84)) rfl rfl rfl (PV_fieldAddr (D := 5) Try.underlying48 rfl sz3 (by decide) rfl rfl) ?_
                    refine TL_cons rfl (TO_store1 5 rfl rfl rfl sz3 rfl rfl rfl (by first | exact Nat.le_of_ble_eq_true rfl | (simp; done) | (simp; omega) | omega) ?_)
                    refine TL_nil ?_
                    refine T_region ?_
                    refine TL_pure (d := (some 85)) rfl rfl rfl (PV_move rfl) ?_
                    refine TL_pure (d := (some 86)) rfl rfl rfl (PV_move rfl) ?_
                    refine TL_perm ((perm_pick (i := 2) rfl).trans (List.Perm.cons _ ((perm_pick (i := 2) rfl).trans (List.Perm.cons _ ((perm_pick (i := 2) rfl).trans (List.Perm.cons _ (List.Perm.refl _))))))) ?_
                    refine TL_cons rfl (TO_call0 call33 rfl rfl (t75 (r := x.r.tick) (Shows.at 0 rfl) ?sd14003q192_1 ?sd14003q192_2 ?sd14003q192_3 ?sd14003q192_4 ?sd14003q192_5 ?sd14003q192_6 ?sd14003q192_7 ?sd14003q192_8) ?_)
                    case sd14003q192_1 => omega
                    case sd14003q192_2 => exact hU
                    case sd14003q192_3 => omega
                    case sd14003q192_4 => omega
                    case sd14003q192_5 => exact hrtk0
                    case sd14003q192_6 => omega
                    case sd14003q192_7 => exact hrtn0
                    case sd14003q192_8 => exact hrtn1
                    rintro v87_14004 H87_14004 ⟨A_14004, k_14004, bA_14004, bc_14004, dA_14004, dc_14004, rfl, h_14004_0, rfl⟩
                    refine TL_pure (d := (some 10)) rfl rfl rfl (PV_assign rfl) ?_
                    refine TL_nil ?_
                    refine ?L141
                    case L141 =>
                      exact ⟨⟨x.fed.1, x.r.tick.put x.fed.2, x.r.tick.putOut x.fed.2, x.ticks + 1, x.sent + 1, false, x.s.err, x.r.err⟩, A_14004, k_14004, (bA_14004, bc_14004), (dA_14004, dc_14004), (), (), ⟨hfit, by show x.ticks + 1 ≤ M; omega, hrun⟩, by show M - (x.ticks + 1) < M - x.ticks; omega, (by repeat (first | exact FrSub.nil _ | refine FrSub.cons rfl ?_)), Has.of_perm ((perm_pick (i := 6) rfl).trans (List.Perm.cons _ ((perm_pick (i := 0) rfl).trans (List.Perm.cons _ ((perm_pick (i := 4) rfl).trans (List.Perm.cons _ ((perm_pick (i := 0) rfl).trans (List.Perm.cons _ ((perm_pick (i := 0) rfl).trans (List.Perm.cons _ ((perm_pick (i := 0) rfl).trans (List.Perm.cons _ ((perm_pick (i := 3) rfl).trans (List.Perm.cons _ (List.Perm.refl _))))))))))))))) (by repeat (first | exact List.Sublist.refl _ | exact List.sublist_append_right _ _ | exact List.sublist_append_left _ _ | apply List.Sublist.cons_cons | apply List.Sublist.cons | refine List.Sublist.trans ?_ (List.sublist_append_left _ _)))⟩
          case L22 =>
            refine T_addNil 1 ?_
            refine T_loopP3 (fun (j : Nat) (Ad : Option Addr) (kd : Nat) => j ≤ (x.up ++ x.r.tickOut).length) (fun j _ _ => (x.up ++ x.r.tickOut).length - j) (fun j Ad kd => [(0, .pointer (some ⟨gs, 0, none⟩)), (1, .pointer (some ⟨gr, 0, none⟩)), (2, .slice An m cn), (3, .int .i64 (M : Int)), (8, .pointer (some ⟨g1, 0, none⟩)), (9, .pointer (some ⟨g2, 0, none⟩)), (15, .slice Ad (x.mid j).2.length kd), (54, .slice A2024 (x.up ++ x.r.tickOut).length c2024), (55, .int .i64 ((x.up ++ x.r.tickOut).length : Int)), (56, .int .i64 (j : Int))]) (fun j Ad kd => byC Ad kd (x.mid j).2 :: sC gs As cs (x.mid j).1 :: rcC gr bA_2023 bc_2023 dA_2023 dc_2023 x.r.tick :: byC bA_2023 bc_2023 x.r.tick.buf :: byC dA_2023 dc_2023 x.r.tick.dat :: resC g2 ⟨x.s, x.r, x.up, x.ticks + 1, x.sent, false, x.s.err, x.r.err⟩ :: byC none 0 [] :: byC A2024 c2024 (x.up ++ x.r.tickOut) :: .own g1 6 [.bool false, .nilIface, .nilIface, .slice none 0 0, .int .i64 0, .int .i64 0] :: X) 0 A_2027 k_2027 (Nat.zero_le _) (by repeat (first | exact FrSub.nil _ | refine FrSub.cons rfl ?_)) ?_ ?_
            · exact Has.of_perm ((perm_pick (i := 1) rfl).trans (List.Perm.cons _ ((perm_pick (i := 1) rfl).trans (List.Perm.cons _ ((perm_pick (i := 2) rfl).trans (List.Perm.cons _ ((perm_pick (i := 2) rfl).trans (List.Perm.cons _ ((perm_pick (i := 2) rfl).trans (List.Perm.cons _ ((perm_pick (i := 2) rfl).trans (List.Perm.cons _ ((perm_pick (i := 0) rfl).trans (List.Perm.cons _ ((perm_pick (i := 1) rfl).trans (List.Perm.cons _ (List.Perm.refl _))))))))))))))))) (by repeat (first | exact List.Sublist.refl _ | exact List.sublist_append_right _ _ | exact List.sublist_append_left _ _ | apply List.Sublist.cons_cons | apply List.Sublist.cons | refine List.Sublist.trans ?_ (List.sublist_append_left _ _)))
            · rintro j Ad kd hj
              obtain ⟨m1, m2, m3, m4⟩ := hx.mid j
              have e83 : Value.int .i64 (IntKind.i64.wrap ((x.sent : Int) + 1)) = .int .i64 ((x.sent + 1 : Nat) : Int) := wr64n (x.sent + 1) rfl (by omega)
              have hBm : SBlk (WH w0 B X) As cs (x.mid j).1.qs := by rw [m2]; exact hB
              by_cases hjl : j < (x.up ++ x.r.tickOut).length
              · have ms := x.mid_succ j hjl
                have hpl := (Sn.putOut_len m1 (rd (x.up ++ x.r.tickOut) ((0 + j * 1 : Nat) : Int))).1
                refine T_seq ?_
                refine T_region ?_
                refine TL_pure (d := (some 57)) rfl rfl rfl (PV_bin rfl rfl bin_lss) ?_
                refine TL_nil ?_
                refine T_seq ?_
                refine T_then rfl (by exact decide_eq_true (by omega)) ?_
                refine T_skip ?_
                refine T_seq ?_
                refine T_block ?_
                refine T_seq ?_
                refine T_region ?_
                refine TL_slA 7 rfl (by omega) fun g20002 e20002 => ?_
                subst e20002
                refine TL_pure (d := (some 58)) rfl rfl rfl (PV_indexAddr Try.underlying26 sz5 rfl rfl rfl (by first | omega | decide | assumption)) ?_
                refine TL_pure (d := (some 59)) rfl rfl rfl (PV_load Try.underlying5 rfl rfl (Rd.at 7 rfl (nums_at' _ rfl (by omega)))) ?_
                refine TL_pure (d := (some 17)) rfl rfl rfl (PV_assign rfl) ?_
                refine TL_nil ?_
                refine T_region ?_
                refine TL_pure (d := (some 60)) rfl rfl rfl (PV_move rfl) ?_
                refine TL_pure (d := (some 61)) rfl rfl rfl (PV_move rfl) ?_
                refine TL_pure (d := (some 62)) rfl rfl rfl (PV_move rfl) ?_
                refine TL_perm ((perm_pick (i := 1) rfl).trans (List.Perm.cons _ (List.Perm.refl _))) ?_
                refine TL_cons rfl (TO_call0 call13 rfl rfl (t59 (s := (x.mid j).1) _ ?sd20004q208_1 ?sd20004q208_2) ?_)
                case sd20004q208_1 => exact m1
                case sd20004q208_2 => exact SBlk.mono hBm (fun w h => h.sub (by (repeat (first | exact List.Sublist.refl _ | exact List.sublist_append_right _ _ | exact List.sublist_append_left _ _ | apply List.Sublist.cons | refine List.Sublist.trans ?_ (List.sublist_append_left _ _))); done))
                rintro v63_20005 H63_20005 ⟨A_20005, k_20005, rfl, h_20005_0, rfl⟩
                refine TL_cons rfl (TO_appendB 2 rfl Try.underlying26 zb5 rfl rfl rfl rfl (Shows.at 0 rfl) ?bb20006q208 ?bc20006q208 fun A20006 c20006 hc20006 => ?_)
                case bb20006q208 => omega
                case bc20006q208 => omega
                refine TL_pure (d := (some 15)) rfl rfl rfl (PV_assign rfl) ?_
                refine TL_nil ?_
                refine T_region ?_
                refine TL_pure (d := (some 65)) rfl rfl rfl (PV.cast (PV_bin rfl rfl bin_add) (wr64 (by omega))) ?_
                refine TL_pure (d := (some 56)) rfl rfl rfl (PV_move rfl) ?_
                refine TL_nil ?_
                refine ?L201
                case L201 =>
                  refine ⟨j + 1, ?_⟩
                  rw [ms]
                  exact ⟨_, _, by omega, by omega, (by repeat (first | exact FrSub.nil _ | refine FrSub.cons rfl ?_)), Has.of_perm ((perm_pick (i := 2) rfl).trans (List.Perm.cons _ ((perm_pick (i := 1) rfl).trans (List.Perm.cons _ ((perm_pick (i := 1) rfl).trans (List.Perm.cons _ ((perm_pick (i := 1) rfl).trans (List.Perm.cons _ ((perm_pick (i := 1) rfl).trans (List.Perm.cons _ ((perm_pick (i := 1) rfl).trans (List.Perm.cons _ ((perm_pick (i := 1) rfl).trans (List.Perm.cons _ ((perm_pick (i := 1) rfl).trans (List.Perm.cons _ ((perm_pick (i := 1) rfl).trans (List.Perm.cons _ (List.Perm.refl _))))))))))))))))))) (by repeat (first | exact List.Sublist.refl _ | exact List.sublist_append_right _ _ | exact List.sublist_append_left _ _ | apply List.Sublist.cons_cons | apply List.Sublist.cons | refine List.Sublist.trans ?_ (List.sublist_append_left _ _)))⟩
              · obtain rfl : j = (x.up ++ x.r.tickOut).length := by omega
                rw [x.mid_full] at *
                have hfe := hx.fed
                by_cases h0 : x.fed.2.length = 0
                · have hnx : x.next ns = ⟨x.fed.1, x.r.tick, [], x.ticks + 1, x.sent, false, x.s.err, x.r.err⟩ := if_pos h0
                  rw [hnx] at hfit hrun
                  refine T_seq ?_
                  refine T_region ?_
                  refine TL_pure (d := (some 57)) rfl rfl rfl (PV_bin rfl rfl bin_lss) ?_
                  refine TL_nil ?_
                  refine T_seq ?_
                  refine T_else rfl (by (simp; done)) ?_
                  refine T_exit ?_
                  refine T_seq ?_
                  refine T_region ?_
                  refine TL_pure (d := (some 10)) rfl rfl rfl (PV_assign rfl) ?_
                  refine TL_nil ?_
                  refine T_seq ?_
                  refine T_seq ?_
                  refine T_region ?_
                  refine TL_pure (d := (some 66)) rfl rfl rfl (PV_move rfl) ?_
                  refine TL_pure (d := (some 67)) rfl rfl rfl (PV_len_slice Try.underlying26 rfl) ?_
                  refine TL_pure (d := (some 68)) rfl rfl rfl (PV_bin rfl rfl bin_eql) ?_
                  refine TL_nil ?_
                  refine T_then rfl (by exact decide_eq_true (by omega)) ?_
                  refine T_exit ?_
                  refine ?L211
                  case L211 =>
                    exact ⟨⟨x.fed.1, x.r.tick, [], x.ticks + 1, x.sent, false, x.s.err, x.r.err⟩, none, 0, (bA_2023, bc_2023), (dA_2023, dc_2023), (), (), ⟨hfit, by show x.ticks + 1 ≤ M; omega, hrun⟩, by show M - (x.ticks + 1) < M - x.ticks; omega, (by repeat (first | exact FrSub.nil _ | refine FrSub.cons rfl ?_)), Has.of_perm ((perm_pick (i := 5) rfl).trans (List.Perm.cons _ ((perm_pick (i := 5) rfl).trans (List.Perm.cons _ ((perm_pick (i := 1) rfl).trans (List.Perm.cons _ ((perm_pick (i := 1) rfl).trans (List.Perm.cons _ ((perm_pick (i := 1) rfl).trans (List.Perm.cons _ ((perm_pick (i := 1) rfl).trans (List.Perm.cons _ ((perm_pick (i := 2) rfl).trans (List.Perm.cons _ (List.Perm.refl _))))))))))))))) (by repeat (first | exact List.Sublist.refl _ | exact List.sublist_append_right _ _ | exact List.sublist_append_left _ _ | apply List.Sublist.cons_cons | apply List.Sublist.cons | refine List.Sublist.trans ?_ (List.sublist_append_left _ _)))⟩
                · have hrt := hr.tick
                  have hrtb := hrt.bl
                  have hrtd := hrt.dl
                  have hrtu := hrt.bu
                  have hrtk0 := hrt.b0
                  have hrtk1 := hrt.b1
                  have hrtn0 := hrt.n0
                  have hrtn1 := hrt.n1
                  have hf3 := hfe.2.2.1
                  by_cases hsn : x.sent < m
                  · obtain ⟨z, hz⟩ : ∃ z, ns[x.sent]? = some z := ⟨ns[x.sent], List.getElem?_eq_getElem (by omega)⟩
                    have hdn : downOf ns x.sent x.fed.2 = z.thru x.fed.2 := by unfold downOf; rw [hz]
                    have hnx : x.next ns = ⟨x.fed.1, x.r.tick.put (z.thru x.fed.2), x.r.tick.putOut (z.thru x.fed.2), x.ticks + 1, x.sent + 1, false, x.s.err, x.r.err⟩ := by rw [← hdn]; exact if_neg h0
                    rw [hnx] at hfit hrun
                    have htl := thru_len z x.fed.2
                    have hU := hrtu.append (thru_u8 (z := z) hfe.2.2.2)
                    obtain ⟨hz1, hz2, hz3⟩ := nzCells_get ns x.sent z hz
                    refine T_shows (hN.mono fun w h => h.sub (by repeat (first | exact List.Sublist.refl _ | exact List.sublist_append_right _ _ | exact List.sublist_append_left _ _ | apply List.Sublist.cons | refine List.Sublist.trans ?_ (List.sublist_append_left _ _)))) (by rw [nzCells_len]; omega) fun ga oa hA hrd => ?_
                    subst hA
                    have hds : RdsK (WH w0 B X) ga (oa + x.sent * 3) 3 [.bool z.lost, .int .i64 z.at_, .int .u8 z.by_] := nz_rds hN x.sent z hz
                    refine T_seq ?_
                    refine T_region ?_
                    refine TL_pure (d := (some 57)) rfl rfl rfl (PV_bin rfl rfl bin_lss) ?_
                    refine TL_nil ?_
                    refine T_seq ?_
                    refine T_else rfl (by (simp; done)) ?_
                    refine T_exit ?_
                    refine T_seq ?_
                    refine T_region ?_
                    refine TL_pure (d := (some 10)) rfl rfl rfl (PV_assign rfl) ?_
                    refine TL_nil ?_
                    refine T_seq ?_
                    refine T_seq ?_
                    refine T_region ?_
                    refine TL_pure (d := (some 66)) rfl rfl rfl (PV_move rfl) ?_
                    refine TL_pure (d := (some 67)) rfl rfl rfl (PV_len_slice Try.underlying26 rfl) ?_
                    refine TL_pure (d := (some 68)) rfl rfl rfl (PV_bin rfl rfl bin_eql) ?_
                    refine TL_nil ?_
                    refine T_else rfl (by exact decide_eq_false (by omega)) ?_
                    refine T_skip ?_
                    refine T_seq ?_
                    refine T_seq ?_
                    refine T_region ?_
                    refine TL_pure (d := (some 69)) rfl rfl rfl (PV_fieldAddr (D := 5) Try.underlying48 rfl sz3 (by decide) rfl rfl) ?_
                    refine TL_pure (d := (some 70)) rfl rfl rfl (PV_load Try.underlying3 rfl rfl (Rd.at 5 rfl rfl)) ?_
                    refine TL_pure (d := (some 71)) rfl rfl rfl (PV_move rfl) ?_
                    refine TL_pure (d := (some 72)) rfl rfl rfl (PV_len_slice Try.underlying44 rfl) ?_
                    refine TL_pure (d := (some 73)) rfl rfl rfl (PV_bin rfl rfl bin_lss) ?_
                    refine TL_nil ?_
                    refine T_then rfl (by (simp; omega)) ?_
                    refine T_region ?_
                    refine TL_pure (d := (some 74)) rfl rfl rfl (PV_move rfl) ?_
                    refine TL_pure (d := (some 75)) rfl rfl rfl (PV_fieldAddr (D := 5) Try.underlying48 rfl sz3 (by decide) rfl rfl) ?_
                    refine TL_pure (d := (some 76)) rfl rfl rfl (PV_load Try.underlying3 rfl rfl (Rd.at 5 rfl rfl)) ?_
                    refine TL_pure (d := (some 77)) rfl rfl rfl (PV_indexAddr Try.underlying44 sz68 rfl rfl rfl (by first | omega | decide | assumption)) ?_
                    refine TL_pure (d := (some 78)) rfl rfl rfl (PV_loadAt Try.underlying68 rfl sz68 rfl (RdsK.mono hds (fun w h => h.sub (by (repeat (first | exact List.Sublist.refl _ | exact List.sublist_append_right _ _ | exact List.sublist_append_left _ _ | apply List.Sublist.cons | refine List.Sublist.trans ?_ (List.sublist_append_left _ _))); done)))) ?_
                    refine TL_pure (d := (some 79)) rfl rfl rfl (PV_move rfl) ?_
                    refine TL_cons rfl (TO_call0 call32 rfl rfl (t100 (z := z) (Shows.at 0 rfl) ?sd22002q244_1 ?sd22002q244_2) ?_)
                    case sd22002q244_1 => omega
                    case sd22002q244_2 => omega
                    rintro v80_22003 H80_22003 ⟨A'_22003, k_22003, rfl, h_22003_0, rfl⟩
                    refine TL_pure (d := (some 15)) rfl rfl rfl (PV_assign rfl) ?_
                    refine TL_nil ?_
                    refine T_seq ?_
                    refine T_region ?_
                    refine TL_pure (d := (some 81)) rfl rfl rfl (PV_fieldAddr (D := 5) Try.underlying48 rfl sz3 (by decide) rfl rfl) ?_
                    refine TL_pure (d := (some 82)) rfl rfl rfl (PV_load Try.underlying3 rfl rfl (Rd.at 6 rfl rfl)) ?_
                    refine TL_pure (d := (some 83)) rfl rfl rfl (PV.cast (PV_bin rfl rfl bin_add) e83) ?_
                    refine TL_pure (d := (some 84)) rfl rfl rfl (PV_fieldAddr (D := 5) Try.underlying48 rfl sz3 (by decide) rfl rfl) ?_
                    refine TL_cons rfl (TO_store1 6 rfl rfl rfl sz3 rfl rfl rfl (by first | exact Nat.le_of_ble_eq_true rfl | (simp; done) | (simp; omega) | omega) ?_)
                    refine TL_nil ?_
                    refine T_region ?_
                    refine TL_pure (d := (some 85)) rfl rfl rfl (PV_move rfl) ?_
                    refine TL_pure (d := (some 86)) rfl rfl rfl (PV_move rfl) ?_
                    refine TL_perm ((perm_pick (i := 3) rfl).trans (List.Perm.cons _ ((perm_pick (i := 3) rfl).trans (List.Perm.cons _ ((perm_pick (i := 3) rfl).trans (List.Perm.cons _ (List.Perm.refl _))))))) ?_
                    refine TL_cons rfl (TO_call0 call33 rfl rfl (t75 (r := x.r.tick) (Shows.at 0 rfl) ?sd22006q244_1 ?sd22006q244_2 ?sd22006q244_3 ?sd22006q244_4 ?sd22006q244_5 ?sd22006q244_6 ?sd22006q244_7 ?sd22006q244_8) ?_)
                    case sd22006q244_1 => omega
                    case sd22006q244_2 => exact hU
                    case sd22006q244_3 => omega
                    case sd22006q244_4 => omega
                    case sd22006q244_5 => exact hrtk0
                    case sd22006q244_6 => omega
                    case sd22006q244_7 => exact hrtn0
                    case sd22006q244_8 => exact hrtn1
                    rintro v87_22007 H87_22007 ⟨A_22007, k_22007, bA_22007, bc_22007, dA_22007, dc_22007, rfl, h_22007_0, rfl⟩
                    refine TL_pure (d := (some 10)) rfl rfl rfl (PV_assign rfl) ?_
                    refine TL_nil ?_
                    refine ?L221
                    case L221 =>
                      exact ⟨⟨x.fed.1, x.r.tick.put (z.thru x.fed.2), x.r.tick.putOut (z.thru x.fed.2), x.ticks + 1, x.sent + 1, false, x.s.err, x.r.err⟩, A_22007, k_22007, (bA_22007, bc_22007), (dA_22007, dc_22007), (), (), ⟨hfit, by show x.ticks + 1 ≤ M; omega, hrun⟩, by show M - (x.ticks + 1) < M - x.ticks; omega, (by repeat (first | exact FrSub.nil _ | refine FrSub.cons rfl ?_)), Has.of_perm ((perm_pick (i := 7) rfl).trans (List.Perm.cons _ ((perm_pick (i := 0) rfl).trans (List.Perm.cons _ ((perm_pick (i := 5) rfl).trans (List.Perm.cons _ ((perm_pick (i := 0) rfl).trans (List.Perm.cons _ ((perm_pick (i := 0) rfl).trans (List.Perm.cons _ ((perm_pick (i := 0) rfl).trans (List.Perm.cons _ ((perm_pick (i := 4) rfl).trans (List.Perm.cons _ (List.Perm.refl _))))))))))))))) (by repeat (first | exact List.Sublist.refl _ | exact List.sublist_append_right _ _ | exact List.sublist_append_left _ _ | apply List.Sublist.cons_cons | apply List.Sublist.cons | refine List.Sublist.trans ?_ (List.sublist_append_left _ _)))⟩
                  · have hdn : downOf ns x.sent x.fed.2 = x.fed.2 := by unfold downOf; rw [List.getElem?_eq_none (by omega)]
                    have hnx : x.next ns = ⟨x.fed.1, x.r.tick.put x.fed.2, x.r.tick.putOut x.fed.2, x.ticks + 1, x.sent + 1, false, x.s.err, x.r.err⟩ := by rw [← hdn]; exact if_neg h0
                    rw [hnx] at hfit hrun
                    have hU := hrtu.append hfe.2.2.2
                    refine T_seq ?_
                    refine T_region ?_
                    refine TL_pure (d := (some 57)) rfl rfl rfl (PV_bin rfl rfl bin_lss) ?_
                    refine TL_nil ?_
                    refine T_seq ?_
                    refine T_else rfl (by (simp; done)) ?_
                    refine T_exit ?_
                    refine T_seq ?_
                    refine T_region ?_
                    refine TL_pure (d := (some 10)) rfl rfl rfl (PV_assign rfl) ?_
                    refine TL_nil ?_
                    refine T_seq ?_
                    refine T_seq ?_
                    refine T_region ?_
                    refine TL_pure (d := (some 66)) rfl rfl rfl (PV_move rfl) ?_
                    refine TL_pure (d := (some 67)) rfl rfl rfl (PV_len_slice Try.underlying26 rfl) ?_
                    refine TL_pure (d := (some 68)) rfl rfl rfl (PV_bin rfl rfl bin_eql) ?_
                    refine TL_nil ?_
                    refine T_else rfl (by exact decide_eq_false (by omega)) ?_
                    refine T_skip ?_
                    refine T_seq ?_
                    refine T_seq ?_
                    refine T_region ?_
                    refine TL_pure (d := (some 69)) rfl rfl rfl (PV_fieldAddr (D := 5) Try.underlying48 rfl sz3 (by decide) rfl rfl) ?_
                    refine TL_pure (d := (some 70)) rfl rfl rfl (PV_load Try.underlying3 rfl rfl (Rd.at 5 rfl rfl)) ?_
                    refine TL_pure (d := (some 71)) rfl rfl rfl (PV_move rfl) ?_
                    refine TL_pure (d := (some 72)) rfl rfl rfl (PV_len_slice Try.underlying44 rfl) ?_
                    refine TL_pure (d := (some 73)) rfl rfl rfl (PV_bin rfl rfl bin_lss) ?_
                    refine TL_nil ?_
                    refine T_else rfl (by (simp; omega)) ?_
                    refine T_skip ?_
                    refine T_seq ?_
                    refine T_region ?_
                    refine TL_pure (d := (some 81)) rfl rfl rfl (PV_fieldAddr (D := 5) Try.underlying48 rfl sz3 (by decide) rfl rfl) ?_
                    refine TL_pure (d := (some 82)) rfl rfl rfl (PV_load Try.underlying3 rfl rfl (Rd.at 5 rfl rfl)) ?_
                    refine TL_pure (d := (some 83)) rfl rfl rfl (PV.cast (PV_bin rfl rfl bin_add) e83) ?_
                    refine TL_pure (d := (some 84)) rfl rfl rfl (PV_fieldAddr (D := 5) Try.underlying48 rfl sz3 (by decide) rfl rfl) ?_
                    refine TL_cons rfl (TO_store1 5 rfl rfl rfl sz3 rfl rfl rfl (by first | exact Nat.le_of_ble_eq_true rfl | (simp; done) | (simp; omega) | omega) ?_)
                    refine TL_nil ?_
                    refine T_region ?_
                    refine TL_pure (d := (some 85)) rfl rfl rfl (PV_move rfl) ?_
                    refine TL_pure (d := (some 86)) rfl rfl rfl (PV_move rfl) ?_
                    refine TL_perm ((perm_pick (i := 2) rfl).trans (List.Perm.cons _ ((perm_pick (i := 2) rfl).trans (List.Perm.cons _ ((perm_pick (i := 2) rfl).trans (List.Perm.cons _ (List.Perm.refl _))))))) ?_
                    refine TL_cons rfl (TO_call0 call33 rfl rfl (t75 (r := x.r.tick) (Shows.at 0 rfl) ?sd24003q254_1 ?sd24003q254_2 ?sd24003q254_3 ?sd24003q254_4 ?sd24003q254_5 ?sd24003q254_6 ?sd24003q254_7 ?sd24003q254_8) ?_)
                    case sd24003q254_1 => omega
                    case sd24003q254_2 => exact hU
                    case sd24003q254_3 => omega
                    case sd24003q254_4 => omega
                    case sd24003q254_5 => exact hrtk0
                    case sd24003q254_6 => omega
                    case sd24003q254_7 => exact hrtn0
                    case sd24003q254_8 => exact hrtn1
                    rintro v87_24004 H87_24004 ⟨A_24004, k_24004, bA_24004, bc_24004, dA_24004, dc_24004, rfl, h_24004_0, rfl⟩
                    refine TL_pure (d := (some 10)) rfl rfl rfl (PV_assign rfl) ?_
                    refine TL_nil ?_
                    refine ?L241
                    case L241 =>
                      exact ⟨⟨x.fed.1, x.r.tick.put x.fed.2, x.r.tick.putOut x.fed.2, x.ticks + 1, x.sent + 1, false, x.s.err, x.r.err⟩, A_24004, k_24004, (bA_24004, bc_24004), (dA_24004, dc_24004), (), (), ⟨hfit, by show x.ticks + 1 ≤ M; omega, hrun⟩, by show M - (x.ticks + 1) < M - x.ticks; omega, (by repeat (first | exact FrSub.nil _ | refine FrSub.cons rfl ?_)), Has.of_perm ((perm_pick (i := 6) rfl).trans (List.Perm.cons _ ((perm_pick (i := 0) rfl).trans (List.Perm.cons _ ((perm_pick (i := 4) rfl).trans (List.Perm.cons _ ((perm_pick (i := 0) rfl).trans (List.Perm.cons _ ((perm_pick (i := 0) rfl).trans (List.Perm.cons _ ((perm_pick (i := 0) rfl).trans (List.Perm.cons _ ((perm_pick (i := 3) rfl).trans (List.Perm.cons _ (List.Perm.refl _))))))))))))))) (by repeat (first | exact List.Sublist.refl _ | exact List.sublist_append_right _ _ | exact List.sublist_append_left _ _ | apply List.Sublist.cons_cons | apply List.Sublist.cons | refine List.Sublist.trans ?_ (List.sublist_append_left _ _)))⟩
      · have hM2 : x.ticks = M := by omega
        have hfin2 : fin = x := by
          rw [← hxf, show M - x.ticks = 0 by omega]
          rfl
        rw [hfin2]
        refine T_seq ?_
        refine T_seq ?_
        refine T_region ?_
        refine TL_pure (d := (some 18)) rfl rfl rfl (PV_fieldAddr (D := 4) Try.underlying48 rfl sz3 (by decide) rfl rfl) ?_
        refine TL_pure (d := (some 19)) rfl rfl rfl (PV_load Try.underlying3 rfl rfl (Rd.at 0 rfl rfl)) ?_
        refine TL_pure (d := (some 20)) rfl rfl rfl (PV_move rfl) ?_
        refine TL_pure (d := (some 21)) rfl rfl rfl (PV.cast (PV_max rfl rfl) e21) ?_
        refine TL_pure (d := (some 22)) rfl rfl rfl (PV_bin rfl rfl bin_lss) ?_
        refine TL_nil ?_
        refine T_else rfl (by exact decide_eq_false (by omega)) ?_
        refine T_exit ?_
        refine T_seq ?_
        refine T_region ?_
        refine TL_pure (d := (some 88)) rfl rfl rfl (PV_move rfl) ?_
        refine TL_perm ((perm_pick (i := 3) rfl).trans (List.Perm.cons _ ((perm_pick (i := 4) rfl).trans (List.Perm.cons _ (List.Perm.refl _))))) ?_
        refine TL_cons rfl (TO_call0 call34 rfl rfl (t77 (r := x.r) ?sd5002q264_0) ?_)
        case sd5002q264_0 => omega
        rintro v89_5003 H89_5003 ⟨A_5003, k_5003, rfl, h_5003_0, rfl⟩
        refine TL_pure (d := (some 90)) rfl rfl rfl (PV_fieldAddr (D := 3) Try.underlying48 rfl sz26 (by decide) rfl rfl) ?_
        refine TL_cons rfl (TO_store1 3 rfl rfl rfl sz26 rfl rfl rfl (by first | exact Nat.le_of_ble_eq_true rfl | (simp; done) | (simp; omega) | omega) ?_)
        refine TL_nil ?_
        refine T_seq ?_
        refine T_region ?_
        refine TL_pure (d := (some 91)) rfl rfl rfl (PV_loadAt Try.underlying48 rfl sz48 rfl (Rds.take 3 rfl rfl rfl)) ?_
        refine TL_cons rfl (TO_store 7 rfl rfl rfl sz48 rfl rfl rfl (List.forall_mem_cons.2 ⟨by first | rfl | exact errV_one _ | exact errR_one _, List.forall_mem_cons.2 ⟨by first | rfl | exact errV_one _ | exact errR_one _, List.forall_mem_cons.2 ⟨by first | rfl | exact errV_one _ | exact errR_one _, List.forall_mem_cons.2 ⟨by first | rfl | exact errV_one _ | exact errR_one _, List.forall_mem_cons.2 ⟨by first | rfl | exact errV_one _ | exact errR_one _, List.forall_mem_cons.2 ⟨by first | rfl | exact errV_one _ | exact errR_one _, by simp⟩⟩⟩⟩⟩⟩) (by first | exact Nat.le_of_ble_eq_true rfl | (simp; done) | (simp; omega) | omega) ?_)
        refine TL_nil ?_
        refine ?L51
        case L51 =>
          refine T.perm ((perm_pick (i := 7) rfl).trans (List.Perm.cons _ ((perm_pick (i := 0) rfl).trans (List.Perm.cons _ ((perm_pick (i := 4) rfl).trans (List.Perm.cons _ ((perm_pick (i := 0) rfl).trans (List.Perm.cons _ ((perm_pick (i := 3) rfl).trans (List.Perm.cons _ ((perm_pick (i := 0) rfl).trans (List.Perm.cons _ (List.Perm.refl _))))))))))))) ?_
          refine T_ret ?_
          refine ret_ret (ResV_c rfl Try.underlying48 rfl sz48 rfl (Rds.take 0 rfl rfl rfl)) ⟨byC A_5003 k_5003 x.r.dat :: sC gs As cs x.s :: rcC gr bA' bc' dA' dc' x.r :: byC bA' bc' x.r.buf :: byC dA' dc' x.r.dat :: X, (by repeat (first | exact List.Sublist.refl _ | exact List.sublist_append_right _ _ | exact List.sublist_append_left _ _ | apply List.Sublist.cons_cons | apply List.Sublist.cons | refine List.Sublist.trans ?_ (List.sublist_append_left _ _))), A_5003, k_5003, bA', bc', dA', dc', rfl, by assumption, rfl⟩
end
end Go.Proofs.Ytcbkcggijejooaa.SL
