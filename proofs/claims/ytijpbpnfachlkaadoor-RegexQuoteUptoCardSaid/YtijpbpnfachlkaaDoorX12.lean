import Derived.Laws.RangeString
import Derived.Lib.OthersKept
import Derived.Test.YtijpbpnfachlkaaDoorX2
import Derived.Test.YtijpbpnfachlkaaDoorP12
import Derived.Test.YtijpbpnfachlkaaDoorQ2
/- A text that is quoted is a pattern of its bytes: the law. No statement is proved here. -/
set_option linter.unusedVariables false
set_option linter.unusedSimpArgs false
set_option maxRecDepth 100000
set_option maxHeartbeats 8000000
namespace Go.Proofs.YtijpbpnfachlkaaDoor.SL
open Go Go.RowKit
/-! going over a text's letters -/
def atPos (l : List Int) (p : Nat) (o : Obj) : Prop := o = .stringIter (strOfNums l) p
section
variable {w0 : World} {B n : Nat} {fr : Fr} {H : List Chunk} {dst : Option Tmp} {ty : TypeId} {pos : String} {aft : Array Edge} {gd : Option (Nat × Bool)} {K : Fr → List Chunk → Prop} {P : Program}
theorem TO_rangeS {t : TypeId} {x : Operand} {l : List Int} {b : ByteArray} (hb : strOfNums l = b) (ht : P.underlying t = some .string) (hd : dOk n dst = true) (hx : ev fr x = some (.string b)) (h : ∀ g, K (frPut dst (.pointer (some ⟨g, 0, none⟩)) fr) (.ob g (atPos l 0) :: H)) : TO P w0 B n ⟨dst, .range t x, ty, pos, aft, gd⟩ K fr H := by
  intro HX a w Q hf hr
  subst hb
  have hrun : (Instr.range t (.string (strOfNums l))).run P w = .ok (.pointer (some ⟨w.heap.size, 0, none⟩)) (w.alloc (.stringIter (strOfNums l) 0)) := run_range_string w t _ ht
  simp only [Oper.wp, execOp, hf.ev hx]
  rw [Sem.run_bind, hrun]
  simp only [Result.andThen_ok, Sem.run_pure, Oper.upon]
  exact ⟨_, _, h w.heap.size, hf.put hd _, hr.newOb (I := atPos l 0) _ rfl⟩
theorem TO_nextS {it : Operand} {r p : Nat} {l : List Int} (i : Nat) (hi : H[i]? = some (.ob r (atPos l p))) (hu : ∀ x ∈ l, 0 ≤ x ∧ x ≤ 127) (hp : p < l.length) (hd : dOk n dst = true) (hit : ev fr it = some (.pointer (some ⟨r, 0, none⟩)))
    (h : K (frPut dst (.tuple #[.bool true, .int .i64 (p : Int), .int .i32 (rd l (p : Int))]) fr) (H.set i (.ob r (atPos l (p + 1))))) : TO P w0 B n ⟨dst, .next it true, ty, pos, aft, gd⟩ K fr H := by
  intro HX a w Q hf hr
  obtain ⟨o, hb, ho⟩ := ob_at hi hr
  unfold atPos at ho
  subst ho
  have hsz : p < (strOfNums l).size := by rw [str_len]; exact hp
  have hat := strOfNums_at hp
  rw [getElem?_pos _ p hsz] at hat
  have hat := Option.some.inj hat
  have hx : 0 ≤ rd l p ∧ rd l p ≤ 127 := by
    have e : rd l p = l[p] := by simp [rd, List.getD_eq_getElem?_getD, List.getElem?_eq_getElem hp]
    rw [e]; exact hu _ (List.getElem_mem hp)
  have hn : ((strOfNums l)[p]'hsz).toNat = (rd l p).toNat := by
    rw [hat]
    have : (UInt8.ofNat (rd l p).toNat).toNat = (rd l p).toNat % 256 := by simp
    rw [this]; omega
  have hrun := Lib.run_next_ascii_at (P := P) w r (strOfNums l) p ty hb hsz (by rw [hn]; omega)
  rw [hn, show (((rd l p).toNat : Nat) : Int) = rd l p by omega] at hrun
  obtain ⟨g1, g2, g3⟩ := grownBy_setBlock (o' := .stringIter (strOfNums l) (p + 1)) hb
  simp only [Oper.wp, execOp, hf.ev hit]
  rw [Sem.run_bind, hrun]
  simp only [Result.andThen_ok, Sem.run_pure, Oper.upon]
  exact ⟨_, _, h, hf.put hd _, hr.turnOb i hi (J := atPos l (p + 1)) g1 g2 ⟨_, g3, rfl⟩⟩
theorem TO_nextE {it : Operand} {r p : Nat} {l : List Int} (i : Nat) (hi : H[i]? = some (.ob r (atPos l p))) (hp : ¬ p < l.length) (hd : dOk n dst = true) (hit : ev fr it = some (.pointer (some ⟨r, 0, none⟩)))
    (h : K (frPut dst (.tuple #[.bool false]) fr) H) : TO P w0 B n ⟨dst, .next it true, ty, pos, aft, gd⟩ K fr H := by
  intro HX a w Q hf hr
  obtain ⟨o, hb, ho⟩ := ob_at hi hr
  unfold atPos at ho
  subst ho
  have hrun := Lib.run_next_end_at (P := P) w r (strOfNums l) p ty hb (by rw [str_len]; exact hp)
  simp only [Oper.wp, execOp, hf.ev hit]
  rw [Sem.run_bind, hrun]
  simp only [Result.andThen_ok, Sem.run_pure, Oper.upon]
  exact ⟨_, _, h, hf.put hd _, hr⟩
end
/-! the letters that are quoted -/
def metaL : List Int := [40, 41, 91, 93, 46, 42, 43, 63, 124, 92]
def hitB (c : Int) (p : Nat) : Bool := (metaL.take p).any fun x => c == x
theorem hit_all (c : Int) : hitB c 10 = isMeta c := by
  simp [hitB, metaL, isMeta, Bool.or_assoc]
theorem hit_succ {c : Int} {p : Nat} (hp : p < 10) : hitB c (p + 1) = (hitB c p || c == rd metaL (p : Int)) := by
  have e : metaL.take (p + 1) = metaL.take p ++ [rd metaL (p : Int)] := by
    have hl : p < metaL.length := hp
    rw [List.take_add_one, List.getElem?_eq_getElem hl]
    simp [rd, List.getD_eq_getElem?_getD, List.getElem?_eq_getElem hl]
  unfold hitB
  rw [e, List.any_append]
  simp
theorem hit_not : ∀ p : Nat, p < 10 → hitB (rd metaL (p : Int)) p = false := by decide
def wantQ (l : List Int) (c : Int) (p : Nat) : List Int := l ++ if hitB c p then [92] else []
theorem quoteL_snoc (l : List Int) (c : Int) : quoteL (l ++ [c]) = wantQ (quoteL l) c 10 ++ [c] := by
  unfold wantQ
  rw [hit_all]
  simp only [quoteL, List.flatMap_append, List.flatMap_cons, List.flatMap_nil, List.append_nil]
  split <;> simp
theorem quoteL_app (l m : List Int) : quoteL (l ++ m) = quoteL l ++ quoteL m := by simp [quoteL]
theorem take_snoc {s : List Int} {k : Nat} (hk : k < s.length) : s.take (k + 1) = s.take k ++ [rd s (k : Int)] := by
  rw [List.take_add_one, List.getElem?_eq_getElem hk]
  simp [rd, List.getD_eq_getElem?_getD, List.getElem?_eq_getElem hk]
theorem chainF_snoc : ∀ (l : List Int) (c : Int) (out : Rx) (first : Bool), chainF (l ++ [c]) out first = if first = true ∧ l = [] then oneC c else .then_ (chainF l out first) (oneC c)
  | [], c, out, first => by cases first <;> simp [chainF]
  | x :: l, c, out, first => by
    show chainF (l ++ [c]) _ false = _
    rw [chainF_snoc l c _ false, if_neg (show ¬(false = true ∧ l = []) from fun h => nomatch h.1), if_neg (show ¬(first = true ∧ x :: l = []) from fun h => nomatch h.2)]
    rfl
theorem chain_one {s : List Int} {k : Nat} (hk : k < s.length) (h0 : k = 0) : chainT (s.take (k + 1)) = oneC (rd s (k : Int)) := by
  rw [take_snoc hk, h0]
  unfold chainT
  rw [List.take_zero, chainF_snoc, if_pos ⟨rfl, rfl⟩]
theorem chain_two {s : List Int} {k : Nat} (hk : k < s.length) (h0 : k ≠ 0) : chainT (s.take (k + 1)) = .then_ (chainT (s.take k)) (oneC (rd s (k : Int))) := by
  rw [take_snoc hk]
  unfold chainT
  rw [chainF_snoc, if_neg]
  rintro ⟨_, h⟩
  have := congrArg List.length h
  simp only [List.length_take, List.length_nil] at this
  omega
theorem str_one (s : List Int) (k : Nat) (hk : k < s.length) : (strOfNums s).extract k (k + 1) = strOfNums [rd s (k : Int)] := by
  have e : [rd s (k : Int)] = (s.drop k).take (k + 1 - k) := by
    rw [show k + 1 - k = 1 by omega, List.take_one, List.head?_drop, List.getElem?_eq_getElem hk]
    simp [rd, List.getD_eq_getElem?_getD, List.getElem?_eq_getElem hk]
  rw [e]
  apply ByteArray.ext
  simp only [ByteArray.data_extract, strOfNums, List.map_take, List.map_drop]
  apply Array.ext'
  simp
theorem str_of' (s : ByteArray) : ∃ l : List Int, U8s l ∧ strOfNums l = s := ⟨s.data.toList.map fun b : UInt8 => (b.toNat : Int), fun x hx => by
    obtain ⟨b, hb, rfl⟩ := List.mem_map.1 hx
    have := b.toNat_lt
    omega, by
    apply ByteArray.ext
    apply Array.ext'
    simp only [strOfNums, List.map_map]
    have e : s.data.toList.map ((fun n : Int => UInt8.ofNat n.toNat) ∘ fun b : UInt8 => (b.toNat : Int)) = s.data.toList := by
      conv => rhs; rw [← List.map_id s.data.toList]
      exact List.map_congr_left fun x _ => by simp
    rw [e]⟩
section
variable {w0 : World} {B n : Nat} {H : List Chunk}
theorem RegexQuote_t (hL : Laid w0) (hB0 : 0 < B) {sb mb : ByteArray} (hsl : sb.size ≤ 1048576) (hml : mb.size ≤ 1048576) :
    TCall Tryd.prog w0 B 7 #[.string sb, .string mb] (fun r H' => r = .bool true ∧ H' = H) H := by
  obtain ⟨s, hu, rfl⟩ := str_of' sb
  obtain ⟨m, hum, rfl⟩ := str_of' mb
  rw [str_len] at hsl hml
  have aw := fun {X : List Chunk} => (awake06s (w0 := w0) (B := B) (H := X) hL hB0)
  have el : Value.int .i64 (((strOfNums s).size : Nat) : Int) = .int .i64 ((s.length : Nat) : Int) := by rw [str_len]
  have hq2 := quoteL_len s
  have hmb : strOfNums metaL = ⟨#[40, 41, 91, 93, 46, 42, 43, 63, 124, 92]⟩ := by kernel_rfl
  have h92 : strOfNums [92] = ⟨#[92]⟩ := by kernel_rfl
  refine TCall_intro (args := [_, _]) Tryd.func7 rfl Tryd.ntmps7 (Nat.le_of_ble_eq_true rfl) ?_
  refine T_seq ?_
  refine T_region ?_
  refine TL_p (PV_assign rfl) ?_
  refine TL_nil ?_
  refine T_seq ?_
  refine T_seq ?_
  refine T_region ?_
  refine TL_cons rfl (TO_call0 call10 rfl rfl (aw) ?_)
  rintro v15_3 H15_3 ⟨rfl, rfl⟩
  refine TL_p (PV_not rfl) ?_
  refine TL_nil ?_
  refine T_else rfl (by rfl) ?_
  refine T_skip ?_
  refine T_seq ?_
  refine T_region ?_
  refine TL_p (PV_move rfl) ?_
  refine TL_cons rfl (TO_eqD call20 (Quote_t hu (by omega)) rfl rfl _ (List.Sublist.refl _) ?_)
  refine TL_p (PV_assign rfl) ?_
  refine TL_nil ?_
  refine T_seq ?_
  refine T_region ?_
  refine TL_p (PV_assign rfl) ?_
  refine TL_nil ?_
  refine T_seq ?_
  refine T_seq ?_
  refine T_region ?_
  refine TL_p (PV_assign rfl) ?_
  refine TL_nil ?_
  refine T_block ?_
  refine ?L1
  case L1 =>
    refine T_addNil 1 ?_
    refine T_loopP1 (fun (k : Nat) => k ≤ s.length) (fun k => s.length - k) (fun k => [(0, .string (strOfNums s)), (1, .string (strOfNums m)), (5, .string (strOfNums (quoteL s))), (6, .string (strOfNums (quoteL (s.take k)))), (7, .int .i64 (k : Int))]) (fun k => H) 0 (Nat.zero_le _) (by repeat (first | exact FrSub.nil _ | refine FrSub.cons rfl ?_)) (Has.of_sub (by repeat (first | exact Sb.r | exact Sb.ar | exact Sb.al | apply Sb.c | apply Sb.d | refine Sb.t ?_))) ?_
    rintro k hk
    have hql := quoteL_len (s.take k)
    have htl : (s.take k).length = k := by rw [List.length_take]; omega
    by_cases hks : k < s.length
    · have e24 : Value.int .i64 (IntKind.i64.wrap ((k : Int) + 1)) = .int .i64 ((k + 1 : Nat) : Int) := wr64n _ (by push_cast; rfl) (by omega)
      have hx := hu.at_ (k : Int)
      have e42 : Value.string ((strOfNums s).extract k (k + 1)) = .string (strOfNums [rd s (k : Int)]) := by rw [str_one s k hks]
      refine T_seq ?_
      refine T_seq ?_
      refine T_region ?_
      refine TL_p (PV_move rfl) ?_
      refine TL_p (PV_move rfl) ?_
      refine TL_p (PV.cast (PV_len_string Tryd.underlying9 rfl) el) ?_
      refine TL_p (PV_bin rfl rfl bin_lss) ?_
      refine TL_nil ?_
      refine T_then rfl (by exact decide_eq_true (by omega)) ?_
      refine T_skip ?_
      refine T_seq ?_
      refine T_block ?_
      refine T_seq ?_
      refine T_seq ?_
      refine T_region ?_
      refine TL_cons rfl (TO_rangeS hmb Tryd.underlying9 rfl rfl fun g25 => ?_)
      refine TL_nil ?_
      refine T_block ?_
      refine ?L11
      case L11 =>
        refine T_loopP1 (fun (p : Nat) => p ≤ 10) (fun p => 10 - p) (fun p => [(0, .string (strOfNums s)), (1, .string (strOfNums m)), (5, .string (strOfNums (quoteL s))), (6, .string (strOfNums (wantQ (quoteL (s.take k)) (rd s (k : Int)) p))), (7, .int .i64 (k : Int)), (25, .pointer (some ⟨g25, 0, none⟩))]) (fun p => .ob g25 (atPos metaL p) :: H) 0 (Nat.zero_le _) (by rw [show wantQ (quoteL (s.take k)) (rd s (k : Int)) 0 = quoteL (s.take k) from List.append_nil _]; exact (by repeat (first | exact FrSub.nil _ | refine FrSub.cons rfl ?_))) (Has.of_sub (by repeat (first | exact Sb.r | exact Sb.ar | exact Sb.al | apply Sb.c | apply Sb.d | refine Sb.t ?_))) ?_
        rintro p hp
        by_cases hp10 : p < 10
        · have hmx : 0 ≤ rd metaL (p : Int) ∧ rd metaL (p : Int) ≤ 127 := (show ∀ p : Nat, p < 10 → 0 ≤ rd metaL (p : Int) ∧ rd metaL (p : Int) ≤ 127 by decide) p hp10
          have e33 : Value.int .u8 (IntKind.u8.wrap (rd metaL (p : Int))) = .int .u8 (rd metaL (p : Int)) := by
            rw [IntKind.wrap_u8]; congr 1; omega
          by_cases hc : rd s (k : Int) = rd metaL (p : Int)
          · have e34 : Value.bool (rd s (k : Int) == rd metaL (p : Int)) = .bool true := by rw [hc]; simp
            have h0 : wantQ (quoteL (s.take k)) (rd s (k : Int)) p = quoteL (s.take k) := by unfold wantQ; rw [hc, hit_not p hp10]; simp
            have h1 : wantQ (quoteL (s.take k)) (rd s (k : Int)) (p + 1) = quoteL (s.take k) ++ [92] := by unfold wantQ; rw [hit_succ hp10, hc]; simp
            rw [h0]
            refine T_seq ?_
            refine T_region ?_
            refine TL_cons rfl (TO_nextS (p := p) 0 rfl (show ∀ x ∈ metaL, 0 ≤ x ∧ x ≤ 127 by decide) hp10 rfl rfl ?_)
            refine TL_p (PV_extract rfl rfl) ?_
            refine TL_nil ?_
            refine T_seq ?_
            refine T_then rfl (by rfl) ?_
            refine T_skip ?_
            refine T_block ?_
            refine T_seq ?_
            refine T_region ?_
            refine TL_p (PV_extract rfl rfl) ?_
            refine TL_p (PV_assign rfl) ?_
            refine TL_nil ?_
            refine T_seq ?_
            refine T_region ?_
            refine TL_p (PV_move rfl) ?_
            refine TL_p (PV_move rfl) ?_
            refine TL_p (PV_indexNums Tryd.underlying9 rfl rfl rfl hu hks) ?_
            refine TL_p (PV_move rfl) ?_
            refine TL_p (PV.cast (PV_conv (by rw [Tryd.underlying21]; rfl) Tryd.underlying5 rfl) e33) ?_
            refine TL_p (PV.cast (PV_bin rfl rfl bin_eql) e34) ?_
            refine TL_nil ?_
            refine T_then rfl (by rfl) ?_
            refine T_region ?_
            refine TL_p (PV_move rfl) ?_
            refine TL_p (PV_bin rfl rfl (bin_cat (x := quoteL (s.take k)) (y := [92]) rfl h92 (by simp; omega))) ?_
            refine TL_p (PV_assign rfl) ?_
            refine TL_nil ?_
            refine ?L21
            all_goals exact ⟨p + 1, by omega, by omega, by rw [h1]; exact (by repeat (first | exact FrSub.nil _ | refine FrSub.cons rfl ?_)), Has.of_sub (by repeat (first | exact Sb.r | exact Sb.ar | exact Sb.al | apply Sb.c | apply Sb.d | refine Sb.t ?_))⟩
          · have e34 : Value.bool (rd s (k : Int) == rd metaL (p : Int)) = .bool false := congrArg Value.bool (by rw [beq_eq_false_iff_ne]; exact hc)
            have h1 : wantQ (quoteL (s.take k)) (rd s (k : Int)) (p + 1) = wantQ (quoteL (s.take k)) (rd s (k : Int)) p := by unfold wantQ; rw [hit_succ hp10, beq_eq_false_iff_ne.2 hc, Bool.or_false]
            refine T_seq ?_
            refine T_region ?_
            refine TL_cons rfl (TO_nextS (p := p) 0 rfl (show ∀ x ∈ metaL, 0 ≤ x ∧ x ≤ 127 by decide) hp10 rfl rfl ?_)
            refine TL_p (PV_extract rfl rfl) ?_
            refine TL_nil ?_
            refine T_seq ?_
            refine T_then rfl (by rfl) ?_
            refine T_skip ?_
            refine T_block ?_
            refine T_seq ?_
            refine T_region ?_
            refine TL_p (PV_extract rfl rfl) ?_
            refine TL_p (PV_assign rfl) ?_
            refine TL_nil ?_
            refine T_seq ?_
            refine T_region ?_
            refine TL_p (PV_move rfl) ?_
            refine TL_p (PV_move rfl) ?_
            refine TL_p (PV_indexNums Tryd.underlying9 rfl rfl rfl hu hks) ?_
            refine TL_p (PV_move rfl) ?_
            refine TL_p (PV.cast (PV_conv (by rw [Tryd.underlying21]; rfl) Tryd.underlying5 rfl) e33) ?_
            refine TL_p (PV.cast (PV_bin rfl rfl bin_eql) e34) ?_
            refine TL_nil ?_
            refine T_else rfl (by rfl) ?_
            refine T_skip ?_
            refine ?L31
            all_goals exact ⟨p + 1, by omega, by omega, by rw [h1]; exact (by repeat (first | exact FrSub.nil _ | refine FrSub.cons rfl ?_)), Has.of_sub (by repeat (first | exact Sb.r | exact Sb.ar | exact Sb.al | apply Sb.c | apply Sb.d | refine Sb.t ?_))⟩
        · obtain rfl : p = 10 := by omega
          have hwl : (wantQ (quoteL (s.take k)) (rd s (k : Int)) 10).length ≤ 2 * k + 1 := by
            unfold wantQ
            rw [List.length_append]
            split <;> simp <;> omega
          have h1 : quoteL (s.take (k + 1)) = wantQ (quoteL (s.take k)) (rd s (k : Int)) 10 ++ [rd s (k : Int)] := by rw [take_snoc hks, quoteL_snoc]
          refine T_seq ?_
          refine T_region ?_
          refine TL_cons rfl (TO_nextE (p := 10) 0 rfl (by decide) rfl rfl ?_)
          refine TL_p (PV_extract rfl rfl) ?_
          refine TL_nil ?_
          refine T_seq ?_
          refine T_else rfl (by rfl) ?_
          refine T_exit ?_
          refine T_region ?_
          refine TL_p (PV_move rfl) ?_
          refine TL_p (PV_move rfl) ?_
          refine TL_p (PV_move rfl) ?_
          refine TL_p (PV_move rfl) ?_
          refine TL_p (PV.cast (PV_bin rfl rfl bin_add) e24) ?_
          refine TL_p (PV.cast (PV_sliceStr (l := k) (h := k + 1) Tryd.underlying9 rfl ⟨_, rfl⟩ ⟨_, rfl⟩ (by omega) (by rw [str_len]; omega)) e42) ?_
          refine TL_p (PV_bin rfl rfl (bin_cat (x := wantQ (quoteL (s.take k)) (rd s (k : Int)) 10) (y := [rd s (k : Int)]) rfl rfl (by simp; omega))) ?_
          refine TL_p (PV_assign rfl) ?_
          refine TL_nil ?_
          refine T_region ?_
          refine TL_p (PV_move rfl) ?_
          refine TL_p (PV.cast (PV_bin rfl rfl bin_add) e24) ?_
          refine TL_p (PV_assign rfl) ?_
          refine TL_nil ?_
          refine ?L41
          all_goals exact ⟨k + 1, by omega, by omega, by rw [h1]; exact (by repeat (first | exact FrSub.nil _ | refine FrSub.cons rfl ?_)), Has.of_sub (by repeat (first | exact Sb.r | exact Sb.ar | exact Sb.al | apply Sb.c | apply Sb.d | refine Sb.t ?_))⟩
    · obtain rfl : k = s.length := by omega
      rw [List.take_length]
      have e46 : Value.bool (!decide (strOfNums (quoteL s) = strOfNums (quoteL s))) = .bool false := by simp
      have e54 : Value.bool (decide (strOfNums (quoteL s) = strOfNums (quoteL s))) = .bool true := by simp
      have eq49 : Value.int .i64 (((strOfNums (quoteL s)).size : Nat) : Int) = .int .i64 (((quoteL s).length : Nat) : Int) := by rw [str_len]
      by_cases hlong : (quoteL s).length ≤ 64
      · have e50 : Value.bool (decide ((((quoteL s).length : Nat) : Int) > 64)) = .bool false := congrArg Value.bool (decide_eq_false (by omega))
        have hpar := parse_quote (s := s)
        refine T_seq ?_
        refine T_seq ?_
        refine T_region ?_
        refine TL_p (PV_move rfl) ?_
        refine TL_p (PV_move rfl) ?_
        refine TL_p (PV.cast (PV_len_string Tryd.underlying9 rfl) el) ?_
        refine TL_p (PV_bin rfl rfl bin_lss) ?_
        refine TL_nil ?_
        refine T_else rfl (by (simp; done)) ?_
        refine T_exit ?_
        refine T_seq ?_
        refine T_seq ?_
        refine T_region ?_
        refine TL_p (PV_move rfl) ?_
        refine TL_p (PV_move rfl) ?_
        refine TL_p (PV.cast (PV_bin rfl rfl bin_str_neq) e46) ?_
        refine TL_p (PV_move rfl) ?_
        refine TL_yes rfl rfl rfl (TO_pure rfl (PV_move rfl) ?_)
        refine TL_yes rfl rfl rfl (TO_pure rfl (PV.cast (PV_len_string Tryd.underlying9 rfl) eq49) ?_)
        refine TL_yes rfl rfl rfl (TO_pure rfl (PV.cast (PV_bin rfl rfl bin_gtr) e50) ?_)
        refine TL_p (PV_pickOr rfl rfl rfl) ?_
        refine TL_nil ?_
        refine T_else rfl (by rfl) ?_
        refine T_skip ?_
        refine T_seq ?_
        refine T_region ?_
        refine TL_p (PV_move rfl) ?_
        refine TL_cons rfl (TO_parse hpar (quoteL_u8 hu) hlong rfl rfl rfl fun v57 N57 hv57 => ?_)
        refine TL_p (PV_move rfl) ?_
        refine TL_p (PV_extract rfl rfl) ?_
        refine TL_p (PV_extract rfl rfl) ?_
        refine TL_cons rfl (TO_alloc rfl zr30 fun g6002 => ?_)
        refine TL_cons rfl (TO_store 0 rfl rfl rfl sz30 rfl rfl rfl (all_one rfl) (by first | exact Nat.le_of_ble_eq_true rfl | (simp; done) | (simp; omega) | omega) ?_)
        refine TL_p (PV_assign rfl) ?_
        refine TL_nil ?_
        refine T_seq ?_
        refine T_region ?_
        refine TL_cons rfl (TO_alloc rfl zr30 fun g6004 => ?_)
        refine TL_nil ?_
        refine T_seq ?_
        refine T_seq ?_
        refine T_region ?_
        refine TL_p (PV_assign rfl) ?_
        refine TL_nil ?_
        refine T_block ?_
        refine ?L61
        case L61 =>
          refine T_loopP3 (fun (k : Nat) (v : Nv) (Z : List Chunk) => k ≤ s.length ∧ (H ++ N57).Sublist Z ∧ Tr (WH w0 B Z) (chainT (s.take k)) v) (fun k _ _ => s.length - k) (fun k v Z => [(0, .string (strOfNums s)), (1, .string (strOfNums m)), (5, .string (strOfNums (quoteL s))), (10, .pointer (some ⟨g6002, 0, none⟩)), (11, .nilIface), (12, .pointer (some ⟨g6004, 0, none⟩)), (13, .int .i64 (k : Int))]) (fun k v Z => .own g6004 6 v.cells :: .own g6002 6 v57.cells :: Z) 0 nv0 (H ++ N57) ⟨Nat.zero_le _, List.Sublist.refl _, rfl⟩ (by repeat (first | exact FrSub.nil _ | refine FrSub.cons rfl ?_)) (Has.of_sub (by repeat (first | exact Sb.r | exact Sb.ar | exact Sb.al | apply Sb.c | apply Sb.d | refine Sb.t ?_))) ?_
          clear hk hks
          rintro k v Z ⟨hk, hZ, hv⟩
          by_cases hks : k < s.length
          · have e65 : Value.int .i64 (IntKind.i64.wrap ((k : Int) + 1)) = .int .i64 ((k + 1 : Nat) : Int) := wr64n _ (by push_cast; rfl) (by omega)
            have hbn := fun {X : List Chunk} => byteNode_t (w0 := w0) (B := B) (H := X) (hu.at_ (k : Int))
            by_cases h0 : k = 0
            · have e71 : Value.bool ((k : Int) == 0) = .bool true := by rw [h0]; rfl
              refine T_seq ?_
              refine T_seq ?_
              refine T_region ?_
              refine TL_p (PV_move rfl) ?_
              refine TL_p (PV_move rfl) ?_
              refine TL_p (PV.cast (PV_len_string Tryd.underlying9 rfl) el) ?_
              refine TL_p (PV_bin rfl rfl bin_lss) ?_
              refine TL_nil ?_
              refine T_then rfl (by exact decide_eq_true (by omega)) ?_
              refine T_skip ?_
              refine T_seq ?_
              refine T_block ?_
              refine T_seq ?_
              refine T_region ?_
              refine TL_p (PV_move rfl) ?_
              refine TL_p (PV_move rfl) ?_
              refine TL_p (PV_indexNums Tryd.underlying9 rfl rfl rfl hu hks) ?_
              refine TL_cons rfl (TO_eqD call21 hbn rfl rfl _ (List.Sublist.refl _) ?_)
              refine TL_cons rfl (TO_alloc rfl zr30 fun g7002 => ?_)
              refine TL_cons rfl (TO_store 0 rfl rfl rfl sz30 rfl rfl rfl (all_one rfl) (by first | exact Nat.le_of_ble_eq_true rfl | (simp; done) | (simp; omega) | omega) ?_)
              refine TL_nil ?_
              refine T_seq ?_
              refine T_region ?_
              refine TL_p (PV_move rfl) ?_
              refine TL_p (PV.cast (PV_bin rfl rfl bin_eql) e71) ?_
              refine TL_nil ?_
              refine T_then rfl (by rfl) ?_
              refine T_region ?_
              refine TL_p (PV_loadAt Tryd.underlying30 rfl sz30 rfl (Rds.take 0 rfl rfl rfl)) ?_
              refine TL_cons rfl (TO_store 1 rfl rfl rfl sz30 rfl rfl rfl (all_one rfl) (by first | exact Nat.le_of_ble_eq_true rfl | (simp; done) | (simp; omega) | omega) ?_)
              refine TL_nil ?_
              refine T_region ?_
              refine TL_p (PV_move rfl) ?_
              refine TL_p (PV.cast (PV_bin rfl rfl bin_add) e65) ?_
              refine TL_p (PV_assign rfl) ?_
              refine TL_nil ?_
              refine ?L71
              all_goals exact ⟨k + 1, ⟨1, S4.zero.with_ (rd s (k : Int)).toNat, none, 0, 0⟩, Z, ⟨by omega, hZ, by rw [chain_one hks h0]; rfl⟩, by omega, (by repeat (first | exact FrSub.nil _ | refine FrSub.cons rfl ?_)), Has.of_perm ((perm_pick (i := 1) rfl).trans (List.Perm.cons _ ((perm_pick (i := 1) rfl).trans (List.Perm.cons _ (List.Perm.refl _))))) (by repeat (first | exact Sb.r | exact Sb.ar | exact Sb.al | apply Sb.c | apply Sb.d | refine Sb.t ?_))⟩
            · have e71 : Value.bool ((k : Int) == 0) = .bool false := congrArg Value.bool (by rw [beq_eq_false_iff_ne]; omega)
              refine T_seq ?_
              refine T_seq ?_
              refine T_region ?_
              refine TL_p (PV_move rfl) ?_
              refine TL_p (PV_move rfl) ?_
              refine TL_p (PV.cast (PV_len_string Tryd.underlying9 rfl) el) ?_
              refine TL_p (PV_bin rfl rfl bin_lss) ?_
              refine TL_nil ?_
              refine T_then rfl (by exact decide_eq_true (by omega)) ?_
              refine T_skip ?_
              refine T_seq ?_
              refine T_block ?_
              refine T_seq ?_
              refine T_region ?_
              refine TL_p (PV_move rfl) ?_
              refine TL_p (PV_move rfl) ?_
              refine TL_p (PV_indexNums Tryd.underlying9 rfl rfl rfl hu hks) ?_
              refine TL_cons rfl (TO_eqD call21 hbn rfl rfl _ (List.Sublist.refl _) ?_)
              refine TL_cons rfl (TO_alloc rfl zr30 fun g8002 => ?_)
              refine TL_cons rfl (TO_store 0 rfl rfl rfl sz30 rfl rfl rfl (all_one rfl) (by first | exact Nat.le_of_ble_eq_true rfl | (simp; done) | (simp; omega) | omega) ?_)
              refine TL_nil ?_
              refine T_seq ?_
              refine T_region ?_
              refine TL_p (PV_move rfl) ?_
              refine TL_p (PV.cast (PV_bin rfl rfl bin_eql) e71) ?_
              refine TL_nil ?_
              refine T_else rfl (by rfl) ?_
              refine T_region ?_
              refine TL_p (PV_loadAt Tryd.underlying30 rfl sz30 rfl (Rds.take 1 rfl rfl rfl)) ?_
              refine TL_p (PV_loadAt Tryd.underlying30 rfl sz30 rfl (Rds.take 0 rfl rfl rfl)) ?_
              refine TL_cons rfl (TO_bs (cs := [_, _, _, _, _, _, _, _, _, _, _, _]) Tryd.underlying28 zs30 (by decide) rfl rfl rfl rfl rfl rfl fun g8004 => ?_)
              refine TL_p (PV_bld (cs := [_, _, _, _, _, _]) Tryd.underlying30 pl30 zr30 rfl rfl) ?_
              refine TL_cons rfl (TO_store 2 rfl rfl rfl sz30 rfl rfl rfl (all_one rfl) (by first | exact Nat.le_of_ble_eq_true rfl | (simp; done) | (simp; omega) | omega) ?_)
              refine TL_nil ?_
              refine T_region ?_
              refine TL_p (PV_move rfl) ?_
              refine TL_p (PV.cast (PV_bin rfl rfl bin_add) e65) ?_
              refine TL_p (PV_assign rfl) ?_
              refine TL_nil ?_
              refine ?L81
              all_goals exact ⟨k + 1, ⟨2, S4.zero, some ⟨g8004, 0, none⟩, 2, 2⟩, .sl (.slice (some ⟨g8004, 0, none⟩) 2 2) 6 2 (v.cells ++ (⟨1, S4.zero.with_ (rd s (k : Int)).toNat, none, 0, 0⟩ : Nv).cells) :: Z, ⟨by omega, hZ.trans (List.sublist_cons_self _ _), by rw [chain_two hks h0]; exact ⟨_, _, v, ⟨1, S4.zero.with_ (rd s (k : Int)).toNat, none, 0, 0⟩, rfl, Nat.le_refl 2, Shows.at 0 rfl, hv.mono fun w h => h.sub (List.sublist_cons_self _ _), rfl⟩⟩, by omega, (by repeat (first | exact FrSub.nil _ | refine FrSub.cons rfl ?_)), Has.of_perm ((perm_pick (i := 2) rfl).trans (List.Perm.cons _ ((perm_pick (i := 2) rfl).trans (List.Perm.cons _ ((perm_pick (i := 0) rfl).trans (List.Perm.cons _ (List.Perm.refl _))))))) (by repeat (first | exact Sb.r | exact Sb.ar | exact Sb.al | apply Sb.c | apply Sb.d | refine Sb.t ?_))⟩
          · obtain rfl : k = s.length := by omega
            rw [List.take_length] at hv
            have hqs := quoteL_len (s ++ m)
            have hqm := quoteL_len m
            have e93 : Value.bool (decide (strOfNums (quoteL (s ++ m)) = strOfNums (quoteL s ++ quoteL m))) = .bool true := by rw [quoteL_app]; simp
            have husm : U8s (s ++ m) := fun x hx => by
              rcases List.mem_append.1 hx with h | h
              · exact hu x h
              · exact hum x h
            refine T_seq ?_
            refine T_seq ?_
            refine T_region ?_
            refine TL_p (PV_move rfl) ?_
            refine TL_p (PV_move rfl) ?_
            refine TL_p (PV.cast (PV_len_string Tryd.underlying9 rfl) el) ?_
            refine TL_p (PV_bin rfl rfl bin_lss) ?_
            refine TL_nil ?_
            refine T_else rfl (by (simp; done)) ?_
            refine T_exit ?_
            refine T_seq ?_
            refine T_region ?_
            refine TL_p (PV_move rfl) ?_
            refine TL_p (PV_bin rfl rfl (bin_nil_nil Tryd.underlying34)) ?_
            refine TL_p (PV_move rfl) ?_
            refine TL_yes rfl rfl rfl (TO_pure rfl (PV_loadAt Tryd.underlying30 rfl sz30 rfl (Rds.take 1 rfl rfl rfl)) ?_)
            refine TL_yes rfl rfl rfl (TO_pure rfl (PV_loadAt Tryd.underlying30 rfl sz30 rfl (Rds.take 0 rfl rfl rfl)) ?_)
            refine TL_yes rfl rfl rfl (TO_eqD call15 (Same_t (hv57.mono fun w h => h.sub ((List.sublist_append_right H N57).trans (hZ.trans (by repeat (first | exact Sb.r | exact Sb.ar | exact Sb.al | apply Sb.d | refine Sb.t ?_))))) (hv.mono fun w h => h.sub (by repeat (first | exact Sb.r | exact Sb.ar | exact Sb.al | apply Sb.d | refine Sb.t ?_)))) rfl rfl _ (List.Sublist.refl _) ?_)
            refine TL_p (PV_pickAnd rfl rfl rfl) ?_
            refine TL_p (PV_move rfl) ?_
            refine TL_yes rfl rfl rfl (TO_pure rfl (PV_move rfl) ?_)
            refine TL_yes rfl rfl rfl (TO_pure rfl (PV_move rfl) ?_)
            refine TL_yes rfl rfl rfl (TO_pure rfl (PV_bin rfl rfl (bin_cat (x := s) (y := m) rfl rfl (by omega))) ?_)
            refine TL_yes rfl rfl rfl (TO_eqD call20 (Quote_t husm (by simp; omega)) rfl rfl _ (List.Sublist.refl _) ?_)
            refine TL_yes rfl rfl rfl (TO_pure rfl (PV_move rfl) ?_)
            refine TL_yes rfl rfl rfl (TO_pure rfl (PV_move rfl) ?_)
            refine TL_yes rfl rfl rfl (TO_eqD call20 (Quote_t hum (by omega)) rfl rfl _ (List.Sublist.refl _) ?_)
            refine TL_yes rfl rfl rfl (TO_pure rfl (PV_bin rfl rfl (bin_cat (x := quoteL s) (y := quoteL m) rfl rfl (by omega))) ?_)
            refine TL_yes rfl rfl rfl (TO_pure rfl (PV.cast (PV_bin rfl rfl bin_str_eql) e93) ?_)
            refine TL_p (PV_pickAnd rfl rfl rfl) ?_
            refine TL_p (PV_assign rfl) ?_
            refine TL_nil ?_
            refine ?L91
            all_goals exact T_ret (ret_ret (ResV_one rfl rfl) ⟨H, (List.sublist_append_left H N57).trans (hZ.trans (by repeat (first | exact Sb.r | exact Sb.ar | exact Sb.al | apply Sb.d | refine Sb.t ?_))), rfl, rfl⟩)
      · have e50 : Value.bool (decide ((((quoteL s).length : Nat) : Int) > 64)) = .bool true := congrArg Value.bool (decide_eq_true (by omega))
        refine T_seq ?_
        refine T_seq ?_
        refine T_region ?_
        refine TL_p (PV_move rfl) ?_
        refine TL_p (PV_move rfl) ?_
        refine TL_p (PV.cast (PV_len_string Tryd.underlying9 rfl) el) ?_
        refine TL_p (PV_bin rfl rfl bin_lss) ?_
        refine TL_nil ?_
        refine T_else rfl (by (simp; done)) ?_
        refine T_exit ?_
        refine T_seq ?_
        refine T_seq ?_
        refine T_region ?_
        refine TL_p (PV_move rfl) ?_
        refine TL_p (PV_move rfl) ?_
        refine TL_p (PV.cast (PV_bin rfl rfl bin_str_neq) e46) ?_
        refine TL_p (PV_move rfl) ?_
        refine TL_yes rfl rfl rfl (TO_pure rfl (PV_move rfl) ?_)
        refine TL_yes rfl rfl rfl (TO_pure rfl (PV.cast (PV_len_string Tryd.underlying9 rfl) eq49) ?_)
        refine TL_yes rfl rfl rfl (TO_pure rfl (PV.cast (PV_bin rfl rfl bin_gtr) e50) ?_)
        refine TL_p (PV_pickOr rfl rfl rfl) ?_
        refine TL_nil ?_
        refine T_then rfl (by rfl) ?_
        refine T_seq ?_
        refine T_region ?_
        refine TL_p (PV_move rfl) ?_
        refine TL_p (PV_move rfl) ?_
        refine TL_p (PV.cast (PV_bin rfl rfl bin_str_eql) e54) ?_
        refine TL_p (PV_assign rfl) ?_
        refine TL_nil ?_
        refine T_ret ?_
        refine ret_ret (ResV_one rfl rfl) ⟨_, List.Sublist.refl _, ⟨rfl, rfl⟩⟩
end
end Go.Proofs.YtijpbpnfachlkaaDoor.SL
