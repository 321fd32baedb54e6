import Derived.Test.YthdkmgeigdoglaaH3
import Derived.Laws.CopyOwn
/- A board's memory: Write, Read, Print. No statement is proved here. -/
namespace Go.Proofs.Ythdkmgeigdoglaa.Hand
open Go.RowKit Go.Proofs.YthdkmgeigdoglaaW.PrintWords Go.Proofs.YthdkmgeigdoglaaW.PrintLast Go.Proofs.YthdkmgeigdoglaaW.PrintMore H
attribute [local go_sem] max_two min_two max_three min_three max_four min_four
set_option linter.unusedVariables false
set_option linter.unusedSimpArgs false
theorem print_any (A : Option Addr) (m c : Nat) (l : List Int) (w : World) (hr : ReadsInt w .u8 A m l) (hA : ∀ ad, A = some ad → 0 < m → ad.block < w.heap.size) (hc : m ≤ c) (hu : U8s l) :
    Calls Try.prog 40 #[.slice A m c] w fun e w' => e = .returned (.int .u32 (prI l)) ∧ Below w.heap.size w w' := by
  obtain rfl := hr.1
  exact print_calls A c l w hr hA hc hu
theorem reads_lt {w : World} {k : IntKind} {A : Option Addr} {n : Nat} {xs : List Int} (h : ReadsInt w k A n xs) : ∀ ad, A = some ad → 0 < n → ad.block < w.heap.size := by
  intro ad ha hn
  obtain ⟨ad', he, hc⟩ := h.2.2 hn
  rw [ha] at he
  injection he with he
  subst he
  have := World.block_lt_of_cell? w _ (hc 0 hn)
  simpa [add_block] using this
theorem size5 : (Try.prog.info? 5).map (·.size) = some 1 := by kernel_rfl
/-- copy into a block: what it holds then, and that all else is as it was. -/
theorem wpList_copy_ch {P : Program} {w : World} {ops : Array Oper} {rest : List Oper} {o : Oper} {a : Act} {Q : Exit → Act → World → Prop} (hgd : o.guard = none) (d s : Operand) (dT sT : TypeId)
    (ho : o.op = .call { callee := .builtin .copy, args := #[d, s], argTypes := #[dT, sT] }) (elem : TypeId) (hu : P.underlying dT = some (.slice elem)) (hsz : (P.info? elem).map (·.size) = some 1)
    (dp sp : Option Addr) (dLen dCap sLen sCap : Nat) (hd : a.eval d = .slice dp dLen dCap) (hs : a.eval s = .slice sp sLen sCap)
    (g off : Nat) (cur : List Value) (t : TypeId) (hg : w.heap[g]? = some (.cells cur.toArray t (0, 0))) (cs : List Value) (hn : cs.length = Nat.min sLen dLen)
    (hpos : 0 < cs.length → dp = some ⟨g, off, none⟩ ∧ ∃ ad, sp = some ad ∧ ∀ j v, cs[j]? = some v → w.cell? (ad.add j) = some v)
    (hfit : off + cs.length ≤ cur.length) (h1 : ∀ v ∈ cs, v.oneCell' = true)
    (h : ∀ w', w'.heap[g]? = some (.cells (cur.take off ++ cs ++ cur.drop (off + cs.length)).toArray t (0, 0)) → Ch (· = g) w w' → wpList P ops Q rest (a.put o.dst (goInt cs.length)) w') :
    wpList P ops Q (o :: rest) a w := by
  by_cases h0 : cs.length = 0
  · obtain rfl : cs = [] := List.eq_nil_of_length_eq_zero h0
    refine wpList_copy_nothing hgd d s dT sT ho elem hu hsz dp sp dLen dCap sLen sCap hd hs (by simpa using hn.symm) ?_
    exact h w (by simpa using hg) (Ch.refl _ _)
  · obtain ⟨rfl, ad, rfl, hsrc⟩ := hpos (by omega)
    refine wpList_copy_own hgd d s dT sT ho elem hu hsz g off dLen dCap ad sLen sCap hd hs cur.toArray t hg cs hn hsrc (by simpa using hfit) h1 ?_
    refine h _ ?_ ⟨rfl, rfl, rfl, by rw [size_setRow]; exact Nat.le_refl _, fun k _ hk => setRow_other _ _ _ _ hk⟩
    have := setRow_heap w g cur.toArray (cur.take off ++ (cs ++ cur.drop (off + cs.length))).toArray t (0, 0) hg
    rw [List.append_assoc]
    exact this
theorem fits_yes (q m : Nat) (h : q + m ≤ 16384) : PStorePrint.store_fits.f (q : Int) (m : Int) = some true := by
  unfold PStorePrint.store_fits.f
  rw [if_pos (by omega), if_pos (by omega), if_pos (by omega), decide_eq_true (by unfold wrap64; omega)]
theorem one_nums (k : IntKind) (t : List Int) : ∀ q ∈ (nums k t).toArray.toList, q.oneCell' = true := by
  intro q hq
  simp only [nums, List.mem_map] at hq
  obtain ⟨x, _, rfl⟩ := hq
  rfl
def Stor (w : World) (g : Nat) (bs : List Int) : Prop := w.heap[g]? = some (.cells (nums .u8 bs).toArray 28 (0, 0)) ∧ bs.length = 16384
theorem nums_take (k : IntKind) (l : List Int) (n : Nat) : nums k (l.take n) = (nums k l).take n := by simp [nums]
theorem nums_drop (k : IntKind) (l : List Int) (n : Nat) : nums k (l.drop n) = (nums k l).drop n := by simp [nums]
def spl (bs : List Int) (q : Nat) (l : List Int) : List Int := bs.take q ++ l ++ bs.drop (q + l.length)
theorem spl_len (bs : List Int) (q : Nat) (l : List Int) (h : q + l.length ≤ bs.length) : (spl bs q l).length = bs.length := by
  unfold spl; simp; omega
/-- the cells that a list of bytes leads to -/
theorem reads_cells {w : World} {k : IntKind} {A : Option Addr} {m : Nat} {l : List Int} (h : ReadsInt w k A m l) (hm : 0 < m) : ∃ ad, A = some ad ∧ ∀ j v, (nums k l)[j]? = some v → w.cell? (ad.add j) = some v := by
  obtain ⟨ad, he, hc⟩ := h.2.2 hm
  refine ⟨ad, he, fun j v hj => ?_⟩
  have hl := h.1
  have hjl : j < l.length := by
    rcases Nat.lt_or_ge j l.length with h1 | h1
    · exact h1
    · simp [nums, List.getElem?_eq_none h1] at hj
  have := hc j (by omega)
  simp [nums, List.getElem?_eq_getElem hjl] at hj
  subst hj
  rw [this]
  simp [List.getD_eq_getElem?_getD, List.getElem?_eq_getElem hjl]
set_option maxHeartbeats 2000000 in
set_option maxRecDepth 100000 in
theorem store_write (g : Nat) (bs : List Int) (q : Nat) (A : Option Addr) (m c : Nat) (l : List Int) (w : World)
    (hg : Stor w g bs) (hr : ReadsInt w .u8 A m l) (hc : m ≤ c) (h1 : q + m ≤ 16384) :
    Calls Try.prog 34 #[.pointer (some ⟨g, 0, none⟩), .int .i64 (q : Int), .slice A m c] w fun e w' => e = .returned (.bool true) ∧ Stor w' g (spl bs q l) ∧ Ch (· = g) w w' := by
  have HG := Aside0.mk hg
  have HR := Aside0.mk hr
  have HM := Aside0.mk hr.1
  clear hg hr
  have hq1 : (q : Int) ≤ 16384 := by omega
  have hsl : Try.prog.arrayLen 26 = 16384 := by kernel_rfl
  have HF := Aside0.mk (fits_yes q m h1)
  have HL : ∀ w2, w2.heap[g]? = some (.cells ((nums .u8 bs).take q ++ nums .u8 l ++ (nums .u8 bs).drop (q + (nums .u8 l).length)).toArray 28 (0, 0)) → Stor w2 g (spl bs q l) := by
    intro w2 h2
    refine ⟨?_, by rw [spl_len _ _ _ (by have := HG.out.2; have := HM.out; omega)]; exact HG.out.2⟩
    rw [h2]
    simp [spl, nums]
  have HL := Aside0.mk HL
  have HN := Aside0.mk (show (nums IntKind.u8 l).length = m by rw [nums_length, HM.out])
  by_cases hq : 16384 = q
  · subst hq
    have hm : m = 0 := by omega
    have HM0 := Aside0.mk hm
    clear hm
    go_enter Try.func34, Try.ntmps34
    go_wp2_with fail
    refine (PStorePrint.store_fits.calls _ (m : Int) true w HF.out).mono ?_
    rintro e w1 ⟨rfl, hd⟩
    have HG1 := Aside0.mk (show w1.heap[g]? = some (.cells (nums .u8 bs).toArray 28 (0, 0)) from blk_below HG.out.1 hd.below)
    have HR1 := Aside0.mk (HR.out.below hd.below)
    have HC1 := Aside0.mk ((Ch.refl (· = g) w).below hd.below)
    clear hd
    go_wp2_with ((with_reducible refine gate_dst (N := 18) rfl ?_); refine wpList_copy_ch rfl (.tmp 16) (.tmp 17) 23 23 rfl 5 Try.underlying23 size5 (some ⟨g, 0, none⟩) A 0 0 m c rfl rfl g 16384 (nums .u8 bs) 28 HG1.out (nums .u8 l) (by rw [HN.out, HM0.out]; rfl) (fun h => by rw [HN.out, HM0.out] at h; omega) (by rw [HN.out, nums_length, HG.out.2, HM0.out]; omega) (fun v hv => one_nums _ _ v (by simpa using hv)) ?_; intro w2 h2 hch; have H2 := Aside0.mk h2; have HC := Aside0.mk hch; clear h2 hch)
    go_ret
    exact ⟨rfl, HL.out w2 H2.out, HC1.out.trans HC.out (fun _ _ h => h)⟩
  · go_enter Try.func34, Try.ntmps34
    go_wp2_with fail
    refine (PStorePrint.store_fits.calls _ (m : Int) true w HF.out).mono ?_
    rintro e w1 ⟨rfl, hd⟩
    have HG1 := Aside0.mk (show w1.heap[g]? = some (.cells (nums .u8 bs).toArray 28 (0, 0)) from blk_below HG.out.1 hd.below)
    have HR1 := Aside0.mk (HR.out.below hd.below)
    have HC1 := Aside0.mk ((Ch.refl (· = g) w).below hd.below)
    clear hd
    go_wp2_with ((with_reducible refine gate_dst (N := 18) rfl ?_); refine wpList_copy_ch rfl (.tmp 16) (.tmp 17) 23 23 rfl 5 Try.underlying23 size5 (some ⟨g, q, none⟩) A (16384 - q) (16384 - q) m c rfl rfl g q (nums .u8 bs) 28 HG1.out (nums .u8 l) (by rw [HN.out]; show m = min m (16384 - q); omega) (fun h => ⟨rfl, reads_cells HR1.out (by rw [HN.out] at h; exact h)⟩) (by rw [HN.out, nums_length, HG.out.2]; omega) (fun v hv => one_nums _ _ v (by simpa using hv)) ?_; intro w2 h2 hch; have H2 := Aside0.mk h2; have HC := Aside0.mk hch; clear h2 hch)
    go_ret
    exact ⟨rfl, HL.out w2 H2.out, HC1.out.trans HC.out (fun _ _ h => h)⟩
theorem fits_no (q m : Nat) (h : 16384 < q + m) (hm : m ≤ 9223372036854775807) : PStorePrint.store_fits.f (q : Int) (m : Int) = some false := by
  unfold PStorePrint.store_fits.f
  rw [if_pos (by omega), if_pos (by omega)]
  by_cases h2 : (q : Int) ≤ 16384
  · rw [if_pos h2, decide_eq_false (by unfold wrap64; omega)]
  · rw [if_neg h2]
set_option maxHeartbeats 2000000 in
set_option maxRecDepth 100000 in
theorem store_write_no (g : Nat) (q : Nat) (A : Option Addr) (m c : Nat) (w : World) (h1 : 16384 < q + m) (hm : m ≤ 9223372036854775807) :
    Calls Try.prog 34 #[.pointer (some ⟨g, 0, none⟩), .int .i64 (q : Int), .slice A m c] w fun e w' => e = .returned (.bool false) ∧ Drawn0 w w' := by
  have HF := Aside0.mk (fits_no q m h1 hm)
  go_enter Try.func34, Try.ntmps34
  go_wp2_with fail
  refine (PStorePrint.store_fits.calls _ (m : Int) false w HF.out).mono ?_
  rintro e w1 ⟨rfl, hd⟩
  have HD := Aside0.mk hd
  clear hd
  go_wp2
  go_ret
  exact ⟨rfl, HD.out⟩
/-- a slice of bytes of the call's own -/
def Own (base : Nat) (w : World) (v : Value) (n : Nat) (xs : List Int) : Prop := ∃ A c, v = .slice A n c ∧ n ≤ c ∧ xs.length = n ∧ w.ownsRow base 5 1 v n (nums .u8 xs)
theorem Own.of {base n : Nat} {w : World} {v : Value} {xs : List Int} (h : w.ownsRow base 5 1 v xs.length (nums .u8 xs)) (hn : xs.length = n) : Own base w v n xs := by
  subst hn
  obtain ⟨A, c, rfl⟩ := own_slice h
  exact ⟨A, c, rfl, own_le h, rfl, h⟩
theorem reads_blk {w : World} {g : Nat} {bs : List Int} (h : Stor w g bs) (q n : Nat) (hq : q + n ≤ 16384) : ReadsInt w .u8 (some ⟨g, q, none⟩) n ((bs.drop q).take n) := by
  have hl := h.2
  refine ⟨by simp; omega, by omega, fun _ => ⟨_, rfl, fun j hj => ?_⟩⟩
  have e : (⟨g, q, none⟩ : Addr).add j = ⟨g, q + j, none⟩ := by unfold Addr.add; split <;> simp_all
  rw [e, blk_cell h.1 (q + j)]
  have h1 : q + j < bs.length := by omega
  simp [nums, h1, List.getD_eq_getElem?_getD, hj]
theorem reads_none {w : World} {k : IntKind} (A : Option Addr) : ReadsInt w k A 0 [] := ⟨rfl, by omega, fun h => absurd h (by omega)⟩
set_option maxHeartbeats 2000000 in
set_option maxRecDepth 100000 in
theorem store_read (g : Nat) (bs : List Int) (q n : Nat) (w : World) (hg : Stor w g bs) (h1 : q + n ≤ 16384) :
    Calls Try.prog 35 #[.pointer (some ⟨g, 0, none⟩), .int .i64 (q : Int), .int .i64 (n : Int)] w fun e w' => ∃ v, e = .returned (.tuple #[v, .bool true]) ∧ Own w.heap.size w' v n ((bs.drop q).take n) ∧ Below w.heap.size w w' := by
  have HG := Aside0.mk hg
  clear hg
  have hq1 : (q : Int) ≤ 16384 := by omega
  have hq3 : (q : Int) + (n : Int) ≤ 16384 := by omega
  have hq4 : (q : Int) ≤ (q : Int) + (n : Int) := by omega
  have hsl : Try.prog.arrayLen 26 = 16384 := by kernel_rfl
  have HF := Aside0.mk (fits_yes q n h1)
  by_cases hq : 16384 = q
  · subst hq
    have hm : n = 0 := by omega
    subst hm
    go_enter Try.func35, Try.ntmps35
    go_wp2_with fail
    refine (PStorePrint.store_fits.calls _ _ true w HF.out).mono ?_
    rintro e w1 ⟨rfl, hd⟩
    have HB := Aside0.mk hd.below
    clear hd
    go_wp2_with (at_builtin; refine app_bytes (w0 := w) w.heap.size rfl (.const (.slice none 0 0)) (.tmp 19) rfl (.slice none 0 0) [] [] (some ⟨g, 0, none⟩) 0 0 rfl rfl (own_nil _ _ _ _) (reads_none _) HB.out HB.out.size (by simp) ?_; intro v1 w2 hO hB2 hG2 hat; have HO := Aside0.mk hO; have HB2 := Aside0.mk hB2; clear hO hB2 hG2 hat)
    go_ret2
    refine ⟨v1, rfl, ?_, HB2.out⟩
    have : (List.take 0 (List.drop 16384 bs)) = [] := by simp
    rw [this]
    exact Own.of HO.out (by simp)
  · go_enter Try.func35, Try.ntmps35
    go_wp2_with fail
    refine (PStorePrint.store_fits.calls _ _ true w HF.out).mono ?_
    rintro e w1 ⟨rfl, hd⟩
    have HB := Aside0.mk hd.below
    have HG1 := Aside0.mk (show Stor w1 g bs from ⟨blk_below HG.out.1 hd.below, HG.out.2⟩)
    clear hd
    have HR := Aside0.mk (reads_blk HG1.out q n h1)
    have HR2 := Aside0.mk (show ReadsInt w1 .u8 (some ⟨g, q, none⟩) (q + n - q) ((bs.drop q).take n) by rw [Nat.add_sub_cancel_left]; exact HR.out)
    go_wp2_with (at_builtin; refine app_bytes (w0 := w) w.heap.size rfl (.const (.slice none 0 0)) (.tmp 19) rfl (.slice none 0 0) [] ((bs.drop q).take n) (some ⟨g, q, none⟩) (q + n - q) (16384 - q) rfl rfl (own_nil _ _ _ _) HR2.out HB.out HB.out.size (by simp; omega) ?_; intro v1 w2 hO hB2 hG2 hat; have HO := Aside0.mk hO; have HB2 := Aside0.mk hB2; clear hO hB2 hG2 hat)
    go_ret2
    exact ⟨v1, rfl, Own.of HO.out HR.out.1, HB2.out⟩
set_option maxHeartbeats 2000000 in
set_option maxRecDepth 100000 in
theorem store_print (g : Nat) (bs : List Int) (q n : Nat) (w : World) (hg : Stor w g bs) (hu : U8s bs) (h1 : q + n ≤ 16384) (hq : q < 16384) :
    Calls Try.prog 36 #[.pointer (some ⟨g, 0, none⟩), .int .i64 (q : Int), .int .i64 (n : Int)] w fun e w' => e = .returned (.tuple #[.int .u32 (prI ((bs.drop q).take n)), .bool true]) ∧ Below w.heap.size w w' := by
  have HG := Aside0.mk hg
  have HU := Aside0.mk hu
  clear hg hu
  have hq1 : (q : Int) ≤ 16384 := by omega
  have hq3 : (q : Int) + (n : Int) ≤ 16384 := by omega
  have hq4 : (q : Int) ≤ (q : Int) + (n : Int) := by omega
  have hq5 : ¬ 16384 = q := by omega
  have hsl : Try.prog.arrayLen 26 = 16384 := by kernel_rfl
  have HF := Aside0.mk (fits_yes q n h1)
  go_enter Try.func36, Try.ntmps36
  go_wp2_with fail
  refine (PStorePrint.store_fits.calls _ _ true w HF.out).mono ?_
  rintro e w1 ⟨rfl, hd⟩
  have HB := Aside0.mk hd.below
  have HG1 := Aside0.mk (show Stor w1 g bs from ⟨blk_below HG.out.1 hd.below, HG.out.2⟩)
  clear hd
  have HR := Aside0.mk (reads_blk HG1.out q n h1)
  have HR2 := Aside0.mk (show ReadsInt w1 .u8 (some ⟨g, q, none⟩) (q + n - q) ((bs.drop q).take n) by rw [Nat.add_sub_cancel_left]; exact HR.out)
  go_wp2_with fail
  refine (print_any _ n (16384 - q) ((bs.drop q).take n) w1 HR.out (reads_lt HR.out) (by omega) ((HU.out.drop _).take _)).mono ?_
  rintro e w2 ⟨rfl, hb⟩
  have HB2 := Aside0.mk (below_then HB.out HB.out.size hb)
  clear hb
  go_wp2
  go_ret2
  exact ⟨rfl, HB2.out⟩
end Go.Proofs.Ythdkmgeigdoglaa.Hand
