import Derived.Test.YthdkmgeigdoglaaH4
/- By a table; the law's own remainder. No statement is proved here. -/
namespace Go.Proofs.Ythdkmgeigdoglaa.Hand
open Go.RowKit Go.Proofs.YthdkmgeigdoglaaW.PrintWords Go.Proofs.YthdkmgeigdoglaaW.PrintLast Go.Proofs.YthdkmgeigdoglaaW.PrintMore H
attribute [local go_sem] max_two min_two max_three min_three max_four min_four
set_option linter.unusedVariables false
set_option linter.unusedSimpArgs false
def byStep (t : List Int) (r c : Int) : Int := Go.bits .xor .u16 (IntKind.u16.wrap (r * 256)) (rd t (Go.bits .xor .u8 (r / 256) c))
def byI (t l : List Int) : Int := l.foldl (byStep t) 0
def U16s (l : List Int) : Prop := ∀ x ∈ l, 0 ≤ x ∧ x ≤ 65535
theorem U16s_at {l : List Int} (h : U16s l) (i : Int) : 0 ≤ rd l i ∧ rd l i ≤ 65535 := by
  unfold rd
  rw [List.getD_eq_getElem?_getD]
  by_cases hi : i.toNat < l.length
  · rw [List.getElem?_eq_getElem hi]; exact h _ (List.getElem_mem _)
  · rw [List.getElem?_eq_none (by omega)]; simp
theorem xor16_range (x y : Int) : 0 ≤ Go.bits .xor .u16 x y ∧ Go.bits .xor .u16 x y ≤ 65535 := by
  unfold Go.bits
  show 0 ≤ IntKind.u16.wrap ((BitVec.ofInt 16 x ^^^ BitVec.ofInt 16 y).toNat : Int) ∧ IntKind.u16.wrap ((BitVec.ofInt 16 x ^^^ BitVec.ofInt 16 y).toNat : Int) ≤ 65535
  rw [wrap_u16]
  have := (BitVec.ofInt 16 x ^^^ BitVec.ofInt 16 y).isLt
  omega
theorem byStep_range (t : List Int) (r c : Int) : 0 ≤ byStep t r c ∧ byStep t r c ≤ 65535 := xor16_range _ _
theorem byI_range (t l : List Int) : 0 ≤ byI t l ∧ byI t l ≤ 65535 := by
  unfold byI
  rcases List.eq_nil_or_concat l with rfl | ⟨l', x, rfl⟩
  · simp
  · rw [List.concat_eq_append, List.foldl_append]; exact byStep_range _ _ _
theorem byI_snoc (t l : List Int) (k : Nat) (hk : k < l.length) : byI t (l.take (k + 1)) = byStep t (byI t (l.take k)) (rd l k) := by
  rw [take_snoc_rd l k hk]
  unfold byI
  rw [List.foldl_append]
  rfl
set_option maxHeartbeats 2000000 in
set_option maxRecDepth 100000 in
theorem by_any (g : Nat) (t : List Int) (A : Option Addr) (m c : Nat) (l : List Int) (w : World) (ht : Tabl w g t) (htl : t.length = 256) (hr : ReadsInt w .u8 A m l) (hc : m ≤ c) (hu : U8s l) :
    Calls Try.prog 46 #[.pointer (some ⟨g, 0, none⟩), .slice A m c] w fun e w' => e = .returned (.int .u16 (byI t l)) ∧ w = w' := by
  obtain rfl := hr.1
  have hl := hr.2.1
  have HT := Aside0.mk ht
  have HTL := Aside0.mk htl
  have HR := Aside0.mk hr
  have HU := Aside0.mk hu
  clear ht htl hr hu
  go_enter Try.func46, Try.ntmps46
  go_wp2
  go_loop [5, 10] (fun r i => ∃ k : Nat, k ≤ l.length ∧ i = .int .i64 k ∧ r = .int .u16 (byI t (l.take k))) (fun _ i => l.length - (intOf i).toNat)
  case atStart => exact ⟨0, Nat.zero_le _, rfl, rfl⟩
  case round =>
    obtain ⟨k, hk, rfl, rfl⟩ := hrel
    have hr := byI_range t (l.take k)
    by_cases hlt : k < l.length
    · obtain ⟨ad, e0, hx⟩ := HR.out.at_ k (by omega) (by omega)
      cases e0
      simp only [Int.toNat_natCast] at hx
      have hu := HU.out.at_ k
      have hx8 := xor8_range (byI t (l.take k) / 256) (rd l k)
      obtain ⟨q, hq⟩ : ∃ q : Nat, Go.bits .xor .u8 (byI t (l.take k) / 256) (rd l k) = q := ⟨(Go.bits .xor .u8 (byI t (l.take k) / 256) (rd l k)).toNat, by omega⟩
      have hq1 : q < 256 := by omega
      have hcell := HT.out.cell q (by rw [HTL.out]; exact hq1)
      have HS := Aside0.mk (byI_snoc t l k hlt)
      have HQ := Aside0.mk hq
      clear hx8
      go_wp2
      go_round
      case rel => exact ⟨k + 1, by omega, by go_num, by rw [HS.out, byStep, HQ.out]⟩
      case measure => simp [intOf]; omega
    · have HS := Aside0.mk (show l.take k = l from List.take_of_length_le (by omega))
      go_wp2
      go_ret
      rw [HS.out]
      exact ⟨rfl, rfl⟩
/-- P1.2: by the own table it is the remainder. -/
theorem bvn_small (n : Nat) : ∀ (x : BitVec 16), n ≤ 16 → x.toNat < 2 ^ (16 - n) → Crc.bvn n x = x <<< n := by
  induction n with
  | zero => intro x _ _; simp [Crc.bvn]
  | succ n ih =>
    intro x hn hx
    have h15 : x.toNat < 2 ^ 15 := Nat.lt_of_lt_of_le hx (Nat.pow_le_pow_right (by omega) (by omega))
    have hm : x.msb = false := by
      rw [BitVec.msb_eq_decide]
      simpa using h15
    have h1 : Crc.bv1 x = x <<< 1 := by
      unfold Crc.bv1
      rw [hm]
      simp
    have h2 : (x <<< 1).toNat = 2 * x.toNat := by
      rw [BitVec.toNat_shiftLeft, Nat.shiftLeft_eq]
      omega
    show Crc.bvn n (Crc.bv1 x) = _
    rw [h1, ih _ (by omega) ?_, ← BitVec.shiftLeft_add, Nat.add_comm 1 n]
    rw [h2]
    have e : 16 - n = (16 - (n + 1)) + 1 := by omega
    rw [e, Nat.pow_succ]
    omega
theorem lo_small (r : BitVec 16) : (r ^^^ (((r >>> 8).setWidth 8).setWidth 16 <<< 8)).toNat < 2 ^ (16 - 8) := by
  have e : r ^^^ (((r >>> 8).setWidth 8).setWidth 16 <<< 8) = (r.setWidth 8).setWidth 16 := by
    apply BitVec.eq_of_getLsbD_eq
    intro i hi
    by_cases h8 : i < 8
    · simp [h8, hi]
    · have h3 : 8 + (i - 8) = i := by omega
      have h4 : i - 8 < 8 := by omega
      simp [h8, hi, h3, h4]
  rw [e]
  have := (r.setWidth 8).isLt
  simp
  omega
theorem put_split (r : BitVec 16) (c : BitVec 8) : Crc.put r c = (r <<< 8) ^^^ Crc.put 0#16 ((r >>> 8).setWidth 8 ^^^ c) := by
  have h1 := bvn_small 8 _ (by omega) (lo_small r)
  have h2 : (r ^^^ (((r >>> 8).setWidth 8).setWidth 16 <<< 8)) <<< 8 = r <<< 8 := by
    rw [BitVec.shiftLeft_xor_distrib, ← BitVec.shiftLeft_add]
    simp
  rw [h2] at h1
  rw [← h1]
  unfold Crc.put
  rw [← Crc.bvn_xor, BitVec.zero_xor, BitVec.setWidth_xor, BitVec.shiftLeft_xor_distrib]
  congr 1
  generalize ((r >>> 8).setWidth 8).setWidth 16 <<< 8 = y
  generalize c.setWidth 16 <<< 8 = z
  rw [← BitVec.xor_assoc, BitVec.xor_assoc r y y, BitVec.xor_self, BitVec.xor_zero]
theorem byStep_tab (a : BitVec 16) (c : Int) (h0 : 0 ≤ c) (h1 : c ≤ 255) : byStep (tabP 256) (a.toNat : Int) c = ((Crc.put a (BitVec.ofInt 8 c)).toNat : Int) := by
  have e1 : IntKind.u16.wrap ((a.toNat : Int) * 256) = ((a <<< 8).toNat : Int) := by
    rw [wrap_u16, BitVec.toNat_shiftLeft, Nat.shiftLeft_eq]; omega
  have e2 : BitVec.ofInt 8 ((a.toNat : Int) / 256) = (a >>> 8).setWidth 8 := by
    apply BitVec.eq_of_toNat_eq
    have := a.isLt
    simp [BitVec.toNat_ofInt, Nat.shiftRight_eq_div_pow]
    omega
  unfold byStep
  rw [xor8, e2, e1]
  have hq := ((a >>> 8).setWidth 8 ^^^ BitVec.ofInt 8 c).isLt
  rw [tab_at _ hq, tabI, xor16, put_split a, ofInt_toNat]
theorem byI_tab (l : List Int) (hu : U8s l) : byI (tabP 256) l = crcI l := by
  have h : ∀ (l : List Int) (a : BitVec 16), U8s l → l.foldl (byStep (tabP 256)) (a.toNat : Int) = ((Crc.crc a (bv l)).toNat : Int) := by
    intro l
    induction l with
    | nil => intro a _; rfl
    | cons c l ih =>
      intro a hu
      have hc := hu c (by simp)
      simp only [List.foldl_cons]
      rw [byStep_tab a c hc.1 hc.2, ih _ (fun x hx => hu x (by simp [hx]))]
      rfl
  exact h l 0#16 hu
theorem xor64 (a b : BitVec 16) : Go.bits .xor .i64 (a.toNat : Int) (b.toNat : Int) = ((a ^^^ b).toNat : Int) := by
  have ha := a.isLt
  have hb := b.isLt
  have hx := (a ^^^ b).isLt
  unfold Go.bits
  show IntKind.i64.wrap ((BitVec.ofInt 64 (a.toNat : Int) ^^^ BitVec.ofInt 64 (b.toNat : Int)).toNat : Int) = _
  have e : (BitVec.ofInt 64 (a.toNat : Int) ^^^ BitVec.ofInt 64 (b.toNat : Int)).toNat = (a ^^^ b).toNat := by
    rw [BitVec.toNat_xor, BitVec.toNat_xor]
    congr 1 <;> simp [BitVec.toNat_ofInt] <;> omega
  rw [e, IntKind.wrap_i64]
  omega
theorem l1_succ (k : Nat) (x j : Int) (l : List Int) (n i : Int) : PSumCrc.lifelinelaw01_crc.l1 (k + 1) x j l n i =
    if j < 8 then (if (wrap64 (x * 2)) ≥ 65536 then (PSumCrc.lifelinelaw01_crc.l1 k (Go.bits .xor .i64 (wrap64 ((wrap64 (x * 2)) - 65536)) 4129) (wrap64 (j + 1)) l n i) else (PSumCrc.lifelinelaw01_crc.l1 k (wrap64 (x * 2)) (wrap64 (j + 1)) l n i)) else (PSumCrc.lifelinelaw01_crc.l0 k x l n (wrap64 (i + 1))) := by
  simp only [PSumCrc.lifelinelaw01_crc.l1]
theorem lawcrc_inner (l : List Int) (n : Int) (i : Int) (d : Nat) : ∀ (k j : Nat) (a : BitVec 16), j + d = 8 → d ≤ k →
    PSumCrc.lifelinelaw01_crc.l1 (k + 1) (a.toNat : Int) (j : Int) l n i = PSumCrc.lifelinelaw01_crc.l0 (k - d) ((Crc.bvn d a).toNat : Int) l n (wrap64 (i + 1)) := by
  induction d with
  | zero =>
    intro k j a hj hk
    rw [l1_succ]
    rw [if_neg (by omega)]
    rfl
  | succ d ih =>
    intro k j a hj hk
    have hlt := a.isLt
    have hw : wrap64 ((j : Int) + 1) = ((j + 1 : Nat) : Int) := by unfold wrap64; omega
    have h2 : wrap64 ((a.toNat : Int) * 2) = (a.toNat : Int) * 2 := by unfold wrap64; omega
    obtain ⟨k, rfl⟩ : ∃ m, k = m + 1 := ⟨k - 1, by omega⟩
    rw [l1_succ]
    rw [if_pos (by omega), hw, h2]
    have hb : Crc.bvn (d + 1) a = Crc.bvn d (Crc.bv1 a) := rfl
    have hmsb := BitVec.msb_eq_decide a
    have hsub : k + 1 - (d + 1) = k - d := by omega
    rw [hb, hsub]
    by_cases hm : a.msb = true
    · have hge : 32768 ≤ a.toNat := by rw [hm] at hmsb; simpa using hmsb.symm
      have h3 : wrap64 ((a.toNat : Int) * 2 - 65536) = ((a <<< 1).toNat : Int) := by
        rw [BitVec.toNat_shiftLeft, Nat.shiftLeft_eq]; unfold wrap64; omega
      have e2 : (4129 : Int) = ((4129#16).toNat : Int) := by decide
      rw [if_pos (by omega), h3, e2, xor64, ih k (j + 1) _ (by omega) (by omega)]
      unfold Crc.bv1
      rw [if_pos hm]
    · have hlt2 : a.toNat < 32768 := by
        have : a.msb = false := by simpa using hm
        rw [this] at hmsb
        simpa using hmsb.symm
      have h3 : (a.toNat : Int) * (2 : Int) = ((a <<< 1).toNat : Int) := by
        rw [BitVec.toNat_shiftLeft, Nat.shiftLeft_eq]; omega
      rw [if_neg (by omega), h3, ih k (j + 1) _ (by omega) (by omega)]
      unfold Crc.bv1
      rw [if_neg hm, BitVec.xor_zero]
theorem lawcrc_outer (l : List Int) (hl : l.length ≤ 9223372036854775807) (hu : U8s l) (d : Nat) : ∀ (k i : Nat) (s : BitVec 16), s = Crc.crc 0#16 (bv (l.take i)) → i + d = l.length → 10 * d < k →
    PSumCrc.lifelinelaw01_crc.l0 k (s.toNat : Int) l (l.length : Int) (i : Int) = some (crcI l) := by
  induction d with
  | zero =>
    intro k i s hs hi hk
    obtain ⟨k, rfl⟩ : ∃ m, k = m + 1 := ⟨k - 1, by omega⟩
    simp only [PSumCrc.lifelinelaw01_crc.l0]
    have := s.isLt
    rw [if_neg (by omega), wrap_u16]
    rw [List.take_of_length_le (by omega)] at hs
    unfold crcI
    rw [← hs]
    congr 1
    omega
  | succ d ih =>
    intro k i s hs hi hk
    obtain ⟨k, rfl⟩ : ∃ m, k = m + 2 := ⟨k - 2, by omega⟩
    have hw : wrap64 ((i : Int) + 1) = ((i + 1 : Nat) : Int) := by unfold wrap64; omega
    have hr := hu.at_ i
    simp only [PSumCrc.lifelinelaw01_crc.l0]
    rw [if_pos (by omega), if_pos (by omega), if_pos (by omega)]
    have e : wrap64 ((wrap64 (rd l i)) * 256) = (((BitVec.ofInt 8 (rd l i)).setWidth 16 <<< 8).toNat : Int) := by
      obtain ⟨n, hn⟩ := Int.eq_ofNat_of_zero_le hr.1
      rw [hn] at hr ⊢
      have g1 : n ≤ 255 := by omega
      have g2 : wrap64 (n : Int) = (n : Int) := by unfold wrap64; omega
      have g3 : wrap64 ((n : Int) * 256) = (n : Int) * 256 := by unfold wrap64; omega
      have g4 : ((BitVec.ofInt 8 (n : Int)).setWidth 16 <<< 8).toNat = n * 256 := by
        rw [BitVec.toNat_shiftLeft, Nat.shiftLeft_eq]
        simp
        omega
      rw [g2, g3, g4]
      omega
    rw [e, xor64]
    have h := lawcrc_inner l (l.length : Int) (i : Int) 8 k 0 (s ^^^ ((BitVec.ofInt 8 (rd l i)).setWidth 16 <<< 8)) (by omega) (by omega)
    rw [show ((0 : Nat) : Int) = 0 from rfl] at h
    rw [h, hw]
    refine ih (k - 8) (i + 1) _ ?_ (by omega) (by omega)
    rw [take_snoc_rd l i (by omega), hs]
    unfold bv Crc.crc
    rw [List.map_append, List.foldl_append]
    rfl
/-- the law's own remainder, bit by bit -/
theorem lawcrc_f (l : List Int) (hl : l.length ≤ 9223372036854775807) (hu : U8s l) : ∃ k, PSumCrc.lifelinelaw01_crc.f k l = some (crcI l) :=
  ⟨10 * l.length + 1, lawcrc_outer l hl hu l.length _ 0 0#16 (by simp [bv, Crc.crc]) (by omega) (by omega)⟩
theorem lawcrc_any (A : Option Addr) (m c : Nat) (l : List Int) (w : World) (hr : ReadsInt w .u8 A m l) (hc : m ≤ c) (hu : U8s l) :
    Calls Try.prog 45 #[.slice A m c] w fun e w' => e = .returned (.int .u16 (crcI l)) ∧ Drawn0 w w' := by
  obtain rfl := hr.1
  obtain ⟨k, hk⟩ := lawcrc_f l hr.2.1 hu
  exact PSumCrc.lifelinelaw01_crc.calls k A c l (crcI l) w (Kd.C_of_reads (d := (0 : Int)) (h1 := fun _ => rfl) hr) hc hk
theorem zsize : Try.zeroCells50.size = 256 := by rw [zer_eq, List.size_toArray, nums_length, tabP_len _ (by omega)]
/-- A whole array stored into a variable of its own. -/
theorem wpList_store_all {P : Program} {ops : Array Oper} {rest : List Oper} {o : Oper} {a : Act} {Q : Exit → Act → World → Prop} {W : World} (hgd : o.guard = none) (hN : o.dst = none) (t : TypeId) (p x : Operand) (ho : o.op = .store t p x) (g : Nat) (hp : a.eval p = .pointer (some ⟨g, 0, none⟩)) (cs : Array Value) (hx : a.eval x = .agg cs)
    (old : Array Value) (e : TypeId) (hg : W.heap[g]? = some (.cells old e (0, 0))) (hsz : old.size = cs.size) (ht : (P.info? t).map (·.size) = some cs.size) (h1 : ∀ q ∈ cs.toList, q.oneCell' = true)
    (h : ∀ w1, w1.heap[g]? = some (.cells cs e (0, 0)) → Ch (· = g) W w1 → wpList P ops Q rest a w1) : wpList P ops Q (o :: rest) a W := by
  refine wpList_store_cells hgd hN t p x ho g 0 hp cs hx old e hg (by omega) ht h1 fun w1 h2 hch => h w1 ?_ hch
  rw [List.take_zero, List.nil_append, List.drop_eq_nil_of_le (by rw [Array.length_toList]; omega), List.append_nil, Array.toArray_toList] at h2
  exact h2
theorem tabSize : (nums IntKind.u16 (tabP 256)).toArray.size = 256 := by rw [List.size_toArray, nums_length, tabP_len _ (by omega)]
theorem infoTab : (Try.prog.info? 50).map (·.size) = some (nums IntKind.u16 (tabP 256)).toArray.size := by rw [tabSize]; exact info50
end Go.Proofs.Ythdkmgeigdoglaa.Hand
