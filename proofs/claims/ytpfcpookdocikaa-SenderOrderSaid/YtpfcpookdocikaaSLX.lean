import Derived.Test.YtpfcpookdocikaaSLF
import Derived.Test.YtpfcpookdocikaaN0
/- More rules of the logic of pieces of memory. No statement is proved here. -/
namespace Go.Proofs.Ytpfcpookdocikaa.SL
open Go Go.RowKit
set_option linter.unusedVariables false
section
variable {P : Program} {w0 : World} {B n : Nat} {Q : Exit → Fr → List Chunk → Prop} {fr : Fr} {H : List Chunk} {W : World → Prop}
namespace Sb
variable {x : Chunk} {l1 l2 l3 : List Chunk}
theorem r : l1.Sublist l1 := List.Sublist.refl _
theorem ar : l2.Sublist (l1 ++ l2) := List.sublist_append_right _ _
theorem al : l1.Sublist (l1 ++ l2) := List.sublist_append_left _ _
theorem c (h : l1.Sublist l2) : (x :: l1).Sublist (x :: l2) := List.Sublist.cons_cons _ h
theorem d (h : l1.Sublist l2) : l1.Sublist (x :: l2) := List.Sublist.cons _ h
theorem t (h : l1.Sublist l2) : l1.Sublist (l2 ++ l3) := List.Sublist.trans h (List.sublist_append_left _ _)
end Sb
theorem all_one {l : List Value} (h : (l.all Value.oneCell') = true) : ∀ u ∈ l, u.oneCell' = true := List.all_eq_true.1 h
theorem TL_p {ops : Array Oper} {rest : List Oper} {d : Tmp} {op : Op} {ty : TypeId} {pos : String} {aft : Array Edge} {v : Value} (hp : PV P n (WH w0 B H) fr ⟨some d, op, ty, pos, aft, none⟩ v) (h : TL P w0 B n ops rest Q (frPut (some d) v fr) H) (hd : dOk n (some d) = true := by rfl) : TL P w0 B n ops (⟨some d, op, ty, pos, aft, none⟩ :: rest) Q fr H :=
  TL_pure rfl rfl hd hp h
def tkOk (ops : Array Oper) (listed : Array Bool) (i : Nat) : Bool := Region.noSelect ops && (Region.free .any ops listed i && (Region.ready .any ops listed).contains i)
theorem TA_p {ops : Array Oper} {S : World → Prop} {k : Nat} {listed : Array Bool} {d : Tmp} {op : Op} {ty : TypeId} {pos : String} {aft : Array Edge} {v : Value} (i : Nat) (hi : ops[i]? = some ⟨some d, op, ty, pos, aft, none⟩) (hk : tkOk ops listed i = true) (hp : PV P n S fr ⟨some d, op, ty, pos, aft, none⟩ v)
    (h : TA P w0 B n ops S k (listed.setIfInBounds i true) Q (frPut (some d) v fr) H) (hd : dOk n (some d) = true := by rfl) : TA P w0 B n ops S (k + 1) listed Q fr H := by
  simp only [tkOk, Bool.and_eq_true] at hk
  exact TA_take i hi hk.1 hk.2.1 hk.2.2 rfl rfl hd hp h
theorem ret_ret {fn : Func} {R : Value → List Chunk → Prop} {v : Value} (hv : ResV P n (WH w0 B H) fr fn v) (h : ∃ h', List.Sublist h' H ∧ R v h') : RetQ P w0 B n fn R .ret fr H :=
  let ⟨h', s, r⟩ := h; ⟨v, h', s, hv, r⟩
theorem ret_normal {fn : Func} {R : Value → List Chunk → Prop} {v : Value} (hv : ResV P n (WH w0 B H) fr fn v) (h : ∃ h', List.Sublist h' H ∧ R v h') : RetQ P w0 B n fn R .normal fr H :=
  let ⟨h', s, r⟩ := h; ⟨v, h', s, hv, r⟩
theorem boolCases {p : Prop} (b : Bool) (h1 : b = true → p) (h2 : b = false → p) : p := by
  cases b
  · exact h2 rfl
  · exact h1 rfl
theorem RdsK.mono {W' : World → Prop} {g off k : Nat} {vs : List Value} (h : RdsK W g off k vs) (hw : ∀ w, W' w → W w) : RdsK W' g off k vs :=
  ⟨h.1, fun j v hj => (h.2 j v hj).mono hw⟩
theorem TA_perm {ops : Array Oper} {S : World → Prop} {k : Nat} {listed : Array Bool} {H' : List Chunk} (hp : H.Perm H') (h : TA P w0 B n ops S k listed Q fr H') : TA P w0 B n ops S k listed Q fr H :=
  fun HX a w hf hr hS => h HX a w hf (hr.perm (hp.append_right HX)) hS
theorem TL_perm {ops : Array Oper} {rest : List Oper} {H' : List Chunk} (hp : H.Perm H') (h : TL P w0 B n ops rest Q fr H') : TL P w0 B n ops rest Q fr H :=
  fun HX a w hf hr => h HX a w hf (hr.perm (hp.append_right HX))
theorem TL_noU {ops : Array Oper} {o : Oper} {rest : List Oper} {j d : Nat} {b : Bool} (hg : o.guard = some (j, b)) (hj : (ops[j]?).bind (·.dst) = some d) (hd : fr.lookup d = some undef) (hdo : dOk n o.dst = true) (h : TL P w0 B n ops rest Q (frPut o.dst undef fr) H) : TL P w0 B n ops (o :: rest) Q fr H := by
  intro HX a w hf hr
  refine wpList_step fun K hK => ?_
  have e : yielded ops a.tmps j = none := by
    unfold yielded
    rw [hj, Option.bind_some, hf.slot d _ hd]
    rfl
  rw [if_neg (by simp [Region.wanted, hg, e])]
  exact hK _ _ (h HX _ w (hf.put hdo undef) hr)
theorem round_end {I : Nat → Fr → List Chunk → Prop} {m : Nat} (m' : Nat) (f' : Fr) (h' : List Chunk) (hlt : m' < m) (hs : FrSub f' fr) (hh : h'.Sublist H) (hI : I m' f' h') : ∃ m' f' h', m' < m ∧ FrSub f' fr ∧ List.Sublist h' H ∧ I m' f' h' := ⟨m', f', h', hlt, hs, hh, hI⟩
theorem nums_one {k : IntKind} {xs : List Int} : ∀ u ∈ nums k xs, u.oneCell' = true := fun u hu => by
  obtain ⟨x, _, rfl⟩ := List.mem_map.1 hu
  rfl
theorem nums_at {k : IntKind} {xs : List Int} (i : Nat) (hi : i < xs.length) : (nums k xs)[i]? = some (.int k (rd xs i)) := by
  simp [nums, rd, List.getElem?_eq_getElem hi, List.getD_eq_getElem?_getD]
theorem nums_at' {k : IntKind} {xs : List Int} {off : Nat} (i : Nat) (h : off = i) (hi : i < xs.length) : (nums k xs)[off]? = some (.int k (rd xs i)) := by
  subst h; exact nums_at off hi
theorem nums_set' (k : IntKind) (xs : List Int) (off i : Nat) (v : Int) (h : off = i) : (nums k xs).set off (.int k v) = nums k (xs.set i v) := by
  subst h; simp [nums, List.map_set]
theorem nums_snoc (k : IntKind) (xs : List Int) (v : Int) : nums k xs ++ [.int k v] = nums k (xs ++ [v]) := by simp [nums]
theorem shows_old {k : IntKind} {A : Option Addr} {m : Nat} {l : List Int} (h : ReadsInt w0 k A m l) (hb : ∀ p, A = some p → 0 < m → p.block < B) : Shows (WH w0 B H) A m 1 (nums k l) := fun w ⟨HX, hr⟩ => by
  refine ⟨by simp [nums, h.1], fun j v hj => ?_⟩
  have hj' : j < l.length := by have := (List.getElem?_eq_some_iff.1 hj).1; simpa [nums] using this
  obtain ⟨p, rfl, hc⟩ := h.2.2 (by have := h.1; omega)
  refine ⟨p, rfl, ?_⟩
  have h2 := hc j (by have := h.1; omega)
  have hbl : (p.add j).block = p.block := by unfold Addr.add; split <;> rfl
  rw [hr.old h2 (by rw [hbl]; exact hb p rfl (by have := h.1; omega))]
  simp [nums, List.getElem?_eq_getElem hj'] at hj
  rw [← hj, List.getD_eq_getElem?_getD, List.getElem?_eq_getElem hj']
  rfl
theorem shows_start {w : World} {H : List Chunk} {k : IntKind} {A : Option Addr} {m : Nat} {l : List Int} (h : ReadsInt w k A m l) : Shows (WH w w.heap.size H) A m 1 (nums k l) :=
  shows_old h fun p hp h0 => by
    obtain ⟨ad, e, hc⟩ := h.2.2 h0
    rw [hp] at e
    cases e
    have := World.block_lt_of_cell? w _ (hc 0 h0)
    simpa [Addr.add] using this
/-- a cell of what a slice shows -/
theorem Shows.rd {m es off : Nat} {ys : List Value} {v : Value} {g o : Nat} (h : Shows W (some ⟨g, o, none⟩) m es ys) (j : Nat) (e : off = o + j) (hj : ys[j]? = some v) : Rd W ⟨g, off, none⟩ v := fun w hw => by
  obtain ⟨p, hp, hc⟩ := (h w hw).2 j v hj
  cases hp
  rw [e]
  rwa [add_plain'] at hc
theorem Shows.mem {A : Option Addr} {m c es : Nat} {cs : List Value} (hm : Chunk.sl (.slice A m c) es m cs ∈ H) : Shows (WH w0 B H) A m es cs := by
  obtain ⟨i, hi⟩ := List.mem_iff_getElem?.1 hm
  exact Shows.at i hi
/-- a loop, told by a state of its own -/
theorem T_loopI {σ : Type} {c : Code} (inv : σ → Prop) (meas : σ → Nat) (F : σ → Fr) (HH : σ → List Chunk) (s0 : σ) (hi : inv s0) (hf : FrSub (F s0) fr) (hh : (HH s0).Sublist H)
    (step : ∀ s, inv s → T P w0 B n c (Then (fun f h => ∃ s', inv s' ∧ meas s' < meas s ∧ FrSub (F s') f ∧ (HH s').Sublist h) Q) (F s) (HH s)) : T P w0 B n (.loop c) Q fr H := by
  refine T.weaken hf (T.drop hh ?_)
  refine T_loop (fun m f h => ∃ s, inv s ∧ meas s = m ∧ f = F s ∧ h = HH s) (meas s0) ⟨s0, hi, rfl, rfl, rfl⟩ ?_
  rintro m f h ⟨s, hs, rfl, rfl, rfl⟩
  refine T.mono (step s hs) ?_
  intro e f h q
  cases e <;> first
    | exact q
    | (obtain ⟨s', h1, h2, h3, h4⟩ := q; exact ⟨meas s', F s', HH s', h2, h3, h4, s', h1, rfl, rfl, rfl⟩)
theorem FrSub.consE {t : Nat} {v v' : Value} {fr' : Fr} (h : fr.lookup t = some v') (hs : FrSub fr' fr) (e : v' = v) : FrSub ((t, v) :: fr') fr := FrSub.cons (e ▸ h) hs
theorem T_loop1 {α0 : Type} {c : Code} (inv : α0 → Prop) (meas : α0 → Nat) (F : α0 → Fr) (HH : α0 → List Chunk) (s0 : α0) (hi : inv s0) (hf : FrSub (F s0) fr) (hh : (HH s0).Sublist H)
    (step : ∀ a0, inv a0 → T P w0 B n c (Then (fun f h => ∃ a0', inv a0' ∧ meas a0' < meas a0 ∧ FrSub (F a0') f ∧ (HH a0').Sublist h) Q) (F a0) (HH a0)) : T P w0 B n (.loop c) Q fr H := by
  exact T_loopI inv meas F HH s0 hi hf hh step
theorem T_loop2 {α0 α1 : Type} {c : Code} (inv : α0 → α1 → Prop) (meas : α0 → α1 → Nat) (F : α0 → α1 → Fr) (HH : α0 → α1 → List Chunk) (s0 : α0) (s1 : α1) (hi : inv s0 s1) (hf : FrSub (F s0 s1) fr) (hh : (HH s0 s1).Sublist H)
    (step : ∀ a0 a1, inv a0 a1 → T P w0 B n c (Then (fun f h => ∃ a0' a1', inv a0' a1' ∧ meas a0' a1' < meas a0 a1 ∧ FrSub (F a0' a1') f ∧ (HH a0' a1').Sublist h) Q) (F a0 a1) (HH a0 a1)) : T P w0 B n (.loop c) Q fr H := by
  refine T_loopI (σ := α0 × α1) (fun s => inv s.1 s.2) (fun s => meas s.1 s.2) (fun s => F s.1 s.2) (fun s => HH s.1 s.2) (s0, s1) hi hf hh ?_
  rintro ⟨a0, a1⟩ h
  refine T.mono (step a0 a1 h) ?_
  intro e f h q
  cases e <;> first
    | exact q
    | (obtain ⟨a0', a1', q⟩ := q; exact ⟨(a0', a1'), q⟩)
theorem T_loop3 {α0 α1 α2 : Type} {c : Code} (inv : α0 → α1 → α2 → Prop) (meas : α0 → α1 → α2 → Nat) (F : α0 → α1 → α2 → Fr) (HH : α0 → α1 → α2 → List Chunk) (s0 : α0) (s1 : α1) (s2 : α2) (hi : inv s0 s1 s2) (hf : FrSub (F s0 s1 s2) fr) (hh : (HH s0 s1 s2).Sublist H)
    (step : ∀ a0 a1 a2, inv a0 a1 a2 → T P w0 B n c (Then (fun f h => ∃ a0' a1' a2', inv a0' a1' a2' ∧ meas a0' a1' a2' < meas a0 a1 a2 ∧ FrSub (F a0' a1' a2') f ∧ (HH a0' a1' a2').Sublist h) Q) (F a0 a1 a2) (HH a0 a1 a2)) : T P w0 B n (.loop c) Q fr H := by
  refine T_loopI (σ := α0 × α1 × α2) (fun s => inv s.1 s.2.1 s.2.2) (fun s => meas s.1 s.2.1 s.2.2) (fun s => F s.1 s.2.1 s.2.2) (fun s => HH s.1 s.2.1 s.2.2) (s0, s1, s2) hi hf hh ?_
  rintro ⟨a0, a1, a2⟩ h
  refine T.mono (step a0 a1 a2 h) ?_
  intro e f h q
  cases e <;> first
    | exact q
    | (obtain ⟨a0', a1', a2', q⟩ := q; exact ⟨(a0', a1', a2'), q⟩)
theorem T_loop4 {α0 α1 α2 α3 : Type} {c : Code} (inv : α0 → α1 → α2 → α3 → Prop) (meas : α0 → α1 → α2 → α3 → Nat) (F : α0 → α1 → α2 → α3 → Fr) (HH : α0 → α1 → α2 → α3 → List Chunk) (s0 : α0) (s1 : α1) (s2 : α2) (s3 : α3) (hi : inv s0 s1 s2 s3) (hf : FrSub (F s0 s1 s2 s3) fr) (hh : (HH s0 s1 s2 s3).Sublist H)
    (step : ∀ a0 a1 a2 a3, inv a0 a1 a2 a3 → T P w0 B n c (Then (fun f h => ∃ a0' a1' a2' a3', inv a0' a1' a2' a3' ∧ meas a0' a1' a2' a3' < meas a0 a1 a2 a3 ∧ FrSub (F a0' a1' a2' a3') f ∧ (HH a0' a1' a2' a3').Sublist h) Q) (F a0 a1 a2 a3) (HH a0 a1 a2 a3)) : T P w0 B n (.loop c) Q fr H := by
  refine T_loopI (σ := α0 × α1 × α2 × α3) (fun s => inv s.1 s.2.1 s.2.2.1 s.2.2.2) (fun s => meas s.1 s.2.1 s.2.2.1 s.2.2.2) (fun s => F s.1 s.2.1 s.2.2.1 s.2.2.2) (fun s => HH s.1 s.2.1 s.2.2.1 s.2.2.2) (s0, s1, s2, s3) hi hf hh ?_
  rintro ⟨a0, a1, a2, a3⟩ h
  refine T.mono (step a0 a1 a2 a3 h) ?_
  intro e f h q
  cases e <;> first
    | exact q
    | (obtain ⟨a0', a1', a2', a3', q⟩ := q; exact ⟨(a0', a1', a2', a3'), q⟩)
theorem T_loop5 {α0 α1 α2 α3 α4 : Type} {c : Code} (inv : α0 → α1 → α2 → α3 → α4 → Prop) (meas : α0 → α1 → α2 → α3 → α4 → Nat) (F : α0 → α1 → α2 → α3 → α4 → Fr) (HH : α0 → α1 → α2 → α3 → α4 → List Chunk) (s0 : α0) (s1 : α1) (s2 : α2) (s3 : α3) (s4 : α4) (hi : inv s0 s1 s2 s3 s4) (hf : FrSub (F s0 s1 s2 s3 s4) fr) (hh : (HH s0 s1 s2 s3 s4).Sublist H)
    (step : ∀ a0 a1 a2 a3 a4, inv a0 a1 a2 a3 a4 → T P w0 B n c (Then (fun f h => ∃ a0' a1' a2' a3' a4', inv a0' a1' a2' a3' a4' ∧ meas a0' a1' a2' a3' a4' < meas a0 a1 a2 a3 a4 ∧ FrSub (F a0' a1' a2' a3' a4') f ∧ (HH a0' a1' a2' a3' a4').Sublist h) Q) (F a0 a1 a2 a3 a4) (HH a0 a1 a2 a3 a4)) : T P w0 B n (.loop c) Q fr H := by
  refine T_loopI (σ := α0 × α1 × α2 × α3 × α4) (fun s => inv s.1 s.2.1 s.2.2.1 s.2.2.2.1 s.2.2.2.2) (fun s => meas s.1 s.2.1 s.2.2.1 s.2.2.2.1 s.2.2.2.2) (fun s => F s.1 s.2.1 s.2.2.1 s.2.2.2.1 s.2.2.2.2) (fun s => HH s.1 s.2.1 s.2.2.1 s.2.2.2.1 s.2.2.2.2) (s0, s1, s2, s3, s4) hi hf hh ?_
  rintro ⟨a0, a1, a2, a3, a4⟩ h
  refine T.mono (step a0 a1 a2 a3 a4 h) ?_
  intro e f h q
  cases e <;> first
    | exact q
    | (obtain ⟨a0', a1', a2', a3', a4', q⟩ := q; exact ⟨(a0', a1', a2', a3', a4'), q⟩)
theorem T_loop6 {α0 α1 α2 α3 α4 α5 : Type} {c : Code} (inv : α0 → α1 → α2 → α3 → α4 → α5 → Prop) (meas : α0 → α1 → α2 → α3 → α4 → α5 → Nat) (F : α0 → α1 → α2 → α3 → α4 → α5 → Fr) (HH : α0 → α1 → α2 → α3 → α4 → α5 → List Chunk) (s0 : α0) (s1 : α1) (s2 : α2) (s3 : α3) (s4 : α4) (s5 : α5) (hi : inv s0 s1 s2 s3 s4 s5) (hf : FrSub (F s0 s1 s2 s3 s4 s5) fr) (hh : (HH s0 s1 s2 s3 s4 s5).Sublist H)
    (step : ∀ a0 a1 a2 a3 a4 a5, inv a0 a1 a2 a3 a4 a5 → T P w0 B n c (Then (fun f h => ∃ a0' a1' a2' a3' a4' a5', inv a0' a1' a2' a3' a4' a5' ∧ meas a0' a1' a2' a3' a4' a5' < meas a0 a1 a2 a3 a4 a5 ∧ FrSub (F a0' a1' a2' a3' a4' a5') f ∧ (HH a0' a1' a2' a3' a4' a5').Sublist h) Q) (F a0 a1 a2 a3 a4 a5) (HH a0 a1 a2 a3 a4 a5)) : T P w0 B n (.loop c) Q fr H := by
  refine T_loopI (σ := α0 × α1 × α2 × α3 × α4 × α5) (fun s => inv s.1 s.2.1 s.2.2.1 s.2.2.2.1 s.2.2.2.2.1 s.2.2.2.2.2) (fun s => meas s.1 s.2.1 s.2.2.1 s.2.2.2.1 s.2.2.2.2.1 s.2.2.2.2.2) (fun s => F s.1 s.2.1 s.2.2.1 s.2.2.2.1 s.2.2.2.2.1 s.2.2.2.2.2) (fun s => HH s.1 s.2.1 s.2.2.1 s.2.2.2.1 s.2.2.2.2.1 s.2.2.2.2.2) (s0, s1, s2, s3, s4, s5) hi hf hh ?_
  rintro ⟨a0, a1, a2, a3, a4, a5⟩ h
  refine T.mono (step a0 a1 a2 a3 a4 a5 h) ?_
  intro e f h q
  cases e <;> first
    | exact q
    | (obtain ⟨a0', a1', a2', a3', a4', a5', q⟩ := q; exact ⟨(a0', a1', a2', a3', a4', a5'), q⟩)
theorem T_loop7 {α0 α1 α2 α3 α4 α5 α6 : Type} {c : Code} (inv : α0 → α1 → α2 → α3 → α4 → α5 → α6 → Prop) (meas : α0 → α1 → α2 → α3 → α4 → α5 → α6 → Nat) (F : α0 → α1 → α2 → α3 → α4 → α5 → α6 → Fr) (HH : α0 → α1 → α2 → α3 → α4 → α5 → α6 → List Chunk) (s0 : α0) (s1 : α1) (s2 : α2) (s3 : α3) (s4 : α4) (s5 : α5) (s6 : α6) (hi : inv s0 s1 s2 s3 s4 s5 s6) (hf : FrSub (F s0 s1 s2 s3 s4 s5 s6) fr) (hh : (HH s0 s1 s2 s3 s4 s5 s6).Sublist H)
    (step : ∀ a0 a1 a2 a3 a4 a5 a6, inv a0 a1 a2 a3 a4 a5 a6 → T P w0 B n c (Then (fun f h => ∃ a0' a1' a2' a3' a4' a5' a6', inv a0' a1' a2' a3' a4' a5' a6' ∧ meas a0' a1' a2' a3' a4' a5' a6' < meas a0 a1 a2 a3 a4 a5 a6 ∧ FrSub (F a0' a1' a2' a3' a4' a5' a6') f ∧ (HH a0' a1' a2' a3' a4' a5' a6').Sublist h) Q) (F a0 a1 a2 a3 a4 a5 a6) (HH a0 a1 a2 a3 a4 a5 a6)) : T P w0 B n (.loop c) Q fr H := by
  refine T_loopI (σ := α0 × α1 × α2 × α3 × α4 × α5 × α6) (fun s => inv s.1 s.2.1 s.2.2.1 s.2.2.2.1 s.2.2.2.2.1 s.2.2.2.2.2.1 s.2.2.2.2.2.2) (fun s => meas s.1 s.2.1 s.2.2.1 s.2.2.2.1 s.2.2.2.2.1 s.2.2.2.2.2.1 s.2.2.2.2.2.2) (fun s => F s.1 s.2.1 s.2.2.1 s.2.2.2.1 s.2.2.2.2.1 s.2.2.2.2.2.1 s.2.2.2.2.2.2) (fun s => HH s.1 s.2.1 s.2.2.1 s.2.2.2.1 s.2.2.2.2.1 s.2.2.2.2.2.1 s.2.2.2.2.2.2) (s0, s1, s2, s3, s4, s5, s6) hi hf hh ?_
  rintro ⟨a0, a1, a2, a3, a4, a5, a6⟩ h
  refine T.mono (step a0 a1 a2 a3 a4 a5 a6 h) ?_
  intro e f h q
  cases e <;> first
    | exact q
    | (obtain ⟨a0', a1', a2', a3', a4', a5', a6', q⟩ := q; exact ⟨(a0', a1', a2', a3', a4', a5', a6'), q⟩)
def idx : Nat → List Value → List (Nat × Value)
  | _, [] => []
  | k, v :: vs => (k, v) :: idx (k + 1) vs
def evx (fr : Fr) : Nat → List (Nat × Operand) → Option (List Value)
  | _, [] => some []
  | k, (i, x) :: xs => match Nat.beq i k, ev fr x, evx fr (k + 1) xs with
    | true, some v, some vs => some (v :: vs)
    | _, _, _ => none
theorem evx_evp : ∀ (xs : List (Nat × Operand)) (k : Nat) (vs : List Value), evx fr k xs = some vs → evp fr xs = some (idx k vs)
  | [], k, vs, h => by simp [evx] at h; subst h; rfl
  | (i, x) :: xs, k, vs, h => by
    simp only [evx] at h
    cases h0 : Nat.beq i k with
    | false => simp [h0] at h
    | true =>
      cases h1 : ev fr x with
      | none => simp [h0, h1] at h
      | some v =>
        cases h2 : evx fr (k + 1) xs with
        | none => simp [h0, h1, h2] at h
        | some us =>
          simp [h0, h1, h2] at h
          subst h
          have := evx_evp xs (k + 1) us h2
          simp [evp, h1, this, idx, Nat.eq_of_beq_eq_true h0]
def allSize (es : Nat) : List Value → Bool
  | [] => true
  | v :: vs => Nat.beq v.cells.size es && allSize es vs
theorem fold_set (off : Nat) (post : List Value) : ∀ (l old pre : List Value) (k : Nat), old.length = l.length → pre.length = off + k → (l.zipIdx k).foldl (fun (cs : Array Value) (p : Value × Nat) => cs.setIfInBounds (off + p.2) p.1) (pre ++ old ++ post).toArray = (pre ++ l ++ post).toArray
  | [], old, pre, k, h, hp => by
    obtain rfl : old = [] := by simpa using h
    rfl
  | c :: l, [], pre, k, h, hp => by simp at h
  | c :: l, o :: old, pre, k, h, hp => by
    simp only [List.zipIdx_cons, List.foldl_cons]
    have e : ((pre ++ (o :: old) ++ post).toArray).setIfInBounds (off + k) c = (pre ++ [c] ++ old ++ post).toArray := by
      rw [List.setIfInBounds_toArray, ← hp]
      congr 1
      rw [List.append_assoc, List.set_append_right _ _ (Nat.le_refl _), Nat.sub_self]
      simp
    rw [e, fold_set off post l old (pre ++ [c]) (k + 1) (by simpa using h) (by simp; omega)]
    simp
theorem fill_parts (es : Nat) : ∀ (vs : List Value) (k : Nat) (pre post : List Value), pre.length = k * es → post.length = vs.length * es → allSize es vs = true → Instr.fill (fun i => some (i * es, es)) (pre ++ post).toArray (idx k vs) = some (pre ++ vs.flatMap fun v => v.cells.toList).toArray
  | [], k, pre, post, h1, h2, h3 => by
    obtain rfl : post = [] := by simpa using h2
    simp [idx, Instr.fill]
  | v :: vs, k, pre, post, h1, h2, h3 => by
    simp only [allSize, Bool.and_eq_true] at h3
    have hv : v.cells.size = es := Nat.eq_of_beq_eq_true h3.1
    have hlen : (v :: vs).length * es = es + vs.length * es := by rw [List.length_cons, Nat.add_mul, Nat.one_mul, Nat.add_comm]
    obtain ⟨old, post', rfl, ho⟩ : ∃ old post', post = old ++ post' ∧ old.length = es := ⟨post.take es, post.drop es, (List.take_append_drop _ _).symm, by rw [List.length_take]; omega⟩
    have hp' : post'.length = vs.length * es := by rw [List.length_append] at h2; omega
    simp only [idx, Instr.fill]
    have c1 : ¬ (v.cells.size ≠ es ∨ k * es + v.cells.size > (pre ++ (old ++ post')).toArray.size) := by
      simp
      omega
    have c2 : (decide (v.cells.size ≠ es) || decide (k * es + v.cells.size > (pre ++ (old ++ post')).toArray.size)) = false := by
      simp
      omega
    have e : v.cells.zipIdx.foldl (fun (cs : Array Value) (p : Value × Nat) => cs.setIfInBounds (k * es + p.2) p.1) (pre ++ (old ++ post')).toArray = (pre ++ v.cells.toList ++ post').toArray := by
      have := fold_set (k * es) post' v.cells.toList old pre 0 (by simp [hv, ho]) (by omega)
      rw [← List.append_assoc, ← this]
      rw [← Array.foldl_toList, Array.toList_zipIdx]
    rw [if_neg (by rw [c2]; simp)]
    have e2 := fill_parts es vs (k + 1) (pre ++ v.cells.toList) post' (by simp [hv, h1, Nat.add_mul]) hp' h3.2
    rw [show (List.flatMap (fun v => v.cells.toList) (v :: vs)) = v.cells.toList ++ vs.flatMap (fun v => v.cells.toList) from rfl, ← List.append_assoc pre v.cells.toList, ← e2, ← e]
theorem OwnOk.freeze {w : World} {g sz k : Nat} {cs : List Value} (h : OwnOk w g sz cs) (hn : sz ≤ k) : OwnOk (w.freeze ⟨g, k, none⟩ 1) g sz cs := by
  obtain ⟨sp, e, ⟨lo, hi⟩, hh, hs, hf⟩ := h
  refine ⟨sp, e, (if lo == hi then (k, k + 1) else (min lo k, max hi (k + 1))), ?_, hs, ?_⟩
  · unfold World.freeze
    rw [if_neg (by decide)]
    simp [Array.getElem?_modify, hh]
  · split
    · exact .inl hn
    · rename_i hne
      rcases hf with h1 | h1
      · have h2 : sz ≤ lo := h1
        exact .inl (by show sz ≤ min lo k; omega)
      · cases h1
        exact absurd rfl hne
theorem Chunk.put_same {c : Chunk} {g : Nat} {cs : List Value} (h : c.at = some (g, cs)) : c.put cs = c := by
  unfold Chunk.at at h
  split at h <;> first | (cases h; rfl) | cases h
/-- a row of bytes turned into its own type: it is marked behind its last cell -/
theorem TO_s2s {dst : Option Tmp} {ty : TypeId} {pos : String} {aft : Array Edge} {gd : Option (Nat × Bool)} {t e : TypeId} {x : Operand} {g off m k : Nat} {c : Chunk} {cs : List Value} {K : Fr → List Chunk → Prop} (i : Nat) (hi : H[i]? = some c) (hat : c.at = some (g, cs)) (ht : P.underlying t = some (.slice e)) (he : P.underlying e = some (.int .u8)) (hd : dOk n dst = true)
    (hx : ev fr x = some (.slice (some ⟨g, off, none⟩) m k)) (h : K (frPut dst (.slice (some ⟨g, off, none⟩) m k) fr) H) : TO P w0 B n ⟨dst, .convert t t x, ty, pos, aft, gd⟩ K fr H := by
  intro HX a w Q hf hr
  have hp := (perm_pick hi).append_right HX
  have hr1 := hr.perm hp
  obtain ⟨sz, ho⟩ := (hr1.ok _ List.mem_cons_self).own hat
  obtain ⟨sp, e', fz, hh, hs, hz⟩ := ho
  have hsh : w.shape? g = some (e', sz) := by
    unfold World.shape?
    rw [hh]
    simp [← hs]
  have hrun : (convert t t (.slice (some ⟨g, off, none⟩) m k)).run P w = .ok (.slice (some ⟨g, off, none⟩) m k) (w.freeze ⟨g, sz, none⟩ 1) := by
    simp [convert, run_underlying ht, run_underlying he, markStringish, hsh]
  have hr2 := hr1.put (w' := w.freeze ⟨g, sz, none⟩ 1) (cs' := cs) hat rfl (fun sz' h' => h'.freeze (by
      obtain ⟨sp2, e2, fz2, hh2, hs2, _⟩ := h'
      rw [hh] at hh2
      have := congrArg (fun o : Option Obj => match o with | some (.cells c _ _) => c.size | _ => 0) hh2
      simp at this
      omega)) (by unfold World.freeze; split <;> rfl) (by unfold World.freeze; split <;> rfl) (by unfold World.freeze; split <;> rfl) (by unfold World.freeze; split <;> simp) (fun j hj => by
      unfold World.freeze
      rw [if_neg (by decide)]
      simp [Array.getElem?_modify, Ne.symm hj])
  rw [Chunk.put_same hat] at hr2
  simp only [Oper.wp, execOp, hf.ev hx]
  rw [Sem.run_bind, hrun]
  simp only [Result.andThen_ok, Sem.run_pure, Oper.upon]
  exact ⟨_, _, h, hf.put hd _, hr2.perm hp.symm⟩
theorem TO_bs {dst : Option Tmp} {ty : TypeId} {pos : String} {aft : Array Edge} {gd : Option (Nat × Bool)} {t e : TypeId} {len es : Nat} {z : Value} {parts : List (Nat × Operand)} {vs cs : List Value} {K : Fr → List Chunk → Prop} (ht : P.underlying t = some (.slice e)) (hz : (P.info? e).map (fun i => (i.zero, i.size)) = some (some z, es)) (hl : len * es ≤ 16777216) (hl0 : (len * es == 0) = false) (hd : dOk n dst = true) (hp : evx fr 0 parts = some vs)
    (hn : vs.length = len) (he : allSize es vs = true) (hc : vs.flatMap (fun v => v.cells.toList) = cs) (h : ∀ g, K (frPut dst (.slice (some ⟨g, 0, none⟩) len len) fr) (.sl (.slice (some ⟨g, 0, none⟩) len len) es len cs :: H)) : TO P w0 B n ⟨dst, .buildSlice t len parts.toArray, ty, pos, aft, gd⟩ K fr H := by
  subst hn
  have hz0 : ((Array.range (vs.length * es)).map (z.cells[· % z.cells.size]!)).toList.length = vs.length * es := by simp
  have hf := fill_parts es vs 0 [] ((Array.range (vs.length * es)).map (z.cells[· % z.cells.size]!)).toList (by simp) hz0 he
  simp only [List.nil_append, Array.toArray_toList] at hf
  have hcl : (vs.flatMap fun v => v.cells.toList).length = vs.length * es := by
    have : ∀ us : List Value, allSize es us = true → (us.flatMap fun v => v.cells.toList).length = us.length * es := by
      intro us
      induction us with
      | nil => intro _; simp
      | cons u us ih =>
        intro h
        simp only [allSize, Bool.and_eq_true] at h
        rw [List.flatMap_cons, List.length_append, ih h.2, Array.length_toList, Nat.eq_of_beq_eq_true h.1, List.length_cons, Nat.add_mul, Nat.one_mul, Nat.add_comm]
    exact this vs he
  refine TO_buildSlice (cells := (vs.flatMap fun v => v.cells.toList).toArray) ht hz hl hl0 hd (evx_evp parts 0 vs hp) hf (by simpa using hcl) fun g => ?_
  have := h g
  rw [← hc] at this
  simpa using this
/-- a struct's cells, told by lists -/
def bfill (ps : List (Nat × Nat)) : List Value → List (Nat × Value) → Option (List Value)
  | cs, [] => some cs
  | cs, (i, v) :: rest => match ps[i]? with
    | some (off, size) => match Nat.beq v.cells.size size && Nat.ble (off + size) cs.length with
      | true => bfill ps (spl cs off v.cells.toList) rest
      | false => none
    | none => none
theorem fold_spl (off : Nat) : ∀ (l cs : List Value) (k : Nat), (l.zipIdx k).foldl (fun (cs : Array Value) (p : Value × Nat) => cs.setIfInBounds (off + p.2) p.1) cs.toArray = (spl cs (off + k) l).toArray
  | [], cs, k => rfl
  | c :: l, cs, k => by
    simp only [List.zipIdx_cons, List.foldl_cons, List.setIfInBounds_toArray]
    rw [fold_spl off l (cs.set (off + k) c) (k + 1)]
    rfl
theorem bfill_fill (ps : Array (Nat × Nat)) : ∀ (vs : List (Nat × Value)) (cs cs' : List Value), bfill ps.toList cs vs = some cs' → Instr.fill (ps[·]?) cs.toArray vs = some cs'.toArray
  | [], cs, cs', h => by
    simp only [bfill, Option.some.injEq] at h
    subst h
    rfl
  | (i, v) :: rest, cs, cs', h => by
    simp only [bfill] at h
    simp only [Instr.fill]
    have e : ps[i]? = ps.toList[i]? := by simp
    rw [e]
    cases hp : ps.toList[i]? with
    | none => simp [hp] at h
    | some q =>
      obtain ⟨off, size⟩ := q
      simp only [hp] at h
      cases hb : (Nat.beq v.cells.size size && Nat.ble (off + size) cs.length) with
      | false => rw [hb] at h; simp at h
      | true =>
        rw [hb] at h
        simp only [Bool.and_eq_true] at hb
        have h1 : v.cells.size = size := Nat.eq_of_beq_eq_true hb.1
        have h2 : off + size ≤ cs.length := Nat.le_of_ble_eq_true hb.2
        have c2 : (decide (v.cells.size ≠ size) || decide (off + v.cells.size > cs.toArray.size)) = false := by
          simp
          omega
        simp only
        rw [if_neg (by rw [c2]; simp)]
        have e2 : v.cells.zipIdx.foldl (fun (cs : Array Value) (p : Value × Nat) => cs.setIfInBounds (off + p.2) p.1) cs.toArray = (spl cs off v.cells.toList).toArray := by
          have := fold_spl off v.cells.toList cs 0
          rw [← Array.foldl_toList, Array.toList_zipIdx]
          exact this
        have e3 := bfill_fill ps rest _ _ h
        rw [← e2] at e3
        exact e3
theorem PV_bld {dst : Option Tmp} {ty : TypeId} {pos : String} {aft : Array Edge} {gd : Option (Nat × Bool)} {t : TypeId} {fs : Array Field} {ps : Array (Nat × Nat)} {z : Value} {parts : List (Nat × Operand)} {vs : List (Nat × Value)} {cs : List Value} (hs : P.underlying t = some (.struct fs)) (hps : Places P fs ps) (hz : (P.info? t).map (·.zero) = some (some z)) (hp : evp fr parts = some vs) (hf' : bfill ps.toList z.cells.toList vs = some cs) : PV P n W fr ⟨dst, .build t parts.toArray, ty, pos, aft, gd⟩ (.agg cs.toArray) :=
  PV_build hs hps hz hp (by have := bfill_fill ps vs z.cells.toList cs hf'; rwa [Array.toArray_toList] at this)
/-- the pieces h' are there, in whatever order, and maybe more -/
def Has (h h' : List Chunk) : Prop := ∃ h2, h.Perm h2 ∧ List.Sublist h' h2
theorem Has.of_sub {h h' : List Chunk} (s : List.Sublist h' h) : Has h h' := ⟨h, List.Perm.refl _, s⟩
theorem Has.of_perm {h h2 h' : List Chunk} (p : h.Perm h2) (s : List.Sublist h' h2) : Has h h' := ⟨h2, p, s⟩
theorem T_loopPI {σ : Type} {c : Code} (inv : σ → Prop) (meas : σ → Nat) (F : σ → Fr) (HH : σ → List Chunk) (s0 : σ) (hi : inv s0) (hf : FrSub (F s0) fr) (hh : Has H (HH s0))
    (step : ∀ s, inv s → T P w0 B n c (Then (fun f h => ∃ s', inv s' ∧ meas s' < meas s ∧ FrSub (F s') f ∧ Has h (HH s')) Q) (F s) (HH s)) : T P w0 B n (.loop c) Q fr H := by
  obtain ⟨h2, hp, hs⟩ := hh
  refine T.weaken hf (T.perm hp (T.drop hs ?_))
  intro HX a w hf hr
  have key : ∀ N s, meas s < N → inv s → ∀ a w, FrOk n (F s) a → Rep w0 B (HH s ++ HX) w → Code.rounds P c (Post w0 B n Q HX) N a w := by
    intro N
    induction N with
    | zero => intro s hm; omega
    | succ N ih =>
      intro s hm hs a w hf hr
      rw [rounds_succ]
      refine wp_mono (step s hs HX a w hf hr) ?_
      rintro e a' w' ⟨he, f, hh, q, hf', hr'⟩
      cases e <;> first
        | (obtain ⟨s', h1, h2, h3, h4, h5, h6⟩ := q; exact ih s' (by omega) h1 a' w' (hf'.sub h3) ((hr'.perm (h5.append_right HX)).sub (h6.append_right HX)))
        | exact ⟨he, f, hh, q, hf', hr'⟩
  exact wp_loop_rounds (meas s0 + 1) (key (meas s0 + 1) s0 (Nat.lt_succ_self _) hi a w hf hr)
theorem T_loopP1 {α0 : Type} {c : Code} (inv : α0 → Prop) (meas : α0 → Nat) (F : α0 → Fr) (HH : α0 → List Chunk) (s0 : α0) (hi : inv s0) (hf : FrSub (F s0) fr) (hh : Has H (HH s0))
    (step : ∀ a0, inv a0 → T P w0 B n c (Then (fun f h => ∃ a0', inv a0' ∧ meas a0' < meas a0 ∧ FrSub (F a0') f ∧ Has h (HH a0')) Q) (F a0) (HH a0)) : T P w0 B n (.loop c) Q fr H := by
  exact T_loopPI inv meas F HH s0 hi hf hh step
theorem T_loopP2 {α0 α1 : Type} {c : Code} (inv : α0 → α1 → Prop) (meas : α0 → α1 → Nat) (F : α0 → α1 → Fr) (HH : α0 → α1 → List Chunk) (s0 : α0) (s1 : α1) (hi : inv s0 s1) (hf : FrSub (F s0 s1) fr) (hh : Has H (HH s0 s1))
    (step : ∀ a0 a1, inv a0 a1 → T P w0 B n c (Then (fun f h => ∃ a0' a1', inv a0' a1' ∧ meas a0' a1' < meas a0 a1 ∧ FrSub (F a0' a1') f ∧ Has h (HH a0' a1')) Q) (F a0 a1) (HH a0 a1)) : T P w0 B n (.loop c) Q fr H := by
  refine T_loopPI (σ := α0 × α1) (fun s => inv s.1 s.2) (fun s => meas s.1 s.2) (fun s => F s.1 s.2) (fun s => HH s.1 s.2) (s0, s1) hi hf hh ?_
  rintro ⟨a0, a1⟩ h
  refine T.mono (step a0 a1 h) ?_
  intro e f h q
  cases e <;> first
    | exact q
    | (obtain ⟨a0', a1', q⟩ := q; exact ⟨(a0', a1'), q⟩)
theorem T_loopP3 {α0 α1 α2 : Type} {c : Code} (inv : α0 → α1 → α2 → Prop) (meas : α0 → α1 → α2 → Nat) (F : α0 → α1 → α2 → Fr) (HH : α0 → α1 → α2 → List Chunk) (s0 : α0) (s1 : α1) (s2 : α2) (hi : inv s0 s1 s2) (hf : FrSub (F s0 s1 s2) fr) (hh : Has H (HH s0 s1 s2))
    (step : ∀ a0 a1 a2, inv a0 a1 a2 → T P w0 B n c (Then (fun f h => ∃ a0' a1' a2', inv a0' a1' a2' ∧ meas a0' a1' a2' < meas a0 a1 a2 ∧ FrSub (F a0' a1' a2') f ∧ Has h (HH a0' a1' a2')) Q) (F a0 a1 a2) (HH a0 a1 a2)) : T P w0 B n (.loop c) Q fr H := by
  refine T_loopPI (σ := α0 × α1 × α2) (fun s => inv s.1 s.2.1 s.2.2) (fun s => meas s.1 s.2.1 s.2.2) (fun s => F s.1 s.2.1 s.2.2) (fun s => HH s.1 s.2.1 s.2.2) (s0, s1, s2) hi hf hh ?_
  rintro ⟨a0, a1, a2⟩ h
  refine T.mono (step a0 a1 a2 h) ?_
  intro e f h q
  cases e <;> first
    | exact q
    | (obtain ⟨a0', a1', a2', q⟩ := q; exact ⟨(a0', a1', a2'), q⟩)
theorem T_loopP4 {α0 α1 α2 α3 : Type} {c : Code} (inv : α0 → α1 → α2 → α3 → Prop) (meas : α0 → α1 → α2 → α3 → Nat) (F : α0 → α1 → α2 → α3 → Fr) (HH : α0 → α1 → α2 → α3 → List Chunk) (s0 : α0) (s1 : α1) (s2 : α2) (s3 : α3) (hi : inv s0 s1 s2 s3) (hf : FrSub (F s0 s1 s2 s3) fr) (hh : Has H (HH s0 s1 s2 s3))
    (step : ∀ a0 a1 a2 a3, inv a0 a1 a2 a3 → T P w0 B n c (Then (fun f h => ∃ a0' a1' a2' a3', inv a0' a1' a2' a3' ∧ meas a0' a1' a2' a3' < meas a0 a1 a2 a3 ∧ FrSub (F a0' a1' a2' a3') f ∧ Has h (HH a0' a1' a2' a3')) Q) (F a0 a1 a2 a3) (HH a0 a1 a2 a3)) : T P w0 B n (.loop c) Q fr H := by
  refine T_loopPI (σ := α0 × α1 × α2 × α3) (fun s => inv s.1 s.2.1 s.2.2.1 s.2.2.2) (fun s => meas s.1 s.2.1 s.2.2.1 s.2.2.2) (fun s => F s.1 s.2.1 s.2.2.1 s.2.2.2) (fun s => HH s.1 s.2.1 s.2.2.1 s.2.2.2) (s0, s1, s2, s3) hi hf hh ?_
  rintro ⟨a0, a1, a2, a3⟩ h
  refine T.mono (step a0 a1 a2 a3 h) ?_
  intro e f h q
  cases e <;> first
    | exact q
    | (obtain ⟨a0', a1', a2', a3', q⟩ := q; exact ⟨(a0', a1', a2', a3'), q⟩)
theorem T_loopP5 {α0 α1 α2 α3 α4 : Type} {c : Code} (inv : α0 → α1 → α2 → α3 → α4 → Prop) (meas : α0 → α1 → α2 → α3 → α4 → Nat) (F : α0 → α1 → α2 → α3 → α4 → Fr) (HH : α0 → α1 → α2 → α3 → α4 → List Chunk) (s0 : α0) (s1 : α1) (s2 : α2) (s3 : α3) (s4 : α4) (hi : inv s0 s1 s2 s3 s4) (hf : FrSub (F s0 s1 s2 s3 s4) fr) (hh : Has H (HH s0 s1 s2 s3 s4))
    (step : ∀ a0 a1 a2 a3 a4, inv a0 a1 a2 a3 a4 → T P w0 B n c (Then (fun f h => ∃ a0' a1' a2' a3' a4', inv a0' a1' a2' a3' a4' ∧ meas a0' a1' a2' a3' a4' < meas a0 a1 a2 a3 a4 ∧ FrSub (F a0' a1' a2' a3' a4') f ∧ Has h (HH a0' a1' a2' a3' a4')) Q) (F a0 a1 a2 a3 a4) (HH a0 a1 a2 a3 a4)) : T P w0 B n (.loop c) Q fr H := by
  refine T_loopPI (σ := α0 × α1 × α2 × α3 × α4) (fun s => inv s.1 s.2.1 s.2.2.1 s.2.2.2.1 s.2.2.2.2) (fun s => meas s.1 s.2.1 s.2.2.1 s.2.2.2.1 s.2.2.2.2) (fun s => F s.1 s.2.1 s.2.2.1 s.2.2.2.1 s.2.2.2.2) (fun s => HH s.1 s.2.1 s.2.2.1 s.2.2.2.1 s.2.2.2.2) (s0, s1, s2, s3, s4) hi hf hh ?_
  rintro ⟨a0, a1, a2, a3, a4⟩ h
  refine T.mono (step a0 a1 a2 a3 a4 h) ?_
  intro e f h q
  cases e <;> first
    | exact q
    | (obtain ⟨a0', a1', a2', a3', a4', q⟩ := q; exact ⟨(a0', a1', a2', a3', a4'), q⟩)
theorem T_loopP6 {α0 α1 α2 α3 α4 α5 : Type} {c : Code} (inv : α0 → α1 → α2 → α3 → α4 → α5 → Prop) (meas : α0 → α1 → α2 → α3 → α4 → α5 → Nat) (F : α0 → α1 → α2 → α3 → α4 → α5 → Fr) (HH : α0 → α1 → α2 → α3 → α4 → α5 → List Chunk) (s0 : α0) (s1 : α1) (s2 : α2) (s3 : α3) (s4 : α4) (s5 : α5) (hi : inv s0 s1 s2 s3 s4 s5) (hf : FrSub (F s0 s1 s2 s3 s4 s5) fr) (hh : Has H (HH s0 s1 s2 s3 s4 s5))
    (step : ∀ a0 a1 a2 a3 a4 a5, inv a0 a1 a2 a3 a4 a5 → T P w0 B n c (Then (fun f h => ∃ a0' a1' a2' a3' a4' a5', inv a0' a1' a2' a3' a4' a5' ∧ meas a0' a1' a2' a3' a4' a5' < meas a0 a1 a2 a3 a4 a5 ∧ FrSub (F a0' a1' a2' a3' a4' a5') f ∧ Has h (HH a0' a1' a2' a3' a4' a5')) Q) (F a0 a1 a2 a3 a4 a5) (HH a0 a1 a2 a3 a4 a5)) : T P w0 B n (.loop c) Q fr H := by
  refine T_loopPI (σ := α0 × α1 × α2 × α3 × α4 × α5) (fun s => inv s.1 s.2.1 s.2.2.1 s.2.2.2.1 s.2.2.2.2.1 s.2.2.2.2.2) (fun s => meas s.1 s.2.1 s.2.2.1 s.2.2.2.1 s.2.2.2.2.1 s.2.2.2.2.2) (fun s => F s.1 s.2.1 s.2.2.1 s.2.2.2.1 s.2.2.2.2.1 s.2.2.2.2.2) (fun s => HH s.1 s.2.1 s.2.2.1 s.2.2.2.1 s.2.2.2.2.1 s.2.2.2.2.2) (s0, s1, s2, s3, s4, s5) hi hf hh ?_
  rintro ⟨a0, a1, a2, a3, a4, a5⟩ h
  refine T.mono (step a0 a1 a2 a3 a4 a5 h) ?_
  intro e f h q
  cases e <;> first
    | exact q
    | (obtain ⟨a0', a1', a2', a3', a4', a5', q⟩ := q; exact ⟨(a0', a1', a2', a3', a4', a5'), q⟩)
theorem T_loopP7 {α0 α1 α2 α3 α4 α5 α6 : Type} {c : Code} (inv : α0 → α1 → α2 → α3 → α4 → α5 → α6 → Prop) (meas : α0 → α1 → α2 → α3 → α4 → α5 → α6 → Nat) (F : α0 → α1 → α2 → α3 → α4 → α5 → α6 → Fr) (HH : α0 → α1 → α2 → α3 → α4 → α5 → α6 → List Chunk) (s0 : α0) (s1 : α1) (s2 : α2) (s3 : α3) (s4 : α4) (s5 : α5) (s6 : α6) (hi : inv s0 s1 s2 s3 s4 s5 s6) (hf : FrSub (F s0 s1 s2 s3 s4 s5 s6) fr) (hh : Has H (HH s0 s1 s2 s3 s4 s5 s6))
    (step : ∀ a0 a1 a2 a3 a4 a5 a6, inv a0 a1 a2 a3 a4 a5 a6 → T P w0 B n c (Then (fun f h => ∃ a0' a1' a2' a3' a4' a5' a6', inv a0' a1' a2' a3' a4' a5' a6' ∧ meas a0' a1' a2' a3' a4' a5' a6' < meas a0 a1 a2 a3 a4 a5 a6 ∧ FrSub (F a0' a1' a2' a3' a4' a5' a6') f ∧ Has h (HH a0' a1' a2' a3' a4' a5' a6')) Q) (F a0 a1 a2 a3 a4 a5 a6) (HH a0 a1 a2 a3 a4 a5 a6)) : T P w0 B n (.loop c) Q fr H := by
  refine T_loopPI (σ := α0 × α1 × α2 × α3 × α4 × α5 × α6) (fun s => inv s.1 s.2.1 s.2.2.1 s.2.2.2.1 s.2.2.2.2.1 s.2.2.2.2.2.1 s.2.2.2.2.2.2) (fun s => meas s.1 s.2.1 s.2.2.1 s.2.2.2.1 s.2.2.2.2.1 s.2.2.2.2.2.1 s.2.2.2.2.2.2) (fun s => F s.1 s.2.1 s.2.2.1 s.2.2.2.1 s.2.2.2.2.1 s.2.2.2.2.2.1 s.2.2.2.2.2.2) (fun s => HH s.1 s.2.1 s.2.2.1 s.2.2.2.1 s.2.2.2.2.1 s.2.2.2.2.2.1 s.2.2.2.2.2.2) (s0, s1, s2, s3, s4, s5, s6) hi hf hh ?_
  rintro ⟨a0, a1, a2, a3, a4, a5, a6⟩ h
  refine T.mono (step a0 a1 a2 a3 a4 a5 a6 h) ?_
  intro e f h q
  cases e <;> first
    | exact q
    | (obtain ⟨a0', a1', a2', a3', a4', a5', a6', q⟩ := q; exact ⟨(a0', a1', a2', a3', a4', a5', a6'), q⟩)
theorem T_back {c : Code} {c1 : Chunk} {N : List Chunk} (h : T P w0 B n c Q fr (H ++ (c1 :: N))) : T P w0 B n c Q fr (c1 :: (N ++ H)) :=
  T.perm (show (c1 :: (N ++ H)).Perm (H ++ (c1 :: N)) from List.perm_append_comm (l₁ := c1 :: N) (l₂ := H)) h
theorem T_back0 {c : Code} {N : List Chunk} (h : T P w0 B n c Q fr (H ++ N)) : T P w0 B n c Q fr (N ++ H) :=
  T.perm List.perm_append_comm h
theorem T_drawnE {id : Nat} {l : List Oper} (i : Nat) (hm : P.follows .mixedOrders = true) (h : TA P w0 B n l.toArray (WH w0 B (H.eraseIdx i)) l.toArray.size (Array.replicate l.toArray.size false) Q fr H) : T P w0 B n (.region id l.toArray true) Q fr H :=
  T_drawn _ hm (fun w hw => hw.sub (List.eraseIdx_sublist _ _)) h
theorem T_drawnE2 {id : Nat} {l : List Oper} (i j : Nat) (hm : P.follows .mixedOrders = true) (h : TA P w0 B n l.toArray (WH w0 B ((H.eraseIdx j).eraseIdx i)) l.toArray.size (Array.replicate l.toArray.size false) Q fr H) : T P w0 B n (.region id l.toArray true) Q fr H :=
  T_drawn _ hm (fun w hw => hw.sub ((List.eraseIdx_sublist _ _).trans (List.eraseIdx_sublist _ _))) h
theorem TO_perm {o : Oper} {K : Fr → List Chunk → Prop} {H' : List Chunk} (hp : H.Perm H') (h : TO P w0 B n o K fr H') : TO P w0 B n o K fr H :=
  fun HX a w Q hf hr => h HX a w Q hf (hr.perm (hp.append_right HX))
theorem TA_hardG {ops : Array Oper} {S : World → Prop} {k : Nat} {listed : Array Bool} {rs : List Nat} (hr' : Region.ready .any ops listed = rs) (hne : rs ≠ []) (h : ∀ i ∈ rs, ∃ o, ops[i]? = some o ∧ (o.guard = none ∨ ∃ j d b, o.guard = some (j, b) ∧ (ops[j]?).bind (·.dst) = some d ∧ fr.lookup d = some (.bool b)) ∧ TO P w0 B n o (fun f h => (∀ w, WH w0 B h w → S w) ∧ TA P w0 B n ops S k (listed.setIfInBounds i true) Q f h) fr H) : TA P w0 B n ops S (k + 1) listed Q fr H := by
  intro HX a w hf hr hS
  refine wpAnyH_all hr' hne fun i hi => ?_
  obtain ⟨o, ho, hg, ht⟩ := h i hi
  unfold wpOp
  have hw : Region.wanted o (yielded ops a.tmps) = true := by
    rcases hg with hg | ⟨j, d, b, hg, hj, hd⟩
    · simp [Region.wanted, hg]
    · simp [Region.wanted, hg, yielded_of hf hj hd]
  simp only [ho, hw, if_true]
  refine .inl (Oper.wp_mono ?_ (ht HX a w _ hf hr))
  rintro a' w' ⟨f, h', ⟨hS', ht'⟩, hf', hr''⟩
  exact ⟨hS' _ ⟨HX, hr''⟩, ht' HX a' w' hf' hr'' (hS' _ ⟨HX, hr''⟩)⟩
theorem perm_back2 (c1 : Chunk) (N N2 H : List Chunk) : ((c1 :: (N ++ H)) ++ N2).Perm (H ++ (c1 :: (N ++ N2))) := by
  have h := (List.perm_append_comm (l₁ := c1 :: N) (l₂ := H)).append_right N2
  rw [List.append_assoc H] at h
  exact h
theorem perm_back0 (N N2 H : List Chunk) : ((N ++ H) ++ N2).Perm (H ++ (N ++ N2)) := by
  have h := (List.perm_append_comm (l₁ := N) (l₂ := H)).append_right N2
  rw [List.append_assoc H] at h
  exact h
theorem T_dropAt {c : Code} (i : Nat) (h : T P w0 B n c Q fr (H.eraseIdx i)) : T P w0 B n c Q fr H := T.drop (List.eraseIdx_sublist _ _) h
theorem TA_split {ops : Array Oper} {S : World → Prop} {k : Nat} {listed : Array Bool} {d : Nat} {b : Bool} (hd : fr.lookup d = some (.bool b)) (h1 : b = true → TA P w0 B n ops S k listed Q fr H) (h2 : b = false → TA P w0 B n ops S k listed Q fr H) : TA P w0 B n ops S k listed Q fr H := boolCases b h1 h2
theorem TL_split {ops : Array Oper} {rest : List Oper} {d : Nat} {b : Bool} (hd : fr.lookup d = some (.bool b)) (h1 : b = true → TL P w0 B n ops rest Q fr H) (h2 : b = false → TL P w0 B n ops rest Q fr H) : TL P w0 B n ops rest Q fr H := boolCases b h1 h2
/-- bytes in a row of their own -/
def byC (A : Option Addr) (c : Nat) (l : List Int) : Chunk := .sl (.slice A l.length c) 1 l.length (nums .u8 l)
theorem TO_appendB {dst : Option Tmp} {ty : TypeId} {pos : String} {aft : Array Edge} {gd : Option (Nat × Bool)} {t e : TypeId} {s x : Operand} {z : Value} {A A2 : Option Addr} {c k c2 : Nat} {l xs : List Int} {K : Fr → List Chunk → Prop} (i : Nat) (hi : H[i]? = some (byC A c l)) (ht : P.underlying t = some (.slice e)) (hz : (P.info? e).map (fun i => (i.zero, i.size, i.bytes)) = some (some z, 1, 1)) (hzs : z.cells.size = 1) (hd : dOk n dst = true)
    (hs : ev fr s = some (.slice A l.length c)) (hx : ev fr x = some (.slice A2 k c2)) (hy : Shows (WH w0 B H) A2 k 1 (nums .u8 xs)) (hk : xs.length = k) (hb : l.length + k ≤ 140737488355328)
    (h : ∀ A' c', (l ++ xs).length ≤ c' → K (frPut dst (.slice A' (l ++ xs).length c') fr) (H.set i (byC A' c' (l ++ xs)))) : TO P w0 B n ⟨dst, .call { callee := .builtin .append, args := #[s, x], argTypes := #[t, t] }, ty, pos, aft, gd⟩ K fr H := by
  refine TO_append i hi ht hz hzs (by decide) hd hs hx hy nums_one (by omega) (by omega) fun A' c' hc' => ?_
  have e : (l ++ xs).length = l.length + k := by rw [List.length_append, hk]
  have := h A' c' (by omega)
  unfold byC at this
  rw [e, nums_app] at this
  exact this
end
end Go.Proofs.Ytpfcpookdocikaa.SL
