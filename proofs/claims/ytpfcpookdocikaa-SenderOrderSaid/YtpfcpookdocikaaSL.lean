import Derived.WalkKit
import Derived.Orders
import Derived.OrdersHeld
import Derived.LoopN
import Derived.ScopeJumps
import Derived.Below
/- A logic of pieces of memory, over the kit's walk rules: what a call owns is a list of pieces, each a block whose first cells are known. No statement is proved here. -/
namespace Go.Proofs.Ytpfcpookdocikaa.SL
open Go Go.RowKit
set_option linter.unusedVariables false
set_option linter.unusedSimpArgs false

/-- a piece of memory: a block of sz cells, of which the first are cs; or an object of some kind; or a slice of m elements of es cells each, that owns its row or is nil -/
inductive Chunk where
  | own (g sz : Nat) (cs : List Value)
  | sl (v : Value) (es m : Nat) (cs : List Value)
  | ob (g : Nat) (I : Obj → Prop)
def blkOf : Value → Option Nat
  | .slice (some a) _ _ => some a.block
  | _ => none
def Chunk.blk : Chunk → Option Nat
  | .own g _ _ => some g
  | .sl v _ _ _ => blkOf v
  | .ob g _ => some g
def OwnOk (w : World) (g sz : Nat) (cs : List Value) : Prop := ∃ (sp : List Value) (e : TypeId) (fz : Nat × Nat), w.heap[g]? = some (.cells (cs ++ sp).toArray e fz) ∧ cs.length + sp.length = sz ∧ (sz ≤ fz.1 ∨ fz = (0, 0))
def Chunk.Ok (w : World) : Chunk → Prop
  | .own g sz cs => OwnOk w g sz cs
  | .sl v es m cs => cs.length = m * es ∧ ((v = .slice none 0 0 ∧ m = 0) ∨ ∃ g c, v = .slice (some ⟨g, 0, none⟩) m c ∧ m ≤ c ∧ OwnOk w g (c * es) cs)
  | .ob g I => ∃ o, w.heap[g]? = some o ∧ I o
theorem OwnOk.lt {w : World} {g sz : Nat} {cs : List Value} (h : OwnOk w g sz cs) : g < w.heap.size := by
  obtain ⟨sp, e, fz, hh, _⟩ := h
  exact (Array.getElem?_eq_some_iff.1 hh).1
theorem OwnOk.le {w : World} {g sz : Nat} {cs : List Value} (h : OwnOk w g sz cs) : cs.length ≤ sz := by
  obtain ⟨sp, e, fz, hh, hs, _⟩ := h
  omega
theorem OwnOk.of_block {w w' : World} {g sz : Nat} {cs : List Value} (h : OwnOk w g sz cs) (hb : w'.heap[g]? = w.heap[g]?) : OwnOk w' g sz cs := by
  obtain ⟨sp, e, fz, hh, r⟩ := h
  exact ⟨sp, e, fz, hb.trans hh, r⟩
theorem Chunk.Ok.lt {w : World} {c : Chunk} (h : c.Ok w) {k : Nat} (hk : c.blk = some k) : k < w.heap.size := by
  cases c with
  | own g sz cs => cases hk; exact OwnOk.lt h
  | sl v es m cs =>
    rcases h.2 with ⟨rfl, _⟩ | ⟨g, c, rfl, _, ho⟩
    · cases hk
    · cases hk; exact ho.lt
  | ob g I =>
    cases hk
    obtain ⟨o, ho, _⟩ := h
    exact (Array.getElem?_eq_some_iff.1 ho).1
theorem Chunk.Ok.of_block {w w' : World} {c : Chunk} (h : c.Ok w) (hb : ∀ k, c.blk = some k → w'.heap[k]? = w.heap[k]?) : c.Ok w' := by
  cases c with
  | own g sz cs => exact OwnOk.of_block h (hb g rfl)
  | sl v es m cs =>
    refine ⟨h.1, ?_⟩
    rcases h.2 with h2 | ⟨g, c, rfl, hc, ho⟩
    · exact .inl h2
    · exact .inr ⟨g, c, rfl, hc, ho.of_block (hb g rfl)⟩
  | ob g I =>
    obtain ⟨o, ho, hi⟩ := h
    exact ⟨o, (hb g rfl).trans ho, hi⟩
theorem OwnOk.cell {w : World} {g sz : Nat} {cs : List Value} (h : OwnOk w g sz cs) {i : Nat} {v : Value} (hi : cs[i]? = some v) : w.cell? ⟨g, i, none⟩ = some v := by
  obtain ⟨sp, e, fz, hh, _⟩ := h
  have hl : i < cs.length := (List.getElem?_eq_some_iff.1 hi).1
  simp only [World.cell?, hh]
  simp [List.getElem?_append_left hl, hi]
theorem OwnOk.there {w : World} {g sz : Nat} {cs : List Value} (h : OwnOk w g sz cs) {i : Nat} (hi : i < sz) : ∃ v, w.cell? ⟨g, i, none⟩ = some v := by
  obtain ⟨sp, e, fz, hh, hs, _⟩ := h
  have hl : i < (cs ++ sp).length := by rw [List.length_append]; omega
  refine ⟨(cs ++ sp)[i], ?_⟩
  simp only [World.cell?, hh]
  simp [List.getElem?_eq_getElem hl]
theorem OwnOk.free {w : World} {g sz : Nat} {cs : List Value} (h : OwnOk w g sz cs) {i : Nat} (hi : i < sz) : w.frozen? ⟨g, i, none⟩ = false := by
  obtain ⟨sp, e, ⟨lo, hi'⟩, hh, _, hf⟩ := h
  simp only [World.frozen?, hh]
  simp only at hf
  by_cases h1 : lo ≤ i
  · rcases hf with h2 | h2
    · omega
    · cases h2; simp
  · simp [h1]
theorem OwnOk.setCell {w : World} {g sz : Nat} {cs : List Value} (h : OwnOk w g sz cs) (i : Nat) (v : Value) (hi : i < cs.length) : OwnOk (w.setCell ⟨g, i, none⟩ v) g sz (cs.set i v) := by
  obtain ⟨sp, e, fz, hh, hs, hf⟩ := h
  refine ⟨sp, e, fz, ?_, by simpa using hs, hf⟩
  simp only [World.setCell, Array.getElem?_modify, hh]
  simp [List.set_append_left _ _ hi]
theorem OwnOk.push {w : World} {g sz : Nat} {cs : List Value} (h : OwnOk w g sz cs) (v : Value) (hi : cs.length < sz) : OwnOk (w.setCell ⟨g, cs.length, none⟩ v) g sz (cs ++ [v]) := by
  obtain ⟨sp, e, fz, hh, hs, hf⟩ := h
  obtain ⟨x, sp, rfl⟩ : ∃ x r, sp = x :: r := by
    cases sp with
    | nil => simp at hs; omega
    | cons x r => exact ⟨x, r, rfl⟩
  refine ⟨sp, e, fz, ?_, by simp at hs ⊢; omega, hf⟩
  simp only [World.setCell, Array.getElem?_modify, hh]
  simp [List.set_append_right]

/-- two pieces lie apart -/
def Apart (c d : Chunk) : Prop := c.blk = none ∨ c.blk ≠ d.blk
theorem Apart.symm {c d : Chunk} (h : Apart c d) : Apart d c := by
  unfold Apart at *
  rcases h with h | h
  · by_cases hd : d.blk = none
    · exact .inl hd
    · exact .inr (by rw [h]; exact hd)
  · exact .inr (Ne.symm h)
theorem Apart.ne {c d : Chunk} (h : Apart c d) {k : Nat} (hc : c.blk = some k) : d.blk ≠ some k := by
  rcases h with h | h
  · rw [h] at hc; cases hc
  · intro hd; exact h (hc.trans hd.symm)
/-- the world meets the pieces; all that stood below block B when the call began is as it was -/
structure Rep (w0 : World) (B : Nat) (H : List Chunk) (w : World) : Prop where
  hB : B ≤ w0.heap.size
  below : Below B w0 w
  ok : ∀ c ∈ H, c.Ok w
  ge : ∀ c ∈ H, ∀ k, c.blk = some k → B ≤ k
  sep : H.Pairwise Apart
section
variable {w0 w w' : World} {B : Nat} {H H' HX : List Chunk}
theorem Rep.perm (h : Rep w0 B H w) (p : H.Perm H') : Rep w0 B H' w :=
  ⟨h.hB, h.below, fun c hc => h.ok c (p.mem_iff.2 hc), fun c hc => h.ge c (p.mem_iff.2 hc), (p.pairwise_iff (fun {a b} hab => Apart.symm hab)).1 h.sep⟩
theorem Rep.sub (h : Rep w0 B H w) (s : H'.Sublist H) : Rep w0 B H' w :=
  ⟨h.hB, h.below, fun c hc => h.ok c (s.subset hc), fun c hc => h.ge c (s.subset hc), h.sep.sublist s⟩
theorem Rep.left (h : Rep w0 B (H ++ HX) w) : Rep w0 B H w := h.sub (List.sublist_append_left _ _)
theorem Rep.start (w : World) : Rep w w.heap.size [] w := ⟨Nat.le_refl _, Below.refl _ _, by simp, by simp, List.Pairwise.nil⟩
theorem Rep.same (h : Rep w0 B H w) (ho : w'.os = w.os) (ht : w'.tape = w.tape) (hp : w'.output = w.output) (hh : w'.heap = w.heap) : Rep w0 B H w' :=
  ⟨h.hB, h.below.trans ⟨ho, ht, hp, by rw [hh]; exact Nat.le_refl _, fun k _ => by rw [hh]⟩, fun c hc => (h.ok c hc).of_block (fun k _ => by rw [hh]), h.ge, h.sep⟩
theorem Rep.drew (h : Rep w0 B H w) : Rep w0 B H w.drew := h.same rfl rfl rfl rfl
theorem Rep.size_ge (h : Rep w0 B H w) : B ≤ w.heap.size := Nat.le_trans h.hB h.below.size
/-- nothing that was there has turned -/
theorem Rep.grew (h : Rep w0 B H w) (hb : Below w.heap.size w w') : Rep w0 B H w' :=
  ⟨h.hB, h.below.trans (hb.mono h.size_ge), fun c hc => (h.ok c hc).of_block (fun k hk => hb.block k ((h.ok c hc).lt hk)), h.ge, h.sep⟩
/-- a new piece, in blocks that were not there -/
theorem Rep.cons (h : Rep w0 B H w) (hb : Below w.heap.size w w') {c : Chunk} (hc : c.Ok w') (hn : ∀ k, c.blk = some k → w.heap.size ≤ k) : Rep w0 B (c :: H) w' := by
  have h2 := h.grew hb
  refine ⟨h2.hB, h2.below, fun d hd => ?_, fun d hd k hk => ?_, List.pairwise_cons.2 ⟨fun d hd => ?_, h2.sep⟩⟩
  · rcases List.mem_cons.1 hd with rfl | hd
    · exact hc
    · exact h2.ok d hd
  · rcases List.mem_cons.1 hd with rfl | hd
    · have := hn k hk; have := h.size_ge; omega
    · exact h2.ge d hd k hk
  · unfold Apart
    cases hcb : c.blk with
    | none => exact .inl rfl
    | some k =>
      refine .inr fun hd' => ?_
      have h3 := (h.ok d hd).lt hd'.symm
      have := hn k hcb
      omega
theorem heap_alloc_new (w : World) (o : Obj) : (w.alloc o).heap[w.heap.size]? = some o := by
  show (w.heap.push o)[w.heap.size]? = _
  simp
theorem ownOk_alloc (w : World) (cs sp : List Value) (e : TypeId) (fz : Nat × Nat) (hf : cs.length + sp.length ≤ fz.1 ∨ fz = (0, 0)) : OwnOk (w.alloc (.cells (cs ++ sp).toArray e fz)) w.heap.size (cs.length + sp.length) cs :=
  ⟨sp, e, fz, heap_alloc_new _ _, rfl, hf⟩
theorem below_alloc' (w : World) (o : Obj) : Below w.heap.size w (w.alloc o) := (Below.refl _ _).alloc (Nat.le_refl _) o
theorem Rep.alloc0 (h : Rep w0 B H w) (cs : List Value) (e : TypeId) : Rep w0 B (.own w.heap.size cs.length cs :: H) (w.alloc (.cells cs.toArray e)) := by
  have h2 := ownOk_alloc w cs [] e (0, 0) (.inr rfl)
  simp only [List.append_nil, List.length_nil, Nat.add_zero] at h2
  exact h.cons (below_alloc' _ _) h2 (fun k hk => by cases hk; exact Nat.le_refl _)
/-- the head piece is turned into another one of the same block, all else as it was -/
theorem Rep.turn {g : Nat} {c c' : Chunk} (h : Rep w0 B (c :: H) w) (hcg : c.blk = some g) (hcg' : c'.blk = some g) (hb : Below B w w') (hk : ∀ k, k ≠ g → k < w.heap.size → w'.heap[k]? = w.heap[k]?) (ho : c'.Ok w') : Rep w0 B (c' :: H) w' := by
  have hs := List.pairwise_cons.1 h.sep
  refine ⟨h.hB, h.below.trans hb, fun d hd => ?_, fun d hd k hdk => ?_, List.pairwise_cons.2 ⟨fun d hd => ?_, hs.2⟩⟩
  · rcases List.mem_cons.1 hd with rfl | hd
    · exact ho
    · have hm := h.ok d (List.mem_cons_of_mem _ hd)
      exact hm.of_block (fun k hdk => hk _ (fun e => (hs.1 d hd).ne hcg (by rw [hdk, e])) (hm.lt hdk))
  · rcases List.mem_cons.1 hd with rfl | hd
    · rw [hcg'] at hdk; cases hdk; exact h.ge c List.mem_cons_self _ hcg
    · exact h.ge d (List.mem_cons_of_mem _ hd) k hdk
  · unfold Apart
    rw [hcg', ← hcg]
    exact hs.1 d hd
theorem Rep.set {g sz : Nat} {cs : List Value} (h : Rep w0 B (.own g sz cs :: H) w) (i : Nat) (v : Value) (hi : i < cs.length) : Rep w0 B (.own g sz (cs.set i v) :: H) (w.setCell ⟨g, i, none⟩ v) :=
  h.turn rfl rfl ((Below.refl B w).setCell (h.ge _ List.mem_cons_self g rfl) v) (fun k hk _ => Below.heap_setCell _ _ _ _ hk) (OwnOk.setCell (h.ok _ List.mem_cons_self) i v hi)
theorem Rep.push {g sz : Nat} {cs : List Value} (h : Rep w0 B (.own g sz cs :: H) w) (v : Value) (hi : cs.length < sz) : Rep w0 B (.own g sz (cs ++ [v]) :: H) (w.setCell ⟨g, cs.length, none⟩ v) :=
  h.turn rfl rfl ((Below.refl B w).setCell (h.ge _ List.mem_cons_self g rfl) v) (fun k hk _ => Below.heap_setCell _ _ _ _ hk) (OwnOk.push (h.ok _ List.mem_cons_self) v hi)
theorem Rep.own (h : Rep w0 B H w) {g sz : Nat} {cs : List Value} (hc : Chunk.own g sz cs ∈ H) {i : Nat} {v : Value} (hi : cs[i]? = some v) : w.cell? ⟨g, i, none⟩ = some v := OwnOk.cell (h.ok _ hc) hi
theorem Rep.old (h : Rep w0 B H w) {a : Addr} {v : Value} (hc : w0.cell? a = some v) (hb : a.block < B) : w.cell? a = some v := by
  rw [h.below.cell hb]; exact hc
/-- a slice that is not nil, by its block -/
theorem Rep.slOwn {g es m c : Nat} {cs : List Value} (h : Rep w0 B (.sl (.slice (some ⟨g, 0, none⟩) m c) es m cs :: H) w) : Rep w0 B (.own g (c * es) cs :: H) w := by
  have hok := h.ok _ List.mem_cons_self
  refine h.turn rfl rfl (Below.refl _ _) (fun _ _ _ => rfl) ?_
  rcases hok.2 with ⟨he, _⟩ | ⟨g', c', he, _, ho⟩
  · cases he
  · cases he; exact ho
theorem Rep.ownSl {g es m c : Nat} {cs : List Value} (h : Rep w0 B (.own g (c * es) cs :: H) w) (hm : cs.length = m * es) (hc : m ≤ c) : Rep w0 B (.sl (.slice (some ⟨g, 0, none⟩) m c) es m cs :: H) w :=
  h.turn rfl rfl (Below.refl _ _) (fun _ _ _ => rfl) ⟨hm, .inr ⟨g, c, rfl, hc, h.ok _ List.mem_cons_self⟩⟩
end

/-- the slots that are known -/
abbrev Fr := List (Nat × Value)
structure FrOk (n : Nat) (fr : Fr) (a : Act) : Prop where
  defers : a.defers = []
  size : a.tmps.size = n
  slot : ∀ t v, fr.lookup t = some v → a.tmps[t]? = some v
def frPut (d : Option Tmp) (v : Value) (fr : Fr) : Fr :=
  match d with
  | some d => (d, v) :: fr
  | none => fr
def dOk (n : Nat) (d : Option Tmp) : Bool :=
  match d with
  | some d => decide (d < n)
  | none => true
theorem lookup_cons_ne {t d : Nat} {v : Value} {fr : Fr} (h : t ≠ d) : List.lookup t ((d, v) :: fr) = fr.lookup t := by
  have : (t == d) = false := by simpa using h
  simp [List.lookup, this]
theorem FrOk.put {n : Nat} {fr : Fr} {a : Act} (h : FrOk n fr a) {d : Option Tmp} (hd : dOk n d = true) (v : Value) : FrOk n (frPut d v fr) (a.put d v) := by
  cases d with
  | none => exact h
  | some d =>
    have hd : d < n := by simpa [dOk] using hd
    refine ⟨h.defers, by simp [Act.put, h.size], fun t u ht => ?_⟩
    by_cases hne : t = d
    · subst hne
      simp [frPut, List.lookup] at ht
      subst ht
      simp [Act.put, h.size, hd]
    · rw [show frPut (some d) v fr = (d, v) :: fr from rfl, lookup_cons_ne hne] at ht
      simp only [Act.put]
      rw [Array.getElem?_setIfInBounds_ne (Ne.symm hne)]
      exact h.slot t u ht
theorem FrOk.sub {n : Nat} {fr fr' : Fr} {a : Act} (h : FrOk n fr a) (hs : ∀ t v, fr'.lookup t = some v → fr.lookup t = some v) : FrOk n fr' a :=
  ⟨h.defers, h.size, fun t v ht => h.slot t v (hs t v ht)⟩
/-- fr' is a part of fr -/
def FrSub (fr' fr : Fr) : Prop := ∀ t v, fr'.lookup t = some v → fr.lookup t = some v
theorem FrSub.nil (fr : Fr) : FrSub [] fr := fun t v h => by simp at h
theorem FrSub.cons {t : Nat} {v : Value} {fr' fr : Fr} (h : fr.lookup t = some v) (hs : FrSub fr' fr) : FrSub ((t, v) :: fr') fr := fun s u hu => by
  by_cases hne : s = t
  · subst hne
    simp [List.lookup] at hu
    subst hu
    exact h
  · rw [lookup_cons_ne hne] at hu
    exact hs s u hu
theorem FrSub.refl (fr : Fr) : FrSub fr fr := fun _ _ h => h
def ev (fr : Fr) : Operand → Option Value
  | .tmp t => fr.lookup t
  | .const v => some v
  | .global g => some (.pointer (some ⟨g, 0, none⟩))
  | .func f => some (.func (.func f) #[] #[])
theorem FrOk.ev {n : Nat} {fr : Fr} {a : Act} (h : FrOk n fr a) {x : Operand} {v : Value} (hx : ev fr x = some v) : a.eval x = v := by
  cases x with
  | tmp t => simp [Act.eval, h.slot t v hx]
  | const u => simpa [SL.ev, Act.eval] using hx
  | global g => simpa [SL.ev, Act.eval] using hx
  | func f => simpa [SL.ev, Act.eval] using hx
def evs (fr : Fr) : List Operand → Option (List Value)
  | [] => some []
  | x :: xs => match ev fr x, evs fr xs with
    | some v, some vs => some (v :: vs)
    | _, _ => none
theorem FrOk.evs {n : Nat} {fr : Fr} {a : Act} (h : FrOk n fr a) : ∀ {xs : List Operand} {vs : List Value}, evs fr xs = some vs → xs.map a.eval = vs
  | [], vs, hv => by simp [SL.evs] at hv; subst hv; rfl
  | x :: xs, vs, hv => by
    simp only [SL.evs] at hv
    cases h1 : SL.ev fr x with
    | none => simp [h1] at hv
    | some v =>
      cases h2 : SL.evs fr xs with
      | none => simp [h1, h2] at hv
      | some us =>
        simp [h1, h2] at hv
        subst hv
        simp [h.ev h1, h.evs h2]

def fine : Exit → Bool
  | .panic _ => false
  | .outgrown => false
  | _ => true
def Post (w0 : World) (B n : Nat) (Q : Exit → Fr → List Chunk → Prop) (HX : List Chunk) (e : Exit) (a : Act) (w : World) : Prop :=
  fine e = true ∧ ∃ fr H, Q e fr H ∧ FrOk n fr a ∧ Rep w0 B (H ++ HX) w
def T (P : Program) (w0 : World) (B n : Nat) (c : Code) (Q : Exit → Fr → List Chunk → Prop) (fr : Fr) (H : List Chunk) : Prop :=
  ∀ HX a w, FrOk n fr a → Rep w0 B (H ++ HX) w → c.wp P (Post w0 B n Q HX) a w
def TL (P : Program) (w0 : World) (B n : Nat) (ops : Array Oper) (rest : List Oper) (Q : Exit → Fr → List Chunk → Prop) (fr : Fr) (H : List Chunk) : Prop :=
  ∀ HX a w, FrOk n fr a → Rep w0 B (H ++ HX) w → wpList P ops (Post w0 B n Q HX) rest a w
/-- one operation -/
def TO (P : Program) (w0 : World) (B n : Nat) (o : Oper) (K : Fr → List Chunk → Prop) (fr : Fr) (H : List Chunk) : Prop :=
  ∀ HX a w Q, FrOk n fr a → Rep w0 B (H ++ HX) w → o.wp P a w (fun a' w' => ∃ fr' H', K fr' H' ∧ FrOk n fr' a' ∧ Rep w0 B (H' ++ HX) w') Q
/-- a call -/
def TCall (P : Program) (w0 : World) (B : Nat) (f : FuncId) (args : Array Value) (Q : Value → List Chunk → Prop) (H : List Chunk) : Prop :=
  ∀ HX w, Rep w0 B (H ++ HX) w → Calls P f args w fun e w' => ∃ v H', e = .returned v ∧ Q v H' ∧ Rep w0 B (H' ++ HX) w'

section rules
variable {P : Program} {w0 : World} {B n : Nat} {Q : Exit → Fr → List Chunk → Prop} {fr : Fr} {H : List Chunk}
theorem T.mono {c : Code} {Q' : Exit → Fr → List Chunk → Prop} (h : T P w0 B n c Q fr H) (hq : ∀ e f h, Q e f h → Q' e f h) : T P w0 B n c Q' fr H :=
  fun HX a w hf hr => wp_mono (h HX a w hf hr) fun e a w ⟨he, f, hh, q, r⟩ => ⟨he, f, hh, hq _ _ _ q, r⟩
/-- less is known -/
theorem T.weaken {c : Code} {fr' : Fr} (hs : FrSub fr' fr) (h : T P w0 B n c Q fr' H) : T P w0 B n c Q fr H :=
  fun HX a w hf hr => h HX a w (hf.sub hs) hr
theorem T.perm {c : Code} {H' : List Chunk} (hp : H.Perm H') (h : T P w0 B n c Q fr H') : T P w0 B n c Q fr H :=
  fun HX a w hf hr => h HX a w hf (hr.perm (hp.append_right HX))
theorem T.drop {c : Code} {H' : List Chunk} (hp : H'.Sublist H) (h : T P w0 B n c Q fr H') : T P w0 B n c Q fr H :=
  fun HX a w hf hr => h HX a w hf (hr.sub (hp.append_right HX))
theorem TCall.mono {f : FuncId} {args : Array Value} {R R' : Value → List Chunk → Prop} (h : TCall P w0 B f args R H) (hq : ∀ v h, R v h → R' v h) : TCall P w0 B f args R' H :=
  fun HX w hr => (h HX w hr).mono fun e w' ⟨v, h', he, q, r⟩ => ⟨v, h', he, hq _ _ q, r⟩
/-- a piece that a call does not look at stays -/
theorem TCall.frame {f : FuncId} {args : Array Value} {R : Value → List Chunk → Prop} (h : TCall P w0 B f args R H) (HR : List Chunk) : TCall P w0 B f args (fun v h' => ∃ h1, h' = h1 ++ HR ∧ R v h1) (H ++ HR) :=
  fun HX w hr => (h (HR ++ HX) w (by rw [← List.append_assoc]; exact hr)).mono fun e w' ⟨v, h', he, q, r⟩ => ⟨v, h' ++ HR, he, ⟨h', rfl, q⟩, by rw [List.append_assoc]; exact r⟩
abbrev Then (R : Fr → List Chunk → Prop) (Q : Exit → Fr → List Chunk → Prop) : Exit → Fr → List Chunk → Prop
  | .normal, f, h => R f h
  | e, f, h => Q e f h
abbrev InBlock (id : Nat) (Q : Exit → Fr → List Chunk → Prop) : Exit → Fr → List Chunk → Prop
  | .exit i, f, h => match Nat.beq i id with
    | true => Q .normal f h
    | false => Q (.exit i) f h
  | e, f, h => Q e f h
theorem T_skip (h : Q .normal fr H) : T P w0 B n .skip Q fr H := fun HX a w hf hr => wp_skip ⟨rfl, fr, H, h, hf, hr⟩
theorem T_label {l : Nat} (h : Q .normal fr H) : T P w0 B n (.label l) Q fr H := fun HX a w hf hr => wp_label ⟨rfl, fr, H, h, hf, hr⟩
theorem T_ret (h : Q .ret fr H) : T P w0 B n .ret Q fr H := fun HX a w hf hr => wp_ret ⟨rfl, fr, H, h, hf, hr⟩
theorem T_exit {i : Nat} (h : Q (.exit i) fr H) : T P w0 B n (.exit i) Q fr H := fun HX a w hf hr => wp_exit ⟨rfl, fr, H, h, hf, hr⟩
theorem T_goto {i : Nat} (h : Q (.goto i) fr H) : T P w0 B n (.goto i) Q fr H := fun HX a w hf hr => wp_goto ⟨rfl, fr, H, h, hf, hr⟩
theorem T_seq {x y : Code} (h : T P w0 B n x (Then (fun f h => T P w0 B n y Q f h) Q) fr H) : T P w0 B n (.seq x y) Q fr H := by
  intro HX a w hf hr
  refine wp_seq (wp_mono (h HX a w hf hr) ?_)
  rintro e a' w' ⟨he, f, hh, q, hf', hr'⟩
  cases e <;> first
    | exact q HX a' w' hf' hr'
    | exact ⟨he, f, hh, q, hf', hr'⟩
theorem T_cond {c : Operand} {x y : Code} {b : Bool} (hc : ev fr c = some (.bool b)) (ht : b = true → T P w0 B n x Q fr H) (hn : b = false → T P w0 B n y Q fr H) : T P w0 B n (.cond c x y) Q fr H := by
  intro HX a w hf hr
  exact wp_cond_split (t := b) (hf.ev hc) (fun e => ht e HX a w hf hr) (fun e => hn e HX a w hf hr)
theorem T_block {id : Nat} {c : Code} (h : T P w0 B n c (InBlock id Q) fr H) : T P w0 B n (.block id c) Q fr H := by
  intro HX a w hf hr
  refine wp_block (wp_mono (h HX a w hf hr) ?_)
  rintro e a' w' ⟨he, f, hh, q, hf', hr'⟩
  cases e with
  | exit i =>
    simp only [Exit.inBlock]
    split
    · rename_i hi
      subst hi
      simp only [InBlock, Nat.beq_refl] at q
      exact ⟨rfl, f, hh, q, hf', hr'⟩
    · rename_i hi
      have hb : Nat.beq i id = false := by
        cases hb : Nat.beq i id with
        | true => exact absurd (Nat.eq_of_beq_eq_true hb) hi
        | false => rfl
      simp only [InBlock, hb] at q
      exact ⟨rfl, f, hh, q, hf', hr'⟩
  | _ => exact ⟨he, f, hh, q, hf', hr'⟩
theorem T_loop {c : Code} (I : Nat → Fr → List Chunk → Prop) (m : Nat) (h0 : I m fr H)
    (step : ∀ m fr H, I m fr H → T P w0 B n c (Then (fun f h => ∃ m' f' h', m' < m ∧ FrSub f' f ∧ h'.Sublist h ∧ I m' f' h') Q) fr H) : T P w0 B n (.loop c) Q fr H := by
  intro HX a w hf hr
  have key : ∀ N m, m < N → ∀ fr H a w, I m fr H → FrOk n fr a → Rep w0 B (H ++ HX) w → Code.rounds P c (Post w0 B n Q HX) N a w := by
    intro N
    induction N with
    | zero => intro m hm; omega
    | succ N ih =>
      intro m hm fr H a w hI hf hr
      rw [rounds_succ]
      refine wp_mono (step m fr H hI HX a w hf hr) ?_
      rintro e a' w' ⟨he, f, hh, q, hf', hr'⟩
      cases e <;> first
        | (obtain ⟨m', f', h', hlt, hs, hsub, hI'⟩ := q; exact ih m' (by omega) f' h' a' w' hI' (hf'.sub hs) (hr'.sub (hsub.append_right HX)))
        | exact ⟨he, f, hh, q, hf', hr'⟩
  exact wp_loop_rounds (m + 1) (key (m + 1) m (Nat.lt_succ_self m) fr H a w h0 hf hr)
theorem T_region {id : Nat} {l : List Oper} (h : TL P w0 B n l.toArray l Q fr H) : T P w0 B n (.region id l.toArray false) Q fr H :=
  fun HX a w hf hr => wp_region_lit (h HX a w hf hr)
variable {ops : Array Oper} {rest : List Oper} {o : Oper}
theorem TL_nil (h : Q .normal fr H) : TL P w0 B n ops [] Q fr H := fun HX a w hf hr => ⟨rfl, fr, H, h, hf, hr⟩
theorem TL_cons (hg : o.guard = none) (h : TO P w0 B n o (fun f h => TL P w0 B n ops rest Q f h) fr H) : TL P w0 B n ops (o :: rest) Q fr H := by
  intro HX a w hf hr
  refine wpList_plain hg fun K hK => Oper.wp_mono ?_ (h HX a w (Post w0 B n Q HX) hf hr)
  rintro a' w' ⟨f, hh, ht, hf', hr'⟩
  exact hK _ _ (ht HX a' w' hf' hr')
theorem yielded_of {j d : Nat} {b : Bool} {a : Act} (hf : FrOk n fr a) (hj : (ops[j]?).bind (·.dst) = some d) (hd : fr.lookup d = some (.bool b)) : yielded ops a.tmps j = some b := by
  unfold yielded
  rw [hj, Option.bind_some, hf.slot d _ hd]
/-- a guarded operation that runs -/
theorem TL_yes {j d : Nat} {b : Bool} (hg : o.guard = some (j, b)) (hj : (ops[j]?).bind (·.dst) = some d) (hd : fr.lookup d = some (.bool b)) (h : TO P w0 B n o (fun f h => TL P w0 B n ops rest Q f h) fr H) : TL P w0 B n ops (o :: rest) Q fr H := by
  intro HX a w hf hr
  refine wpList_step fun K hK => ?_
  rw [if_pos (by simp [Region.wanted, hg, yielded_of hf hj hd])]
  refine Oper.wp_mono ?_ (h HX a w (Post w0 B n Q HX) hf hr)
  rintro a' w' ⟨f, hh, ht, hf', hr'⟩
  exact hK _ _ (ht HX a' w' hf' hr')
/-- a guarded operation that is passed by -/
theorem TL_no {j d : Nat} {b : Bool} (hg : o.guard = some (j, !b)) (hj : (ops[j]?).bind (·.dst) = some d) (hd : fr.lookup d = some (.bool b)) (hdo : dOk n o.dst = true) (h : TL P w0 B n ops rest Q (frPut o.dst undef fr) H) : TL P w0 B n ops (o :: rest) Q fr H := by
  intro HX a w hf hr
  refine wpList_step fun K hK => ?_
  rw [if_neg (by simp [Region.wanted, hg, yielded_of hf hj hd])]
  exact hK _ _ (h HX _ w (hf.put hdo undef) hr)

/-- worlds that meet the pieces, among others -/
def WH (w0 : World) (B : Nat) (H : List Chunk) (w : World) : Prop := ∃ HX, Rep w0 B (H ++ HX) w
/-- an operation that yields v wherever W holds, and does nothing else -/
def PV (P : Program) (n : Nat) (W : World → Prop) (fr : Fr) (o : Oper) (v : Value) : Prop :=
  ∀ a w, FrOk n fr a → W w → (execOp a.eval o).run P w = .ok (.value v) w
theorem TO_pure {v : Value} {K : Fr → List Chunk → Prop} (hd : dOk n o.dst = true) (hp : PV P n (WH w0 B H) fr o v) (h : K (frPut o.dst v fr) H) : TO P w0 B n o K fr H := by
  intro HX a w Q hf hr
  simp only [Oper.wp, hp a w hf ⟨HX, hr⟩, Oper.upon]
  exact ⟨_, _, h, hf.put hd v, hr⟩
theorem TL_pure {v : Value} {d : Option Tmp} (hg : o.guard = none) (hdd : o.dst = d) (hd : dOk n d = true) (hp : PV P n (WH w0 B H) fr o v) (h : TL P w0 B n ops rest Q (frPut d v fr) H) : TL P w0 B n ops (o :: rest) Q fr H := by
  subst hdd
  exact TL_cons hg (TO_pure hd hp h)

/-- what a function returns -/
def ResV (P : Program) (n : Nat) (W : World → Prop) (fr : Fr) (fn : Func) (v : Value) : Prop :=
  ∀ a w, FrOk n fr a → W w → (results fn a.tmps).run P w = .ok v w
def RetQ (P : Program) (w0 : World) (B n : Nat) (fn : Func) (R : Value → List Chunk → Prop) : Exit → Fr → List Chunk → Prop
  | .normal, f, h => ∃ v h', h'.Sublist h ∧ ResV P n (WH w0 B h) f fn v ∧ R v h'
  | .ret, f, h => ∃ v h', h'.Sublist h ∧ ResV P n (WH w0 B h) f fn v ∧ R v h'
  | _, _, _ => False
def enter : List Value → Nat → Fr
  | [], _ => []
  | v :: vs, i => (i, v) :: enter vs (i + 1)
theorem enter_lookup : ∀ (vs : List Value) (i t : Nat) (v : Value), (enter vs i).lookup t = some v → i ≤ t ∧ vs[t - i]? = some v
  | [], i, t, v, h => by simp [enter] at h
  | u :: us, i, t, v, h => by
    by_cases hne : t = i
    · subst hne
      simp [enter, List.lookup] at h
      simp [h]
    · rw [show enter (u :: us) i = (i, u) :: enter us (i + 1) from rfl, lookup_cons_ne hne] at h
      obtain ⟨h1, h2⟩ := enter_lookup us (i + 1) t v h
      refine ⟨by omega, ?_⟩
      rw [show t - i = (t - (i + 1)) + 1 by omega]
      simpa using h2
theorem TCall_intro {f : FuncId} {fn : Func} {c : Code} {args : List Value} {R : Value → List Chunk → Prop} (hf : P.funcs[f]? = some fn) (hb : fn.body = some c) (hn : fn.ntmps = n) (ha : args.length ≤ n)
    (h : T P w0 B n c (RetQ P w0 B n fn R) (enter args 0) H) : TCall P w0 B f args.toArray R H := by
  intro HX w hr
  refine calls_of_wp hf hb (wp_mono (h HX _ w ?_ hr) ?_)
  · subst hn
    refine ⟨rfl, by simp; omega, fun t v ht => ?_⟩
    obtain ⟨_, h2⟩ := enter_lookup _ _ _ _ ht
    rw [Nat.sub_zero] at h2
    have hl : t < args.length := (List.getElem?_eq_some_iff.1 h2).1
    rw [Array.getElem?_append_left (by simpa using hl)]
    simpa using h2
  · rintro e a' w' ⟨he, f', h', q, hf', hr'⟩
    cases e with
    | normal =>
      obtain ⟨v, h2, hs, hv, hq⟩ := q
      exact ⟨hf'.defers, v, hv a' w' hf' ⟨HX, hr'⟩, v, h2, rfl, hq, hr'.sub (hs.append_right HX)⟩
    | ret =>
      obtain ⟨v, h2, hs, hv, hq⟩ := q
      exact ⟨hf'.defers, v, hv a' w' hf' ⟨HX, hr'⟩, v, h2, rfl, hq, hr'.sub (hs.append_right HX)⟩
    | exit _ => exact q.elim
    | goto _ => exact q.elim
    | panic _ => exact q.elim
    | outgrown => exact q.elim
end rules
section pure
variable {P : Program} {n : Nat} {W : World → Prop} {fr : Fr} {dst : Option Tmp} {ty : TypeId} {pos : String} {aft : Array Edge} {gd : Option (Nat × Bool)}
theorem PV.cast {o : Oper} {v v' : Value} (h : PV P n W fr o v) (e : v = v') : PV P n W fr o v' := e ▸ h
theorem PV_move {x : Operand} {v : Value} (hx : ev fr x = some v) : PV P n W fr ⟨dst, .move x, ty, pos, aft, gd⟩ v := fun a w hf _ => by
  simp only [execOp, hf.ev hx]; rfl
theorem PV_assign {x : Operand} {v : Value} (hx : ev fr x = some v) : PV P n W fr ⟨dst, .assign x, ty, pos, aft, gd⟩ v := fun a w hf _ => by
  simp only [execOp, hf.ev hx]; rfl
theorem PV_pick {c x y : Operand} {b : Bool} {u v : Value} (hc : ev fr c = some (.bool b)) (hx : ev fr x = some u) (hy : ev fr y = some v) : PV P n W fr ⟨dst, .pick c x y, ty, pos, aft, gd⟩ (if b then u else v) := fun a w hf _ => by
  simp only [execOp, hf.ev hc, hf.ev hx, hf.ev hy, asBool]
  cases b <;> rfl
theorem PV_nilCheck {x : Operand} {p : Addr} (hx : ev fr x = some (.pointer (some p))) : PV P n W fr ⟨dst, .nilCheck x, ty, pos, aft, gd⟩ (.pointer (some p)) := fun a w hf _ => by
  simp only [execOp, hf.ev hx]; rfl
theorem PV_nilCheckFunc {x : Operand} {f : FuncId} (hx : ev fr x = some (.func (.func f) #[] #[])) : PV P n W fr ⟨dst, .nilCheck x, ty, pos, aft, gd⟩ (.func (.func f) #[] #[]) := fun a w hf _ => by
  simp only [execOp, hf.ev hx]; rfl
theorem PV_extract {x : Operand} {vs : List Value} {i : Nat} {v : Value} (hx : ev fr x = some (.tuple vs.toArray)) (hi : vs[i]? = some v) : PV P n W fr ⟨dst, .extract x i, ty, pos, aft, gd⟩ v := fun a w hf _ => by
  have hi' : vs.toArray[i]? = some v := by simpa using hi
  simp only [execOp, hf.ev hx, Instr.extract, hi']; rfl
theorem PV_makeInterface {xt : TypeId} {x : Operand} {v : Value} (hc : P.concrete xt = true) (hx : ev fr x = some v) : PV P n W fr ⟨dst, .makeInterface xt x, ty, pos, aft, gd⟩ (.iface xt v) := fun a w hf _ => by
  simp only [execOp, hf.ev hx, Sem.run_bind, run_makeInterface (h := hc)]; rfl
/-- two operands -/
abbrev BinR (P : Program) (op : BinOp) (xt : TypeId) (x y : Operand) (a b v : Value) : Prop := ∀ w, ((do eqGuard op xt x y a b; binOp op xt a b) : Sem Value).run P w = .ok v w
theorem PV_bin {op : BinOp} {xt yt : TypeId} {x y : Operand} {a b v : Value} (hx : ev fr x = some a) (hy : ev fr y = some b) (h : BinR P op xt x y a b v) : PV P n W fr ⟨dst, .binOp op xt x y yt, ty, pos, aft, gd⟩ v := fun a w hf _ => by
  simp only [execOp, hf.ev hx, hf.ev hy]
  rw [Sem.run_bind, h w]; rfl
section bins
variable {xt : TypeId} {x y : Operand} {k : IntKind} {a b : Int}
theorem bin_add : BinR P .add xt x y (.int k a) (.int k b) (.int k (k.wrap (a + b))) := fun w => by simp [binOp, Op.intArith, go_sem]
theorem bin_sub : BinR P .sub xt x y (.int k a) (.int k b) (.int k (k.wrap (a - b))) := fun w => by simp [binOp, Op.intArith, go_sem]
theorem bin_mul : BinR P .mul xt x y (.int k a) (.int k b) (.int k (k.wrap (a * b))) := fun w => by simp [binOp, Op.intArith, go_sem]
theorem bin_quo (hb : b ≠ 0) : BinR P .quo xt x y (.int k a) (.int k b) (.int k (k.wrap (a.tdiv b))) := fun w => by simp [binOp, Op.intDiv, hb, go_sem]
theorem bin_rem (hb : b ≠ 0) : BinR P .rem xt x y (.int k a) (.int k b) (.int k (a.tmod b)) := fun w => by simp [binOp, Op.intDiv, hb, go_sem]
theorem bin_and : BinR P .and xt x y (.int k a) (.int k b) (.int k (bits .and k a b)) := fun w => by simp [binOp, go_sem]
theorem bin_or : BinR P .or xt x y (.int k a) (.int k b) (.int k (bits .or k a b)) := fun w => by simp [binOp, go_sem]
theorem bin_xor : BinR P .xor xt x y (.int k a) (.int k b) (.int k (bits .xor k a b)) := fun w => by simp [binOp, go_sem]
theorem bin_andNot : BinR P .andNot xt x y (.int k a) (.int k b) (.int k (bits .andNot k a b)) := fun w => by simp [binOp, go_sem]
theorem bin_shl {k' : IntKind} (hb : 0 ≤ b) : BinR P .shl xt x y (.int k a) (.int k' b) (.int k (k.wrap (a * 2 ^ min b.toNat k.bits))) := fun w => by
  have : ¬ b < 0 := by omega
  simp [binOp, Op.shift, this, go_sem]
theorem bin_shr {k' : IntKind} (hb : 0 ≤ b) : BinR P .shr xt x y (.int k a) (.int k' b) (.int k (a.fdiv (2 ^ min b.toNat k.bits))) := fun w => by
  have : ¬ b < 0 := by omega
  simp [binOp, Op.shift, this, go_sem]
theorem bin_eql : BinR P .eql xt x y (.int k a) (.int k b) (.bool (a == b)) := fun w => by simp [binOp, Op.intCmp, go_sem]
theorem bin_neq : BinR P .neq xt x y (.int k a) (.int k b) (.bool (a != b)) := fun w => by simp [binOp, Op.intCmp, go_sem]
theorem bin_lss : BinR P .lss xt x y (.int k a) (.int k b) (.bool (decide (a < b))) := fun w => by simp [binOp, Op.intCmp, go_sem]
theorem bin_leq : BinR P .leq xt x y (.int k a) (.int k b) (.bool (decide (a ≤ b))) := fun w => by simp [binOp, Op.intCmp, go_sem]
theorem bin_gtr : BinR P .gtr xt x y (.int k a) (.int k b) (.bool (decide (a > b))) := fun w => by simp [binOp, Op.intCmp, go_sem]
theorem bin_geq : BinR P .geq xt x y (.int k a) (.int k b) (.bool (decide (a ≥ b))) := fun w => by simp [binOp, Op.intCmp, go_sem]
theorem beq_bytes (s t : ByteArray) : (s.toList == t.toList) = decide (s = t) := by
  have h : s.toList = t.toList ↔ s = t := by
    rw [ByteArray.toList_eq, ByteArray.toList_eq]
    exact ⟨fun h => ByteArray.ext (Array.toList_inj.1 h), fun h => by rw [h]⟩
  by_cases e : s = t
  · subst e; simp
  · rw [decide_eq_false e]; simpa [h] using e
theorem bin_str_eql {s t : ByteArray} : BinR P .eql xt x y (.string s) (.string t) (.bool (decide (s = t))) := fun w => by
  rw [← beq_bytes]; simp [binOp, Op.stringOp, go_sem]
theorem bin_str_neq {s t : ByteArray} : BinR P .neq xt x y (.string s) (.string t) (.bool (!decide (s = t))) := fun w => by
  rw [← beq_bytes]; simp [binOp, Op.stringOp, go_sem]
theorem bin_str_add {s t : ByteArray} (h : s.size + t.size ≤ 9223372036854775807) : BinR P .add xt x y (.string s) (.string t) (.string (s ++ t)) := fun w => by
  have : ¬ ((s.size + t.size : Nat) : Int) > IntKind.i64.max := by simp [IntKind.max, IntKind.signed, IntKind.bits]; omega
  simp [binOp, Op.stringOp, go_sem] at *
  omega
theorem bin_bool_eql {p q : Bool} (h : P.underlying xt = some .bool) : BinR P .eql xt x y (.bool p) (.bool q) (.bool (p == q)) := fun w => by
  rw [Sem.run_bind]; simp only [eqGuard_at_bool, Sem.run_pure, Result.andThen_ok, run_eql_bool (h := h)]
theorem bin_bool_neq {p q : Bool} (h : P.underlying xt = some .bool) : BinR P .neq xt x y (.bool p) (.bool q) (.bool (!(p == q))) := fun w => by
  rw [Sem.run_bind]; simp only [eqGuard_at_bool, Sem.run_pure, Result.andThen_ok, run_neq_bool (h := h)]
end bins
theorem PV_not {xt : TypeId} {x : Operand} {b : Bool} (hx : ev fr x = some (.bool b)) : PV P n W fr ⟨dst, .unOp .not xt x, ty, pos, aft, gd⟩ (.bool (!b)) := fun a w hf _ => by
  simp only [execOp, hf.ev hx]; rfl
theorem PV_neg {xt : TypeId} {x : Operand} {k : IntKind} {a : Int} (hx : ev fr x = some (.int k a)) : PV P n W fr ⟨dst, .unOp .neg xt x, ty, pos, aft, gd⟩ (.int k (k.wrap (0 - a))) := fun a w hf _ => by
  simp only [execOp, hf.ev hx]; rfl
theorem PV_com {xt : TypeId} {x : Operand} {k : IntKind} {a : Int} (hx : ev fr x = some (.int k a)) : PV P n W fr ⟨dst, .unOp .xor xt x, ty, pos, aft, gd⟩ (.int k (bits .xor k (if k.signed then -1 else k.max) a)) := fun a w hf _ => by
  simp only [execOp, hf.ev hx]; rfl
/-- a whole number turned into another kind -/
theorem PV_conv {src d : TypeId} {x : Operand} {k k' : IntKind} {a : Int} (hs : (P.underlying src).isSome = true) (hd : P.underlying d = some (.int k)) (hx : ev fr x = some (.int k' a)) : PV P n W fr ⟨dst, .convert src d x, ty, pos, aft, gd⟩ (.int k (k.wrap a)) := fun a w hf _ => by
  obtain ⟨D, hD⟩ := Option.isSome_iff_exists.1 hs
  simp only [execOp, hf.ev hx, Sem.run_bind, convert, run_underlying hD, run_underlying hd, Result.andThen_ok]
  cases D <;> simp [Conv.intToInt]
/-- len -/
theorem PV_len_slice {t e : TypeId} {x : Operand} {A : Option Addr} {m c : Nat} (ht : P.underlying t = some (.slice e)) (hx : ev fr x = some (.slice A m c)) : PV P n W fr ⟨dst, .call { callee := .builtin .len, args := #[x], argTypes := #[t] }, ty, pos, aft, gd⟩ (.int .i64 (m : Int)) := fun a w hf _ => by
  simp only [execOp, resolve, invoke, builtin, Builtin.len_]
  simp [hf.ev hx, run_underlying ht, goInt]
theorem PV_len_string {t : TypeId} {x : Operand} {s : ByteArray} (ht : P.underlying t = some .string) (hx : ev fr x = some (.string s)) : PV P n W fr ⟨dst, .call { callee := .builtin .len, args := #[x], argTypes := #[t] }, ty, pos, aft, gd⟩ (.int .i64 (s.size : Int)) := fun a w hf _ => by
  simp only [execOp, resolve, invoke, builtin, Builtin.len_]
  simp [hf.ev hx, run_underlying ht, goInt]
theorem PV_max {ts : Array TypeId} {x y : Operand} {k : IntKind} {a b : Int} (hx : ev fr x = some (.int k a)) (hy : ev fr y = some (.int k b)) : PV P n W fr ⟨dst, .call { callee := .builtin .max, args := #[x, y], argTypes := ts }, ty, pos, aft, gd⟩ (.int k (max a b)) := fun a' w hf _ => by
  have e : (if b > a then b else a) = max a b := by omega
  simp only [execOp, resolve, invoke, builtin]
  simp [hf.ev hx, hf.ev hy, Builtin.max_, Builtin.max2, e]
theorem PV_min {ts : Array TypeId} {x y : Operand} {k : IntKind} {a b : Int} (hx : ev fr x = some (.int k a)) (hy : ev fr y = some (.int k b)) : PV P n W fr ⟨dst, .call { callee := .builtin .min, args := #[x, y], argTypes := ts }, ty, pos, aft, gd⟩ (.int k (min a b)) := fun a' w hf _ => by
  have e : (if b < a then b else a) = min a b := by omega
  simp only [execOp, resolve, invoke, builtin]
  simp [hf.ev hx, hf.ev hy, Builtin.min_, Builtin.min2, e]
end pure
section mem
variable {P : Program} {w0 : World} {B n : Nat} {W : World → Prop} {fr : Fr} {dst : Option Tmp} {ty : TypeId} {pos : String} {aft : Array Edge} {gd : Option (Nat × Bool)}
/-- a cell that is known wherever W holds -/
def Rd (W : World → Prop) (a : Addr) (v : Value) : Prop := ∀ w, W w → w.cell? a = some v
def Chunk.at : Chunk → Option (Nat × List Value)
  | .own g _ cs => some (g, cs)
  | .sl (.slice (some ⟨g, 0, none⟩) _ _) _ _ cs => some (g, cs)
  | _ => none
def Chunk.put : Chunk → List Value → Chunk
  | .own g sz _, cs => .own g sz cs
  | .sl v es m _, cs => .sl v es m cs
  | .ob g I, _ => .ob g I
theorem Chunk.at_blk {c : Chunk} {g : Nat} {cs : List Value} (h : c.at = some (g, cs)) : c.blk = some g := by
  unfold Chunk.at at h
  split at h <;> first | (cases h; rfl) | cases h
theorem Chunk.put_blk (c : Chunk) (cs : List Value) : (c.put cs).blk = c.blk := by cases c <;> rfl
theorem Chunk.Ok.own {w : World} {c : Chunk} {g : Nat} {cs : List Value} (hc : c.Ok w) (h : c.at = some (g, cs)) : ∃ sz, OwnOk w g sz cs := by
  unfold Chunk.at at h
  split at h
  · cases h; exact ⟨_, hc⟩
  · cases h
    rcases hc.2 with ⟨he, _⟩ | ⟨g', c, he, _, ho⟩
    · cases he
    · cases he; exact ⟨_, ho⟩
  · cases h
theorem Chunk.Ok.put {w w' : World} {c : Chunk} {g : Nat} {cs cs' : List Value} (hc : c.Ok w) (h : c.at = some (g, cs)) (hl : cs'.length = cs.length) (ho : ∀ sz, OwnOk w g sz cs → OwnOk w' g sz cs') : (c.put cs').Ok w' := by
  unfold Chunk.at at h
  split at h
  · cases h; exact ho _ hc
  · cases h
    rcases hc.2 with ⟨he, _⟩ | ⟨g', c, he, hmc, ho'⟩
    · cases he
    · cases he
      exact ⟨by rw [hl]; exact hc.1, .inr ⟨_, _, rfl, hmc, ho _ ho'⟩⟩
  · cases h
theorem Chunk.put_at {c : Chunk} {g : Nat} {cs : List Value} (cs' : List Value) (h : c.at = some (g, cs)) : (c.put cs').at = some (g, cs') := by
  unfold Chunk.at at h
  split at h <;> first | (cases h; rfl) | cases h
theorem Rd.mem {H : List Chunk} {c : Chunk} {g off : Nat} {cs : List Value} {v : Value} (hc : c ∈ H) (h : c.at = some (g, cs)) (hv : cs[off]? = some v) : Rd (WH w0 B H) ⟨g, off, none⟩ v :=
  fun w ⟨HX, hr⟩ => by
    obtain ⟨sz, ho⟩ := (hr.ok c (List.mem_append_left _ hc)).own h
    exact ho.cell hv
theorem Rd.at {H : List Chunk} {g : Nat} {cs : List Value} {off : Nat} {v : Value} (i : Nat) (hi : (H[i]?).bind Chunk.at = some (g, cs)) (hv : cs[off]? = some v) : Rd (WH w0 B H) ⟨g, off, none⟩ v := by
  obtain ⟨c, hc, ha⟩ := Option.bind_eq_some_iff.1 hi
  exact Rd.mem (List.mem_of_getElem? hc) ha hv
theorem Rd.old {H : List Chunk} {a : Addr} {v : Value} (hc : w0.cell? a = some v) (hb : a.block < B) : Rd (WH w0 B H) a v :=
  fun w ⟨HX, hr⟩ => hr.old hc hb
def cellTy : TypeDesc → Bool
  | .struct _ => false
  | .array _ _ => false
  | _ => true
theorem run_isAgg_no {t : TypeId} {D : TypeDesc} (ht : P.underlying t = some D) (hD : cellTy D = true) (w : World) : (isAgg t).run P w = .ok false w := by
  simp only [isAgg, Sem.run_bind, run_underlying ht, Result.andThen_ok]
  cases D <;> first | rfl | simp [cellTy] at hD
theorem run_isAgg_yes {t : TypeId} {D : TypeDesc} (ht : P.underlying t = some D) (hD : cellTy D = false) (w : World) : (isAgg t).run P w = .ok true w := by
  simp only [isAgg, Sem.run_bind, run_underlying ht, Result.andThen_ok]
  cases D <;> first | rfl | simp [cellTy] at hD
theorem run_sizeOf_of {t : TypeId} {k : Nat} (hi : (P.info? t).map (·.size) = some k) (w : World) : (sizeOf t).run P w = .ok k w := by
  obtain ⟨i, hi', rfl⟩ := Option.map_eq_some_iff.1 hi
  simp [sizeOf, typeInfo, hi']
theorem PV_load {t : TypeId} {D : TypeDesc} {x : Operand} {p : Addr} {v : Value} (ht : P.underlying t = some D) (hD : cellTy D = true) (hx : ev fr x = some (.pointer (some p))) (hr : Rd W p v) : PV P n W fr ⟨dst, .load t x, ty, pos, aft, gd⟩ v := fun a w hf hw => by
  simp only [execOp, hf.ev hx, Instr.loadAt, Instr.sureAddr, loadVar]
  simp [run_isAgg_no ht hD, hr w hw]
/-- a struct, or an array, read whole -/
def Rds (W : World → Prop) (a : Addr) (vs : List Value) : Prop := ∀ j v, vs[j]? = some v → Rd W (a.add j) v
theorem add_plain' (g off j : Nat) : (⟨g, off, none⟩ : Addr).add j = ⟨g, off + j, none⟩ := by
  unfold Addr.add
  split
  · rename_i h; subst h; rfl
  · rfl
theorem Rds.at {H : List Chunk} {g : Nat} {cs vs : List Value} {off : Nat} (i : Nat) (hi : (H[i]?).bind Chunk.at = some (g, cs)) (hv : (cs.drop off).take vs.length = vs) : Rds (WH w0 B H) ⟨g, off, none⟩ vs := fun j v hj => by
  rw [add_plain']
  refine Rd.at i hi ?_
  have hl : j < vs.length := (List.getElem?_eq_some_iff.1 hj).1
  rw [← hv, List.getElem?_take_of_lt hl, List.getElem?_drop] at hj
  exact hj
theorem Rds.nil {a : Addr} : Rds W a [] := fun j v h => by simp at h
theorem Rds.cons {g off : Nat} {v : Value} {vs : List Value} (h : Rd W ⟨g, off, none⟩ v) (hs : Rds W ⟨g, off + 1, none⟩ vs) : Rds W ⟨g, off, none⟩ (v :: vs) := fun j u hj => by
  cases j with
  | zero => simp at hj; subst hj; rw [add_plain']; exact h
  | succ j =>
    have := hs j u (by simpa using hj)
    rw [add_plain'] at this ⊢
    rwa [show off + (j + 1) = off + 1 + j by omega]
theorem PV_loadAgg {t : TypeId} {D : TypeDesc} {x : Operand} {p : Addr} {vs : List Value} {k : Nat} (ht : P.underlying t = some D) (hD : cellTy D = false) (hs : (P.info? t).map (·.size) = some k) (hk : vs.length = k) (hx : ev fr x = some (.pointer (some p))) (hr : Rds W p vs) : PV P n W fr ⟨dst, .load t x, ty, pos, aft, gd⟩ (.agg vs.toArray) := fun a w hf hw => by
  subst hk
  simp only [execOp, hf.ev hx, Instr.loadAt, Instr.sureAddr, loadVar]
  simp [run_isAgg_yes ht hD, run_sizeOf_of hs, run_loadCells_list w p vs (fun j v hj => hr j v hj w hw)]
/-- addresses -/
theorem PV_fieldAddr {s : TypeId} {fs : Array Field} {f : Field} {x : Operand} {g off i k : Nat} {D : Nat} (hs : P.underlying s = some (.struct fs)) (hf' : fs[i]? = some f) (hz : (P.info? f.type).map (·.size) = some k) (hk : k ≠ 0) (hx : ev fr x = some (.pointer (some ⟨g, off, none⟩))) (hD : f.offset = D) : PV P n W fr ⟨dst, .fieldAddr s x i, ty, pos, aft, gd⟩ (.pointer (some ⟨g, off + D, none⟩)) := fun a w hf hw => by
  subst hD
  simp only [execOp, hf.ev hx, Instr.fieldAt]
  simp [run_underlying hs, hf', Instr.sureAddr, fieldPlace, run_sizeOf_of hz, hk, add_plain']
theorem PV_field {s : TypeId} {fs : Array Field} {f : Field} {x : Operand} {i : Nat} {cs : Array Value} {v : Value} {D : TypeDesc} (hs : P.underlying s = some (.struct fs)) (hf' : fs[i]? = some f) (ht : P.underlying f.type = some D) (hD : cellTy D = true) (hx : ev fr x = some (.agg cs)) (hv : cs[f.offset]? = some v) : PV P n W fr ⟨dst, .field s x i, ty, pos, aft, gd⟩ v := fun a w hf hw => by
  simp only [execOp, hf.ev hx, Instr.field]
  simp [run_underlying hs, hf', asAgg, part, run_isAgg_no ht hD, hv]
theorem PV_fieldAgg {s : TypeId} {fs : Array Field} {f : Field} {x : Operand} {i k : Nat} {cs : Array Value} {D : TypeDesc} (hs : P.underlying s = some (.struct fs)) (hf' : fs[i]? = some f) (ht : P.underlying f.type = some D) (hD : cellTy D = false) (hz : (P.info? f.type).map (·.size) = some k) (hx : ev fr x = some (.agg cs)) : PV P n W fr ⟨dst, .field s x i, ty, pos, aft, gd⟩ (.agg (cs.extract f.offset (f.offset + k))) := fun a w hf hw => by
  simp only [execOp, hf.ev hx, Instr.field]
  simp [run_underlying hs, hf', asAgg, part, run_isAgg_yes ht hD, run_sizeOf_of hz]
theorem PV_indexAddr {t e : TypeId} {x ix : Operand} {g off m c es i : Nat} {k : IntKind} {z : Int} (ht : P.underlying t = some (.slice e)) (hz : (P.info? e).map (·.size) = some es) (hx : ev fr x = some (.slice (some ⟨g, off, none⟩) m c)) (hi : ev fr ix = some (.int k z)) (hzi : z = (i : Int)) (hlt : i < m) : PV P n W fr ⟨dst, .indexAddr t x ix, ty, pos, aft, gd⟩ (.pointer (some ⟨g, off + i * es, none⟩)) := fun a w hf hw => by
  subst hzi
  simp only [execOp, hf.ev hx, hf.ev hi, Instr.indexAt]
  simp [run_underlying ht, asIntOf, run_sizeOf_of hz, hlt, add_plain']
theorem PV_indexAddrArr {t e : TypeId} {x ix : Operand} {g off m es i : Nat} {k : IntKind} {z : Int} (ht : P.underlying t = some (.array m e)) (hz : (P.info? e).map (·.size) = some es) (hx : ev fr x = some (.pointer (some ⟨g, off, none⟩))) (hi : ev fr ix = some (.int k z)) (hzi : z = (i : Int)) (hlt : i < m) : PV P n W fr ⟨dst, .indexAddr t x ix, ty, pos, aft, gd⟩ (.pointer (some ⟨g, off + i * es, none⟩)) := fun a w hf hw => by
  subst hzi
  simp only [execOp, hf.ev hx, hf.ev hi, Instr.indexAt]
  simp [run_underlying ht, asIntOf, run_sizeOf_of hz, hlt, add_plain', Instr.sureAddr]
theorem PV_indexStr {t : TypeId} {x ix : Operand} {s : ByteArray} {k : IntKind} {z : Int} {i : Nat} {b : UInt8} (ht : P.underlying t = some .string) (hx : ev fr x = some (.string s)) (hi : ev fr ix = some (.int k z)) (hzi : z = (i : Int)) (hb : s[i]? = some b) : PV P n W fr ⟨dst, .index t x ix, ty, pos, aft, gd⟩ (.int .u8 (b.toNat : Int)) := fun a w hf hw => by
  subst hzi
  simp only [execOp, hf.ev hx, hf.ev hi, Instr.index]
  simp [run_underlying ht, asIntOf, hb]
theorem PV_indexAgg {t e : TypeId} {x ix : Operand} {cs : Array Value} {m : Nat} {k : IntKind} {z : Int} {i : Nat} {v : Value} {D : TypeDesc} (ht : P.underlying t = some (.array m e)) (he : P.underlying e = some D) (hD : cellTy D = true) (hz : (P.info? e).map (·.size) = some 1) (hx : ev fr x = some (.agg cs)) (hi : ev fr ix = some (.int k z)) (hzi : z = (i : Int)) (hlt : i < m) (hb : cs[i]? = some v) : PV P n W fr ⟨dst, .index t x ix, ty, pos, aft, gd⟩ v := fun a w hf hw => by
  subst hzi
  simp only [execOp, hf.ev hx, hf.ev hi, Instr.index]
  simp [run_underlying ht, asIntOf, hlt, run_sizeOf_of hz, part, run_isAgg_no he hD, hb]
/-- slicing: the bounds lie within the length -/
theorem run_sliceBound_ok {v : Value} {k : IntKind} {l y : Nat} {code : BoundsCode} (w : World) (hv : v = .int k (l : Int)) (h : l ≤ y) : (Instr.sliceBound v y code).run P w = .ok l w := by
  subst hv
  simp [Instr.sliceBound, asIntOf, h]
abbrev lowOk (fr : Fr) (lo : Option Operand) (l : Nat) : Prop :=
  match lo with
  | none => l = 0
  | some y => ∃ k, ev fr y = some (.int k (l : Int))
abbrev highOk (fr : Fr) (hi : Option Operand) (h m : Nat) : Prop :=
  match hi with
  | none => h = m
  | some y => ∃ k, ev fr y = some (.int k (h : Int))
theorem run_bounds {a : Act} {lo hi : Option Operand} {l h m c : Nat} (sl : Bool) (w : World) (hf : FrOk n fr a) (hl : lowOk fr lo l) (hh : highOk fr hi h m) (hlh : l ≤ h) (hhm : h ≤ c) : (Instr.sliceBounds sl m c (lo.map a.eval) (hi.map a.eval) none).run P w = .ok (l, h, c) w := by
  unfold Instr.sliceBounds
  cases lo with
  | none =>
    simp only [lowOk] at hl; subst hl
    cases hi with
    | none => simp only [highOk] at hh; subst hh; simp
    | some y => obtain ⟨k, hy⟩ := hh; simp [hf.ev hy, run_sliceBound_ok w rfl hhm]
  | some z =>
    obtain ⟨k', hz'⟩ := hl
    cases hi with
    | none => simp only [highOk] at hh; subst hh; simp [hf.ev hz', run_sliceBound_ok w rfl hlh]
    | some y => obtain ⟨k, hy⟩ := hh; simp [hf.ev hy, hf.ev hz', run_sliceBound_ok w rfl hhm, run_sliceBound_ok w rfl hlh]
theorem PV_slice {t e : TypeId} {x : Operand} {lo hi : Option Operand} {g off m c es l h : Nat} (ht : P.underlying t = some (.slice e)) (hz : (P.info? e).map (·.size) = some es) (hx : ev fr x = some (.slice (some ⟨g, off, none⟩) m c)) (hmc : m ≤ c)
    (hl : lowOk fr lo l) (hh : highOk fr hi h m) (hlh : l ≤ h) (hhm : h ≤ m) :
    PV P n W fr ⟨dst, .slice t x lo hi none, ty, pos, aft, gd⟩ (.slice (some ⟨g, if c = l then off else off + l * es, none⟩) (h - l) (c - l)) := fun a w hf hw => by
  have e1 : (if c = l then (some ⟨g, off, none⟩ : Option Addr) else (some (⟨g, off, none⟩ : Addr)).map (·.add (l * es))) = some ⟨g, if c = l then off else off + l * es, none⟩ := by
    split
    · rfl
    · simp [add_plain']
  simp only [execOp, hf.ev hx, Instr.sliceAt, Sem.run_bind, run_underlying ht, Result.andThen_ok, Instr.slice, Option.map_none, run_bounds true w hf hl hh hlh (Nat.le_trans hhm hmc), run_sizeOf_of hz, Sem.run_pure, e1]
theorem PV_sliceNil {t e : TypeId} {x : Operand} {lo hi : Option Operand} {es : Nat} (ht : P.underlying t = some (.slice e)) (hz : (P.info? e).map (·.size) = some es) (hx : ev fr x = some (.slice none 0 0)) (hl : lowOk fr lo 0) (hh : highOk fr hi 0 0) :
    PV P n W fr ⟨dst, .slice t x lo hi none, ty, pos, aft, gd⟩ (.slice none 0 0) := fun a w hf hw => by
  simp only [execOp, hf.ev hx, Instr.sliceAt, Sem.run_bind, run_underlying ht, Result.andThen_ok, Instr.slice, Option.map_none, run_bounds true w hf hl hh (Nat.le_refl 0) (Nat.le_refl 0), run_sizeOf_of hz, Sem.run_pure]
  rfl
theorem PV_sliceStr {t : TypeId} {x : Operand} {lo hi : Option Operand} {s : ByteArray} {l h : Nat} (ht : P.underlying t = some .string) (hx : ev fr x = some (.string s)) (hl : lowOk fr lo l) (hh : highOk fr hi h s.size) (hlh : l ≤ h) (hhm : h ≤ s.size) :
    PV P n W fr ⟨dst, .slice t x lo hi none, ty, pos, aft, gd⟩ (.string (s.extract l h)) := fun a w hf hw => by
  simp only [execOp, hf.ev hx, Instr.sliceAt, Sem.run_bind, run_underlying ht, Result.andThen_ok, Instr.slice, Option.map_none, run_bounds false w hf hl hh hlh hhm, Sem.run_pure, Option.isSome_none, Bool.false_eq_true, if_false]
/-- new blocks -/
theorem TO_box {e : TypeId} {x : Operand} {v : Value} {K : Fr → List Chunk → Prop} {H : List Chunk} (hd : dOk n dst = true) (hx : ev fr x = some v) (h : ∀ g, K (frPut dst (.pointer (some ⟨g, 0, none⟩)) fr) (.own g v.cells.size v.cells.toList :: H)) : TO P w0 B n ⟨dst, .box e x, ty, pos, aft, gd⟩ K fr H := by
  intro HX a w Q hf hr
  simp only [Oper.wp, execOp, hf.ev hx, Instr.box, newVar, newRow]
  simp [Oper.upon]
  have h2 := hr.alloc0 v.cells.toList e
  rw [Array.length_toList, Array.toArray_toList] at h2
  exact ⟨_, _, h w.heap.size, hf.put hd _, h2⟩
theorem TO_alloc {e : TypeId} {z : Value} {K : Fr → List Chunk → Prop} {H : List Chunk} (hd : dOk n dst = true) (hz : (P.info? e).map (·.zero) = some (some z)) (h : ∀ g, K (frPut dst (.pointer (some ⟨g, 0, none⟩)) fr) (.own g z.cells.size z.cells.toList :: H)) : TO P w0 B n ⟨dst, .alloc e, ty, pos, aft, gd⟩ K fr H := by
  intro HX a w Q hf hr
  obtain ⟨i, hi, hz⟩ := Option.map_eq_some_iff.1 hz
  simp only [Oper.wp, execOp, Instr.alloc, newVar, newRow, zeroValue, typeInfo]
  simp [Oper.upon, hi, hz]
  have h2 := hr.alloc0 z.cells.toList e
  rw [Array.length_toList, Array.toArray_toList] at h2
  exact ⟨_, _, h w.heap.size, hf.put hd _, h2⟩
/-- stores -/
theorem perm_pick : ∀ {H : List Chunk} {i : Nat} {c : Chunk}, H[i]? = some c → H.Perm (c :: H.eraseIdx i)
  | [], i, c, h => by simp at h
  | d :: H, 0, c, h => by simp at h; subst h; simp
  | d :: H, i + 1, c, h => by
    have h1 := perm_pick (H := H) (i := i) (c := c) (by simpa using h)
    simp only [List.eraseIdx_cons_succ]
    exact (List.Perm.cons d h1).trans (List.Perm.swap _ _ _)
theorem perm_set : ∀ {H : List Chunk} {i : Nat} (c : Chunk), i < H.length → (c :: H.eraseIdx i).Perm (H.set i c)
  | [], i, c, h => by simp at h
  | d :: H, 0, c, h => by simp
  | d :: H, i + 1, c, h => by
    have h1 := perm_set (H := H) (i := i) c (by simpa using h)
    simp only [List.eraseIdx_cons_succ, List.set_cons_succ]
    exact (List.Perm.swap _ _ _).trans (List.Perm.cons d h1)
def spl (cs : List Value) : Nat → List Value → List Value
  | _, [] => cs
  | off, v :: vs => spl (cs.set off v) (off + 1) vs
theorem spl_length (vs : List Value) : ∀ (cs : List Value) (off : Nat), (spl cs off vs).length = cs.length := by
  induction vs with
  | nil => intros; rfl
  | cons v vs ih => intro cs off; simp only [spl]; rw [ih]; simp
theorem run_storeCells (P : Program) (g off0 : Nat) (vs : List Value) : ∀ (i : Nat) (cs : List Value) (w : World), (∃ sz, OwnOk w g sz cs) → off0 + i + vs.length ≤ cs.length → (∀ v ∈ vs, v.oneCell' = true) →
    ∃ w', (storeCells ⟨g, off0, none⟩ vs i).run P w = .ok () w' ∧ (∀ sz, OwnOk w g sz cs → OwnOk w' g sz (spl cs (off0 + i) vs)) ∧ w'.os = w.os ∧ w'.tape = w.tape ∧ w'.output = w.output ∧ w'.heap.size = w.heap.size ∧ ∀ k, k ≠ g → w'.heap[k]? = w.heap[k]? := by
  induction vs with
  | nil => intro i cs w ho hl hv; exact ⟨w, rfl, fun _ h => h, rfl, rfl, rfl, rfl, fun _ _ => rfl⟩
  | cons v vs ih =>
    intro i cs w ⟨sz, ho⟩ hl hv
    simp only [List.length_cons] at hl
    have hlt : off0 + i < cs.length := by omega
    have hc := ho.cell (List.getElem?_eq_getElem hlt)
    have hfz := ho.free (i := off0 + i) (by have := ho.le; omega)
    have ho2 := ho.setCell (off0 + i) v hlt
    obtain ⟨w', hr, h1, h2, h3, h4, h5, h6⟩ := ih (i + 1) (cs.set (off0 + i) v) (w.setCell ⟨g, off0 + i, none⟩ v) ⟨sz, ho2⟩ (by simp; omega) (fun u hu => hv u (List.mem_cons_of_mem _ hu))
    refine ⟨w', ?_, fun sz' h => h1 sz' (h.setCell _ v hlt), h2, h3, h4, by rw [h5]; simp [World.setCell], fun k hk => (h6 k hk).trans (Below.heap_setCell _ _ _ _ hk)⟩
    simp only [storeCells, Sem.run_bind, add_plain']
    rw [run_store _ _ _ _ _ (hv v List.mem_cons_self)]
    simp only [hc, hfz, Bool.false_eq_true, if_false, Result.andThen_ok]
    exact hr
theorem Rep.put {H : List Chunk} {w w' : World} {c : Chunk} {g : Nat} {cs cs' : List Value} (h : Rep w0 B (c :: H) w) (hat : c.at = some (g, cs)) (hl : cs'.length = cs.length) (ho : ∀ sz, OwnOk w g sz cs → OwnOk w' g sz cs') (h1 : w'.os = w.os) (h2 : w'.tape = w.tape) (h3 : w'.output = w.output) (h4 : w'.heap.size = w.heap.size) (h5 : ∀ k, k ≠ g → w'.heap[k]? = w.heap[k]?) : Rep w0 B (c.put cs' :: H) w' := by
  have hg := h.ge _ List.mem_cons_self g (Chunk.at_blk hat)
  exact h.turn (Chunk.at_blk hat) (by rw [Chunk.put_blk]; exact Chunk.at_blk hat) ⟨h1, h2, h3, by omega, fun k hk => h5 k (by omega)⟩ (fun k hk _ => h5 k hk) ((h.ok _ List.mem_cons_self).put hat hl ho)
def isAggV : Value → Bool
  | .agg _ => true
  | .tuple _ => true
  | _ => false
/-- a store of k cells at off -/
theorem TO_store {t : TypeId} {x y : Operand} {g off k : Nat} {c : Chunk} {cs : List Value} {v : Value} {K : Fr → List Chunk → Prop} {H : List Chunk} (i : Nat) (hi : H[i]? = some c) (hat : c.at = some (g, cs)) (hd : dOk n dst = true) (hz : (P.info? t).map (·.size) = some k)
    (hx : ev fr x = some (.pointer (some ⟨g, off, none⟩))) (hy : ev fr y = some v) (hk : v.cells.size = k) (hv : ∀ u ∈ v.cells.toList, u.oneCell' = true) (ho : off + k ≤ cs.length) (h : K (frPut dst undef fr) (H.set i (c.put (spl cs off v.cells.toList)))) : TO P w0 B n ⟨dst, .store t x y, ty, pos, aft, gd⟩ K fr H := by
  intro HX a w Q hf hr
  have hl : i < H.length := (List.getElem?_eq_some_iff.1 hi).1
  have hp : (H ++ HX).Perm (c :: (H.eraseIdx i ++ HX)) := (perm_pick hi).append_right HX
  have hr1 := hr.perm hp
  obtain ⟨w', hrun, h1, h2, h3, h4, h5, h6⟩ := run_storeCells P g off v.cells.toList 0 cs w ((hr1.ok _ List.mem_cons_self).own hat) (by rw [Array.length_toList, hk]; omega) hv
  have hr2 := hr1.put (cs' := spl cs off v.cells.toList) hat (spl_length _ _ _) h1 h2 h3 h4 h5 h6
  have hp2 : (c.put (spl cs off v.cells.toList) :: (H.eraseIdx i ++ HX)).Perm (H.set i (c.put (spl cs off v.cells.toList)) ++ HX) := (perm_set _ hl).append_right HX
  have hrun2 : (Instr.storeAt t (.pointer (some ⟨g, off, none⟩)) v).run P w = .ok () w' := by
    simp only [Instr.storeAt, Instr.sureAddr, Sem.run_bind, Sem.run_pure, Result.andThen_ok, storeVar, run_sizeOf_of hz, hk]
    simp [hrun]
  simp only [Oper.wp, execOp, hf.ev hx, hf.ev hy]
  rw [Sem.run_bind, hrun2]
  simp only [Result.andThen_ok, Sem.run_pure, Oper.upon]
  exact ⟨_, _, h, hf.put hd _, hr2.perm hp2⟩
theorem TO_store1 {t : TypeId} {x y : Operand} {g off : Nat} {c : Chunk} {cs : List Value} {v : Value} {K : Fr → List Chunk → Prop} {H : List Chunk} (i : Nat) (hi : H[i]? = some c) (hat : c.at = some (g, cs)) (hd : dOk n dst = true) (hz : (P.info? t).map (·.size) = some 1)
    (hx : ev fr x = some (.pointer (some ⟨g, off, none⟩))) (hy : ev fr y = some v) (hv : v.oneCell' = true) (ho : off < cs.length) (h : K (frPut dst undef fr) (H.set i (c.put (cs.set off v)))) : TO P w0 B n ⟨dst, .store t x y, ty, pos, aft, gd⟩ K fr H := by
  have e : v.cells = #[v] := by cases v <;> first | rfl | simp [Value.oneCell'] at hv
  refine TO_store i hi hat hd hz hx hy (by rw [e]; rfl) (by rw [e]; simpa using hv) (by omega) ?_
  rw [e]
  exact h
/-- a call -/
def CallOk (P : Program) (f : FuncId) : Prop := ∀ args w, (callFunc f args).run P w = .ok (.enter f args) w
theorem callOk_of {f : FuncId} {fn : Func} (hf : P.funcs[f]? = some fn) (hn : (fn.name == "runtime.NumGoroutine") = false) (hb : fn.body.isNone = false) : CallOk P f := fun args w => by
  simp only [callFunc, Sem.run_bind, run_program, Result.andThen_ok, hf, hn, hb, Bool.false_eq_true, if_false, Sem.run_pure]
theorem TO_call {f : FuncId} {xs : Array Operand} {ats : Array TypeId} {vs : List Value} {R : Value → List Chunk → Prop} {K : Fr → List Chunk → Prop} {H Hf HR : List Chunk} (hc : CallOk P f) (hd : dOk n dst = true) (hx : evs fr xs.toList = some vs) (hH : H.Perm (Hf ++ HR)) (hcall : TCall P w0 B f vs.toArray R Hf)
    (h : ∀ v H', R v H' → K (frPut dst v fr) (H' ++ HR)) : TO P w0 B n ⟨dst, .call { callee := .value (.func f), args := xs, argTypes := ats }, ty, pos, aft, gd⟩ K fr H := by
  intro HX a w Q hf hr
  have hm : xs.map a.eval = vs.toArray := by
    rw [← hf.evs hx, ← List.map_toArray, Array.toArray_toList]
  have hr2 : Rep w0 B (Hf ++ (HR ++ HX)) w := by
    rw [← List.append_assoc]; exact hr.perm (hH.append_right HX)
  have he : execOp a.eval ⟨dst, .call { callee := .value (.func f), args := xs, argTypes := ats }, ty, pos, aft, gd⟩ = callFunc f (#[] ++ xs.map a.eval ++ #[]) := rfl
  simp only [Oper.wp, he, hm, Array.empty_append, Array.append_empty]
  rw [hc]
  simp only [Oper.upon]
  refine (hcall (HR ++ HX) w hr2).mono ?_
  rintro e w' ⟨v, H', rfl, hq, hr'⟩
  exact ⟨_, _, h v H' hq, hf.put hd v, by rw [List.append_assoc]; exact hr'⟩
/-- what is returned -/
theorem ResV_none {fn : Func} (h : fn.results = #[]) : ResV P n W fr fn (.tuple #[]) := fun a w hf hw => by
  simp [results, h]
theorem ResV_one {fn : Func} {t : Tmp} {v : Value} (h : fn.results = #[.tmp t]) (hv : fr.lookup t = some v) : ResV P n W fr fn v := fun a w hf hw => by
  have := hf.slot t v hv
  simp [results, h, this]
theorem ResV_two {fn : Func} {t u : Tmp} {v x : Value} (h : fn.results = #[.tmp t, .tmp u]) (hv : fr.lookup t = some v) (hx : fr.lookup u = some x) : ResV P n W fr fn (.tuple #[v, x]) := fun a w hf hw => by
  have h1 := hf.slot t v hv
  have h2 := hf.slot u x hx
  simp [results, h, h1, h2]
theorem ResV_cell {fn : Func} {t : Tmp} {e : TypeId} {p : Addr} {v : Value} (h : fn.results = #[.cell t e]) (ht : fr.lookup t = some (.pointer (some p))) (hl : ∀ w, W w → (loadVar e p).run P w = .ok v w) : ResV P n W fr fn v := fun a w hf hw => by
  have h1 := hf.slot t _ ht
  simp [results, h, h1, asAddr, hl w hw]
end mem
section more
variable {P : Program} {w0 : World} {B n : Nat} {W : World → Prop} {fr : Fr} {dst : Option Tmp} {ty : TypeId} {pos : String} {aft : Array Edge} {gd : Option (Nat × Bool)}
def evp (fr : Fr) : List (Nat × Operand) → Option (List (Nat × Value))
  | [] => some []
  | (i, x) :: xs => match ev fr x, evp fr xs with
    | some v, some vs => some ((i, v) :: vs)
    | _, _ => none
theorem FrOk.evp {a : Act} (h : FrOk n fr a) : ∀ {xs : List (Nat × Operand)} {vs : List (Nat × Value)}, evp fr xs = some vs → xs.map (fun (i, x) => (i, a.eval x)) = vs
  | [], vs, hv => by simp [SL.evp] at hv; subst hv; rfl
  | (i, x) :: xs, vs, hv => by
    simp only [SL.evp] at hv
    cases h1 : SL.ev fr x with
    | none => simp [h1] at hv
    | some v =>
      cases h2 : SL.evp fr xs with
      | none => simp [h1, h2] at hv
      | some us =>
        simp [h1, h2] at hv
        subst hv
        simp [h.ev h1, h.evp h2]
/-- where a struct's fields lie -/
def Places (P : Program) (fs : Array Field) (ps : Array (Nat × Nat)) : Prop := ∀ w, (fs.mapM fun f => do pure (f.offset, ← sizeOf f.type) : Sem (Array (Nat × Nat))).run P w = .ok ps w
theorem PV_build {t : TypeId} {fs : Array Field} {ps : Array (Nat × Nat)} {z : Value} {parts : List (Nat × Operand)} {vs : List (Nat × Value)} {cells : Array Value} (hs : P.underlying t = some (.struct fs)) (hps : Places P fs ps) (hz : (P.info? t).map (·.zero) = some (some z)) (hp : evp fr parts = some vs) (hf' : Instr.fill (ps[·]?) z.cells vs = some cells) : PV P n W fr ⟨dst, .build t parts.toArray, ty, pos, aft, gd⟩ (.agg cells) := fun a w hf hw => by
  obtain ⟨i, hi, hz⟩ := Option.map_eq_some_iff.1 hz
  have e : (parts.toArray.map fun (i, x) => (i, a.eval x)).toList = vs := by simp [hf.evp hp]
  have e2 := hps w
  simp only [execOp, Instr.build, Sem.run_bind, zeroValue, typeInfo, run_program, Result.andThen_ok, hi, Sem.run_pure, hz, run_underlying hs, e2, e, hf']
theorem TO_buildSlice {t e : TypeId} {len es : Nat} {z : Value} {parts : List (Nat × Operand)} {vs : List (Nat × Value)} {cells : Array Value} {K : Fr → List Chunk → Prop} {H : List Chunk} (ht : P.underlying t = some (.slice e)) (hz : (P.info? e).map (fun i => (i.zero, i.size)) = some (some z, es)) (hl : len * es ≤ 16777216) (hl0 : (len * es == 0) = false) (hd : dOk n dst = true) (hp : evp fr parts = some vs)
    (hf' : Instr.fill (fun i => some (i * es, es)) ((Array.range (len * es)).map (z.cells[· % z.cells.size]!)) vs = some cells) (hc : cells.size = len * es) (h : ∀ g, K (frPut dst (.slice (some ⟨g, 0, none⟩) len len) fr) (.sl (.slice (some ⟨g, 0, none⟩) len len) es len cells.toList :: H)) : TO P w0 B n ⟨dst, .buildSlice t len parts.toArray, ty, pos, aft, gd⟩ K fr H := by
  intro HX a w Q hf hr
  obtain ⟨i, hi, hz⟩ := Option.map_eq_some_iff.1 hz
  simp only [Prod.mk.injEq] at hz
  have e1 : (parts.toArray.map fun (i, x) => (i, a.eval x)).toList = vs := by simp [hf.evp hp]
  have e2 : ¬ len * es > 2 ^ 24 := by omega
  have e3 : ¬ len * es = 0 := by simpa using hl0
  have hrun : (Instr.buildSlice t len (parts.toArray.map fun (i, x) => (i, a.eval x))).run P w = .ok (.slice (some ⟨w.heap.size, 0, none⟩) len len) (w.alloc (.cells cells e)) := by
    simp only [Instr.buildSlice, Sem.run_bind, run_underlying ht, Result.andThen_ok, sizeOf, typeInfo, run_program, hi, Sem.run_pure, hz.2, if_neg e2, if_neg e3, zeroValue, hz.1, e1, hf', newRow, run_newObj]
    rfl
  simp only [Oper.wp, execOp]
  rw [Sem.run_bind, hrun]
  simp only [Result.andThen_ok, Sem.run_pure, Oper.upon]
  have h2 := hr.alloc0 cells.toList e
  rw [Array.length_toList, Array.toArray_toList, hc] at h2
  exact ⟨_, _, h w.heap.size, hf.put hd _, h2.ownSl (by rw [Array.length_toList, hc]) (Nat.le_refl _)⟩
theorem madeCells_one (z : Value) (m : Nat) : ((Array.range m).map fun i => (#[z] : Array Value)[i % (#[z] : Array Value).size]!).toList = List.replicate m z := by
  apply List.ext_getElem
  · simp
  · intro i h1 h2
    simp [Nat.mod_one]
/-- make([]T, n, n), T of one cell -/
theorem TO_make {t e : TypeId} {x y : Operand} {m bytes : Nat} {z : Value} {K : Fr → List Chunk → Prop} {H : List Chunk} (ht : P.underlying t = some (.slice e)) (hz : (P.info? e).map (fun i => (i.zero, i.size, i.bytes)) = some (some z, 1, bytes)) (hz1 : z.cells = #[z]) (hb : m * bytes ≤ 281474976710656) (hm : m ≤ 9223372036854775807) (hd : dOk n dst = true) (hx : ∃ k, ev fr x = some (.int k (m : Int))) (hy : ∃ k, ev fr y = some (.int k (m : Int)))
    (h : ∀ g, K (frPut dst (.slice (some ⟨g, 0, none⟩) m m) fr) (.sl (.slice (some ⟨g, 0, none⟩) m m) 1 m (List.replicate m z) :: H)) : TO P w0 B n ⟨dst, .makeSlice t x y, ty, pos, aft, gd⟩ K fr H := by
  intro HX a w Q hf hr
  obtain ⟨i, hi, hz⟩ := Option.map_eq_some_iff.1 hz
  simp only [Prod.mk.injEq] at hz
  obtain ⟨kx, hx⟩ := hx
  obtain ⟨ky, hy⟩ := hy
  have w64 : IntKind.i64.wrap (m : Int) = (m : Int) := by rw [IntKind.wrap_i64]; omega
  have hrun : (Instr.makeSlice t (.int kx (m : Int)) (.int ky (m : Int))).run P w = .ok (.slice (some ⟨w.heap.size, 0, none⟩) m m) (w.alloc (.cells ((Array.range m).map fun i => (#[z] : Array Value)[i % (#[z] : Array Value).size]!) e)) := by
    have b2 : ¬ ((bytes : Int) * (m : Int) > 2 ^ 48) := by
      have : ((m * bytes : Nat) : Int) ≤ ((281474976710656 : Nat) : Int) := Int.ofNat_le.2 hb
      rw [Int.natCast_mul] at this
      rw [Int.mul_comm] at this
      omega
    simp only [Instr.makeSlice, Sem.run_bind, run_underlying ht, Result.andThen_ok, asInt, asIntOf, Sem.run_pure, typeInfo, run_program, hi, hz.2.2, w64, sizeOf, hz.2.1, zeroValue, hz.1, hz1]
    have c1 : (decide ((m : Int) < 0) || decide ((bytes : Int) * (m : Int) > 2 ^ 48) || decide ((m : Int) < 0) || decide ((m : Int) > (m : Int))) = false := by
      rw [decide_eq_false (show ¬ ((m : Int) < 0) by omega), decide_eq_false b2, decide_eq_false (show ¬ ((m : Int) > (m : Int)) by omega)]
      rfl
    rw [c1]
    simp only [Bool.false_eq_true, if_false, Sem.run_bind, run_askRoom, Result.andThen_ok, Int.toNat_natCast, Nat.mul_one]
    by_cases h0 : m = 0
    · subst h0
      simp [newRow, hi]
      congr 2
      apply Array.ext
      · simp
      · intro i h1 h2; simp at h1
    · simp [h0, hi, hz.1, hz.2.1, hz1, newRow]
  simp only [Oper.wp, execOp, hf.ev hx, hf.ev hy]
  rw [Sem.run_bind, hrun]
  simp only [Result.andThen_ok, Sem.run_pure, Oper.upon]
  have h2 := hr.alloc0 ((Array.range m).map fun i => (#[z] : Array Value)[i % (#[z] : Array Value).size]!).toList e
  rw [madeCells_one, List.length_replicate] at h2
  have e2 : ((Array.range m).map fun i => (#[z] : Array Value)[i % (#[z] : Array Value).size]!) = (List.replicate m z).toArray := by
    rw [← madeCells_one z m, Array.toArray_toList]
  rw [e2]
  refine ⟨_, _, h w.heap.size, hf.put hd _, Rep.ownSl (es := 1) (c := m) ?_ (by simp) (Nat.le_refl _)⟩
  rw [Nat.mul_one]
  exact h2
/-- what a slice of m elements of es cells each shows -/
def Shows (W : World → Prop) (A : Option Addr) (m es : Nat) (ys : List Value) : Prop := ∀ w, W w → ys.length = m * es ∧ ∀ j v, ys[j]? = some v → ∃ p, A = some p ∧ w.cell? (p.add j) = some v
theorem Shows.mono {W' : World → Prop} {A : Option Addr} {m es : Nat} {ys : List Value} (h : Shows W A m es ys) (hw : ∀ w, W' w → W w) : Shows W' A m es ys := fun w hw' => h w (hw w hw')
theorem Shows.nil {es : Nat} : Shows W none 0 es [] := fun w _ => ⟨by simp, fun j v h => by simp at h⟩
theorem Shows.run {A : Option Addr} {m es : Nat} {ys : List Value} (h : Shows W A m es ys) (hn : ys ≠ []) {w : World} (hw : W w) : ∃ p, A = some p ∧ ∀ j v, ys[j]? = some v → w.cell? (p.add j) = some v := by
  cases ys with
  | nil => exact absurd rfl hn
  | cons y ys =>
    obtain ⟨p, rfl, _⟩ := (h w hw).2 0 y rfl
    refine ⟨p, rfl, fun j v hj => ?_⟩
    obtain ⟨p', e, hr⟩ := (h w hw).2 j v hj
    cases e
    exact hr
theorem Shows.of {p : Addr} {m es : Nat} {ys : List Value} (hl : ys.length = m * es) (h : Rds W p ys) : Shows W (some p) m es ys := fun w hw => ⟨hl, fun j v hj => ⟨p, rfl, h j v hj w hw⟩⟩
theorem Shows.at {H : List Chunk} {A : Option Addr} {m c es : Nat} {cs : List Value} (i : Nat) (hi : H[i]? = some (.sl (.slice A m c) es m cs)) : Shows (WH w0 B H) A m es cs := fun w ⟨HX, hr⟩ => by
  have hok := hr.ok _ (List.mem_append_left _ (List.mem_of_getElem? hi))
  refine ⟨hok.1, fun j v hj => ?_⟩
  rcases hok.2 with ⟨h, h0⟩ | ⟨g, c', h1, h2, ho⟩
  · have : cs = [] := List.eq_nil_of_length_eq_zero (by rw [hok.1, h0, Nat.zero_mul])
    subst this; simp at hj
  · cases h1
    refine ⟨_, rfl, ?_⟩
    rw [add_plain', Nat.zero_add]
    exact ho.cell hj
/-- append(v, ys..) of a slice that owns its row, or is nil -/
theorem TO_append {t e : TypeId} {s x : Operand} {es bytes m k c' : Nat} {z : Value} {v : Value} {A : Option Addr} {cs ys : List Value} {K : Fr → List Chunk → Prop} {H : List Chunk} (i : Nat) (hi : H[i]? = some (.sl v es m cs)) (ht : P.underlying t = some (.slice e)) (hz : (P.info? e).map (fun i => (i.zero, i.size, i.bytes)) = some (some z, es, bytes)) (hzs : z.cells.size = es) (hes : 0 < es) (hd : dOk n dst = true)
    (hs : ev fr s = some v) (hx : ev fr x = some (.slice A k c')) (hy : Shows (WH w0 B H) A k es ys) (h1 : ∀ u ∈ ys, u.oneCell' = true) (hb : (m + k) * bytes ≤ 140737488355328) (hb2 : m + k ≤ 9223372036854775807)
    (h : ∀ A' c', m + k ≤ c' → K (frPut dst (.slice A' (m + k) c') fr) (H.set i (.sl (.slice A' (m + k) c') es (m + k) (cs ++ ys)))) : TO P w0 B n ⟨dst, .call { callee := .builtin .append, args := #[s, x], argTypes := #[t, t] }, ty, pos, aft, gd⟩ K fr H := by
  intro HX a w Q hf hr
  obtain ⟨inf, hinf, hz⟩ := Option.map_eq_some_iff.1 hz
  simp only [Prod.mk.injEq] at hz
  obtain ⟨hz0, hz1, hz2⟩ := hz
  have hl' : i < H.length := (List.getElem?_eq_some_iff.1 hi).1
  have hp : (H ++ HX).Perm (.sl v es m cs :: (H.eraseIdx i ++ HX)) := (perm_pick hi).append_right HX
  have hr1 := hr.perm hp
  have hl : ys.length = k * es := (hy w ⟨HX, hr⟩).1
  have hok := hr1.ok _ List.mem_cons_self
  have hcl : cs.length = m * es := hok.1
  have done : ∀ v' w', (Builtin.append_ #[t, t] ty #[v, .slice A k c']).run P w = .ok v' w' → (∃ A' c', v' = .slice A' (m + k) c' ∧ m + k ≤ c') → Rep w0 B (.sl v' es (m + k) (cs ++ ys) :: (H.eraseIdx i ++ HX)) w' →
      Oper.wp P ⟨dst, .call { callee := .builtin .append, args := #[s, x], argTypes := #[t, t] }, ty, pos, aft, gd⟩ a w (fun a' w' => ∃ fr' H', K fr' H' ∧ FrOk n fr' a' ∧ Rep w0 B (H' ++ HX) w') Q := by
    rintro v' w' hrun ⟨A', c'', rfl, hmk⟩ hr'
    unfold Oper.wp execOp
    simp only [resolve, invoke, builtin, Sem.run_bind, Sem.run_pure, Result.andThen_ok, List.map_toArray, List.map_cons, List.map_nil, hf.ev hs, hf.ev hx, hrun]
    simp only [Oper.upon]
    exact ⟨_, _, h A' c'' hmk, hf.put hd _, hr'.perm ((perm_set _ hl').append_right HX)⟩
  have hlen : (cs ++ ys).length = (m + k) * es := by rw [List.length_append, hcl, hl, Nat.add_mul]
  by_cases hk : k = 0
  · subst hk
    have hy0 : ys = [] := List.eq_nil_of_length_eq_zero (by simpa using hl)
    subst hy0
    refine done v w ?_ (by
      rcases hok.2 with ⟨rfl, rfl⟩ | ⟨g, c, rfl, hmc, ho⟩
      · exact ⟨_, _, rfl, Nat.le_refl _⟩
      · exact ⟨_, _, rfl, hmc⟩) (by simpa using hr1)
    rcases hok.2 with ⟨rfl, rfl⟩ | ⟨g, c, rfl, hmc, ho⟩
    · cases A <;> simp [Builtin.append_, run_underlying ht, sizeOf, typeInfo, hinf, Builtin.lenOf, Builtin.firstCells, loadCells, loadCellsFrom]
    · cases A <;> simp [Builtin.append_, run_underlying ht, sizeOf, typeInfo, hinf, Builtin.lenOf, Builtin.firstCells, hmc, loadCells, loadCellsFrom, storeCells]
  · have hyn : ys ≠ [] := by
      intro e
      subst e
      have : k * es = 0 := by simpa using hl.symm
      rcases Nat.mul_eq_zero.1 this with h' | h' <;> omega
    obtain ⟨p, rfl, hcells⟩ := hy.run hyn ⟨HX, hr⟩
    have mk : ∀ (cap : Nat), m + k ≤ cap → Rep w0 B (.sl (.slice (some ⟨w.heap.size, 0, none⟩) (m + k) cap) es (m + k) (cs ++ ys) :: (H.eraseIdx i ++ HX)) (w.drew.alloc (.cells (cs.toArray ++ ys.toArray ++ Builtin.zeroCells z.cells (cap - (m + k))) e)) := by
      intro cap hcap
      have hr3 : Rep w0 B (H.eraseIdx i ++ HX) w.drew := (hr1.sub (List.sublist_cons_self _ _)).drew
      refine hr3.cons (below_alloc' _ _) ⟨hlen, .inr ⟨_, _, rfl, hcap, ⟨(Builtin.zeroCells z.cells (cap - (m + k))).toList, e, (0, 0), ?_, ?_, .inr rfl⟩⟩⟩ (fun k hk => by cases hk; exact Nat.le_refl _)
      · show (w.drew.alloc _).heap[w.drew.heap.size]? = _
        rw [heap_alloc_new]
        congr 1
        simp
      · rw [hlen, Array.length_toList, size_zeroCells, hzs, ← Nat.add_mul]
        congr 1
        omega
    rcases hok.2 with ⟨rfl, rfl⟩ | ⟨g, c, rfl, hmc, ho⟩
    · have hc0 : cs = [] := List.eq_nil_of_length_eq_zero (by simpa using hcl)
      subst hc0
      have hr2 := run_append_nil (P := P) w t ty e inf z ht hinf hz0 p k c' ys (by rw [hl, hz1]) hcells (by omega) (by omega) (by rw [hz2]; simp only [Nat.zero_add] at hb; omega)
      have hm := mk (grownCap w k 0 e) (by rw [Nat.zero_add]; exact grownCap_ge w k 0 e)
      refine done _ _ hr2 ⟨_, _, by rw [Nat.zero_add], by rw [Nat.zero_add]; exact grownCap_ge w k 0 e⟩ ?_
      simpa using hm
    · by_cases hroom : m + k ≤ c
      · have hfit : (cs ++ ys).length ≤ c * es := by rw [hlen]; exact Nat.mul_le_mul_right _ hroom
        -- in place
        have key : ∀ (zs done' : List Value) (w1 : World), ys = done' ++ zs → OwnOk w1 g (c * es) (cs ++ done') → (∀ u ∈ zs, u.oneCell' = true) →
            ∃ w', (storeCells ⟨g, m * es, none⟩ zs done'.length).run P w1 = .ok () w' ∧ OwnOk w' g (c * es) (cs ++ ys) ∧ w'.os = w1.os ∧ w'.tape = w1.tape ∧ w'.output = w1.output ∧ w'.heap.size = w1.heap.size ∧ ∀ k, k ≠ g → w'.heap[k]? = w1.heap[k]? := by
          intro zs
          induction zs with
          | nil =>
            intro done' w1 he ho1 _
            rw [List.append_nil] at he
            subst he
            exact ⟨w1, rfl, ho1, rfl, rfl, rfl, rfl, fun _ _ => rfl⟩
          | cons u zs ih =>
            intro done' w1 he ho1 hu
            have hlt : (cs ++ done').length < c * es := by
              rw [he] at hfit
              simp only [List.length_append, List.length_cons] at hfit ⊢
              omega
            obtain ⟨x0, hx0⟩ := ho1.there hlt
            have hfz := ho1.free hlt
            have hpos : (cs ++ done').length = m * es + done'.length := by rw [List.length_append, hcl]
            rw [hpos] at hx0 hfz
            have ho2 := ho1.push u hlt
            rw [hpos, List.append_assoc] at ho2
            obtain ⟨w', hrun, g1, g2, g3, g4, g5, g6⟩ := ih (done' ++ [u]) _ (by rw [he]; simp) ho2 (fun y hy => hu y (List.mem_cons_of_mem _ hy))
            refine ⟨w', ?_, g1, g2, g3, g4, by rw [g5]; simp [World.setCell], fun k hk => (g6 k hk).trans (Below.heap_setCell _ _ _ _ hk)⟩
            simp only [storeCells, Sem.run_bind, add_plain']
            rw [run_store _ _ _ _ _ (hu u List.mem_cons_self)]
            simp only [hx0, hfz, Bool.false_eq_true, if_false, Result.andThen_ok]
            rw [show done'.length + 1 = (done' ++ [u]).length by simp]
            exact hrun
        obtain ⟨w', hrun, g1, g2, g3, g4, g5, g6⟩ := key ys [] w rfl (by simpa using ho) h1
        have hfc := run_firstCells_some (P := P) w es k p k c' ys hl hcells
        refine done (.slice (some ⟨g, 0, none⟩) (m + k) c) w' ?_ ⟨_, _, rfl, hroom⟩ (hr1.turn rfl rfl ⟨g2, g3, g4, by omega, fun k hk => g6 k (by have := hr1.ge _ List.mem_cons_self g rfl; omega)⟩ (fun k hk _ => g6 k hk) ⟨hlen, .inr ⟨g, c, rfl, hroom, g1⟩⟩)
        have e0 : (⟨g, 0, none⟩ : Addr).add (m * es) = ⟨g, m * es, none⟩ := by rw [add_plain', Nat.zero_add]
        simp only [List.length_nil] at hrun
        simp [Builtin.append_, run_underlying ht, sizeOf, typeInfo, hinf, hz1, Builtin.lenOf, hroom, hfc, e0, hrun]
      · have holds : ∀ j u, cs[j]? = some u → w.cell? ((⟨g, 0, none⟩ : Addr).add j) = some u := fun j u hj => by
          rw [add_plain', Nat.zero_add]
          exact ho.cell hj
        have hr2 := run_append_grow (P := P) w t ty e inf z ht hinf hz0 ⟨g, 0, none⟩ m c cs (by rw [hcl, hz1]) holds p k c' ys (by rw [hl, hz1]) hcells (by omega) (by omega) (growslice_fits (by omega) (by rw [hz2]; exact hb))
        exact done _ _ hr2 ⟨_, _, rfl, grownCap_ge w (m + k) c e⟩ (mk (grownCap w (m + k) c e) (grownCap_ge w (m + k) c e))
/-- a nil slice may be looked at as a piece -/
theorem Rep.addNil {H : List Chunk} {w : World} (h : Rep w0 B H w) (es : Nat) : Rep w0 B (.sl (.slice none 0 0) es 0 [] :: H) w :=
  h.cons (Below.refl _ _) ⟨by simp, .inl ⟨rfl, rfl⟩⟩ (fun k hk => by cases hk)
theorem TO_addNil {o : Oper} {K : Fr → List Chunk → Prop} {H : List Chunk} (es : Nat) (h : TO P w0 B n o K fr (.sl (.slice none 0 0) es 0 [] :: H)) : TO P w0 B n o K fr H :=
  fun HX a w Q hf hr => h HX a w Q hf (hr.addNil es)
theorem WH.addNil {H : List Chunk} {w : World} (es : Nat) (h : WH w0 B (.sl (.slice none 0 0) es 0 [] :: H) w) : WH w0 B H w := by
  obtain ⟨HX, hr⟩ := h
  exact ⟨HX, hr.sub (List.sublist_cons_self _ _)⟩
/-- append([]T(nil), ys..) -/
theorem TO_appendNil {t e : TypeId} {s x : Operand} {es bytes k c' : Nat} {z : Value} {A : Option Addr} {ys : List Value} {K : Fr → List Chunk → Prop} {H : List Chunk} (ht : P.underlying t = some (.slice e)) (hz : (P.info? e).map (fun i => (i.zero, i.size, i.bytes)) = some (some z, es, bytes)) (hzs : z.cells.size = es) (hes : 0 < es) (hd : dOk n dst = true)
    (hs : ev fr s = some (.slice none 0 0)) (hx : ev fr x = some (.slice A k c')) (hy : Shows (WH w0 B H) A k es ys) (h1 : ∀ u ∈ ys, u.oneCell' = true) (hb : k * bytes ≤ 140737488355328) (hb2 : k ≤ 9223372036854775807)
    (h : ∀ A' c', k ≤ c' → K (frPut dst (.slice A' k c') fr) (.sl (.slice A' k c') es k ys :: H)) : TO P w0 B n ⟨dst, .call { callee := .builtin .append, args := #[s, x], argTypes := #[t, t] }, ty, pos, aft, gd⟩ K fr H := by
  refine TO_addNil es (TO_append (m := 0) (cs := []) 0 rfl ht hz hzs hes hd hs hx (hy.mono fun w => WH.addNil es) h1 (by rw [Nat.zero_add]; exact hb) (by omega) fun A' c' hc' => ?_)
  simp only [List.set_cons_zero, Nat.zero_add, List.nil_append]
  exact h A' c' (by omega)
/-- a slice of bytes turned into a string -/
theorem PV_b2s {src d e : TypeId} {x : Operand} {A : Option Addr} {m c : Nat} {xs : List Int} (hs : P.underlying src = some (.slice e)) (he : P.underlying e = some (.int .u8)) (hd : P.underlying d = some .string) (hx : ev fr x = some (.slice A m c)) (hy : Shows W A m 1 (xs.map (.int .u8))) : PV P n W fr ⟨dst, .convert src d x, ty, pos, aft, gd⟩ (.string (strOfNums xs)) := fun a w hf hw => by
  have hl : xs.length = m := by simpa using (hy w hw).1
  simp only [execOp, hf.ev hx, Sem.run_bind]
  by_cases h0 : xs = []
  · subst h0
    simp only [List.length_nil] at hl
    subst hl
    cases A with
    | none => rw [run_convert_bytes_nil w src e hs he 0 c d hd]; rfl
    | some p =>
      have : (convert src d (.slice (some p) 0 c)).run P w = .ok (.string (strOfNums [])) w := by
        simp [convert, run_underlying hs, run_underlying hd, run_underlying he, Conv.bytesToString, loadCells, loadCellsFrom]
        rfl
      rw [this]; rfl
  · obtain ⟨p, rfl, hc⟩ := hy.run (by simpa using h0) hw
    have hp : p.spot = none := by
      have h1 := hc 0 (.int .u8 (xs.getD 0 0)) (by cases xs with | nil => exact absurd rfl h0 | cons y ys => rfl)
      simp only [Addr.add, if_true, World.cell?] at h1
      split at h1
      · cases hsp : p.spot with
        | none => rfl
        | some q => simp [hsp] at h1
      · cases h1
    obtain ⟨g, off, sp⟩ := p
    simp only at hp
    subst hp
    rw [run_convert_bytes_arg w src e hs he g off m c xs hl (fun i hi => ?_) d hd]
    · rfl
    · have := hc i (.int .u8 (xs.getD i 0)) (by simp [List.getElem?_eq_getElem (show i < xs.length by omega), List.getD_eq_getElem?_getD])
      rwa [add_plain'] at this
/-- a string turned into a slice of bytes -/
def strCells (s : ByteArray) : List Value := s.data.toList.map fun b => .int .u8 (b.toNat : Int)
theorem strCells_len (s : ByteArray) : (strCells s).length = s.size := by
  unfold strCells ByteArray.size
  rw [List.length_map, Array.length_toList]
theorem TO_s2b {src d e : TypeId} {x : Operand} {s : ByteArray} {K : Fr → List Chunk → Prop} {H : List Chunk} (hs : P.underlying src = some .string) (hd' : P.underlying d = some (.slice e)) (he : P.underlying e = some (.int .u8)) (hd : dOk n dst = true) (hx : ev fr x = some (.string s))
    (h : ∀ g c, s.size ≤ c → K (frPut dst (.slice (some ⟨g, 0, none⟩) s.size c) fr) (.sl (.slice (some ⟨g, 0, none⟩) s.size c) 1 s.size (strCells s) :: H)) : TO P w0 B n ⟨dst, .convert src d x, ty, pos, aft, gd⟩ K fr H := by
  intro HX a w Q hf hr
  obtain ⟨cap, hcap, hrun⟩ : ∃ cap, s.size ≤ cap ∧ (convert src d (.string s)).run P w = .ok (.slice (some ⟨w.heap.size, 0, none⟩) s.size cap) (w.drew.alloc (.cells (strCells s ++ List.replicate (cap - s.size) (Value.int .u8 0)).toArray e (cap, cap + 1))) := by
    refine ⟨(Question.appendCap s.size 0 e).cut (w.tape w.drawn (Question.appendCap s.size 0 e)), Nat.le_add_right _ _, ?_⟩
    have hge : s.size ≤ (Question.appendCap s.size 0 e).cut (w.tape w.drawn (Question.appendCap s.size 0 e)) := Nat.le_add_right _ _
    generalize hq : (Question.appendCap s.size 0 e).cut (w.tape w.drawn (Question.appendCap s.size 0 e)) = cap at *
    have hsz : (s.data.map fun b => Value.int .u8 (b.toNat : Int)).size + (cap - s.size) = cap := by
      simp only [Array.size_map]
      show s.size + (cap - s.size) = cap
      omega
    have hf0 : Question.forced (.appendCap s.size 0 e) = false := rfl
    simp only [convert, Sem.run_bind, run_underlying hs, run_underlying hd', run_underlying he, Result.andThen_ok, Conv.stringToBytes, run_choose, hf0, Bool.false_eq_true, if_false, hq, newRow, run_newObj, Sem.run_pure, markStringish, run_shape, World.drew_eq, World.alloc_eq]
    have hsh : (w.drew.alloc (.cells ((s.data.map fun b => Value.int .u8 (b.toNat : Int)) ++ Array.replicate (cap - s.size) (.int .u8 0)) e)).shape? w.heap.size = some (e, cap) := by
      unfold World.shape?
      rw [show w.heap.size = w.drew.heap.size from rfl, heap_alloc_new]
      simp only [Array.size_append, Array.size_replicate, hsz]
    have hdh : w.drew.heap.size = w.heap.size := rfl
    simp only [hdh, hsh, run_freeze, Result.andThen_ok]
    congr 1
    unfold World.freeze
    simp only [Nat.succ_ne_zero, if_false]
    show ({ os := _, heap := ((w.heap.push _).modify w.heap.size _), tape := _, drawn := _, output := _ } : World) = _
    have : ∀ (o : Obj) (f : Obj → Obj), (w.heap.push o).modify w.heap.size f = w.heap.push (f o) := by
      intro o f
      apply Array.ext
      · simp
      · intro i h1 h2
        simp only [Array.getElem_modify, Array.getElem_push]
        by_cases hi : i < w.heap.size
        · have : ¬ w.heap.size = i := by omega
          simp [hi, this]
        · have : w.heap.size = i := by simp at h2; omega
          simp [this]
    rw [this]
    simp only [strCells, beq_self_eq_true, if_true]
    unfold World.alloc World.drew
    simp only [← List.append_toArray, ← List.map_toArray, Array.toArray_toList, List.toArray_replicate]
  simp only [Oper.wp, execOp, hf.ev hx]
  rw [Sem.run_bind, hrun]
  simp only [Result.andThen_ok, Sem.run_pure, Oper.upon]
  refine ⟨_, _, h w.heap.size cap hcap, hf.put hd _, hr.drew.cons (below_alloc' _ _) ⟨by rw [strCells_len, Nat.mul_one], .inr ⟨_, _, rfl, hcap, ⟨_, e, (cap, cap + 1), heap_alloc_new w.drew _, ?_, .inl ?_⟩⟩⟩ (fun k hk => by cases hk; exact Nat.le_refl _)⟩
  · rw [strCells_len, List.length_replicate]; omega
  · show cap * 1 ≤ cap; omega
end more
section drawn
variable {P : Program} {w0 : World} {B n : Nat} {Q : Exit → Fr → List Chunk → Prop} {fr : Fr} {H : List Chunk} {ops : Array Oper} {S : World → Prop} {k : Nat} {listed : Array Bool}
/-- a region that draws its order, on its way: S holds behind each operation -/
def TA (P : Program) (w0 : World) (B n : Nat) (ops : Array Oper) (S : World → Prop) (k : Nat) (listed : Array Bool) (Q : Exit → Fr → List Chunk → Prop) (fr : Fr) (H : List Chunk) : Prop :=
  ∀ HX a w, FrOk n fr a → Rep w0 B (H ++ HX) w → S w → wpAnyH P .any ops (Post w0 B n Q HX) S k listed a w
theorem T_drawn {id : Nat} {l : List Oper} (S : World → Prop) (hm : P.follows .mixedOrders = true) (hS : ∀ w, WH w0 B H w → S w) (h : TA P w0 B n l.toArray S l.toArray.size (Array.replicate l.toArray.size false) Q fr H) : T P w0 B n (.region id l.toArray true) Q fr H :=
  fun HX a w hf hr => wp_region_held hm (h HX a _ hf hr.drew (hS _ ⟨HX, hr.drew⟩))
theorem panicQ {HX : List Chunk} {d : Option Tmp} {v : Value} : ∀ c a w, Post w0 B n Q HX (.panic c) (a.put d v) w → Post w0 B n Q HX (.panic c) a w := fun c a w h => by
  have h1 : fine (.panic c) = true := h.1
  cases h1
theorem TA_take (i : Nat) {o : Oper} {v : Value} (hi : ops[i]? = some o) (hs : Region.noSelect ops = true) (hf' : Region.free .any ops listed i = true) (hr' : (Region.ready .any ops listed).contains i = true) (hg : o.guard = none) {dd : Option Tmp} (hdd : o.dst = dd) (hd : dOk n dd = true) (hp : PV P n S fr o v)
    (h : TA P w0 B n ops S k (listed.setIfInBounds i true) Q (frPut dd v fr) H) : TA P w0 B n ops S (k + 1) listed Q fr H := by
  subst hdd
  intro HX a w hf hr hS
  refine wpAnyH_take hi hs hf' hr' panicQ (.inl ⟨by simp [Region.wanted, hg], fun w hw => hp a w hf hw⟩) hS (h HX _ w (hf.put hd v) hr hS)
theorem TA_yes (i : Nat) {o : Oper} {v : Value} {j d : Nat} {b : Bool} (hi : ops[i]? = some o) (hs : Region.noSelect ops = true) (hf' : Region.free .any ops listed i = true) (hr' : (Region.ready .any ops listed).contains i = true) (hg : o.guard = some (j, b)) (hj : (ops[j]?).bind (·.dst) = some d) (hdj : fr.lookup d = some (.bool b)) {dd : Option Tmp} (hdd : o.dst = dd) (hd : dOk n dd = true) (hp : PV P n S fr o v)
    (h : TA P w0 B n ops S k (listed.setIfInBounds i true) Q (frPut dd v fr) H) : TA P w0 B n ops S (k + 1) listed Q fr H := by
  subst hdd
  intro HX a w hf hr hS
  refine wpAnyH_take hi hs hf' hr' panicQ (.inl ⟨by simp [Region.wanted, hg, yielded_of hf hj hdj], fun w hw => hp a w hf hw⟩) hS (h HX _ w (hf.put hd v) hr hS)
theorem TA_no (i : Nat) {o : Oper} {j d : Nat} {b : Bool} (hi : ops[i]? = some o) (hs : Region.noSelect ops = true) (hf' : Region.free .any ops listed i = true) (hr' : (Region.ready .any ops listed).contains i = true) (hg : o.guard = some (j, !b)) (hj : (ops[j]?).bind (·.dst) = some d) (hdj : fr.lookup d = some (.bool b)) {dd : Option Tmp} (hdd : o.dst = dd) (hd : dOk n dd = true)
    (h : TA P w0 B n ops S k (listed.setIfInBounds i true) Q (frPut dd undef fr) H) : TA P w0 B n ops S (k + 1) listed Q fr H := by
  subst hdd
  intro HX a w hf hr hS
  refine wpAnyH_take (v := undef) hi hs hf' hr' panicQ (.inr ⟨by simp [Region.wanted, hg, yielded_of hf hj hdj], rfl⟩) hS (h HX _ w (hf.put hd undef) hr hS)
theorem TA_hard {rs : List Nat} (hr' : Region.ready .any ops listed = rs) (hne : rs ≠ []) (h : ∀ i ∈ rs, ∃ o, ops[i]? = some o ∧ o.guard = none ∧ TO P w0 B n o (fun f h => (∀ w, WH w0 B h w → S w) ∧ TA P w0 B n ops S k (listed.setIfInBounds i true) Q f h) fr H) : TA P w0 B n ops S (k + 1) listed Q fr H := by
  intro HX a w hf hr hS
  refine wpAnyH_all hr' hne fun i hi => ?_
  obtain ⟨o, ho, hg, ht⟩ := h i hi
  unfold wpOp
  simp only [ho, Region.wanted, hg, if_true]
  refine .inl (Oper.wp_mono ?_ (ht HX a w _ hf hr))
  rintro a' w' ⟨f, h', ⟨hS', ht'⟩, hf', hr''⟩
  exact ⟨hS' _ ⟨HX, hr''⟩, ht' HX a' w' hf' hr'' (hS' _ ⟨HX, hr''⟩)⟩
theorem TA_one (i : Nat) {o : Oper} (hr' : Region.ready .any ops listed = [i]) (ho : ops[i]? = some o) (hg : o.guard = none) (h : TO P w0 B n o (fun f h => (∀ w, WH w0 B h w → S w) ∧ TA P w0 B n ops S k (listed.setIfInBounds i true) Q f h) fr H) : TA P w0 B n ops S (k + 1) listed Q fr H :=
  TA_hard hr' (by simp) fun j hj => by
    rw [List.mem_singleton] at hj
    subst hj
    exact ⟨o, ho, hg, h⟩
/-- the only one that may come up, and it only looks: by what is known of the pieces now -/
theorem TA_pure1 (i : Nat) {o : Oper} {v : Value} (hr' : Region.ready .any ops listed = [i]) (ho : ops[i]? = some o) (hg : o.guard = none) {dd : Option Tmp} (hdd : o.dst = dd) (hd : dOk n dd = true) (hp : PV P n (WH w0 B H) fr o v) (h : TA P w0 B n ops S k (listed.setIfInBounds i true) Q (frPut dd v fr) H) : TA P w0 B n ops S (k + 1) listed Q fr H := by
  subst hdd
  intro HX a w hf hr hS
  refine wpAnyH_all hr' (by simp) fun i' hi => ?_
  rw [List.mem_singleton] at hi
  subst hi
  unfold wpOp
  simp only [ho, Region.wanted, hg, if_true, Oper.wp, hp a w hf ⟨HX, hr⟩, Oper.upon]
  exact .inl ⟨hS, h HX _ w (hf.put hd v) hr hS⟩
theorem TA_done (hr' : Region.ready .any ops listed = []) (h : Q .normal fr H) : TA P w0 B n ops S k listed Q fr H := by
  intro HX a w hf hr hS
  exact wpAnyH_done hr' ⟨rfl, fr, H, h, hf, hr⟩ k
theorem WH.sub {H' : List Chunk} {w : World} (h : WH w0 B H w) (s : H'.Sublist H) : WH w0 B H' w := by
  obtain ⟨HX, hr⟩ := h
  exact ⟨HX, hr.sub (s.append_right HX)⟩
theorem WH.perm {H' : List Chunk} {w : World} (h : WH w0 B H w) (s : H.Perm H') : WH w0 B H' w := by
  obtain ⟨HX, hr⟩ := h
  exact ⟨HX, hr.perm (s.append_right HX)⟩
/-- a guarded hard operation that runs -/
theorem TA_oneYes (i : Nat) {o : Oper} {j d : Nat} {b : Bool} (hr' : Region.ready .any ops listed = [i]) (ho : ops[i]? = some o) (hg : o.guard = some (j, b)) (hj : (ops[j]?).bind (·.dst) = some d) (hdj : fr.lookup d = some (.bool b)) (h : TO P w0 B n o (fun f h => (∀ w, WH w0 B h w → S w) ∧ TA P w0 B n ops S k (listed.setIfInBounds i true) Q f h) fr H) : TA P w0 B n ops S (k + 1) listed Q fr H := by
  intro HX a w hf hr hS
  refine wpAnyH_all hr' (by simp) fun i' hi => ?_
  rw [List.mem_singleton] at hi
  subst hi
  unfold wpOp
  have hw : Region.wanted o (yielded ops a.tmps) = true := by simp [Region.wanted, hg, yielded_of hf hj hdj]
  simp only [ho, hw, if_true]
  refine .inl (Oper.wp_mono ?_ (h HX a w _ hf hr))
  rintro a' w' ⟨f, h', ⟨hS', ht'⟩, hf', hr''⟩
  exact ⟨hS' _ ⟨HX, hr''⟩, ht' HX a' w' hf' hr'' (hS' _ ⟨HX, hr''⟩)⟩
end drawn
section cmp
variable {P : Program} {w0 : World} {B n : Nat} {W : World → Prop} {fr : Fr} {xt : TypeId} {x y : Operand}
theorem run_binEq {a b : Value} {r : Bool} {op : BinOp} {v : Value} (w : World) (ho : (op = .eql ∧ v = .bool r ∧ ∀ t, binOp .eql t a b = (do pure (.bool (← Op.equal t a b)))) ∨ (op = .neq ∧ v = .bool (!r) ∧ ∀ t, binOp .neq t a b = (do pure (.bool (!(← Op.equal t a b)))))) (hg : eqGuard op xt x y a b = pure ()) (he : ∀ d, (Op.equalIn (d + 2) xt a b).run P w = .ok r w) : ((do eqGuard op xt x y a b; binOp op xt a b) : Sem Value).run P w = .ok v w := by
  have h1 : (Op.equal xt a b).run P w = .ok r w := he 9998
  rcases ho with ⟨rfl, rfl, hb⟩ | ⟨rfl, rfl, hb⟩
  · rw [hg, hb, Sem.run_bind, Sem.run_pure, Result.andThen_ok, Sem.run_bind, h1]; rfl
  · rw [hg, hb, Sem.run_bind, Sem.run_pure, Result.andThen_ok, Sem.run_bind, h1]; rfl
theorem bin_ptr_nil {e : TypeId} {p : Addr} (h : P.underlying xt = some (.pointer e)) : BinR P .eql xt x y (.pointer (some p)) (.pointer none) (.bool false) := fun w =>
  run_binEq w (.inl ⟨rfl, rfl, fun _ => rfl⟩) (eqGuard_at_pointer ..) fun d => by simp [Op.equalIn, run_underlying h]
theorem bin_ptr_nnil {e : TypeId} {p : Addr} (h : P.underlying xt = some (.pointer e)) : BinR P .neq xt x y (.pointer (some p)) (.pointer none) (.bool true) := fun w =>
  run_binEq (r := false) w (.inr ⟨rfl, rfl, fun _ => rfl⟩) (eqGuard_at_pointer ..) fun d => by simp [Op.equalIn, run_underlying h]
theorem bin_nilptr_nil {e : TypeId} (h : P.underlying xt = some (.pointer e)) : BinR P .eql xt x y (.pointer none) (.pointer none) (.bool true) := fun w =>
  run_binEq w (.inl ⟨rfl, rfl, fun _ => rfl⟩) (eqGuard_at_pointer ..) fun d => by simp [Op.equalIn, run_underlying h]
theorem bin_nilptr_nnil {e : TypeId} (h : P.underlying xt = some (.pointer e)) : BinR P .neq xt x y (.pointer none) (.pointer none) (.bool false) := fun w =>
  run_binEq (r := true) w (.inr ⟨rfl, rfl, fun _ => rfl⟩) (eqGuard_at_pointer ..) fun d => by simp [Op.equalIn, run_underlying h]
/-- an error against the literal nil -/
theorem bin_nil_nil {ms : Array (String × TypeId)} {c : Value} (h : P.underlying xt = some (.interface ms)) : BinR P .eql xt x (.const c) .nilIface .nilIface (.bool true) := fun w =>
  run_binEq w (.inl ⟨rfl, rfl, fun _ => rfl⟩) (eqGuard_nil_constR ..) fun d => by simp [Op.equalIn, run_underlying h]
theorem bin_nil_nnil {ms : Array (String × TypeId)} {c : Value} (h : P.underlying xt = some (.interface ms)) : BinR P .neq xt x (.const c) .nilIface .nilIface (.bool false) := fun w =>
  run_binEq (r := true) w (.inr ⟨rfl, rfl, fun _ => rfl⟩) (eqGuard_nil_constR ..) fun d => by simp [Op.equalIn, run_underlying h]
theorem bin_if_nil {ms : Array (String × TypeId)} {t : TypeId} {v : Value} (h : P.underlying xt = some (.interface ms)) : BinR P .eql xt x y (.iface t v) .nilIface (.bool false) := fun w =>
  run_binEq w (.inl ⟨rfl, rfl, fun _ => rfl⟩) (eqGuard_at_iface ..) fun d => by simp [Op.equalIn, run_underlying h]
theorem bin_if_nnil {ms : Array (String × TypeId)} {t : TypeId} {v : Value} (h : P.underlying xt = some (.interface ms)) : BinR P .neq xt x y (.iface t v) .nilIface (.bool true) := fun w =>
  run_binEq (r := false) w (.inr ⟨rfl, rfl, fun _ => rfl⟩) (eqGuard_at_iface ..) fun d => by simp [Op.equalIn, run_underlying h]
theorem bin_nil_if {ms : Array (String × TypeId)} {t : TypeId} {v : Value} (h : P.underlying xt = some (.interface ms)) : BinR P .eql xt x y .nilIface (.iface t v) (.bool false) := fun w =>
  run_binEq w (.inl ⟨rfl, rfl, fun _ => rfl⟩) (eqGuard_nil_iface ..) fun d => by simp [Op.equalIn, run_underlying h]
/-- two errors that are numbers of one type -/
theorem bin_if_if {ms : Array (String × TypeId)} {t : TypeId} {k : IntKind} {a b : Int} (h : P.underlying xt = some (.interface ms)) (ht : P.underlying t = some (.int k)) (hc : (P.info? t).map (·.comparable) = some true) : BinR P .eql xt x y (.iface t (.int k a)) (.iface t (.int k b)) (.bool (a == b)) := fun w => by
  obtain ⟨i, hi, hc⟩ := Option.map_eq_some_iff.1 hc
  exact run_binEq w (.inl ⟨rfl, rfl, fun _ => rfl⟩) (eqGuard_at_iface ..) fun d => by simp [Op.equalIn, run_underlying h, run_underlying ht, typeInfo, hi, hc]
end cmp
section values
theorem wr64 {z : Int} (h : -9223372036854775808 ≤ z ∧ z ≤ 9223372036854775807) : Value.int .i64 (IntKind.i64.wrap z) = .int .i64 z := by rw [IntKind.wrap_i64]; congr 1; omega
theorem wru8 {z : Int} (h : 0 ≤ z ∧ z ≤ 255) : Value.int .u8 (IntKind.u8.wrap z) = .int .u8 z := by rw [IntKind.wrap_u8]; congr 1; omega
theorem wru16 {z : Int} (h : 0 ≤ z ∧ z ≤ 65535) : Value.int .u16 (IntKind.u16.wrap z) = .int .u16 z := by
  have : IntKind.u16.wrap z = z % 65536 := by simp [IntKind.wrap, IntKind.bits, IntKind.signed]
  rw [this]; congr 1; omega
theorem wru32 {z : Int} (h : 0 ≤ z ∧ z ≤ 4294967295) : Value.int .u32 (IntKind.u32.wrap z) = .int .u32 z := by rw [IntKind.wrap_u32]; congr 1; omega
theorem wr64n {z : Int} (k : Nat) (h : z = (k : Int)) (hk : k ≤ 9223372036854775807) : Value.int .i64 (IntKind.i64.wrap z) = .int .i64 (k : Int) := by rw [IntKind.wrap_i64]; congr 1; omega
theorem nums_append (k : IntKind) (xs ys : List Int) : (xs ++ ys).map (Value.int k) = xs.map (Value.int k) ++ ys.map (Value.int k) := List.map_append
end values
section slcases
variable {P : Program} {w0 : World} {B n : Nat} {Q : Exit → Fr → List Chunk → Prop} {fr : Fr} {H : List Chunk}
/-- what is known of a piece that is a slice -/
theorem sl_cases {v : Value} {es m : Nat} {cs : List Value} {w : World} (h : WH w0 B H w) (hc : Chunk.sl v es m cs ∈ H) : cs.length = m * es ∧ ((v = .slice none 0 0 ∧ m = 0) ∨ ∃ g c, v = .slice (some ⟨g, 0, none⟩) m c ∧ m ≤ c) := by
  obtain ⟨HX, hr⟩ := h
  have hok := hr.ok _ (List.mem_append_left _ hc)
  refine ⟨hok.1, ?_⟩
  rcases hok.2 with h | ⟨g, c, h1, h2, _⟩
  · exact .inl h
  · exact .inr ⟨g, c, h1, h2⟩
theorem T_slA {c : Code} {A : Option Addr} {es m k : Nat} {cs : List Value} (i : Nat) (hi : H[i]? = some (.sl (.slice A m k) es m cs)) (hm : 0 < m) (h : ∀ g, A = some ⟨g, 0, none⟩ → T P w0 B n c Q fr H) : T P w0 B n c Q fr H :=
  fun HX a w hf hr => by
    obtain ⟨h1, h2⟩ := sl_cases ⟨HX, hr⟩ (List.mem_of_getElem? hi)
    rcases h2 with ⟨_, h3⟩ | ⟨g, c', h3, _⟩
    · omega
    · cases h3; exact h g rfl HX a w hf hr
theorem TL_slA {ops : Array Oper} {rest : List Oper} {A : Option Addr} {es m k : Nat} {cs : List Value} (i : Nat) (hi : H[i]? = some (.sl (.slice A m k) es m cs)) (hm : 0 < m) (h : ∀ g, A = some ⟨g, 0, none⟩ → TL P w0 B n ops rest Q fr H) : TL P w0 B n ops rest Q fr H :=
  fun HX a w hf hr => by
    obtain ⟨h1, h2⟩ := sl_cases ⟨HX, hr⟩ (List.mem_of_getElem? hi)
    rcases h2 with ⟨_, h3⟩ | ⟨g, c', h3, _⟩
    · omega
    · cases h3; exact h g rfl HX a w hf hr
/-- how long a piece is that is a slice -/
theorem T_slLen {c : Code} {v : Value} {es m : Nat} {cs : List Value} (i : Nat) (hi : H[i]? = some (.sl v es m cs)) (h : cs.length = m * es → T P w0 B n c Q fr H) : T P w0 B n c Q fr H :=
  fun HX a w hf hr => h (sl_cases ⟨HX, hr⟩ (List.mem_of_getElem? hi)).1 HX a w hf hr
/-- what such a slice shows -/
theorem sl_form {v : Value} {es m : Nat} {cs : List Value} {w : World} (h : WH w0 B H w) (hc : Chunk.sl v es m cs ∈ H) : ∃ A c, v = .slice A m c ∧ m ≤ c := by
  rcases (sl_cases h hc).2 with ⟨rfl, rfl⟩ | ⟨g, c, rfl, hm⟩
  · exact ⟨_, _, rfl, Nat.le_refl _⟩
  · exact ⟨_, _, rfl, hm⟩
end slcases
section extra
variable {P : Program} {w0 : World} {B n : Nat} {Q : Exit → Fr → List Chunk → Prop} {fr : Fr} {H : List Chunk} {W : World → Prop} {dst : Option Tmp} {ty : TypeId} {pos : String} {aft : Array Edge} {gd : Option (Nat × Bool)}
theorem T_then {c : Operand} {x y : Code} {b : Bool} (hc : ev fr c = some (.bool b)) (hb : b = true) (h : T P w0 B n x Q fr H) : T P w0 B n (.cond c x y) Q fr H :=
  T_cond hc (fun _ => h) (fun e => by rw [hb] at e; cases e)
theorem T_else {c : Operand} {x y : Code} {b : Bool} (hc : ev fr c = some (.bool b)) (hb : b = false) (h : T P w0 B n y Q fr H) : T P w0 B n (.cond c x y) Q fr H :=
  T_cond hc (fun e => by rw [hb] at e; cases e) (fun _ => h)
/-- k cells from (g, off) on -/
def RdsK (W : World → Prop) (g off k : Nat) (vs : List Value) : Prop := vs.length = k ∧ Rds W ⟨g, off, none⟩ vs
theorem Rds.take {g off k : Nat} {cs vs : List Value} (i : Nat) (hi : (H[i]?).bind Chunk.at = some (g, cs)) (hv : (cs.drop off).take k = vs) (hl : vs.length = k) : RdsK (WH w0 B H) g off k vs :=
  ⟨hl, Rds.at i hi (by rw [hl]; exact hv)⟩
theorem PV_loadAt {t : TypeId} {D : TypeDesc} {x : Operand} {g off k : Nat} {vs : List Value} (ht : P.underlying t = some D) (hD : cellTy D = false) (hs : (P.info? t).map (·.size) = some k) (hx : ev fr x = some (.pointer (some ⟨g, off, none⟩))) (hr : RdsK W g off k vs) : PV P n W fr ⟨dst, .load t x, ty, pos, aft, gd⟩ (.agg vs.toArray) :=
  PV_loadAgg ht hD hs hr.1 hx hr.2
/-- a piece that is looked at no more may go -/
theorem TL_drop {ops : Array Oper} {rest : List Oper} {H' : List Chunk} (hp : H'.Sublist H) (h : TL P w0 B n ops rest Q fr H') : TL P w0 B n ops rest Q fr H :=
  fun HX a w hf hr => h HX a w hf (hr.sub (hp.append_right HX))
theorem TL_weaken {ops : Array Oper} {rest : List Oper} {fr' : Fr} (hs : FrSub fr' fr) (h : TL P w0 B n ops rest Q fr' H) : TL P w0 B n ops rest Q fr H :=
  fun HX a w hf hr => h HX a w (hf.sub hs) hr
theorem T_addNil {c : Code} (es : Nat) (h : T P w0 B n c Q fr (.sl (.slice none 0 0) es 0 [] :: H)) : T P w0 B n c Q fr H :=
  fun HX a w hf hr => h HX a w hf (hr.addNil es)
/-- a call is met by what it does in each world -/
theorem TCall_of {f : FuncId} {args : Array Value} {R : Value → List Chunk → Prop} (h : ∀ HX w, Rep w0 B (H ++ HX) w → Calls P f args w fun e w' => ∃ v H', e = .returned v ∧ R v H' ∧ Rep w0 B (H' ++ HX) w') : TCall P w0 B f args R H := h
theorem TCall.below {f : FuncId} {args : Array Value} {R : Value → Prop} (h : ∀ w, WH w0 B H w → Calls P f args w fun e w' => ∃ v, e = .returned v ∧ R v ∧ Below w.heap.size w w') : TCall P w0 B f args (fun v H' => R v ∧ H' = H) H :=
  fun HX w hr => (h w ⟨HX, hr⟩).mono fun e w' ⟨v, he, hv, hb⟩ => ⟨v, H, he, ⟨hv, rfl⟩, hr.grew hb⟩
theorem TCall.perm {f : FuncId} {args : Array Value} {R : Value → List Chunk → Prop} {H' : List Chunk} (hp : H.Perm H') (h : TCall P w0 B f args R H') : TCall P w0 B f args R H :=
  fun HX w hr => h HX w (hr.perm (hp.append_right HX))
theorem TO_call0 {f : FuncId} {xs : Array Operand} {ats : Array TypeId} {vs : List Value} {R : Value → List Chunk → Prop} {K : Fr → List Chunk → Prop} (hc : CallOk P f) (hd : dOk n dst = true) (hx : evs fr xs.toList = some vs) (hcall : TCall P w0 B f vs.toArray R H)
    (h : ∀ v H', R v H' → K (frPut dst v fr) H') : TO P w0 B n ⟨dst, .call { callee := .value (.func f), args := xs, argTypes := ats }, ty, pos, aft, gd⟩ K fr H :=
  TO_call (HR := []) hc hd hx (by rw [List.append_nil]) hcall fun v H' hr => by rw [List.append_nil]; exact h v H' hr
theorem ifp {c : Prop} [Decidable c] {A B : Prop} (h : c) (a : A) : if c then A else B := by rw [if_pos h]; exact a
theorem ifn {c : Prop} [Decidable c] {A B : Prop} (h : ¬ c) (b : B) : if c then A else B := by rw [if_neg h]; exact b
theorem gtrue {b : Bool} (h : b = true) : some (Value.bool b) = some (.bool true) := by rw [h]
theorem gfalse {b : Bool} (h : b = false) : some (Value.bool b) = some (.bool false) := by rw [h]
theorem PV_pickAnd {c x y : Operand} {b p : Bool} (hc : ev fr c = some (.bool b)) (hx : ev fr x = some (.bool p)) (hy : ev fr y = some (.bool false)) : PV P n W fr ⟨dst, .pick c x y, ty, pos, aft, gd⟩ (.bool (b && p)) :=
  (PV_pick hc hx hy).cast (by cases b <;> rfl)
theorem PV_pickOr {c x y : Operand} {b p : Bool} (hc : ev fr c = some (.bool b)) (hx : ev fr x = some (.bool true)) (hy : ev fr y = some (.bool p)) : PV P n W fr ⟨dst, .pick c x y, ty, pos, aft, gd⟩ (.bool (b || p)) :=
  (PV_pick hc hx hy).cast (by cases b <;> rfl)
theorem PV_pickF {c x y : Operand} {b : Bool} {u v : Value} (hc : ev fr c = some (.bool b)) (hb : b = false) (hx : ev fr x = some u) (hy : ev fr y = some v) : PV P n W fr ⟨dst, .pick c x y, ty, pos, aft, gd⟩ v :=
  (PV_pick hc hx hy).cast (by rw [hb]; rfl)
theorem PV_pickT {c x y : Operand} {b : Bool} {u v : Value} (hc : ev fr c = some (.bool b)) (hb : b = true) (hx : ev fr x = some u) (hy : ev fr y = some v) : PV P n W fr ⟨dst, .pick c x y, ty, pos, aft, gd⟩ u :=
  (PV_pick hc hx hy).cast (by rw [hb]; rfl)
theorem WH.tl {c : Chunk} {w : World} (h : WH w0 B (c :: H) w) : WH w0 B H w := h.sub (List.sublist_cons_self _ _)
theorem Rd.mono {W' : World → Prop} {a : Addr} {v : Value} (h : Rd W a v) (hw : ∀ w, W' w → W w) : Rd W' a v := fun w hw' => h w (hw w hw')
theorem run_loadVarAgg {t : TypeId} {D : TypeDesc} {g off k : Nat} {vs : List Value} (ht : P.underlying t = some D) (hD : cellTy D = false) (hs : (P.info? t).map (·.size) = some k) (hr : RdsK W g off k vs) {w : World} (hw : W w) : (loadVar t ⟨g, off, none⟩).run P w = .ok (.agg vs.toArray) w := by
  obtain ⟨hl, hr⟩ := hr
  subst hl
  simp [loadVar, run_isAgg_yes ht hD, run_sizeOf_of hs, run_loadCells_list w _ vs (fun j v hj => hr j v hj w hw)]
theorem ResV_ct {fn : Func} {t u : Tmp} {e : TypeId} {D : TypeDesc} {g off k : Nat} {vs : List Value} {x : Value} (h : fn.results = #[.cell t e, .tmp u]) (hD' : P.underlying e = some D) (hD : cellTy D = false) (hs : (P.info? e).map (·.size) = some k) (ht : fr.lookup t = some (.pointer (some ⟨g, off, none⟩))) (hr : RdsK W g off k vs) (hu : fr.lookup u = some x) : ResV P n W fr fn (.tuple #[.agg vs.toArray, x]) := fun a w hf hw => by
  have h1 := hf.slot t _ ht
  have h2 := hf.slot u _ hu
  simp [results, h, h1, h2, asAddr, run_loadVarAgg hD' hD hs hr hw]
theorem ResV_c {fn : Func} {t : Tmp} {e : TypeId} {D : TypeDesc} {g off k : Nat} {vs : List Value} (h : fn.results = #[.cell t e]) (hD' : P.underlying e = some D) (hD : cellTy D = false) (hs : (P.info? e).map (·.size) = some k) (ht : fr.lookup t = some (.pointer (some ⟨g, off, none⟩))) (hr : RdsK W g off k vs) : ResV P n W fr fn (.agg vs.toArray) := fun a w hf hw => by
  have h1 := hf.slot t _ ht
  simp [results, h, h1, asAddr, run_loadVarAgg hD' hD hs hr hw]
theorem ResV_three {fn : Func} {t u s : Tmp} {v x y : Value} (h : fn.results = #[.tmp t, .tmp u, .tmp s]) (hv : fr.lookup t = some v) (hx : fr.lookup u = some x) (hy : fr.lookup s = some y) : ResV P n W fr fn (.tuple #[v, x, y]) := fun a w hf hw => by
  have h1 := hf.slot t v hv
  have h2 := hf.slot u x hx
  have h3 := hf.slot s y hy
  simp [results, h, h1, h2, h3]
abbrev NoGoto (Q : Exit → Fr → List Chunk → Prop) : Exit → Fr → List Chunk → Prop
  | .goto _, _, _ => False
  | e, f, h => Q e f h
abbrev JumpQ (P : Program) (w0 : World) (B n l : Nat) (rest : Code) (Q : Exit → Fr → List Chunk → Prop) : Exit → Fr → List Chunk → Prop
  | .goto l', f, h => l' = l ∧ T P w0 B n rest (NoGoto Q) f h
  | e, f, h => Q e f h
/-- a scope in which the run jumps on to one label, once -/
theorem T_scope {c rest : Code} (l : Nat) (hf' : findLabel c l = some rest) (h : T P w0 B n c (JumpQ P w0 B n l rest Q) fr H) : T P w0 B n (.scope c) Q fr H := by
  intro HX a w hf hr
  refine wp_scope_jumps l (fun a w => rest.wp P (Post w0 B n (NoGoto Q) HX) a w) (fun _ _ => 0) hf' (wp_mono (h HX a w hf hr) ?_) ?_
  · rintro e a' w' ⟨he, f, hh, q, hf', hr'⟩
    cases e with
    | goto l' => exact ⟨q.1, q.2 HX a' w' hf' hr'⟩
    | _ => exact ⟨he, f, hh, q, hf', hr'⟩
  · intro a' w' hJ
    refine wp_mono hJ ?_
    rintro e a' w' ⟨he, f, hh, q, hf', hr'⟩
    cases e with
    | goto l' => exact q.elim
    | _ => exact ⟨he, f, hh, q, hf', hr'⟩
/-- a slice that shows something is not nil -/
theorem T_shows {c : Code} {A : Option Addr} {m es : Nat} {ys : List Value} (hS : Shows (WH w0 B H) A m es ys) (hne : 0 < ys.length) (h : ∀ g off, A = some ⟨g, off, none⟩ → (∀ j v, ys[j]? = some v → Rd (WH w0 B H) ⟨g, off + j, none⟩ v) → T P w0 B n c Q fr H) : T P w0 B n c Q fr H := by
  intro HX a w hf hr
  have hn : ys ≠ [] := by intro e; subst e; simp at hne
  obtain ⟨p, rfl, hc⟩ := hS.run hn ⟨HX, hr⟩
  have hp : p.spot = none := by
    have h1 := hc 0 _ (List.getElem?_eq_getElem hne)
    simp only [Addr.add, if_true, World.cell?] at h1
    split at h1
    · cases hsp : p.spot with
      | none => rfl
      | some q => simp [hsp] at h1
    · cases h1
  obtain ⟨g, off, sp⟩ := p
  simp only at hp
  subst hp
  refine h g off rfl (fun j v hj w' hw' => ?_) HX a w hf hr
  obtain ⟨p, e, hc⟩ := hS.run hn hw'
  cases e
  have := hc j v hj
  rwa [add_plain'] at this
/-- a part of a slice -/
theorem Shows.cut {m c es l h : Nat} {ys : List Value} {g off : Nat} (hS : Shows W (some ⟨g, off, none⟩) m es ys) (hlh : l ≤ h) (hhm : h ≤ m) (hmc : m ≤ c) : Shows W (some ⟨g, if c = l then off else off + l * es, none⟩) (h - l) es ((ys.take (h * es)).drop (l * es)) := fun w hw => by
  obtain ⟨hl, hc⟩ := hS w hw
  have hle : h * es ≤ m * es := Nat.mul_le_mul_right _ hhm
  have hll : l * es ≤ h * es := Nat.mul_le_mul_right _ hlh
  refine ⟨by rw [List.length_drop, List.length_take, hl, Nat.sub_mul]; omega, fun j v hj => ?_⟩
  rw [List.getElem?_drop] at hj
  have hlt : l * es + j < h * es := by
    have := (List.getElem?_eq_some_iff.1 hj).1
    rw [List.length_take] at this
    omega
  rw [List.getElem?_take_of_lt hlt] at hj
  obtain ⟨p, e, hr⟩ := hc _ _ hj
  cases e
  refine ⟨_, rfl, ?_⟩
  have hcl : c ≠ l := by
    intro e
    subst e
    have h1 : h * es ≤ c * es := Nat.mul_le_mul_right _ (by omega)
    omega
  rw [if_neg hcl, add_plain', Nat.add_assoc]
  rw [add_plain'] at hr
  exact hr
/-- x[:h] -/
theorem PV_sliceTo {t e : TypeId} {x : Operand} {hi : Option Operand} {A : Option Addr} {m c es h : Nat} (ht : P.underlying t = some (.slice e)) (hz : (P.info? e).map (·.size) = some es) (hx : ev fr x = some (.slice A m c)) (hmc : m ≤ c) (hh : highOk fr hi h m) (hhm : h ≤ m) :
    PV P n W fr ⟨dst, .slice t x none hi none, ty, pos, aft, gd⟩ (.slice A h c) := fun a w hf hw => by
  have e1 : (if c = 0 then A else A.map (·.add (0 * es))) = A := by
    split
    · rfl
    · cases A <;> simp [Addr.add]
  have e2 := run_bounds (P := P) (lo := none) true w hf (l := 0) rfl hh (Nat.zero_le _) (Nat.le_trans hhm hmc)
  rw [Option.map_none] at e2
  simp only [execOp, hf.ev hx, Instr.sliceAt, Sem.run_bind, run_underlying ht, Result.andThen_ok, Instr.slice, Option.map_none, e2, run_sizeOf_of hz, Sem.run_pure, e1, Nat.sub_zero]
theorem Shows.upto {A : Option Addr} {m es : Nat} {ys : List Value} (hS : Shows W A m es ys) (h : Nat) (hhm : h ≤ m) : Shows W A h es (ys.take (h * es)) := fun w hw => by
  obtain ⟨hl, hc⟩ := hS w hw
  have hle : h * es ≤ m * es := Nat.mul_le_mul_right _ hhm
  refine ⟨by rw [List.length_take, hl]; omega, fun j v hj => ?_⟩
  have hlt : j < h * es := by
    have := (List.getElem?_eq_some_iff.1 hj).1
    rw [List.length_take] at this
    omega
  rw [List.getElem?_take_of_lt hlt] at hj
  exact hc j v hj
/-- a law -/
theorem law_of {f : FuncId} {args : Array Value} {w : World} (h : TCall P w w.heap.size f args (fun r _ => r = .bool true) []) : Calls P f args w fun e w' => e = .returned (.bool true) ∧ Below w.heap.size w w' :=
  (h [] w (Rep.start w)).mono fun e w' ⟨v, h', he, hv, hr⟩ => ⟨by rw [he, hv], hr.below⟩
end extra
end Go.Proofs.Ytpfcpookdocikaa.SL
