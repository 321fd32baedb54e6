/- The law RegexQuote of the seat YtijpbpnfachlkaaDoor: for every input whose bulk is at most 1048576 (the second form of the law) the call returns true and leaves its arguments as they were. -/
import Derived.Test.YtijpbpnfachlkaaDoorRows
import Derived.Test.YtijpbpnfachlkaaDoorHRegexQuote
import Derived.WalkKit
import Derived.ProofKit
import Derived.OpenShut
import Derived.ShutString
import Derived.ChangeOld
import Derived.Below
import Derived.SizedLaws
import Derived.JoinedCond
import Derived.Lib.SmallJoins
import Derived.Test.YtijpbpnfachlkaaDoorWSized
import Derived.Test.YtijpbpnfachlkaaDoorInit
import Derived.LaidLaws
import Derived.LaidHandle
import Derived.SevenTiedAt
import Derived.Handed
import Derived.Test.YtijpbpnfachlkaaDoorTie
import Derived.Test.YtijpbpnfachlkaaDoorCards
namespace Go.Proofs.YtijpbpnfachlkaaDoor.regexQuote
open Go.ChangeShapes Go.WideShapes Go.ChangeAt Go.RowKit
open Go.ChangeMaps (open_string shut_string)
open Go.Proofs.YtijpbpnfachlkaaDoorW
set_option linter.unusedVariables false
theorem own : ownKnob Tryd.prog.godebug = none := by kernel_rfl
theorem laidOut : laidOutB Tryd.prog = true := by kernel_rfl
def IsRow (k : IntKind) (w : World) (a : Option Addr) (len cap : Nat) (zs : List Int) : Prop :=
  (a = none ∧ len = 0 ∧ cap = 0 ∧ zs = []) ∨
  ∃ x, a = some x ∧ len ≤ cap ∧ cap ≤ maxLen ∧ zs.length = cap ∧ (∀ i, i < zs.length → w.cell? (x.add i) = some (.int k (zs.getD i 0))) ∧ ∀ n ∈ zs, (Lit.int k n).wf = true
theorem et : Tryd.prog.globalNamed "errors.errorType" = some 0 := by kernel_rfl
theorem rtyp : (Tryd.prog.cutTypes.find? (·.1 == "internal/reflectlite.rtype")).map (·.2) = some 123 := by kernel_rfl
theorem oneRow : ((List.range 166).filter fun t => Tryd.prog.rowNamed t [101, 114, 114, 111, 114]) = [34] := by kernel_rfl
theorem ntypes : Tryd.prog.types.size = 166 := by kernel_rfl
theorem handle_of_laid {W : World} (h : laidMetH Tryd.prog Rows.regexQuoteUptoRow.laid W) : SL.Laid W := by
  have h' : laidMet Tryd.prog [] W ∧ handlesMet Tryd.prog Rows.regexQuoteUptoRow.laid W := h
  obtain ⟨name, u, ty, e1, e2, e3, e4, e5⟩ := h'.2 _ (List.mem_singleton.2 rfl)
  have en : name = [101, 114, 114, 111, 114] := (Option.some.inj e1).symm
  subst en
  obtain rfl := Option.some.inj (rtyp.symm.trans e2)
  have hm : ty ∈ (List.range 166).filter fun t => Tryd.prog.rowNamed t [101, 114, 114, 111, 114] := List.mem_filter.2 ⟨List.mem_range.2 (by rw [← ntypes]; exact e3), e4⟩
  rw [oneRow] at hm
  obtain rfl := List.mem_singleton.1 hm
  have hh : typeHandle Tryd.prog 34 = .pointer (some ⟨2, 34, none⟩) := by kernel_rfl
  rw [hh] at e5
  unfold SL.Laid
  simpa using World.var?_cell et e5 0
noncomputable def laidWorld (os : Os) : World :=
  let w0 := World.holding Tryd.prog os ⟨#[], #[], []⟩
  { w0 with heap := w0.heap.modify 0 fun
      | .cells _ t frozen => .cells #[.iface 123 (.agg #[.pointer (some ⟨2, 34, none⟩)])] t frozen
      | o => o }
theorem laidWorld_met (os : Os) (args : Array Value) : laidMetH Tryd.prog Rows.regexQuoteUptoRow.laid ((laidWorld os).forCall (fun _ _ => 0) ⟨#[], args, []⟩).memory :=
  laidMetH_of_parts (laidMet_nil _ _) (by kernel_rfl)
set_option maxRecDepth 100000 in
theorem liftU {H : Type} {enc : TypeId × Value → H} {os : Os} {f : FuncId} {fn : Func} {s : ChangeSpec} {conds : List PathCond} {l : List (String × DataW Unit)} (w0 : World) (zargs : Array Value) (zd zg : List (DataW H)) (zb : List MemPlace) (own : ownKnob Tryd.prog.godebug = none) (started : os.Started) (noInit : Tryd.prog.inits.idxOf? f = none) (hfn : Tryd.prog.funcs[f]? = some fn) (hos : w0.os = os)
    (hv : (w0.forCall (fun _ _ => 0) ⟨#[], zargs, []⟩).variablesB Tryd.prog = true)
    (hr : ((w0.forCall (fun _ _ => 0) ⟨#[], zargs, []⟩).heap.toList.drop Tryd.prog.globals.size).take ((begin Tryd.prog (fun _ _ => 0) default).world.heap.size - Tryd.prog.globals.size) = (begin Tryd.prog (fun _ _ => 0) default).world.heap.toList.drop Tryd.prog.globals.size)
    (hok : Input.okWideB Tryd.prog (w0.forCall (fun _ _ => 0) ⟨#[], zargs, []⟩) f ⟨#[], zargs, []⟩ = true)
    (hz1 : DataW.whole enc Tryd.prog (w0.forCall (fun _ _ => 0) ⟨#[], zargs, []⟩).memory fn.params.toList s.vars false zargs.toList 8 = some (zd, zg, zb))
    (hz2 : conds.all (PathCond.test Tryd.prog ⟨fn.params.toList, zd, s.plain.varTypes Tryd.prog, zg⟩) = true) (hz3 : Rows.uptoSmall H (zd ++ zg) = true)
    (hsz : s.sizedB enc Tryd.prog fn false (w0.forCall (fun _ _ => 0) ⟨#[], zargs, []⟩).memory zargs 8 = true)
    (hx : laidMetH Tryd.prog l (w0.forCall (fun _ _ => 0) ⟨#[], zargs, []⟩).memory)
    (contract : ∀ (W : World) (base : Nat) (args : Array Value) (ds gs : List (DataW H)) (before : List MemPlace),
      (∀ (j : Nat) t v, fn.params[j]? = some t → args[j]? = some v → Value.okWide Tryd.prog W .any base t v) →
      DataW.Whole enc Tryd.prog fn.params.toList s.vars false W args.toList ds gs before →
      conds.all (PathCond.test Tryd.prog ⟨fn.params.toList, ds, s.plain.varTypes Tryd.prog, gs⟩) = true → Rows.uptoSmall H (ds ++ gs) = true →
      (DataW.weightsEach Tryd.prog (fn.params.toList ++ s.plain.varTypes Tryd.prog) (ds ++ gs)).all (· ≤ reachBytes) = true → laidMetH Tryd.prog l W →
      Calls Tryd.prog f args W fun e W' => ∃ v, e = .returned v ∧ s.post enc Tryd.prog fn false true false false W args v W') :
    ReturnsInHanded {} Tryd.checked os f .any (fun w args => ((Rows.OpenSpec.upto s).pre enc Tryd.prog fn conds false w args ∧ laidMetH Tryd.prog l w) ∧ sizedMet enc Tryd.prog fn (Rows.OpenSpec.upto s) false w args) (s.post enc Tryd.prog fn false true false false) := by
  refine returnsInHanded_of_calls (C := Tryd.checked) own started noInit ?_ ?_
  · refine ⟨w0, fun _ _ => 0, ⟨#[], zargs, []⟩, hos, World.shaped_of_B hv hr, (Input.okWide_of_okWideB (base := 0) hok).1, (Input.okWide_of_okWideB hok).2, ⟨⟨(OpenSpec.pre_some (k := Rows.uptoSmall) rfl _ _ _ _).2 ⟨zd, zg, zb, DataW.Whole_of_whole hz1, hz2, hz3⟩, hx⟩, sizedMet_of_sizedB hsz⟩, ?_⟩
    simp only [Assume.holds]
    exact ⟨by simp, by simp, fun _ => Modest.zero, by simp, by simp⟩
  · intro w tape i _ _ _ hok hpre hholds
    obtain ⟨_, _, _, fn', hfn', _, _, _, _, hval⟩ := hok
    have e : fn' = fn := Option.some.inj (hfn'.symm.trans hfn)
    subst e
    obtain ⟨⟨hp, hl⟩, hz⟩ := hpre
    obtain ⟨ds, gs, before, hw, hc, hk⟩ := (OpenSpec.pre_some (k := Rows.uptoSmall) rfl _ _ _ _).1 hp
    have hw' := DataW.Whole.of_heap (w' := w.forCall tape i) (by rfl) hw
    refine (contract (w.forCall tape i) w.heap.size i.args ds gs before hval hw' hc hk (hz.weights hw) (laidMetH.of_heap (by rfl) hl)).mono fun e W' ⟨v, he, hp⟩ => ?_
    subst he
    exact ChangeSpec.post_blind hp
set_option maxRecDepth 100000 in
theorem lifted (os : Os) (started : os.Started) (H : Type) (enc : TypeId × Value → H) :
    ReturnsInHanded {} Tryd.checked os 7 .any (fun w args => ((Rows.OpenSpec.upto Rows.regexQuoteSpec).pre enc Tryd.prog Tryd.f7 Rows.regexQuoteUptoRow.domain false w args ∧ laidMetH Tryd.prog Rows.regexQuoteUptoRow.laid w) ∧ sizedMet enc Tryd.prog Tryd.f7 (Rows.OpenSpec.upto Rows.regexQuoteSpec) false w args) (Rows.regexQuoteSpec.post enc Tryd.prog Tryd.f7 false true false false) := by
  refine liftU (laidWorld os) #[.string ByteArray.empty, .string ByteArray.empty] [.lit (.string []), .lit (.string [])] [] [] own started (by kernel_rfl) Tryd.func7 rfl (by kernel_rfl) (by kernel_rfl) (by kernel_rfl) (by kernel_rfl) (by kernel_rfl) (by kernel_rfl) (by kernel_rfl) (laidWorld_met os _) ?_
  intro W base args ds gs before hval0 hW hcnd hkk hsz0 hL0
  have hLaid : SL.Laid W := handle_of_laid hL0
  have hsz : (DataW.weightsEach Tryd.prog (Tryd.f7.params.toList ++ Rows.regexQuoteSpec.plain.varTypes Tryd.prog) (ds ++ gs)).all (· ≤ reachBytes) = true := hsz0
  have hval : ∀ (j : Nat) t v, Tryd.f7.params[j]? = some t → args[j]? = some v → Value.okWide Tryd.prog W .any base t v := hval0
  have hW' := hW
  obtain ⟨p, q, hA0, hV, rfl, hfz, hnd⟩ := hW
  have hA : DataW.TrodAll enc Tryd.prog W 0 (fun _ => true) true Tryd.f7.params.toList args.toList ds p := hA0
  rw [Tryd.params7] at hA hval hsz
  obtain ⟨v0, vs0, d0, ds0, p0, q0, hargs, rfl, rfl, h0, r0⟩ := trodAll_cons hA
  obtain ⟨v1, vs1, d1, ds1, p1, q1, rfl, rfl, rfl, h1, r1⟩ := trodAll_cons r0
  obtain ⟨rfl, rfl, rfl⟩ := trodAll_nil r1
  obtain rfl : args = #[v0, v1] := by cases args; simp_all
  obtain ⟨rfl, rfl⟩ := trodVars_none hV
  obtain ⟨a0, rfl, rfl, rfl, y0⟩ := open_string Tryd.underlying9 (hval 0 9 v0 rfl rfl) h0
  have w0 : a0.size ≤ 140737488351232 := by
    have z := sized_string hsz (j := 0) (t := 9) rfl rfl
    rw [Array.length_toList] at z
    exact z
  obtain ⟨a1, rfl, rfl, rfl, y1⟩ := open_string Tryd.underlying9 (hval 1 9 v1 rfl rfl) h1
  have w1 : a1.size ≤ 140737488351232 := by
    have z := sized_string hsz (j := 1) (t := 9) rfl rfl
    rw [Array.length_toList] at z
    exact z
  clear hA0 hval0 hsz0 hsz
  have hb := of_decide_eq_true hkk
  simp only [List.append_nil, Rows.uptoBulkAll, Rows.uptoBulk, Array.length_toList] at hb
  have w0 : a0.size ≤ 1048576 := by show a0.data.size ≤ _; omega
  have w1 : a1.size ≤ 1048576 := by show a1.data.size ≤ _; omega
  refine (Hand.RegexQuote_walk a0 a1 W hLaid w0 w1).mono fun e W' ⟨he, bel⟩ => ?_
  subst he
  exact ⟨_, rfl, _, _, _, [], _, [], hW', trodAll_mk1 (shut_bool Tryd.underlying4 _), (trodAll_cons_mk (shut_string Tryd.underlying9 y0) (trodAll_cons_mk (shut_string Tryd.underlying9 y1) trodAll_mk0)), rfl, bel.frame _, fun h => by cases h⟩
theorem and_mk {a b : Bool} (h : a = true) (k : b = true) : (a && b) = true := by rw [h, k]; rfl
theorem closed : joinedFacts Tryd.pinned.checked.prog 7 Tryd.f7 (Rows.OpenSpec.upto Rows.regexQuoteSpec).bare Rows.regexQuoteUptoRow = true := by
  show joinedFacts Tryd.prog 7 Tryd.f7 (Rows.OpenSpec.upto Rows.regexQuoteSpec).bare Rows.regexQuoteUptoRow = true
  unfold joinedFacts
  repeat' (with_reducible apply and_mk)
  all_goals first | (with_reducible exact Init.mayEnter) | (with_reducible rw [Init.liftsFinal]; as_aux_lemma => kernel_rfl) | (with_reducible rw [Init.make_eq]; as_aux_lemma => kernel_rfl) | (as_aux_lemma => kernel_rfl)
theorem over : Rows.regexQuoteUptoRow.holds Tryd.pinned (Rows.OpenSpec.upto Rows.regexQuoteSpec) :=
  OpenClaim.holds_of_cond 7 Tryd.f7 rfl rfl rfl rfl rfl rfl rfl ⟨rfl, rfl, rfl, rfl, rfl⟩ rfl rfl rfl rfl rfl (by as_aux_lemma => kernel_rfl) Tryd.func7 closed
    (of_decide_eq_true (by as_aux_lemma => kernel_rfl)) (by unfold Func.isWrapper; first | (rw [if_pos (by decide +kernel)]; kernel_rfl) | (rw [if_neg (by decide +kernel)]; exact ⟨rfl, rfl⟩))
    (fun os started H enc _ F => lifted os started H enc)
theorem card_holds : Claim7.holds Tryd.pinned (.plain (Rows.OpenSpec.upto Rows.regexQuoteSpec)) Rows.regexQuoteUptoCard :=
  Claim7.holds_tied_plain_at .later [] [.handle] true (true, "44dd343c34a5f614db320440d2421554870e4e89dd8db123dfa988620a1f0752") true
    over (fun _ h => by cases h) (by kernel_rfl) (fun _ h => by cases h) regexQuoteUpto_row_tie rfl ⟨rfl, rfl⟩ (by kernel_rfl) rfl
    (fun f fn hf hfn => by
      obtain rfl : f = 7 := Option.some.inj ((show Tryd.prog.funcNamed "lifeline/lifelinelaw06.RegexQuote" = some 7 by kernel_rfl).symm.trans hf) |>.symm
      obtain rfl : fn = Tryd.f7 := (Option.some.inj (Tryd.func7.symm.trans hfn)).symm
      exact ⟨by kernel_rfl, fun j t ht => by
        rw [Tryd.params7] at ht
        have h3 : t ∈ [9, 9] := by
          have := Array.mem_of_getElem? ht
          simpa using this
        have hall : ([9, 9] : List TypeId).all (fun t => !(Tryd.prog.wantsStandIn t)) = true := by kernel_rfl
        have h4 := List.all_eq_true.1 hall t h3
        have h5 : Tryd.prog.wantsStandIn t = false := by simpa using h4
        exact h5⟩)
    (by kernel_rfl)
theorem proved : Rows.RegexQuoteUptoCardSaid := card_holds
end Go.Proofs.YtijpbpnfachlkaaDoor.regexQuote
namespace Go.Proofs.YtijpbpnfachlkaaDoor
/-- The row, under a short name, for the claim. -/
theorem regexQuote_holds : Rows.RegexQuoteUptoCardSaid := regexQuote.proved
end Go.Proofs.YtijpbpnfachlkaaDoor
