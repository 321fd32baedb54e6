import Derived.Test.YtcbkcggijejooaaL5
/- Talks that go on. No statement is proved here. -/
set_option linter.unusedVariables false
set_option linter.unusedSimpArgs false
set_option maxRecDepth 100000
set_option maxHeartbeats 8000000
namespace Go.Proofs.Ytcbkcggijejooaa.SL
open Go Go.RowKit
section
variable {w0 : World} {B : Nat} {H X : List Chunk}
theorem Rc.tick_dat (r : Rc) : r.tick.dat = r.dat := by
  unfold Rc.tick
  split
  · rfl
  · split
    · rfl
    · split
      · rfl
      · split <;> rfl
theorem Rc.done_dat (r : Rc) : r.done.dat = r.dat := by unfold Rc.done; split <;> rfl
theorem Rc.put_dat (r : Rc) (b : List Int) : r.dat <+: (r.put b).dat := by
  unfold Rc.put
  split
  · exact List.prefix_refl _
  · split
    · exact List.prefix_refl _
    · split
      · exact List.prefix_refl _
      · split
        · exact List.prefix_refl _
        · split
          · exact List.prefix_refl _
          · split
            · unfold Rc.take
              split
              · rw [Rc.done_dat]
                exact List.prefix_append _ _
              · split
                · exact List.prefix_refl _
                · rw [Rc.done_dat]
                  exact List.prefix_refl _
            · exact List.prefix_refl _
theorem next_more (ns : List Nz) (x : Lk) : (x.next ns).ticks = x.ticks + 1 ∧ x.sent ≤ (x.next ns).sent ∧ x.r.dat <+: (x.next ns).r.dat ∧ (x.next ns).ov = false := by
  unfold Lk.next
  split
  · exact ⟨rfl, Nat.le_refl _, by show x.r.dat <+: x.r.tick.dat; rw [Rc.tick_dat]; exact List.prefix_refl _, rfl⟩
  · refine ⟨rfl, Nat.le_succ _, ?_, rfl⟩
    have h := Rc.put_dat x.r.tick (downOf ns x.sent x.fed.2)
    rw [Rc.tick_dat] at h
    exact h
theorem run_more (ns : List Nz) : ∀ (n : Nat) (x : Lk), (x.run ns n).ticks ≤ x.ticks + n ∧ x.ticks ≤ (x.run ns n).ticks ∧ x.sent ≤ (x.run ns n).sent ∧ x.r.dat <+: (x.run ns n).r.dat
  | 0, x => ⟨Nat.le_refl _, Nat.le_refl _, Nat.le_refl _, List.prefix_refl _⟩
  | n + 1, x => by
    cases h : x.isOver with
    | true =>
      rw [run_over h]
      exact ⟨Nat.le_add_right _ _, Nat.le_refl _, Nat.le_refl _, List.prefix_refl _⟩
    | false =>
      rw [run_step h]
      have h1 := next_more ns x
      have h2 := run_more ns n (x.next ns)
      exact ⟨by omega, by omega, by omega, h1.2.2.1.trans h2.2.2.2⟩
theorem run_on (ns : List Nz) (k : Nat) : ∀ (n : Nat) (x : Lk), x.ov = false → ((x.run ns n).ov = true ∧ x.run ns (n + k) = x.run ns n) ∨ ((x.run ns n).ov = false ∧ x.run ns (n + k) = (x.run ns n).run ns k)
  | 0, x, h => .inr ⟨h, by rw [Nat.zero_add]; rfl⟩
  | n + 1, x, h => by
    rw [show n + 1 + k = (n + k) + 1 by omega]
    cases ho : x.isOver with
    | true =>
      rw [run_over ho, run_over ho]
      exact .inl ⟨rfl, rfl⟩
    | false =>
      rw [run_step ho, run_step ho]
      exact run_on ns k n (x.next ns) (next_more ns x).2.2.2
/-- what fewer ticks bring, more bring too -/
theorem run_leads {ns : List Nz} {x : Lk} (h : x.ov = false) (n k : Nat) : (x.run ns n).ticks ≤ (x.run ns (n + k)).ticks ∧ (x.run ns n).sent ≤ (x.run ns (n + k)).sent ∧ (x.run ns n).r.dat <+: (x.run ns (n + k)).r.dat ∧ ((x.run ns n).ov = true → (x.run ns (n + k)) = x.run ns n) := by
  rcases run_on ns k n x h with ⟨h1, h2⟩ | ⟨h1, h2⟩
  · rw [h2]
    exact ⟨Nat.le_refl _, Nat.le_refl _, List.prefix_refl _, fun _ => rfl⟩
  · rw [h2]
    have h3 := run_more ns k (x.run ns n)
    exact ⟨h3.2.1, h3.2.2.1, h3.2.2.2, fun h4 => by rw [h1] at h4; cases h4⟩
theorem t80m {gs gr cs m cn M : Nat} {As An : Option Addr} {ns : List Nz} {qs : List (List Int)} {a b : Int} {crc : Bool} (fx : Lk) (hN : Shows (WH w0 B X) An m 3 (nzCells ns)) (hm : ns.length = m) (hB : SBlk (WH w0 B X) As cs qs) (hM : M ≤ 3000) (hq : ∀ q ∈ qs, U8s q ∧ (q.length = 128 ∨ q.length = 1024)) (hml : qs.length ≤ 40) (he : (Lk.start (Sn.of a b qs crc true) (Rc.of a b 1 crc true 1)).run ns M = fx) :
    TCall Try.prog w0 B 17 #[.pointer (some ⟨gs, 0, none⟩), .pointer (some ⟨gr, 0, none⟩), .slice An m cn, .int .i64 (M : Int)] (fun v H' => ∃ (A : Option Addr) (k : Nat), v = .agg #[.bool fx.ov, errV fx.e1, errR fx.e2, .slice A fx.r.dat.length k, .int .i64 (fx.ticks : Int), .int .i64 (fx.sent : Int)] ∧ fx.r.dat.length ≤ k ∧ H' = byC A k fx.r.dat :: X)
      (sC gs As cs (Sn.of a b qs crc true) :: rcC gr none 0 none 0 (Rc.of a b 1 crc true 1) :: byC none 0 [] :: byC none 0 [] :: X) := by
  have h := t80 (gs := gs) (gr := gr) (bA := none) (bc := 0) (dA := none) (dc := 0) (cn := cn) (Sn.of a b qs crc true) (Rc.of a b 1 crc true 1) M (start_fit (by omega) hq (by decide)) hB hN hm hM
  rw [he] at h
  refine h.less ?_
  rintro v H' ⟨A, k', bA', bc', dA', dc', hv, hk, rfl⟩
  exact ⟨_, (by repeat (first | exact List.Sublist.refl _ | exact List.sublist_append_right _ _ | exact List.sublist_append_left _ _ | apply List.Sublist.cons_cons | apply List.Sublist.cons | refine List.Sublist.trans ?_ (List.sublist_append_left _ _))), A, k', hv, hk, rfl⟩
end
end Go.Proofs.Ytcbkcggijejooaa.SL
