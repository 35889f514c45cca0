/- Plain facts that the laws' pure parts share: rounds, reads of lists, sums that don't wrap. -/
import Derived.Test.YtimkpdbghbhkkaaWMore
namespace Go.Proofs.Ytimkpdbghbhkkaa.Pu
open Go.RowKit Go.Proofs.YtimkpdbghbhkkaaW.PrintWords Go.Proofs.YtimkpdbghbhkkaaW.PrintMore

theorem w64 {x : Int} (h0 : -9223372036854775808 ≤ x) (h1 : x ≤ 9223372036854775807) : wrap64 x = x := by
  unfold wrap64
  omega

theorem Ev.ite {α : Type} {c : Prop} [Decidable c] {g f : Nat → Option α} {r : α} (hg : c → Ev g r) (hf : ¬ c → Ev f r) : Ev (fun k => if c then g k else f k) r := by
  by_cases h : c
  · obtain ⟨K, hK⟩ := hg h
    exact ⟨K, fun k hk => by show (if c then g k else f k) = _; rw [if_pos h]; exact hK k hk⟩
  · obtain ⟨K, hK⟩ := hf h
    exact ⟨K, fun k hk => by show (if c then g k else f k) = _; rw [if_neg h]; exact hK k hk⟩
theorem Ev.yes {α : Type} {c : Prop} [Decidable c] {g f : Nat → Option α} {r : α} (h : c) (hg : Ev g r) : Ev (fun k => if c then g k else f k) r := Ev.ite (fun _ => hg) (fun n => absurd h n)
theorem Ev.no {α : Type} {c : Prop} [Decidable c] {g f : Nat → Option α} {r : α} (h : ¬ c) (hf : Ev f r) : Ev (fun k => if c then g k else f k) r := Ev.ite (fun n => absurd n h) (fun _ => hf)
theorem Ev.eq {α : Type} {g : Nat → Option α} {r r' : α} (h : Ev g r) (e : r = r') : Ev g r' := e ▸ h
theorem Ev.pair {α β : Type} {g : Nat → Option α} {f : Nat → α → Option β} {a : α} {r : β} (h : Ev g a) (k : ∀ x, x = a → Ev (fun n => f n x) r) : Ev (fun n => (g n).bind (f n)) r := Ev.bind h (k a rfl)
theorem Ev.const {α β : Type} {f : Nat → α → Option β} {a : α} {r : β} (k : Ev (fun n => f n a) r) : Ev (fun n => (some a : Option α).bind (f n)) r := k
theorem Ev.some {α : Type} {a r : α} (h : a = r) : Ev (fun _ => some a) r := h ▸ Ev.now a

theorem rd_mid (pre suf : List Int) (x : Int) : rd (pre ++ x :: suf) (pre.length : Int) = x := by
  simp [rd]
theorem getD_mid {α : Type} (pre suf : List α) (x d : α) : (pre ++ x :: suf).getD (pre.length : Int).toNat d = x := by
  simp
theorem rd_nat (l : List Int) (i : Nat) : rd l (i : Int) = l.getD i 0 := by
  simp [rd]

/-- Two answers of one function with rounds are one. -/
theorem Ev.det {α : Type} {g : Nat → Option α} {r r' : α} (hg : ∀ k, LeO (g k) (g (k + 1))) {k : Nat} (h : g k = .some r) (e : Ev g r') : r = r' := by
  obtain ⟨K, hK⟩ := e
  have h1 := at_rounds hg (Nat.le_max_left k K) h
  have h2 := hK (max k K) (Nat.le_max_right k K)
  rw [h1] at h2
  exact Option.some.inj h2

/-- A list as what was passed and what is to come. -/
theorem split_at {α : Type} (l : List α) (i : Nat) (h : i ≤ l.length) : ∃ pre suf, l = pre ++ suf ∧ pre.length = i :=
  ⟨l.take i, l.drop i, (List.take_append_drop i l).symm, by rw [List.length_take]; omega⟩

theorem len_mid {α : Type} (pre suf : List α) (x : α) : ((pre ++ x :: suf).length : Int) = pre.length + suf.length + 1 := by
  simp
  omega
end Go.Proofs.Ytimkpdbghbhkkaa.Pu
