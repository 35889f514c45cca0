/- Merged texts of one claim: a Go law, its functions without memory, and the plain law. The law returns true for every input; conditions: as the row says. -/
import Derived.Test.YtimkpdbghbhkkaaRows
import Derived.ChangeArms
import Derived.OpenShut
import Derived.SizedLaws
import Derived.Deep.Slices
import Derived.Below
import Derived.WalkKit
import Derived.ProofKit
import Derived.ShutString
import Derived.ChangeOld
import Derived.Test.YtimkpdbghbhkkaaCFc0
import Derived.Test.YtimkpdbghbhkkaaCFc1
import Derived.Test.YtimkpdbghbhkkaaCFc2
/- Go functions as plain Lean functions, and their contracts. -/
set_option linter.unusedVariables false
set_option maxRecDepth 100000
noncomputable section
namespace Go.Proofs.Ytimkpdbghbhkkaa.Fr
open Go Go.Proofs.Ytimkpdbghbhkkaa.Gp
def Colors62.l0 (k : Nat) (t11 : (((List Int) × (Int × Unit)) × Unit)) : (Unit × (Unit × (Int × ((List Int) × (List Int))))) → Option ((Unit × (Unit × (Int × ((List Int) × (List Int))))) ⊕ (Unit × (Unit × ((List Int) × (List Int)))))
  | (_, _, t16, o0, o1) =>
    cond (decide (t16 < (List.length t11.1.1 : Int)))
      ((rd t11.1.1 t16).bind fun t18 =>
      (if 0 ≤ t18 ∧ t18 < 16 then some () else none).bind fun _ =>
      (rd o1 t18).bind fun t22 =>
      (if 0 ≤ t18 ∧ t18 < 16 then some () else none).bind fun _ =>
      (rd o1 t18).bind fun _ =>
      some (Sum.inl ((), (), (w64 (t16 + 1)), o0, (List.set o1 (Int.toNat t18) (w64 (t22 + 1))))))
      (some (Sum.inr ((), (), o0, o1)))
def Colors62 (k : Nat) (f : (List Int)) : Option (((List Int) × (Int × Unit)) × Unit) :=
  (Seen101 k f).bind fun t11 =>
  Option.bind
    (loopN (Colors62.l0 k t11) k ((), (), 0, (List.replicate 16 0), (List.replicate 16 0)) : Option (Unit × (Unit × ((List Int) × (List Int))))) fun ((_, _, _, o1_1) : (Unit × (Unit × ((List Int) × (List Int))))) =>
  some ((o1_1, t11.1.2.1, ()), ())
def Colors62.A : Ann := { conds := [], blocks := [(0, ⟨[(2, .ptr 0 []), (6, .ptr 1 [])], [(0, .var (.arr 16 (.int .i64))), (1, .var (.arr 16 (.int .i64)))], 2, [], 67043584⟩)], loops := [(4, ⟨[(2, .ptr 0 []), (6, .ptr 1 []), (16, .int .i64)], [(0, .var (.arr 16 (.int .i64))), (1, .var (.arr 16 (.int .i64)))], 2, [], 67043584⟩)], keeps := [], orders := [] }
def Colors62.S : Sig := { f := 62, params := [.sl (.int .i64)], objs := [], res := .tup (.pair (.arr 16 (.int .i64)) (.pair (.int .i64) .unit)), outs := [], fix := [], run := fun k ds os => Colors62 k ds }
def Colors62.G : List Sig := [Seen101.S]
theorem Colors62.eq (k : Nat) : ∀ ds os, Colors62.S.run k ds os = runF ⟨types, Colors62.G, Colors62.A, k, 0, []⟩ Try.f62 (codeOf Try.f62) Colors62.S.params Colors62.S.objs Colors62.S.res Colors62.S.outs ds os := by
  intro ds os; kernel_rfl
theorem Colors62.dr : DrOk Try.prog Colors62.A (codeOf Try.f62) := ⟨by kernel_rfl, by kernel_rfl⟩
theorem Colors62.ok (k : Nat) : SoundAt Try.prog k Colors62.S :=
  runF_sound (X := ⟨types, Colors62.G, Colors62.A, k, 0, []⟩) types_ok (mem_all (⟨Seen101.ok k, trivial⟩)) (fn := Try.f62) (c := codeOf Try.f62) rfl (by kernel_rfl) rfl rfl Colors62.dr (Colors62.eq k)

def FrameChanges11.l0 (k : Nat) (a : (List Int)) (b : (List Int)) (t19 : (Int × Unit)) (f : Int) (t50 : Int) : ((Int × (Int × (Int × Int))) × ((List Int) × (Unit × (Unit × (Bool × (Int × ((List Int) × (Int × (Int × (Int × Int)))))))))) → Option (((Int × (Int × (Int × Int))) × ((List Int) × (Unit × (Unit × (Bool × (Int × ((List Int) × (Int × (Int × (Int × Int)))))))))) ⊕ ((Int × (Int × (Int × Int))) × ((List Int) × (Unit × (Unit × (Bool × ((List Int) × (Int × (Int × (Int × Int))))))))))
  | (box_1, n_1, _, _, any_1, t53, o2_1, o3_1) =>
    cond (decide (t53 < 48))
      (Option.bind
        (let t59 : Int := (w64 ((w64 (t50 * 64)) + t53))
        Option.bind
          (cond (t19.1 == 0)
            ((rd a t59).bind fun t64 =>
            (if 0 ≤ t64 ∧ t64 < 16 then some () else none).bind fun _ =>
            (rd o2_1 t64).bind fun t67 =>
            (if 0 ≤ t64 ∧ t64 < 16 then some () else none).bind fun _ =>
            (rd o2_1 t64).bind fun _ =>
            some (box_1, n_1, (), (), (List.set o2_1 (Int.toNat t64) (w64 (t67 + 1))), o3_1))
            (some (box_1, n_1, (), (), o2_1, o3_1)) : Option ((Int × (Int × (Int × Int))) × ((List Int) × (Unit × (Unit × ((List Int) × (Int × (Int × (Int × Int))))))))) fun ((box_2, n_2, _, _, o2_2, o3_2) : ((Int × (Int × (Int × Int))) × ((List Int) × (Unit × (Unit × ((List Int) × (Int × (Int × (Int × Int))))))))) =>
        Option.bind (cond (f != 0)
          (some true)
          ((rd a t59).bind fun t75 =>
          (rd b t59).bind fun t79 =>
          some (t75 == t79))) fun t82 =>
        cond t82
          (some (box_2, n_2, (), (), any_1, o2_2, o3_2))
          (Option.bind
            (cond (!any_1)
              (some (box_2, n_2, (), (), o2_2, t53, t50, (w64 (t53 + 1)), (w64 (t50 + 1))))
              (some (box_2, n_2, (), (), o2_2, o3_2)) : Option ((Int × (Int × (Int × Int))) × ((List Int) × (Unit × (Unit × ((List Int) × (Int × (Int × (Int × Int))))))))) fun ((box_3, n_3, _, _, o2_3, o3_3) : ((Int × (Int × (Int × Int))) × ((List Int) × (Unit × (Unit × ((List Int) × (Int × (Int × (Int × Int))))))))) =>
          some (box_3, n_3, (), (), true, o2_3, (mnI o3_3.1 t53), (mnI o3_3.2.1 t50), (mxI o3_3.2.2.1 (w64 (t53 + 1))), (mxI o3_3.2.2.2 (w64 (t50 + 1))))) : Option ((Int × (Int × (Int × Int))) × ((List Int) × (Unit × (Unit × (Bool × ((List Int) × (Int × (Int × (Int × Int)))))))))) fun ((box_4, n_4, _, _, any_2, o2_4, o3_4) : ((Int × (Int × (Int × Int))) × ((List Int) × (Unit × (Unit × (Bool × ((List Int) × (Int × (Int × (Int × Int)))))))))) =>
      some (Sum.inl (box_4, n_4, (), (), any_2, (w64 (t53 + 1)), o2_4, o3_4)))
      (some (Sum.inr (box_1, n_1, (), (), any_1, o2_1, o3_1)))
def FrameChanges11.l1 (k : Nat) (a : (List Int)) (b : (List Int)) (t19 : (Int × Unit)) (f : Int) : ((Int × (Int × (Int × Int))) × ((List Int) × (Unit × (Unit × (Bool × (Int × ((List Int) × (Int × (Int × (Int × Int)))))))))) → Option (((Int × (Int × (Int × Int))) × ((List Int) × (Unit × (Unit × (Bool × (Int × ((List Int) × (Int × (Int × (Int × Int)))))))))) ⊕ ((Int × (Int × (Int × Int))) × ((List Int) × (Unit × (Unit × (Bool × ((List Int) × (Int × (Int × (Int × Int))))))))))
  | (box, n, _, _, any, t50, o2, o3) =>
    cond (decide (t50 < 32))
      (Option.bind
        (loopN (FrameChanges11.l0 k a b t19 f t50) k (box, n, (), (), any, 0, o2, o3) : Option ((Int × (Int × (Int × Int))) × ((List Int) × (Unit × (Unit × (Bool × ((List Int) × (Int × (Int × (Int × Int)))))))))) fun ((box_5, n_5, _, _, any_3, o2_5, o3_5) : ((Int × (Int × (Int × Int))) × ((List Int) × (Unit × (Unit × (Bool × ((List Int) × (Int × (Int × (Int × Int)))))))))) =>
      some (Sum.inl (box_5, n_5, (), (), any_3, (w64 (t50 + 1)), o2_5, o3_5)))
      (some (Sum.inr (box, n, (), (), any, o2, o3)))
def FrameChanges11 (k : Nat) (a : (List Int)) (b : (List Int)) : Option (Bool × Unit) :=
  (Right45 k a).bind fun t19 =>
  Option.bind
    (cond (t19.1 == 0)
      ((Right45 k b).bind fun t24 =>
      some t24.1)
      (some t19.1) : Option Int) fun (f : Int) =>
  (Changed61 k a b).bind fun t28 =>
  (Colors62 k a).bind fun t34 =>
  (seen42 k).bind fun t37 =>
  cond (cond (cond (!t37.1) true (t28.1.2.2.1 != f)) true (t34.1.2.1 != t19.1))
    (some (false, ()))
    (Option.bind
      (loopN (FrameChanges11.l1 k a b t19 f) k (t28.1.1, t34.1.1, (), (), false, 0, (List.replicate 16 0), 0, 0, 0, 0) : Option ((Int × (Int × (Int × Int))) × ((List Int) × (Unit × (Unit × (Bool × ((List Int) × (Int × (Int × (Int × Int)))))))))) fun ((box_6, n_6, _, _, any_4, o2_6, o3_6) : ((Int × (Int × (Int × Int))) × ((List Int) × (Unit × (Unit × (Bool × ((List Int) × (Int × (Int × (Int × Int)))))))))) =>
    some ((cond (cond (xor false (eqB (.st (.pair (.int .i64) (.pair (.int .i64) (.pair (.int .i64) (.int .i64))))) box_6 o3_6)) (xor false (t28.1.2.1 == any_4)) false) (xor false (eqB (.arr 16 (.int .i64)) n_6 o2_6)) false), ()))
def FrameChanges11.A : Ann := { conds := [(1441796, ⟨[(6, .int .i64)], [], 0, [], 25165888⟩), (3997715, ⟨[(7, .fp (.st (.pair (.int .i64) (.pair (.int .i64) (.pair (.int .i64) (.int .i64)))))), (10, .fp (.arr 16 (.int .i64))), (12, .ptr 2 []), (13, .ptr 3 [])], [(2, .var (.arr 16 (.int .i64))), (3, .var (.st (.pair (.int .i64) (.pair (.int .i64) (.pair (.int .i64) (.int .i64))))))], 4, [], 1175979934698983915520⟩), (5505046, ⟨[(7, .fp (.st (.pair (.int .i64) (.pair (.int .i64) (.pair (.int .i64) (.int .i64)))))), (10, .fp (.arr 16 (.int .i64))), (12, .ptr 2 []), (13, .ptr 3 [])], [(2, .var (.arr 16 (.int .i64))), (3, .var (.st (.pair (.int .i64) (.pair (.int .i64) (.pair (.int .i64) (.int .i64))))))], 4, [], 4913074530913852966005899264⟩)], blocks := [(0, ⟨[(7, .fp (.st (.pair (.int .i64) (.pair (.int .i64) (.pair (.int .i64) (.int .i64)))))), (10, .fp (.arr 16 (.int .i64))), (12, .ptr 2 []), (13, .ptr 3 []), (14, .bool)], [(2, .var (.arr 16 (.int .i64))), (3, .var (.st (.pair (.int .i64) (.pair (.int .i64) (.pair (.int .i64) (.int .i64))))))], 4, [], 10384593717069655255935092751843328⟩), (2, ⟨[(7, .fp (.st (.pair (.int .i64) (.pair (.int .i64) (.pair (.int .i64) (.int .i64)))))), (10, .fp (.arr 16 (.int .i64))), (12, .ptr 2 []), (13, .ptr 3 []), (14, .bool)], [(2, .var (.arr 16 (.int .i64))), (3, .var (.st (.pair (.int .i64) (.pair (.int .i64) (.pair (.int .i64) (.int .i64))))))], 4, [], 5192296858534827619523297074692096⟩), (3, ⟨[(7, .fp (.st (.pair (.int .i64) (.pair (.int .i64) (.pair (.int .i64) (.int .i64)))))), (10, .fp (.arr 16 (.int .i64))), (12, .ptr 2 []), (13, .ptr 3 []), (14, .bool)], [(2, .var (.arr 16 (.int .i64))), (3, .var (.st (.pair (.int .i64) (.pair (.int .i64) (.pair (.int .i64) (.int .i64))))))], 4, [], 2596148429267413778236451145859072⟩)], loops := [(12, ⟨[(7, .fp (.st (.pair (.int .i64) (.pair (.int .i64) (.pair (.int .i64) (.int .i64)))))), (10, .fp (.arr 16 (.int .i64))), (12, .ptr 2 []), (13, .ptr 3 []), (14, .bool), (50, .int .i64)], [(2, .var (.arr 16 (.int .i64))), (3, .var (.st (.pair (.int .i64) (.pair (.int .i64) (.pair (.int .i64) (.int .i64))))))], 4, [], 10384593717069655255935092751843328⟩), (15, ⟨[(7, .fp (.st (.pair (.int .i64) (.pair (.int .i64) (.pair (.int .i64) (.int .i64)))))), (10, .fp (.arr 16 (.int .i64))), (12, .ptr 2 []), (13, .ptr 3 []), (14, .bool), (53, .int .i64)], [(2, .var (.arr 16 (.int .i64))), (3, .var (.st (.pair (.int .i64) (.pair (.int .i64) (.pair (.int .i64) (.int .i64))))))], 4, [], 5192296858534827619523297074692096⟩)], keeps := [7, 10], orders := [(20, [(0, .strong), (1, .strong), (2, .strong), (3, .strong), (4, .strong), (5, .strong), (6, .strong), (7, .strong), (8, .strong), (9, .strong), (10, .strong), (11, .strong), (12, .strong)])] }
def FrameChanges11.S : Sig := { f := 11, params := [.sl (.int .i64), .sl (.int .i64)], objs := [], res := .bool, outs := [], fix := [], run := fun k ds os => FrameChanges11 k ds.1 ds.2 }
def FrameChanges11.G : List Sig := [Changed61.S, Colors62.S, Right45.S, seen42.S]
theorem FrameChanges11.eq (k : Nat) : ∀ ds os, FrameChanges11.S.run k ds os = runF ⟨types, FrameChanges11.G, FrameChanges11.A, k, 0, []⟩ Try.f11 (codeOf Try.f11) FrameChanges11.S.params FrameChanges11.S.objs FrameChanges11.S.res FrameChanges11.S.outs ds os := by
  intro ds os; kernel_rfl
theorem FrameChanges11.dr : DrOk Try.prog FrameChanges11.A (codeOf Try.f11) := ⟨by kernel_rfl, by kernel_rfl⟩
theorem FrameChanges11.ok (k : Nat) : SoundAt Try.prog k FrameChanges11.S :=
  runF_sound (X := ⟨types, FrameChanges11.G, FrameChanges11.A, k, 0, []⟩) types_ok (mem_all (⟨Changed61.ok k, ⟨Colors62.ok k, ⟨Right45.ok k, ⟨seen42.ok k, trivial⟩⟩⟩⟩)) (fn := Try.f11) (c := codeOf Try.f11) rfl (by kernel_rfl) rfl rfl FrameChanges11.dr (FrameChanges11.eq k)
end Go.Proofs.Ytimkpdbghbhkkaa.Fr

/- What is left of a Go function, in the long run: rounds, loops, lists, numbers. No program in sight. -/
set_option linter.unusedVariables false
noncomputable section
namespace Go.Proofs.Ytimkpdbghbhkkaa.Gp
open Go

/-- from some fuel on, f answers v -/
def Ev {α : Type} (f : Nat → Option α) (v : α) : Prop := ∃ n, ∀ k, n ≤ k → f k = some v
/-- .. a loop, from some fuel on and with enough rounds -/
def Lp {S R : Type} (body : Nat → S → Option (S ⊕ R)) (s : S) (r : R) : Prop := ∃ n m, ∀ k, n ≤ k → ∀ j, m ≤ j → loopN (body k) j s = some r

theorem Ev.ex {α : Type} {f : Nat → Option α} {v : α} (h : Ev f v) : ∃ k, f k = some v := by
  obtain ⟨n, h⟩ := h
  exact ⟨n, h n (Nat.le_refl _)⟩
theorem Ev.now {α : Type} (v : α) : Ev (fun _ => some v) v := ⟨0, fun _ _ => rfl⟩
theorem Ev.now' {α : Type} {v w : α} (h : v = w) : Ev (fun _ => some v) w := h ▸ .now v
/-- what hangs on no fuel -/
theorem Ev.const {α : Type} {o : Option α} {v : α} (h : o = some v) : Ev (fun _ => o) v := ⟨0, fun _ _ => h⟩
theorem Ev.to {α : Type} {f : Nat → Option α} {v w : α} (h : Ev f v) (e : v = w) : Ev f w := e ▸ h
theorem Ev.of {α : Type} {f g : Nat → Option α} {v : α} (h : Ev f v) (e : ∀ k, g k = f k) : Ev g v := by
  obtain ⟨n, h⟩ := h
  exact ⟨n, fun k hk => (e k).trans (h k hk)⟩
theorem Ev.bind {α β : Type} {f : Nat → Option α} {g : Nat → α → Option β} {a : α} {b : β} (h : Ev f a) (h2 : Ev (fun k => g k a) b) : Ev (fun k => (f k).bind (g k)) b := by
  obtain ⟨n, h⟩ := h
  obtain ⟨m, h2⟩ := h2
  refine ⟨max n m, fun k hk => ?_⟩
  show (f k).bind (g k) = _
  rw [h k (by omega)]
  exact h2 k (by omega)
/-- a value that hangs on no fuel -/
theorem Ev.val {α β : Type} {o : Option α} {g : Nat → α → Option β} {a : α} {b : β} (h : o = some a) (h2 : Ev (fun k => g k a) b) : Ev (fun k => o.bind (g k)) b := by
  subst h
  exact h2
theorem Ev.joinL {S α β : Type} {f : Nat → Option (α ⊕ β)} {g : Nat → α → Option β} {a : α} {b : β} (h : Ev f (.inl a)) (h2 : Ev (fun k => g k a) b) : Ev (fun k => (f k).bind (joined (g k))) b :=
  Ev.bind (g := fun k => joined (g k)) h h2
theorem Ev.joinR {α β : Type} {f : Nat → Option (α ⊕ β)} {g : Nat → α → Option β} {b : β} (h : Ev f (.inr b)) : Ev (fun k => (f k).bind (joined (g k))) b :=
  Ev.bind (g := fun k => joined (g k)) h (.now b)
/-- a join: how it came, and what follows -/
theorem Ev.join {α β : Type} {f : Nat → Option (α ⊕ β)} {g : Nat → α → Option β} {s : α ⊕ β} {b : β} (h : Ev f s) (h1 : ∀ a, s = .inl a → Ev (fun k => g k a) b) (h2 : ∀ r, s = .inr r → r = b) : Ev (fun k => (f k).bind (joined (g k))) b := by
  cases s with
  | inl a => exact Ev.bind (g := fun k => joined (g k)) h (h1 a rfl)
  | inr r => exact Ev.bind (g := fun k => joined (g k)) h (.now' (h2 r rfl))
theorem Ev.cnd {α : Type} {c : Bool} {f g : Nat → Option α} {v : α} (h1 : c = true → Ev f v) (h2 : c = false → Ev g v) : Ev (fun k => cond c (f k) (g k)) v := by
  cases c with
  | true => exact h1 rfl
  | false => exact h2 rfl
theorem Ev.yes {α : Type} {c : Bool} {f g : Nat → Option α} {v : α} (hc : c = true) (h : Ev f v) : Ev (fun k => cond c (f k) (g k)) v := by rw [hc]; exact h
theorem Ev.no {α : Type} {c : Bool} {f g : Nat → Option α} {v : α} (hc : c = false) (h : Ev g v) : Ev (fun k => cond c (f k) (g k)) v := by rw [hc]; exact h
theorem Ev.iff {α : Type} {c : Prop} [Decidable c] {f g : Nat → Option α} {v : α} (h1 : c → Ev f v) (h2 : ¬ c → Ev g v) : Ev (fun k => cond (decide c) (f k) (g k)) v := by
  by_cases h : c
  · exact .yes (decide_eq_true h) (h1 h)
  · exact .no (decide_eq_false h) (h2 h)
theorem Ev.map {α β : Type} {f : Nat → Option α} {g : α → β} {a : α} (h : Ev f a) : Ev (fun k => (f k).map g) (g a) := by
  obtain ⟨n, h⟩ := h
  exact ⟨n, fun k hk => by show (f k).map g = _; rw [h k hk]; rfl⟩

theorem Lp.ev {S R : Type} {body : Nat → S → Option (S ⊕ R)} {s : S} {r : R} (h : Lp body s r) : Ev (fun k => loopN (body k) k s) r := by
  obtain ⟨n, m, h⟩ := h
  exact ⟨max n m, fun k hk => h k (by omega) k (by omega)⟩
theorem Lp.done {S R : Type} {body : Nat → S → Option (S ⊕ R)} {s : S} {r : R} (h : Ev (fun k => body k s) (.inr r)) : Lp body s r := by
  obtain ⟨n, h⟩ := h
  refine ⟨n, 1, fun k hk j hj => ?_⟩
  obtain ⟨j, rfl⟩ : ∃ i, j = i + 1 := ⟨j - 1, by omega⟩
  show (body k s).bind _ = _
  rw [show body k s = _ from h k hk]
  rfl
theorem Lp.step {S R : Type} {body : Nat → S → Option (S ⊕ R)} {s s' : S} {r : R} (h : Ev (fun k => body k s) (.inl s')) (h2 : Lp body s' r) : Lp body s r := by
  obtain ⟨n, h⟩ := h
  obtain ⟨n2, m, h2⟩ := h2
  refine ⟨max n n2, m + 1, fun k hk j hj => ?_⟩
  obtain ⟨j, rfl⟩ : ∃ i, j = i + 1 := ⟨j - 1, by omega⟩
  show (body k s).bind _ = _
  rw [show body k s = _ from h k (by omega)]
  exact h2 k (by omega) j (by omega)

/-- a walk over a list, that may end early -/
def walk {α β R : Type} (f : β → α → β ⊕ R) (fin : β → R) : List α → β → R
  | [], b => fin b
  | x :: l, b => match f b x with | .inl b' => walk f fin l b' | .inr r => r
theorem walk_nil {α β R : Type} {f : β → α → β ⊕ R} {fin : β → R} {b : β} : walk f fin [] b = fin b := rfl
theorem walk_cons {α β R : Type} {f : β → α → β ⊕ R} {fin : β → R} {x : α} {l : List α} {b : β} : walk f fin (x :: l) b = match f b x with | .inl b' => walk f fin l b' | .inr r => r := rfl

/-- a loop over a list by its index: 'st b i' is the loop's state -/
theorem Lp.walk {α β S R : Type} {body : Nat → S → Option (S ⊕ R)} (l : List α) (st : β → Int → S) (f : β → α → β ⊕ R) (fin : β → R) (Inv : Nat → β → Prop)
    (hs : ∀ i x b, l[i]? = some x → Inv i b → Ev (fun k => body k (st b i)) (match f b x with | .inl b' => .inl (st b' ((i : Int) + 1)) | .inr r => .inr r) ∧ ∀ b', f b x = .inl b' → Inv (i + 1) b')
    (hd : ∀ b, Inv l.length b → Ev (fun k => body k (st b l.length)) (.inr (fin b))) {b : β} (h0 : Inv 0 b) : Lp body (st b 0) (walk f fin l b) := by
  have key : ∀ (suf pre : List α) (b : β), l = pre ++ suf → Inv pre.length b → Lp body (st b (pre.length : Int)) (Gp.walk f fin suf b) := by
    intro suf
    induction suf with
    | nil =>
      intro pre b h hi
      rw [List.append_nil] at h
      subst h
      exact .done (hd b hi)
    | cons x suf ih =>
      intro pre b h hi
      have hx : l[pre.length]? = some x := by rw [h]; simp
      obtain ⟨h1, h2⟩ := hs pre.length x b hx hi
      rw [walk_cons]
      cases hf : f b x with
      | inr r => rw [hf] at h1; exact .done h1
      | inl b' =>
        rw [hf] at h1
        refine .step h1 ?_
        have := ih (pre ++ [x]) b' (by rw [h]; simp) (by simpa using h2 b' hf)
        simpa using this
  exact key l [] b rfl h0
/-- .. that always goes to its end -/
theorem Lp.fold {α β S R : Type} {body : Nat → S → Option (S ⊕ R)} (l : List α) (st : β → Int → S) (f : β → α → β) (fin : β → R) (Inv : Nat → β → Prop)
    (hs : ∀ i x b, l[i]? = some x → Inv i b → Ev (fun k => body k (st b i)) (.inl (st (f b x) ((i : Int) + 1))) ∧ Inv (i + 1) (f b x))
    (hd : ∀ b, Inv l.length b → Ev (fun k => body k (st b l.length)) (.inr (fin b))) {b : β} (h0 : Inv 0 b) : Lp body (st b 0) (fin (l.foldl f b)) := by
  have := Lp.walk (body := body) l st (fun b x => .inl (f b x)) fin Inv (fun i x b hx hi => ⟨(hs i x b hx hi).1, fun b' hb => by cases hb; exact (hs i x b hx hi).2⟩) hd h0
  have e : ∀ (l : List α) (b : β), Gp.walk (fun b x => (.inl (f b x) : β ⊕ R)) fin l b = fin (l.foldl f b) := by
    intro l
    induction l with
    | nil => intro b; rfl
    | cons x l ih => intro b; rw [walk_cons, List.foldl_cons]; exact ih _
  rwa [e] at this
/-- a loop that counts from 0 to n -/
theorem Lp.count {β S R : Type} {body : Nat → S → Option (S ⊕ R)} (n : Nat) (st : β → Int → S) (f : β → Nat → β) (fin : β → R) (Inv : Nat → β → Prop)
    (hs : ∀ i b, i < n → Inv i b → Ev (fun k => body k (st b i)) (.inl (st (f b i) ((i : Int) + 1))) ∧ Inv (i + 1) (f b i))
    (hd : ∀ b, Inv n b → Ev (fun k => body k (st b n)) (.inr (fin b))) {b : β} (h0 : Inv 0 b) : Lp body (st b 0) (fin ((List.range n).foldl f b)) := by
  refine Lp.fold (List.range n) st f fin Inv (fun i x b hx hi => ?_) (fun b hb => ?_) h0
  · obtain ⟨h1, h2⟩ := List.getElem?_eq_some_iff.1 hx
    rw [List.getElem_range] at h2
    subst h2
    exact hs i b (by simpa using h1) hi
  · rw [List.length_range] at hb ⊢
    exact hd b hb

-- numbers
theorem w64_id {x : Int} (h0 : -9223372036854775808 ≤ x) (h1 : x ≤ 9223372036854775807) : w64 x = x := by
  show IntKind.wrap .i64 x = x
  have e : (2 : Int) ^ (64 - 1) = 9223372036854775808 := by decide
  have e2 : (2 : Int) ^ 64 = 18446744073709551616 := by decide
  simp only [IntKind.wrap, IntKind.signed, IntKind.bits, Bool.true_and, decide_eq_true_eq, e, e2]
  split <;> omega
theorem w64_nat {n : Nat} (h : n ≤ 9223372036854775807) : w64 (n : Int) = n := w64_id (by omega) (by omega)
theorem w64_succ {n : Nat} (h : n < 9223372036854775807) : w64 ((n : Int) + 1) = ((n + 1 : Nat) : Int) := by rw [w64_id (by omega) (by omega)]; omega
theorem rd_nat {α : Type} (l : List α) (i : Nat) : rd l (i : Int) = l[i]? := by
  unfold rd
  rw [if_pos (by omega)]
  rfl
theorem rd_some' {α : Type} {l : List α} {i : Nat} {x : α} (h : l[i]? = some x) : rd l (i : Int) = some x := by rw [rd_nat, h]
theorem rd_at {α : Type} {l : List α} {z : Int} {i : Nat} {x : α} (hz : z = i) (h : l[i]? = some x) : rd l z = some x := by rw [hz, rd_nat, h]
theorem room_ok {n b : Nat} (h : n * b ≤ 140737488355328) : room n b = true := Nat.ble_eq_true_of_le h
theorem get_lt {α : Type} {l : List α} {i : Nat} {x : α} (h : l[i]? = some x) : i < l.length := (List.getElem?_eq_some_iff.1 h).1
theorem get_mem {α : Type} {l : List α} {i : Nat} {x : α} (h : l[i]? = some x) : x ∈ l := List.mem_of_getElem? h
theorem slc_ok {α : Type} {l : List α} {a b : Nat} (h1 : a ≤ b) (h2 : b ≤ l.length) : slc l (a : Int) (b : Int) = some ((l.take b).drop a) := by
  unfold slc
  rw [if_pos ⟨by omega, by omega, by omega⟩]
  simp
theorem slc_tail {α : Type} {l : List α} {a : Nat} (h1 : a ≤ l.length) : slc l (a : Int) (l.length : Int) = some (l.drop a) := by
  rw [slc_ok h1 (Nat.le_refl _), List.take_length]
theorem eqB_iff {k : K} (hc : k.cmp = true) {x y : k.den} : eqB k x y = true ↔ x = y := ⟨eqB_eq hc, fun h => by rw [h]; exact eqB_refl hc⟩
theorem eqB_dec {k : K} (hc : k.cmp = true) {x y : k.den} [Decidable (x = y)] : eqB k x y = decide (x = y) := by
  rw [Bool.eq_iff_iff, eqB_iff hc, decide_eq_true_eq]
theorem streq_iff {a b : ByteArray} : streq a b = true ↔ a = b := ⟨streq_eq, fun h => by rw [h]; exact streq_refl b⟩
theorem lit_wf {k : Int} (h : (Lit.int .i64 k).wf = true) : -9223372036854775808 ≤ k ∧ k ≤ 9223372036854775807 := by
  simp [Lit.wf, IntKind.min, IntKind.max, IntKind.signed, IntKind.bits] at h
  omega

-- bits
theorem wrap64_nat {n : Nat} (h : n < 9223372036854775808) : IntKind.wrap .i64 (n : Int) = n := w64_nat (by omega)
theorem bv_nat (a : Nat) : BitVec.ofInt 64 (a : Int) = BitVec.ofNat 64 a := BitVec.ofInt_natCast 64 a
theorem ibits_and {a b : Nat} (ha : a < 9223372036854775808) (hb : b < 9223372036854775808) : ibits .and .i64 (a : Int) (b : Int) = ((a &&& b : Nat) : Int) := by
  have h : (a &&& b) < 2 ^ 63 := by rw [Nat.and_comm]; exact Nat.and_lt_two_pow _ ha
  show IntKind.wrap .i64 (((BitVec.ofInt 64 (a : Int) &&& BitVec.ofInt 64 (b : Int)).toNat : Nat) : Int) = _
  rw [bv_nat, bv_nat, BitVec.toNat_and, BitVec.toNat_ofNat, BitVec.toNat_ofNat, Nat.mod_eq_of_lt (by omega), Nat.mod_eq_of_lt (by omega)]
  exact wrap64_nat h
theorem ibits_or {a b : Nat} (ha : a < 9223372036854775808) (hb : b < 9223372036854775808) : ibits .or .i64 (a : Int) (b : Int) = ((a ||| b : Nat) : Int) := by
  have h : (a ||| b) < 2 ^ 63 := Nat.or_lt_two_pow ha hb
  show IntKind.wrap .i64 (((BitVec.ofInt 64 (a : Int) ||| BitVec.ofInt 64 (b : Int)).toNat : Nat) : Int) = _
  rw [bv_nat, bv_nat, BitVec.toNat_or, BitVec.toNat_ofNat, BitVec.toNat_ofNat, Nat.mod_eq_of_lt (by omega), Nat.mod_eq_of_lt (by omega)]
  exact wrap64_nat h
theorem ibits_xor {a b : Nat} (ha : a < 9223372036854775808) (hb : b < 9223372036854775808) : ibits .xor .i64 (a : Int) (b : Int) = ((a ^^^ b : Nat) : Int) := by
  have h : (a ^^^ b) < 2 ^ 63 := Nat.xor_lt_two_pow ha hb
  show IntKind.wrap .i64 (((BitVec.ofInt 64 (a : Int) ^^^ BitVec.ofInt 64 (b : Int)).toNat : Nat) : Int) = _
  rw [bv_nat, bv_nat, BitVec.toNat_xor, BitVec.toNat_ofNat, BitVec.toNat_ofNat, Nat.mod_eq_of_lt (by omega), Nat.mod_eq_of_lt (by omega)]
  exact wrap64_nat h
theorem ibits_andNot {a b : Nat} (ha : a < 9223372036854775808) (hb : b < 9223372036854775808) : ibits .andNot .i64 (a : Int) (b : Int) = ((a ^^^ (a &&& b) : Nat) : Int) := by
  have h1 : (a &&& b) < 2 ^ 63 := by rw [Nat.and_comm]; exact Nat.and_lt_two_pow _ ha
  have h : (a ^^^ (a &&& b)) < 2 ^ 63 := Nat.xor_lt_two_pow ha h1
  have e : (BitVec.ofNat 64 a &&& ~~~ BitVec.ofNat 64 b).toNat = a ^^^ (a &&& b) := by
    apply Nat.eq_of_testBit_eq
    intro i
    rw [BitVec.testBit_toNat, BitVec.getLsbD_and, BitVec.getLsbD_not, BitVec.getLsbD_ofNat, BitVec.getLsbD_ofNat, Nat.testBit_xor, Nat.testBit_and]
    by_cases hi : i < 64
    · cases a.testBit i <;> cases b.testBit i <;> simp [hi]
    · have : a.testBit i = false := Nat.testBit_lt_two_pow (Nat.lt_of_lt_of_le ha (Nat.le_trans (by decide : 9223372036854775808 ≤ 2 ^ 64) (Nat.pow_le_pow_right (by decide) (by omega))))
      simp [this]
  show IntKind.wrap .i64 (((BitVec.ofInt 64 (a : Int) &&& ~~~ BitVec.ofInt 64 (b : Int)).toNat : Nat) : Int) = _
  rw [bv_nat, bv_nat, e]
  exact wrap64_nat h
theorem pow_small {j : Nat} (h : j < 63) : 2 ^ j < 9223372036854775808 := by
  have : 2 ^ j < 2 ^ 63 := Nat.pow_lt_pow_right (by decide) h
  simpa using this
theorem shlI_nat {a j : Nat} (hj : j ≤ 64) (h : a * 2 ^ j < 9223372036854775808) : shlI .i64 (a : Int) (j : Int) = ((a * 2 ^ j : Nat) : Int) := by
  unfold shlI
  simp only [IntKind.bits, Int.toNat_natCast]
  rw [Nat.min_eq_left hj, show ((a : Int) * 2 ^ j) = ((a * 2 ^ j : Nat) : Int) by simp]
  exact wrap64_nat h
theorem shlI_one {j : Nat} (h : j < 63) : shlI .i64 1 (j : Int) = ((2 ^ j : Nat) : Int) := by
  have := shlI_nat (a := 1) (j := j) (by omega) (by rw [Nat.one_mul]; exact pow_small h)
  simpa using this
theorem shrI_nat {a j : Nat} (hj : j ≤ 64) : shrI .i64 (a : Int) (j : Int) = ((a / 2 ^ j : Nat) : Int) := by
  unfold shrI
  simp only [IntKind.bits, Int.toNat_natCast]
  rw [Nat.min_eq_left hj, show ((2 : Int) ^ j) = ((2 ^ j : Nat) : Int) by simp, Int.fdiv_eq_ediv_of_nonneg _ (Int.natCast_nonneg _)]
  simp

-- maps
theorem mget_nil {kk kv : K} {k : kk.den} : mget kk kv [] k = none := rfl
theorem mpos_lt {kk kv : K} {l : List (kk.den × kv.den)} {k : kk.den} (h : mpos kk kv l k < l.length) : ∃ e, l[mpos kk kv l k]? = some e ∧ eqB kk k e.1 = true := by
  have := List.findIdx_getElem (xs := l) (p := fun (e : kk.den × kv.den) => eqB kk k e.1) (w := h)
  exact ⟨_, List.getElem?_eq_getElem h, this⟩
theorem find_modify {α : Type} {p : α → Bool} {x : α} : ∀ {l : List α} {i : Nat}, (∀ y, l[i]? = some y → p y = p x) → p x = false → (l.modify i (fun _ => x)).find? p = l.find? p
  | [], i, _, _ => by simp
  | y :: l, 0, h, hx => by
    have := h y rfl
    rw [hx] at this
    simp [List.modify, List.find?, this, hx]
  | y :: l, i + 1, h, hx => by
    have ih := find_modify (l := l) (i := i) (fun z hz => h z (by simpa using hz)) hx
    simp only [List.modify_succ_cons, List.find?_cons]
    rw [ih]
theorem find_modify_at {α : Type} {p : α → Bool} {x : α} (hx : p x = true) : ∀ {l : List α}, l.findIdx p < l.length → (l.modify (l.findIdx p) (fun _ => x)).find? p = some x
  | [], h => by simp at h
  | y :: l, h => by
    rw [List.findIdx_cons] at h ⊢
    cases hy : p y with
    | true => simp [hx]
    | false =>
      rw [hy] at h
      simp only [cond_false, List.length_cons] at h ⊢
      rw [List.modify_succ_cons, List.find?_cons, hy]
      exact find_modify_at hx (by omega)
theorem mget_mput {kk kv : K} (hc : kk.cmp = true) {l : List (kk.den × kv.den)} {k k' : kk.den} {v : kv.den} : mget kk kv (mput kk kv l k v) k' = if eqB kk k' k = true then some v else mget kk kv l k' := by
  unfold mget mput
  by_cases hk : eqB kk k' k = true
  · have := eqB_eq hc hk
    subst this
    rw [if_pos hk]
    split
    · rename_i h
      rw [show mpos kk kv l k' = l.findIdx (fun e => eqB kk k' e.1) from rfl] at h ⊢
      rw [find_modify_at (by exact hk) h]
      rfl
    · rename_i h
      have hn : l.find? (fun e => eqB kk k' e.1) = none := by
        rw [List.find?_eq_none]
        intro x hx hp
        exact h (List.findIdx_lt_length_of_exists ⟨x, hx, hp⟩)
      rw [List.find?_append, hn]
      simp [hk]
  · rw [if_neg hk]
    have hk' : eqB kk k' k = false := by simpa using hk
    split
    · rename_i h
      rw [find_modify (fun y hy => ?_) (by exact hk')]
      obtain ⟨e, he, hp⟩ := mpos_lt h
      rw [he] at hy
      cases hy
      rw [← eqB_eq hc hp]
    · rw [List.find?_append]
      simp [hk']
theorem foldl_snoc {α β : Type} (g : α → β) : ∀ (l : List α) (o : List β), l.foldl (fun o x => o ++ [g x]) o = o ++ l.map g
  | [], o => by simp
  | x :: l, o => by rw [List.foldl_cons, foldl_snoc g l]; simp
end Go.Proofs.Ytimkpdbghbhkkaa.Gp

/- Frames of a screen: what is shown, level by level. No program in sight. -/
set_option linter.unusedVariables false
noncomputable section
namespace Go.Proofs.Ytimkpdbghbhkkaa.Fr
open Go Go.Proofs.Ytimkpdbghbhkkaa.Gp

abbrev O := Int × (ByteArray × Int)
def isC (chip : ByteArray) (o : O) : Bool := streq o.2.1 chip
def badO (o : O) : Prop := o.1 < 0 ∨ o.1 > 100000 ∨ o.2.2 < 0 ∨ o.2.2 > 15
instance (o : O) : Decidable (badO o) := by unfold badO; infer_instance
def sStep (chip : ByteArray) (last : Int) (o : O) : Int ⊕ (Unit ⊕ (Int × Unit)) :=
  if isC chip o = false then .inl last else if badO o then .inr (.inr (1, ())) else if o.1 ≤ last then .inr (.inr (9, ())) else .inl o.1
def sWalk (chip : ByteArray) (outs : List O) : Unit ⊕ (Int × Unit) := walk (sStep chip) (fun _ => .inl ()) outs (-1)
def sfault (chip : ByteArray) (outs : List O) : Int := match sWalk chip outs with | .inl _ => 0 | .inr e => e.1
theorem bad_or (o : O) : cond (cond (cond (decide (o.1 < 0)) true (decide (o.1 > 100000))) true (decide (o.2.2 < 0))) true (decide (o.2.2 > 15)) = decide (badO o) := by
  have e : ∀ a b : Bool, cond a true b = (a || b) := fun a b => by cases a <;> rfl
  simp only [e, ← Bool.decide_or, badO]
  exact decide_eq_decide.2 (by omega)
theorem shown_lp (outs : List O) (chip : ByteArray) (hl : outs.length < 9223372036854775807) : Lp (fun k => shownFault40.l0 k outs chip) (-1, 0) (sWalk chip outs) := by
  refine Lp.walk (body := fun k => shownFault40.l0 k outs chip) outs (fun (b : Int) i => (b, i)) (sStep chip) (fun _ => .inl ()) (fun _ _ => True) (fun i o last hx _ => ⟨?_, fun _ _ => trivial⟩) (fun b _ => ?_) trivial
  · have hi := get_lt hx
    simp only [shownFault40.l0]
    refine .yes (decide_eq_true (by omega)) ?_
    have hw : w64 ((i : Int) + 1) = (i : Int) + 1 := w64_id (by omega) (by omega)
    unfold sStep
    by_cases hc : isC chip o = false
    · rw [if_pos hc]
      exact .joinL (S := Unit) (.val (rd_some' hx) (.yes (by rw [show streq o.2.1 chip = false from hc]; rfl) (.now _))) (.now' (by rw [hw]))
    · rw [if_neg hc]
      have hc : isC chip o = true := by simpa using hc
      have hc' : (!streq o.2.1 chip) = false := by rw [show streq o.2.1 chip = true from hc]; rfl
      by_cases hb : badO o
      · rw [if_pos hb]
        exact .joinR (.val (rd_some' hx) (.no hc' (.yes ((bad_or o).trans (decide_eq_true hb)) (.now _))))
      · rw [if_neg hb]
        by_cases hle : o.1 ≤ last
        · rw [if_pos hle]
          exact .joinR (.val (rd_some' hx) (.no hc' (.no ((bad_or o).trans (decide_eq_false hb)) (.yes (decide_eq_true hle) (.now _)))))
        · rw [if_neg hle]
          exact .joinL (S := Unit) (.val (rd_some' hx) (.no hc' (.no ((bad_or o).trans (decide_eq_false hb)) (.no (decide_eq_false hle) (.now _))))) (.now' (by rw [hw]))
  · simp only [shownFault40.l0]
    exact .no (by simp) (.now _)
theorem shown_ev (outs : List O) (chip : ByteArray) (hl : outs.length < 9223372036854775807) : Ev (fun k => shownFault40 k outs chip) (sfault chip outs, ()) := by
  unfold shownFault40 sfault
  have h := shown_lp outs chip hl
  cases hw : sWalk chip outs with
  | inl u => rw [hw] at h; exact .joinL (S := Unit) h.ev (.now _)
  | inr e => rw [hw] at h; exact .joinR h.ev
theorem same_l0 : @Check43.l0 = @shownFault40.l0 := rfl
theorem check_ev (outs : List O) (chip : ByteArray) (hl : outs.length < 9223372036854775807) : Ev (fun k => Check43 k outs chip) (sfault chip outs, ()) := by
  have h := shown_ev outs chip hl
  unfold shownFault40 at h
  unfold Check43
  rw [same_l0]
  exact h

/-- in order -/
def Ord (chip : ByteArray) : Int → List O → Prop
  | _, [] => True
  | last, o :: l => (isC chip o = false → Ord chip last l) ∧ (isC chip o = true → 0 ≤ o.1 ∧ last < o.1 ∧ Ord chip o.1 l)
theorem walk_ord (chip : ByteArray) : ∀ (outs : List O) (last : Int), walk (sStep chip) (fun _ => (.inl () : Unit ⊕ (Int × Unit))) outs last = .inl () → Ord chip last outs
  | [], _, _ => trivial
  | o :: l, last, h => by
    rw [walk_cons] at h
    unfold sStep at h
    refine ⟨fun hc => ?_, fun hc => ?_⟩
    · rw [if_pos hc] at h
      exact walk_ord chip l last h
    · rw [if_neg (by rw [hc]; decide)] at h
      by_cases hb : badO o
      · rw [if_pos hb] at h; cases h
      · rw [if_neg hb] at h
        by_cases hle : o.1 ≤ last
        · rw [if_pos hle] at h; cases h
        · rw [if_neg hle] at h
          unfold badO at hb
          exact ⟨by omega, by omega, walk_ord chip l o.1 h⟩
theorem walk_err (chip : ByteArray) : ∀ (outs : List O) (last : Int) (e : Int × Unit), walk (sStep chip) (fun _ => (.inl () : Unit ⊕ (Int × Unit))) outs last = .inr e → e.1 ≠ 0
  | [], _, _, h => by cases h
  | o :: l, last, e, h => by
    rw [walk_cons] at h
    unfold sStep at h
    by_cases hc : isC chip o = false
    · rw [if_pos hc] at h; exact walk_err chip l last e h
    · rw [if_neg hc] at h
      by_cases hb : badO o
      · rw [if_pos hb] at h; cases h; decide
      · rw [if_neg hb] at h
        by_cases hle : o.1 ≤ last
        · rw [if_pos hle] at h; cases h; decide
        · rw [if_neg hle] at h; exact walk_err chip l o.1 e h
theorem ord_of {chip : ByteArray} {outs : List O} (h : sfault chip outs = 0) : Ord chip (-1) outs := by
  unfold sfault at h
  cases hw : sWalk chip outs with
  | inl u => exact walk_ord chip outs (-1) hw
  | inr e => rw [hw] at h; exact absurd h (walk_err chip outs (-1) e hw)
theorem ord_later {chip : ByteArray} : ∀ {outs : List O} {last : Int}, Ord chip last outs → ∀ o ∈ outs, isC chip o = true → last < o.1
  | o :: l, last, h, x, hx, hc => by
    rcases List.mem_cons.1 hx with rfl | hx
    · exact (h.2 hc).2.1
    · cases hco : isC chip o with
      | false => exact ord_later (h.1 hco) x hx hc
      | true =>
        obtain ⟨_, h1, h2⟩ := h.2 hco
        have := ord_later h2 x hx hc
        omega

/-- the level at a time -/
def lvl (chip : ByteArray) (t : Int) (first : Int) (outs : List O) : Int := outs.foldl (fun f o => if isC chip o = true ∧ o.1 ≤ t then o.2.2 else f) first
theorem lvl_none {chip : ByteArray} {t : Int} : ∀ {outs : List O} {first : Int}, (∀ o ∈ outs, isC chip o = true → t < o.1) → lvl chip t first outs = first
  | [], _, _ => rfl
  | o :: l, first, h => by
    show lvl chip t (if isC chip o = true ∧ o.1 ≤ t then o.2.2 else first) l = first
    rw [if_neg (fun hh => by have := h o (List.mem_cons_self ..) hh.1; omega)]
    exact lvl_none (fun x hx => h x (List.mem_cons_of_mem _ hx))
theorem level_ev (outs : List O) (chip : ByteArray) (first t : Int) (hl : outs.length < 9223372036854775807) : Ev (fun k => Level20 k outs chip first t) (lvl chip t first outs, ()) := by
  unfold Level20 lvl
  refine .bind (a := outs.foldl (fun f o => if isC chip o = true ∧ o.1 ≤ t then o.2.2 else f) first) (Lp.ev ?_) (.now _)
  refine Lp.fold (body := fun k => Level20.l0 k outs chip t) outs (fun (b : Int) i => (b, i)) _ (fun b => b) (fun _ _ => True) (fun i o b hx _ => ⟨?_, trivial⟩) (fun b _ => ?_) trivial
  · have hi := get_lt hx
    simp only [Level20.l0]
    refine .yes (decide_eq_true (by omega)) (.val (rd_some' hx) (.bind (a := if isC chip o = true ∧ o.1 ≤ t then o.2.2 else b) ?_ (.now' (by rw [w64_id (by omega) (by omega)]))))
    by_cases hc : isC chip o = true
    · by_cases ht : o.1 ≤ t
      · rw [if_pos ⟨hc, ht⟩]
        exact .yes (by rw [show streq o.2.1 chip = true from hc]; exact decide_eq_true ht) (.now _)
      · rw [if_neg (fun hh => ht hh.2)]
        exact .no (by rw [show streq o.2.1 chip = true from hc]; exact decide_eq_false ht) (.now _)
    · rw [if_neg (fun hh => hc hh.1)]
      exact .no (by rw [show streq o.2.1 chip = false by simpa [isC] using hc]; rfl) (.now _)
  · simp only [Level20.l0]
    exact .no (by simp) (.now _)

/-- rounds that always go on -/
theorem rounds_ev {α S R : Type} {f : Nat → S → α → Option (S ⊕ R)} {K : Nat → S → Option R} (g : S → α → S) (Inv : Nat → S → Prop) {r : R} : ∀ (l : List α) (i0 : Nat) (s : S),
    (∀ i x s, l[i]? = some x → Inv (i0 + i) s → Ev (fun k => f k s x) (.inl (g s x)) ∧ Inv (i0 + i + 1) (g s x)) → Inv i0 s → Ev (fun k => K k (l.foldl g s)) r → Ev (fun k => rounds (f k) (K k) l s) r
  | [], i0, s, _, _, h => h
  | x :: l, i0, s, hs, hi, h => by
    obtain ⟨h1, h2⟩ := hs 0 x s rfl hi
    have ih := rounds_ev g Inv l (i0 + 1) (g s x) (fun i y s' hy hi' => by
      have := hs (i + 1) y s' (by simpa using hy) (by rwa [show i0 + (i + 1) = i0 + 1 + i by omega])
      rwa [show i0 + (i + 1) + 1 = i0 + 1 + i + 1 by omega] at this) h2 h
    show Ev (fun k => (f k s x).bind fun y => match y with | .inl s' => rounds (f k) (K k) l s' | .inr r => some r) r
    exact .bind h1 ih

/-- places from a to b hold v -/
def Filled (all all' : List Int) (a b : Nat) (v : Int) : Prop := all'.length = all.length ∧ ∀ i, all'[i]? = if a ≤ i ∧ i < b then some v else all[i]?
theorem filled_refl {all : List Int} {a b : Nat} {v : Int} (h : b ≤ a) : Filled all all a b v := ⟨rfl, fun i => by rw [if_neg (by omega)]⟩
theorem filled_step {all all' : List Int} {a b : Nat} {v : Int} (h1 : a < b) (hl : a < all.length) (h : Filled (all.set a v) all' (a + 1) b v) : Filled all all' a b v := by
  refine ⟨h.1.trans (by rw [List.length_set]), fun i => ?_⟩
  rw [h.2 i, List.getElem?_set]
  by_cases hi : a = i
  · subst hi
    rw [if_neg (by omega), if_pos rfl, if_pos hl, if_pos ⟨Nat.le_refl _, h1⟩]
  · rw [if_neg hi]
    by_cases h2 : a + 1 ≤ i ∧ i < b
    · rw [if_pos h2, if_pos (by omega)]
    · rw [if_neg h2, if_neg (by omega)]
theorem fill0_lp (v : Int) (o : O) : ∀ (m a : Nat) (all : List Int), max a (min all.length o.1.toNat) = a + m → all.length < 1000000 → ∃ all', Filled all all' a (a + m) v ∧
    Lp (fun k => Of41.l0 k v) ((), (a : Int), o, all) ((), ((a + m : Nat) : Int), o, all') := by
  intro m
  induction m with
  | zero =>
    intro a all h hN
    refine ⟨all, filled_refl (by omega), .done ?_⟩
    simp only [Of41.l0]
    by_cases h1 : a < all.length
    · have : ¬ (a : Int) < o.1 := by omega
      exact .no (by rw [decide_eq_true (show (a : Int) < (List.length all : Int) by omega)]; exact decide_eq_false this) (.now _)
    · exact .no (by rw [decide_eq_false (show ¬ (a : Int) < (List.length all : Int) by omega)]; rfl) (.now _)
  | succ m ih =>
    intro a all h hN
    have h1 : a < all.length := by omega
    have h2 : (a : Int) < o.1 := by omega
    obtain ⟨all', f1, f2⟩ := ih (a + 1) (all.set a v) (by rw [List.length_set]; omega) (by rw [List.length_set]; exact hN)
    rw [show a + 1 + m = a + (m + 1) by omega] at f1 f2
    refine ⟨all', filled_step (by omega) h1 f1, .step (s' := ((), ((a + 1 : Nat) : Int), o, all.set a v)) ?_ f2⟩
    simp only [Of41.l0]
    refine .yes (by rw [decide_eq_true (show (a : Int) < (List.length all : Int) by omega)]; exact decide_eq_true h2) (.val (rd_some' (List.getElem?_eq_getElem h1)) (.val (rd_some' (List.getElem?_eq_getElem h1)) (.now' ?_)))
    rw [w64_succ (by omega), Int.toNat_natCast]
theorem fill2_lp (v : Int) : ∀ (m a : Nat) (all : List Int), a + m = all.length → all.length < 1000000 → ∃ all', Filled all all' a (a + m) v ∧
    Lp (fun k => Of41.l2 k v) ((), (a : Int), all) ((), all') := by
  intro m
  induction m with
  | zero =>
    intro a all h hN
    refine ⟨all, filled_refl (by omega), .done ?_⟩
    simp only [Of41.l2]
    exact .no (decide_eq_false (by omega)) (.now _)
  | succ m ih =>
    intro a all h hN
    have h1 : a < all.length := by omega
    obtain ⟨all', f1, f2⟩ := ih (a + 1) (all.set a v) (by rw [List.length_set]; omega) (by rw [List.length_set]; exact hN)
    rw [show a + 1 + m = a + (m + 1) by omega] at f1
    refine ⟨all', filled_step (by omega) h1 f1, .step (s' := ((), ((a + 1 : Nat) : Int), all.set a v)) ?_ f2⟩
    simp only [Of41.l2]
    refine .yes (decide_eq_true (by omega)) (.val (rd_some' (List.getElem?_eq_getElem h1)) (.val (rd_some' (List.getElem?_eq_getElem h1)) (.now' ?_)))
    rw [w64_succ (by omega), Int.toNat_natCast]

/-- how far it is -/
structure OfI (chip : ByteArray) (first : Int) (outs suf : List O) (N : Nat) (f : Int) (a : Nat) (all : List Int) : Prop where
  len : all.length = N
  at_le : a ≤ N
  done : ∀ i, i < a → all[i]? = some (lvl chip i first outs)
  rest : ∀ i, a ≤ i → i < N → lvl chip i first outs = lvl chip i f suf
theorem of_lp (chip : ByteArray) (first : Int) (outs : List O) (N : Nat) (hN : N < 1000000) (hl : outs.length < 9223372036854775807) : ∀ (suf pre : List O) (last f : Int) (a : Nat) (all : List Int), outs = pre ++ suf → Ord chip last suf →
    OfI chip first outs suf N f a all → ∃ f' a' all', OfI chip first outs [] N f' a' all' ∧ Lp (fun k => Of41.l1 k outs chip) (f, (), (a : Int), (pre.length : Int), all) (f', (), (a' : Int), all') := by
  intro suf
  induction suf with
  | nil =>
    intro pre last f a all h ho hi
    rw [List.append_nil] at h
    subst h
    refine ⟨f, a, all, hi, .done ?_⟩
    simp only [Of41.l1]
    exact .no (by simp) (.now _)
  | cons o suf ih =>
    intro pre last f a all h ho hi
    have hx : outs[pre.length]? = some o := by rw [h]; simp
    have hlt := get_lt hx
    have hw : w64 ((pre.length : Int) + 1) = ((pre ++ [o]).length : Int) := by rw [w64_succ (by omega)]; simp
    by_cases hc : isC chip o = false
    · obtain ⟨f', a', all', g1, g2⟩ := ih (pre ++ [o]) last f a all (by rw [h]; simp) (ho.1 hc) ⟨hi.len, hi.at_le, hi.done, fun i h1 h2 => by
        rw [hi.rest i h1 h2]
        show lvl chip i (if isC chip o = true ∧ o.1 ≤ i then o.2.2 else f) suf = _
        rw [if_neg (fun hh => by rw [hc] at hh; cases hh.1)]⟩
      refine ⟨f', a', all', g1, .step ?_ g2⟩
      simp only [Of41.l1]
      refine .yes (decide_eq_true (by omega)) (.bind (.val (rd_some' hx) (.yes (by rw [show streq o.2.1 chip = false from hc]; rfl) (.now (f, (), (a : Int), all)))) (.now' ?_))
      rw [hw]
    · have hc : isC chip o = true := by simpa using hc
      obtain ⟨o0, o1, o2⟩ := ho.2 hc
      obtain ⟨m, hm⟩ : ∃ m, max a (min all.length o.1.toNat) = a + m := ⟨max a (min all.length o.1.toNat) - a, by omega⟩
      have hlen := hi.len
      have hale := hi.at_le
      obtain ⟨all', f1, f2⟩ := fill0_lp f o m a all hm (by omega)
      have hlater := ord_later o2
      have hlv : ∀ i : Nat, (i : Int) < o.1 → lvl chip i f (o :: suf) = f := fun i hi => lvl_none (fun x hx hcx => by
        rcases List.mem_cons.1 hx with rfl | hx
        · exact hi
        · have := hlater x hx hcx; omega)
      have hd : ∀ i, i < a + m → all'[i]? = some (lvl chip i first outs) := fun i hia => by
        rw [f1.2 i]
        by_cases hh : a ≤ i ∧ i < a + m
        · rw [if_pos hh, hi.rest i hh.1 (by omega), hlv i (by omega)]
        · rw [if_neg hh]
          exact hi.done i (by omega)
      have hr : ∀ i, a + m ≤ i → i < N → lvl chip i first outs = lvl chip i o.2.2 suf := fun i h1 h2 => by
        rw [hi.rest i (by omega) h2]
        show lvl chip i (if isC chip o = true ∧ o.1 ≤ i then o.2.2 else f) suf = _
        rw [if_pos ⟨hc, by omega⟩]
      obtain ⟨f', a', all2, g1, g2⟩ := ih (pre ++ [o]) o.1 o.2.2 (a + m) all' (by rw [h]; simp) o2 ⟨f1.1.trans hi.len, by omega, hd, hr⟩
      refine ⟨f', a', all2, g1, .step ?_ g2⟩
      simp only [Of41.l1]
      refine .yes (decide_eq_true (by omega)) (.bind (.val (rd_some' hx) (.no (by rw [show streq o.2.1 chip = true from hc]; rfl) (.bind f2.ev (.now (o.2.2, (), ((a + m : Nat) : Int), all'))))) (.now' ?_))
      rw [hw]

/-- frames of what is shown -/
def IsFrames (chip : ByteArray) (outs : List O) (first : Int) (n : Nat) (l : List (List Int)) : Prop :=
  l.length = n ∧ ∀ (k : Nat) x, l[k]? = some x → x.length = 2560 ∧ ∀ i, i < 2560 → x[i]? = some (lvl chip ((k * 2560 + i : Nat) : Int) first outs)
def efault (chip : ByteArray) (outs : List O) (first n : Int) : Int := if sfault chip outs ≠ 0 then sfault chip outs else if n < 0 ∨ n > 40 then 2 else if first < 0 ∨ first > 15 then 1 else 0
theorem clone_ev (s : List Int) (h0 : s.length ≠ 0) (h : s.length ≤ 1000000) : Ev (fun k => Clone49 k s) (s, ()) := by
  refine ⟨0, fun k _ => ?_⟩
  unfold Clone49
  rw [orNil_pos h0]
  show ((if room (0 + s.length) 8 then some () else none).bind fun _ => some (s, ())) = _
  rw [if_pos (room_ok (by omega))]
  rfl
theorem or2 (a b : Prop) [Decidable a] [Decidable b] : cond (decide a) true (decide b) = decide (a ∨ b) := by
  by_cases h : a <;> simp [h]
theorem foldl_id (g : List Int → List Int) : ∀ (l : List (List Int)) (s : Unit × Unit × List (List Int)), l.foldl (fun (s : Unit × Unit × List (List Int)) x => ((), (), s.2.2 ++ [x])) s = ((), (), s.2.2 ++ l)
  | [], s => by simp
  | x :: l, s => by rw [List.foldl_cons, foldl_id g l]; simp
theorem of_ev (chip : ByteArray) (outs : List O) (first n : Int) (hl : outs.length < 9223372036854775807) : ∃ l, Ev (fun k => Of41 k outs chip first n) ((l, efault chip outs first n, ()), ()) ∧ (efault chip outs first n ≠ 0 → l = []) ∧ (efault chip outs first n = 0 → 0 ≤ n ∧ n ≤ 40 ∧ IsFrames chip outs first n.toNat l) := by
  unfold Of41
  by_cases hs : sfault chip outs ≠ 0
  · have e : efault chip outs first n = sfault chip outs := if_pos hs
    refine ⟨[], .bind (check_ev outs chip hl) (.yes (bne_iff_ne.2 hs) (.now' (by rw [e]))), fun _ => rfl, fun h => absurd (e.symm.trans h) hs⟩
  have hs0 : sfault chip outs = 0 := by omega
  by_cases hn : n < 0 ∨ n > 40
  · have e : efault chip outs first n = 2 := by unfold efault; rw [if_neg hs, if_pos hn]
    refine ⟨[], .bind (check_ev outs chip hl) (.no (by simp [hs0]) (.yes ((or2 _ _).trans (decide_eq_true hn)) (.now' (by rw [e])))), fun _ => rfl, fun h => by rw [e] at h; cases h⟩
  by_cases hf : first < 0 ∨ first > 15
  · have e : efault chip outs first n = 1 := by unfold efault; rw [if_neg hs, if_neg hn, if_pos hf]
    refine ⟨[], .bind (check_ev outs chip hl) (.no (by simp [hs0]) (.no ((or2 _ _).trans (decide_eq_false hn)) (.yes ((or2 _ _).trans (decide_eq_true hf)) (.now' (by rw [e]))))), fun _ => rfl, fun h => by rw [e] at h; cases h⟩
  have e : efault chip outs first n = 0 := by unfold efault; rw [if_neg hs, if_neg hn, if_neg hf]
  obtain ⟨m, rfl⟩ : ∃ m : Nat, n = (m : Int) := ⟨n.toNat, by omega⟩
  have hm : m ≤ 40 := by omega
  have hN : w64 (w64 ((m : Int) * 64) * 40) = ((m * 2560 : Nat) : Int) := by
    have h1 : w64 ((m : Int) * 64) = (m : Int) * 64 := w64_id (by omega) (by omega)
    rw [h1, w64_id (by omega) (by omega)]; omega
  obtain ⟨f', a', all', i1, i2⟩ := of_lp chip first outs (m * 2560) (by omega) hl outs [] (-1) first 0 (List.replicate (m * 2560) 0) rfl (ord_of hs0) ⟨by simp, Nat.zero_le _, fun i hi => absurd hi (Nat.not_lt_zero _), fun _ _ _ => rfl⟩
  obtain ⟨q, hq⟩ : ∃ q, a' + q = all'.length := ⟨all'.length - a', by have := i1.len; have := i1.at_le; omega⟩
  obtain ⟨all2, g1, g2⟩ := fill2_lp f' q a' all' hq (by rw [i1.len]; omega)
  have hlen2 : all2.length = m * 2560 := g1.1.trans i1.len
  have hall : ∀ i, i < m * 2560 → all2[i]? = some (lvl chip i first outs) := fun i hi => by
    rw [g1.2 i]
    by_cases hh : a' ≤ i ∧ i < a' + q
    · rw [if_pos hh, i1.rest i hh.1 hi]; rfl
    · rw [if_neg hh]
      exact i1.done i (by have := i1.len; omega)
  have hpl : (pieces all2 2560).length = m := by rw [pieces_len, hlen2]; omega
  have hpx : ∀ (k : Nat) x, (pieces all2 2560)[k]? = some x → x.length = 2560 ∧ ∀ i, i < 2560 → x[i]? = some (lvl chip ((k * 2560 + i : Nat) : Int) first outs) := fun k x hx => by
    have hk : k < m := by
      have := get_lt hx
      omega
    rw [pieces_at (by decide) (by rw [hlen2]; omega)] at hx
    cases hx
    refine ⟨by rw [List.length_take, List.length_drop, hlen2]; omega, fun i hi => ?_⟩
    rw [List.getElem?_take_of_lt hi, List.getElem?_drop]
    exact hall _ (by omega)
  refine ⟨pieces all2 2560, .bind (check_ev outs chip hl) (.no (by simp [hs0]) (.no ((or2 _ _).trans (decide_eq_false hn)) (.no ((or2 _ _).trans (decide_eq_false hf)) ?_))), fun h => absurd e h, fun _ => ⟨by omega, by omega, by rw [Int.toNat_natCast]; exact hpl, hpx⟩⟩
  rw [hN]
  refine .val (a := ()) (if_pos ⟨by omega, by omega, by omega⟩) (.bind (a := (f', (), (a' : Int), all')) (by rw [Int.toNat_natCast]; exact i2.ev) (.bind g2.ev (.bind (a := ((all2, 2560, ()), ())) ?_ (.val (a := pieces all2 2560) ?_ ?_))))
  · unfold Chunk92
    exact .bind (a := (all2, (2560 : Int))) (.no rfl (.now _)) (.now _)
  · show chunks all2 2560 = _
    unfold chunks
    rw [if_pos ⟨by decide, by decide, by rw [hlen2]; omega⟩]
    rfl
  · refine rounds_ev (f := Of41.l3) (fun (s : Unit × Unit × List (List Int)) x => ((), (), s.2.2 ++ [x])) (fun i s => s.2.2.length = i) (pieces all2 2560) 0 ((), (), []) (fun i x s hx hi => ⟨?_, ?_⟩) rfl ?_
    · obtain ⟨x1, _⟩ := hpx i x hx
      have := get_lt hx
      obtain ⟨u1, u2, s⟩ := s
      simp only [Of41.l3]
      refine .bind (clone_ev x (by omega) (by omega)) (.val (a := ()) (if_pos (room_ok ?_)) (.now _))
      have hi : s.length = 0 + i := hi
      show (s.length + 1) * 24 ≤ _
      omega
    · show (s.2.2 ++ [x]).length = _
      rw [List.length_append, hi]; rfl
    · rw [foldl_id id]
      exact .now' (by rw [e]; rfl)
theorem seen_ev : Ev (fun k => seen42 k) (true, ()) := by
  have e : efault (ByteArray.mk #[118]) [(1, (ByteArray.mk #[118]), 3)] 2 1 = 0 := by decide +kernel
  obtain ⟨l, h1, _, h2⟩ := of_ev (ByteArray.mk #[118]) [(1, (ByteArray.mk #[118]), 3)] 2 1 (by decide)
  obtain ⟨_, _, h3, h4⟩ := h2 e
  rw [e] at h1
  obtain ⟨x, hx⟩ : ∃ x, l[0]? = some x := ⟨l[0]'(by rw [h3]; decide), List.getElem?_eq_getElem _⟩
  obtain ⟨x1, x2⟩ := h4 0 x hx
  have v0 : x[0]? = some 2 := (x2 0 (by decide)).trans (by decide +kernel)
  have v1 : x[1]? = some 3 := (x2 1 (by decide)).trans (by decide +kernel)
  unfold seen42
  refine .bind h1 (.bind (a := true) ?_ (.bind (a := true) ?_ (.bind (a := true) ?_ (.now _))))
  · refine .yes ?_ (.val (rd_at (i := 0) rfl hx) (.now' ?_))
    · show cond ((0 : Int) == 0) ((List.length l : Int) == 1) false = true
      rw [h3]; rfl
    · rw [x1]; rfl
  · exact .yes rfl (.val (rd_at (i := 0) rfl hx) (.val (rd_at (i := 0) rfl v0) (.now _)))
  · exact .yes rfl (.val (rd_at (i := 0) rfl hx) (.val (rd_at (i := 1) rfl v1) (.now _)))
end Go.Proofs.Ytimkpdbghbhkkaa.Fr

/- What an argument of a law reads as, kind by kind. -/
set_option linter.unusedVariables false
noncomputable section
namespace Go.Proofs.Ytimkpdbghbhkkaa.Gp
open Go Go.ChangeShapes Go.WideShapes Go.RowKit

/-- the input's memory, all of it frozen -/
def memH (W : World) : Hp := fun b => W.heap[b]?

structure Gd (P : Program) (t : TypeId) (k : K) (wf : k.den → Prop) (siz : k.den → Nat) : Prop where
  cells : P.cellsOf t = k.w
  one : k.one = true
  pur : k.pur = true
  val : ∀ {W : World} {r : Reach} {base : Nat} {v : Value}, Value.okWide P W r base t v → v = k.mk v.cells.toList
  read : ∀ {H : Type} {enc : TypeId × Value → H} {W : World} {base : Nat} {spare : Nat → Bool} {held : Bool} {fuel : Nat} {cs : List Value} {x : DataW H × List MemPlace},
    DataW.trod enc P W base spare held fuel t cs = some x → (∀ n ∈ x.1.weights P t, n ≤ reachBytes) → ∃ y, (∀ L, Lv (memH W) L k y cs) ∧ wf y ∧ siz y ≤ Rows.uptoBulk x.1

variable {P : Program}

theorem str_len {s : ByteArray} : s.data.toList.length = s.size := Array.length_toList
theorem gd_int {t : TypeId} {k : IntKind} (hu : P.underlying t = some (.int k)) (hc : P.cellsOf t = 1) : Gd P t (.int k) (fun (y : Int) => (Lit.int k y).wf = true) (fun _ => 1) :=
  ⟨hc, rfl, rfl, fun h => by obtain ⟨n, rfl⟩ := okWide_int hu h; rfl, fun h _ => by
    obtain ⟨n, rfl, rfl, hw⟩ := DataW.trod_int hu h
    exact ⟨n, fun _ => rfl, hw, by simp [Rows.uptoBulk]⟩⟩
theorem gd_bool {t : TypeId} (hu : P.underlying t = some .bool) (hc : P.cellsOf t = 1) : Gd P t .bool (fun _ => True) (fun _ => 1) :=
  ⟨hc, rfl, rfl, fun h => by
    simp only [Value.okWide, hu, Cell.okWide] at h
    rename_i v
    cases v <;> first | rfl | (simp_all [Cell.ok]; done), fun h _ => by
    obtain ⟨n, rfl, rfl⟩ := DataW.trod_bool hu h
    exact ⟨n, fun _ => rfl, trivial, by simp [Rows.uptoBulk]⟩⟩
theorem gd_str {t : TypeId} (hu : P.underlying t = some .string) (hc : P.cellsOf t = 1) : Gd P t .str (fun (y : ByteArray) => y.size ≤ 140737488351232) (fun (y : ByteArray) => y.size + 1) :=
  ⟨hc, rfl, rfl, fun h => by
    simp only [Value.okWide, hu, Cell.okWide] at h
    rename_i v
    cases v <;> first | rfl | (simp_all [Cell.ok]; done), fun h hw => by
    obtain ⟨s, rfl, rfl, _⟩ := DataW.trod_string hu h
    refine ⟨s, fun _ => rfl, ?_, ?_⟩
    · have := hw s.data.toList.length (by simp [DataW.weights])
      rw [str_len] at this
      exact this
    · simp only [Rows.uptoBulk]
      rw [str_len]
      omega⟩

theorem weights_all {H : Type} {e : TypeId} {n : Nat} : ∀ {l : List (DataW H)} {d : DataW H}, d ∈ l → n ∈ d.weights P e → n ∈ DataW.weightsAll P e l
  | x :: r, d, hd, hn => by
    rw [DataW.weightsAll]
    rcases List.mem_cons.1 hd with rfl | hd
    · exact List.mem_append_left _ hn
    · exact List.mem_append_right _ (weights_all hd hn)
theorem buildL {α : Type} {H : Type} {wf : α → Prop} {siz : α → Nat} : ∀ (es : List (DataW H × List MemPlace)) (p : Nat → α → Prop),
    (∀ i x, es[i]? = some x → ∃ y, p i y ∧ wf y ∧ siz y ≤ Rows.uptoBulk x.1) →
    ∃ ys : List α, ys.length = es.length ∧ (∀ j y, ys[j]? = some y → p j y ∧ wf y) ∧ (ys.map siz).sum ≤ Rows.uptoBulkAll (es.map (·.1))
  | [], _, _ => ⟨[], rfl, fun j y h => by simp at h, by simp⟩
  | x :: r, p, h => by
    obtain ⟨y, hp, hw, hs⟩ := h 0 x rfl
    obtain ⟨ys, hl, hy, hsum⟩ := buildL r (fun i => p (i + 1)) (fun i x hx => h (i + 1) x (by simpa using hx))
    refine ⟨y :: ys, by simp [hl], fun j z hz => ?_, ?_⟩
    · cases j with
      | zero => simp only [List.getElem?_cons_zero, Option.some.injEq] at hz; subst hz; exact ⟨hp, hw⟩
      | succ j => exact hy j z (by simpa using hz)
    · simp only [List.map_cons, List.sum_cons, Rows.uptoBulkAll]
      omega

def sizL {α : Type} (siz : α → Nat) (l : List α) : Nat := (l.map siz).sum + 1
def wfL {α : Type} (B : Nat) (wf : α → Prop) (l : List α) : Prop := l.length * B ≤ 140737488351232 ∧ ∀ y ∈ l, wf y

theorem LvL_mk {α : Type} {R : α → List Value → Prop} {w : Nat} {C : List Value} : ∀ {ys : List α} {o : Nat}, (∀ j y, ys[j]? = some y → ∃ c : List Value, c.length = w ∧ R y c ∧ ∀ i u, c[i]? = some u → C[o + (j * w + i)]? = some u) →
    LvL R ys ((C.drop o).take (ys.length * w))
  | [], o, h => by simp [LvL]
  | y :: ys, o, h => by
    obtain ⟨c, hc, hr, hu⟩ := h 0 y rfl
    have e : (C.drop o).take w = c := by
      apply List.ext_getElem?
      intro i
      rw [cut_get]
      by_cases hi : i < w
      · rw [if_pos hi]
        have hi' : i < c.length := by omega
        have := hu i c[i] (List.getElem?_eq_getElem hi')
        rw [Nat.zero_mul, Nat.zero_add] at this
        rw [this, List.getElem?_eq_getElem hi']
      · rw [if_neg hi, List.getElem?_eq_none (by omega)]
    refine ⟨c, (C.drop (o + w)).take (ys.length * w), ?_, hr, LvL_mk (fun j z hz => ?_)⟩
    · rw [List.length_cons, Nat.add_mul, Nat.one_mul, Nat.add_comm (ys.length * w) w, List.take_add, e, List.drop_drop]
    · obtain ⟨c', h1, h2, h3⟩ := h (j + 1) z hz
      refine ⟨c', h1, h2, fun i u hi => ?_⟩
      have := h3 i u hi
      rw [Nat.add_mul, Nat.one_mul] at this
      rw [show o + w + (j * w + i) = o + (j * w + w + i) by omega]
      exact this

theorem gd_sl {t e : TypeId} {k : K} {wf : k.den → Prop} {siz : k.den → Nat} {B : Nat} (hu : P.underlying t = some (.slice e)) (hc : P.cellsOf t = 1) (hB : P.bytesOf e = B) (hk : 0 < k.w) (r : Gd P e k wf siz) :
    Gd P t (.sl k) (wfL (α := k.den) B wf) (sizL (α := k.den) siz) :=
  ⟨hc, rfl, r.pur, fun h => by obtain ⟨a, len, cap, rfl⟩ := okWide_slice hu h; rfl, fun {H enc W base spare held fuel cs x} h hw => by
    rcases DataW.trod_slice hu h with ⟨rfl, rfl⟩ | ⟨a, len, cap, elems, rest, n, _, rfl, rfl, hb, hl, hm, hlen, hel, _, _⟩
    · exact ⟨([] : List k.den), fun L => ⟨r.pur, none, 0, rfl, Nat.le_refl _, fun hn => absurd rfl hn⟩, ⟨by simp, fun y hy => by simp at hy⟩, by simp [sizL, Rows.uptoBulk]⟩
    · simp only [DataW.weights, hu] at hw
      have hw1 : (elems.length + rest.length) * B ≤ 140737488351232 := by
        have := hw ((elems.length + rest.length) * B) (by simp [hB])
        exact this
      obtain ⟨ys, hyl, hyp, hys⟩ := buildL (wf := wf) (siz := siz) elems (fun i y => ∃ c : List Value, c.length = k.w ∧ (∀ L, Lv (memH W) L k y c) ∧ ∀ j u, c[j]? = some u → W.cell? (a.add (i * k.w + j)) = some u) (fun i z hz => by
        have hi : i < len := by
          have := (List.getElem?_eq_some_iff.1 hz).1
          omega
        have h1 := hel i hi
        rw [hz] at h1
        obtain ⟨c, hc1, hc2⟩ := Option.bind_eq_some_iff.1 h1
        obtain ⟨y, hK, hwf, hsz⟩ := r.read hc2 (fun q hq => hw q (List.mem_cons_of_mem _ (List.mem_append_left _ (weights_all (List.mem_map.2 ⟨z, List.mem_of_getElem? hz, rfl⟩) hq))))
        obtain ⟨_, hcl, hcell⟩ := World.cells?_some hc1
        refine ⟨y, ⟨c, Lv_len (hK default), hK, fun j u hu => ?_⟩, hwf, hsz⟩
        have hj : j < P.cellsOf e := by
          have := (List.getElem?_eq_some_iff.1 hu).1
          omega
        have h3 := hcell j hj
        rw [Go.Deep.add_add, r.cells] at h3
        rw [h3]
        exact hu)
      refine ⟨ys, fun L => ⟨r.pur, some a, cap, by rw [hyl, hlen], by omega, fun hn => ?_⟩, ⟨?_, fun y hy => ?_⟩, ?_⟩
      · have hn : ys.length ≠ 0 := hn
        obtain ⟨y, hy⟩ : ∃ y, ys[0]? = some y := ⟨ys[0]'(by omega), List.getElem?_eq_getElem (by omega)⟩
        obtain ⟨c, c1, c2, c3⟩ := (hyp 0 y hy).1
        obtain ⟨u, hu0⟩ : ∃ u, c[0]? = some u := ⟨c[0]'(by omega), List.getElem?_eq_getElem (by omega)⟩
        have hcell := c3 0 u hu0
        rw [Nat.zero_mul, Nat.zero_add, show a.add 0 = a from rfl] at hcell
        unfold World.cell? at hcell
        split at hcell
        · rename_i C ee zz hblk
          split at hcell
          · cases hcell
          · rename_i hsp
            have hsp : a.spot = none := by cases hs : a.spot with | none => rfl | some q => rw [hs] at hsp; exact absurd rfl hsp
            refine ⟨a.block, a.off, C, ee, zz, by cases a; simp only at hsp; rw [hsp], hblk, LvL_mk (C := C.toList) (fun j y hy => ?_)⟩
            obtain ⟨c, c1, c2, c3⟩ := (hyp j y hy).1
            refine ⟨c, c1, c2 L, fun i u hi => ?_⟩
            have h5 := c3 i u hi
            have hadd : (a.add (j * k.w + i)).block = a.block ∧ (a.add (j * k.w + i)).off = a.off + (j * k.w + i) ∧ (a.add (j * k.w + i)).spot = none := by
              unfold Addr.add
              split
              · rename_i h0; exact ⟨rfl, by omega, hsp⟩
              · exact ⟨rfl, rfl, rfl⟩
            unfold World.cell? at h5
            rw [hadd.1, hblk, hadd.2.1, hadd.2.2] at h5
            rw [Array.getElem?_toList]
            exact h5
        · cases hcell
      · rw [hyl]
        exact Nat.le_trans (Nat.mul_le_mul_right _ (Nat.le_add_right _ _)) hw1
      · obtain ⟨j, hj⟩ := List.mem_iff_getElem?.1 hy
        exact (hyp j y hj).2
      · simp only [sizL, Rows.uptoBulk]
        omega⟩

/-- arrays -/
def sizA {α : Type} (siz : α → Nat) (l : List α) : Nat := (l.map siz).sum
def wfA {α : Type} (n : Nat) (wf : α → Prop) (l : List α) : Prop := l.length = n ∧ ∀ y ∈ l, wf y
theorem gd_arr {t e : TypeId} {n : Nat} {k : K} {wf : k.den → Prop} {siz : k.den → Nat} (hu : P.underlying t = some (.array n e)) (hc : P.cellsOf t = n * k.w) (r : Gd P e k wf siz) :
    Gd P t (.arr n k) (wfA (α := k.den) n wf) (sizA (α := k.den) siz) :=
  ⟨hc, rfl, r.pur, fun h => by
    simp only [Value.okWide, hu] at h
    obtain ⟨cs, rfl, _⟩ := h
    rfl, fun {H enc W base spare held fuel cs x} h hw => by
    obtain ⟨xs, m, _, rfl, hl, hxl, hx⟩ := DataW.trod_array hu h
    simp only [DataW.weights, hu] at hw
    obtain ⟨ys, hyl, hyp, hys⟩ := buildL (wf := wf) (siz := siz) xs (fun i y => ∀ L, Lv (memH W) L k y ((cs.drop (i * k.w)).take k.w)) (fun i z hz => by
      have hi : i < n := by
        have := (List.getElem?_eq_some_iff.1 hz).1
        omega
      have h1 := hx i hi
      rw [hz, r.cells] at h1
      obtain ⟨y, hK, hwf, hsz⟩ := r.read h1 (fun q hq => hw q (weights_all (List.mem_map.2 ⟨z, List.mem_of_getElem? hz, rfl⟩) hq))
      exact ⟨y, hK, hwf, hsz⟩)
    refine ⟨ys, fun L => ⟨r.pur, hyl.trans hxl, ?_⟩, ⟨hyl.trans hxl, fun y hy => ?_⟩, ?_⟩
    · have := LvL_mk (w := k.w) (R := Lv (memH W) L k) (C := cs) (ys := ys) (o := 0) (fun j y hy => ⟨(cs.drop (j * k.w)).take k.w, Lv_len ((hyp j y hy).1 L), (hyp j y hy).1 L, fun i u hi => by
        rw [cut_get] at hi
        split at hi
        · rw [Nat.zero_add]; exact hi
        · cases hi⟩)
      rwa [List.drop_zero, List.take_of_length_le (by rw [hl, hc, hyl, hxl]; exact Nat.le_refl _)] at this
    · obtain ⟨j, hj⟩ := List.mem_iff_getElem?.1 hy
      exact (hyp j y hj).2
    · simp only [sizA, Rows.uptoBulk]
      omega⟩

/-- fields in line, from cell 'off' on -/
structure GdF (P : Program) (off : Nat) (fs : List Field) (k : K) (wf : k.den → Prop) (siz : k.den → Nat) : Prop where
  pur : k.pur = true
  read : ∀ {H : Type} {enc : TypeId × Value → H} {W : World} {base : Nat} {spare : Nat → Bool} {held : Bool} {fuel : Nat} {cs : List Value} {xs : List (DataW H × List MemPlace)},
    cs.length = off + k.w → xs.length = fs.length →
    (∀ (i : Nat) (f : Field), fs[i]? = some f → DataW.trod enc P W base spare held fuel f.type ((cs.drop f.offset).take (P.cellsOf f.type)) = xs[i]?) →
    (∀ n ∈ DataW.weightsEach P (fs.map (·.type)) (xs.map (·.1)), n ≤ reachBytes) →
    ∃ y, (∀ L, Lv (memH W) L k y (cs.drop off)) ∧ wf y ∧ siz y ≤ Rows.uptoBulkAll (xs.map (·.1))

theorem gdf_nil {off : Nat} : GdF P off [] .unit (fun _ => True) (fun _ => 0) :=
  ⟨rfl, fun {H enc W base spare held fuel cs xs} hl hxl hx hw => ⟨(), fun L => by
    show cs.drop off = []
    exact List.drop_eq_nil_of_le (by rw [hl]; exact Nat.le_refl _), trivial, Nat.zero_le _⟩⟩
theorem gdf_cons {off : Nat} {f : Field} {fs : List Field} {k k' : K} {wf : k.den → Prop} {wf' : k'.den → Prop} {siz : k.den → Nat} {siz' : k'.den → Nat} (ho : f.offset = off) (r : Gd P f.type k wf siz)
    (rs : GdF P (off + k.w) fs k' wf' siz') : GdF P off (f :: fs) (.pair k k') (fun (y : k.den × k'.den) => wf y.1 ∧ wf' y.2) (fun (y : k.den × k'.den) => siz y.1 + siz' y.2) := by
  refine ⟨by simp only [K.pur, r.pur, rs.pur]; rfl, ?_⟩
  intro H enc W base spare held fuel cs xs hl hxl hx hw
  have hl' : cs.length = off + (k.w + k'.w) := hl
  match xs, hxl with
  | x :: xs, hxl =>
    have h := hx 0 f rfl
    rw [ho, r.cells] at h
    simp only [List.getElem?_cons_zero] at h
    obtain ⟨y, h1, h2, h3⟩ := r.read h (fun n hn => hw n (by simp [DataW.weightsEach, hn]))
    obtain ⟨z, g1, g2, g3⟩ := rs.read (enc := enc) (W := W) (base := base) (spare := spare) (held := held) (fuel := fuel) (cs := cs) (xs := xs) (by omega) (by simpa using hxl)
      (fun i g hg => by simpa using hx (i + 1) g (by simpa using hg)) (fun n hn => hw n (by simp only [List.map_cons, DataW.weightsEach]; exact List.mem_append_right _ hn))
    refine ⟨(y, z), fun L => ⟨(cs.drop off).take k.w, cs.drop (off + k.w), ?_, h1 L, g1 L⟩, ⟨h2, g2⟩, ?_⟩
    · rw [← List.drop_drop]
      exact (List.take_append_drop _ _).symm
    · simp only [List.map_cons, Rows.uptoBulkAll]
      omega
theorem gdf_one {off : Nat} {f : Field} {k : K} {wf : k.den → Prop} {siz : k.den → Nat} (ho : f.offset = off) (r : Gd P f.type k wf siz) : GdF P off [f] k wf siz := by
  refine ⟨r.pur, ?_⟩
  intro H enc W base spare held fuel cs xs hl hxl hx hw
  match xs, hxl with
  | [x], hxl =>
    have h := hx 0 f rfl
    rw [ho, r.cells] at h
    simp only [List.getElem?_cons_zero] at h
    have e : (cs.drop off).take k.w = cs.drop off := List.take_of_length_le (by rw [List.length_drop, hl]; omega)
    rw [e] at h
    obtain ⟨y, h1, h2, h3⟩ := r.read h (fun n hn => hw n (by simp [DataW.weightsEach, hn]))
    refine ⟨y, h1, h2, ?_⟩
    simp only [List.map_cons, List.map_nil, Rows.uptoBulkAll]
    omega
theorem gd_st {t : TypeId} {fs : Array Field} {k : K} {wf : k.den → Prop} {siz : k.den → Nat} (hu : P.underlying t = some (.struct fs)) (hc : P.cellsOf t = k.w) (r : GdF P 0 fs.toList k wf siz) : Gd P t (.st k) wf siz :=
  ⟨hc, rfl, r.pur, fun h => by
    simp only [Value.okWide, hu] at h
    obtain ⟨cs, rfl, _⟩ := h
    rfl, fun h hw => by
    obtain ⟨xs, n, _, rfl, hl, hxl, hx⟩ := DataW.trod_struct hu h
    obtain ⟨y, h1, h2, h3⟩ := r.read (by rw [hl, hc]; omega) (by rw [hxl]; simp) (fun i f hf => hx i f (by simpa using hf)) (fun n hn => hw n (by simp only [DataW.weights, hu]; exact hn))
    refine ⟨y, h1, h2, ?_⟩
    simp only [Rows.uptoBulk]
    omega⟩

/-- an argument -/
theorem Gd.arg {t : TypeId} {k : K} {wf : k.den → Prop} {siz : k.den → Nat} (r : Gd P t k wf siz) {H : Type} {enc : TypeId × Value → H} {W : World} {base : Nat} {spare : Nat → Bool} {held : Bool} {rr : Reach} {b2 : Nat} {v : Value} {x : DataW H} {ps : List MemPlace}
    (hval : Value.okWide P W rr b2 t v) (h : DataW.Trod enc P W base spare held t v x ps) (hw : ∀ n ∈ x.weights P t, n ≤ reachBytes) : ∃ y : k.den, (∀ L, SR (memH W) L ⟨k, y⟩ v) ∧ wf y ∧ siz y ≤ Rows.uptoBulk x := by
  obtain ⟨fuel, hf⟩ := h
  obtain ⟨y, h1, h2, h3⟩ := r.read hf hw
  refine ⟨y, fun L => ?_, h2, h3⟩
  rw [r.val hval]
  exact SR_mk (h1 L)

def noLoc : Ls := fun _ => default
theorem law_calls {fuel : Nat} {f : FuncId} {params : List K} {run : Nat → HL params → HL (List.map (·.toK) ([] : List OK)) → Option (K.bool.den × HL (List.map (·.toK) ([] : List OK)))} (hs : SoundAt P fuel ⟨f, params, [], .bool, [], [], run⟩) {ds : HL params}
    (hr : run fuel ds () = some (true, ())) {args : Array Value} {W : World} (hv : SRs (memH W) noLoc (unpackL params ds) args.toList) : Calls P f args W (fun e W' => e = .returned (.bool true) ∧ Below W.heap.size W W') := by
  have hno : ∀ b, ¬ Own (assoc O.dead (objsFrom 0 ([] : List OK) ())) noLoc b := fun b ⟨i, hi, _⟩ => hi
  refine Calls.mono (hs.2 ds () (true, ()) hr args W (memH W) noLoc hv ⟨fun i => trivial, fun b o h => h, fun i hi => hi.elim, fun i j hi => hi.elim⟩ (fun i hi => by cases hi)) fun e W' hh => ?_
  obtain ⟨v, H', L', rfl, h1, _, _, hp⟩ := hh
  have h1 : SR H' L' ⟨.bool, true⟩ v := h1
  refine ⟨by rw [bool_at h1], hp.fr.os, hp.fr.tape, hp.fr.output, hp.fr.size, fun b hb => hp.fr.same b hb (hno b)⟩
/-- The weights of one argument. -/
theorem weights_at {H : Type} {ts : List TypeId} {ds : List (DataW H)} (hsz : (DataW.weightsEach P ts ds).all (· ≤ reachBytes) = true) (j : Nat) {t : TypeId} {d : DataW H} (ht : ts[j]? = some t) (hd : ds[j]? = some d) :
    ∀ n ∈ d.weights P t, n ≤ reachBytes := fun n hn => by
  have := List.all_eq_true.1 hsz n (DataW.weights_mem_each ht hd n hn)
  simpa using this

/-- The bulk of one argument. -/
theorem bulk_at {H : Type} {l : List (DataW H)} (hk : Rows.uptoSmall H l = true) {d : DataW H} (hd : d ∈ l) : Rows.uptoBulk d ≤ 1048576 := by
  have h : Rows.uptoBulkAll l ≤ 1048576 := of_decide_eq_true hk
  have key : ∀ {l : List (DataW H)}, d ∈ l → Rows.uptoBulk d ≤ Rows.uptoBulkAll l := by
    intro l
    induction l with
    | nil => intro h; simp at h
    | cons x r ih =>
      intro h
      simp only [Rows.uptoBulkAll]
      rcases List.mem_cons.1 h with rfl | h
      · omega
      · have := ih h
        omega
  exact Nat.le_trans (key hd) h
end Go.Proofs.Ytimkpdbghbhkkaa.Gp

/- Frames of a screen: the law of frames. No program in sight. -/
set_option linter.unusedVariables false
set_option maxRecDepth 100000
noncomputable section
namespace Go.Proofs.Ytimkpdbghbhkkaa.Fr
open Go Go.Proofs.Ytimkpdbghbhkkaa.Gp

def badC (c : Int) : Bool := decide (c < 0 ∨ c > 15)
def rfault (f : List Int) : Int := if f.length ≠ 2560 then 3 else if f.any badC then 1 else 0
theorem walk_bad {α R : Type} (bad : α → Bool) (e fin : R) : ∀ (l : List α), walk (fun (_ : Unit) x => if bad x then (.inr e : Unit ⊕ R) else .inl ()) (fun _ => fin) l () = if l.any bad then e else fin
  | [] => rfl
  | x :: l => by
    rw [walk_cons, List.any_cons]
    cases h : bad x with
    | true => simp
    | false => simpa using walk_bad bad e fin l
theorem len_ne (f : List Int) : ((List.length f : Int) != 2560) = decide (f.length ≠ 2560) := by
  rw [Bool.eq_iff_iff, bne_iff_ne, decide_eq_true_iff]; omega
theorem right_ev (f : List Int) : Ev (fun k => Right45 k f) (rfault f, ()) := by
  unfold Right45 rfault
  rw [len_ne]
  refine .iff (fun h => .now' (by rw [if_pos h])) (fun h => ?_)
  rw [if_neg h]
  have hlen : f.length = 2560 := Decidable.byContradiction fun hn => h hn
  have hw : Lp (fun k => Right45.l0 k f) 0 (if f.any badC then .inr (1, ()) else .inl ()) := by
    rw [← walk_bad (R := Unit ⊕ (Int × Unit))]
    refine Lp.walk (body := fun k => Right45.l0 k f) f (fun (_ : Unit) i => i) _ _ (fun _ _ => True) (fun i x b hx _ => ⟨?_, fun _ _ => trivial⟩) (fun b _ => ?_) (b := ()) trivial
    · have hi := get_lt hx
      simp only [Right45.l0]
      refine .yes (decide_eq_true (by omega)) (.val (rd_some' hx) ?_)
      rw [or2]
      refine .cnd (fun h => .now' ?_) (fun h => .now' ?_)
      · rw [if_pos (show badC x = true from h)]
      · rw [if_neg (by rw [show badC x = false from h]; decide), w64_id (by omega) (by omega)]
    · simp only [Right45.l0]
      exact .no (by simp) (.now _)
  by_cases hb : f.any badC = true
  · rw [if_pos hb] at hw ⊢
    exact .joinR hw.ev
  · rw [if_neg hb] at hw ⊢
    exact .joinL (S := Unit) (a := ()) hw.ev (.now _)
theorem rfold (l : List Int) : ∀ (r : Int), l.foldl (fun r c => if r = 0 ∧ badC c = true then 1 else r) r = if r ≠ 0 then r else if l.any badC then 1 else 0 := by
  induction l with
  | nil =>
    intro r
    show r = _
    by_cases h : r ≠ 0
    · rw [if_pos h]
    · rw [if_neg h]; simp; omega
  | cons c l ih =>
    intro r
    rw [List.foldl_cons, ih, List.any_cons]
    by_cases h : r ≠ 0
    · rw [if_neg (show ¬ (r = 0 ∧ badC c = true) from fun hh => h hh.1), if_pos h, if_pos h]
    · have h0 : r = 0 := by omega
      subst h0
      cases hb : badC c with
      | true => simp
      | false => simp
theorem r_lp (f : List Int) (hf : f.length < 9223372036854775807) (r : Int) : Lp (fun k => FrameOfs8.l2 k f) (r, 0) (if r ≠ 0 then r else if f.any badC then 1 else 0) := by
  rw [← rfold]
  refine Lp.fold (body := fun k => FrameOfs8.l2 k f) f (fun (b : Int) i => (b, i)) (fun r c => if r = 0 ∧ badC c = true then 1 else r) (fun b => b) (fun _ _ => True) (fun i x b hx _ => ⟨?_, trivial⟩) (fun b _ => ?_) trivial
  · have hi := get_lt hx
    simp only [FrameOfs8.l2]
    refine .yes (decide_eq_true (by omega)) (.val (rd_some' hx) (.bind (a := if b = 0 ∧ badC x = true then 1 else b) ?_ (.now' (by rw [w64_id (by omega) (by omega)]))))
    rw [or2]
    by_cases h0 : b = 0
    · by_cases hb : badC x = true
      · rw [if_pos ⟨h0, hb⟩]
        exact .yes (by rw [h0]; exact hb) (.now _)
      · rw [if_neg (fun hh => hb hh.2)]
        exact .no (by rw [h0]; exact (Bool.not_eq_true _).mp hb) (.now _)
    · rw [if_neg (fun hh => h0 hh.1)]
      exact .no (by rw [show (b == 0) = false by simpa using h0]; rfl) (.now _)
  · simp only [FrameOfs8.l2]
    exact .no (by simp) (.now _)

/-- one cycle: what changes the color -/
def gS (chip : ByteArray) (f : List Int) (s : Int × List O) (t : Nat) : Int × List O := if f.getD (t % 2560) 0 ≠ s.1 then (f.getD (t % 2560) 0, s.2 ++ [((t : Int), chip, f.getD (t % 2560) 0)]) else s
theorem gS_len (chip : ByteArray) (f : List Int) (s : Int × List O) (t : Nat) : (gS chip f s t).2.length ≤ s.2.length + 1 := by
  unfold gS
  split
  · simp
  · omega
def allO (chip : ByteArray) (f : List Int) (first : Int) : List O := ((List.range 5120).foldl (gS chip f) (first, [])).2
theorem fold_len (chip : ByteArray) (f : List Int) : ∀ (l : List Nat) (s : Int × List O), (l.foldl (gS chip f) s).2.length ≤ s.2.length + l.length
  | [], s => by simp
  | t :: l, s => by
    rw [List.foldl_cons]
    have h1 := fold_len chip f l (gS chip f s t)
    have h2 := gS_len chip f s t
    rw [List.length_cons]
    omega
theorem outs_l0 (chip : ByteArray) (f : List Int) (hf : f.length = 2560) (k : Nat) (hk : k < 2) (s : Int × List O) (hs : s.2.length ≤ k * 2560) :
    Lp (fun kk => Outs44.l0 kk chip (k : Int) f) (s.1, (), 0, s.2) ((((List.range 2560).foldl (fun b i => gS chip f b (k * 2560 + i)) s).1), (), (((List.range 2560).foldl (fun b i => gS chip f b (k * 2560 + i)) s).2)) := by
  refine Lp.count (body := fun kk => Outs44.l0 kk chip (k : Int) f) 2560 (fun (b : Int × List O) i => (b.1, (), i, b.2)) (fun b i => gS chip f b (k * 2560 + i)) (fun b => (b.1, (), b.2)) (fun i b => b.2.length ≤ k * 2560 + i) (fun i b hi hb => ⟨?_, ?_⟩) (fun b _ => ?_) (b := s) (by omega)
  · obtain ⟨x, hx⟩ : ∃ x, f[i]? = some x := ⟨f[i]'(by omega), List.getElem?_eq_getElem _⟩
    have hm : (k * 2560 + i) % 2560 = i := by omega
    have hg : f.getD i 0 = x := by rw [List.getD_eq_getElem?_getD, hx]; rfl
    have hw : w64 (w64 (w64 ((k : Int) * 64) * 40) + (i : Int)) = ((k * 2560 + i : Nat) : Int) := by
      have h1 : w64 ((k : Int) * 64) = (k : Int) * 64 := w64_id (by omega) (by omega)
      have h2 : w64 ((k : Int) * 64 * 40) = (k : Int) * 64 * 40 := w64_id (by omega) (by omega)
      rw [h1, h2, w64_id (by omega) (by omega)]
      omega
    have hw2 : w64 ((i : Int) + 1) = (i : Int) + 1 := w64_id (by omega) (by omega)
    simp only [Outs44.l0]
    rw [hw]
    refine .yes (decide_eq_true (by omega)) (.val (rd_some' hx) ?_)
    unfold gS
    rw [hm, hg]
    by_cases hne : x ≠ b.1
    · rw [if_pos hne]
      refine .bind (.yes (bne_iff_ne.2 hne) (.val (a := ()) (if_pos (room_ok ?_)) (.now (x, (), b.2 ++ [(((k * 2560 + i : Nat) : Int), chip, x)])))) (.now' (by rw [hw2]))
      show (b.2.length + 1) * 32 ≤ _
      omega
    · rw [if_neg hne]
      exact .bind (.no (by simpa using hne) (.now (b.1, (), b.2))) (.now' (by rw [hw2]))
  · have := gS_len chip f b (k * 2560 + i)
    omega
  · simp only [Outs44.l0]
    exact .no (decide_eq_false (by omega)) (.now _)
theorem range2 (chip : ByteArray) (f : List Int) (s : Int × List O) : (List.range 5120).foldl (gS chip f) s = (List.range 2560).foldl (fun b i => gS chip f b (1 * 2560 + i)) ((List.range 2560).foldl (fun b i => gS chip f b (0 * 2560 + i)) s) := by
  rw [show (5120 : Nat) = 2560 + 2560 from rfl, List.range_add, List.foldl_append, List.foldl_map]
  simp only [Nat.zero_mul, Nat.zero_add, Nat.one_mul]
theorem outs_ev (chip : ByteArray) (f : List Int) (first : Int) : Ev (fun k => Outs44 k [f, f] chip first) ((if rfault f ≠ 0 then [] else allO chip f first, rfault f, ()), ()) := by
  unfold Outs44
  refine .no rfl ?_
  by_cases hr : rfault f ≠ 0
  · rw [if_pos hr]
    refine .joinR (Lp.ev (.done ?_))
    simp only [Outs44.l1]
    exact .yes rfl (.val rfl (.bind (right_ev f) (.yes (bne_iff_ne.2 hr) (.now _))))
  · rw [if_neg hr]
    have hr0 : rfault f = 0 := by omega
    have hf : f.length = 2560 := by
      unfold rfault at hr0
      by_cases h : f.length ≠ 2560
      · rw [if_pos h] at hr0; cases hr0
      · omega
    have h0 := outs_l0 chip f hf 0 (by omega) (first, []) (by simp)
    generalize hs1 : (List.range 2560).foldl (fun b i => gS chip f b (0 * 2560 + i)) (first, []) = s1 at h0
    have hl1 : s1.2.length ≤ 1 * 2560 := by
      have := fold_len chip f ((List.range 2560).map (fun i => 0 * 2560 + i)) (first, [])
      rw [List.foldl_map, hs1] at this
      simpa using this
    have h1 := outs_l0 chip f hf 1 (by omega) s1 hl1
    have hall : allO chip f first = ((List.range 2560).foldl (fun b i => gS chip f b (1 * 2560 + i)) s1).2 := by
      unfold allO
      rw [range2, hs1]
    generalize (List.range 2560).foldl (fun b i => gS chip f b (1 * 2560 + i)) s1 = s2 at h1 hall
    refine .joinL (S := Unit) (a := ((), s2.2)) (Lp.ev (.step (s' := (s1.1, (), 1, s1.2)) ?_ (.step (s' := (s2.1, (), 2, s2.2)) ?_ (.done ?_)))) (.now' ?_)
    · simp only [Outs44.l1]
      exact .yes rfl (.val rfl (.bind (right_ev f) (.no (by rw [hr0]; rfl) (.bind h0.ev (.now' (by rw [show w64 (0 + 1) = 1 from rfl]))))))
    · simp only [Outs44.l1]
      exact .yes rfl (.val rfl (.bind (right_ev f) (.no (by rw [hr0]; rfl) (.bind h1.ev (.now' (by rw [show w64 (1 + 1) = 2 from rfl]))))))
    · simp only [Outs44.l1]
      exact .no rfl (.now _)
    · rw [hall, hr0]
theorem tmod_nat (a b : Nat) : Int.tmod (a : Int) (b : Int) = ((a % b : Nat) : Int) := (Int.ofNat_tmod a b).symm
theorem want_lp (chip : ByteArray) (f : List Int) (first : Int) (hl : f.length * 8 ≤ 140737488351232) : Lp (fun k => FrameOfs8.l3 k chip f (rfault f) (w64 (2 * (List.length f : Int)))) (first, (), 0, []) ((), if rfault f ≠ 0 then [] else allO chip f first) := by
  have hw : w64 (2 * (List.length f : Int)) = ((2 * f.length : Nat) : Int) := by rw [w64_id (by omega) (by omega)]; omega
  rw [hw]
  have hx : ∀ i, i < 2 * f.length → (if (List.length f : Int) = 0 then none else some (Int.tmod (i : Int) (List.length f : Int))) = some ((i % f.length : Nat) : Int) ∧ f[i % f.length]? = some (f.getD (i % f.length) 0) := fun i hi => by
    have h0 : 0 < f.length := by omega
    have hlt := Nat.mod_lt i h0
    refine ⟨by rw [if_neg (by omega), tmod_nat], ?_⟩
    rw [List.getD_eq_getElem?_getD, List.getElem?_eq_getElem hlt]
    rfl
  by_cases hr : rfault f ≠ 0
  · rw [if_pos hr]
    have h2 : ∀ (l : List Nat) (b : Int × List O), (l.foldl (fun (b : Int × List O) i => (f.getD (i % f.length) 0, b.2)) b).2 = b.2 := by
      intro l
      induction l with
      | nil => intro b; rfl
      | cons i l ih => intro b; rw [List.foldl_cons, ih]
    have := Lp.count (body := fun k => FrameOfs8.l3 k chip f (rfault f) ((2 * f.length : Nat) : Int)) (2 * f.length) (fun (b : Int × List O) i => (b.1, (), i, b.2)) (fun b i => (f.getD (i % f.length) 0, b.2)) (fun b => ((), b.2)) (fun _ _ => True) (fun i b hi _ => ⟨?_, trivial⟩) (fun b _ => ?_) (b := (first, [])) trivial
    · rw [h2] at this
      exact this
    · obtain ⟨x1, x2⟩ := hx i hi
      simp only [FrameOfs8.l3]
      refine .yes (decide_eq_true (by omega)) (.val x1 (.val (rd_some' x2) (.bind (.no ?_ (.now ((), b.2))) (.now' (by rw [w64_id (by omega) (by omega)])))))
      rw [show (rfault f == 0) = false by simpa using hr]; rfl
    · simp only [FrameOfs8.l3]
      exact .no (decide_eq_false (by omega)) (.now _)
  · rw [if_neg hr]
    have hr0 : rfault f = 0 := by omega
    have hf : f.length = 2560 := by
      unfold rfault at hr0
      by_cases h : f.length ≠ 2560
      · rw [if_pos h] at hr0; cases hr0
      · omega
    rw [hf, hr0]
    refine Lp.count (body := fun k => FrameOfs8.l3 k chip f 0 ((2 * 2560 : Nat) : Int)) 5120 (fun (b : Int × List O) i => (b.1, (), i, b.2)) (gS chip f) (fun b => ((), b.2)) (fun i b => b.2.length ≤ i) (fun i b hi hb => ⟨?_, ?_⟩) (fun b _ => ?_) (b := (first, [])) (Nat.zero_le _)
    · obtain ⟨x1, x2⟩ := hx i (by omega)
      rw [hf] at x2
      rw [show (i % f.length) = i % 2560 by rw [hf]] at x1
      simp only [FrameOfs8.l3]
      refine .yes (decide_eq_true (by omega)) (.val x1 (.val (rd_some' x2) ?_))
      have hw2 : w64 ((i : Int) + 1) = (i : Int) + 1 := w64_id (by omega) (by omega)
      unfold gS
      by_cases hne : f.getD (i % 2560) 0 ≠ b.1
      · rw [if_pos hne]
        refine .bind (.yes (bne_iff_ne.2 hne) (.val (a := ()) (if_pos (room_ok ?_)) (.now ((), b.2 ++ [((i : Int), chip, f.getD (i % 2560) 0)])))) (.now' (by rw [hw2]))
        show (b.2.length + 1) * 32 ≤ _
        omega
      · rw [if_neg hne]
        have he : f.getD (i % 2560) 0 = b.1 := Decidable.byContradiction fun hn => hne hn
        refine .bind (.no ?_ (.now ((), b.2))) (.now' (by rw [hw2, he]))
        rw [he]; simp
    · have := gS_len chip f b i
      omega
    · simp only [FrameOfs8.l3]
      exact .no (decide_eq_false (by omega)) (.now _)
theorem equal_ev (l : List O) (hl : l.length ≤ 1000000) : Ev (fun k => Equal46 k l l) (true, ()) := by
  unfold Equal46
  refine .no (by simp) (.joinL (S := Unit) (a := ()) (Lp.ev ?_) (.now _))
  refine Lp.fold (body := fun k => Equal46.l0 k l l) l (fun (_ : Unit) i => i) (fun _ _ => ()) (fun _ => (.inl () : Unit ⊕ (Bool × Unit))) (fun _ _ => True) (fun i x b hx _ => ⟨?_, trivial⟩) (fun b _ => ?_) (b := ()) trivial
  · have hi := get_lt hx
    simp only [Equal46.l0]
    refine .yes (decide_eq_true (by omega)) (.val (rd_some' hx) (.val (rd_some' hx) (.no ?_ (.now' ?_))))
    · rw [show eqB (.st (.pair (.int .i64) (.pair .str (.int .i64)))) x x = true from eqB_refl rfl]; rfl
    · rw [w64_id (by omega) (by omega)]
  · simp only [Equal46.l0]
    exact .no (by simp) (.now _)

-- the frames, compared
theorem row_lp (outs : List O) (chip : ByteArray) (first : Int) (hl : outs.length < 9223372036854775807) (t : Nat) (ht : t < 1000) (x : List Int) (hx : ∀ i, i < 2560 → x[i]? = some (lvl chip ((t * 2560 + i : Nat) : Int) first outs)) : ∀ (m i : Nat), 2560 ≤ i + m → i ≤ 5000 →
    Lp (fun k => FrameOfs8.l0 k outs chip first (t : Int) x) (i : Int) (.inl ()) := by
  intro m
  induction m with
  | zero =>
    intro i h h2
    refine .done ?_
    simp only [FrameOfs8.l0]
    exact .no (decide_eq_false (by omega)) (.now _)
  | succ m ih =>
    intro i h h2
    by_cases hi : i < 2560
    · refine .step (s' := ((i + 7 : Nat) : Int)) ?_ (ih (i + 7) (by omega) (by omega))
      have h1 : w64 ((t : Int) * 2560) = (t : Int) * 2560 := w64_id (by omega) (by omega)
      have h2 : w64 (w64 ((t : Int) * 2560) + (i : Int)) = ((t * 2560 + i : Nat) : Int) := by
        rw [h1, w64_id (by omega) (by omega)]; omega
      simp only [FrameOfs8.l0]
      rw [h2]
      refine .yes (decide_eq_true (by omega)) (.val (rd_some' (hx i hi)) (.bind (level_ev outs chip first _ hl) (.no (by simp) (.now' ?_))))
      rw [w64_id (by omega) (by omega)]; rfl
    · refine .done ?_
      simp only [FrameOfs8.l0]
      exact .no (decide_eq_false (by omega)) (.now _)
theorem rows_lp (outs : List O) (chip : ByteArray) (first : Int) (hl : outs.length < 9223372036854775807) (n : Nat) (hn : n ≤ 40) (l : List (List Int)) (hf : IsFrames chip outs first n l) (e : Int × Unit) : Lp (fun k => FrameOfs8.l1 k outs chip first ((l, e), ())) 0 (.inl ()) := by
  refine Lp.fold (body := fun k => FrameOfs8.l1 k outs chip first ((l, e), ())) l (fun (_ : Unit) i => i) (fun _ _ => ()) (fun _ => (.inl () : Unit ⊕ (Bool × Unit))) (fun _ _ => True) (fun i x b hx _ => ⟨?_, trivial⟩) (fun b _ => ?_) (b := ()) trivial
  · have hi := get_lt hx
    obtain ⟨x1, x2⟩ := hf.2 i x hx
    have hln := hf.1
    have hr := row_lp outs chip first hl i (by omega) x x2 2560 (i % 7) (by omega) (by omega)
    simp only [FrameOfs8.l1]
    refine .yes (decide_eq_true (by omega)) (.val (rd_some' hx) (.no (by rw [x1]; rfl) ?_))
    rw [show Int.tmod (i : Int) 7 = ((i % 7 : Nat) : Int) from tmod_nat i 7]
    refine .joinL (S := Unit) (a := ()) hr.ev (.now' ?_)
    rw [w64_id (by omega) (by omega)]
  · simp only [FrameOfs8.l1]
    exact .no (by simp) (.now _)
theorem law (outs : List O) (chip : ByteArray) (first n : Int) (f : List Int) (hl : outs.length < 9223372036854775807) (hf : f.length * 8 ≤ 140737488351232) : ∃ k, FrameOfs8 k outs chip first n f = some (true, ()) := by
  refine Ev.ex ?_
  unfold FrameOfs8
  obtain ⟨n1, hn1⟩ : ∃ n1 : Int, n1 = if n > 2 ∧ n ≤ 40 then 2 else n := ⟨_, rfl⟩
  obtain ⟨l, o1, o2, o3⟩ := of_ev chip outs first n1 hl
  generalize he : efault chip outs first n1 = e at o1 o2 o3
  refine .bind (a := n1) ?_ (.bind (shown_ev outs chip hl) (.bind o1 (.bind seen_ev (.bind (a := false) (.no rfl (.bind (check_ev outs chip hl) (.now' (by simp)))) (.no rfl (.bind (a := e) ?_ ?_))))))
  · rw [hn1]
    by_cases h1 : n > 2
    · by_cases h2 : n ≤ 40
      · rw [if_pos ⟨h1, h2⟩]
        exact .yes (by rw [decide_eq_true h1]; exact decide_eq_true h2) (.now _)
      · rw [if_neg (fun h => h2 h.2)]
        exact .no (by rw [decide_eq_true h1]; exact decide_eq_false h2) (.now _)
    · rw [if_neg (fun h => h1 h.1)]
      exact .no (by rw [decide_eq_false h1]; rfl) (.now _)
  · rw [← he]
    unfold efault
    by_cases hs : sfault chip outs ≠ 0
    · rw [if_pos hs]
      exact .no (by simpa using hs) (.now _)
    · rw [if_neg hs]
      have hs0 : sfault chip outs = 0 := by omega
      refine .yes (by simpa using hs0) (.bind (a := if n1 < 0 ∨ n1 > 40 then 2 else if first < 0 ∨ first > 15 then 1 else 0) ?_ (.now _))
      rw [or2, or2]
      refine .iff (fun h => .now' (by rw [if_pos h])) (fun h => ?_)
      rw [if_neg h]
      refine .bind (a := if first < 0 ∨ first > 15 then 1 else 0) ?_ (.now _)
      exact .iff (fun h => .now' (by rw [if_pos h])) (fun h => .now' (by rw [if_neg h]; exact hs0))
  · refine .no ?_ (.joinL (S := Unit) (a := ()) ?_ (.bind (a := if f.length ≠ 2560 then 3 else 0) ?_ (.bind (a := rfault f) ?_ (.bind (outs_ev chip f first) (.bind (right_ev f) (.no (by simp) ?_))))))
    · by_cases h0 : e = 0
      · obtain ⟨q1, q2, q3⟩ := o3 h0
        have q4 := q3.1
        have : (List.length l : Int) = n1 := by omega
        simp [h0, this]
      · rw [o2 h0]
        simp [h0]
    · by_cases h0 : e = 0
      · obtain ⟨q1, q2, q3⟩ := o3 h0
        exact (rows_lp outs chip first hl n1.toNat (by omega) l q3 _).ev
      · rw [o2 h0]
        refine Lp.ev (.done ?_)
        simp only [FrameOfs8.l1]
        exact .no rfl (.now _)
    · rw [len_ne]
      exact .iff (fun h => .now' (by rw [if_pos h])) (fun h => .now' (by rw [if_neg h]))
    · have h := (r_lp f (by omega) (if f.length ≠ 2560 then 3 else 0)).ev
      refine h.to ?_
      unfold rfault
      by_cases h3 : f.length ≠ 2560
      · rw [if_pos h3, if_pos h3, if_pos (by decide)]
      · rw [if_neg h3, if_neg h3, if_neg (by decide)]
    · have hw := want_lp chip f first hf
      refine .bind hw.ev (.bind (equal_ev (if rfault f ≠ 0 then [] else allO chip f first) ?_) (.now _))
      by_cases hr : rfault f ≠ 0
      · rw [if_pos hr]; simp
      · rw [if_neg hr]
        have := fold_len chip f (List.range 5120) (first, [])
        simp only [List.length_range, List.length_nil] at this
        show ((List.range 5120).foldl (gS chip f) (first, [])).2.length ≤ _
        omega
theorem frameOfs (outs : List O) (chip : ByteArray) (first n : Int) (f : List Int) {wo : O → Prop} {B : Nat} (ho : wfL (α := O) (B + 1) wo outs) {p q r : Prop} (_ : p) (_ : q) (_ : r) {wf : Int → Prop} (hf : wfL (α := Int) 8 wf f) : ∃ k, FrameOfs8 k outs chip first n f = some (true, ()) :=
  law outs chip first n f (by
    have h := ho.1
    have := Nat.le_mul_of_pos_right outs.length (Nat.succ_pos B)
    have e : List.length (α := O) outs * (B + 1) = outs.length * B.succ := rfl
    omega) hf.1
end Go.Proofs.Ytimkpdbghbhkkaa.Fr

/- Frames of a screen: the law of changes. No program in sight. -/
set_option linter.unusedVariables false
set_option maxRecDepth 100000
noncomputable section
namespace Go.Proofs.Ytimkpdbghbhkkaa.Fr
open Go Go.Proofs.Ytimkpdbghbhkkaa.Gp

abbrev Box := Int × Int × Int × Int
def upd (o : Box) (x y : Int) : Box := (mnI o.1 x, mnI o.2.1 y, mxI o.2.2.1 (w64 (x + 1)), mxI o.2.2.2 (w64 (y + 1)))
def inc (l : List Int) (c : Int) : List Int := l.set (Int.toNat c) (w64 (l.getD c.toNat 0 + 1))
def zero16 : List Int := List.replicate 16 0
/-- what is seen -/
def at2 (a : List Int) (i : Nat) : Int := a.getD (i / 48 * 64 + i % 48) 0
def vis (a : List Int) : List Int := (List.range 1536).map (at2 a)
def segs (a : List Int) (n : Nat) : List Int := (List.range n).foldl (fun o y => o ++ (a.take (y * 64 + 48)).drop (y * 64)) []
theorem segs_ok {a : List Int} (ha : a.length = 2560) : ∀ n, n ≤ 32 → segs a n = (List.range (n * 48)).map (at2 a) := by
  intro n
  induction n with
  | zero => intro _; rfl
  | succ n ih =>
    intro h
    have e : segs a (n + 1) = segs a n ++ (a.take (n * 64 + 48)).drop (n * 64) := by
      unfold segs
      rw [List.range_succ, List.foldl_append]
      rfl
    rw [e, ih (by omega), Nat.add_mul, Nat.one_mul, List.range_add, List.map_append]
    congr 1
    apply List.ext_getElem?
    intro i
    rw [List.getElem?_drop, List.map_map, List.getElem?_map]
    by_cases hi : i < 48
    · rw [List.getElem?_take_of_lt (by omega), List.getElem?_range hi]
      show _ = some (at2 a (n * 48 + i))
      unfold at2
      rw [show (n * 48 + i) / 48 = n by omega, show (n * 48 + i) % 48 = i by omega, List.getD_eq_getElem?_getD, List.getElem?_eq_getElem (by omega : n * 64 + i < a.length)]
      rfl
    · rw [List.getElem?_eq_none (by rw [List.length_take]; omega), List.getElem?_eq_none (by rw [List.length_range]; omega)]
      rfl
theorem seen_lp (a : List Int) (ha : a.length = 2560) : Lp (fun k => Seen101.l0 k a) ((), 0, []) ((), vis a) := by
  have := Lp.count (body := fun k => Seen101.l0 k a) 32 (fun (o : List Int) i => ((), i, o)) (fun o y => o ++ (a.take (y * 64 + 48)).drop (y * 64)) (fun o => ((), o)) (fun i o => o.length = i * 48) (fun i o hi ho => ⟨?_, ?_⟩) (fun b _ => ?_) (b := []) rfl
  · rw [show (List.range 32).foldl (fun o y => o ++ (a.take (y * 64 + 48)).drop (y * 64)) [] = vis a from segs_ok ha 32 (Nat.le_refl _)] at this
    exact this
  · have h1 : w64 ((i : Int) * 64) = ((i * 64 : Nat) : Int) := by rw [w64_id (by omega) (by omega)]; omega
    have h2 : w64 (((i * 64 : Nat) : Int) + 48) = ((i * 64 + 48 : Nat) : Int) := by rw [w64_id (by omega) (by omega)]; omega
    have hlen : ((a.take (i * 64 + 48)).drop (i * 64)).length = 48 := by rw [List.length_drop, List.length_take]; omega
    simp only [Seen101.l0]
    rw [h1, h2]
    refine .yes (decide_eq_true (by omega)) (.val (slc_ok (by omega) (by omega)) (.val (a := ()) (if_pos (room_ok ?_)) (.now' ?_)))
    · rw [hlen, ho]; omega
    · rw [w64_id (by omega) (by omega)]
  · rw [List.length_append, ho, List.length_drop, List.length_take]; omega
  · simp only [Seen101.l0]
    exact .no (decide_eq_false (by omega)) (.now _)
theorem len_of {a : List Int} (h : rfault a = 0) : a.length = 2560 ∧ ∀ c ∈ a, 0 ≤ c ∧ c ≤ 15 := by
  unfold rfault at h
  by_cases h1 : a.length ≠ 2560
  · rw [if_pos h1] at h; cases h
  · rw [if_neg h1] at h
    refine ⟨by omega, fun c hc => ?_⟩
    by_cases h2 : a.any badC = true
    · rw [if_pos h2] at h; cases h
    · have h3 : a.any badC = false := by simpa using h2
      rw [List.any_eq_false] at h3
      have := h3 c hc
      unfold badC at this
      simp only [decide_eq_true_eq] at this
      omega
theorem see_ev (a : List Int) : Ev (fun k => Seen101 k a) ((if rfault a ≠ 0 then [] else vis a, rfault a, ()), ()) := by
  unfold Seen101
  refine .bind (right_ev a) ?_
  by_cases h : rfault a ≠ 0
  · rw [if_pos h]
    exact .yes (bne_iff_ne.2 h) (.now _)
  · rw [if_neg h]
    have h0 : rfault a = 0 := by omega
    refine .no (by rw [h0]; rfl) (.bind (seen_lp a (len_of h0).1).ev (.now' (by rw [h0])))
theorem at2_mem {a : List Int} (ha : a.length = 2560) {i : Nat} (hi : i < 1536) : a[i / 48 * 64 + i % 48]? = some (at2 a i) := by
  have hlt : i / 48 * 64 + i % 48 < a.length := by omega
  unfold at2
  rw [List.getD_eq_getElem?_getD, List.getElem?_eq_getElem hlt]
  rfl
theorem vis_get (a : List Int) {i : Nat} (hi : i < 1536) : (vis a)[i]? = some (at2 a i) := by
  unfold vis
  rw [List.getElem?_map, List.getElem?_range hi]
  rfl
theorem vis_len (a : List Int) : (vis a).length = 1536 := by unfold vis; rw [List.length_map, List.length_range]
theorem quo48 (i : Nat) (hi : i < 1536) : quoI .i64 (i : Int) 48 = ((i / 48 : Nat) : Int) := by
  show IntKind.wrap .i64 (Int.tdiv (i : Int) 48) = _
  rw [show Int.tdiv (i : Int) 48 = ((i / 48 : Nat) : Int) from (Int.ofNat_tdiv i 48).symm]
  exact w64_nat (by omega)
def cS (a b : List Int) (o : Box) (i : Nat) : Box := if at2 a i ≠ at2 b i then upd o ((i % 48 : Nat) : Int) ((i / 48 : Nat) : Int) else o
def box0 : Box := (48, 32, 0, 0)
theorem changed_lp (a b : List Int) (e1 e2 : Int × Unit) : Lp (fun k => Changed61.l0 k ((vis a, e1), ()) ((vis b, e2), ())) ((), (), 0, (0, 0, 0, 0), box0) ((), (), (0, 0, 0, 0), (List.range 1536).foldl (cS a b) box0) := by
  refine Lp.count (body := fun k => Changed61.l0 k ((vis a, e1), ()) ((vis b, e2), ())) 1536 (fun (o : Box) i => ((), (), i, (0, 0, 0, 0), o)) (cS a b) (fun o => ((), (), (0, 0, 0, 0), o)) (fun _ _ => True) (fun i o hi _ => ⟨?_, trivial⟩) (fun o _ => ?_) trivial
  · have hw2 : w64 ((i : Int) + 1) = (i : Int) + 1 := w64_id (by omega) (by omega)
    simp only [Changed61.l0]
    rw [vis_len, quo48 i hi, show Int.tmod (i : Int) 48 = ((i % 48 : Nat) : Int) from tmod_nat i 48]
    refine .yes (decide_eq_true (by omega)) (.val (rd_some' (vis_get a hi)) (.val (rd_some' (vis_get b hi)) ?_))
    unfold cS
    by_cases h : at2 a i ≠ at2 b i
    · rw [if_pos h]
      exact .bind (.yes (bne_iff_ne.2 h) (.now ((), (), (0, 0, 0, 0), upd o ((i % 48 : Nat) : Int) ((i / 48 : Nat) : Int)))) (.now' (by rw [hw2]))
    · rw [if_neg h]
      exact .bind (.no (by simpa using h) (.now ((), (), (0, 0, 0, 0), o))) (.now' (by rw [hw2]))
  · simp only [Changed61.l0]
    rw [vis_len]
    exact .no (decide_eq_false (by omega)) (.now _)
def endBox (o : Box) : Box × Bool := if o.2.2.1 = 0 then ((0, 0, 0, 0), false) else (o, true)
def ffault (a b : List Int) : Int := if rfault a = 0 then rfault b else rfault a
def chBox (a b : List Int) : Box × Bool := if ffault a b ≠ 0 then ((0, 0, 0, 0), false) else endBox ((List.range 1536).foldl (cS a b) box0)
theorem changed_ev (a b : List Int) : Ev (fun k => Changed61 k a b) (((chBox a b).1, (chBox a b).2, ffault a b, ()), ()) := by
  unfold Changed61
  refine .bind (see_ev a) ?_
  by_cases ha : rfault a ≠ 0
  · have hf : ffault a b = rfault a := if_neg ha
    have hc : chBox a b = ((0, 0, 0, 0), false) := by unfold chBox; rw [hf, if_pos ha]
    rw [hc, hf]
    exact .yes (bne_iff_ne.2 ha) (.now _)
  · have ha0 : rfault a = 0 := by omega
    have hf : ffault a b = rfault b := if_pos ha0
    refine .no (by rw [ha0]; rfl) (.bind (see_ev b) ?_)
    by_cases hb : rfault b ≠ 0
    · have hc : chBox a b = ((0, 0, 0, 0), false) := by unfold chBox; rw [hf, if_pos hb]
      rw [hc, hf]
      exact .yes (bne_iff_ne.2 hb) (.now _)
    · have hb0 : rfault b = 0 := by omega
      have hc : chBox a b = endBox ((List.range 1536).foldl (cS a b) box0) := by unfold chBox; rw [hf, if_neg hb]
      refine .no (by rw [hb0]; rfl) ?_
      rw [if_neg ha, if_neg hb]
      have h := changed_lp a b (rfault a, ()) (rfault b, ())
      rw [hc, hf, hb0]
      generalize (List.range 1536).foldl (cS a b) box0 = o at h
      refine .bind h.ev ?_
      unfold endBox
      by_cases h0 : o.2.2.1 = 0
      · rw [if_pos h0]
        exact .yes (by simpa using h0) (.now _)
      · rw [if_neg h0]
        exact .no (by simpa using h0) (.now _)

theorem inc_len (l : List Int) (c : Int) : (inc l c).length = l.length := by unfold inc; rw [List.length_set]
theorem inc_ev {α : Type} {l : List Int} {c : Int} (hl : l.length = 16) (h0 : 0 ≤ c) (h1 : c ≤ 15) {g : Nat → List Int → Option α} {r : α} (h : Ev (fun k => g k (inc l c)) r) :
    Ev (fun k => (if 0 ≤ c ∧ c < 16 then some () else none).bind fun _ => (rd l c).bind fun t22 => (if 0 ≤ c ∧ c < 16 then some () else none).bind fun _ => (rd l c).bind fun _ => g k (List.set l (Int.toNat c) (w64 (t22 + 1)))) r := by
  have hx : l[c.toNat]? = some (l.getD c.toNat 0) := by
    rw [List.getD_eq_getElem?_getD, List.getElem?_eq_getElem (by omega : c.toNat < l.length)]
    rfl
  have hr : rd l c = some (l.getD c.toNat 0) := rd_at (i := c.toNat) (by omega) hx
  exact .val (a := ()) (if_pos ⟨h0, by omega⟩) (.val hr (.val (a := ()) (if_pos ⟨h0, by omega⟩) (.val hr h)))
def cols (a : List Int) : List Int := if rfault a ≠ 0 then zero16 else (List.range 1536).foldl (fun o i => inc o (at2 a i)) zero16
theorem colors_ev (a : List Int) : Ev (fun k => Colors62 k a) ((cols a, rfault a, ()), ()) := by
  unfold Colors62
  refine .bind (see_ev a) (.bind (a := ((), (), zero16, cols a)) (Lp.ev ?_) (.now _))
  by_cases h : rfault a ≠ 0
  · have hc : cols a = zero16 := if_pos h
    rw [if_pos h, hc]
    refine .done ?_
    simp only [Colors62.l0]
    exact .no rfl (.now _)
  · have hc : cols a = (vis a).foldl inc zero16 := by unfold cols vis; rw [if_neg h, List.foldl_map]
    rw [if_neg h, hc]
    obtain ⟨hl, hv⟩ := len_of (show rfault a = 0 by omega)
    refine Lp.fold (body := fun k => Colors62.l0 k ((vis a, rfault a, ()), ())) (vis a) (fun (o : List Int) i => ((), (), i, zero16, o)) inc (fun o => ((), (), zero16, o)) (fun _ o => o.length = 16) (fun i x o hx ho => ⟨?_, (inc_len o x).trans ho⟩) (fun b _ => ?_) rfl
    · have hi := get_lt hx
      have hx0 := hx
      rw [vis_len] at hi
      rw [vis_get a hi] at hx0
      cases hx0
      obtain ⟨v0, v1⟩ := hv _ (List.mem_of_getElem? (at2_mem hl hi))
      simp only [Colors62.l0]
      refine .yes (decide_eq_true (by rw [vis_len]; omega)) (.val (rd_some' hx) (inc_ev ho v0 v1 (g := fun _ l => some (Sum.inl ((), (), w64 ((i : Int) + 1), zero16, l))) (.now' ?_)))
      rw [w64_id (by omega) (by omega)]
    · simp only [Colors62.l0]
      exact .no (by simp) (.now _)

-- the law's own
def lS (e f : Int) (a b : List Int) (s : Bool × List Int × Box) (i : Nat) : Bool × List Int × Box :=
  if f ≠ 0 ∨ at2 a i = at2 b i then (s.1, if e = 0 then inc s.2.1 (at2 a i) else s.2.1, s.2.2) else
    (true, if e = 0 then inc s.2.1 (at2 a i) else s.2.1, upd (if s.1 = false then (((i % 48 : Nat) : Int), ((i / 48 : Nat) : Int), w64 (((i % 48 : Nat) : Int) + 1), w64 (((i / 48 : Nat) : Int) + 1)) else s.2.2) ((i % 48 : Nat) : Int) ((i / 48 : Nat) : Int))
theorem lS_len (e f : Int) (a b : List Int) (s : Bool × List Int × Box) (i : Nat) : (lS e f a b s i).2.1.length = s.2.1.length := by
  unfold lS
  split <;> (simp only; split <;> first | exact inc_len _ _ | rfl)
theorem row_lp2 (a b : List Int) (f : Int) (he : rfault a = 0 → a.length = 2560 ∧ ∀ c ∈ a, 0 ≤ c ∧ c ≤ 15) (hf : f = 0 → a.length = 2560 ∧ b.length = 2560) (bx : Box) (n : List Int) (y : Nat) (hy : y < 32) (s : Bool × List Int × Box) (hs : s.2.1.length = 16) :
    ∀ s', s' = (List.range 48).foldl (fun s x => lS (rfault a) f a b s (y * 48 + x)) s → Lp (fun k => FrameChanges11.l0 k a b (rfault a, ()) f (y : Int)) (bx, n, (), (), s.1, 0, s.2.1, s.2.2) (bx, n, (), (), s'.1, s'.2.1, s'.2.2) := by
  intro s' hs'
  subst hs'
  refine Lp.count (body := fun k => FrameChanges11.l0 k a b (rfault a, ()) f (y : Int)) 48 (fun (s : Bool × List Int × Box) i => (bx, n, (), (), s.1, i, s.2.1, s.2.2)) (fun s x => lS (rfault a) f a b s (y * 48 + x)) (fun s => (bx, n, (), (), s.1, s.2.1, s.2.2)) (fun _ s => s.2.1.length = 16) (fun x s hx hs => ⟨?_, (lS_len _ _ _ _ _ _).trans hs⟩) (fun b _ => ?_) hs
  · have hd : (y * 48 + x) / 48 = y := by omega
    have hm : (y * 48 + x) % 48 = x := by omega
    have hi : y * 48 + x < 1536 := by omega
    have ht : w64 (w64 ((y : Int) * 64) + (x : Int)) = ((y * 64 + x : Nat) : Int) := by
      have h1 : w64 ((y : Int) * 64) = (y : Int) * 64 := w64_id (by omega) (by omega)
      rw [h1, w64_id (by omega) (by omega)]; omega
    have ga : a.length = 2560 → rd a ((y * 64 + x : Nat) : Int) = some (at2 a (y * 48 + x)) := fun hl => by
      have := at2_mem hl hi
      rw [hd, hm] at this
      exact rd_some' this
    have gb : b.length = 2560 → rd b ((y * 64 + x : Nat) : Int) = some (at2 b (y * 48 + x)) := fun hl => by
      have := at2_mem hl hi
      rw [hd, hm] at this
      exact rd_some' this
    have hw2 : w64 ((x : Int) + 1) = (x : Int) + 1 := w64_id (by omega) (by omega)
    simp only [FrameChanges11.l0]
    rw [ht]
    refine .yes (decide_eq_true (by omega)) (.bind (a := (bx, n, (), (), (lS (rfault a) f a b s (y * 48 + x)).1, (lS (rfault a) f a b s (y * 48 + x)).2.1, (lS (rfault a) f a b s (y * 48 + x)).2.2)) ?_ (.now' (by rw [hw2])))
    refine .bind (a := (bx, n, (), (), (if rfault a = 0 then inc s.2.1 (at2 a (y * 48 + x)) else s.2.1), s.2.2)) ?_ (.bind (a := decide (f ≠ 0 ∨ at2 a (y * 48 + x) = at2 b (y * 48 + x))) ?_ ?_)
    · by_cases h0 : rfault a = 0
      · obtain ⟨hl, hv⟩ := he h0
        have hmem := at2_mem hl hi
        obtain ⟨v0, v1⟩ := hv _ (List.mem_of_getElem? hmem)
        rw [if_pos h0]
        exact .yes (by simpa using h0) (.val (ga hl) (inc_ev hs v0 v1 (g := fun _ l => some (bx, n, (), (), l, s.2.2)) (.now _)))
      · rw [if_neg h0]
        exact .no (by simpa using h0) (.now _)
    · by_cases hf0 : f ≠ 0
      · rw [decide_eq_true (.inl hf0)]
        exact .yes (bne_iff_ne.2 hf0) (.now _)
      · obtain ⟨l1, l2⟩ := hf (by omega)
        refine .no (by simpa using hf0) (.val (ga l1) (.val (gb l2) (.now' ?_)))
        rw [Bool.eq_iff_iff, beq_iff_eq, decide_eq_true_iff]
        exact ⟨.inr, fun h => h.resolve_left hf0⟩
    · unfold lS
      rw [hd, hm]
      by_cases hc : f ≠ 0 ∨ at2 a (y * 48 + x) = at2 b (y * 48 + x)
      · rw [if_pos hc]
        exact .yes (decide_eq_true hc) (.now _)
      · rw [if_neg hc]
        refine .no (decide_eq_false hc) (.bind (a := (bx, n, (), (), (if rfault a = 0 then inc s.2.1 (at2 a (y * 48 + x)) else s.2.1), (if s.1 = false then ((x : Int), (y : Int), w64 ((x : Int) + 1), w64 ((y : Int) + 1)) else s.2.2))) ?_ (.now _))
        cases h1 : s.1 with
        | false => exact .yes rfl (.now _)
        | true => exact .no rfl (.now _)
  · simp only [FrameChanges11.l0]
    exact .no (decide_eq_false (by omega)) (.now _)
theorem nest {β : Type} (g : β → Nat → β) : ∀ (n : Nat) (s : β), (List.range n).foldl (fun s y => (List.range 48).foldl (fun s x => g s (y * 48 + x)) s) s = (List.range (n * 48)).foldl g s
  | 0, s => rfl
  | n + 1, s => by
    rw [show List.range (n + 1) = List.range n ++ [n] from List.range_succ, List.foldl_append, nest g n, Nat.add_mul, Nat.one_mul, List.range_add, List.foldl_append, List.foldl_map]
    rfl
theorem all_lp2 (a b : List Int) (f : Int) (he : rfault a = 0 → a.length = 2560 ∧ ∀ c ∈ a, 0 ≤ c ∧ c ≤ 15) (hf : f = 0 → a.length = 2560 ∧ b.length = 2560) (bx : Box) (n : List Int) :
    ∀ s', s' = (List.range 1536).foldl (lS (rfault a) f a b) (false, zero16, (0, 0, 0, 0)) → Lp (fun k => FrameChanges11.l1 k a b (rfault a, ()) f) (bx, n, (), (), false, 0, zero16, (0, 0, 0, 0)) (bx, n, (), (), s'.1, s'.2.1, s'.2.2) := by
  intro s' hs'
  rw [show (1536 : Nat) = 32 * 48 from rfl, ← nest] at hs'
  subst hs'
  have fl : ∀ (l : List Nat) (y : Nat) (s : Bool × List Int × Box), (l.foldl (fun s x => lS (rfault a) f a b s (y * 48 + x)) s).2.1.length = s.2.1.length := by
    intro l y
    induction l with
    | nil => intro s; rfl
    | cons x l ih => intro s; rw [List.foldl_cons, ih, lS_len]
  refine Lp.count (body := fun k => FrameChanges11.l1 k a b (rfault a, ()) f) 32 (fun (s : Bool × List Int × Box) i => (bx, n, (), (), s.1, i, s.2.1, s.2.2)) (fun s y => (List.range 48).foldl (fun s x => lS (rfault a) f a b s (y * 48 + x)) s) (fun s => (bx, n, (), (), s.1, s.2.1, s.2.2)) (fun _ s => s.2.1.length = 16) (fun y s hy hs => ⟨?_, (fl _ _ _).trans hs⟩) (fun b _ => ?_) (b := (false, zero16, (0, 0, 0, 0))) rfl
  · simp only [FrameChanges11.l1]
    refine .yes (decide_eq_true (by omega)) (.bind (row_lp2 a b f he hf bx n y hy s hs _ rfl).ev (.now' ?_))
    rw [w64_id (by omega) (by omega)]
  · simp only [FrameChanges11.l1]
    exact .no (decide_eq_false (by omega)) (.now _)

theorem cols_fold (e f : Int) (a b : List Int) : ∀ (l : List Nat) (s : Bool × List Int × Box), (l.foldl (lS e f a b) s).2.1 = if e = 0 then l.foldl (fun o i => inc o (at2 a i)) s.2.1 else s.2.1
  | [], s => by simp
  | i :: l, s => by
    rw [List.foldl_cons, cols_fold e f a b l, List.foldl_cons]
    have : (lS e f a b s i).2.1 = if e = 0 then inc s.2.1 (at2 a i) else s.2.1 := by
      unfold lS
      split <;> rfl
    rw [this]
    by_cases h : e = 0
    · rw [if_pos h, if_pos h, if_pos h]
    · rw [if_neg h, if_neg h, if_neg h]
theorem stay_fold (e f : Int) (hf : f ≠ 0) (a b : List Int) : ∀ (l : List Nat) (s : Bool × List Int × Box), (l.foldl (lS e f a b) s).1 = s.1 ∧ (l.foldl (lS e f a b) s).2.2 = s.2.2
  | [], s => ⟨rfl, rfl⟩
  | i :: l, s => by
    rw [List.foldl_cons]
    obtain ⟨h1, h2⟩ := stay_fold e f hf a b l (lS e f a b s i)
    have : (lS e f a b s i).1 = s.1 ∧ (lS e f a b s i).2.2 = s.2.2 := by
      unfold lS
      rw [if_pos (.inl hf)]
      exact ⟨rfl, rfl⟩
    exact ⟨h1.trans this.1, h2.trans this.2⟩
/-- how the two boxes stand -/
def Pair (s : Bool × List Int × Box) (o : Box) : Prop := (s.1 = false ∧ o = box0 ∧ s.2.2 = (0, 0, 0, 0)) ∨ (s.1 = true ∧ s.2.2 = o ∧ 1 ≤ o.2.2.1)
theorem mx_le {a b : Int} (h : 1 ≤ b) : 1 ≤ mxI a b := by unfold mxI; split <;> omega
theorem pair_step (e : Int) (a b : List Int) (s : Bool × List Int × Box) (o : Box) (i : Nat) (hi : i < 1536) (h : Pair s o) : Pair (lS e 0 a b s i) (cS a b o i) := by
  unfold lS cS
  by_cases hc : at2 a i = at2 b i
  · rw [if_pos (show (0 : Int) ≠ 0 ∨ at2 a i = at2 b i from .inr hc), if_neg (show ¬ at2 a i ≠ at2 b i from fun hh => hh hc)]
    exact h
  · rw [if_neg (by rintro (h | h); exact h rfl; exact hc h), if_pos hc]
    have hx : w64 (((i % 48 : Nat) : Int) + 1) = ((i % 48 : Nat) : Int) + 1 := w64_id (by omega) (by omega)
    have hy : w64 (((i / 48 : Nat) : Int) + 1) = ((i / 48 : Nat) : Int) + 1 := w64_id (by omega) (by omega)
    rcases h with ⟨h1, h2, h3⟩ | ⟨h1, h2, h3⟩
    · refine .inr ⟨rfl, ?_, ?_⟩
      · show upd (if s.1 = false then _ else _) _ _ = _
        rw [if_pos h1, h2]
        unfold upd box0
        rw [hx, hy]
        unfold mnI mxI
        simp only [Prod.mk.injEq]
        refine ⟨?_, ?_, ?_, ?_⟩ <;> (repeat' split) <;> omega
      · unfold upd
        exact mx_le (by rw [hx]; omega)
    · refine .inr ⟨rfl, ?_, ?_⟩
      · show upd (if s.1 = false then _ else _) _ _ = _
        rw [if_neg (by rw [h1]; decide), h2]
      · unfold upd
        exact mx_le (by rw [hx]; omega)
theorem pair_fold (e : Int) (a b : List Int) : ∀ (l : List Nat) (s : Bool × List Int × Box) (o : Box), (∀ i ∈ l, i < 1536) → Pair s o → Pair (l.foldl (lS e 0 a b) s) (l.foldl (cS a b) o)
  | [], _, _, _, h => h
  | i :: l, s, o, hl, h => by
    rw [List.foldl_cons, List.foldl_cons]
    exact pair_fold e a b l _ _ (fun j hj => hl j (List.mem_cons_of_mem _ hj)) (pair_step e a b s o i (hl i (List.mem_cons_self ..)) h)
theorem changes_law (a b : List Int) : ∃ k, FrameChanges11 k a b = some (true, ()) := by
  refine Ev.ex ?_
  unfold FrameChanges11
  refine .bind (right_ev a) (.bind (a := ffault a b) ?_ (.bind (changed_ev a b) (.bind (colors_ev a) (.bind seen_ev (.no ?_ ?_)))))
  · unfold ffault
    by_cases h : rfault a = 0
    · rw [if_pos h]
      exact .yes (by simpa using h) (.bind (right_ev b) (.now _))
    · rw [if_neg h]
      exact .no (by simpa using h) (.now _)
  · simp
  · obtain ⟨s', hs'⟩ : ∃ s', s' = (List.range 1536).foldl (lS (rfault a) (ffault a b) a b) (false, zero16, (0, 0, 0, 0)) := ⟨_, rfl⟩
    have hp := all_lp2 a b (ffault a b) (fun h => len_of h) (fun h => by
      unfold ffault at h
      by_cases h0 : rfault a = 0
      · rw [if_pos h0] at h; exact ⟨(len_of h0).1, (len_of h).1⟩
      · rw [if_neg h0] at h; exact absurd h h0) (chBox a b).1 (cols a) s' hs'
    have hcols : s'.2.1 = cols a := by
      rw [hs', cols_fold]
      unfold cols
      by_cases h0 : rfault a = 0
      · rw [if_pos h0, if_neg (fun hh => hh h0)]
      · rw [if_neg h0, if_pos h0]
    have hbox : s'.2.2 = (chBox a b).1 ∧ s'.1 = (chBox a b).2 := by
      unfold chBox
      by_cases hf : ffault a b ≠ 0
      · rw [if_pos hf]
        obtain ⟨h1, h2⟩ := stay_fold (rfault a) (ffault a b) hf a b (List.range 1536) (false, zero16, (0, 0, 0, 0))
        rw [← hs'] at h1 h2
        exact ⟨h2, h1⟩
      · rw [if_neg hf]
        have hf0 : ffault a b = 0 := by omega
        rw [hf0] at hs'
        have hpr := pair_fold (rfault a) a b (List.range 1536) (false, zero16, (0, 0, 0, 0)) box0 (fun i hi => List.mem_range.1 hi) (.inl ⟨rfl, rfl, rfl⟩)
        rw [← hs'] at hpr
        generalize (List.range 1536).foldl (cS a b) box0 = o at hpr
        unfold endBox
        rcases hpr with ⟨h1, h2, h3⟩ | ⟨h1, h2, h3⟩
        · rw [if_pos (by rw [h2]; rfl)]
          exact ⟨h3, h1⟩
        · rw [if_neg (by omega)]
          exact ⟨h2, h1⟩
    refine .bind hp.ev (.now' ?_)
    rw [hcols, hbox.1, hbox.2]
    have e1 : eqB (.st (.pair (.int .i64) (.pair (.int .i64) (.pair (.int .i64) (.int .i64))))) (chBox a b).1 (chBox a b).1 = true := eqB_refl rfl
    have e2 : eqB (.arr 16 (.int .i64)) (cols a) (cols a) = true := eqB_refl rfl
    refine Prod.ext ?_ rfl
    show cond (cond (xor false (eqB (.st (.pair (.int .i64) (.pair (.int .i64) (.pair (.int .i64) (.int .i64))))) (chBox a b).1 (chBox a b).1)) (xor false ((chBox a b).2 == (chBox a b).2)) false) (xor false (eqB (.arr 16 (.int .i64)) (cols a) (cols a))) false = true
    rw [e1, e2]
    simp
theorem frameChanges (a b : List Int) {p q : Prop} (_ : p) (_ : q) : ∃ k, FrameChanges11 k a b = some (true, ()) := changes_law a b
end Go.Proofs.Ytimkpdbghbhkkaa.Fr

/- The row of FrameChanges: changes and colors of frames are as specified. The law returns true for every input; the input reads as it did. -/
namespace Go.Proofs.Ytimkpdbghbhkkaa.frameChanges
open Go.ChangeShapes Go.WideShapes Go.ChangeAt Go.RowKit Go.Proofs.Ytimkpdbghbhkkaa.Gp Go.Proofs.Ytimkpdbghbhkkaa.Fr
set_option linter.unusedVariables false
theorem own : ownKnob Try.prog.godebug = none := by kernel_rfl
theorem laidOut : laidOutB Try.prog = true := by kernel_rfl
abbrev wf3 : Int → Prop := (fun (y : Int) => (Lit.int .i64 y).wf = true)
abbrev siz3 : Int → Nat := (fun _ => 1)
theorem gd3 : Gd Try.prog 3 (.int .i64) wf3 siz3 := gd_int Try.underlying3 (by kernel_rfl)
abbrev wf69 : (List Int) → Prop := (wfL (α := Int) 8 wf3)
abbrev siz69 : (List Int) → Nat := (sizL (α := Int) siz3)
theorem gd69 : Gd Try.prog 69 (.sl (.int .i64)) wf69 siz69 := gd_sl (B := 8) Try.underlying69 (by kernel_rfl) (by kernel_rfl) (by decide) gd3
set_option maxRecDepth 100000 in
set_option maxHeartbeats 1000000 in
theorem lifted (os : Os) (started : os.Started) (H : Type) (enc : TypeId × Value → H) :
    ReturnsInHanded {} Try.checked os 11 .any (Rows.frameChangesSpec.pre6 enc Try.prog Try.f11 Rows.frameChangesRow.domain false) (Rows.frameChangesSpec.post enc Try.prog Try.f11 false true false false) := by
  refine returnsInHanded_of_change_sized (C := Try.checked) own started (by kernel_rfl) Try.func11
    (ChangeSpec.witness6 (enc := enc) (C := Try.checked) false ⟨#[], #[.slice none 0 0, .slice none 0 0], []⟩ 8 (by kernel_rfl) (by kernel_rfl) (by kernel_rfl) (by kernel_rfl)) ?_
  intro W base args ds gs before hval0 hW hcnd hsz0 _
  have hsz : (DataW.weightsEach Try.prog (Try.f11.params.toList ++ Rows.frameChangesSpec.plain.varTypes Try.prog) (ds ++ gs)).all (· ≤ reachBytes) = true := hsz0
  have hval : ∀ (j : Nat) t v, Try.f11.params[j]? = some t → args[j]? = some v → Value.okWide Try.prog W .any base t v := hval0
  have hW' := hW
  obtain ⟨p, q, hA0, hV, rfl, hfz, hnd⟩ := hW
  have hA : DataW.TrodAll enc Try.prog W 0 (fun _ => true) true Try.f11.params.toList args.toList ds p := hA0
  rw [Try.params11] at hA hval hsz
  obtain ⟨v0, vs0, d0, ds0, p0, q0, hargs, rfl, rfl, h0, r0⟩ := trodAll_cons hA
  obtain ⟨v1, vs1, d1, ds1, p1, q1, rfl, rfl, rfl, h1, r1⟩ := trodAll_cons r0
  obtain ⟨rfl, rfl, rfl⟩ := trodAll_nil r1
  obtain rfl : args = #[v0, v1] := by cases args; simp_all
  obtain ⟨rfl, rfl⟩ := trodVars_none hV
  have lt0 : ∀ x ∈ p0, x.block < W.heap.size := by obtain ⟨m, hm⟩ := h0; exact DataW.trod_lt m _ _ _ hm
  have wt0 := weights_at hsz 0 (t := 69) rfl rfl
  obtain ⟨a0, s0, wf0_, up0_⟩ := gd69.arg (hval 0 69 v0 rfl rfl) h0 wt0
  have lt1 : ∀ x ∈ p1, x.block < W.heap.size := by obtain ⟨m, hm⟩ := h1; exact DataW.trod_lt m _ _ _ hm
  have wt1 := weights_at hsz 1 (t := 69) rfl rfl
  obtain ⟨a1, s1, wf1_, up1_⟩ := gd69.arg (hval 1 69 v1 rfl rfl) h1 wt1
  clear hA0 hval0 hsz0 hsz
  obtain ⟨k, h⟩ := Fr.frameChanges a0 a1 wf0_ wf1_
  refine (law_calls (FrameChanges11.ok k) (ds := (a0, a1)) h (args := #[v0, v1]) (W := W) (.cons (s0 _) (.cons (s1 _) (.nil)))).mono fun e W' ⟨he, bel0⟩ => ?_
  have bel : Below W.heap.size W W' := bel0
  subst he
  exact ⟨_, rfl, _, _, _, [], _, [], hW', trodAll_mk1 (shut_bool Try.underlying4 _), (trodAll_cons_mk (Below.trod laidOut (by kernel_rfl) (of_decide_eq_true (by kernel_rfl)) h0 bel lt0) (trodAll_cons_mk (Below.trod laidOut (by kernel_rfl) (of_decide_eq_true (by kernel_rfl)) h1 bel lt1) (trodAll_mk0))), rfl, bel.frame _, fun h => by cases h⟩
theorem over : Rows.frameChangesRow.holds Try.pinned (OpenSpec.ofChange Rows.frameChangesSpec) :=
  OpenClaim.holds_of_wide 11 Try.f11 rfl rfl rfl rfl rfl rfl rfl ⟨rfl, rfl, rfl, rfl, rfl⟩ rfl rfl rfl rfl rfl (by kernel_rfl) Try.func11 (by kernel_rfl)
    (of_decide_eq_true (by kernel_rfl)) (by unfold Func.isWrapper; first | (rw [if_pos (by decide +kernel)]; kernel_rfl) | (rw [if_neg (by decide +kernel)]; exact ⟨rfl, rfl⟩))
    (fun os started H enc _ => lifted os started H enc)
theorem proved : Rows.FrameChangesSaid := over
#print axioms proved
end Go.Proofs.Ytimkpdbghbhkkaa.frameChanges
namespace Go.Proofs.Ytimkpdbghbhkkaa
theorem frameChanges_holds : Rows.FrameChangesSaid := frameChanges.proved
end Go.Proofs.Ytimkpdbghbhkkaa
