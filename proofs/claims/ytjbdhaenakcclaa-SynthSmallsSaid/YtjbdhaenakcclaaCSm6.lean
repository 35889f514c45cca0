/- Merged texts of one claim: a Go law, its functions without memory, and the plain law. The law returns true for every input; conditions: as the row says. -/
import Derived.KernelRfl
import Derived.Test.YtjbdhaenakcclaaRows
import Derived.WalkKit
import Derived.ProofKit
import Derived.OpenShut
import Derived.ShutString
import Derived.ChangeOld
import Derived.Below
import Derived.SizedLaws
import Derived.Test.YtjbdhaenakcclaaCSm0
import Derived.Test.YtjbdhaenakcclaaCSm1
import Derived.Test.YtjbdhaenakcclaaCSm2
import Derived.Test.YtjbdhaenakcclaaCSm3
import Derived.Test.YtjbdhaenakcclaaCSm4
import Derived.Test.YtjbdhaenakcclaaCSm5
/- Twins of the functions, for the kernel to run. Printed by twin.py. -/
set_option linter.unusedVariables false
set_option maxRecDepth 100000
namespace Go.Proofs.Ytjbdhaenakcclaa.St
open Go Go.Proofs.Ytjbdhaenakcclaa.Gp
def inputs79.tw (k : Nat) (kind : Int) : Option (Int × Unit) :=
  cond (cond (decide (kind < 0)) true (decide (kind ≥ 8)))
    (some ((-1), ()))
    ((rd ([0, 0, 0, 1, 2, 2, 2, 3] : List Int) kind).bind fun _ =>
    (rd ([0, 0, 0, 1, 2, 2, 2, 3] : List Int) kind).bind fun t12 =>
    some (t12, ()))
theorem inputs79.le (k j : Nat) (hk_ : k ≤ j) : ∀ a0_, Le (inputs79.tw k a0_) (inputs79 j a0_) := by
  intro a0_
  unfold inputs79 inputs79.tw
  repeat' (first | with_reducible exact Le.refl _ | with_reducible refine Le.self ?_ | with_reducible refine Le.cond ?_ ?_ | with_reducible refine Le.orNil ?_ ?_ | with_reducible refine Le.agree ?_ ?_ | with_reducible refine Le.joined ?_ ?_ | with_reducible refine Le.bind ?_ ?_ | with_reducible refine Le.loop hk_ ?_ _ | with_reducible refine Le.prod ?_ | intro _ | (dsimp only) | exact Le.refl _)

def one72.l0.tw (k : Nat) (i : Int) (t13 : (Int × (Int × (Int × (Int × Int))))) (t17 : (Int × Unit)) : ((Int × ((List (Int × (Int × (Int × (Int × Int))))) × ((List Int) × ((List Int) × (List Int))))) × ((Int × (Int × (Int × (Int × Int)))) × (Unit × (Int × (List Int))))) → Option (((Int × ((List (Int × (Int × (Int × (Int × Int))))) × ((List Int) × ((List Int) × (List Int))))) × ((Int × (Int × (Int × (Int × Int)))) × (Unit × (Int × (List Int))))) ⊕ (((Int × ((List (Int × (Int × (Int × (Int × Int))))) × ((List Int) × ((List Int) × (List Int))))) × (Int × (Int × (Int × (Int × Int))))) ⊕ (Int × Unit)))
  | (c_1, g, _, t28, o1) =>
    cond (decide (t28 < (List.length ([t13.2.1, t13.2.2.1, t13.2.2.2.1] : List Int) : Int)))
      ((rd o1 t28).bind fun _ =>
      (rd o1 t28).bind fun t32 =>
      cond (cond (decide (t28 < t17.1)) (cond (decide (t32 < 0)) true (decide (t32 ≥ i))) false)
        (some (Sum.inr (Sum.inr (9, ()))))
        (cond (cond (decide (t28 ≥ t17.1)) (t32 != 0) false)
          (some (Sum.inr (Sum.inr (3, ()))))
          (some (Sum.inl (c_1, g, (), (w64 (t28 + 1)), o1)))))
      (some (Sum.inr (Sum.inl (c_1, g))))
theorem one72.l0.le (k j : Nat) (hk_ : k ≤ j) : ∀ a0_ a1_ a2_, ∀ s, Le (one72.l0.tw k a0_ a1_ a2_ s) (one72.l0 j a0_ a1_ a2_ s) := by
  intro a0_ a1_ a2_
  unfold one72.l0 one72.l0.tw
  repeat' (first | with_reducible exact Le.refl _ | with_reducible refine Le.self ?_ | with_reducible refine Le.cond ?_ ?_ | with_reducible refine Le.orNil ?_ ?_ | with_reducible refine Le.agree ?_ ?_ | with_reducible refine Le.joined ?_ ?_ | with_reducible refine Le.bind ?_ ?_ | with_reducible refine Le.loop hk_ ?_ _ | with_reducible refine Le.prod ?_ | intro _ | (dsimp only) | exact Le.refl _)

def one72.tw (k : Nat) (c : (Int × ((List (Int × (Int × (Int × (Int × Int))))) × ((List Int) × ((List Int) × (List Int)))))) (i : Int) : Option (Int × Unit) :=
  (rd c.2.1 i).bind fun t13 =>
  (inputs79.tw k t13.1).bind fun t17 =>
  cond (decide (t17.1 < 0))
    (some (1, ()))
    (Option.bind
      (loopN (one72.l0.tw k i t13 t17) k (c, t13, (), 0, ([t13.2.1, t13.2.2.1, t13.2.2.2.1] : List Int)) : Option (((Int × ((List (Int × (Int × (Int × (Int × Int))))) × ((List Int) × ((List Int) × (List Int))))) × (Int × (Int × (Int × (Int × Int))))) ⊕ (Int × Unit))) (joined fun ((c_2, g_1) : ((Int × ((List (Int × (Int × (Int × (Int × Int))))) × ((List Int) × ((List Int) × (List Int))))) × (Int × (Int × (Int × (Int × Int)))))) =>
      (rd ([2, c_2.1, (List.length c_2.2.2.2.1 : Int), 1, 1, 1, 1, 1] : List Int) g_1.1).bind fun _ =>
      (rd ([2, c_2.1, (List.length c_2.2.2.2.1 : Int), 1, 1, 1, 1, 1] : List Int) g_1.1).bind fun t62 =>
      cond (cond (decide (g_1.2.2.2.2 < 0)) true (decide (g_1.2.2.2.2 ≥ t62)))
        (some (1, ()))
        (some (0, ()))))
theorem one72.le (k j : Nat) (hk_ : k ≤ j) : ∀ a0_ a1_, Le (one72.tw k a0_ a1_) (one72 j a0_ a1_) := by
  intro a0_ a1_
  unfold one72 one72.tw
  repeat' (first | with_reducible exact Le.refl _ | with_reducible exact inputs79.le _ _ hk_ _ | with_reducible exact one72.l0.le _ _ hk_ _ _ _ | with_reducible refine Le.self ?_ | with_reducible refine Le.cond ?_ ?_ | with_reducible refine Le.orNil ?_ ?_ | with_reducible refine Le.agree ?_ ?_ | with_reducible refine Le.joined ?_ ?_ | with_reducible refine Le.bind ?_ ?_ | with_reducible refine Le.loop hk_ ?_ _ | with_reducible refine Le.prod ?_ | intro _ | (dsimp only) | exact Le.refl _)

def Grow112.tw (k : Nat) (_ : Unit) (n : Int) : Option (Unit × (List Int)) :=
  Option.bind
    (cond (decide (n < 0))
      (none)
      (some ()) : Option Unit) fun (_ : Unit) =>
  let t14 : Int := (w64 (n - (w64 (0 - 0))))
  Option.bind
    (cond (decide (t14 > 0))
      ((if (0 : Int) = 0 ∧ 0 = 0 then some () else none).bind fun _ =>
      (if 0 < t14 ∧ t14 * 8 ≤ 140737488355328 then some () else none).bind fun _ =>
      (slc (List.replicate (Int.toNat t14) 0) 0 0).bind fun t25 =>
      some ((), t25))
      (some ((), [])) : Option (Unit × (List Int))) fun ((_, o0) : (Unit × (List Int))) =>
  some ((), o0)
theorem Grow112.le (k j : Nat) (hk_ : k ≤ j) : ∀ a0_ a1_, Le (Grow112.tw k a0_ a1_) (Grow112 j a0_ a1_) := by
  intro a0_ a1_
  unfold Grow112 Grow112.tw
  repeat' (first | with_reducible exact Le.refl _ | with_reducible refine Le.self ?_ | with_reducible refine Le.cond ?_ ?_ | with_reducible refine Le.orNil ?_ ?_ | with_reducible refine Le.agree ?_ ?_ | with_reducible refine Le.joined ?_ ?_ | with_reducible refine Le.bind ?_ ?_ | with_reducible refine Le.loop hk_ ?_ _ | with_reducible refine Le.prod ?_ | intro _ | (dsimp only) | exact Le.refl _)

def Concat59.l0.tw (k : Nat) (slices : (List (List Int))) : (Int × Int) → Option ((Int × Int) ⊕ Int)
  | (size, t11) =>
    cond (decide (t11 < (List.length slices : Int)))
      ((rd slices t11).bind fun t13 =>
      let t18 : Int := (w64 (size + (List.length t13 : Int)))
      Option.bind
        (cond (decide (t18 < 0))
          (none)
          (some ()) : Option Unit) fun (_ : Unit) =>
      some (Sum.inl (t18, (w64 (t11 + 1)))))
      (some (Sum.inr size))
theorem Concat59.l0.le (k j : Nat) (hk_ : k ≤ j) : ∀ a0_, ∀ s, Le (Concat59.l0.tw k a0_ s) (Concat59.l0 j a0_ s) := by
  intro a0_
  unfold Concat59.l0 Concat59.l0.tw
  repeat' (first | with_reducible exact Le.refl _ | with_reducible refine Le.self ?_ | with_reducible refine Le.cond ?_ ?_ | with_reducible refine Le.orNil ?_ ?_ | with_reducible refine Le.agree ?_ ?_ | with_reducible refine Le.joined ?_ ?_ | with_reducible refine Le.bind ?_ ?_ | with_reducible refine Le.loop hk_ ?_ _ | with_reducible refine Le.prod ?_ | intro _ | (dsimp only) | exact Le.refl _)

def Concat59.l1.tw (k : Nat) (slices : (List (List Int))) : (Unit × (Int × (List Int))) → Option ((Unit × (Int × (List Int))) ⊕ (Unit × (List Int)))
  | (_, t27, o0) =>
    cond (decide (t27 < (List.length slices : Int)))
      ((rd slices t27).bind fun t29 =>
      (if room (List.length o0 + List.length t29) 8 then some () else none).bind fun _ =>
      some (Sum.inl ((), (w64 (t27 + 1)), (o0 ++ t29))))
      (some (Sum.inr ((), o0)))
theorem Concat59.l1.le (k j : Nat) (hk_ : k ≤ j) : ∀ a0_, ∀ s, Le (Concat59.l1.tw k a0_ s) (Concat59.l1 j a0_ s) := by
  intro a0_
  unfold Concat59.l1 Concat59.l1.tw
  repeat' (first | with_reducible exact Le.refl _ | with_reducible refine Le.self ?_ | with_reducible refine Le.cond ?_ ?_ | with_reducible refine Le.orNil ?_ ?_ | with_reducible refine Le.agree ?_ ?_ | with_reducible refine Le.joined ?_ ?_ | with_reducible refine Le.bind ?_ ?_ | with_reducible refine Le.loop hk_ ?_ _ | with_reducible refine Le.prod ?_ | intro _ | (dsimp only) | exact Le.refl _)

def Concat59.tw (k : Nat) (slices : (List (List Int))) : Option ((List Int) × Unit) :=
  Option.bind
    (loopN (Concat59.l0.tw k slices) k (0, 0) : Option Int) fun (size_1 : Int) =>
  (Grow112.tw k () size_1).bind fun t24 =>
  Option.bind
    (loopN (Concat59.l1.tw k slices) k ((), 0, t24.2) : Option (Unit × (List Int))) fun ((_, o0_1) : (Unit × (List Int))) =>
  some (o0_1, ())
theorem Concat59.le (k j : Nat) (hk_ : k ≤ j) : ∀ a0_, Le (Concat59.tw k a0_) (Concat59 j a0_) := by
  intro a0_
  unfold Concat59 Concat59.tw
  repeat' (first | with_reducible exact Le.refl _ | with_reducible exact Grow112.le _ _ hk_ _ _ | with_reducible exact Concat59.l0.le _ _ hk_ _ | with_reducible exact Concat59.l1.le _ _ hk_ _ | with_reducible refine Le.self ?_ | with_reducible refine Le.cond ?_ ?_ | with_reducible refine Le.orNil ?_ ?_ | with_reducible refine Le.agree ?_ ?_ | with_reducible refine Le.joined ?_ ?_ | with_reducible refine Le.bind ?_ ?_ | with_reducible refine Le.loop hk_ ?_ _ | with_reducible refine Le.prod ?_ | intro _ | (dsimp only) | exact Le.refl _)

def Check18.l0.tw (k : Nat) (c : (Int × ((List (Int × (Int × (Int × (Int × Int))))) × ((List Int) × ((List Int) × (List Int)))))) : ((Int × ((List (Int × (Int × (Int × (Int × Int))))) × ((List Int) × ((List Int) × (List Int))))) × Int) → Option (((Int × ((List (Int × (Int × (Int × (Int × Int))))) × ((List Int) × ((List Int) × (List Int))))) × Int) ⊕ ((Int × ((List (Int × (Int × (Int × (Int × Int))))) × ((List Int) × ((List Int) × (List Int))))) ⊕ (Int × Unit)))
  | (c_1, t45) =>
    cond (decide (t45 < (List.length c.2.1 : Int)))
      ((one72.tw k c_1 t45).bind fun t50 =>
      cond (t50.1 != 0)
        (some (Sum.inr (Sum.inr (t50.1, ()))))
        (some (Sum.inl (c_1, (w64 (t45 + 1))))))
      (some (Sum.inr (Sum.inl c_1)))
theorem Check18.l0.le (k j : Nat) (hk_ : k ≤ j) : ∀ a0_, ∀ s, Le (Check18.l0.tw k a0_ s) (Check18.l0 j a0_ s) := by
  intro a0_
  unfold Check18.l0 Check18.l0.tw
  repeat' (first | with_reducible exact Le.refl _ | with_reducible exact one72.le _ _ hk_ _ _ | with_reducible refine Le.self ?_ | with_reducible refine Le.cond ?_ ?_ | with_reducible refine Le.orNil ?_ ?_ | with_reducible refine Le.agree ?_ ?_ | with_reducible refine Le.joined ?_ ?_ | with_reducible refine Le.bind ?_ ?_ | with_reducible refine Le.loop hk_ ?_ _ | with_reducible refine Le.prod ?_ | intro _ | (dsimp only) | exact Le.refl _)

def Check18.l1.tw (k : Nat) (t60 : ((List Int) × Unit)) : ((Int × ((List (Int × (Int × (Int × (Int × Int))))) × ((List Int) × ((List Int) × (List Int))))) × Int) → Option (((Int × ((List (Int × (Int × (Int × (Int × Int))))) × ((List Int) × ((List Int) × (List Int))))) × Int) ⊕ ((Int × ((List (Int × (Int × (Int × (Int × Int))))) × ((List Int) × ((List Int) × (List Int))))) ⊕ (Int × Unit)))
  | (c_3, t62) =>
    cond (decide (t62 < (List.length t60.1 : Int)))
      ((rd t60.1 t62).bind fun t64 =>
      cond (cond (decide (t64 < 0)) true (decide (t64 ≥ (List.length c_3.2.1 : Int))))
        (some (Sum.inr (Sum.inr (4, ()))))
        (some (Sum.inl (c_3, (w64 (t62 + 1))))))
      (some (Sum.inr (Sum.inl c_3)))
theorem Check18.l1.le (k j : Nat) (hk_ : k ≤ j) : ∀ a0_, ∀ s, Le (Check18.l1.tw k a0_ s) (Check18.l1 j a0_ s) := by
  intro a0_
  unfold Check18.l1 Check18.l1.tw
  repeat' (first | with_reducible exact Le.refl _ | with_reducible refine Le.self ?_ | with_reducible refine Le.cond ?_ ?_ | with_reducible refine Le.orNil ?_ ?_ | with_reducible refine Le.agree ?_ ?_ | with_reducible refine Le.joined ?_ ?_ | with_reducible refine Le.bind ?_ ?_ | with_reducible refine Le.loop hk_ ?_ _ | with_reducible refine Le.prod ?_ | intro _ | (dsimp only) | exact Le.refl _)

def Check18.l2.tw (k : Nat) (c_4 : (Int × ((List (Int × (Int × (Int × (Int × Int))))) × ((List Int) × ((List Int) × (List Int)))))) : Int → Option (Int ⊕ (Unit ⊕ (Int × Unit)))
  | t79 =>
    cond (decide (t79 < (List.length c_4.2.2.2.2 : Int)))
      ((rd c_4.2.2.2.2 t79).bind fun t81 =>
      cond (cond (t81 != 0) (t81 != 1) false)
        (some (Sum.inr (Sum.inr (1, ()))))
        (some (Sum.inl (w64 (t79 + 1)))))
      (some (Sum.inr (Sum.inl ())))
theorem Check18.l2.le (k j : Nat) (hk_ : k ≤ j) : ∀ a0_, ∀ s, Le (Check18.l2.tw k a0_ s) (Check18.l2 j a0_ s) := by
  intro a0_
  unfold Check18.l2 Check18.l2.tw
  repeat' (first | with_reducible exact Le.refl _ | with_reducible refine Le.self ?_ | with_reducible refine Le.cond ?_ ?_ | with_reducible refine Le.orNil ?_ ?_ | with_reducible refine Le.agree ?_ ?_ | with_reducible refine Le.joined ?_ ?_ | with_reducible refine Le.bind ?_ ?_ | with_reducible refine Le.loop hk_ ?_ _ | with_reducible refine Le.prod ?_ | intro _ | (dsimp only) | exact Le.refl _)

def Check18.tw (k : Nat) (c : (Int × ((List (Int × (Int × (Int × (Int × Int))))) × ((List Int) × ((List Int) × (List Int)))))) : Option (Int × Unit) :=
  cond (cond (cond (cond (cond (decide (c.1 < 0)) true (decide (c.1 > 10))) true (decide ((List.length c.2.1 : Int) > 400))) true (decide ((List.length c.2.2.1 : Int) > 10))) true (decide ((List.length c.2.2.2.1 : Int) > 10)))
    (some (2, ()))
    (cond ((List.length c.2.2.2.2 : Int) != (List.length c.2.2.2.1 : Int))
      (some (3, ()))
      (Option.bind
        (loopN (Check18.l0.tw k c) k (c, 0) : Option ((Int × ((List (Int × (Int × (Int × (Int × Int))))) × ((List Int) × ((List Int) × (List Int))))) ⊕ (Int × Unit))) (joined fun (c_2 : (Int × ((List (Int × (Int × (Int × (Int × Int))))) × ((List Int) × ((List Int) × (List Int)))))) =>
        (Concat59.tw k [c_2.2.2.1, c_2.2.2.2.1]).bind fun t60 =>
        Option.bind
          (loopN (Check18.l1.tw k t60) k (c_2, 0) : Option ((Int × ((List (Int × (Int × (Int × (Int × Int))))) × ((List Int) × ((List Int) × (List Int))))) ⊕ (Int × Unit))) (joined fun (c_4 : (Int × ((List (Int × (Int × (Int × (Int × Int))))) × ((List Int) × ((List Int) × (List Int)))))) =>
          Option.bind
            (loopN (Check18.l2.tw k c_4) k 0 : Option (Unit ⊕ (Int × Unit))) (joined fun (_ : Unit) =>
            some (0, ()))))))
theorem Check18.le (k j : Nat) (hk_ : k ≤ j) : ∀ a0_, Le (Check18.tw k a0_) (Check18 j a0_) := by
  intro a0_
  unfold Check18 Check18.tw
  repeat' (first | with_reducible exact Le.refl _ | with_reducible exact Concat59.le _ _ hk_ _ | with_reducible exact Check18.l0.le _ _ hk_ _ | with_reducible exact Check18.l1.le _ _ hk_ _ | with_reducible exact Check18.l2.le _ _ hk_ _ | with_reducible refine Le.self ?_ | with_reducible refine Le.cond ?_ ?_ | with_reducible refine Le.orNil ?_ ?_ | with_reducible refine Le.agree ?_ ?_ | with_reducible refine Le.joined ?_ ?_ | with_reducible refine Le.bind ?_ ?_ | with_reducible refine Le.loop hk_ ?_ _ | with_reducible refine Le.prod ?_ | intro _ | (dsimp only) | exact Le.refl _)

def Start80.l0.tw (k : Nat) (t12 : (List Int)) : (Int × Int) → Option ((Int × Int) ⊕ Int)
  | (out, t14) =>
    cond (decide (t14 < (List.length t12 : Int)))
      ((rd t12 t14).bind fun t17 =>
      (if t14 < 0 then none else some (shlI .i64 (ibits .and .i64 t17 1) t14)).bind fun t23 =>
      some (Sum.inl ((ibits .or .i64 out t23), (w64 (t14 + 1)))))
      (some (Sum.inr out))
theorem Start80.l0.le (k j : Nat) (hk_ : k ≤ j) : ∀ a0_, ∀ s, Le (Start80.l0.tw k a0_ s) (Start80.l0 j a0_ s) := by
  intro a0_
  unfold Start80.l0 Start80.l0.tw
  repeat' (first | with_reducible exact Le.refl _ | with_reducible refine Le.self ?_ | with_reducible refine Le.cond ?_ ?_ | with_reducible refine Le.orNil ?_ ?_ | with_reducible refine Le.agree ?_ ?_ | with_reducible refine Le.joined ?_ ?_ | with_reducible refine Le.bind ?_ ?_ | with_reducible refine Le.loop hk_ ?_ _ | with_reducible refine Le.prod ?_ | intro _ | (dsimp only) | exact Le.refl _)

def Start80.tw (k : Nat) (c : (Int × ((List (Int × (Int × (Int × (Int × Int))))) × ((List Int) × ((List Int) × (List Int)))))) : Option (Int × Unit) :=
  (slc c.2.2.2.2 0 (mnI (List.length c.2.2.2.2 : Int) 10)).bind fun t12 =>
  Option.bind
    (loopN (Start80.l0.tw k t12) k (0, 0) : Option Int) fun (out_1 : Int) =>
  some (out_1, ())
theorem Start80.le (k j : Nat) (hk_ : k ≤ j) : ∀ a0_, Le (Start80.tw k a0_) (Start80 j a0_) := by
  intro a0_
  unfold Start80 Start80.tw
  repeat' (first | with_reducible exact Le.refl _ | with_reducible exact Start80.l0.le _ _ hk_ _ | with_reducible refine Le.self ?_ | with_reducible refine Le.cond ?_ ?_ | with_reducible refine Le.orNil ?_ ?_ | with_reducible refine Le.agree ?_ ?_ | with_reducible refine Le.joined ?_ ?_ | with_reducible refine Le.bind ?_ ?_ | with_reducible refine Le.loop hk_ ?_ _ | with_reducible refine Le.prod ?_ | intro _ | (dsimp only) | exact Le.refl _)

def values69.l0.tw (k : Nat) (c : (Int × ((List (Int × (Int × (Int × (Int × Int))))) × ((List Int) × ((List Int) × (List Int)))))) (state : Int) (in_ : Int) : (Unit × (Int × (List Int))) → Option ((Unit × (Int × (List Int))) ⊕ (Unit × (List Int)))
  | (_, t17, t13) =>
    cond (decide (t17 < (List.length c.2.1 : Int)))
      ((rd c.2.1 t17).bind fun t20 =>
      Option.bind
        (cond (t20.1 == 0)
          ((rd t13 t17).bind fun _ =>
          (rd t13 t17).bind fun _ =>
          some ((), (List.set t13 (Int.toNat t17) t20.2.2.2.2)))
          (Option.bind
            (cond (t20.1 == 1)
              ((if t20.2.2.2.2 < 0 then none else some (shrI .i64 in_ t20.2.2.2.2)).bind fun t38 =>
              (rd t13 t17).bind fun _ =>
              (rd t13 t17).bind fun _ =>
              some ((), (List.set t13 (Int.toNat t17) (ibits .and .i64 t38 1))))
              (Option.bind
                (cond (t20.1 == 2)
                  ((if t20.2.2.2.2 < 0 then none else some (shrI .i64 state t20.2.2.2.2)).bind fun t48 =>
                  (rd t13 t17).bind fun _ =>
                  (rd t13 t17).bind fun _ =>
                  some ((), (List.set t13 (Int.toNat t17) (ibits .and .i64 t48 1))))
                  (Option.bind
                    (cond (t20.1 == 3)
                      ((rd t13 t20.2.1).bind fun _ =>
                      (rd t13 t20.2.1).bind fun t59 =>
                      (rd t13 t17).bind fun _ =>
                      (rd t13 t17).bind fun _ =>
                      some ((), (List.set t13 (Int.toNat t17) (w64 (1 - t59)))))
                      (Option.bind
                        (cond (t20.1 == 4)
                          ((rd t13 t20.2.1).bind fun _ =>
                          (rd t13 t20.2.1).bind fun t70 =>
                          (rd t13 t20.2.2.1).bind fun _ =>
                          (rd t13 t20.2.2.1).bind fun t75 =>
                          (rd t13 t17).bind fun _ =>
                          (rd t13 t17).bind fun _ =>
                          some ((), (List.set t13 (Int.toNat t17) (ibits .and .i64 t70 t75))))
                          (Option.bind
                            (cond (t20.1 == 5)
                              ((rd t13 t20.2.1).bind fun _ =>
                              (rd t13 t20.2.1).bind fun t86 =>
                              (rd t13 t20.2.2.1).bind fun _ =>
                              (rd t13 t20.2.2.1).bind fun t91 =>
                              (rd t13 t17).bind fun _ =>
                              (rd t13 t17).bind fun _ =>
                              some ((), (List.set t13 (Int.toNat t17) (ibits .or .i64 t86 t91))))
                              (Option.bind
                                (cond (t20.1 == 6)
                                  ((rd t13 t20.2.1).bind fun _ =>
                                  (rd t13 t20.2.1).bind fun t102 =>
                                  (rd t13 t20.2.2.1).bind fun _ =>
                                  (rd t13 t20.2.2.1).bind fun t107 =>
                                  (rd t13 t17).bind fun _ =>
                                  (rd t13 t17).bind fun _ =>
                                  some ((), (List.set t13 (Int.toNat t17) (ibits .xor .i64 t102 t107))))
                                  (Option.bind
                                    (cond (t20.1 == 7)
                                      ((rd t13 t20.2.2.2.1).bind fun _ =>
                                      (rd t13 t20.2.2.2.1).bind fun t118 =>
                                      (rd t13 t17).bind fun _ =>
                                      (rd t13 t17).bind fun _ =>
                                      let t13_8 : (List Int) := (List.set t13 (Int.toNat t17) t118)
                                      (rd t13_8 t20.2.1).bind fun _ =>
                                      (rd t13_8 t20.2.1).bind fun t124 =>
                                      Option.bind
                                        (cond (t124 == 1)
                                          ((rd t13_8 t20.2.2.1).bind fun _ =>
                                          (rd t13_8 t20.2.2.1).bind fun t132 =>
                                          (rd t13_8 t17).bind fun _ =>
                                          (rd t13_8 t17).bind fun _ =>
                                          some ((), (List.set t13_8 (Int.toNat t17) t132)))
                                          (some ((), t13_8)) : Option (Unit × (List Int))) fun ((_, t13_10) : (Unit × (List Int))) =>
                                      some ((), t13_10))
                                      (some ((), t13)) : Option (Unit × (List Int))) fun ((_, t13_11) : (Unit × (List Int))) =>
                                  some ((), t13_11)) : Option (Unit × (List Int))) fun ((_, t13_12) : (Unit × (List Int))) =>
                              some ((), t13_12)) : Option (Unit × (List Int))) fun ((_, t13_13) : (Unit × (List Int))) =>
                          some ((), t13_13)) : Option (Unit × (List Int))) fun ((_, t13_14) : (Unit × (List Int))) =>
                      some ((), t13_14)) : Option (Unit × (List Int))) fun ((_, t13_15) : (Unit × (List Int))) =>
                  some ((), t13_15)) : Option (Unit × (List Int))) fun ((_, t13_16) : (Unit × (List Int))) =>
              some ((), t13_16)) : Option (Unit × (List Int))) fun ((_, t13_17) : (Unit × (List Int))) =>
          some ((), t13_17)) : Option (Unit × (List Int))) fun ((_, t13_18) : (Unit × (List Int))) =>
      some (Sum.inl ((), (w64 (t17 + 1)), t13_18)))
      (some (Sum.inr ((), t13)))
theorem values69.l0.le (k j : Nat) (hk_ : k ≤ j) : ∀ a0_ a1_ a2_, ∀ s, Le (values69.l0.tw k a0_ a1_ a2_ s) (values69.l0 j a0_ a1_ a2_ s) := by
  intro a0_ a1_ a2_
  unfold values69.l0 values69.l0.tw
  repeat' (first | with_reducible exact Le.refl _ | with_reducible refine Le.self ?_ | with_reducible refine Le.cond ?_ ?_ | with_reducible refine Le.orNil ?_ ?_ | with_reducible refine Le.agree ?_ ?_ | with_reducible refine Le.joined ?_ ?_ | with_reducible refine Le.bind ?_ ?_ | with_reducible refine Le.loop hk_ ?_ _ | with_reducible refine Le.prod ?_ | intro _ | (dsimp only) | exact Le.refl _)

def values69.tw (k : Nat) (c : (Int × ((List (Int × (Int × (Int × (Int × Int))))) × ((List Int) × ((List Int) × (List Int)))))) (state : Int) (in_ : Int) : Option ((List Int) × Unit) :=
  (if 0 ≤ (List.length c.2.1 : Int) ∧ (List.length c.2.1 : Int) ≤ (List.length c.2.1 : Int) ∧ (List.length c.2.1 : Int) * 8 ≤ 140737488355328 then some () else none).bind fun _ =>
  Option.bind
    (loopN (values69.l0.tw k c state in_) k ((), 0, (List.replicate (Int.toNat (List.length c.2.1 : Int)) 0)) : Option (Unit × (List Int))) fun ((_, t13_19) : (Unit × (List Int))) =>
  some (t13_19, ())
theorem values69.le (k j : Nat) (hk_ : k ≤ j) : ∀ a0_ a1_ a2_, Le (values69.tw k a0_ a1_ a2_) (values69 j a0_ a1_ a2_) := by
  intro a0_ a1_ a2_
  unfold values69 values69.tw
  repeat' (first | with_reducible exact Le.refl _ | with_reducible exact values69.l0.le _ _ hk_ _ _ _ | with_reducible refine Le.self ?_ | with_reducible refine Le.cond ?_ ?_ | with_reducible refine Le.orNil ?_ ?_ | with_reducible refine Le.agree ?_ ?_ | with_reducible refine Le.joined ?_ ?_ | with_reducible refine Le.bind ?_ ?_ | with_reducible refine Le.loop hk_ ?_ _ | with_reducible refine Le.prod ?_ | intro _ | (dsimp only) | exact Le.refl _)

def bits70.l0.tw (k : Nat) (v : (List Int)) (l : (List Int)) : (Int × Int) → Option ((Int × Int) ⊕ Int)
  | (out, t10) =>
    cond (decide (t10 < (List.length l : Int)))
      ((rd l t10).bind fun t13 =>
      (rd v t13).bind fun t18 =>
      (if t10 < 0 then none else some (shlI .i64 t18 t10)).bind fun t21 =>
      some (Sum.inl ((ibits .or .i64 out t21), (w64 (t10 + 1)))))
      (some (Sum.inr out))
theorem bits70.l0.le (k j : Nat) (hk_ : k ≤ j) : ∀ a0_ a1_, ∀ s, Le (bits70.l0.tw k a0_ a1_ s) (bits70.l0 j a0_ a1_ s) := by
  intro a0_ a1_
  unfold bits70.l0 bits70.l0.tw
  repeat' (first | with_reducible exact Le.refl _ | with_reducible refine Le.self ?_ | with_reducible refine Le.cond ?_ ?_ | with_reducible refine Le.orNil ?_ ?_ | with_reducible refine Le.agree ?_ ?_ | with_reducible refine Le.joined ?_ ?_ | with_reducible refine Le.bind ?_ ?_ | with_reducible refine Le.loop hk_ ?_ _ | with_reducible refine Le.prod ?_ | intro _ | (dsimp only) | exact Le.refl _)

def bits70.tw (k : Nat) (v : (List Int)) (l : (List Int)) : Option (Int × Unit) :=
  Option.bind
    (loopN (bits70.l0.tw k v l) k (0, 0) : Option Int) fun (out_1 : Int) =>
  some (out_1, ())
theorem bits70.le (k j : Nat) (hk_ : k ≤ j) : ∀ a0_ a1_, Le (bits70.tw k a0_ a1_) (bits70 j a0_ a1_) := by
  intro a0_ a1_
  unfold bits70 bits70.tw
  repeat' (first | with_reducible exact Le.refl _ | with_reducible exact bits70.l0.le _ _ hk_ _ _ | with_reducible refine Le.self ?_ | with_reducible refine Le.cond ?_ ?_ | with_reducible refine Le.orNil ?_ ?_ | with_reducible refine Le.agree ?_ ?_ | with_reducible refine Le.joined ?_ ?_ | with_reducible refine Le.bind ?_ ?_ | with_reducible refine Le.loop hk_ ?_ _ | with_reducible refine Le.prod ?_ | intro _ | (dsimp only) | exact Le.refl _)

def Check105.l0.tw (k : Nat) (t40 : (List (Int × Int))) : ((Int × (Int × (List (List (Int × Int))))) × Int) → Option (((Int × (Int × (List (List (Int × Int))))) × Int) ⊕ ((Int × (Int × (List (List (Int × Int))))) ⊕ (((Int × (Int × (List (List (Int × Int))))) × Int) ⊕ (Unit ⊕ (Int × Unit)))))
  | (t_2, t50) =>
    cond (decide (t50 < (List.length t40 : Int)))
      ((rd t40 t50).bind fun t52 =>
      Option.bind (cond (decide (t52.1 < 0))
        (some true)
        ((if t_2.2.1 < 0 then none else some (shlI .i64 1 t_2.2.1)).bind fun t62 =>
        some (decide (t52.1 ≥ t62)))) fun t64 =>
      cond t64
        (some (Sum.inr (Sum.inr (Sum.inr (Sum.inr (1, ()))))))
        (cond (cond (decide (t52.2 < 0)) true (decide (t52.2 ≥ (List.length t_2.2.2 : Int))))
          (some (Sum.inr (Sum.inr (Sum.inr (Sum.inr (4, ()))))))
          (some (Sum.inl (t_2, (w64 (t50 + 1)))))))
      (some (Sum.inr (Sum.inl t_2)))
theorem Check105.l0.le (k j : Nat) (hk_ : k ≤ j) : ∀ a0_, ∀ s, Le (Check105.l0.tw k a0_ s) (Check105.l0 j a0_ s) := by
  intro a0_
  unfold Check105.l0 Check105.l0.tw
  repeat' (first | with_reducible exact Le.refl _ | with_reducible refine Le.self ?_ | with_reducible refine Le.cond ?_ ?_ | with_reducible refine Le.orNil ?_ ?_ | with_reducible refine Le.agree ?_ ?_ | with_reducible refine Le.joined ?_ ?_ | with_reducible refine Le.bind ?_ ?_ | with_reducible refine Le.loop hk_ ?_ _ | with_reducible refine Le.prod ?_ | intro _ | (dsimp only) | exact Le.refl _)

def Check105.l1.tw (k : Nat) (t : (Int × (Int × (List (List (Int × Int)))))) : ((Int × (Int × (List (List (Int × Int))))) × Int) → Option (((Int × (Int × (List (List (Int × Int))))) × Int) ⊕ (Unit ⊕ (Int × Unit)))
  | (t_1, t38) =>
    cond (decide (t38 < (List.length t.2.2 : Int)))
      ((rd t.2.2 t38).bind fun t40 =>
      (if t_1.1 < 0 then none else some (shlI .i64 1 t_1.1)).bind fun t46 =>
      cond ((List.length t40 : Int) != t46)
        (some (Sum.inr (Sum.inr (3, ()))))
        (Option.bind
          (loopN (Check105.l0.tw k t40) k (t_1, 0) : Option ((Int × (Int × (List (List (Int × Int))))) ⊕ (((Int × (Int × (List (List (Int × Int))))) × Int) ⊕ (Unit ⊕ (Int × Unit))))) (joined fun (t_3 : (Int × (Int × (List (List (Int × Int)))))) =>
          some (Sum.inl (t_3, (w64 (t38 + 1)))))))
      (some (Sum.inr (Sum.inl ())))
theorem Check105.l1.le (k j : Nat) (hk_ : k ≤ j) : ∀ a0_, ∀ s, Le (Check105.l1.tw k a0_ s) (Check105.l1 j a0_ s) := by
  intro a0_
  unfold Check105.l1 Check105.l1.tw
  repeat' (first | with_reducible exact Le.refl _ | with_reducible exact Check105.l0.le _ _ hk_ _ | with_reducible refine Le.self ?_ | with_reducible refine Le.cond ?_ ?_ | with_reducible refine Le.orNil ?_ ?_ | with_reducible refine Le.agree ?_ ?_ | with_reducible refine Le.joined ?_ ?_ | with_reducible refine Le.bind ?_ ?_ | with_reducible refine Le.loop hk_ ?_ _ | with_reducible refine Le.prod ?_ | intro _ | (dsimp only) | exact Le.refl _)

def Check105.tw (k : Nat) (t : (Int × (Int × (List (List (Int × Int)))))) : Option (Int × Unit) :=
  cond (cond (cond (cond (cond (decide (t.1 < 0)) true (decide (t.1 > 4))) true (decide (t.2.1 < 0))) true (decide (t.2.1 > 10))) true (decide ((List.length t.2.2 : Int) > 64)))
    (some (2, ()))
    (cond ((List.length t.2.2 : Int) == 0)
      (some (13, ()))
      (Option.bind
        (loopN (Check105.l1.tw k t) k (t, 0) : Option (Unit ⊕ (Int × Unit))) (joined fun (_ : Unit) =>
        some (0, ()))))
theorem Check105.le (k j : Nat) (hk_ : k ≤ j) : ∀ a0_, Le (Check105.tw k a0_) (Check105 j a0_) := by
  intro a0_
  unfold Check105 Check105.tw
  repeat' (first | with_reducible exact Le.refl _ | with_reducible exact Check105.l1.le _ _ hk_ _ | with_reducible refine Le.self ?_ | with_reducible refine Le.cond ?_ ?_ | with_reducible refine Le.orNil ?_ ?_ | with_reducible refine Le.agree ?_ ?_ | with_reducible refine Le.joined ?_ ?_ | with_reducible refine Le.bind ?_ ?_ | with_reducible refine Le.loop hk_ ?_ _ | with_reducible refine Le.prod ?_ | intro _ | (dsimp only) | exact Le.refl _)

def width106.l0.tw (k : Nat) (n : Int) : Int → Option (Int ⊕ Int)
  | k_ =>
    (if k_ < 0 then none else some (shlI .i64 1 k_)).bind fun t5 =>
    cond (decide (t5 < n))
      (some (Sum.inl (w64 (k_ + 1))))
      (some (Sum.inr k_))
theorem width106.l0.le (k j : Nat) (hk_ : k ≤ j) : ∀ a0_, ∀ s, Le (width106.l0.tw k a0_ s) (width106.l0 j a0_ s) := by
  intro a0_
  unfold width106.l0 width106.l0.tw
  repeat' (first | with_reducible exact Le.refl _ | with_reducible refine Le.self ?_ | with_reducible refine Le.cond ?_ ?_ | with_reducible refine Le.orNil ?_ ?_ | with_reducible refine Le.agree ?_ ?_ | with_reducible refine Le.joined ?_ ?_ | with_reducible refine Le.bind ?_ ?_ | with_reducible refine Le.loop hk_ ?_ _ | with_reducible refine Le.prod ?_ | intro _ | (dsimp only) | exact Le.refl _)

def width106.tw (k : Nat) (n : Int) : Option (Int × Unit) :=
  Option.bind
    (loopN (width106.l0.tw k n) k 0 : Option Int) fun (k__1 : Int) =>
  some (k__1, ())
theorem width106.le (k j : Nat) (hk_ : k ≤ j) : ∀ a0_, Le (width106.tw k a0_) (width106 j a0_) := by
  intro a0_
  unfold width106 width106.tw
  repeat' (first | with_reducible exact Le.refl _ | with_reducible exact width106.l0.le _ _ hk_ _ | with_reducible refine Le.self ?_ | with_reducible refine Le.cond ?_ ?_ | with_reducible refine Le.orNil ?_ ?_ | with_reducible refine Le.agree ?_ ?_ | with_reducible refine Le.joined ?_ ?_ | with_reducible refine Le.bind ?_ ?_ | with_reducible refine Le.loop hk_ ?_ _ | with_reducible refine Le.prod ?_ | intro _ | (dsimp only) | exact Le.refl _)

def put107.tw (k : Nat) (_ : Unit) (g : (Int × (Int × (Int × (Int × Int))))) (o0 : (Unit × Unit)) (o1 : (List (Int × (Int × (Int × (Int × Int)))))) (o2 : (List ((Int × (Int × (Int × (Int × Int)))) × Int))) : Option (Int × ((Unit × Unit) × ((List (Int × (Int × (Int × (Int × Int))))) × (List ((Int × (Int × (Int × (Int × Int)))) × Int))))) :=
  let t13 : (Option Int) := (mget (.st (.pair (.int .i64) (.pair (.int .i64) (.pair (.int .i64) (.pair (.int .i64) (.int .i64)))))) (.int .i64) o2 g)
  cond (Option.isSome t13)
    (some ((Option.getD (α := Int) t13 (0 : Int)), o0, o1, o2))
    ((if room (List.length o1 + List.length [g]) 40 then some () else none).bind fun _ =>
    some ((w64 ((List.length (o1 ++ [g]) : Int) - 1)), (o0.1, o0.2), (o1 ++ [g]), (mput (.st (.pair (.int .i64) (.pair (.int .i64) (.pair (.int .i64) (.pair (.int .i64) (.int .i64)))))) (.int .i64) o2 g (List.length o1 : Int))))
theorem put107.le (k j : Nat) (hk_ : k ≤ j) : ∀ a0_ a1_ a2_ a3_ a4_, Le (put107.tw k a0_ a1_ a2_ a3_ a4_) (put107 j a0_ a1_ a2_ a3_ a4_) := by
  intro a0_ a1_ a2_ a3_ a4_
  unfold put107 put107.tw
  repeat' (first | with_reducible exact Le.refl _ | with_reducible refine Le.self ?_ | with_reducible refine Le.cond ?_ ?_ | with_reducible refine Le.orNil ?_ ?_ | with_reducible refine Le.agree ?_ ?_ | with_reducible refine Le.joined ?_ ?_ | with_reducible refine Le.bind ?_ ?_ | with_reducible refine Le.loop hk_ ?_ _ | with_reducible refine Le.prod ?_ | intro _ | (dsimp only) | exact Le.refl _)

def Of1108.tw (k : Nat) (x : Int) (t1 : (Int × (Int × (List (List (Int × Int)))))) : Option ((Int × Int) × Unit) :=
  (if t1.1 < 0 then none else some (shrI .i64 x t1.1)).bind fun t8 =>
  Option.bind
    (cond (decide (t8 ≥ (List.length t1.2.2 : Int)))
      (some (t1, (), 0, 0, 0))
      (some (t1, (), t8, 0, 0)) : Option ((Int × (Int × (List (List (Int × Int))))) × (Unit × (Int × (Int × Int))))) fun ((t1_1, _, s, _) : ((Int × (Int × (List (List (Int × Int))))) × (Unit × (Int × (Int × Int))))) =>
  (rd t1_1.2.2 s).bind fun t17 =>
  (if t1_1.1 < 0 then none else some (shlI .i64 1 t1_1.1)).bind fun t22 =>
  (rd t17 (ibits .and .i64 x (w64 (t22 - 1)))).bind fun t25 =>
  some (t25, ())
theorem Of1108.le (k j : Nat) (hk_ : k ≤ j) : ∀ a0_ a1_, Le (Of1108.tw k a0_ a1_) (Of1108 j a0_ a1_) := by
  intro a0_ a1_
  unfold Of1108 Of1108.tw
  repeat' (first | with_reducible exact Le.refl _ | with_reducible refine Le.self ?_ | with_reducible refine Le.cond ?_ ?_ | with_reducible refine Le.orNil ?_ ?_ | with_reducible refine Le.agree ?_ ?_ | with_reducible refine Le.joined ?_ ?_ | with_reducible refine Le.bind ?_ ?_ | with_reducible refine Le.loop hk_ ?_ _ | with_reducible refine Le.prod ?_ | intro _ | (dsimp only) | exact Le.refl _)

def bit135.tw (k : Nat) (_ : Unit) (n : Int) (o0 : (Unit × Unit)) (o1 : (List (Int × (Int × (Int × (Int × Int)))))) (o2 : (List ((Int × (Int × (Int × (Int × Int)))) × Int))) : Option (Int × ((Unit × Unit) × ((List (Int × (Int × (Int × (Int × Int))))) × (List ((Int × (Int × (Int × (Int × Int)))) × Int))))) :=
  (put107.tw k () (0, 0, 0, 0, n) o0 o1 o2).bind fun t8 =>
  some (t8.1, t8.2.1, t8.2.2.1, t8.2.2.2)
theorem bit135.le (k j : Nat) (hk_ : k ≤ j) : ∀ a0_ a1_ a2_ a3_ a4_, Le (bit135.tw k a0_ a1_ a2_ a3_ a4_) (bit135 j a0_ a1_ a2_ a3_ a4_) := by
  intro a0_ a1_ a2_ a3_ a4_
  unfold bit135 bit135.tw
  repeat' (first | with_reducible exact Le.refl _ | with_reducible exact put107.le _ _ hk_ _ _ _ _ _ | with_reducible refine Le.self ?_ | with_reducible refine Le.cond ?_ ?_ | with_reducible refine Le.orNil ?_ ?_ | with_reducible refine Le.agree ?_ ?_ | with_reducible refine Le.joined ?_ ?_ | with_reducible refine Le.bind ?_ ?_ | with_reducible refine Le.loop hk_ ?_ _ | with_reducible refine Le.prod ?_ | intro _ | (dsimp only) | exact Le.refl _)

def constant150.tw (k : Nat) (_ : Unit) (k_ : Int) (o0 : (Unit × Unit)) (o1 : (List (Int × (Int × (Int × (Int × Int)))))) (o2 : (List ((Int × (Int × (Int × (Int × Int)))) × Int))) : Option ((Int × (Bool × Unit)) × ((Unit × Unit) × ((List (Int × (Int × (Int × (Int × Int))))) × (List ((Int × (Int × (Int × (Int × Int)))) × Int))))) :=
  (rd o1 k_).bind fun _ =>
  (rd o1 k_).bind fun t13 =>
  (rd o1 k_).bind fun _ =>
  (rd o1 k_).bind fun t21 =>
  some ((t13.2.2.2.2, (t21.1 == 0), ()), o0, o1, o2)
theorem constant150.le (k j : Nat) (hk_ : k ≤ j) : ∀ a0_ a1_ a2_ a3_ a4_, Le (constant150.tw k a0_ a1_ a2_ a3_ a4_) (constant150 j a0_ a1_ a2_ a3_ a4_) := by
  intro a0_ a1_ a2_ a3_ a4_
  unfold constant150 constant150.tw
  repeat' (first | with_reducible exact Le.refl _ | with_reducible refine Le.self ?_ | with_reducible refine Le.cond ?_ ?_ | with_reducible refine Le.orNil ?_ ?_ | with_reducible refine Le.agree ?_ ?_ | with_reducible refine Le.joined ?_ ?_ | with_reducible refine Le.bind ?_ ?_ | with_reducible refine Le.loop hk_ ?_ _ | with_reducible refine Le.prod ?_ | intro _ | (dsimp only) | exact Le.refl _)

def not138.tw (k : Nat) (_ : Unit) (a : Int) (o0 : (Unit × Unit)) (o1 : (List (Int × (Int × (Int × (Int × Int)))))) (o2 : (List ((Int × (Int × (Int × (Int × Int)))) × Int))) : Option (Int × ((Unit × Unit) × ((List (Int × (Int × (Int × (Int × Int))))) × (List ((Int × (Int × (Int × (Int × Int)))) × Int))))) :=
  (constant150.tw k () a o0 o1 o2).bind fun t11 =>
  cond t11.1.2.1
    ((bit135.tw k () (w64 (1 - t11.1.1)) t11.2.1 t11.2.2.1 t11.2.2.2).bind fun t18 =>
    some (t18.1, t18.2.1, t18.2.2.1, t18.2.2.2))
    ((rd t11.2.2.1 a).bind fun _ =>
    (rd t11.2.2.1 a).bind fun t25 =>
    cond (t25.1 == 3)
      (some (t25.2.1, t11.2.1, t11.2.2.1, t11.2.2.2))
      ((put107.tw k () (3, a, 0, 0, 0) t11.2.1 t11.2.2.1 t11.2.2.2).bind fun t34 =>
      some (t34.1, t34.2.1, t34.2.2.1, t34.2.2.2)))
theorem not138.le (k j : Nat) (hk_ : k ≤ j) : ∀ a0_ a1_ a2_ a3_ a4_, Le (not138.tw k a0_ a1_ a2_ a3_ a4_) (not138 j a0_ a1_ a2_ a3_ a4_) := by
  intro a0_ a1_ a2_ a3_ a4_
  unfold not138 not138.tw
  repeat' (first | with_reducible exact Le.refl _ | with_reducible exact put107.le _ _ hk_ _ _ _ _ _ | with_reducible exact bit135.le _ _ hk_ _ _ _ _ _ | with_reducible exact constant150.le _ _ hk_ _ _ _ _ _ | with_reducible refine Le.self ?_ | with_reducible refine Le.cond ?_ ?_ | with_reducible refine Le.orNil ?_ ?_ | with_reducible refine Le.agree ?_ ?_ | with_reducible refine Le.joined ?_ ?_ | with_reducible refine Le.bind ?_ ?_ | with_reducible refine Le.loop hk_ ?_ _ | with_reducible refine Le.prod ?_ | intro _ | (dsimp only) | exact Le.refl _)

def mux136.tw (k : Nat) (_ : Unit) (a : Int) (b : Int) (c : Int) (o0 : (Unit × Unit)) (o1 : (List (Int × (Int × (Int × (Int × Int)))))) (o2 : (List ((Int × (Int × (Int × (Int × Int)))) × Int))) : Option (Int × ((Unit × Unit) × ((List (Int × (Int × (Int × (Int × Int))))) × (List ((Int × (Int × (Int × (Int × Int)))) × Int))))) :=
  (constant150.tw k () a o0 o1 o2).bind fun t18 =>
  cond t18.1.2.1
    (cond (t18.1.1 == 1)
      (some (b, t18.2.1, t18.2.2.1, t18.2.2.2))
      (some (c, t18.2.1, t18.2.2.1, t18.2.2.2)))
    ((constant150.tw k () b t18.2.1 t18.2.2.1 t18.2.2.2).bind fun t29 =>
    (constant150.tw k () c t29.2.1 t29.2.2.1 t29.2.2.2).bind fun t35 =>
    cond (b == c)
      (some (b, t35.2.1, t35.2.2.1, t35.2.2.2))
      (cond (cond (cond t29.1.2.1 t35.1.2.1 false) (t29.1.1 == 1) false)
        (some (a, t35.2.1, t35.2.2.1, t35.2.2.2))
        (cond (cond t29.1.2.1 t35.1.2.1 false)
          ((not138.tw k () a t35.2.1 t35.2.2.1 t35.2.2.2).bind fun t60 =>
          some (t60.1, t60.2.1, t60.2.2.1, t60.2.2.2))
          ((put107.tw k () (7, a, b, c, 0) t35.2.1 t35.2.2.1 t35.2.2.2).bind fun t66 =>
          some (t66.1, t66.2.1, t66.2.2.1, t66.2.2.2)))))
theorem mux136.le (k j : Nat) (hk_ : k ≤ j) : ∀ a0_ a1_ a2_ a3_ a4_ a5_ a6_, Le (mux136.tw k a0_ a1_ a2_ a3_ a4_ a5_ a6_) (mux136 j a0_ a1_ a2_ a3_ a4_ a5_ a6_) := by
  intro a0_ a1_ a2_ a3_ a4_ a5_ a6_
  unfold mux136 mux136.tw
  repeat' (first | with_reducible exact Le.refl _ | with_reducible exact put107.le _ _ hk_ _ _ _ _ _ | with_reducible exact constant150.le _ _ hk_ _ _ _ _ _ | with_reducible exact not138.le _ _ hk_ _ _ _ _ _ | with_reducible refine Le.self ?_ | with_reducible refine Le.cond ?_ ?_ | with_reducible refine Le.orNil ?_ ?_ | with_reducible refine Le.agree ?_ ?_ | with_reducible refine Le.joined ?_ ?_ | with_reducible refine Le.bind ?_ ?_ | with_reducible refine Le.loop hk_ ?_ _ | with_reducible refine Le.prod ?_ | intro _ | (dsimp only) | exact Le.refl _)

def tree109.b.tw (r_ : Grptree109.T) (k : Nat) (_ : Unit) (vars : (List Int)) (f : (List Int)) (o0 : (Unit × Unit)) (o1 : (List (Int × (Int × (Int × (Int × Int)))))) (o2 : (List ((Int × (Int × (Int × (Int × Int)))) × Int))) : Option (Int × ((Unit × Unit) × ((List (Int × (Int × (Int × (Int × Int))))) × (List ((Int × (Int × (Int × (Int × Int)))) × Int))))) :=
  cond ((List.length vars : Int) == 0)
    ((rd f 0).bind fun t15 =>
    (bit135.tw k () t15 o0 o1 o2).bind fun t17 =>
    some (t17.1, t17.2.1, t17.2.2.1, t17.2.2.2))
    (let t20 : Int := (w64 ((List.length vars : Int) - 1))
    (slc vars 0 t20).bind fun t24 =>
    (if t20 < 0 then none else some (shlI .i64 1 t20)).bind fun t27 =>
    (slc f 0 t27).bind fun t28 =>
    (r_ () t24 t28 o0 o1 o2).bind fun t29 =>
    (slc vars 0 t20).bind fun t33 =>
    (if t20 < 0 then none else some (shlI .i64 1 t20)).bind fun t36 =>
    (slc f t36 (List.length f : Int)).bind fun t37 =>
    (r_ () t33 t37 t29.2.1 t29.2.2.1 t29.2.2.2).bind fun t38 =>
    (rd vars t20).bind fun t42 =>
    (mux136.tw k () t42 t38.1 t29.1 t38.2.1 t38.2.2.1 t38.2.2.2).bind fun t46 =>
    some (t46.1, t46.2.1, t46.2.2.1, t46.2.2.2))
theorem tree109.b.le (r_ r'_ : Grptree109.T) (h_ : ∀ a0_ a1_ a2_ a3_ a4_ a5_, Le (r_ a0_ a1_ a2_ a3_ a4_ a5_) (r'_ a0_ a1_ a2_ a3_ a4_ a5_)) (k j : Nat) (hk_ : k ≤ j) : ∀ a0_ a1_ a2_ a3_ a4_ a5_, Le (tree109.b.tw r_ k a0_ a1_ a2_ a3_ a4_ a5_) (tree109.b r'_ j a0_ a1_ a2_ a3_ a4_ a5_) := by
  intro a0_ a1_ a2_ a3_ a4_ a5_
  unfold tree109.b tree109.b.tw
  repeat' (first | with_reducible exact Le.refl _ | with_reducible exact bit135.le _ _ hk_ _ _ _ _ _ | with_reducible exact mux136.le _ _ hk_ _ _ _ _ _ _ _ | with_reducible exact h_ _ _ _ _ _ _ | with_reducible refine Le.self ?_ | with_reducible refine Le.cond ?_ ?_ | with_reducible refine Le.orNil ?_ ?_ | with_reducible refine Le.agree ?_ ?_ | with_reducible refine Le.joined ?_ ?_ | with_reducible refine Le.bind ?_ ?_ | with_reducible refine Le.loop hk_ ?_ _ | with_reducible refine Le.prod ?_ | intro _ | (dsimp only) | exact Le.refl _)

def Grptree109.tw : Nat → Grptree109.T
  | 0 => ((fun _ _ _ _ _ _ => none))
  | k + 1 => (tree109.b.tw (Grptree109.tw k) k)
theorem Grptree109.le : ∀ (k j : Nat), k ≤ j → ∀ a0_ a1_ a2_ a3_ a4_ a5_, Le (Grptree109.tw k a0_ a1_ a2_ a3_ a4_ a5_) (Grptree109 j a0_ a1_ a2_ a3_ a4_ a5_)
  | 0, _, _ => fun _ _ _ _ _ _ => Le.none _
  | k + 1, 0, h => absurd h (by omega)
  | k + 1, j + 1, h => fun a0_ a1_ a2_ a3_ a4_ a5_ => tree109.b.le _ _ (Grptree109.le k j (by omega)) k j (by omega) a0_ a1_ a2_ a3_ a4_ a5_

def tree109.tw (k : Nat) : Unit → (List Int) → (List Int) → (Unit × Unit) → (List (Int × (Int × (Int × (Int × Int))))) → (List ((Int × (Int × (Int × (Int × Int)))) × Int)) → Option (Int × ((Unit × Unit) × ((List (Int × (Int × (Int × (Int × Int))))) × (List ((Int × (Int × (Int × (Int × Int)))) × Int))))) := (Grptree109.tw k)
theorem tree109.le (k j : Nat) (hk_ : k ≤ j) : ∀ a0_ a1_ a2_ a3_ a4_ a5_, Le (tree109.tw k a0_ a1_ a2_ a3_ a4_ a5_) (tree109 j a0_ a1_ a2_ a3_ a4_ a5_) := Grptree109.le k j hk_

def swept1137.l0.tw (r_ : Grpswept1137.T) (k : Nat) (t18 : (Int × (Int × (Int × (Int × Int))))) : (Unit × ((Int × (Int × (Int × (Int × Int)))) × (Unit × (Int × (Unit × ((List Bool) × ((Unit × ((Int × ((List (Int × (Int × (Int × (Int × Int))))) × ((List Int) × ((List Int) × (List Int))))) × (Unit × Unit))) × (List Int)))))))) → Option ((Unit × ((Int × (Int × (Int × (Int × Int)))) × (Unit × (Int × (Unit × ((List Bool) × ((Unit × ((Int × ((List (Int × (Int × (Int × (Int × Int))))) × ((List Int) × ((List Int) × (List Int))))) × (Unit × Unit))) × (List Int)))))))) ⊕ (Unit × ((List Bool) × (Unit × ((Int × ((List (Int × (Int × (Int × (Int × Int))))) × ((List Int) × ((List Int) × (List Int))))) × (Unit × Unit))))))
  | (_, g, _, t28, _, o1_1, o2_1, o4) =>
    cond (decide (t28 < (List.length ([t18.2.1, t18.2.2.1, t18.2.2.2.1] : List Int) : Int)))
      ((rd o4 t28).bind fun _ =>
      (rd o4 t28).bind fun t32 =>
      Option.bind
        (cond (cond (decide (g.1 ≥ 3)) (cond (cond (t28 == 0) true (cond (t28 == 1) (decide (g.1 > 3)) false)) true (g.1 == 7)) false)
          ((r_ t32 o2_1.1 o2_1.2.1 o2_1.2.2.1 () o1_1 o2_1).bind fun t56 =>
          some ((), g, (), (), t56.2.2.1, t56.2.2.2, o4))
          (some ((), g, (), (), o1_1, o2_1, o4)) : Option (Unit × ((Int × (Int × (Int × (Int × Int)))) × (Unit × (Unit × ((List Bool) × ((Unit × ((Int × ((List (Int × (Int × (Int × (Int × Int))))) × ((List Int) × ((List Int) × (List Int))))) × (Unit × Unit))) × (List Int)))))))) fun ((_, g_1, _, _, o1_2, o2_2, o4_1) : (Unit × ((Int × (Int × (Int × (Int × Int)))) × (Unit × (Unit × ((List Bool) × ((Unit × ((Int × ((List (Int × (Int × (Int × (Int × Int))))) × ((List Int) × ((List Int) × (List Int))))) × (Unit × Unit))) × (List Int)))))))) =>
      some (Sum.inl ((), g_1, (), (w64 (t28 + 1)), (), o1_2, o2_2, o4_1)))
      (some (Sum.inr ((), o1_1, o2_1)))
theorem swept1137.l0.le (r_ r'_ : Grpswept1137.T) (h_ : ∀ a0_ a1_ a2_ a3_ a4_ a5_ a6_, Le (r_ a0_ a1_ a2_ a3_ a4_ a5_ a6_) (r'_ a0_ a1_ a2_ a3_ a4_ a5_ a6_)) (k j : Nat) (hk_ : k ≤ j) : ∀ a0_, ∀ s, Le (swept1137.l0.tw r_ k a0_ s) (swept1137.l0 r'_ j a0_ s) := by
  intro a0_
  unfold swept1137.l0 swept1137.l0.tw
  repeat' (first | with_reducible exact Le.refl _ | with_reducible exact h_ _ _ _ _ _ _ _ | with_reducible refine Le.self ?_ | with_reducible refine Le.cond ?_ ?_ | with_reducible refine Le.orNil ?_ ?_ | with_reducible refine Le.agree ?_ ?_ | with_reducible refine Le.joined ?_ ?_ | with_reducible refine Le.bind ?_ ?_ | with_reducible refine Le.loop hk_ ?_ _ | with_reducible refine Le.prod ?_ | intro _ | (dsimp only) | exact Le.refl _)

def swept1137.b.tw (r_ : Grpswept1137.T) (k : Nat) (k_ : Int) (_ : Unit) (t2 : (Int × ((List (Int × (Int × (Int × (Int × Int))))) × ((List Int) × ((List Int) × (List Int)))))) (_ : Unit) (o0 : Unit) (o1 : (List Bool)) (o2 : (Unit × ((Int × ((List (Int × (Int × (Int × (Int × Int))))) × ((List Int) × ((List Int) × (List Int))))) × (Unit × Unit)))) : Option (Unit × (Unit × ((List Bool) × (Unit × ((Int × ((List (Int × (Int × (Int × (Int × Int))))) × ((List Int) × ((List Int) × (List Int))))) × (Unit × Unit)))))) :=
  (rd o1 k_).bind fun _ =>
  (rd o1 k_).bind fun t11 =>
  cond t11
    (some ((), (), o1, o2))
    ((rd o1 k_).bind fun _ =>
    (rd o1 k_).bind fun _ =>
    (rd t2.2.1 k_).bind fun t18 =>
    Option.bind
      (loopN (swept1137.l0.tw r_ k t18) k ((), t18, (), 0, (), (List.set o1 (Int.toNat k_) true), o2, ([t18.2.1, t18.2.2.1, t18.2.2.2.1] : List Int)) : Option (Unit × ((List Bool) × (Unit × ((Int × ((List (Int × (Int × (Int × (Int × Int))))) × ((List Int) × ((List Int) × (List Int))))) × (Unit × Unit)))))) fun ((_, o1_3, o2_3) : (Unit × ((List Bool) × (Unit × ((Int × ((List (Int × (Int × (Int × (Int × Int))))) × ((List Int) × ((List Int) × (List Int))))) × (Unit × Unit)))))) =>
    some ((), (), o1_3, o2_3))
theorem swept1137.b.le (r_ r'_ : Grpswept1137.T) (h_ : ∀ a0_ a1_ a2_ a3_ a4_ a5_ a6_, Le (r_ a0_ a1_ a2_ a3_ a4_ a5_ a6_) (r'_ a0_ a1_ a2_ a3_ a4_ a5_ a6_)) (k j : Nat) (hk_ : k ≤ j) : ∀ a0_ a1_ a2_ a3_ a4_ a5_ a6_, Le (swept1137.b.tw r_ k a0_ a1_ a2_ a3_ a4_ a5_ a6_) (swept1137.b r'_ j a0_ a1_ a2_ a3_ a4_ a5_ a6_) := by
  intro a0_ a1_ a2_ a3_ a4_ a5_ a6_
  unfold swept1137.b swept1137.b.tw
  repeat' (first | with_reducible exact Le.refl _ | with_reducible exact swept1137.l0.le _ _ h_ _ _ hk_ _ | with_reducible exact h_ _ _ _ _ _ _ _ | with_reducible refine Le.self ?_ | with_reducible refine Le.cond ?_ ?_ | with_reducible refine Le.orNil ?_ ?_ | with_reducible refine Le.agree ?_ ?_ | with_reducible refine Le.joined ?_ ?_ | with_reducible refine Le.bind ?_ ?_ | with_reducible refine Le.loop hk_ ?_ _ | with_reducible refine Le.prod ?_ | intro _ | (dsimp only) | exact Le.refl _)

def Grpswept1137.tw : Nat → Grpswept1137.T
  | 0 => ((fun _ _ _ _ _ _ _ => none))
  | k + 1 => (swept1137.b.tw (Grpswept1137.tw k) k)
theorem Grpswept1137.le : ∀ (k j : Nat), k ≤ j → ∀ a0_ a1_ a2_ a3_ a4_ a5_ a6_, Le (Grpswept1137.tw k a0_ a1_ a2_ a3_ a4_ a5_ a6_) (Grpswept1137 j a0_ a1_ a2_ a3_ a4_ a5_ a6_)
  | 0, _, _ => fun _ _ _ _ _ _ _ => Le.none _
  | k + 1, 0, h => absurd h (by omega)
  | k + 1, j + 1, h => fun a0_ a1_ a2_ a3_ a4_ a5_ a6_ => swept1137.b.le _ _ (Grpswept1137.le k j (by omega)) k j (by omega) a0_ a1_ a2_ a3_ a4_ a5_ a6_

def swept1137.tw (k : Nat) : Int → Unit → (Int × ((List (Int × (Int × (Int × (Int × Int))))) × ((List Int) × ((List Int) × (List Int))))) → Unit → Unit → (List Bool) → (Unit × ((Int × ((List (Int × (Int × (Int × (Int × Int))))) × ((List Int) × ((List Int) × (List Int))))) × (Unit × Unit))) → Option (Unit × (Unit × ((List Bool) × (Unit × ((Int × ((List (Int × (Int × (Int × (Int × Int))))) × ((List Int) × ((List Int) × (List Int))))) × (Unit × Unit)))))) := (Grpswept1137.tw k)
theorem swept1137.le (k j : Nat) (hk_ : k ≤ j) : ∀ a0_ a1_ a2_ a3_ a4_ a5_ a6_, Le (swept1137.tw k a0_ a1_ a2_ a3_ a4_ a5_ a6_) (swept1137 j a0_ a1_ a2_ a3_ a4_ a5_ a6_) := Grpswept1137.le k j hk_

def swept110.l0.tw (k : Nat) (c : (Int × ((List (Int × (Int × (Int × (Int × Int))))) × ((List Int) × ((List Int) × (List Int)))))) : ((Int × ((List (Int × (Int × (Int × (Int × Int))))) × ((List Int) × ((List Int) × (List Int))))) × (Unit × (Unit × (Unit × (Int × ((Int × (Unit × (Unit × (Unit × Unit)))) × ((List (Int × (Int × (Int × (Int × Int))))) × ((List Int) × ((List Int) × ((List Int) × ((List Bool) × (Unit × (Unit × ((Int × ((List (Int × (Int × (Int × (Int × Int))))) × ((List Int) × ((List Int) × (List Int))))) × (Unit × Unit))))))))))))))) → Option (((Int × ((List (Int × (Int × (Int × (Int × Int))))) × ((List Int) × ((List Int) × (List Int))))) × (Unit × (Unit × (Unit × (Int × ((Int × (Unit × (Unit × (Unit × Unit)))) × ((List (Int × (Int × (Int × (Int × Int))))) × ((List Int) × ((List Int) × ((List Int) × ((List Bool) × (Unit × (Unit × ((Int × ((List (Int × (Int × (Int × (Int × Int))))) × ((List Int) × ((List Int) × (List Int))))) × (Unit × Unit))))))))))))))) ⊕ ((Int × ((List (Int × (Int × (Int × (Int × Int))))) × ((List Int) × ((List Int) × (List Int))))) × (Unit × (Unit × (Unit × ((Int × (Unit × (Unit × (Unit × Unit)))) × ((List (Int × (Int × (Int × (Int × Int))))) × ((List Int) × ((List Int) × ((List Int) × ((List Bool) × (Unit × (Unit × ((Int × ((List (Int × (Int × (Int × (Int × Int))))) × ((List Int) × ((List Int) × (List Int))))) × (Unit × Unit)))))))))))))))
  | (c_1, _, _, _, t25, o0, o1, o2, o3, o4, t20, _, o7) =>
    cond (decide (t25 < (List.length c.2.2.1 : Int)))
      ((rd c.2.2.1 t25).bind fun t27 =>
      (swept1137.tw k t27 o7.1 o7.2.1 o7.2.2.1 () t20 (o7.1, o7.2.1, o7.2.2.1, o7.2.2.2)).bind fun t31 =>
      some (Sum.inl (c_1, (), (), (), (w64 (t25 + 1)), o0, o1, o2, o3, o4, t31.2.2.1, (), t31.2.2.2.1, t31.2.2.2.2.1, t31.2.2.2.2.2.1, t31.2.2.2.2.2.2)))
      (some (Sum.inr (c_1, (), (), (), o0, o1, o2, o3, o4, t20, (), o7)))
theorem swept110.l0.le (k j : Nat) (hk_ : k ≤ j) : ∀ a0_, ∀ s, Le (swept110.l0.tw k a0_ s) (swept110.l0 j a0_ s) := by
  intro a0_
  unfold swept110.l0 swept110.l0.tw
  repeat' (first | with_reducible exact Le.refl _ | with_reducible exact swept1137.le _ _ hk_ _ _ _ _ _ _ _ | with_reducible refine Le.self ?_ | with_reducible refine Le.cond ?_ ?_ | with_reducible refine Le.orNil ?_ ?_ | with_reducible refine Le.agree ?_ ?_ | with_reducible refine Le.joined ?_ ?_ | with_reducible refine Le.bind ?_ ?_ | with_reducible refine Le.loop hk_ ?_ _ | with_reducible refine Le.prod ?_ | intro _ | (dsimp only) | exact Le.refl _)

def swept110.l1.tw (k : Nat) (c_2 : (Int × ((List (Int × (Int × (Int × (Int × Int))))) × ((List Int) × ((List Int) × (List Int)))))) : ((Int × ((List (Int × (Int × (Int × (Int × Int))))) × ((List Int) × ((List Int) × (List Int))))) × (Unit × (Unit × (Unit × (Int × ((Int × (Unit × (Unit × (Unit × Unit)))) × ((List (Int × (Int × (Int × (Int × Int))))) × ((List Int) × ((List Int) × ((List Int) × ((List Bool) × (Unit × (Unit × ((Int × ((List (Int × (Int × (Int × (Int × Int))))) × ((List Int) × ((List Int) × (List Int))))) × (Unit × Unit))))))))))))))) → Option (((Int × ((List (Int × (Int × (Int × (Int × Int))))) × ((List Int) × ((List Int) × (List Int))))) × (Unit × (Unit × (Unit × (Int × ((Int × (Unit × (Unit × (Unit × Unit)))) × ((List (Int × (Int × (Int × (Int × Int))))) × ((List Int) × ((List Int) × ((List Int) × ((List Bool) × (Unit × (Unit × ((Int × ((List (Int × (Int × (Int × (Int × Int))))) × ((List Int) × ((List Int) × (List Int))))) × (Unit × Unit))))))))))))))) ⊕ ((Int × ((List (Int × (Int × (Int × (Int × Int))))) × ((List Int) × ((List Int) × (List Int))))) × (Unit × (Unit × ((Int × (Unit × (Unit × (Unit × Unit)))) × ((List (Int × (Int × (Int × (Int × Int))))) × ((List Int) × ((List Int) × ((List Int) × ((List Bool) × Unit))))))))))
  | (c_3, _, _, _, t36, o0_2, o1_2, o2_2, o3_2, o4_2, t20_2, _, o7_2) =>
    cond (decide (t36 < (List.length c_2.2.2.2.1 : Int)))
      ((rd c_2.2.2.2.1 t36).bind fun t38 =>
      (swept1137.tw k t38 o7_2.1 o7_2.2.1 o7_2.2.2.1 () t20_2 (o7_2.1, o7_2.2.1, o7_2.2.2.1, o7_2.2.2.2)).bind fun t42 =>
      some (Sum.inl (c_3, (), (), (), (w64 (t36 + 1)), o0_2, o1_2, o2_2, o3_2, o4_2, t42.2.2.1, (), t42.2.2.2.1, t42.2.2.2.2.1, t42.2.2.2.2.2.1, t42.2.2.2.2.2.2)))
      (some (Sum.inr (c_3, (), (), o0_2, o1_2, o2_2, o3_2, o4_2, t20_2, ())))
theorem swept110.l1.le (k j : Nat) (hk_ : k ≤ j) : ∀ a0_, ∀ s, Le (swept110.l1.tw k a0_ s) (swept110.l1 j a0_ s) := by
  intro a0_
  unfold swept110.l1 swept110.l1.tw
  repeat' (first | with_reducible exact Le.refl _ | with_reducible exact swept1137.le _ _ hk_ _ _ _ _ _ _ _ | with_reducible refine Le.self ?_ | with_reducible refine Le.cond ?_ ?_ | with_reducible refine Le.orNil ?_ ?_ | with_reducible refine Le.agree ?_ ?_ | with_reducible refine Le.joined ?_ ?_ | with_reducible refine Le.bind ?_ ?_ | with_reducible refine Le.loop hk_ ?_ _ | with_reducible refine Le.prod ?_ | intro _ | (dsimp only) | exact Le.refl _)

def swept110.l2.tw (k : Nat) (c_4 : (Int × ((List (Int × (Int × (Int × (Int × Int))))) × ((List Int) × ((List Int) × (List Int)))))) : ((Int × ((List (Int × (Int × (Int × (Int × Int))))) × ((List Int) × ((List Int) × (List Int))))) × (Unit × (Unit × (Unit × (Unit × (Int × ((Int × (Unit × (Unit × (Unit × Unit)))) × ((List (Int × (Int × (Int × (Int × Int))))) × ((List Int) × ((List Int) × ((List Int) × ((List Bool) × (Unit × ((List Int) × ((Int × (Unit × (Unit × (Unit × (List Int))))) × ((List (Int × (Int × (Int × (Int × Int))))) × ((List Int) × (List Int)))))))))))))))))) → Option (((Int × ((List (Int × (Int × (Int × (Int × Int))))) × ((List Int) × ((List Int) × (List Int))))) × (Unit × (Unit × (Unit × (Unit × (Int × ((Int × (Unit × (Unit × (Unit × Unit)))) × ((List (Int × (Int × (Int × (Int × Int))))) × ((List Int) × ((List Int) × ((List Int) × ((List Bool) × (Unit × ((List Int) × ((Int × (Unit × (Unit × (Unit × (List Int))))) × ((List (Int × (Int × (Int × (Int × Int))))) × ((List Int) × (List Int)))))))))))))))))) ⊕ ((Int × ((List (Int × (Int × (Int × (Int × Int))))) × ((List Int) × ((List Int) × (List Int))))) × (Unit × (Unit × (Unit × ((Int × (Unit × (Unit × (Unit × Unit)))) × ((List (Int × (Int × (Int × (Int × Int))))) × ((List Int) × ((List Int) × ((List Int) × ((List Int) × ((Int × (Unit × (Unit × (Unit × (List Int))))) × ((List (Int × (Int × (Int × (Int × Int))))) × ((List Int) × (List Int)))))))))))))))
  | (c_5, _, _, _, _, t56, o0_4, o1_4, o2_4, o3_4, o4_4, t20_4, _, t47, o8, o9, o10, o11) =>
    cond (decide (t56 < (List.length c_4.2.1 : Int)))
      (Option.bind
        ((rd c_4.2.1 t56).bind fun t59 =>
        (rd t20_4 t56).bind fun _ =>
        (rd t20_4 t56).bind fun t64 =>
        cond (!t64)
          (some (c_5, (), (), (), (), o0_4, o1_4, o2_4, o3_4, o4_4, t20_4, (), t47, o8, o9, o10, o11))
          (Option.bind
            (cond (decide (t59.1 ≥ 3))
              ((rd t47 t59.2.1).bind fun _ =>
              (rd t47 t59.2.1).bind fun t73 =>
              some (c_5, (), (), (), (), (), o0_4, o1_4, o2_4, o3_4, o4_4, t20_4, (), t47, o8, o9, o10, o11, t59.1, t73, t59.2.2))
              (some (c_5, (), (), (), (), (), o0_4, o1_4, o2_4, o3_4, o4_4, t20_4, (), t47, o8, o9, o10, o11, t59)) : Option ((Int × ((List (Int × (Int × (Int × (Int × Int))))) × ((List Int) × ((List Int) × (List Int))))) × (Unit × (Unit × (Unit × (Unit × (Unit × ((Int × (Unit × (Unit × (Unit × Unit)))) × ((List (Int × (Int × (Int × (Int × Int))))) × ((List Int) × ((List Int) × ((List Int) × ((List Bool) × (Unit × ((List Int) × ((Int × (Unit × (Unit × (Unit × (List Int))))) × ((List (Int × (Int × (Int × (Int × Int))))) × ((List Int) × ((List Int) × (Int × (Int × (Int × (Int × Int))))))))))))))))))))))) fun ((c_6, _, _, _, _, _, o0_5, o1_5, o2_5, o3_5, o4_5, t20_5, _, t47_1, o8_1, o9_1, o10_1, o11_1, o12) : ((Int × ((List (Int × (Int × (Int × (Int × Int))))) × ((List Int) × ((List Int) × (List Int))))) × (Unit × (Unit × (Unit × (Unit × (Unit × ((Int × (Unit × (Unit × (Unit × Unit)))) × ((List (Int × (Int × (Int × (Int × Int))))) × ((List Int) × ((List Int) × ((List Int) × ((List Bool) × (Unit × ((List Int) × ((Int × (Unit × (Unit × (Unit × (List Int))))) × ((List (Int × (Int × (Int × (Int × Int))))) × ((List Int) × ((List Int) × (Int × (Int × (Int × (Int × Int))))))))))))))))))))))) =>
          Option.bind
            (cond (decide (o12.1 > 3))
              ((rd t47_1 o12.2.2.1).bind fun _ =>
              (rd t47_1 o12.2.2.1).bind fun t82 =>
              some (c_6, (), (), (), (), (), o0_5, o1_5, o2_5, o3_5, o4_5, t20_5, (), t47_1, o8_1, o9_1, o10_1, o11_1, o12.1, o12.2.1, t82, o12.2.2.2))
              (some (c_6, (), (), (), (), (), o0_5, o1_5, o2_5, o3_5, o4_5, t20_5, (), t47_1, o8_1, o9_1, o10_1, o11_1, o12)) : Option ((Int × ((List (Int × (Int × (Int × (Int × Int))))) × ((List Int) × ((List Int) × (List Int))))) × (Unit × (Unit × (Unit × (Unit × (Unit × ((Int × (Unit × (Unit × (Unit × Unit)))) × ((List (Int × (Int × (Int × (Int × Int))))) × ((List Int) × ((List Int) × ((List Int) × ((List Bool) × (Unit × ((List Int) × ((Int × (Unit × (Unit × (Unit × (List Int))))) × ((List (Int × (Int × (Int × (Int × Int))))) × ((List Int) × ((List Int) × (Int × (Int × (Int × (Int × Int))))))))))))))))))))))) fun ((c_7, _, _, _, _, _, o0_6, o1_6, o2_6, o3_6, o4_6, t20_6, _, t47_2, o8_2, o9_2, o10_2, o11_2, o12_1) : ((Int × ((List (Int × (Int × (Int × (Int × Int))))) × ((List Int) × ((List Int) × (List Int))))) × (Unit × (Unit × (Unit × (Unit × (Unit × ((Int × (Unit × (Unit × (Unit × Unit)))) × ((List (Int × (Int × (Int × (Int × Int))))) × ((List Int) × ((List Int) × ((List Int) × ((List Bool) × (Unit × ((List Int) × ((Int × (Unit × (Unit × (Unit × (List Int))))) × ((List (Int × (Int × (Int × (Int × Int))))) × ((List Int) × ((List Int) × (Int × (Int × (Int × (Int × Int))))))))))))))))))))))) =>
          Option.bind
            (cond (o12_1.1 == 7)
              ((rd t47_2 o12_1.2.2.2.1).bind fun _ =>
              (rd t47_2 o12_1.2.2.2.1).bind fun t91 =>
              some (c_7, (), (), (), (), (), o0_6, o1_6, o2_6, o3_6, o4_6, t20_6, (), t47_2, o8_2, o9_2, o10_2, o11_2, o12_1.1, o12_1.2.1, o12_1.2.2.1, t91, o12_1.2.2.2.2))
              (some (c_7, (), (), (), (), (), o0_6, o1_6, o2_6, o3_6, o4_6, t20_6, (), t47_2, o8_2, o9_2, o10_2, o11_2, o12_1)) : Option ((Int × ((List (Int × (Int × (Int × (Int × Int))))) × ((List Int) × ((List Int) × (List Int))))) × (Unit × (Unit × (Unit × (Unit × (Unit × ((Int × (Unit × (Unit × (Unit × Unit)))) × ((List (Int × (Int × (Int × (Int × Int))))) × ((List Int) × ((List Int) × ((List Int) × ((List Bool) × (Unit × ((List Int) × ((Int × (Unit × (Unit × (Unit × (List Int))))) × ((List (Int × (Int × (Int × (Int × Int))))) × ((List Int) × ((List Int) × (Int × (Int × (Int × (Int × Int))))))))))))))))))))))) fun ((c_8, _, _, _, _, _, o0_7, o1_7, o2_7, o3_7, o4_7, t20_7, _, t47_3, o8_3, o9_3, o10_3, o11_3, o12_2) : ((Int × ((List (Int × (Int × (Int × (Int × Int))))) × ((List Int) × ((List Int) × (List Int))))) × (Unit × (Unit × (Unit × (Unit × (Unit × ((Int × (Unit × (Unit × (Unit × Unit)))) × ((List (Int × (Int × (Int × (Int × Int))))) × ((List Int) × ((List Int) × ((List Int) × ((List Bool) × (Unit × ((List Int) × ((Int × (Unit × (Unit × (Unit × (List Int))))) × ((List (Int × (Int × (Int × (Int × Int))))) × ((List Int) × ((List Int) × (Int × (Int × (Int × (Int × Int))))))))))))))))))))))) =>
          (rd t47_3 t56).bind fun _ =>
          (rd t47_3 t56).bind fun _ =>
          (if room (List.length o9_3 + List.length [o12_2]) 40 then some () else none).bind fun _ =>
          some (c_8, (), (), (), (), o0_7, o1_7, o2_7, o3_7, o4_7, t20_7, (), (List.set t47_3 (Int.toNat t56) (List.length o9_3 : Int)), (o8_3.1, o8_3.2.1, o8_3.2.2), (o9_3 ++ [o12_2]), o10_3, o11_3)) : Option ((Int × ((List (Int × (Int × (Int × (Int × Int))))) × ((List Int) × ((List Int) × (List Int))))) × (Unit × (Unit × (Unit × (Unit × ((Int × (Unit × (Unit × (Unit × Unit)))) × ((List (Int × (Int × (Int × (Int × Int))))) × ((List Int) × ((List Int) × ((List Int) × ((List Bool) × (Unit × ((List Int) × ((Int × (Unit × (Unit × (Unit × (List Int))))) × ((List (Int × (Int × (Int × (Int × Int))))) × ((List Int) × (List Int)))))))))))))))))) fun ((c_9, _, _, _, _, o0_8, o1_8, o2_8, o3_8, o4_8, t20_8, _, t47_5, o8_4, o9_4, o10_4, o11_4) : ((Int × ((List (Int × (Int × (Int × (Int × Int))))) × ((List Int) × ((List Int) × (List Int))))) × (Unit × (Unit × (Unit × (Unit × ((Int × (Unit × (Unit × (Unit × Unit)))) × ((List (Int × (Int × (Int × (Int × Int))))) × ((List Int) × ((List Int) × ((List Int) × ((List Bool) × (Unit × ((List Int) × ((Int × (Unit × (Unit × (Unit × (List Int))))) × ((List (Int × (Int × (Int × (Int × Int))))) × ((List Int) × (List Int)))))))))))))))))) =>
      some (Sum.inl (c_9, (), (), (), (), (w64 (t56 + 1)), o0_8, o1_8, o2_8, o3_8, o4_8, t20_8, (), t47_5, o8_4, o9_4, o10_4, o11_4)))
      (some (Sum.inr (c_5, (), (), (), o0_4, o1_4, o2_4, o3_4, o4_4, t47, o8, o9, o10, o11)))
theorem swept110.l2.le (k j : Nat) (hk_ : k ≤ j) : ∀ a0_, ∀ s, Le (swept110.l2.tw k a0_ s) (swept110.l2 j a0_ s) := by
  intro a0_
  unfold swept110.l2 swept110.l2.tw
  repeat' (first | with_reducible exact Le.refl _ | with_reducible refine Le.self ?_ | with_reducible refine Le.cond ?_ ?_ | with_reducible refine Le.orNil ?_ ?_ | with_reducible refine Le.agree ?_ ?_ | with_reducible refine Le.joined ?_ ?_ | with_reducible refine Le.bind ?_ ?_ | with_reducible refine Le.loop hk_ ?_ _ | with_reducible refine Le.prod ?_ | intro _ | (dsimp only) | exact Le.refl _)

def swept110.l3.tw (k : Nat) (c_10 : (Int × ((List (Int × (Int × (Int × (Int × Int))))) × ((List Int) × ((List Int) × (List Int)))))) : ((Int × ((List (Int × (Int × (Int × (Int × Int))))) × ((List Int) × ((List Int) × (List Int))))) × (Unit × (Unit × (Unit × (Int × ((Int × (Unit × (Unit × (Unit × Unit)))) × ((List (Int × (Int × (Int × (Int × Int))))) × ((List Int) × ((List Int) × ((List Int) × ((List Int) × ((Int × (Unit × (Unit × (Unit × (List Int))))) × ((List (Int × (Int × (Int × (Int × Int))))) × ((List Int) × (List Int))))))))))))))) → Option (((Int × ((List (Int × (Int × (Int × (Int × Int))))) × ((List Int) × ((List Int) × (List Int))))) × (Unit × (Unit × (Unit × (Int × ((Int × (Unit × (Unit × (Unit × Unit)))) × ((List (Int × (Int × (Int × (Int × Int))))) × ((List Int) × ((List Int) × ((List Int) × ((List Int) × ((Int × (Unit × (Unit × (Unit × (List Int))))) × ((List (Int × (Int × (Int × (Int × Int))))) × ((List Int) × (List Int))))))))))))))) ⊕ ((Int × ((List (Int × (Int × (Int × (Int × Int))))) × ((List Int) × ((List Int) × (List Int))))) × (Unit × (Unit × (Unit × ((Int × (Unit × (Unit × (Unit × Unit)))) × ((List (Int × (Int × (Int × (Int × Int))))) × ((List Int) × ((List Int) × ((List Int) × ((List Int) × ((Int × (Unit × (Unit × (Unit × (List Int))))) × ((List (Int × (Int × (Int × (Int × Int))))) × ((List Int) × (List Int)))))))))))))))
  | (c_11, _, _, _, t109, o0_10, o1_10, o2_10, o3_10, o4_10, t47_7, o8_6, o9_6, o10_6, o11_6) =>
    cond (decide (t109 < (List.length c_10.2.2.1 : Int)))
      ((rd c_10.2.2.1 t109).bind fun t111 =>
      (rd t47_7 t111).bind fun _ =>
      (rd t47_7 t111).bind fun t118 =>
      (if room (List.length o10_6 + List.length ([t118] : List Int)) 8 then some () else none).bind fun _ =>
      some (Sum.inl (c_11, (), (), (), (w64 (t109 + 1)), o0_10, o1_10, o2_10, o3_10, o4_10, t47_7, (o8_6.1, o8_6.2.1, o8_6.2.2.1, o8_6.2.2.2), o9_6, (o10_6 ++ ([t118] : List Int)), o11_6)))
      (some (Sum.inr (c_11, (), (), (), o0_10, o1_10, o2_10, o3_10, o4_10, t47_7, o8_6, o9_6, o10_6, o11_6)))
theorem swept110.l3.le (k j : Nat) (hk_ : k ≤ j) : ∀ a0_, ∀ s, Le (swept110.l3.tw k a0_ s) (swept110.l3 j a0_ s) := by
  intro a0_
  unfold swept110.l3 swept110.l3.tw
  repeat' (first | with_reducible exact Le.refl _ | with_reducible refine Le.self ?_ | with_reducible refine Le.cond ?_ ?_ | with_reducible refine Le.orNil ?_ ?_ | with_reducible refine Le.agree ?_ ?_ | with_reducible refine Le.joined ?_ ?_ | with_reducible refine Le.bind ?_ ?_ | with_reducible refine Le.loop hk_ ?_ _ | with_reducible refine Le.prod ?_ | intro _ | (dsimp only) | exact Le.refl _)

def swept110.l4.tw (k : Nat) (c_12 : (Int × ((List (Int × (Int × (Int × (Int × Int))))) × ((List Int) × ((List Int) × (List Int)))))) : (Unit × (Unit × (Unit × (Int × ((Int × (Unit × (Unit × (Unit × Unit)))) × ((List (Int × (Int × (Int × (Int × Int))))) × ((List Int) × ((List Int) × ((List Int) × ((List Int) × ((Int × (Unit × (Unit × (Unit × (List Int))))) × ((List (Int × (Int × (Int × (Int × Int))))) × ((List Int) × (List Int)))))))))))))) → Option ((Unit × (Unit × (Unit × (Int × ((Int × (Unit × (Unit × (Unit × Unit)))) × ((List (Int × (Int × (Int × (Int × Int))))) × ((List Int) × ((List Int) × ((List Int) × ((List Int) × ((Int × (Unit × (Unit × (Unit × (List Int))))) × ((List (Int × (Int × (Int × (Int × Int))))) × ((List Int) × (List Int)))))))))))))) ⊕ (Unit × (Unit × ((Int × (Unit × (Unit × (Unit × Unit)))) × ((List (Int × (Int × (Int × (Int × Int))))) × ((List Int) × ((List Int) × ((List Int) × ((Int × (Unit × (Unit × (Unit × (List Int))))) × ((List (Int × (Int × (Int × (Int × Int))))) × ((List Int) × (List Int))))))))))))
  | (_, _, _, t126, o0_12, o1_12, o2_12, o3_12, o4_12, t47_9, o8_8, o9_8, o10_8, o11_8) =>
    cond (decide (t126 < (List.length c_12.2.2.2.1 : Int)))
      ((rd c_12.2.2.2.1 t126).bind fun t128 =>
      (rd t47_9 t128).bind fun _ =>
      (rd t47_9 t128).bind fun t135 =>
      (if room (List.length o11_8 + List.length ([t135] : List Int)) 8 then some () else none).bind fun _ =>
      some (Sum.inl ((), (), (), (w64 (t126 + 1)), o0_12, o1_12, o2_12, o3_12, o4_12, t47_9, (o8_8.1, o8_8.2.1, o8_8.2.2.1, o8_8.2.2.2.1, o8_8.2.2.2.2), o9_8, o10_8, (o11_8 ++ ([t135] : List Int)))))
      (some (Sum.inr ((), (), o0_12, o1_12, o2_12, o3_12, o4_12, o8_8, o9_8, o10_8, o11_8)))
theorem swept110.l4.le (k j : Nat) (hk_ : k ≤ j) : ∀ a0_, ∀ s, Le (swept110.l4.tw k a0_ s) (swept110.l4 j a0_ s) := by
  intro a0_
  unfold swept110.l4 swept110.l4.tw
  repeat' (first | with_reducible exact Le.refl _ | with_reducible refine Le.self ?_ | with_reducible refine Le.cond ?_ ?_ | with_reducible refine Le.orNil ?_ ?_ | with_reducible refine Le.agree ?_ ?_ | with_reducible refine Le.joined ?_ ?_ | with_reducible refine Le.bind ?_ ?_ | with_reducible refine Le.loop hk_ ?_ _ | with_reducible refine Le.prod ?_ | intro _ | (dsimp only) | exact Le.refl _)

def swept110.tw (k : Nat) (c : (Int × ((List (Int × (Int × (Int × (Int × Int))))) × ((List Int) × ((List Int) × (List Int)))))) : Option ((Int × ((List (Int × (Int × (Int × (Int × Int))))) × ((List Int) × ((List Int) × (List Int))))) × Unit) :=
  (if 0 ≤ (List.length c.2.1 : Int) ∧ (List.length c.2.1 : Int) ≤ (List.length c.2.1 : Int) ∧ (List.length c.2.1 : Int) * 1 ≤ 140737488355328 then some () else none).bind fun _ =>
  Option.bind
    (loopN (swept110.l0.tw k c) k (c, (), (), (), 0, (0, (), (), (), ()), [], [], [], [], (List.replicate (Int.toNat (List.length c.2.1 : Int)) false), (), (), c, (), ()) : Option ((Int × ((List (Int × (Int × (Int × (Int × Int))))) × ((List Int) × ((List Int) × (List Int))))) × (Unit × (Unit × (Unit × ((Int × (Unit × (Unit × (Unit × Unit)))) × ((List (Int × (Int × (Int × (Int × Int))))) × ((List Int) × ((List Int) × ((List Int) × ((List Bool) × (Unit × (Unit × ((Int × ((List (Int × (Int × (Int × (Int × Int))))) × ((List Int) × ((List Int) × (List Int))))) × (Unit × Unit))))))))))))))) fun ((c_2, _, _, _, o0_1, o1_1, o2_1, o3_1, o4_1, t20_1, _, o7_1) : ((Int × ((List (Int × (Int × (Int × (Int × Int))))) × ((List Int) × ((List Int) × (List Int))))) × (Unit × (Unit × (Unit × ((Int × (Unit × (Unit × (Unit × Unit)))) × ((List (Int × (Int × (Int × (Int × Int))))) × ((List Int) × ((List Int) × ((List Int) × ((List Bool) × (Unit × (Unit × ((Int × ((List (Int × (Int × (Int × (Int × Int))))) × ((List Int) × ((List Int) × (List Int))))) × (Unit × Unit))))))))))))))) =>
  Option.bind
    (loopN (swept110.l1.tw k c_2) k (c_2, (), (), (), 0, o0_1, o1_1, o2_1, o3_1, o4_1, t20_1, (), o7_1) : Option ((Int × ((List (Int × (Int × (Int × (Int × Int))))) × ((List Int) × ((List Int) × (List Int))))) × (Unit × (Unit × ((Int × (Unit × (Unit × (Unit × Unit)))) × ((List (Int × (Int × (Int × (Int × Int))))) × ((List Int) × ((List Int) × ((List Int) × ((List Bool) × Unit)))))))))) fun ((c_4, _, _, o0_3, o1_3, o2_3, o3_3, o4_3, t20_3, _) : ((Int × ((List (Int × (Int × (Int × (Int × Int))))) × ((List Int) × ((List Int) × (List Int))))) × (Unit × (Unit × ((Int × (Unit × (Unit × (Unit × Unit)))) × ((List (Int × (Int × (Int × (Int × Int))))) × ((List Int) × ((List Int) × ((List Int) × ((List Bool) × Unit)))))))))) =>
  (if 0 ≤ (List.length c_4.2.1 : Int) ∧ (List.length c_4.2.1 : Int) ≤ (List.length c_4.2.1 : Int) ∧ (List.length c_4.2.1 : Int) * 8 ≤ 140737488355328 then some () else none).bind fun _ =>
  Option.bind
    (loopN (swept110.l2.tw k c_4) k (c_4, (), (), (), (), 0, o0_3, o1_3, o2_3, o3_3, o4_3, t20_3, (), (List.replicate (Int.toNat (List.length c_4.2.1 : Int)) 0), (c_4.1, (), (), (), c_4.2.2.2.2), [], [], []) : Option ((Int × ((List (Int × (Int × (Int × (Int × Int))))) × ((List Int) × ((List Int) × (List Int))))) × (Unit × (Unit × (Unit × ((Int × (Unit × (Unit × (Unit × Unit)))) × ((List (Int × (Int × (Int × (Int × Int))))) × ((List Int) × ((List Int) × ((List Int) × ((List Int) × ((Int × (Unit × (Unit × (Unit × (List Int))))) × ((List (Int × (Int × (Int × (Int × Int))))) × ((List Int) × (List Int))))))))))))))) fun ((c_10, _, _, _, o0_9, o1_9, o2_9, o3_9, o4_9, t47_6, o8_5, o9_5, o10_5, o11_5) : ((Int × ((List (Int × (Int × (Int × (Int × Int))))) × ((List Int) × ((List Int) × (List Int))))) × (Unit × (Unit × (Unit × ((Int × (Unit × (Unit × (Unit × Unit)))) × ((List (Int × (Int × (Int × (Int × Int))))) × ((List Int) × ((List Int) × ((List Int) × ((List Int) × ((Int × (Unit × (Unit × (Unit × (List Int))))) × ((List (Int × (Int × (Int × (Int × Int))))) × ((List Int) × (List Int))))))))))))))) =>
  Option.bind
    (loopN (swept110.l3.tw k c_10) k (c_10, (), (), (), 0, o0_9, o1_9, o2_9, o3_9, o4_9, t47_6, o8_5, o9_5, o10_5, o11_5) : Option ((Int × ((List (Int × (Int × (Int × (Int × Int))))) × ((List Int) × ((List Int) × (List Int))))) × (Unit × (Unit × (Unit × ((Int × (Unit × (Unit × (Unit × Unit)))) × ((List (Int × (Int × (Int × (Int × Int))))) × ((List Int) × ((List Int) × ((List Int) × ((List Int) × ((Int × (Unit × (Unit × (Unit × (List Int))))) × ((List (Int × (Int × (Int × (Int × Int))))) × ((List Int) × (List Int))))))))))))))) fun ((c_12, _, _, _, o0_11, o1_11, o2_11, o3_11, o4_11, t47_8, o8_7, o9_7, o10_7, o11_7) : ((Int × ((List (Int × (Int × (Int × (Int × Int))))) × ((List Int) × ((List Int) × (List Int))))) × (Unit × (Unit × (Unit × ((Int × (Unit × (Unit × (Unit × Unit)))) × ((List (Int × (Int × (Int × (Int × Int))))) × ((List Int) × ((List Int) × ((List Int) × ((List Int) × ((Int × (Unit × (Unit × (Unit × (List Int))))) × ((List (Int × (Int × (Int × (Int × Int))))) × ((List Int) × (List Int))))))))))))))) =>
  Option.bind
    (loopN (swept110.l4.tw k c_12) k ((), (), (), 0, o0_11, o1_11, o2_11, o3_11, o4_11, t47_8, o8_7, o9_7, o10_7, o11_7) : Option (Unit × (Unit × ((Int × (Unit × (Unit × (Unit × Unit)))) × ((List (Int × (Int × (Int × (Int × Int))))) × ((List Int) × ((List Int) × ((List Int) × ((Int × (Unit × (Unit × (Unit × (List Int))))) × ((List (Int × (Int × (Int × (Int × Int))))) × ((List Int) × (List Int)))))))))))) fun ((_, _, _, _, _, _, _, o8_9, o9_9, o10_9, o11_9) : (Unit × (Unit × ((Int × (Unit × (Unit × (Unit × Unit)))) × ((List (Int × (Int × (Int × (Int × Int))))) × ((List Int) × ((List Int) × ((List Int) × ((Int × (Unit × (Unit × (Unit × (List Int))))) × ((List (Int × (Int × (Int × (Int × Int))))) × ((List Int) × (List Int)))))))))))) =>
  some ((o8_9.1, o9_9, o10_9, o11_9, o8_9.2.2.2.2), ())
theorem swept110.le (k j : Nat) (hk_ : k ≤ j) : ∀ a0_, Le (swept110.tw k a0_) (swept110 j a0_) := by
  intro a0_
  unfold swept110 swept110.tw
  repeat' (first | with_reducible exact Le.refl _ | with_reducible exact swept110.l0.le _ _ hk_ _ | with_reducible exact swept110.l1.le _ _ hk_ _ | with_reducible exact swept110.l2.le _ _ hk_ _ | with_reducible exact swept110.l3.le _ _ hk_ _ | with_reducible exact swept110.l4.le _ _ hk_ _ | with_reducible refine Le.self ?_ | with_reducible refine Le.cond ?_ ?_ | with_reducible refine Le.orNil ?_ ?_ | with_reducible refine Le.agree ?_ ?_ | with_reducible refine Le.joined ?_ ?_ | with_reducible refine Le.bind ?_ ?_ | with_reducible refine Le.loop hk_ ?_ _ | with_reducible refine Le.prod ?_ | intro _ | (dsimp only) | exact Le.refl _)

def Of54.l0.tw (k : Nat) (t : (Int × (Int × (List (List (Int × Int)))))) : ((Int × (Int × (List (List (Int × Int))))) × (Unit × (Unit × (Unit × (Int × ((Int × (Unit × (Unit × (Unit × Unit)))) × ((List (Int × (Int × (Int × (Int × Int))))) × ((List Int) × ((List Int) × ((List Int) × ((List ((Int × (Int × (Int × (Int × Int)))) × Int)) × ((Unit × Unit) × ((List (Int × (Int × (Int × (Int × Int))))) × (List Int)))))))))))))) → Option (((Int × (Int × (List (List (Int × Int))))) × (Unit × (Unit × (Unit × (Int × ((Int × (Unit × (Unit × (Unit × Unit)))) × ((List (Int × (Int × (Int × (Int × Int))))) × ((List Int) × ((List Int) × ((List Int) × ((List ((Int × (Int × (Int × (Int × Int)))) × Int)) × ((Unit × Unit) × ((List (Int × (Int × (Int × (Int × Int))))) × (List Int)))))))))))))) ⊕ ((Int × (Int × (List (List (Int × Int))))) × (Unit × (Unit × (Unit × ((Int × (Unit × (Unit × (Unit × Unit)))) × ((List (Int × (Int × (Int × (Int × Int))))) × ((List Int) × ((List Int) × ((List Int) × ((List ((Int × (Int × (Int × (Int × Int)))) × Int)) × ((Unit × Unit) × ((List (Int × (Int × (Int × (Int × Int))))) × (List Int))))))))))))))
  | (t_1, _, _, _, t32, o0, o1, o2, o3, o4, o5, o6, o7, o9) =>
    cond (decide (t32 < t.1))
      ((put107.tw k () (1, 0, 0, 0, t32) ((), ()) o7 o5).bind fun t39 =>
      (if room (List.length o9 + List.length ([t39.1] : List Int)) 8 then some () else none).bind fun _ =>
      some (Sum.inl (t_1, (), (), (), (w64 (t32 + 1)), o0, o1, o2, o3, o4, t39.2.2.2, (t39.2.1.1, t39.2.1.2), t39.2.2.1, (o9 ++ ([t39.1] : List Int)))))
      (some (Sum.inr (t_1, (), (), (), o0, o1, o2, o3, o4, o5, o6, o7, o9)))
theorem Of54.l0.le (k j : Nat) (hk_ : k ≤ j) : ∀ a0_, ∀ s, Le (Of54.l0.tw k a0_ s) (Of54.l0 j a0_ s) := by
  intro a0_
  unfold Of54.l0 Of54.l0.tw
  repeat' (first | with_reducible exact Le.refl _ | with_reducible exact put107.le _ _ hk_ _ _ _ _ _ | with_reducible refine Le.self ?_ | with_reducible refine Le.cond ?_ ?_ | with_reducible refine Le.orNil ?_ ?_ | with_reducible refine Le.agree ?_ ?_ | with_reducible refine Le.joined ?_ ?_ | with_reducible refine Le.bind ?_ ?_ | with_reducible refine Le.loop hk_ ?_ _ | with_reducible refine Le.prod ?_ | intro _ | (dsimp only) | exact Le.refl _)

def Of54.l1.tw (k : Nat) (t29 : (Int × Unit)) : ((Int × (Int × (List (List (Int × Int))))) × (Unit × (Unit × (Unit × (Int × ((Int × (Unit × (Unit × (Unit × Unit)))) × ((List (Int × (Int × (Int × (Int × Int))))) × ((List Int) × ((List Int) × ((List Int) × ((List ((Int × (Int × (Int × (Int × Int)))) × Int)) × ((Unit × Unit) × ((List (Int × (Int × (Int × (Int × Int))))) × (List Int)))))))))))))) → Option (((Int × (Int × (List (List (Int × Int))))) × (Unit × (Unit × (Unit × (Int × ((Int × (Unit × (Unit × (Unit × Unit)))) × ((List (Int × (Int × (Int × (Int × Int))))) × ((List Int) × ((List Int) × ((List Int) × ((List ((Int × (Int × (Int × (Int × Int)))) × Int)) × ((Unit × Unit) × ((List (Int × (Int × (Int × (Int × Int))))) × (List Int)))))))))))))) ⊕ ((Int × (Int × (List (List (Int × Int))))) × (Unit × (Unit × (Unit × ((Int × (Unit × (Unit × (Unit × Unit)))) × ((List (Int × (Int × (Int × (Int × Int))))) × ((List Int) × ((List Int) × ((List Int) × ((List ((Int × (Int × (Int × (Int × Int)))) × Int)) × ((Unit × Unit) × ((List (Int × (Int × (Int × (Int × Int))))) × (List Int))))))))))))))
  | (t_3, _, _, _, t44, o0_2, o1_2, o2_2, o3_2, o4_2, o5_2, o6_2, o7_2, o9_2) =>
    cond (decide (t44 < t29.1))
      ((put107.tw k () (2, 0, 0, 0, t44) ((), ()) o7_2 o5_2).bind fun t51 =>
      (if room (List.length o9_2 + List.length ([t51.1] : List Int)) 8 then some () else none).bind fun _ =>
      some (Sum.inl (t_3, (), (), (), (w64 (t44 + 1)), o0_2, o1_2, o2_2, o3_2, o4_2, t51.2.2.2, (t51.2.1.1, t51.2.1.2), t51.2.2.1, (o9_2 ++ ([t51.1] : List Int)))))
      (some (Sum.inr (t_3, (), (), (), o0_2, o1_2, o2_2, o3_2, o4_2, o5_2, o6_2, o7_2, o9_2)))
theorem Of54.l1.le (k j : Nat) (hk_ : k ≤ j) : ∀ a0_, ∀ s, Le (Of54.l1.tw k a0_ s) (Of54.l1 j a0_ s) := by
  intro a0_
  unfold Of54.l1 Of54.l1.tw
  repeat' (first | with_reducible exact Le.refl _ | with_reducible exact put107.le _ _ hk_ _ _ _ _ _ | with_reducible refine Le.self ?_ | with_reducible refine Le.cond ?_ ?_ | with_reducible refine Le.orNil ?_ ?_ | with_reducible refine Le.agree ?_ ?_ | with_reducible refine Le.joined ?_ ?_ | with_reducible refine Le.bind ?_ ?_ | with_reducible refine Le.loop hk_ ?_ _ | with_reducible refine Le.prod ?_ | intro _ | (dsimp only) | exact Le.refl _)

def Of54.l2.tw (k : Nat) (t63 : Int) (t68 : Int) : ((Int × (Int × (List (List (Int × Int))))) × (Unit × (Unit × (Unit × (((Int × (Int × (List (List (Int × Int))))) × Unit) × (Unit × (Unit × (Int × ((Int × (Unit × (Unit × (Unit × Unit)))) × ((List (Int × (Int × (Int × (Int × Int))))) × ((List Int) × ((List Int) × ((List Int) × ((List ((Int × (Int × (Int × (Int × Int)))) × Int)) × ((Unit × Unit) × ((List (Int × (Int × (Int × (Int × Int))))) × ((List Int) × ((Int × (Unit × (Unit × (Unit × Unit)))) × ((List (Int × (Int × (Int × (Int × Int))))) × ((List Int) × ((List Int) × ((List Int) × (List Int))))))))))))))))))))))) → Option (((Int × (Int × (List (List (Int × Int))))) × (Unit × (Unit × (Unit × (((Int × (Int × (List (List (Int × Int))))) × Unit) × (Unit × (Unit × (Int × ((Int × (Unit × (Unit × (Unit × Unit)))) × ((List (Int × (Int × (Int × (Int × Int))))) × ((List Int) × ((List Int) × ((List Int) × ((List ((Int × (Int × (Int × (Int × Int)))) × Int)) × ((Unit × Unit) × ((List (Int × (Int × (Int × (Int × Int))))) × ((List Int) × ((Int × (Unit × (Unit × (Unit × Unit)))) × ((List (Int × (Int × (Int × (Int × Int))))) × ((List Int) × ((List Int) × ((List Int) × (List Int))))))))))))))))))))))) ⊕ ((Int × (Int × (List (List (Int × Int))))) × (Unit × (Unit × (Unit × (((Int × (Int × (List (List (Int × Int))))) × Unit) × (Unit × (Unit × ((Int × (Unit × (Unit × (Unit × Unit)))) × ((List (Int × (Int × (Int × (Int × Int))))) × ((List Int) × ((List Int) × ((List Int) × ((List ((Int × (Int × (Int × (Int × Int)))) × Int)) × ((Unit × Unit) × ((List (Int × (Int × (Int × (Int × Int))))) × ((List Int) × ((Int × (Unit × (Unit × (Unit × Unit)))) × ((List (Int × (Int × (Int × (Int × Int))))) × ((List Int) × ((List Int) × ((List Int) × (List Int)))))))))))))))))))))))
  | (t_6, _, _, _, row_1, _, _, t69, o0_5, o1_5, o2_5, o3_5, o4_5, o5_5, o6_5, o7_5, o9_5, o10_1, o11_1, o12_1, o13_1, o14_1, o17) =>
    cond (decide (t69 < t68))
      ((Of1108.tw k t69 row_1.1).bind fun t74 =>
      Option.bind
        (cond (decide (t63 < t_6.2.1))
          ((if t63 < 0 then none else some (shrI .i64 t74.1.1 t63)).bind fun t83 =>
          let t84 : Int := (ibits .and .i64 t83 1)
          (if room (List.length o17 + List.length ([t84] : List Int)) 8 then some () else none).bind fun _ =>
          some (t_6, (), (), (), row_1, (), (), o0_5, o1_5, o2_5, o3_5, o4_5, o5_5, o6_5, o7_5, o9_5, o10_1, o11_1, o12_1, o13_1, o14_1, (o17 ++ ([t84] : List Int))))
          (let t93 : Int := (w64 (t63 - t_6.2.1))
          (if t93 < 0 then none else some (shrI .i64 t74.1.2 t93)).bind fun t94 =>
          let t95 : Int := (ibits .and .i64 t94 1)
          (if room (List.length o17 + List.length ([t95] : List Int)) 8 then some () else none).bind fun _ =>
          some (t_6, (), (), (), row_1, (), (), o0_5, o1_5, o2_5, o3_5, o4_5, o5_5, o6_5, o7_5, o9_5, o10_1, o11_1, o12_1, o13_1, o14_1, (o17 ++ ([t95] : List Int)))) : Option ((Int × (Int × (List (List (Int × Int))))) × (Unit × (Unit × (Unit × (((Int × (Int × (List (List (Int × Int))))) × Unit) × (Unit × (Unit × ((Int × (Unit × (Unit × (Unit × Unit)))) × ((List (Int × (Int × (Int × (Int × Int))))) × ((List Int) × ((List Int) × ((List Int) × ((List ((Int × (Int × (Int × (Int × Int)))) × Int)) × ((Unit × Unit) × ((List (Int × (Int × (Int × (Int × Int))))) × ((List Int) × ((Int × (Unit × (Unit × (Unit × Unit)))) × ((List (Int × (Int × (Int × (Int × Int))))) × ((List Int) × ((List Int) × ((List Int) × (List Int))))))))))))))))))))))) fun ((t_7, _, _, _, row_2, _, _, o0_6, o1_6, o2_6, o3_6, o4_6, o5_6, o6_6, o7_6, o9_6, o10_2, o11_2, o12_2, o13_2, o14_2, o17_1) : ((Int × (Int × (List (List (Int × Int))))) × (Unit × (Unit × (Unit × (((Int × (Int × (List (List (Int × Int))))) × Unit) × (Unit × (Unit × ((Int × (Unit × (Unit × (Unit × Unit)))) × ((List (Int × (Int × (Int × (Int × Int))))) × ((List Int) × ((List Int) × ((List Int) × ((List ((Int × (Int × (Int × (Int × Int)))) × Int)) × ((Unit × Unit) × ((List (Int × (Int × (Int × (Int × Int))))) × ((List Int) × ((Int × (Unit × (Unit × (Unit × Unit)))) × ((List (Int × (Int × (Int × (Int × Int))))) × ((List Int) × ((List Int) × ((List Int) × (List Int))))))))))))))))))))))) =>
      some (Sum.inl (t_7, (), (), (), row_2, (), (), (w64 (t69 + 1)), o0_6, o1_6, o2_6, o3_6, o4_6, o5_6, o6_6, o7_6, o9_6, o10_2, o11_2, o12_2, o13_2, o14_2, o17_1)))
      (some (Sum.inr (t_6, (), (), (), row_1, (), (), o0_5, o1_5, o2_5, o3_5, o4_5, o5_5, o6_5, o7_5, o9_5, o10_1, o11_1, o12_1, o13_1, o14_1, o17)))
theorem Of54.l2.le (k j : Nat) (hk_ : k ≤ j) : ∀ a0_ a1_, ∀ s, Le (Of54.l2.tw k a0_ a1_ s) (Of54.l2 j a0_ a1_ s) := by
  intro a0_ a1_
  unfold Of54.l2 Of54.l2.tw
  repeat' (first | with_reducible exact Le.refl _ | with_reducible exact Of1108.le _ _ hk_ _ _ | with_reducible refine Le.self ?_ | with_reducible refine Le.cond ?_ ?_ | with_reducible refine Le.orNil ?_ ?_ | with_reducible refine Le.agree ?_ ?_ | with_reducible refine Le.joined ?_ ?_ | with_reducible refine Le.bind ?_ ?_ | with_reducible refine Le.loop hk_ ?_ _ | with_reducible refine Le.prod ?_ | intro _ | (dsimp only) | exact Le.refl _)

def Of54.l3.tw (k : Nat) (t62 : Int) : ((Int × (Int × (List (List (Int × Int))))) × (Unit × (Unit × (Unit × (((Int × (Int × (List (List (Int × Int))))) × Unit) × (Unit × (Int × ((Int × (Unit × (Unit × (Unit × Unit)))) × ((List (Int × (Int × (Int × (Int × Int))))) × ((List Int) × ((List Int) × ((List Int) × ((List ((Int × (Int × (Int × (Int × Int)))) × Int)) × ((Unit × Unit) × ((List (Int × (Int × (Int × (Int × Int))))) × ((List Int) × ((Int × (Unit × (Unit × (Unit × Unit)))) × ((List (Int × (Int × (Int × (Int × Int))))) × ((List Int) × ((List Int) × (List Int))))))))))))))))))))) → Option (((Int × (Int × (List (List (Int × Int))))) × (Unit × (Unit × (Unit × (((Int × (Int × (List (List (Int × Int))))) × Unit) × (Unit × (Int × ((Int × (Unit × (Unit × (Unit × Unit)))) × ((List (Int × (Int × (Int × (Int × Int))))) × ((List Int) × ((List Int) × ((List Int) × ((List ((Int × (Int × (Int × (Int × Int)))) × Int)) × ((Unit × Unit) × ((List (Int × (Int × (Int × (Int × Int))))) × ((List Int) × ((Int × (Unit × (Unit × (Unit × Unit)))) × ((List (Int × (Int × (Int × (Int × Int))))) × ((List Int) × ((List Int) × (List Int))))))))))))))))))))) ⊕ (Unit × (Unit × (Unit × ((Int × (Unit × (Unit × (Unit × Unit)))) × ((List (Int × (Int × (Int × (Int × Int))))) × ((List Int) × ((List Int) × ((List Int) × ((List ((Int × (Int × (Int × (Int × Int)))) × Int)) × ((Unit × Unit) × ((List (Int × (Int × (Int × (Int × Int))))) × ((Int × (Unit × (Unit × (Unit × Unit)))) × ((List (Int × (Int × (Int × (Int × Int))))) × ((List Int) × ((List Int) × (List Int)))))))))))))))))
  | (t_5, _, _, _, row, _, t63, o0_4, o1_4, o2_4, o3_4, o4_4, o5_4, o6_4, o7_4, o9_4, o10, o11, o12, o13, o14) =>
    cond (decide (t63 < t62))
      ((if (List.length o9_4 : Int) < 0 then none else some (shlI .i64 1 (List.length o9_4 : Int))).bind fun t68 =>
      Option.bind
        (loopN (Of54.l2.tw k t63 t68) k (t_5, (), (), (), row, (), (), 0, o0_4, o1_4, o2_4, o3_4, o4_4, o5_4, o6_4, o7_4, o9_4, o10, o11, o12, o13, o14, []) : Option ((Int × (Int × (List (List (Int × Int))))) × (Unit × (Unit × (Unit × (((Int × (Int × (List (List (Int × Int))))) × Unit) × (Unit × (Unit × ((Int × (Unit × (Unit × (Unit × Unit)))) × ((List (Int × (Int × (Int × (Int × Int))))) × ((List Int) × ((List Int) × ((List Int) × ((List ((Int × (Int × (Int × (Int × Int)))) × Int)) × ((Unit × Unit) × ((List (Int × (Int × (Int × (Int × Int))))) × ((List Int) × ((Int × (Unit × (Unit × (Unit × Unit)))) × ((List (Int × (Int × (Int × (Int × Int))))) × ((List Int) × ((List Int) × ((List Int) × (List Int))))))))))))))))))))))) fun ((t_8, _, _, _, row_3, _, _, o0_7, o1_7, o2_7, o3_7, o4_7, o5_7, _, o7_7, o9_7, o10_3, o11_3, o12_3, o13_3, o14_3, o17_2) : ((Int × (Int × (List (List (Int × Int))))) × (Unit × (Unit × (Unit × (((Int × (Int × (List (List (Int × Int))))) × Unit) × (Unit × (Unit × ((Int × (Unit × (Unit × (Unit × Unit)))) × ((List (Int × (Int × (Int × (Int × Int))))) × ((List Int) × ((List Int) × ((List Int) × ((List ((Int × (Int × (Int × (Int × Int)))) × Int)) × ((Unit × Unit) × ((List (Int × (Int × (Int × (Int × Int))))) × ((List Int) × ((Int × (Unit × (Unit × (Unit × Unit)))) × ((List (Int × (Int × (Int × (Int × Int))))) × ((List Int) × ((List Int) × ((List Int) × (List Int))))))))))))))))))))))) =>
      (tree109.tw k () o9_7 o17_2 ((), ()) o7_7 o5_7).bind fun t102 =>
      Option.bind
        (cond (decide (t63 < t_8.2.1))
          ((if room (List.length o12_3 + List.length ([t102.1] : List Int)) 8 then some () else none).bind fun _ =>
          some (t_8, (), (), (), row_3, (), o0_7, o1_7, o2_7, o3_7, o4_7, t102.2.2.2, (t102.2.1.1, t102.2.1.2), t102.2.2.1, o9_7, (o10_3.1, o10_3.2.1, o10_3.2.2.1, o10_3.2.2.2), o11_3, (o12_3 ++ ([t102.1] : List Int)), o13_3, o14_3))
          (Option.bind
            (((if room (List.length o13_3 + List.length ([t102.1] : List Int)) 8 then some () else none).bind fun _ =>
                (if room (List.length o14_3 + List.length ([0] : List Int)) 8 then some () else none).bind fun _ =>
                some (t_8, (), (), (), row_3, (), o0_7, o1_7, o2_7, o3_7, o4_7, t102.2.2.2, (t102.2.1.1, t102.2.1.2), t102.2.2.1, o9_7, (o10_3.1, o10_3.2.1, o10_3.2.2.1, o10_3.2.2.2.1, o10_3.2.2.2.2), o11_3, o12_3, (o13_3 ++ ([t102.1] : List Int)), (o14_3 ++ ([0] : List Int)))) : Option ((Int × (Int × (List (List (Int × Int))))) × (Unit × (Unit × (Unit × (((Int × (Int × (List (List (Int × Int))))) × Unit) × (Unit × ((Int × (Unit × (Unit × (Unit × Unit)))) × ((List (Int × (Int × (Int × (Int × Int))))) × ((List Int) × ((List Int) × ((List Int) × ((List ((Int × (Int × (Int × (Int × Int)))) × Int)) × ((Unit × Unit) × ((List (Int × (Int × (Int × (Int × Int))))) × ((List Int) × ((Int × (Unit × (Unit × (Unit × Unit)))) × ((List (Int × (Int × (Int × (Int × Int))))) × ((List Int) × ((List Int) × (List Int))))))))))))))))))))) fun ((t_9, _, _, _, row_4, _, o0_8, o1_8, o2_8, o3_8, o4_8, o5_8, o6_8, o7_8, o9_8, o10_4, o11_4, o12_4, o13_4, o14_4) : ((Int × (Int × (List (List (Int × Int))))) × (Unit × (Unit × (Unit × (((Int × (Int × (List (List (Int × Int))))) × Unit) × (Unit × ((Int × (Unit × (Unit × (Unit × Unit)))) × ((List (Int × (Int × (Int × (Int × Int))))) × ((List Int) × ((List Int) × ((List Int) × ((List ((Int × (Int × (Int × (Int × Int)))) × Int)) × ((Unit × Unit) × ((List (Int × (Int × (Int × (Int × Int))))) × ((List Int) × ((Int × (Unit × (Unit × (Unit × Unit)))) × ((List (Int × (Int × (Int × (Int × Int))))) × ((List Int) × ((List Int) × (List Int))))))))))))))))))))) =>
          some (t_9, (), (), (), row_4, (), o0_8, o1_8, o2_8, o3_8, o4_8, o5_8, o6_8, o7_8, o9_8, o10_4, o11_4, o12_4, o13_4, o14_4)) : Option ((Int × (Int × (List (List (Int × Int))))) × (Unit × (Unit × (Unit × (((Int × (Int × (List (List (Int × Int))))) × Unit) × (Unit × ((Int × (Unit × (Unit × (Unit × Unit)))) × ((List (Int × (Int × (Int × (Int × Int))))) × ((List Int) × ((List Int) × ((List Int) × ((List ((Int × (Int × (Int × (Int × Int)))) × Int)) × ((Unit × Unit) × ((List (Int × (Int × (Int × (Int × Int))))) × ((List Int) × ((Int × (Unit × (Unit × (Unit × Unit)))) × ((List (Int × (Int × (Int × (Int × Int))))) × ((List Int) × ((List Int) × (List Int))))))))))))))))))))) fun ((t_10, _, _, _, row_5, _, o0_9, o1_9, o2_9, o3_9, o4_9, o5_9, o6_9, o7_9, o9_9, o10_5, o11_5, o12_5, o13_5, o14_5) : ((Int × (Int × (List (List (Int × Int))))) × (Unit × (Unit × (Unit × (((Int × (Int × (List (List (Int × Int))))) × Unit) × (Unit × ((Int × (Unit × (Unit × (Unit × Unit)))) × ((List (Int × (Int × (Int × (Int × Int))))) × ((List Int) × ((List Int) × ((List Int) × ((List ((Int × (Int × (Int × (Int × Int)))) × Int)) × ((Unit × Unit) × ((List (Int × (Int × (Int × (Int × Int))))) × ((List Int) × ((Int × (Unit × (Unit × (Unit × Unit)))) × ((List (Int × (Int × (Int × (Int × Int))))) × ((List Int) × ((List Int) × (List Int))))))))))))))))))))) =>
      some (Sum.inl (t_10, (), (), (), row_5, (), (w64 (t63 + 1)), o0_9, o1_9, o2_9, o3_9, o4_9, o5_9, o6_9, o7_9, o9_9, o10_5, o11_5, o12_5, o13_5, o14_5)))
      (some (Sum.inr ((), (), (), o0_4, o1_4, o2_4, o3_4, o4_4, o5_4, o6_4, o7_4, o10, o11, o12, o13, o14)))
theorem Of54.l3.le (k j : Nat) (hk_ : k ≤ j) : ∀ a0_, ∀ s, Le (Of54.l3.tw k a0_ s) (Of54.l3 j a0_ s) := by
  intro a0_
  unfold Of54.l3 Of54.l3.tw
  simp only [agree_self]
  repeat' (first | with_reducible exact Le.refl _ | with_reducible exact tree109.le _ _ hk_ _ _ _ _ _ _ | with_reducible exact Of54.l2.le _ _ hk_ _ _ | with_reducible refine Le.self ?_ | with_reducible refine Le.cond ?_ ?_ | with_reducible refine Le.orNil ?_ ?_ | with_reducible refine Le.agree ?_ ?_ | with_reducible refine Le.joined ?_ ?_ | with_reducible refine Le.bind ?_ ?_ | with_reducible refine Le.loop hk_ ?_ _ | with_reducible refine Le.prod ?_ | intro _ | (dsimp only) | exact Le.refl _)

def Of54.tw (k : Nat) (t : (Int × (Int × (List (List (Int × Int)))))) : Option (((Int × ((List (Int × (Int × (Int × (Int × Int))))) × ((List Int) × ((List Int) × (List Int))))) × (Int × Unit)) × Unit) :=
  (Check105.tw k t).bind fun t18 =>
  cond (t18.1 != 0)
    (some (((0, [], [], [], []), t18.1, ()), ()))
    ((width106.tw k (List.length t.2.2 : Int)).bind fun t29 =>
    Option.bind
      (loopN (Of54.l0.tw k t) k (t, (), (), (), 0, (0, (), (), (), ()), [], [], [], [], ([] : (List ((Int × (Int × (Int × (Int × Int)))) × Int))), ((), ()), [], []) : Option ((Int × (Int × (List (List (Int × Int))))) × (Unit × (Unit × (Unit × ((Int × (Unit × (Unit × (Unit × Unit)))) × ((List (Int × (Int × (Int × (Int × Int))))) × ((List Int) × ((List Int) × ((List Int) × ((List ((Int × (Int × (Int × (Int × Int)))) × Int)) × ((Unit × Unit) × ((List (Int × (Int × (Int × (Int × Int))))) × (List Int)))))))))))))) fun ((t_2, _, _, _, o0_1, o1_1, o2_1, o3_1, o4_1, o5_1, o6_1, o7_1, o9_1) : ((Int × (Int × (List (List (Int × Int))))) × (Unit × (Unit × (Unit × ((Int × (Unit × (Unit × (Unit × Unit)))) × ((List (Int × (Int × (Int × (Int × Int))))) × ((List Int) × ((List Int) × ((List Int) × ((List ((Int × (Int × (Int × (Int × Int)))) × Int)) × ((Unit × Unit) × ((List (Int × (Int × (Int × (Int × Int))))) × (List Int)))))))))))))) =>
    Option.bind
      (loopN (Of54.l1.tw k t29) k (t_2, (), (), (), 0, o0_1, o1_1, o2_1, o3_1, o4_1, o5_1, o6_1, o7_1, o9_1) : Option ((Int × (Int × (List (List (Int × Int))))) × (Unit × (Unit × (Unit × ((Int × (Unit × (Unit × (Unit × Unit)))) × ((List (Int × (Int × (Int × (Int × Int))))) × ((List Int) × ((List Int) × ((List Int) × ((List ((Int × (Int × (Int × (Int × Int)))) × Int)) × ((Unit × Unit) × ((List (Int × (Int × (Int × (Int × Int))))) × (List Int)))))))))))))) fun ((t_4, _, _, _, o0_3, o1_3, o2_3, o3_3, o4_3, o5_3, o6_3, o7_3, o9_3) : ((Int × (Int × (List (List (Int × Int))))) × (Unit × (Unit × (Unit × ((Int × (Unit × (Unit × (Unit × Unit)))) × ((List (Int × (Int × (Int × (Int × Int))))) × ((List Int) × ((List Int) × ((List Int) × ((List ((Int × (Int × (Int × (Int × Int)))) × Int)) × ((Unit × Unit) × ((List (Int × (Int × (Int × (Int × Int))))) × (List Int)))))))))))))) =>
    Option.bind
      (loopN (Of54.l3.tw k (w64 (t_4.2.1 + t29.1))) k (t_4, (), (), (), (t_4, ()), (), 0, o0_3, o1_3, o2_3, o3_3, o4_3, o5_3, o6_3, o7_3, o9_3, (t_4.1, (), (), (), ()), [], [], [], []) : Option (Unit × (Unit × (Unit × ((Int × (Unit × (Unit × (Unit × Unit)))) × ((List (Int × (Int × (Int × (Int × Int))))) × ((List Int) × ((List Int) × ((List Int) × ((List ((Int × (Int × (Int × (Int × Int)))) × Int)) × ((Unit × Unit) × ((List (Int × (Int × (Int × (Int × Int))))) × ((Int × (Unit × (Unit × (Unit × Unit)))) × ((List (Int × (Int × (Int × (Int × Int))))) × ((List Int) × ((List Int) × (List Int))))))))))))))))) fun ((_, _, _, _, _, _, _, _, _, _, o7_10, o10_6, _, o12_6, o13_6, o14_6) : (Unit × (Unit × (Unit × ((Int × (Unit × (Unit × (Unit × Unit)))) × ((List (Int × (Int × (Int × (Int × Int))))) × ((List Int) × ((List Int) × ((List Int) × ((List ((Int × (Int × (Int × (Int × Int)))) × Int)) × ((Unit × Unit) × ((List (Int × (Int × (Int × (Int × Int))))) × ((Int × (Unit × (Unit × (Unit × Unit)))) × ((List (Int × (Int × (Int × (Int × Int))))) × ((List Int) × ((List Int) × (List Int))))))))))))))))) =>
    (swept110.tw k (o10_6.1, o7_10, o12_6, o13_6, o14_6)).bind fun t131 =>
    cond (decide ((List.length t131.1.2.1 : Int) > 400))
      (some (((0, [], [], [], []), 6, ()), ()))
      (some ((t131.1, 0, ()), ())))
theorem Of54.le (k j : Nat) (hk_ : k ≤ j) : ∀ a0_, Le (Of54.tw k a0_) (Of54 j a0_) := by
  intro a0_
  unfold Of54 Of54.tw
  repeat' (first | with_reducible exact Le.refl _ | with_reducible exact Check105.le _ _ hk_ _ | with_reducible exact width106.le _ _ hk_ _ | with_reducible exact swept110.le _ _ hk_ _ | with_reducible exact Of54.l0.le _ _ hk_ _ | with_reducible exact Of54.l1.le _ _ hk_ _ | with_reducible exact Of54.l3.le _ _ hk_ _ | with_reducible refine Le.self ?_ | with_reducible refine Le.cond ?_ ?_ | with_reducible refine Le.orNil ?_ ?_ | with_reducible refine Le.agree ?_ ?_ | with_reducible refine Le.joined ?_ ?_ | with_reducible refine Le.bind ?_ ?_ | with_reducible refine Le.loop hk_ ?_ _ | with_reducible refine Le.prod ?_ | intro _ | (dsimp only) | exact Le.refl _)

def Run71.l0.tw (k : Nat) (in_ : (List Int)) : ((Int × ((List (Int × (Int × (Int × (Int × Int))))) × ((List Int) × ((List Int) × (List Int))))) × (Unit × (Int × (Int × (List Int))))) → Option (((Int × ((List (Int × (Int × (Int × (Int × Int))))) × ((List Int) × ((List Int) × (List Int))))) × (Unit × (Int × (Int × (List Int))))) ⊕ ((Unit × (List Int)) ⊕ (((List Int) × (Int × Unit)) × Unit)))
  | (c_1, _, s, t21, o1) =>
    cond (decide (t21 < (List.length in_ : Int)))
      ((rd in_ t21).bind fun t23 =>
      Option.bind (cond (decide (t23 < 0))
        (some true)
        ((if c_1.1 < 0 then none else some (shlI .i64 1 c_1.1)).bind fun t31 =>
        some (decide (t23 ≥ t31)))) fun t33 =>
      cond t33
        (some (Sum.inr (Sum.inr (([], 1, ()), ()))))
        ((values69.tw k c_1 s t23).bind fun t37 =>
        (bits70.tw k t37.1 c_1.2.2.1).bind fun t42 =>
        (if room (List.length o1 + List.length ([t42.1] : List Int)) 8 then some () else none).bind fun _ =>
        (bits70.tw k t37.1 c_1.2.2.2.1).bind fun t48 =>
        some (Sum.inl (c_1, (), t48.1, (w64 (t21 + 1)), (o1 ++ ([t42.1] : List Int))))))
      (some (Sum.inr (Sum.inl ((), o1))))
theorem Run71.l0.le (k j : Nat) (hk_ : k ≤ j) : ∀ a0_, ∀ s, Le (Run71.l0.tw k a0_ s) (Run71.l0 j a0_ s) := by
  intro a0_
  unfold Run71.l0 Run71.l0.tw
  repeat' (first | with_reducible exact Le.refl _ | with_reducible exact values69.le _ _ hk_ _ _ _ | with_reducible exact bits70.le _ _ hk_ _ _ | with_reducible refine Le.self ?_ | with_reducible refine Le.cond ?_ ?_ | with_reducible refine Le.orNil ?_ ?_ | with_reducible refine Le.agree ?_ ?_ | with_reducible refine Le.joined ?_ ?_ | with_reducible refine Le.bind ?_ ?_ | with_reducible refine Le.loop hk_ ?_ _ | with_reducible refine Le.prod ?_ | intro _ | (dsimp only) | exact Le.refl _)

def Run71.tw (k : Nat) (c : (Int × ((List (Int × (Int × (Int × (Int × Int))))) × ((List Int) × ((List Int) × (List Int)))))) (in_ : (List Int)) : Option (((List Int) × (Int × Unit)) × Unit) :=
  (Check18.tw k c).bind fun t13 =>
  cond (t13.1 != 0)
    (some (([], t13.1, ()), ()))
    ((Start80.tw k c).bind fun t18 =>
    Option.bind
      (loopN (Run71.l0.tw k in_) k (c, (), t18.1, 0, []) : Option ((Unit × (List Int)) ⊕ (((List Int) × (Int × Unit)) × Unit))) (joined fun ((_, o1_1) : (Unit × (List Int))) =>
      some ((o1_1, 0, ()), ())))
theorem Run71.le (k j : Nat) (hk_ : k ≤ j) : ∀ a0_ a1_, Le (Run71.tw k a0_ a1_) (Run71 j a0_ a1_) := by
  intro a0_ a1_
  unfold Run71 Run71.tw
  repeat' (first | with_reducible exact Le.refl _ | with_reducible exact Check18.le _ _ hk_ _ | with_reducible exact Start80.le _ _ hk_ _ | with_reducible exact Run71.l0.le _ _ hk_ _ | with_reducible refine Le.self ?_ | with_reducible refine Le.cond ?_ ?_ | with_reducible refine Le.orNil ?_ ?_ | with_reducible refine Le.agree ?_ ?_ | with_reducible refine Le.joined ?_ ?_ | with_reducible refine Le.bind ?_ ?_ | with_reducible refine Le.loop hk_ ?_ _ | with_reducible refine Le.prod ?_ | intro _ | (dsimp only) | exact Le.refl _)

def Equal25.l0.tw (k : Nat) (s1 : (List Int)) (s2 : (List Int)) : Int → Option (Int ⊕ (Unit ⊕ (Bool × Unit)))
  | t13 =>
    cond (decide (t13 < (List.length s1 : Int)))
      ((rd s1 t13).bind fun t18 =>
      (rd s2 t13).bind fun t22 =>
      cond (t18 != t22)
        (some (Sum.inr (Sum.inr (false, ()))))
        (some (Sum.inl (w64 (t13 + 1)))))
      (some (Sum.inr (Sum.inl ())))
theorem Equal25.l0.le (k j : Nat) (hk_ : k ≤ j) : ∀ a0_ a1_, ∀ s, Le (Equal25.l0.tw k a0_ a1_ s) (Equal25.l0 j a0_ a1_ s) := by
  intro a0_ a1_
  unfold Equal25.l0 Equal25.l0.tw
  repeat' (first | with_reducible exact Le.refl _ | with_reducible refine Le.self ?_ | with_reducible refine Le.cond ?_ ?_ | with_reducible refine Le.orNil ?_ ?_ | with_reducible refine Le.agree ?_ ?_ | with_reducible refine Le.joined ?_ ?_ | with_reducible refine Le.bind ?_ ?_ | with_reducible refine Le.loop hk_ ?_ _ | with_reducible refine Le.prod ?_ | intro _ | (dsimp only) | exact Le.refl _)

def Equal25.tw (k : Nat) (s1 : (List Int)) (s2 : (List Int)) : Option (Bool × Unit) :=
  cond ((List.length s1 : Int) != (List.length s2 : Int))
    (some (false, ()))
    (Option.bind
      (loopN (Equal25.l0.tw k s1 s2) k 0 : Option (Unit ⊕ (Bool × Unit))) (joined fun (_ : Unit) =>
      some (true, ())))
theorem Equal25.le (k j : Nat) (hk_ : k ≤ j) : ∀ a0_ a1_, Le (Equal25.tw k a0_ a1_) (Equal25 j a0_ a1_) := by
  intro a0_ a1_
  unfold Equal25 Equal25.tw
  repeat' (first | with_reducible exact Le.refl _ | with_reducible exact Equal25.l0.le _ _ hk_ _ _ | with_reducible refine Le.self ?_ | with_reducible refine Le.cond ?_ ?_ | with_reducible refine Le.orNil ?_ ?_ | with_reducible refine Le.agree ?_ ?_ | with_reducible refine Le.joined ?_ ?_ | with_reducible refine Le.bind ?_ ?_ | with_reducible refine Le.loop hk_ ?_ _ | with_reducible refine Le.prod ?_ | intro _ | (dsimp only) | exact Le.refl _)

def built55.tw (k : Nat) : Option (Bool × Unit) :=
  (Of54.tw k (1, 1, [[(0, 0), (1, 0)]])).bind fun t11 =>
  (Run71.tw k t11.1.1 ([0, 1] : List Int)).bind fun t17 =>
  Option.bind (cond (cond (t11.1.2.1 == 0) (t17.1.2.1 == 0) false)
    ((Equal25.tw k t17.1.1 ([0, 1] : List Int)).bind fun t29 =>
    some t29.1)
    (some false)) fun t30 =>
  some (t30, ())
theorem built55.le (k j : Nat) (hk_ : k ≤ j) : Le (built55.tw k) (built55 j) := by
  unfold built55 built55.tw
  repeat' (first | with_reducible exact Le.refl _ | with_reducible exact Of54.le _ _ hk_ _ | with_reducible exact Run71.le _ _ hk_ _ _ | with_reducible exact Equal25.le _ _ hk_ _ _ | with_reducible refine Le.self ?_ | with_reducible refine Le.cond ?_ ?_ | with_reducible refine Le.orNil ?_ ?_ | with_reducible refine Le.agree ?_ ?_ | with_reducible refine Le.joined ?_ ?_ | with_reducible refine Le.bind ?_ ?_ | with_reducible refine Le.loop hk_ ?_ _ | with_reducible refine Le.prod ?_ | intro _ | (dsimp only) | exact Le.refl _)

theorem built_ev : Ev (fun k => built55 k) (true, ()) := Le.ev (f := fun k => built55.tw k) built55.le (n := 60) (by kernel_rfl)
end Go.Proofs.Ytjbdhaenakcclaa.St

/- Smaller circuits: the law. No program in sight. -/
set_option linter.unusedVariables false
set_option maxRecDepth 100000
noncomputable section
namespace Go.Proofs.Ytjbdhaenakcclaa.St
open Go Go.Proofs.Ytjbdhaenakcclaa.Gp

section
variable {c d : Cir}
theorem Sml.go (h : Sml c d) (hf : fault c = 0) : ∀ (u : List Nat) (p : Pr), RelF (flc c) p.1 p.2 → RelF (flc c) (St.go (dlC c d) p u).1 (St.go (dlC c d) p u).2 := by
  intro u
  induction u with
  | nil => exact fun p hp => hp
  | cons i u ih =>
    intro p hp
    exact ih (dlC c d p i) (h.next_rel hf hp (i : Int))
theorem Sml.silent (h : Sml c d) (hf : fault c = 0) {B : Nat} : ∀ w, ¬ Tells (dlC c d) (dfC c d) B (startC c d) w := by
  rintro w ⟨u, j, _, _, _, hd⟩
  have hr := h.go hf u (startC c d) (h.first_rel hf)
  have e : outI c (St.go (dlC c d) (startC c d) u).1 j = outI d (St.go (dlC c d) (startC c d) u).2 j := by
    unfold outI
    rw [h.outs_line hr (j : Int)]
  unfold dfC at hd
  rw [e, bne_self_eq_false] at hd
  cases hd
end
theorem law_smalls (c : Cir) (l : List Int) (hw : ∀ x ∈ c.2.2.2.2, -9223372036854775808 ≤ x ∧ x ≤ 9223372036854775807) : ∃ k, SynthSmalls12 k c l = some (true, ()) := by
  refine Ev.ex ?_
  unfold SynthSmalls12
  by_cases hf : fault c ≠ 0
  · refine .bind (small_bad hf) (.bind (cfault_ev c hw) (.bind built_ev (.yes ?_ (.bind built_ev (.now' ?_)))))
    · show cond (!true) true (fault c != 0) = true
      rw [bne_iff_ne.2 hf]; rfl
    · show (cond (cond true (fault c == fault c) false) ((([] : List Gate).length : Int) == 0) false, ()) = (true, ())
      rw [beq_self_eq_true]; rfl
  have hf0 : fault c = 0 := by omega
  obtain ⟨d, h, es⟩ := small_ev hf0
  have hR := right_of c hf0
  have hfd := h.okd hf0
  have hRd := right_of d hfd
  have i0 := hR.ins
  have o0 := hRd.outs.1
  have n0 := hRd.next.1
  have g0 := hRd.gates
  have hin := init_eq hf0
  have hind := init_eq hfd
  have nc := hR.next.1
  have fl := flc_len c
  have hgl := h.gl
  have hnl := h.nl
  have hwd : ∀ x ∈ d.2.2.2.2, -9223372036854775808 ≤ x ∧ x ≤ 9223372036854775807 := fun x hx => by
    rw [h.init] at hx
    unfold iniOf at hx
    obtain ⟨n, hn, rfl⟩ := List.mem_map.1 hx
    rw [List.getD_eq_getElem?_getD]
    cases hq : c.2.2.2.2[n.toNat]? with
    | none => decide
    | some y => exact hw y (get_mem hq)
  have c1 : cond (!true) true (fault c != 0) = false := by rw [hf0]; rfl
  have c2 : cond (cond (cond (cond false true (d.1 != c.1)) true ((List.length d.2.2.1 : Int) != (List.length c.2.2.1 : Int))) true (decide ((List.length d.2.1 : Int) > (List.length c.2.1 : Int)))) true (decide ((List.length d.2.2.2.1 : Int) > (List.length c.2.2.2.1 : Int))) = false := by
    rw [h.ins, h.outs, decide_eq_false (show ¬ ((List.length d.2.1 : Int) > (List.length c.2.1 : Int)) by omega), decide_eq_false (show ¬ ((List.length d.2.2.2.1 : Int) > (List.length c.2.2.2.1 : Int)) by omega)]
    simp
  obtain ⟨m, hm, e0⟩ := first_marks c d (d.2.2.1 ++ d.2.2.2.1) (by rw [List.length_append]; omega) (d.2.2.1 ++ d.2.2.2.1, ()) rfl
  have e1 := h.check hRd d.2.1.length (Nat.le_refl _) m hm (fun j g hj hg => by have := get_lt hg; omega)
  have hlen1 : w64 ((List.length d.2.1 : Int) - 1) = (List.length d.2.1 : Int) - 1 := w64_id (by omega) (by omega)
  refine .bind es (.bind (cfault_ev c hw) (.bind built_ev (.no c1 (.bind (a := false) (.no rfl (.bind (cfault_ev d hwd) (.now' (by rw [hfd]; rfl)))) (.no c2 (.bind (concat_ev d.2.2.1 d.2.2.2.1 (by omega)) (.bind e0.ev (.joinL (S := Unit) (a := (c, d)) ?_ ?_))))))))
  · simp only [hlen1]
    exact e1.ev
  · by_cases h3 : c.1 ≤ 3 ∧ c.2.2.2.1.length ≤ 3
    · have c3 : cond (decide (c.1 ≤ 3)) (decide ((List.length c.2.2.2.1 : Int) ≤ 3)) false = true := by
        rw [decide_eq_true h3.1]
        exact decide_eq_true (by omega)
      have hB : 2 ^ c.1.toNat ≤ 16 := by
        have h1 : 2 ^ c.1.toNat ≤ 2 ^ 4 := Nat.pow_le_pow_right (by decide) (by omega)
        have h2 : (2 : Nat) ^ 4 = 16 := by decide
        omega
      rcases told_ev hR hRd (start_dom hf0 hfd) (by omega) (by omega) (by omega) hB (shl_ins hR) with ⟨w, t1, t2⟩ | ⟨_, t2⟩
      · exact absurd t1.1 (h.silent hf0 w)
      · exact .yes c3 (.bind t2 (.now _))
    · have c3 : cond (decide (c.1 ≤ 3)) (decide ((List.length c.2.2.2.1 : Int) ≤ 3)) false = false := by
        by_cases h1 : c.1 ≤ 3
        · rw [decide_eq_true h1]
          exact decide_eq_false (by omega)
        · rw [decide_eq_false h1]; rfl
      have hmn : mnI (List.length l : Int) 40 = ((min l.length 40 : Nat) : Int) := by
        unfold mnI
        split <;> omega
      have hs : slc l 0 (mnI (List.length l : Int) 40) = some (l.take (min l.length 40)) := by
        rw [hmn]
        exact (slc_ok (a := 0) (b := min l.length 40) (by omega) (by omega)).trans (by rw [List.drop_zero])
      have htl : (l.take (min l.length 40)).length ≤ 40 := by rw [List.length_take]; omega
      obtain ⟨M, hM, e2⟩ := masked c d i0.1 (l.take (min l.length 40)) (by omega)
      have hrl : (ran c M).length = M.length := by
        unfold ran
        rw [foldl_len8]; simp
      have ed := answered_ev hRd (by omega) M (by omega)
      rw [h.ranEq hf0] at ed
      exact .no c3 (.val hs (.bind e2.ev (.bind (answered_ev hR (by omega) M (by omega)) (.bind ed (.bind (equal_ev (ran c M) (by omega)) (.now _))))))
theorem synthSmalls (c : Cir) (l : List Int) {p q r s p' : Prop} (hc : p ∧ q ∧ r ∧ s ∧ wfL (α := Int) 8 (fun (y : Int) => (Lit.int .i64 y).wf = true) c.2.2.2.2) (hl : p') : ∃ k, SynthSmalls12 k c l = some (true, ()) :=
  law_smalls c l (fun x hx => lit_wf (hc.2.2.2.2.2 x hx))
end Go.Proofs.Ytjbdhaenakcclaa.St

/- The row of SynthSmalls: Small returns a right circuit that does the same and has what is specified. The law returns true for every input; the input reads as it did. -/
namespace Go.Proofs.Ytjbdhaenakcclaa.synthSmalls
open Go.ChangeShapes Go.WideShapes Go.ChangeAt Go.RowKit Go.Proofs.Ytjbdhaenakcclaa.Gp Go.Proofs.Ytjbdhaenakcclaa.St
set_option linter.unusedVariables false
theorem own : ownKnob Try.prog.godebug = none := by kernel_rfl
theorem laidOut : laidOutB Try.prog = true := by kernel_rfl
abbrev wf3 : Int → Prop := (fun (y : Int) => (Lit.int .i64 y).wf = true)
abbrev siz3 : Int → Nat := (fun _ => 1)
theorem gd3 : Gd Try.prog 3 (.int .i64) wf3 siz3 := gd_int Try.underlying3 (by kernel_rfl)
abbrev wf51 : (Int × (Int × (Int × (Int × Int)))) → Prop := (fun (y : (Int × (Int × (Int × (Int × Int))))) => wf3 y.1 ∧ (fun (y : (Int × (Int × (Int × Int)))) => wf3 y.1 ∧ (fun (y : (Int × (Int × Int))) => wf3 y.1 ∧ (fun (y : (Int × Int)) => wf3 y.1 ∧ wf3 y.2) y.2) y.2) y.2)
abbrev siz51 : (Int × (Int × (Int × (Int × Int)))) → Nat := (fun (y : (Int × (Int × (Int × (Int × Int))))) => siz3 y.1 + (fun (y : (Int × (Int × (Int × Int)))) => siz3 y.1 + (fun (y : (Int × (Int × Int))) => siz3 y.1 + (fun (y : (Int × Int)) => siz3 y.1 + siz3 y.2) y.2) y.2) y.2)
theorem gd51 : Gd Try.prog 51 (.st (.pair (.int .i64) (.pair (.int .i64) (.pair (.int .i64) (.pair (.int .i64) (.int .i64)))))) wf51 siz51 := gd_st Try.underlying51 (by kernel_rfl) (gdf_cons (k := .int .i64) (k' := .pair (.int .i64) (.pair (.int .i64) (.pair (.int .i64) (.int .i64)))) (wf := wf3) (siz := siz3) (wf' := (fun (y : (Int × (Int × (Int × Int)))) => wf3 y.1 ∧ (fun (y : (Int × (Int × Int))) => wf3 y.1 ∧ (fun (y : (Int × Int)) => wf3 y.1 ∧ wf3 y.2) y.2) y.2)) (siz' := (fun (y : (Int × (Int × (Int × Int)))) => siz3 y.1 + (fun (y : (Int × (Int × Int))) => siz3 y.1 + (fun (y : (Int × Int)) => siz3 y.1 + siz3 y.2) y.2) y.2)) rfl gd3 (gdf_cons (k := .int .i64) (k' := .pair (.int .i64) (.pair (.int .i64) (.int .i64))) (wf := wf3) (siz := siz3) (wf' := (fun (y : (Int × (Int × Int))) => wf3 y.1 ∧ (fun (y : (Int × Int)) => wf3 y.1 ∧ wf3 y.2) y.2)) (siz' := (fun (y : (Int × (Int × Int))) => siz3 y.1 + (fun (y : (Int × Int)) => siz3 y.1 + siz3 y.2) y.2)) rfl gd3 (gdf_cons (k := .int .i64) (k' := .pair (.int .i64) (.int .i64)) (wf := wf3) (siz := siz3) (wf' := (fun (y : (Int × Int)) => wf3 y.1 ∧ wf3 y.2)) (siz' := (fun (y : (Int × Int)) => siz3 y.1 + siz3 y.2)) rfl gd3 (gdf_cons (k := .int .i64) (k' := .int .i64) (wf := wf3) (siz := siz3) (wf' := wf3) (siz' := siz3) rfl gd3 (gdf_one rfl gd3)))))
abbrev wf22 : (List (Int × (Int × (Int × (Int × Int))))) → Prop := (wfL (α := (Int × (Int × (Int × (Int × Int))))) 40 wf51)
abbrev siz22 : (List (Int × (Int × (Int × (Int × Int))))) → Nat := (sizL (α := (Int × (Int × (Int × (Int × Int))))) siz51)
theorem gd22 : Gd Try.prog 22 (.sl (.st (.pair (.int .i64) (.pair (.int .i64) (.pair (.int .i64) (.pair (.int .i64) (.int .i64))))))) wf22 siz22 := gd_sl (B := 40) Try.underlying22 (by kernel_rfl) (by kernel_rfl) (by decide) gd51
abbrev wf23 : (List Int) → Prop := (wfL (α := Int) 8 wf3)
abbrev siz23 : (List Int) → Nat := (sizL (α := Int) siz3)
theorem gd23 : Gd Try.prog 23 (.sl (.int .i64)) wf23 siz23 := gd_sl (B := 8) Try.underlying23 (by kernel_rfl) (by kernel_rfl) (by decide) gd3
abbrev wf25 : (Int × ((List (Int × (Int × (Int × (Int × Int))))) × ((List Int) × ((List Int) × (List Int))))) → Prop := (fun (y : (Int × ((List (Int × (Int × (Int × (Int × Int))))) × ((List Int) × ((List Int) × (List Int)))))) => wf3 y.1 ∧ (fun (y : ((List (Int × (Int × (Int × (Int × Int))))) × ((List Int) × ((List Int) × (List Int))))) => wf22 y.1 ∧ (fun (y : ((List Int) × ((List Int) × (List Int)))) => wf23 y.1 ∧ (fun (y : ((List Int) × (List Int))) => wf23 y.1 ∧ wf23 y.2) y.2) y.2) y.2)
abbrev siz25 : (Int × ((List (Int × (Int × (Int × (Int × Int))))) × ((List Int) × ((List Int) × (List Int))))) → Nat := (fun (y : (Int × ((List (Int × (Int × (Int × (Int × Int))))) × ((List Int) × ((List Int) × (List Int)))))) => siz3 y.1 + (fun (y : ((List (Int × (Int × (Int × (Int × Int))))) × ((List Int) × ((List Int) × (List Int))))) => siz22 y.1 + (fun (y : ((List Int) × ((List Int) × (List Int)))) => siz23 y.1 + (fun (y : ((List Int) × (List Int))) => siz23 y.1 + siz23 y.2) y.2) y.2) y.2)
theorem gd25 : Gd Try.prog 25 (.st (.pair (.int .i64) (.pair (.sl (.st (.pair (.int .i64) (.pair (.int .i64) (.pair (.int .i64) (.pair (.int .i64) (.int .i64))))))) (.pair (.sl (.int .i64)) (.pair (.sl (.int .i64)) (.sl (.int .i64))))))) wf25 siz25 := gd_st Try.underlying25 (by kernel_rfl) (gdf_cons (k := .int .i64) (k' := .pair (.sl (.st (.pair (.int .i64) (.pair (.int .i64) (.pair (.int .i64) (.pair (.int .i64) (.int .i64))))))) (.pair (.sl (.int .i64)) (.pair (.sl (.int .i64)) (.sl (.int .i64))))) (wf := wf3) (siz := siz3) (wf' := (fun (y : ((List (Int × (Int × (Int × (Int × Int))))) × ((List Int) × ((List Int) × (List Int))))) => wf22 y.1 ∧ (fun (y : ((List Int) × ((List Int) × (List Int)))) => wf23 y.1 ∧ (fun (y : ((List Int) × (List Int))) => wf23 y.1 ∧ wf23 y.2) y.2) y.2)) (siz' := (fun (y : ((List (Int × (Int × (Int × (Int × Int))))) × ((List Int) × ((List Int) × (List Int))))) => siz22 y.1 + (fun (y : ((List Int) × ((List Int) × (List Int)))) => siz23 y.1 + (fun (y : ((List Int) × (List Int))) => siz23 y.1 + siz23 y.2) y.2) y.2)) rfl gd3 (gdf_cons (k := .sl (.st (.pair (.int .i64) (.pair (.int .i64) (.pair (.int .i64) (.pair (.int .i64) (.int .i64))))))) (k' := .pair (.sl (.int .i64)) (.pair (.sl (.int .i64)) (.sl (.int .i64)))) (wf := wf22) (siz := siz22) (wf' := (fun (y : ((List Int) × ((List Int) × (List Int)))) => wf23 y.1 ∧ (fun (y : ((List Int) × (List Int))) => wf23 y.1 ∧ wf23 y.2) y.2)) (siz' := (fun (y : ((List Int) × ((List Int) × (List Int)))) => siz23 y.1 + (fun (y : ((List Int) × (List Int))) => siz23 y.1 + siz23 y.2) y.2)) rfl gd22 (gdf_cons (k := .sl (.int .i64)) (k' := .pair (.sl (.int .i64)) (.sl (.int .i64))) (wf := wf23) (siz := siz23) (wf' := (fun (y : ((List Int) × (List Int))) => wf23 y.1 ∧ wf23 y.2)) (siz' := (fun (y : ((List Int) × (List Int))) => siz23 y.1 + siz23 y.2)) rfl gd23 (gdf_cons (k := .sl (.int .i64)) (k' := .sl (.int .i64)) (wf := wf23) (siz := siz23) (wf' := wf23) (siz' := siz23) rfl gd23 (gdf_one rfl gd23)))))
set_option maxRecDepth 100000 in
set_option maxHeartbeats 1000000 in
theorem lifted (os : Os) (started : os.Started) (H : Type) (enc : TypeId × Value → H) :
    ReturnsInHanded {} Try.checked os 12 .any (Rows.synthSmallsSpec.pre6 enc Try.prog Try.f12 Rows.synthSmallsRow.domain false) (Rows.synthSmallsSpec.post enc Try.prog Try.f12 false true false false) := by
  refine returnsInHanded_of_change_sized (C := Try.checked) own started (by kernel_rfl) Try.func12
    (ChangeSpec.witness6 (enc := enc) (C := Try.checked) false ⟨#[], #[.agg #[.int .i64 0, .slice none 0 0, .slice none 0 0, .slice none 0 0, .slice none 0 0], .slice none 0 0], []⟩ 8 (by kernel_rfl) (by kernel_rfl) (by kernel_rfl) (by kernel_rfl)) ?_
  intro W base args ds gs before hval0 hW hcnd hsz0 _
  have hsz : (DataW.weightsEach Try.prog (Try.f12.params.toList ++ Rows.synthSmallsSpec.plain.varTypes Try.prog) (ds ++ gs)).all (· ≤ reachBytes) = true := hsz0
  have hval : ∀ (j : Nat) t v, Try.f12.params[j]? = some t → args[j]? = some v → Value.okWide Try.prog W .any base t v := hval0
  have hW' := hW
  obtain ⟨p, q, hA0, hV, rfl, hfz, hnd⟩ := hW
  have hA : DataW.TrodAll enc Try.prog W 0 (fun _ => true) true Try.f12.params.toList args.toList ds p := hA0
  rw [Try.params12] at hA hval hsz
  obtain ⟨v0, vs0, d0, ds0, p0, q0, hargs, rfl, rfl, h0, r0⟩ := trodAll_cons hA
  obtain ⟨v1, vs1, d1, ds1, p1, q1, rfl, rfl, rfl, h1, r1⟩ := trodAll_cons r0
  obtain ⟨rfl, rfl, rfl⟩ := trodAll_nil r1
  obtain rfl : args = #[v0, v1] := by cases args; simp_all
  obtain ⟨rfl, rfl⟩ := trodVars_none hV
  have lt0 : ∀ x ∈ p0, x.block < W.heap.size := by obtain ⟨m, hm⟩ := h0; exact DataW.trod_lt m _ _ _ hm
  have wt0 := weights_at hsz 0 (t := 25) rfl rfl
  obtain ⟨a0, s0, wf0_, up0_⟩ := gd25.arg (hval 0 25 v0 rfl rfl) h0 wt0
  have lt1 : ∀ x ∈ p1, x.block < W.heap.size := by obtain ⟨m, hm⟩ := h1; exact DataW.trod_lt m _ _ _ hm
  have wt1 := weights_at hsz 1 (t := 23) rfl rfl
  obtain ⟨a1, s1, wf1_, up1_⟩ := gd23.arg (hval 1 23 v1 rfl rfl) h1 wt1
  clear hA0 hval0 hsz0 hsz
  obtain ⟨k, h⟩ := St.synthSmalls a0 a1 wf0_ wf1_
  refine (law_calls (SynthSmalls12.ok k) (ds := (a0, a1)) h (args := #[v0, v1]) (W := W) (.cons (s0 _) (.cons (s1 _) (.nil)))).mono fun e W' ⟨he, bel0⟩ => ?_
  have bel : Below W.heap.size W W' := bel0
  subst he
  exact ⟨_, rfl, _, _, _, [], _, [], hW', trodAll_mk1 (shut_bool Try.underlying4 _), (trodAll_cons_mk (Below.trod laidOut (by kernel_rfl) (of_decide_eq_true (by kernel_rfl)) h0 bel lt0) (trodAll_cons_mk (Below.trod laidOut (by kernel_rfl) (of_decide_eq_true (by kernel_rfl)) h1 bel lt1) (trodAll_mk0))), rfl, bel.frame _, fun h => by cases h⟩
theorem over : Rows.synthSmallsRow.holds Try.pinned (OpenSpec.ofChange Rows.synthSmallsSpec) :=
  OpenClaim.holds_of_wide 12 Try.f12 rfl rfl rfl rfl rfl rfl rfl ⟨rfl, rfl, rfl, rfl, rfl⟩ rfl rfl rfl rfl rfl (by kernel_rfl) Try.func12 (by kernel_rfl)
    (of_decide_eq_true (by kernel_rfl)) (by unfold Func.isWrapper; first | (rw [if_pos (by decide +kernel)]; kernel_rfl) | (rw [if_neg (by decide +kernel)]; exact ⟨rfl, rfl⟩))
    (fun os started H enc _ => lifted os started H enc)
theorem proved : Rows.SynthSmallsSaid := over
#print axioms proved
end Go.Proofs.Ytjbdhaenakcclaa.synthSmalls
namespace Go.Proofs.Ytjbdhaenakcclaa
theorem synthSmalls_holds : Rows.SynthSmallsSaid := synthSmalls.proved
end Go.Proofs.Ytjbdhaenakcclaa
