/- Merged texts of one claim: a Go law, its functions without memory, and the plain law. The law returns true for every input; conditions: as the row says. -/
import Derived.Test.YtjbdhaenakcclaaRows
import Derived.ChangeArms
import Derived.OpenShut
import Derived.SizedLaws
import Derived.Deep.Slices
import Derived.Below
import Derived.WalkKit
import Derived.ProofKit
import Derived.ShutString
import Derived.ChangeOld
import Derived.Test.YtjbdhaenakcclaaCGu0
import Derived.Test.YtjbdhaenakcclaaCGu1
import Derived.Test.YtjbdhaenakcclaaCGu2
/- Go functions as plain Lean functions, and their contracts. -/
set_option linter.unusedVariables false
set_option maxRecDepth 100000
noncomputable section
namespace Go.Proofs.Ytjbdhaenakcclaa.Gu
open Go Go.Proofs.Ytjbdhaenakcclaa.Gp
abbrev GrpUsed178.T := (Int → Unit → (Int × ((List (Int × (Int × (Int × (Int × Int))))) × ((List Int) × ((List Int) × (List Int))))) → Unit → Unit → (List Bool) → (Unit × ((Int × ((List (Int × (Int × (Int × (Int × Int))))) × ((List Int) × ((List Int) × (List Int))))) × (Unit × Unit))) → Option (Unit × (Unit × ((List Bool) × (Unit × ((Int × ((List (Int × (Int × (Int × (Int × Int))))) × ((List Int) × ((List Int) × (List Int))))) × (Unit × Unit)))))))
def Used178.l0 (r_ : GrpUsed178.T) (k : Nat) (t31 : Int) : ((Int × ((List (Int × (Int × (Int × (Int × Int))))) × ((List Int) × ((List Int) × (List Int))))) × (Unit × ((Int × (Int × (Int × (Int × Int)))) × (Unit × (Int × (Unit × ((List Bool) × ((Unit × ((Int × ((List (Int × (Int × (Int × (Int × Int))))) × ((List Int) × ((List Int) × (List Int))))) × (Unit × Unit))) × (List Int))))))))) → Option (((Int × ((List (Int × (Int × (Int × (Int × Int))))) × ((List Int) × ((List Int) × (List Int))))) × (Unit × ((Int × (Int × (Int × (Int × Int)))) × (Unit × (Int × (Unit × ((List Bool) × ((Unit × ((Int × ((List (Int × (Int × (Int × (Int × Int))))) × ((List Int) × ((List Int) × (List Int))))) × (Unit × Unit))) × (List Int))))))))) ⊕ ((Int × ((List (Int × (Int × (Int × (Int × Int))))) × ((List Int) × ((List Int) × (List Int))))) × (Unit × ((Int × (Int × (Int × (Int × Int)))) × (Unit × ((List Bool) × (Unit × ((Int × ((List (Int × (Int × (Int × (Int × Int))))) × ((List Int) × ((List Int) × (List Int))))) × (Unit × Unit)))))))))
  | (t2_2, _, g_1, _, t32_1, _, o1_2, o2_2, o4_1) =>
    cond (decide (t32_1 < t31))
      ((rd o4_1 t32_1).bind fun _ =>
      (rd o4_1 t32_1).bind fun t35 =>
      (r_ t35 o2_2.1 o2_2.2.1 o2_2.2.2.1 () o1_2 o2_2).bind fun t38 =>
      some (Sum.inl (t2_2, (), g_1, (), (w64 (t32_1 + 1)), (), t38.2.2.1, t38.2.2.2, o4_1)))
      (some (Sum.inr (t2_2, (), g_1, (), o1_2, o2_2)))
def Used178.b (r_ : GrpUsed178.T) (k : Nat) (k_ : Int) (_ : Unit) (t2 : (Int × ((List (Int × (Int × (Int × (Int × Int))))) × ((List Int) × ((List Int) × (List Int)))))) (_ : Unit) (o0 : Unit) (o1 : (List Bool)) (o2 : (Unit × ((Int × ((List (Int × (Int × (Int × (Int × Int))))) × ((List Int) × ((List Int) × (List Int))))) × (Unit × Unit)))) : Option (Unit × (Unit × ((List Bool) × (Unit × ((Int × ((List (Int × (Int × (Int × (Int × Int))))) × ((List Int) × ((List Int) × (List Int))))) × (Unit × Unit)))))) :=
  (rd o1 k_).bind fun _ =>
  (rd o1 k_).bind fun t11 =>
  cond t11
    (some ((), (), o1, o2))
    ((rd o1 k_).bind fun _ =>
    (rd o1 k_).bind fun _ =>
    let l : (List Bool) := (List.set o1 (Int.toNat k_) true)
    (rd t2.2.1 k_).bind fun t18 =>
    Option.bind
      (agree
        ((inputs79 k t18.1).bind fun t29 =>
        (slc ([t18.2.1, t18.2.2.1, t18.2.2.2.1] : List Int) 0 t29.1).bind fun t30 =>
        some (t2, (), t18, (), (List.length t30 : Int), 0, (), l, o2, t30))
        ((inputs79 k t18.1).bind fun t29_1 =>
        (slc ([t18.2.1, t18.2.2.1, t18.2.2.2.1] : List Int) 0 t29_1.1).bind fun t30_1 =>
        some (t2, (), t18, (), (List.length t30_1 : Int), 0, (), l, o2, t30_1)) : Option ((Int × ((List (Int × (Int × (Int × (Int × Int))))) × ((List Int) × ((List Int) × (List Int))))) × (Unit × ((Int × (Int × (Int × (Int × Int)))) × (Unit × (Int × (Int × (Unit × ((List Bool) × ((Unit × ((Int × ((List (Int × (Int × (Int × (Int × Int))))) × ((List Int) × ((List Int) × (List Int))))) × (Unit × Unit))) × (List Int))))))))))) fun ((t2_1, _, g, _, t31, t32, _, o1_1, o2_1, o4) : ((Int × ((List (Int × (Int × (Int × (Int × Int))))) × ((List Int) × ((List Int) × (List Int))))) × (Unit × ((Int × (Int × (Int × (Int × Int)))) × (Unit × (Int × (Int × (Unit × ((List Bool) × ((Unit × ((Int × ((List (Int × (Int × (Int × (Int × Int))))) × ((List Int) × ((List Int) × (List Int))))) × (Unit × Unit))) × (List Int))))))))))) =>
    Option.bind
      (loopN (Used178.l0 r_ k t31) k (t2_1, (), g, (), t32, (), o1_1, o2_1, o4) : Option ((Int × ((List (Int × (Int × (Int × (Int × Int))))) × ((List Int) × ((List Int) × (List Int))))) × (Unit × ((Int × (Int × (Int × (Int × Int)))) × (Unit × ((List Bool) × (Unit × ((Int × ((List (Int × (Int × (Int × (Int × Int))))) × ((List Int) × ((List Int) × (List Int))))) × (Unit × Unit))))))))) fun ((t2_3, _, g_2, _, o1_3, o2_3) : ((Int × ((List (Int × (Int × (Int × (Int × Int))))) × ((List Int) × ((List Int) × (List Int))))) × (Unit × ((Int × (Int × (Int × (Int × Int)))) × (Unit × ((List Bool) × (Unit × ((Int × ((List (Int × (Int × (Int × (Int × Int))))) × ((List Int) × ((List Int) × (List Int))))) × (Unit × Unit))))))))) =>
    Option.bind
      (cond (g_2.1 == 2)
        ((rd t2_3.2.2.2.1 g_2.2.2.2.2).bind fun t48 =>
        (r_ t48 o2_3.1 o2_3.2.1 o2_3.2.2.1 () o1_3 o2_3).bind fun t50 =>
        some ((), t50.2.2.1, t50.2.2.2))
        (some ((), o1_3, o2_3)) : Option (Unit × ((List Bool) × (Unit × ((Int × ((List (Int × (Int × (Int × (Int × Int))))) × ((List Int) × ((List Int) × (List Int))))) × (Unit × Unit)))))) fun ((_, o1_4, o2_4) : (Unit × ((List Bool) × (Unit × ((Int × ((List (Int × (Int × (Int × (Int × Int))))) × ((List Int) × ((List Int) × (List Int))))) × (Unit × Unit)))))) =>
    some ((), (), o1_4, o2_4))
def GrpUsed178 : Nat → GrpUsed178.T
  | 0 => ((fun _ _ _ _ _ _ _ => none))
  | k + 1 => (Used178.b (GrpUsed178 k) k)
def Used178 (k : Nat) : Int → Unit → (Int × ((List (Int × (Int × (Int × (Int × Int))))) × ((List Int) × ((List Int) × (List Int))))) → Unit → Unit → (List Bool) → (Unit × ((Int × ((List (Int × (Int × (Int × (Int × Int))))) × ((List Int) × ((List Int) × (List Int))))) × (Unit × Unit))) → Option (Unit × (Unit × ((List Bool) × (Unit × ((Int × ((List (Int × (Int × (Int × (Int × Int))))) × ((List Int) × ((List Int) × (List Int))))) × (Unit × Unit)))))) := (GrpUsed178 k)
def Used178.A : Ann := { conds := [(2752521, ⟨[], [(0, .var (.ms 1)), (1, .row .bool), (2, .var (.fn 78 (.pair (.ptr 0 []) (.pair (.fp (.st (.pair (.int .i64) (.pair (.sl (.st (.pair (.int .i64) (.pair (.int .i64) (.pair (.int .i64) (.pair (.int .i64) (.int .i64))))))) (.pair (.sl (.int .i64)) (.pair (.sl (.int .i64)) (.sl (.int .i64)))))))) (.pair (.ptr 2 []) .unit)))))], 3, [], 2243003720663040⟩)], blocks := [(0, ⟨[(2, .fp (.st (.pair (.int .i64) (.pair (.sl (.st (.pair (.int .i64) (.pair (.int .i64) (.pair (.int .i64) (.pair (.int .i64) (.int .i64))))))) (.pair (.sl (.int .i64)) (.pair (.sl (.int .i64)) (.sl (.int .i64)))))))), (3, .ptr 2 []), (5, .fp (.st (.pair (.int .i64) (.pair (.int .i64) (.pair (.int .i64) (.pair (.int .i64) (.int .i64)))))))], [(0, .var (.ms 1)), (1, .row .bool), (2, .var (.fn 78 (.pair (.ptr 0 []) (.pair (.fp (.st (.pair (.int .i64) (.pair (.sl (.st (.pair (.int .i64) (.pair (.int .i64) (.pair (.int .i64) (.pair (.int .i64) (.int .i64))))))) (.pair (.sl (.int .i64)) (.pair (.sl (.int .i64)) (.sl (.int .i64)))))))) (.pair (.ptr 2 []) .unit)))))], 3, [], 1095216660608⟩)], loops := [(4, ⟨[(2, .fp (.st (.pair (.int .i64) (.pair (.sl (.st (.pair (.int .i64) (.pair (.int .i64) (.pair (.int .i64) (.pair (.int .i64) (.int .i64))))))) (.pair (.sl (.int .i64)) (.pair (.sl (.int .i64)) (.sl (.int .i64)))))))), (3, .ptr 2 []), (5, .fp (.st (.pair (.int .i64) (.pair (.int .i64) (.pair (.int .i64) (.pair (.int .i64) (.int .i64))))))), (30, .ms 4), (32, .int .i64)], [(0, .var (.ms 1)), (1, .row .bool), (2, .var (.fn 78 (.pair (.ptr 0 []) (.pair (.fp (.st (.pair (.int .i64) (.pair (.sl (.st (.pair (.int .i64) (.pair (.int .i64) (.pair (.int .i64) (.pair (.int .i64) (.int .i64))))))) (.pair (.sl (.int .i64)) (.pair (.sl (.int .i64)) (.sl (.int .i64)))))))) (.pair (.ptr 2 []) .unit))))), (4, .row (.int .i64))], 5, [], 1095216660608⟩)], keeps := [5], orders := [(9, [(0, .strong), (1, .strong), (2, .strong), (3, .strong), (4, .strong), (5, .strong), (6, .strong), (7, .eff false)])], alts := [(3, (([(0, .strong), (1, .strong), (2, .strong), (3, .strong), (4, .strong), (5, .strong), (7, .strong), (8, .strong), (12, .strong), (6, .eff true), (9, .eff true), (10, .strong), (11, .strong)], [(0, .strong), (1, .strong), (2, .strong), (3, .strong), (4, .strong), (5, .strong), (7, .strong), (8, .strong), (12, .strong), (9, .eff true), (6, .eff true), (10, .strong), (11, .strong)]), ⟨[(2, .fp (.st (.pair (.int .i64) (.pair (.sl (.st (.pair (.int .i64) (.pair (.int .i64) (.pair (.int .i64) (.pair (.int .i64) (.int .i64))))))) (.pair (.sl (.int .i64)) (.pair (.sl (.int .i64)) (.sl (.int .i64)))))))), (3, .ptr 2 []), (5, .fp (.st (.pair (.int .i64) (.pair (.int .i64) (.pair (.int .i64) (.pair (.int .i64) (.int .i64))))))), (30, .ms 4), (31, .int .i64), (32, .int .i64)], [(0, .var (.ms 1)), (1, .row .bool), (2, .var (.fn 78 (.pair (.ptr 0 []) (.pair (.fp (.st (.pair (.int .i64) (.pair (.sl (.st (.pair (.int .i64) (.pair (.int .i64) (.pair (.int .i64) (.pair (.int .i64) (.int .i64))))))) (.pair (.sl (.int .i64)) (.pair (.sl (.int .i64)) (.sl (.int .i64)))))))) (.pair (.ptr 2 []) .unit))))), (4, .row (.int .i64))], 5, [], 8588886016⟩))] }
def Used178.S : Sig := { f := 78, params := [.int .i64, .ptr 0 [], .fp (.st (.pair (.int .i64) (.pair (.sl (.st (.pair (.int .i64) (.pair (.int .i64) (.pair (.int .i64) (.pair (.int .i64) (.int .i64))))))) (.pair (.sl (.int .i64)) (.pair (.sl (.int .i64)) (.sl (.int .i64))))))), .ptr 2 []], objs := [.var (.ms 1), .row .bool, .var (.fn 78 (.pair (.ptr 0 []) (.pair (.fp (.st (.pair (.int .i64) (.pair (.sl (.st (.pair (.int .i64) (.pair (.int .i64) (.pair (.int .i64) (.pair (.int .i64) (.int .i64))))))) (.pair (.sl (.int .i64)) (.pair (.sl (.int .i64)) (.sl (.int .i64)))))))) (.pair (.ptr 2 []) .unit))))], res := .tup .unit, outs := [.var (.ms 1), .row .bool, .var (.fn 78 (.pair (.ptr 0 []) (.pair (.fp (.st (.pair (.int .i64) (.pair (.sl (.st (.pair (.int .i64) (.pair (.int .i64) (.pair (.int .i64) (.pair (.int .i64) (.int .i64))))))) (.pair (.sl (.int .i64)) (.pair (.sl (.int .i64)) (.sl (.int .i64)))))))) (.pair (.ptr 2 []) .unit))))], fix := [], run := fun k ds os => Used178 k ds.1 ds.2.1 ds.2.2.1 ds.2.2.2 os.1 os.2.1 os.2.2 }
def Used178.G : List Sig := [Used178.S, inputs79.S]
theorem Used178.eq (k : Nat) : ∀ ds os, Used178.S.run (k + 1) ds os = runF ⟨types, Used178.G, Used178.A, k, 0, []⟩ Try.f78 (codeOf Try.f78) Used178.S.params Used178.S.objs Used178.S.res Used178.S.outs ds os := by
  intro ds os; kernel_rfl
theorem Used178.dr : DrOk Try.prog Used178.A (codeOf Try.f78) := ⟨by kernel_rfl, by kernel_rfl⟩
theorem GrpUsed178.ok : ∀ k, SoundAt Try.prog k Used178.S := by
  intro k
  induction k with
  | zero => exact sound_none (fn := Try.f78) (c := codeOf Try.f78) rfl (by kernel_rfl) rfl (fun _ _ => rfl)
  | succ k ih => exact runF_sound (X := ⟨types, Used178.G, Used178.A, k, 0, []⟩) types_ok (mem_all (⟨ih, ⟨inputs79.ok k, trivial⟩⟩)) (fn := Try.f78) (c := codeOf Try.f78) rfl (by kernel_rfl) rfl rfl Used178.dr (Used178.eq k)
theorem Used178.ok (k : Nat) : SoundAt Try.prog k Used178.S := (GrpUsed178.ok k)
end Go.Proofs.Ytjbdhaenakcclaa.Gu

/- Go functions as plain Lean functions, and their contracts. -/
set_option linter.unusedVariables false
set_option maxRecDepth 100000
noncomputable section
namespace Go.Proofs.Ytjbdhaenakcclaa.Gu
open Go Go.Proofs.Ytjbdhaenakcclaa.Gp
def Used29.l0 (k : Nat) (c : (Int × ((List (Int × (Int × (Int × (Int × Int))))) × ((List Int) × ((List Int) × (List Int)))))) : (Unit × (Unit × (Int × ((List Bool) × (Unit × (Unit × ((Int × ((List (Int × (Int × (Int × (Int × Int))))) × ((List Int) × ((List Int) × (List Int))))) × (Unit × Unit)))))))) → Option ((Unit × (Unit × (Int × ((List Bool) × (Unit × (Unit × ((Int × ((List (Int × (Int × (Int × (Int × Int))))) × ((List Int) × ((List Int) × (List Int))))) × (Unit × Unit)))))))) ⊕ (Unit × ((List Bool) × Unit)))
  | (_, _, t25, t20, _, o2) =>
    cond (decide (t25 < (List.length c.2.2.1 : Int)))
      ((rd c.2.2.1 t25).bind fun t27 =>
      (Used178 k t27 o2.1 o2.2.1 o2.2.2.1 () t20 (o2.1, o2.2)).bind fun t31 =>
      some (Sum.inl ((), (), (w64 (t25 + 1)), t31.2.2.1, (), t31.2.2.2.1, t31.2.2.2.2)))
      (some (Sum.inr ((), t20, ())))
def Used29.l1 (k : Nat) (t20_1 : (List Bool)) : (Unit × (Unit × (Int × ((List Bool) × (List Int))))) → Option ((Unit × (Unit × (Int × ((List Bool) × (List Int))))) ⊕ (Unit × (List Int)))
  | (_, _, t35, t20_2, o2_1) =>
    cond (decide (t35 < (List.length t20_1 : Int)))
      ((rd t20_2 t35).bind fun _ =>
      (rd t20_2 t35).bind fun t39 =>
      Option.bind
        (cond t39
          ((if room (List.length o2_1 + List.length ([t35] : List Int)) 8 then some () else none).bind fun _ =>
          some ((), (), t20_2, (o2_1 ++ ([t35] : List Int))))
          (some ((), (), t20_2, o2_1)) : Option (Unit × (Unit × ((List Bool) × (List Int))))) fun ((_, _, t20_3, o2_2) : (Unit × (Unit × ((List Bool) × (List Int))))) =>
      some (Sum.inl ((), (), (w64 (t35 + 1)), t20_3, o2_2)))
      (some (Sum.inr ((), o2_1)))
def Used29 (k : Nat) (c : (Int × ((List (Int × (Int × (Int × (Int × Int))))) × ((List Int) × ((List Int) × (List Int)))))) : Option (((List Int) × (Int × Unit)) × Unit) :=
  (Check18 k c).bind fun t13 =>
  cond (t13.1 != 0)
    (some (([], t13.1, ()), ()))
    ((if 0 ≤ (List.length c.2.1 : Int) ∧ (List.length c.2.1 : Int) ≤ (List.length c.2.1 : Int) ∧ (List.length c.2.1 : Int) * 1 ≤ 140737488355328 then some () else none).bind fun _ =>
    Option.bind
      (loopN (Used29.l0 k c) k ((), (), 0, (List.replicate (Int.toNat (List.length c.2.1 : Int)) false), (), (), c, (), ()) : Option (Unit × ((List Bool) × Unit))) fun ((_, t20_1, _) : (Unit × ((List Bool) × Unit))) =>
    Option.bind
      (loopN (Used29.l1 k t20_1) k ((), (), 0, t20_1, []) : Option (Unit × (List Int))) fun ((_, o2_3) : (Unit × (List Int))) =>
    some ((o2_3, 0, ()), ()))
def Used29.A : Ann := { conds := [(2621457, ⟨[(9, .ms 2), (33, .ms 0)], [(0, .row .bool), (2, .row (.int .i64))], 3, [(2, .int .i64)], 32985348833792⟩)], blocks := [(0, ⟨[(5, .ptr 1 [])], [(0, .row .bool), (1, .var (.ms 0))], 2, [], 8556380416⟩), (2, ⟨[(9, .ms 2)], [(2, .row (.int .i64))], 3, [], 70334384442880⟩)], loops := [(8, ⟨[(5, .ptr 1 []), (6, .ptr 2 []), (25, .int .i64)], [(0, .row .bool), (1, .var (.ms 0)), (2, .var (.fn 78 (.pair (.ptr 1 []) (.pair (.fp (.st (.pair (.int .i64) (.pair (.sl (.st (.pair (.int .i64) (.pair (.int .i64) (.pair (.int .i64) (.pair (.int .i64) (.int .i64))))))) (.pair (.sl (.int .i64)) (.pair (.sl (.int .i64)) (.sl (.int .i64)))))))) (.pair (.ptr 2 []) .unit)))))], 3, [], 8556380416⟩), (14, ⟨[(9, .ms 2), (33, .ms 0), (35, .int .i64)], [(0, .row .bool), (2, .row (.int .i64))], 3, [(2, .int .i64)], 70334384442880⟩)], keeps := [1], orders := [] }
def Used29.S : Sig := { f := 29, params := [.st (.pair (.int .i64) (.pair (.sl (.st (.pair (.int .i64) (.pair (.int .i64) (.pair (.int .i64) (.pair (.int .i64) (.int .i64))))))) (.pair (.sl (.int .i64)) (.pair (.sl (.int .i64)) (.sl (.int .i64))))))], objs := [], res := .tup (.pair (.sl (.int .i64)) (.pair (.int .i64) .unit)), outs := [], fix := [], run := fun k ds os => Used29 k ds }
def Used29.G : List Sig := [Check18.S, Used178.S]
theorem Used29.eq (k : Nat) : ∀ ds os, Used29.S.run k ds os = runF ⟨types, Used29.G, Used29.A, k, 0, []⟩ Try.f29 (codeOf Try.f29) Used29.S.params Used29.S.objs Used29.S.res Used29.S.outs ds os := by
  intro ds os; kernel_rfl
theorem Used29.dr : DrOk Try.prog Used29.A (codeOf Try.f29) := ⟨by kernel_rfl, by kernel_rfl⟩
theorem Used29.ok (k : Nat) : SoundAt Try.prog k Used29.S :=
  runF_sound (X := ⟨types, Used29.G, Used29.A, k, 0, []⟩) types_ok (mem_all (⟨Check18.ok k, ⟨Used178.ok k, trivial⟩⟩)) (fn := Try.f29) (c := codeOf Try.f29) rfl (by kernel_rfl) rfl rfl Used29.dr (Used29.eq k)

def Depth30.l0 (k : Nat) (t22 : Int) (t38 : Int) : (Unit × (Unit × (Int × ((List Int) × (List Int))))) → Option ((Unit × (Unit × (Int × ((List Int) × (List Int))))) ⊕ (Unit × (List Int)))
  | (_, _, t39_1, t18_2, o2_1) =>
    cond (decide (t39_1 < t38))
      ((rd o2_1 t39_1).bind fun _ =>
      (rd o2_1 t39_1).bind fun t42 =>
      (rd t18_2 t22).bind fun _ =>
      (rd t18_2 t22).bind fun t48 =>
      (rd t18_2 t42).bind fun _ =>
      (rd t18_2 t42).bind fun t52 =>
      (rd t18_2 t22).bind fun _ =>
      (rd t18_2 t22).bind fun _ =>
      some (Sum.inl ((), (), (w64 (t39_1 + 1)), (List.set t18_2 (Int.toNat t22) (mxI t48 (w64 (t52 + 1)))), o2_1)))
      (some (Sum.inr ((), t18_2)))
def Depth30.l1 (k : Nat) (c : (Int × ((List (Int × (Int × (Int × (Int × Int))))) × ((List Int) × ((List Int) × (List Int)))))) : (Unit × (Int × (List Int))) → Option ((Unit × (Int × (List Int))) ⊕ (Unit × (List Int)))
  | (_, t22, t18) =>
    cond (decide (t22 < (List.length c.2.1 : Int)))
      ((rd c.2.1 t22).bind fun t25 =>
      Option.bind
        (agree
          ((inputs79 k t25.1).bind fun t36 =>
          (slc ([t25.2.1, t25.2.2.1, t25.2.2.2.1] : List Int) 0 t36.1).bind fun t37 =>
          some ((), (), (List.length t37 : Int), 0, t18, t37))
          ((inputs79 k t25.1).bind fun t36_1 =>
          (slc ([t25.2.1, t25.2.2.1, t25.2.2.2.1] : List Int) 0 t36_1.1).bind fun t37_1 =>
          some ((), (), (List.length t37_1 : Int), 0, t18, t37_1)) : Option (Unit × (Unit × (Int × (Int × ((List Int) × (List Int))))))) fun ((_, _, t38, t39, t18_1, o2) : (Unit × (Unit × (Int × (Int × ((List Int) × (List Int))))))) =>
      Option.bind
        (loopN (Depth30.l0 k t22 t38) k ((), (), t39, t18_1, o2) : Option (Unit × (List Int))) fun ((_, t18_4) : (Unit × (List Int))) =>
      some (Sum.inl ((), (w64 (t22 + 1)), t18_4)))
      (some (Sum.inr ((), t18)))
def Depth30 (k : Nat) (c : (Int × ((List (Int × (Int × (Int × (Int × Int))))) × ((List Int) × ((List Int) × (List Int)))))) : Option (((List Int) × (Int × Unit)) × Unit) :=
  (Check18 k c).bind fun t11 =>
  cond (t11.1 != 0)
    (some (([], t11.1, ()), ()))
    ((if 0 ≤ (List.length c.2.1 : Int) ∧ (List.length c.2.1 : Int) ≤ (List.length c.2.1 : Int) ∧ (List.length c.2.1 : Int) * 8 ≤ 140737488355328 then some () else none).bind fun _ =>
    Option.bind
      (loopN (Depth30.l1 k c) k ((), 0, (List.replicate (Int.toNat (List.length c.2.1 : Int)) 0)) : Option (Unit × (List Int))) fun ((_, t18_5) : (Unit × (List Int))) =>
    some ((t18_5, 0, ()), ()))
def Depth30.A : Ann := { conds := [], blocks := [(0, ⟨[(5, .ms 0)], [(0, .row (.int .i64))], 1, [], 288230376147518144⟩), (2, ⟨[(5, .ms 0)], [(0, .row (.int .i64))], 1, [], 144114638320042496⟩)], loops := [(6, ⟨[(5, .ms 0), (22, .int .i64)], [(0, .row (.int .i64))], 1, [], 288230376147518144⟩), (9, ⟨[(5, .ms 0), (37, .ms 2), (39, .int .i64)], [(0, .row (.int .i64)), (2, .row (.int .i64))], 3, [], 144114638320042496⟩)], keeps := [1, 7], orders := [(11, [(0, .strong), (1, .strong), (2, .strong), (3, .strong), (4, .strong), (5, .strong), (6, .strong), (7, .strong), (8, .strong), (9, .strong), (10, .strong), (11, .strong), (12, .strong), (13, .eff false)])], alts := [(8, (([(0, .strong), (1, .strong), (2, .strong), (3, .strong), (4, .strong), (5, .strong), (7, .strong), (8, .strong), (12, .strong), (6, .eff true), (9, .eff true), (10, .strong), (11, .strong)], [(0, .strong), (1, .strong), (2, .strong), (3, .strong), (4, .strong), (5, .strong), (7, .strong), (8, .strong), (12, .strong), (9, .eff true), (6, .eff true), (10, .strong), (11, .strong)]), ⟨[(5, .ms 0), (37, .ms 2), (38, .int .i64), (39, .int .i64)], [(0, .row (.int .i64)), (2, .row (.int .i64))], 3, [], 1099377410048⟩))] }
def Depth30.S : Sig := { f := 30, params := [.st (.pair (.int .i64) (.pair (.sl (.st (.pair (.int .i64) (.pair (.int .i64) (.pair (.int .i64) (.pair (.int .i64) (.int .i64))))))) (.pair (.sl (.int .i64)) (.pair (.sl (.int .i64)) (.sl (.int .i64))))))], objs := [], res := .tup (.pair (.sl (.int .i64)) (.pair (.int .i64) .unit)), outs := [], fix := [], run := fun k ds os => Depth30 k ds }
def Depth30.G : List Sig := [Check18.S, inputs79.S]
theorem Depth30.eq (k : Nat) : ∀ ds os, Depth30.S.run k ds os = runF ⟨types, Depth30.G, Depth30.A, k, 0, []⟩ Try.f30 (codeOf Try.f30) Depth30.S.params Depth30.S.objs Depth30.S.res Depth30.S.outs ds os := by
  intro ds os; kernel_rfl
theorem Depth30.dr : DrOk Try.prog Depth30.A (codeOf Try.f30) := ⟨by kernel_rfl, by kernel_rfl⟩
theorem Depth30.ok (k : Nat) : SoundAt Try.prog k Depth30.S :=
  runF_sound (X := ⟨types, Depth30.G, Depth30.A, k, 0, []⟩) types_ok (mem_all (⟨Check18.ok k, ⟨inputs79.ok k, trivial⟩⟩)) (fn := Try.f30) (c := codeOf Try.f30) rfl (by kernel_rfl) rfl rfl Depth30.dr (Depth30.eq k)

def Start80.l0 (k : Nat) (t12 : (List Int)) : (Int × Int) → Option ((Int × Int) ⊕ Int)
  | (out, t14) =>
    cond (decide (t14 < (List.length t12 : Int)))
      ((rd t12 t14).bind fun t17 =>
      (if t14 < 0 then none else some (shlI .i64 (ibits .and .i64 t17 1) t14)).bind fun t23 =>
      some (Sum.inl ((ibits .or .i64 out t23), (w64 (t14 + 1)))))
      (some (Sum.inr out))
def Start80 (k : Nat) (c : (Int × ((List (Int × (Int × (Int × (Int × Int))))) × ((List Int) × ((List Int) × (List Int)))))) : Option (Int × Unit) :=
  (slc c.2.2.2.2 0 (mnI (List.length c.2.2.2.2 : Int) 10)).bind fun t12 =>
  Option.bind
    (loopN (Start80.l0 k t12) k (0, 0) : Option Int) fun (out_1 : Int) =>
  some (out_1, ())
def Start80.A : Ann := { conds := [], blocks := [(0, ⟨[(3, .int .i64)], [], 0, [], 67092536⟩)], loops := [(3, ⟨[(3, .int .i64), (14, .int .i64)], [], 0, [], 67092536⟩)], keeps := [1], orders := [] }
def Start80.S : Sig := { f := 80, params := [.st (.pair (.int .i64) (.pair (.sl (.st (.pair (.int .i64) (.pair (.int .i64) (.pair (.int .i64) (.pair (.int .i64) (.int .i64))))))) (.pair (.sl (.int .i64)) (.pair (.sl (.int .i64)) (.sl (.int .i64))))))], objs := [], res := .int .i64, outs := [], fix := [], run := fun k ds os => Start80 k ds }
def Start80.G : List Sig := []
theorem Start80.eq (k : Nat) : ∀ ds os, Start80.S.run k ds os = runF ⟨types, Start80.G, Start80.A, k, 0, []⟩ Try.f80 (codeOf Try.f80) Start80.S.params Start80.S.objs Start80.S.res Start80.S.outs ds os := by
  intro ds os; kernel_rfl
theorem Start80.dr : DrOk Try.prog Start80.A (codeOf Try.f80) := ⟨by kernel_rfl, by kernel_rfl⟩
theorem Start80.ok (k : Nat) : SoundAt Try.prog k Start80.S :=
  runF_sound (X := ⟨types, Start80.G, Start80.A, k, 0, []⟩) types_ok (fun s hs => absurd hs List.not_mem_nil) (fn := Try.f80) (c := codeOf Try.f80) rfl (by kernel_rfl) rfl rfl Start80.dr (Start80.eq k)
end Go.Proofs.Ytjbdhaenakcclaa.Gu

/- Go functions as plain Lean functions, and their contracts. -/
set_option linter.unusedVariables false
set_option maxRecDepth 100000
noncomputable section
namespace Go.Proofs.Ytjbdhaenakcclaa.Gu
open Go Go.Proofs.Ytjbdhaenakcclaa.Gp
def values69.l0 (k : Nat) (c : (Int × ((List (Int × (Int × (Int × (Int × Int))))) × ((List Int) × ((List Int) × (List Int)))))) (state : Int) (in_ : Int) : (Unit × (Int × (List Int))) → Option ((Unit × (Int × (List Int))) ⊕ (Unit × (List Int)))
  | (_, t17, t13) =>
    cond (decide (t17 < (List.length c.2.1 : Int)))
      ((rd c.2.1 t17).bind fun t20 =>
      Option.bind
        (cond (t20.1 == 0)
          ((rd t13 t17).bind fun _ =>
          (rd t13 t17).bind fun _ =>
          some ((), (List.set t13 (Int.toNat t17) t20.2.2.2.2)))
          (Option.bind
            (cond (t20.1 == 1)
              ((if t20.2.2.2.2 < 0 then none else some (shrI .i64 in_ t20.2.2.2.2)).bind fun t38 =>
              (rd t13 t17).bind fun _ =>
              (rd t13 t17).bind fun _ =>
              some ((), (List.set t13 (Int.toNat t17) (ibits .and .i64 t38 1))))
              (Option.bind
                (cond (t20.1 == 2)
                  ((if t20.2.2.2.2 < 0 then none else some (shrI .i64 state t20.2.2.2.2)).bind fun t48 =>
                  (rd t13 t17).bind fun _ =>
                  (rd t13 t17).bind fun _ =>
                  some ((), (List.set t13 (Int.toNat t17) (ibits .and .i64 t48 1))))
                  (Option.bind
                    (cond (t20.1 == 3)
                      ((rd t13 t20.2.1).bind fun _ =>
                      (rd t13 t20.2.1).bind fun t59 =>
                      (rd t13 t17).bind fun _ =>
                      (rd t13 t17).bind fun _ =>
                      some ((), (List.set t13 (Int.toNat t17) (w64 (1 - t59)))))
                      (Option.bind
                        (cond (t20.1 == 4)
                          ((rd t13 t20.2.1).bind fun _ =>
                          (rd t13 t20.2.1).bind fun t70 =>
                          (rd t13 t20.2.2.1).bind fun _ =>
                          (rd t13 t20.2.2.1).bind fun t75 =>
                          (rd t13 t17).bind fun _ =>
                          (rd t13 t17).bind fun _ =>
                          some ((), (List.set t13 (Int.toNat t17) (ibits .and .i64 t70 t75))))
                          (Option.bind
                            (cond (t20.1 == 5)
                              ((rd t13 t20.2.1).bind fun _ =>
                              (rd t13 t20.2.1).bind fun t86 =>
                              (rd t13 t20.2.2.1).bind fun _ =>
                              (rd t13 t20.2.2.1).bind fun t91 =>
                              (rd t13 t17).bind fun _ =>
                              (rd t13 t17).bind fun _ =>
                              some ((), (List.set t13 (Int.toNat t17) (ibits .or .i64 t86 t91))))
                              (Option.bind
                                (cond (t20.1 == 6)
                                  ((rd t13 t20.2.1).bind fun _ =>
                                  (rd t13 t20.2.1).bind fun t102 =>
                                  (rd t13 t20.2.2.1).bind fun _ =>
                                  (rd t13 t20.2.2.1).bind fun t107 =>
                                  (rd t13 t17).bind fun _ =>
                                  (rd t13 t17).bind fun _ =>
                                  some ((), (List.set t13 (Int.toNat t17) (ibits .xor .i64 t102 t107))))
                                  (Option.bind
                                    (cond (t20.1 == 7)
                                      ((rd t13 t20.2.2.2.1).bind fun _ =>
                                      (rd t13 t20.2.2.2.1).bind fun t118 =>
                                      (rd t13 t17).bind fun _ =>
                                      (rd t13 t17).bind fun _ =>
                                      let t13_8 : (List Int) := (List.set t13 (Int.toNat t17) t118)
                                      (rd t13_8 t20.2.1).bind fun _ =>
                                      (rd t13_8 t20.2.1).bind fun t124 =>
                                      Option.bind
                                        (cond (t124 == 1)
                                          ((rd t13_8 t20.2.2.1).bind fun _ =>
                                          (rd t13_8 t20.2.2.1).bind fun t132 =>
                                          (rd t13_8 t17).bind fun _ =>
                                          (rd t13_8 t17).bind fun _ =>
                                          some ((), (List.set t13_8 (Int.toNat t17) t132)))
                                          (some ((), t13_8)) : Option (Unit × (List Int))) fun ((_, t13_10) : (Unit × (List Int))) =>
                                      some ((), t13_10))
                                      (some ((), t13)) : Option (Unit × (List Int))) fun ((_, t13_11) : (Unit × (List Int))) =>
                                  some ((), t13_11)) : Option (Unit × (List Int))) fun ((_, t13_12) : (Unit × (List Int))) =>
                              some ((), t13_12)) : Option (Unit × (List Int))) fun ((_, t13_13) : (Unit × (List Int))) =>
                          some ((), t13_13)) : Option (Unit × (List Int))) fun ((_, t13_14) : (Unit × (List Int))) =>
                      some ((), t13_14)) : Option (Unit × (List Int))) fun ((_, t13_15) : (Unit × (List Int))) =>
                  some ((), t13_15)) : Option (Unit × (List Int))) fun ((_, t13_16) : (Unit × (List Int))) =>
              some ((), t13_16)) : Option (Unit × (List Int))) fun ((_, t13_17) : (Unit × (List Int))) =>
          some ((), t13_17)) : Option (Unit × (List Int))) fun ((_, t13_18) : (Unit × (List Int))) =>
      some (Sum.inl ((), (w64 (t17 + 1)), t13_18)))
      (some (Sum.inr ((), t13)))
def values69 (k : Nat) (c : (Int × ((List (Int × (Int × (Int × (Int × Int))))) × ((List Int) × ((List Int) × (List Int)))))) (state : Int) (in_ : Int) : Option ((List Int) × Unit) :=
  (if 0 ≤ (List.length c.2.1 : Int) ∧ (List.length c.2.1 : Int) ≤ (List.length c.2.1 : Int) ∧ (List.length c.2.1 : Int) * 8 ≤ 140737488355328 then some () else none).bind fun _ =>
  Option.bind
    (loopN (values69.l0 k c state in_) k ((), 0, (List.replicate (Int.toNat (List.length c.2.1 : Int)) 0)) : Option (Unit × (List Int))) fun ((_, t13_19) : (Unit × (List Int))) =>
  some (t13_19, ())
def values69.A : Ann := { conds := [(1572871, ⟨[(7, .ms 0)], [(0, .row (.int .i64))], 1, [], 21778071482940061661655974875633098424320⟩), (2031625, ⟨[(7, .ms 0)], [(0, .row (.int .i64))], 1, [], 21778071482940061661655974875624575598592⟩), (2686987, ⟨[(7, .ms 0)], [(0, .row (.int .i64))], 1, [], 21778071482940061661655974866837072510976⟩), (3342349, ⟨[(7, .ms 0)], [(0, .row (.int .i64))], 1, [], 21778071482940061661655965868433910792192⟩), (4063247, ⟨[(7, .ms 0)], [(0, .row (.int .i64))], 1, [], 21778071482940061661637528131559455981568⟩), (5111825, ⟨[(7, .ms 0)], [(0, .row (.int .i64))], 1, [], 21778071482940060452730155261003990827008⟩), (6160403, ⟨[(7, .ms 0)], [(0, .row (.int .i64))], 1, [], 21778071482860833499141710538039621582848⟩), (7208981, ⟨[(7, .ms 0)], [(0, .row (.int .i64))], 1, [], 21778066290643203126828346345136836313088⟩), (8192023, ⟨[(7, .ms 0)], [(0, .row (.int .i64))], 1, [], 21693000891209827045790131223775223480320⟩)], blocks := [(0, ⟨[(7, .ms 0)], [(0, .row (.int .i64))], 1, [], 43556142965880123323311949751266330936064⟩)], loops := [(3, ⟨[(7, .ms 0), (17, .int .i64)], [(0, .row (.int .i64))], 1, [], 43556142965880123323311949751266330936064⟩)], keeps := [3, 9], orders := [(15, [(0, .strong), (1, .strong), (2, .strong), (3, .strong), (4, .strong), (5, .strong), (6, .strong), (7, .strong), (8, .strong), (9, .strong), (10, .strong), (11, .strong), (12, .strong), (13, .strong), (14, .eff false)]), (17, [(0, .strong), (1, .strong), (2, .strong), (3, .strong), (4, .strong), (5, .strong), (6, .strong), (7, .strong), (8, .strong), (9, .strong), (10, .strong), (11, .strong), (12, .strong), (13, .strong), (14, .eff false)]), (19, [(0, .strong), (1, .strong), (2, .strong), (3, .strong), (4, .strong), (5, .strong), (6, .strong), (7, .strong), (8, .strong), (9, .strong), (10, .strong), (11, .strong), (12, .strong), (13, .strong), (14, .eff false)])] }
def values69.S : Sig := { f := 69, params := [.st (.pair (.int .i64) (.pair (.sl (.st (.pair (.int .i64) (.pair (.int .i64) (.pair (.int .i64) (.pair (.int .i64) (.int .i64))))))) (.pair (.sl (.int .i64)) (.pair (.sl (.int .i64)) (.sl (.int .i64)))))), .int .i64, .int .i64], objs := [], res := .sl (.int .i64), outs := [], fix := [], run := fun k ds os => values69 k ds.1 ds.2.1 ds.2.2 }
def values69.G : List Sig := []
theorem values69.eq (k : Nat) : ∀ ds os, values69.S.run k ds os = runF ⟨types, values69.G, values69.A, k, 0, []⟩ Try.f69 (codeOf Try.f69) values69.S.params values69.S.objs values69.S.res values69.S.outs ds os := by
  intro ds os; kernel_rfl
theorem values69.dr : DrOk Try.prog values69.A (codeOf Try.f69) := ⟨by kernel_rfl, by kernel_rfl⟩
theorem values69.ok (k : Nat) : SoundAt Try.prog k values69.S :=
  runF_sound (X := ⟨types, values69.G, values69.A, k, 0, []⟩) types_ok (fun s hs => absurd hs List.not_mem_nil) (fn := Try.f69) (c := codeOf Try.f69) rfl (by kernel_rfl) rfl rfl values69.dr (values69.eq k)

def bits70.l0 (k : Nat) (v : (List Int)) (l : (List Int)) : (Int × Int) → Option ((Int × Int) ⊕ Int)
  | (out, t10) =>
    cond (decide (t10 < (List.length l : Int)))
      ((rd l t10).bind fun t13 =>
      (rd v t13).bind fun t18 =>
      (if t10 < 0 then none else some (shlI .i64 t18 t10)).bind fun t21 =>
      some (Sum.inl ((ibits .or .i64 out t21), (w64 (t10 + 1)))))
      (some (Sum.inr out))
def bits70 (k : Nat) (v : (List Int)) (l : (List Int)) : Option (Int × Unit) :=
  Option.bind
    (loopN (bits70.l0 k v l) k (0, 0) : Option Int) fun (out_1 : Int) =>
  some (out_1, ())
def bits70.A : Ann := { conds := [], blocks := [(0, ⟨[(5, .int .i64)], [], 0, [], 16776416⟩)], loops := [(3, ⟨[(5, .int .i64), (10, .int .i64)], [], 0, [], 16776416⟩)], keeps := [], orders := [] }
def bits70.S : Sig := { f := 70, params := [.sl (.int .i64), .sl (.int .i64)], objs := [], res := .int .i64, outs := [], fix := [], run := fun k ds os => bits70 k ds.1 ds.2 }
def bits70.G : List Sig := []
theorem bits70.eq (k : Nat) : ∀ ds os, bits70.S.run k ds os = runF ⟨types, bits70.G, bits70.A, k, 0, []⟩ Try.f70 (codeOf Try.f70) bits70.S.params bits70.S.objs bits70.S.res bits70.S.outs ds os := by
  intro ds os; kernel_rfl
theorem bits70.dr : DrOk Try.prog bits70.A (codeOf Try.f70) := ⟨by kernel_rfl, by kernel_rfl⟩
theorem bits70.ok (k : Nat) : SoundAt Try.prog k bits70.S :=
  runF_sound (X := ⟨types, bits70.G, bits70.A, k, 0, []⟩) types_ok (fun s hs => absurd hs List.not_mem_nil) (fn := Try.f70) (c := codeOf Try.f70) rfl (by kernel_rfl) rfl rfl bits70.dr (bits70.eq k)

def Run71.l0 (k : Nat) (in_ : (List Int)) : ((Int × ((List (Int × (Int × (Int × (Int × Int))))) × ((List Int) × ((List Int) × (List Int))))) × (Unit × (Int × (Int × (List Int))))) → Option (((Int × ((List (Int × (Int × (Int × (Int × Int))))) × ((List Int) × ((List Int) × (List Int))))) × (Unit × (Int × (Int × (List Int))))) ⊕ ((Unit × (List Int)) ⊕ (((List Int) × (Int × Unit)) × Unit)))
  | (c_1, _, s, t21, o1) =>
    cond (decide (t21 < (List.length in_ : Int)))
      ((rd in_ t21).bind fun t23 =>
      Option.bind (cond (decide (t23 < 0))
        (some true)
        ((if c_1.1 < 0 then none else some (shlI .i64 1 c_1.1)).bind fun t31 =>
        some (decide (t23 ≥ t31)))) fun t33 =>
      cond t33
        (some (Sum.inr (Sum.inr (([], 1, ()), ()))))
        ((values69 k c_1 s t23).bind fun t37 =>
        (bits70 k t37.1 c_1.2.2.1).bind fun t42 =>
        (if room (List.length o1 + List.length ([t42.1] : List Int)) 8 then some () else none).bind fun _ =>
        (bits70 k t37.1 c_1.2.2.2.1).bind fun t48 =>
        some (Sum.inl (c_1, (), t48.1, (w64 (t21 + 1)), (o1 ++ ([t42.1] : List Int))))))
      (some (Sum.inr (Sum.inl ((), o1))))
def Run71 (k : Nat) (c : (Int × ((List (Int × (Int × (Int × (Int × Int))))) × ((List Int) × ((List Int) × (List Int)))))) (in_ : (List Int)) : Option (((List Int) × (Int × Unit)) × Unit) :=
  (Check18 k c).bind fun t13 =>
  cond (t13.1 != 0)
    (some (([], t13.1, ()), ()))
    ((Start80 k c).bind fun t18 =>
    Option.bind
      (loopN (Run71.l0 k in_) k (c, (), t18.1, 0, []) : Option ((Unit × (List Int)) ⊕ (((List Int) × (Int × Unit)) × Unit))) (joined fun ((_, o1_1) : (Unit × (List Int))) =>
      some ((o1_1, 0, ()), ())))
def Run71.A : Ann := { conds := [], blocks := [(0, ⟨[(7, .ms 1)], [(1, .row (.int .i64))], 2, [], 1125899904748976⟩)], loops := [(7, ⟨[(2, .fp (.st (.pair (.int .i64) (.pair (.sl (.st (.pair (.int .i64) (.pair (.int .i64) (.pair (.int .i64) (.pair (.int .i64) (.int .i64))))))) (.pair (.sl (.int .i64)) (.pair (.sl (.int .i64)) (.sl (.int .i64)))))))), (7, .ms 1), (8, .int .i64), (21, .int .i64)], [(1, .row (.int .i64))], 2, [(1, .int .i64)], 1125899904748976⟩)], keeps := [2], orders := [(12, [(0, .strong), (1, .strong), (2, .strong), (3, .strong), (7, .weak), (8, .weak), (9, .weak), (4, .eff true), (5, .eff true), (6, .eff false), (10, .eff true), (11, .strong), (12, .strong)])] }
def Run71.S : Sig := { f := 71, params := [.st (.pair (.int .i64) (.pair (.sl (.st (.pair (.int .i64) (.pair (.int .i64) (.pair (.int .i64) (.pair (.int .i64) (.int .i64))))))) (.pair (.sl (.int .i64)) (.pair (.sl (.int .i64)) (.sl (.int .i64)))))), .sl (.int .i64)], objs := [], res := .tup (.pair (.sl (.int .i64)) (.pair (.int .i64) .unit)), outs := [], fix := [], run := fun k ds os => Run71 k ds.1 ds.2 }
def Run71.G : List Sig := [Check18.S, Start80.S, bits70.S, values69.S]
theorem Run71.eq (k : Nat) : ∀ ds os, Run71.S.run k ds os = runF ⟨types, Run71.G, Run71.A, k, 0, []⟩ Try.f71 (codeOf Try.f71) Run71.S.params Run71.S.objs Run71.S.res Run71.S.outs ds os := by
  intro ds os; kernel_rfl
theorem Run71.dr : DrOk Try.prog Run71.A (codeOf Try.f71) := ⟨by kernel_rfl, by kernel_rfl⟩
theorem Run71.ok (k : Nat) : SoundAt Try.prog k Run71.S :=
  runF_sound (X := ⟨types, Run71.G, Run71.A, k, 0, []⟩) types_ok (mem_all (⟨Check18.ok k, ⟨Start80.ok k, ⟨bits70.ok k, ⟨values69.ok k, trivial⟩⟩⟩⟩)) (fn := Try.f71) (c := codeOf Try.f71) rfl (by kernel_rfl) rfl rfl Run71.dr (Run71.eq k)
end Go.Proofs.Ytjbdhaenakcclaa.Gu

/- Go functions as plain Lean functions, and their contracts. -/
set_option linter.unusedVariables false
set_option maxRecDepth 100000
noncomputable section
namespace Go.Proofs.Ytjbdhaenakcclaa.Gu
open Go Go.Proofs.Ytjbdhaenakcclaa.Gp
def Equal25.l0 (k : Nat) (s1 : (List Int)) (s2 : (List Int)) : Int → Option (Int ⊕ (Unit ⊕ (Bool × Unit)))
  | t13 =>
    cond (decide (t13 < (List.length s1 : Int)))
      ((rd s1 t13).bind fun t18 =>
      (rd s2 t13).bind fun t22 =>
      cond (t18 != t22)
        (some (Sum.inr (Sum.inr (false, ()))))
        (some (Sum.inl (w64 (t13 + 1)))))
      (some (Sum.inr (Sum.inl ())))
def Equal25 (k : Nat) (s1 : (List Int)) (s2 : (List Int)) : Option (Bool × Unit) :=
  cond ((List.length s1 : Int) != (List.length s2 : Int))
    (some (false, ()))
    (Option.bind
      (loopN (Equal25.l0 k s1 s2) k 0 : Option (Unit ⊕ (Bool × Unit))) (joined fun (_ : Unit) =>
      some (true, ())))
def Equal25.A : Ann := { conds := [], blocks := [(0, ⟨[], [], 0, [], 67100720⟩)], loops := [(4, ⟨[(13, .int .i64)], [], 0, [], 67100720⟩)], keeps := [], orders := [(6, [(0, .strong), (1, .strong), (2, .strong), (3, .strong), (4, .strong), (5, .strong), (6, .strong), (7, .strong), (8, .strong)])] }
def Equal25.S : Sig := { f := 25, params := [.sl (.int .i64), .sl (.int .i64)], objs := [], res := .bool, outs := [], fix := [], run := fun k ds os => Equal25 k ds.1 ds.2 }
def Equal25.G : List Sig := []
theorem Equal25.eq (k : Nat) : ∀ ds os, Equal25.S.run k ds os = runF ⟨types, Equal25.G, Equal25.A, k, 0, []⟩ Try.f25 (codeOf Try.f25) Equal25.S.params Equal25.S.objs Equal25.S.res Equal25.S.outs ds os := by
  intro ds os; kernel_rfl
theorem Equal25.dr : DrOk Try.prog Equal25.A (codeOf Try.f25) := ⟨by kernel_rfl, by kernel_rfl⟩
theorem Equal25.ok (k : Nat) : SoundAt Try.prog k Equal25.S :=
  runF_sound (X := ⟨types, Equal25.G, Equal25.A, k, 0, []⟩) types_ok (fun s hs => absurd hs List.not_mem_nil) (fn := Try.f25) (c := codeOf Try.f25) rfl (by kernel_rfl) rfl rfl Equal25.dr (Equal25.eq k)

def gated17 (k : Nat) : Option (Bool × Unit) :=
  (Run71 k (0, [(2, 0, 0, 0, 0), (3, 0, 0, 0, 0)], ([0] : List Int), ([1] : List Int), ([0] : List Int)) ([0, 0, 0] : List Int)).bind fun t14 =>
  Option.bind (cond (t14.1.2.1 == 0)
    ((Equal25 k t14.1.1 ([0, 1, 0] : List Int)).bind fun t22 =>
    some t22.1)
    (some false)) fun t23 =>
  some (t23, ())
def gated17.A : Ann := { conds := [], blocks := [], loops := [], keeps := [], orders := [] }
def gated17.S : Sig := { f := 17, params := [], objs := [], res := .bool, outs := [], fix := [], run := fun k ds os => gated17 k }
def gated17.G : List Sig := [Equal25.S, Run71.S]
theorem gated17.eq (k : Nat) : ∀ ds os, gated17.S.run k ds os = runF ⟨types, gated17.G, gated17.A, k, 0, []⟩ Try.f17 (codeOf Try.f17) gated17.S.params gated17.S.objs gated17.S.res gated17.S.outs ds os := by
  intro ds os; kernel_rfl
theorem gated17.dr : DrOk Try.prog gated17.A (codeOf Try.f17) := ⟨by kernel_rfl, by kernel_rfl⟩
theorem gated17.ok (k : Nat) : SoundAt Try.prog k gated17.S :=
  runF_sound (X := ⟨types, gated17.G, gated17.A, k, 0, []⟩) types_ok (mem_all (⟨Equal25.ok k, ⟨Run71.ok k, trivial⟩⟩)) (fn := Try.f17) (c := codeOf Try.f17) rfl (by kernel_rfl) rfl rfl gated17.dr (gated17.eq k)

def Hang31.l0 (k : Nat) (c : (Int × ((List (Int × (Int × (Int × (Int × Int))))) × ((List Int) × ((List Int) × (List Int)))))) : ((Int × ((List (Int × (Int × (Int × (Int × Int))))) × ((List Int) × ((List Int) × (List Int))))) × (Unit × (Int × (List (Int × Bool))))) → Option (((Int × ((List (Int × (Int × (Int × (Int × Int))))) × ((List Int) × ((List Int) × (List Int))))) × (Unit × (Int × (List (Int × Bool))))) ⊕ ((Int × ((List (Int × (Int × (Int × (Int × Int))))) × ((List Int) × ((List Int) × (List Int))))) × (Unit × (List (Int × Bool)))))
  | (c_1, _, t15, o0) =>
    cond (decide (t15 < (List.length c.2.2.1 : Int)))
      ((rd c.2.2.1 t15).bind fun t17 =>
      some (Sum.inl (c_1, (), (w64 (t15 + 1)), (mput (.int .i64) .bool o0 t17 true))))
      (some (Sum.inr (c_1, (), o0)))
def Hang31.l1 (k : Nat) : ((Int × ((List (Int × (Int × (Int × (Int × Int))))) × ((List Int) × ((List Int) × (List Int))))) × (Unit × (Int × (List (Int × Bool))))) → Option (((Int × ((List (Int × (Int × (Int × (Int × Int))))) × ((List Int) × ((List Int) × (List Int))))) × (Unit × (Int × (List (Int × Bool))))) ⊕ ((Int × ((List (Int × (Int × (Int × (Int × Int))))) × ((List Int) × ((List Int) × (List Int))))) × (Unit × (List (Int × Bool)))))
  | (c_4, _, k_, o0_3) =>
    cond (decide (k_ ≥ 0))
      (Option.bind
        (cond (!(Option.getD (α := Bool) (mget (.int .i64) .bool o0_3 k_) false))
          (some (c_4, (), o0_3))
          ((rd c_4.2.1 k_).bind fun t43 =>
          Option.bind
            (Option.bind
              (Option.bind
                (cond (t43.1 == 2)
                  ((rd c_4.2.2.2.1 t43.2.2.2.2).bind fun t66 =>
                  some (Sum.inr (Sum.inr (c_4, (), (mput (.int .i64) .bool o0_3 t66 true)))))
                  (cond (t43.1 == 7)
                    (some (Sum.inl (c_4, (), t43, (mput (.int .i64) .bool o0_3 t43.2.2.2.1 true))))
                    (cond (decide (t43.1 > 3))
                      (some (Sum.inl (c_4, (), t43, o0_3)))
                      (cond (t43.1 == 3)
                        (some (Sum.inr (Sum.inl (c_4, (), t43, o0_3))))
                        (some (Sum.inr (Sum.inr (c_4, (), o0_3))))))) : Option (((Int × ((List (Int × (Int × (Int × (Int × Int))))) × ((List Int) × ((List Int) × (List Int))))) × (Unit × ((Int × (Int × (Int × (Int × Int)))) × (List (Int × Bool))))) ⊕ (((Int × ((List (Int × (Int × (Int × (Int × Int))))) × ((List Int) × ((List Int) × (List Int))))) × (Unit × ((Int × (Int × (Int × (Int × Int)))) × (List (Int × Bool))))) ⊕ ((Int × ((List (Int × (Int × (Int × (Int × Int))))) × ((List Int) × ((List Int) × (List Int))))) × (Unit × (List (Int × Bool))))))) (joined fun ((c_5, _, g, o0_4) : ((Int × ((List (Int × (Int × (Int × (Int × Int))))) × ((List Int) × ((List Int) × (List Int))))) × (Unit × ((Int × (Int × (Int × (Int × Int)))) × (List (Int × Bool)))))) =>
                some (Sum.inl (c_5, (), g, (mput (.int .i64) .bool o0_4 g.2.2.1 true)))) : Option (((Int × ((List (Int × (Int × (Int × (Int × Int))))) × ((List Int) × ((List Int) × (List Int))))) × (Unit × ((Int × (Int × (Int × (Int × Int)))) × (List (Int × Bool))))) ⊕ ((Int × ((List (Int × (Int × (Int × (Int × Int))))) × ((List Int) × ((List Int) × (List Int))))) × (Unit × (List (Int × Bool)))))) (joined fun ((c_6, _, g_1, o0_5) : ((Int × ((List (Int × (Int × (Int × (Int × Int))))) × ((List Int) × ((List Int) × (List Int))))) × (Unit × ((Int × (Int × (Int × (Int × Int)))) × (List (Int × Bool)))))) =>
              some (c_6, (), (mput (.int .i64) .bool o0_5 g_1.2.1 true))) : Option ((Int × ((List (Int × (Int × (Int × (Int × Int))))) × ((List Int) × ((List Int) × (List Int))))) × (Unit × (List (Int × Bool))))) fun ((c_7, _, o0_6) : ((Int × ((List (Int × (Int × (Int × (Int × Int))))) × ((List Int) × ((List Int) × (List Int))))) × (Unit × (List (Int × Bool))))) =>
          some (c_7, (), o0_6)) : Option ((Int × ((List (Int × (Int × (Int × (Int × Int))))) × ((List Int) × ((List Int) × (List Int))))) × (Unit × (List (Int × Bool))))) fun ((c_8, _, o0_7) : ((Int × ((List (Int × (Int × (Int × (Int × Int))))) × ((List Int) × ((List Int) × (List Int))))) × (Unit × (List (Int × Bool))))) =>
      some (Sum.inl (c_8, (), (w64 (k_ - 1)), o0_7)))
      (some (Sum.inr (c_4, (), o0_3)))
def Hang31.l2 (k : Nat) : ((Int × ((List (Int × (Int × (Int × (Int × Int))))) × ((List Int) × ((List Int) × (List Int))))) × (Unit × (Int × (List (Int × Bool))))) → Option (((Int × ((List (Int × (Int × (Int × (Int × Int))))) × ((List Int) × ((List Int) × (List Int))))) × (Unit × (Int × (List (Int × Bool))))) ⊕ ((Int × ((List (Int × (Int × (Int × (Int × Int))))) × ((List Int) × ((List Int) × (List Int))))) × (Unit × (List (Int × Bool)))))
  | (c_3, _, n, o0_2) =>
    cond (n != (List.length o0_2 : Int))
      (Option.bind
        (loopN (Hang31.l1 k) k (c_3, (), (w64 ((List.length c_3.2.1 : Int) - 1)), o0_2) : Option ((Int × ((List (Int × (Int × (Int × (Int × Int))))) × ((List Int) × ((List Int) × (List Int))))) × (Unit × (List (Int × Bool))))) fun ((c_9, _, o0_8) : ((Int × ((List (Int × (Int × (Int × (Int × Int))))) × ((List Int) × ((List Int) × (List Int))))) × (Unit × (List (Int × Bool))))) =>
      some (Sum.inl (c_9, (), (List.length o0_2 : Int), o0_8)))
      (some (Sum.inr (c_3, (), o0_2)))
def Hang31.l3 (k : Nat) (c_10 : (Int × ((List (Int × (Int × (Int × (Int × Int))))) × ((List Int) × ((List Int) × (List Int)))))) : (Unit × (Unit × (Int × ((List (Int × Bool)) × (List Int))))) → Option ((Unit × (Unit × (Int × ((List (Int × Bool)) × (List Int))))) ⊕ (Unit × (List Int)))
  | (_, _, t80, o0_10, o2) =>
    cond (decide (t80 < (List.length c_10.2.1 : Int)))
      (Option.bind
        (cond (Option.getD (α := Bool) (mget (.int .i64) .bool o0_10 t80) false)
          ((if room (List.length o2 + List.length ([t80] : List Int)) 8 then some () else none).bind fun _ =>
          some ((), (), o0_10, (o2 ++ ([t80] : List Int))))
          (some ((), (), o0_10, o2)) : Option (Unit × (Unit × ((List (Int × Bool)) × (List Int))))) fun ((_, _, o0_11, o2_1) : (Unit × (Unit × ((List (Int × Bool)) × (List Int))))) =>
      some (Sum.inl ((), (), (w64 (t80 + 1)), o0_11, o2_1)))
      (some (Sum.inr ((), o2)))
def Hang31 (k : Nat) (c : (Int × ((List (Int × (Int × (Int × (Int × Int))))) × ((List Int) × ((List Int) × (List Int)))))) : Option ((List Int) × Unit) :=
  Option.bind
    (loopN (Hang31.l0 k c) k (c, (), 0, ([] : (List (Int × Bool)))) : Option ((Int × ((List (Int × (Int × (Int × (Int × Int))))) × ((List Int) × ((List Int) × (List Int))))) × (Unit × (List (Int × Bool))))) fun ((c_2, _, o0_1) : ((Int × ((List (Int × (Int × (Int × (Int × Int))))) × ((List Int) × ((List Int) × (List Int))))) × (Unit × (List (Int × Bool))))) =>
  Option.bind
    (loopN (Hang31.l2 k) k (c_2, (), (-1), o0_1) : Option ((Int × ((List (Int × (Int × (Int × (Int × Int))))) × ((List Int) × ((List Int) × (List Int))))) × (Unit × (List (Int × Bool))))) fun ((c_10, _, o0_9) : ((Int × ((List (Int × (Int × (Int × (Int × Int))))) × ((List Int) × ((List Int) × (List Int))))) × (Unit × (List (Int × Bool))))) =>
  Option.bind
    (loopN (Hang31.l3 k c_10) k ((), (), 0, o0_9, []) : Option (Unit × (List Int))) fun ((_, o2_2) : (Unit × (List Int))) =>
  some (o2_2, ())
def Hang31.A : Ann := { conds := [(5570588, ⟨[(3, .mm 0), (9, .ms 2)], [(0, .map (.int .i64) .bool), (2, .row (.int .i64))], 3, [(2, .int .i64)], 1160568786830044007717929472⟩)], blocks := [(0, ⟨[(1, .fp (.st (.pair (.int .i64) (.pair (.sl (.st (.pair (.int .i64) (.pair (.int .i64) (.pair (.int .i64) (.pair (.int .i64) (.int .i64))))))) (.pair (.sl (.int .i64)) (.pair (.sl (.int .i64)) (.sl (.int .i64)))))))), (3, .mm 0)], [(0, .map (.int .i64) .bool)], 1, [], 4161568⟩), (2, ⟨[(1, .fp (.st (.pair (.int .i64) (.pair (.sl (.st (.pair (.int .i64) (.pair (.int .i64) (.pair (.int .i64) (.pair (.int .i64) (.int .i64))))))) (.pair (.sl (.int .i64)) (.pair (.sl (.int .i64)) (.sl (.int .i64)))))))), (3, .mm 0)], [(0, .map (.int .i64) .bool)], 1, [], 151115727451828642644416⟩), (4, ⟨[(1, .fp (.st (.pair (.int .i64) (.pair (.sl (.st (.pair (.int .i64) (.pair (.int .i64) (.pair (.int .i64) (.pair (.int .i64) (.int .i64))))))) (.pair (.sl (.int .i64)) (.pair (.sl (.int .i64)) (.sl (.int .i64)))))))), (3, .mm 0)], [(0, .map (.int .i64) .bool)], 1, [], 151115727451824351871360⟩), (5, ⟨[(1, .fp (.st (.pair (.int .i64) (.pair (.sl (.st (.pair (.int .i64) (.pair (.int .i64) (.pair (.int .i64) (.pair (.int .i64) (.int .i64))))))) (.pair (.sl (.int .i64)) (.pair (.sl (.int .i64)) (.sl (.int .i64)))))))), (3, .mm 0)], [(0, .map (.int .i64) .bool)], 1, [], 151115727451759927361792⟩), (6, ⟨[(1, .fp (.st (.pair (.int .i64) (.pair (.sl (.st (.pair (.int .i64) (.pair (.int .i64) (.pair (.int .i64) (.pair (.int .i64) (.int .i64))))))) (.pair (.sl (.int .i64)) (.pair (.sl (.int .i64)) (.sl (.int .i64)))))))), (3, .mm 0)], [(0, .map (.int .i64) .bool)], 1, [], 151115727416644274749440⟩), (9, ⟨[(1, .fp (.st (.pair (.int .i64) (.pair (.sl (.st (.pair (.int .i64) (.pair (.int .i64) (.pair (.int .i64) (.pair (.int .i64) (.int .i64))))))) (.pair (.sl (.int .i64)) (.pair (.sl (.int .i64)) (.sl (.int .i64)))))))), (3, .mm 0), (8, .fp (.st (.pair (.int .i64) (.pair (.int .i64) (.pair (.int .i64) (.pair (.int .i64) (.int .i64)))))))], [(0, .map (.int .i64) .bool)], 1, [], 2361183206250450518016⟩), (10, ⟨[(1, .fp (.st (.pair (.int .i64) (.pair (.sl (.st (.pair (.int .i64) (.pair (.int .i64) (.pair (.int .i64) (.pair (.int .i64) (.int .i64))))))) (.pair (.sl (.int .i64)) (.pair (.sl (.int .i64)) (.sl (.int .i64)))))))), (3, .mm 0), (8, .fp (.st (.pair (.int .i64) (.pair (.int .i64) (.pair (.int .i64) (.pair (.int .i64) (.int .i64)))))))], [(0, .map (.int .i64) .bool)], 1, [], 18889465896294208765952⟩), (11, ⟨[(9, .ms 2)], [(2, .row (.int .i64))], 3, [], 2474671152751145920623543808⟩)], loops := [(3, ⟨[(1, .fp (.st (.pair (.int .i64) (.pair (.sl (.st (.pair (.int .i64) (.pair (.int .i64) (.pair (.int .i64) (.pair (.int .i64) (.int .i64))))))) (.pair (.sl (.int .i64)) (.pair (.sl (.int .i64)) (.sl (.int .i64)))))))), (3, .mm 0), (15, .int .i64)], [(0, .map (.int .i64) .bool)], 1, [], 4161568⟩), (8, ⟨[(1, .fp (.st (.pair (.int .i64) (.pair (.sl (.st (.pair (.int .i64) (.pair (.int .i64) (.pair (.int .i64) (.pair (.int .i64) (.int .i64))))))) (.pair (.sl (.int .i64)) (.pair (.sl (.int .i64)) (.sl (.int .i64)))))))), (3, .mm 0), (6, .int .i64)], [(0, .map (.int .i64) .bool)], 1, [], 151115727451828642644416⟩), (11, ⟨[(1, .fp (.st (.pair (.int .i64) (.pair (.sl (.st (.pair (.int .i64) (.pair (.int .i64) (.pair (.int .i64) (.pair (.int .i64) (.int .i64))))))) (.pair (.sl (.int .i64)) (.pair (.sl (.int .i64)) (.sl (.int .i64)))))))), (3, .mm 0), (7, .int .i64)], [(0, .map (.int .i64) .bool)], 1, [], 151115727451824351871360⟩), (25, ⟨[(3, .mm 0), (9, .ms 2), (80, .int .i64)], [(0, .map (.int .i64) .bool), (2, .row (.int .i64))], 3, [(2, .int .i64)], 2474671152751145920623543808⟩)], keeps := [1, 8], orders := [] }
def Hang31.S : Sig := { f := 31, params := [.st (.pair (.int .i64) (.pair (.sl (.st (.pair (.int .i64) (.pair (.int .i64) (.pair (.int .i64) (.pair (.int .i64) (.int .i64))))))) (.pair (.sl (.int .i64)) (.pair (.sl (.int .i64)) (.sl (.int .i64))))))], objs := [], res := .sl (.int .i64), outs := [], fix := [], run := fun k ds os => Hang31 k ds }
def Hang31.G : List Sig := []
theorem Hang31.eq (k : Nat) : ∀ ds os, Hang31.S.run k ds os = runF ⟨types, Hang31.G, Hang31.A, k, 0, []⟩ Try.f31 (codeOf Try.f31) Hang31.S.params Hang31.S.objs Hang31.S.res Hang31.S.outs ds os := by
  intro ds os; kernel_rfl
theorem Hang31.dr : DrOk Try.prog Hang31.A (codeOf Try.f31) := ⟨by kernel_rfl, by kernel_rfl⟩
theorem Hang31.ok (k : Nat) : SoundAt Try.prog k Hang31.S :=
  runF_sound (X := ⟨types, Hang31.G, Hang31.A, k, 0, []⟩) types_ok (fun s hs => absurd hs List.not_mem_nil) (fn := Try.f31) (c := codeOf Try.f31) rfl (by kernel_rfl) rfl rfl Hang31.dr (Hang31.eq k)
end Go.Proofs.Ytjbdhaenakcclaa.Gu

/- Go functions as plain Lean functions, and their contracts. -/
set_option linter.unusedVariables false
set_option maxRecDepth 100000
noncomputable section
namespace Go.Proofs.Ytjbdhaenakcclaa.Gu
open Go Go.Proofs.Ytjbdhaenakcclaa.Gp
def GateUses5.l0 (k : Nat) (c : (Int × ((List (Int × (Int × (Int × (Int × Int))))) × ((List Int) × ((List Int) × (List Int)))))) (t20 : (((List Int) × (Int × Unit)) × Unit)) : Int → Option (Int ⊕ (Unit ⊕ (Bool × Unit)))
  | t59 =>
    cond (decide (t59 < (List.length c.2.1 : Int)))
      ((rd c.2.1 t59).bind fun t62 =>
      Option.bind
        (cond (t62.1 == 3)
          ((rd t20.1.1 t62.2.1).bind fun t71 =>
          some (w64 (1 + t71)))
          (Option.bind
            (cond (t62.1 == 7)
              ((rd t20.1.1 t62.2.1).bind fun t81 =>
              (rd t20.1.1 t62.2.2.1).bind fun t86 =>
              (rd t20.1.1 t62.2.2.2.1).bind fun t91 =>
              some (w64 (1 + (mxI (mxI t81 t86) t91))))
              (Option.bind
                (cond (decide (t62.1 > 3))
                  ((rd t20.1.1 t62.2.1).bind fun t102 =>
                  (rd t20.1.1 t62.2.2.1).bind fun t107 =>
                  some (w64 (1 + (mxI t102 t107))))
                  (some 0) : Option Int) fun (want : Int) =>
              some want) : Option Int) fun (want_1 : Int) =>
          some want_1) : Option Int) fun (want_2 : Int) =>
      (rd t20.1.1 t59).bind fun t113 =>
      cond (t113 != want_2)
        (some (Sum.inr (Sum.inr (false, ()))))
        (some (Sum.inl (w64 (t59 + 1)))))
      (some (Sum.inr (Sum.inl ())))
def GateUses5 (k : Nat) (c : (Int × ((List (Int × (Int × (Int × (Int × Int))))) × ((List Int) × ((List Int) × (List Int)))))) : Option (Bool × Unit) :=
  (CircuitFault14 k c).bind fun t12 =>
  (Used29 k c).bind fun t15 =>
  (Depth30 k c).bind fun t20 =>
  (gated17 k).bind fun t23 =>
  cond (cond (cond (!t23.1) true (t15.1.2.1 != t12.1)) true (t20.1.2.1 != t12.1))
    (some (false, ()))
    (cond (t12.1 != 0)
      (some (((w64 ((List.length t15.1.1 : Int) + (List.length t20.1.1 : Int))) == 0), ()))
      ((Hang31 k c).bind fun t45 =>
      (Equal25 k t15.1.1 t45.1).bind fun t46 =>
      cond (cond (!t46.1) true ((List.length t20.1.1 : Int) != (List.length c.2.1 : Int)))
        (some (false, ()))
        (Option.bind
          (loopN (GateUses5.l0 k c t20) k 0 : Option (Unit ⊕ (Bool × Unit))) (joined fun (_ : Unit) =>
          some (true, ())))))
def GateUses5.A : Ann := { conds := [(4194319, ⟨[(10, .int .i64)], [], 0, [], 2596148429267118666360068811785216⟩), (4849681, ⟨[(10, .int .i64)], [], 0, [], 2596148428965182359361590870934528⟩), (6225939, ⟨[(10, .int .i64)], [], 0, [], 2595514603967299699564499813008384⟩)], blocks := [(0, ⟨[], [], 0, [], 332306998946228967649491012766664452⟩)], loops := [(11, ⟨[(59, .int .i64)], [], 0, [], 332306998946228967649491012766664452⟩)], keeps := [1, 9], orders := [(17, [(0, .strong), (1, .strong), (2, .strong), (3, .strong), (4, .strong), (5, .strong), (6, .strong), (7, .strong), (8, .strong), (9, .strong), (10, .strong), (11, .strong), (12, .strong), (13, .strong), (14, .strong), (15, .strong), (16, .strong), (17, .strong)]), (19, [(0, .strong), (1, .strong), (2, .strong), (3, .strong), (4, .strong), (5, .strong), (6, .strong), (7, .strong), (8, .strong), (9, .strong), (10, .strong), (11, .strong), (12, .strong)])] }
def GateUses5.S : Sig := { f := 5, params := [.st (.pair (.int .i64) (.pair (.sl (.st (.pair (.int .i64) (.pair (.int .i64) (.pair (.int .i64) (.pair (.int .i64) (.int .i64))))))) (.pair (.sl (.int .i64)) (.pair (.sl (.int .i64)) (.sl (.int .i64))))))], objs := [], res := .bool, outs := [], fix := [], run := fun k ds os => GateUses5 k ds }
def GateUses5.G : List Sig := [CircuitFault14.S, Depth30.S, Equal25.S, Hang31.S, Used29.S, gated17.S]
theorem GateUses5.eq (k : Nat) : ∀ ds os, GateUses5.S.run k ds os = runF ⟨types, GateUses5.G, GateUses5.A, k, 0, []⟩ Try.f5 (codeOf Try.f5) GateUses5.S.params GateUses5.S.objs GateUses5.S.res GateUses5.S.outs ds os := by
  intro ds os; kernel_rfl
theorem GateUses5.dr : DrOk Try.prog GateUses5.A (codeOf Try.f5) := ⟨by kernel_rfl, by kernel_rfl⟩
theorem GateUses5.ok (k : Nat) : SoundAt Try.prog k GateUses5.S :=
  runF_sound (X := ⟨types, GateUses5.G, GateUses5.A, k, 0, []⟩) types_ok (mem_all (⟨CircuitFault14.ok k, ⟨Depth30.ok k, ⟨Equal25.ok k, ⟨Hang31.ok k, ⟨Used29.ok k, ⟨gated17.ok k, trivial⟩⟩⟩⟩⟩⟩)) (fn := Try.f5) (c := codeOf Try.f5) rfl (by kernel_rfl) rfl rfl GateUses5.dr (GateUses5.eq k)
end Go.Proofs.Ytjbdhaenakcclaa.Gu

/- What is left of a Go function, in the long run: rounds, loops, lists, numbers. No program in sight. -/
set_option linter.unusedVariables false
noncomputable section
namespace Go.Proofs.Ytjbdhaenakcclaa.Gp
open Go

/-- from some fuel on, f answers v -/
def Ev {α : Type} (f : Nat → Option α) (v : α) : Prop := ∃ n, ∀ k, n ≤ k → f k = some v
/-- .. a loop, from some fuel on and with enough rounds -/
def Lp {S R : Type} (body : Nat → S → Option (S ⊕ R)) (s : S) (r : R) : Prop := ∃ n m, ∀ k, n ≤ k → ∀ j, m ≤ j → loopN (body k) j s = some r

theorem Ev.ex {α : Type} {f : Nat → Option α} {v : α} (h : Ev f v) : ∃ k, f k = some v := by
  obtain ⟨n, h⟩ := h
  exact ⟨n, h n (Nat.le_refl _)⟩
theorem Ev.now {α : Type} (v : α) : Ev (fun _ => some v) v := ⟨0, fun _ _ => rfl⟩
theorem Ev.now' {α : Type} {v w : α} (h : v = w) : Ev (fun _ => some v) w := h ▸ .now v
/-- what hangs on no fuel -/
theorem Ev.const {α : Type} {o : Option α} {v : α} (h : o = some v) : Ev (fun _ => o) v := ⟨0, fun _ _ => h⟩
theorem Ev.to {α : Type} {f : Nat → Option α} {v w : α} (h : Ev f v) (e : v = w) : Ev f w := e ▸ h
theorem Ev.of {α : Type} {f g : Nat → Option α} {v : α} (h : Ev f v) (e : ∀ k, g k = f k) : Ev g v := by
  obtain ⟨n, h⟩ := h
  exact ⟨n, fun k hk => (e k).trans (h k hk)⟩
theorem Ev.bind {α β : Type} {f : Nat → Option α} {g : Nat → α → Option β} {a : α} {b : β} (h : Ev f a) (h2 : Ev (fun k => g k a) b) : Ev (fun k => (f k).bind (g k)) b := by
  obtain ⟨n, h⟩ := h
  obtain ⟨m, h2⟩ := h2
  refine ⟨max n m, fun k hk => ?_⟩
  show (f k).bind (g k) = _
  rw [h k (by omega)]
  exact h2 k (by omega)
/-- a value that hangs on no fuel -/
theorem Ev.val {α β : Type} {o : Option α} {g : Nat → α → Option β} {a : α} {b : β} (h : o = some a) (h2 : Ev (fun k => g k a) b) : Ev (fun k => o.bind (g k)) b := by
  subst h
  exact h2
theorem Ev.joinL {S α β : Type} {f : Nat → Option (α ⊕ β)} {g : Nat → α → Option β} {a : α} {b : β} (h : Ev f (.inl a)) (h2 : Ev (fun k => g k a) b) : Ev (fun k => (f k).bind (joined (g k))) b :=
  Ev.bind (g := fun k => joined (g k)) h h2
theorem Ev.joinR {α β : Type} {f : Nat → Option (α ⊕ β)} {g : Nat → α → Option β} {b : β} (h : Ev f (.inr b)) : Ev (fun k => (f k).bind (joined (g k))) b :=
  Ev.bind (g := fun k => joined (g k)) h (.now b)
/-- a join: how it came, and what follows -/
theorem Ev.join {α β : Type} {f : Nat → Option (α ⊕ β)} {g : Nat → α → Option β} {s : α ⊕ β} {b : β} (h : Ev f s) (h1 : ∀ a, s = .inl a → Ev (fun k => g k a) b) (h2 : ∀ r, s = .inr r → r = b) : Ev (fun k => (f k).bind (joined (g k))) b := by
  cases s with
  | inl a => exact Ev.bind (g := fun k => joined (g k)) h (h1 a rfl)
  | inr r => exact Ev.bind (g := fun k => joined (g k)) h (.now' (h2 r rfl))
theorem Ev.cnd {α : Type} {c : Bool} {f g : Nat → Option α} {v : α} (h1 : c = true → Ev f v) (h2 : c = false → Ev g v) : Ev (fun k => cond c (f k) (g k)) v := by
  cases c with
  | true => exact h1 rfl
  | false => exact h2 rfl
theorem Ev.yes {α : Type} {c : Bool} {f g : Nat → Option α} {v : α} (hc : c = true) (h : Ev f v) : Ev (fun k => cond c (f k) (g k)) v := by rw [hc]; exact h
theorem Ev.no {α : Type} {c : Bool} {f g : Nat → Option α} {v : α} (hc : c = false) (h : Ev g v) : Ev (fun k => cond c (f k) (g k)) v := by rw [hc]; exact h
theorem Ev.iff {α : Type} {c : Prop} [Decidable c] {f g : Nat → Option α} {v : α} (h1 : c → Ev f v) (h2 : ¬ c → Ev g v) : Ev (fun k => cond (decide c) (f k) (g k)) v := by
  by_cases h : c
  · exact .yes (decide_eq_true h) (h1 h)
  · exact .no (decide_eq_false h) (h2 h)
theorem Ev.map {α β : Type} {f : Nat → Option α} {g : α → β} {a : α} (h : Ev f a) : Ev (fun k => (f k).map g) (g a) := by
  obtain ⟨n, h⟩ := h
  exact ⟨n, fun k hk => by show (f k).map g = _; rw [h k hk]; rfl⟩

theorem Lp.ev {S R : Type} {body : Nat → S → Option (S ⊕ R)} {s : S} {r : R} (h : Lp body s r) : Ev (fun k => loopN (body k) k s) r := by
  obtain ⟨n, m, h⟩ := h
  exact ⟨max n m, fun k hk => h k (by omega) k (by omega)⟩
theorem Lp.done {S R : Type} {body : Nat → S → Option (S ⊕ R)} {s : S} {r : R} (h : Ev (fun k => body k s) (.inr r)) : Lp body s r := by
  obtain ⟨n, h⟩ := h
  refine ⟨n, 1, fun k hk j hj => ?_⟩
  obtain ⟨j, rfl⟩ : ∃ i, j = i + 1 := ⟨j - 1, by omega⟩
  show (body k s).bind _ = _
  rw [show body k s = _ from h k hk]
  rfl
theorem Lp.step {S R : Type} {body : Nat → S → Option (S ⊕ R)} {s s' : S} {r : R} (h : Ev (fun k => body k s) (.inl s')) (h2 : Lp body s' r) : Lp body s r := by
  obtain ⟨n, h⟩ := h
  obtain ⟨n2, m, h2⟩ := h2
  refine ⟨max n n2, m + 1, fun k hk j hj => ?_⟩
  obtain ⟨j, rfl⟩ : ∃ i, j = i + 1 := ⟨j - 1, by omega⟩
  show (body k s).bind _ = _
  rw [show body k s = _ from h k (by omega)]
  exact h2 k (by omega) j (by omega)

/-- a walk over a list, that may end early -/
def walk {α β R : Type} (f : β → α → β ⊕ R) (fin : β → R) : List α → β → R
  | [], b => fin b
  | x :: l, b => match f b x with | .inl b' => walk f fin l b' | .inr r => r
theorem walk_nil {α β R : Type} {f : β → α → β ⊕ R} {fin : β → R} {b : β} : walk f fin [] b = fin b := rfl
theorem walk_cons {α β R : Type} {f : β → α → β ⊕ R} {fin : β → R} {x : α} {l : List α} {b : β} : walk f fin (x :: l) b = match f b x with | .inl b' => walk f fin l b' | .inr r => r := rfl

/-- a loop over a list by its index: 'st b i' is the loop's state -/
theorem Lp.walk {α β S R : Type} {body : Nat → S → Option (S ⊕ R)} (l : List α) (st : β → Int → S) (f : β → α → β ⊕ R) (fin : β → R) (Inv : Nat → β → Prop)
    (hs : ∀ i x b, l[i]? = some x → Inv i b → Ev (fun k => body k (st b i)) (match f b x with | .inl b' => .inl (st b' ((i : Int) + 1)) | .inr r => .inr r) ∧ ∀ b', f b x = .inl b' → Inv (i + 1) b')
    (hd : ∀ b, Inv l.length b → Ev (fun k => body k (st b l.length)) (.inr (fin b))) {b : β} (h0 : Inv 0 b) : Lp body (st b 0) (walk f fin l b) := by
  have key : ∀ (suf pre : List α) (b : β), l = pre ++ suf → Inv pre.length b → Lp body (st b (pre.length : Int)) (Gp.walk f fin suf b) := by
    intro suf
    induction suf with
    | nil =>
      intro pre b h hi
      rw [List.append_nil] at h
      subst h
      exact .done (hd b hi)
    | cons x suf ih =>
      intro pre b h hi
      have hx : l[pre.length]? = some x := by rw [h]; simp
      obtain ⟨h1, h2⟩ := hs pre.length x b hx hi
      rw [walk_cons]
      cases hf : f b x with
      | inr r => rw [hf] at h1; exact .done h1
      | inl b' =>
        rw [hf] at h1
        refine .step h1 ?_
        have := ih (pre ++ [x]) b' (by rw [h]; simp) (by simpa using h2 b' hf)
        simpa using this
  exact key l [] b rfl h0
/-- .. that always goes to its end -/
theorem Lp.fold {α β S R : Type} {body : Nat → S → Option (S ⊕ R)} (l : List α) (st : β → Int → S) (f : β → α → β) (fin : β → R) (Inv : Nat → β → Prop)
    (hs : ∀ i x b, l[i]? = some x → Inv i b → Ev (fun k => body k (st b i)) (.inl (st (f b x) ((i : Int) + 1))) ∧ Inv (i + 1) (f b x))
    (hd : ∀ b, Inv l.length b → Ev (fun k => body k (st b l.length)) (.inr (fin b))) {b : β} (h0 : Inv 0 b) : Lp body (st b 0) (fin (l.foldl f b)) := by
  have := Lp.walk (body := body) l st (fun b x => .inl (f b x)) fin Inv (fun i x b hx hi => ⟨(hs i x b hx hi).1, fun b' hb => by cases hb; exact (hs i x b hx hi).2⟩) hd h0
  have e : ∀ (l : List α) (b : β), Gp.walk (fun b x => (.inl (f b x) : β ⊕ R)) fin l b = fin (l.foldl f b) := by
    intro l
    induction l with
    | nil => intro b; rfl
    | cons x l ih => intro b; rw [walk_cons, List.foldl_cons]; exact ih _
  rwa [e] at this
/-- a loop that counts from 0 to n -/
theorem Lp.count {β S R : Type} {body : Nat → S → Option (S ⊕ R)} (n : Nat) (st : β → Int → S) (f : β → Nat → β) (fin : β → R) (Inv : Nat → β → Prop)
    (hs : ∀ i b, i < n → Inv i b → Ev (fun k => body k (st b i)) (.inl (st (f b i) ((i : Int) + 1))) ∧ Inv (i + 1) (f b i))
    (hd : ∀ b, Inv n b → Ev (fun k => body k (st b n)) (.inr (fin b))) {b : β} (h0 : Inv 0 b) : Lp body (st b 0) (fin ((List.range n).foldl f b)) := by
  refine Lp.fold (List.range n) st f fin Inv (fun i x b hx hi => ?_) (fun b hb => ?_) h0
  · obtain ⟨h1, h2⟩ := List.getElem?_eq_some_iff.1 hx
    rw [List.getElem_range] at h2
    subst h2
    exact hs i b (by simpa using h1) hi
  · rw [List.length_range] at hb ⊢
    exact hd b hb

-- numbers
theorem w64_id {x : Int} (h0 : -9223372036854775808 ≤ x) (h1 : x ≤ 9223372036854775807) : w64 x = x := by
  show IntKind.wrap .i64 x = x
  have e : (2 : Int) ^ (64 - 1) = 9223372036854775808 := by decide
  have e2 : (2 : Int) ^ 64 = 18446744073709551616 := by decide
  simp only [IntKind.wrap, IntKind.signed, IntKind.bits, Bool.true_and, decide_eq_true_eq, e, e2]
  split <;> omega
theorem w64_nat {n : Nat} (h : n ≤ 9223372036854775807) : w64 (n : Int) = n := w64_id (by omega) (by omega)
theorem w64_succ {n : Nat} (h : n < 9223372036854775807) : w64 ((n : Int) + 1) = ((n + 1 : Nat) : Int) := by rw [w64_id (by omega) (by omega)]; omega
theorem rd_nat {α : Type} (l : List α) (i : Nat) : rd l (i : Int) = l[i]? := by
  unfold rd
  rw [if_pos (by omega)]
  rfl
theorem rd_some' {α : Type} {l : List α} {i : Nat} {x : α} (h : l[i]? = some x) : rd l (i : Int) = some x := by rw [rd_nat, h]
theorem rd_at {α : Type} {l : List α} {z : Int} {i : Nat} {x : α} (hz : z = i) (h : l[i]? = some x) : rd l z = some x := by rw [hz, rd_nat, h]
theorem room_ok {n b : Nat} (h : n * b ≤ 140737488355328) : room n b = true := Nat.ble_eq_true_of_le h
theorem get_lt {α : Type} {l : List α} {i : Nat} {x : α} (h : l[i]? = some x) : i < l.length := (List.getElem?_eq_some_iff.1 h).1
theorem get_mem {α : Type} {l : List α} {i : Nat} {x : α} (h : l[i]? = some x) : x ∈ l := List.mem_of_getElem? h
theorem slc_ok {α : Type} {l : List α} {a b : Nat} (h1 : a ≤ b) (h2 : b ≤ l.length) : slc l (a : Int) (b : Int) = some ((l.take b).drop a) := by
  unfold slc
  rw [if_pos ⟨by omega, by omega, by omega⟩]
  simp
theorem slc_tail {α : Type} {l : List α} {a : Nat} (h1 : a ≤ l.length) : slc l (a : Int) (l.length : Int) = some (l.drop a) := by
  rw [slc_ok h1 (Nat.le_refl _), List.take_length]
theorem eqB_iff {k : K} (hc : k.cmp = true) {x y : k.den} : eqB k x y = true ↔ x = y := ⟨eqB_eq hc, fun h => by rw [h]; exact eqB_refl hc⟩
theorem eqB_dec {k : K} (hc : k.cmp = true) {x y : k.den} [Decidable (x = y)] : eqB k x y = decide (x = y) := by
  rw [Bool.eq_iff_iff, eqB_iff hc, decide_eq_true_eq]
theorem streq_iff {a b : ByteArray} : streq a b = true ↔ a = b := ⟨streq_eq, fun h => by rw [h]; exact streq_refl b⟩
theorem lit_wf {k : Int} (h : (Lit.int .i64 k).wf = true) : -9223372036854775808 ≤ k ∧ k ≤ 9223372036854775807 := by
  simp [Lit.wf, IntKind.min, IntKind.max, IntKind.signed, IntKind.bits] at h
  omega

-- bits
theorem wrap64_nat {n : Nat} (h : n < 9223372036854775808) : IntKind.wrap .i64 (n : Int) = n := w64_nat (by omega)
theorem bv_nat (a : Nat) : BitVec.ofInt 64 (a : Int) = BitVec.ofNat 64 a := BitVec.ofInt_natCast 64 a
theorem ibits_and {a b : Nat} (ha : a < 9223372036854775808) (hb : b < 9223372036854775808) : ibits .and .i64 (a : Int) (b : Int) = ((a &&& b : Nat) : Int) := by
  have h : (a &&& b) < 2 ^ 63 := by rw [Nat.and_comm]; exact Nat.and_lt_two_pow _ ha
  show IntKind.wrap .i64 (((BitVec.ofInt 64 (a : Int) &&& BitVec.ofInt 64 (b : Int)).toNat : Nat) : Int) = _
  rw [bv_nat, bv_nat, BitVec.toNat_and, BitVec.toNat_ofNat, BitVec.toNat_ofNat, Nat.mod_eq_of_lt (by omega), Nat.mod_eq_of_lt (by omega)]
  exact wrap64_nat h
theorem ibits_or {a b : Nat} (ha : a < 9223372036854775808) (hb : b < 9223372036854775808) : ibits .or .i64 (a : Int) (b : Int) = ((a ||| b : Nat) : Int) := by
  have h : (a ||| b) < 2 ^ 63 := Nat.or_lt_two_pow ha hb
  show IntKind.wrap .i64 (((BitVec.ofInt 64 (a : Int) ||| BitVec.ofInt 64 (b : Int)).toNat : Nat) : Int) = _
  rw [bv_nat, bv_nat, BitVec.toNat_or, BitVec.toNat_ofNat, BitVec.toNat_ofNat, Nat.mod_eq_of_lt (by omega), Nat.mod_eq_of_lt (by omega)]
  exact wrap64_nat h
theorem ibits_xor {a b : Nat} (ha : a < 9223372036854775808) (hb : b < 9223372036854775808) : ibits .xor .i64 (a : Int) (b : Int) = ((a ^^^ b : Nat) : Int) := by
  have h : (a ^^^ b) < 2 ^ 63 := Nat.xor_lt_two_pow ha hb
  show IntKind.wrap .i64 (((BitVec.ofInt 64 (a : Int) ^^^ BitVec.ofInt 64 (b : Int)).toNat : Nat) : Int) = _
  rw [bv_nat, bv_nat, BitVec.toNat_xor, BitVec.toNat_ofNat, BitVec.toNat_ofNat, Nat.mod_eq_of_lt (by omega), Nat.mod_eq_of_lt (by omega)]
  exact wrap64_nat h
theorem ibits_andNot {a b : Nat} (ha : a < 9223372036854775808) (hb : b < 9223372036854775808) : ibits .andNot .i64 (a : Int) (b : Int) = ((a ^^^ (a &&& b) : Nat) : Int) := by
  have h1 : (a &&& b) < 2 ^ 63 := by rw [Nat.and_comm]; exact Nat.and_lt_two_pow _ ha
  have h : (a ^^^ (a &&& b)) < 2 ^ 63 := Nat.xor_lt_two_pow ha h1
  have e : (BitVec.ofNat 64 a &&& ~~~ BitVec.ofNat 64 b).toNat = a ^^^ (a &&& b) := by
    apply Nat.eq_of_testBit_eq
    intro i
    rw [BitVec.testBit_toNat, BitVec.getLsbD_and, BitVec.getLsbD_not, BitVec.getLsbD_ofNat, BitVec.getLsbD_ofNat, Nat.testBit_xor, Nat.testBit_and]
    by_cases hi : i < 64
    · cases a.testBit i <;> cases b.testBit i <;> simp [hi]
    · have : a.testBit i = false := Nat.testBit_lt_two_pow (Nat.lt_of_lt_of_le ha (Nat.le_trans (by decide : 9223372036854775808 ≤ 2 ^ 64) (Nat.pow_le_pow_right (by decide) (by omega))))
      simp [this]
  show IntKind.wrap .i64 (((BitVec.ofInt 64 (a : Int) &&& ~~~ BitVec.ofInt 64 (b : Int)).toNat : Nat) : Int) = _
  rw [bv_nat, bv_nat, e]
  exact wrap64_nat h
theorem pow_small {j : Nat} (h : j < 63) : 2 ^ j < 9223372036854775808 := by
  have : 2 ^ j < 2 ^ 63 := Nat.pow_lt_pow_right (by decide) h
  simpa using this
theorem shlI_nat {a j : Nat} (hj : j ≤ 64) (h : a * 2 ^ j < 9223372036854775808) : shlI .i64 (a : Int) (j : Int) = ((a * 2 ^ j : Nat) : Int) := by
  unfold shlI
  simp only [IntKind.bits, Int.toNat_natCast]
  rw [Nat.min_eq_left hj, show ((a : Int) * 2 ^ j) = ((a * 2 ^ j : Nat) : Int) by simp]
  exact wrap64_nat h
theorem shlI_one {j : Nat} (h : j < 63) : shlI .i64 1 (j : Int) = ((2 ^ j : Nat) : Int) := by
  have := shlI_nat (a := 1) (j := j) (by omega) (by rw [Nat.one_mul]; exact pow_small h)
  simpa using this
theorem shrI_nat {a j : Nat} (hj : j ≤ 64) : shrI .i64 (a : Int) (j : Int) = ((a / 2 ^ j : Nat) : Int) := by
  unfold shrI
  simp only [IntKind.bits, Int.toNat_natCast]
  rw [Nat.min_eq_left hj, show ((2 : Int) ^ j) = ((2 ^ j : Nat) : Int) by simp, Int.fdiv_eq_ediv_of_nonneg _ (Int.natCast_nonneg _)]
  simp

-- maps
theorem mget_nil {kk kv : K} {k : kk.den} : mget kk kv [] k = none := rfl
theorem mpos_lt {kk kv : K} {l : List (kk.den × kv.den)} {k : kk.den} (h : mpos kk kv l k < l.length) : ∃ e, l[mpos kk kv l k]? = some e ∧ eqB kk k e.1 = true := by
  have := List.findIdx_getElem (xs := l) (p := fun (e : kk.den × kv.den) => eqB kk k e.1) (w := h)
  exact ⟨_, List.getElem?_eq_getElem h, this⟩
theorem find_modify {α : Type} {p : α → Bool} {x : α} : ∀ {l : List α} {i : Nat}, (∀ y, l[i]? = some y → p y = p x) → p x = false → (l.modify i (fun _ => x)).find? p = l.find? p
  | [], i, _, _ => by simp
  | y :: l, 0, h, hx => by
    have := h y rfl
    rw [hx] at this
    simp [List.modify, List.find?, this, hx]
  | y :: l, i + 1, h, hx => by
    have ih := find_modify (l := l) (i := i) (fun z hz => h z (by simpa using hz)) hx
    simp only [List.modify_succ_cons, List.find?_cons]
    rw [ih]
theorem find_modify_at {α : Type} {p : α → Bool} {x : α} (hx : p x = true) : ∀ {l : List α}, l.findIdx p < l.length → (l.modify (l.findIdx p) (fun _ => x)).find? p = some x
  | [], h => by simp at h
  | y :: l, h => by
    rw [List.findIdx_cons] at h ⊢
    cases hy : p y with
    | true => simp [hx]
    | false =>
      rw [hy] at h
      simp only [cond_false, List.length_cons] at h ⊢
      rw [List.modify_succ_cons, List.find?_cons, hy]
      exact find_modify_at hx (by omega)
theorem mget_mput {kk kv : K} (hc : kk.cmp = true) {l : List (kk.den × kv.den)} {k k' : kk.den} {v : kv.den} : mget kk kv (mput kk kv l k v) k' = if eqB kk k' k = true then some v else mget kk kv l k' := by
  unfold mget mput
  by_cases hk : eqB kk k' k = true
  · have := eqB_eq hc hk
    subst this
    rw [if_pos hk]
    split
    · rename_i h
      rw [show mpos kk kv l k' = l.findIdx (fun e => eqB kk k' e.1) from rfl] at h ⊢
      rw [find_modify_at (by exact hk) h]
      rfl
    · rename_i h
      have hn : l.find? (fun e => eqB kk k' e.1) = none := by
        rw [List.find?_eq_none]
        intro x hx hp
        exact h (List.findIdx_lt_length_of_exists ⟨x, hx, hp⟩)
      rw [List.find?_append, hn]
      simp [hk]
  · rw [if_neg hk]
    have hk' : eqB kk k' k = false := by simpa using hk
    split
    · rename_i h
      rw [find_modify (fun y hy => ?_) (by exact hk')]
      obtain ⟨e, he, hp⟩ := mpos_lt h
      rw [he] at hy
      cases hy
      rw [← eqB_eq hc hp]
    · rw [List.find?_append]
      simp [hk']
theorem foldl_snoc {α β : Type} (g : α → β) : ∀ (l : List α) (o : List β), l.foldl (fun o x => o ++ [g x]) o = o ++ l.map g
  | [], o => by simp
  | x :: l, o => by rw [List.foldl_cons, foldl_snoc g l]; simp
end Go.Proofs.Ytjbdhaenakcclaa.Gp

/- Circuits of gates: bits that are joined; the first state. No program in sight. -/
set_option linter.unusedVariables false
noncomputable section
namespace Go.Proofs.Ytjbdhaenakcclaa.Gu
open Go Go.Proofs.Ytjbdhaenakcclaa.Gp

abbrev Gate := Int × Int × Int × Int × Int
abbrev Cir := Int × List Gate × List Int × List Int × List Int

/-- the lowest bit -/
def bitOf (n : Int) : Nat := (ibits .and .i64 n 1).toNat
theorem bit_and (n : Int) : ibits .and .i64 n 1 = (bitOf n : Int) ∧ bitOf n ≤ 1 := by
  have e : (BitVec.ofInt 64 n &&& BitVec.ofInt 64 1).toNat ≤ 1 := by
    rw [BitVec.toNat_and]
    exact Nat.le_trans Nat.and_le_right (by decide)
  have h : ibits .and .i64 n 1 = (((BitVec.ofInt 64 n &&& BitVec.ofInt 64 1).toNat : Nat) : Int) := wrap64_nat (n := (BitVec.ofInt 64 n &&& BitVec.ofInt 64 1).toNat) (by omega)
  unfold bitOf
  rw [h]
  simp only [Int.toNat_natCast]
  exact ⟨trivial, e⟩
theorem pow60 {i : Nat} (h : i ≤ 60) : 2 ^ i ≤ 1152921504606846976 := by
  have : 2 ^ i ≤ 2 ^ 60 := Nat.pow_le_pow_right (by decide) h
  simpa using this
theorem or_bit {m i b : Nat} (hm : m < 2 ^ i) (hb : b ≤ 1) (hi : i ≤ 60) : ibits .or .i64 (m : Int) (shlI .i64 (b : Int) (i : Int)) = ((m + b * 2 ^ i : Nat) : Int) := by
  have hp := pow60 hi
  have hbp : b * 2 ^ i ≤ 2 ^ i := by
    have := Nat.mul_le_mul_right (2 ^ i) hb
    omega
  rw [shlI_nat (by omega) (by omega), ibits_or (by omega) (by omega)]
  congr 1
  have := Nat.two_pow_add_eq_or_of_lt hm b
  rw [Nat.mul_comm b, Nat.add_comm, this, Nat.or_comm]
theorem add_bit {m i b : Nat} (hm : m < 2 ^ i) (hb : b ≤ 1) (hi : i ≤ 60) : w64 ((m : Int) + shlI .i64 (b : Int) (i : Int)) = ((m + b * 2 ^ i : Nat) : Int) := by
  have hp := pow60 hi
  have hbp : b * 2 ^ i ≤ 2 ^ i := by
    have := Nat.mul_le_mul_right (2 ^ i) hb
    omega
  rw [shlI_nat (by omega) (by omega), show ((m : Int) + ((b * 2 ^ i : Nat) : Int)) = ((m + b * 2 ^ i : Nat) : Int) by omega]
  exact w64_nat (by omega)
/-- bits joined, the lowest first -/
def pk (l : List Nat) : Nat := l.foldr (fun b m => b + 2 * m) 0
theorem pk_snoc : ∀ (l : List Nat) (b : Nat), pk (l ++ [b]) = pk l + b * 2 ^ l.length
  | [], b => by simp [pk]
  | x :: l, b => by
    have ih := pk_snoc l b
    simp only [pk, List.cons_append, List.foldr_cons, List.length_cons] at ih ⊢
    rw [ih, Nat.pow_succ, Nat.mul_add, Nat.add_assoc]
    congr 2
    rw [Nat.mul_left_comm, Nat.mul_comm 2 (2 ^ l.length)]
theorem pk_lt : ∀ (l : List Nat), (∀ b ∈ l, b ≤ 1) → pk l < 2 ^ l.length
  | [], _ => by simp [pk]
  | x :: l, h => by
    have ih := pk_lt l (fun b hb => h b (List.mem_cons_of_mem _ hb))
    have := h x List.mem_cons_self
    simp only [pk, List.foldr_cons, List.length_cons, Nat.pow_succ] at ih ⊢
    omega

/-- the first state -/
def first (c : Cir) : Nat := pk ((c.2.2.2.2.take 10).map bitOf)
theorem bits_ok (l : List Int) : ∀ b ∈ l.map bitOf, b ≤ 1 := by
  intro b hb
  obtain ⟨x, _, rfl⟩ := List.mem_map.1 hb
  exact (bit_and x).2
theorem take_snoc {l : List Int} {i : Nat} {x : Int} (h : l[i]? = some x) : l.take (i + 1) = l.take i ++ [x] := by
  rw [List.take_add_one, h]; rfl
theorem start_ev (c : Cir) : Ev (fun k => Start80 k c) ((first c : Int), ()) := by
  unfold Start80
  have e : mnI (c.2.2.2.2.length : Int) 10 = ((min c.2.2.2.2.length 10 : Nat) : Int) := by unfold mnI; split <;> omega
  refine .val (a := c.2.2.2.2.take 10) ?_ (.bind (a := (first c : Int)) (Lp.ev ?_) (.now _))
  · rw [e, show (0 : Int) = ((0 : Nat) : Int) from rfl, slc_ok (Nat.zero_le _) (by omega)]
    simp [List.take_eq_take_iff]
    omega
  generalize hl : c.2.2.2.2.take 10 = l
  have hll : l.length ≤ 10 := by rw [← hl, List.length_take]; omega
  have hf : first c = pk (l.map bitOf) := by unfold first; rw [hl]
  have := Lp.fold (body := fun k => Start80.l0 k l) l (fun (m : List Nat) i => ((pk m : Int), i)) (fun m x => m ++ [bitOf x]) (fun m => (pk m : Int)) (fun i m => m = (l.take i).map bitOf) (fun i x m hx hm => ⟨?_, ?_⟩) (fun m _ => ?_) (b := []) rfl
  · rw [foldl_snoc, List.nil_append, ← hf] at this
    exact this
  · have hi := get_lt hx
    have hlen : m.length = i := by rw [hm, List.length_map, List.length_take]; omega
    have hlt : pk m < 2 ^ i := by rw [← hlen]; exact pk_lt m (by rw [hm]; exact bits_ok _)
    simp only [Start80.l0]
    refine .yes (decide_eq_true (by omega)) (.val (rd_some' hx) (.val (a := shlI .i64 (bitOf x : Int) (i : Int)) ?_ (.now' ?_)))
    · rw [if_neg (by omega), (bit_and x).1]
    · rw [or_bit hlt (bit_and x).2 (by omega), pk_snoc, hlen, w64_id (by omega) (by omega)]
  · rw [hm, take_snoc hx, List.map_append]; rfl
  · simp only [Start80.l0]
    exact .no (by simp) (.now _)
end Go.Proofs.Ytjbdhaenakcclaa.Gu

/- Circuits of gates: what is wrong with one. No program in sight. -/
set_option linter.unusedVariables false
noncomputable section
namespace Go.Proofs.Ytjbdhaenakcclaa.Gu
open Go Go.Proofs.Ytjbdhaenakcclaa.Gp

def needs (kd : Int) : Int := if kd = 3 then 1 else if kd = 4 ∨ kd = 5 ∨ kd = 6 then 2 else if kd = 7 then 3 else 0
def mostN (c : Cir) (kd : Int) : Int := if kd = 0 then 2 else if kd = 1 then c.1 else if kd = 2 then (c.2.2.2.1.length : Int) else 1
def leg (i n k x : Int) : Int := if k < n ∧ (x < 0 ∨ x ≥ i) then 9 else if k ≥ n ∧ x ≠ 0 then 3 else 0
def legs (i : Int) (g : Gate) : Int :=
  if leg i (needs g.1) 0 g.2.1 ≠ 0 then leg i (needs g.1) 0 g.2.1 else
  if leg i (needs g.1) 1 g.2.2.1 ≠ 0 then leg i (needs g.1) 1 g.2.2.1 else leg i (needs g.1) 2 g.2.2.2.1
def oneF (c : Cir) (i : Int) (g : Gate) : Int :=
  if g.1 < 0 ∨ g.1 > 7 then 1 else if legs i g ≠ 0 then legs i g else if g.2.2.2.2 < 0 ∨ g.2.2.2.2 ≥ mostN c g.1 then 1 else 0
theorem kinds {kd : Int} (h : ¬ (kd < 0 ∨ kd > 7)) : kd = 0 ∨ kd = 1 ∨ kd = 2 ∨ kd = 3 ∨ kd = 4 ∨ kd = 5 ∨ kd = 6 ∨ kd = 7 := by omega
theorem inputs_ev (kd : Int) : Ev (fun k => inputs79 k kd) (if kd < 0 ∨ kd > 7 then -1 else needs kd, ()) := by
  unfold inputs79
  have e : cond (decide (kd < 0)) true (decide (kd ≥ 8)) = decide (kd < 0 ∨ kd > 7) := by
    by_cases h : kd < 0
    · simp [h]
    · simp only [decide_eq_false h, cond_false, false_or, h]
      exact decide_eq_decide.2 (by omega)
  rw [e]
  refine .iff (fun h => .now' (by rw [if_pos h])) (fun h => ?_)
  rw [if_neg h]
  rcases kinds h with rfl | rfl | rfl | rfl | rfl | rfl | rfl | rfl <;> exact .val rfl (.val rfl (.now _))

theorem leg_step (c : Cir) (i : Int) (g : Gate) (n j x : Int) (l : List Int) (hl : l = [g.2.1, g.2.2.1, g.2.2.2.1]) (h3 : j < 3) (hx : rd l j = some x) (h0 : 0 ≤ j) :
    Ev (fun k => one72.l0 k i g (n, ()) (c, g, (), j, l)) (if leg i n j x ≠ 0 then .inr (.inr (leg i n j x, ())) else .inl (c, g, (), j + 1, l)) := by
  simp only [one72.l0]
  refine .yes (decide_eq_true (by simpa using h3)) (.val hx (.val hx ?_))
  unfold leg
  by_cases h1 : j < n ∧ (x < 0 ∨ x ≥ i)
  · refine .yes ?_ (.now' (by rw [if_pos h1]; rfl))
    rw [decide_eq_true h1.1]
    rcases h1.2 with h2 | h2
    · rw [decide_eq_true h2]; rfl
    · by_cases h4 : x < 0 <;> simp [h2, h4]
  · refine .no ?_ ?_
    · by_cases h2 : j < n
      · have h5 : ¬ (x < 0 ∨ x ≥ i) := fun h => h1 ⟨h2, h⟩
        simp only [not_or] at h5
        rw [decide_eq_true h2, decide_eq_false h5.1, decide_eq_false h5.2]; rfl
      · rw [decide_eq_false h2]; rfl
    · rw [if_neg h1]
      by_cases h2 : j ≥ n ∧ x ≠ 0
      · refine .yes ?_ (.now' (by rw [if_pos h2]; rfl))
        rw [decide_eq_true h2.1, bne_iff_ne.2 h2.2]; rfl
      · refine .no ?_ (.now' (by rw [if_neg h2, w64_id (by omega) (by omega)]; rfl))
        by_cases h4 : j ≥ n
        · have : x = 0 := by
            by_cases h5 : x = 0
            · exact h5
            · exact absurd ⟨h4, h5⟩ h2
          rw [this]; simp
        · rw [decide_eq_false h4]; rfl
theorem legs_lp {S R : Type} {body : Nat → S → Option (S ⊕ R)} {s0 s1 s2 s3 : S} {r0 r1 r2 r3 : R} {f0 f1 f2 : Int}
    (h0 : Ev (fun k => body k s0) (if f0 ≠ 0 then .inr r0 else .inl s1)) (h1 : Ev (fun k => body k s1) (if f1 ≠ 0 then .inr r1 else .inl s2)) (h2 : Ev (fun k => body k s2) (if f2 ≠ 0 then .inr r2 else .inl s3)) (h3 : Ev (fun k => body k s3) (.inr r3)) :
    Lp body s0 (if f0 ≠ 0 then r0 else if f1 ≠ 0 then r1 else if f2 ≠ 0 then r2 else r3) := by
  by_cases g0 : f0 ≠ 0
  · rw [if_pos g0] at h0 ⊢; exact .done h0
  rw [if_neg g0] at h0 ⊢
  refine .step h0 ?_
  by_cases g1 : f1 ≠ 0
  · rw [if_pos g1] at h1 ⊢; exact .done h1
  rw [if_neg g1] at h1 ⊢
  refine .step h1 ?_
  by_cases g2 : f2 ≠ 0
  · rw [if_pos g2] at h2 ⊢; exact .done h2
  rw [if_neg g2] at h2 ⊢
  exact .step h2 (.done h3)

theorem one_ev (c : Cir) (i : Int) (g : Gate) (hg : rd c.2.1 i = some g) : Ev (fun k => one72 k c i) (oneF c i g, ()) := by
  unfold one72
  refine .val hg (.bind (inputs_ev g.1) ?_)
  unfold oneF
  by_cases h : g.1 < 0 ∨ g.1 > 7
  · rw [if_pos h, if_pos h]; exact .yes rfl (.now _)
  rw [if_neg h, if_neg h]
  have hn : ¬ needs g.1 < 0 := by unfold needs; split <;> (try split) <;> (try split) <;> omega
  refine .no (decide_eq_false hn) ?_
  have hlp := legs_lp (body := fun k => one72.l0 k i g (needs g.1, ())) (s3 := (c, g, (), 3, [g.2.1, g.2.2.1, g.2.2.2.1])) (r3 := .inl (c, g))
    (leg_step c i g (needs g.1) 0 g.2.1 _ rfl (by omega) rfl (by omega)) (leg_step c i g (needs g.1) 1 g.2.2.1 _ rfl (by omega) rfl (by omega)) (leg_step c i g (needs g.1) 2 g.2.2.2.1 _ rfl (by omega) rfl (by omega))
    (by simp only [one72.l0]; exact .no rfl (.now _))
  have hr : (if leg i (needs g.1) 0 g.2.1 ≠ 0 then (.inr (leg i (needs g.1) 0 g.2.1, ()) : (Cir × Gate) ⊕ (Int × Unit)) else if leg i (needs g.1) 1 g.2.2.1 ≠ 0 then .inr (leg i (needs g.1) 1 g.2.2.1, ()) else if leg i (needs g.1) 2 g.2.2.2.1 ≠ 0 then .inr (leg i (needs g.1) 2 g.2.2.2.1, ()) else .inl (c, g)) =
      if legs i g ≠ 0 then .inr (legs i g, ()) else .inl (c, g) := by
    unfold legs
    by_cases g0 : leg i (needs g.1) 0 g.2.1 ≠ 0
    · rw [if_pos g0, if_pos g0, if_pos g0]
    · rw [if_neg g0, if_neg g0]
      by_cases g1 : leg i (needs g.1) 1 g.2.2.1 ≠ 0
      · rw [if_pos g1, if_pos g1, if_pos g1]
      · rw [if_neg g1, if_neg g1]
  rw [hr] at hlp
  by_cases hl : legs i g ≠ 0
  · rw [if_pos hl] at hlp ⊢
    exact .joinR hlp.ev
  · rw [if_neg hl] at hlp ⊢
    refine .joinL (S := Unit) hlp.ev ?_
    have hm : rd ([2, c.1, (List.length c.2.2.2.1 : Int), 1, 1, 1, 1, 1] : List Int) g.1 = some (mostN c g.1) := by
      generalize g.1 = kd at h
      rcases kinds h with rfl | rfl | rfl | rfl | rfl | rfl | rfl | rfl <;> rfl
    refine .val hm (.val hm ?_)
    by_cases h2 : g.2.2.2.2 < 0 ∨ g.2.2.2.2 ≥ mostN c g.1
    · refine .yes ?_ (.now' (by rw [if_pos h2]))
      rcases h2 with h2 | h2
      · simp [h2]
      · by_cases h4 : g.2.2.2.2 < 0 <;> simp [h2, h4]
    · refine .no ?_ (.now' (by rw [if_neg h2]))
      simp only [not_or] at h2
      rw [decide_eq_false h2.1, decide_eq_false h2.2]; rfl
end Go.Proofs.Ytjbdhaenakcclaa.Gu

/- Circuits of gates: what is wrong with one, said twice. No program in sight. -/
set_option linter.unusedVariables false
noncomputable section
namespace Go.Proofs.Ytjbdhaenakcclaa.Gu
open Go Go.Proofs.Ytjbdhaenakcclaa.Gp

def nds : List (Int × Int) := mput (.int .i64) (.int .i64) (mput (.int .i64) (.int .i64) (mput (.int .i64) (.int .i64) (mput (.int .i64) (.int .i64) (mput (.int .i64) (.int .i64) ([] : (List (Int × Int))) (3 : Int) (1 : Int)) (4 : Int) (2 : Int)) (5 : Int) (2 : Int)) (6 : Int) (2 : Int)) (7 : Int) (3 : Int)
theorem nds_get {kd : Int} (h : ¬ (kd < 0 ∨ kd > 7)) : Option.getD (α := Int) (mget (.int .i64) (.int .i64) nds kd) (0 : Int) = needs kd := by
  rcases kinds h with rfl | rfl | rfl | rfl | rfl | rfl | rfl | rfl <;> rfl
theorem most_get (c : Cir) {kd : Int} (h : ¬ (kd < 0 ∨ kd > 7)) : Option.getD (α := Int) (mget (.int .i64) (.int .i64) (mput (.int .i64) (.int .i64) (mput (.int .i64) (.int .i64) (mput (.int .i64) (.int .i64) ([] : (List (Int × Int))) (0 : Int) (1 : Int)) (1 : Int) (w64 (c.1 - 1))) (2 : Int) (w64 ((List.length c.2.2.2.1 : Int) - 1))) kd) (0 : Int) =
    if kd = 0 then 1 else if kd = 1 then w64 (c.1 - 1) else if kd = 2 then w64 ((List.length c.2.2.2.1 : Int) - 1) else 0 := by
  rcases kinds h with rfl | rfl | rfl | rfl | rfl | rfl | rfl | rfl <;> rfl

theorem leg_step2 (c : Cir) (i : Int) (g : Gate) (hi0 : 0 ≤ i) (hi1 : i ≤ 1000) (t62 : Option Int) (n j x : Int) (ht : Option.getD (α := Int) t62 (0 : Int) = n) (h3 : j < 3) (hx : rd ([g.2.1, g.2.2.1, g.2.2.2.1] : List Int) j = some x) (h0 : 0 ≤ j) :
    Ev (fun k => CircuitFault14.l0 k i g t62 (c, g, j)) (if leg i n j x ≠ 0 then .inr (.inr (.inr (.inr (leg i n j x, ())))) else .inl (c, g, j + 1)) := by
  simp only [CircuitFault14.l0, ht]
  refine .yes (decide_eq_true h3) (.val hx ?_)
  rw [w64_id (x := i - 1) (by omega) (by omega)]
  unfold leg
  by_cases h2 : j ≥ n ∧ x ≠ 0
  · have h1 : ¬ (j < n ∧ (x < 0 ∨ x ≥ i)) := fun h => by omega
    refine .yes ?_ (.now' (by rw [if_neg h1, if_pos h2]; rfl))
    rw [decide_eq_true h2.1, bne_iff_ne.2 h2.2]; rfl
  · refine .no ?_ ?_
    · by_cases h4 : j ≥ n
      · have : x = 0 := by
          by_cases h5 : x = 0
          · exact h5
          · exact absurd ⟨h4, h5⟩ h2
        rw [this]; simp
      · rw [decide_eq_false h4]; rfl
    · by_cases h1 : j < n ∧ (x < 0 ∨ x ≥ i)
      · refine .yes ?_ (.now' (by rw [if_pos h1]; rfl))
        rw [decide_eq_true h1.1]
        rcases h1.2 with h5 | h5
        · rw [decide_eq_true h5]; rfl
        · rw [decide_eq_true (show x > i - 1 by omega)]
          by_cases h4 : x < 0 <;> simp [h4]
      · refine .no ?_ (.now' (by rw [if_neg h1, if_neg h2, w64_id (by omega) (by omega)]; rfl))
        by_cases h5 : j < n
        · have h6 : ¬ (x < 0 ∨ x ≥ i) := fun h => h1 ⟨h5, h⟩
          simp only [not_or] at h6
          rw [decide_eq_true h5, decide_eq_false h6.1, decide_eq_false (by omega)]; rfl
        · rw [decide_eq_false h5]; rfl

/-- all gates -/
def gW (c : Cir) (b : Nat) (g : Gate) : Nat ⊕ (Cir ⊕ (Int × Unit)) := if oneF c b g = 0 then .inl (b + 1) else .inr (.inr (oneF c b g, ()))
def gatesW (c : Cir) : Cir ⊕ (Int × Unit) := walk (gW c) (fun _ => .inl c) c.2.1 0
theorem check_gates (c : Cir) (hl : c.2.1.length ≤ 400) : Lp (fun k => Check18.l0 k c) (c, 0) (gatesW c) := by
  refine Lp.walk (body := fun k => Check18.l0 k c) c.2.1 (fun (_ : Nat) i => (c, i)) (gW c) (fun _ => .inl c) (fun i b => b = i) (fun i g b hx hb => ⟨?_, fun b' h => ?_⟩) (fun b _ => ?_) (b := 0) rfl
  · have hi := get_lt hx
    subst hb
    simp only [Check18.l0]
    refine .yes (decide_eq_true (by omega)) (.bind (one_ev c b g (rd_some' hx)) ?_)
    unfold gW
    by_cases h : oneF c b g = 0
    · rw [if_pos h]
      refine .no (by rw [h]; rfl) (.now' ?_)
      rw [w64_id (by omega) (by omega)]
    · rw [if_neg h]
      exact .yes (bne_iff_ne.2 h) (.now _)
  · subst hb
    unfold gW at h
    split at h <;> cases h
    rfl
  · simp only [Check18.l0]
    exact .no (by simp) (.now _)
theorem fault_gates (c : Cir) (hl : c.2.1.length ≤ 400) (h0 : 0 ≤ c.1) (h1 : c.1 ≤ 10) (h2 : c.2.2.2.1.length ≤ 10) : Lp (fun k => CircuitFault14.l1 k c) (c, 0) (gatesW c) := by
  refine Lp.walk (body := fun k => CircuitFault14.l1 k c) c.2.1 (fun (_ : Nat) i => (c, i)) (gW c) (fun _ => .inl c) (fun i b => b = i) (fun i g b hx hb => ⟨?_, fun b' h => ?_⟩) (fun b _ => ?_) (b := 0) rfl
  · have hi := get_lt hx
    subst hb
    simp only [CircuitFault14.l1]
    refine .yes (decide_eq_true (by omega)) (.val (rd_some' hx) ?_)
    have e : cond (decide (g.1 < 0)) true (decide (g.1 > 7)) = decide (g.1 < 0 ∨ g.1 > 7) := by by_cases h : g.1 < 0 <;> simp [h]
    rw [e]
    unfold gW oneF
    refine .iff (fun h => .now' ?_) (fun h => ?_)
    · rw [if_pos h, if_neg (show ¬ (1 : Int) = 0 by omega)]
    rw [if_neg h]
    have hn : Option.getD (α := Int) (mget (.int .i64) (.int .i64) nds g.1) (0 : Int) = needs g.1 := nds_get h
    have hlp := legs_lp (body := fun k => CircuitFault14.l0 k b g (mget (.int .i64) (.int .i64) nds g.1)) (s3 := (c, g, 3)) (r3 := .inl (c, g))
      (leg_step2 c b g (by omega) (by omega) _ (needs g.1) 0 g.2.1 hn (by omega) rfl (by omega)) (leg_step2 c b g (by omega) (by omega) _ (needs g.1) 1 g.2.2.1 hn (by omega) rfl (by omega)) (leg_step2 c b g (by omega) (by omega) _ (needs g.1) 2 g.2.2.2.1 hn (by omega) rfl (by omega))
      (by simp only [CircuitFault14.l0]; exact .no rfl (.now _))
    have hr : (if leg b (needs g.1) 0 g.2.1 ≠ 0 then (.inr (.inr (.inr (leg b (needs g.1) 0 g.2.1, ()))) : (Cir × Gate) ⊕ ((Cir × Int) ⊕ (Cir ⊕ (Int × Unit)))) else if leg b (needs g.1) 1 g.2.2.1 ≠ 0 then .inr (.inr (.inr (leg b (needs g.1) 1 g.2.2.1, ()))) else if leg b (needs g.1) 2 g.2.2.2.1 ≠ 0 then .inr (.inr (.inr (leg b (needs g.1) 2 g.2.2.2.1, ()))) else .inl (c, g)) =
        if legs b g ≠ 0 then .inr (.inr (.inr (legs b g, ()))) else .inl (c, g) := by
      unfold legs
      by_cases g0 : leg b (needs g.1) 0 g.2.1 ≠ 0
      · rw [if_pos g0, if_pos g0, if_pos g0]
      · rw [if_neg g0, if_neg g0]
        by_cases g1 : leg b (needs g.1) 1 g.2.2.1 ≠ 0
        · rw [if_pos g1, if_pos g1, if_pos g1]
        · rw [if_neg g1, if_neg g1]
    rw [hr] at hlp
    by_cases hl : legs b g ≠ 0
    · rw [if_pos hl] at hlp ⊢
      refine .joinR (hlp.ev.to ?_)
      rw [if_neg hl]
    · rw [if_neg hl] at hlp ⊢
      refine .joinL (S := Unit) hlp.ev ?_
      dsimp only
      rw [most_get c h]
      have hm : (g.2.2.2.2 > if g.1 = 0 then 1 else if g.1 = 1 then w64 (c.1 - 1) else if g.1 = 2 then w64 ((List.length c.2.2.2.1 : Int) - 1) else 0) ↔ g.2.2.2.2 ≥ mostN c g.1 := by
        rw [w64_id (x := c.1 - 1) (by omega) (by omega), w64_id (x := (List.length c.2.2.2.1 : Int) - 1) (by omega) (by omega)]
        unfold mostN
        split <;> (try split) <;> (try split) <;> omega
      by_cases h5 : g.2.2.2.2 < 0 ∨ g.2.2.2.2 ≥ mostN c g.1
      · rw [if_pos h5, if_neg (show ¬ (1 : Int) = 0 by omega)]
        refine .yes ?_ (.now _)
        rcases h5 with h5 | h5
        · rw [decide_eq_true h5]; rfl
        · rw [decide_eq_true (hm.2 h5)]
          by_cases h4 : g.2.2.2.2 < 0 <;> simp [h4]
      · rw [if_neg h5, if_pos (rfl : (0 : Int) = 0)]
        simp only [not_or] at h5
        refine .no ?_ (.now' ?_)
        · rw [decide_eq_false h5.1, decide_eq_false (fun h => h5.2 (hm.1 h))]; rfl
        · rw [w64_id (by omega) (by omega)]
  · subst hb
    unfold gW at h
    split at h <;> cases h
    rfl
  · simp only [CircuitFault14.l1]
    exact .no (by simp) (.now _)
end Go.Proofs.Ytjbdhaenakcclaa.Gu

/- Circuits of gates: the checks are one. No program in sight. -/

set_option linter.unusedVariables false
noncomputable section
namespace Go.Proofs.Ytjbdhaenakcclaa.Gu
open Go Go.Proofs.Ytjbdhaenakcclaa.Gp

theorem walk_bad {α R : Type} (bad : α → Bool) (e fin : R) : ∀ (l : List α), walk (fun (_ : Unit) x => if bad x then (.inr e : Unit ⊕ R) else .inl ()) (fun _ => fin) l () = if l.any bad then e else fin
  | [] => rfl
  | x :: l => by
    rw [walk_cons, List.any_cons]
    cases h : bad x with
    | true => simp
    | false => simpa using walk_bad bad e fin l
def badX (c : Cir) (x : Int) : Bool := decide (x < 0 ∨ x ≥ (c.2.1.length : Int))
theorem badX_or (c : Cir) (x : Int) : cond (decide (x < 0)) true (decide (x ≥ (c.2.1.length : Int))) = badX c x := by
  unfold badX
  by_cases h : x < 0 <;> simp [h]
theorem check_range (c : Cir) (l : List Int) (hl : l.length ≤ 1000) : Lp (fun k => Check18.l1 k (l, ())) (c, 0) (if l.any (badX c) then .inr (4, ()) else .inl c) := by
  rw [← walk_bad (R := Cir ⊕ (Int × Unit))]
  refine Lp.walk (body := fun k => Check18.l1 k (l, ())) l (fun (_ : Unit) i => (c, i)) _ _ (fun _ _ => True) (fun i x b hx _ => ⟨?_, fun _ _ => trivial⟩) (fun b _ => ?_) (b := ()) trivial
  · have hi := get_lt hx
    simp only [Check18.l1]
    refine .yes (decide_eq_true (by omega)) (.val (rd_some' hx) (.cnd (fun h => .now' ?_) (fun h => .now' ?_)))
    · rw [badX_or] at h; rw [if_pos h]
    · rw [badX_or] at h; rw [h, w64_id (by omega) (by omega)]; rfl
  · simp only [Check18.l1]
    exact .no (by simp) (.now _)
theorem fault_range1 (c : Cir) (l : List Int) (o : List (List Int)) (hl : l.length ≤ 1000) : Lp (fun k => CircuitFault14.l2 k l) (c, (), 0, o) (if l.any (badX c) then .inr (.inr (.inr (4, ()))) else .inl (c, (), o)) := by
  rw [← walk_bad (R := (Cir × (Unit × (List (List Int)))) ⊕ ((Cir × (Unit × (Int × (List (List Int))))) ⊕ (Cir ⊕ (Int × Unit))))]
  refine Lp.walk (body := fun k => CircuitFault14.l2 k l) l (fun (_ : Unit) i => (c, (), i, o)) _ _ (fun _ _ => True) (fun i x b hx _ => ⟨?_, fun _ _ => trivial⟩) (fun b _ => ?_) (b := ()) trivial
  · have hi := get_lt hx
    simp only [CircuitFault14.l2]
    refine .yes (decide_eq_true (by omega)) (.val (rd_some' hx) (.cnd (fun h => .now' ?_) (fun h => .now' ?_)))
    · rw [badX_or] at h; rw [if_pos h]
    · rw [badX_or] at h; rw [h, w64_id (by omega) (by omega)]; rfl
  · simp only [CircuitFault14.l2]
    exact .no (by simp) (.now _)
theorem fault_range (c : Cir) (h1 : c.2.2.1.length ≤ 10) (h2 : c.2.2.2.1.length ≤ 10) : Lp (fun k => CircuitFault14.l3 k c) (c, (), 0, [c.2.2.1, c.2.2.2.1]) (if (c.2.2.1 ++ c.2.2.2.1).any (badX c) then .inr (4, ()) else .inl c) := by
  have r1 := fault_range1 c c.2.2.1 [c.2.2.1, c.2.2.2.1] (by omega)
  have r2 := fault_range1 c c.2.2.2.1 [c.2.2.1, c.2.2.2.1] (by omega)
  rw [List.any_append]
  cases e1 : c.2.2.1.any (badX c) with
  | true =>
    rw [e1] at r1
    refine .done ?_
    simp only [CircuitFault14.l3]
    exact .yes rfl (.val rfl (.val rfl (.joinR r1.ev)))
  | false =>
    rw [e1] at r1
    refine .step (s' := (c, (), 1, [c.2.2.1, c.2.2.2.1])) ?_ ?_
    · simp only [CircuitFault14.l3]
      exact .yes rfl (.val rfl (.val rfl (.joinL (S := Unit) r1.ev (.now' (by rw [w64_id (by omega) (by omega)]; rfl)))))
    · cases e2 : c.2.2.2.1.any (badX c) with
      | true =>
        rw [e2] at r2
        refine .done ?_
        simp only [CircuitFault14.l3]
        exact .yes rfl (.val rfl (.val rfl (.joinR r2.ev)))
      | false =>
        rw [e2] at r2
        refine .step (s' := (c, (), 2, [c.2.2.1, c.2.2.2.1])) ?_ (.done ?_)
        · simp only [CircuitFault14.l3]
          exact .yes rfl (.val rfl (.val rfl (.joinL (S := Unit) r2.ev (.now' (by rw [w64_id (by omega) (by omega)]; rfl)))))
        · simp only [CircuitFault14.l3]
          exact .no rfl (.now _)

def bad1 (x : Int) : Bool := decide (x ≠ 0 ∧ x ≠ 1)
theorem check_init (c : Cir) (hl : c.2.2.2.2.length ≤ 1000) : Lp (fun k => Check18.l2 k c) 0 (if c.2.2.2.2.any bad1 then .inr (1, ()) else .inl ()) := by
  rw [← walk_bad (R := Unit ⊕ (Int × Unit))]
  refine Lp.walk (body := fun k => Check18.l2 k c) c.2.2.2.2 (fun (_ : Unit) i => i) _ _ (fun _ _ => True) (fun i x b hx _ => ⟨?_, fun _ _ => trivial⟩) (fun b _ => ?_) (b := ()) trivial
  · have hi := get_lt hx
    simp only [Check18.l2]
    have e : cond (x != 0) (x != 1) false = bad1 x := by
      unfold bad1
      by_cases h0 : x = 0 <;> by_cases h1 : x = 1 <;> simp [h0, h1]
    refine .yes (decide_eq_true (by omega)) (.val (rd_some' hx) (.cnd (fun h => .now' ?_) (fun h => .now' ?_)))
    · rw [e] at h; rw [if_pos h]
    · rw [e] at h; rw [h, w64_id (by omega) (by omega)]; rfl
  · simp only [Check18.l2]
    exact .no (by simp) (.now _)
theorem wrap_zero {m : Nat} (h : m < 18446744073709551616) (h0 : IntKind.wrap .i64 (m : Int) = 0) : m = 0 := by
  have e : (2 : Int) ^ (64 - 1) = 9223372036854775808 := by decide
  have e2 : (2 : Int) ^ 64 = 18446744073709551616 := by decide
  simp only [IntKind.wrap, IntKind.signed, IntKind.bits, Bool.true_and, decide_eq_true_eq, e, e2] at h0
  split at h0 <;> omega
theorem andNot_bad {x : Int} (h0 : -9223372036854775808 ≤ x) (h1 : x ≤ 9223372036854775807) : (ibits .andNot .i64 x 1 != 0) = bad1 x := by
  have e : ibits .andNot .i64 x 1 = IntKind.wrap .i64 (((BitVec.ofInt 64 x &&& ~~~ BitVec.ofInt 64 1).toNat : Nat) : Int) := rfl
  unfold bad1
  by_cases hx : x = 0
  · subst hx; rfl
  by_cases hx1 : x = 1
  · subst hx1; rfl
  rw [show decide (x ≠ 0 ∧ x ≠ 1) = true from decide_eq_true ⟨hx, hx1⟩, bne_iff_ne]
  intro hz
  rw [e] at hz
  have hn := wrap_zero (BitVec.isLt _) hz
  have h3 : BitVec.ofInt 64 x = BitVec.ofInt 64 x &&& BitVec.ofInt 64 1 := by
    have hz : BitVec.ofInt 64 x &&& ~~~ BitVec.ofInt 64 1 = 0#64 := BitVec.eq_of_toNat_eq hn
    apply BitVec.eq_of_getLsbD_eq
    intro i hi
    have := congrArg (fun v => BitVec.getLsbD v i) hz
    simp only [BitVec.getLsbD_and, BitVec.getLsbD_not, BitVec.getLsbD_zero, hi, decide_true, Bool.true_and] at this
    rw [BitVec.getLsbD_and]
    cases h4 : (BitVec.ofInt 64 x).getLsbD i <;> cases h5 : (BitVec.ofInt 64 1).getLsbD i <;> simp_all
  have h4 : (BitVec.ofInt 64 x).toNat ≤ 1 := by
    rw [h3, BitVec.toNat_and]
    exact Nat.le_trans Nat.and_le_right (by decide)
  rw [BitVec.toNat_ofInt] at h4
  have e2 : ((2 ^ 64 : Nat) : Int) = 18446744073709551616 := by decide
  rw [e2] at h4
  omega
theorem fault_init (c : Cir) (hl : c.2.2.2.2.length ≤ 1000) (hw : ∀ x ∈ c.2.2.2.2, -9223372036854775808 ≤ x ∧ x ≤ 9223372036854775807) : Lp (fun k => CircuitFault14.l4 k c) 0 (if c.2.2.2.2.any bad1 then .inr (1, ()) else .inl ()) := by
  rw [← walk_bad (R := Unit ⊕ (Int × Unit))]
  refine Lp.walk (body := fun k => CircuitFault14.l4 k c) c.2.2.2.2 (fun (_ : Unit) i => i) _ _ (fun _ _ => True) (fun i x b hx _ => ⟨?_, fun _ _ => trivial⟩) (fun b _ => ?_) (b := ()) trivial
  · have hi := get_lt hx
    simp only [CircuitFault14.l4]
    have e := andNot_bad (hw x (get_mem hx)).1 (hw x (get_mem hx)).2
    refine .yes (decide_eq_true (by omega)) (.val (rd_some' hx) (.cnd (fun h => .now' ?_) (fun h => .now' ?_)))
    · rw [e] at h; rw [if_pos h]
    · rw [e] at h; rw [h, w64_id (by omega) (by omega)]; rfl
  · simp only [CircuitFault14.l4]
    exact .no (by simp) (.now _)

def large (c : Cir) : Bool := decide (c.1 < 0 ∨ c.1 > 10 ∨ c.2.1.length > 400 ∨ c.2.2.1.length > 10 ∨ c.2.2.2.1.length > 10)
theorem large_or (c : Cir) : cond (cond (cond (cond (decide (c.1 < 0)) true (decide (c.1 > 10))) true (decide ((List.length c.2.1 : Int) > 400))) true (decide ((List.length c.2.2.1 : Int) > 10))) true (decide ((List.length c.2.2.2.1 : Int) > 10)) = large c := by
  have e : ∀ a b : Bool, cond a true b = (a || b) := fun a b => by cases a <;> rfl
  simp only [e, large, ← Bool.decide_or]
  exact decide_eq_decide.2 (by omega)
def rest (c : Cir) : Int := if (c.2.2.1 ++ c.2.2.2.1).any (badX c) then 4 else if c.2.2.2.2.any bad1 then 1 else 0
def fault (c : Cir) : Int := if large c then 2 else if c.2.2.2.2.length ≠ c.2.2.2.1.length then 3 else match gatesW c with | .inr e => e.1 | .inl _ => rest c
theorem gatesW_inl (c : Cir) {a : Cir} (h : gatesW c = .inl a) : a = c := by
  have : ∀ (l : List Gate) (b : Nat), walk (gW c) (fun _ => (.inl c : Cir ⊕ (Int × Unit))) l b = .inl a → a = c := by
    intro l
    induction l with
    | nil => intro b h; exact (Sum.inl.inj h).symm
    | cons x l ih =>
      intro b h
      rw [walk_cons] at h
      unfold gW at h
      split at h
      · rename_i b' hb
        exact ih _ h
      · rename_i r hr
        split at hr
        · cases hr
        · cases hr; cases h
  exact this _ _ h
theorem ne_len (c : Cir) : ((List.length c.2.2.2.2 : Int) != (List.length c.2.2.2.1 : Int)) = decide (c.2.2.2.2.length ≠ c.2.2.2.1.length) := by
  rw [Bool.eq_iff_iff, bne_iff_ne, decide_eq_true_iff]; omega
end Go.Proofs.Ytjbdhaenakcclaa.Gu

/- Circuits of gates: the checks are one. No program in sight. -/
set_option linter.unusedVariables false
noncomputable section
namespace Go.Proofs.Ytjbdhaenakcclaa.Gu
open Go Go.Proofs.Ytjbdhaenakcclaa.Gp

theorem room_small {n : Nat} (h : n ≤ 1000) : room n 8 = true := room_ok (by omega)
theorem concat_ev (a b : List Int) (h : a.length + b.length ≤ 1000) : Ev (fun k => Concat59 k [a, b]) (a ++ b, ()) := by
  unfold Concat59
  refine .bind (a := (((a.length + b.length : Nat) : Int))) (Lp.ev ?_) (.bind (a := ((), [])) ?_ (.bind (a := ((), a ++ b)) (Lp.ev ?_) (.now _)))
  · refine Lp.step (s' := ((a.length : Int), 1)) ?_ (Lp.step (s' := (((a.length + b.length : Nat) : Int), 2)) ?_ (Lp.done ?_))
    · simp only [Concat59.l0]
      refine .yes (by simp) (.val (a := a) rfl ?_)
      simp only [w64_id (x := 0 + (a.length : Int)) (by omega) (by omega)]
      refine .val (a := ()) ?_ (.now' ?_)
      · rw [decide_eq_false (by omega)]; rfl
      · simp [w64_id]
    · simp only [Concat59.l0]
      refine .yes (by simp) (.val (a := b) rfl ?_)
      simp only [w64_id (x := (a.length : Int) + (b.length : Int)) (by omega) (by omega)]
      refine .val (a := ()) ?_ (.now' ?_)
      · rw [decide_eq_false (by omega)]; rfl
      · simp [w64_id]
    · simp only [Concat59.l0]
      exact .no (by simp) (.now _)
  · generalize hn : a.length + b.length = n
    have hn' : n ≤ 1000 := hn ▸ h
    unfold Grow112
    have e : w64 ((n : Int) - w64 (0 - 0)) = n := by
      rw [show w64 (0 - 0) = 0 from w64_id (by omega) (by omega), w64_id (by omega) (by omega)]; omega
    refine .val (a := ()) ?_ ?_
    · rw [decide_eq_false (by omega)]; rfl
    · simp only [e]
      refine .bind (a := ((), [])) ?_ (.now _)
      refine .iff (fun h1 => ?_) (fun _ => .now _)
      refine .val (a := ()) (by simp) (.val (a := ()) (by rw [if_pos ⟨h1, by omega⟩]) (.val (a := []) ?_ (.now _)))
      rw [show ((0 : Int)) = ((0 : Nat) : Int) from rfl, slc_ok (Nat.le_refl _) (Nat.zero_le _)]
      rfl
  · refine Lp.step (s' := ((), 1, a)) ?_ (Lp.step (s' := ((), 2, a ++ b)) ?_ (Lp.done ?_))
    · simp only [Concat59.l1]
      refine .yes (by simp) (.val (a := a) rfl (.val (a := ()) ?_ (.now' ?_)))
      · simp [room_small (n := a.length) (by omega)]
      · simp [w64_id]
    · simp only [Concat59.l1]
      refine .yes (by simp) (.val (a := b) rfl (.val (a := ()) ?_ (.now' ?_)))
      · simp [room_small (n := a.length + b.length) (by omega)]
      · simp [w64_id]
    · simp only [Concat59.l1]
      exact .no (by simp) (.now _)


theorem small_of {c : Cir} (h : large c = false) : 0 ≤ c.1 ∧ c.1 ≤ 10 ∧ c.2.1.length ≤ 400 ∧ c.2.2.1.length ≤ 10 ∧ c.2.2.2.1.length ≤ 10 := by
  unfold large at h
  have := of_decide_eq_false h
  omega
theorem check_ev (c : Cir) : Ev (fun k => Check18 k c) (fault c, ()) := by
  unfold Check18
  refine .cnd (fun h => ?_) (fun h => ?_)
  · rw [large_or] at h
    exact .now' (by unfold fault; rw [if_pos h])
  rw [large_or] at h
  obtain ⟨s0, s1, s2, s3, s4⟩ := small_of h
  refine .cnd (fun h2 => ?_) (fun h2 => ?_)
  · rw [ne_len] at h2
    exact .now' (by unfold fault; rw [h, if_neg (by simp), if_pos (of_decide_eq_true h2)])
  rw [ne_len] at h2
  have h2 := of_decide_eq_false h2
  have hf : fault c = match gatesW c with | .inr e => e.1 | .inl _ => rest c := by
    unfold fault; rw [h, if_neg (by simp), if_neg h2] <;> (cases gatesW c <;> rfl)
  have hi : c.2.2.2.2.length ≤ 10 := by
    by_cases h3 : c.2.2.2.2.length = c.2.2.2.1.length
    · omega
    · exact absurd h3 h2
  refine .join (check_gates c s2).ev (fun a ha => ?_) (fun r hr => ?_)
  · obtain rfl := gatesW_inl c ha
    rw [ha] at hf
    rw [hf]
    refine .bind (concat_ev a.2.2.1 a.2.2.2.1 (by omega)) ?_
    have h1 := check_range a (a.2.2.1 ++ a.2.2.2.1) (by rw [List.length_append]; omega)
    have h3 := check_init a (by omega)
    unfold rest
    cases e1 : (a.2.2.1 ++ a.2.2.2.1).any (badX a) with
    | true => rw [e1] at h1; exact .joinR h1.ev
    | false =>
      rw [e1] at h1
      refine .joinL (S := Unit) h1.ev ?_
      cases e2 : a.2.2.2.2.any bad1 with
      | true => rw [e2] at h3; exact .joinR h3.ev
      | false => rw [e2] at h3; exact .joinL (S := Unit) (a := ()) h3.ev (.now _)
  · rw [hf, hr]
theorem cfault_ev (c : Cir) (hw : ∀ x ∈ c.2.2.2.2, -9223372036854775808 ≤ x ∧ x ≤ 9223372036854775807) : Ev (fun k => CircuitFault14 k c) (fault c, ()) := by
  unfold CircuitFault14
  refine .cnd (fun h => ?_) (fun h => ?_)
  · rw [large_or] at h
    exact .now' (by unfold fault; rw [if_pos h])
  rw [large_or] at h
  obtain ⟨s0, s1, s2, s3, s4⟩ := small_of h
  refine .cnd (fun h2 => ?_) (fun h2 => ?_)
  · rw [ne_len] at h2
    exact .now' (by unfold fault; rw [h, if_neg (by simp), if_pos (of_decide_eq_true h2)])
  rw [ne_len] at h2
  have h2 := of_decide_eq_false h2
  have hf : fault c = match gatesW c with | .inr e => e.1 | .inl _ => rest c := by
    unfold fault; rw [h, if_neg (by simp), if_neg h2] <;> (cases gatesW c <;> rfl)
  have hi : c.2.2.2.2.length ≤ 10 := by
    by_cases h3 : c.2.2.2.2.length = c.2.2.2.1.length
    · omega
    · exact absurd h3 h2
  refine .join (fault_gates c s2 s0 s1 s4).ev (fun a ha => ?_) (fun r hr => ?_)
  · obtain rfl := gatesW_inl c ha
    rw [ha] at hf
    rw [hf]
    have h1 := fault_range a s3 s4
    have h3 := fault_init a (by omega) hw
    unfold rest
    cases e1 : (a.2.2.1 ++ a.2.2.2.1).any (badX a) with
    | true => rw [e1] at h1; exact .joinR h1.ev
    | false =>
      rw [e1] at h1
      refine .joinL (S := Unit) h1.ev ?_
      cases e2 : a.2.2.2.2.any bad1 with
      | true => rw [e2] at h3; exact .joinR h3.ev
      | false => rw [e2] at h3; exact .joinL (S := Unit) (a := ()) h3.ev (.now _)
  · rw [hf, hr]

/-- a right circuit -/
structure Right (c : Cir) : Prop where
  ins : 0 ≤ c.1 ∧ c.1 ≤ 10
  gates : c.2.1.length ≤ 400
  outs : c.2.2.1.length ≤ 10 ∧ ∀ x ∈ c.2.2.1, 0 ≤ x ∧ x < (c.2.1.length : Int)
  next : c.2.2.2.1.length ≤ 10 ∧ ∀ x ∈ c.2.2.2.1, 0 ≤ x ∧ x < (c.2.1.length : Int)
  gate : ∀ (i : Nat) (g : Gate), c.2.1[i]? = some g → oneF c i g = 0
theorem right_of (c : Cir) (h : fault c = 0) : Right c := by
  unfold fault at h
  split at h
  · omega
  rename_i hl
  have hl : large c = false := by simpa using hl
  obtain ⟨s0, s1, s2, s3, s4⟩ := small_of hl
  split at h
  · omega
  have hone : ∀ (l : List Gate) (b : Nat), (∀ r, walk (gW c) (fun _ => (.inl c : Cir ⊕ (Int × Unit))) l b = .inr r → r.1 ≠ 0) ∧ ((∃ a, walk (gW c) (fun _ => (.inl c : Cir ⊕ (Int × Unit))) l b = .inl a) → ∀ (i : Nat) (g : Gate), l[i]? = some g → oneF c ((b + i : Nat) : Int) g = 0) := by
    intro l
    induction l with
    | nil => intro b; exact ⟨fun r hr => (by cases hr), fun _ i g hg => (by simp at hg)⟩
    | cons x l ih =>
      intro b
      rw [walk_cons]
      unfold gW
      by_cases h0 : oneF c b x = 0
      · rw [if_pos h0]
        refine ⟨(ih (b + 1)).1, fun ha i g hg => ?_⟩
        cases i with
        | zero =>
          have : x = g := by simpa using hg
          rw [← this]; exact h0
        | succ i =>
          have := (ih (b + 1)).2 ha i g (by simpa using hg)
          rwa [show b + 1 + i = b + (i + 1) by omega] at this
      · rw [if_neg h0]
        exact ⟨fun r hr => (by cases hr; exact h0), fun ⟨a, ha⟩ => (by cases ha)⟩
  cases hg : gatesW c with
  | inr r =>
    rw [hg] at h
    exact absurd h ((hone c.2.1 0).1 r hg)
  | inl a =>
    rw [hg] at h
    have h : rest c = 0 := h
    unfold rest at h
    split at h
    · omega
    rename_i hr
    have hr : ∀ x ∈ c.2.2.1 ++ c.2.2.2.1, 0 ≤ x ∧ x < (c.2.1.length : Int) := by
      intro x hx
      have : (c.2.2.1 ++ c.2.2.2.1).any (badX c) = false := by simpa using hr
      rw [List.any_eq_false] at this
      have := this x hx
      unfold badX at this
      simp only [decide_eq_true_eq] at this
      omega
    exact ⟨⟨s0, s1⟩, s2, ⟨s3, fun x hx => hr x (List.mem_append_left _ hx)⟩, ⟨s4, fun x hx => hr x (List.mem_append_right _ hx)⟩, fun i g hgi => by
      have := (hone c.2.1 0).2 ⟨a, hg⟩ i g hgi
      rwa [Nat.zero_add] at this⟩
end Go.Proofs.Ytjbdhaenakcclaa.Gu

/- Circuits of gates: the values of all gates. No program in sight. -/
set_option linter.unusedVariables false
noncomputable section
namespace Go.Proofs.Ytjbdhaenakcclaa.Gu
open Go Go.Proofs.Ytjbdhaenakcclaa.Gp

/-- the value of a gate behind others -/
def valG (st inn : Int) (v : List Nat) (g : Gate) : Nat :=
  if g.1 = 0 then g.2.2.2.2.toNat else
  if g.1 = 1 then bitOf (shrI .i64 inn g.2.2.2.2) else
  if g.1 = 2 then bitOf (shrI .i64 st g.2.2.2.2) else
  if g.1 = 3 then 1 - v.getD g.2.1.toNat 0 else
  if g.1 = 4 then v.getD g.2.1.toNat 0 &&& v.getD g.2.2.1.toNat 0 else
  if g.1 = 5 then v.getD g.2.1.toNat 0 ||| v.getD g.2.2.1.toNat 0 else
  if g.1 = 6 then v.getD g.2.1.toNat 0 ^^^ v.getD g.2.2.1.toNat 0 else
  if v.getD g.2.1.toNat 0 = 1 then v.getD g.2.2.1.toNat 0 else v.getD g.2.2.2.1.toNat 0
def vS (st inn : Int) (v : List Nat) (g : Gate) : List Nat := v ++ [valG st inn v g]
def vals (st inn : Int) (l : List Gate) : List Nat := l.foldl (vS st inn) []
theorem vals_snoc (st inn : Int) (l : List Gate) (g : Gate) : vals st inn (l ++ [g]) = vals st inn l ++ [valG st inn (vals st inn l) g] := by
  unfold vals; rw [List.foldl_append]; rfl
theorem vals_len (st inn : Int) (l : List Gate) : (vals st inn l).length = l.length := by
  have : ∀ (l : List Gate) (v : List Nat), (l.foldl (vS st inn) v).length = v.length + l.length := by
    intro l
    induction l with
    | nil => intro v; rfl
    | cons x l ih => intro v; rw [List.foldl_cons, ih]; simp [vS]; omega
  unfold vals; rw [this]; simp
theorem leg_ok {i n k x : Int} (h : leg i n k x = 0) (hk : k < n) : 0 ≤ x ∧ x < i := by
  unfold leg at h
  split at h
  · omega
  · rename_i h1
    by_cases h2 : x < 0 ∨ x ≥ i
    · exact absurd ⟨hk, h2⟩ h1
    · omega
/-- what a right gate's parts are -/
theorem gate_ok {c : Cir} {i : Int} {g : Gate} (h : oneF c i g = 0) : ¬ (g.1 < 0 ∨ g.1 > 7) ∧ (0 < needs g.1 → 0 ≤ g.2.1 ∧ g.2.1 < i) ∧ (1 < needs g.1 → 0 ≤ g.2.2.1 ∧ g.2.2.1 < i) ∧ (2 < needs g.1 → 0 ≤ g.2.2.2.1 ∧ g.2.2.2.1 < i) ∧ 0 ≤ g.2.2.2.2 ∧ g.2.2.2.2 < mostN c g.1 := by
  unfold oneF at h
  split at h
  · omega
  rename_i hk
  split at h
  · omega
  rename_i hl
  have hl : legs i g = 0 := by
    by_cases h0 : legs i g = 0
    · exact h0
    · exact absurd h0 hl
  split at h
  · omega
  rename_i hN
  unfold legs at hl
  split at hl
  · rename_i h0; exact absurd hl h0
  rename_i h0
  split at hl
  · rename_i h1; exact absurd hl h1
  rename_i h1
  have h0 : leg i (needs g.1) 0 g.2.1 = 0 := by
    by_cases h : leg i (needs g.1) 0 g.2.1 = 0
    · exact h
    · exact absurd h h0
  have h1 : leg i (needs g.1) 1 g.2.2.1 = 0 := by
    by_cases h : leg i (needs g.1) 1 g.2.2.1 = 0
    · exact h
    · exact absurd h h1
  exact ⟨hk, leg_ok h0, leg_ok h1, leg_ok hl, by omega, by omega⟩
theorem bits2 {a b : Nat} (ha : a ≤ 1) (hb : b ≤ 1) : (a &&& b) ≤ 1 ∧ (a ||| b) ≤ 1 ∧ (a ^^^ b) ≤ 1 := by
  have : ∀ a < 2, ∀ b < 2, (a &&& b) ≤ 1 ∧ (a ||| b) ≤ 1 ∧ (a ^^^ b) ≤ 1 := by decide
  exact this a (by omega) b (by omega)
theorem getD_le {v : List Nat} (h : ∀ b ∈ v, b ≤ 1) (j : Nat) : v.getD j 0 ≤ 1 := by
  rw [List.getD_eq_getElem?_getD]
  cases hj : v[j]? with
  | none => simp
  | some b => exact h b (get_mem hj)
theorem valG_le {c : Cir} {i : Int} {g : Gate} (hg : oneF c i g = 0) (st inn : Int) {v : List Nat} (h : ∀ b ∈ v, b ≤ 1) : valG st inn v g ≤ 1 := by
  obtain ⟨_, _, _, _, h0, h1⟩ := gate_ok hg
  have b2 := bits2 (getD_le h g.2.1.toNat) (getD_le h g.2.2.1.toNat)
  unfold valG
  split
  · rename_i hk; rw [hk] at h1; have : mostN c 0 = 2 := rfl; omega
  split
  · exact (bit_and _).2
  split
  · exact (bit_and _).2
  split
  · omega
  split
  · exact b2.1
  split
  · exact b2.2.1
  split
  · exact b2.2.2
  split
  · exact getD_le h _
  · exact getD_le h _

def ints (v : List Nat) : List Int := v.map (fun (b : Nat) => (b : Int))
/-- what the row holds behind the values that are known -/
def rowOf (v : List Nat) (n : Nat) : List Int := ints v ++ List.replicate (n - v.length) 0
theorem rowOf_at {v : List Nat} {n j : Nat} (h : j < v.length) : (rowOf v n)[j]? = some ((v.getD j 0 : Nat) : Int) := by
  unfold rowOf ints
  rw [List.getElem?_append_left (by simpa using h), List.getElem?_map, List.getD_eq_getElem?_getD, List.getElem?_eq_getElem h]
  rfl
theorem rowOf_next {v : List Nat} {n : Nat} (h : v.length < n) : (rowOf v n)[v.length]? = some 0 := by
  unfold rowOf ints
  rw [List.getElem?_append_right (by simp), List.length_map, Nat.sub_self, List.getElem?_replicate, if_pos (by omega)]
theorem rowOf_set {v : List Nat} {n : Nat} (h : v.length < n) (x : Nat) : (rowOf v n).set v.length (x : Int) = rowOf (v ++ [x]) n := by
  unfold rowOf ints
  rw [List.set_append_right _ _ (by simp), List.length_map, Nat.sub_self, List.map_append, List.length_append, List.append_assoc]
  congr 1
  obtain ⟨m, hm⟩ : ∃ m, n - v.length = m + 1 := ⟨n - v.length - 1, by omega⟩
  rw [hm, show n - (v.length + [x].length) = m by simp; omega]
  rfl
theorem rd_z {l : List Int} {z : Int} {x : Int} (h0 : 0 ≤ z) (h : l[z.toNat]? = some x) : rd l z = some x := rd_at (i := z.toNat) (by omega) h
end Go.Proofs.Ytjbdhaenakcclaa.Gu

/- Circuits of gates: the values of all gates, forwards. No program in sight. -/
set_option linter.unusedVariables false
noncomputable section
namespace Go.Proofs.Ytjbdhaenakcclaa.Gu
open Go Go.Proofs.Ytjbdhaenakcclaa.Gp

theorem int_bit {a : Nat} (h : a ≤ 1) : a < 9223372036854775808 := by omega
theorem values_step (c : Cir) (st inn : Int) (i : Nat) (g : Gate) (b : List Nat) (hx : c.2.1[i]? = some g) (hg : oneF c i g = 0) (hb : b.length = i) (h1 : ∀ x ∈ b, x ≤ 1) (hn : c.2.1.length ≤ 400) :
    Ev (fun k => values69.l0 k c st inn ((), (i : Int), rowOf b c.2.1.length)) (.inl ((), (i : Int) + 1, rowOf (vS st inn b g) c.2.1.length)) := by
  have hi := get_lt hx
  obtain ⟨hk, hA, hB, hC, hN0, hN1⟩ := gate_ok hg
  have hne : (rowOf b c.2.1.length)[i]? = some 0 := by rw [← hb]; exact rowOf_next (by omega)
  have hr : rd (rowOf b c.2.1.length) (i : Int) = some 0 := rd_some' hne
  have hlen : i < (rowOf b c.2.1.length).length := get_lt hne
  have hset : ∀ x : Nat, (rowOf b c.2.1.length).set (Int.toNat (i : Int)) (x : Int) = rowOf (b ++ [x]) c.2.1.length := fun x => by
    rw [Int.toNat_natCast, ← hb]; exact rowOf_set (by omega) x
  have hget : ∀ z : Int, 0 ≤ z → z < (i : Int) → rd (rowOf b c.2.1.length) z = some ((b.getD z.toNat 0 : Nat) : Int) := fun z h0 h2 => rd_z h0 (rowOf_at (by omega))
  simp only [values69.l0]
  refine .yes (decide_eq_true (by omega)) (.val (rd_some' hx) (.bind (a := ((), rowOf (vS st inn b g) c.2.1.length)) ?_ (.now' (by rw [w64_id (by omega) (by omega)]))))
  obtain ⟨kd, A, B, C, N⟩ := g
  have lA := getD_le h1 A.toNat
  have lB := getD_le h1 B.toNat
  have lC := getD_le h1 C.toNat
  dsimp only at hk hA hB hC hN0 hN1 ⊢
  rcases kinds hk with rfl | rfl | rfl | rfl | rfl | rfl | rfl | rfl
  · refine .yes rfl (.val hr (.val hr (.now' ?_)))
    rw [show N = ((N.toNat : Nat) : Int) by omega, hset]; rfl
  · refine .no rfl (.bind (a := ((), _)) (.yes rfl (.val (a := shrI .i64 inn N) (by rw [if_neg (by omega)]) (.val hr (.val hr (.now' ?_))))) (.now _))
    rw [(bit_and _).1, hset]; rfl
  · refine .no rfl (.bind (a := ((), _)) (.no rfl (.bind (a := ((), _)) (.yes rfl (.val (a := shrI .i64 st N) (by rw [if_neg (by omega)]) (.val hr (.val hr (.now' ?_))))) (.now _))) (.now _))
    rw [(bit_and _).1, hset]; rfl
  · have a1 := hget A (hA (by decide)).1 (hA (by decide)).2
    refine .no rfl (.bind (a := ((), _)) (.no rfl (.bind (a := ((), _)) (.no rfl (.bind (a := ((), _)) (.yes rfl (.val a1 (.val a1 (.val hr (.val hr (.now' ?_)))))) (.now _))) (.now _))) (.now _))
    rw [w64_id (by omega) (by omega), show (1 : Int) - ((b.getD A.toNat 0 : Nat) : Int) = ((1 - b.getD A.toNat 0 : Nat) : Int) by omega, hset]; rfl
  · have a1 := hget A (hA (by decide)).1 (hA (by decide)).2
    have a2 := hget B (hB (by decide)).1 (hB (by decide)).2
    refine .no rfl (.bind (a := ((), _)) (.no rfl (.bind (a := ((), _)) (.no rfl (.bind (a := ((), _)) (.no rfl (.bind (a := ((), _)) (.yes rfl (.val a1 (.val a1 (.val a2 (.val a2 (.val hr (.val hr (.now' ?_)))))))) (.now _))) (.now _))) (.now _))) (.now _))
    rw [ibits_and (int_bit lA) (int_bit lB), hset]; rfl
  · have a1 := hget A (hA (by decide)).1 (hA (by decide)).2
    have a2 := hget B (hB (by decide)).1 (hB (by decide)).2
    refine .no rfl (.bind (a := ((), _)) (.no rfl (.bind (a := ((), _)) (.no rfl (.bind (a := ((), _)) (.no rfl (.bind (a := ((), _)) (.no rfl (.bind (a := ((), _)) (.yes rfl (.val a1 (.val a1 (.val a2 (.val a2 (.val hr (.val hr (.now' ?_)))))))) (.now _))) (.now _))) (.now _))) (.now _))) (.now _))
    rw [ibits_or (int_bit lA) (int_bit lB), hset]; rfl
  · have a1 := hget A (hA (by decide)).1 (hA (by decide)).2
    have a2 := hget B (hB (by decide)).1 (hB (by decide)).2
    refine .no rfl (.bind (a := ((), _)) (.no rfl (.bind (a := ((), _)) (.no rfl (.bind (a := ((), _)) (.no rfl (.bind (a := ((), _)) (.no rfl (.bind (a := ((), _)) (.no rfl (.bind (a := ((), _)) (.yes rfl (.val a1 (.val a1 (.val a2 (.val a2 (.val hr (.val hr (.now' ?_)))))))) (.now _))) (.now _))) (.now _))) (.now _))) (.now _))) (.now _))
    rw [ibits_xor (int_bit lA) (int_bit lB), hset]; rfl
  · have a1 := hget A (hA (by decide)).1 (hA (by decide)).2
    have a2 := hget B (hB (by decide)).1 (hB (by decide)).2
    have a3 := hget C (hC (by decide)).1 (hC (by decide)).2
    have hA' := hA (by decide)
    have hB' := hB (by decide)
    have b1 : ∀ x : Int, rd ((rowOf b c.2.1.length).set (Int.toNat (i : Int)) x) A = some ((b.getD A.toNat 0 : Nat) : Int) := fun x => by
      refine rd_z hA'.1 ?_
      rw [Int.toNat_natCast, List.getElem?_set_ne (by omega)]
      exact rowOf_at (by omega)
    have b2 : ∀ x : Int, rd ((rowOf b c.2.1.length).set (Int.toNat (i : Int)) x) B = some ((b.getD B.toNat 0 : Nat) : Int) := fun x => by
      refine rd_z hB'.1 ?_
      rw [Int.toNat_natCast, List.getElem?_set_ne (by omega)]
      exact rowOf_at (by omega)
    have b3 : ∀ x : Int, rd ((rowOf b c.2.1.length).set (Int.toNat (i : Int)) x) (i : Int) = some x := fun x => by
      rw [Int.toNat_natCast]
      exact rd_some' (List.getElem?_set_self hlen)
    refine .no rfl (.bind (a := ((), _)) (.no rfl (.bind (a := ((), _)) (.no rfl (.bind (a := ((), _)) (.no rfl (.bind (a := ((), _)) (.no rfl (.bind (a := ((), _)) (.no rfl (.bind (a := ((), _)) (.no rfl (.bind (a := ((), _)) (.yes rfl (.val a3 (.val a3 (.val hr (.val hr (.val (b1 _) (.val (b1 _) (.bind (a := ((), _)) ?_ (.now _))))))))) (.now _))) (.now _))) (.now _))) (.now _))) (.now _))) (.now _))) (.now _))
    by_cases hv : b.getD A.toNat 0 = 1
    · refine .yes (by rw [hv]; rfl) (.val (b2 _) (.val (b2 _) (.val (b3 _) (.val (b3 _) (.now' ?_)))))
      rw [List.set_set, hset]
      show ((), rowOf (b ++ [_]) _) = ((), rowOf (b ++ [valG st inn b (7, A, B, C, N)]) _)
      rw [show valG st inn b (7, A, B, C, N) = b.getD B.toNat 0 from if_pos hv]
    · refine .no (by rw [beq_eq_false_iff_ne]; omega) (.now' ?_)
      rw [hset]
      show ((), rowOf (b ++ [_]) _) = ((), rowOf (b ++ [valG st inn b (7, A, B, C, N)]) _)
      rw [show valG st inn b (7, A, B, C, N) = b.getD C.toNat 0 from if_neg hv]

theorem vals_le {c : Cir} (hR : Right c) (st inn : Int) : ∀ (i : Nat), i ≤ c.2.1.length → ∀ x ∈ vals st inn (c.2.1.take i), x ≤ 1
  | 0, _, x, hx => by simp [vals] at hx
  | i + 1, h, x, hx => by
    have ih := vals_le hR st inn i (by omega)
    have hg := List.getElem?_eq_getElem (show i < c.2.1.length by omega)
    rw [List.take_add_one, hg, Option.toList_some, vals_snoc, List.mem_append] at hx
    rcases hx with hx | hx
    · exact ih x hx
    · rw [List.mem_singleton] at hx
      rw [hx]
      exact valG_le (hR.gate i _ hg) st inn ih
theorem values_ev {c : Cir} (hR : Right c) (st inn : Int) : Ev (fun k => values69 k c st inn) (ints (vals st inn c.2.1), ()) := by
  unfold values69
  refine .val (a := ()) (by rw [if_pos ⟨by omega, by omega, by have := hR.gates; omega⟩]) (.bind (a := ((), rowOf (vals st inn c.2.1) c.2.1.length)) (Lp.ev ?_) (.now' ?_))
  · refine Lp.fold (body := fun k => values69.l0 k c st inn) c.2.1 (fun b i => ((), i, rowOf b c.2.1.length)) (vS st inn) (fun b => ((), rowOf b c.2.1.length)) (fun i b => b = vals st inn (c.2.1.take i)) (fun i g b hx hb => ⟨?_, ?_⟩) (fun b _ => ?_) (b := []) rfl
    · have hi := get_lt hx
      exact values_step c st inn i g b hx (hR.gate i g hx) (by rw [hb, vals_len, List.length_take]; omega) (by rw [hb]; exact vals_le hR st inn i (by omega)) hR.gates
    · rw [List.take_add_one, hx, Option.toList_some, vals_snoc, ← hb]; rfl
    · simp only [values69.l0]
      exact .no (by simp) (.now _)
  · unfold rowOf
    rw [vals_len, Nat.sub_self]
    simp
end Go.Proofs.Ytjbdhaenakcclaa.Gu

/- Circuits of gates: the value of a gate, backwards, with what is known already. No program in sight. -/
set_option linter.unusedVariables false
noncomputable section
namespace Go.Proofs.Ytjbdhaenakcclaa.Gu
open Go Go.Proofs.Ytjbdhaenakcclaa.Gp

theorem Ev.succ {α : Type} {f : Nat → Option α} {v : α} (h : Ev (fun k => f (k + 1)) v) : Ev f v := by
  obtain ⟨n, h⟩ := h
  refine ⟨n + 1, fun k hk => ?_⟩
  obtain ⟨j, rfl⟩ : ∃ j, k = j + 1 := ⟨k - 1, by omega⟩
  exact h j (by omega)

/-- the value of the j-th -/
def V (c : Cir) (st inn : Int) (j : Nat) : Nat := (vals st inn c.2.1).getD j 0
theorem vals_app (st inn : Int) (l1 l2 : List Gate) : ∃ t, vals st inn (l1 ++ l2) = vals st inn l1 ++ t := by
  have : ∀ (l : List Gate) (v : List Nat), ∃ t, l.foldl (vS st inn) v = v ++ t := by
    intro l
    induction l with
    | nil => intro v; exact ⟨[], by simp⟩
    | cons x l ih =>
      intro v
      obtain ⟨t, ht⟩ := ih (vS st inn v x)
      exact ⟨[valG st inn v x] ++ t, by rw [List.foldl_cons, ht]; unfold vS; rw [List.append_assoc]⟩
  unfold vals
  rw [List.foldl_append]
  exact this l2 _
theorem V_pre (c : Cir) (st inn : Int) {i j : Nat} (hj : j < i) (hi : i ≤ c.2.1.length) : (vals st inn (c.2.1.take i)).getD j 0 = V c st inn j := by
  obtain ⟨t, ht⟩ := vals_app st inn (c.2.1.take i) (c.2.1.drop i)
  rw [List.take_append_drop] at ht
  unfold V
  rw [ht, List.getD_eq_getElem?_getD, List.getD_eq_getElem?_getD, List.getElem?_append_left (by rw [vals_len, List.length_take]; omega)]
theorem V_at (c : Cir) (st inn : Int) {i : Nat} {g : Gate} (h : c.2.1[i]? = some g) : V c st inn i = valG st inn (vals st inn (c.2.1.take i)) g := by
  have hi := get_lt h
  rw [← V_pre c st inn (Nat.lt_succ_self i) (by omega), List.take_add_one, h, Option.toList_some, vals_snoc, List.getD_eq_getElem?_getD, List.getElem?_append_right (by rw [vals_len, List.length_take]; omega)]
  have : i - (vals st inn (c.2.1.take i)).length = 0 := by rw [vals_len, List.length_take]; omega
  rw [this]; rfl
theorem V_le {c : Cir} (hR : Right c) (st inn : Int) (j : Nat) : V c st inn j ≤ 1 := by
  have := vals_le hR st inn c.2.1.length (Nat.le_refl _)
  rw [List.take_length] at this
  exact getD_le this j

theorem b_xor1 {a : Nat} (h : a ≤ 1) : ibits .xor .i64 (a : Int) 1 = ((1 - a : Nat) : Int) := by
  have : a = 0 ∨ a = 1 := by omega
  rcases this with rfl | rfl <;> rfl
theorem b_mn {a b : Nat} (h : a ≤ 1) (h2 : b ≤ 1) : mnI (a : Int) (b : Int) = ((a &&& b : Nat) : Int) := by
  have h : a = 0 ∨ a = 1 := by omega
  have h2 : b = 0 ∨ b = 1 := by omega
  rcases h with rfl | rfl <;> rcases h2 with rfl | rfl <;> rfl
theorem b_mx {a b : Nat} (h : a ≤ 1) (h2 : b ≤ 1) : mxI (a : Int) (b : Int) = ((a ||| b : Nat) : Int) := by
  have h : a = 0 ∨ a = 1 := by omega
  have h2 : b = 0 ∨ b = 1 := by omega
  rcases h with rfl | rfl <;> rcases h2 with rfl | rfl <;> rfl
theorem b_xor {a b : Nat} (h : a ≤ 1) (h2 : b ≤ 1) : Int.tmod (w64 ((a : Int) + (b : Int))) 2 = ((a ^^^ b : Nat) : Int) := by
  have h : a = 0 ∨ a = 1 := by omega
  have h2 : b = 0 ∨ b = 1 := by omega
  rcases h with rfl | rfl <;> rcases h2 with rfl | rfl <;> rfl

end Go.Proofs.Ytjbdhaenakcclaa.Gu

/- Circuits of gates: steps. No program in sight. -/
set_option linter.unusedVariables false
noncomputable section
namespace Go.Proofs.Ytjbdhaenakcclaa.Gu
open Go Go.Proofs.Ytjbdhaenakcclaa.Gp

/-- the values of the gates that are named, joined -/
def line (c : Cir) (st inn : Int) (l : List Int) : List Nat := l.map (fun x => V c st inn x.toNat)
theorem line_le {c : Cir} (hR : Right c) (st inn : Int) (l : List Int) : ∀ b ∈ line c st inn l, b ≤ 1 := by
  intro b hb
  obtain ⟨x, _, rfl⟩ := List.mem_map.1 hb
  exact V_le hR st inn _
def InG (c : Cir) (l : List Int) : Prop := l.length ≤ 10 ∧ ∀ x ∈ l, 0 ≤ x ∧ x < (c.2.1.length : Int)
theorem bits_ev {c : Cir} (hR : Right c) (st inn : Int) (l : List Int) (hl : InG c l) : Ev (fun k => bits70 k (ints (vals st inn c.2.1)) l) (((pk (line c st inn l) : Nat) : Int), ()) := by
  unfold bits70
  refine .bind (a := ((pk (line c st inn l) : Nat) : Int)) (Lp.ev ?_) (.now _)
  have := Lp.fold (body := fun k => bits70.l0 k (ints (vals st inn c.2.1)) l) l (fun (m : List Nat) i => ((pk m : Int), i)) (fun m x => m ++ [V c st inn x.toNat]) (fun m => (pk m : Int)) (fun i m => m = line c st inn (l.take i)) (fun i x m hx hm => ⟨?_, ?_⟩) (fun m _ => ?_) (b := []) rfl
  · rw [foldl_snoc, List.nil_append] at this
    exact this
  · have hi := get_lt hx
    have hll := hl.1
    obtain ⟨x0, x1⟩ := hl.2 x (get_mem hx)
    have hlen : m.length = i := by rw [hm]; unfold line; rw [List.length_map, List.length_take]; omega
    have hlt : pk m < 2 ^ i := by rw [← hlen]; exact pk_lt m (by rw [hm]; exact line_le hR st inn _)
    have hv : rd (ints (vals st inn c.2.1)) x = some ((V c st inn x.toNat : Nat) : Int) := by
      refine rd_z x0 ?_
      unfold ints V
      rw [List.getElem?_map, List.getD_eq_getElem?_getD, List.getElem?_eq_getElem (show x.toNat < (vals st inn c.2.1).length by rw [vals_len]; omega)]
      rfl
    simp only [bits70.l0]
    refine .yes (decide_eq_true (by omega)) (.val (rd_some' hx) (.val hv (.val (a := shlI .i64 ((V c st inn x.toNat : Nat) : Int) (i : Int)) ?_ (.now' ?_))))
    · rw [if_neg (by omega)]
    · rw [or_bit hlt (V_le hR st inn _) (by omega), pk_snoc, hlen, w64_id (by omega) (by omega)]
  · rw [hm, take_snoc hx]; unfold line; rw [List.map_append]; rfl
  · simp only [bits70.l0]
    exact .no (by simp) (.now _)

end Go.Proofs.Ytjbdhaenakcclaa.Gu

/- What an argument of a law reads as, kind by kind. -/
set_option linter.unusedVariables false
noncomputable section
namespace Go.Proofs.Ytjbdhaenakcclaa.Gp
open Go Go.ChangeShapes Go.WideShapes Go.RowKit

/-- the input's memory, all of it frozen -/
def memH (W : World) : Hp := fun b => W.heap[b]?

structure Gd (P : Program) (t : TypeId) (k : K) (wf : k.den → Prop) (siz : k.den → Nat) : Prop where
  cells : P.cellsOf t = k.w
  one : k.one = true
  pur : k.pur = true
  val : ∀ {W : World} {r : Reach} {base : Nat} {v : Value}, Value.okWide P W r base t v → v = k.mk v.cells.toList
  read : ∀ {H : Type} {enc : TypeId × Value → H} {W : World} {base : Nat} {spare : Nat → Bool} {held : Bool} {fuel : Nat} {cs : List Value} {x : DataW H × List MemPlace},
    DataW.trod enc P W base spare held fuel t cs = some x → (∀ n ∈ x.1.weights P t, n ≤ reachBytes) → ∃ y, (∀ L, Lv (memH W) L k y cs) ∧ wf y ∧ siz y ≤ Rows.uptoBulk x.1

variable {P : Program}

theorem str_len {s : ByteArray} : s.data.toList.length = s.size := Array.length_toList
theorem gd_int {t : TypeId} {k : IntKind} (hu : P.underlying t = some (.int k)) (hc : P.cellsOf t = 1) : Gd P t (.int k) (fun (y : Int) => (Lit.int k y).wf = true) (fun _ => 1) :=
  ⟨hc, rfl, rfl, fun h => by obtain ⟨n, rfl⟩ := okWide_int hu h; rfl, fun h _ => by
    obtain ⟨n, rfl, rfl, hw⟩ := DataW.trod_int hu h
    exact ⟨n, fun _ => rfl, hw, by simp [Rows.uptoBulk]⟩⟩
theorem gd_bool {t : TypeId} (hu : P.underlying t = some .bool) (hc : P.cellsOf t = 1) : Gd P t .bool (fun _ => True) (fun _ => 1) :=
  ⟨hc, rfl, rfl, fun h => by
    simp only [Value.okWide, hu, Cell.okWide] at h
    rename_i v
    cases v <;> first | rfl | (simp_all [Cell.ok]; done), fun h _ => by
    obtain ⟨n, rfl, rfl⟩ := DataW.trod_bool hu h
    exact ⟨n, fun _ => rfl, trivial, by simp [Rows.uptoBulk]⟩⟩
theorem gd_str {t : TypeId} (hu : P.underlying t = some .string) (hc : P.cellsOf t = 1) : Gd P t .str (fun (y : ByteArray) => y.size ≤ 140737488351232) (fun (y : ByteArray) => y.size + 1) :=
  ⟨hc, rfl, rfl, fun h => by
    simp only [Value.okWide, hu, Cell.okWide] at h
    rename_i v
    cases v <;> first | rfl | (simp_all [Cell.ok]; done), fun h hw => by
    obtain ⟨s, rfl, rfl, _⟩ := DataW.trod_string hu h
    refine ⟨s, fun _ => rfl, ?_, ?_⟩
    · have := hw s.data.toList.length (by simp [DataW.weights])
      rw [str_len] at this
      exact this
    · simp only [Rows.uptoBulk]
      rw [str_len]
      omega⟩

theorem weights_all {H : Type} {e : TypeId} {n : Nat} : ∀ {l : List (DataW H)} {d : DataW H}, d ∈ l → n ∈ d.weights P e → n ∈ DataW.weightsAll P e l
  | x :: r, d, hd, hn => by
    rw [DataW.weightsAll]
    rcases List.mem_cons.1 hd with rfl | hd
    · exact List.mem_append_left _ hn
    · exact List.mem_append_right _ (weights_all hd hn)
theorem buildL {α : Type} {H : Type} {wf : α → Prop} {siz : α → Nat} : ∀ (es : List (DataW H × List MemPlace)) (p : Nat → α → Prop),
    (∀ i x, es[i]? = some x → ∃ y, p i y ∧ wf y ∧ siz y ≤ Rows.uptoBulk x.1) →
    ∃ ys : List α, ys.length = es.length ∧ (∀ j y, ys[j]? = some y → p j y ∧ wf y) ∧ (ys.map siz).sum ≤ Rows.uptoBulkAll (es.map (·.1))
  | [], _, _ => ⟨[], rfl, fun j y h => by simp at h, by simp⟩
  | x :: r, p, h => by
    obtain ⟨y, hp, hw, hs⟩ := h 0 x rfl
    obtain ⟨ys, hl, hy, hsum⟩ := buildL r (fun i => p (i + 1)) (fun i x hx => h (i + 1) x (by simpa using hx))
    refine ⟨y :: ys, by simp [hl], fun j z hz => ?_, ?_⟩
    · cases j with
      | zero => simp only [List.getElem?_cons_zero, Option.some.injEq] at hz; subst hz; exact ⟨hp, hw⟩
      | succ j => exact hy j z (by simpa using hz)
    · simp only [List.map_cons, List.sum_cons, Rows.uptoBulkAll]
      omega

def sizL {α : Type} (siz : α → Nat) (l : List α) : Nat := (l.map siz).sum + 1
def wfL {α : Type} (B : Nat) (wf : α → Prop) (l : List α) : Prop := l.length * B ≤ 140737488351232 ∧ ∀ y ∈ l, wf y

theorem LvL_mk {α : Type} {R : α → List Value → Prop} {w : Nat} {C : List Value} : ∀ {ys : List α} {o : Nat}, (∀ j y, ys[j]? = some y → ∃ c : List Value, c.length = w ∧ R y c ∧ ∀ i u, c[i]? = some u → C[o + (j * w + i)]? = some u) →
    LvL R ys ((C.drop o).take (ys.length * w))
  | [], o, h => by simp [LvL]
  | y :: ys, o, h => by
    obtain ⟨c, hc, hr, hu⟩ := h 0 y rfl
    have e : (C.drop o).take w = c := by
      apply List.ext_getElem?
      intro i
      rw [cut_get]
      by_cases hi : i < w
      · rw [if_pos hi]
        have hi' : i < c.length := by omega
        have := hu i c[i] (List.getElem?_eq_getElem hi')
        rw [Nat.zero_mul, Nat.zero_add] at this
        rw [this, List.getElem?_eq_getElem hi']
      · rw [if_neg hi, List.getElem?_eq_none (by omega)]
    refine ⟨c, (C.drop (o + w)).take (ys.length * w), ?_, hr, LvL_mk (fun j z hz => ?_)⟩
    · rw [List.length_cons, Nat.add_mul, Nat.one_mul, Nat.add_comm (ys.length * w) w, List.take_add, e, List.drop_drop]
    · obtain ⟨c', h1, h2, h3⟩ := h (j + 1) z hz
      refine ⟨c', h1, h2, fun i u hi => ?_⟩
      have := h3 i u hi
      rw [Nat.add_mul, Nat.one_mul] at this
      rw [show o + w + (j * w + i) = o + (j * w + w + i) by omega]
      exact this

theorem gd_sl {t e : TypeId} {k : K} {wf : k.den → Prop} {siz : k.den → Nat} {B : Nat} (hu : P.underlying t = some (.slice e)) (hc : P.cellsOf t = 1) (hB : P.bytesOf e = B) (hk : 0 < k.w) (r : Gd P e k wf siz) :
    Gd P t (.sl k) (wfL (α := k.den) B wf) (sizL (α := k.den) siz) :=
  ⟨hc, rfl, r.pur, fun h => by obtain ⟨a, len, cap, rfl⟩ := okWide_slice hu h; rfl, fun {H enc W base spare held fuel cs x} h hw => by
    rcases DataW.trod_slice hu h with ⟨rfl, rfl⟩ | ⟨a, len, cap, elems, rest, n, _, rfl, rfl, hb, hl, hm, hlen, hel, _, _⟩
    · exact ⟨([] : List k.den), fun L => ⟨r.pur, none, 0, rfl, Nat.le_refl _, fun hn => absurd rfl hn⟩, ⟨by simp, fun y hy => by simp at hy⟩, by simp [sizL, Rows.uptoBulk]⟩
    · simp only [DataW.weights, hu] at hw
      have hw1 : (elems.length + rest.length) * B ≤ 140737488351232 := by
        have := hw ((elems.length + rest.length) * B) (by simp [hB])
        exact this
      obtain ⟨ys, hyl, hyp, hys⟩ := buildL (wf := wf) (siz := siz) elems (fun i y => ∃ c : List Value, c.length = k.w ∧ (∀ L, Lv (memH W) L k y c) ∧ ∀ j u, c[j]? = some u → W.cell? (a.add (i * k.w + j)) = some u) (fun i z hz => by
        have hi : i < len := by
          have := (List.getElem?_eq_some_iff.1 hz).1
          omega
        have h1 := hel i hi
        rw [hz] at h1
        obtain ⟨c, hc1, hc2⟩ := Option.bind_eq_some_iff.1 h1
        obtain ⟨y, hK, hwf, hsz⟩ := r.read hc2 (fun q hq => hw q (List.mem_cons_of_mem _ (List.mem_append_left _ (weights_all (List.mem_map.2 ⟨z, List.mem_of_getElem? hz, rfl⟩) hq))))
        obtain ⟨_, hcl, hcell⟩ := World.cells?_some hc1
        refine ⟨y, ⟨c, Lv_len (hK default), hK, fun j u hu => ?_⟩, hwf, hsz⟩
        have hj : j < P.cellsOf e := by
          have := (List.getElem?_eq_some_iff.1 hu).1
          omega
        have h3 := hcell j hj
        rw [Go.Deep.add_add, r.cells] at h3
        rw [h3]
        exact hu)
      refine ⟨ys, fun L => ⟨r.pur, some a, cap, by rw [hyl, hlen], by omega, fun hn => ?_⟩, ⟨?_, fun y hy => ?_⟩, ?_⟩
      · have hn : ys.length ≠ 0 := hn
        obtain ⟨y, hy⟩ : ∃ y, ys[0]? = some y := ⟨ys[0]'(by omega), List.getElem?_eq_getElem (by omega)⟩
        obtain ⟨c, c1, c2, c3⟩ := (hyp 0 y hy).1
        obtain ⟨u, hu0⟩ : ∃ u, c[0]? = some u := ⟨c[0]'(by omega), List.getElem?_eq_getElem (by omega)⟩
        have hcell := c3 0 u hu0
        rw [Nat.zero_mul, Nat.zero_add, show a.add 0 = a from rfl] at hcell
        unfold World.cell? at hcell
        split at hcell
        · rename_i C ee zz hblk
          split at hcell
          · cases hcell
          · rename_i hsp
            have hsp : a.spot = none := by cases hs : a.spot with | none => rfl | some q => rw [hs] at hsp; exact absurd rfl hsp
            refine ⟨a.block, a.off, C, ee, zz, by cases a; simp only at hsp; rw [hsp], hblk, LvL_mk (C := C.toList) (fun j y hy => ?_)⟩
            obtain ⟨c, c1, c2, c3⟩ := (hyp j y hy).1
            refine ⟨c, c1, c2 L, fun i u hi => ?_⟩
            have h5 := c3 i u hi
            have hadd : (a.add (j * k.w + i)).block = a.block ∧ (a.add (j * k.w + i)).off = a.off + (j * k.w + i) ∧ (a.add (j * k.w + i)).spot = none := by
              unfold Addr.add
              split
              · rename_i h0; exact ⟨rfl, by omega, hsp⟩
              · exact ⟨rfl, rfl, rfl⟩
            unfold World.cell? at h5
            rw [hadd.1, hblk, hadd.2.1, hadd.2.2] at h5
            rw [Array.getElem?_toList]
            exact h5
        · cases hcell
      · rw [hyl]
        exact Nat.le_trans (Nat.mul_le_mul_right _ (Nat.le_add_right _ _)) hw1
      · obtain ⟨j, hj⟩ := List.mem_iff_getElem?.1 hy
        exact (hyp j y hj).2
      · simp only [sizL, Rows.uptoBulk]
        omega⟩

/-- arrays -/
def sizA {α : Type} (siz : α → Nat) (l : List α) : Nat := (l.map siz).sum
def wfA {α : Type} (n : Nat) (wf : α → Prop) (l : List α) : Prop := l.length = n ∧ ∀ y ∈ l, wf y
theorem gd_arr {t e : TypeId} {n : Nat} {k : K} {wf : k.den → Prop} {siz : k.den → Nat} (hu : P.underlying t = some (.array n e)) (hc : P.cellsOf t = n * k.w) (r : Gd P e k wf siz) :
    Gd P t (.arr n k) (wfA (α := k.den) n wf) (sizA (α := k.den) siz) :=
  ⟨hc, rfl, r.pur, fun h => by
    simp only [Value.okWide, hu] at h
    obtain ⟨cs, rfl, _⟩ := h
    rfl, fun {H enc W base spare held fuel cs x} h hw => by
    obtain ⟨xs, m, _, rfl, hl, hxl, hx⟩ := DataW.trod_array hu h
    simp only [DataW.weights, hu] at hw
    obtain ⟨ys, hyl, hyp, hys⟩ := buildL (wf := wf) (siz := siz) xs (fun i y => ∀ L, Lv (memH W) L k y ((cs.drop (i * k.w)).take k.w)) (fun i z hz => by
      have hi : i < n := by
        have := (List.getElem?_eq_some_iff.1 hz).1
        omega
      have h1 := hx i hi
      rw [hz, r.cells] at h1
      obtain ⟨y, hK, hwf, hsz⟩ := r.read h1 (fun q hq => hw q (weights_all (List.mem_map.2 ⟨z, List.mem_of_getElem? hz, rfl⟩) hq))
      exact ⟨y, hK, hwf, hsz⟩)
    refine ⟨ys, fun L => ⟨r.pur, hyl.trans hxl, ?_⟩, ⟨hyl.trans hxl, fun y hy => ?_⟩, ?_⟩
    · have := LvL_mk (w := k.w) (R := Lv (memH W) L k) (C := cs) (ys := ys) (o := 0) (fun j y hy => ⟨(cs.drop (j * k.w)).take k.w, Lv_len ((hyp j y hy).1 L), (hyp j y hy).1 L, fun i u hi => by
        rw [cut_get] at hi
        split at hi
        · rw [Nat.zero_add]; exact hi
        · cases hi⟩)
      rwa [List.drop_zero, List.take_of_length_le (by rw [hl, hc, hyl, hxl]; exact Nat.le_refl _)] at this
    · obtain ⟨j, hj⟩ := List.mem_iff_getElem?.1 hy
      exact (hyp j y hj).2
    · simp only [sizA, Rows.uptoBulk]
      omega⟩

/-- fields in line, from cell 'off' on -/
structure GdF (P : Program) (off : Nat) (fs : List Field) (k : K) (wf : k.den → Prop) (siz : k.den → Nat) : Prop where
  pur : k.pur = true
  read : ∀ {H : Type} {enc : TypeId × Value → H} {W : World} {base : Nat} {spare : Nat → Bool} {held : Bool} {fuel : Nat} {cs : List Value} {xs : List (DataW H × List MemPlace)},
    cs.length = off + k.w → xs.length = fs.length →
    (∀ (i : Nat) (f : Field), fs[i]? = some f → DataW.trod enc P W base spare held fuel f.type ((cs.drop f.offset).take (P.cellsOf f.type)) = xs[i]?) →
    (∀ n ∈ DataW.weightsEach P (fs.map (·.type)) (xs.map (·.1)), n ≤ reachBytes) →
    ∃ y, (∀ L, Lv (memH W) L k y (cs.drop off)) ∧ wf y ∧ siz y ≤ Rows.uptoBulkAll (xs.map (·.1))

theorem gdf_nil {off : Nat} : GdF P off [] .unit (fun _ => True) (fun _ => 0) :=
  ⟨rfl, fun {H enc W base spare held fuel cs xs} hl hxl hx hw => ⟨(), fun L => by
    show cs.drop off = []
    exact List.drop_eq_nil_of_le (by rw [hl]; exact Nat.le_refl _), trivial, Nat.zero_le _⟩⟩
theorem gdf_cons {off : Nat} {f : Field} {fs : List Field} {k k' : K} {wf : k.den → Prop} {wf' : k'.den → Prop} {siz : k.den → Nat} {siz' : k'.den → Nat} (ho : f.offset = off) (r : Gd P f.type k wf siz)
    (rs : GdF P (off + k.w) fs k' wf' siz') : GdF P off (f :: fs) (.pair k k') (fun (y : k.den × k'.den) => wf y.1 ∧ wf' y.2) (fun (y : k.den × k'.den) => siz y.1 + siz' y.2) := by
  refine ⟨by simp only [K.pur, r.pur, rs.pur]; rfl, ?_⟩
  intro H enc W base spare held fuel cs xs hl hxl hx hw
  have hl' : cs.length = off + (k.w + k'.w) := hl
  match xs, hxl with
  | x :: xs, hxl =>
    have h := hx 0 f rfl
    rw [ho, r.cells] at h
    simp only [List.getElem?_cons_zero] at h
    obtain ⟨y, h1, h2, h3⟩ := r.read h (fun n hn => hw n (by simp [DataW.weightsEach, hn]))
    obtain ⟨z, g1, g2, g3⟩ := rs.read (enc := enc) (W := W) (base := base) (spare := spare) (held := held) (fuel := fuel) (cs := cs) (xs := xs) (by omega) (by simpa using hxl)
      (fun i g hg => by simpa using hx (i + 1) g (by simpa using hg)) (fun n hn => hw n (by simp only [List.map_cons, DataW.weightsEach]; exact List.mem_append_right _ hn))
    refine ⟨(y, z), fun L => ⟨(cs.drop off).take k.w, cs.drop (off + k.w), ?_, h1 L, g1 L⟩, ⟨h2, g2⟩, ?_⟩
    · rw [← List.drop_drop]
      exact (List.take_append_drop _ _).symm
    · simp only [List.map_cons, Rows.uptoBulkAll]
      omega
theorem gdf_one {off : Nat} {f : Field} {k : K} {wf : k.den → Prop} {siz : k.den → Nat} (ho : f.offset = off) (r : Gd P f.type k wf siz) : GdF P off [f] k wf siz := by
  refine ⟨r.pur, ?_⟩
  intro H enc W base spare held fuel cs xs hl hxl hx hw
  match xs, hxl with
  | [x], hxl =>
    have h := hx 0 f rfl
    rw [ho, r.cells] at h
    simp only [List.getElem?_cons_zero] at h
    have e : (cs.drop off).take k.w = cs.drop off := List.take_of_length_le (by rw [List.length_drop, hl]; omega)
    rw [e] at h
    obtain ⟨y, h1, h2, h3⟩ := r.read h (fun n hn => hw n (by simp [DataW.weightsEach, hn]))
    refine ⟨y, h1, h2, ?_⟩
    simp only [List.map_cons, List.map_nil, Rows.uptoBulkAll]
    omega
theorem gd_st {t : TypeId} {fs : Array Field} {k : K} {wf : k.den → Prop} {siz : k.den → Nat} (hu : P.underlying t = some (.struct fs)) (hc : P.cellsOf t = k.w) (r : GdF P 0 fs.toList k wf siz) : Gd P t (.st k) wf siz :=
  ⟨hc, rfl, r.pur, fun h => by
    simp only [Value.okWide, hu] at h
    obtain ⟨cs, rfl, _⟩ := h
    rfl, fun h hw => by
    obtain ⟨xs, n, _, rfl, hl, hxl, hx⟩ := DataW.trod_struct hu h
    obtain ⟨y, h1, h2, h3⟩ := r.read (by rw [hl, hc]; omega) (by rw [hxl]; simp) (fun i f hf => hx i f (by simpa using hf)) (fun n hn => hw n (by simp only [DataW.weights, hu]; exact hn))
    refine ⟨y, h1, h2, ?_⟩
    simp only [Rows.uptoBulk]
    omega⟩

/-- an argument -/
theorem Gd.arg {t : TypeId} {k : K} {wf : k.den → Prop} {siz : k.den → Nat} (r : Gd P t k wf siz) {H : Type} {enc : TypeId × Value → H} {W : World} {base : Nat} {spare : Nat → Bool} {held : Bool} {rr : Reach} {b2 : Nat} {v : Value} {x : DataW H} {ps : List MemPlace}
    (hval : Value.okWide P W rr b2 t v) (h : DataW.Trod enc P W base spare held t v x ps) (hw : ∀ n ∈ x.weights P t, n ≤ reachBytes) : ∃ y : k.den, (∀ L, SR (memH W) L ⟨k, y⟩ v) ∧ wf y ∧ siz y ≤ Rows.uptoBulk x := by
  obtain ⟨fuel, hf⟩ := h
  obtain ⟨y, h1, h2, h3⟩ := r.read hf hw
  refine ⟨y, fun L => ?_, h2, h3⟩
  rw [r.val hval]
  exact SR_mk (h1 L)

def noLoc : Ls := fun _ => default
theorem law_calls {fuel : Nat} {f : FuncId} {params : List K} {run : Nat → HL params → HL (List.map (·.toK) ([] : List OK)) → Option (K.bool.den × HL (List.map (·.toK) ([] : List OK)))} (hs : SoundAt P fuel ⟨f, params, [], .bool, [], [], run⟩) {ds : HL params}
    (hr : run fuel ds () = some (true, ())) {args : Array Value} {W : World} (hv : SRs (memH W) noLoc (unpackL params ds) args.toList) : Calls P f args W (fun e W' => e = .returned (.bool true) ∧ Below W.heap.size W W') := by
  have hno : ∀ b, ¬ Own (assoc O.dead (objsFrom 0 ([] : List OK) ())) noLoc b := fun b ⟨i, hi, _⟩ => hi
  refine Calls.mono (hs.2 ds () (true, ()) hr args W (memH W) noLoc hv ⟨fun i => trivial, fun b o h => h, fun i hi => hi.elim, fun i j hi => hi.elim⟩ (fun i hi => by cases hi)) fun e W' hh => ?_
  obtain ⟨v, H', L', rfl, h1, _, _, hp⟩ := hh
  have h1 : SR H' L' ⟨.bool, true⟩ v := h1
  refine ⟨by rw [bool_at h1], hp.fr.os, hp.fr.tape, hp.fr.output, hp.fr.size, fun b hb => hp.fr.same b hb (hno b)⟩
/-- The weights of one argument. -/
theorem weights_at {H : Type} {ts : List TypeId} {ds : List (DataW H)} (hsz : (DataW.weightsEach P ts ds).all (· ≤ reachBytes) = true) (j : Nat) {t : TypeId} {d : DataW H} (ht : ts[j]? = some t) (hd : ds[j]? = some d) :
    ∀ n ∈ d.weights P t, n ≤ reachBytes := fun n hn => by
  have := List.all_eq_true.1 hsz n (DataW.weights_mem_each ht hd n hn)
  simpa using this

/-- The bulk of one argument. -/
theorem bulk_at {H : Type} {l : List (DataW H)} (hk : Rows.uptoSmall H l = true) {d : DataW H} (hd : d ∈ l) : Rows.uptoBulk d ≤ 1048576 := by
  have h : Rows.uptoBulkAll l ≤ 1048576 := of_decide_eq_true hk
  have key : ∀ {l : List (DataW H)}, d ∈ l → Rows.uptoBulk d ≤ Rows.uptoBulkAll l := by
    intro l
    induction l with
    | nil => intro h; simp at h
    | cons x r ih =>
      intro h
      simp only [Rows.uptoBulkAll]
      rcases List.mem_cons.1 h with rfl | h
      · omega
      · have := ih h
        omega
  exact Nat.le_trans (key hd) h
end Go.Proofs.Ytjbdhaenakcclaa.Gp

/- Circuits of gates: the law. No program in sight. -/
set_option linter.unusedVariables false
noncomputable section
namespace Go.Proofs.Ytjbdhaenakcclaa.Gu
open Go Go.Proofs.Ytjbdhaenakcclaa.Gp

/-- one step: the state, and what came out so far -/
def stepS (c : Cir) (b : Int × List Int) (x : Int) : Int × List Int := (((pk (line c b.1 x c.2.2.2.1) : Nat) : Int), b.2 ++ [((pk (line c b.1 x c.2.2.1) : Nat) : Int)])
def ran (c : Cir) (l : List Int) : List Int := (l.foldl (stepS c) ((first c : Int), [])).2
def badIn (c : Cir) (x : Int) : Bool := decide (x < 0 ∨ x ≥ ((2 ^ c.1.toNat : Nat) : Int))
theorem room1 {n : Nat} (h : n * 8 ≤ 140737488351232 + 8) : room n 8 = true := room_ok (by omega)
theorem shl_ins {c : Cir} (hR : Right c) : shlI .i64 1 c.1 = ((2 ^ c.1.toNat : Nat) : Int) := by
  obtain ⟨h0, h1⟩ := hR.ins
  obtain ⟨j, hj⟩ : ∃ j : Nat, c.1 = (j : Int) := ⟨c.1.toNat, by omega⟩
  rw [hj, shlI_one (by omega), Int.toNat_natCast]
theorem foldl_len8 (c : Cir) : ∀ (l : List Int) (b : Int × List Int), (l.foldl (stepS c) b).2.length = b.2.length + l.length
  | [], b => rfl
  | x :: l, b => by rw [List.foldl_cons, foldl_len8 c l]; simp [stepS]; omega
def runW (c : Cir) (b : Int × List Int) (x : Int) : (Int × List Int) ⊕ ((Unit × (List Int)) ⊕ (((List Int) × (Int × Unit)) × Unit)) := if badIn c x then .inr (.inr (([], 1, ()), ())) else .inl (stepS c b x)
theorem walk_run (c : Cir) : ∀ (l : List Int) (b : Int × List Int), walk (runW c) (fun b => .inl ((), b.2)) l b = if l.any (badIn c) then .inr (([], 1, ()), ()) else .inl ((), (l.foldl (stepS c) b).2)
  | [], b => rfl
  | x :: l, b => by
    rw [walk_cons, List.any_cons, List.foldl_cons]
    cases h : badIn c x with
    | true =>
      rw [show runW c b x = .inr (.inr (([], 1, ()), ())) by unfold runW; rw [h]; rfl]
      rfl
    | false =>
      rw [show runW c b x = .inl (stepS c b x) by unfold runW; rw [h]; rfl]
      exact walk_run c l (stepS c b x)
def res (c : Cir) (l : List Int) : List Int × Int × Unit := if fault c ≠ 0 then ([], fault c, ()) else if l.any (badIn c) then ([], 1, ()) else (ran c l, 0, ())
theorem bad_ev {c : Cir} (hR : Right c) (x : Int) : Ev (fun (_ : Nat) => cond (decide (x < 0)) (some true) ((if c.1 < 0 then none else some (shlI .i64 1 c.1)).bind fun t31 => some (decide (x ≥ t31)))) (badIn c x) := by
  have h0 := hR.ins
  refine .iff (fun h => .now' ?_) (fun h => .val (a := ((2 ^ c.1.toNat : Nat) : Int)) (by rw [if_neg (by omega), shl_ins hR]) (.now' ?_))
  · unfold badIn; rw [decide_eq_true (.inl h)]
  · unfold badIn; exact decide_eq_decide.2 (by omega)
theorem run_ev (c : Cir) (l : List Int) (hl : l.length * 8 ≤ 140737488351232) : Ev (fun k => Run71 k c l) (res c l, ()) := by
  unfold Run71 res
  refine .bind (check_ev c) ?_
  by_cases hf : fault c ≠ 0
  · rw [if_pos hf]
    exact .yes (bne_iff_ne.2 hf) (.now _)
  rw [if_neg hf]
  have hf0 : fault c = 0 := by omega
  have hR := right_of c hf0
  refine .no (by rw [hf0]; rfl) (.bind (start_ev c) ?_)
  have hw : Lp (fun k => Run71.l0 k l) (c, (), (first c : Int), 0, []) (walk (runW c) (fun b => .inl ((), b.2)) l ((first c : Int), [])) := by
    refine Lp.walk (body := fun k => Run71.l0 k l) l (fun (b : Int × List Int) i => (c, (), b.1, i, b.2)) (runW c) (fun b => .inl ((), b.2)) (fun i b => b.2.length = i) (fun i x b hx hb => ⟨?_, fun b' h => ?_⟩) (fun b _ => ?_) (b := ((first c : Int), [])) rfl
    · have hi := get_lt hx
      simp only [Run71.l0]
      refine .yes (decide_eq_true (by omega)) (.val (rd_some' hx) (.bind (bad_ev hR x) ?_))
      unfold runW
      refine .cnd (fun h => .now' ?_) (fun h => ?_)
      · rw [if_pos h]
      · rw [if_neg (by simp [h])]
        refine .bind (values_ev hR b.1 x) (.bind (bits_ev hR b.1 x _ hR.outs) (.val (a := ()) ?_ (.bind (bits_ev hR b.1 x _ hR.next) (.now' ?_))))
        · rw [if_pos (room1 (by rw [hb]; show (i + 1) * 8 ≤ _; omega))]
        · rw [w64_id (by omega) (by omega)]; rfl
    · unfold runW at h
      split at h <;> cases h
      simp [stepS, hb]
    · simp only [Run71.l0]
      exact .no (by simp) (.now _)
  rw [walk_run] at hw
  by_cases hb : l.any (badIn c) = true
  · rw [if_pos hb] at hw ⊢
    exact .joinR hw.ev
  · rw [if_neg hb] at hw ⊢
    exact .joinL (S := Unit) hw.ev (.now _)

theorem equal_ev (l : List Int) (hl : l.length * 8 ≤ 140737488351232) : Ev (fun k => Equal25 k l l) (true, ()) := by
  unfold Equal25
  refine .no (by simp) (.joinL (S := Unit) (a := ()) (Lp.ev ?_) (.now _))
  refine Lp.fold (body := fun k => Equal25.l0 k l l) l (fun (_ : Unit) i => i) (fun _ _ => ()) (fun _ => (.inl () : Unit ⊕ (Bool × Unit))) (fun _ _ => True) (fun i x b hx _ => ⟨?_, trivial⟩) (fun b _ => ?_) (b := ()) trivial
  · have hi := get_lt hx
    simp only [Equal25.l0]
    refine .yes (decide_eq_true (by omega)) (.val (rd_some' hx) (.val (rd_some' hx) (.no (by simp) (.now' ?_))))
    rw [w64_id (by omega) (by omega)]
  · simp only [Equal25.l0]
    exact .no (by simp) (.now _)
def c0 : Cir := (0, [(2, 0, 0, 0, 0), (3, 0, 0, 0, 0)], [0], [1], [0])
theorem res0 : res c0 [0, 0, 0] = ([0, 1, 0], 0, ()) := by decide +kernel
theorem gated_ev : Ev (fun k => gated17 k) (true, ()) := by
  unfold gated17
  have h := run_ev c0 [0, 0, 0] (by decide)
  rw [res0] at h
  refine .bind h (.bind (a := true) ?_ (.now _))
  exact .yes rfl (.bind (equal_ev [0, 1, 0] (by decide)) (.now _))

end Go.Proofs.Ytjbdhaenakcclaa.Gu

/- Circuits of gates: what hangs on what. No program in sight. -/
set_option linter.unusedVariables false
set_option maxRecDepth 100000
noncomputable section
namespace Go.Proofs.Ytjbdhaenakcclaa.Gu
open Go Go.Proofs.Ytjbdhaenakcclaa.Gp

def legsL (g : Gate) : List Int := ([g.2.1, g.2.2.1, g.2.2.2.1] : List Int).take (needs g.1).toNat
def flopL (c : Cir) (g : Gate) : List Int := if g.1 = 2 then [c.2.2.2.1.getD g.2.2.2.2.toNat 0] else []
def kids (c : Cir) (g : Gate) : List Int := legsL g ++ flopL c g
def okx (c : Cir) (x : Int) : Prop := 0 ≤ x ∧ x < (c.2.1.length : Int)
theorem needs4 (k : Int) : needs k = 0 ∨ needs k = 1 ∨ needs k = 2 ∨ needs k = 3 := by
  unfold needs
  by_cases h1 : k = 3
  · rw [if_pos h1]; exact .inr (.inl rfl)
  · rw [if_neg h1]
    by_cases h2 : k = 4 ∨ k = 5 ∨ k = 6
    · rw [if_pos h2]; exact .inr (.inr (.inl rfl))
    · rw [if_neg h2]
      by_cases h3 : k = 7
      · rw [if_pos h3]; exact .inr (.inr (.inr rfl))
      · rw [if_neg h3]; exact .inl rfl
theorem legs_mem {g : Gate} {x : Int} (h : x ∈ legsL g) : (0 < needs g.1 ∧ x = g.2.1) ∨ (1 < needs g.1 ∧ x = g.2.2.1) ∨ (2 < needs g.1 ∧ x = g.2.2.2.1) := by
  unfold legsL at h
  rcases needs4 g.1 with e | e | e | e <;> rw [e] at h ⊢
  · simp at h
  · simp at h; exact .inl ⟨by decide, h⟩
  · simp at h
    rcases h with h | h
    · exact .inl ⟨by decide, h⟩
    · exact .inr (.inl ⟨by decide, h⟩)
  · simp at h
    rcases h with h | h | h
    · exact .inl ⟨by decide, h⟩
    · exact .inr (.inl ⟨by decide, h⟩)
    · exact .inr (.inr ⟨by decide, h⟩)
theorem legs_lt {c : Cir} (hR : Right c) {k : Nat} {g : Gate} (hg : c.2.1[k]? = some g) : ∀ x ∈ legsL g, 0 ≤ x ∧ x < (k : Int) := by
  obtain ⟨_, a1, a2, a3, _⟩ := gate_ok (hR.gate k g hg)
  intro x hx
  rcases legs_mem hx with ⟨h, rfl⟩ | ⟨h, rfl⟩ | ⟨h, rfl⟩
  · exact a1 h
  · exact a2 h
  · exact a3 h
theorem flop_at {c : Cir} (hR : Right c) {k : Nat} {g : Gate} (hg : c.2.1[k]? = some g) (h2 : g.1 = 2) : rd c.2.2.2.1 g.2.2.2.2 = some (c.2.2.2.1.getD g.2.2.2.2.toNat 0) ∧ okx c (c.2.2.2.1.getD g.2.2.2.2.toNat 0) := by
  obtain ⟨_, _, _, _, b0, b1⟩ := gate_ok (hR.gate k g hg)
  have b1 : g.2.2.2.2 < (c.2.2.2.1.length : Int) := by
    have e : mostN c g.1 = (c.2.2.2.1.length : Int) := by
      unfold mostN
      rw [if_neg (by omega), if_neg (by omega), if_pos h2]
    rw [e] at b1
    exact b1
  have hlt : g.2.2.2.2.toNat < c.2.2.2.1.length := by omega
  have he : c.2.2.2.1[g.2.2.2.2.toNat]? = some (c.2.2.2.1.getD g.2.2.2.2.toNat 0) := by
    rw [List.getD_eq_getElem?_getD, List.getElem?_eq_getElem hlt]; rfl
  exact ⟨rd_z b0 he, hR.next.2 _ (List.mem_of_getElem? he)⟩
theorem kids_ok {c : Cir} (hR : Right c) {k : Nat} {g : Gate} (hg : c.2.1[k]? = some g) : ∀ x ∈ kids c g, okx c x := by
  intro x hx
  have hk := get_lt hg
  rcases List.mem_append.1 hx with hx | hx
  · have := legs_lt hR hg x hx
    exact ⟨this.1, by omega⟩
  · unfold flopL at hx
    by_cases h2 : g.1 = 2
    · rw [if_pos h2] at hx
      rw [List.mem_singleton.1 hx]
      exact (flop_at hR hg h2).2
    · rw [if_neg h2] at hx; cases hx

/-- ways -/
inductive Pth (c : Cir) : Int → Int → Prop where
  | here {x : Int} : Pth c x x
  | kid {k : Nat} {g : Gate} {y z : Int} : c.2.1[k]? = some g → y ∈ kids c g → Pth c y z → Pth c (k : Int) z
/-- how many are not there -/
def U (p : Nat → Bool) : Nat → Nat
  | 0 => 0
  | n + 1 => U p n + (if p n = true then 0 else 1)
theorem U_le {p q : Nat → Bool} : ∀ {n : Nat}, (∀ j, j < n → p j = true → q j = true) → U q n ≤ U p n
  | 0, _ => Nat.le_refl _
  | n + 1, h => by
    have ih := U_le (n := n) (fun j hj => h j (by omega))
    unfold U
    by_cases h1 : p n = true
    · rw [if_pos h1, if_pos (h n (by omega) h1)]; omega
    · rw [if_neg h1]
      split <;> omega
theorem U_lt {p q : Nat → Bool} : ∀ {n : Nat}, (∀ j, j < n → p j = true → q j = true) → (∃ j, j < n ∧ q j = true ∧ p j = false) → U q n < U p n
  | 0, _, ⟨j, hj, _⟩ => by omega
  | n + 1, h, ⟨j, hj, h1, h2⟩ => by
    unfold U
    by_cases hjn : j = n
    · subst hjn
      have := U_le (n := j) (fun i hi => h i (by omega))
      rw [if_pos h1, if_neg (by rw [h2]; decide)]
      omega
    · have ih := U_lt (n := n) (fun i hi => h i (by omega)) ⟨j, by omega, h1, h2⟩
      by_cases h3 : p n = true
      · rw [if_pos h3, if_pos (h n (by omega) h3)]; omega
      · rw [if_neg h3]
        split <;> omega

def mkd (s : List Bool) (j : Nat) : Bool := s.getD j false
/-- from these on, all is marked -/
structure DfsL (c : Cir) (s s' : List Bool) (ks : List Int) : Prop where
  len : s'.length = s.length
  mono : ∀ j, mkd s j = true → mkd s' j = true
  at_ : ∀ x ∈ ks, mkd s' x.toNat = true
  new : ∀ j, mkd s' j = true → mkd s j = false → (∃ x ∈ ks, Pth c x (j : Int)) ∧ ∀ g, c.2.1[j]? = some g → ∀ y ∈ kids c g, mkd s' y.toNat = true
theorem DfsL.nil {c : Cir} {s : List Bool} : DfsL c s s [] := ⟨rfl, fun _ h => h, fun x hx => (by cases hx), fun j h1 h2 => (by rw [h1] at h2; cases h2)⟩
theorem DfsL.app {c : Cir} {s s1 s2 : List Bool} {ks ls : List Int} (h : DfsL c s s1 ks) (h2 : DfsL c s1 s2 ls) : DfsL c s s2 (ks ++ ls) := by
  refine ⟨h2.len.trans h.len, fun j hj => h2.mono j (h.mono j hj), fun x hx => ?_, fun j h3 h4 => ?_⟩
  · rcases List.mem_append.1 hx with hx | hx
    · exact h2.mono _ (h.at_ x hx)
    · exact h2.at_ x hx
  · cases h5 : mkd s1 j with
    | true =>
      obtain ⟨⟨x, hx, hp⟩, hc⟩ := h.new j h5 h4
      exact ⟨⟨x, List.mem_append_left _ hx, hp⟩, fun g hg y hy => h2.mono _ (hc g hg y hy)⟩
    | false =>
      obtain ⟨⟨x, hx, hp⟩, hc⟩ := h2.new j h3 h5
      exact ⟨⟨x, List.mem_append_right _ hx, hp⟩, hc⟩
theorem mkd_set {s : List Bool} {i : Nat} (hi : i < s.length) (j : Nat) : mkd (s.set i true) j = if j = i then true else mkd s j := by
  unfold mkd
  rw [List.getD_eq_getElem?_getD, List.getD_eq_getElem?_getD, List.getElem?_set]
  by_cases h : i = j
  · subst h; rw [if_pos rfl, if_pos hi, if_pos rfl]; rfl
  · rw [if_neg h, if_neg (fun e => h e.symm)]
theorem DfsL.top {c : Cir} {s s' : List Bool} {i : Nat} {g : Gate} (hi : i < s.length) (hg : c.2.1[i]? = some g) (h : DfsL c (s.set i true) s' (kids c g)) : DfsL c s s' [(i : Int)] := by
  refine ⟨h.len.trans (by rw [List.length_set]), fun j hj => h.mono j ?_, fun x hx => ?_, fun j h3 h4 => ?_⟩
  · rw [mkd_set hi]; split <;> first | rfl | exact hj
  · rw [List.mem_singleton.1 hx]
    refine h.mono _ ?_
    rw [mkd_set hi, if_pos (by omega)]
  · by_cases hj : j = i
    · subst hj
      refine ⟨⟨_, List.mem_singleton.2 rfl, .here⟩, fun g' hg' y hy => ?_⟩
      rw [hg] at hg'
      cases hg'
      exact h.at_ y hy
    · obtain ⟨⟨x, hx, hp⟩, hc⟩ := h.new j h3 (by rw [mkd_set hi, if_neg hj]; exact h4)
      exact ⟨⟨_, List.mem_singleton.2 rfl, .kid hg hx hp⟩, hc⟩
theorem mkd_at {s : List Bool} {i : Nat} (hi : i < s.length) : s[i]? = some (mkd s i) := by
  unfold mkd
  rw [List.getD_eq_getElem?_getD, List.getElem?_eq_getElem hi]; rfl
abbrev Env := Unit × Cir × Unit × Unit
/-- the claim for all states of at most m that are not marked -/
def DfsAt (c : Cir) (m : Nat) : Prop := ∀ s : List Bool, s.length = c.2.1.length → U (mkd s) c.2.1.length ≤ m → ∀ x, okx c x → ∃ s', DfsL c s s' [x] ∧ Ev (fun k => Used178 k x () c () () s ((), c, (), ())) ((), (), s', ((), c, (), ()))
theorem kids_lp {c : Cir} {m : Nat} (ih : DfsAt c m) (g : Gate) (ks : List Int) (hks : ks.length ≤ 1000) : ∀ (suf pre : List Int) (s : List Bool), ks = pre ++ suf → (∀ x ∈ suf, okx c x) → s.length = c.2.1.length → U (mkd s) c.2.1.length ≤ m →
    ∃ s', DfsL c s s' suf ∧ Lp (fun k => Used178.l0 (GrpUsed178 k) k (ks.length : Int)) (c, (), g, (), (pre.length : Int), (), s, ((), c, (), ()), ks) (c, (), g, (), s', ((), c, (), ())) := by
  intro suf
  induction suf with
  | nil =>
    intro pre s h _ _ _
    rw [List.append_nil] at h
    subst h
    refine ⟨s, .nil, .done ?_⟩
    simp only [Used178.l0]
    exact .no (by simp) (.now _)
  | cons x suf ih2 =>
    intro pre s h hok hs hU
    obtain ⟨s1, d1, e1⟩ := ih s hs hU x (hok x (List.mem_cons_self ..))
    obtain ⟨s2, d2, e2⟩ := ih2 (pre ++ [x]) s1 (by rw [h]; simp) (fun y hy => hok y (List.mem_cons_of_mem _ hy)) (d1.len.trans hs) (Nat.le_trans (U_le (fun j _ hj => d1.mono j hj)) hU)
    have hx : ks[pre.length]? = some x := by rw [h]; simp
    have hlt := get_lt hx
    refine ⟨s2, d1.app d2, .step ?_ e2⟩
    simp only [Used178.l0]
    refine .yes (decide_eq_true (by omega)) (.val (rd_some' hx) (.val (rd_some' hx) (.bind (show Ev (fun k => GrpUsed178 k x () c () () s ((), c, (), ())) _ from e1) (.now' ?_))))
    rw [w64_succ (by omega)]
    simp
theorem legs_len (g : Gate) : ((legsL g).length : Int) = needs g.1 := by
  unfold legsL
  rcases needs4 g.1 with e | e | e | e <;> rw [e] <;> rfl
theorem dfs {c : Cir} (hR : Right c) : ∀ m, DfsAt c m := by
  intro m
  induction m with
  | zero =>
    intro s hs hU x hx
    obtain ⟨i, rfl⟩ : ∃ i : Nat, x = (i : Int) := ⟨x.toNat, by unfold okx at hx; omega⟩
    have hi : i < s.length := by unfold okx at hx; omega
    have hm : mkd s i = true := by
      cases h : mkd s i with
      | true => rfl
      | false =>
        have := U_lt (p := mkd s) (q := fun _ => true) (n := c.2.1.length) (fun _ _ _ => rfl) ⟨i, by omega, rfl, h⟩
        omega
    refine ⟨s, ⟨rfl, fun _ h => h, fun y hy => by rw [List.mem_singleton.1 hy]; exact hm, fun j h1 h2 => by rw [h1] at h2; cases h2⟩, Ev.succ ?_⟩
    have hr := rd_some' (mkd_at hi)
    show Ev (fun k => Used178.b (GrpUsed178 k) k (i : Int) () c () () s ((), c, (), ())) _
    unfold Used178.b
    exact .val hr (.val hr (.yes hm (.now _)))
  | succ m ih =>
    intro s hs hU x hx
    obtain ⟨i, rfl⟩ : ∃ i : Nat, x = (i : Int) := ⟨x.toNat, by unfold okx at hx; omega⟩
    have hi : i < s.length := by unfold okx at hx; omega
    have hr := rd_some' (mkd_at hi)
    cases hm : mkd s i with
    | true =>
      rw [hm] at hr
      refine ⟨s, ⟨rfl, fun _ h => h, fun y hy => by rw [List.mem_singleton.1 hy]; exact hm, fun j h1 h2 => by rw [h1] at h2; cases h2⟩, Ev.succ ?_⟩
      show Ev (fun k => Used178.b (GrpUsed178 k) k (i : Int) () c () () s ((), c, (), ())) _
      unfold Used178.b
      exact .val hr (.val hr (.yes rfl (.now _)))
    | false =>
      rw [hm] at hr
      obtain ⟨g, hg⟩ : ∃ g, c.2.1[i]? = some g := ⟨c.2.1[i]'(by omega), List.getElem?_eq_getElem _⟩
      have hk := (gate_ok (hR.gate i g hg)).1
      have hs1 : (s.set i true).length = c.2.1.length := by rw [List.length_set]; exact hs
      have hU1 : U (mkd (s.set i true)) c.2.1.length ≤ m := by
        have := U_lt (p := mkd s) (q := mkd (s.set i true)) (n := c.2.1.length) (fun j _ hj => by rw [mkd_set hi]; split <;> first | rfl | exact hj) ⟨i, by omega, by rw [mkd_set hi, if_pos rfl], hm⟩
        omega
      have hko := kids_ok hR hg
      have hll : (legsL g).length ≤ 3 := by
        unfold legsL
        rw [List.length_take]
        simp only [List.length_cons, List.length_nil]
        omega
      obtain ⟨s1, d1, e1⟩ := kids_lp ih g (legsL g) (by omega) (legsL g) [] (s.set i true) rfl (fun y hy => hko y (List.mem_append_left _ hy)) hs1 hU1
      have hUs1 : U (mkd s1) c.2.1.length ≤ m := Nat.le_trans (U_le (fun j _ hj => d1.mono j hj)) hU1
      obtain ⟨s2, d2, e2⟩ : ∃ s2, DfsL c s1 s2 (flopL c g) ∧ Ev (fun k => (cond (g.1 == 2)
        ((rd c.2.2.2.1 g.2.2.2.2).bind fun t48 =>
        (GrpUsed178 k t48 () c () () s1 ((), c, (), ())).bind fun t50 =>
        some ((), t50.2.2.1, t50.2.2.2))
        (some ((), s1, ((), c, (), ()))) : Option (Unit × ((List Bool) × Env)))) ((), s2, ((), c, (), ())) := by
        unfold flopL
        by_cases h2 : g.1 = 2
        · obtain ⟨q1, q2⟩ := flop_at hR hg h2
          obtain ⟨s2, d2, e2⟩ := ih s1 (d1.len.trans hs1) hUs1 _ q2
          rw [if_pos h2]
          exact ⟨s2, d2, .yes (by simpa using h2) (.val q1 (.bind (show Ev (fun k => GrpUsed178 k _ () c () () s1 ((), c, (), ())) _ from e2) (.now _)))⟩
        · rw [if_neg h2]
          exact ⟨s1, .nil, .no (by simpa using h2) (.now _)⟩
      refine ⟨s2, DfsL.top hi hg (d1.app d2), Ev.succ ?_⟩
      show Ev (fun k => Used178.b (GrpUsed178 k) k (i : Int) () c () () s ((), c, (), ())) _
      unfold Used178.b
      refine .val hr (.val hr (.no rfl (.val hr (.val hr (.val (rd_some' hg) (.bind (a := (c, (), g, (), ((legsL g).length : Int), 0, (), s.set i true, ((), c, (), ()), legsL g)) ?_ (.bind e1.ev (.bind e2 (.now _)))))))))
      refine Ev.of (f := fun k => (inputs79 k g.1).bind fun t29 => (slc ([g.2.1, g.2.2.1, g.2.2.2.1] : List Int) 0 t29.1).bind fun t30 => some (c, (), g, (), (List.length t30 : Int), 0, (), s.set i true, ((), c, (), ()), t30)) ?_ (fun k => agree_self _)
      refine .bind (inputs_ev g.1) (.val (a := legsL g) ?_ (.now _))
      rw [if_neg hk]
      have e : needs g.1 = ((needs g.1).toNat : Int) := by rcases needs4 g.1 with e | e | e | e <;> rw [e] <;> rfl
      rw [e]
      have : slc ([g.2.1, g.2.2.1, g.2.2.2.1] : List Int) ((0 : Nat) : Int) ((needs g.1).toNat : Int) = _ := slc_ok (Nat.zero_le _) (by simp only [List.length_cons, List.length_nil]; rcases needs4 g.1 with e | e | e | e <;> rw [e] <;> decide)
      exact this

/-- what an output hangs on -/
def Rch (c : Cir) (j : Nat) : Prop := ∃ x ∈ c.2.2.1, Pth c x (j : Int)
theorem pth_closed {c : Cir} {p : Int → Prop} (hc : ∀ (k : Nat) g, c.2.1[k]? = some g → p (k : Int) → ∀ y ∈ kids c g, p y) {x z : Int} (h : Pth c x z) : p x → p z := by
  induction h with
  | here => exact id
  | kid hg hy _ ih => exact fun hp => ih (hc _ _ hg hp _ hy)
open Classical in
def uL (c : Cir) : List Int := ((List.range c.2.1.length).filter (fun j => decide (Rch c j))).map (fun (j : Nat) => (j : Int))
theorem collect (p : Nat → Bool) : ∀ (l : List Nat) (o : List Int), l.foldl (fun o j => if p j = true then o ++ [(j : Int)] else o) o = o ++ (l.filter p).map (fun (j : Nat) => (j : Int))
  | [], o => by simp
  | j :: l, o => by
    rw [List.foldl_cons, collect p l]
    by_cases h : p j = true
    · rw [if_pos h, List.filter_cons_of_pos h]; simp
    · rw [if_neg h, List.filter_cons_of_neg h]
open Classical in
theorem uL_of {c : Cir} {p : Nat → Bool} (h : ∀ j, j < c.2.1.length → (p j = true ↔ Rch c j)) : ((List.range c.2.1.length).filter p).map (fun (j : Nat) => (j : Int)) = uL c := by
  unfold uL
  congr 1
  apply List.filter_congr
  intro j hj
  rw [Bool.eq_iff_iff, decide_eq_true_iff]
  exact h j (List.mem_range.1 hj)
theorem collect_len (p : Nat → Bool) (l : List Nat) : ((l.filter p).map (fun (j : Nat) => (j : Int))).length ≤ l.length := by
  rw [List.length_map]; exact List.length_filter_le _ _
theorem foldl_len (p : Nat → Bool) (o : List Int) (l : List Nat) : (l.foldl (fun o j => if p j = true then o ++ [(j : Int)] else o) o).length ≤ o.length + l.length := by
  rw [collect, List.length_append]
  have := collect_len p l
  omega
theorem outs_lp {c : Cir} (hR : Right c) : ∀ (suf pre : List Int) (s : List Bool), c.2.2.1 = pre ++ suf → s.length = c.2.1.length → ∃ s', DfsL c s s' suf ∧ Lp (fun k => Used29.l0 k c) ((), (), (pre.length : Int), s, (), (), c, (), ()) ((), s', ()) := by
  intro suf
  induction suf with
  | nil =>
    intro pre s h _
    rw [List.append_nil] at h
    refine ⟨s, .nil, .done ?_⟩
    simp only [Used29.l0]
    exact .no (by rw [h]; simp) (.now _)
  | cons x suf ih2 =>
    intro pre s h hs
    have hx : c.2.2.1[pre.length]? = some x := by rw [h]; simp
    have hlt := get_lt hx
    have h10 := hR.outs.1
    obtain ⟨s1, d1, e1⟩ := dfs hR (U (mkd s) c.2.1.length) s hs (Nat.le_refl _) x (hR.outs.2 x (get_mem hx))
    obtain ⟨s2, d2, e2⟩ := ih2 (pre ++ [x]) s1 (by rw [h]; simp) (d1.len.trans hs)
    refine ⟨s2, d1.app d2, .step ?_ e2⟩
    simp only [Used29.l0]
    refine .yes (decide_eq_true (by omega)) (.val (rd_some' hx) (.bind e1 (.now' ?_)))
    rw [w64_succ (by omega)]
    simp
theorem used_ev (c : Cir) : Ev (fun k => Used29 k c) ((if fault c ≠ 0 then [] else uL c, fault c, ()), ()) := by
  unfold Used29
  refine .bind (check_ev c) ?_
  by_cases hf : fault c ≠ 0
  · rw [if_pos hf]
    exact .yes (bne_iff_ne.2 hf) (.now _)
  rw [if_neg hf]
  have hf0 : fault c = 0 := by omega
  have hR := right_of c hf0
  have hn := hR.gates
  obtain ⟨s, d, e⟩ := outs_lp hR c.2.2.1 [] (List.replicate c.2.1.length false) rfl (by simp)
  have hs : s.length = c.2.1.length := d.len.trans (by simp)
  have hm0 : ∀ j, mkd (List.replicate c.2.1.length false) j = false := fun j => by
    unfold mkd
    rw [List.getD_eq_getElem?_getD, List.getElem?_replicate]
    split <;> rfl
  have hiff : ∀ j, j < c.2.1.length → (mkd s j = true ↔ Rch c j) := by
    intro j _
    constructor
    · exact fun h => (d.new j h (hm0 j)).1
    · rintro ⟨x, hx, hp⟩
      have := pth_closed (p := fun y => mkd s y.toNat = true) (fun k g hg hk y hy => (d.new k (by simpa using hk) (hm0 k)).2 g hg y hy) hp (d.at_ x hx)
      simpa using this
  refine .no (by rw [hf0]; rfl) (.val (a := ()) (if_pos ⟨by omega, by omega, by omega⟩) (.bind (a := ((), s, ())) (by rw [Int.toNat_natCast]; exact e.ev) (.bind (a := ((), uL c)) (Lp.ev ?_) (.now' (by rw [hf0])))))
  have hc := Lp.count (body := fun k => Used29.l1 k s) c.2.1.length (fun (o : List Int) i => ((), (), i, s, o)) (fun o j => if mkd s j = true then o ++ [(j : Int)] else o) (fun o => ((), o)) (fun i o => o.length ≤ i) (fun i o hi ho => ⟨?_, ?_⟩) (fun b _ => ?_) (b := []) (Nat.zero_le _)
  · rw [collect, List.nil_append, uL_of hiff] at hc
    exact hc
  · have hr := rd_some' (mkd_at (s := s) (i := i) (by omega))
    have hw2 : w64 ((i : Int) + 1) = (i : Int) + 1 := w64_id (by omega) (by omega)
    simp only [Used29.l1]
    refine .yes (decide_eq_true (by omega)) (.val hr (.val hr ?_))
    by_cases hm : mkd s i = true
    · rw [if_pos hm]
      refine .bind (.yes hm (.val (a := ()) (if_pos (room_ok ?_)) (.now ((), (), s, o ++ [(i : Int)])))) (.now' (by rw [hw2]))
      show (o.length + 1) * 8 ≤ _
      omega
    · rw [if_neg hm]
      exact .bind (.no (by simpa using hm) (.now ((), (), s, o))) (.now' (by rw [hw2]))
  · split
    · rw [List.length_append]; simp; omega
    · omega
  · simp only [Used29.l1]
    exact .no (decide_eq_false (by omega)) (.now _)
end Go.Proofs.Ytjbdhaenakcclaa.Gu

/- Circuits of gates: what hangs on what, told by more and more. No program in sight. -/
set_option linter.unusedVariables false
set_option maxRecDepth 100000
noncomputable section
namespace Go.Proofs.Ytjbdhaenakcclaa.Gu
open Go Go.Proofs.Ytjbdhaenakcclaa.Gp

abbrev HM := List (Int × Bool)
def getH (m : HM) (x : Int) : Option Bool := mget (.int .i64) .bool m x
def has (m : HM) (x : Int) : Bool := Option.getD (α := Bool) (getH m x) false
def putH (m : HM) (x : Int) : HM := mput (.int .i64) .bool m x true
def AllT (m : HM) : Prop := ∀ x v, getH m x = some v → v = true
theorem get_put (m : HM) (x y : Int) : getH (putH m x) y = if y = x then some true else getH m y := by
  have := mget_mput (kk := .int .i64) (kv := .bool) rfl (l := m) (k := x) (k' := y) (v := true)
  refine Eq.trans this ?_
  by_cases h : y = x
  · rw [if_pos ((eqB_iff (k := .int .i64) rfl).2 h), if_pos h]
    rfl
  · rw [if_neg (fun e => h ((eqB_iff (k := .int .i64) rfl).1 e)), if_neg h]
    rfl
theorem has_put (m : HM) (x y : Int) : has (putH m x) y = if y = x then true else has m y := by
  unfold has
  rw [get_put]
  by_cases h : y = x
  · rw [if_pos h, if_pos h]; rfl
  · rw [if_neg h, if_neg h]
theorem allT_put {m : HM} (h : AllT m) (x : Int) : AllT (putH m x) := by
  intro y v hv
  rw [get_put] at hv
  by_cases hy : y = x
  · rw [if_pos hy] at hv; cases hv; rfl
  · rw [if_neg hy] at hv; exact h y v hv
theorem len_put {m : HM} (h : AllT m) (x : Int) : (putH m x).length = if has m x = true then m.length else m.length + 1 := by
  have hlen : (putH m x).length = if mpos (.int .i64) .bool m x < m.length then m.length else m.length + 1 := by
    by_cases hp : mpos (.int .i64) .bool m x < m.length
    · rw [if_pos hp]
      exact (congrArg List.length (if_pos hp)).trans (List.length_modify ..)
    · rw [if_neg hp]
      exact (congrArg List.length (if_neg hp)).trans ((List.length_append ..).trans rfl)
  rw [hlen]
  by_cases hp : mpos (.int .i64) .bool m x < m.length
  · rw [if_pos hp]
    have : has m x = true := by
      unfold has
      cases hg : getH m x with
      | some v => rw [h x v hg]; rfl
      | none =>
        exfalso
        obtain ⟨e, he, heq⟩ := mpos_lt hp
        have hn : m.find? (fun e => eqB (.int .i64) x e.1) = none := by
          cases hf : m.find? (fun e => eqB (.int .i64) x e.1) with
          | none => rfl
          | some q =>
            have h2 : getH m x = some q.2 := congrArg (Option.map (fun e : Int × Bool => e.2)) hf
            exact absurd (hg.symm.trans h2) (by intro e; cases e)
        exact List.find?_eq_none.1 hn e (List.mem_of_getElem? he) heq
    rw [if_pos this]
  · rw [if_neg hp]
    have : has m x = false := by
      have hn : m.find? (fun e => eqB (.int .i64) x e.1) = none := List.find?_eq_none.2 (fun e he hq => hp (List.findIdx_lt_length_of_exists ⟨e, he, hq⟩))
      have hg : getH m x = none := congrArg (Option.map (fun e : Int × Bool => e.2)) hn
      unfold has
      rw [hg]; rfl
    rw [if_neg (by rw [this]; decide)]

/-- more and more -/
structure Grow (n : Nat) (m m' : HM) : Prop where
  le : m.length ≤ m'.length
  mono : ∀ x, has m x = true → has m' x = true
  same : m'.length = m.length → ∀ x, has m' x = true → has m x = true
  more : m'.length ≠ m.length → ∃ j : Nat, j < n ∧ has m' j = true ∧ has m j = false
theorem Grow.refl {n : Nat} {m : HM} : Grow n m m := ⟨Nat.le_refl _, fun _ h => h, fun _ _ h => h, fun h => absurd rfl h⟩
theorem Grow.trans {n : Nat} {m1 m2 m3 : HM} (h : Grow n m1 m2) (k : Grow n m2 m3) : Grow n m1 m3 := by
  refine ⟨Nat.le_trans h.le k.le, fun x hx => k.mono x (h.mono x hx), fun e x hx => ?_, fun hne => ?_⟩
  · have := h.le
    have := k.le
    exact h.same (by omega) x (k.same (by omega) x hx)
  · by_cases h1 : m2.length = m1.length
    · obtain ⟨j, a, b, d⟩ := k.more (by omega)
      refine ⟨j, a, b, ?_⟩
      cases hj : has m1 j with
      | false => rfl
      | true => rw [h.mono _ hj] at d; cases d
    · obtain ⟨j, a, b, d⟩ := h.more h1
      exact ⟨j, a, k.mono _ b, d⟩
theorem Grow.put {c : Cir} {m : HM} (ha : AllT m) {x : Int} (hx : okx c x) : Grow c.2.1.length m (putH m x) := by
  have hl := len_put ha x
  refine ⟨by rw [hl]; split <;> omega, fun y hy => by rw [has_put]; split <;> first | rfl | exact hy, fun e y hy => ?_, fun hne => ?_⟩
  · have : has m x = true := by
      by_cases h : has m x = true
      · exact h
      · rw [if_neg h] at hl; omega
    rw [has_put] at hy
    by_cases hyx : y = x
    · rw [hyx]; exact this
    · rw [if_neg hyx] at hy; exact hy
  · have h0 : has m x = false := by
      cases h : has m x with
      | false => rfl
      | true => rw [if_pos h] at hl; exact absurd hl hne
    unfold okx at hx
    refine ⟨x.toNat, by omega, ?_, ?_⟩
    · rw [has_put, if_pos (by omega)]
    · rw [show ((x.toNat : Nat) : Int) = x by omega]; exact h0
/-- all in it is right -/
structure Snd (c : Cir) (m : HM) : Prop where
  all : AllT m
  rch : ∀ x, has m x = true → ∃ j : Nat, x = (j : Int) ∧ Rch c j
theorem Snd.put {c : Cir} {m : HM} (h : Snd c m) {x : Int} (hx : ∃ j : Nat, x = (j : Int) ∧ Rch c j) : Snd c (putH m x) := by
  refine ⟨allT_put h.all x, fun y hy => ?_⟩
  rw [has_put] at hy
  by_cases hyx : y = x
  · rw [hyx]; exact hx
  · rw [if_neg hyx] at hy; exact h.rch y hy
def putAll (m : HM) (l : List Int) : HM := l.foldl putH m
theorem putAll_ok {c : Cir} : ∀ {l : List Int} {m : HM}, Snd c m → (∀ x ∈ l, okx c x ∧ ∃ j : Nat, x = (j : Int) ∧ Rch c j) → Grow c.2.1.length m (putAll m l) ∧ Snd c (putAll m l) ∧ ∀ x ∈ l, has (putAll m l) x = true
  | [], m, hs, _ => ⟨.refl, hs, fun x hx => by cases hx⟩
  | x :: l, m, hs, h => by
    obtain ⟨a, b⟩ := h x (List.mem_cons_self ..)
    obtain ⟨h1, h2, h3⟩ := putAll_ok (l := l) (hs.put b) (fun y hy => h y (List.mem_cons_of_mem _ hy))
    refine ⟨(Grow.put hs.all a).trans h1, h2, fun y hy => ?_⟩
    rcases List.mem_cons.1 hy with rfl | hy
    · exact h1.mono _ (by rw [has_put, if_pos rfl])
    · exact h3 y hy
theorem pth_snoc {c : Cir} {x y : Int} {k : Nat} {g : Gate} (h : Pth c x (k : Int)) (hg : c.2.1[k]? = some g) (hy : y ∈ kids c g) : Pth c x y := by
  generalize hz : (k : Int) = z at h
  induction h with
  | here => subst hz; exact .kid hg hy .here
  | kid hg' hy' _ ih => exact .kid hg' hy' (ih hz)
theorem kid_rch {c : Cir} (hR : Right c) {k : Nat} {g : Gate} (hg : c.2.1[k]? = some g) (hk : Rch c k) : ∀ y ∈ kids c g, okx c y ∧ ∃ j : Nat, y = (j : Int) ∧ Rch c j := by
  intro y hy
  have ho := kids_ok hR hg y hy
  obtain ⟨x, hx, hp⟩ := hk
  refine ⟨ho, y.toNat, by unfold okx at ho; omega, x, hx, ?_⟩
  rw [show ((y.toNat : Nat) : Int) = y by unfold okx at ho; omega]
  exact pth_snoc hp hg hy

theorem hang0_lp {c : Cir} (hl : c.2.2.1.length ≤ 1000) : Lp (fun k => Hang31.l0 k c) (c, (), 0, []) (c, (), putAll [] c.2.2.1) := by
  refine Lp.fold (body := fun k => Hang31.l0 k c) c.2.2.1 (fun (m : HM) i => (c, (), i, m)) putH (fun m => (c, (), m)) (fun _ _ => True) (fun i x m hx _ => ⟨?_, trivial⟩) (fun b _ => ?_) trivial
  · have hi := get_lt hx
    simp only [Hang31.l0]
    refine .yes (decide_eq_true (by omega)) (.val (rd_some' hx) (.now' ?_))
    rw [w64_id (by omega) (by omega)]; rfl
  · simp only [Hang31.l0]
    exact .no (by simp) (.now _)
theorem kids0 {c : Cir} {g : Gate} (h : g.1 = 0 ∨ g.1 = 1) : kids c g = [] := by
  unfold kids legsL flopL needs
  rcases h with h | h <;> rw [h] <;> rfl
theorem kids2 {c : Cir} {g : Gate} (h : g.1 = 2) : kids c g = [c.2.2.2.1.getD g.2.2.2.2.toNat 0] := by
  unfold kids legsL flopL needs
  rw [h]; rfl
theorem kids3 {c : Cir} {g : Gate} (h : g.1 = 3) : kids c g = [g.2.1] := by
  unfold kids legsL flopL needs
  rw [h]; rfl
theorem kids4 {c : Cir} {g : Gate} (h : g.1 = 4 ∨ g.1 = 5 ∨ g.1 = 6) : kids c g = [g.2.1, g.2.2.1] := by
  unfold kids legsL flopL needs
  rcases h with h | h | h <;> rw [h] <;> rfl
theorem kids7 {c : Cir} {g : Gate} (h : g.1 = 7) : kids c g = [g.2.1, g.2.2.1, g.2.2.2.1] := by
  unfold kids legsL flopL needs
  rw [h]; rfl
theorem one_pass {c : Cir} (hR : Right c) {j : Nat} {g : Gate} (hg : c.2.1[j]? = some g) (m : HM) (hh : has m j = true) : ∃ l : List Int, (∀ y, y ∈ l ↔ y ∈ kids c g) ∧
    Ev (fun k => Hang31.l1 k (c, (), (j : Int), m)) (.inl (c, (), (j : Int) - 1, putAll m l)) := by
  have hn := hR.gates
  have hj := get_lt hg
  have hw : w64 ((j : Int) - 1) = (j : Int) - 1 := w64_id (by omega) (by omega)
  have hb : (!(Option.getD (α := Bool) (mget (.int .i64) .bool m (j : Int)) false)) = false := (congrArg not (show Option.getD (α := Bool) (mget (.int .i64) .bool m (j : Int)) false = true from hh))
  rcases kinds (gate_ok (hR.gate j g hg)).1 with h | h | h | h | h | h | h | h
  · refine ⟨[], fun y => by rw [kids0 (.inl h)], ?_⟩
    simp only [Hang31.l1]
    refine .yes (decide_eq_true (by omega)) (.bind (.no hb (.val (rd_some' hg) (.bind (a := (c, (), m)) (.joinR (.joinR (.no (by rw [h]; rfl) (.no (by rw [h]; rfl) (.no (by rw [h]; rfl) (.no (by rw [h]; rfl) (.now _))))))) (.now _)))) (.now' (by rw [hw]; rfl)))
  · refine ⟨[], fun y => by rw [kids0 (.inr h)], ?_⟩
    simp only [Hang31.l1]
    refine .yes (decide_eq_true (by omega)) (.bind (.no hb (.val (rd_some' hg) (.bind (a := (c, (), m)) (.joinR (.joinR (.no (by rw [h]; rfl) (.no (by rw [h]; rfl) (.no (by rw [h]; rfl) (.no (by rw [h]; rfl) (.now _))))))) (.now _)))) (.now' (by rw [hw]; rfl)))
  · obtain ⟨q1, q2⟩ := flop_at hR hg h
    refine ⟨[c.2.2.2.1.getD g.2.2.2.2.toNat 0], fun y => by rw [kids2 h], ?_⟩
    simp only [Hang31.l1]
    refine .yes (decide_eq_true (by omega)) (.bind (.no hb (.val (rd_some' hg) (.bind (a := (c, (), putH m (c.2.2.2.1.getD g.2.2.2.2.toNat 0))) (.joinR (.joinR (.yes (by rw [h]; rfl) (.val q1 (.now _))))) (.now _)))) (.now' (by rw [hw]; rfl)))
  · refine ⟨[g.2.1], fun y => by rw [kids3 h], ?_⟩
    simp only [Hang31.l1]
    refine .yes (decide_eq_true (by omega)) (.bind (.no hb (.val (rd_some' hg) (.bind (a := (c, (), putH m g.2.1)) (.joinL (S := Unit) (a := (c, (), g, m)) (.joinR (.no (by rw [h]; rfl) (.no (by rw [h]; rfl) (.no (by rw [h]; rfl) (.yes (by rw [h]; rfl) (.now _)))))) (.now _)) (.now _)))) (.now' (by rw [hw]; rfl)))
  · refine ⟨[g.2.2.1, g.2.1], fun y => by rw [kids4 (.inl h)]; simp [or_comm], ?_⟩
    simp only [Hang31.l1]
    refine .yes (decide_eq_true (by omega)) (.bind (.no hb (.val (rd_some' hg) (.bind (a := (c, (), putH (putH m g.2.2.1) g.2.1)) (.joinL (S := Unit) (a := (c, (), g, putH m g.2.2.1)) (.joinL (S := Unit) (a := (c, (), g, m)) (.no (by rw [h]; rfl) (.no (by rw [h]; rfl) (.yes (by rw [h]; rfl) (.now _)))) (.now _)) (.now _)) (.now _)))) (.now' (by rw [hw]; rfl)))
  · refine ⟨[g.2.2.1, g.2.1], fun y => by rw [kids4 (.inr (.inl h))]; simp [or_comm], ?_⟩
    simp only [Hang31.l1]
    refine .yes (decide_eq_true (by omega)) (.bind (.no hb (.val (rd_some' hg) (.bind (a := (c, (), putH (putH m g.2.2.1) g.2.1)) (.joinL (S := Unit) (a := (c, (), g, putH m g.2.2.1)) (.joinL (S := Unit) (a := (c, (), g, m)) (.no (by rw [h]; rfl) (.no (by rw [h]; rfl) (.yes (by rw [h]; rfl) (.now _)))) (.now _)) (.now _)) (.now _)))) (.now' (by rw [hw]; rfl)))
  · refine ⟨[g.2.2.1, g.2.1], fun y => by rw [kids4 (.inr (.inr h))]; simp [or_comm], ?_⟩
    simp only [Hang31.l1]
    refine .yes (decide_eq_true (by omega)) (.bind (.no hb (.val (rd_some' hg) (.bind (a := (c, (), putH (putH m g.2.2.1) g.2.1)) (.joinL (S := Unit) (a := (c, (), g, putH m g.2.2.1)) (.joinL (S := Unit) (a := (c, (), g, m)) (.no (by rw [h]; rfl) (.no (by rw [h]; rfl) (.yes (by rw [h]; rfl) (.now _)))) (.now _)) (.now _)) (.now _)))) (.now' (by rw [hw]; rfl)))
  · refine ⟨[g.2.2.2.1, g.2.2.1, g.2.1], fun y => by rw [kids7 h]; simp only [List.mem_cons, List.not_mem_nil, or_false]; constructor <;> (rintro (h | h | h) <;> simp [h]), ?_⟩
    simp only [Hang31.l1]
    refine .yes (decide_eq_true (by omega)) (.bind (.no hb (.val (rd_some' hg) (.bind (a := (c, (), putH (putH (putH m g.2.2.2.1) g.2.2.1) g.2.1)) (.joinL (S := Unit) (a := (c, (), g, putH (putH m g.2.2.2.1) g.2.2.1)) (.joinL (S := Unit) (a := (c, (), g, putH m g.2.2.2.1)) (.no (by rw [h]; rfl) (.yes (by rw [h]; rfl) (.now _))) (.now _)) (.now _)) (.now _)))) (.now' (by rw [hw]; rfl)))
theorem pass_lp {c : Cir} (hR : Right c) : ∀ (i : Nat) (m : HM), i ≤ c.2.1.length → Snd c m → ∃ m', Grow c.2.1.length m m' ∧ Snd c m' ∧ (∀ (j : Nat) g, j < i → c.2.1[j]? = some g → has m j = true → ∀ y ∈ kids c g, has m' y = true) ∧
    Lp (fun k => Hang31.l1 k) (c, (), (i : Int) - 1, m) (c, (), m') := by
  have hn := hR.gates
  intro i
  induction i with
  | zero =>
    intro m _ hs
    refine ⟨m, .refl, hs, fun j g hj => absurd hj (Nat.not_lt_zero _), .done ?_⟩
    simp only [Hang31.l1]
    exact .no (decide_eq_false (by omega)) (.now _)
  | succ i ih =>
    intro m hi hs
    obtain ⟨g, hg⟩ : ∃ g, c.2.1[i]? = some g := ⟨c.2.1[i]'(by omega), List.getElem?_eq_getElem _⟩
    have e : ((i + 1 : Nat) : Int) - 1 = (i : Int) := by omega
    rw [e]
    cases hh : has m i with
    | false =>
      obtain ⟨m', g1, g2, g3, g4⟩ := ih m (by omega) hs
      refine ⟨m', g1, g2, fun j g' hj hg' hm y hy => ?_, .step (s' := (c, (), (i : Int) - 1, m)) ?_ g4⟩
      · by_cases hji : j = i
        · subst hji; rw [hh] at hm; cases hm
        · exact g3 j g' (by omega) hg' hm y hy
      · simp only [Hang31.l1]
        refine .yes (decide_eq_true (by omega)) (.bind (.yes (congrArg not (show Option.getD (α := Bool) (mget (.int .i64) .bool m (i : Int)) false = false from hh)) (.now (c, (), m))) (.now' ?_))
        rw [w64_id (by omega) (by omega)]
    | true =>
      obtain ⟨l, hl, hev⟩ := one_pass hR hg m hh
      obtain ⟨j, hj, hr⟩ := hs.rch _ hh
      have hji : j = i := by omega
      subst hji
      obtain ⟨p1, p2, p3⟩ := putAll_ok hs (l := l) (fun y hy => kid_rch hR hg hr y ((hl y).1 hy))
      obtain ⟨m', g1, g2, g3, g4⟩ := ih (putAll m l) (by omega) p2
      refine ⟨m', p1.trans g1, g2, fun q g' hq hg' hm y hy => ?_, .step hev g4⟩
      by_cases hqi : q = j
      · subst hqi
        rw [hg] at hg'
        cases hg'
        exact g1.mono _ (p3 y ((hl y).2 hy))
      · exact g3 q g' (by omega) hg' (p1.mono _ hm) y hy
def ClosedM (c : Cir) (m : HM) : Prop := ∀ (j : Nat) g, c.2.1[j]? = some g → has m j = true → ∀ y ∈ kids c g, has m y = true
theorem more_lp {c : Cir} (hR : Right c) : ∀ (u : Nat) (m : HM) (nn : Int), Snd c m → U (fun j => has m j) c.2.1.length ≤ u → (nn = (m.length : Int) → ClosedM c m) → ∃ m', Snd c m' ∧ (∀ x, has m x = true → has m' x = true) ∧ ClosedM c m' ∧
    Lp (fun k => Hang31.l2 k) (c, (), nn, m) (c, (), m') := by
  intro u
  induction u with
  | zero =>
    intro m nn hs hU hcl
    by_cases hne : nn = (m.length : Int)
    · refine ⟨m, hs, fun _ h => h, hcl hne, .done ?_⟩
      simp only [Hang31.l2]
      exact .no (by simp [hne]) (.now _)
    · obtain ⟨m1, g1, g2, g3, g4⟩ := pass_lp hR c.2.1.length m (Nat.le_refl _) hs
      have hsame : m1.length = m.length := by
        by_cases h : m1.length = m.length
        · exact h
        · obtain ⟨j, a, b, d⟩ := g1.more h
          have := U_lt (p := fun j => has m j) (q := fun j => has m1 j) (n := c.2.1.length) (fun j _ hj => g1.mono _ hj) ⟨j, a, b, d⟩
          omega
      have hw : w64 ((c.2.1.length : Int) - 1) = (c.2.1.length : Int) - 1 := w64_id (by omega) (by have := hR.gates; omega)
      refine ⟨m1, g2, g1.mono, fun j g hg hj y hy => g3 j g (get_lt hg) hg (g1.same hsame _ hj) y hy, .step (s' := (c, (), (m.length : Int), m1)) ?_ (.done ?_)⟩
      · simp only [Hang31.l2]
        refine .yes (by simpa using hne) (.bind (by rw [hw]; exact g4.ev) (.now _))
      · simp only [Hang31.l2]
        exact .no (by simp [hsame]) (.now _)
  | succ u ih =>
    intro m nn hs hU hcl
    by_cases hne : nn = (m.length : Int)
    · refine ⟨m, hs, fun _ h => h, hcl hne, .done ?_⟩
      simp only [Hang31.l2]
      exact .no (by simp [hne]) (.now _)
    · obtain ⟨m1, g1, g2, g3, g4⟩ := pass_lp hR c.2.1.length m (Nat.le_refl _) hs
      have hw : w64 ((c.2.1.length : Int) - 1) = (c.2.1.length : Int) - 1 := w64_id (by omega) (by have := hR.gates; omega)
      have hst : Ev (fun k => Hang31.l2 k (c, (), nn, m)) (.inl (c, (), (m.length : Int), m1)) := by
        simp only [Hang31.l2]
        exact .yes (by simpa using hne) (.bind (by rw [hw]; exact g4.ev) (.now _))
      have hclosed : m1.length = m.length → ClosedM c m1 := fun hsame j g hg hj y hy => g3 j g (get_lt hg) hg (g1.same hsame _ hj) y hy
      by_cases hsame : m1.length = m.length
      · refine ⟨m1, g2, g1.mono, hclosed hsame, .step hst (.done ?_)⟩
        simp only [Hang31.l2]
        exact .no (by simp [hsame]) (.now _)
      · obtain ⟨j, a, b, d⟩ := g1.more hsame
        have := U_lt (p := fun j => has m j) (q := fun j => has m1 j) (n := c.2.1.length) (fun j _ hj => g1.mono _ hj) ⟨j, a, b, d⟩
        obtain ⟨m2, k1, k2, k3, k4⟩ := ih m1 (m.length : Int) g2 (by omega) (fun h => hclosed (by omega))
        exact ⟨m2, k1, fun x hx => k2 x (g1.mono x hx), k3, .step hst k4⟩
theorem hang_ev {c : Cir} (hR : Right c) : Ev (fun k => Hang31 k c) (uL c, ()) := by
  unfold Hang31
  have hn := hR.gates
  have s0 : Snd c ([] : HM) := ⟨fun x v h => (by cases h), fun x h => (by cases h)⟩
  obtain ⟨p1, p2, p3⟩ := putAll_ok (c := c) (l := c.2.2.1) s0 (fun x hx => by
    have ho := hR.outs.2 x hx
    refine ⟨ho, x.toNat, by omega, x, hx, ?_⟩
    rw [show ((x.toNat : Nat) : Int) = x by omega]
    exact .here)
  obtain ⟨m, h1, h2, h3, h4⟩ := more_lp hR _ (putAll [] c.2.2.1) (-1) p2 (Nat.le_refl _) (fun h => by omega)
  have hiff : ∀ j, j < c.2.1.length → (has m (j : Int) = true ↔ Rch c j) := by
    intro j _
    constructor
    · intro h
      obtain ⟨i, e, hr⟩ := h1.rch _ h
      rw [show j = i by omega]
      exact hr
    · rintro ⟨x, hx, hp⟩
      exact pth_closed (p := fun y => has m y = true) h3 hp (h2 x (p3 x hx))
  refine .bind (hang0_lp (by have := hR.outs.1; omega)).ev (.bind h4.ev (.bind (a := ((), uL c)) (Lp.ev ?_) (.now _)))
  have hc := Lp.count (body := fun k => Hang31.l3 k c) c.2.1.length (fun (o : List Int) i => ((), (), i, m, o)) (fun o j => if has m (j : Int) = true then o ++ [(j : Int)] else o) (fun o => ((), o)) (fun i o => o.length ≤ i) (fun i o hi ho => ⟨?_, ?_⟩) (fun b _ => ?_) (b := []) (Nat.zero_le _)
  · rw [collect (fun j => has m (j : Int)), List.nil_append, uL_of hiff] at hc
    exact hc
  · have hw2 : w64 ((i : Int) + 1) = (i : Int) + 1 := w64_id (by omega) (by omega)
    simp only [Hang31.l3]
    refine .yes (decide_eq_true (by omega)) ?_
    by_cases hm : has m (i : Int) = true
    · rw [if_pos hm]
      refine .bind (.yes hm (.val (a := ()) (if_pos (room_ok ?_)) (.now ((), (), m, o ++ [(i : Int)])))) (.now' (by rw [hw2]))
      show (o.length + 1) * 8 ≤ _
      omega
    · rw [if_neg hm]
      exact .bind (.no ((Bool.not_eq_true _).mp hm) (.now ((), (), m, o))) (.now' (by rw [hw2]))
  · split
    · rw [List.length_append]; simp; omega
    · omega
  · simp only [Hang31.l3]
    exact .no (decide_eq_false (by omega)) (.now _)
end Go.Proofs.Ytjbdhaenakcclaa.Gu

/- Circuits of gates: depths, and the law of uses. No program in sight. -/
set_option linter.unusedVariables false
set_option maxRecDepth 100000
noncomputable section
namespace Go.Proofs.Ytjbdhaenakcclaa.Gu
open Go Go.Proofs.Ytjbdhaenakcclaa.Gp

def depF (v : List Nat) (d : Nat) (x : Int) : Nat := max d (v.getD x.toNat 0 + 1)
def depG (v : List Nat) (g : Gate) : Nat := (legsL g).foldl (depF v) 0
def depS (v : List Nat) (g : Gate) : List Nat := v ++ [depG v g]
def deps (l : List Gate) : List Nat := l.foldl depS []
theorem deps_snoc (l : List Gate) (g : Gate) : deps (l ++ [g]) = deps l ++ [depG (deps l) g] := by
  unfold deps; rw [List.foldl_append]; rfl
theorem deps_len (l : List Gate) : (deps l).length = l.length := by
  have : ∀ (l : List Gate) (v : List Nat), (l.foldl depS v).length = v.length + l.length := by
    intro l
    induction l with
    | nil => intro v; rfl
    | cons x l ih => intro v; rw [List.foldl_cons, ih]; simp [depS]; omega
  unfold deps; rw [this]; simp
theorem deps_app (l1 l2 : List Gate) : ∃ t, deps (l1 ++ l2) = deps l1 ++ t := by
  have : ∀ (l : List Gate) (v : List Nat), ∃ t, l.foldl depS v = v ++ t := by
    intro l
    induction l with
    | nil => intro v; exact ⟨[], by simp⟩
    | cons x l ih =>
      intro v
      obtain ⟨t, ht⟩ := ih (depS v x)
      exact ⟨[depG v x] ++ t, by rw [List.foldl_cons, ht]; unfold depS; rw [List.append_assoc]⟩
  unfold deps
  rw [List.foldl_append]
  exact this l2 _
def D (c : Cir) (j : Nat) : Nat := (deps c.2.1).getD j 0
theorem D_pre (c : Cir) {i j : Nat} (hj : j < i) (hi : i ≤ c.2.1.length) : (deps (c.2.1.take i)).getD j 0 = D c j := by
  obtain ⟨t, ht⟩ := deps_app (c.2.1.take i) (c.2.1.drop i)
  rw [List.take_append_drop] at ht
  unfold D
  rw [ht, List.getD_eq_getElem?_getD, List.getD_eq_getElem?_getD, List.getElem?_append_left (by rw [deps_len, List.length_take]; omega)]
theorem D_at (c : Cir) {i : Nat} {g : Gate} (h : c.2.1[i]? = some g) : D c i = depG (deps (c.2.1.take i)) g := by
  have hi := get_lt h
  rw [← D_pre c (Nat.lt_succ_self i) (by omega), List.take_add_one, h, Option.toList_some, deps_snoc, List.getD_eq_getElem?_getD, List.getElem?_append_right (by rw [deps_len, List.length_take]; omega)]
  have : i - (deps (c.2.1.take i)).length = 0 := by rw [deps_len, List.length_take]; omega
  rw [this]; rfl
theorem getD_leB {v : List Nat} {B : Nat} (h : ∀ b ∈ v, b ≤ B) (j : Nat) : v.getD j 0 ≤ B := by
  rw [List.getD_eq_getElem?_getD]
  cases hj : v[j]? with
  | none => simp
  | some b => exact h b (get_mem hj)
theorem depF_le {v : List Nat} {B : Nat} (h : ∀ b ∈ v, b ≤ B) : ∀ (l : List Int) (d : Nat), d ≤ B + 1 → l.foldl (depF v) d ≤ B + 1
  | [], d, hd => hd
  | x :: l, d, hd => by
    rw [List.foldl_cons]
    refine depF_le h l _ ?_
    have := getD_leB h x.toNat
    unfold depF
    omega
theorem deps_le (l : List Gate) : ∀ b ∈ deps l, b ≤ l.length := by
  have : ∀ (l : List Gate) (v : List Nat), (∀ b ∈ v, b ≤ v.length) → ∀ b ∈ l.foldl depS v, b ≤ v.length + l.length := by
    intro l
    induction l with
    | nil => intro v h; exact h
    | cons x l ih =>
      intro v h b hb
      rw [List.foldl_cons] at hb
      have hl : (depS v x).length = v.length + 1 := by simp [depS]
      have := ih (depS v x) (fun b hb => ?_) b hb
      · rw [hl] at this
        rw [List.length_cons]
        omega
      · rw [hl]
        unfold depS at hb
        rcases List.mem_append.1 hb with hb | hb
        · have := h b hb; omega
        · rw [List.mem_singleton.1 hb]
          exact depF_le h _ _ (by omega)
  intro b hb
  have := this l [] (fun b hb => by cases hb) b hb
  simpa using this
theorem mx_nat (a b : Nat) : mxI (a : Int) (b : Int) = ((max a b : Nat) : Int) := by
  unfold mxI
  split <;> omega
theorem row_set2 {v : List Nat} {n : Nat} (h : v.length < n) (d x : Nat) : (rowOf (v ++ [d]) n).set v.length (x : Int) = rowOf (v ++ [x]) n := by
  rw [← rowOf_set h d, List.set_set, rowOf_set h]
theorem row_zero {v : List Nat} {n : Nat} (h : v.length < n) : rowOf v n = rowOf (v ++ [0]) n := by
  rw [← rowOf_set h 0]
  have := rowOf_next h
  obtain ⟨h1, h2⟩ := List.getElem?_eq_some_iff.1 this
  have := List.set_getElem_self h1
  rw [h2] at this
  exact this.symm
theorem getD_app {v : List Nat} {d j : Nat} (h : j < v.length) : (v ++ [d]).getD j 0 = v.getD j 0 := by
  rw [List.getD_eq_getElem?_getD, List.getD_eq_getElem?_getD, List.getElem?_append_left h]
theorem getD_last {v : List Nat} {d : Nat} : (v ++ [d]).getD v.length 0 = d := by
  rw [List.getD_eq_getElem?_getD, List.getElem?_append_right (Nat.le_refl _), Nat.sub_self]; rfl
theorem leg_lp {c : Cir} (hR : Right c) {i : Nat} {g : Gate} (hg : c.2.1[i]? = some g) (v : List Nat) (hv : v.length = i) (hb : ∀ b ∈ v, b ≤ 400) : Lp (fun k => Depth30.l0 k (i : Int) ((legsL g).length : Int)) ((), (), 0, rowOf v c.2.1.length, legsL g) ((), rowOf (depS v g) c.2.1.length) := by
  have hi := get_lt hg
  subst hv
  rw [row_zero hi]
  have hll : ((legsL g).length : Int) ≤ 3 := by rw [legs_len]; rcases needs4 g.1 with e | e | e | e <;> rw [e] <;> decide
  refine Lp.fold (body := fun k => Depth30.l0 k (v.length : Int) ((legsL g).length : Int)) (legsL g) (fun (d : Nat) i => ((), (), i, rowOf (v ++ [d]) c.2.1.length, legsL g)) (depF v) (fun d => ((), rowOf (v ++ [d]) c.2.1.length)) (fun _ d => d ≤ 401) (fun j x d hx hd => ⟨?_, ?_⟩) (fun b _ => ?_) (b := 0) (by omega)
  · have hj := get_lt hx
    obtain ⟨x0, x1⟩ := legs_lt hR hg x (get_mem hx)
    have r1 : rd (rowOf (v ++ [d]) c.2.1.length) (v.length : Int) = some ((d : Nat) : Int) := by
      have := rowOf_at (v := v ++ [d]) (n := c.2.1.length) (j := v.length) (by simp)
      rw [getD_last] at this
      exact rd_some' this
    have r2 : rd (rowOf (v ++ [d]) c.2.1.length) x = some ((v.getD x.toNat 0 : Nat) : Int) := by
      have := rowOf_at (v := v ++ [d]) (n := c.2.1.length) (j := x.toNat) (by simp; omega)
      rw [getD_app (by omega)] at this
      exact rd_z x0 this
    have hg2 := getD_leB hb x.toNat
    simp only [Depth30.l0]
    refine .yes (decide_eq_true (by omega)) (.val (rd_some' hx) (.val (rd_some' hx) (.val r1 (.val r1 (.val r2 (.val r2 (.val r1 (.val r1 (.now' ?_)))))))))
    rw [w64_id (by omega) (by omega), w64_succ (by omega), mx_nat, Int.toNat_natCast, row_set2 hi]
    rfl
  · have hg2 := getD_leB hb x.toNat
    unfold depF
    omega
  · simp only [Depth30.l0]
    exact .no (by simp) (.now _)
theorem depth_lp {c : Cir} (hR : Right c) : Lp (fun k => Depth30.l1 k c) ((), 0, rowOf [] c.2.1.length) ((), rowOf (deps c.2.1) c.2.1.length) := by
  have hn := hR.gates
  refine Lp.fold (body := fun k => Depth30.l1 k c) c.2.1 (fun b i => ((), i, rowOf b c.2.1.length)) depS (fun b => ((), rowOf b c.2.1.length)) (fun i b => b = deps (c.2.1.take i)) (fun i g b hx hb => ⟨?_, ?_⟩) (fun b _ => ?_) (b := []) rfl
  · have hi := get_lt hx
    have hk := (gate_ok (hR.gate i g hx)).1
    have hbl : b.length = i := by rw [hb, deps_len, List.length_take]; omega
    have hb4 : ∀ y ∈ b, y ≤ 400 := fun y hy => by
      rw [hb] at hy
      have := deps_le _ y hy
      rw [List.length_take] at this
      omega
    simp only [Depth30.l1]
    refine .yes (decide_eq_true (by omega)) (.val (rd_some' hx) (.bind (a := ((), (), ((legsL g).length : Int), 0, rowOf b c.2.1.length, legsL g)) ?_ (.bind (leg_lp hR hx b hbl hb4).ev (.now' ?_))))
    · refine Ev.of (f := fun k => (inputs79 k g.1).bind fun t36 => (slc ([g.2.1, g.2.2.1, g.2.2.2.1] : List Int) 0 t36.1).bind fun t37 => some ((), (), (List.length t37 : Int), 0, rowOf b c.2.1.length, t37)) ?_ (fun k => agree_self _)
      refine .bind (inputs_ev g.1) (.val (a := legsL g) ?_ (.now _))
      rw [if_neg hk]
      have e : needs g.1 = ((needs g.1).toNat : Int) := by rcases needs4 g.1 with e | e | e | e <;> rw [e] <;> rfl
      rw [e]
      have : slc ([g.2.1, g.2.2.1, g.2.2.2.1] : List Int) ((0 : Nat) : Int) ((needs g.1).toNat : Int) = _ := slc_ok (Nat.zero_le _) (by simp only [List.length_cons, List.length_nil]; rcases needs4 g.1 with e | e | e | e <;> rw [e] <;> decide)
      exact this
    · rw [w64_id (by omega) (by omega)]
  · rw [List.take_add_one, hx, Option.toList_some, deps_snoc, ← hb]; rfl
  · simp only [Depth30.l1]
    exact .no (by simp) (.now _)
theorem depth_ev (c : Cir) : Ev (fun k => Depth30 k c) ((if fault c ≠ 0 then [] else ints (deps c.2.1), fault c, ()), ()) := by
  unfold Depth30
  refine .bind (check_ev c) ?_
  by_cases hf : fault c ≠ 0
  · rw [if_pos hf]
    exact .yes (bne_iff_ne.2 hf) (.now _)
  rw [if_neg hf]
  have hf0 : fault c = 0 := by omega
  have hR := right_of c hf0
  have hn := hR.gates
  refine .no (by rw [hf0]; rfl) (.val (a := ()) (if_pos ⟨by omega, by omega, by omega⟩) (.bind (a := ((), rowOf (deps c.2.1) c.2.1.length)) (depth_lp hR).ev (.now' ?_)))
  rw [hf0]
  unfold rowOf
  rw [deps_len, Nat.sub_self]
  simp
theorem dints_at (c : Cir) {i : Nat} (h : i < c.2.1.length) : (ints (deps c.2.1))[i]? = some ((D c i : Nat) : Int) := by
  unfold ints D
  rw [List.getElem?_map, List.getD_eq_getElem?_getD, List.getElem?_eq_getElem (show i < (deps c.2.1).length by rw [deps_len]; omega)]
  rfl
theorem D_le {c : Cir} (hR : Right c) (j : Nat) : D c j ≤ 400 := getD_leB (fun b hb => Nat.le_trans (deps_le _ b hb) hR.gates) j
theorem legs0 {g : Gate} (h : g.1 = 0 ∨ g.1 = 1 ∨ g.1 = 2) : legsL g = [] := by
  unfold legsL needs
  rcases h with h | h | h <;> rw [h] <;> rfl
theorem legs3 {g : Gate} (h : g.1 = 3) : legsL g = [g.2.1] := by
  unfold legsL needs
  rw [h]; rfl
theorem legs4 {g : Gate} (h : g.1 = 4 ∨ g.1 = 5 ∨ g.1 = 6) : legsL g = [g.2.1, g.2.2.1] := by
  unfold legsL needs
  rcases h with h | h | h <;> rw [h] <;> rfl
theorem legs7 {g : Gate} (h : g.1 = 7) : legsL g = [g.2.1, g.2.2.1, g.2.2.2.1] := by
  unfold legsL needs
  rw [h]; rfl
theorem D_leg {c : Cir} {i : Nat} (hi : i ≤ c.2.1.length) {x : Int} (h : 0 ≤ x ∧ x < (i : Int)) : (deps (c.2.1.take i)).getD x.toNat 0 = D c x.toNat := D_pre c (by omega) hi
theorem want_ev {c : Cir} (hR : Right c) (y : Int × Unit) {i : Nat} {g : Gate} (hg : c.2.1[i]? = some g) : Ev (fun (k : Nat) => (cond (g.1 == 3)
          ((rd ((ints (deps c.2.1), y), ()).1.1 g.2.1).bind fun t71 =>
          some (w64 (1 + t71)))
          (Option.bind
            (cond (g.1 == 7)
              ((rd ((ints (deps c.2.1), y), ()).1.1 g.2.1).bind fun t81 =>
              (rd ((ints (deps c.2.1), y), ()).1.1 g.2.2.1).bind fun t86 =>
              (rd ((ints (deps c.2.1), y), ()).1.1 g.2.2.2.1).bind fun t91 =>
              some (w64 (1 + (mxI (mxI t81 t86) t91))))
              (Option.bind
                (cond (decide (g.1 > 3))
                  ((rd ((ints (deps c.2.1), y), ()).1.1 g.2.1).bind fun t102 =>
                  (rd ((ints (deps c.2.1), y), ()).1.1 g.2.2.1).bind fun t107 =>
                  some (w64 (1 + (mxI t102 t107))))
                  (some 0) : Option Int) fun (want : Int) =>
              some want) : Option Int) fun (want_1 : Int) =>
          some want_1) : Option Int)) ((D c i : Nat) : Int) := by
  have hi := get_lt hg
  have hl := legs_lt hR hg
  have hat : ∀ x : Int, 0 ≤ x ∧ x < (i : Int) → rd (ints (deps c.2.1)) x = some ((D c x.toNat : Nat) : Int) := fun x hx => rd_z hx.1 (dints_at c (by omega))
  have hle := D_le hR
  rw [D_at c hg]
  unfold depG
  rcases kinds (gate_ok (hR.gate i g hg)).1 with h | h | h | h | h | h | h | h
  · rw [legs0 (.inl h)]
    exact .no (by rw [h]; rfl) (.bind (.no (by rw [h]; rfl) (.bind (.no (by rw [h]; rfl) (.now 0)) (.now _))) (.now _))
  · rw [legs0 (.inr (.inl h))]
    exact .no (by rw [h]; rfl) (.bind (.no (by rw [h]; rfl) (.bind (.no (by rw [h]; rfl) (.now 0)) (.now _))) (.now _))
  · rw [legs0 (.inr (.inr h))]
    exact .no (by rw [h]; rfl) (.bind (.no (by rw [h]; rfl) (.bind (.no (by rw [h]; rfl) (.now 0)) (.now _))) (.now _))
  · rw [legs3 h] at hl ⊢
    have a1 := hl g.2.1 (by simp)
    refine .yes (by rw [h]; rfl) (.val (hat _ a1) (.now' ?_))
    have := hle g.2.1.toNat
    rw [w64_id (by omega) (by omega)]
    simp only [List.foldl_cons, List.foldl_nil, depF, D_leg (Nat.le_of_lt hi) a1]
    omega
  · rw [legs4 (.inl h)] at hl ⊢
    have a1 := hl g.2.1 (by simp)
    have a2 := hl g.2.2.1 (by simp)
    refine .no (by rw [h]; rfl) (.bind (.no (by rw [h]; rfl) (.bind (.yes (by rw [h]; rfl) (.val (hat _ a1) (.val (hat _ a2) (.now _)))) (.now _))) (.now' ?_))
    have := hle g.2.1.toNat
    have := hle g.2.2.1.toNat
    rw [mx_nat, w64_id (by omega) (by omega)]
    simp only [List.foldl_cons, List.foldl_nil, depF, D_leg (Nat.le_of_lt hi) a1, D_leg (Nat.le_of_lt hi) a2]
    omega
  · rw [legs4 (.inr (.inl h))] at hl ⊢
    have a1 := hl g.2.1 (by simp)
    have a2 := hl g.2.2.1 (by simp)
    refine .no (by rw [h]; rfl) (.bind (.no (by rw [h]; rfl) (.bind (.yes (by rw [h]; rfl) (.val (hat _ a1) (.val (hat _ a2) (.now _)))) (.now _))) (.now' ?_))
    have := hle g.2.1.toNat
    have := hle g.2.2.1.toNat
    rw [mx_nat, w64_id (by omega) (by omega)]
    simp only [List.foldl_cons, List.foldl_nil, depF, D_leg (Nat.le_of_lt hi) a1, D_leg (Nat.le_of_lt hi) a2]
    omega
  · rw [legs4 (.inr (.inr h))] at hl ⊢
    have a1 := hl g.2.1 (by simp)
    have a2 := hl g.2.2.1 (by simp)
    refine .no (by rw [h]; rfl) (.bind (.no (by rw [h]; rfl) (.bind (.yes (by rw [h]; rfl) (.val (hat _ a1) (.val (hat _ a2) (.now _)))) (.now _))) (.now' ?_))
    have := hle g.2.1.toNat
    have := hle g.2.2.1.toNat
    rw [mx_nat, w64_id (by omega) (by omega)]
    simp only [List.foldl_cons, List.foldl_nil, depF, D_leg (Nat.le_of_lt hi) a1, D_leg (Nat.le_of_lt hi) a2]
    omega
  · rw [legs7 h] at hl ⊢
    have a1 := hl g.2.1 (by simp)
    have a2 := hl g.2.2.1 (by simp)
    have a3 := hl g.2.2.2.1 (by simp)
    refine .no (by rw [h]; rfl) (.bind (.yes (by rw [h]; rfl) (.val (hat _ a1) (.val (hat _ a2) (.val (hat _ a3) (.now _))))) (.now' ?_))
    have := hle g.2.1.toNat
    have := hle g.2.2.1.toNat
    have := hle g.2.2.2.1.toNat
    rw [mx_nat, mx_nat, w64_id (by omega) (by omega)]
    simp only [List.foldl_cons, List.foldl_nil, depF, D_leg (Nat.le_of_lt hi) a1, D_leg (Nat.le_of_lt hi) a2, D_leg (Nat.le_of_lt hi) a3]
    omega
theorem uses_lp {c : Cir} (hR : Right c) (y : Int × Unit) : Lp (fun k => GateUses5.l0 k c ((ints (deps c.2.1), y), ())) 0 (.inl ()) := by
  have hn := hR.gates
  refine Lp.fold (body := fun k => GateUses5.l0 k c ((ints (deps c.2.1), y), ())) c.2.1 (fun (_ : Unit) i => i) (fun _ _ => ()) (fun _ => .inl ()) (fun _ _ => True) (fun i g b hx _ => ⟨?_, trivial⟩) (fun b _ => ?_) (b := ()) trivial
  · have hi := get_lt hx
    simp only [GateUses5.l0]
    refine .yes (decide_eq_true (by omega)) (.val (rd_some' hx) (.bind (want_ev hR y hx) (.val (rd_some' (dints_at c hi)) (.no (by simp) (.now' ?_)))))
    rw [w64_id (by omega) (by omega)]
  · simp only [GateUses5.l0]
    exact .no (by simp) (.now _)
theorem uL_len (c : Cir) : (uL c).length ≤ c.2.1.length := by
  unfold uL
  rw [List.length_map]
  refine Nat.le_trans (List.length_filter_le _ _) ?_
  rw [List.length_range]
  exact Nat.le_refl _
theorem law (c : Cir) (hw : ∀ x ∈ c.2.2.2.2, -9223372036854775808 ≤ x ∧ x ≤ 9223372036854775807) : ∃ k, GateUses5 k c = some (true, ()) := by
  refine Ev.ex ?_
  unfold GateUses5
  refine .bind (cfault_ev c hw) (.bind (used_ev c) (.bind (depth_ev c) (.bind gated_ev (.no (by simp) ?_))))
  by_cases hf : fault c ≠ 0
  · refine .yes (bne_iff_ne.2 hf) (.now' ?_)
    rw [if_pos hf, if_pos hf]
    rfl
  · have hf0 : fault c = 0 := by omega
    have hR := right_of c hf0
    have hn := hR.gates
    have hu := uL_len c
    rw [if_neg hf, if_neg hf]
    refine .no (by rw [hf0]; rfl) (.bind (hang_ev hR) (.bind (equal_ev (uL c) (by omega)) (.no ?_ (.joinL (S := Unit) (a := ()) (uses_lp hR _).ev (.now _)))))
    show (((ints (deps c.2.1)).length : Int) != (c.2.1.length : Int)) = false
    unfold ints
    rw [List.length_map, deps_len]
    simp
theorem gateUses (c : Cir) {p q r s : Prop} (hc : p ∧ q ∧ r ∧ s ∧ wfL (α := Int) 8 (fun (y : Int) => (Lit.int .i64 y).wf = true) c.2.2.2.2) : ∃ k, GateUses5 k c = some (true, ()) :=
  law c (fun x hx => lit_wf (hc.2.2.2.2.2 x hx))
end Go.Proofs.Ytjbdhaenakcclaa.Gu

/- The row of GateUses: what hangs on what, and depths, as the reference says. The law returns true for every input; the input reads as it did. -/
namespace Go.Proofs.Ytjbdhaenakcclaa.gateUses
open Go.ChangeShapes Go.WideShapes Go.ChangeAt Go.RowKit Go.Proofs.Ytjbdhaenakcclaa.Gp Go.Proofs.Ytjbdhaenakcclaa.Gu
set_option linter.unusedVariables false
theorem own : ownKnob Try.prog.godebug = none := by kernel_rfl
theorem laidOut : laidOutB Try.prog = true := by kernel_rfl
abbrev wf3 : Int → Prop := (fun (y : Int) => (Lit.int .i64 y).wf = true)
abbrev siz3 : Int → Nat := (fun _ => 1)
theorem gd3 : Gd Try.prog 3 (.int .i64) wf3 siz3 := gd_int Try.underlying3 (by kernel_rfl)
abbrev wf51 : (Int × (Int × (Int × (Int × Int)))) → Prop := (fun (y : (Int × (Int × (Int × (Int × Int))))) => wf3 y.1 ∧ (fun (y : (Int × (Int × (Int × Int)))) => wf3 y.1 ∧ (fun (y : (Int × (Int × Int))) => wf3 y.1 ∧ (fun (y : (Int × Int)) => wf3 y.1 ∧ wf3 y.2) y.2) y.2) y.2)
abbrev siz51 : (Int × (Int × (Int × (Int × Int)))) → Nat := (fun (y : (Int × (Int × (Int × (Int × Int))))) => siz3 y.1 + (fun (y : (Int × (Int × (Int × Int)))) => siz3 y.1 + (fun (y : (Int × (Int × Int))) => siz3 y.1 + (fun (y : (Int × Int)) => siz3 y.1 + siz3 y.2) y.2) y.2) y.2)
theorem gd51 : Gd Try.prog 51 (.st (.pair (.int .i64) (.pair (.int .i64) (.pair (.int .i64) (.pair (.int .i64) (.int .i64)))))) wf51 siz51 := gd_st Try.underlying51 (by kernel_rfl) (gdf_cons (k := .int .i64) (k' := .pair (.int .i64) (.pair (.int .i64) (.pair (.int .i64) (.int .i64)))) (wf := wf3) (siz := siz3) (wf' := (fun (y : (Int × (Int × (Int × Int)))) => wf3 y.1 ∧ (fun (y : (Int × (Int × Int))) => wf3 y.1 ∧ (fun (y : (Int × Int)) => wf3 y.1 ∧ wf3 y.2) y.2) y.2)) (siz' := (fun (y : (Int × (Int × (Int × Int)))) => siz3 y.1 + (fun (y : (Int × (Int × Int))) => siz3 y.1 + (fun (y : (Int × Int)) => siz3 y.1 + siz3 y.2) y.2) y.2)) rfl gd3 (gdf_cons (k := .int .i64) (k' := .pair (.int .i64) (.pair (.int .i64) (.int .i64))) (wf := wf3) (siz := siz3) (wf' := (fun (y : (Int × (Int × Int))) => wf3 y.1 ∧ (fun (y : (Int × Int)) => wf3 y.1 ∧ wf3 y.2) y.2)) (siz' := (fun (y : (Int × (Int × Int))) => siz3 y.1 + (fun (y : (Int × Int)) => siz3 y.1 + siz3 y.2) y.2)) rfl gd3 (gdf_cons (k := .int .i64) (k' := .pair (.int .i64) (.int .i64)) (wf := wf3) (siz := siz3) (wf' := (fun (y : (Int × Int)) => wf3 y.1 ∧ wf3 y.2)) (siz' := (fun (y : (Int × Int)) => siz3 y.1 + siz3 y.2)) rfl gd3 (gdf_cons (k := .int .i64) (k' := .int .i64) (wf := wf3) (siz := siz3) (wf' := wf3) (siz' := siz3) rfl gd3 (gdf_one rfl gd3)))))
abbrev wf22 : (List (Int × (Int × (Int × (Int × Int))))) → Prop := (wfL (α := (Int × (Int × (Int × (Int × Int))))) 40 wf51)
abbrev siz22 : (List (Int × (Int × (Int × (Int × Int))))) → Nat := (sizL (α := (Int × (Int × (Int × (Int × Int))))) siz51)
theorem gd22 : Gd Try.prog 22 (.sl (.st (.pair (.int .i64) (.pair (.int .i64) (.pair (.int .i64) (.pair (.int .i64) (.int .i64))))))) wf22 siz22 := gd_sl (B := 40) Try.underlying22 (by kernel_rfl) (by kernel_rfl) (by decide) gd51
abbrev wf23 : (List Int) → Prop := (wfL (α := Int) 8 wf3)
abbrev siz23 : (List Int) → Nat := (sizL (α := Int) siz3)
theorem gd23 : Gd Try.prog 23 (.sl (.int .i64)) wf23 siz23 := gd_sl (B := 8) Try.underlying23 (by kernel_rfl) (by kernel_rfl) (by decide) gd3
abbrev wf25 : (Int × ((List (Int × (Int × (Int × (Int × Int))))) × ((List Int) × ((List Int) × (List Int))))) → Prop := (fun (y : (Int × ((List (Int × (Int × (Int × (Int × Int))))) × ((List Int) × ((List Int) × (List Int)))))) => wf3 y.1 ∧ (fun (y : ((List (Int × (Int × (Int × (Int × Int))))) × ((List Int) × ((List Int) × (List Int))))) => wf22 y.1 ∧ (fun (y : ((List Int) × ((List Int) × (List Int)))) => wf23 y.1 ∧ (fun (y : ((List Int) × (List Int))) => wf23 y.1 ∧ wf23 y.2) y.2) y.2) y.2)
abbrev siz25 : (Int × ((List (Int × (Int × (Int × (Int × Int))))) × ((List Int) × ((List Int) × (List Int))))) → Nat := (fun (y : (Int × ((List (Int × (Int × (Int × (Int × Int))))) × ((List Int) × ((List Int) × (List Int)))))) => siz3 y.1 + (fun (y : ((List (Int × (Int × (Int × (Int × Int))))) × ((List Int) × ((List Int) × (List Int))))) => siz22 y.1 + (fun (y : ((List Int) × ((List Int) × (List Int)))) => siz23 y.1 + (fun (y : ((List Int) × (List Int))) => siz23 y.1 + siz23 y.2) y.2) y.2) y.2)
theorem gd25 : Gd Try.prog 25 (.st (.pair (.int .i64) (.pair (.sl (.st (.pair (.int .i64) (.pair (.int .i64) (.pair (.int .i64) (.pair (.int .i64) (.int .i64))))))) (.pair (.sl (.int .i64)) (.pair (.sl (.int .i64)) (.sl (.int .i64))))))) wf25 siz25 := gd_st Try.underlying25 (by kernel_rfl) (gdf_cons (k := .int .i64) (k' := .pair (.sl (.st (.pair (.int .i64) (.pair (.int .i64) (.pair (.int .i64) (.pair (.int .i64) (.int .i64))))))) (.pair (.sl (.int .i64)) (.pair (.sl (.int .i64)) (.sl (.int .i64))))) (wf := wf3) (siz := siz3) (wf' := (fun (y : ((List (Int × (Int × (Int × (Int × Int))))) × ((List Int) × ((List Int) × (List Int))))) => wf22 y.1 ∧ (fun (y : ((List Int) × ((List Int) × (List Int)))) => wf23 y.1 ∧ (fun (y : ((List Int) × (List Int))) => wf23 y.1 ∧ wf23 y.2) y.2) y.2)) (siz' := (fun (y : ((List (Int × (Int × (Int × (Int × Int))))) × ((List Int) × ((List Int) × (List Int))))) => siz22 y.1 + (fun (y : ((List Int) × ((List Int) × (List Int)))) => siz23 y.1 + (fun (y : ((List Int) × (List Int))) => siz23 y.1 + siz23 y.2) y.2) y.2)) rfl gd3 (gdf_cons (k := .sl (.st (.pair (.int .i64) (.pair (.int .i64) (.pair (.int .i64) (.pair (.int .i64) (.int .i64))))))) (k' := .pair (.sl (.int .i64)) (.pair (.sl (.int .i64)) (.sl (.int .i64)))) (wf := wf22) (siz := siz22) (wf' := (fun (y : ((List Int) × ((List Int) × (List Int)))) => wf23 y.1 ∧ (fun (y : ((List Int) × (List Int))) => wf23 y.1 ∧ wf23 y.2) y.2)) (siz' := (fun (y : ((List Int) × ((List Int) × (List Int)))) => siz23 y.1 + (fun (y : ((List Int) × (List Int))) => siz23 y.1 + siz23 y.2) y.2)) rfl gd22 (gdf_cons (k := .sl (.int .i64)) (k' := .pair (.sl (.int .i64)) (.sl (.int .i64))) (wf := wf23) (siz := siz23) (wf' := (fun (y : ((List Int) × (List Int))) => wf23 y.1 ∧ wf23 y.2)) (siz' := (fun (y : ((List Int) × (List Int))) => siz23 y.1 + siz23 y.2)) rfl gd23 (gdf_cons (k := .sl (.int .i64)) (k' := .sl (.int .i64)) (wf := wf23) (siz := siz23) (wf' := wf23) (siz' := siz23) rfl gd23 (gdf_one rfl gd23)))))
set_option maxRecDepth 100000 in
set_option maxHeartbeats 1000000 in
theorem lifted (os : Os) (started : os.Started) (H : Type) (enc : TypeId × Value → H) :
    ReturnsInHanded {} Try.checked os 5 .any (Rows.gateUsesSpec.pre6 enc Try.prog Try.f5 Rows.gateUsesRow.domain false) (Rows.gateUsesSpec.post enc Try.prog Try.f5 false true false false) := by
  refine returnsInHanded_of_change_sized (C := Try.checked) own started (by kernel_rfl) Try.func5
    (ChangeSpec.witness6 (enc := enc) (C := Try.checked) false ⟨#[], #[.agg #[.int .i64 0, .slice none 0 0, .slice none 0 0, .slice none 0 0, .slice none 0 0]], []⟩ 8 (by kernel_rfl) (by kernel_rfl) (by kernel_rfl) (by kernel_rfl)) ?_
  intro W base args ds gs before hval0 hW hcnd hsz0 _
  have hsz : (DataW.weightsEach Try.prog (Try.f5.params.toList ++ Rows.gateUsesSpec.plain.varTypes Try.prog) (ds ++ gs)).all (· ≤ reachBytes) = true := hsz0
  have hval : ∀ (j : Nat) t v, Try.f5.params[j]? = some t → args[j]? = some v → Value.okWide Try.prog W .any base t v := hval0
  have hW' := hW
  obtain ⟨p, q, hA0, hV, rfl, hfz, hnd⟩ := hW
  have hA : DataW.TrodAll enc Try.prog W 0 (fun _ => true) true Try.f5.params.toList args.toList ds p := hA0
  rw [Try.params5] at hA hval hsz
  obtain ⟨v0, vs0, d0, ds0, p0, q0, hargs, rfl, rfl, h0, r0⟩ := trodAll_cons hA
  obtain ⟨rfl, rfl, rfl⟩ := trodAll_nil r0
  obtain rfl : args = #[v0] := by cases args; simp_all
  obtain ⟨rfl, rfl⟩ := trodVars_none hV
  have lt0 : ∀ x ∈ p0, x.block < W.heap.size := by obtain ⟨m, hm⟩ := h0; exact DataW.trod_lt m _ _ _ hm
  have wt0 := weights_at hsz 0 (t := 25) rfl rfl
  obtain ⟨a0, s0, wf0_, up0_⟩ := gd25.arg (hval 0 25 v0 rfl rfl) h0 wt0
  clear hA0 hval0 hsz0 hsz
  obtain ⟨k, h⟩ := Gu.gateUses a0 wf0_
  refine (law_calls (GateUses5.ok k) (ds := (a0)) h (args := #[v0]) (W := W) (.cons (s0 _) (.nil))).mono fun e W' ⟨he, bel0⟩ => ?_
  have bel : Below W.heap.size W W' := bel0
  subst he
  exact ⟨_, rfl, _, _, _, [], _, [], hW', trodAll_mk1 (shut_bool Try.underlying4 _), (trodAll_cons_mk (Below.trod laidOut (by kernel_rfl) (of_decide_eq_true (by kernel_rfl)) h0 bel lt0) (trodAll_mk0)), rfl, bel.frame _, fun h => by cases h⟩
theorem over : Rows.gateUsesRow.holds Try.pinned (OpenSpec.ofChange Rows.gateUsesSpec) :=
  OpenClaim.holds_of_wide 5 Try.f5 rfl rfl rfl rfl rfl rfl rfl ⟨rfl, rfl, rfl, rfl, rfl⟩ rfl rfl rfl rfl rfl (by kernel_rfl) Try.func5 (by kernel_rfl)
    (of_decide_eq_true (by kernel_rfl)) (by unfold Func.isWrapper; first | (rw [if_pos (by decide +kernel)]; kernel_rfl) | (rw [if_neg (by decide +kernel)]; exact ⟨rfl, rfl⟩))
    (fun os started H enc _ => lifted os started H enc)
theorem proved : Rows.GateUsesSaid := over
#print axioms proved
end Go.Proofs.Ytjbdhaenakcclaa.gateUses
namespace Go.Proofs.Ytjbdhaenakcclaa
theorem gateUses_holds : Rows.GateUsesSaid := gateUses.proved
end Go.Proofs.Ytjbdhaenakcclaa
