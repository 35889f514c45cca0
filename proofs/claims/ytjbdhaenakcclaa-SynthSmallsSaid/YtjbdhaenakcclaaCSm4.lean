/- Merged texts of one claim: a Go law, its functions without memory, and the plain law. The law returns true for every input; conditions: as the row says. -/
import Derived.Test.YtjbdhaenakcclaaRows
import Derived.ChangeArms
import Derived.OpenShut
import Derived.SizedLaws
import Derived.Deep.Slices
import Derived.Below
import Derived.Test.YtjbdhaenakcclaaCSm0
import Derived.Test.YtjbdhaenakcclaaCSm1
import Derived.Test.YtjbdhaenakcclaaCSm2
import Derived.Test.YtjbdhaenakcclaaCSm3
/- Go functions as plain Lean functions, and their contracts. -/
set_option linter.unusedVariables false
set_option maxRecDepth 100000
noncomputable section
namespace Go.Proofs.Ytjbdhaenakcclaa.St
open Go Go.Proofs.Ytjbdhaenakcclaa.Gp
def Stepped20.l0 (k : Nat) (state : Int) (in_ : Int) (t21 : Int) (t25 : (List Int)) : ((Int × ((List (Int × (Int × (Int × (Int × Int))))) × ((List Int) × ((List Int) × (List Int))))) × (Unit × (Unit × (Unit × (Int × ((List (Int × Int)) × ((List Int) × (List (List Int))))))))) → Option (((Int × ((List (Int × (Int × (Int × (Int × Int))))) × ((List Int) × ((List Int) × (List Int))))) × (Unit × (Unit × (Unit × (Int × ((List (Int × Int)) × ((List Int) × (List (List Int))))))))) ⊕ ((Int × ((List (Int × (Int × (Int × (Int × Int))))) × ((List Int) × ((List Int) × (List Int))))) × (Unit × (Unit × (Unit × ((List (Int × Int)) × ((List Int) × (List (List Int)))))))))
  | (c_2, _, _, _, t28, o0_1, o1_1, o2_1) =>
    cond (decide (t28 < (List.length t25 : Int)))
      ((rd t25 t28).bind fun t31 =>
      (if 0 ≤ t21 ∧ t21 < 2 then some () else none).bind fun _ =>
      (rd o1_1 t21).bind fun t35 =>
      (Value19 k c_2 state in_ t31 () o0_1).bind fun t41 =>
      (if t28 < 0 then none else some (shlI .i64 t41.1 t28)).bind fun t43 =>
      (if 0 ≤ t21 ∧ t21 < 2 then some () else none).bind fun _ =>
      (rd o1_1 t21).bind fun _ =>
      some (Sum.inl (c_2, (), (), (), (w64 (t28 + 1)), t41.2, (List.set o1_1 (Int.toNat t21) (w64 (t35 + t43))), o2_1)))
      (some (Sum.inr (c_2, (), (), (), o0_1, o1_1, o2_1)))
def Stepped20.l1 (k : Nat) (c : (Int × ((List (Int × (Int × (Int × (Int × Int))))) × ((List Int) × ((List Int) × (List Int)))))) (state : Int) (in_ : Int) : ((Int × ((List (Int × (Int × (Int × (Int × Int))))) × ((List Int) × ((List Int) × (List Int))))) × (Unit × (Unit × (Unit × (Int × ((List (Int × Int)) × ((List Int) × (List (List Int))))))))) → Option (((Int × ((List (Int × (Int × (Int × (Int × Int))))) × ((List Int) × ((List Int) × (List Int))))) × (Unit × (Unit × (Unit × (Int × ((List (Int × Int)) × ((List Int) × (List (List Int))))))))) ⊕ (Unit × (List Int)))
  | (c_1, _, _, _, t21, o0, o1, o2) =>
    cond (decide (t21 < (List.length [c.2.2.1, c.2.2.2.1] : Int)))
      ((rd o2 t21).bind fun _ =>
      (rd o2 t21).bind fun t25 =>
      Option.bind
        (loopN (Stepped20.l0 k state in_ t21 t25) k (c_1, (), (), (), 0, o0, o1, o2) : Option ((Int × ((List (Int × (Int × (Int × (Int × Int))))) × ((List Int) × ((List Int) × (List Int))))) × (Unit × (Unit × (Unit × ((List (Int × Int)) × ((List Int) × (List (List Int))))))))) fun ((c_3, _, _, _, o0_2, o1_2, o2_2) : ((Int × ((List (Int × (Int × (Int × (Int × Int))))) × ((List Int) × ((List Int) × (List Int))))) × (Unit × (Unit × (Unit × ((List (Int × Int)) × ((List Int) × (List (List Int))))))))) =>
      some (Sum.inl (c_3, (), (), (), (w64 (t21 + 1)), o0_2, o1_2, o2_2)))
      (some (Sum.inr ((), o1)))
def Stepped20 (k : Nat) (c : (Int × ((List (Int × (Int × (Int × (Int × Int))))) × ((List Int) × ((List Int) × (List Int)))))) (state : Int) (in_ : Int) : Option ((Int × (Int × Unit)) × Unit) :=
  Option.bind
    (loopN (Stepped20.l1 k c state in_) k (c, (), (), (), 0, ([] : (List (Int × Int))), (List.replicate 2 0), [c.2.2.1, c.2.2.2.1]) : Option (Unit × (List Int))) fun ((_, o1_3) : (Unit × (List Int))) =>
  (if 0 ≤ 0 ∧ 0 < 2 then some () else none).bind fun _ =>
  (rd o1_3 0).bind fun t49 =>
  (if 0 ≤ 1 ∧ 1 < 2 then some () else none).bind fun _ =>
  (rd o1_3 1).bind fun t51 =>
  some ((t49, t51, ()), ())
def Stepped20.A : Ann := { conds := [], blocks := [(0, ⟨[(9, .ptr 1 [])], [(1, .var (.arr 2 (.int .i64)))], 2, [], 281474974628864⟩), (2, ⟨[(3, .fp (.st (.pair (.int .i64) (.pair (.sl (.st (.pair (.int .i64) (.pair (.int .i64) (.pair (.int .i64) (.pair (.int .i64) (.int .i64))))))) (.pair (.sl (.int .i64)) (.pair (.sl (.int .i64)) (.sl (.int .i64)))))))), (8, .mm 0), (9, .ptr 1 []), (19, .ms 2)], [(0, .map (.int .i64) (.int .i64)), (1, .var (.arr 2 (.int .i64))), (2, .row (.sl (.int .i64)))], 3, [], 140737219932160⟩)], loops := [(4, ⟨[(3, .fp (.st (.pair (.int .i64) (.pair (.sl (.st (.pair (.int .i64) (.pair (.int .i64) (.pair (.int .i64) (.pair (.int .i64) (.int .i64))))))) (.pair (.sl (.int .i64)) (.pair (.sl (.int .i64)) (.sl (.int .i64)))))))), (8, .mm 0), (9, .ptr 1 []), (19, .ms 2), (21, .int .i64)], [(0, .map (.int .i64) (.int .i64)), (1, .var (.arr 2 (.int .i64))), (2, .row (.sl (.int .i64)))], 3, [], 281474974628864⟩), (7, ⟨[(3, .fp (.st (.pair (.int .i64) (.pair (.sl (.st (.pair (.int .i64) (.pair (.int .i64) (.pair (.int .i64) (.pair (.int .i64) (.int .i64))))))) (.pair (.sl (.int .i64)) (.pair (.sl (.int .i64)) (.sl (.int .i64)))))))), (8, .mm 0), (9, .ptr 1 []), (19, .ms 2), (28, .int .i64)], [(0, .map (.int .i64) (.int .i64)), (1, .var (.arr 2 (.int .i64))), (2, .row (.sl (.int .i64)))], 3, [], 140737219932160⟩)], keeps := [3], orders := [(9, [(0, .strong), (1, .strong), (2, .strong), (3, .strong), (4, .strong), (5, .strong), (6, .strong), (7, .strong), (9, .strong), (8, .eff true), (10, .strong), (11, .strong), (12, .strong), (13, .eff false)]), (12, [(0, .strong), (1, .strong), (2, .strong), (3, .strong), (4, .strong), (5, .strong)])], touches := [(9, 1)] }
def Stepped20.S : Sig := { f := 20, params := [.st (.pair (.int .i64) (.pair (.sl (.st (.pair (.int .i64) (.pair (.int .i64) (.pair (.int .i64) (.pair (.int .i64) (.int .i64))))))) (.pair (.sl (.int .i64)) (.pair (.sl (.int .i64)) (.sl (.int .i64)))))), .int .i64, .int .i64], objs := [], res := .tup (.pair (.int .i64) (.pair (.int .i64) .unit)), outs := [], fix := [], run := fun k ds os => Stepped20 k ds.1 ds.2.1 ds.2.2 }
def Stepped20.G : List Sig := [Value19.S]
theorem Stepped20.eq (k : Nat) : ∀ ds os, Stepped20.S.run k ds os = runF ⟨types, Stepped20.G, Stepped20.A, k, 0, []⟩ Try.f20 (codeOf Try.f20) Stepped20.S.params Stepped20.S.objs Stepped20.S.res Stepped20.S.outs ds os := by
  intro ds os; kernel_rfl
theorem Stepped20.dr : DrOk Try.prog Stepped20.A (codeOf Try.f20) := ⟨by kernel_rfl, by kernel_rfl⟩
theorem Stepped20.ok (k : Nat) : SoundAt Try.prog k Stepped20.S :=
  runF_sound (X := ⟨types, Stepped20.G, Stepped20.A, k, 0, []⟩) types_ok (mem_all (⟨Value19.ok k, trivial⟩)) (fn := Try.f20) (c := codeOf Try.f20) rfl (by kernel_rfl) rfl rfl Stepped20.dr (Stepped20.eq k)

end Go.Proofs.Ytjbdhaenakcclaa.St

/- Go functions as plain Lean functions, and their contracts. -/
set_option linter.unusedVariables false
set_option maxRecDepth 100000
noncomputable section
namespace Go.Proofs.Ytjbdhaenakcclaa.St
open Go Go.Proofs.Ytjbdhaenakcclaa.Gp
def Index113.l0 (k : Nat) (s : (List (Int × (Int × (Int × (Int × Int)))))) : ((Int × (Int × (Int × (Int × Int)))) × Int) → Option (((Int × (Int × (Int × (Int × Int)))) × Int) ⊕ (Unit ⊕ (Int × Unit)))
  | (v_1, t8) =>
    cond (decide (t8 < (List.length s : Int)))
      ((rd s t8).bind fun t14 =>
      cond (xor false (eqB (.st (.pair (.int .i64) (.pair (.int .i64) (.pair (.int .i64) (.pair (.int .i64) (.int .i64)))))) v_1 t14))
        (some (Sum.inr (Sum.inr (t8, ()))))
        (some (Sum.inl (v_1, (w64 (t8 + 1))))))
      (some (Sum.inr (Sum.inl ())))
def Index113 (k : Nat) (s : (List (Int × (Int × (Int × (Int × Int)))))) (v : (Int × (Int × (Int × (Int × Int))))) : Option (Int × Unit) :=
  Option.bind
    (loopN (Index113.l0 k s) k (v, 0) : Option (Unit ⊕ (Int × Unit))) (joined fun (_ : Unit) =>
    some ((-1), ()))
def Index113.A : Ann := { conds := [], blocks := [(0, ⟨[], [], 0, [], 524080⟩)], loops := [(2, ⟨[(3, .fp (.st (.pair (.int .i64) (.pair (.int .i64) (.pair (.int .i64) (.pair (.int .i64) (.int .i64))))))), (8, .int .i64)], [], 0, [], 524080⟩)], keeps := [3], orders := [(4, [(0, .strong), (1, .strong), (2, .strong), (3, .strong), (4, .strong), (5, .strong)])] }
def Index113.S : Sig := { f := 113, params := [.sl (.st (.pair (.int .i64) (.pair (.int .i64) (.pair (.int .i64) (.pair (.int .i64) (.int .i64)))))), .st (.pair (.int .i64) (.pair (.int .i64) (.pair (.int .i64) (.pair (.int .i64) (.int .i64)))))], objs := [], res := .int .i64, outs := [], fix := [], run := fun k ds os => Index113 k ds.1 ds.2 }
def Index113.G : List Sig := []
theorem Index113.eq (k : Nat) : ∀ ds os, Index113.S.run k ds os = runF ⟨types, Index113.G, Index113.A, k, 0, []⟩ Try.f113 (codeOf Try.f113) Index113.S.params Index113.S.objs Index113.S.res Index113.S.outs ds os := by
  intro ds os; kernel_rfl
theorem Index113.dr : DrOk Try.prog Index113.A (codeOf Try.f113) := ⟨by kernel_rfl, by kernel_rfl⟩
theorem Index113.ok (k : Nat) : SoundAt Try.prog k Index113.S :=
  runF_sound (X := ⟨types, Index113.G, Index113.A, k, 0, []⟩) types_ok (fun s hs => absurd hs List.not_mem_nil) (fn := Try.f113) (c := codeOf Try.f113) rfl (by kernel_rfl) rfl rfl Index113.dr (Index113.eq k)

def Contains60 (k : Nat) (s : (List (Int × (Int × (Int × (Int × Int)))))) (v : (Int × (Int × (Int × (Int × Int))))) : Option (Bool × Unit) :=
  (Index113 k s v).bind fun t7 =>
  some ((decide (t7.1 ≥ 0)), ())
def Contains60.A : Ann := { conds := [], blocks := [], loops := [], keeps := [3], orders := [] }
def Contains60.S : Sig := { f := 60, params := [.sl (.st (.pair (.int .i64) (.pair (.int .i64) (.pair (.int .i64) (.pair (.int .i64) (.int .i64)))))), .st (.pair (.int .i64) (.pair (.int .i64) (.pair (.int .i64) (.pair (.int .i64) (.int .i64)))))], objs := [], res := .bool, outs := [], fix := [], run := fun k ds os => Contains60 k ds.1 ds.2 }
def Contains60.G : List Sig := [Index113.S]
theorem Contains60.eq (k : Nat) : ∀ ds os, Contains60.S.run k ds os = runF ⟨types, Contains60.G, Contains60.A, k, 0, []⟩ Try.f60 (codeOf Try.f60) Contains60.S.params Contains60.S.objs Contains60.S.res Contains60.S.outs ds os := by
  intro ds os; kernel_rfl
theorem Contains60.dr : DrOk Try.prog Contains60.A (codeOf Try.f60) := ⟨by kernel_rfl, by kernel_rfl⟩
theorem Contains60.ok (k : Nat) : SoundAt Try.prog k Contains60.S :=
  runF_sound (X := ⟨types, Contains60.G, Contains60.A, k, 0, []⟩) types_ok (mem_all (⟨Index113.ok k, trivial⟩)) (fn := Try.f60) (c := codeOf Try.f60) rfl (by kernel_rfl) rfl rfl Contains60.dr (Contains60.eq k)

def constant61 (k : Nat) (c : (Int × ((List (Int × (Int × (Int × (Int × Int))))) × ((List Int) × ((List Int) × (List Int)))))) (k_ : Int) : Option (Bool × Unit) :=
  (rd c.2.1 k_).bind fun t8 =>
  some ((t8.1 == 0), ())
def constant61.A : Ann := { conds := [], blocks := [], loops := [], keeps := [2], orders := [] }
def constant61.S : Sig := { f := 61, params := [.st (.pair (.int .i64) (.pair (.sl (.st (.pair (.int .i64) (.pair (.int .i64) (.pair (.int .i64) (.pair (.int .i64) (.int .i64))))))) (.pair (.sl (.int .i64)) (.pair (.sl (.int .i64)) (.sl (.int .i64)))))), .int .i64], objs := [], res := .bool, outs := [], fix := [], run := fun k ds os => constant61 k ds.1 ds.2 }
def constant61.G : List Sig := []
theorem constant61.eq (k : Nat) : ∀ ds os, constant61.S.run k ds os = runF ⟨types, constant61.G, constant61.A, k, 0, []⟩ Try.f61 (codeOf Try.f61) constant61.S.params constant61.S.objs constant61.S.res constant61.S.outs ds os := by
  intro ds os; kernel_rfl
theorem constant61.dr : DrOk Try.prog constant61.A (codeOf Try.f61) := ⟨by kernel_rfl, by kernel_rfl⟩
theorem constant61.ok (k : Nat) : SoundAt Try.prog k constant61.S :=
  runF_sound (X := ⟨types, constant61.G, constant61.A, k, 0, []⟩) types_ok (fun s hs => absurd hs List.not_mem_nil) (fn := Try.f61) (c := codeOf Try.f61) rfl (by kernel_rfl) rfl rfl constant61.dr (constant61.eq k)

def circuitBox83 (k : Nat) (c : (Int × ((List (Int × (Int × (Int × (Int × Int))))) × ((List Int) × ((List Int) × (List Int)))))) : Option (((Int × ((List (Int × (Int × (Int × (Int × Int))))) × ((List Int) × ((List Int) × (List Int))))) × Unit) × Unit) :=
  some ((c, ()), ())
def circuitBox83.A : Ann := { conds := [], blocks := [], loops := [], keeps := [1], orders := [] }
def circuitBox83.S : Sig := { f := 83, params := [.st (.pair (.int .i64) (.pair (.sl (.st (.pair (.int .i64) (.pair (.int .i64) (.pair (.int .i64) (.pair (.int .i64) (.int .i64))))))) (.pair (.sl (.int .i64)) (.pair (.sl (.int .i64)) (.sl (.int .i64))))))], objs := [], res := .fn 123 (.pair (.fp (.st (.pair (.int .i64) (.pair (.sl (.st (.pair (.int .i64) (.pair (.int .i64) (.pair (.int .i64) (.pair (.int .i64) (.int .i64))))))) (.pair (.sl (.int .i64)) (.pair (.sl (.int .i64)) (.sl (.int .i64)))))))) .unit), outs := [], fix := [], run := fun k ds os => circuitBox83 k ds }
def circuitBox83.G : List Sig := []
theorem circuitBox83.eq (k : Nat) : ∀ ds os, circuitBox83.S.run k ds os = runF ⟨types, circuitBox83.G, circuitBox83.A, k, 0, []⟩ Try.f83 (codeOf Try.f83) circuitBox83.S.params circuitBox83.S.objs circuitBox83.S.res circuitBox83.S.outs ds os := by
  intro ds os; kernel_rfl
theorem circuitBox83.dr : DrOk Try.prog circuitBox83.A (codeOf Try.f83) := ⟨by kernel_rfl, by kernel_rfl⟩
theorem circuitBox83.ok (k : Nat) : SoundAt Try.prog k circuitBox83.S :=
  runF_sound (X := ⟨types, circuitBox83.G, circuitBox83.A, k, 0, []⟩) types_ok (fun s hs => absurd hs List.not_mem_nil) (fn := Try.f83) (c := codeOf Try.f83) rfl (by kernel_rfl) rfl rfl circuitBox83.dr (circuitBox83.eq k)

def circuitBox1123 (k : Nat) (s : Int) (in_ : Int) (t2 : (Int × ((List (Int × (Int × (Int × (Int × Int))))) × ((List Int) × ((List Int) × (List Int)))))) : Option ((Int × (Int × Unit)) × Unit) :=
  (Stepped20 k t2 s in_).bind fun t10 =>
  some ((t10.1.1, t10.1.2.1, ()), ())
def circuitBox1123.A : Ann := { conds := [], blocks := [], loops := [], keeps := [], orders := [] }
def circuitBox1123.S : Sig := { f := 123, params := [.int .i64, .int .i64, .fp (.st (.pair (.int .i64) (.pair (.sl (.st (.pair (.int .i64) (.pair (.int .i64) (.pair (.int .i64) (.pair (.int .i64) (.int .i64))))))) (.pair (.sl (.int .i64)) (.pair (.sl (.int .i64)) (.sl (.int .i64)))))))], objs := [], res := .tup (.pair (.int .i64) (.pair (.int .i64) .unit)), outs := [], fix := [], run := fun k ds os => circuitBox1123 k ds.1 ds.2.1 ds.2.2 }
def circuitBox1123.G : List Sig := [Stepped20.S]
theorem circuitBox1123.eq (k : Nat) : ∀ ds os, circuitBox1123.S.run k ds os = runF ⟨types, circuitBox1123.G, circuitBox1123.A, k, 0, []⟩ Try.f123 (codeOf Try.f123) circuitBox1123.S.params circuitBox1123.S.objs circuitBox1123.S.res circuitBox1123.S.outs ds os := by
  intro ds os; kernel_rfl
theorem circuitBox1123.dr : DrOk Try.prog circuitBox1123.A (codeOf Try.f123) := ⟨by kernel_rfl, by kernel_rfl⟩
theorem circuitBox1123.ok (k : Nat) : SoundAt Try.prog k circuitBox1123.S :=
  runF_sound (X := ⟨types, circuitBox1123.G, circuitBox1123.A, k, 0, []⟩) types_ok (mem_all (⟨Stepped20.ok k, trivial⟩)) (fn := Try.f123) (c := codeOf Try.f123) rfl (by kernel_rfl) rfl rfl circuitBox1123.dr (circuitBox1123.eq k)
end Go.Proofs.Ytjbdhaenakcclaa.St

/- Go functions as plain Lean functions, and their contracts. -/
set_option linter.unusedVariables false
set_option maxRecDepth 100000
noncomputable section
namespace Go.Proofs.Ytjbdhaenakcclaa.St
open Go Go.Proofs.Ytjbdhaenakcclaa.Gp
def shortest82.l0 (k : Nat) (k_ : Int) (t62 : Int) : (((Int × ((List (Int × (Int × (Int × (Int × Int))))) × ((List Int) × ((List Int) × (List Int))))) × Unit) × (((Int × ((List (Int × (Int × (Int × (Int × Int))))) × ((List Int) × ((List Int) × (List Int))))) × Unit) × (Unit × (Unit × (Int × ((List (Int × Int)) × (List ((Int × Int) × Bool)))))))) → Option ((((Int × ((List (Int × (Int × (Int × (Int × Int))))) × ((List Int) × ((List Int) × (List Int))))) × Unit) × (((Int × ((List (Int × (Int × (Int × (Int × Int))))) × ((List Int) × ((List Int) × (List Int))))) × Unit) × (Unit × (Unit × (Int × ((List (Int × Int)) × (List ((Int × Int) × Bool)))))))) ⊕ (((Int × ((List (Int × (Int × (Int × (Int × Int))))) × ((List Int) × ((List Int) × (List Int))))) × Unit) × (((Int × ((List (Int × (Int × (Int × (Int × Int))))) × ((List Int) × ((List Int) × (List Int))))) × Unit) × (Unit × (Unit × ((List (Int × Int)) × (List ((Int × Int) × Bool))))))))
  | (a_2, b_2, _, _, t63, o0_1, o1_1) =>
    cond (decide (t63 < t62))
      ((rd o0_1 k_).bind fun _ =>
      (rd o0_1 k_).bind fun t72 =>
      (circuitBox1123 k t72.1 t63 a_2.1).bind fun t74 =>
      (rd o0_1 k_).bind fun _ =>
      (rd o0_1 k_).bind fun t83 =>
      (circuitBox1123 k t83.2 t63 b_2.1).bind fun t85 =>
      Option.bind
        (cond (!(Option.getD (α := Bool) (mget (.st (.pair (.int .i64) (.int .i64))) .bool o1_1 (t74.1.2.1, t85.1.2.1)) false))
          ((if room (List.length o0_1 + List.length [(t74.1.2.1, t85.1.2.1)]) 16 then some () else none).bind fun _ =>
          some (a_2, b_2, (), (), (o0_1 ++ [(t74.1.2.1, t85.1.2.1)]), (mput (.st (.pair (.int .i64) (.int .i64))) .bool o1_1 (t74.1.2.1, t85.1.2.1) true)))
          (some (a_2, b_2, (), (), o0_1, o1_1)) : Option (((Int × ((List (Int × (Int × (Int × (Int × Int))))) × ((List Int) × ((List Int) × (List Int))))) × Unit) × (((Int × ((List (Int × (Int × (Int × (Int × Int))))) × ((List Int) × ((List Int) × (List Int))))) × Unit) × (Unit × (Unit × ((List (Int × Int)) × (List ((Int × Int) × Bool)))))))) fun ((a_3, b_3, _, _, o0_2, o1_2) : (((Int × ((List (Int × (Int × (Int × (Int × Int))))) × ((List Int) × ((List Int) × (List Int))))) × Unit) × (((Int × ((List (Int × (Int × (Int × (Int × Int))))) × ((List Int) × ((List Int) × (List Int))))) × Unit) × (Unit × (Unit × ((List (Int × Int)) × (List ((Int × Int) × Bool)))))))) =>
      some (Sum.inl (a_3, b_3, (), (), (w64 (t63 + 1)), o0_2, o1_2)))
      (some (Sum.inr (a_2, b_2, (), (), o0_1, o1_1)))
def shortest82.l1 (k : Nat) (ins : Int) : (((Int × ((List (Int × (Int × (Int × (Int × Int))))) × ((List Int) × ((List Int) × (List Int))))) × Unit) × (((Int × ((List (Int × (Int × (Int × (Int × Int))))) × ((List Int) × ((List Int) × (List Int))))) × Unit) × (Unit × (Unit × (Int × ((List (Int × Int)) × (List ((Int × Int) × Bool)))))))) → Option ((((Int × ((List (Int × (Int × (Int × (Int × Int))))) × ((List Int) × ((List Int) × (List Int))))) × Unit) × (((Int × ((List (Int × (Int × (Int × (Int × Int))))) × ((List Int) × ((List Int) × (List Int))))) × Unit) × (Unit × (Unit × (Int × ((List (Int × Int)) × (List ((Int × Int) × Bool)))))))) ⊕ (((Int × ((List (Int × (Int × (Int × (Int × Int))))) × ((List Int) × ((List Int) × (List Int))))) × Unit) × (((Int × ((List (Int × (Int × (Int × (Int × Int))))) × ((List Int) × ((List Int) × (List Int))))) × Unit) × (Unit × (List (Int × Int))))))
  | (a_1, b_1, _, _, k_, o0, o1) =>
    cond (decide (k_ < (List.length o0 : Int)))
      ((if ins < 0 then none else some (shlI .i64 1 ins)).bind fun t62 =>
      Option.bind
        (loopN (shortest82.l0 k k_ t62) k (a_1, b_1, (), (), 0, o0, o1) : Option (((Int × ((List (Int × (Int × (Int × (Int × Int))))) × ((List Int) × ((List Int) × (List Int))))) × Unit) × (((Int × ((List (Int × (Int × (Int × (Int × Int))))) × ((List Int) × ((List Int) × (List Int))))) × Unit) × (Unit × (Unit × ((List (Int × Int)) × (List ((Int × Int) × Bool)))))))) fun ((a_4, b_4, _, _, o0_3, o1_3) : (((Int × ((List (Int × (Int × (Int × (Int × Int))))) × ((List Int) × ((List Int) × (List Int))))) × Unit) × (((Int × ((List (Int × (Int × (Int × (Int × Int))))) × ((List Int) × ((List Int) × (List Int))))) × Unit) × (Unit × (Unit × ((List (Int × Int)) × (List ((Int × Int) × Bool)))))))) =>
      some (Sum.inl (a_4, b_4, (), (), (w64 (k_ + 1)), o0_3, o1_3)))
      (some (Sum.inr (a_1, b_1, (), o0)))
def shortest82.l2 (k : Nat) (t111 : Int) : (((Int × ((List (Int × (Int × (Int × (Int × Int))))) × ((List Int) × ((List Int) × (List Int))))) × Unit) × (((Int × ((List (Int × (Int × (Int × (Int × Int))))) × ((List Int) × ((List Int) × (List Int))))) × Unit) × (Unit × (Unit × (Bool × ((Int × Int) × (Unit × (Int × ((List (Int × Int)) × (List ((Int × Int) × Int))))))))))) → Option ((((Int × ((List (Int × (Int × (Int × (Int × Int))))) × ((List Int) × ((List Int) × (List Int))))) × Unit) × (((Int × ((List (Int × (Int × (Int × (Int × Int))))) × ((List Int) × ((List Int) × (List Int))))) × Unit) × (Unit × (Unit × (Bool × ((Int × Int) × (Unit × (Int × ((List (Int × Int)) × (List ((Int × Int) × Int))))))))))) ⊕ (((Int × ((List (Int × (Int × (Int × (Int × Int))))) × ((List Int) × ((List Int) × (List Int))))) × Unit) × (((Int × ((List (Int × (Int × (Int × (Int × Int))))) × ((List Int) × ((List Int) × (List Int))))) × Unit) × (Unit × (Unit × (Bool × (Unit × ((List (Int × Int)) × (List ((Int × Int) × Int))))))))))
  | (a_8, b_8, _, _, changed_2, p, _, t112, o0_7, o1_6) =>
    cond (decide (t112 < t111))
      (Option.bind
        ((circuitBox1123 k p.1 t112 a_8.1).bind fun t120 =>
        (circuitBox1123 k p.2 t112 b_8.1).bind fun t128 =>
        Option.bind
          (cond (t120.1.1 == t128.1.1)
            (let t139 : (Option Int) := (mget (.st (.pair (.int .i64) (.int .i64))) (.int .i64) o1_6 (t120.1.2.1, t128.1.2.1))
            cond (!(Option.isSome t139))
              (some (Sum.inr (a_8, b_8, (), (), changed_2, p, (), o0_7, o1_6)))
              (some (Sum.inl (a_8, b_8, (), (), p, (w64 ((Option.getD (α := Int) t139 (0 : Int)) + 1)), (), o0_7, o1_6))))
            (some (Sum.inl (a_8, b_8, (), (), p, 1, (), o0_7, o1_6))) : Option ((((Int × ((List (Int × (Int × (Int × (Int × Int))))) × ((List Int) × ((List Int) × (List Int))))) × Unit) × (((Int × ((List (Int × (Int × (Int × (Int × Int))))) × ((List Int) × ((List Int) × (List Int))))) × Unit) × (Unit × (Unit × ((Int × Int) × (Int × (Unit × ((List (Int × Int)) × (List ((Int × Int) × Int)))))))))) ⊕ (((Int × ((List (Int × (Int × (Int × (Int × Int))))) × ((List Int) × ((List Int) × (List Int))))) × Unit) × (((Int × ((List (Int × (Int × (Int × (Int × Int))))) × ((List Int) × ((List Int) × (List Int))))) × Unit) × (Unit × (Unit × (Bool × ((Int × Int) × (Unit × ((List (Int × Int)) × (List ((Int × Int) × Int)))))))))))) (joined fun ((a_9, b_9, _, _, p_1, d, _, o0_8, o1_7) : (((Int × ((List (Int × (Int × (Int × (Int × Int))))) × ((List Int) × ((List Int) × (List Int))))) × Unit) × (((Int × ((List (Int × (Int × (Int × (Int × Int))))) × ((List Int) × ((List Int) × (List Int))))) × Unit) × (Unit × (Unit × ((Int × Int) × (Int × (Unit × ((List (Int × Int)) × (List ((Int × Int) × Int))))))))))) =>
          let t149 : (Option Int) := (mget (.st (.pair (.int .i64) (.int .i64))) (.int .i64) o1_7 p_1)
          Option.bind
            (cond (cond (!(Option.isSome t149)) true (decide (d < (Option.getD (α := Int) t149 (0 : Int)))))
              (some (a_9, b_9, (), (), true, p_1, (), o0_8, (mput (.st (.pair (.int .i64) (.int .i64))) (.int .i64) o1_7 p_1 d)))
              (some (a_9, b_9, (), (), changed_2, p_1, (), o0_8, o1_7)) : Option (((Int × ((List (Int × (Int × (Int × (Int × Int))))) × ((List Int) × ((List Int) × (List Int))))) × Unit) × (((Int × ((List (Int × (Int × (Int × (Int × Int))))) × ((List Int) × ((List Int) × (List Int))))) × Unit) × (Unit × (Unit × (Bool × ((Int × Int) × (Unit × ((List (Int × Int)) × (List ((Int × Int) × Int))))))))))) fun ((a_10, b_10, _, _, changed_3, p_2, _, o0_9, o1_8) : (((Int × ((List (Int × (Int × (Int × (Int × Int))))) × ((List Int) × ((List Int) × (List Int))))) × Unit) × (((Int × ((List (Int × (Int × (Int × (Int × Int))))) × ((List Int) × ((List Int) × (List Int))))) × Unit) × (Unit × (Unit × (Bool × ((Int × Int) × (Unit × ((List (Int × Int)) × (List ((Int × Int) × Int))))))))))) =>
          some (a_10, b_10, (), (), changed_3, p_2, (), o0_9, o1_8)) : Option (((Int × ((List (Int × (Int × (Int × (Int × Int))))) × ((List Int) × ((List Int) × (List Int))))) × Unit) × (((Int × ((List (Int × (Int × (Int × (Int × Int))))) × ((List Int) × ((List Int) × (List Int))))) × Unit) × (Unit × (Unit × (Bool × ((Int × Int) × (Unit × ((List (Int × Int)) × (List ((Int × Int) × Int))))))))))) fun ((a_11, b_11, _, _, changed_4, p_3, _, o0_10, o1_9) : (((Int × ((List (Int × (Int × (Int × (Int × Int))))) × ((List Int) × ((List Int) × (List Int))))) × Unit) × (((Int × ((List (Int × (Int × (Int × (Int × Int))))) × ((List Int) × ((List Int) × (List Int))))) × Unit) × (Unit × (Unit × (Bool × ((Int × Int) × (Unit × ((List (Int × Int)) × (List ((Int × Int) × Int))))))))))) =>
      some (Sum.inl (a_11, b_11, (), (), changed_4, p_3, (), (w64 (t112 + 1)), o0_10, o1_9)))
      (some (Sum.inr (a_8, b_8, (), (), changed_2, (), o0_7, o1_6)))
def shortest82.l3 (k : Nat) (ins : Int) (o0_5 : (List (Int × Int))) : (((Int × ((List (Int × (Int × (Int × (Int × Int))))) × ((List Int) × ((List Int) × (List Int))))) × Unit) × (((Int × ((List (Int × (Int × (Int × (Int × Int))))) × ((List Int) × ((List Int) × (List Int))))) × Unit) × (Unit × (Unit × (Bool × (Unit × (Int × ((List (Int × Int)) × (List ((Int × Int) × Int)))))))))) → Option ((((Int × ((List (Int × (Int × (Int × (Int × Int))))) × ((List Int) × ((List Int) × (List Int))))) × Unit) × (((Int × ((List (Int × (Int × (Int × (Int × Int))))) × ((List Int) × ((List Int) × (List Int))))) × Unit) × (Unit × (Unit × (Bool × (Unit × (Int × ((List (Int × Int)) × (List ((Int × Int) × Int)))))))))) ⊕ (((Int × ((List (Int × (Int × (Int × (Int × Int))))) × ((List Int) × ((List Int) × (List Int))))) × Unit) × (((Int × ((List (Int × (Int × (Int × (Int × Int))))) × ((List Int) × ((List Int) × (List Int))))) × Unit) × (Unit × (Unit × (Bool × ((List (Int × Int)) × (List ((Int × Int) × Int)))))))))
  | (a_7, b_7, _, _, changed_1, _, t106, o0_6, o1_5) =>
    cond (decide (t106 < (List.length o0_5 : Int)))
      ((rd o0_6 t106).bind fun _ =>
      (rd o0_6 t106).bind fun t109 =>
      (if ins < 0 then none else some (shlI .i64 1 ins)).bind fun t111 =>
      Option.bind
        (loopN (shortest82.l2 k t111) k (a_7, b_7, (), (), changed_1, t109, (), 0, o0_6, o1_5) : Option (((Int × ((List (Int × (Int × (Int × (Int × Int))))) × ((List Int) × ((List Int) × (List Int))))) × Unit) × (((Int × ((List (Int × (Int × (Int × (Int × Int))))) × ((List Int) × ((List Int) × (List Int))))) × Unit) × (Unit × (Unit × (Bool × (Unit × ((List (Int × Int)) × (List ((Int × Int) × Int)))))))))) fun ((a_12, b_12, _, _, changed_5, _, o0_11, o1_10) : (((Int × ((List (Int × (Int × (Int × (Int × Int))))) × ((List Int) × ((List Int) × (List Int))))) × Unit) × (((Int × ((List (Int × (Int × (Int × (Int × Int))))) × ((List Int) × ((List Int) × (List Int))))) × Unit) × (Unit × (Unit × (Bool × (Unit × ((List (Int × Int)) × (List ((Int × Int) × Int)))))))))) =>
      some (Sum.inl (a_12, b_12, (), (), changed_5, (), (w64 (t106 + 1)), o0_11, o1_10)))
      (some (Sum.inr (a_7, b_7, (), (), changed_1, o0_6, o1_5)))
def shortest82.l4 (k : Nat) (ins : Int) : (((Int × ((List (Int × (Int × (Int × (Int × Int))))) × ((List Int) × ((List Int) × (List Int))))) × Unit) × (((Int × ((List (Int × (Int × (Int × (Int × Int))))) × ((List Int) × ((List Int) × (List Int))))) × Unit) × (Unit × (Unit × (Bool × ((List (Int × Int)) × (List ((Int × Int) × Int)))))))) → Option ((((Int × ((List (Int × (Int × (Int × (Int × Int))))) × ((List Int) × ((List Int) × (List Int))))) × Unit) × (((Int × ((List (Int × (Int × (Int × (Int × Int))))) × ((List Int) × ((List Int) × (List Int))))) × Unit) × (Unit × (Unit × (Bool × ((List (Int × Int)) × (List ((Int × Int) × Int)))))))) ⊕ (((Int × ((List (Int × (Int × (Int × (Int × Int))))) × ((List Int) × ((List Int) × (List Int))))) × Unit) × (((Int × ((List (Int × (Int × (Int × (Int × Int))))) × ((List Int) × ((List Int) × (List Int))))) × Unit) × (Unit × (List ((Int × Int) × Int))))))
  | (a_6, b_6, _, _, changed, o0_5, o1_4) =>
    cond changed
      (Option.bind
        (loopN (shortest82.l3 k ins o0_5) k (a_6, b_6, (), (), false, (), 0, o0_5, o1_4) : Option (((Int × ((List (Int × (Int × (Int × (Int × Int))))) × ((List Int) × ((List Int) × (List Int))))) × Unit) × (((Int × ((List (Int × (Int × (Int × (Int × Int))))) × ((List Int) × ((List Int) × (List Int))))) × Unit) × (Unit × (Unit × (Bool × ((List (Int × Int)) × (List ((Int × Int) × Int))))))))) fun ((a_13, b_13, _, _, changed_6, o0_12, o1_11) : (((Int × ((List (Int × (Int × (Int × (Int × Int))))) × ((List Int) × ((List Int) × (List Int))))) × Unit) × (((Int × ((List (Int × (Int × (Int × (Int × Int))))) × ((List Int) × ((List Int) × (List Int))))) × Unit) × (Unit × (Unit × (Bool × ((List (Int × Int)) × (List ((Int × Int) × Int))))))))) =>
      some (Sum.inl (a_13, b_13, (), (), changed_6, o0_12, o1_11)))
      (some (Sum.inr (a_6, b_6, (), o1_4)))
def shortest82.l5 (k : Nat) (t176 : Int) : (((Int × ((List (Int × (Int × (Int × (Int × Int))))) × ((List Int) × ((List Int) × (List Int))))) × Unit) × (((Int × ((List (Int × (Int × (Int × (Int × Int))))) × ((List Int) × ((List Int) × (List Int))))) × Unit) × (Unit × (Unit × (Unit × (Int × ((List ((Int × Int) × Int)) × ((Int × Int) × (List Int))))))))) → Option ((((Int × ((List (Int × (Int × (Int × (Int × Int))))) × ((List Int) × ((List Int) × (List Int))))) × Unit) × (((Int × ((List (Int × (Int × (Int × (Int × Int))))) × ((List Int) × ((List Int) × (List Int))))) × Unit) × (Unit × (Unit × (Unit × (Int × ((List ((Int × Int) × Int)) × ((Int × Int) × (List Int))))))))) ⊕ ((((Int × ((List (Int × (Int × (Int × (Int × Int))))) × ((List Int) × ((List Int) × (List Int))))) × Unit) × (((Int × ((List (Int × (Int × (Int × (Int × Int))))) × ((List Int) × ((List Int) × (List Int))))) × Unit) × (Unit × (Unit × (Unit × ((List ((Int × Int) × Int)) × ((Int × Int) × (List Int)))))))) ⊕ ((((Int × ((List (Int × (Int × (Int × (Int × Int))))) × ((List Int) × ((List Int) × (List Int))))) × Unit) × (((Int × ((List (Int × (Int × (Int × (Int × Int))))) × ((List Int) × ((List Int) × (List Int))))) × Unit) × (Unit × (Unit × (Unit × ((List ((Int × Int) × Int)) × ((Int × Int) × (List Int)))))))) ⊕ (((List Int) × (Bool × Unit)) × Unit))))
  | (a_16, b_16, _, _, _, t177, o1_14, o2_1, o4_1) =>
    cond (decide (t177 < t176))
      ((circuitBox1123 k o2_1.1 t177 a_16.1).bind fun t185 =>
      (circuitBox1123 k o2_1.2 t177 b_16.1).bind fun t193 =>
      cond (cond (t185.1.1 != t193.1.1) ((Option.getD (α := Int) (mget (.st (.pair (.int .i64) (.int .i64))) (.int .i64) o1_14 o2_1) (0 : Int)) == 1) false)
        ((if room (List.length o4_1 + List.length ([t177] : List Int)) 8 then some () else none).bind fun _ =>
        some (Sum.inr (Sum.inr (Sum.inr (((o4_1 ++ ([t177] : List Int)), true, ()), ())))))
        (let t214 : (Option Int) := (mget (.st (.pair (.int .i64) (.int .i64))) (.int .i64) o1_14 (t185.1.2.1, t193.1.2.1))
        cond (cond (cond (t185.1.1 == t193.1.1) (Option.isSome t214) false) ((Option.getD (α := Int) t214 (0 : Int)) == (w64 ((Option.getD (α := Int) (mget (.st (.pair (.int .i64) (.int .i64))) (.int .i64) o1_14 o2_1) (0 : Int)) - 1))) false)
          ((if room (List.length o4_1 + List.length ([t177] : List Int)) 8 then some () else none).bind fun _ =>
          some (Sum.inr (Sum.inl (a_16, b_16, (), (), (), o1_14, (t185.1.2.1, t193.1.2.1), (o4_1 ++ ([t177] : List Int))))))
          (some (Sum.inl (a_16, b_16, (), (), (), (w64 (t177 + 1)), o1_14, o2_1, o4_1)))))
      (some (Sum.inr (Sum.inl (a_16, b_16, (), (), (), o1_14, o2_1, o4_1))))
def shortest82.l6 (k : Nat) (ins : Int) : (((Int × ((List (Int × (Int × (Int × (Int × Int))))) × ((List Int) × ((List Int) × (List Int))))) × Unit) × (((Int × ((List (Int × (Int × (Int × (Int × Int))))) × ((List Int) × ((List Int) × (List Int))))) × Unit) × (Unit × (Unit × (Unit × ((List ((Int × Int) × Int)) × ((Int × Int) × (List Int)))))))) → Option ((((Int × ((List (Int × (Int × (Int × (Int × Int))))) × ((List Int) × ((List Int) × (List Int))))) × Unit) × (((Int × ((List (Int × (Int × (Int × (Int × Int))))) × ((List Int) × ((List Int) × (List Int))))) × Unit) × (Unit × (Unit × (Unit × ((List ((Int × Int) × Int)) × ((Int × Int) × (List Int)))))))) ⊕ (((List Int) × (Bool × Unit)) × Unit))
  | (a_15, b_15, _, _, _, o1_13, o2, o4) =>
    (if ins < 0 then none else some (shlI .i64 1 ins)).bind fun t176 =>
    Option.bind
      (loopN (shortest82.l5 k t176) k (a_15, b_15, (), (), (), 0, o1_13, o2, o4) : Option ((((Int × ((List (Int × (Int × (Int × (Int × Int))))) × ((List Int) × ((List Int) × (List Int))))) × Unit) × (((Int × ((List (Int × (Int × (Int × (Int × Int))))) × ((List Int) × ((List Int) × (List Int))))) × Unit) × (Unit × (Unit × (Unit × ((List ((Int × Int) × Int)) × ((Int × Int) × (List Int)))))))) ⊕ ((((Int × ((List (Int × (Int × (Int × (Int × Int))))) × ((List Int) × ((List Int) × (List Int))))) × Unit) × (((Int × ((List (Int × (Int × (Int × (Int × Int))))) × ((List Int) × ((List Int) × (List Int))))) × Unit) × (Unit × (Unit × (Unit × ((List ((Int × Int) × Int)) × ((Int × Int) × (List Int)))))))) ⊕ (((List Int) × (Bool × Unit)) × Unit)))) (joined fun ((a_17, b_17, _, _, _, o1_15, o2_2, o4_2) : (((Int × ((List (Int × (Int × (Int × (Int × Int))))) × ((List Int) × ((List Int) × (List Int))))) × Unit) × (((Int × ((List (Int × (Int × (Int × (Int × Int))))) × ((List Int) × ((List Int) × (List Int))))) × Unit) × (Unit × (Unit × (Unit × ((List ((Int × Int) × Int)) × ((Int × Int) × (List Int))))))))) =>
      some (Sum.inl (a_17, b_17, (), (), (), o1_15, o2_2, o4_2)))
def shortest82 (k : Nat) (a : ((Int × ((List (Int × (Int × (Int × (Int × Int))))) × ((List Int) × ((List Int) × (List Int))))) × Unit)) (b : ((Int × ((List (Int × (Int × (Int × (Int × Int))))) × ((List Int) × ((List Int) × (List Int))))) × Unit)) (s : Int) (t : Int) (ins : Int) : Option (((List Int) × (Bool × Unit)) × Unit) :=
  Option.bind
    (loopN (shortest82.l1 k ins) k (a, b, (), (), 0, [(s, t)], (mput (.st (.pair (.int .i64) (.int .i64))) .bool ([] : (List ((Int × Int) × Bool))) (s, t) true)) : Option (((Int × ((List (Int × (Int × (Int × (Int × Int))))) × ((List Int) × ((List Int) × (List Int))))) × Unit) × (((Int × ((List (Int × (Int × (Int × (Int × Int))))) × ((List Int) × ((List Int) × (List Int))))) × Unit) × (Unit × (List (Int × Int)))))) fun ((a_5, b_5, _, o0_4) : (((Int × ((List (Int × (Int × (Int × (Int × Int))))) × ((List Int) × ((List Int) × (List Int))))) × Unit) × (((Int × ((List (Int × (Int × (Int × (Int × Int))))) × ((List Int) × ((List Int) × (List Int))))) × Unit) × (Unit × (List (Int × Int)))))) =>
  Option.bind
    (loopN (shortest82.l4 k ins) k (a_5, b_5, (), (), true, o0_4, ([] : (List ((Int × Int) × Int)))) : Option (((Int × ((List (Int × (Int × (Int × (Int × Int))))) × ((List Int) × ((List Int) × (List Int))))) × Unit) × (((Int × ((List (Int × (Int × (Int × (Int × Int))))) × ((List Int) × ((List Int) × (List Int))))) × Unit) × (Unit × (List ((Int × Int) × Int)))))) fun ((a_14, b_14, _, o1_12) : (((Int × ((List (Int × (Int × (Int × (Int × Int))))) × ((List Int) × ((List Int) × (List Int))))) × Unit) × (((Int × ((List (Int × (Int × (Int × (Int × Int))))) × ((List Int) × ((List Int) × (List Int))))) × Unit) × (Unit × (List ((Int × Int) × Int)))))) =>
  cond (!(Option.isSome (mget (.st (.pair (.int .i64) (.int .i64))) (.int .i64) o1_12 (s, t))))
    (some (([], false, ()), ()))
    (loopN (shortest82.l6 k ins) k (a_14, b_14, (), (), (), o1_12, (s, t), []))
def shortest82.A : Ann := { conds := [(6160397, ⟨[(0, .fn 123 (.pair (.fp (.st (.pair (.int .i64) (.pair (.sl (.st (.pair (.int .i64) (.pair (.int .i64) (.pair (.int .i64) (.pair (.int .i64) (.int .i64))))))) (.pair (.sl (.int .i64)) (.pair (.sl (.int .i64)) (.sl (.int .i64)))))))) .unit)), (1, .fn 123 (.pair (.fp (.st (.pair (.int .i64) (.pair (.sl (.st (.pair (.int .i64) (.pair (.int .i64) (.pair (.int .i64) (.pair (.int .i64) (.int .i64))))))) (.pair (.sl (.int .i64)) (.pair (.sl (.int .i64)) (.sl (.int .i64)))))))) .unit)), (12, .ms 0), (13, .mm 1)], [(0, .row (.st (.pair (.int .i64) (.int .i64)))), (1, .map (.st (.pair (.int .i64) (.int .i64))) .bool)], 2, [], 2495687119199326634196634439680⟩), (8716318, ⟨[(0, .fn 123 (.pair (.fp (.st (.pair (.int .i64) (.pair (.sl (.st (.pair (.int .i64) (.pair (.int .i64) (.pair (.int .i64) (.pair (.int .i64) (.int .i64))))))) (.pair (.sl (.int .i64)) (.pair (.sl (.int .i64)) (.sl (.int .i64)))))))) .unit)), (1, .fn 123 (.pair (.fp (.st (.pair (.int .i64) (.pair (.sl (.st (.pair (.int .i64) (.pair (.int .i64) (.pair (.int .i64) (.pair (.int .i64) (.int .i64))))))) (.pair (.sl (.int .i64)) (.pair (.sl (.int .i64)) (.sl (.int .i64)))))))) .unit)), (12, .ms 0), (21, .mm 1), (24, .fp (.st (.pair (.int .i64) (.int .i64)))), (30, .int .i64), (104, .ms 0)], [(0, .row (.st (.pair (.int .i64) (.int .i64)))), (1, .map (.st (.pair (.int .i64) (.int .i64))) (.int .i64))], 2, [], 89181202722639552504481217115717820374581248⟩), (10354723, ⟨[(0, .fn 123 (.pair (.fp (.st (.pair (.int .i64) (.pair (.sl (.st (.pair (.int .i64) (.pair (.int .i64) (.pair (.int .i64) (.pair (.int .i64) (.int .i64))))))) (.pair (.sl (.int .i64)) (.pair (.sl (.int .i64)) (.sl (.int .i64)))))))) .unit)), (1, .fn 123 (.pair (.fp (.st (.pair (.int .i64) (.pair (.sl (.st (.pair (.int .i64) (.pair (.int .i64) (.pair (.int .i64) (.pair (.int .i64) (.int .i64))))))) (.pair (.sl (.int .i64)) (.pair (.sl (.int .i64)) (.sl (.int .i64)))))))) .unit)), (12, .ms 0), (21, .mm 1), (22, .bool), (24, .fp (.st (.pair (.int .i64) (.int .i64)))), (104, .ms 0)], [(0, .row (.st (.pair (.int .i64) (.int .i64)))), (1, .map (.st (.pair (.int .i64) (.int .i64))) (.int .i64))], 2, [], 5115255730658160213712896914506990568795768094720⟩)], blocks := [(0, ⟨[(0, .fn 123 (.pair (.fp (.st (.pair (.int .i64) (.pair (.sl (.st (.pair (.int .i64) (.pair (.int .i64) (.pair (.int .i64) (.pair (.int .i64) (.int .i64))))))) (.pair (.sl (.int .i64)) (.pair (.sl (.int .i64)) (.sl (.int .i64)))))))) .unit)), (1, .fn 123 (.pair (.fp (.st (.pair (.int .i64) (.pair (.sl (.st (.pair (.int .i64) (.pair (.int .i64) (.pair (.int .i64) (.pair (.int .i64) (.int .i64))))))) (.pair (.sl (.int .i64)) (.pair (.sl (.int .i64)) (.sl (.int .i64)))))))) .unit)), (12, .ms 0)], [(0, .row (.st (.pair (.int .i64) (.int .i64))))], 1, [], 5070602400912881577189795942400⟩), (2, ⟨[(0, .fn 123 (.pair (.fp (.st (.pair (.int .i64) (.pair (.sl (.st (.pair (.int .i64) (.pair (.int .i64) (.pair (.int .i64) (.pair (.int .i64) (.int .i64))))))) (.pair (.sl (.int .i64)) (.pair (.sl (.int .i64)) (.sl (.int .i64)))))))) .unit)), (1, .fn 123 (.pair (.fp (.st (.pair (.int .i64) (.pair (.sl (.st (.pair (.int .i64) (.pair (.int .i64) (.pair (.int .i64) (.pair (.int .i64) (.int .i64))))))) (.pair (.sl (.int .i64)) (.pair (.sl (.int .i64)) (.sl (.int .i64)))))))) .unit)), (12, .ms 0), (13, .mm 1)], [(0, .row (.st (.pair (.int .i64) (.int .i64)))), (1, .map (.st (.pair (.int .i64) (.int .i64))) .bool)], 2, [], 5070602400903694233949960114176⟩), (4, ⟨[(0, .fn 123 (.pair (.fp (.st (.pair (.int .i64) (.pair (.sl (.st (.pair (.int .i64) (.pair (.int .i64) (.pair (.int .i64) (.pair (.int .i64) (.int .i64))))))) (.pair (.sl (.int .i64)) (.pair (.sl (.int .i64)) (.sl (.int .i64)))))))) .unit)), (1, .fn 123 (.pair (.fp (.st (.pair (.int .i64) (.pair (.sl (.st (.pair (.int .i64) (.pair (.int .i64) (.pair (.int .i64) (.pair (.int .i64) (.int .i64))))))) (.pair (.sl (.int .i64)) (.pair (.sl (.int .i64)) (.sl (.int .i64)))))))) .unit)), (21, .mm 1)], [(1, .map (.st (.pair (.int .i64) (.int .i64))) (.int .i64))], 2, [], 23384026197294446681117752521634693102555642200064⟩), (6, ⟨[(0, .fn 123 (.pair (.fp (.st (.pair (.int .i64) (.pair (.sl (.st (.pair (.int .i64) (.pair (.int .i64) (.pair (.int .i64) (.pair (.int .i64) (.int .i64))))))) (.pair (.sl (.int .i64)) (.pair (.sl (.int .i64)) (.sl (.int .i64)))))))) .unit)), (1, .fn 123 (.pair (.fp (.st (.pair (.int .i64) (.pair (.sl (.st (.pair (.int .i64) (.pair (.int .i64) (.pair (.int .i64) (.pair (.int .i64) (.int .i64))))))) (.pair (.sl (.int .i64)) (.pair (.sl (.int .i64)) (.sl (.int .i64)))))))) .unit)), (12, .ms 0), (21, .mm 1), (22, .bool)], [(0, .row (.st (.pair (.int .i64) (.int .i64)))), (1, .map (.st (.pair (.int .i64) (.int .i64))) (.int .i64))], 2, [], 23384026197294446610129318908853846618740262699008⟩), (8, ⟨[(0, .fn 123 (.pair (.fp (.st (.pair (.int .i64) (.pair (.sl (.st (.pair (.int .i64) (.pair (.int .i64) (.pair (.int .i64) (.pair (.int .i64) (.int .i64))))))) (.pair (.sl (.int .i64)) (.pair (.sl (.int .i64)) (.sl (.int .i64)))))))) .unit)), (1, .fn 123 (.pair (.fp (.st (.pair (.int .i64) (.pair (.sl (.st (.pair (.int .i64) (.pair (.int .i64) (.pair (.int .i64) (.pair (.int .i64) (.int .i64))))))) (.pair (.sl (.int .i64)) (.pair (.sl (.int .i64)) (.sl (.int .i64)))))))) .unit)), (12, .ms 0), (21, .mm 1), (22, .bool), (104, .ms 0)], [(0, .row (.st (.pair (.int .i64) (.int .i64)))), (1, .map (.st (.pair (.int .i64) (.int .i64))) (.int .i64))], 2, [], 11692013098647218153332620126902635626785461501952⟩), (9, ⟨[(0, .fn 123 (.pair (.fp (.st (.pair (.int .i64) (.pair (.sl (.st (.pair (.int .i64) (.pair (.int .i64) (.pair (.int .i64) (.pair (.int .i64) (.int .i64))))))) (.pair (.sl (.int .i64)) (.pair (.sl (.int .i64)) (.sl (.int .i64)))))))) .unit)), (1, .fn 123 (.pair (.fp (.st (.pair (.int .i64) (.pair (.sl (.st (.pair (.int .i64) (.pair (.int .i64) (.pair (.int .i64) (.pair (.int .i64) (.int .i64))))))) (.pair (.sl (.int .i64)) (.pair (.sl (.int .i64)) (.sl (.int .i64)))))))) .unit)), (12, .ms 0), (21, .mm 1), (22, .bool), (24, .fp (.st (.pair (.int .i64) (.int .i64)))), (104, .ms 0)], [(0, .row (.st (.pair (.int .i64) (.int .i64)))), (1, .map (.st (.pair (.int .i64) (.int .i64))) (.int .i64))], 2, [], 5846006549323590903627305191554617956672743669760⟩), (12, ⟨[(0, .fn 123 (.pair (.fp (.st (.pair (.int .i64) (.pair (.sl (.st (.pair (.int .i64) (.pair (.int .i64) (.pair (.int .i64) (.pair (.int .i64) (.int .i64))))))) (.pair (.sl (.int .i64)) (.pair (.sl (.int .i64)) (.sl (.int .i64)))))))) .unit)), (1, .fn 123 (.pair (.fp (.st (.pair (.int .i64) (.pair (.sl (.st (.pair (.int .i64) (.pair (.int .i64) (.pair (.int .i64) (.pair (.int .i64) (.int .i64))))))) (.pair (.sl (.int .i64)) (.pair (.sl (.int .i64)) (.sl (.int .i64)))))))) .unit)), (21, .mm 1), (35, .ptr 2 []), (38, .ms 4)], [(1, .map (.st (.pair (.int .i64) (.int .i64))) (.int .i64)), (2, .var (.st (.pair (.int .i64) (.int .i64)))), (4, .row (.int .i64))], 5, [], 883423532389192164600086807763223150618948570044020831108530804239633408⟩)], loops := [(4, ⟨[(0, .fn 123 (.pair (.fp (.st (.pair (.int .i64) (.pair (.sl (.st (.pair (.int .i64) (.pair (.int .i64) (.pair (.int .i64) (.pair (.int .i64) (.int .i64))))))) (.pair (.sl (.int .i64)) (.pair (.sl (.int .i64)) (.sl (.int .i64)))))))) .unit)), (1, .fn 123 (.pair (.fp (.st (.pair (.int .i64) (.pair (.sl (.st (.pair (.int .i64) (.pair (.int .i64) (.pair (.int .i64) (.pair (.int .i64) (.int .i64))))))) (.pair (.sl (.int .i64)) (.pair (.sl (.int .i64)) (.sl (.int .i64)))))))) .unit)), (12, .ms 0), (13, .mm 1), (14, .int .i64)], [(0, .row (.st (.pair (.int .i64) (.int .i64)))), (1, .map (.st (.pair (.int .i64) (.int .i64))) .bool)], 2, [], 5070602400912881577189795942400⟩), (7, ⟨[(0, .fn 123 (.pair (.fp (.st (.pair (.int .i64) (.pair (.sl (.st (.pair (.int .i64) (.pair (.int .i64) (.pair (.int .i64) (.pair (.int .i64) (.int .i64))))))) (.pair (.sl (.int .i64)) (.pair (.sl (.int .i64)) (.sl (.int .i64)))))))) .unit)), (1, .fn 123 (.pair (.fp (.st (.pair (.int .i64) (.pair (.sl (.st (.pair (.int .i64) (.pair (.int .i64) (.pair (.int .i64) (.pair (.int .i64) (.int .i64))))))) (.pair (.sl (.int .i64)) (.pair (.sl (.int .i64)) (.sl (.int .i64)))))))) .unit)), (12, .ms 0), (13, .mm 1), (63, .int .i64)], [(0, .row (.st (.pair (.int .i64) (.int .i64)))), (1, .map (.st (.pair (.int .i64) (.int .i64))) .bool)], 2, [], 5070602400903694233949960114176⟩), (18, ⟨[(0, .fn 123 (.pair (.fp (.st (.pair (.int .i64) (.pair (.sl (.st (.pair (.int .i64) (.pair (.int .i64) (.pair (.int .i64) (.pair (.int .i64) (.int .i64))))))) (.pair (.sl (.int .i64)) (.pair (.sl (.int .i64)) (.sl (.int .i64)))))))) .unit)), (1, .fn 123 (.pair (.fp (.st (.pair (.int .i64) (.pair (.sl (.st (.pair (.int .i64) (.pair (.int .i64) (.pair (.int .i64) (.pair (.int .i64) (.int .i64))))))) (.pair (.sl (.int .i64)) (.pair (.sl (.int .i64)) (.sl (.int .i64)))))))) .unit)), (12, .ms 0), (21, .mm 1), (22, .bool)], [(0, .row (.st (.pair (.int .i64) (.int .i64)))), (1, .map (.st (.pair (.int .i64) (.int .i64))) (.int .i64))], 2, [], 23384026197294446681117752521634693102555642200064⟩), (21, ⟨[(0, .fn 123 (.pair (.fp (.st (.pair (.int .i64) (.pair (.sl (.st (.pair (.int .i64) (.pair (.int .i64) (.pair (.int .i64) (.pair (.int .i64) (.int .i64))))))) (.pair (.sl (.int .i64)) (.pair (.sl (.int .i64)) (.sl (.int .i64)))))))) .unit)), (1, .fn 123 (.pair (.fp (.st (.pair (.int .i64) (.pair (.sl (.st (.pair (.int .i64) (.pair (.int .i64) (.pair (.int .i64) (.pair (.int .i64) (.int .i64))))))) (.pair (.sl (.int .i64)) (.pair (.sl (.int .i64)) (.sl (.int .i64)))))))) .unit)), (12, .ms 0), (21, .mm 1), (22, .bool), (104, .ms 0), (106, .int .i64)], [(0, .row (.st (.pair (.int .i64) (.int .i64)))), (1, .map (.st (.pair (.int .i64) (.int .i64))) (.int .i64))], 2, [], 23384026197294446610129318908853846618740262699008⟩), (24, ⟨[(0, .fn 123 (.pair (.fp (.st (.pair (.int .i64) (.pair (.sl (.st (.pair (.int .i64) (.pair (.int .i64) (.pair (.int .i64) (.pair (.int .i64) (.int .i64))))))) (.pair (.sl (.int .i64)) (.pair (.sl (.int .i64)) (.sl (.int .i64)))))))) .unit)), (1, .fn 123 (.pair (.fp (.st (.pair (.int .i64) (.pair (.sl (.st (.pair (.int .i64) (.pair (.int .i64) (.pair (.int .i64) (.pair (.int .i64) (.int .i64))))))) (.pair (.sl (.int .i64)) (.pair (.sl (.int .i64)) (.sl (.int .i64)))))))) .unit)), (12, .ms 0), (21, .mm 1), (22, .bool), (24, .fp (.st (.pair (.int .i64) (.int .i64)))), (104, .ms 0), (112, .int .i64)], [(0, .row (.st (.pair (.int .i64) (.int .i64)))), (1, .map (.st (.pair (.int .i64) (.int .i64))) (.int .i64))], 2, [], 11692013098647218153332620126902635626785461501952⟩), (43, ⟨[(0, .fn 123 (.pair (.fp (.st (.pair (.int .i64) (.pair (.sl (.st (.pair (.int .i64) (.pair (.int .i64) (.pair (.int .i64) (.pair (.int .i64) (.int .i64))))))) (.pair (.sl (.int .i64)) (.pair (.sl (.int .i64)) (.sl (.int .i64)))))))) .unit)), (1, .fn 123 (.pair (.fp (.st (.pair (.int .i64) (.pair (.sl (.st (.pair (.int .i64) (.pair (.int .i64) (.pair (.int .i64) (.pair (.int .i64) (.int .i64))))))) (.pair (.sl (.int .i64)) (.pair (.sl (.int .i64)) (.sl (.int .i64)))))))) .unit)), (21, .mm 1), (35, .ptr 2 []), (38, .ms 4)], [(1, .map (.st (.pair (.int .i64) (.int .i64))) (.int .i64)), (2, .var (.st (.pair (.int .i64) (.int .i64)))), (4, .row (.int .i64))], 5, [(4, .int .i64)], 883423532389192164743758264719400231090043603839362317072787596944346112⟩), (44, ⟨[(0, .fn 123 (.pair (.fp (.st (.pair (.int .i64) (.pair (.sl (.st (.pair (.int .i64) (.pair (.int .i64) (.pair (.int .i64) (.pair (.int .i64) (.int .i64))))))) (.pair (.sl (.int .i64)) (.pair (.sl (.int .i64)) (.sl (.int .i64)))))))) .unit)), (1, .fn 123 (.pair (.fp (.st (.pair (.int .i64) (.pair (.sl (.st (.pair (.int .i64) (.pair (.int .i64) (.pair (.int .i64) (.pair (.int .i64) (.int .i64))))))) (.pair (.sl (.int .i64)) (.pair (.sl (.int .i64)) (.sl (.int .i64)))))))) .unit)), (21, .mm 1), (35, .ptr 2 []), (38, .ms 4), (177, .int .i64)], [(1, .map (.st (.pair (.int .i64) (.int .i64))) (.int .i64)), (2, .var (.st (.pair (.int .i64) (.int .i64)))), (4, .row (.int .i64))], 5, [], 883423532389192164600086807763223150618948570044020831108530804239633408⟩)], keeps := [20, 24], orders := [] }
def shortest82.S : Sig := { f := 82, params := [.fn 123 (.pair (.fp (.st (.pair (.int .i64) (.pair (.sl (.st (.pair (.int .i64) (.pair (.int .i64) (.pair (.int .i64) (.pair (.int .i64) (.int .i64))))))) (.pair (.sl (.int .i64)) (.pair (.sl (.int .i64)) (.sl (.int .i64)))))))) .unit), .fn 123 (.pair (.fp (.st (.pair (.int .i64) (.pair (.sl (.st (.pair (.int .i64) (.pair (.int .i64) (.pair (.int .i64) (.pair (.int .i64) (.int .i64))))))) (.pair (.sl (.int .i64)) (.pair (.sl (.int .i64)) (.sl (.int .i64)))))))) .unit), .int .i64, .int .i64, .int .i64], objs := [], res := .tup (.pair (.sl (.int .i64)) (.pair .bool .unit)), outs := [], fix := [], run := fun k ds os => shortest82 k ds.1 ds.2.1 ds.2.2.1 ds.2.2.2.1 ds.2.2.2.2 }
def shortest82.G : List Sig := [circuitBox1123.S]
theorem shortest82.eq (k : Nat) : ∀ ds os, shortest82.S.run k ds os = runF ⟨types, shortest82.G, shortest82.A, k, 0, []⟩ Try.f82 (codeOf Try.f82) shortest82.S.params shortest82.S.objs shortest82.S.res shortest82.S.outs ds os := by
  intro ds os; kernel_rfl
theorem shortest82.dr : DrOk Try.prog shortest82.A (codeOf Try.f82) := ⟨by kernel_rfl, by kernel_rfl⟩
theorem shortest82.ok (k : Nat) : SoundAt Try.prog k shortest82.S :=
  runF_sound (X := ⟨types, shortest82.G, shortest82.A, k, 0, []⟩) types_ok (mem_all (⟨circuitBox1123.ok k, trivial⟩)) (fn := Try.f82) (c := codeOf Try.f82) rfl (by kernel_rfl) rfl rfl shortest82.dr (shortest82.eq k)
end Go.Proofs.Ytjbdhaenakcclaa.St

/- Go functions as plain Lean functions, and their contracts. -/
set_option linter.unusedVariables false
set_option maxRecDepth 100000
noncomputable section
namespace Go.Proofs.Ytjbdhaenakcclaa.St
open Go Go.Proofs.Ytjbdhaenakcclaa.Gp
def ToldCircuits34 (k : Nat) (a : (Int × ((List (Int × (Int × (Int × (Int × Int))))) × ((List Int) × ((List Int) × (List Int)))))) (b : (Int × ((List (Int × (Int × (Int × (Int × Int))))) × ((List Int) × ((List Int) × (List Int)))))) : Option (((List Int) × (Bool × Unit)) × Unit) :=
  (circuitBox83 k a).bind fun t7 =>
  (circuitBox83 k b).bind fun t9 =>
  (First37 k a).bind fun t11 =>
  (First37 k b).bind fun t13 =>
  (shortest82 k t7.1 t9.1 t11.1 t13.1 a.1).bind fun t16 =>
  some ((t16.1.1, t16.1.2.1, ()), ())
def ToldCircuits34.A : Ann := { conds := [], blocks := [], loops := [], keeps := [2, 3], orders := [(1, [(0, .strong), (2, .strong), (4, .strong), (6, .strong), (8, .strong), (9, .strong), (1, .eff true), (3, .eff true), (5, .eff true), (7, .eff true), (10, .eff true), (11, .strong), (12, .strong), (13, .strong), (14, .strong)])] }
def ToldCircuits34.S : Sig := { f := 34, params := [.st (.pair (.int .i64) (.pair (.sl (.st (.pair (.int .i64) (.pair (.int .i64) (.pair (.int .i64) (.pair (.int .i64) (.int .i64))))))) (.pair (.sl (.int .i64)) (.pair (.sl (.int .i64)) (.sl (.int .i64)))))), .st (.pair (.int .i64) (.pair (.sl (.st (.pair (.int .i64) (.pair (.int .i64) (.pair (.int .i64) (.pair (.int .i64) (.int .i64))))))) (.pair (.sl (.int .i64)) (.pair (.sl (.int .i64)) (.sl (.int .i64))))))], objs := [], res := .tup (.pair (.sl (.int .i64)) (.pair .bool .unit)), outs := [], fix := [], run := fun k ds os => ToldCircuits34 k ds.1 ds.2 }
def ToldCircuits34.G : List Sig := [First37.S, circuitBox83.S, shortest82.S]
theorem ToldCircuits34.eq (k : Nat) : ∀ ds os, ToldCircuits34.S.run k ds os = runF ⟨types, ToldCircuits34.G, ToldCircuits34.A, k, 0, []⟩ Try.f34 (codeOf Try.f34) ToldCircuits34.S.params ToldCircuits34.S.objs ToldCircuits34.S.res ToldCircuits34.S.outs ds os := by
  intro ds os; kernel_rfl
theorem ToldCircuits34.dr : DrOk Try.prog ToldCircuits34.A (codeOf Try.f34) := ⟨by kernel_rfl, by kernel_rfl⟩
theorem ToldCircuits34.ok (k : Nat) : SoundAt Try.prog k ToldCircuits34.S :=
  runF_sound (X := ⟨types, ToldCircuits34.G, ToldCircuits34.A, k, 0, []⟩) types_ok (mem_all (⟨First37.ok k, ⟨circuitBox83.ok k, ⟨shortest82.ok k, trivial⟩⟩⟩)) (fn := Try.f34) (c := codeOf Try.f34) rfl (by kernel_rfl) rfl rfl ToldCircuits34.dr (ToldCircuits34.eq k)

def Answered62.l0 (k : Nat) (in_ : (List Int)) : ((Int × ((List (Int × (Int × (Int × (Int × Int))))) × ((List Int) × ((List Int) × (List Int))))) × (Int × (Unit × (Int × (List Int))))) → Option (((Int × ((List (Int × (Int × (Int × (Int × Int))))) × ((List Int) × ((List Int) × (List Int))))) × (Int × (Unit × (Int × (List Int))))) ⊕ (Unit × (List Int)))
  | (c_1, s, _, t14, o1) =>
    cond (decide (t14 < (List.length in_ : Int)))
      ((rd in_ t14).bind fun t16 =>
      (Stepped20 k c_1 s t16).bind fun t22 =>
      (if room (List.length o1 + List.length ([t22.1.1] : List Int)) 8 then some () else none).bind fun _ =>
      some (Sum.inl (c_1, t22.1.2.1, (), (w64 (t14 + 1)), (o1 ++ ([t22.1.1] : List Int)))))
      (some (Sum.inr ((), o1)))
def Answered62 (k : Nat) (c : (Int × ((List (Int × (Int × (Int × (Int × Int))))) × ((List Int) × ((List Int) × (List Int)))))) (in_ : (List Int)) : Option ((List Int) × Unit) :=
  (First37 k c).bind fun t11 =>
  Option.bind
    (loopN (Answered62.l0 k in_) k (c, t11.1, (), 0, []) : Option (Unit × (List Int))) fun ((_, o1_1) : (Unit × (List Int))) =>
  some (o1_1, ())
def Answered62.A : Ann := { conds := [], blocks := [(0, ⟨[(6, .ms 1)], [(1, .row (.int .i64))], 2, [], 1073726304⟩)], loops := [(4, ⟨[(2, .fp (.st (.pair (.int .i64) (.pair (.sl (.st (.pair (.int .i64) (.pair (.int .i64) (.pair (.int .i64) (.pair (.int .i64) (.int .i64))))))) (.pair (.sl (.int .i64)) (.pair (.sl (.int .i64)) (.sl (.int .i64)))))))), (5, .int .i64), (6, .ms 1), (14, .int .i64)], [(1, .row (.int .i64))], 2, [(1, .int .i64)], 1073726304⟩)], keeps := [2], orders := [] }
def Answered62.S : Sig := { f := 62, params := [.st (.pair (.int .i64) (.pair (.sl (.st (.pair (.int .i64) (.pair (.int .i64) (.pair (.int .i64) (.pair (.int .i64) (.int .i64))))))) (.pair (.sl (.int .i64)) (.pair (.sl (.int .i64)) (.sl (.int .i64)))))), .sl (.int .i64)], objs := [], res := .sl (.int .i64), outs := [], fix := [], run := fun k ds os => Answered62 k ds.1 ds.2 }
def Answered62.G : List Sig := [First37.S, Stepped20.S]
theorem Answered62.eq (k : Nat) : ∀ ds os, Answered62.S.run k ds os = runF ⟨types, Answered62.G, Answered62.A, k, 0, []⟩ Try.f62 (codeOf Try.f62) Answered62.S.params Answered62.S.objs Answered62.S.res Answered62.S.outs ds os := by
  intro ds os; kernel_rfl
theorem Answered62.dr : DrOk Try.prog Answered62.A (codeOf Try.f62) := ⟨by kernel_rfl, by kernel_rfl⟩
theorem Answered62.ok (k : Nat) : SoundAt Try.prog k Answered62.S :=
  runF_sound (X := ⟨types, Answered62.G, Answered62.A, k, 0, []⟩) types_ok (mem_all (⟨First37.ok k, ⟨Stepped20.ok k, trivial⟩⟩)) (fn := Try.f62) (c := codeOf Try.f62) rfl (by kernel_rfl) rfl rfl Answered62.dr (Answered62.eq k)
end Go.Proofs.Ytjbdhaenakcclaa.St

/- Go functions as plain Lean functions, and their contracts. -/
set_option linter.unusedVariables false
set_option maxRecDepth 100000
noncomputable section
namespace Go.Proofs.Ytjbdhaenakcclaa.St
open Go Go.Proofs.Ytjbdhaenakcclaa.Gp
def SynthSmalls12.l0 (k : Nat) (t90 : ((List Int) × Unit)) : ((Int × ((List (Int × (Int × (Int × (Int × Int))))) × ((List Int) × ((List Int) × (List Int))))) × ((Int × ((List (Int × (Int × (Int × (Int × Int))))) × ((List Int) × ((List Int) × (List Int))))) × (Unit × (Int × (List (Int × Bool)))))) → Option (((Int × ((List (Int × (Int × (Int × (Int × Int))))) × ((List Int) × ((List Int) × (List Int))))) × ((Int × ((List (Int × (Int × (Int × (Int × Int))))) × ((List Int) × ((List Int) × (List Int))))) × (Unit × (Int × (List (Int × Bool)))))) ⊕ ((Int × ((List (Int × (Int × (Int × (Int × Int))))) × ((List Int) × ((List Int) × (List Int))))) × ((Int × ((List (Int × (Int × (Int × (Int × Int))))) × ((List Int) × ((List Int) × (List Int))))) × (Unit × (List (Int × Bool))))))
  | (c_1, d, _, t92, o1) =>
    cond (decide (t92 < (List.length t90.1 : Int)))
      ((rd t90.1 t92).bind fun t94 =>
      some (Sum.inl (c_1, d, (), (w64 (t92 + 1)), (mput (.int .i64) .bool o1 t94 true))))
      (some (Sum.inr (c_1, d, (), o1)))
def SynthSmalls12.l1 (k : Nat) : ((Int × ((List (Int × (Int × (Int × (Int × Int))))) × ((List Int) × ((List Int) × (List Int))))) × ((Int × ((List (Int × (Int × (Int × (Int × Int))))) × ((List Int) × ((List Int) × (List Int))))) × (Unit × (Int × (List (Int × Bool)))))) → Option (((Int × ((List (Int × (Int × (Int × (Int × Int))))) × ((List Int) × ((List Int) × (List Int))))) × ((Int × ((List (Int × (Int × (Int × (Int × Int))))) × ((List Int) × ((List Int) × (List Int))))) × (Unit × (Int × (List (Int × Bool)))))) ⊕ (((Int × ((List (Int × (Int × (Int × (Int × Int))))) × ((List Int) × ((List Int) × (List Int))))) × (Int × ((List (Int × (Int × (Int × (Int × Int))))) × ((List Int) × ((List Int) × (List Int)))))) ⊕ (Bool × Unit)))
  | (c_3, d_2, _, k_, o1_2) =>
    cond (decide (k_ ≥ 0))
      ((rd d_2.2.1 k_).bind fun t110 =>
      Option.bind (cond (!(Option.getD (α := Bool) (mget (.int .i64) .bool o1_2 k_) false))
        (some true)
        ((slc d_2.2.1 0 k_).bind fun t120 =>
        (Contains60 k t120 t110).bind fun t122 =>
        some t122.1)) fun t123 =>
      cond t123
        (some (Sum.inr (Sum.inr (false, ()))))
        (Option.bind
          (cond (t110.1 == 3)
            (some (c_3, d_2, (), t110, (mput (.int .i64) .bool o1_2 t110.2.1 true)))
            (Option.bind
              (cond (t110.1 == 7)
                (some (c_3, d_2, (), t110, (mput (.int .i64) .bool (mput (.int .i64) .bool (mput (.int .i64) .bool o1_2 t110.2.1 true) t110.2.2.1 true) t110.2.2.2.1 true)))
                (Option.bind
                  (cond (decide (t110.1 > 3))
                    (some (c_3, d_2, (), t110, (mput (.int .i64) .bool (mput (.int .i64) .bool o1_2 t110.2.1 true) t110.2.2.1 true)))
                    (some (c_3, d_2, (), t110, o1_2)) : Option ((Int × ((List (Int × (Int × (Int × (Int × Int))))) × ((List Int) × ((List Int) × (List Int))))) × ((Int × ((List (Int × (Int × (Int × (Int × Int))))) × ((List Int) × ((List Int) × (List Int))))) × (Unit × ((Int × (Int × (Int × (Int × Int)))) × (List (Int × Bool))))))) fun ((c_4, d_3, _, g, o1_3) : ((Int × ((List (Int × (Int × (Int × (Int × Int))))) × ((List Int) × ((List Int) × (List Int))))) × ((Int × ((List (Int × (Int × (Int × (Int × Int))))) × ((List Int) × ((List Int) × (List Int))))) × (Unit × ((Int × (Int × (Int × (Int × Int)))) × (List (Int × Bool))))))) =>
                some (c_4, d_3, (), g, o1_3)) : Option ((Int × ((List (Int × (Int × (Int × (Int × Int))))) × ((List Int) × ((List Int) × (List Int))))) × ((Int × ((List (Int × (Int × (Int × (Int × Int))))) × ((List Int) × ((List Int) × (List Int))))) × (Unit × ((Int × (Int × (Int × (Int × Int)))) × (List (Int × Bool))))))) fun ((c_5, d_4, _, g_1, o1_4) : ((Int × ((List (Int × (Int × (Int × (Int × Int))))) × ((List Int) × ((List Int) × (List Int))))) × ((Int × ((List (Int × (Int × (Int × (Int × Int))))) × ((List Int) × ((List Int) × (List Int))))) × (Unit × ((Int × (Int × (Int × (Int × Int)))) × (List (Int × Bool))))))) =>
            some (c_5, d_4, (), g_1, o1_4)) : Option ((Int × ((List (Int × (Int × (Int × (Int × Int))))) × ((List Int) × ((List Int) × (List Int))))) × ((Int × ((List (Int × (Int × (Int × (Int × Int))))) × ((List Int) × ((List Int) × (List Int))))) × (Unit × ((Int × (Int × (Int × (Int × Int)))) × (List (Int × Bool))))))) fun ((c_6, d_5, _, g_2, o1_5) : ((Int × ((List (Int × (Int × (Int × (Int × Int))))) × ((List Int) × ((List Int) × (List Int))))) × ((Int × ((List (Int × (Int × (Int × (Int × Int))))) × ((List Int) × ((List Int) × (List Int))))) × (Unit × ((Int × (Int × (Int × (Int × Int)))) × (List (Int × Bool))))))) =>
        Option.bind (cond (decide (g_2.1 ≥ 3))
          ((constant61 k d_5 g_2.2.1).bind fun t161 =>
          some t161.1)
          (some false)) fun t162 =>
        Option.bind (cond t162
          (some true)
          (Option.bind (cond (cond (cond (g_2.1 == 4) true (g_2.1 == 5)) true (g_2.1 == 6))
            ((constant61 k d_5 g_2.2.2.1).bind fun t181 =>
            some t181.1)
            (some false)) fun t182 =>
          some t182)) fun t183 =>
        cond t183
          (some (Sum.inr (Sum.inr (false, ()))))
          (some (Sum.inl (c_6, d_5, (), (w64 (k_ - 1)), o1_5)))))
      (some (Sum.inr (Sum.inl (c_3, d_2))))
def SynthSmalls12.l2 (k : Nat) (t205 : (List Int)) : ((Int × ((List (Int × (Int × (Int × (Int × Int))))) × ((List Int) × ((List Int) × (List Int))))) × ((Int × ((List (Int × (Int × (Int × (Int × Int))))) × ((List Int) × ((List Int) × (List Int))))) × (Unit × (Int × (List Int))))) → Option (((Int × ((List (Int × (Int × (Int × (Int × Int))))) × ((List Int) × ((List Int) × (List Int))))) × ((Int × ((List (Int × (Int × (Int × (Int × Int))))) × ((List Int) × ((List Int) × (List Int))))) × (Unit × (Int × (List Int))))) ⊕ ((Int × ((List (Int × (Int × (Int × (Int × Int))))) × ((List Int) × ((List Int) × (List Int))))) × ((Int × ((List (Int × (Int × (Int × (Int × Int))))) × ((List Int) × ((List Int) × (List Int))))) × (Unit × (List Int)))))
  | (c_8, d_7, _, t207, o1_6) =>
    cond (decide (t207 < (List.length t205 : Int)))
      ((rd t205 t207).bind fun t209 =>
      (if c_8.1 < 0 then none else some (shlI .i64 1 c_8.1)).bind fun t215 =>
      let t217 : Int := (ibits .and .i64 t209 (w64 (t215 - 1)))
      (if room (List.length o1_6 + List.length ([t217] : List Int)) 8 then some () else none).bind fun _ =>
      some (Sum.inl (c_8, d_7, (), (w64 (t207 + 1)), (o1_6 ++ ([t217] : List Int)))))
      (some (Sum.inr (c_8, d_7, (), o1_6)))
def SynthSmalls12 (k : Nat) (c : (Int × ((List (Int × (Int × (Int × (Int × Int))))) × ((List Int) × ((List Int) × (List Int)))))) (in_ : (List Int)) : Option (Bool × Unit) :=
  (Small58 k c).bind fun t20 =>
  (CircuitFault14 k c).bind fun t24 =>
  (built55 k).bind fun t25 =>
  cond (cond (!t25.1) true (t24.1 != 0))
    ((built55 k).bind fun t31 =>
    some ((cond (cond t31.1 (t20.1.2.1 == t24.1) false) ((List.length t20.1.1.2.1 : Int) == 0) false), ()))
    (Option.bind (cond (t20.1.2.1 != 0)
      (some true)
      ((CircuitFault14 k t20.1.1).bind fun t47 =>
      some (t47.1 != 0))) fun t49 =>
    cond (cond (cond (cond (cond t49 true (t20.1.1.1 != c.1)) true ((List.length t20.1.1.2.2.1 : Int) != (List.length c.2.2.1 : Int))) true (decide ((List.length t20.1.1.2.1 : Int) > (List.length c.2.1 : Int)))) true (decide ((List.length t20.1.1.2.2.2.1 : Int) > (List.length c.2.2.2.1 : Int))))
      (some (false, ()))
      ((Concat59 k [t20.1.1.2.2.1, t20.1.1.2.2.2.1]).bind fun t90 =>
      Option.bind
        (loopN (SynthSmalls12.l0 k t90) k (c, t20.1.1, (), 0, ([] : (List (Int × Bool)))) : Option ((Int × ((List (Int × (Int × (Int × (Int × Int))))) × ((List Int) × ((List Int) × (List Int))))) × ((Int × ((List (Int × (Int × (Int × (Int × Int))))) × ((List Int) × ((List Int) × (List Int))))) × (Unit × (List (Int × Bool)))))) fun ((c_2, d_1, _, o1_1) : ((Int × ((List (Int × (Int × (Int × (Int × Int))))) × ((List Int) × ((List Int) × (List Int))))) × ((Int × ((List (Int × (Int × (Int × (Int × Int))))) × ((List Int) × ((List Int) × (List Int))))) × (Unit × (List (Int × Bool)))))) =>
      Option.bind
        (loopN (SynthSmalls12.l1 k) k (c_2, d_1, (), (w64 ((List.length d_1.2.1 : Int) - 1)), o1_1) : Option (((Int × ((List (Int × (Int × (Int × (Int × Int))))) × ((List Int) × ((List Int) × (List Int))))) × (Int × ((List (Int × (Int × (Int × (Int × Int))))) × ((List Int) × ((List Int) × (List Int)))))) ⊕ (Bool × Unit))) (joined fun ((c_7, d_6) : ((Int × ((List (Int × (Int × (Int × (Int × Int))))) × ((List Int) × ((List Int) × (List Int))))) × (Int × ((List (Int × (Int × (Int × (Int × Int))))) × ((List Int) × ((List Int) × (List Int))))))) =>
        cond (cond (decide (c_7.1 ≤ 3)) (decide ((List.length c_7.2.2.2.1 : Int) ≤ 3)) false)
          ((ToldCircuits34 k c_7 d_6).bind fun t196 =>
          some ((!t196.1.2.1), ()))
          ((slc in_ 0 (mnI (List.length in_ : Int) 40)).bind fun t205 =>
          Option.bind
            (loopN (SynthSmalls12.l2 k t205) k (c_7, d_6, (), 0, []) : Option ((Int × ((List (Int × (Int × (Int × (Int × Int))))) × ((List Int) × ((List Int) × (List Int))))) × ((Int × ((List (Int × (Int × (Int × (Int × Int))))) × ((List Int) × ((List Int) × (List Int))))) × (Unit × (List Int))))) fun ((c_9, d_8, _, o1_7) : ((Int × ((List (Int × (Int × (Int × (Int × Int))))) × ((List Int) × ((List Int) × (List Int))))) × ((Int × ((List (Int × (Int × (Int × (Int × Int))))) × ((List Int) × ((List Int) × (List Int))))) × (Unit × (List Int))))) =>
          (Answered62 k c_9 o1_7).bind fun t223 =>
          (Answered62 k d_8 o1_7).bind fun t226 =>
          (Equal25 k t223.1 t226.1).bind fun t227 =>
          some (t227.1, ())))))
def SynthSmalls12.A : Ann := { conds := [(8126484, ⟨[(2, .fp (.st (.pair (.int .i64) (.pair (.sl (.st (.pair (.int .i64) (.pair (.int .i64) (.pair (.int .i64) (.pair (.int .i64) (.int .i64))))))) (.pair (.sl (.int .i64)) (.pair (.sl (.int .i64)) (.sl (.int .i64)))))))), (5, .fp (.st (.pair (.int .i64) (.pair (.sl (.st (.pair (.int .i64) (.pair (.int .i64) (.pair (.int .i64) (.pair (.int .i64) (.int .i64))))))) (.pair (.sl (.int .i64)) (.pair (.sl (.int .i64)) (.sl (.int .i64)))))))), (8, .mm 1), (12, .fp (.st (.pair (.int .i64) (.pair (.int .i64) (.pair (.int .i64) (.pair (.int .i64) (.int .i64)))))))], [(1, .map (.int .i64) .bool)], 2, [], 22835962743012991175994112047817314750355734528⟩), (8585238, ⟨[(2, .fp (.st (.pair (.int .i64) (.pair (.sl (.st (.pair (.int .i64) (.pair (.int .i64) (.pair (.int .i64) (.pair (.int .i64) (.int .i64))))))) (.pair (.sl (.int .i64)) (.pair (.sl (.int .i64)) (.sl (.int .i64)))))))), (5, .fp (.st (.pair (.int .i64) (.pair (.sl (.st (.pair (.int .i64) (.pair (.int .i64) (.pair (.int .i64) (.pair (.int .i64) (.int .i64))))))) (.pair (.sl (.int .i64)) (.pair (.sl (.int .i64)) (.sl (.int .i64)))))))), (8, .mm 1), (12, .fp (.st (.pair (.int .i64) (.pair (.int .i64) (.pair (.int .i64) (.pair (.int .i64) (.int .i64)))))))], [(1, .map (.int .i64) .bool)], 2, [], 22835919527152392216809252199242170915792879616⟩), (9437208, ⟨[(2, .fp (.st (.pair (.int .i64) (.pair (.sl (.st (.pair (.int .i64) (.pair (.int .i64) (.pair (.int .i64) (.pair (.int .i64) (.int .i64))))))) (.pair (.sl (.int .i64)) (.pair (.sl (.int .i64)) (.sl (.int .i64)))))))), (5, .fp (.st (.pair (.int .i64) (.pair (.sl (.st (.pair (.int .i64) (.pair (.int .i64) (.pair (.int .i64) (.pair (.int .i64) (.int .i64))))))) (.pair (.sl (.int .i64)) (.pair (.sl (.int .i64)) (.sl (.int .i64)))))))), (8, .mm 1), (12, .fp (.st (.pair (.int .i64) (.pair (.int .i64) (.pair (.int .i64) (.pair (.int .i64) (.int .i64)))))))], [(1, .map (.int .i64) .bool)], 2, [], 22479151160118868126668004018829548398028259328⟩)], blocks := [(0, ⟨[(2, .fp (.st (.pair (.int .i64) (.pair (.sl (.st (.pair (.int .i64) (.pair (.int .i64) (.pair (.int .i64) (.pair (.int .i64) (.int .i64))))))) (.pair (.sl (.int .i64)) (.pair (.sl (.int .i64)) (.sl (.int .i64)))))))), (5, .fp (.st (.pair (.int .i64) (.pair (.sl (.st (.pair (.int .i64) (.pair (.int .i64) (.pair (.int .i64) (.pair (.int .i64) (.int .i64))))))) (.pair (.sl (.int .i64)) (.pair (.sl (.int .i64)) (.sl (.int .i64)))))))), (8, .mm 1)], [(1, .map (.int .i64) .bool)], 2, [], 628873539956973179648755106816⟩), (2, ⟨[(2, .fp (.st (.pair (.int .i64) (.pair (.sl (.st (.pair (.int .i64) (.pair (.int .i64) (.pair (.int .i64) (.pair (.int .i64) (.int .i64))))))) (.pair (.sl (.int .i64)) (.pair (.sl (.int .i64)) (.sl (.int .i64)))))))), (5, .fp (.st (.pair (.int .i64) (.pair (.sl (.st (.pair (.int .i64) (.pair (.int .i64) (.pair (.int .i64) (.pair (.int .i64) (.int .i64))))))) (.pair (.sl (.int .i64)) (.pair (.sl (.int .i64)) (.sl (.int .i64))))))))], [], 0, [], 24519928653854221733733542293200145112064613981311997968⟩), (5, ⟨[(2, .fp (.st (.pair (.int .i64) (.pair (.sl (.st (.pair (.int .i64) (.pair (.int .i64) (.pair (.int .i64) (.pair (.int .i64) (.int .i64))))))) (.pair (.sl (.int .i64)) (.pair (.sl (.int .i64)) (.sl (.int .i64)))))))), (5, .fp (.st (.pair (.int .i64) (.pair (.sl (.st (.pair (.int .i64) (.pair (.int .i64) (.pair (.int .i64) (.pair (.int .i64) (.int .i64))))))) (.pair (.sl (.int .i64)) (.pair (.sl (.int .i64)) (.sl (.int .i64)))))))), (15, .ms 1)], [(1, .row (.int .i64))], 2, [], 3369787645324164823578107514729634165391520210834367362655032868864⟩)], loops := [(9, ⟨[(2, .fp (.st (.pair (.int .i64) (.pair (.sl (.st (.pair (.int .i64) (.pair (.int .i64) (.pair (.int .i64) (.pair (.int .i64) (.int .i64))))))) (.pair (.sl (.int .i64)) (.pair (.sl (.int .i64)) (.sl (.int .i64)))))))), (5, .fp (.st (.pair (.int .i64) (.pair (.sl (.st (.pair (.int .i64) (.pair (.int .i64) (.pair (.int .i64) (.pair (.int .i64) (.int .i64))))))) (.pair (.sl (.int .i64)) (.pair (.sl (.int .i64)) (.sl (.int .i64)))))))), (8, .mm 1), (92, .int .i64)], [(1, .map (.int .i64) .bool)], 2, [], 628873539956973179648755106816⟩), (14, ⟨[(2, .fp (.st (.pair (.int .i64) (.pair (.sl (.st (.pair (.int .i64) (.pair (.int .i64) (.pair (.int .i64) (.pair (.int .i64) (.int .i64))))))) (.pair (.sl (.int .i64)) (.pair (.sl (.int .i64)) (.sl (.int .i64)))))))), (5, .fp (.st (.pair (.int .i64) (.pair (.sl (.st (.pair (.int .i64) (.pair (.int .i64) (.pair (.int .i64) (.pair (.int .i64) (.int .i64))))))) (.pair (.sl (.int .i64)) (.pair (.sl (.int .i64)) (.sl (.int .i64)))))))), (8, .mm 1), (11, .int .i64)], [(1, .map (.int .i64) .bool)], 2, [], 24519928653854221733733542293200145112064613981311997968⟩), (32, ⟨[(2, .fp (.st (.pair (.int .i64) (.pair (.sl (.st (.pair (.int .i64) (.pair (.int .i64) (.pair (.int .i64) (.pair (.int .i64) (.int .i64))))))) (.pair (.sl (.int .i64)) (.pair (.sl (.int .i64)) (.sl (.int .i64)))))))), (5, .fp (.st (.pair (.int .i64) (.pair (.sl (.st (.pair (.int .i64) (.pair (.int .i64) (.pair (.int .i64) (.pair (.int .i64) (.int .i64))))))) (.pair (.sl (.int .i64)) (.pair (.sl (.int .i64)) (.sl (.int .i64)))))))), (15, .ms 1), (207, .int .i64)], [(1, .row (.int .i64))], 2, [(1, .int .i64)], 3369787645324164823578107514729634165391520210834367362655032868864⟩)], keeps := [2, 5, 12], orders := [(17, [(0, .strong), (1, .strong), (2, .strong), (3, .strong), (4, .strong), (5, .strong), (6, .strong), (7, .strong), (8, .strong), (9, .strong), (10, .eff true), (11, .strong)]), (22, [(0, .strong), (1, .strong), (2, .strong), (3, .weak), (4, .weak), (5, .weak), (6, .weak), (7, .weak), (8, .weak), (9, .eff false), (10, .eff false), (11, .eff false)]), (24, [(0, .strong), (1, .strong), (2, .strong), (3, .weak), (4, .weak), (5, .weak), (6, .eff false), (7, .eff false)]), (36, [(0, .strong), (1, .strong), (3, .strong), (4, .strong), (2, .eff true), (5, .eff true), (6, .eff true), (7, .strong)])] }
def SynthSmalls12.S : Sig := { f := 12, params := [.st (.pair (.int .i64) (.pair (.sl (.st (.pair (.int .i64) (.pair (.int .i64) (.pair (.int .i64) (.pair (.int .i64) (.int .i64))))))) (.pair (.sl (.int .i64)) (.pair (.sl (.int .i64)) (.sl (.int .i64)))))), .sl (.int .i64)], objs := [], res := .bool, outs := [], fix := [], run := fun k ds os => SynthSmalls12 k ds.1 ds.2 }
def SynthSmalls12.G : List Sig := [Answered62.S, CircuitFault14.S, Concat59.S, Contains60.S, Equal25.S, Small58.S, ToldCircuits34.S, built55.S, constant61.S]
theorem SynthSmalls12.eq (k : Nat) : ∀ ds os, SynthSmalls12.S.run k ds os = runF ⟨types, SynthSmalls12.G, SynthSmalls12.A, k, 0, []⟩ Try.f12 (codeOf Try.f12) SynthSmalls12.S.params SynthSmalls12.S.objs SynthSmalls12.S.res SynthSmalls12.S.outs ds os := by
  intro ds os; kernel_rfl
theorem SynthSmalls12.dr : DrOk Try.prog SynthSmalls12.A (codeOf Try.f12) := ⟨by kernel_rfl, by kernel_rfl⟩
theorem SynthSmalls12.ok (k : Nat) : SoundAt Try.prog k SynthSmalls12.S :=
  runF_sound (X := ⟨types, SynthSmalls12.G, SynthSmalls12.A, k, 0, []⟩) types_ok (mem_all (⟨Answered62.ok k, ⟨CircuitFault14.ok k, ⟨Concat59.ok k, ⟨Contains60.ok k, ⟨Equal25.ok k, ⟨Small58.ok k, ⟨ToldCircuits34.ok k, ⟨built55.ok k, ⟨constant61.ok k, trivial⟩⟩⟩⟩⟩⟩⟩⟩⟩)) (fn := Try.f12) (c := codeOf Try.f12) rfl (by kernel_rfl) rfl rfl SynthSmalls12.dr (SynthSmalls12.eq k)
end Go.Proofs.Ytjbdhaenakcclaa.St

/- Go functions as plain Lean functions, and their contracts. -/
set_option linter.unusedVariables false
set_option maxRecDepth 100000
noncomputable section
namespace Go.Proofs.Ytjbdhaenakcclaa.St
open Go Go.Proofs.Ytjbdhaenakcclaa.Gp
end Go.Proofs.Ytjbdhaenakcclaa.St

/- Go functions as plain Lean functions, and their contracts. -/
set_option linter.unusedVariables false
set_option maxRecDepth 100000
noncomputable section
namespace Go.Proofs.Ytjbdhaenakcclaa.St
open Go Go.Proofs.Ytjbdhaenakcclaa.Gp
end Go.Proofs.Ytjbdhaenakcclaa.St

/- What is left of a Go function, in the long run: rounds, loops, lists, numbers. No program in sight. -/
set_option linter.unusedVariables false
noncomputable section
namespace Go.Proofs.Ytjbdhaenakcclaa.Gp
open Go

/-- from some fuel on, f answers v -/
def Ev {α : Type} (f : Nat → Option α) (v : α) : Prop := ∃ n, ∀ k, n ≤ k → f k = some v
/-- .. a loop, from some fuel on and with enough rounds -/
def Lp {S R : Type} (body : Nat → S → Option (S ⊕ R)) (s : S) (r : R) : Prop := ∃ n m, ∀ k, n ≤ k → ∀ j, m ≤ j → loopN (body k) j s = some r

theorem Ev.ex {α : Type} {f : Nat → Option α} {v : α} (h : Ev f v) : ∃ k, f k = some v := by
  obtain ⟨n, h⟩ := h
  exact ⟨n, h n (Nat.le_refl _)⟩
theorem Ev.now {α : Type} (v : α) : Ev (fun _ => some v) v := ⟨0, fun _ _ => rfl⟩
theorem Ev.now' {α : Type} {v w : α} (h : v = w) : Ev (fun _ => some v) w := h ▸ .now v
/-- what hangs on no fuel -/
theorem Ev.const {α : Type} {o : Option α} {v : α} (h : o = some v) : Ev (fun _ => o) v := ⟨0, fun _ _ => h⟩
theorem Ev.to {α : Type} {f : Nat → Option α} {v w : α} (h : Ev f v) (e : v = w) : Ev f w := e ▸ h
theorem Ev.of {α : Type} {f g : Nat → Option α} {v : α} (h : Ev f v) (e : ∀ k, g k = f k) : Ev g v := by
  obtain ⟨n, h⟩ := h
  exact ⟨n, fun k hk => (e k).trans (h k hk)⟩
theorem Ev.bind {α β : Type} {f : Nat → Option α} {g : Nat → α → Option β} {a : α} {b : β} (h : Ev f a) (h2 : Ev (fun k => g k a) b) : Ev (fun k => (f k).bind (g k)) b := by
  obtain ⟨n, h⟩ := h
  obtain ⟨m, h2⟩ := h2
  refine ⟨max n m, fun k hk => ?_⟩
  show (f k).bind (g k) = _
  rw [h k (by omega)]
  exact h2 k (by omega)
/-- a value that hangs on no fuel -/
theorem Ev.val {α β : Type} {o : Option α} {g : Nat → α → Option β} {a : α} {b : β} (h : o = some a) (h2 : Ev (fun k => g k a) b) : Ev (fun k => o.bind (g k)) b := by
  subst h
  exact h2
theorem Ev.joinL {S α β : Type} {f : Nat → Option (α ⊕ β)} {g : Nat → α → Option β} {a : α} {b : β} (h : Ev f (.inl a)) (h2 : Ev (fun k => g k a) b) : Ev (fun k => (f k).bind (joined (g k))) b :=
  Ev.bind (g := fun k => joined (g k)) h h2
theorem Ev.joinR {α β : Type} {f : Nat → Option (α ⊕ β)} {g : Nat → α → Option β} {b : β} (h : Ev f (.inr b)) : Ev (fun k => (f k).bind (joined (g k))) b :=
  Ev.bind (g := fun k => joined (g k)) h (.now b)
/-- a join: how it came, and what follows -/
theorem Ev.join {α β : Type} {f : Nat → Option (α ⊕ β)} {g : Nat → α → Option β} {s : α ⊕ β} {b : β} (h : Ev f s) (h1 : ∀ a, s = .inl a → Ev (fun k => g k a) b) (h2 : ∀ r, s = .inr r → r = b) : Ev (fun k => (f k).bind (joined (g k))) b := by
  cases s with
  | inl a => exact Ev.bind (g := fun k => joined (g k)) h (h1 a rfl)
  | inr r => exact Ev.bind (g := fun k => joined (g k)) h (.now' (h2 r rfl))
theorem Ev.cnd {α : Type} {c : Bool} {f g : Nat → Option α} {v : α} (h1 : c = true → Ev f v) (h2 : c = false → Ev g v) : Ev (fun k => cond c (f k) (g k)) v := by
  cases c with
  | true => exact h1 rfl
  | false => exact h2 rfl
theorem Ev.yes {α : Type} {c : Bool} {f g : Nat → Option α} {v : α} (hc : c = true) (h : Ev f v) : Ev (fun k => cond c (f k) (g k)) v := by rw [hc]; exact h
theorem Ev.no {α : Type} {c : Bool} {f g : Nat → Option α} {v : α} (hc : c = false) (h : Ev g v) : Ev (fun k => cond c (f k) (g k)) v := by rw [hc]; exact h
theorem Ev.iff {α : Type} {c : Prop} [Decidable c] {f g : Nat → Option α} {v : α} (h1 : c → Ev f v) (h2 : ¬ c → Ev g v) : Ev (fun k => cond (decide c) (f k) (g k)) v := by
  by_cases h : c
  · exact .yes (decide_eq_true h) (h1 h)
  · exact .no (decide_eq_false h) (h2 h)
theorem Ev.map {α β : Type} {f : Nat → Option α} {g : α → β} {a : α} (h : Ev f a) : Ev (fun k => (f k).map g) (g a) := by
  obtain ⟨n, h⟩ := h
  exact ⟨n, fun k hk => by show (f k).map g = _; rw [h k hk]; rfl⟩

theorem Lp.ev {S R : Type} {body : Nat → S → Option (S ⊕ R)} {s : S} {r : R} (h : Lp body s r) : Ev (fun k => loopN (body k) k s) r := by
  obtain ⟨n, m, h⟩ := h
  exact ⟨max n m, fun k hk => h k (by omega) k (by omega)⟩
theorem Lp.done {S R : Type} {body : Nat → S → Option (S ⊕ R)} {s : S} {r : R} (h : Ev (fun k => body k s) (.inr r)) : Lp body s r := by
  obtain ⟨n, h⟩ := h
  refine ⟨n, 1, fun k hk j hj => ?_⟩
  obtain ⟨j, rfl⟩ : ∃ i, j = i + 1 := ⟨j - 1, by omega⟩
  show (body k s).bind _ = _
  rw [show body k s = _ from h k hk]
  rfl
theorem Lp.step {S R : Type} {body : Nat → S → Option (S ⊕ R)} {s s' : S} {r : R} (h : Ev (fun k => body k s) (.inl s')) (h2 : Lp body s' r) : Lp body s r := by
  obtain ⟨n, h⟩ := h
  obtain ⟨n2, m, h2⟩ := h2
  refine ⟨max n n2, m + 1, fun k hk j hj => ?_⟩
  obtain ⟨j, rfl⟩ : ∃ i, j = i + 1 := ⟨j - 1, by omega⟩
  show (body k s).bind _ = _
  rw [show body k s = _ from h k (by omega)]
  exact h2 k (by omega) j (by omega)

/-- a walk over a list, that may end early -/
def walk {α β R : Type} (f : β → α → β ⊕ R) (fin : β → R) : List α → β → R
  | [], b => fin b
  | x :: l, b => match f b x with | .inl b' => walk f fin l b' | .inr r => r
theorem walk_cons {α β R : Type} {f : β → α → β ⊕ R} {fin : β → R} {x : α} {l : List α} {b : β} : walk f fin (x :: l) b = match f b x with | .inl b' => walk f fin l b' | .inr r => r := rfl

/-- a loop over a list by its index: 'st b i' is the loop's state -/
theorem Lp.walk {α β S R : Type} {body : Nat → S → Option (S ⊕ R)} (l : List α) (st : β → Int → S) (f : β → α → β ⊕ R) (fin : β → R) (Inv : Nat → β → Prop)
    (hs : ∀ i x b, l[i]? = some x → Inv i b → Ev (fun k => body k (st b i)) (match f b x with | .inl b' => .inl (st b' ((i : Int) + 1)) | .inr r => .inr r) ∧ ∀ b', f b x = .inl b' → Inv (i + 1) b')
    (hd : ∀ b, Inv l.length b → Ev (fun k => body k (st b l.length)) (.inr (fin b))) {b : β} (h0 : Inv 0 b) : Lp body (st b 0) (walk f fin l b) := by
  have key : ∀ (suf pre : List α) (b : β), l = pre ++ suf → Inv pre.length b → Lp body (st b (pre.length : Int)) (Gp.walk f fin suf b) := by
    intro suf
    induction suf with
    | nil =>
      intro pre b h hi
      rw [List.append_nil] at h
      subst h
      exact .done (hd b hi)
    | cons x suf ih =>
      intro pre b h hi
      have hx : l[pre.length]? = some x := by rw [h]; simp
      obtain ⟨h1, h2⟩ := hs pre.length x b hx hi
      rw [walk_cons]
      cases hf : f b x with
      | inr r => rw [hf] at h1; exact .done h1
      | inl b' =>
        rw [hf] at h1
        refine .step h1 ?_
        have := ih (pre ++ [x]) b' (by rw [h]; simp) (by simpa using h2 b' hf)
        simpa using this
  exact key l [] b rfl h0
/-- .. that always goes to its end -/
theorem Lp.fold {α β S R : Type} {body : Nat → S → Option (S ⊕ R)} (l : List α) (st : β → Int → S) (f : β → α → β) (fin : β → R) (Inv : Nat → β → Prop)
    (hs : ∀ i x b, l[i]? = some x → Inv i b → Ev (fun k => body k (st b i)) (.inl (st (f b x) ((i : Int) + 1))) ∧ Inv (i + 1) (f b x))
    (hd : ∀ b, Inv l.length b → Ev (fun k => body k (st b l.length)) (.inr (fin b))) {b : β} (h0 : Inv 0 b) : Lp body (st b 0) (fin (l.foldl f b)) := by
  have := Lp.walk (body := body) l st (fun b x => .inl (f b x)) fin Inv (fun i x b hx hi => ⟨(hs i x b hx hi).1, fun b' hb => by cases hb; exact (hs i x b hx hi).2⟩) hd h0
  have e : ∀ (l : List α) (b : β), Gp.walk (fun b x => (.inl (f b x) : β ⊕ R)) fin l b = fin (l.foldl f b) := by
    intro l
    induction l with
    | nil => intro b; rfl
    | cons x l ih => intro b; rw [walk_cons, List.foldl_cons]; exact ih _
  rwa [e] at this
/-- a loop that counts from 0 to n -/
theorem Lp.count {β S R : Type} {body : Nat → S → Option (S ⊕ R)} (n : Nat) (st : β → Int → S) (f : β → Nat → β) (fin : β → R) (Inv : Nat → β → Prop)
    (hs : ∀ i b, i < n → Inv i b → Ev (fun k => body k (st b i)) (.inl (st (f b i) ((i : Int) + 1))) ∧ Inv (i + 1) (f b i))
    (hd : ∀ b, Inv n b → Ev (fun k => body k (st b n)) (.inr (fin b))) {b : β} (h0 : Inv 0 b) : Lp body (st b 0) (fin ((List.range n).foldl f b)) := by
  refine Lp.fold (List.range n) st f fin Inv (fun i x b hx hi => ?_) (fun b hb => ?_) h0
  · obtain ⟨h1, h2⟩ := List.getElem?_eq_some_iff.1 hx
    rw [List.getElem_range] at h2
    subst h2
    exact hs i b (by simpa using h1) hi
  · rw [List.length_range] at hb ⊢
    exact hd b hb

-- numbers
theorem w64_id {x : Int} (h0 : -9223372036854775808 ≤ x) (h1 : x ≤ 9223372036854775807) : w64 x = x := by
  show IntKind.wrap .i64 x = x
  have e : (2 : Int) ^ (64 - 1) = 9223372036854775808 := by decide
  have e2 : (2 : Int) ^ 64 = 18446744073709551616 := by decide
  simp only [IntKind.wrap, IntKind.signed, IntKind.bits, Bool.true_and, decide_eq_true_eq, e, e2]
  split <;> omega
theorem w64_nat {n : Nat} (h : n ≤ 9223372036854775807) : w64 (n : Int) = n := w64_id (by omega) (by omega)
theorem w64_succ {n : Nat} (h : n < 9223372036854775807) : w64 ((n : Int) + 1) = ((n + 1 : Nat) : Int) := by rw [w64_id (by omega) (by omega)]; omega
theorem rd_nat {α : Type} (l : List α) (i : Nat) : rd l (i : Int) = l[i]? := by
  unfold rd
  rw [if_pos (by omega)]
  rfl
theorem rd_some' {α : Type} {l : List α} {i : Nat} {x : α} (h : l[i]? = some x) : rd l (i : Int) = some x := by rw [rd_nat, h]
theorem rd_at {α : Type} {l : List α} {z : Int} {i : Nat} {x : α} (hz : z = i) (h : l[i]? = some x) : rd l z = some x := by rw [hz, rd_nat, h]
theorem room_ok {n b : Nat} (h : n * b ≤ 140737488355328) : room n b = true := Nat.ble_eq_true_of_le h
theorem get_lt {α : Type} {l : List α} {i : Nat} {x : α} (h : l[i]? = some x) : i < l.length := (List.getElem?_eq_some_iff.1 h).1
theorem get_mem {α : Type} {l : List α} {i : Nat} {x : α} (h : l[i]? = some x) : x ∈ l := List.mem_of_getElem? h
theorem slc_ok {α : Type} {l : List α} {a b : Nat} (h1 : a ≤ b) (h2 : b ≤ l.length) : slc l (a : Int) (b : Int) = some ((l.take b).drop a) := by
  unfold slc
  rw [if_pos ⟨by omega, by omega, by omega⟩]
  simp
theorem eqB_iff {k : K} (hc : k.cmp = true) {x y : k.den} : eqB k x y = true ↔ x = y := ⟨eqB_eq hc, fun h => by rw [h]; exact eqB_refl hc⟩
theorem lit_wf {k : Int} (h : (Lit.int .i64 k).wf = true) : -9223372036854775808 ≤ k ∧ k ≤ 9223372036854775807 := by
  simp [Lit.wf, IntKind.min, IntKind.max, IntKind.signed, IntKind.bits] at h
  omega

-- bits
theorem wrap64_nat {n : Nat} (h : n < 9223372036854775808) : IntKind.wrap .i64 (n : Int) = n := w64_nat (by omega)
theorem bv_nat (a : Nat) : BitVec.ofInt 64 (a : Int) = BitVec.ofNat 64 a := BitVec.ofInt_natCast 64 a
theorem ibits_and {a b : Nat} (ha : a < 9223372036854775808) (hb : b < 9223372036854775808) : ibits .and .i64 (a : Int) (b : Int) = ((a &&& b : Nat) : Int) := by
  have h : (a &&& b) < 2 ^ 63 := by rw [Nat.and_comm]; exact Nat.and_lt_two_pow _ ha
  show IntKind.wrap .i64 (((BitVec.ofInt 64 (a : Int) &&& BitVec.ofInt 64 (b : Int)).toNat : Nat) : Int) = _
  rw [bv_nat, bv_nat, BitVec.toNat_and, BitVec.toNat_ofNat, BitVec.toNat_ofNat, Nat.mod_eq_of_lt (by omega), Nat.mod_eq_of_lt (by omega)]
  exact wrap64_nat h
theorem pow_small {j : Nat} (h : j < 63) : 2 ^ j < 9223372036854775808 := by
  have : 2 ^ j < 2 ^ 63 := Nat.pow_lt_pow_right (by decide) h
  simpa using this
theorem shlI_nat {a j : Nat} (hj : j ≤ 64) (h : a * 2 ^ j < 9223372036854775808) : shlI .i64 (a : Int) (j : Int) = ((a * 2 ^ j : Nat) : Int) := by
  unfold shlI
  simp only [IntKind.bits, Int.toNat_natCast]
  rw [Nat.min_eq_left hj, show ((a : Int) * 2 ^ j) = ((a * 2 ^ j : Nat) : Int) by simp]
  exact wrap64_nat h
theorem shlI_one {j : Nat} (h : j < 63) : shlI .i64 1 (j : Int) = ((2 ^ j : Nat) : Int) := by
  have := shlI_nat (a := 1) (j := j) (by omega) (by rw [Nat.one_mul]; exact pow_small h)
  simpa using this
theorem shrI_nat {a j : Nat} (hj : j ≤ 64) : shrI .i64 (a : Int) (j : Int) = ((a / 2 ^ j : Nat) : Int) := by
  unfold shrI
  simp only [IntKind.bits, Int.toNat_natCast]
  rw [Nat.min_eq_left hj, show ((2 : Int) ^ j) = ((2 ^ j : Nat) : Int) by simp, Int.fdiv_eq_ediv_of_nonneg _ (Int.natCast_nonneg _)]
  simp

-- maps
theorem mpos_lt {kk kv : K} {l : List (kk.den × kv.den)} {k : kk.den} (h : mpos kk kv l k < l.length) : ∃ e, l[mpos kk kv l k]? = some e ∧ eqB kk k e.1 = true := by
  have := List.findIdx_getElem (xs := l) (p := fun (e : kk.den × kv.den) => eqB kk k e.1) (w := h)
  exact ⟨_, List.getElem?_eq_getElem h, this⟩
theorem find_modify {α : Type} {p : α → Bool} {x : α} : ∀ {l : List α} {i : Nat}, (∀ y, l[i]? = some y → p y = p x) → p x = false → (l.modify i (fun _ => x)).find? p = l.find? p
  | [], i, _, _ => by simp
  | y :: l, 0, h, hx => by
    have := h y rfl
    rw [hx] at this
    simp [List.modify, List.find?, this, hx]
  | y :: l, i + 1, h, hx => by
    have ih := find_modify (l := l) (i := i) (fun z hz => h z (by simpa using hz)) hx
    simp only [List.modify_succ_cons, List.find?_cons]
    rw [ih]
theorem find_modify_at {α : Type} {p : α → Bool} {x : α} (hx : p x = true) : ∀ {l : List α}, l.findIdx p < l.length → (l.modify (l.findIdx p) (fun _ => x)).find? p = some x
  | [], h => by simp at h
  | y :: l, h => by
    rw [List.findIdx_cons] at h ⊢
    cases hy : p y with
    | true => simp [hx]
    | false =>
      rw [hy] at h
      simp only [cond_false, List.length_cons] at h ⊢
      rw [List.modify_succ_cons, List.find?_cons, hy]
      exact find_modify_at hx (by omega)
theorem mget_mput {kk kv : K} (hc : kk.cmp = true) {l : List (kk.den × kv.den)} {k k' : kk.den} {v : kv.den} : mget kk kv (mput kk kv l k v) k' = if eqB kk k' k = true then some v else mget kk kv l k' := by
  unfold mget mput
  by_cases hk : eqB kk k' k = true
  · have := eqB_eq hc hk
    subst this
    rw [if_pos hk]
    split
    · rename_i h
      rw [show mpos kk kv l k' = l.findIdx (fun e => eqB kk k' e.1) from rfl] at h ⊢
      rw [find_modify_at (by exact hk) h]
      rfl
    · rename_i h
      have hn : l.find? (fun e => eqB kk k' e.1) = none := by
        rw [List.find?_eq_none]
        intro x hx hp
        exact h (List.findIdx_lt_length_of_exists ⟨x, hx, hp⟩)
      rw [List.find?_append, hn]
      simp [hk]
  · rw [if_neg hk]
    have hk' : eqB kk k' k = false := by simpa using hk
    split
    · rename_i h
      rw [find_modify (fun y hy => ?_) (by exact hk')]
      obtain ⟨e, he, hp⟩ := mpos_lt h
      rw [he] at hy
      cases hy
      rw [← eqB_eq hc hp]
    · rw [List.find?_append]
      simp [hk']
theorem foldl_snoc {α β : Type} (g : α → β) : ∀ (l : List α) (o : List β), l.foldl (fun o x => o ++ [g x]) o = o ++ l.map g
  | [], o => by simp
  | x :: l, o => by rw [List.foldl_cons, foldl_snoc g l]; simp
end Go.Proofs.Ytjbdhaenakcclaa.Gp

/- Circuits of gates: bits that are joined; the first state. No program in sight. -/
set_option linter.unusedVariables false
noncomputable section
namespace Go.Proofs.Ytjbdhaenakcclaa.St
open Go Go.Proofs.Ytjbdhaenakcclaa.Gp

abbrev Gate := Int × Int × Int × Int × Int
abbrev Cir := Int × List Gate × List Int × List Int × List Int

/-- the lowest bit -/
def bitOf (n : Int) : Nat := (ibits .and .i64 n 1).toNat
theorem bit_and (n : Int) : ibits .and .i64 n 1 = (bitOf n : Int) ∧ bitOf n ≤ 1 := by
  have e : (BitVec.ofInt 64 n &&& BitVec.ofInt 64 1).toNat ≤ 1 := by
    rw [BitVec.toNat_and]
    exact Nat.le_trans Nat.and_le_right (by decide)
  have h : ibits .and .i64 n 1 = (((BitVec.ofInt 64 n &&& BitVec.ofInt 64 1).toNat : Nat) : Int) := wrap64_nat (n := (BitVec.ofInt 64 n &&& BitVec.ofInt 64 1).toNat) (by omega)
  unfold bitOf
  rw [h]
  simp only [Int.toNat_natCast]
  exact ⟨trivial, e⟩
theorem pow60 {i : Nat} (h : i ≤ 60) : 2 ^ i ≤ 1152921504606846976 := by
  have : 2 ^ i ≤ 2 ^ 60 := Nat.pow_le_pow_right (by decide) h
  simpa using this
theorem add_bit {m i b : Nat} (hm : m < 2 ^ i) (hb : b ≤ 1) (hi : i ≤ 60) : w64 ((m : Int) + shlI .i64 (b : Int) (i : Int)) = ((m + b * 2 ^ i : Nat) : Int) := by
  have hp := pow60 hi
  have hbp : b * 2 ^ i ≤ 2 ^ i := by
    have := Nat.mul_le_mul_right (2 ^ i) hb
    omega
  rw [shlI_nat (by omega) (by omega), show ((m : Int) + ((b * 2 ^ i : Nat) : Int)) = ((m + b * 2 ^ i : Nat) : Int) by omega]
  exact w64_nat (by omega)
/-- bits joined, the lowest first -/
def pk (l : List Nat) : Nat := l.foldr (fun b m => b + 2 * m) 0
theorem pk_snoc : ∀ (l : List Nat) (b : Nat), pk (l ++ [b]) = pk l + b * 2 ^ l.length
  | [], b => by simp [pk]
  | x :: l, b => by
    have ih := pk_snoc l b
    simp only [pk, List.cons_append, List.foldr_cons, List.length_cons] at ih ⊢
    rw [ih, Nat.pow_succ, Nat.mul_add, Nat.add_assoc]
    congr 2
    rw [Nat.mul_left_comm, Nat.mul_comm 2 (2 ^ l.length)]
theorem pk_lt : ∀ (l : List Nat), (∀ b ∈ l, b ≤ 1) → pk l < 2 ^ l.length
  | [], _ => by simp [pk]
  | x :: l, h => by
    have ih := pk_lt l (fun b hb => h b (List.mem_cons_of_mem _ hb))
    have := h x List.mem_cons_self
    simp only [pk, List.foldr_cons, List.length_cons, Nat.pow_succ] at ih ⊢
    omega

/-- the first state -/
def first (c : Cir) : Nat := pk ((c.2.2.2.2.take 10).map bitOf)
theorem bits_ok (l : List Int) : ∀ b ∈ l.map bitOf, b ≤ 1 := by
  intro b hb
  obtain ⟨x, _, rfl⟩ := List.mem_map.1 hb
  exact (bit_and x).2
theorem take_snoc {l : List Int} {i : Nat} {x : Int} (h : l[i]? = some x) : l.take (i + 1) = l.take i ++ [x] := by
  rw [List.take_add_one, h]; rfl
end Go.Proofs.Ytjbdhaenakcclaa.St

/- Circuits of gates: what is wrong with one. No program in sight. -/
set_option linter.unusedVariables false
noncomputable section
namespace Go.Proofs.Ytjbdhaenakcclaa.St
open Go Go.Proofs.Ytjbdhaenakcclaa.Gp

def needs (kd : Int) : Int := if kd = 3 then 1 else if kd = 4 ∨ kd = 5 ∨ kd = 6 then 2 else if kd = 7 then 3 else 0
def mostN (c : Cir) (kd : Int) : Int := if kd = 0 then 2 else if kd = 1 then c.1 else if kd = 2 then (c.2.2.2.1.length : Int) else 1
def leg (i n k x : Int) : Int := if k < n ∧ (x < 0 ∨ x ≥ i) then 9 else if k ≥ n ∧ x ≠ 0 then 3 else 0
def legs (i : Int) (g : Gate) : Int :=
  if leg i (needs g.1) 0 g.2.1 ≠ 0 then leg i (needs g.1) 0 g.2.1 else
  if leg i (needs g.1) 1 g.2.2.1 ≠ 0 then leg i (needs g.1) 1 g.2.2.1 else leg i (needs g.1) 2 g.2.2.2.1
def oneF (c : Cir) (i : Int) (g : Gate) : Int :=
  if g.1 < 0 ∨ g.1 > 7 then 1 else if legs i g ≠ 0 then legs i g else if g.2.2.2.2 < 0 ∨ g.2.2.2.2 ≥ mostN c g.1 then 1 else 0
theorem kinds {kd : Int} (h : ¬ (kd < 0 ∨ kd > 7)) : kd = 0 ∨ kd = 1 ∨ kd = 2 ∨ kd = 3 ∨ kd = 4 ∨ kd = 5 ∨ kd = 6 ∨ kd = 7 := by omega
theorem inputs_ev (kd : Int) : Ev (fun k => inputs79 k kd) (if kd < 0 ∨ kd > 7 then -1 else needs kd, ()) := by
  unfold inputs79
  have e : cond (decide (kd < 0)) true (decide (kd ≥ 8)) = decide (kd < 0 ∨ kd > 7) := by
    by_cases h : kd < 0
    · simp [h]
    · simp only [decide_eq_false h, cond_false, false_or, h]
      exact decide_eq_decide.2 (by omega)
  rw [e]
  refine .iff (fun h => .now' (by rw [if_pos h])) (fun h => ?_)
  rw [if_neg h]
  rcases kinds h with rfl | rfl | rfl | rfl | rfl | rfl | rfl | rfl <;> exact .val rfl (.val rfl (.now _))

theorem leg_step (c : Cir) (i : Int) (g : Gate) (n j x : Int) (l : List Int) (hl : l = [g.2.1, g.2.2.1, g.2.2.2.1]) (h3 : j < 3) (hx : rd l j = some x) (h0 : 0 ≤ j) :
    Ev (fun k => one72.l0 k i g (n, ()) (c, g, (), j, l)) (if leg i n j x ≠ 0 then .inr (.inr (leg i n j x, ())) else .inl (c, g, (), j + 1, l)) := by
  simp only [one72.l0]
  refine .yes (decide_eq_true (by simpa using h3)) (.val hx (.val hx ?_))
  unfold leg
  by_cases h1 : j < n ∧ (x < 0 ∨ x ≥ i)
  · refine .yes ?_ (.now' (by rw [if_pos h1]; rfl))
    rw [decide_eq_true h1.1]
    rcases h1.2 with h2 | h2
    · rw [decide_eq_true h2]; rfl
    · by_cases h4 : x < 0 <;> simp [h2, h4]
  · refine .no ?_ ?_
    · by_cases h2 : j < n
      · have h5 : ¬ (x < 0 ∨ x ≥ i) := fun h => h1 ⟨h2, h⟩
        simp only [not_or] at h5
        rw [decide_eq_true h2, decide_eq_false h5.1, decide_eq_false h5.2]; rfl
      · rw [decide_eq_false h2]; rfl
    · rw [if_neg h1]
      by_cases h2 : j ≥ n ∧ x ≠ 0
      · refine .yes ?_ (.now' (by rw [if_pos h2]; rfl))
        rw [decide_eq_true h2.1, bne_iff_ne.2 h2.2]; rfl
      · refine .no ?_ (.now' (by rw [if_neg h2, w64_id (by omega) (by omega)]; rfl))
        by_cases h4 : j ≥ n
        · have : x = 0 := by
            by_cases h5 : x = 0
            · exact h5
            · exact absurd ⟨h4, h5⟩ h2
          rw [this]; simp
        · rw [decide_eq_false h4]; rfl
theorem legs_lp {S R : Type} {body : Nat → S → Option (S ⊕ R)} {s0 s1 s2 s3 : S} {r0 r1 r2 r3 : R} {f0 f1 f2 : Int}
    (h0 : Ev (fun k => body k s0) (if f0 ≠ 0 then .inr r0 else .inl s1)) (h1 : Ev (fun k => body k s1) (if f1 ≠ 0 then .inr r1 else .inl s2)) (h2 : Ev (fun k => body k s2) (if f2 ≠ 0 then .inr r2 else .inl s3)) (h3 : Ev (fun k => body k s3) (.inr r3)) :
    Lp body s0 (if f0 ≠ 0 then r0 else if f1 ≠ 0 then r1 else if f2 ≠ 0 then r2 else r3) := by
  by_cases g0 : f0 ≠ 0
  · rw [if_pos g0] at h0 ⊢; exact .done h0
  rw [if_neg g0] at h0 ⊢
  refine .step h0 ?_
  by_cases g1 : f1 ≠ 0
  · rw [if_pos g1] at h1 ⊢; exact .done h1
  rw [if_neg g1] at h1 ⊢
  refine .step h1 ?_
  by_cases g2 : f2 ≠ 0
  · rw [if_pos g2] at h2 ⊢; exact .done h2
  rw [if_neg g2] at h2 ⊢
  exact .step h2 (.done h3)

theorem one_ev (c : Cir) (i : Int) (g : Gate) (hg : rd c.2.1 i = some g) : Ev (fun k => one72 k c i) (oneF c i g, ()) := by
  unfold one72
  refine .val hg (.bind (inputs_ev g.1) ?_)
  unfold oneF
  by_cases h : g.1 < 0 ∨ g.1 > 7
  · rw [if_pos h, if_pos h]; exact .yes rfl (.now _)
  rw [if_neg h, if_neg h]
  have hn : ¬ needs g.1 < 0 := by unfold needs; split <;> (try split) <;> (try split) <;> omega
  refine .no (decide_eq_false hn) ?_
  have hlp := legs_lp (body := fun k => one72.l0 k i g (needs g.1, ())) (s3 := (c, g, (), 3, [g.2.1, g.2.2.1, g.2.2.2.1])) (r3 := .inl (c, g))
    (leg_step c i g (needs g.1) 0 g.2.1 _ rfl (by omega) rfl (by omega)) (leg_step c i g (needs g.1) 1 g.2.2.1 _ rfl (by omega) rfl (by omega)) (leg_step c i g (needs g.1) 2 g.2.2.2.1 _ rfl (by omega) rfl (by omega))
    (by simp only [one72.l0]; exact .no rfl (.now _))
  have hr : (if leg i (needs g.1) 0 g.2.1 ≠ 0 then (.inr (leg i (needs g.1) 0 g.2.1, ()) : (Cir × Gate) ⊕ (Int × Unit)) else if leg i (needs g.1) 1 g.2.2.1 ≠ 0 then .inr (leg i (needs g.1) 1 g.2.2.1, ()) else if leg i (needs g.1) 2 g.2.2.2.1 ≠ 0 then .inr (leg i (needs g.1) 2 g.2.2.2.1, ()) else .inl (c, g)) =
      if legs i g ≠ 0 then .inr (legs i g, ()) else .inl (c, g) := by
    unfold legs
    by_cases g0 : leg i (needs g.1) 0 g.2.1 ≠ 0
    · rw [if_pos g0, if_pos g0, if_pos g0]
    · rw [if_neg g0, if_neg g0]
      by_cases g1 : leg i (needs g.1) 1 g.2.2.1 ≠ 0
      · rw [if_pos g1, if_pos g1, if_pos g1]
      · rw [if_neg g1, if_neg g1]
  rw [hr] at hlp
  by_cases hl : legs i g ≠ 0
  · rw [if_pos hl] at hlp ⊢
    exact .joinR hlp.ev
  · rw [if_neg hl] at hlp ⊢
    refine .joinL (S := Unit) hlp.ev ?_
    have hm : rd ([2, c.1, (List.length c.2.2.2.1 : Int), 1, 1, 1, 1, 1] : List Int) g.1 = some (mostN c g.1) := by
      generalize g.1 = kd at h
      rcases kinds h with rfl | rfl | rfl | rfl | rfl | rfl | rfl | rfl <;> rfl
    refine .val hm (.val hm ?_)
    by_cases h2 : g.2.2.2.2 < 0 ∨ g.2.2.2.2 ≥ mostN c g.1
    · refine .yes ?_ (.now' (by rw [if_pos h2]))
      rcases h2 with h2 | h2
      · simp [h2]
      · by_cases h4 : g.2.2.2.2 < 0 <;> simp [h2, h4]
    · refine .no ?_ (.now' (by rw [if_neg h2]))
      simp only [not_or] at h2
      rw [decide_eq_false h2.1, decide_eq_false h2.2]; rfl
end Go.Proofs.Ytjbdhaenakcclaa.St

/- Circuits of gates: what is wrong with one, said twice. No program in sight. -/
set_option linter.unusedVariables false
noncomputable section
namespace Go.Proofs.Ytjbdhaenakcclaa.St
open Go Go.Proofs.Ytjbdhaenakcclaa.Gp

def nds : List (Int × Int) := mput (.int .i64) (.int .i64) (mput (.int .i64) (.int .i64) (mput (.int .i64) (.int .i64) (mput (.int .i64) (.int .i64) (mput (.int .i64) (.int .i64) ([] : (List (Int × Int))) (3 : Int) (1 : Int)) (4 : Int) (2 : Int)) (5 : Int) (2 : Int)) (6 : Int) (2 : Int)) (7 : Int) (3 : Int)
theorem nds_get {kd : Int} (h : ¬ (kd < 0 ∨ kd > 7)) : Option.getD (α := Int) (mget (.int .i64) (.int .i64) nds kd) (0 : Int) = needs kd := by
  rcases kinds h with rfl | rfl | rfl | rfl | rfl | rfl | rfl | rfl <;> rfl
theorem most_get (c : Cir) {kd : Int} (h : ¬ (kd < 0 ∨ kd > 7)) : Option.getD (α := Int) (mget (.int .i64) (.int .i64) (mput (.int .i64) (.int .i64) (mput (.int .i64) (.int .i64) (mput (.int .i64) (.int .i64) ([] : (List (Int × Int))) (0 : Int) (1 : Int)) (1 : Int) (w64 (c.1 - 1))) (2 : Int) (w64 ((List.length c.2.2.2.1 : Int) - 1))) kd) (0 : Int) =
    if kd = 0 then 1 else if kd = 1 then w64 (c.1 - 1) else if kd = 2 then w64 ((List.length c.2.2.2.1 : Int) - 1) else 0 := by
  rcases kinds h with rfl | rfl | rfl | rfl | rfl | rfl | rfl | rfl <;> rfl

theorem leg_step2 (c : Cir) (i : Int) (g : Gate) (hi0 : 0 ≤ i) (hi1 : i ≤ 1000) (t62 : Option Int) (n j x : Int) (ht : Option.getD (α := Int) t62 (0 : Int) = n) (h3 : j < 3) (hx : rd ([g.2.1, g.2.2.1, g.2.2.2.1] : List Int) j = some x) (h0 : 0 ≤ j) :
    Ev (fun k => CircuitFault14.l0 k i g t62 (c, g, j)) (if leg i n j x ≠ 0 then .inr (.inr (.inr (.inr (leg i n j x, ())))) else .inl (c, g, j + 1)) := by
  simp only [CircuitFault14.l0, ht]
  refine .yes (decide_eq_true h3) (.val hx ?_)
  rw [w64_id (x := i - 1) (by omega) (by omega)]
  unfold leg
  by_cases h2 : j ≥ n ∧ x ≠ 0
  · have h1 : ¬ (j < n ∧ (x < 0 ∨ x ≥ i)) := fun h => by omega
    refine .yes ?_ (.now' (by rw [if_neg h1, if_pos h2]; rfl))
    rw [decide_eq_true h2.1, bne_iff_ne.2 h2.2]; rfl
  · refine .no ?_ ?_
    · by_cases h4 : j ≥ n
      · have : x = 0 := by
          by_cases h5 : x = 0
          · exact h5
          · exact absurd ⟨h4, h5⟩ h2
        rw [this]; simp
      · rw [decide_eq_false h4]; rfl
    · by_cases h1 : j < n ∧ (x < 0 ∨ x ≥ i)
      · refine .yes ?_ (.now' (by rw [if_pos h1]; rfl))
        rw [decide_eq_true h1.1]
        rcases h1.2 with h5 | h5
        · rw [decide_eq_true h5]; rfl
        · rw [decide_eq_true (show x > i - 1 by omega)]
          by_cases h4 : x < 0 <;> simp [h4]
      · refine .no ?_ (.now' (by rw [if_neg h1, if_neg h2, w64_id (by omega) (by omega)]; rfl))
        by_cases h5 : j < n
        · have h6 : ¬ (x < 0 ∨ x ≥ i) := fun h => h1 ⟨h5, h⟩
          simp only [not_or] at h6
          rw [decide_eq_true h5, decide_eq_false h6.1, decide_eq_false (by omega)]; rfl
        · rw [decide_eq_false h5]; rfl

/-- all gates -/
def gW (c : Cir) (b : Nat) (g : Gate) : Nat ⊕ (Cir ⊕ (Int × Unit)) := if oneF c b g = 0 then .inl (b + 1) else .inr (.inr (oneF c b g, ()))
def gatesW (c : Cir) : Cir ⊕ (Int × Unit) := walk (gW c) (fun _ => .inl c) c.2.1 0
theorem check_gates (c : Cir) (hl : c.2.1.length ≤ 400) : Lp (fun k => Check18.l0 k c) (c, 0) (gatesW c) := by
  refine Lp.walk (body := fun k => Check18.l0 k c) c.2.1 (fun (_ : Nat) i => (c, i)) (gW c) (fun _ => .inl c) (fun i b => b = i) (fun i g b hx hb => ⟨?_, fun b' h => ?_⟩) (fun b _ => ?_) (b := 0) rfl
  · have hi := get_lt hx
    subst hb
    simp only [Check18.l0]
    refine .yes (decide_eq_true (by omega)) (.bind (one_ev c b g (rd_some' hx)) ?_)
    unfold gW
    by_cases h : oneF c b g = 0
    · rw [if_pos h]
      refine .no (by rw [h]; rfl) (.now' ?_)
      rw [w64_id (by omega) (by omega)]
    · rw [if_neg h]
      exact .yes (bne_iff_ne.2 h) (.now _)
  · subst hb
    unfold gW at h
    split at h <;> cases h
    rfl
  · simp only [Check18.l0]
    exact .no (by simp) (.now _)
theorem fault_gates (c : Cir) (hl : c.2.1.length ≤ 400) (h0 : 0 ≤ c.1) (h1 : c.1 ≤ 10) (h2 : c.2.2.2.1.length ≤ 10) : Lp (fun k => CircuitFault14.l1 k c) (c, 0) (gatesW c) := by
  refine Lp.walk (body := fun k => CircuitFault14.l1 k c) c.2.1 (fun (_ : Nat) i => (c, i)) (gW c) (fun _ => .inl c) (fun i b => b = i) (fun i g b hx hb => ⟨?_, fun b' h => ?_⟩) (fun b _ => ?_) (b := 0) rfl
  · have hi := get_lt hx
    subst hb
    simp only [CircuitFault14.l1]
    refine .yes (decide_eq_true (by omega)) (.val (rd_some' hx) ?_)
    have e : cond (decide (g.1 < 0)) true (decide (g.1 > 7)) = decide (g.1 < 0 ∨ g.1 > 7) := by by_cases h : g.1 < 0 <;> simp [h]
    rw [e]
    unfold gW oneF
    refine .iff (fun h => .now' ?_) (fun h => ?_)
    · rw [if_pos h, if_neg (show ¬ (1 : Int) = 0 by omega)]
    rw [if_neg h]
    have hn : Option.getD (α := Int) (mget (.int .i64) (.int .i64) nds g.1) (0 : Int) = needs g.1 := nds_get h
    have hlp := legs_lp (body := fun k => CircuitFault14.l0 k b g (mget (.int .i64) (.int .i64) nds g.1)) (s3 := (c, g, 3)) (r3 := .inl (c, g))
      (leg_step2 c b g (by omega) (by omega) _ (needs g.1) 0 g.2.1 hn (by omega) rfl (by omega)) (leg_step2 c b g (by omega) (by omega) _ (needs g.1) 1 g.2.2.1 hn (by omega) rfl (by omega)) (leg_step2 c b g (by omega) (by omega) _ (needs g.1) 2 g.2.2.2.1 hn (by omega) rfl (by omega))
      (by simp only [CircuitFault14.l0]; exact .no rfl (.now _))
    have hr : (if leg b (needs g.1) 0 g.2.1 ≠ 0 then (.inr (.inr (.inr (leg b (needs g.1) 0 g.2.1, ()))) : (Cir × Gate) ⊕ ((Cir × Int) ⊕ (Cir ⊕ (Int × Unit)))) else if leg b (needs g.1) 1 g.2.2.1 ≠ 0 then .inr (.inr (.inr (leg b (needs g.1) 1 g.2.2.1, ()))) else if leg b (needs g.1) 2 g.2.2.2.1 ≠ 0 then .inr (.inr (.inr (leg b (needs g.1) 2 g.2.2.2.1, ()))) else .inl (c, g)) =
        if legs b g ≠ 0 then .inr (.inr (.inr (legs b g, ()))) else .inl (c, g) := by
      unfold legs
      by_cases g0 : leg b (needs g.1) 0 g.2.1 ≠ 0
      · rw [if_pos g0, if_pos g0, if_pos g0]
      · rw [if_neg g0, if_neg g0]
        by_cases g1 : leg b (needs g.1) 1 g.2.2.1 ≠ 0
        · rw [if_pos g1, if_pos g1, if_pos g1]
        · rw [if_neg g1, if_neg g1]
    rw [hr] at hlp
    by_cases hl : legs b g ≠ 0
    · rw [if_pos hl] at hlp ⊢
      refine .joinR (hlp.ev.to ?_)
      rw [if_neg hl]
    · rw [if_neg hl] at hlp ⊢
      refine .joinL (S := Unit) hlp.ev ?_
      dsimp only
      rw [most_get c h]
      have hm : (g.2.2.2.2 > if g.1 = 0 then 1 else if g.1 = 1 then w64 (c.1 - 1) else if g.1 = 2 then w64 ((List.length c.2.2.2.1 : Int) - 1) else 0) ↔ g.2.2.2.2 ≥ mostN c g.1 := by
        rw [w64_id (x := c.1 - 1) (by omega) (by omega), w64_id (x := (List.length c.2.2.2.1 : Int) - 1) (by omega) (by omega)]
        unfold mostN
        split <;> (try split) <;> (try split) <;> omega
      by_cases h5 : g.2.2.2.2 < 0 ∨ g.2.2.2.2 ≥ mostN c g.1
      · rw [if_pos h5, if_neg (show ¬ (1 : Int) = 0 by omega)]
        refine .yes ?_ (.now _)
        rcases h5 with h5 | h5
        · rw [decide_eq_true h5]; rfl
        · rw [decide_eq_true (hm.2 h5)]
          by_cases h4 : g.2.2.2.2 < 0 <;> simp [h4]
      · rw [if_neg h5, if_pos (rfl : (0 : Int) = 0)]
        simp only [not_or] at h5
        refine .no ?_ (.now' ?_)
        · rw [decide_eq_false h5.1, decide_eq_false (fun h => h5.2 (hm.1 h))]; rfl
        · rw [w64_id (by omega) (by omega)]
  · subst hb
    unfold gW at h
    split at h <;> cases h
    rfl
  · simp only [CircuitFault14.l1]
    exact .no (by simp) (.now _)
end Go.Proofs.Ytjbdhaenakcclaa.St

/- Circuits of gates: the checks are one. No program in sight. -/

set_option linter.unusedVariables false
noncomputable section
namespace Go.Proofs.Ytjbdhaenakcclaa.St
open Go Go.Proofs.Ytjbdhaenakcclaa.Gp

theorem walk_bad {α R : Type} (bad : α → Bool) (e fin : R) : ∀ (l : List α), walk (fun (_ : Unit) x => if bad x then (.inr e : Unit ⊕ R) else .inl ()) (fun _ => fin) l () = if l.any bad then e else fin
  | [] => rfl
  | x :: l => by
    rw [walk_cons, List.any_cons]
    cases h : bad x with
    | true => simp
    | false => simpa using walk_bad bad e fin l
def badX (c : Cir) (x : Int) : Bool := decide (x < 0 ∨ x ≥ (c.2.1.length : Int))
theorem badX_or (c : Cir) (x : Int) : cond (decide (x < 0)) true (decide (x ≥ (c.2.1.length : Int))) = badX c x := by
  unfold badX
  by_cases h : x < 0 <;> simp [h]
theorem check_range (c : Cir) (l : List Int) (hl : l.length ≤ 1000) : Lp (fun k => Check18.l1 k (l, ())) (c, 0) (if l.any (badX c) then .inr (4, ()) else .inl c) := by
  rw [← walk_bad (R := Cir ⊕ (Int × Unit))]
  refine Lp.walk (body := fun k => Check18.l1 k (l, ())) l (fun (_ : Unit) i => (c, i)) _ _ (fun _ _ => True) (fun i x b hx _ => ⟨?_, fun _ _ => trivial⟩) (fun b _ => ?_) (b := ()) trivial
  · have hi := get_lt hx
    simp only [Check18.l1]
    refine .yes (decide_eq_true (by omega)) (.val (rd_some' hx) (.cnd (fun h => .now' ?_) (fun h => .now' ?_)))
    · rw [badX_or] at h; rw [if_pos h]
    · rw [badX_or] at h; rw [h, w64_id (by omega) (by omega)]; rfl
  · simp only [Check18.l1]
    exact .no (by simp) (.now _)
theorem fault_range1 (c : Cir) (l : List Int) (o : List (List Int)) (hl : l.length ≤ 1000) : Lp (fun k => CircuitFault14.l2 k l) (c, (), 0, o) (if l.any (badX c) then .inr (.inr (.inr (4, ()))) else .inl (c, (), o)) := by
  rw [← walk_bad (R := (Cir × (Unit × (List (List Int)))) ⊕ ((Cir × (Unit × (Int × (List (List Int))))) ⊕ (Cir ⊕ (Int × Unit))))]
  refine Lp.walk (body := fun k => CircuitFault14.l2 k l) l (fun (_ : Unit) i => (c, (), i, o)) _ _ (fun _ _ => True) (fun i x b hx _ => ⟨?_, fun _ _ => trivial⟩) (fun b _ => ?_) (b := ()) trivial
  · have hi := get_lt hx
    simp only [CircuitFault14.l2]
    refine .yes (decide_eq_true (by omega)) (.val (rd_some' hx) (.cnd (fun h => .now' ?_) (fun h => .now' ?_)))
    · rw [badX_or] at h; rw [if_pos h]
    · rw [badX_or] at h; rw [h, w64_id (by omega) (by omega)]; rfl
  · simp only [CircuitFault14.l2]
    exact .no (by simp) (.now _)
theorem fault_range (c : Cir) (h1 : c.2.2.1.length ≤ 10) (h2 : c.2.2.2.1.length ≤ 10) : Lp (fun k => CircuitFault14.l3 k c) (c, (), 0, [c.2.2.1, c.2.2.2.1]) (if (c.2.2.1 ++ c.2.2.2.1).any (badX c) then .inr (4, ()) else .inl c) := by
  have r1 := fault_range1 c c.2.2.1 [c.2.2.1, c.2.2.2.1] (by omega)
  have r2 := fault_range1 c c.2.2.2.1 [c.2.2.1, c.2.2.2.1] (by omega)
  rw [List.any_append]
  cases e1 : c.2.2.1.any (badX c) with
  | true =>
    rw [e1] at r1
    refine .done ?_
    simp only [CircuitFault14.l3]
    exact .yes rfl (.val rfl (.val rfl (.joinR r1.ev)))
  | false =>
    rw [e1] at r1
    refine .step (s' := (c, (), 1, [c.2.2.1, c.2.2.2.1])) ?_ ?_
    · simp only [CircuitFault14.l3]
      exact .yes rfl (.val rfl (.val rfl (.joinL (S := Unit) r1.ev (.now' (by rw [w64_id (by omega) (by omega)]; rfl)))))
    · cases e2 : c.2.2.2.1.any (badX c) with
      | true =>
        rw [e2] at r2
        refine .done ?_
        simp only [CircuitFault14.l3]
        exact .yes rfl (.val rfl (.val rfl (.joinR r2.ev)))
      | false =>
        rw [e2] at r2
        refine .step (s' := (c, (), 2, [c.2.2.1, c.2.2.2.1])) ?_ (.done ?_)
        · simp only [CircuitFault14.l3]
          exact .yes rfl (.val rfl (.val rfl (.joinL (S := Unit) r2.ev (.now' (by rw [w64_id (by omega) (by omega)]; rfl)))))
        · simp only [CircuitFault14.l3]
          exact .no rfl (.now _)

def bad1 (x : Int) : Bool := decide (x ≠ 0 ∧ x ≠ 1)
theorem check_init (c : Cir) (hl : c.2.2.2.2.length ≤ 1000) : Lp (fun k => Check18.l2 k c) 0 (if c.2.2.2.2.any bad1 then .inr (1, ()) else .inl ()) := by
  rw [← walk_bad (R := Unit ⊕ (Int × Unit))]
  refine Lp.walk (body := fun k => Check18.l2 k c) c.2.2.2.2 (fun (_ : Unit) i => i) _ _ (fun _ _ => True) (fun i x b hx _ => ⟨?_, fun _ _ => trivial⟩) (fun b _ => ?_) (b := ()) trivial
  · have hi := get_lt hx
    simp only [Check18.l2]
    have e : cond (x != 0) (x != 1) false = bad1 x := by
      unfold bad1
      by_cases h0 : x = 0 <;> by_cases h1 : x = 1 <;> simp [h0, h1]
    refine .yes (decide_eq_true (by omega)) (.val (rd_some' hx) (.cnd (fun h => .now' ?_) (fun h => .now' ?_)))
    · rw [e] at h; rw [if_pos h]
    · rw [e] at h; rw [h, w64_id (by omega) (by omega)]; rfl
  · simp only [Check18.l2]
    exact .no (by simp) (.now _)
theorem wrap_zero {m : Nat} (h : m < 18446744073709551616) (h0 : IntKind.wrap .i64 (m : Int) = 0) : m = 0 := by
  have e : (2 : Int) ^ (64 - 1) = 9223372036854775808 := by decide
  have e2 : (2 : Int) ^ 64 = 18446744073709551616 := by decide
  simp only [IntKind.wrap, IntKind.signed, IntKind.bits, Bool.true_and, decide_eq_true_eq, e, e2] at h0
  split at h0 <;> omega
theorem andNot_bad {x : Int} (h0 : -9223372036854775808 ≤ x) (h1 : x ≤ 9223372036854775807) : (ibits .andNot .i64 x 1 != 0) = bad1 x := by
  have e : ibits .andNot .i64 x 1 = IntKind.wrap .i64 (((BitVec.ofInt 64 x &&& ~~~ BitVec.ofInt 64 1).toNat : Nat) : Int) := rfl
  unfold bad1
  by_cases hx : x = 0
  · subst hx; rfl
  by_cases hx1 : x = 1
  · subst hx1; rfl
  rw [show decide (x ≠ 0 ∧ x ≠ 1) = true from decide_eq_true ⟨hx, hx1⟩, bne_iff_ne]
  intro hz
  rw [e] at hz
  have hn := wrap_zero (BitVec.isLt _) hz
  have h3 : BitVec.ofInt 64 x = BitVec.ofInt 64 x &&& BitVec.ofInt 64 1 := by
    have hz : BitVec.ofInt 64 x &&& ~~~ BitVec.ofInt 64 1 = 0#64 := BitVec.eq_of_toNat_eq hn
    apply BitVec.eq_of_getLsbD_eq
    intro i hi
    have := congrArg (fun v => BitVec.getLsbD v i) hz
    simp only [BitVec.getLsbD_and, BitVec.getLsbD_not, BitVec.getLsbD_zero, hi, decide_true, Bool.true_and] at this
    rw [BitVec.getLsbD_and]
    cases h4 : (BitVec.ofInt 64 x).getLsbD i <;> cases h5 : (BitVec.ofInt 64 1).getLsbD i <;> simp_all
  have h4 : (BitVec.ofInt 64 x).toNat ≤ 1 := by
    rw [h3, BitVec.toNat_and]
    exact Nat.le_trans Nat.and_le_right (by decide)
  rw [BitVec.toNat_ofInt] at h4
  have e2 : ((2 ^ 64 : Nat) : Int) = 18446744073709551616 := by decide
  rw [e2] at h4
  omega
theorem fault_init (c : Cir) (hl : c.2.2.2.2.length ≤ 1000) (hw : ∀ x ∈ c.2.2.2.2, -9223372036854775808 ≤ x ∧ x ≤ 9223372036854775807) : Lp (fun k => CircuitFault14.l4 k c) 0 (if c.2.2.2.2.any bad1 then .inr (1, ()) else .inl ()) := by
  rw [← walk_bad (R := Unit ⊕ (Int × Unit))]
  refine Lp.walk (body := fun k => CircuitFault14.l4 k c) c.2.2.2.2 (fun (_ : Unit) i => i) _ _ (fun _ _ => True) (fun i x b hx _ => ⟨?_, fun _ _ => trivial⟩) (fun b _ => ?_) (b := ()) trivial
  · have hi := get_lt hx
    simp only [CircuitFault14.l4]
    have e := andNot_bad (hw x (get_mem hx)).1 (hw x (get_mem hx)).2
    refine .yes (decide_eq_true (by omega)) (.val (rd_some' hx) (.cnd (fun h => .now' ?_) (fun h => .now' ?_)))
    · rw [e] at h; rw [if_pos h]
    · rw [e] at h; rw [h, w64_id (by omega) (by omega)]; rfl
  · simp only [CircuitFault14.l4]
    exact .no (by simp) (.now _)

def large (c : Cir) : Bool := decide (c.1 < 0 ∨ c.1 > 10 ∨ c.2.1.length > 400 ∨ c.2.2.1.length > 10 ∨ c.2.2.2.1.length > 10)
theorem large_or (c : Cir) : cond (cond (cond (cond (decide (c.1 < 0)) true (decide (c.1 > 10))) true (decide ((List.length c.2.1 : Int) > 400))) true (decide ((List.length c.2.2.1 : Int) > 10))) true (decide ((List.length c.2.2.2.1 : Int) > 10)) = large c := by
  have e : ∀ a b : Bool, cond a true b = (a || b) := fun a b => by cases a <;> rfl
  simp only [e, large, ← Bool.decide_or]
  exact decide_eq_decide.2 (by omega)
def rest (c : Cir) : Int := if (c.2.2.1 ++ c.2.2.2.1).any (badX c) then 4 else if c.2.2.2.2.any bad1 then 1 else 0
def fault (c : Cir) : Int := if large c then 2 else if c.2.2.2.2.length ≠ c.2.2.2.1.length then 3 else match gatesW c with | .inr e => e.1 | .inl _ => rest c
theorem gatesW_inl (c : Cir) {a : Cir} (h : gatesW c = .inl a) : a = c := by
  have : ∀ (l : List Gate) (b : Nat), walk (gW c) (fun _ => (.inl c : Cir ⊕ (Int × Unit))) l b = .inl a → a = c := by
    intro l
    induction l with
    | nil => intro b h; exact (Sum.inl.inj h).symm
    | cons x l ih =>
      intro b h
      rw [walk_cons] at h
      unfold gW at h
      split at h
      · rename_i b' hb
        exact ih _ h
      · rename_i r hr
        split at hr
        · cases hr
        · cases hr; cases h
  exact this _ _ h
theorem ne_len (c : Cir) : ((List.length c.2.2.2.2 : Int) != (List.length c.2.2.2.1 : Int)) = decide (c.2.2.2.2.length ≠ c.2.2.2.1.length) := by
  rw [Bool.eq_iff_iff, bne_iff_ne, decide_eq_true_iff]; omega
end Go.Proofs.Ytjbdhaenakcclaa.St

/- Circuits of gates: the checks are one. No program in sight. -/
set_option linter.unusedVariables false
noncomputable section
namespace Go.Proofs.Ytjbdhaenakcclaa.St
open Go Go.Proofs.Ytjbdhaenakcclaa.Gp

theorem room_small {n : Nat} (h : n ≤ 1000) : room n 8 = true := room_ok (by omega)
theorem concat_ev (a b : List Int) (h : a.length + b.length ≤ 1000) : Ev (fun k => Concat59 k [a, b]) (a ++ b, ()) := by
  unfold Concat59
  refine .bind (a := (((a.length + b.length : Nat) : Int))) (Lp.ev ?_) (.bind (a := ((), [])) ?_ (.bind (a := ((), a ++ b)) (Lp.ev ?_) (.now _)))
  · refine Lp.step (s' := ((a.length : Int), 1)) ?_ (Lp.step (s' := (((a.length + b.length : Nat) : Int), 2)) ?_ (Lp.done ?_))
    · simp only [Concat59.l0]
      refine .yes (by simp) (.val (a := a) rfl ?_)
      simp only [w64_id (x := 0 + (a.length : Int)) (by omega) (by omega)]
      refine .val (a := ()) ?_ (.now' ?_)
      · rw [decide_eq_false (by omega)]; rfl
      · simp [w64_id]
    · simp only [Concat59.l0]
      refine .yes (by simp) (.val (a := b) rfl ?_)
      simp only [w64_id (x := (a.length : Int) + (b.length : Int)) (by omega) (by omega)]
      refine .val (a := ()) ?_ (.now' ?_)
      · rw [decide_eq_false (by omega)]; rfl
      · simp [w64_id]
    · simp only [Concat59.l0]
      exact .no (by simp) (.now _)
  · generalize hn : a.length + b.length = n
    have hn' : n ≤ 1000 := hn ▸ h
    unfold Grow112
    have e : w64 ((n : Int) - w64 (0 - 0)) = n := by
      rw [show w64 (0 - 0) = 0 from w64_id (by omega) (by omega), w64_id (by omega) (by omega)]; omega
    refine .val (a := ()) ?_ ?_
    · rw [decide_eq_false (by omega)]; rfl
    · simp only [e]
      refine .bind (a := ((), [])) ?_ (.now _)
      refine .iff (fun h1 => ?_) (fun _ => .now _)
      refine .val (a := ()) (by simp) (.val (a := ()) (by rw [if_pos ⟨h1, by omega⟩]) (.val (a := []) ?_ (.now _)))
      rw [show ((0 : Int)) = ((0 : Nat) : Int) from rfl, slc_ok (Nat.le_refl _) (Nat.zero_le _)]
      rfl
  · refine Lp.step (s' := ((), 1, a)) ?_ (Lp.step (s' := ((), 2, a ++ b)) ?_ (Lp.done ?_))
    · simp only [Concat59.l1]
      refine .yes (by simp) (.val (a := a) rfl (.val (a := ()) ?_ (.now' ?_)))
      · simp [room_small (n := a.length) (by omega)]
      · simp [w64_id]
    · simp only [Concat59.l1]
      refine .yes (by simp) (.val (a := b) rfl (.val (a := ()) ?_ (.now' ?_)))
      · simp [room_small (n := a.length + b.length) (by omega)]
      · simp [w64_id]
    · simp only [Concat59.l1]
      exact .no (by simp) (.now _)


theorem small_of {c : Cir} (h : large c = false) : 0 ≤ c.1 ∧ c.1 ≤ 10 ∧ c.2.1.length ≤ 400 ∧ c.2.2.1.length ≤ 10 ∧ c.2.2.2.1.length ≤ 10 := by
  unfold large at h
  have := of_decide_eq_false h
  omega
theorem check_ev (c : Cir) : Ev (fun k => Check18 k c) (fault c, ()) := by
  unfold Check18
  refine .cnd (fun h => ?_) (fun h => ?_)
  · rw [large_or] at h
    exact .now' (by unfold fault; rw [if_pos h])
  rw [large_or] at h
  obtain ⟨s0, s1, s2, s3, s4⟩ := small_of h
  refine .cnd (fun h2 => ?_) (fun h2 => ?_)
  · rw [ne_len] at h2
    exact .now' (by unfold fault; rw [h, if_neg (by simp), if_pos (of_decide_eq_true h2)])
  rw [ne_len] at h2
  have h2 := of_decide_eq_false h2
  have hf : fault c = match gatesW c with | .inr e => e.1 | .inl _ => rest c := by
    unfold fault; rw [h, if_neg (by simp), if_neg h2] <;> (cases gatesW c <;> rfl)
  have hi : c.2.2.2.2.length ≤ 10 := by
    by_cases h3 : c.2.2.2.2.length = c.2.2.2.1.length
    · omega
    · exact absurd h3 h2
  refine .join (check_gates c s2).ev (fun a ha => ?_) (fun r hr => ?_)
  · obtain rfl := gatesW_inl c ha
    rw [ha] at hf
    rw [hf]
    refine .bind (concat_ev a.2.2.1 a.2.2.2.1 (by omega)) ?_
    have h1 := check_range a (a.2.2.1 ++ a.2.2.2.1) (by rw [List.length_append]; omega)
    have h3 := check_init a (by omega)
    unfold rest
    cases e1 : (a.2.2.1 ++ a.2.2.2.1).any (badX a) with
    | true => rw [e1] at h1; exact .joinR h1.ev
    | false =>
      rw [e1] at h1
      refine .joinL (S := Unit) h1.ev ?_
      cases e2 : a.2.2.2.2.any bad1 with
      | true => rw [e2] at h3; exact .joinR h3.ev
      | false => rw [e2] at h3; exact .joinL (S := Unit) (a := ()) h3.ev (.now _)
  · rw [hf, hr]
theorem cfault_ev (c : Cir) (hw : ∀ x ∈ c.2.2.2.2, -9223372036854775808 ≤ x ∧ x ≤ 9223372036854775807) : Ev (fun k => CircuitFault14 k c) (fault c, ()) := by
  unfold CircuitFault14
  refine .cnd (fun h => ?_) (fun h => ?_)
  · rw [large_or] at h
    exact .now' (by unfold fault; rw [if_pos h])
  rw [large_or] at h
  obtain ⟨s0, s1, s2, s3, s4⟩ := small_of h
  refine .cnd (fun h2 => ?_) (fun h2 => ?_)
  · rw [ne_len] at h2
    exact .now' (by unfold fault; rw [h, if_neg (by simp), if_pos (of_decide_eq_true h2)])
  rw [ne_len] at h2
  have h2 := of_decide_eq_false h2
  have hf : fault c = match gatesW c with | .inr e => e.1 | .inl _ => rest c := by
    unfold fault; rw [h, if_neg (by simp), if_neg h2] <;> (cases gatesW c <;> rfl)
  have hi : c.2.2.2.2.length ≤ 10 := by
    by_cases h3 : c.2.2.2.2.length = c.2.2.2.1.length
    · omega
    · exact absurd h3 h2
  refine .join (fault_gates c s2 s0 s1 s4).ev (fun a ha => ?_) (fun r hr => ?_)
  · obtain rfl := gatesW_inl c ha
    rw [ha] at hf
    rw [hf]
    have h1 := fault_range a s3 s4
    have h3 := fault_init a (by omega) hw
    unfold rest
    cases e1 : (a.2.2.1 ++ a.2.2.2.1).any (badX a) with
    | true => rw [e1] at h1; exact .joinR h1.ev
    | false =>
      rw [e1] at h1
      refine .joinL (S := Unit) h1.ev ?_
      cases e2 : a.2.2.2.2.any bad1 with
      | true => rw [e2] at h3; exact .joinR h3.ev
      | false => rw [e2] at h3; exact .joinL (S := Unit) (a := ()) h3.ev (.now _)
  · rw [hf, hr]

/-- a right circuit -/
structure Right (c : Cir) : Prop where
  ins : 0 ≤ c.1 ∧ c.1 ≤ 10
  gates : c.2.1.length ≤ 400
  outs : c.2.2.1.length ≤ 10 ∧ ∀ x ∈ c.2.2.1, 0 ≤ x ∧ x < (c.2.1.length : Int)
  next : c.2.2.2.1.length ≤ 10 ∧ ∀ x ∈ c.2.2.2.1, 0 ≤ x ∧ x < (c.2.1.length : Int)
  gate : ∀ (i : Nat) (g : Gate), c.2.1[i]? = some g → oneF c i g = 0
theorem right_of (c : Cir) (h : fault c = 0) : Right c := by
  unfold fault at h
  split at h
  · omega
  rename_i hl
  have hl : large c = false := by simpa using hl
  obtain ⟨s0, s1, s2, s3, s4⟩ := small_of hl
  split at h
  · omega
  have hone : ∀ (l : List Gate) (b : Nat), (∀ r, walk (gW c) (fun _ => (.inl c : Cir ⊕ (Int × Unit))) l b = .inr r → r.1 ≠ 0) ∧ ((∃ a, walk (gW c) (fun _ => (.inl c : Cir ⊕ (Int × Unit))) l b = .inl a) → ∀ (i : Nat) (g : Gate), l[i]? = some g → oneF c ((b + i : Nat) : Int) g = 0) := by
    intro l
    induction l with
    | nil => intro b; exact ⟨fun r hr => (by cases hr), fun _ i g hg => (by simp at hg)⟩
    | cons x l ih =>
      intro b
      rw [walk_cons]
      unfold gW
      by_cases h0 : oneF c b x = 0
      · rw [if_pos h0]
        refine ⟨(ih (b + 1)).1, fun ha i g hg => ?_⟩
        cases i with
        | zero =>
          have : x = g := by simpa using hg
          rw [← this]; exact h0
        | succ i =>
          have := (ih (b + 1)).2 ha i g (by simpa using hg)
          rwa [show b + 1 + i = b + (i + 1) by omega] at this
      · rw [if_neg h0]
        exact ⟨fun r hr => (by cases hr; exact h0), fun ⟨a, ha⟩ => (by cases ha)⟩
  cases hg : gatesW c with
  | inr r =>
    rw [hg] at h
    exact absurd h ((hone c.2.1 0).1 r hg)
  | inl a =>
    rw [hg] at h
    have h : rest c = 0 := h
    unfold rest at h
    split at h
    · omega
    rename_i hr
    have hr : ∀ x ∈ c.2.2.1 ++ c.2.2.2.1, 0 ≤ x ∧ x < (c.2.1.length : Int) := by
      intro x hx
      have : (c.2.2.1 ++ c.2.2.2.1).any (badX c) = false := by simpa using hr
      rw [List.any_eq_false] at this
      have := this x hx
      unfold badX at this
      simp only [decide_eq_true_eq] at this
      omega
    exact ⟨⟨s0, s1⟩, s2, ⟨s3, fun x hx => hr x (List.mem_append_left _ hx)⟩, ⟨s4, fun x hx => hr x (List.mem_append_right _ hx)⟩, fun i g hgi => by
      have := (hone c.2.1 0).2 ⟨a, hg⟩ i g hgi
      rwa [Nat.zero_add] at this⟩
end Go.Proofs.Ytjbdhaenakcclaa.St

/- Circuits of gates: the values of all gates. No program in sight. -/
set_option linter.unusedVariables false
noncomputable section
namespace Go.Proofs.Ytjbdhaenakcclaa.St
open Go Go.Proofs.Ytjbdhaenakcclaa.Gp

/-- the value of a gate behind others -/
def valG (st inn : Int) (v : List Nat) (g : Gate) : Nat :=
  if g.1 = 0 then g.2.2.2.2.toNat else
  if g.1 = 1 then bitOf (shrI .i64 inn g.2.2.2.2) else
  if g.1 = 2 then bitOf (shrI .i64 st g.2.2.2.2) else
  if g.1 = 3 then 1 - v.getD g.2.1.toNat 0 else
  if g.1 = 4 then v.getD g.2.1.toNat 0 &&& v.getD g.2.2.1.toNat 0 else
  if g.1 = 5 then v.getD g.2.1.toNat 0 ||| v.getD g.2.2.1.toNat 0 else
  if g.1 = 6 then v.getD g.2.1.toNat 0 ^^^ v.getD g.2.2.1.toNat 0 else
  if v.getD g.2.1.toNat 0 = 1 then v.getD g.2.2.1.toNat 0 else v.getD g.2.2.2.1.toNat 0
def vS (st inn : Int) (v : List Nat) (g : Gate) : List Nat := v ++ [valG st inn v g]
def vals (st inn : Int) (l : List Gate) : List Nat := l.foldl (vS st inn) []
theorem vals_snoc (st inn : Int) (l : List Gate) (g : Gate) : vals st inn (l ++ [g]) = vals st inn l ++ [valG st inn (vals st inn l) g] := by
  unfold vals; rw [List.foldl_append]; rfl
theorem vals_len (st inn : Int) (l : List Gate) : (vals st inn l).length = l.length := by
  have : ∀ (l : List Gate) (v : List Nat), (l.foldl (vS st inn) v).length = v.length + l.length := by
    intro l
    induction l with
    | nil => intro v; rfl
    | cons x l ih => intro v; rw [List.foldl_cons, ih]; simp [vS]; omega
  unfold vals; rw [this]; simp
theorem leg_ok {i n k x : Int} (h : leg i n k x = 0) (hk : k < n) : 0 ≤ x ∧ x < i := by
  unfold leg at h
  split at h
  · omega
  · rename_i h1
    by_cases h2 : x < 0 ∨ x ≥ i
    · exact absurd ⟨hk, h2⟩ h1
    · omega
/-- what a right gate's parts are -/
theorem gate_ok {c : Cir} {i : Int} {g : Gate} (h : oneF c i g = 0) : ¬ (g.1 < 0 ∨ g.1 > 7) ∧ (0 < needs g.1 → 0 ≤ g.2.1 ∧ g.2.1 < i) ∧ (1 < needs g.1 → 0 ≤ g.2.2.1 ∧ g.2.2.1 < i) ∧ (2 < needs g.1 → 0 ≤ g.2.2.2.1 ∧ g.2.2.2.1 < i) ∧ 0 ≤ g.2.2.2.2 ∧ g.2.2.2.2 < mostN c g.1 := by
  unfold oneF at h
  split at h
  · omega
  rename_i hk
  split at h
  · omega
  rename_i hl
  have hl : legs i g = 0 := by
    by_cases h0 : legs i g = 0
    · exact h0
    · exact absurd h0 hl
  split at h
  · omega
  rename_i hN
  unfold legs at hl
  split at hl
  · rename_i h0; exact absurd hl h0
  rename_i h0
  split at hl
  · rename_i h1; exact absurd hl h1
  rename_i h1
  have h0 : leg i (needs g.1) 0 g.2.1 = 0 := by
    by_cases h : leg i (needs g.1) 0 g.2.1 = 0
    · exact h
    · exact absurd h h0
  have h1 : leg i (needs g.1) 1 g.2.2.1 = 0 := by
    by_cases h : leg i (needs g.1) 1 g.2.2.1 = 0
    · exact h
    · exact absurd h h1
  exact ⟨hk, leg_ok h0, leg_ok h1, leg_ok hl, by omega, by omega⟩
theorem bits2 {a b : Nat} (ha : a ≤ 1) (hb : b ≤ 1) : (a &&& b) ≤ 1 ∧ (a ||| b) ≤ 1 ∧ (a ^^^ b) ≤ 1 := by
  have : ∀ a < 2, ∀ b < 2, (a &&& b) ≤ 1 ∧ (a ||| b) ≤ 1 ∧ (a ^^^ b) ≤ 1 := by decide
  exact this a (by omega) b (by omega)
theorem getD_le {v : List Nat} (h : ∀ b ∈ v, b ≤ 1) (j : Nat) : v.getD j 0 ≤ 1 := by
  rw [List.getD_eq_getElem?_getD]
  cases hj : v[j]? with
  | none => simp
  | some b => exact h b (get_mem hj)
theorem valG_le {c : Cir} {i : Int} {g : Gate} (hg : oneF c i g = 0) (st inn : Int) {v : List Nat} (h : ∀ b ∈ v, b ≤ 1) : valG st inn v g ≤ 1 := by
  obtain ⟨_, _, _, _, h0, h1⟩ := gate_ok hg
  have b2 := bits2 (getD_le h g.2.1.toNat) (getD_le h g.2.2.1.toNat)
  unfold valG
  split
  · rename_i hk; rw [hk] at h1; have : mostN c 0 = 2 := rfl; omega
  split
  · exact (bit_and _).2
  split
  · exact (bit_and _).2
  split
  · omega
  split
  · exact b2.1
  split
  · exact b2.2.1
  split
  · exact b2.2.2
  split
  · exact getD_le h _
  · exact getD_le h _

def ints (v : List Nat) : List Int := v.map (fun (b : Nat) => (b : Int))
theorem rd_z {l : List Int} {z : Int} {x : Int} (h0 : 0 ≤ z) (h : l[z.toNat]? = some x) : rd l z = some x := rd_at (i := z.toNat) (by omega) h
end Go.Proofs.Ytjbdhaenakcclaa.St

/- Circuits of gates: the values of all gates, forwards. No program in sight. -/
set_option linter.unusedVariables false
noncomputable section
namespace Go.Proofs.Ytjbdhaenakcclaa.St
open Go Go.Proofs.Ytjbdhaenakcclaa.Gp

theorem vals_le {c : Cir} (hR : Right c) (st inn : Int) : ∀ (i : Nat), i ≤ c.2.1.length → ∀ x ∈ vals st inn (c.2.1.take i), x ≤ 1
  | 0, _, x, hx => by simp [vals] at hx
  | i + 1, h, x, hx => by
    have ih := vals_le hR st inn i (by omega)
    have hg := List.getElem?_eq_getElem (show i < c.2.1.length by omega)
    rw [List.take_add_one, hg, Option.toList_some, vals_snoc, List.mem_append] at hx
    rcases hx with hx | hx
    · exact ih x hx
    · rw [List.mem_singleton] at hx
      rw [hx]
      exact valG_le (hR.gate i _ hg) st inn ih
end Go.Proofs.Ytjbdhaenakcclaa.St

/- Circuits of gates: the value of a gate, backwards, with what is known already. No program in sight. -/
set_option linter.unusedVariables false
noncomputable section
namespace Go.Proofs.Ytjbdhaenakcclaa.St
open Go Go.Proofs.Ytjbdhaenakcclaa.Gp

theorem Ev.succ {α : Type} {f : Nat → Option α} {v : α} (h : Ev (fun k => f (k + 1)) v) : Ev f v := by
  obtain ⟨n, h⟩ := h
  refine ⟨n + 1, fun k hk => ?_⟩
  obtain ⟨j, rfl⟩ : ∃ j, k = j + 1 := ⟨k - 1, by omega⟩
  exact h j (by omega)

/-- the value of the j-th -/
def V (c : Cir) (st inn : Int) (j : Nat) : Nat := (vals st inn c.2.1).getD j 0
theorem vals_app (st inn : Int) (l1 l2 : List Gate) : ∃ t, vals st inn (l1 ++ l2) = vals st inn l1 ++ t := by
  have : ∀ (l : List Gate) (v : List Nat), ∃ t, l.foldl (vS st inn) v = v ++ t := by
    intro l
    induction l with
    | nil => intro v; exact ⟨[], by simp⟩
    | cons x l ih =>
      intro v
      obtain ⟨t, ht⟩ := ih (vS st inn v x)
      exact ⟨[valG st inn v x] ++ t, by rw [List.foldl_cons, ht]; unfold vS; rw [List.append_assoc]⟩
  unfold vals
  rw [List.foldl_append]
  exact this l2 _
theorem V_pre (c : Cir) (st inn : Int) {i j : Nat} (hj : j < i) (hi : i ≤ c.2.1.length) : (vals st inn (c.2.1.take i)).getD j 0 = V c st inn j := by
  obtain ⟨t, ht⟩ := vals_app st inn (c.2.1.take i) (c.2.1.drop i)
  rw [List.take_append_drop] at ht
  unfold V
  rw [ht, List.getD_eq_getElem?_getD, List.getD_eq_getElem?_getD, List.getElem?_append_left (by rw [vals_len, List.length_take]; omega)]
theorem V_at (c : Cir) (st inn : Int) {i : Nat} {g : Gate} (h : c.2.1[i]? = some g) : V c st inn i = valG st inn (vals st inn (c.2.1.take i)) g := by
  have hi := get_lt h
  rw [← V_pre c st inn (Nat.lt_succ_self i) (by omega), List.take_add_one, h, Option.toList_some, vals_snoc, List.getD_eq_getElem?_getD, List.getElem?_append_right (by rw [vals_len, List.length_take]; omega)]
  have : i - (vals st inn (c.2.1.take i)).length = 0 := by rw [vals_len, List.length_take]; omega
  rw [this]; rfl
theorem V_le {c : Cir} (hR : Right c) (st inn : Int) (j : Nat) : V c st inn j ≤ 1 := by
  have := vals_le hR st inn c.2.1.length (Nat.le_refl _)
  rw [List.take_length] at this
  exact getD_le this j

theorem b_xor1 {a : Nat} (h : a ≤ 1) : ibits .xor .i64 (a : Int) 1 = ((1 - a : Nat) : Int) := by
  have : a = 0 ∨ a = 1 := by omega
  rcases this with rfl | rfl <;> rfl
theorem b_mn {a b : Nat} (h : a ≤ 1) (h2 : b ≤ 1) : mnI (a : Int) (b : Int) = ((a &&& b : Nat) : Int) := by
  have h : a = 0 ∨ a = 1 := by omega
  have h2 : b = 0 ∨ b = 1 := by omega
  rcases h with rfl | rfl <;> rcases h2 with rfl | rfl <;> rfl
theorem b_mx {a b : Nat} (h : a ≤ 1) (h2 : b ≤ 1) : mxI (a : Int) (b : Int) = ((a ||| b : Nat) : Int) := by
  have h : a = 0 ∨ a = 1 := by omega
  have h2 : b = 0 ∨ b = 1 := by omega
  rcases h with rfl | rfl <;> rcases h2 with rfl | rfl <;> rfl
theorem b_xor {a b : Nat} (h : a ≤ 1) (h2 : b ≤ 1) : Int.tmod (w64 ((a : Int) + (b : Int))) 2 = ((a ^^^ b : Nat) : Int) := by
  have h : a = 0 ∨ a = 1 := by omega
  have h2 : b = 0 ∨ b = 1 := by omega
  rcases h with rfl | rfl <;> rcases h2 with rfl | rfl <;> rfl

abbrev Map := List (Int × Int)
def RightM (c : Cir) (st inn : Int) (m : Map) : Prop := ∀ (k x : Int), mget (.int .i64) (.int .i64) m k = some x → ∃ j : Nat, k = j ∧ j < c.2.1.length ∧ x = ((V c st inn j : Nat) : Int)
theorem RightM.put {c : Cir} {st inn : Int} {m : Map} (h : RightM c st inn m) {i : Nat} (hi : i < c.2.1.length) : RightM c st inn (mput (.int .i64) (.int .i64) m (i : Int) ((V c st inn i : Nat) : Int)) := by
  intro k x hx
  have hx := (mget_mput (kk := .int .i64) (kv := .int .i64) rfl).symm.trans hx
  by_cases he : eqB (.int .i64) k (i : Int) = true
  · have : k = (i : Int) := (eqB_iff (k := .int .i64) rfl).1 he
    have hx := (if_pos he).symm.trans hx
    exact ⟨i, this, hi, (Option.some.inj hx).symm⟩
  · exact h k x ((if_neg he).symm.trans hx)
theorem RightM.nil (c : Cir) (st inn : Int) : RightM c st inn [] := fun k x h => by cases h

theorem value_ev {c : Cir} (hR : Right c) (st inn : Int) : ∀ (n i : Nat), i < n → i < c.2.1.length → ∀ m, RightM c st inn m → ∃ m', RightM c st inn m' ∧ Ev (fun k => Value19 k c st inn (i : Int) () m) (((V c st inn i : Nat) : Int), m') := by
  intro n
  induction n with
  | zero => intro i h; omega
  | succ n ih =>
    intro i hin hi m hm
    obtain ⟨g, hx⟩ : ∃ g, c.2.1[i]? = some g := ⟨_, List.getElem?_eq_getElem hi⟩
    have call : ∀ (z : Int), 0 ≤ z → z < (i : Int) → ∀ m, RightM c st inn m → ∃ m', RightM c st inn m' ∧ Ev (fun k => (GrpValue19 k).1 z c st inn () () m) (((V c st inn z.toNat : Nat) : Int), (), m') := by
      intro z h0 h1 m hm
      obtain ⟨m', r, e⟩ := ih z.toNat (by omega) (by omega) m hm
      refine ⟨m', r, Ev.succ ?_⟩
      rw [show ((z.toNat : Nat) : Int) = z by omega] at e
      exact .bind e (.now _)
    cases hk : mget (.int .i64) (.int .i64) m (i : Int) with
    | some x =>
      obtain ⟨j, e, _, rfl⟩ := hm _ _ hk
      have : j = i := by omega
      subst this
      refine ⟨m, hm, Ev.succ ?_⟩
      show Ev (fun k => Value19.b (GrpValue19 k) k c st inn (j : Int) () m) _
      simp only [Value19.b, hk]
      exact .yes rfl (.now _)
    | none =>
      have hgo := hR.gate i g hx
      obtain ⟨hkd, hA, hB, hC, hN0, hN1⟩ := gate_ok hgo
      have hV := V_at c st inn hx
      have pre : ∀ z : Int, 0 ≤ z → z < (i : Int) → (vals st inn (c.2.1.take i)).getD z.toNat 0 = V c st inn z.toNat := fun z h0 h1 => V_pre c st inn (by omega) (by omega)
      have le := V_le hR st inn
      obtain ⟨kd, A, B, C, N⟩ := g
      dsimp only at hkd hA hB hC hN0 hN1
      have start : ∀ m', RightM c st inn m' → (Ev (fun k => (Value19.b (GrpValue19 k) k c st inn (i : Int) () m)) (((V c st inn i : Nat) : Int), mput (.int .i64) (.int .i64) m' (i : Int) ((V c st inn i : Nat) : Int))) →
          ∃ m', RightM c st inn m' ∧ Ev (fun k => Value19 k c st inn (i : Int) () m) (((V c st inn i : Nat) : Int), m') := fun m' h e => ⟨_, h.put hi, Ev.succ e⟩
      rcases kinds hkd with rfl | rfl | rfl | rfl | rfl | rfl | rfl | rfl
      · have hv : ((V c st inn i : Nat) : Int) = N := by rw [hV]; show ((N.toNat : Nat) : Int) = N; omega
        refine start m hm ?_
        simp only [Value19.b, hk]
        refine .no rfl (.val (rd_some' hx) (.bind (a := ((), ((V c st inn i : Nat) : Int), m, ())) ?_ (.now _)))
        exact .yes rfl (.now' (by rw [hv]))
      · have hv : ((V c st inn i : Nat) : Int) = ibits .and .i64 (shrI .i64 inn N) 1 := by rw [hV, (bit_and _).1]; rfl
        refine start m hm ?_
        simp only [Value19.b, hk]
        refine .no rfl (.val (rd_some' hx) (.bind (a := ((), ((V c st inn i : Nat) : Int), m, ())) ?_ (.now _)))
        refine .no rfl (.bind (a := (st, inn, (), ((1 : Int), A, B, C, N), (c, st, inn, (), ()), true, m, ())) (.yes rfl (.now _)) ?_)
        dsimp only
        refine .bind (a := ((), ((V c st inn i : Nat) : Int), m, ())) (.yes rfl (.val (a := shrI .i64 inn N) ?_ (.now' (by rw [hv])))) (.now _)
        exact if_neg (by omega)
      · have hv : ((V c st inn i : Nat) : Int) = ibits .and .i64 (shrI .i64 st N) 1 := by rw [hV, (bit_and _).1]; rfl
        refine start m hm ?_
        simp only [Value19.b, hk]
        refine .no rfl (.val (rd_some' hx) (.bind (a := ((), ((V c st inn i : Nat) : Int), m, ())) ?_ (.now _)))
        refine .no rfl (.bind (a := (st, inn, (), ((2 : Int), A, B, C, N), (c, st, inn, (), ()), true, m, ())) (.no rfl (.now _)) ?_)
        dsimp only
        refine .bind (a := ((), ((V c st inn i : Nat) : Int), m, ())) (.yes rfl (.val (a := shrI .i64 st N) ?_ (.now' (by rw [hv])))) (.now _)
        exact if_neg (by omega)
      · skip
        obtain ⟨m1, r1, e1⟩ := call A (hA (by decide)).1 (hA (by decide)).2 m hm
        have pA := pre A (hA (by decide)).1 (hA (by decide)).2
        have hv : ((V c st inn i : Nat) : Int) = ibits .xor .i64 ((V c st inn A.toNat : Nat) : Int) 1 := by
          rw [hV, b_xor1 (le _), ← pA]; rfl
        refine start m1 r1 ?_
        simp only [Value19.b, hk]
        refine .no rfl (.val (rd_some' hx) (.bind (a := ((), ((V c st inn i : Nat) : Int), m1, ())) ?_ (.now _)))
        refine .no rfl (.bind (a := (st, inn, (), ((3 : Int), A, B, C, N), (c, st, inn, (), ()), false, m, ())) (.no rfl (.now _)) ?_)
        dsimp only
        refine .bind (a := ((), ((V c st inn i : Nat) : Int), m1, ())) (.no rfl (.bind (a := ((), ((V c st inn i : Nat) : Int), m1, ())) (.yes rfl (.bind e1 (.now' (by rw [hv])))) (.now _))) (.now _)
      · skip
        obtain ⟨m1, r1, e1⟩ := call A (hA (by decide)).1 (hA (by decide)).2 m hm
        have pA := pre A (hA (by decide)).1 (hA (by decide)).2
        obtain ⟨m2, r2, e2⟩ := call B (hB (by decide)).1 (hB (by decide)).2 m1 r1
        have pB := pre B (hB (by decide)).1 (hB (by decide)).2
        have hv : ((V c st inn i : Nat) : Int) = mnI ((V c st inn A.toNat : Nat) : Int) ((V c st inn B.toNat : Nat) : Int) := by
          rw [hV, b_mn (le _) (le _), ← pA, ← pB]; rfl
        refine start m2 r2 ?_
        simp only [Value19.b, hk]
        refine .no rfl (.val (rd_some' hx) (.bind (a := ((), ((V c st inn i : Nat) : Int), m2, ())) ?_ (.now _)))
        refine .no rfl (.bind (a := (st, inn, (), ((4 : Int), A, B, C, N), (c, st, inn, (), ()), false, m, ())) (.no rfl (.now _)) ?_)
        dsimp only
        refine .bind (a := ((), ((V c st inn i : Nat) : Int), m2, ())) (.no rfl (.bind (a := ((), ((V c st inn i : Nat) : Int), m2, ())) (.no rfl (.bind (a := ((), ((V c st inn i : Nat) : Int), m2, ())) (.yes rfl (.bind e1 (.bind e2 (.now' (by rw [hv]))))) (.now _))) (.now _))) (.now _)
      · skip
        obtain ⟨m1, r1, e1⟩ := call A (hA (by decide)).1 (hA (by decide)).2 m hm
        have pA := pre A (hA (by decide)).1 (hA (by decide)).2
        obtain ⟨m2, r2, e2⟩ := call B (hB (by decide)).1 (hB (by decide)).2 m1 r1
        have pB := pre B (hB (by decide)).1 (hB (by decide)).2
        have hv : ((V c st inn i : Nat) : Int) = mxI ((V c st inn A.toNat : Nat) : Int) ((V c st inn B.toNat : Nat) : Int) := by
          rw [hV, b_mx (le _) (le _), ← pA, ← pB]; rfl
        refine start m2 r2 ?_
        simp only [Value19.b, hk]
        refine .no rfl (.val (rd_some' hx) (.bind (a := ((), ((V c st inn i : Nat) : Int), m2, ())) ?_ (.now _)))
        refine .no rfl (.bind (a := (st, inn, (), ((5 : Int), A, B, C, N), (c, st, inn, (), ()), false, m, ())) (.no rfl (.now _)) ?_)
        dsimp only
        refine .bind (a := ((), ((V c st inn i : Nat) : Int), m2, ())) (.no rfl (.bind (a := ((), ((V c st inn i : Nat) : Int), m2, ())) (.no rfl (.bind (a := ((), ((V c st inn i : Nat) : Int), m2, ())) (.no rfl (.bind (a := ((), ((V c st inn i : Nat) : Int), m2, ())) (.yes rfl (.bind e1 (.bind e2 (.now' (by rw [hv]))))) (.now _))) (.now _))) (.now _))) (.now _)
      · skip
        obtain ⟨m1, r1, e1⟩ := call A (hA (by decide)).1 (hA (by decide)).2 m hm
        have pA := pre A (hA (by decide)).1 (hA (by decide)).2
        obtain ⟨m2, r2, e2⟩ := call B (hB (by decide)).1 (hB (by decide)).2 m1 r1
        have pB := pre B (hB (by decide)).1 (hB (by decide)).2
        have hv : ((V c st inn i : Nat) : Int) = Int.tmod (w64 (((V c st inn A.toNat : Nat) : Int) + ((V c st inn B.toNat : Nat) : Int))) 2 := by
          rw [hV, b_xor (le _) (le _), ← pA, ← pB]; rfl
        refine start m2 r2 ?_
        simp only [Value19.b, hk]
        refine .no rfl (.val (rd_some' hx) (.bind (a := ((), ((V c st inn i : Nat) : Int), m2, ())) ?_ (.now _)))
        refine .no rfl (.bind (a := (st, inn, (), ((6 : Int), A, B, C, N), (c, st, inn, (), ()), false, m, ())) (.no rfl (.now _)) ?_)
        dsimp only
        refine .bind (a := ((), ((V c st inn i : Nat) : Int), m2, ())) (.no rfl (.bind (a := ((), ((V c st inn i : Nat) : Int), m2, ())) (.no rfl (.bind (a := ((), ((V c st inn i : Nat) : Int), m2, ())) (.no rfl (.bind (a := ((), ((V c st inn i : Nat) : Int), m2, ())) (.no rfl (.bind (a := ((), ((V c st inn i : Nat) : Int), m2, ())) (.yes rfl (.bind e1 (.bind e2 (.now' (by rw [hv]))))) (.now _))) (.now _))) (.now _))) (.now _))) (.now _)
      · obtain ⟨m1, r1, e1⟩ := call C (hC (by decide)).1 (hC (by decide)).2 m hm
        obtain ⟨m2, r2, e2⟩ := call A (hA (by decide)).1 (hA (by decide)).2 m1 r1
        have pA := pre A (hA (by decide)).1 (hA (by decide)).2
        have pB := pre B (hB (by decide)).1 (hB (by decide)).2
        have pC := pre C (hC (by decide)).1 (hC (by decide)).2
        by_cases hva : V c st inn A.toNat = 1
        · obtain ⟨m3, r3, e3⟩ := call B (hB (by decide)).1 (hB (by decide)).2 m2 r2
          have hv : V c st inn i = V c st inn B.toNat := by
            rw [hV, ← pB]
            exact if_pos (pA.trans hva)
          refine start m3 r3 ?_
          simp only [Value19.b, hk]
          refine .no rfl (.val (rd_some' hx) (.bind (a := ((), ((V c st inn i : Nat) : Int), m3, ())) ?_ (.now _)))
          refine .no rfl (.bind (a := (st, inn, (), ((7 : Int), A, B, C, N), (c, st, inn, (), ()), false, m, ())) (.no rfl (.now _)) ?_)
          dsimp only
          refine .bind (a := ((), ((V c st inn i : Nat) : Int), m3, ())) (.no rfl (.bind (a := ((), ((V c st inn i : Nat) : Int), m3, ())) (.no rfl (.bind (a := ((), ((V c st inn i : Nat) : Int), m3, ())) (.no rfl (.bind (a := ((), ((V c st inn i : Nat) : Int), m3, ())) (.no rfl (.bind (a := ((), ((V c st inn i : Nat) : Int), m3, ())) (.no rfl (.bind (a := ((), ((V c st inn i : Nat) : Int), m3, ())) (.yes rfl (.bind e1 (.bind e2 (.bind (a := ((), ((V c st inn i : Nat) : Int), m3, ())) (.yes ?_ (.bind e3 (.now' (by rw [hv])))) (.now _))))) (.now _))) (.now _))) (.now _))) (.now _))) (.now _))) (.now _)
          exact decide_eq_true (by show ((V c st inn A.toNat : Nat) : Int) > 0; rw [hva]; decide)
        · have hv : V c st inn i = V c st inn C.toNat := by
            rw [hV, ← pC]
            exact if_neg (fun h => hva (pA.symm.trans h))
          refine start m2 r2 ?_
          simp only [Value19.b, hk]
          refine .no rfl (.val (rd_some' hx) (.bind (a := ((), ((V c st inn i : Nat) : Int), m2, ())) ?_ (.now _)))
          refine .no rfl (.bind (a := (st, inn, (), ((7 : Int), A, B, C, N), (c, st, inn, (), ()), false, m, ())) (.no rfl (.now _)) ?_)
          dsimp only
          refine .bind (a := ((), ((V c st inn i : Nat) : Int), m2, ())) (.no rfl (.bind (a := ((), ((V c st inn i : Nat) : Int), m2, ())) (.no rfl (.bind (a := ((), ((V c st inn i : Nat) : Int), m2, ())) (.no rfl (.bind (a := ((), ((V c st inn i : Nat) : Int), m2, ())) (.no rfl (.bind (a := ((), ((V c st inn i : Nat) : Int), m2, ())) (.no rfl (.bind (a := ((), ((V c st inn i : Nat) : Int), m2, ())) (.yes rfl (.bind e1 (.bind e2 (.bind (a := ((), ((V c st inn i : Nat) : Int), m2, ())) (.no ?_ (.now' (by rw [hv]))) (.now _))))) (.now _))) (.now _))) (.now _))) (.now _))) (.now _))) (.now _)
          have := le A.toNat
          exact decide_eq_false (by show ¬ ((V c st inn A.toNat : Nat) : Int) > 0; omega)
end Go.Proofs.Ytjbdhaenakcclaa.St

/- Circuits of gates: steps. No program in sight. -/
set_option linter.unusedVariables false
noncomputable section
namespace Go.Proofs.Ytjbdhaenakcclaa.St
open Go Go.Proofs.Ytjbdhaenakcclaa.Gp

/-- the values of the gates that are named, joined -/
def line (c : Cir) (st inn : Int) (l : List Int) : List Nat := l.map (fun x => V c st inn x.toNat)
theorem line_le {c : Cir} (hR : Right c) (st inn : Int) (l : List Int) : ∀ b ∈ line c st inn l, b ≤ 1 := by
  intro b hb
  obtain ⟨x, _, rfl⟩ := List.mem_map.1 hb
  exact V_le hR st inn _
def InG (c : Cir) (l : List Int) : Prop := l.length ≤ 10 ∧ ∀ x ∈ l, 0 ≤ x ∧ x < (c.2.1.length : Int)
theorem line_lp {c : Cir} (hR : Right c) (st inn : Int) (w : Nat) (hw : w < 2) (l : List Int) (hl : InG c l) (o2 : List (List Int)) : ∀ (suf pre : List Int) (m : Map) (o1 : List Int), l = pre ++ suf → RightM c st inn m → o1.length = 2 → o1[w]? = some ((pk (line c st inn pre) : Nat) : Int) →
    ∃ m' o1', RightM c st inn m' ∧ o1'.length = 2 ∧ o1'[w]? = some ((pk (line c st inn l) : Nat) : Int) ∧ (∀ j, j ≠ w → o1'[j]? = o1[j]?) ∧
      Lp (fun k => Stepped20.l0 k st inn (w : Int) l) (c, (), (), (), (pre.length : Int), m, o1, o2) (c, (), (), (), m', o1', o2) := by
  intro suf
  induction suf with
  | nil =>
    intro pre m o1 h hm ho hp
    rw [List.append_nil] at h
    subst h
    refine ⟨m, o1, hm, ho, hp, fun _ _ => rfl, .done ?_⟩
    simp only [Stepped20.l0]
    exact .no (by simp) (.now _)
  | cons x suf ih =>
    intro pre m o1 h hm ho hp
    have hx : l[pre.length]? = some x := by rw [h]; simp
    have hi := get_lt hx
    have hll := hl.1
    obtain ⟨x0, x1⟩ := hl.2 x (get_mem hx)
    obtain ⟨m', r, e⟩ := value_ev hR st inn c.2.1.length x.toNat (by omega) (by omega) m hm
    rw [show ((x.toNat : Nat) : Int) = x by omega] at e
    have hlen : (line c st inn pre).length = pre.length := by unfold line; rw [List.length_map]
    have hlt : pk (line c st inn pre) < 2 ^ pre.length := by
      have := pk_lt _ (line_le hR st inn pre)
      rwa [hlen] at this
    have hpk : pk (line c st inn (pre ++ [x])) = pk (line c st inn pre) + V c st inn x.toNat * 2 ^ pre.length := by
      unfold line
      rw [List.map_append, List.map_singleton, pk_snoc, List.length_map]
    obtain ⟨m2, o', g1, g2, g3, g4, g5⟩ := ih (pre ++ [x]) m' (o1.set w ((pk (line c st inn (pre ++ [x])) : Nat) : Int)) (by rw [h]; simp) r (by rw [List.length_set]; exact ho) (List.getElem?_set_self (by omega))
    refine ⟨m2, o', g1, g2, g3, fun j hj => by rw [g4 j hj, List.getElem?_set_ne (Ne.symm hj)], .step ?_ g5⟩
    simp only [Stepped20.l0]
    refine .yes (decide_eq_true (by omega)) (.val (rd_some' hx) (.val (a := ()) (if_pos ⟨by omega, by omega⟩) (.val (rd_some' hp) (.bind e (.val (a := shlI .i64 ((V c st inn x.toNat : Nat) : Int) (pre.length : Int)) (if_neg (by omega)) (.val (a := ()) (if_pos ⟨by omega, by omega⟩) (.val (rd_some' hp) (.now' ?_))))))))
    rw [add_bit hlt (V_le hR st inn _) (by omega), w64_id (by omega) (by omega), ← hpk, List.length_append]
    simp

theorem stepped_ev {c : Cir} (hR : Right c) (st inn : Int) : Ev (fun k => Stepped20 k c st inn) ((((pk (line c st inn c.2.2.1) : Nat) : Int), ((pk (line c st inn c.2.2.2.1) : Nat) : Int), ()), ()) := by
  unfold Stepped20
  obtain ⟨m1, o1, a1, a2, a3, a4, a5⟩ := line_lp hR st inn 0 (by omega) c.2.2.1 hR.outs [c.2.2.1, c.2.2.2.1] c.2.2.1 [] [] [0, 0] rfl (.nil c st inn) rfl rfl
  obtain ⟨m2, o2, b1, b2, b3, b4, b5⟩ := line_lp hR st inn 1 (by omega) c.2.2.2.1 hR.next [c.2.2.1, c.2.2.2.1] c.2.2.2.1 [] m1 o1 rfl a1 a2 (by rw [a4 1 (by omega)]; rfl)
  have h0 : o2[0]? = some ((pk (line c st inn c.2.2.1) : Nat) : Int) := by rw [b4 0 (by omega)]; exact a3
  refine .bind (a := ((), o2)) (Lp.ev ?_) ?_
  · refine Lp.step (s' := (c, (), (), (), 1, m1, o1, [c.2.2.1, c.2.2.2.1])) ?_ (Lp.step (s' := (c, (), (), (), 2, m2, o2, [c.2.2.1, c.2.2.2.1])) ?_ (Lp.done ?_))
    · simp only [Stepped20.l1]
      exact .yes rfl (.val rfl (.val rfl (.bind a5.ev (.now' (by rw [w64_id (by omega) (by omega)]; rfl)))))
    · simp only [Stepped20.l1]
      exact .yes rfl (.val rfl (.val rfl (.bind b5.ev (.now' (by rw [w64_id (by omega) (by omega)]; rfl)))))
    · simp only [Stepped20.l1]
      exact .no rfl (.now _)
  · exact .val rfl (.val (rd_at (i := 0) rfl h0) (.val rfl (.val (rd_at (i := 1) rfl b3) (.now _))))
end Go.Proofs.Ytjbdhaenakcclaa.St

/- What an argument of a law reads as, kind by kind. -/
set_option linter.unusedVariables false
noncomputable section
namespace Go.Proofs.Ytjbdhaenakcclaa.Gp
open Go Go.ChangeShapes Go.WideShapes Go.RowKit

/-- the input's memory, all of it frozen -/
def memH (W : World) : Hp := fun b => W.heap[b]?

structure Gd (P : Program) (t : TypeId) (k : K) (wf : k.den → Prop) (siz : k.den → Nat) : Prop where
  cells : P.cellsOf t = k.w
  one : k.one = true
  pur : k.pur = true
  val : ∀ {W : World} {r : Reach} {base : Nat} {v : Value}, Value.okWide P W r base t v → v = k.mk v.cells.toList
  read : ∀ {H : Type} {enc : TypeId × Value → H} {W : World} {base : Nat} {spare : Nat → Bool} {held : Bool} {fuel : Nat} {cs : List Value} {x : DataW H × List MemPlace},
    DataW.trod enc P W base spare held fuel t cs = some x → (∀ n ∈ x.1.weights P t, n ≤ reachBytes) → ∃ y, (∀ L, Lv (memH W) L k y cs) ∧ wf y ∧ siz y ≤ Rows.uptoBulk x.1

variable {P : Program}

theorem gd_int {t : TypeId} {k : IntKind} (hu : P.underlying t = some (.int k)) (hc : P.cellsOf t = 1) : Gd P t (.int k) (fun (y : Int) => (Lit.int k y).wf = true) (fun _ => 1) :=
  ⟨hc, rfl, rfl, fun h => by obtain ⟨n, rfl⟩ := okWide_int hu h; rfl, fun h _ => by
    obtain ⟨n, rfl, rfl, hw⟩ := DataW.trod_int hu h
    exact ⟨n, fun _ => rfl, hw, by simp [Rows.uptoBulk]⟩⟩
theorem weights_all {H : Type} {e : TypeId} {n : Nat} : ∀ {l : List (DataW H)} {d : DataW H}, d ∈ l → n ∈ d.weights P e → n ∈ DataW.weightsAll P e l
  | x :: r, d, hd, hn => by
    rw [DataW.weightsAll]
    rcases List.mem_cons.1 hd with rfl | hd
    · exact List.mem_append_left _ hn
    · exact List.mem_append_right _ (weights_all hd hn)
theorem buildL {α : Type} {H : Type} {wf : α → Prop} {siz : α → Nat} : ∀ (es : List (DataW H × List MemPlace)) (p : Nat → α → Prop),
    (∀ i x, es[i]? = some x → ∃ y, p i y ∧ wf y ∧ siz y ≤ Rows.uptoBulk x.1) →
    ∃ ys : List α, ys.length = es.length ∧ (∀ j y, ys[j]? = some y → p j y ∧ wf y) ∧ (ys.map siz).sum ≤ Rows.uptoBulkAll (es.map (·.1))
  | [], _, _ => ⟨[], rfl, fun j y h => by simp at h, by simp⟩
  | x :: r, p, h => by
    obtain ⟨y, hp, hw, hs⟩ := h 0 x rfl
    obtain ⟨ys, hl, hy, hsum⟩ := buildL r (fun i => p (i + 1)) (fun i x hx => h (i + 1) x (by simpa using hx))
    refine ⟨y :: ys, by simp [hl], fun j z hz => ?_, ?_⟩
    · cases j with
      | zero => simp only [List.getElem?_cons_zero, Option.some.injEq] at hz; subst hz; exact ⟨hp, hw⟩
      | succ j => exact hy j z (by simpa using hz)
    · simp only [List.map_cons, List.sum_cons, Rows.uptoBulkAll]
      omega

def sizL {α : Type} (siz : α → Nat) (l : List α) : Nat := (l.map siz).sum + 1
def wfL {α : Type} (B : Nat) (wf : α → Prop) (l : List α) : Prop := l.length * B ≤ 140737488351232 ∧ ∀ y ∈ l, wf y

theorem LvL_mk {α : Type} {R : α → List Value → Prop} {w : Nat} {C : List Value} : ∀ {ys : List α} {o : Nat}, (∀ j y, ys[j]? = some y → ∃ c : List Value, c.length = w ∧ R y c ∧ ∀ i u, c[i]? = some u → C[o + (j * w + i)]? = some u) →
    LvL R ys ((C.drop o).take (ys.length * w))
  | [], o, h => by simp [LvL]
  | y :: ys, o, h => by
    obtain ⟨c, hc, hr, hu⟩ := h 0 y rfl
    have e : (C.drop o).take w = c := by
      apply List.ext_getElem?
      intro i
      rw [cut_get]
      by_cases hi : i < w
      · rw [if_pos hi]
        have hi' : i < c.length := by omega
        have := hu i c[i] (List.getElem?_eq_getElem hi')
        rw [Nat.zero_mul, Nat.zero_add] at this
        rw [this, List.getElem?_eq_getElem hi']
      · rw [if_neg hi, List.getElem?_eq_none (by omega)]
    refine ⟨c, (C.drop (o + w)).take (ys.length * w), ?_, hr, LvL_mk (fun j z hz => ?_)⟩
    · rw [List.length_cons, Nat.add_mul, Nat.one_mul, Nat.add_comm (ys.length * w) w, List.take_add, e, List.drop_drop]
    · obtain ⟨c', h1, h2, h3⟩ := h (j + 1) z hz
      refine ⟨c', h1, h2, fun i u hi => ?_⟩
      have := h3 i u hi
      rw [Nat.add_mul, Nat.one_mul] at this
      rw [show o + w + (j * w + i) = o + (j * w + w + i) by omega]
      exact this

theorem gd_sl {t e : TypeId} {k : K} {wf : k.den → Prop} {siz : k.den → Nat} {B : Nat} (hu : P.underlying t = some (.slice e)) (hc : P.cellsOf t = 1) (hB : P.bytesOf e = B) (hk : 0 < k.w) (r : Gd P e k wf siz) :
    Gd P t (.sl k) (wfL (α := k.den) B wf) (sizL (α := k.den) siz) :=
  ⟨hc, rfl, r.pur, fun h => by obtain ⟨a, len, cap, rfl⟩ := okWide_slice hu h; rfl, fun {H enc W base spare held fuel cs x} h hw => by
    rcases DataW.trod_slice hu h with ⟨rfl, rfl⟩ | ⟨a, len, cap, elems, rest, n, _, rfl, rfl, hb, hl, hm, hlen, hel, _, _⟩
    · exact ⟨([] : List k.den), fun L => ⟨r.pur, none, 0, rfl, Nat.le_refl _, fun hn => absurd rfl hn⟩, ⟨by simp, fun y hy => by simp at hy⟩, by simp [sizL, Rows.uptoBulk]⟩
    · simp only [DataW.weights, hu] at hw
      have hw1 : (elems.length + rest.length) * B ≤ 140737488351232 := by
        have := hw ((elems.length + rest.length) * B) (by simp [hB])
        exact this
      obtain ⟨ys, hyl, hyp, hys⟩ := buildL (wf := wf) (siz := siz) elems (fun i y => ∃ c : List Value, c.length = k.w ∧ (∀ L, Lv (memH W) L k y c) ∧ ∀ j u, c[j]? = some u → W.cell? (a.add (i * k.w + j)) = some u) (fun i z hz => by
        have hi : i < len := by
          have := (List.getElem?_eq_some_iff.1 hz).1
          omega
        have h1 := hel i hi
        rw [hz] at h1
        obtain ⟨c, hc1, hc2⟩ := Option.bind_eq_some_iff.1 h1
        obtain ⟨y, hK, hwf, hsz⟩ := r.read hc2 (fun q hq => hw q (List.mem_cons_of_mem _ (List.mem_append_left _ (weights_all (List.mem_map.2 ⟨z, List.mem_of_getElem? hz, rfl⟩) hq))))
        obtain ⟨_, hcl, hcell⟩ := World.cells?_some hc1
        refine ⟨y, ⟨c, Lv_len (hK default), hK, fun j u hu => ?_⟩, hwf, hsz⟩
        have hj : j < P.cellsOf e := by
          have := (List.getElem?_eq_some_iff.1 hu).1
          omega
        have h3 := hcell j hj
        rw [Go.Deep.add_add, r.cells] at h3
        rw [h3]
        exact hu)
      refine ⟨ys, fun L => ⟨r.pur, some a, cap, by rw [hyl, hlen], by omega, fun hn => ?_⟩, ⟨?_, fun y hy => ?_⟩, ?_⟩
      · have hn : ys.length ≠ 0 := hn
        obtain ⟨y, hy⟩ : ∃ y, ys[0]? = some y := ⟨ys[0]'(by omega), List.getElem?_eq_getElem (by omega)⟩
        obtain ⟨c, c1, c2, c3⟩ := (hyp 0 y hy).1
        obtain ⟨u, hu0⟩ : ∃ u, c[0]? = some u := ⟨c[0]'(by omega), List.getElem?_eq_getElem (by omega)⟩
        have hcell := c3 0 u hu0
        rw [Nat.zero_mul, Nat.zero_add, show a.add 0 = a from rfl] at hcell
        unfold World.cell? at hcell
        split at hcell
        · rename_i C ee zz hblk
          split at hcell
          · cases hcell
          · rename_i hsp
            have hsp : a.spot = none := by cases hs : a.spot with | none => rfl | some q => rw [hs] at hsp; exact absurd rfl hsp
            refine ⟨a.block, a.off, C, ee, zz, by cases a; simp only at hsp; rw [hsp], hblk, LvL_mk (C := C.toList) (fun j y hy => ?_)⟩
            obtain ⟨c, c1, c2, c3⟩ := (hyp j y hy).1
            refine ⟨c, c1, c2 L, fun i u hi => ?_⟩
            have h5 := c3 i u hi
            have hadd : (a.add (j * k.w + i)).block = a.block ∧ (a.add (j * k.w + i)).off = a.off + (j * k.w + i) ∧ (a.add (j * k.w + i)).spot = none := by
              unfold Addr.add
              split
              · rename_i h0; exact ⟨rfl, by omega, hsp⟩
              · exact ⟨rfl, rfl, rfl⟩
            unfold World.cell? at h5
            rw [hadd.1, hblk, hadd.2.1, hadd.2.2] at h5
            rw [Array.getElem?_toList]
            exact h5
        · cases hcell
      · rw [hyl]
        exact Nat.le_trans (Nat.mul_le_mul_right _ (Nat.le_add_right _ _)) hw1
      · obtain ⟨j, hj⟩ := List.mem_iff_getElem?.1 hy
        exact (hyp j y hj).2
      · simp only [sizL, Rows.uptoBulk]
        omega⟩

/-- fields in line, from cell 'off' on -/
structure GdF (P : Program) (off : Nat) (fs : List Field) (k : K) (wf : k.den → Prop) (siz : k.den → Nat) : Prop where
  pur : k.pur = true
  read : ∀ {H : Type} {enc : TypeId × Value → H} {W : World} {base : Nat} {spare : Nat → Bool} {held : Bool} {fuel : Nat} {cs : List Value} {xs : List (DataW H × List MemPlace)},
    cs.length = off + k.w → xs.length = fs.length →
    (∀ (i : Nat) (f : Field), fs[i]? = some f → DataW.trod enc P W base spare held fuel f.type ((cs.drop f.offset).take (P.cellsOf f.type)) = xs[i]?) →
    (∀ n ∈ DataW.weightsEach P (fs.map (·.type)) (xs.map (·.1)), n ≤ reachBytes) →
    ∃ y, (∀ L, Lv (memH W) L k y (cs.drop off)) ∧ wf y ∧ siz y ≤ Rows.uptoBulkAll (xs.map (·.1))

theorem gdf_cons {off : Nat} {f : Field} {fs : List Field} {k k' : K} {wf : k.den → Prop} {wf' : k'.den → Prop} {siz : k.den → Nat} {siz' : k'.den → Nat} (ho : f.offset = off) (r : Gd P f.type k wf siz)
    (rs : GdF P (off + k.w) fs k' wf' siz') : GdF P off (f :: fs) (.pair k k') (fun (y : k.den × k'.den) => wf y.1 ∧ wf' y.2) (fun (y : k.den × k'.den) => siz y.1 + siz' y.2) := by
  refine ⟨by simp only [K.pur, r.pur, rs.pur]; rfl, ?_⟩
  intro H enc W base spare held fuel cs xs hl hxl hx hw
  have hl' : cs.length = off + (k.w + k'.w) := hl
  match xs, hxl with
  | x :: xs, hxl =>
    have h := hx 0 f rfl
    rw [ho, r.cells] at h
    simp only [List.getElem?_cons_zero] at h
    obtain ⟨y, h1, h2, h3⟩ := r.read h (fun n hn => hw n (by simp [DataW.weightsEach, hn]))
    obtain ⟨z, g1, g2, g3⟩ := rs.read (enc := enc) (W := W) (base := base) (spare := spare) (held := held) (fuel := fuel) (cs := cs) (xs := xs) (by omega) (by simpa using hxl)
      (fun i g hg => by simpa using hx (i + 1) g (by simpa using hg)) (fun n hn => hw n (by simp only [List.map_cons, DataW.weightsEach]; exact List.mem_append_right _ hn))
    refine ⟨(y, z), fun L => ⟨(cs.drop off).take k.w, cs.drop (off + k.w), ?_, h1 L, g1 L⟩, ⟨h2, g2⟩, ?_⟩
    · rw [← List.drop_drop]
      exact (List.take_append_drop _ _).symm
    · simp only [List.map_cons, Rows.uptoBulkAll]
      omega
theorem gdf_one {off : Nat} {f : Field} {k : K} {wf : k.den → Prop} {siz : k.den → Nat} (ho : f.offset = off) (r : Gd P f.type k wf siz) : GdF P off [f] k wf siz := by
  refine ⟨r.pur, ?_⟩
  intro H enc W base spare held fuel cs xs hl hxl hx hw
  match xs, hxl with
  | [x], hxl =>
    have h := hx 0 f rfl
    rw [ho, r.cells] at h
    simp only [List.getElem?_cons_zero] at h
    have e : (cs.drop off).take k.w = cs.drop off := List.take_of_length_le (by rw [List.length_drop, hl]; omega)
    rw [e] at h
    obtain ⟨y, h1, h2, h3⟩ := r.read h (fun n hn => hw n (by simp [DataW.weightsEach, hn]))
    refine ⟨y, h1, h2, ?_⟩
    simp only [List.map_cons, List.map_nil, Rows.uptoBulkAll]
    omega
theorem gd_st {t : TypeId} {fs : Array Field} {k : K} {wf : k.den → Prop} {siz : k.den → Nat} (hu : P.underlying t = some (.struct fs)) (hc : P.cellsOf t = k.w) (r : GdF P 0 fs.toList k wf siz) : Gd P t (.st k) wf siz :=
  ⟨hc, rfl, r.pur, fun h => by
    simp only [Value.okWide, hu] at h
    obtain ⟨cs, rfl, _⟩ := h
    rfl, fun h hw => by
    obtain ⟨xs, n, _, rfl, hl, hxl, hx⟩ := DataW.trod_struct hu h
    obtain ⟨y, h1, h2, h3⟩ := r.read (by rw [hl, hc]; omega) (by rw [hxl]; simp) (fun i f hf => hx i f (by simpa using hf)) (fun n hn => hw n (by simp only [DataW.weights, hu]; exact hn))
    refine ⟨y, h1, h2, ?_⟩
    simp only [Rows.uptoBulk]
    omega⟩

/-- an argument -/
theorem Gd.arg {t : TypeId} {k : K} {wf : k.den → Prop} {siz : k.den → Nat} (r : Gd P t k wf siz) {H : Type} {enc : TypeId × Value → H} {W : World} {base : Nat} {spare : Nat → Bool} {held : Bool} {rr : Reach} {b2 : Nat} {v : Value} {x : DataW H} {ps : List MemPlace}
    (hval : Value.okWide P W rr b2 t v) (h : DataW.Trod enc P W base spare held t v x ps) (hw : ∀ n ∈ x.weights P t, n ≤ reachBytes) : ∃ y : k.den, (∀ L, SR (memH W) L ⟨k, y⟩ v) ∧ wf y ∧ siz y ≤ Rows.uptoBulk x := by
  obtain ⟨fuel, hf⟩ := h
  obtain ⟨y, h1, h2, h3⟩ := r.read hf hw
  refine ⟨y, fun L => ?_, h2, h3⟩
  rw [r.val hval]
  exact SR_mk (h1 L)

def noLoc : Ls := fun _ => default
theorem law_calls {fuel : Nat} {f : FuncId} {params : List K} {run : Nat → HL params → HL (List.map (·.toK) ([] : List OK)) → Option (K.bool.den × HL (List.map (·.toK) ([] : List OK)))} (hs : SoundAt P fuel ⟨f, params, [], .bool, [], [], run⟩) {ds : HL params}
    (hr : run fuel ds () = some (true, ())) {args : Array Value} {W : World} (hv : SRs (memH W) noLoc (unpackL params ds) args.toList) : Calls P f args W (fun e W' => e = .returned (.bool true) ∧ Below W.heap.size W W') := by
  have hno : ∀ b, ¬ Own (assoc O.dead (objsFrom 0 ([] : List OK) ())) noLoc b := fun b ⟨i, hi, _⟩ => hi
  refine Calls.mono (hs.2 ds () (true, ()) hr args W (memH W) noLoc hv ⟨fun i => trivial, fun b o h => h, fun i hi => hi.elim, fun i j hi => hi.elim⟩ (fun i hi => by cases hi)) fun e W' hh => ?_
  obtain ⟨v, H', L', rfl, h1, _, _, hp⟩ := hh
  have h1 : SR H' L' ⟨.bool, true⟩ v := h1
  refine ⟨by rw [bool_at h1], hp.fr.os, hp.fr.tape, hp.fr.output, hp.fr.size, fun b hb => hp.fr.same b hb (hno b)⟩
/-- The weights of one argument. -/
theorem weights_at {H : Type} {ts : List TypeId} {ds : List (DataW H)} (hsz : (DataW.weightsEach P ts ds).all (· ≤ reachBytes) = true) (j : Nat) {t : TypeId} {d : DataW H} (ht : ts[j]? = some t) (hd : ds[j]? = some d) :
    ∀ n ∈ d.weights P t, n ≤ reachBytes := fun n hn => by
  have := List.all_eq_true.1 hsz n (DataW.weights_mem_each ht hd n hn)
  simpa using this

end Go.Proofs.Ytjbdhaenakcclaa.Gp

/- Circuits of gates: the law. No program in sight. -/
set_option linter.unusedVariables false
noncomputable section
namespace Go.Proofs.Ytjbdhaenakcclaa.St
open Go Go.Proofs.Ytjbdhaenakcclaa.Gp

/-- one step: the state, and what came out so far -/
def stepS (c : Cir) (b : Int × List Int) (x : Int) : Int × List Int := (((pk (line c b.1 x c.2.2.2.1) : Nat) : Int), b.2 ++ [((pk (line c b.1 x c.2.2.1) : Nat) : Int)])
def ran (c : Cir) (l : List Int) : List Int := (l.foldl (stepS c) ((first c : Int), [])).2
def badIn (c : Cir) (x : Int) : Bool := decide (x < 0 ∨ x ≥ ((2 ^ c.1.toNat : Nat) : Int))
theorem shl_ins {c : Cir} (hR : Right c) : shlI .i64 1 c.1 = ((2 ^ c.1.toNat : Nat) : Int) := by
  obtain ⟨h0, h1⟩ := hR.ins
  obtain ⟨j, hj⟩ : ∃ j : Nat, c.1 = (j : Int) := ⟨c.1.toNat, by omega⟩
  rw [hj, shlI_one (by omega), Int.toNat_natCast]
theorem foldl_len8 (c : Cir) : ∀ (l : List Int) (b : Int × List Int), (l.foldl (stepS c) b).2.length = b.2.length + l.length
  | [], b => rfl
  | x :: l, b => by rw [List.foldl_cons, foldl_len8 c l]; simp [stepS]; omega
def res (c : Cir) (l : List Int) : List Int × Int × Unit := if fault c ≠ 0 then ([], fault c, ()) else if l.any (badIn c) then ([], 1, ()) else (ran c l, 0, ())
theorem equal_ev (l : List Int) (hl : l.length * 8 ≤ 140737488351232) : Ev (fun k => Equal25 k l l) (true, ()) := by
  unfold Equal25
  refine .no (by simp) (.joinL (S := Unit) (a := ()) (Lp.ev ?_) (.now _))
  refine Lp.fold (body := fun k => Equal25.l0 k l l) l (fun (_ : Unit) i => i) (fun _ _ => ()) (fun _ => (.inl () : Unit ⊕ (Bool × Unit))) (fun _ _ => True) (fun i x b hx _ => ⟨?_, trivial⟩) (fun b _ => ?_) (b := ()) trivial
  · have hi := get_lt hx
    simp only [Equal25.l0]
    refine .yes (decide_eq_true (by omega)) (.val (rd_some' hx) (.val (rd_some' hx) (.no (by simp) (.now' ?_))))
    rw [w64_id (by omega) (by omega)]
  · simp only [Equal25.l0]
    exact .no (by simp) (.now _)
theorem first_ev (c : Cir) (hc : c.2.2.2.2.length ≤ 9223372036854775806) : Ev (fun k => First37 k c) ((first c : Int), ()) := by
  unfold First37
  refine .bind (a := (first c : Int)) (Lp.ev ?_) (.now _)
  generalize hl : c.2.2.2.2 = l at hc
  have hf : first c = pk ((l.take 10).map bitOf) := by unfold first; rw [hl]
  have := Lp.fold (body := fun k => First37.l0 k c) l (fun (m : List Nat) i => ((pk (m.take 10) : Int), i)) (fun m x => m ++ [bitOf x]) (fun m => (pk (m.take 10) : Int)) (fun i m => m = (l.take i).map bitOf) (fun i x m hx hm => ⟨?_, ?_⟩) (fun m _ => ?_) (b := []) rfl
  · rw [foldl_snoc, List.nil_append, ← List.map_take, ← hf] at this
    exact this
  · have hi := get_lt hx
    have hlen : m.length = i := by rw [hm, List.length_map, List.length_take]; omega
    simp only [First37.l0, hl]
    refine .yes (decide_eq_true (by omega)) (.val (rd_some' hx) (.bind (a := (pk ((m ++ [bitOf x]).take 10) : Int)) ?_ (.now' ?_)))
    · refine .iff (fun h => ?_) (fun h => .now' ?_)
      · have hlt : pk m < 2 ^ i := by rw [← hlen]; exact pk_lt m (by rw [hm]; exact bits_ok _)
        refine .val (a := shlI .i64 (bitOf x : Int) (i : Int)) ?_ (.now' ?_)
        · rw [if_neg (by omega), (bit_and x).1]
        · rw [List.take_of_length_le (show m.length ≤ 10 by omega), add_bit hlt (bit_and x).2 (by omega), List.take_of_length_le (by rw [List.length_append]; simp; omega), pk_snoc, hlen]
      · rw [List.take_append_of_le_length (by omega)]
    · rw [w64_id (by omega) (by omega)]
  · rw [hm, take_snoc hx, List.map_append]; rfl
  · simp only [First37.l0, hl]
    exact .no (by simp) (.now _)

end Go.Proofs.Ytjbdhaenakcclaa.St

/- Tables of circuits: lists, maps from states to numbers. No program in sight. -/
set_option linter.unusedVariables false
noncomputable section
namespace Go.Proofs.Ytjbdhaenakcclaa.St
open Go Go.Proofs.Ytjbdhaenakcclaa.Gp

abbrev IMap := List (Int × Int)
def idx (l : List Int) (x : Int) : Int := (l.idxOf x : Nat)
theorem mput_new {kk kv : K} {l : List (kk.den × kv.den)} {k : kk.den} {v : kv.den} (h : mget kk kv l k = none) : mput kk kv l k v = l ++ [(k, v)] := by
  have hn : ¬ mpos kk kv l k < l.length := fun hlt => by
    obtain ⟨e, he, hp⟩ := mpos_lt hlt
    unfold mget at h
    rw [Option.map_eq_none_iff, List.find?_eq_none] at h
    exact h e (List.mem_of_getElem? he) hp
  unfold mput
  rw [if_neg hn]
theorem mget_self {kk kv : K} (hc : kk.cmp = true) {l : List (kk.den × kv.den)} {k : kk.den} {v : kv.den} : mget kk kv (mput kk kv l k v) k = some v := (mget_mput hc).trans (if_pos (eqB_refl hc))
theorem mget_other {kk kv : K} (hc : kk.cmp = true) {l : List (kk.den × kv.den)} {k k' : kk.den} {v : kv.den} (h : k' ≠ k) : mget kk kv (mput kk kv l k v) k' = mget kk kv l k' := (mget_mput hc).trans (if_neg (fun e => h (eqB_eq hc e)))
def inAt (l : List Int) (x : Int) : Option Int := if x ∈ l then some (idx l x) else none
theorem inAt_yes {l : List Int} {x : Int} (h : x ∈ l) : inAt l x = some (idx l x) := if_pos h
theorem inAt_no {l : List Int} {x : Int} (h : x ∉ l) : inAt l x = none := if_neg h
/-- a map that knows where each state stands -/
structure Knows (l : List Int) (m : IMap) : Prop where
  get : ∀ x : Int, mget (.int .i64) (.int .i64) m x = inAt l x
  len : m.length = l.length
theorem knows_nil : Knows [] [] := ⟨fun x => rfl, rfl⟩
theorem idx_app {l : List Int} {x : Int} (y : Int) (h : x ∈ l) : idx (l ++ [y]) x = idx l x := by
  unfold idx
  rw [List.idxOf_append, if_pos h]
theorem idx_new {l : List Int} {x : Int} (h : x ∉ l) : idx (l ++ [x]) x = (l.length : Int) := by
  unfold idx
  rw [List.idxOf_append, if_neg h]
  simp
theorem Knows.put {l : List Int} {m : IMap} (h : Knows l m) {x : Int} (hx : x ∉ l) : Knows (l ++ [x]) (mput (.int .i64) (.int .i64) m x (m.length : Int)) := by
  have hg : mget (.int .i64) (.int .i64) m x = none := (h.get x).trans (inAt_no hx)
  refine ⟨fun y => ?_, ?_⟩
  · by_cases hxy : y = x
    · subst hxy
      have e : inAt (l ++ [y]) y = some (m.length : Int) := by rw [inAt_yes (by simp), idx_new hx, h.len]
      exact (mget_self (kk := .int .i64) (kv := .int .i64) rfl).trans e.symm
    · refine (mget_other (kk := .int .i64) (kv := .int .i64) rfl hxy).trans ((h.get y).trans ?_)
      by_cases hy : y ∈ l
      · rw [inAt_yes hy, inAt_yes (by simp [hy]), idx_app x hy]
      · rw [inAt_no hy, inAt_no (by simp [hy, hxy])]
  · have := mput_new (kk := .int .i64) (kv := .int .i64) (v := (m.length : Int)) hg
    exact (congrArg List.length this).trans (by show (m ++ [(x, (m.length : Int))] : IMap).length = _; rw [List.length_append, List.length_append, h.len]; rfl)

def putS (l : List Int) (m : IMap) (x : Int) : IMap := if x ∈ l then m else mput (.int .i64) (.int .i64) m x (m.length : Int)
theorem putS_yes {l : List Int} {m : IMap} {x : Int} (h : x ∈ l) : putS l m x = m := if_pos h
theorem putS_no {l : List Int} {m : IMap} {x : Int} (h : x ∉ l) : putS l m x = mput (.int .i64) (.int .i64) m x (m.length : Int) := if_neg h
def addS (l : List Int) (x : Int) : List Int := if x ∈ l then l else l ++ [x]
theorem Knows.add {l : List Int} {m : IMap} (h : Knows l m) (x : Int) : Knows (addS l x) (putS l m x) := by
  by_cases hx : x ∈ l
  · rw [putS_yes hx, show addS l x = l from if_pos hx]; exact h
  · have := h.put hx
    rw [show addS l x = l ++ [x] from if_neg hx]
    rw [← putS_no hx] at this
    exact this
end Go.Proofs.Ytjbdhaenakcclaa.St

/- Circuits from tables: a maker of gates, equal ones once. No program in sight. -/
set_option linter.unusedVariables false
noncomputable section
namespace Go.Proofs.Ytjbdhaenakcclaa.St
open Go Go.Proofs.Ytjbdhaenakcclaa.Gp

abbrev GMap := List (Gate × Int)
abbrev gK : K := .st (.pair (.int .i64) (.pair (.int .i64) (.pair (.int .i64) (.pair (.int .i64) (.int .i64)))))
def gAt (gs : List Gate) (g : Gate) : Option Int := if g ∈ gs then some ((gs.idxOf g : Nat) : Int) else none
theorem gAt_yes {gs : List Gate} {g : Gate} (h : g ∈ gs) : gAt gs g = some ((gs.idxOf g : Nat) : Int) := if_pos h
theorem gAt_no {gs : List Gate} {g : Gate} (h : g ∉ gs) : gAt gs g = none := if_neg h
structure Mk (gs : List Gate) (m : GMap) : Prop where
  get : ∀ g : Gate, mget gK (.int .i64) m g = gAt gs g
  dif : gs.Nodup
theorem mk_nil : Mk [] [] := ⟨fun g => rfl, List.nodup_nil⟩
def addG (gs : List Gate) (g : Gate) : List Gate := if g ∈ gs then gs else gs ++ [g]
def putM (gs : List Gate) (m : GMap) (g : Gate) : GMap := if g ∈ gs then m else mput gK (.int .i64) m g (gs.length : Int)
theorem putM_yes {gs : List Gate} {m : GMap} {g : Gate} (h : g ∈ gs) : putM gs m g = m := if_pos h
theorem putM_no {gs : List Gate} {m : GMap} {g : Gate} (h : g ∉ gs) : putM gs m g = mput gK (.int .i64) m g (gs.length : Int) := if_neg h
theorem Mk.put {gs : List Gate} {m : GMap} (h : Mk gs m) (g : Gate) : Mk (addG gs g) (putM gs m g) := by
  unfold addG
  by_cases hg : g ∈ gs
  · rw [if_pos hg, putM_yes hg]; exact h
  · rw [if_neg hg, putM_no hg]
    refine ⟨fun y => ?_, ?_⟩
    · by_cases hxy : y = g
      · subst hxy
        have e : gAt (gs ++ [y]) y = some (gs.length : Int) := by rw [gAt_yes (by simp), List.idxOf_append, if_neg hg]; simp
        exact (mget_self (kk := gK) (kv := .int .i64) rfl).trans e.symm
      · refine (mget_other (kk := gK) (kv := .int .i64) rfl hxy).trans ((h.get y).trans ?_)
        by_cases hy : y ∈ gs
        · rw [gAt_yes hy, gAt_yes (by simp [hy]), List.idxOf_append, if_pos hy]
        · rw [gAt_no hy, gAt_no (by simp [hy, hxy])]
    · rw [List.nodup_append]
      refine ⟨h.dif, by simp, fun a ha b hb => ?_⟩
      rw [List.mem_singleton.1 hb]
      exact fun e => hg (e ▸ ha)
theorem put_ev {gs : List Gate} {m : GMap} (h : Mk gs m) (hl : gs.length ≤ 100000) (g : Gate) (o0 : Unit × Unit) :
    Ev (fun k => put107 k () g o0 gs m) (((gs.idxOf g : Nat) : Int), o0, addG gs g, putM gs m g) := by
  unfold put107 addG
  by_cases hm : g ∈ gs
  · have hg : mget gK (.int .i64) m g = some ((gs.idxOf g : Nat) : Int) := (h.get g).trans (gAt_yes hm)
    rw [if_pos hm, putM_yes hm]
    refine .yes (congrArg (fun (o : Option Int) => Option.isSome o) hg) (.now' ?_)
    have : Option.getD (α := Int) (mget gK (.int .i64) m g) (0 : Int) = ((gs.idxOf g : Nat) : Int) := congrArg (fun (o : Option Int) => Option.getD o 0) hg
    exact congrArg (fun x => (x, o0, gs, m)) this
  · have hg : mget gK (.int .i64) m g = none := (h.get g).trans (gAt_no hm)
    rw [if_neg hm, putM_no hm]
    refine .no (congrArg (fun (o : Option Int) => Option.isSome o) hg) (.val (a := ()) ?_ (.now' ?_))
    · rw [if_pos (room_ok (by simp; omega))]
    · rw [List.idxOf_eq_length hm, List.length_append, List.length_singleton, w64_id (by omega) (by omega), show ((gs.length + 1 : Nat) : Int) - 1 = (gs.length : Int) by omega]

-- what the gates say
section
variable {ins : Int} {nx : Nat}
def cc (ins : Int) (nx : Nat) (gs : List Gate) : Cir := (ins, gs, [], List.replicate nx 0, [])
def Good (ins : Int) (nx : Nat) (gs : List Gate) : Prop := ∀ (i : Nat) (g : Gate), gs[i]? = some g → oneF (cc ins nx []) i g = 0
def val (gs : List Gate) (st inn : Int) (j : Nat) : Nat := (vals st inn gs).getD j 0
theorem Good.le {gs : List Gate} (h : Good ins nx gs) (st inn : Int) : ∀ b ∈ vals st inn gs, b ≤ 1 := by
  have : ∀ i, i ≤ gs.length → ∀ b ∈ vals st inn (gs.take i), b ≤ 1 := by
    intro i
    induction i with
    | zero => intro _ b hb; simp [vals] at hb
    | succ i ih =>
      intro hi b hb
      have hx : gs[i]? = some gs[i] := List.getElem?_eq_getElem (by omega)
      rw [List.take_add_one, hx, Option.toList_some, vals_snoc] at hb
      rcases List.mem_append.1 hb with hb | hb
      · exact ih (by omega) b hb
      · rw [List.mem_singleton.1 hb]
        exact valG_le (h i _ hx) st inn (ih (by omega))
  have := this gs.length (Nat.le_refl _)
  rwa [List.take_length] at this
theorem Good.val_le {gs : List Gate} (h : Good ins nx gs) (st inn : Int) (j : Nat) : val gs st inn j ≤ 1 := getD_le (h.le st inn) j
theorem val_ext {gs t : List Gate} (st inn : Int) {j : Nat} (hj : j < gs.length) : val (gs ++ t) st inn j = val gs st inn j := by
  obtain ⟨u, hu⟩ := vals_app st inn gs t
  unfold val
  rw [hu, List.getD_eq_getElem?_getD, List.getD_eq_getElem?_getD, List.getElem?_append_left (by rw [vals_len]; exact hj)]
/-- a gate hangs on those before it -/
theorem valG_pre {gs t : List Gate} {g : Gate} (h : oneF (cc ins nx []) (gs.length : Int) g = 0) (st inn : Int) : valG st inn (vals st inn (gs ++ t)) g = valG st inn (vals st inn gs) g := by
  obtain ⟨hk, h0, h1, h2, _, _⟩ := gate_ok h
  have key : ∀ x : Int, 0 ≤ x ∧ x < (gs.length : Int) → (vals st inn (gs ++ t)).getD x.toNat 0 = (vals st inn gs).getD x.toNat 0 := fun x hx => val_ext (t := t) st inn (j := x.toNat) (by omega)
  rcases kinds hk with h | h | h | h | h | h | h | h
  · unfold valG; simp only [h, reduceIte]
  · unfold valG; simp only [h, reduceIte, Int.reduceEq]
  · unfold valG; simp only [h, reduceIte, Int.reduceEq]
  · have e0 := key _ (h0 (by rw [h]; decide))
    unfold valG; simp only [h, reduceIte, Int.reduceEq, e0]
  · have e0 := key _ (h0 (by rw [h]; decide))
    have e1 := key _ (h1 (by rw [h]; decide))
    unfold valG; simp only [h, reduceIte, Int.reduceEq, e0, e1]
  · have e0 := key _ (h0 (by rw [h]; decide))
    have e1 := key _ (h1 (by rw [h]; decide))
    unfold valG; simp only [h, reduceIte, Int.reduceEq, e0, e1]
  · have e0 := key _ (h0 (by rw [h]; decide))
    have e1 := key _ (h1 (by rw [h]; decide))
    unfold valG; simp only [h, reduceIte, Int.reduceEq, e0, e1]
  · have e0 := key _ (h0 (by rw [h]; decide))
    have e1 := key _ (h1 (by rw [h]; decide))
    have e2 := key _ (h2 (by rw [h]; decide))
    unfold valG; simp only [h, reduceIte, Int.reduceEq, e0, e1, e2]
theorem split_at {gs : List Gate} {i : Nat} {g : Gate} (h : gs[i]? = some g) : ∃ a t, gs = a ++ g :: t ∧ a.length = i := by
  have hi := get_lt h
  have he := (List.getElem?_eq_some_iff.1 h).2
  refine ⟨gs.take i, gs.drop (i + 1), ?_, by rw [List.length_take]; omega⟩
  rw [← he, ← List.drop_eq_getElem_cons hi, List.take_append_drop]
theorem val_at {gs : List Gate} (hG : Good ins nx gs) {i : Nat} {g : Gate} (h : gs[i]? = some g) (st inn : Int) : val gs st inn i = valG st inn (vals st inn gs) g := by
  obtain ⟨a, t, rfl, rfl⟩ := split_at h
  rw [valG_pre (hG _ _ h), show a ++ g :: t = (a ++ [g]) ++ t by simp, val_ext st inn (by simp)]
  unfold val
  rw [vals_snoc, List.getD_eq_getElem?_getD, List.getElem?_append_right (by rw [vals_len]; exact Nat.le_refl _), vals_len, Nat.sub_self]
  rfl
/-- what comes of a step of the maker -/
structure Md (ins : Int) (nx : Nat) (gs : List Gate) (gs' : List Gate) (m' : GMap) (r : Nat) (n : Nat) (F : Int → Int → Nat) : Prop where
  map : Mk gs' m'
  good : Good ins nx gs'
  ext : ∃ t, gs' = gs ++ t
  len : gs'.length ≤ gs.length + n
  lt : r < gs'.length
  val : ∀ st inn, val gs' st inn r = F st inn
theorem Md.keep {gs gs' : List Gate} {m' : GMap} {r n : Nat} {F : Int → Int → Nat} (h : Md ins nx gs gs' m' r n F) (st inn : Int) {j : Nat} (hj : j < gs.length) : St.val gs' st inn j = St.val gs st inn j := by
  obtain ⟨t, rfl⟩ := h.ext
  exact val_ext st inn hj
theorem Md.more {gs gs' : List Gate} {m' : GMap} {r n : Nat} {F : Int → Int → Nat} (h : Md ins nx gs gs' m' r n F) : gs.length ≤ gs'.length := by
  obtain ⟨t, rfl⟩ := h.ext
  simp
theorem Md.put {gs : List Gate} {m : GMap} (h : Mk gs m) (hG : Good ins nx gs) {g : Gate} (hg : oneF (cc ins nx []) (gs.length : Int) g = 0) :
    Md ins nx gs (addG gs g) (putM gs m g) (gs.idxOf g) 1 (fun st inn => valG st inn (vals st inn gs) g) := by
  have hm := h.put g
  unfold addG at hm ⊢
  by_cases hx : g ∈ gs
  · rw [if_pos hx] at hm ⊢
    have hi := List.idxOf_lt_length_of_mem hx
    have hgi : gs[gs.idxOf g]? = some g := by
      rw [List.getElem?_eq_getElem hi]
      exact congrArg some (List.getElem_idxOf hi)
    exact ⟨hm, hG, ⟨[], by simp⟩, by omega, hi, fun st inn => val_at hG hgi st inn⟩
  · rw [if_neg hx] at hm ⊢
    have hG' : Good ins nx (gs ++ [g]) := by
      intro i y hy
      by_cases hi : i < gs.length
      · rw [List.getElem?_append_left hi] at hy; exact hG i y hy
      · have : i = gs.length := by
          have := get_lt hy
          rw [List.length_append, List.length_singleton] at this
          omega
        subst this
        rw [List.getElem?_append_right (Nat.le_refl _), Nat.sub_self] at hy
        cases hy
        exact hg
    have hgi : (gs ++ [g])[gs.length]? = some g := by simp
    rw [List.idxOf_eq_length hx]
    refine ⟨hm, hG', ⟨[g], rfl⟩, by simp, by simp, fun st inn => ?_⟩
    rw [val_at hG' hgi, valG_pre hg]
theorem Md.same {gs : List Gate} {m : GMap} (h : Mk gs m) (hG : Good ins nx gs) {r : Nat} (hr : r < gs.length) {n : Nat} : Md ins nx gs gs m r n (fun st inn => St.val gs st inn r) :=
  ⟨h, hG, ⟨[], by simp⟩, by omega, hr, fun _ _ => rfl⟩
theorem Md.to {gs gs' : List Gate} {m' : GMap} {r n n' : Nat} {F F' : Int → Int → Nat} (h : Md ins nx gs gs' m' r n F) (hn : n ≤ n') (hF : ∀ st inn, F st inn = F' st inn) : Md ins nx gs gs' m' r n' F' :=
  ⟨h.map, h.good, h.ext, by have := h.len; omega, h.lt, fun st inn => (h.val st inn).trans (hF st inn)⟩

theorem leg_zero {i n k : Int} (h : k ≥ n) : leg i n k 0 = 0 := by
  unfold leg; rw [if_neg (by omega), if_neg (by omega)]
theorem leg_in {i n k x : Int} (h : k < n) (h0 : 0 ≤ x) (h1 : x < i) : leg i n k x = 0 := by
  unfold leg; rw [if_neg (by omega), if_neg (by omega)]
theorem legs_zero {i : Int} {g : Gate} (h0 : leg i (needs g.1) 0 g.2.1 = 0) (h1 : leg i (needs g.1) 1 g.2.2.1 = 0) (h2 : leg i (needs g.1) 2 g.2.2.2.1 = 0) : legs i g = 0 := by
  unfold legs; rw [if_neg (by omega), if_neg (by omega), h2]
theorem one_zero {c : Cir} {i : Int} {g : Gate} (hk : ¬ (g.1 < 0 ∨ g.1 > 7)) (h0 : leg i (needs g.1) 0 g.2.1 = 0) (h1 : leg i (needs g.1) 1 g.2.2.1 = 0) (h2 : leg i (needs g.1) 2 g.2.2.2.1 = 0) (hn : 0 ≤ g.2.2.2.2 ∧ g.2.2.2.2 < mostN c g.1) : oneF c i g = 0 := by
  unfold oneF; rw [if_neg hk, if_neg (by rw [legs_zero h0 h1 h2]; omega), if_neg (by omega)]
theorem one_bit {c : Cir} {i n : Int} (hn : n = 0 ∨ n = 1) : oneF c i (0, 0, 0, 0, n) = 0 :=
  one_zero (by simp) (leg_zero (by simp [needs])) (leg_zero (by simp [needs])) (leg_zero (by simp [needs])) (by simp [mostN]; omega)
theorem one_not {c : Cir} {i a : Int} (h0 : 0 ≤ a) (h1 : a < i) : oneF c i (3, a, 0, 0, 0) = 0 :=
  one_zero (by simp) (leg_in (by simp [needs]) h0 h1) (leg_zero (by simp [needs])) (leg_zero (by simp [needs])) (by simp [mostN])
theorem one_mux {c : Cir} {i a b d : Int} (h0 : 0 ≤ a ∧ a < i) (h1 : 0 ≤ b ∧ b < i) (h2 : 0 ≤ d ∧ d < i) : oneF c i (7, a, b, d, 0) = 0 :=
  one_zero (by simp) (leg_in (by simp [needs]) h0.1 h0.2) (leg_in (by simp [needs]) h1.1 h1.2) (leg_in (by simp [needs]) h2.1 h2.2) (by simp [mostN])
/-- what a constant looks like -/
theorem const_form {c : Cir} {i : Int} {g : Gate} (h : oneF c i g = 0) (h0 : g.1 = 0) : g = (0, 0, 0, 0, g.2.2.2.2) ∧ (g.2.2.2.2 = 0 ∨ g.2.2.2.2 = 1) := by
  obtain ⟨kd, x, y, z, n⟩ := g
  simp only at h0
  subst h0
  unfold oneF at h
  rw [if_neg (by simp)] at h
  split at h
  · omega
  rename_i hl
  split at h
  · omega
  rename_i hn
  have e : needs 0 = 0 := rfl
  have lz : ∀ {k w : Int}, k ≥ 0 → leg i 0 k w = 0 → w = 0 := by
    intro k w hk hw
    unfold leg at hw
    rw [if_neg (by omega)] at hw
    by_cases h : w = 0
    · exact h
    · rw [if_pos ⟨hk, h⟩] at hw; omega
  have hl : legs i (0, x, y, z, n) = 0 := by
    by_cases h : legs i (0, x, y, z, n) = 0
    · exact h
    · exact absurd h hl
  unfold legs at hl
  simp only [e] at hl
  split at hl
  · rename_i h; exact absurd hl h
  rename_i a0
  split at hl
  · rename_i h; exact absurd hl h
  rename_i a1
  have mo : mostN c 0 = 2 := rfl
  have hx : x = 0 := lz (k := 0) (by omega) (by by_cases h : leg i 0 0 x = 0; exact h; exact absurd h a0)
  have hy : y = 0 := lz (k := 1) (by omega) (by by_cases h : leg i 0 1 y = 0; exact h; exact absurd h a1)
  have hz : z = 0 := lz (k := 2) (by omega) hl
  subst hx hy hz
  simp only [mo] at hn
  exact ⟨rfl, by simp only; omega⟩
theorem const_ev {gs : List Gate} {m : GMap} {a : Nat} {g : Gate} (h : gs[a]? = some g) (o0 : Unit × Unit) : Ev (fun k => constant150 k () (a : Int) o0 gs m) ((g.2.2.2.2, g.1 == 0, ()), o0, gs, m) := by
  unfold constant150
  exact .val (rd_some' h) (.val (rd_some' h) (.val (rd_some' h) (.val (rd_some' h) (.now _))))
end
end Go.Proofs.Ytjbdhaenakcclaa.St

/- Circuits from tables: a bit as a tree. No program in sight. -/
set_option linter.unusedVariables false
noncomputable section
namespace Go.Proofs.Ytjbdhaenakcclaa.St
open Go Go.Proofs.Ytjbdhaenakcclaa.Gp

section
variable {ins : Int} {nx : Nat}
end
end Go.Proofs.Ytjbdhaenakcclaa.St

/- Circuits from tables: what hangs on what. No program in sight. -/
set_option linter.unusedVariables false
noncomputable section
namespace Go.Proofs.Ytjbdhaenakcclaa.St
open Go Go.Proofs.Ytjbdhaenakcclaa.Gp

def onAt (S : List Bool) (j : Nat) : Prop := S[j]? = some true
/-- all that a gate hangs on is kept, but for the gates of E -/
def Kept (gs : List Gate) (S : List Bool) (E : Nat → Prop) : Prop := ∀ (j : Nat) (g : Gate), onAt S j → ¬ E j → gs[j]? = some g → (g.1 ≥ 3 → onAt S g.2.1.toNat) ∧ (g.1 > 3 → onAt S g.2.2.1.toNat) ∧ (g.1 = 7 → onAt S g.2.2.2.1.toNat)
structure More (gs : List Gate) (S S' : List Bool) : Prop where
  len : S'.length = S.length
  on : ∀ j, onAt S j → onAt S' j
theorem More.refl (gs : List Gate) (S : List Bool) : More gs S S := ⟨rfl, fun _ h => h⟩
theorem More.trans {gs : List Gate} {S S' S'' : List Bool} (h : More gs S S') (k : More gs S' S'') : More gs S S'' := ⟨k.len.trans h.len, fun j hj => k.on j (h.on j hj)⟩
theorem needs_of {kd : Int} (h : ¬ (kd < 0 ∨ kd > 7)) : (kd ≥ 3 → 0 < needs kd) ∧ (kd > 3 → 1 < needs kd) ∧ (kd = 7 → 2 < needs kd) := by
  rcases kinds h with rfl | rfl | rfl | rfl | rfl | rfl | rfl | rfl <;> decide
abbrev FarU := Unit × Cir × Unit × Unit
end Go.Proofs.Ytjbdhaenakcclaa.St

/- Circuits from tables: gates on which nothing hangs are left out. No program in sight. -/
set_option linter.unusedVariables false
set_option maxRecDepth 100000
noncomputable section
namespace Go.Proofs.Ytjbdhaenakcclaa.St
open Go Go.Proofs.Ytjbdhaenakcclaa.Gp

theorem oneF_cc (c : Cir) (gs : List Gate) (i : Int) (g : Gate) : oneF (cc c.1 c.2.2.2.1.length gs) i g = oneF c i g := by
  unfold oneF mostN cc
  simp only [List.length_replicate]
theorem gate_legs {c : Cir} {i : Int} {g : Gate} (h : oneF c i g = 0) : leg i (needs g.1) 0 g.2.1 = 0 ∧ leg i (needs g.1) 1 g.2.2.1 = 0 ∧ leg i (needs g.1) 2 g.2.2.2.1 = 0 := by
  unfold oneF at h
  split at h
  · omega
  split at h
  · omega
  rename_i hl
  have hl : legs i g = 0 := by
    by_cases h0 : legs i g = 0
    · exact h0
    · exact absurd h0 hl
  unfold legs at hl
  split at hl
  · rename_i h0; exact absurd hl h0
  rename_i h0
  split at hl
  · rename_i h1; exact absurd hl h1
  rename_i h1
  exact ⟨by by_cases h : leg i (needs g.1) 0 g.2.1 = 0; exact h; exact absurd h h0, by by_cases h : leg i (needs g.1) 1 g.2.2.1 = 0; exact h; exact absurd h h1, hl⟩
theorem leg_none {i n k x : Int} (h : leg i n k x = 0) (hk : k ≥ n) : x = 0 := by
  unfold leg at h
  rw [if_neg (by omega)] at h
  by_cases hx : x = 0
  · exact hx
  · rw [if_pos ⟨hk, hx⟩] at h; omega
theorem needs_not {kd : Int} (h : ¬ (kd < 0 ∨ kd > 7)) : (¬ kd ≥ 3 → 0 ≥ needs kd) ∧ (¬ kd > 3 → 1 ≥ needs kd) ∧ (¬ kd = 7 → 2 ≥ needs kd) := by
  rcases kinds h with rfl | rfl | rfl | rfl | rfl | rfl | rfl | rfl <;> decide
section
variable {ins : Int} {nx : Nat}
structure Ren (ins : Int) (nx : Nat) (gs : List Gate) (S : List Bool) (i : Nat) (to : List Int) (out : List Gate) : Prop where
  tolen : to.length = gs.length
  outlen : out.length ≤ i
  good : Good ins nx out
  at' : ∀ j, j < i → onAt S j → ∃ r : Nat, to[j]? = some (r : Int) ∧ r < out.length ∧ ∀ st inn, val out st inn r = val gs st inn j
/-- a gate with its operands' new numbers -/
structure New (gs : List Gate) (out : List Gate) (to : List Int) (g : Gate) (a b d : Int) : Prop where
  a3 : g.1 ≥ 3 → rd to g.2.1 = some a ∧ 0 ≤ a ∧ a < (out.length : Int) ∧ ∀ st inn, val out st inn a.toNat = val gs st inn g.2.1.toNat
  a0 : ¬ g.1 ≥ 3 → a = g.2.1
  b4 : g.1 > 3 → rd to g.2.2.1 = some b ∧ 0 ≤ b ∧ b < (out.length : Int) ∧ ∀ st inn, val out st inn b.toNat = val gs st inn g.2.2.1.toNat
  b0 : ¬ g.1 > 3 → b = g.2.2.1
  d7 : g.1 = 7 → rd to g.2.2.2.1 = some d ∧ 0 ≤ d ∧ d < (out.length : Int) ∧ ∀ st inn, val out st inn d.toNat = val gs st inn g.2.2.2.1.toNat
  d0 : ¬ g.1 = 7 → d = g.2.2.2.1
theorem new_of {gs : List Gate} {S : List Bool} {i : Nat} {to : List Int} {out : List Gate} {g : Gate} (hR : Ren ins nx gs S i to out) (hK : Kept gs S (fun _ => False)) (hgs : Good ins nx gs) (hg : gs[i]? = some g) (hon : onAt S i) : ∃ a b d, New gs out to g a b d := by
  obtain ⟨hkd, q0, q1, q2, _, _⟩ := gate_ok (hgs i g hg)
  obtain ⟨d0, d1, d2⟩ := needs_of hkd
  obtain ⟨k0, k1, k2⟩ := hK i g hon (fun h => h) hg
  have key : ∀ (p : Prop) [Decidable p] (x : Int), (p → 0 ≤ x ∧ x < (i : Int)) → (p → onAt S x.toNat) → ∃ r : Int, (p → rd to x = some r ∧ 0 ≤ r ∧ r < (out.length : Int) ∧ ∀ st inn, val out st inn r.toNat = val gs st inn x.toNat) ∧ (¬ p → r = x) := by
    intro p _ x h1 h2
    by_cases hp : p
    · obtain ⟨h0, hlt⟩ := h1 hp
      obtain ⟨r, e1, e2, e3⟩ := hR.at' x.toNat (by omega) (h2 hp)
      refine ⟨(r : Int), fun _ => ⟨rd_at (i := x.toNat) (by omega) e1, by omega, by omega, fun st inn => by rw [Int.toNat_natCast]; exact e3 st inn⟩, fun h => absurd hp h⟩
    · exact ⟨x, fun h => absurd h hp, fun _ => rfl⟩
  obtain ⟨a, a3, a0⟩ := key (g.1 ≥ 3) g.2.1 (fun h => q0 (d0 h)) k0
  obtain ⟨b, b4, b0⟩ := key (g.1 > 3) g.2.2.1 (fun h => q1 (d1 h)) k1
  obtain ⟨d, d7, dd⟩ := key (g.1 = 7) g.2.2.2.1 (fun h => q2 (d2 h)) k2
  exact ⟨a, b, d, ⟨a3, a0, b4, b0, d7, dd⟩⟩
theorem New.one {gs out : List Gate} {to : List Int} {g : Gate} {a b d : Int} {i : Int} (h : New gs out to g a b d) (hg : oneF (cc ins nx []) i g = 0) : oneF (cc ins nx []) (out.length : Int) (g.1, a, b, d, g.2.2.2.2) = 0 := by
  obtain ⟨hkd, _, _, _, n0, n1⟩ := gate_ok hg
  obtain ⟨l0, l1, l2⟩ := gate_legs hg
  obtain ⟨d0, d1, d2⟩ := needs_of hkd
  obtain ⟨z0, z1, z2⟩ := needs_not hkd
  refine one_zero hkd ?_ ?_ ?_ ⟨n0, n1⟩
  · by_cases h3 : g.1 ≥ 3
    · exact leg_in (d0 h3) (h.a3 h3).2.1 (h.a3 h3).2.2.1
    · show leg _ (needs g.1) 0 a = 0
      rw [h.a0 h3, leg_none l0 (z0 h3)]; exact leg_zero (z0 h3)
  · by_cases h3 : g.1 > 3
    · exact leg_in (d1 h3) (h.b4 h3).2.1 (h.b4 h3).2.2.1
    · show leg _ (needs g.1) 1 b = 0
      rw [h.b0 h3, leg_none l1 (z1 h3)]; exact leg_zero (z1 h3)
  · by_cases h3 : g.1 = 7
    · exact leg_in (d2 h3) (h.d7 h3).2.1 (h.d7 h3).2.2.1
    · show leg _ (needs g.1) 2 d = 0
      rw [h.d0 h3, leg_none l2 (z2 h3)]; exact leg_zero (z2 h3)
theorem New.val {gs out : List Gate} {to : List Int} {g : Gate} {a b d : Int} {i : Int} (h : New gs out to g a b d) (hg : oneF (cc ins nx []) i g = 0) (st inn : Int) : valG st inn (vals st inn out) (g.1, a, b, d, g.2.2.2.2) = valG st inn (vals st inn gs) g := by
  obtain ⟨hkd, _⟩ := gate_ok hg
  have e0 : g.1 ≥ 3 → (vals st inn out).getD a.toNat 0 = (vals st inn gs).getD g.2.1.toNat 0 := fun h3 => (h.a3 h3).2.2.2 st inn
  have e1 : g.1 > 3 → (vals st inn out).getD b.toNat 0 = (vals st inn gs).getD g.2.2.1.toNat 0 := fun h3 => (h.b4 h3).2.2.2 st inn
  have e2 : g.1 = 7 → (vals st inn out).getD d.toNat 0 = (vals st inn gs).getD g.2.2.2.1.toNat 0 := fun h3 => (h.d7 h3).2.2.2 st inn
  rcases kinds hkd with k | k | k | k | k | k | k | k
  · unfold valG; simp only [k, reduceIte]
  · unfold valG; simp only [k, reduceIte, Int.reduceEq]
  · unfold valG; simp only [k, reduceIte, Int.reduceEq]
  · unfold valG; simp only [k, reduceIte, Int.reduceEq, e0 (by omega)]
  · unfold valG; simp only [k, reduceIte, Int.reduceEq, e0 (by omega), e1 (by omega)]
  · unfold valG; simp only [k, reduceIte, Int.reduceEq, e0 (by omega), e1 (by omega)]
  · unfold valG; simp only [k, reduceIte, Int.reduceEq, e0 (by omega), e1 (by omega)]
  · unfold valG; simp only [k, reduceIte, Int.reduceEq, e0 (by omega), e1 (by omega), e2 k]
theorem good_snoc {gs : List Gate} {g : Gate} (hG : Good ins nx gs) (hg : oneF (cc ins nx []) (gs.length : Int) g = 0) : Good ins nx (gs ++ [g]) := by
  intro i y hy
  by_cases hi : i < gs.length
  · rw [List.getElem?_append_left hi] at hy; exact hG i y hy
  · have : i = gs.length := by
      have := get_lt hy
      rw [List.length_append, List.length_singleton] at this
      omega
    subst this
    rw [List.getElem?_append_right (Nat.le_refl _), Nat.sub_self] at hy
    cases hy
    exact hg
theorem val_new {gs : List Gate} {g : Gate} (hG : Good ins nx gs) (hg : oneF (cc ins nx []) (gs.length : Int) g = 0) (st inn : Int) : val (gs ++ [g]) st inn gs.length = valG st inn (vals st inn gs) g := by
  rw [val_at (good_snoc hG hg) (i := gs.length) (g := g) (by simp), valG_pre hg]
theorem Ren.skip {gs : List Gate} {S : List Bool} {i : Nat} {to : List Int} {out : List Gate} (h : Ren ins nx gs S i to out) (hoff : ¬ onAt S i) : Ren ins nx gs S (i + 1) to out := by
  refine ⟨h.tolen, by have := h.outlen; omega, h.good, fun j hj hon => ?_⟩
  by_cases hji : j = i
  · subst hji; exact absurd hon hoff
  · exact h.at' j (by omega) hon
theorem Ren.add {gs : List Gate} {S : List Bool} {i : Nat} {to : List Int} {out : List Gate} {g : Gate} {a b d : Int} (h : Ren ins nx gs S i to out) (hgs : Good ins nx gs) (hg : gs[i]? = some g) (hn : New gs out to g a b d) : Ren ins nx gs S (i + 1) (to.set i (out.length : Int)) (out ++ [(g.1, a, b, d, g.2.2.2.2)]) := by
  have h1 := hn.one (hgs i g hg)
  have hi := get_lt hg
  have ht := h.tolen
  refine ⟨by rw [List.length_set]; exact h.tolen, by have := h.outlen; rw [List.length_append, List.length_singleton]; omega, good_snoc h.good h1, fun j hj hon => ?_⟩
  by_cases hji : j = i
  · subst hji
    refine ⟨out.length, by rw [List.getElem?_set_self (by omega)], by simp, fun st inn => ?_⟩
    rw [val_new h.good h1, hn.val (hgs j g hg), val_at hgs hg]
  · obtain ⟨r, e1, e2, e3⟩ := h.at' j (by omega) hon
    refine ⟨r, by rw [List.getElem?_set_ne (fun e => hji e.symm)]; exact e1, by rw [List.length_append, List.length_singleton]; omega, fun st inn => ?_⟩
    rw [val_ext st inn e2]; exact e3 st inn
end
abbrev E0 := Int × Unit × Unit × Unit × Unit
abbrev E8 := Int × Unit × Unit × Unit × List Int
end Go.Proofs.Ytjbdhaenakcclaa.St

/- Circuits from tables: the circuit that is left does the same. No program in sight. -/
set_option linter.unusedVariables false
set_option maxRecDepth 100000
noncomputable section
namespace Go.Proofs.Ytjbdhaenakcclaa.St
open Go Go.Proofs.Ytjbdhaenakcclaa.Gp

def toF (to : List Int) (x : Int) : Int := to.getD x.toNat 0
theorem foldl_toF (to : List Int) (l : List Int) : l.foldl (fun o x => o ++ [toF to x]) [] = l.map (toF to) := by rw [foldl_snoc]; rfl
theorem outs_lp {c : Cir} {to : List Int} (l : List Int) (hlen : l.length ≤ 1000) (hl : ∀ x ∈ l, 0 ≤ x ∧ x.toNat < to.length) {St R : Type} {body : Nat → St → Option (St ⊕ R)} (st : List Int → Int → St) (fin : List Int → R)
    (hb : ∀ (i : Nat) (x r : Int) (o : List Int), i ≤ 1000 → o.length ≤ 1000 → l[i]? = some x → rd to x = some r → Ev (fun k => body k (st o (i : Int))) (.inl (st (o ++ [r]) ((i : Int) + 1))))
    (hd : ∀ o, Ev (fun k => body k (st o (l.length : Int))) (.inr (fin o))) : Lp body (st [] 0) (fin (l.map (toF to))) := by
  have := Lp.fold (body := body) l st (fun o x => o ++ [toF to x]) fin (fun i o => o.length = i) (fun i x o hx hi => ⟨?_, by simp [hi]⟩) (fun o _ => hd o) (b := []) rfl
  · rwa [foldl_toF] at this
  · have hi' := get_lt hx
    obtain ⟨h0, h1⟩ := hl x (get_mem hx)
    refine hb i x (toF to x) o (by omega) (by omega) hx (rd_at (i := x.toNat) (by omega) ?_)
    unfold toF
    rw [List.getD_eq_getElem?_getD, List.getElem?_eq_getElem h1]
    rfl
theorem kept0 (gs : List Gate) (n : Nat) : Kept gs (List.replicate n false) (fun _ => False) := by
  intro j g hj
  unfold onAt at hj
  rw [List.getElem?_replicate] at hj
  split at hj <;> cases hj
end Go.Proofs.Ytjbdhaenakcclaa.St

/- Smaller circuits: the maker, once more, with nothing built on constants. No program in sight. -/
set_option linter.unusedVariables false
set_option maxRecDepth 100000
noncomputable section
namespace Go.Proofs.Ytjbdhaenakcclaa.St
open Go Go.Proofs.Ytjbdhaenakcclaa.Gp

/-- is it no constant? -/
def NoK (gs : List Gate) (x : Int) : Prop := ∀ g, gs[x.toNat]? = some g → g.1 ≠ 0
def NC1 (gs : List Gate) (g : Gate) : Prop := (g.1 ≥ 3 → NoK gs g.2.1) ∧ (g.1 = 4 ∨ g.1 = 5 ∨ g.1 = 6 → NoK gs g.2.2.1)
def NC (gs : List Gate) : Prop := ∀ (i : Nat) (g : Gate), gs[i]? = some g → NC1 gs g
section
variable {ins : Int} {nx : Nat}
theorem NC1.app {gs : List Gate} {g : Gate} (h : NC1 gs g) {i : Int} (hg : oneF (cc ins nx []) i g = 0) (hi : i ≤ (gs.length : Int)) (t : List Gate) : NC1 (gs ++ t) g := by
  obtain ⟨hkd, q0, q1, q2, _, _⟩ := gate_ok hg
  obtain ⟨d0, d1, d2⟩ := needs_of hkd
  refine ⟨fun h3 x hx => ?_, fun h4 x hx => ?_⟩
  · have := q0 (d0 h3)
    rw [List.getElem?_append_left (by omega)] at hx
    exact h.1 h3 x hx
  · have := q1 (d1 (by omega))
    rw [List.getElem?_append_left (by omega)] at hx
    exact h.2 h4 x hx
theorem NC.add {gs : List Gate} (h : NC gs) (hG : Good ins nx gs) {g : Gate} (hg : oneF (cc ins nx []) (gs.length : Int) g = 0) (hn : NC1 gs g) : NC (addG gs g) := by
  unfold addG
  split
  · exact h
  · intro i y hy
    by_cases hi : i < gs.length
    · rw [List.getElem?_append_left hi] at hy
      exact (h i y hy).app (hG i y hy) (by omega) [g]
    · have : i = gs.length := by
        have := get_lt hy
        rw [List.length_append, List.length_singleton] at this
        omega
      subst this
      rw [List.getElem?_append_right (Nat.le_refl _), Nat.sub_self] at hy
      cases hy
      exact hn.app hg (Int.le_refl _) [g]
def Does2 (ins : Int) (nx : Nat) (gs : List Gate) (f : Nat → Option (Int × ((Unit × Unit) × ((List Gate) × GMap)))) (o0 : Unit × Unit) (n : Nat) (F : Int → Int → Nat) : Prop :=
  ∃ gs' m' r, Md ins nx gs gs' m' r n F ∧ NC gs' ∧ Ev f ((r : Int), o0, gs', m')
theorem put2 {gs : List Gate} {m : GMap} (h : Mk gs m) (hG : Good ins nx gs) (hN : NC gs) (hl : gs.length ≤ 100000) (o0 : Unit × Unit) {g : Gate} (hg : oneF (cc ins nx []) (gs.length : Int) g = 0) (hn : NC1 gs g) :
    Does2 ins nx gs (fun k => put107 k () g o0 gs m) o0 1 (fun st inn => valG st inn (vals st inn gs) g) :=
  ⟨_, _, _, Md.put h hG hg, hN.add hG hg hn, put_ev h hl g o0⟩
theorem nc_low {gs : List Gate} {g : Gate} (h : g.1 < 3) : NC1 gs g := ⟨fun h3 => absurd h3 (by omega), fun h4 => absurd h4 (by omega)⟩
theorem bit2 {gs : List Gate} {m : GMap} (h : Mk gs m) (hG : Good ins nx gs) (hN : NC gs) (hl : gs.length ≤ 100000) (o0 : Unit × Unit) {n : Int} (hn : n = 0 ∨ n = 1) : Does2 ins nx gs (fun k => bit135 k () n o0 gs m) o0 1 (fun _ _ => n.toNat) := by
  obtain ⟨gs', m', r, ho, hN', he⟩ := put2 h hG hN hl o0 (g := (0, 0, 0, 0, n)) (one_bit hn) (nc_low (by show (0:Int) < 3; decide))
  refine ⟨gs', m', r, ho.to (Nat.le_refl _) (fun st inn => by simp [valG]), hN', ?_⟩
  unfold bit135
  exact .bind he (.now _)
theorem noK_at {gs : List Gate} {a : Nat} {g : Gate} (h : gs[a]? = some g) (h0 : g.1 ≠ 0) : NoK gs (a : Int) := fun x hx => by
  rw [Int.toNat_natCast, h] at hx
  cases hx
  exact h0
theorem not2 {gs : List Gate} {m : GMap} (h : Mk gs m) (hG : Good ins nx gs) (hN : NC gs) (hl : gs.length ≤ 100000) (o0 : Unit × Unit) {a : Nat} (ha : a < gs.length) : Does2 ins nx gs (fun k => not138 k () (a : Int) o0 gs m) o0 1 (fun st inn => 1 - val gs st inn a) := by
  have hga : gs[a]? = some gs[a] := List.getElem?_eq_getElem ha
  generalize gs[a] = g at hga
  have hg := hG a g hga
  have hv := fun st inn => val_at hG hga st inn
  unfold not138
  by_cases h0 : g.1 = 0
  · obtain ⟨hf, hn⟩ := const_form hg h0
    obtain ⟨gs', m', r, ho, hN', he⟩ := bit2 h hG hN hl o0 (n := 1 - g.2.2.2.2) (by omega)
    refine ⟨gs', m', r, ho.to (Nat.le_refl _) (fun st inn => ?_), hN', .bind (const_ev hga o0) (.yes (by rw [h0]; rfl) ?_)⟩
    · rw [hv, valG, if_pos h0]
      rcases hn with e | e <;> rw [e] <;> rfl
    · simp only [w64_id (x := 1 - g.2.2.2.2) (by omega) (by omega)]
      exact .bind he (.now _)
  · by_cases h3 : g.1 = 3
    · obtain ⟨_, hx, _⟩ := gate_ok hg
      have hx := hx (by rw [h3]; decide)
      obtain ⟨b, hb⟩ : ∃ b : Nat, g.2.1 = (b : Int) := ⟨g.2.1.toNat, by omega⟩
      refine ⟨gs, m, b, (Md.same h hG (by omega)).to (Nat.zero_le _) (fun st inn => ?_), hN, .bind (const_ev hga o0) (.no (beq_false_of_ne h0) (.val (rd_some' hga) (.val (rd_some' hga) (.yes (by rw [h3]; rfl) (.now' (by rw [hb]))))))⟩
      rw [hv, valG, if_neg h0, if_neg (by omega), if_neg (by omega), if_pos h3, hb, Int.toNat_natCast]
      have := hG.val_le st inn b
      show val gs st inn b = 1 - (1 - val gs st inn b)
      omega
    · obtain ⟨gs', m', r, ho, hN', he⟩ := put2 h hG hN hl o0 (g := (3, (a : Int), 0, 0, 0)) (one_not (by omega) (by omega)) ⟨fun _ => noK_at hga h0, fun h4 => absurd h4 (by show ¬((3:Int) = 4 ∨ (3:Int) = 5 ∨ (3:Int) = 6); decide)⟩
      refine ⟨gs', m', r, ho.to (Nat.le_refl _) (fun st inn => by simp [valG, val]), hN', .bind (const_ev hga o0) (.no (beq_false_of_ne h0) (.val (rd_some' hga) (.val (rd_some' hga) (.no (beq_false_of_ne h3) (.bind he (.now _))))))⟩
theorem mux2 {gs : List Gate} {m : GMap} (h : Mk gs m) (hG : Good ins nx gs) (hN : NC gs) (hl : gs.length ≤ 100000) (o0 : Unit × Unit) {a b c : Nat} (ha : a < gs.length) (hb : b < gs.length) (hc : c < gs.length) :
    Does2 ins nx gs (fun k => mux136 k () (a : Int) (b : Int) (c : Int) o0 gs m) o0 1 (fun st inn => if val gs st inn a = 1 then val gs st inn b else val gs st inn c) := by
  have hga : gs[a]? = some gs[a] := List.getElem?_eq_getElem ha
  have hgb : gs[b]? = some gs[b] := List.getElem?_eq_getElem hb
  have hgc : gs[c]? = some gs[c] := List.getElem?_eq_getElem hc
  generalize gs[a] = g at hga
  generalize gs[b] = x at hgb
  generalize gs[c] = y at hgc
  have hva := fun st inn => val_at hG hga st inn
  have hvb := fun st inn => val_at hG hgb st inn
  have hvc := fun st inn => val_at hG hgc st inn
  unfold mux136
  by_cases h0 : g.1 = 0
  · obtain ⟨hf, hn⟩ := const_form (hG a g hga) h0
    rcases hn with e | e
    · refine ⟨gs, m, c, (Md.same h hG hc).to (Nat.zero_le _) (fun st inn => ?_), hN, .bind (const_ev hga o0) (.yes (by rw [h0]; rfl) (.no (by rw [e]; rfl) (.now _)))⟩
      rw [if_neg (by rw [hva, valG, if_pos h0, e]; decide)]
    · refine ⟨gs, m, b, (Md.same h hG hb).to (Nat.zero_le _) (fun st inn => ?_), hN, .bind (const_ev hga o0) (.yes (by rw [h0]; rfl) (.yes (by rw [e]; rfl) (.now _)))⟩
      rw [if_pos (by rw [hva, valG, if_pos h0, e]; decide)]
  by_cases hbc : b = c
  · subst hbc
    refine ⟨gs, m, b, (Md.same h hG hb).to (Nat.zero_le _) (fun st inn => by simp), hN, .bind (const_ev hga o0) (.no (beq_false_of_ne h0) (.bind (const_ev hgb o0) (.bind (const_ev hgc o0) (.yes (by simp) (.now _)))))⟩
  have hbc' : ((b : Int) == (c : Int)) = false := beq_false_of_ne (by omega)
  by_cases hcc : x.1 = 0 ∧ y.1 = 0
  · obtain ⟨hx, hy⟩ := hcc
    obtain ⟨fx, nx'⟩ := const_form (hG b x hgb) hx
    obtain ⟨fy, ny⟩ := const_form (hG c y hgc) hy
    have hne : x.2.2.2.2 ≠ y.2.2.2.2 := by
      intro e
      have hxy : x = y := by rw [fx, fy, e]
      subst hxy
      have h1 := (List.getElem?_eq_some_iff.1 hgb).2
      have h2 := (List.getElem?_eq_some_iff.1 hgc).2
      have hp := List.pairwise_iff_getElem.1 h.dif
      rcases Nat.lt_or_gt_of_ne hbc with hlt | hlt
      · exact hp b c hb hc hlt (h1.trans h2.symm)
      · exact hp c b hc hb hlt (h2.trans h1.symm)
    by_cases e1 : x.2.2.2.2 = 1
    · refine ⟨gs, m, a, (Md.same h hG ha).to (Nat.zero_le _) (fun st inn => ?_), hN, .bind (const_ev hga o0) (.no (beq_false_of_ne h0) (.bind (const_ev hgb o0) (.bind (const_ev hgc o0) (.no hbc' (.yes (by rw [hx, hy, e1]; rfl) (.now _))))))⟩
      have := hG.val_le st inn a
      rw [hvb, hvc]
      unfold valG
      rw [if_pos hx, if_pos hy, e1, show y.2.2.2.2 = 0 by omega]
      split
      · rename_i e; rw [e]; rfl
      · rename_i e; show _ = 0; omega
    · obtain ⟨gs', m', r, ho, hN', he⟩ := not2 h hG hN hl o0 ha
      refine ⟨gs', m', r, ho.to (Nat.le_refl _) (fun st inn => ?_), hN', .bind (const_ev hga o0) (.no (beq_false_of_ne h0) (.bind (const_ev hgb o0) (.bind (const_ev hgc o0) (.no hbc' (.no (by rw [hx, hy]; simpa using e1) (.yes (by rw [hx, hy]; rfl) (.bind he (.now _))))))))⟩
      have := hG.val_le st inn a
      rw [hvb, hvc]
      unfold valG
      rw [if_pos hx, if_pos hy, show x.2.2.2.2 = 0 by omega, show y.2.2.2.2 = 1 by omega]
      split
      · rename_i e; rw [e]; rfl
      · rename_i e; show _ = 1; omega
  · have hcc' : cond (x.1 == 0) (y.1 == 0) false = false := by
      by_cases hx : x.1 = 0
      · rw [hx]; exact beq_false_of_ne (fun hy => hcc ⟨hx, hy⟩)
      · rw [beq_false_of_ne hx]; rfl
    obtain ⟨gs', m', r, ho, hN', he⟩ := put2 h hG hN hl o0 (g := (7, (a : Int), (b : Int), (c : Int), 0)) (one_mux (by omega) (by omega) (by omega)) ⟨fun _ => noK_at hga h0, fun h4 => absurd h4 (by show ¬((7:Int) = 4 ∨ (7:Int) = 5 ∨ (7:Int) = 6); decide)⟩
    refine ⟨gs', m', r, ho.to (Nat.le_refl _) (fun st inn => by simp [valG, val]), hN', .bind (const_ev hga o0) (.no (beq_false_of_ne h0) (.bind (const_ev hgb o0) (.bind (const_ev hgc o0) (.no hbc' (.no ?_ (.no hcc' (.bind he (.now _))))))))⟩
    show cond (cond (x.1 == 0) (y.1 == 0) false) _ false = false
    rw [hcc']; rfl
/-- is one the opposite of the other? -/
theorem opp_ev {gs : List Gate} {m : GMap} (o0 : Unit × Unit) {a b : Nat} {x y : Gate} (hx : gs[a]? = some x) (hy : gs[b]? = some y) : Ev (fun k => opposite151 k () (a : Int) (b : Int) o0 gs m) (cond (cond (x.1 == 3) (x.2.1 == (b : Int)) false) true (cond (y.1 == 3) (y.2.1 == (a : Int)) false), o0, gs, m) := by
  have ex := rd_some' hx
  have ey := rd_some' hy
  unfold opposite151
  simp only [ex, ey, Option.bind_some, agree_self]
  exact .now _
theorem opp_val {gs : List Gate} (hG : Good ins nx gs) {a b : Nat} {x : Gate} (hx : gs[a]? = some x) (h3 : x.1 = 3) (hb : x.2.1 = (b : Int)) (st inn : Int) : val gs st inn a = 1 - val gs st inn b := by
  rw [val_at hG hx, valG, if_neg (by omega), if_neg (by omega), if_neg (by omega), if_pos h3, hb, Int.toNat_natCast]
  rfl
theorem opp_cases {gs : List Gate} (hG : Good ins nx gs) {a b : Nat} {x y : Gate} (hx : gs[a]? = some x) (hy : gs[b]? = some y) (h : cond (cond (x.1 == 3) (x.2.1 == (b : Int)) false) true (cond (y.1 == 3) (y.2.1 == (a : Int)) false) = true) (st inn : Int) : val gs st inn a + val gs st inn b = 1 := by
  have ha := hG.val_le st inn a
  have hb := hG.val_le st inn b
  by_cases h1 : x.1 = 3 ∧ x.2.1 = (b : Int)
  · have := opp_val hG hx h1.1 h1.2 st inn
    omega
  · have : y.1 = 3 ∧ y.2.1 = (a : Int) := by
      have e1 : cond (x.1 == 3) (x.2.1 == (b : Int)) false = false := by
        by_cases h3 : x.1 = 3
        · rw [h3]; exact beq_false_of_ne (fun hb => h1 ⟨h3, hb⟩)
        · rw [beq_false_of_ne h3]; rfl
      rw [e1] at h
      have h : cond (y.1 == 3) (y.2.1 == (a : Int)) false = true := h
      by_cases h3 : y.1 = 3
      · rw [h3] at h
        exact ⟨h3, by simpa using h⟩
      · rw [beq_false_of_ne h3] at h; cases h
    have := opp_val hG hy this.1 this.2 st inn
    omega
theorem one_two {c : Cir} {i kd a b : Int} (hk : kd = 4 ∨ kd = 5 ∨ kd = 6) (h0 : 0 ≤ a ∧ a < i) (h1 : 0 ≤ b ∧ b < i) : oneF c i (kd, a, b, 0, 0) = 0 := by
  rcases hk with rfl | rfl | rfl <;> exact one_zero (by simp) (leg_in (by simp [needs]) h0.1 h0.2) (leg_in (by simp [needs]) h1.1 h1.2) (leg_zero (by simp [needs])) (by simp [mostN])
end
end Go.Proofs.Ytjbdhaenakcclaa.St

/- Smaller circuits: and, or, exclusive or of two gates; a gate made again. No program in sight. -/
set_option linter.unusedVariables false
set_option maxRecDepth 100000
noncomputable section
namespace Go.Proofs.Ytjbdhaenakcclaa.St
open Go Go.Proofs.Ytjbdhaenakcclaa.Gp

def opF (kd : Int) (p q : Nat) : Nat := if kd = 4 then p &&& q else if kd = 5 then p ||| q else p ^^^ q
theorem opF_tab : ∀ p, p < 2 → ∀ q, q < 2 → (1 &&& q = q ∧ 0 &&& q = 0 ∧ 0 ||| q = q ∧ 1 ||| q = 1 ∧ 0 ^^^ q = q ∧ 1 ^^^ q = 1 - q) ∧ (p &&& p = p ∧ p ||| p = p ∧ p ^^^ p = 0) ∧ (p + q = 1 → p &&& q = 0 ∧ p ||| q = 1 ∧ p ^^^ q = 1) ∧ (p &&& q = q &&& p ∧ p ||| q = q ||| p ∧ p ^^^ q = q ^^^ p) := by
  intro p hp q hq
  have hp : p = 0 ∨ p = 1 := by omega
  have hq : q = 0 ∨ q = 1 := by omega
  rcases hp with rfl | rfl <;> rcases hq with rfl | rfl <;> decide
theorem opF_comm {kd : Int} {p q : Nat} (hp : p ≤ 1) (hq : q ≤ 1) : opF kd p q = opF kd q p := by
  have t := (opF_tab p (by omega) q (by omega)).2.2.2
  unfold opF
  rw [t.1, t.2.1, t.2.2]
abbrev L0R := (Unit × (Unit × Unit) × List Gate × GMap) ⊕ (Int × (Unit × Unit) × List Gate × GMap)
section
variable {ins : Int} {nx : Nat}
def oneOf (kd : Int) : Int := if kd = 5 then 0 else 1
theorem both_core {gs : List Gate} {m : GMap} (h : Mk gs m) (hG : Good ins nx gs) (hN : NC gs) (hl : gs.length ≤ 100000) (o0 : Unit × Unit) {kd : Int} (hk : kd = 4 ∨ kd = 5) {a b : Nat} (ha : a < gs.length) (hb : b < gs.length) :
    Does2 ins nx gs (fun k => Option.bind (loopN (both139.l0 k (oneOf kd) (a : Int) (b : Int)) k ((), (), 0, o0, gs, m, [[(a : Int), (b : Int)], [(b : Int), (a : Int)]]) : Option L0R) (joined fun ((_, o0_4, o1_4, o2_4) : Unit × (Unit × Unit) × List Gate × GMap) =>
      cond ((a : Int) == (b : Int)) (some ((a : Int), o0_4, o1_4, o2_4)) ((opposite151 k () (a : Int) (b : Int) o0_4 o1_4 o2_4).bind fun t58 =>
        cond t58.1 ((bit135 k () (w64 (1 - oneOf kd)) t58.2.1 t58.2.2.1 t58.2.2.2).bind fun t62 => some (t62.1, t62.2.1, t62.2.2.1, t62.2.2.2))
          ((put107 k () (kd, (a : Int), (b : Int), 0, 0) t58.2.1 t58.2.2.1 t58.2.2.2).bind fun t68 => some (t68.1, t68.2.1, t68.2.2.1, t68.2.2.2))))) o0 1 (fun st inn => opF kd (val gs st inn a) (val gs st inn b)) := by
  have hga : gs[a]? = some gs[a] := List.getElem?_eq_getElem ha
  have hgb : gs[b]? = some gs[b] := List.getElem?_eq_getElem hb
  generalize gs[a] = x at hga
  generalize gs[b] = y at hgb
  have hva := fun st inn => val_at hG hga st inn
  have hvb := fun st inn => val_at hG hgb st inn
  have la := fun st inn => hG.val_le st inn a
  have lb := fun st inn => hG.val_le st inn b
  have tab := fun st inn => opF_tab (val gs st inn a) (by have := la st inn; omega) (val gs st inn b) (by have := lb st inn; omega)
  have tab' := fun st inn => opF_tab (val gs st inn b) (by have := lb st inn; omega) (val gs st inn a) (by have := la st inn; omega)
  by_cases hx : x.1 = 0
  · obtain ⟨_, hn⟩ := const_form (hG a x hga) hx
    have hv : ∀ st inn, val gs st inn a = x.2.2.2.2.toNat := fun st inn => by rw [hva, valG, if_pos hx]
    by_cases h1 : x.2.2.2.2 = oneOf kd
    · refine ⟨gs, m, b, (Md.same h hG hb).to (Nat.zero_le _) (fun st inn => ?_), hN, .joinR (Lp.ev (.done ?_))⟩
      · have t := (tab st inn).1
        show val gs st inn b = _
        rw [hv st inn, h1]
        unfold opF oneOf
        rcases hk with rfl | rfl
        · exact t.1.symm
        · exact t.2.2.1.symm
      · simp only [both139.l0]
        exact .yes rfl (.val rfl (.val rfl (.val (a := (a : Int)) rfl (.bind (const_ev hga o0) (.yes (by rw [hx]; rfl) (.yes (by rw [h1]; simp) (.val (a := (b : Int)) rfl (.now _))))))))
    · refine ⟨gs, m, a, (Md.same h hG ha).to (Nat.zero_le _) (fun st inn => ?_), hN, .joinR (Lp.ev (.done ?_))⟩
      · have t := (tab st inn).1
        show val gs st inn a = _
        unfold oneOf at h1
        unfold opF
        rcases hk with rfl | rfl
        · have e : val gs st inn a = 0 := by
            rw [hv st inn]
            have : x.2.2.2.2 = 0 := by
              rcases hn with e | e
              · exact e
              · exact absurd e h1
            rw [this]; rfl
          rw [e]
          exact t.2.1.symm
        · have e : val gs st inn a = 1 := by
            rw [hv st inn]
            have : x.2.2.2.2 = 1 := by
              rcases hn with e | e
              · exact absurd e h1
              · exact e
            rw [this]; rfl
          rw [e]
          exact t.2.2.2.1.symm
      · simp only [both139.l0]
        exact .yes rfl (.val rfl (.val rfl (.val (a := (a : Int)) rfl (.bind (const_ev hga o0) (.yes (by rw [hx]; rfl) (.no (beq_false_of_ne h1) (.val (a := (a : Int)) rfl (.now _))))))))
  have s0 : Ev (fun k => both139.l0 k (oneOf kd) (a : Int) (b : Int) ((), (), 0, o0, gs, m, [[(a : Int), (b : Int)], [(b : Int), (a : Int)]])) (.inl ((), (), 1, o0, gs, m, [[(a : Int), (b : Int)], [(b : Int), (a : Int)]])) := by
    simp only [both139.l0]
    exact .yes rfl (.val rfl (.val rfl (.val (a := (a : Int)) rfl (.bind (const_ev hga o0) (.no (beq_false_of_ne hx) (.now' (by rw [w64_id (by omega) (by omega)]; rfl)))))))
  by_cases hy : y.1 = 0
  · obtain ⟨_, hn⟩ := const_form (hG b y hgb) hy
    have hv : ∀ st inn, val gs st inn b = y.2.2.2.2.toNat := fun st inn => by rw [hvb, valG, if_pos hy]
    by_cases h1 : y.2.2.2.2 = oneOf kd
    · refine ⟨gs, m, a, (Md.same h hG ha).to (Nat.zero_le _) (fun st inn => ?_), hN, .joinR (Lp.ev (.step s0 (.done ?_)))⟩
      · have t := (tab' st inn).1
        show val gs st inn a = _
        rw [opF_comm (la st inn) (lb st inn), hv st inn, h1]
        unfold opF oneOf
        rcases hk with rfl | rfl
        · exact t.1.symm
        · exact t.2.2.1.symm
      · simp only [both139.l0]
        exact .yes rfl (.val rfl (.val rfl (.val (a := (b : Int)) rfl (.bind (const_ev hgb o0) (.yes (by rw [hy]; rfl) (.yes (by rw [h1]; simp) (.val (a := (a : Int)) rfl (.now _))))))))
    · refine ⟨gs, m, b, (Md.same h hG hb).to (Nat.zero_le _) (fun st inn => ?_), hN, .joinR (Lp.ev (.step s0 (.done ?_)))⟩
      · have t := (tab' st inn).1
        show val gs st inn b = _
        rw [opF_comm (la st inn) (lb st inn)]
        unfold oneOf at h1
        unfold opF
        rcases hk with rfl | rfl
        · have e : val gs st inn b = 0 := by
            rw [hv st inn]
            have : y.2.2.2.2 = 0 := by
              rcases hn with e | e
              · exact e
              · exact absurd e h1
            rw [this]; rfl
          rw [e]
          exact t.2.1.symm
        · have e : val gs st inn b = 1 := by
            rw [hv st inn]
            have : y.2.2.2.2 = 1 := by
              rcases hn with e | e
              · exact absurd e h1
              · exact e
            rw [this]; rfl
          rw [e]
          exact t.2.2.2.1.symm
      · simp only [both139.l0]
        exact .yes rfl (.val rfl (.val rfl (.val (a := (b : Int)) rfl (.bind (const_ev hgb o0) (.yes (by rw [hy]; rfl) (.no (beq_false_of_ne h1) (.val (a := (b : Int)) rfl (.now _))))))))
  have lp : Gp.Lp (fun k => both139.l0 k (oneOf kd) (a : Int) (b : Int)) ((), (), 0, o0, gs, m, [[(a : Int), (b : Int)], [(b : Int), (a : Int)]]) (.inl ((), o0, gs, m) : L0R) := by
    refine .step s0 (.step (s' := ((), (), 2, o0, gs, m, [[(a : Int), (b : Int)], [(b : Int), (a : Int)]])) ?_ (.done ?_))
    · simp only [both139.l0]
      exact .yes rfl (.val rfl (.val rfl (.val (a := (b : Int)) rfl (.bind (const_ev hgb o0) (.no (beq_false_of_ne hy) (.now' (by rw [w64_id (by omega) (by omega)]; rfl)))))))
    · simp only [both139.l0]
      exact .no rfl (.now _)
  by_cases hab : a = b
  · subst hab
    refine ⟨gs, m, a, (Md.same h hG ha).to (Nat.zero_le _) (fun st inn => ?_), hN, .joinL (S := Unit) lp.ev (.yes (by simp) (.now _))⟩
    have t := (tab st inn).2.1
    unfold opF
    rcases hk with rfl | rfl
    · exact t.1.symm
    · exact t.2.1.symm
  have hab' : ((a : Int) == (b : Int)) = false := beq_false_of_ne (by omega)
  have hop := opp_ev (m := m) o0 hga hgb
  cases ho : cond (cond (x.1 == 3) (x.2.1 == (b : Int)) false) true (cond (y.1 == 3) (y.2.1 == (a : Int)) false) with
  | true =>
    rw [ho] at hop
    have hb1 : w64 (1 - oneOf kd) = 1 - oneOf kd := w64_id (by unfold oneOf; split <;> omega) (by unfold oneOf; split <;> omega)
    obtain ⟨gs', m', r, hm, hN', he⟩ := bit2 h hG hN hl o0 (n := 1 - oneOf kd) (by unfold oneOf; split <;> omega)
    refine ⟨gs', m', r, hm.to (Nat.le_refl _) (fun st inn => ?_), hN', .joinL (S := Unit) lp.ev (.no hab' (.bind hop (.yes rfl ?_)))⟩
    · have t := (tab st inn).2.2.1 (opp_cases hG hga hgb ho st inn)
      unfold opF oneOf
      rcases hk with rfl | rfl
      · exact t.1.symm
      · exact t.2.1.symm
    · simp only [hb1]
      exact .bind he (.now _)
  | false =>
    rw [ho] at hop
    obtain ⟨gs', m', r, hm, hN', he⟩ := put2 h hG hN hl o0 (g := (kd, (a : Int), (b : Int), 0, 0)) (one_two (by omega) (by omega) (by omega)) ⟨fun _ => noK_at hga hx, fun _ => noK_at hgb hy⟩
    refine ⟨gs', m', r, hm.to (Nat.le_refl _) (fun st inn => ?_), hN', .joinL (S := Unit) lp.ev (.no hab' (.bind hop (.no rfl (.bind he (.now _)))))⟩
    rcases hk with rfl | rfl
    · simp [valG, val, opF]
    · simp [valG, val, opF]
theorem both2 {gs : List Gate} {m : GMap} (h : Mk gs m) (hG : Good ins nx gs) (hN : NC gs) (hl : gs.length ≤ 100000) {kd : Int} (hk : kd = 4 ∨ kd = 5) {a b : Nat} (ha : a < gs.length) (hb : b < gs.length) :
    Does2 ins nx gs (fun k => both139 k () kd (a : Int) (b : Int) ((), ()) gs m) ((), ()) 1 (fun st inn => opF kd (val gs st inn a) (val gs st inn b)) := by
  have h1 : Ev (fun (k : Nat) => (cond (kd == 5) (some ((), (0 : Int), ((), ()), gs, m)) (some ((), (1 : Int), ((), ()), gs, m)) : Option (Unit × Int × (Unit × Unit) × List Gate × GMap))) ((), oneOf kd, ((), ()), gs, m) := by
    rcases hk with rfl | rfl
    · exact .no rfl (.now _)
    · exact .yes rfl (.now _)
  by_cases hab : a > b
  · obtain ⟨gs', m', r, hm, hN', he⟩ := both_core h hG hN hl ((), ()) hk hb ha
    refine ⟨gs', m', r, hm.to (Nat.le_refl _) (fun st inn => opF_comm (hG.val_le st inn b) (hG.val_le st inn a)), hN', ?_⟩
    unfold both139
    exact .bind h1 (.bind (.yes (decide_eq_true (by omega)) (.now _)) he)
  · obtain ⟨gs', m', r, hm, hN', he⟩ := both_core h hG hN hl ((), ()) hk ha hb
    refine ⟨gs', m', r, hm, hN', ?_⟩
    unfold both139
    exact .bind h1 (.bind (.no (decide_eq_false (by omega)) (.now _)) he)
theorem xor_core {gs : List Gate} {m : GMap} (h : Mk gs m) (hG : Good ins nx gs) (hN : NC gs) (hl : gs.length ≤ 100000) (o0 : Unit × Unit) {a b : Nat} (ha : a < gs.length) (hb : b < gs.length) :
    Does2 ins nx gs (fun k => Option.bind (loopN (xor140.l0 k (a : Int) (b : Int)) k ((), (), 0, o0, gs, m, [[(a : Int), (b : Int)], [(b : Int), (a : Int)]]) : Option L0R) (joined fun ((_, o0_3, o1_3, o2_3) : Unit × (Unit × Unit) × List Gate × GMap) =>
      cond ((a : Int) == (b : Int)) ((bit135 k () 0 o0_3 o1_3 o2_3).bind fun t50 => some (t50.1, t50.2.1, t50.2.2.1, t50.2.2.2)) ((opposite151 k () (a : Int) (b : Int) o0_3 o1_3 o2_3).bind fun t55 =>
        cond t55.1 ((bit135 k () 1 t55.2.1 t55.2.2.1 t55.2.2.2).bind fun t57 => some (t57.1, t57.2.1, t57.2.2.1, t57.2.2.2))
          ((put107 k () (6, (a : Int), (b : Int), 0, 0) t55.2.1 t55.2.2.1 t55.2.2.2).bind fun t62 => some (t62.1, t62.2.1, t62.2.2.1, t62.2.2.2))))) o0 1 (fun st inn => opF 6 (val gs st inn a) (val gs st inn b)) := by
  have hga : gs[a]? = some gs[a] := List.getElem?_eq_getElem ha
  have hgb : gs[b]? = some gs[b] := List.getElem?_eq_getElem hb
  generalize gs[a] = x at hga
  generalize gs[b] = y at hgb
  have hva := fun st inn => val_at hG hga st inn
  have hvb := fun st inn => val_at hG hgb st inn
  have la := fun st inn => hG.val_le st inn a
  have lb := fun st inn => hG.val_le st inn b
  have tab := fun st inn => opF_tab (val gs st inn a) (by have := la st inn; omega) (val gs st inn b) (by have := lb st inn; omega)
  have tab' := fun st inn => opF_tab (val gs st inn b) (by have := lb st inn; omega) (val gs st inn a) (by have := la st inn; omega)
  have e6 : ∀ p q, opF 6 p q = p ^^^ q := fun p q => rfl
  by_cases hx : x.1 = 0
  · obtain ⟨_, hn⟩ := const_form (hG a x hga) hx
    have hv : ∀ st inn, val gs st inn a = x.2.2.2.2.toNat := fun st inn => by rw [hva, valG, if_pos hx]
    by_cases h1 : x.2.2.2.2 = 1
    · obtain ⟨gs', m', r, hm, hN', he⟩ := not2 h hG hN hl o0 hb
      refine ⟨gs', m', r, hm.to (Nat.le_refl _) (fun st inn => ?_), hN', .joinR (Lp.ev (.done ?_))⟩
      · rw [e6, hv st inn, h1]
        exact (tab st inn).1.2.2.2.2.2.symm
      · simp only [xor140.l0]
        exact .yes rfl (.val rfl (.val rfl (.val (a := (a : Int)) rfl (.bind (const_ev hga o0) (.yes (by rw [hx]; rfl) (.yes (by rw [h1]; rfl) (.val (a := (b : Int)) rfl (.bind he (.now _)))))))))
    · refine ⟨gs, m, b, (Md.same h hG hb).to (Nat.zero_le _) (fun st inn => ?_), hN, .joinR (Lp.ev (.done ?_))⟩
      · rw [e6, hv st inn, show x.2.2.2.2 = 0 by omega]
        exact (tab st inn).1.2.2.2.2.1.symm
      · simp only [xor140.l0]
        exact .yes rfl (.val rfl (.val rfl (.val (a := (a : Int)) rfl (.bind (const_ev hga o0) (.yes (by rw [hx]; rfl) (.no (beq_false_of_ne h1) (.val (a := (b : Int)) rfl (.now _))))))))
  have s0 : Ev (fun k => xor140.l0 k (a : Int) (b : Int) ((), (), 0, o0, gs, m, [[(a : Int), (b : Int)], [(b : Int), (a : Int)]])) (.inl ((), (), 1, o0, gs, m, [[(a : Int), (b : Int)], [(b : Int), (a : Int)]])) := by
    simp only [xor140.l0]
    exact .yes rfl (.val rfl (.val rfl (.val (a := (a : Int)) rfl (.bind (const_ev hga o0) (.no (beq_false_of_ne hx) (.now' (by rw [w64_id (by omega) (by omega)]; rfl)))))))
  by_cases hy : y.1 = 0
  · obtain ⟨_, hn⟩ := const_form (hG b y hgb) hy
    have hv : ∀ st inn, val gs st inn b = y.2.2.2.2.toNat := fun st inn => by rw [hvb, valG, if_pos hy]
    by_cases h1 : y.2.2.2.2 = 1
    · obtain ⟨gs', m', r, hm, hN', he⟩ := not2 h hG hN hl o0 ha
      refine ⟨gs', m', r, hm.to (Nat.le_refl _) (fun st inn => ?_), hN', .joinR (Lp.ev (.step s0 (.done ?_)))⟩
      · rw [opF_comm (la st inn) (lb st inn), e6, hv st inn, h1]
        exact (tab' st inn).1.2.2.2.2.2.symm
      · simp only [xor140.l0]
        exact .yes rfl (.val rfl (.val rfl (.val (a := (b : Int)) rfl (.bind (const_ev hgb o0) (.yes (by rw [hy]; rfl) (.yes (by rw [h1]; rfl) (.val (a := (a : Int)) rfl (.bind he (.now _)))))))))
    · refine ⟨gs, m, a, (Md.same h hG ha).to (Nat.zero_le _) (fun st inn => ?_), hN, .joinR (Lp.ev (.step s0 (.done ?_)))⟩
      · rw [opF_comm (la st inn) (lb st inn), e6, hv st inn, show y.2.2.2.2 = 0 by omega]
        exact (tab' st inn).1.2.2.2.2.1.symm
      · simp only [xor140.l0]
        exact .yes rfl (.val rfl (.val rfl (.val (a := (b : Int)) rfl (.bind (const_ev hgb o0) (.yes (by rw [hy]; rfl) (.no (beq_false_of_ne h1) (.val (a := (a : Int)) rfl (.now _))))))))
  have lp : Gp.Lp (fun k => xor140.l0 k (a : Int) (b : Int)) ((), (), 0, o0, gs, m, [[(a : Int), (b : Int)], [(b : Int), (a : Int)]]) (.inl ((), o0, gs, m) : L0R) := by
    refine .step s0 (.step (s' := ((), (), 2, o0, gs, m, [[(a : Int), (b : Int)], [(b : Int), (a : Int)]])) ?_ (.done ?_))
    · simp only [xor140.l0]
      exact .yes rfl (.val rfl (.val rfl (.val (a := (b : Int)) rfl (.bind (const_ev hgb o0) (.no (beq_false_of_ne hy) (.now' (by rw [w64_id (by omega) (by omega)]; rfl)))))))
    · simp only [xor140.l0]
      exact .no rfl (.now _)
  by_cases hab : a = b
  · subst hab
    obtain ⟨gs', m', r, hm, hN', he⟩ := bit2 h hG hN hl o0 (n := 0) (.inl rfl)
    refine ⟨gs', m', r, hm.to (Nat.le_refl _) (fun st inn => ?_), hN', .joinL (S := Unit) lp.ev (.yes (by simp) (.bind he (.now _)))⟩
    rw [e6]
    exact (tab st inn).2.1.2.2.symm
  have hab' : ((a : Int) == (b : Int)) = false := beq_false_of_ne (by omega)
  have hop := opp_ev (m := m) o0 hga hgb
  cases ho : cond (cond (x.1 == 3) (x.2.1 == (b : Int)) false) true (cond (y.1 == 3) (y.2.1 == (a : Int)) false) with
  | true =>
    rw [ho] at hop
    obtain ⟨gs', m', r, hm, hN', he⟩ := bit2 h hG hN hl o0 (n := 1) (.inr rfl)
    refine ⟨gs', m', r, hm.to (Nat.le_refl _) (fun st inn => ?_), hN', .joinL (S := Unit) lp.ev (.no hab' (.bind hop (.yes rfl (.bind he (.now _)))))⟩
    rw [e6]
    exact ((tab st inn).2.2.1 (opp_cases hG hga hgb ho st inn)).2.2.symm
  | false =>
    rw [ho] at hop
    obtain ⟨gs', m', r, hm, hN', he⟩ := put2 h hG hN hl o0 (g := (6, (a : Int), (b : Int), 0, 0)) (one_two (by omega) (by omega) (by omega)) ⟨fun _ => noK_at hga hx, fun _ => noK_at hgb hy⟩
    refine ⟨gs', m', r, hm.to (Nat.le_refl _) (fun st inn => ?_), hN', .joinL (S := Unit) lp.ev (.no hab' (.bind hop (.no rfl (.bind he (.now _)))))⟩
    simp [valG, val, opF]
theorem xor2 {gs : List Gate} {m : GMap} (h : Mk gs m) (hG : Good ins nx gs) (hN : NC gs) (hl : gs.length ≤ 100000) {a b : Nat} (ha : a < gs.length) (hb : b < gs.length) :
    Does2 ins nx gs (fun k => xor140 k () (a : Int) (b : Int) ((), ()) gs m) ((), ()) 1 (fun st inn => opF 6 (val gs st inn a) (val gs st inn b)) := by
  by_cases hab : a > b
  · obtain ⟨gs', m', r, hm, hN', he⟩ := xor_core h hG hN hl ((), ()) hb ha
    refine ⟨gs', m', r, hm.to (Nat.le_refl _) (fun st inn => opF_comm (hG.val_le st inn b) (hG.val_le st inn a)), hN', ?_⟩
    unfold xor140
    exact .bind (.yes (decide_eq_true (by omega)) (.now _)) he
  · obtain ⟨gs', m', r, hm, hN', he⟩ := xor_core h hG hN hl ((), ()) ha hb
    refine ⟨gs', m', r, hm, hN', ?_⟩
    unfold xor140
    exact .bind (.no (decide_eq_false (by omega)) (.now _)) he
end
end Go.Proofs.Ytjbdhaenakcclaa.St

/- Smaller circuits: marks reach no further than they must. No program in sight. -/
set_option linter.unusedVariables false
set_option maxRecDepth 100000
noncomputable section
namespace Go.Proofs.Ytjbdhaenakcclaa.St
open Go Go.Proofs.Ytjbdhaenakcclaa.Gp

def Leg (g : Gate) (x : Int) : Prop := (g.1 ≥ 3 ∧ x = g.2.1) ∨ (g.1 > 3 ∧ x = g.2.2.1) ∨ (g.1 = 7 ∧ x = g.2.2.2.1)
inductive Dn (gs : List Gate) : Nat → Nat → Prop where
  | refl (k : Nat) : Dn gs k k
  | leg {k : Nat} {g : Gate} {x : Int} {j : Nat} : gs[k]? = some g → Leg g x → Dn gs x.toNat j → Dn gs k j
theorem Kept.leg {gs : List Gate} {S : List Bool} (h : Kept gs S (fun _ => False)) {j : Nat} {g : Gate} (hj : onAt S j) (hg : gs[j]? = some g) {x : Int} (hx : Leg g x) : onAt S x.toNat := by
  obtain ⟨a, b, c⟩ := h j g hj (fun h => h) hg
  rcases hx with ⟨h1, rfl⟩ | ⟨h1, rfl⟩ | ⟨h1, rfl⟩
  · exact a h1
  · exact b h1
  · exact c h1
theorem Dn.on {gs : List Gate} {S : List Bool} (h : Kept gs S (fun _ => False)) {k j : Nat} (hd : Dn gs k j) : onAt S k → onAt S j := by
  induction hd with
  | refl k => exact fun h => h
  | leg hg hl _ ih => exact fun hk => ih (h.leg hk hg hl)
theorem Dn.last {gs : List Gate} {S : List Bool} (h : Kept gs S (fun _ => False)) {k j : Nat} (hd : Dn gs k j) : onAt S k → j = k ∨ ∃ i g x, gs[i]? = some g ∧ onAt S i ∧ Leg g x ∧ x.toNat = j := by
  induction hd with
  | refl k => exact fun _ => .inl rfl
  | leg hg hl _ ih =>
    intro hk
    rcases ih (h.leg hk hg hl) with e | e
    · exact .inr ⟨_, _, _, hg, hk, hl, e.symm⟩
    · exact .inr e
theorem mark_more {c : Cir} (hG : ∀ (i : Nat) (g : Gate), c.2.1[i]? = some g → oneF c i g = 0) : ∀ (n k : Nat), k < n → k < c.2.1.length → ∀ (S : List Bool) (E : Nat → Prop), S.length = c.2.1.length → Kept c.2.1 S E →
    ∃ S', More c.2.1 S S' ∧ onAt S' k ∧ Kept c.2.1 S' E ∧ (∀ j, onAt S' j → onAt S j ∨ Dn c.2.1 k j) ∧ Ev (fun f => Grpswept1137 f (k : Int) () c () () S ((), c, (), ())) ((), (), S', ((), c, (), ())) := by
  intro n
  induction n with
  | zero => intro k hk; omega
  | succ n ih =>
    intro k hk hkl S E hS hE
    have hg : c.2.1[k]? = some c.2.1[k] := List.getElem?_eq_getElem hkl
    generalize c.2.1[k] = g at hg
    obtain ⟨hkd, q0, q1, q2, _, _⟩ := gate_ok (hG k g hg)
    obtain ⟨d0, d1, d2⟩ := needs_of hkd
    have hb : S[k]? = some S[k] := List.getElem?_eq_getElem (by omega)
    generalize hbv : S[k]'(by omega) = b at hb
    cases b with
    | true =>
      refine ⟨S, More.refl _ _, hb, hE, fun j h => .inl h, Ev.succ ?_⟩
      show Ev (fun f => swept1137.b (Grpswept1137 f) f (k : Int) () c () () S ((), c, (), ())) _
      unfold swept1137.b
      exact .val (rd_some' hb) (.val (rd_some' hb) (.yes rfl (.now _)))
    | false =>
      -- the gate itself
      have e0 : Kept c.2.1 (S.set k true) (fun j => E j ∨ j = k) := by
        intro j g' hj hn hg'
        have hne : j ≠ k := fun e => hn (.inr e)
        have hj' : onAt S j := by unfold onAt at hj ⊢; rwa [List.getElem?_set_ne (fun e => hne e.symm)] at hj
        have up : ∀ x, onAt S x → onAt (S.set k true) x := by
          intro x hx
          unfold onAt at hx ⊢
          by_cases e : k = x
          · subst e; rw [hb] at hx; cases hx
          · rwa [List.getElem?_set_ne e]
        obtain ⟨a1, a2, a3⟩ := hE j g' hj' (fun h => hn (.inl h)) hg'
        exact ⟨fun h => up _ (a1 h), fun h => up _ (a2 h), fun h => up _ (a3 h)⟩
      have m0 : More c.2.1 S (S.set k true) := by
        refine ⟨List.length_set .., fun j hj => ?_⟩
        unfold onAt at hj ⊢
        by_cases e : k = j
        · subst e; rw [hb] at hj; cases hj
        · rwa [List.getElem?_set_ne e]
      have on0 : onAt (S.set k true) k := by
        unfold onAt
        rw [List.getElem?_set_self (by omega)]
      have w0 : ∀ j, onAt (S.set k true) j → onAt S j ∨ j = k := fun j hj => by
        unfold onAt at hj ⊢
        by_cases e : k = j
        · exact .inr e.symm
        · rw [List.getElem?_set_ne e] at hj; exact .inl hj
      -- one of the three
      have step : ∀ (i : Nat) (x : Int) (act : Bool) (S1 : List Bool), i < 3 → rd ([g.2.1, g.2.2.1, g.2.2.2.1] : List Int) (i : Int) = some x → (act = true → 0 ≤ x ∧ x < (k : Int)) → cond (decide (g.1 ≥ 3)) (cond (cond ((i : Int) == 0) true (cond ((i : Int) == 1) (decide (g.1 > 3)) false)) true (g.1 == 7)) false = act →
          S1.length = c.2.1.length → Kept c.2.1 S1 (fun j => E j ∨ j = k) → ∃ S2, More c.2.1 S1 S2 ∧ Kept c.2.1 S2 (fun j => E j ∨ j = k) ∧ (act = true → onAt S2 x.toNat) ∧ (∀ j, onAt S2 j → onAt S1 j ∨ (act = true ∧ Dn c.2.1 x.toNat j)) ∧
          Ev (fun f => swept1137.l0 (Grpswept1137 f) f g ((), g, (), (i : Int), (), S1, ((), c, (), ()), [g.2.1, g.2.2.1, g.2.2.2.1])) (.inl ((), g, (), ((i + 1 : Nat) : Int), (), S2, ((), c, (), ()), [g.2.1, g.2.2.1, g.2.2.2.1])) := by
        intro i x act S1 hi hx hact hc hS1 hE1
        cases act with
        | false =>
          refine ⟨S1, More.refl _ _, hE1, fun h => (by cases h), fun j h => .inl h, ?_⟩
          simp only [swept1137.l0]
          refine .yes (decide_eq_true (by simp only [List.length_cons, List.length_nil]; omega)) (.val hx (.val hx (.bind (a := ((), g, (), (), S1, ((), c, (), ()), [g.2.1, g.2.2.1, g.2.2.2.1])) (.no hc (.now _)) (.now' ?_))))
          rw [w64_succ (by omega)]
        | true =>
          obtain ⟨h0, h1⟩ := hact rfl
          obtain ⟨y, hy⟩ : ∃ y : Nat, x = (y : Int) := ⟨x.toNat, by omega⟩
          subst hy
          obtain ⟨S2, m2, on2, e2, w2, ev⟩ := ih y (by omega) (by omega) S1 (fun j => E j ∨ j = k) hS1 hE1
          refine ⟨S2, m2, e2, fun _ => by rw [Int.toNat_natCast]; exact on2, fun j hj => (w2 j hj).imp_right fun h => ⟨rfl, by rw [Int.toNat_natCast]; exact h⟩, ?_⟩
          simp only [swept1137.l0]
          refine .yes (decide_eq_true (by simp only [List.length_cons, List.length_nil]; omega)) (.val hx (.val hx (.bind (a := ((), g, (), (), S2, ((), c, (), ()), [g.2.1, g.2.2.1, g.2.2.2.1])) (.yes hc (.bind ev (.now _))) (.now' ?_))))
          rw [w64_succ (by omega)]
      obtain ⟨S1, m1, k1, a1, w1, v1⟩ := step 0 g.2.1 (decide (g.1 ≥ 3)) (S.set k true) (by decide) rfl (fun h => q0 (d0 (of_decide_eq_true h))) (by cases decide (g.1 ≥ 3) <;> rfl) (m0.len.trans hS) e0
      obtain ⟨S2, m2, k2, a2, w2, v2⟩ := step 1 g.2.2.1 (decide (g.1 > 3)) S1 (by decide) rfl (fun h => q1 (d1 (of_decide_eq_true h))) (by
        rcases kinds hkd with h | h | h | h | h | h | h | h <;> rw [h] <;> rfl) (m1.len.trans (m0.len.trans hS)) k1
      obtain ⟨S3, m3, k3, a3, w3, v3⟩ := step 2 g.2.2.2.1 (decide (g.1 = 7)) S2 (by decide) rfl (fun h => q2 (d2 (of_decide_eq_true h))) (by
        rcases kinds hkd with h | h | h | h | h | h | h | h <;> rw [h] <;> rfl) (m2.len.trans (m1.len.trans (m0.len.trans hS))) k2
      refine ⟨S3, m0.trans (m1.trans (m2.trans m3)), m3.on k (m2.on k (m1.on k on0)), fun j g' hj hn hg' => ?_, fun j hj => ?_, Ev.succ ?_⟩
      · by_cases hjk : j = k
        · subst hjk
          rw [hg] at hg'
          cases hg'
          exact ⟨fun h => m3.on _ (m2.on _ (a1 (decide_eq_true h))), fun h => m3.on _ (a2 (decide_eq_true h)), fun h => a3 (decide_eq_true h)⟩
        · exact k3 j g' hj (fun h => h.elim hn hjk) hg'
      · rcases w3 j hj with hj | ⟨h, hd⟩
        · rcases w2 j hj with hj | ⟨h, hd⟩
          · rcases w1 j hj with hj | ⟨h, hd⟩
            · rcases w0 j hj with hj | rfl
              · exact .inl hj
              · exact .inr (.refl _)
            · exact .inr (.leg hg (.inl ⟨of_decide_eq_true h, rfl⟩) hd)
          · exact .inr (.leg hg (.inr (.inl ⟨of_decide_eq_true h, rfl⟩)) hd)
        · exact .inr (.leg hg (.inr (.inr ⟨of_decide_eq_true h, rfl⟩)) hd)
      · show Ev (fun f => swept1137.b (Grpswept1137 f) f (k : Int) () c () () S ((), c, (), ())) _
        unfold swept1137.b
        have hlp : Lp (fun f => swept1137.l0 (Grpswept1137 f) f g) ((), g, (), 0, (), S.set k true, ((), c, (), ()), [g.2.1, g.2.2.1, g.2.2.2.1]) ((), S3, ((), c, (), ())) := by
          refine .step v1 (.step v2 (.step v3 (.done ?_)))
          simp only [swept1137.l0]
          exact .no rfl (.now _)
        exact .val (rd_some' hb) (.val (rd_some' hb) (.no rfl (.val (rd_some' hb) (.val (rd_some' hb) (.val (rd_some' hg) (.bind hlp.ev (.now _)))))))
/-- marks for a whole list -/
theorem marks_more {c : Cir} (hG : ∀ (i : Nat) (g : Gate), c.2.1[i]? = some g → oneF c i g = 0) {St : Type} {R : Type} {body : Nat → St → Option (St ⊕ R)} (l : List Int) (hl : ∀ x ∈ l, 0 ≤ x ∧ x < (c.2.1.length : Int)) (st : Int → List Bool → St)
    (hb : ∀ (i : Nat) (x : Int) (S S' : List Bool), l[i]? = some x → Ev (fun f => swept1137 f x () c () () S ((), c, (), ())) ((), (), S', ((), c, (), ())) → Ev (fun f => body f (st (i : Int) S)) (.inl (st ((i + 1 : Nat) : Int) S')))
    (fin : List Bool → R) (hd : ∀ S, Ev (fun f => body f (st (l.length : Int) S)) (.inr (fin S))) : ∀ (suf pre : List Int), l = pre ++ suf → ∀ S, S.length = c.2.1.length → Kept c.2.1 S (fun _ => False) →
    ∃ S', More c.2.1 S S' ∧ Kept c.2.1 S' (fun _ => False) ∧ (∀ x ∈ suf, onAt S' x.toNat) ∧ (∀ j, onAt S' j → onAt S j ∨ ∃ x ∈ suf, Dn c.2.1 x.toNat j) ∧ Lp body (st (pre.length : Int) S) (fin S') := by
  intro suf
  induction suf with
  | nil =>
    intro pre h S hS hK
    rw [List.append_nil] at h
    subst h
    exact ⟨S, More.refl _ _, hK, fun x hx => (by cases hx), fun j h => .inl h, .done (hd S)⟩
  | cons x suf ih =>
    intro pre h S hS hK
    have hx : l[pre.length]? = some x := by rw [h]; simp
    obtain ⟨h0, h1⟩ := hl x (get_mem hx)
    obtain ⟨y, hy⟩ : ∃ y : Nat, x = (y : Int) := ⟨x.toNat, by omega⟩
    subst hy
    obtain ⟨S1, m1, on1, k1, w1, v1⟩ := mark_more hG c.2.1.length y (by omega) (by omega) S (fun _ => False) hS hK
    obtain ⟨S2, m2, k2, on2, w2, v2⟩ := ih (pre ++ [(y : Int)]) (by rw [h]; simp) S1 (m1.len.trans hS) k1
    rw [List.length_append, List.length_singleton] at v2
    refine ⟨S2, m1.trans m2, k2, fun z hz => ?_, fun j hj => ?_, .step (hb pre.length (y : Int) S S1 hx v1) v2⟩
    · rcases List.mem_cons.1 hz with rfl | hz
      · rw [Int.toNat_natCast]; exact m2.on _ on1
      · exact on2 z hz
    · rcases w2 j hj with hj | ⟨z, hz, hd⟩
      · rcases w1 j hj with hj | hd
        · exact .inl hj
        · exact .inr ⟨(y : Int), List.mem_cons_self, by rw [Int.toNat_natCast]; exact hd⟩
      · exact .inr ⟨z, List.mem_cons_of_mem _ hz, hd⟩
end Go.Proofs.Ytjbdhaenakcclaa.St
