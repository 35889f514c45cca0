/- Merged texts of one claim: a Go law, its functions without memory, and the plain law. The law returns true for every input; conditions: as the row says. -/
import Derived.Test.YtcppmlgnceldmaaCGt0
import Derived.Test.YtcppmlgnceldmaaCGt1
import Derived.Test.YtcppmlgnceldmaaCGt2
import Derived.Test.YtcppmlgnceldmaaCGt3
/- Go functions as plain Lean functions, and their contracts. -/
set_option linter.unusedVariables false
set_option maxRecDepth 100000
noncomputable section
namespace Go.Proofs.Ytcppmlgnceldmaa.Ge
open Go Go.Proofs.Ytcppmlgnceldmaa.Gp
def operands48 (k : Nat) : Option (((List Int) × ((List ByteArray) × Unit)) × Unit) :=
  some ((([0, 1, 1, 1, 2, 2, 2, 1, 1] : List Int), [(ByteArray.mk #[]), (ByteArray.mk #[32, 35, 63]), (ByteArray.mk #[32, 42, 63]), (ByteArray.mk #[32, 42, 63, 44, 120]), (ByteArray.mk #[32, 63]), (ByteArray.mk #[32, 63, 44, 120]), (ByteArray.mk #[32, 63, 44, 121]), (ByteArray.mk #[32, 64, 63]), (ByteArray.mk #[32, 40, 63, 41, 44, 121])], ()), ())
def operands48.A : Ann := { conds := [], blocks := [], loops := [], keeps := [], orders := [] }
def operands48.S : Sig := { f := 48, params := [], objs := [], res := .tup (.pair (.sl (.int .i64)) (.pair (.sl .str) .unit)), outs := [], fix := [], run := fun k ds os => operands48 k }
def operands48.G : List Sig := []
theorem operands48.eq (k : Nat) : ∀ ds os, operands48.S.run k ds os = runF ⟨types, operands48.G, operands48.A, k, 0, []⟩ Try.f48 (codeOf Try.f48) operands48.S.params operands48.S.objs operands48.S.res operands48.S.outs ds os := by
  intro ds os; kernel_rfl
theorem operands48.dr : DrOk Try.prog operands48.A (codeOf Try.f48) := ⟨by kernel_rfl, by kernel_rfl⟩
theorem operands48.ok (k : Nat) : SoundAt Try.prog k operands48.S :=
  runF_sound (X := ⟨types, operands48.G, operands48.A, k, 0, []⟩) types_ok (fun s hs => absurd hs List.not_mem_nil) (fn := Try.f48) (c := codeOf Try.f48) rfl (by kernel_rfl) rfl rfl operands48.dr (operands48.eq k)

def with49.l0 (k : Nat) (c : (ByteArray × ((List (Int × (ByteArray × (Int × (List (Int × (Int × (Int × (List (Int × (Int × (Int × Int)))))))))))) × ((List (Int × (Int × (Int × (List (Int × (Int × (Int × Int)))))))) × ((List (Int × (Int × (Int × (List (Int × (Int × (Int × Int)))))))) × (List (Int × (Int × (Int × (List (Int × (Int × (Int × Int))))))))))))) (op : Int) : (Unit × (Int × (Int × (ByteArray × (Int × Unit))))) → Option ((Unit × (Int × (Int × (ByteArray × (Int × Unit))))) ⊕ ((Unit × (Int × (ByteArray × (Int × Unit)))) ⊕ (((Int × (ByteArray × (Int × (List (Int × (Int × (Int × (List (Int × (Int × (Int × Int))))))))))) × (Bool × Unit)) × Unit)))
  | (_, t11, o0) =>
    cond (decide (t11 < (List.length c.2.1 : Int)))
      ((rd c.2.1 t11).bind fun t13 =>
      cond (t13.1 == op)
        (some (Sum.inr (Sum.inr ((t13, true, ()), ()))))
        (some (Sum.inl ((), (w64 (t11 + 1)), o0))))
      (some (Sum.inr (Sum.inl ((), o0))))
def with49 (k : Nat) (c : (ByteArray × ((List (Int × (ByteArray × (Int × (List (Int × (Int × (Int × (List (Int × (Int × (Int × Int)))))))))))) × ((List (Int × (Int × (Int × (List (Int × (Int × (Int × Int)))))))) × ((List (Int × (Int × (Int × (List (Int × (Int × (Int × Int)))))))) × (List (Int × (Int × (Int × (List (Int × (Int × (Int × Int))))))))))))) (op : Int) : Option (((Int × (ByteArray × (Int × (List (Int × (Int × (Int × (List (Int × (Int × (Int × Int))))))))))) × (Bool × Unit)) × Unit) :=
  Option.bind
    (loopN (with49.l0 k c op) k ((), 0, 0, (ByteArray.mk #[]), 0, ()) : Option ((Unit × (Int × (ByteArray × (Int × Unit)))) ⊕ (((Int × (ByteArray × (Int × (List (Int × (Int × (Int × (List (Int × (Int × (Int × Int))))))))))) × (Bool × Unit)) × Unit))) (joined fun ((_, _) : (Unit × (Int × (ByteArray × (Int × Unit))))) =>
    some (((0, (ByteArray.mk #[]), 0, []), false, ()), ()))
def with49.A : Ann := { conds := [], blocks := [(0, ⟨[(4, .ptr 0 [])], [(0, .var (.st (.pair (.int .i64) (.pair .str (.pair (.int .i64) .nil)))))], 1, [], 2095264⟩)], loops := [(2, ⟨[(4, .ptr 0 []), (11, .int .i64)], [(0, .var (.st (.pair (.int .i64) (.pair .str (.pair (.int .i64) .nil)))))], 1, [], 2095264⟩)], keeps := [2, 7], orders := [] }
def with49.S : Sig := { f := 49, params := [.st (.pair .str (.pair (.sl (.st (.pair (.int .i64) (.pair .str (.pair (.int .i64) (.sl (.st (.pair (.int .i64) (.pair (.int .i64) (.pair (.int .i64) (.sl (.st (.pair (.int .i64) (.pair (.int .i64) (.pair (.int .i64) (.int .i64)))))))))))))))) (.pair (.sl (.st (.pair (.int .i64) (.pair (.int .i64) (.pair (.int .i64) (.sl (.st (.pair (.int .i64) (.pair (.int .i64) (.pair (.int .i64) (.int .i64))))))))))) (.pair (.sl (.st (.pair (.int .i64) (.pair (.int .i64) (.pair (.int .i64) (.sl (.st (.pair (.int .i64) (.pair (.int .i64) (.pair (.int .i64) (.int .i64))))))))))) (.sl (.st (.pair (.int .i64) (.pair (.int .i64) (.pair (.int .i64) (.sl (.st (.pair (.int .i64) (.pair (.int .i64) (.pair (.int .i64) (.int .i64))))))))))))))), .int .i64], objs := [], res := .tup (.pair (.st (.pair (.int .i64) (.pair .str (.pair (.int .i64) (.sl (.st (.pair (.int .i64) (.pair (.int .i64) (.pair (.int .i64) (.sl (.st (.pair (.int .i64) (.pair (.int .i64) (.pair (.int .i64) (.int .i64))))))))))))))) (.pair .bool .unit)), outs := [], fix := [], run := fun k ds os => with49 k ds.1 ds.2 }
def with49.G : List Sig := []
theorem with49.eq (k : Nat) : ∀ ds os, with49.S.run k ds os = runF ⟨types, with49.G, with49.A, k, 0, []⟩ Try.f49 (codeOf Try.f49) with49.S.params with49.S.objs with49.S.res with49.S.outs ds os := by
  intro ds os; kernel_rfl
theorem with49.dr : DrOk Try.prog with49.A (codeOf Try.f49) := ⟨by kernel_rfl, by kernel_rfl⟩
theorem with49.ok (k : Nat) : SoundAt Try.prog k with49.S :=
  runF_sound (X := ⟨types, with49.G, with49.A, k, 0, []⟩) types_ok (fun s hs => absurd hs List.not_mem_nil) (fn := Try.f49) (c := codeOf Try.f49) rfl (by kernel_rfl) rfl rfl with49.dr (with49.eq k)

def TestsOf151 (k : Nat) (y : (Int × (ByteArray × (Int × (List (Int × (Int × (Int × (List (Int × (Int × (Int × Int)))))))))))) (t1 : (ByteArray × Int)) : Option (Bool × Unit) :=
  some ((cond (streq y.2.1 t1.1) (y.2.2.1 == t1.2) false), ())
def TestsOf151.A : Ann := { conds := [], blocks := [], loops := [], keeps := [2], orders := [] }
def TestsOf151.S : Sig := { f := 51, params := [.st (.pair (.int .i64) (.pair .str (.pair (.int .i64) (.sl (.st (.pair (.int .i64) (.pair (.int .i64) (.pair (.int .i64) (.sl (.st (.pair (.int .i64) (.pair (.int .i64) (.pair (.int .i64) (.int .i64)))))))))))))), .fp (.st (.pair .str (.int .i64)))], objs := [], res := .bool, outs := [], fix := [], run := fun k ds os => TestsOf151 k ds.1 ds.2 }
def TestsOf151.G : List Sig := []
theorem TestsOf151.eq (k : Nat) : ∀ ds os, TestsOf151.S.run k ds os = runF ⟨types, TestsOf151.G, TestsOf151.A, k, 0, []⟩ Try.f51 (codeOf Try.f51) TestsOf151.S.params TestsOf151.S.objs TestsOf151.S.res TestsOf151.S.outs ds os := by
  intro ds os; kernel_rfl
theorem TestsOf151.dr : DrOk Try.prog TestsOf151.A (codeOf Try.f51) := ⟨by kernel_rfl, by kernel_rfl⟩
theorem TestsOf151.ok (k : Nat) : SoundAt Try.prog k TestsOf151.S :=
  runF_sound (X := ⟨types, TestsOf151.G, TestsOf151.A, k, 0, []⟩) types_ok (fun s hs => absurd hs List.not_mem_nil) (fn := Try.f51) (c := codeOf Try.f51) rfl (by kernel_rfl) rfl rfl TestsOf151.dr (TestsOf151.eq k)

def IndexFunc50'''.l0 (k : Nat) (s : (List (Int × (ByteArray × (Int × (List (Int × (Int × (Int × (List (Int × (Int × (Int × Int))))))))))))) : (((ByteArray × Int) × Unit) × Int) → Option ((((ByteArray × Int) × Unit) × Int) ⊕ (Unit ⊕ (Int × Unit)))
  | (f_1, t8) =>
    cond (decide (t8 < (List.length s : Int)))
      ((rd s t8).bind fun t14 =>
      (TestsOf151 k t14 f_1.1).bind fun t16 =>
      cond t16.1
        (some (Sum.inr (Sum.inr (t8, ()))))
        (some (Sum.inl (f_1, (w64 (t8 + 1))))))
      (some (Sum.inr (Sum.inl ())))
def IndexFunc50''' (k : Nat) (s : (List (Int × (ByteArray × (Int × (List (Int × (Int × (Int × (List (Int × (Int × (Int × Int))))))))))))) (f : ((ByteArray × Int) × Unit)) : Option (Int × Unit) :=
  Option.bind
    (loopN (IndexFunc50'''.l0 k s) k (f, 0) : Option (Unit ⊕ (Int × Unit))) (joined fun (_ : Unit) =>
    some ((-1), ()))
def IndexFunc50'''.A : Ann := { conds := [], blocks := [(0, ⟨[], [], 0, [], 524080⟩)], loops := [(2, ⟨[(1, .fn 51 (.pair (.fp (.st (.pair .str (.int .i64)))) .unit)), (8, .int .i64)], [], 0, [], 524080⟩)], keeps := [], orders := [] }
def IndexFunc50'''.S : Sig := { f := 50, params := [.sl (.st (.pair (.int .i64) (.pair .str (.pair (.int .i64) (.sl (.st (.pair (.int .i64) (.pair (.int .i64) (.pair (.int .i64) (.sl (.st (.pair (.int .i64) (.pair (.int .i64) (.pair (.int .i64) (.int .i64))))))))))))))), .fn 51 (.pair (.fp (.st (.pair .str (.int .i64)))) .unit)], objs := [], res := .int .i64, outs := [], fix := [], run := fun k ds os => IndexFunc50''' k ds.1 ds.2 }
def IndexFunc50'''.G : List Sig := [TestsOf151.S]
theorem IndexFunc50'''.eq (k : Nat) : ∀ ds os, IndexFunc50'''.S.run k ds os = runF ⟨types, IndexFunc50'''.G, IndexFunc50'''.A, k, 0, []⟩ Try.f50 (codeOf Try.f50) IndexFunc50'''.S.params IndexFunc50'''.S.objs IndexFunc50'''.S.res IndexFunc50'''.S.outs ds os := by
  intro ds os; kernel_rfl
theorem IndexFunc50'''.dr : DrOk Try.prog IndexFunc50'''.A (codeOf Try.f50) := ⟨by kernel_rfl, by kernel_rfl⟩
theorem IndexFunc50'''.ok (k : Nat) : SoundAt Try.prog k IndexFunc50'''.S :=
  runF_sound (X := ⟨types, IndexFunc50'''.G, IndexFunc50'''.A, k, 0, []⟩) types_ok (mem_all (⟨TestsOf151.ok k, trivial⟩)) (fn := Try.f50) (c := codeOf Try.f50) rfl (by kernel_rfl) rfl rfl IndexFunc50'''.dr (IndexFunc50'''.eq k)
end Go.Proofs.Ytcppmlgnceldmaa.Ge

/- Go functions as plain Lean functions, and their contracts. -/
set_option linter.unusedVariables false
set_option maxRecDepth 100000
noncomputable section
namespace Go.Proofs.Ytcppmlgnceldmaa.Ge
open Go Go.Proofs.Ytcppmlgnceldmaa.Gp
def TestsOf23.l0 (k : Nat) : ((ByteArray × ((List (Int × (ByteArray × (Int × (List (Int × (Int × (Int × (List (Int × (Int × (Int × Int)))))))))))) × ((List (Int × (Int × (Int × (List (Int × (Int × (Int × Int)))))))) × ((List (Int × (Int × (Int × (List (Int × (Int × (Int × Int)))))))) × (List (Int × (Int × (Int × (List (Int × (Int × (Int × Int)))))))))))) × (Unit × (Unit × (Int × ((List (ByteArray × Int)) × (List Int)))))) → Option (((ByteArray × ((List (Int × (ByteArray × (Int × (List (Int × (Int × (Int × (List (Int × (Int × (Int × Int)))))))))))) × ((List (Int × (Int × (Int × (List (Int × (Int × (Int × Int)))))))) × ((List (Int × (Int × (Int × (List (Int × (Int × (Int × Int)))))))) × (List (Int × (Int × (Int × (List (Int × (Int × (Int × Int)))))))))))) × (Unit × (Unit × (Int × ((List (ByteArray × Int)) × (List Int)))))) ⊕ (Unit × (List Int)))
  | (c_2, _, _, t47, o0, o3) =>
    cond (decide (t47 < (List.length [((ByteArray.mk #[112, 104, 112]), 0), ((ByteArray.mk #[112, 104, 97]), 0), ((ByteArray.mk #[115, 116, 97]), 2), ((ByteArray.mk #[115, 116, 120]), 2), ((ByteArray.mk #[115, 116, 121]), 2)] : Int)))
      ((rd o0 t47).bind fun _ =>
      (rd o0 t47).bind fun t50 =>
      (IndexFunc50''' k c_2.2.1 (t50, ())).bind fun t54 =>
      Option.bind
        (cond (decide (t54.1 ≥ 0))
          ((rd c_2.2.1 t54.1).bind fun t61 =>
          let t64 : Int := (IntKind.wrap .u8 t61.1)
          (if room (List.length o3 + List.length ([t64] : List Int)) 1 then some () else none).bind fun _ =>
          let t66 : (List Int) := (o3 ++ ([t64] : List Int))
          Option.bind
            (cond (decide (t50.2 > 0))
              (let t74 : Int := (IntKind.wrap .u8 (w64 (16 + (List.length t66 : Int))))
              (if room (List.length t66 + List.length ([t74] : List Int)) 1 then some () else none).bind fun _ =>
              some (c_2, (), (), o0, (t66 ++ ([t74] : List Int))))
              (some (c_2, (), (), o0, t66)) : Option ((ByteArray × ((List (Int × (ByteArray × (Int × (List (Int × (Int × (Int × (List (Int × (Int × (Int × Int)))))))))))) × ((List (Int × (Int × (Int × (List (Int × (Int × (Int × Int)))))))) × ((List (Int × (Int × (Int × (List (Int × (Int × (Int × Int)))))))) × (List (Int × (Int × (Int × (List (Int × (Int × (Int × Int)))))))))))) × (Unit × (Unit × ((List (ByteArray × Int)) × (List Int)))))) fun ((c_3, _, _, o0_1, o3_1) : ((ByteArray × ((List (Int × (ByteArray × (Int × (List (Int × (Int × (Int × (List (Int × (Int × (Int × Int)))))))))))) × ((List (Int × (Int × (Int × (List (Int × (Int × (Int × Int)))))))) × ((List (Int × (Int × (Int × (List (Int × (Int × (Int × Int)))))))) × (List (Int × (Int × (Int × (List (Int × (Int × (Int × Int)))))))))))) × (Unit × (Unit × ((List (ByteArray × Int)) × (List Int)))))) =>
          some (c_3, (), (), o0_1, o3_1))
          (some (c_2, (), (), o0, o3)) : Option ((ByteArray × ((List (Int × (ByteArray × (Int × (List (Int × (Int × (Int × (List (Int × (Int × (Int × Int)))))))))))) × ((List (Int × (Int × (Int × (List (Int × (Int × (Int × Int)))))))) × ((List (Int × (Int × (Int × (List (Int × (Int × (Int × Int)))))))) × (List (Int × (Int × (Int × (List (Int × (Int × (Int × Int)))))))))))) × (Unit × (Unit × ((List (ByteArray × Int)) × (List Int)))))) fun ((c_4, _, _, o0_2, o3_2) : ((ByteArray × ((List (Int × (ByteArray × (Int × (List (Int × (Int × (Int × (List (Int × (Int × (Int × Int)))))))))))) × ((List (Int × (Int × (Int × (List (Int × (Int × (Int × Int)))))))) × ((List (Int × (Int × (Int × (List (Int × (Int × (Int × Int)))))))) × (List (Int × (Int × (Int × (List (Int × (Int × (Int × Int)))))))))))) × (Unit × (Unit × ((List (ByteArray × Int)) × (List Int)))))) =>
      some (Sum.inl (c_4, (), (), (w64 (t47 + 1)), o0_2, o3_2)))
      (some (Sum.inr ((), o3)))
def TestsOf23.l1 (k : Nat) (n : Int) : (Unit × (Unit × (Int × (Unit × (Int × ((List Int) × ((List ((List Int) × (List Int))) × ((List Int) × (Unit × (List Int)))))))))) → Option ((Unit × (Unit × (Int × (Unit × (Int × ((List Int) × ((List ((List Int) × (List Int))) × ((List Int) × (Unit × (List Int)))))))))) ⊕ (Unit × (Unit × (Unit × ((List Int) × ((List ((List Int) × (List Int))) × ((List Int) × (Unit × (List Int)))))))))
  | (_, _, v, _, t114, o3_5, o10_1, o14, o15) =>
    cond (decide (t114 < n))
      (let t119 : Int := (IntKind.wrap .u8 v)
      (if room (List.length o14 + List.length ([t119] : List Int)) 1 then some () else none).bind fun _ =>
      some (Sum.inl ((), (), (quoI .i64 v 8), (), (w64 (t114 + 1)), o3_5, o10_1, (o14 ++ ([t119] : List Int)), o15.1, o15.2)))
      (some (Sum.inr ((), (), (), o3_5, o10_1, o14, o15)))
def TestsOf23.l2 (k : Nat) (t23 : Int) (n : Int) : (Unit × (Unit × (Int × ((List Int) × (List ((List Int) × (List Int))))))) → Option ((Unit × (Unit × (Int × ((List Int) × (List ((List Int) × (List Int))))))) ⊕ (Unit × (List ((List Int) × (List Int)))))
  | (_, _, t78, o3_4, o10) =>
    cond (decide (t78 < 125))
      (let t83 : Int := (quoI .i64 t78 25)
      (rd ([0, 1, 127, 128, 255] : List Int) t83).bind fun _ =>
      (rd ([0, 1, 127, 128, 255] : List Int) t83).bind fun t85 =>
      let t89 : Int := (Int.tmod (quoI .i64 t78 5) 5)
      (rd ([0, 1, 2, 128, 131] : List Int) t89).bind fun _ =>
      (rd ([0, 1, 2, 128, 131] : List Int) t89).bind fun t91 =>
      let t94 : Int := (Int.tmod t78 5)
      (rd ([0, 1, 6, 128, 255] : List Int) t94).bind fun _ =>
      (rd ([0, 1, 6, 128, 255] : List Int) t94).bind fun t96 =>
      Option.bind
        (loopN (TestsOf23.l1 k n) k ((), (), t96, (), 0, o3_4, o10, ([(IntKind.wrap .u8 t23)] : List Int), (), [t85, (Int.tmod (w64 ((w64 (3 * t85)) + 1)) 256), (Int.tmod (w64 ((w64 (5 * t85)) + 2)) 256), 240, t91, 0, 0, 0, 0]) : Option (Unit × (Unit × (Unit × ((List Int) × ((List ((List Int) × (List Int))) × ((List Int) × (Unit × (List Int))))))))) fun ((_, _, _, o3_6, o10_2, o14_1, o15_1) : (Unit × (Unit × (Unit × ((List Int) × ((List ((List Int) × (List Int))) × ((List Int) × (Unit × (List Int))))))))) =>
      (if room (List.length o14_1 + List.length o3_6) 1 then some () else none).bind fun _ =>
      (if room (List.length o10_2 + List.length [((o14_1 ++ o3_6), o15_1.2)]) 96 then some () else none).bind fun _ =>
      some (Sum.inl ((), (), (w64 (t78 + 1)), o3_6, (o10_2 ++ [((o14_1 ++ o3_6), o15_1.2)]))))
      (some (Sum.inr ((), o10)))
def TestsOf23 (k : Nat) (c : (ByteArray × ((List (Int × (ByteArray × (Int × (List (Int × (Int × (Int × (List (Int × (Int × (Int × Int)))))))))))) × ((List (Int × (Int × (Int × (List (Int × (Int × (Int × Int)))))))) × ((List (Int × (Int × (Int × (List (Int × (Int × (Int × Int)))))))) × (List (Int × (Int × (Int × (List (Int × (Int × (Int × Int))))))))))))) (op : Int) : Option ((List ((List Int) × (List Int))) × Unit) :=
  let t23 : Int := (Int.tmod (w64 ((Int.tmod op 256) + 256)) 256)
  (operands48 k).bind fun t25 =>
  (with49 k c t23).bind fun t31 =>
  Option.bind
    (cond t31.1.2.1
      ((rd t25.1.1 t31.1.1.2.2.1).bind fun t38 =>
      some (c, t38))
      (some (c, 2)) : Option ((ByteArray × ((List (Int × (ByteArray × (Int × (List (Int × (Int × (Int × (List (Int × (Int × (Int × Int)))))))))))) × ((List (Int × (Int × (Int × (List (Int × (Int × (Int × Int)))))))) × ((List (Int × (Int × (Int × (List (Int × (Int × (Int × Int)))))))) × (List (Int × (Int × (Int × (List (Int × (Int × (Int × Int)))))))))))) × Int)) fun ((c_1, n) : ((ByteArray × ((List (Int × (ByteArray × (Int × (List (Int × (Int × (Int × (List (Int × (Int × (Int × Int)))))))))))) × ((List (Int × (Int × (Int × (List (Int × (Int × (Int × Int)))))))) × ((List (Int × (Int × (Int × (List (Int × (Int × (Int × Int)))))))) × (List (Int × (Int × (Int × (List (Int × (Int × (Int × Int)))))))))))) × Int)) =>
  Option.bind
    (loopN (TestsOf23.l0 k) k (c_1, (), (), 0, [((ByteArray.mk #[112, 104, 112]), 0), ((ByteArray.mk #[112, 104, 97]), 0), ((ByteArray.mk #[115, 116, 97]), 2), ((ByteArray.mk #[115, 116, 120]), 2), ((ByteArray.mk #[115, 116, 121]), 2)], []) : Option (Unit × (List Int))) fun ((_, o3_3) : (Unit × (List Int))) =>
  Option.bind
    (loopN (TestsOf23.l2 k t23 n) k ((), (), 0, o3_3, []) : Option (Unit × (List ((List Int) × (List Int))))) fun ((_, o10_3) : (Unit × (List ((List Int) × (List Int))))) =>
  some (o10_3, ())
def TestsOf23.A : Ann := { conds := [(2228230, ⟨[(2, .fp (.st (.pair .str (.pair (.sl (.st (.pair (.int .i64) (.pair .str (.pair (.int .i64) (.sl (.st (.pair (.int .i64) (.pair (.int .i64) (.pair (.int .i64) (.sl (.st (.pair (.int .i64) (.pair (.int .i64) (.pair (.int .i64) (.int .i64)))))))))))))))) (.pair (.sl (.st (.pair (.int .i64) (.pair (.int .i64) (.pair (.int .i64) (.sl (.st (.pair (.int .i64) (.pair (.int .i64) (.pair (.int .i64) (.int .i64))))))))))) (.pair (.sl (.st (.pair (.int .i64) (.pair (.int .i64) (.pair (.int .i64) (.sl (.st (.pair (.int .i64) (.pair (.int .i64) (.pair (.int .i64) (.int .i64))))))))))) (.sl (.st (.pair (.int .i64) (.pair (.int .i64) (.pair (.int .i64) (.sl (.st (.pair (.int .i64) (.pair (.int .i64) (.pair (.int .i64) (.int .i64))))))))))))))))), (7, .int .i64)], [], 0, [], 1065151889536⟩), (3670029, ⟨[(2, .fp (.st (.pair .str (.pair (.sl (.st (.pair (.int .i64) (.pair .str (.pair (.int .i64) (.sl (.st (.pair (.int .i64) (.pair (.int .i64) (.pair (.int .i64) (.sl (.st (.pair (.int .i64) (.pair (.int .i64) (.pair (.int .i64) (.int .i64)))))))))))))))) (.pair (.sl (.st (.pair (.int .i64) (.pair (.int .i64) (.pair (.int .i64) (.sl (.st (.pair (.int .i64) (.pair (.int .i64) (.pair (.int .i64) (.int .i64))))))))))) (.pair (.sl (.st (.pair (.int .i64) (.pair (.int .i64) (.pair (.int .i64) (.sl (.st (.pair (.int .i64) (.pair (.int .i64) (.pair (.int .i64) (.int .i64))))))))))) (.sl (.st (.pair (.int .i64) (.pair (.int .i64) (.pair (.int .i64) (.sl (.st (.pair (.int .i64) (.pair (.int .i64) (.pair (.int .i64) (.int .i64))))))))))))))))), (10, .ms 3), (45, .ms 0)], [(0, .row (.st (.pair .str (.int .i64)))), (3, .row (.int .u8))], 4, [], 151115583336640570983424⟩), (4521999, ⟨[(2, .fp (.st (.pair .str (.pair (.sl (.st (.pair (.int .i64) (.pair .str (.pair (.int .i64) (.sl (.st (.pair (.int .i64) (.pair (.int .i64) (.pair (.int .i64) (.sl (.st (.pair (.int .i64) (.pair (.int .i64) (.pair (.int .i64) (.int .i64)))))))))))))))) (.pair (.sl (.st (.pair (.int .i64) (.pair (.int .i64) (.pair (.int .i64) (.sl (.st (.pair (.int .i64) (.pair (.int .i64) (.pair (.int .i64) (.int .i64))))))))))) (.pair (.sl (.st (.pair (.int .i64) (.pair (.int .i64) (.pair (.int .i64) (.sl (.st (.pair (.int .i64) (.pair (.int .i64) (.pair (.int .i64) (.int .i64))))))))))) (.sl (.st (.pair (.int .i64) (.pair (.int .i64) (.pair (.int .i64) (.sl (.st (.pair (.int .i64) (.pair (.int .i64) (.pair (.int .i64) (.int .i64))))))))))))))))), (10, .ms 3), (45, .ms 0)], [(0, .row (.st (.pair .str (.int .i64)))), (3, .row (.int .u8))], 4, [], 149935135831111235535872⟩)], blocks := [(0, ⟨[(10, .ms 3)], [(3, .row (.int .u8))], 4, [], 302231454762919805334528⟩), (2, ⟨[(14, .ms 10)], [(10, .row (.st (.pair (.sl (.int .u8)) (.arr 9 (.int .i64)))))], 11, [], 87112285931760246344392444598875369488384⟩), (4, ⟨[(10, .ms 3), (14, .ms 10), (19, .ptr 15 [])], [(3, .row (.int .u8)), (10, .row (.st (.pair (.sl (.int .u8)) (.arr 9 (.int .i64))))), (14, .row (.int .u8)), (15, .var (.st (.pair (.ms 14) (.arr 9 (.int .i64)))))], 16, [], 85049822542800476555329529872625434624⟩)], loops := [(9, ⟨[(2, .fp (.st (.pair .str (.pair (.sl (.st (.pair (.int .i64) (.pair .str (.pair (.int .i64) (.sl (.st (.pair (.int .i64) (.pair (.int .i64) (.pair (.int .i64) (.sl (.st (.pair (.int .i64) (.pair (.int .i64) (.pair (.int .i64) (.int .i64)))))))))))))))) (.pair (.sl (.st (.pair (.int .i64) (.pair (.int .i64) (.pair (.int .i64) (.sl (.st (.pair (.int .i64) (.pair (.int .i64) (.pair (.int .i64) (.int .i64))))))))))) (.pair (.sl (.st (.pair (.int .i64) (.pair (.int .i64) (.pair (.int .i64) (.sl (.st (.pair (.int .i64) (.pair (.int .i64) (.pair (.int .i64) (.int .i64))))))))))) (.sl (.st (.pair (.int .i64) (.pair (.int .i64) (.pair (.int .i64) (.sl (.st (.pair (.int .i64) (.pair (.int .i64) (.pair (.int .i64) (.int .i64))))))))))))))))), (10, .ms 3), (45, .ms 0), (47, .int .i64)], [(0, .row (.st (.pair .str (.int .i64)))), (3, .row (.int .u8))], 4, [(3, .int .u8)], 302231454762919805334528⟩), (19, ⟨[(10, .ms 3), (14, .ms 10), (78, .int .i64)], [(3, .row (.int .u8)), (10, .row (.st (.pair (.sl (.int .u8)) (.arr 9 (.int .i64)))))], 11, [(10, .st (.pair (.sl (.int .u8)) (.arr 9 (.int .i64))))], 87112285931760246344392444598875369488384⟩), (27, ⟨[(10, .ms 3), (14, .ms 10), (18, .int .i64), (19, .ptr 15 []), (114, .int .i64)], [(3, .row (.int .u8)), (10, .row (.st (.pair (.sl (.int .u8)) (.arr 9 (.int .i64))))), (14, .row (.int .u8)), (15, .var (.st (.pair (.ms 14) (.arr 9 (.int .i64)))))], 16, [], 85049822542800476555329529872625434624⟩)], keeps := [2, 8, 12], orders := [] }
def TestsOf23.S : Sig := { f := 23, params := [.st (.pair .str (.pair (.sl (.st (.pair (.int .i64) (.pair .str (.pair (.int .i64) (.sl (.st (.pair (.int .i64) (.pair (.int .i64) (.pair (.int .i64) (.sl (.st (.pair (.int .i64) (.pair (.int .i64) (.pair (.int .i64) (.int .i64)))))))))))))))) (.pair (.sl (.st (.pair (.int .i64) (.pair (.int .i64) (.pair (.int .i64) (.sl (.st (.pair (.int .i64) (.pair (.int .i64) (.pair (.int .i64) (.int .i64))))))))))) (.pair (.sl (.st (.pair (.int .i64) (.pair (.int .i64) (.pair (.int .i64) (.sl (.st (.pair (.int .i64) (.pair (.int .i64) (.pair (.int .i64) (.int .i64))))))))))) (.sl (.st (.pair (.int .i64) (.pair (.int .i64) (.pair (.int .i64) (.sl (.st (.pair (.int .i64) (.pair (.int .i64) (.pair (.int .i64) (.int .i64))))))))))))))), .int .i64], objs := [], res := .sl (.st (.pair (.sl (.int .u8)) (.arr 9 (.int .i64)))), outs := [], fix := [], run := fun k ds os => TestsOf23 k ds.1 ds.2 }
def TestsOf23.G : List Sig := [IndexFunc50'''.S, operands48.S, with49.S]
theorem TestsOf23.eq (k : Nat) : ∀ ds os, TestsOf23.S.run k ds os = runF ⟨types, TestsOf23.G, TestsOf23.A, k, 0, []⟩ Try.f23 (codeOf Try.f23) TestsOf23.S.params TestsOf23.S.objs TestsOf23.S.res TestsOf23.S.outs ds os := by
  intro ds os; kernel_rfl
theorem TestsOf23.dr : DrOk Try.prog TestsOf23.A (codeOf Try.f23) := ⟨by kernel_rfl, by kernel_rfl⟩
theorem TestsOf23.ok (k : Nat) : SoundAt Try.prog k TestsOf23.S :=
  runF_sound (X := ⟨types, TestsOf23.G, TestsOf23.A, k, 0, []⟩) types_ok (mem_all (⟨IndexFunc50'''.ok k, ⟨operands48.ok k, ⟨with49.ok k, trivial⟩⟩⟩)) (fn := Try.f23) (c := codeOf Try.f23) rfl (by kernel_rfl) rfl rfl TestsOf23.dr (TestsOf23.eq k)
end Go.Proofs.Ytcppmlgnceldmaa.Ge

/- Go functions as plain Lean functions, and their contracts. -/
set_option linter.unusedVariables false
set_option maxRecDepth 100000
noncomputable section
namespace Go.Proofs.Ytcppmlgnceldmaa.Ge
open Go Go.Proofs.Ytcppmlgnceldmaa.Gp
def Starts24.l0 (k : Nat) (t12 : Int) : (Unit × (Unit × (Unit × (Int × ((List Int) × ((List (List Int)) × (List Int))))))) → Option ((Unit × (Unit × (Unit × (Int × ((List Int) × ((List (List Int)) × (List Int))))))) ⊕ (Unit × (Unit × ((List Int) × (List (List Int))))))
  | (_, _, _, t15, o0_1, o4_1, o5) =>
    cond (decide (t15 < (List.length ([0, 1, 2, 128, 131] : List Int) : Int)))
      ((rd o5 t15).bind fun _ =>
      (rd o5 t15).bind fun t18 =>
      (Low47 k (w64 ((w64 (3 * t12)) + 1)) 8).bind fun t23 =>
      (Low47 k (w64 ((w64 (5 * t12)) + 2)) 8).bind fun t27 =>
      (if 0 ≤ 0 ∧ 0 < 9 then some () else none).bind fun _ =>
      (rd (List.replicate 9 0) 0).bind fun _ =>
      (if 0 ≤ 1 ∧ 1 < 9 then some () else none).bind fun _ =>
      (rd (List.set (List.replicate 9 0) (Int.toNat 0) t12) 1).bind fun _ =>
      (if 0 ≤ 2 ∧ 2 < 9 then some () else none).bind fun _ =>
      (rd (List.set (List.set (List.replicate 9 0) (Int.toNat 0) t12) (Int.toNat 1) t23.1) 2).bind fun _ =>
      (if 0 ≤ 3 ∧ 3 < 9 then some () else none).bind fun _ =>
      (rd (List.set (List.set (List.set (List.replicate 9 0) (Int.toNat 0) t12) (Int.toNat 1) t23.1) (Int.toNat 2) t27.1) 3).bind fun _ =>
      (if 0 ≤ 4 ∧ 4 < 9 then some () else none).bind fun _ =>
      (rd (List.set (List.set (List.set (List.set (List.replicate 9 0) (Int.toNat 0) t12) (Int.toNat 1) t23.1) (Int.toNat 2) t27.1) (Int.toNat 3) 240) 4).bind fun _ =>
      (if room (List.length o4_1 + List.length [(List.set (List.set (List.set (List.set (List.set (List.replicate 9 0) (Int.toNat 0) t12) (Int.toNat 1) t23.1) (Int.toNat 2) t27.1) (Int.toNat 3) 240) (Int.toNat 4) t18)]) 72 then some () else none).bind fun _ =>
      some (Sum.inl ((), (), (), (w64 (t15 + 1)), o0_1, (o4_1 ++ [(List.set (List.set (List.set (List.set (List.set (List.replicate 9 0) (Int.toNat 0) t12) (Int.toNat 1) t23.1) (Int.toNat 2) t27.1) (Int.toNat 3) 240) (Int.toNat 4) t18)]), o5)))
      (some (Sum.inr ((), (), o0_1, o4_1)))
def Starts24.l1 (k : Nat) : (Unit × (Unit × (Int × ((List Int) × (List (List Int)))))) → Option ((Unit × (Unit × (Int × ((List Int) × (List (List Int)))))) ⊕ (Unit × (List (List Int))))
  | (_, _, t9, o0, o4) =>
    cond (decide (t9 < (List.length ([0, 1, 127, 128, 255] : List Int) : Int)))
      ((rd o0 t9).bind fun _ =>
      (rd o0 t9).bind fun t12 =>
      Option.bind
        (loopN (Starts24.l0 k t12) k ((), (), (), 0, o0, o4, ([0, 1, 2, 128, 131] : List Int)) : Option (Unit × (Unit × ((List Int) × (List (List Int)))))) fun ((_, _, o0_2, o4_2) : (Unit × (Unit × ((List Int) × (List (List Int)))))) =>
      some (Sum.inl ((), (), (w64 (t9 + 1)), o0_2, o4_2)))
      (some (Sum.inr ((), o4)))
def Starts24 (k : Nat) : Option ((List (List Int)) × Unit) :=
  Option.bind
    (loopN (Starts24.l1 k) k ((), (), 0, ([0, 1, 127, 128, 255] : List Int), []) : Option (Unit × (List (List Int)))) fun ((_, o4_3) : (Unit × (List (List Int)))) =>
  some (o4_3, ())
def Starts24.A : Ann := { conds := [], blocks := [(0, ⟨[(1, .ms 4)], [(4, .row (.arr 9 (.int .i64)))], 5, [], 1099511627370⟩), (2, ⟨[(1, .ms 4), (7, .ms 0)], [(0, .row (.int .i64)), (4, .row (.arr 9 (.int .i64)))], 5, [], 549755781218⟩)], loops := [(3, ⟨[(1, .ms 4), (7, .ms 0), (9, .int .i64)], [(0, .row (.int .i64)), (4, .row (.arr 9 (.int .i64)))], 5, [(4, .arr 9 (.int .i64))], 1099511627370⟩), (6, ⟨[(1, .ms 4), (7, .ms 0), (13, .ms 5), (15, .int .i64)], [(0, .row (.int .i64)), (4, .row (.arr 9 (.int .i64))), (5, .row (.int .i64))], 6, [], 549755781218⟩)], keeps := [], orders := [] }
def Starts24.S : Sig := { f := 24, params := [], objs := [], res := .sl (.arr 9 (.int .i64)), outs := [], fix := [], run := fun k ds os => Starts24 k }
def Starts24.G : List Sig := [Low47.S]
theorem Starts24.eq (k : Nat) : ∀ ds os, Starts24.S.run k ds os = runF ⟨types, Starts24.G, Starts24.A, k, 0, []⟩ Try.f24 (codeOf Try.f24) Starts24.S.params Starts24.S.objs Starts24.S.res Starts24.S.outs ds os := by
  intro ds os; kernel_rfl
theorem Starts24.dr : DrOk Try.prog Starts24.A (codeOf Try.f24) := ⟨by kernel_rfl, by kernel_rfl⟩
theorem Starts24.ok (k : Nat) : SoundAt Try.prog k Starts24.S :=
  runF_sound (X := ⟨types, Starts24.G, Starts24.A, k, 0, []⟩) types_ok (mem_all (⟨Low47.ok k, trivial⟩)) (fn := Try.f24) (c := codeOf Try.f24) rfl (by kernel_rfl) rfl rfl Starts24.dr (Starts24.eq k)

def tail53.l0 (k : Nat) : ((ByteArray × ((List (Int × (ByteArray × (Int × (List (Int × (Int × (Int × (List (Int × (Int × (Int × Int)))))))))))) × ((List (Int × (Int × (Int × (List (Int × (Int × (Int × Int)))))))) × ((List (Int × (Int × (Int × (List (Int × (Int × (Int × Int)))))))) × (List (Int × (Int × (Int × (List (Int × (Int × (Int × Int)))))))))))) × (Unit × (Unit × (Int × ((List ByteArray) × (List Int)))))) → Option (((ByteArray × ((List (Int × (ByteArray × (Int × (List (Int × (Int × (Int × (List (Int × (Int × (Int × Int)))))))))))) × ((List (Int × (Int × (Int × (List (Int × (Int × (Int × Int)))))))) × ((List (Int × (Int × (Int × (List (Int × (Int × (Int × Int)))))))) × (List (Int × (Int × (Int × (List (Int × (Int × (Int × Int)))))))))))) × (Unit × (Unit × (Int × ((List ByteArray) × (List Int)))))) ⊕ (Unit × (List Int)))
  | (c_1, _, _, t11, o0, o3) =>
    cond (decide (t11 < (List.length [(ByteArray.mk #[112, 104, 112]), (ByteArray.mk #[112, 104, 97]), (ByteArray.mk #[115, 116, 97]), (ByteArray.mk #[115, 116, 120]), (ByteArray.mk #[115, 116, 121])] : Int)))
      ((rd o0 t11).bind fun _ =>
      (rd o0 t11).bind fun t14 =>
      (rd (bytesOf t14) 0).bind fun t16 =>
      Option.bind
        (cond (t16 == 115)
          (some (c_1, (), 2, (), o0, o3))
          (some (c_1, (), 0, (), o0, o3)) : Option ((ByteArray × ((List (Int × (ByteArray × (Int × (List (Int × (Int × (Int × (List (Int × (Int × (Int × Int)))))))))))) × ((List (Int × (Int × (Int × (List (Int × (Int × (Int × Int)))))))) × ((List (Int × (Int × (Int × (List (Int × (Int × (Int × Int)))))))) × (List (Int × (Int × (Int × (List (Int × (Int × (Int × Int)))))))))))) × (Unit × (Int × (Unit × ((List ByteArray) × (List Int))))))) fun ((c_2, _, mode, _, o0_1, o3_1) : ((ByteArray × ((List (Int × (ByteArray × (Int × (List (Int × (Int × (Int × (List (Int × (Int × (Int × Int)))))))))))) × ((List (Int × (Int × (Int × (List (Int × (Int × (Int × Int)))))))) × ((List (Int × (Int × (Int × (List (Int × (Int × (Int × Int)))))))) × (List (Int × (Int × (Int × (List (Int × (Int × (Int × Int)))))))))))) × (Unit × (Int × (Unit × ((List ByteArray) × (List Int))))))) =>
      (Named75 k c_2 t14 mode).bind fun t22 =>
      Option.bind
        (cond t22.1.2.1
          (let t29 : Int := (IntKind.wrap .u8 t22.1.1.1)
          (if room (List.length o3_1 + List.length ([t29] : List Int)) 1 then some () else none).bind fun _ =>
          let t31 : (List Int) := (o3_1 ++ ([t29] : List Int))
          Option.bind
            (cond (mode == 2)
              (let t38 : Int := (IntKind.wrap .u8 (w64 (16 + (List.length t31 : Int))))
              (if room (List.length t31 + List.length ([t38] : List Int)) 1 then some () else none).bind fun _ =>
              some (c_2, (), (), o0_1, (t31 ++ ([t38] : List Int))))
              (some (c_2, (), (), o0_1, t31)) : Option ((ByteArray × ((List (Int × (ByteArray × (Int × (List (Int × (Int × (Int × (List (Int × (Int × (Int × Int)))))))))))) × ((List (Int × (Int × (Int × (List (Int × (Int × (Int × Int)))))))) × ((List (Int × (Int × (Int × (List (Int × (Int × (Int × Int)))))))) × (List (Int × (Int × (Int × (List (Int × (Int × (Int × Int)))))))))))) × (Unit × (Unit × ((List ByteArray) × (List Int)))))) fun ((c_3, _, _, o0_2, o3_2) : ((ByteArray × ((List (Int × (ByteArray × (Int × (List (Int × (Int × (Int × (List (Int × (Int × (Int × Int)))))))))))) × ((List (Int × (Int × (Int × (List (Int × (Int × (Int × Int)))))))) × ((List (Int × (Int × (Int × (List (Int × (Int × (Int × Int)))))))) × (List (Int × (Int × (Int × (List (Int × (Int × (Int × Int)))))))))))) × (Unit × (Unit × ((List ByteArray) × (List Int)))))) =>
          some (c_3, (), (), o0_2, o3_2))
          (some (c_2, (), (), o0_1, o3_1)) : Option ((ByteArray × ((List (Int × (ByteArray × (Int × (List (Int × (Int × (Int × (List (Int × (Int × (Int × Int)))))))))))) × ((List (Int × (Int × (Int × (List (Int × (Int × (Int × Int)))))))) × ((List (Int × (Int × (Int × (List (Int × (Int × (Int × Int)))))))) × (List (Int × (Int × (Int × (List (Int × (Int × (Int × Int)))))))))))) × (Unit × (Unit × ((List ByteArray) × (List Int)))))) fun ((c_4, _, _, o0_3, o3_3) : ((ByteArray × ((List (Int × (ByteArray × (Int × (List (Int × (Int × (Int × (List (Int × (Int × (Int × Int)))))))))))) × ((List (Int × (Int × (Int × (List (Int × (Int × (Int × Int)))))))) × ((List (Int × (Int × (Int × (List (Int × (Int × (Int × Int)))))))) × (List (Int × (Int × (Int × (List (Int × (Int × (Int × Int)))))))))))) × (Unit × (Unit × ((List ByteArray) × (List Int)))))) =>
      some (Sum.inl (c_4, (), (), (w64 (t11 + 1)), o0_3, o3_3)))
      (some (Sum.inr ((), o3)))
def tail53 (k : Nat) (c : (ByteArray × ((List (Int × (ByteArray × (Int × (List (Int × (Int × (Int × (List (Int × (Int × (Int × Int)))))))))))) × ((List (Int × (Int × (Int × (List (Int × (Int × (Int × Int)))))))) × ((List (Int × (Int × (Int × (List (Int × (Int × (Int × Int)))))))) × (List (Int × (Int × (Int × (List (Int × (Int × (Int × Int))))))))))))) : Option ((List Int) × Unit) :=
  Option.bind
    (loopN (tail53.l0 k) k (c, (), (), 0, [(ByteArray.mk #[112, 104, 112]), (ByteArray.mk #[112, 104, 97]), (ByteArray.mk #[115, 116, 97]), (ByteArray.mk #[115, 116, 120]), (ByteArray.mk #[115, 116, 121])], []) : Option (Unit × (List Int))) fun ((_, o3_4) : (Unit × (List Int))) =>
  some (o3_4, ())
def tail53.A : Ann := { conds := [(1114119, ⟨[(1, .fp (.st (.pair .str (.pair (.sl (.st (.pair (.int .i64) (.pair .str (.pair (.int .i64) (.sl (.st (.pair (.int .i64) (.pair (.int .i64) (.pair (.int .i64) (.sl (.st (.pair (.int .i64) (.pair (.int .i64) (.pair (.int .i64) (.int .i64)))))))))))))))) (.pair (.sl (.st (.pair (.int .i64) (.pair (.int .i64) (.pair (.int .i64) (.sl (.st (.pair (.int .i64) (.pair (.int .i64) (.pair (.int .i64) (.int .i64))))))))))) (.pair (.sl (.st (.pair (.int .i64) (.pair (.int .i64) (.pair (.int .i64) (.sl (.st (.pair (.int .i64) (.pair (.int .i64) (.pair (.int .i64) (.int .i64))))))))))) (.sl (.st (.pair (.int .i64) (.pair (.int .i64) (.pair (.int .i64) (.sl (.st (.pair (.int .i64) (.pair (.int .i64) (.pair (.int .i64) (.int .i64))))))))))))))))), (3, .ms 3), (6, .int .i64), (9, .ms 0)], [(0, .row .str), (3, .row (.int .u8))], 4, [], 64⟩), (1638410, ⟨[(1, .fp (.st (.pair .str (.pair (.sl (.st (.pair (.int .i64) (.pair .str (.pair (.int .i64) (.sl (.st (.pair (.int .i64) (.pair (.int .i64) (.pair (.int .i64) (.sl (.st (.pair (.int .i64) (.pair (.int .i64) (.pair (.int .i64) (.int .i64)))))))))))))))) (.pair (.sl (.st (.pair (.int .i64) (.pair (.int .i64) (.pair (.int .i64) (.sl (.st (.pair (.int .i64) (.pair (.int .i64) (.pair (.int .i64) (.int .i64))))))))))) (.pair (.sl (.st (.pair (.int .i64) (.pair (.int .i64) (.pair (.int .i64) (.sl (.st (.pair (.int .i64) (.pair (.int .i64) (.pair (.int .i64) (.int .i64))))))))))) (.sl (.st (.pair (.int .i64) (.pair (.int .i64) (.pair (.int .i64) (.sl (.st (.pair (.int .i64) (.pair (.int .i64) (.pair (.int .i64) (.int .i64))))))))))))))))), (3, .ms 3), (9, .ms 0)], [(0, .row .str), (3, .row (.int .u8))], 4, [], 2198956146696⟩), (2162700, ⟨[(1, .fp (.st (.pair .str (.pair (.sl (.st (.pair (.int .i64) (.pair .str (.pair (.int .i64) (.sl (.st (.pair (.int .i64) (.pair (.int .i64) (.pair (.int .i64) (.sl (.st (.pair (.int .i64) (.pair (.int .i64) (.pair (.int .i64) (.int .i64)))))))))))))))) (.pair (.sl (.st (.pair (.int .i64) (.pair (.int .i64) (.pair (.int .i64) (.sl (.st (.pair (.int .i64) (.pair (.int .i64) (.pair (.int .i64) (.int .i64))))))))))) (.pair (.sl (.st (.pair (.int .i64) (.pair (.int .i64) (.pair (.int .i64) (.sl (.st (.pair (.int .i64) (.pair (.int .i64) (.pair (.int .i64) (.int .i64))))))))))) (.sl (.st (.pair (.int .i64) (.pair (.int .i64) (.pair (.int .i64) (.sl (.st (.pair (.int .i64) (.pair (.int .i64) (.pair (.int .i64) (.int .i64))))))))))))))))), (3, .ms 3), (9, .ms 0)], [(0, .row .str), (3, .row (.int .u8))], 4, [], 2181843386376⟩)], blocks := [(0, ⟨[(3, .ms 3)], [(3, .row (.int .u8))], 4, [], 4398046509544⟩)], loops := [(3, ⟨[(1, .fp (.st (.pair .str (.pair (.sl (.st (.pair (.int .i64) (.pair .str (.pair (.int .i64) (.sl (.st (.pair (.int .i64) (.pair (.int .i64) (.pair (.int .i64) (.sl (.st (.pair (.int .i64) (.pair (.int .i64) (.pair (.int .i64) (.int .i64)))))))))))))))) (.pair (.sl (.st (.pair (.int .i64) (.pair (.int .i64) (.pair (.int .i64) (.sl (.st (.pair (.int .i64) (.pair (.int .i64) (.pair (.int .i64) (.int .i64))))))))))) (.pair (.sl (.st (.pair (.int .i64) (.pair (.int .i64) (.pair (.int .i64) (.sl (.st (.pair (.int .i64) (.pair (.int .i64) (.pair (.int .i64) (.int .i64))))))))))) (.sl (.st (.pair (.int .i64) (.pair (.int .i64) (.pair (.int .i64) (.sl (.st (.pair (.int .i64) (.pair (.int .i64) (.pair (.int .i64) (.int .i64))))))))))))))))), (3, .ms 3), (9, .ms 0), (11, .int .i64)], [(0, .row .str), (3, .row (.int .u8))], 4, [(3, .int .u8)], 4398046509544⟩)], keeps := [1, 7], orders := [] }
def tail53.S : Sig := { f := 53, params := [.st (.pair .str (.pair (.sl (.st (.pair (.int .i64) (.pair .str (.pair (.int .i64) (.sl (.st (.pair (.int .i64) (.pair (.int .i64) (.pair (.int .i64) (.sl (.st (.pair (.int .i64) (.pair (.int .i64) (.pair (.int .i64) (.int .i64)))))))))))))))) (.pair (.sl (.st (.pair (.int .i64) (.pair (.int .i64) (.pair (.int .i64) (.sl (.st (.pair (.int .i64) (.pair (.int .i64) (.pair (.int .i64) (.int .i64))))))))))) (.pair (.sl (.st (.pair (.int .i64) (.pair (.int .i64) (.pair (.int .i64) (.sl (.st (.pair (.int .i64) (.pair (.int .i64) (.pair (.int .i64) (.int .i64))))))))))) (.sl (.st (.pair (.int .i64) (.pair (.int .i64) (.pair (.int .i64) (.sl (.st (.pair (.int .i64) (.pair (.int .i64) (.pair (.int .i64) (.int .i64)))))))))))))))], objs := [], res := .sl (.int .u8), outs := [], fix := [], run := fun k ds os => tail53 k ds }
def tail53.G : List Sig := [Named75.S]
theorem tail53.eq (k : Nat) : ∀ ds os, tail53.S.run k ds os = runF ⟨types, tail53.G, tail53.A, k, 0, []⟩ Try.f53 (codeOf Try.f53) tail53.S.params tail53.S.objs tail53.S.res tail53.S.outs ds os := by
  intro ds os; kernel_rfl
theorem tail53.dr : DrOk Try.prog tail53.A (codeOf Try.f53) := ⟨by kernel_rfl, by kernel_rfl⟩
theorem tail53.ok (k : Nat) : SoundAt Try.prog k tail53.S :=
  runF_sound (X := ⟨types, tail53.G, tail53.A, k, 0, []⟩) types_ok (mem_all (⟨Named75.ok k, trivial⟩)) (fn := Try.f53) (c := codeOf Try.f53) rfl (by kernel_rfl) rfl rfl tail53.dr (tail53.eq k)
end Go.Proofs.Ytcppmlgnceldmaa.Ge

/- Go functions as plain Lean functions, and their contracts. -/
set_option linter.unusedVariables false
set_option maxRecDepth 100000
noncomputable section
namespace Go.Proofs.Ytcppmlgnceldmaa.Ge
open Go Go.Proofs.Ytcppmlgnceldmaa.Gp
def Tests26.l0 (k : Nat) (n : Int) (t38 : Int) : ((ByteArray × ((List (Int × (ByteArray × (Int × (List (Int × (Int × (Int × (List (Int × (Int × (Int × Int)))))))))))) × ((List (Int × (Int × (Int × (List (Int × (Int × (Int × Int)))))))) × ((List (Int × (Int × (Int × (List (Int × (Int × (Int × Int)))))))) × (List (Int × (Int × (Int × (List (Int × (Int × (Int × Int)))))))))))) × (Unit × ((List Int) × (Unit × (Unit × (Int × ((List ((List Int) × (List Int))) × ((List Int) × (List Int))))))))) → Option (((ByteArray × ((List (Int × (ByteArray × (Int × (List (Int × (Int × (Int × (List (Int × (Int × (Int × Int)))))))))))) × ((List (Int × (Int × (Int × (List (Int × (Int × (Int × Int)))))))) × ((List (Int × (Int × (Int × (List (Int × (Int × (Int × Int)))))))) × (List (Int × (Int × (Int × (List (Int × (Int × (Int × Int)))))))))))) × (Unit × ((List Int) × (Unit × (Unit × (Int × ((List ((List Int) × (List Int))) × ((List Int) × (List Int))))))))) ⊕ ((ByteArray × ((List (Int × (ByteArray × (Int × (List (Int × (Int × (Int × (List (Int × (Int × (Int × Int)))))))))))) × ((List (Int × (Int × (Int × (List (Int × (Int × (Int × Int)))))))) × ((List (Int × (Int × (Int × (List (Int × (Int × (Int × Int)))))))) × (List (Int × (Int × (Int × (List (Int × (Int × (Int × Int)))))))))))) × (Unit × ((List Int) × (Unit × (Unit × ((List ((List Int) × (List Int))) × ((List Int) × (List Int)))))))))
  | (c_4, _, r_1, _, _, t43, o4_2, o6_1, o7) =>
    cond (decide (t43 < n))
      ((if (w64 (t43 * 3)) < 0 then none else some (shrI .i64 t38 (w64 (t43 * 3)))).bind fun t50 =>
      let t51 : Int := (IntKind.wrap .u8 t50)
      (if room (List.length o7 + List.length ([t51] : List Int)) 1 then some () else none).bind fun _ =>
      some (Sum.inl (c_4, (), r_1, (), (), (w64 (t43 + 1)), o4_2, o6_1, (o7 ++ ([t51] : List Int)))))
      (some (Sum.inr (c_4, (), r_1, (), (), o4_2, o6_1, o7)))
def Tests26.l1 (k : Nat) (t16 : (Int × Unit)) (n : Int) : ((ByteArray × ((List (Int × (ByteArray × (Int × (List (Int × (Int × (Int × (List (Int × (Int × (Int × Int)))))))))))) × ((List (Int × (Int × (Int × (List (Int × (Int × (Int × Int)))))))) × ((List (Int × (Int × (Int × (List (Int × (Int × (Int × Int)))))))) × (List (Int × (Int × (Int × (List (Int × (Int × (Int × Int)))))))))))) × (Unit × ((List Int) × (Unit × (Int × ((List ((List Int) × (List Int))) × (List Int))))))) → Option (((ByteArray × ((List (Int × (ByteArray × (Int × (List (Int × (Int × (Int × (List (Int × (Int × (Int × Int)))))))))))) × ((List (Int × (Int × (Int × (List (Int × (Int × (Int × Int)))))))) × ((List (Int × (Int × (Int × (List (Int × (Int × (Int × Int)))))))) × (List (Int × (Int × (Int × (List (Int × (Int × (Int × Int)))))))))))) × (Unit × ((List Int) × (Unit × (Int × ((List ((List Int) × (List Int))) × (List Int))))))) ⊕ ((ByteArray × ((List (Int × (ByteArray × (Int × (List (Int × (Int × (Int × (List (Int × (Int × (Int × Int)))))))))))) × ((List (Int × (Int × (Int × (List (Int × (Int × (Int × Int)))))))) × ((List (Int × (Int × (Int × (List (Int × (Int × (Int × Int)))))))) × (List (Int × (Int × (Int × (List (Int × (Int × (Int × Int)))))))))))) × (Unit × (List ((List Int) × (List Int))))))
  | (c_3, _, r, _, t35, o4_1, o6) =>
    cond (decide (t35 < (List.length ([0, 1, 6, 128, 255] : List Int) : Int)))
      ((rd o6 t35).bind fun _ =>
      (rd o6 t35).bind fun t38 =>
      Option.bind
        (loopN (Tests26.l0 k n t38) k (c_3, (), r, (), (), 0, o4_1, o6, ([(IntKind.wrap .u8 t16.1)] : List Int)) : Option ((ByteArray × ((List (Int × (ByteArray × (Int × (List (Int × (Int × (Int × (List (Int × (Int × (Int × Int)))))))))))) × ((List (Int × (Int × (Int × (List (Int × (Int × (Int × Int)))))))) × ((List (Int × (Int × (Int × (List (Int × (Int × (Int × Int)))))))) × (List (Int × (Int × (Int × (List (Int × (Int × (Int × Int)))))))))))) × (Unit × ((List Int) × (Unit × (Unit × ((List ((List Int) × (List Int))) × ((List Int) × (List Int))))))))) fun ((c_5, _, r_2, _, _, o4_3, o6_2, o7_1) : ((ByteArray × ((List (Int × (ByteArray × (Int × (List (Int × (Int × (Int × (List (Int × (Int × (Int × Int)))))))))))) × ((List (Int × (Int × (Int × (List (Int × (Int × (Int × Int)))))))) × ((List (Int × (Int × (Int × (List (Int × (Int × (Int × Int)))))))) × (List (Int × (Int × (Int × (List (Int × (Int × (Int × Int)))))))))))) × (Unit × ((List Int) × (Unit × (Unit × ((List ((List Int) × (List Int))) × ((List Int) × (List Int))))))))) =>
      (tail53 k c_5).bind fun t58 =>
      (if room (List.length o7_1 + List.length t58.1) 1 then some () else none).bind fun _ =>
      (if room (List.length o4_3 + List.length [((o7_1 ++ t58.1), r_2)]) 96 then some () else none).bind fun _ =>
      some (Sum.inl (c_5, (), r_2, (), (w64 (t35 + 1)), (o4_3 ++ [((o7_1 ++ t58.1), r_2)]), o6_2)))
      (some (Sum.inr (c_3, (), o4_1)))
def Tests26.l2 (k : Nat) (t16 : (Int × Unit)) (n : Int) (t27 : ((List (List Int)) × Unit)) : ((ByteArray × ((List (Int × (ByteArray × (Int × (List (Int × (Int × (Int × (List (Int × (Int × (Int × Int)))))))))))) × ((List (Int × (Int × (Int × (List (Int × (Int × (Int × Int)))))))) × ((List (Int × (Int × (Int × (List (Int × (Int × (Int × Int)))))))) × (List (Int × (Int × (Int × (List (Int × (Int × (Int × Int)))))))))))) × (Unit × (Int × (List ((List Int) × (List Int)))))) → Option (((ByteArray × ((List (Int × (ByteArray × (Int × (List (Int × (Int × (Int × (List (Int × (Int × (Int × Int)))))))))))) × ((List (Int × (Int × (Int × (List (Int × (Int × (Int × Int)))))))) × ((List (Int × (Int × (Int × (List (Int × (Int × (Int × Int)))))))) × (List (Int × (Int × (Int × (List (Int × (Int × (Int × Int)))))))))))) × (Unit × (Int × (List ((List Int) × (List Int)))))) ⊕ (Unit × (List ((List Int) × (List Int)))))
  | (c_2, _, t29, o4) =>
    cond (decide (t29 < (List.length t27.1 : Int)))
      ((rd t27.1 t29).bind fun t31 =>
      Option.bind
        (loopN (Tests26.l1 k t16 n) k (c_2, (), t31, (), 0, o4, ([0, 1, 6, 128, 255] : List Int)) : Option ((ByteArray × ((List (Int × (ByteArray × (Int × (List (Int × (Int × (Int × (List (Int × (Int × (Int × Int)))))))))))) × ((List (Int × (Int × (Int × (List (Int × (Int × (Int × Int)))))))) × ((List (Int × (Int × (Int × (List (Int × (Int × (Int × Int)))))))) × (List (Int × (Int × (Int × (List (Int × (Int × (Int × Int)))))))))))) × (Unit × (List ((List Int) × (List Int)))))) fun ((c_6, _, o4_4) : ((ByteArray × ((List (Int × (ByteArray × (Int × (List (Int × (Int × (Int × (List (Int × (Int × (Int × Int)))))))))))) × ((List (Int × (Int × (Int × (List (Int × (Int × (Int × Int)))))))) × ((List (Int × (Int × (Int × (List (Int × (Int × (Int × Int)))))))) × (List (Int × (Int × (Int × (List (Int × (Int × (Int × Int)))))))))))) × (Unit × (List ((List Int) × (List Int)))))) =>
      some (Sum.inl (c_6, (), (w64 (t29 + 1)), o4_4)))
      (some (Sum.inr ((), o4)))
def Tests26 (k : Nat) (c : (ByteArray × ((List (Int × (ByteArray × (Int × (List (Int × (Int × (Int × (List (Int × (Int × (Int × Int)))))))))))) × ((List (Int × (Int × (Int × (List (Int × (Int × (Int × Int)))))))) × ((List (Int × (Int × (Int × (List (Int × (Int × (Int × Int)))))))) × (List (Int × (Int × (Int × (List (Int × (Int × (Int × Int))))))))))))) (op : Int) : Option ((List ((List Int) × (List Int))) × Unit) :=
  (Low47 k op 8).bind fun t16 =>
  (Find52 k c t16.1).bind fun t20 =>
  Option.bind
    (cond t20.1.2.1
      ((Size37 k t20.1.1.2.2.1).bind fun t26 =>
      some (c, t26.1))
      (some (c, 2)) : Option ((ByteArray × ((List (Int × (ByteArray × (Int × (List (Int × (Int × (Int × (List (Int × (Int × (Int × Int)))))))))))) × ((List (Int × (Int × (Int × (List (Int × (Int × (Int × Int)))))))) × ((List (Int × (Int × (Int × (List (Int × (Int × (Int × Int)))))))) × (List (Int × (Int × (Int × (List (Int × (Int × (Int × Int)))))))))))) × Int)) fun ((c_1, n) : ((ByteArray × ((List (Int × (ByteArray × (Int × (List (Int × (Int × (Int × (List (Int × (Int × (Int × Int)))))))))))) × ((List (Int × (Int × (Int × (List (Int × (Int × (Int × Int)))))))) × ((List (Int × (Int × (Int × (List (Int × (Int × (Int × Int)))))))) × (List (Int × (Int × (Int × (List (Int × (Int × (Int × Int)))))))))))) × Int)) =>
  (Starts24 k).bind fun t27 =>
  Option.bind
    (loopN (Tests26.l2 k t16 n t27) k (c_1, (), 0, []) : Option (Unit × (List ((List Int) × (List Int))))) fun ((_, o4_5) : (Unit × (List ((List Int) × (List Int))))) =>
  some (o4_5, ())
def Tests26.A : Ann := { conds := [(1507333, ⟨[(2, .fp (.st (.pair .str (.pair (.sl (.st (.pair (.int .i64) (.pair .str (.pair (.int .i64) (.sl (.st (.pair (.int .i64) (.pair (.int .i64) (.pair (.int .i64) (.sl (.st (.pair (.int .i64) (.pair (.int .i64) (.pair (.int .i64) (.int .i64)))))))))))))))) (.pair (.sl (.st (.pair (.int .i64) (.pair (.int .i64) (.pair (.int .i64) (.sl (.st (.pair (.int .i64) (.pair (.int .i64) (.pair (.int .i64) (.int .i64))))))))))) (.pair (.sl (.st (.pair (.int .i64) (.pair (.int .i64) (.pair (.int .i64) (.sl (.st (.pair (.int .i64) (.pair (.int .i64) (.pair (.int .i64) (.int .i64))))))))))) (.sl (.st (.pair (.int .i64) (.pair (.int .i64) (.pair (.int .i64) (.sl (.st (.pair (.int .i64) (.pair (.int .i64) (.pair (.int .i64) (.int .i64))))))))))))))))), (5, .int .i64)], [], 0, [], 117440544⟩)], blocks := [(0, ⟨[(8, .ms 4)], [(4, .row (.st (.pair (.sl (.int .u8)) (.arr 9 (.int .i64)))))], 5, [], 73786976294301365504⟩), (2, ⟨[(2, .fp (.st (.pair .str (.pair (.sl (.st (.pair (.int .i64) (.pair .str (.pair (.int .i64) (.sl (.st (.pair (.int .i64) (.pair (.int .i64) (.pair (.int .i64) (.sl (.st (.pair (.int .i64) (.pair (.int .i64) (.pair (.int .i64) (.int .i64)))))))))))))))) (.pair (.sl (.st (.pair (.int .i64) (.pair (.int .i64) (.pair (.int .i64) (.sl (.st (.pair (.int .i64) (.pair (.int .i64) (.pair (.int .i64) (.int .i64))))))))))) (.pair (.sl (.st (.pair (.int .i64) (.pair (.int .i64) (.pair (.int .i64) (.sl (.st (.pair (.int .i64) (.pair (.int .i64) (.pair (.int .i64) (.int .i64))))))))))) (.sl (.st (.pair (.int .i64) (.pair (.int .i64) (.pair (.int .i64) (.sl (.st (.pair (.int .i64) (.pair (.int .i64) (.pair (.int .i64) (.int .i64))))))))))))))))), (8, .ms 4)], [(4, .row (.st (.pair (.sl (.int .u8)) (.arr 9 (.int .i64)))))], 5, [], 36893488113059393792⟩), (4, ⟨[(2, .fp (.st (.pair .str (.pair (.sl (.st (.pair (.int .i64) (.pair .str (.pair (.int .i64) (.sl (.st (.pair (.int .i64) (.pair (.int .i64) (.pair (.int .i64) (.sl (.st (.pair (.int .i64) (.pair (.int .i64) (.pair (.int .i64) (.int .i64)))))))))))))))) (.pair (.sl (.st (.pair (.int .i64) (.pair (.int .i64) (.pair (.int .i64) (.sl (.st (.pair (.int .i64) (.pair (.int .i64) (.pair (.int .i64) (.int .i64))))))))))) (.pair (.sl (.st (.pair (.int .i64) (.pair (.int .i64) (.pair (.int .i64) (.sl (.st (.pair (.int .i64) (.pair (.int .i64) (.pair (.int .i64) (.int .i64))))))))))) (.sl (.st (.pair (.int .i64) (.pair (.int .i64) (.pair (.int .i64) (.sl (.st (.pair (.int .i64) (.pair (.int .i64) (.pair (.int .i64) (.int .i64))))))))))))))))), (8, .ms 4), (10, .fp (.arr 9 (.int .i64))), (13, .ms 7), (33, .ms 6)], [(4, .row (.st (.pair (.sl (.int .u8)) (.arr 9 (.int .i64))))), (6, .row (.int .i64)), (7, .row (.int .u8))], 8, [], 36020000925966336⟩)], loops := [(8, ⟨[(2, .fp (.st (.pair .str (.pair (.sl (.st (.pair (.int .i64) (.pair .str (.pair (.int .i64) (.sl (.st (.pair (.int .i64) (.pair (.int .i64) (.pair (.int .i64) (.sl (.st (.pair (.int .i64) (.pair (.int .i64) (.pair (.int .i64) (.int .i64)))))))))))))))) (.pair (.sl (.st (.pair (.int .i64) (.pair (.int .i64) (.pair (.int .i64) (.sl (.st (.pair (.int .i64) (.pair (.int .i64) (.pair (.int .i64) (.int .i64))))))))))) (.pair (.sl (.st (.pair (.int .i64) (.pair (.int .i64) (.pair (.int .i64) (.sl (.st (.pair (.int .i64) (.pair (.int .i64) (.pair (.int .i64) (.int .i64))))))))))) (.sl (.st (.pair (.int .i64) (.pair (.int .i64) (.pair (.int .i64) (.sl (.st (.pair (.int .i64) (.pair (.int .i64) (.pair (.int .i64) (.int .i64))))))))))))))))), (8, .ms 4), (29, .int .i64)], [(4, .row (.st (.pair (.sl (.int .u8)) (.arr 9 (.int .i64)))))], 5, [(4, .st (.pair (.sl (.int .u8)) (.arr 9 (.int .i64))))], 73786976294301365504⟩), (11, ⟨[(2, .fp (.st (.pair .str (.pair (.sl (.st (.pair (.int .i64) (.pair .str (.pair (.int .i64) (.sl (.st (.pair (.int .i64) (.pair (.int .i64) (.pair (.int .i64) (.sl (.st (.pair (.int .i64) (.pair (.int .i64) (.pair (.int .i64) (.int .i64)))))))))))))))) (.pair (.sl (.st (.pair (.int .i64) (.pair (.int .i64) (.pair (.int .i64) (.sl (.st (.pair (.int .i64) (.pair (.int .i64) (.pair (.int .i64) (.int .i64))))))))))) (.pair (.sl (.st (.pair (.int .i64) (.pair (.int .i64) (.pair (.int .i64) (.sl (.st (.pair (.int .i64) (.pair (.int .i64) (.pair (.int .i64) (.int .i64))))))))))) (.sl (.st (.pair (.int .i64) (.pair (.int .i64) (.pair (.int .i64) (.sl (.st (.pair (.int .i64) (.pair (.int .i64) (.pair (.int .i64) (.int .i64))))))))))))))))), (8, .ms 4), (10, .fp (.arr 9 (.int .i64))), (33, .ms 6), (35, .int .i64)], [(4, .row (.st (.pair (.sl (.int .u8)) (.arr 9 (.int .i64))))), (6, .row (.int .i64))], 7, [], 36893488113059393792⟩), (15, ⟨[(2, .fp (.st (.pair .str (.pair (.sl (.st (.pair (.int .i64) (.pair .str (.pair (.int .i64) (.sl (.st (.pair (.int .i64) (.pair (.int .i64) (.pair (.int .i64) (.sl (.st (.pair (.int .i64) (.pair (.int .i64) (.pair (.int .i64) (.int .i64)))))))))))))))) (.pair (.sl (.st (.pair (.int .i64) (.pair (.int .i64) (.pair (.int .i64) (.sl (.st (.pair (.int .i64) (.pair (.int .i64) (.pair (.int .i64) (.int .i64))))))))))) (.pair (.sl (.st (.pair (.int .i64) (.pair (.int .i64) (.pair (.int .i64) (.sl (.st (.pair (.int .i64) (.pair (.int .i64) (.pair (.int .i64) (.int .i64))))))))))) (.sl (.st (.pair (.int .i64) (.pair (.int .i64) (.pair (.int .i64) (.sl (.st (.pair (.int .i64) (.pair (.int .i64) (.pair (.int .i64) (.int .i64))))))))))))))))), (8, .ms 4), (10, .fp (.arr 9 (.int .i64))), (13, .ms 7), (33, .ms 6), (43, .int .i64)], [(4, .row (.st (.pair (.sl (.int .u8)) (.arr 9 (.int .i64))))), (6, .row (.int .i64)), (7, .row (.int .u8))], 8, [], 36020000925966336⟩)], keeps := [2, 6, 10], orders := [(19, [(0, .weak), (1, .strong), (2, .strong), (5, .weak), (3, .eff true), (4, .eff false), (6, .strong), (7, .eff true), (8, .eff false), (9, .strong)])] }
def Tests26.S : Sig := { f := 26, params := [.st (.pair .str (.pair (.sl (.st (.pair (.int .i64) (.pair .str (.pair (.int .i64) (.sl (.st (.pair (.int .i64) (.pair (.int .i64) (.pair (.int .i64) (.sl (.st (.pair (.int .i64) (.pair (.int .i64) (.pair (.int .i64) (.int .i64)))))))))))))))) (.pair (.sl (.st (.pair (.int .i64) (.pair (.int .i64) (.pair (.int .i64) (.sl (.st (.pair (.int .i64) (.pair (.int .i64) (.pair (.int .i64) (.int .i64))))))))))) (.pair (.sl (.st (.pair (.int .i64) (.pair (.int .i64) (.pair (.int .i64) (.sl (.st (.pair (.int .i64) (.pair (.int .i64) (.pair (.int .i64) (.int .i64))))))))))) (.sl (.st (.pair (.int .i64) (.pair (.int .i64) (.pair (.int .i64) (.sl (.st (.pair (.int .i64) (.pair (.int .i64) (.pair (.int .i64) (.int .i64))))))))))))))), .int .i64], objs := [], res := .sl (.st (.pair (.sl (.int .u8)) (.arr 9 (.int .i64)))), outs := [], fix := [], run := fun k ds os => Tests26 k ds.1 ds.2 }
def Tests26.G : List Sig := [Find52.S, Low47.S, Size37.S, Starts24.S, tail53.S]
theorem Tests26.eq (k : Nat) : ∀ ds os, Tests26.S.run k ds os = runF ⟨types, Tests26.G, Tests26.A, k, 0, []⟩ Try.f26 (codeOf Try.f26) Tests26.S.params Tests26.S.objs Tests26.S.res Tests26.S.outs ds os := by
  intro ds os; kernel_rfl
theorem Tests26.dr : DrOk Try.prog Tests26.A (codeOf Try.f26) := ⟨by kernel_rfl, by kernel_rfl⟩
theorem Tests26.ok (k : Nat) : SoundAt Try.prog k Tests26.S :=
  runF_sound (X := ⟨types, Tests26.G, Tests26.A, k, 0, []⟩) types_ok (mem_all (⟨Find52.ok k, ⟨Low47.ok k, ⟨Size37.ok k, ⟨Starts24.ok k, ⟨tail53.ok k, trivial⟩⟩⟩⟩⟩)) (fn := Try.f26) (c := codeOf Try.f26) rfl (by kernel_rfl) rfl rfl Tests26.dr (Tests26.eq k)
end Go.Proofs.Ytcppmlgnceldmaa.Ge

/- Go functions as plain Lean functions, and their contracts. -/
set_option linter.unusedVariables false
set_option maxRecDepth 100000
noncomputable section
namespace Go.Proofs.Ytcppmlgnceldmaa.Ge
open Go Go.Proofs.Ytcppmlgnceldmaa.Gp
def Equal54.l0 (k : Nat) (s1 : (List Int)) (s2 : (List Int)) : Int → Option (Int ⊕ (Unit ⊕ (Bool × Unit)))
  | t13 =>
    cond (decide (t13 < (List.length s1 : Int)))
      ((rd s1 t13).bind fun t18 =>
      (rd s2 t13).bind fun t22 =>
      cond (t18 != t22)
        (some (Sum.inr (Sum.inr (false, ()))))
        (some (Sum.inl (w64 (t13 + 1)))))
      (some (Sum.inr (Sum.inl ())))
def Equal54 (k : Nat) (s1 : (List Int)) (s2 : (List Int)) : Option (Bool × Unit) :=
  cond ((List.length s1 : Int) != (List.length s2 : Int))
    (some (false, ()))
    (Option.bind
      (loopN (Equal54.l0 k s1 s2) k 0 : Option (Unit ⊕ (Bool × Unit))) (joined fun (_ : Unit) =>
      some (true, ())))
def Equal54.A : Ann := { conds := [], blocks := [(0, ⟨[], [], 0, [], 67100720⟩)], loops := [(4, ⟨[(13, .int .i64)], [], 0, [], 67100720⟩)], keeps := [], orders := [(6, [(0, .strong), (1, .strong), (2, .strong), (3, .strong), (4, .strong), (5, .strong), (6, .strong), (7, .strong), (8, .strong)])] }
def Equal54.S : Sig := { f := 54, params := [.sl (.int .u8), .sl (.int .u8)], objs := [], res := .bool, outs := [], fix := [], run := fun k ds os => Equal54 k ds.1 ds.2 }
def Equal54.G : List Sig := []
theorem Equal54.eq (k : Nat) : ∀ ds os, Equal54.S.run k ds os = runF ⟨types, Equal54.G, Equal54.A, k, 0, []⟩ Try.f54 (codeOf Try.f54) Equal54.S.params Equal54.S.objs Equal54.S.res Equal54.S.outs ds os := by
  intro ds os; kernel_rfl
theorem Equal54.dr : DrOk Try.prog Equal54.A (codeOf Try.f54) := ⟨by kernel_rfl, by kernel_rfl⟩
theorem Equal54.ok (k : Nat) : SoundAt Try.prog k Equal54.S :=
  runF_sound (X := ⟨types, Equal54.G, Equal54.A, k, 0, []⟩) types_ok (fun s hs => absurd hs List.not_mem_nil) (fn := Try.f54) (c := codeOf Try.f54) rfl (by kernel_rfl) rfl rfl Equal54.dr (Equal54.eq k)

def sameTest27 (k : Nat) (a : ((List Int) × (List Int))) (b : ((List Int) × (List Int))) : Option (Bool × Unit) :=
  (Equal54 k a.1 b.1).bind fun t9 =>
  some ((cond t9.1 (xor false (eqB (.arr 9 (.int .i64)) a.2 b.2)) false), ())
def sameTest27.A : Ann := { conds := [], blocks := [], loops := [], keeps := [2, 3], orders := [] }
def sameTest27.S : Sig := { f := 27, params := [.st (.pair (.sl (.int .u8)) (.arr 9 (.int .i64))), .st (.pair (.sl (.int .u8)) (.arr 9 (.int .i64)))], objs := [], res := .bool, outs := [], fix := [], run := fun k ds os => sameTest27 k ds.1 ds.2 }
def sameTest27.G : List Sig := [Equal54.S]
theorem sameTest27.eq (k : Nat) : ∀ ds os, sameTest27.S.run k ds os = runF ⟨types, sameTest27.G, sameTest27.A, k, 0, []⟩ Try.f27 (codeOf Try.f27) sameTest27.S.params sameTest27.S.objs sameTest27.S.res sameTest27.S.outs ds os := by
  intro ds os; kernel_rfl
theorem sameTest27.dr : DrOk Try.prog sameTest27.A (codeOf Try.f27) := ⟨by kernel_rfl, by kernel_rfl⟩
theorem sameTest27.ok (k : Nat) : SoundAt Try.prog k sameTest27.S :=
  runF_sound (X := ⟨types, sameTest27.G, sameTest27.A, k, 0, []⟩) types_ok (mem_all (⟨Equal54.ok k, trivial⟩)) (fn := Try.f27) (c := codeOf Try.f27) rfl (by kernel_rfl) rfl rfl sameTest27.dr (sameTest27.eq k)

def EqualFunc25.l0 (k : Nat) (s1 : (List ((List Int) × (List Int)))) (s2 : (List ((List Int) × (List Int)))) : (Unit × Int) → Option ((Unit × Int) ⊕ (Unit ⊕ (Bool × Unit)))
  | (_, t17) =>
    cond (decide (t17 < (List.length s1 : Int)))
      ((rd s1 t17).bind fun t20 =>
      (rd s2 t17).bind fun t24 =>
      (sameTest27 k t20 t24).bind fun t29 =>
      cond (!t29.1)
        (some (Sum.inr (Sum.inr (false, ()))))
        (some (Sum.inl ((), (w64 (t17 + 1))))))
      (some (Sum.inr (Sum.inl ())))
def EqualFunc25 (k : Nat) (s1 : (List ((List Int) × (List Int)))) (s2 : (List ((List Int) × (List Int)))) (_ : Unit) : Option (Bool × Unit) :=
  cond ((List.length s1 : Int) != (List.length s2 : Int))
    (some (false, ()))
    (Option.bind
      (loopN (EqualFunc25.l0 k s1 s2) k ((), 0) : Option (Unit ⊕ (Bool × Unit))) (joined fun (_ : Unit) =>
      some (true, ())))
def EqualFunc25.A : Ann := { conds := [], blocks := [(0, ⟨[], [], 0, [], 4294837184⟩)], loops := [(4, ⟨[(2, .fn 27 .unit), (17, .int .i64)], [], 0, [], 4294837184⟩)], keeps := [8, 9], orders := [] }
def EqualFunc25.S : Sig := { f := 25, params := [.sl (.st (.pair (.sl (.int .u8)) (.arr 9 (.int .i64)))), .sl (.st (.pair (.sl (.int .u8)) (.arr 9 (.int .i64)))), .fn 27 .unit], objs := [], res := .bool, outs := [], fix := [], run := fun k ds os => EqualFunc25 k ds.1 ds.2.1 ds.2.2 }
def EqualFunc25.G : List Sig := [sameTest27.S]
theorem EqualFunc25.eq (k : Nat) : ∀ ds os, EqualFunc25.S.run k ds os = runF ⟨types, EqualFunc25.G, EqualFunc25.A, k, 0, []⟩ Try.f25 (codeOf Try.f25) EqualFunc25.S.params EqualFunc25.S.objs EqualFunc25.S.res EqualFunc25.S.outs ds os := by
  intro ds os; kernel_rfl
theorem EqualFunc25.dr : DrOk Try.prog EqualFunc25.A (codeOf Try.f25) := ⟨by kernel_rfl, by kernel_rfl⟩
theorem EqualFunc25.ok (k : Nat) : SoundAt Try.prog k EqualFunc25.S :=
  runF_sound (X := ⟨types, EqualFunc25.G, EqualFunc25.A, k, 0, []⟩) types_ok (mem_all (⟨sameTest27.ok k, trivial⟩)) (fn := Try.f25) (c := codeOf Try.f25) rfl (by kernel_rfl) rfl rfl EqualFunc25.dr (EqualFunc25.eq k)

def GenTests5.l0 (k : Nat) (t19 : ((List ((List Int) × (List Int))) × Unit)) (t20 : ((List (List Int)) × Unit)) : ((ByteArray × ((List (Int × (ByteArray × (Int × (List (Int × (Int × (Int × (List (Int × (Int × (Int × Int)))))))))))) × ((List (Int × (Int × (Int × (List (Int × (Int × (Int × Int)))))))) × ((List (Int × (Int × (Int × (List (Int × (Int × (Int × Int)))))))) × (List (Int × (Int × (Int × (List (Int × (Int × (Int × Int)))))))))))) × Int) → Option (((ByteArray × ((List (Int × (ByteArray × (Int × (List (Int × (Int × (Int × (List (Int × (Int × (Int × Int)))))))))))) × ((List (Int × (Int × (Int × (List (Int × (Int × (Int × Int)))))))) × ((List (Int × (Int × (Int × (List (Int × (Int × (Int × Int)))))))) × (List (Int × (Int × (Int × (List (Int × (Int × (Int × Int)))))))))))) × Int) ⊕ ((ByteArray × ((List (Int × (ByteArray × (Int × (List (Int × (Int × (Int × (List (Int × (Int × (Int × Int)))))))))))) × ((List (Int × (Int × (Int × (List (Int × (Int × (Int × Int)))))))) × ((List (Int × (Int × (Int × (List (Int × (Int × (Int × Int)))))))) × (List (Int × (Int × (Int × (List (Int × (Int × (Int × Int)))))))))))) ⊕ (Bool × Unit)))
  | (c_1, t26) =>
    cond (decide (t26 < (List.length t20.1 : Int)))
      ((rd t20.1 t26).bind fun t29 =>
      (rd t19.1 (w64 (5 * t26))).bind fun t35 =>
      cond (xor true (eqB (.arr 9 (.int .i64)) t29 t35.2))
        (some (Sum.inr (Sum.inr (false, ()))))
        (some (Sum.inl (c_1, (w64 (t26 + 1))))))
      (some (Sum.inr (Sum.inl c_1)))
def GenTests5 (k : Nat) (c : (ByteArray × ((List (Int × (ByteArray × (Int × (List (Int × (Int × (Int × (List (Int × (Int × (Int × Int)))))))))))) × ((List (Int × (Int × (Int × (List (Int × (Int × (Int × Int)))))))) × ((List (Int × (Int × (Int × (List (Int × (Int × (Int × Int)))))))) × (List (Int × (Int × (Int × (List (Int × (Int × (Int × Int))))))))))))) (op : Int) : Option (Bool × Unit) :=
  (generated17 k).bind fun t9 =>
  Option.bind (cond (!t9.1)
    (some true)
    ((Check18 k c).bind fun t13 =>
    some (t13.1 != 0))) fun t15 =>
  cond t15
    ((generated17 k).bind fun t16 =>
    some (t16.1, ()))
    ((TestsOf23 k c op).bind fun t19 =>
    (Starts24 k).bind fun t20 =>
    cond ((List.length t20.1 : Int) != 25)
      (some (false, ()))
      (Option.bind
        (loopN (GenTests5.l0 k t19 t20) k (c, 0) : Option ((ByteArray × ((List (Int × (ByteArray × (Int × (List (Int × (Int × (Int × (List (Int × (Int × (Int × Int)))))))))))) × ((List (Int × (Int × (Int × (List (Int × (Int × (Int × Int)))))))) × ((List (Int × (Int × (Int × (List (Int × (Int × (Int × Int)))))))) × (List (Int × (Int × (Int × (List (Int × (Int × (Int × Int)))))))))))) ⊕ (Bool × Unit))) (joined fun (c_2 : (ByteArray × ((List (Int × (ByteArray × (Int × (List (Int × (Int × (Int × (List (Int × (Int × (Int × Int)))))))))))) × ((List (Int × (Int × (Int × (List (Int × (Int × (Int × Int)))))))) × ((List (Int × (Int × (Int × (List (Int × (Int × (Int × Int)))))))) × (List (Int × (Int × (Int × (List (Int × (Int × (Int × Int))))))))))))) =>
        (Tests26 k c_2 op).bind fun t42 =>
        (EqualFunc25 k t42.1 t19.1 ()).bind fun t44 =>
        some (t44.1, ()))))
def GenTests5.A : Ann := { conds := [], blocks := [(0, ⟨[(2, .fp (.st (.pair .str (.pair (.sl (.st (.pair (.int .i64) (.pair .str (.pair (.int .i64) (.sl (.st (.pair (.int .i64) (.pair (.int .i64) (.pair (.int .i64) (.sl (.st (.pair (.int .i64) (.pair (.int .i64) (.pair (.int .i64) (.int .i64)))))))))))))))) (.pair (.sl (.st (.pair (.int .i64) (.pair (.int .i64) (.pair (.int .i64) (.sl (.st (.pair (.int .i64) (.pair (.int .i64) (.pair (.int .i64) (.int .i64))))))))))) (.pair (.sl (.st (.pair (.int .i64) (.pair (.int .i64) (.pair (.int .i64) (.sl (.st (.pair (.int .i64) (.pair (.int .i64) (.pair (.int .i64) (.int .i64))))))))))) (.sl (.st (.pair (.int .i64) (.pair (.int .i64) (.pair (.int .i64) (.sl (.st (.pair (.int .i64) (.pair (.int .i64) (.pair (.int .i64) (.int .i64)))))))))))))))))], [], 0, [], 1099444519312⟩)], loops := [(8, ⟨[(2, .fp (.st (.pair .str (.pair (.sl (.st (.pair (.int .i64) (.pair .str (.pair (.int .i64) (.sl (.st (.pair (.int .i64) (.pair (.int .i64) (.pair (.int .i64) (.sl (.st (.pair (.int .i64) (.pair (.int .i64) (.pair (.int .i64) (.int .i64)))))))))))))))) (.pair (.sl (.st (.pair (.int .i64) (.pair (.int .i64) (.pair (.int .i64) (.sl (.st (.pair (.int .i64) (.pair (.int .i64) (.pair (.int .i64) (.int .i64))))))))))) (.pair (.sl (.st (.pair (.int .i64) (.pair (.int .i64) (.pair (.int .i64) (.sl (.st (.pair (.int .i64) (.pair (.int .i64) (.pair (.int .i64) (.int .i64))))))))))) (.sl (.st (.pair (.int .i64) (.pair (.int .i64) (.pair (.int .i64) (.sl (.st (.pair (.int .i64) (.pair (.int .i64) (.pair (.int .i64) (.int .i64))))))))))))))))), (26, .int .i64)], [], 0, [], 1099444519312⟩)], keeps := [2, 8], orders := [(10, [(0, .strong), (1, .strong), (2, .strong), (3, .strong), (4, .strong), (5, .strong), (6, .strong), (7, .strong)])] }
def GenTests5.S : Sig := { f := 5, params := [.st (.pair .str (.pair (.sl (.st (.pair (.int .i64) (.pair .str (.pair (.int .i64) (.sl (.st (.pair (.int .i64) (.pair (.int .i64) (.pair (.int .i64) (.sl (.st (.pair (.int .i64) (.pair (.int .i64) (.pair (.int .i64) (.int .i64)))))))))))))))) (.pair (.sl (.st (.pair (.int .i64) (.pair (.int .i64) (.pair (.int .i64) (.sl (.st (.pair (.int .i64) (.pair (.int .i64) (.pair (.int .i64) (.int .i64))))))))))) (.pair (.sl (.st (.pair (.int .i64) (.pair (.int .i64) (.pair (.int .i64) (.sl (.st (.pair (.int .i64) (.pair (.int .i64) (.pair (.int .i64) (.int .i64))))))))))) (.sl (.st (.pair (.int .i64) (.pair (.int .i64) (.pair (.int .i64) (.sl (.st (.pair (.int .i64) (.pair (.int .i64) (.pair (.int .i64) (.int .i64))))))))))))))), .int .i64], objs := [], res := .bool, outs := [], fix := [], run := fun k ds os => GenTests5 k ds.1 ds.2 }
def GenTests5.G : List Sig := [Check18.S, EqualFunc25.S, Starts24.S, Tests26.S, TestsOf23.S, generated17.S]
theorem GenTests5.eq (k : Nat) : ∀ ds os, GenTests5.S.run k ds os = runF ⟨types, GenTests5.G, GenTests5.A, k, 0, []⟩ Try.f5 (codeOf Try.f5) GenTests5.S.params GenTests5.S.objs GenTests5.S.res GenTests5.S.outs ds os := by
  intro ds os; kernel_rfl
theorem GenTests5.dr : DrOk Try.prog GenTests5.A (codeOf Try.f5) := ⟨by kernel_rfl, by kernel_rfl⟩
theorem GenTests5.ok (k : Nat) : SoundAt Try.prog k GenTests5.S :=
  runF_sound (X := ⟨types, GenTests5.G, GenTests5.A, k, 0, []⟩) types_ok (mem_all (⟨Check18.ok k, ⟨EqualFunc25.ok k, ⟨Starts24.ok k, ⟨Tests26.ok k, ⟨TestsOf23.ok k, ⟨generated17.ok k, trivial⟩⟩⟩⟩⟩⟩)) (fn := Try.f5) (c := codeOf Try.f5) rfl (by kernel_rfl) rfl rfl GenTests5.dr (GenTests5.eq k)
end Go.Proofs.Ytcppmlgnceldmaa.Ge

/- What is left of a Go function, in the long run: rounds, loops, lists, numbers. No program in sight. -/
set_option linter.unusedVariables false
noncomputable section
namespace Go.Proofs.Ytcppmlgnceldmaa.Gp
open Go

/-- from some fuel on, f answers v -/
def Ev {α : Type} (f : Nat → Option α) (v : α) : Prop := ∃ n, ∀ k, n ≤ k → f k = some v
/-- .. a loop, from some fuel on and with enough rounds -/
def Lp {S R : Type} (body : Nat → S → Option (S ⊕ R)) (s : S) (r : R) : Prop := ∃ n m, ∀ k, n ≤ k → ∀ j, m ≤ j → loopN (body k) j s = some r

theorem Ev.ex {α : Type} {f : Nat → Option α} {v : α} (h : Ev f v) : ∃ k, f k = some v := by
  obtain ⟨n, h⟩ := h
  exact ⟨n, h n (Nat.le_refl _)⟩
theorem Ev.now {α : Type} (v : α) : Ev (fun _ => some v) v := ⟨0, fun _ _ => rfl⟩
theorem Ev.now' {α : Type} {v w : α} (h : v = w) : Ev (fun _ => some v) w := h ▸ .now v
/-- what hangs on no fuel -/
theorem Ev.const {α : Type} {o : Option α} {v : α} (h : o = some v) : Ev (fun _ => o) v := ⟨0, fun _ _ => h⟩
theorem Ev.to {α : Type} {f : Nat → Option α} {v w : α} (h : Ev f v) (e : v = w) : Ev f w := e ▸ h
theorem Ev.of {α : Type} {f g : Nat → Option α} {v : α} (h : Ev f v) (e : ∀ k, g k = f k) : Ev g v := by
  obtain ⟨n, h⟩ := h
  exact ⟨n, fun k hk => (e k).trans (h k hk)⟩
theorem Ev.bind {α β : Type} {f : Nat → Option α} {g : Nat → α → Option β} {a : α} {b : β} (h : Ev f a) (h2 : Ev (fun k => g k a) b) : Ev (fun k => (f k).bind (g k)) b := by
  obtain ⟨n, h⟩ := h
  obtain ⟨m, h2⟩ := h2
  refine ⟨max n m, fun k hk => ?_⟩
  show (f k).bind (g k) = _
  rw [h k (by omega)]
  exact h2 k (by omega)
/-- a value that hangs on no fuel -/
theorem Ev.val {α β : Type} {o : Option α} {g : Nat → α → Option β} {a : α} {b : β} (h : o = some a) (h2 : Ev (fun k => g k a) b) : Ev (fun k => o.bind (g k)) b := by
  subst h
  exact h2
theorem Ev.joinL {S α β : Type} {f : Nat → Option (α ⊕ β)} {g : Nat → α → Option β} {a : α} {b : β} (h : Ev f (.inl a)) (h2 : Ev (fun k => g k a) b) : Ev (fun k => (f k).bind (joined (g k))) b :=
  Ev.bind (g := fun k => joined (g k)) h h2
theorem Ev.joinR {α β : Type} {f : Nat → Option (α ⊕ β)} {g : Nat → α → Option β} {b : β} (h : Ev f (.inr b)) : Ev (fun k => (f k).bind (joined (g k))) b :=
  Ev.bind (g := fun k => joined (g k)) h (.now b)
/-- a join: how it came, and what follows -/
theorem Ev.join {α β : Type} {f : Nat → Option (α ⊕ β)} {g : Nat → α → Option β} {s : α ⊕ β} {b : β} (h : Ev f s) (h1 : ∀ a, s = .inl a → Ev (fun k => g k a) b) (h2 : ∀ r, s = .inr r → r = b) : Ev (fun k => (f k).bind (joined (g k))) b := by
  cases s with
  | inl a => exact Ev.bind (g := fun k => joined (g k)) h (h1 a rfl)
  | inr r => exact Ev.bind (g := fun k => joined (g k)) h (.now' (h2 r rfl))
theorem Ev.cnd {α : Type} {c : Bool} {f g : Nat → Option α} {v : α} (h1 : c = true → Ev f v) (h2 : c = false → Ev g v) : Ev (fun k => cond c (f k) (g k)) v := by
  cases c with
  | true => exact h1 rfl
  | false => exact h2 rfl
theorem Ev.yes {α : Type} {c : Bool} {f g : Nat → Option α} {v : α} (hc : c = true) (h : Ev f v) : Ev (fun k => cond c (f k) (g k)) v := by rw [hc]; exact h
theorem Ev.no {α : Type} {c : Bool} {f g : Nat → Option α} {v : α} (hc : c = false) (h : Ev g v) : Ev (fun k => cond c (f k) (g k)) v := by rw [hc]; exact h
theorem Ev.iff {α : Type} {c : Prop} [Decidable c] {f g : Nat → Option α} {v : α} (h1 : c → Ev f v) (h2 : ¬ c → Ev g v) : Ev (fun k => cond (decide c) (f k) (g k)) v := by
  by_cases h : c
  · exact .yes (decide_eq_true h) (h1 h)
  · exact .no (decide_eq_false h) (h2 h)
theorem Ev.map {α β : Type} {f : Nat → Option α} {g : α → β} {a : α} (h : Ev f a) : Ev (fun k => (f k).map g) (g a) := by
  obtain ⟨n, h⟩ := h
  exact ⟨n, fun k hk => by show (f k).map g = _; rw [h k hk]; rfl⟩

theorem Lp.ev {S R : Type} {body : Nat → S → Option (S ⊕ R)} {s : S} {r : R} (h : Lp body s r) : Ev (fun k => loopN (body k) k s) r := by
  obtain ⟨n, m, h⟩ := h
  exact ⟨max n m, fun k hk => h k (by omega) k (by omega)⟩
theorem Lp.done {S R : Type} {body : Nat → S → Option (S ⊕ R)} {s : S} {r : R} (h : Ev (fun k => body k s) (.inr r)) : Lp body s r := by
  obtain ⟨n, h⟩ := h
  refine ⟨n, 1, fun k hk j hj => ?_⟩
  obtain ⟨j, rfl⟩ : ∃ i, j = i + 1 := ⟨j - 1, by omega⟩
  show (body k s).bind _ = _
  rw [show body k s = _ from h k hk]
  rfl
theorem Lp.step {S R : Type} {body : Nat → S → Option (S ⊕ R)} {s s' : S} {r : R} (h : Ev (fun k => body k s) (.inl s')) (h2 : Lp body s' r) : Lp body s r := by
  obtain ⟨n, h⟩ := h
  obtain ⟨n2, m, h2⟩ := h2
  refine ⟨max n n2, m + 1, fun k hk j hj => ?_⟩
  obtain ⟨j, rfl⟩ : ∃ i, j = i + 1 := ⟨j - 1, by omega⟩
  show (body k s).bind _ = _
  rw [show body k s = _ from h k (by omega)]
  exact h2 k (by omega) j (by omega)

/-- a walk over a list, that may end early -/
def walk {α β R : Type} (f : β → α → β ⊕ R) (fin : β → R) : List α → β → R
  | [], b => fin b
  | x :: l, b => match f b x with | .inl b' => walk f fin l b' | .inr r => r
theorem walk_nil {α β R : Type} {f : β → α → β ⊕ R} {fin : β → R} {b : β} : walk f fin [] b = fin b := rfl
theorem walk_cons {α β R : Type} {f : β → α → β ⊕ R} {fin : β → R} {x : α} {l : List α} {b : β} : walk f fin (x :: l) b = match f b x with | .inl b' => walk f fin l b' | .inr r => r := rfl

/-- a loop over a list by its index: 'st b i' is the loop's state -/
theorem Lp.walk {α β S R : Type} {body : Nat → S → Option (S ⊕ R)} (l : List α) (st : β → Int → S) (f : β → α → β ⊕ R) (fin : β → R) (Inv : Nat → β → Prop)
    (hs : ∀ i x b, l[i]? = some x → Inv i b → Ev (fun k => body k (st b i)) (match f b x with | .inl b' => .inl (st b' ((i : Int) + 1)) | .inr r => .inr r) ∧ ∀ b', f b x = .inl b' → Inv (i + 1) b')
    (hd : ∀ b, Inv l.length b → Ev (fun k => body k (st b l.length)) (.inr (fin b))) {b : β} (h0 : Inv 0 b) : Lp body (st b 0) (walk f fin l b) := by
  have key : ∀ (suf pre : List α) (b : β), l = pre ++ suf → Inv pre.length b → Lp body (st b (pre.length : Int)) (Gp.walk f fin suf b) := by
    intro suf
    induction suf with
    | nil =>
      intro pre b h hi
      rw [List.append_nil] at h
      subst h
      exact .done (hd b hi)
    | cons x suf ih =>
      intro pre b h hi
      have hx : l[pre.length]? = some x := by rw [h]; simp
      obtain ⟨h1, h2⟩ := hs pre.length x b hx hi
      rw [walk_cons]
      cases hf : f b x with
      | inr r => rw [hf] at h1; exact .done h1
      | inl b' =>
        rw [hf] at h1
        refine .step h1 ?_
        have := ih (pre ++ [x]) b' (by rw [h]; simp) (by simpa using h2 b' hf)
        simpa using this
  exact key l [] b rfl h0
/-- .. that always goes to its end -/
theorem Lp.fold {α β S R : Type} {body : Nat → S → Option (S ⊕ R)} (l : List α) (st : β → Int → S) (f : β → α → β) (fin : β → R) (Inv : Nat → β → Prop)
    (hs : ∀ i x b, l[i]? = some x → Inv i b → Ev (fun k => body k (st b i)) (.inl (st (f b x) ((i : Int) + 1))) ∧ Inv (i + 1) (f b x))
    (hd : ∀ b, Inv l.length b → Ev (fun k => body k (st b l.length)) (.inr (fin b))) {b : β} (h0 : Inv 0 b) : Lp body (st b 0) (fin (l.foldl f b)) := by
  have := Lp.walk (body := body) l st (fun b x => .inl (f b x)) fin Inv (fun i x b hx hi => ⟨(hs i x b hx hi).1, fun b' hb => by cases hb; exact (hs i x b hx hi).2⟩) hd h0
  have e : ∀ (l : List α) (b : β), Gp.walk (fun b x => (.inl (f b x) : β ⊕ R)) fin l b = fin (l.foldl f b) := by
    intro l
    induction l with
    | nil => intro b; rfl
    | cons x l ih => intro b; rw [walk_cons, List.foldl_cons]; exact ih _
  rwa [e] at this
/-- a loop that counts from 0 to n -/
theorem Lp.count {β S R : Type} {body : Nat → S → Option (S ⊕ R)} (n : Nat) (st : β → Int → S) (f : β → Nat → β) (fin : β → R) (Inv : Nat → β → Prop)
    (hs : ∀ i b, i < n → Inv i b → Ev (fun k => body k (st b i)) (.inl (st (f b i) ((i : Int) + 1))) ∧ Inv (i + 1) (f b i))
    (hd : ∀ b, Inv n b → Ev (fun k => body k (st b n)) (.inr (fin b))) {b : β} (h0 : Inv 0 b) : Lp body (st b 0) (fin ((List.range n).foldl f b)) := by
  refine Lp.fold (List.range n) st f fin Inv (fun i x b hx hi => ?_) (fun b hb => ?_) h0
  · obtain ⟨h1, h2⟩ := List.getElem?_eq_some_iff.1 hx
    rw [List.getElem_range] at h2
    subst h2
    exact hs i b (by simpa using h1) hi
  · rw [List.length_range] at hb ⊢
    exact hd b hb

-- numbers
theorem w64_id {x : Int} (h0 : -9223372036854775808 ≤ x) (h1 : x ≤ 9223372036854775807) : w64 x = x := by
  show IntKind.wrap .i64 x = x
  have e : (2 : Int) ^ (64 - 1) = 9223372036854775808 := by decide
  have e2 : (2 : Int) ^ 64 = 18446744073709551616 := by decide
  simp only [IntKind.wrap, IntKind.signed, IntKind.bits, Bool.true_and, decide_eq_true_eq, e, e2]
  split <;> omega
theorem w64_nat {n : Nat} (h : n ≤ 9223372036854775807) : w64 (n : Int) = n := w64_id (by omega) (by omega)
theorem w64_succ {n : Nat} (h : n < 9223372036854775807) : w64 ((n : Int) + 1) = ((n + 1 : Nat) : Int) := by rw [w64_id (by omega) (by omega)]; omega
theorem rd_nat {α : Type} (l : List α) (i : Nat) : rd l (i : Int) = l[i]? := by
  unfold rd
  rw [if_pos (by omega)]
  rfl
theorem rd_some' {α : Type} {l : List α} {i : Nat} {x : α} (h : l[i]? = some x) : rd l (i : Int) = some x := by rw [rd_nat, h]
theorem rd_at {α : Type} {l : List α} {z : Int} {i : Nat} {x : α} (hz : z = i) (h : l[i]? = some x) : rd l z = some x := by rw [hz, rd_nat, h]
theorem room_ok {n b : Nat} (h : n * b ≤ 140737488355328) : room n b = true := Nat.ble_eq_true_of_le h
theorem get_lt {α : Type} {l : List α} {i : Nat} {x : α} (h : l[i]? = some x) : i < l.length := (List.getElem?_eq_some_iff.1 h).1
theorem get_mem {α : Type} {l : List α} {i : Nat} {x : α} (h : l[i]? = some x) : x ∈ l := List.mem_of_getElem? h
theorem slc_ok {α : Type} {l : List α} {a b : Nat} (h1 : a ≤ b) (h2 : b ≤ l.length) : slc l (a : Int) (b : Int) = some ((l.take b).drop a) := by
  unfold slc
  rw [if_pos ⟨by omega, by omega, by omega⟩]
  simp
theorem slc_tail {α : Type} {l : List α} {a : Nat} (h1 : a ≤ l.length) : slc l (a : Int) (l.length : Int) = some (l.drop a) := by
  rw [slc_ok h1 (Nat.le_refl _), List.take_length]
theorem eqB_iff {k : K} (hc : k.cmp = true) {x y : k.den} : eqB k x y = true ↔ x = y := ⟨eqB_eq hc, fun h => by rw [h]; exact eqB_refl hc⟩
theorem eqB_dec {k : K} (hc : k.cmp = true) {x y : k.den} [Decidable (x = y)] : eqB k x y = decide (x = y) := by
  rw [Bool.eq_iff_iff, eqB_iff hc, decide_eq_true_eq]
theorem streq_iff {a b : ByteArray} : streq a b = true ↔ a = b := ⟨streq_eq, fun h => by rw [h]; exact streq_refl b⟩
theorem lit_wf {k : Int} (h : (Lit.int .i64 k).wf = true) : -9223372036854775808 ≤ k ∧ k ≤ 9223372036854775807 := by
  simp [Lit.wf, IntKind.min, IntKind.max, IntKind.signed, IntKind.bits] at h
  omega

-- bits
theorem wrap64_nat {n : Nat} (h : n < 9223372036854775808) : IntKind.wrap .i64 (n : Int) = n := w64_nat (by omega)
theorem bv_nat (a : Nat) : BitVec.ofInt 64 (a : Int) = BitVec.ofNat 64 a := BitVec.ofInt_natCast 64 a
theorem ibits_and {a b : Nat} (ha : a < 9223372036854775808) (hb : b < 9223372036854775808) : ibits .and .i64 (a : Int) (b : Int) = ((a &&& b : Nat) : Int) := by
  have h : (a &&& b) < 2 ^ 63 := by rw [Nat.and_comm]; exact Nat.and_lt_two_pow _ ha
  show IntKind.wrap .i64 (((BitVec.ofInt 64 (a : Int) &&& BitVec.ofInt 64 (b : Int)).toNat : Nat) : Int) = _
  rw [bv_nat, bv_nat, BitVec.toNat_and, BitVec.toNat_ofNat, BitVec.toNat_ofNat, Nat.mod_eq_of_lt (by omega), Nat.mod_eq_of_lt (by omega)]
  exact wrap64_nat h
theorem ibits_or {a b : Nat} (ha : a < 9223372036854775808) (hb : b < 9223372036854775808) : ibits .or .i64 (a : Int) (b : Int) = ((a ||| b : Nat) : Int) := by
  have h : (a ||| b) < 2 ^ 63 := Nat.or_lt_two_pow ha hb
  show IntKind.wrap .i64 (((BitVec.ofInt 64 (a : Int) ||| BitVec.ofInt 64 (b : Int)).toNat : Nat) : Int) = _
  rw [bv_nat, bv_nat, BitVec.toNat_or, BitVec.toNat_ofNat, BitVec.toNat_ofNat, Nat.mod_eq_of_lt (by omega), Nat.mod_eq_of_lt (by omega)]
  exact wrap64_nat h
theorem ibits_xor {a b : Nat} (ha : a < 9223372036854775808) (hb : b < 9223372036854775808) : ibits .xor .i64 (a : Int) (b : Int) = ((a ^^^ b : Nat) : Int) := by
  have h : (a ^^^ b) < 2 ^ 63 := Nat.xor_lt_two_pow ha hb
  show IntKind.wrap .i64 (((BitVec.ofInt 64 (a : Int) ^^^ BitVec.ofInt 64 (b : Int)).toNat : Nat) : Int) = _
  rw [bv_nat, bv_nat, BitVec.toNat_xor, BitVec.toNat_ofNat, BitVec.toNat_ofNat, Nat.mod_eq_of_lt (by omega), Nat.mod_eq_of_lt (by omega)]
  exact wrap64_nat h
theorem ibits_andNot {a b : Nat} (ha : a < 9223372036854775808) (hb : b < 9223372036854775808) : ibits .andNot .i64 (a : Int) (b : Int) = ((a ^^^ (a &&& b) : Nat) : Int) := by
  have h1 : (a &&& b) < 2 ^ 63 := by rw [Nat.and_comm]; exact Nat.and_lt_two_pow _ ha
  have h : (a ^^^ (a &&& b)) < 2 ^ 63 := Nat.xor_lt_two_pow ha h1
  have e : (BitVec.ofNat 64 a &&& ~~~ BitVec.ofNat 64 b).toNat = a ^^^ (a &&& b) := by
    apply Nat.eq_of_testBit_eq
    intro i
    rw [BitVec.testBit_toNat, BitVec.getLsbD_and, BitVec.getLsbD_not, BitVec.getLsbD_ofNat, BitVec.getLsbD_ofNat, Nat.testBit_xor, Nat.testBit_and]
    by_cases hi : i < 64
    · cases a.testBit i <;> cases b.testBit i <;> simp [hi]
    · have : a.testBit i = false := Nat.testBit_lt_two_pow (Nat.lt_of_lt_of_le ha (Nat.le_trans (by decide : 9223372036854775808 ≤ 2 ^ 64) (Nat.pow_le_pow_right (by decide) (by omega))))
      simp [this]
  show IntKind.wrap .i64 (((BitVec.ofInt 64 (a : Int) &&& ~~~ BitVec.ofInt 64 (b : Int)).toNat : Nat) : Int) = _
  rw [bv_nat, bv_nat, e]
  exact wrap64_nat h
theorem pow_small {j : Nat} (h : j < 63) : 2 ^ j < 9223372036854775808 := by
  have : 2 ^ j < 2 ^ 63 := Nat.pow_lt_pow_right (by decide) h
  simpa using this
theorem shlI_nat {a j : Nat} (hj : j ≤ 64) (h : a * 2 ^ j < 9223372036854775808) : shlI .i64 (a : Int) (j : Int) = ((a * 2 ^ j : Nat) : Int) := by
  unfold shlI
  simp only [IntKind.bits, Int.toNat_natCast]
  rw [Nat.min_eq_left hj, show ((a : Int) * 2 ^ j) = ((a * 2 ^ j : Nat) : Int) by simp]
  exact wrap64_nat h
theorem shlI_one {j : Nat} (h : j < 63) : shlI .i64 1 (j : Int) = ((2 ^ j : Nat) : Int) := by
  have := shlI_nat (a := 1) (j := j) (by omega) (by rw [Nat.one_mul]; exact pow_small h)
  simpa using this
theorem shrI_nat {a j : Nat} (hj : j ≤ 64) : shrI .i64 (a : Int) (j : Int) = ((a / 2 ^ j : Nat) : Int) := by
  unfold shrI
  simp only [IntKind.bits, Int.toNat_natCast]
  rw [Nat.min_eq_left hj, show ((2 : Int) ^ j) = ((2 ^ j : Nat) : Int) by simp, Int.fdiv_eq_ediv_of_nonneg _ (Int.natCast_nonneg _)]
  simp

-- maps
theorem mget_nil {kk kv : K} {k : kk.den} : mget kk kv [] k = none := rfl
theorem mpos_lt {kk kv : K} {l : List (kk.den × kv.den)} {k : kk.den} (h : mpos kk kv l k < l.length) : ∃ e, l[mpos kk kv l k]? = some e ∧ eqB kk k e.1 = true := by
  have := List.findIdx_getElem (xs := l) (p := fun (e : kk.den × kv.den) => eqB kk k e.1) (w := h)
  exact ⟨_, List.getElem?_eq_getElem h, this⟩
theorem find_modify {α : Type} {p : α → Bool} {x : α} : ∀ {l : List α} {i : Nat}, (∀ y, l[i]? = some y → p y = p x) → p x = false → (l.modify i (fun _ => x)).find? p = l.find? p
  | [], i, _, _ => by simp
  | y :: l, 0, h, hx => by
    have := h y rfl
    rw [hx] at this
    simp [List.modify, List.find?, this, hx]
  | y :: l, i + 1, h, hx => by
    have ih := find_modify (l := l) (i := i) (fun z hz => h z (by simpa using hz)) hx
    simp only [List.modify_succ_cons, List.find?_cons]
    rw [ih]
theorem find_modify_at {α : Type} {p : α → Bool} {x : α} (hx : p x = true) : ∀ {l : List α}, l.findIdx p < l.length → (l.modify (l.findIdx p) (fun _ => x)).find? p = some x
  | [], h => by simp at h
  | y :: l, h => by
    rw [List.findIdx_cons] at h ⊢
    cases hy : p y with
    | true => simp [hx]
    | false =>
      rw [hy] at h
      simp only [cond_false, List.length_cons] at h ⊢
      rw [List.modify_succ_cons, List.find?_cons, hy]
      exact find_modify_at hx (by omega)
theorem mget_mput {kk kv : K} (hc : kk.cmp = true) {l : List (kk.den × kv.den)} {k k' : kk.den} {v : kv.den} : mget kk kv (mput kk kv l k v) k' = if eqB kk k' k = true then some v else mget kk kv l k' := by
  unfold mget mput
  by_cases hk : eqB kk k' k = true
  · have := eqB_eq hc hk
    subst this
    rw [if_pos hk]
    split
    · rename_i h
      rw [show mpos kk kv l k' = l.findIdx (fun e => eqB kk k' e.1) from rfl] at h ⊢
      rw [find_modify_at (by exact hk) h]
      rfl
    · rename_i h
      have hn : l.find? (fun e => eqB kk k' e.1) = none := by
        rw [List.find?_eq_none]
        intro x hx hp
        exact h (List.findIdx_lt_length_of_exists ⟨x, hx, hp⟩)
      rw [List.find?_append, hn]
      simp [hk]
  · rw [if_neg hk]
    have hk' : eqB kk k' k = false := by simpa using hk
    split
    · rename_i h
      rw [find_modify (fun y hy => ?_) (by exact hk')]
      obtain ⟨e, he, hp⟩ := mpos_lt h
      rw [he] at hy
      cases hy
      rw [← eqB_eq hc hp]
    · rw [List.find?_append]
      simp [hk']
theorem foldl_snoc {α β : Type} (g : α → β) : ∀ (l : List α) (o : List β), l.foldl (fun o x => o ++ [g x]) o = o ++ l.map g
  | [], o => by simp
  | x :: l, o => by rw [List.foldl_cons, foldl_snoc g l]; simp
end Go.Proofs.Ytcppmlgnceldmaa.Gp

/- More fuel, no other answer. -/
set_option linter.unusedVariables false
noncomputable section
namespace Go.Proofs.Ytcppmlgnceldmaa.Gp
open Go

def Mono {α : Type} (f : Nat → Option α) : Prop := ∀ k j v, k ≤ j → f k = some v → f j = some v
theorem Mono.ev {α : Type} {f : Nat → Option α} (h : Mono f) {n : Nat} {v : α} (e : f n = some v) : Ev f v := ⟨n, fun k hk => h n k v hk e⟩
theorem Mono.const {α : Type} (o : Option α) : Mono (fun _ => o) := fun _ _ _ _ h => h
theorem Mono.bind {α β : Type} {f : Nat → Option α} {g : Nat → α → Option β} (h : Mono f) (h2 : ∀ a, Mono (fun k => g k a)) : Mono (fun k => (f k).bind (g k)) := by
  intro k j v hk he
  obtain ⟨a, ha, hb⟩ := Option.bind_eq_some_iff.1 he
  exact Option.bind_eq_some_iff.2 ⟨a, h k j a hk ha, h2 a k j v hk hb⟩
theorem Mono.cond {α : Type} {c : Bool} {f g : Nat → Option α} (h : Mono f) (h2 : Mono g) : Mono (fun k => cond c (f k) (g k)) := by
  cases c
  · exact h2
  · exact h
theorem Mono.joined {α β : Type} {f : Nat → Option (α ⊕ β)} {g : Nat → α → Option β} (h : Mono f) (h2 : ∀ a, Mono (fun k => g k a)) : Mono (fun k => (f k).bind (joined (g k))) :=
  Mono.bind (g := fun k => Gp.joined (g k)) h (fun a => by
    cases a with
    | inl a => exact h2 a
    | inr b => exact Mono.const _)
theorem Mono.loop {S R : Type} {body : Nat → S → Option (S ⊕ R)} {s : S} (h : ∀ s, Mono (fun k => body k s)) : Mono (fun k => loopN (body k) k s) := by
  have key : ∀ (n : Nat) (k j m : Nat) (s : S) (v : R), k ≤ j → n ≤ m → loopN (body k) n s = some v → loopN (body j) m s = some v := by
    intro n
    induction n with
    | zero => intro k j m s v _ _ he; cases he
    | succ n ih =>
      intro k j m s v hk hm he
      obtain ⟨m, rfl⟩ : ∃ i, m = i + 1 := ⟨m - 1, by omega⟩
      obtain ⟨a, ha, hb⟩ := Option.bind_eq_some_iff.1 (show (body k s).bind _ = some v from he)
      refine Option.bind_eq_some_iff.2 ⟨a, h s k j a hk ha, ?_⟩
      cases a with
      | inl s' => exact ih k j m s' v hk (by omega) hb
      | inr r => exact hb
  intro k j v hk he
  exact key k k j j s v hk hk he
theorem Mono.agree {α : Type} {f g : Nat → Option α} (h : Mono f) (h2 : Mono g) : Mono (fun k => agree (f k) (g k)) := by
  intro k j v hk he
  obtain ⟨a, b⟩ := agree_some he
  show Gp.agree (f j) (g j) = some v
  rw [h k j v hk a, h2 k j v hk b]
  exact agree_self _
theorem Mono.orNil {α : Type} {n : Nat} {f g : Nat → Option α} (h : Mono f) (h2 : Mono g) : Mono (fun k => orNil n (f k) (g k)) := by
  intro k j v hk he
  obtain ⟨a, b⟩ := orNil_some he
  have h3 := h2 k j v hk a
  show Gp.orNil n (f j) (g j) = some v
  rw [orNil_same (fun e => by rw [h3, h k j v hk (b e)])]
  exact h3
theorem Mono.prod {α β γ : Type} {f : Nat → α × β → Option γ} (h : ∀ a b, Mono (fun k => f k (a, b))) : ∀ x, Mono (fun k => f k x) := fun x => by
  obtain ⟨a, b⟩ := x
  exact h a b
end Go.Proofs.Ytcppmlgnceldmaa.Gp

/- What is left of a Go function answers, and its answer has a property. No program in sight. -/
set_option linter.unusedVariables false
noncomputable section
namespace Go.Proofs.Ytcppmlgnceldmaa.Gp
open Go

def Tot {α : Type} (f : Nat → Option α) (P : α → Prop) : Prop := ∃ v, Ev f v ∧ P v
theorem Tot.ret {α : Type} {P : α → Prop} {v : α} (h : P v) : Tot (fun _ => some v) P := ⟨v, .now _, h⟩
theorem Tot.of {α : Type} {P : α → Prop} {f : Nat → Option α} {v : α} (h : Ev f v) (hp : P v) : Tot f P := ⟨v, h, hp⟩
theorem Tot.mono {α : Type} {P Q : α → Prop} {f : Nat → Option α} (h : Tot f P) (hp : ∀ v, P v → Q v) : Tot f Q := by
  obtain ⟨v, h1, h2⟩ := h
  exact ⟨v, h1, hp v h2⟩
theorem Tot.bind {α β : Type} {P : α → Prop} {Q : β → Prop} {f : Nat → Option α} {g : Nat → α → Option β} (h : Tot f P) (h2 : ∀ a, P a → Tot (fun k => g k a) Q) : Tot (fun k => (f k).bind (g k)) Q := by
  obtain ⟨a, h, ha⟩ := h
  obtain ⟨b, h2, hb⟩ := h2 a ha
  exact ⟨b, h.bind h2, hb⟩
theorem Tot.val {α β : Type} {Q : β → Prop} {o : Option α} {g : Nat → α → Option β} {a : α} (h : o = some a) (h2 : Tot (fun k => g k a) Q) : Tot (fun k => o.bind (g k)) Q := by
  subst h
  exact h2
theorem Tot.ask {β : Type} {Q : β → Prop} {c : Prop} [Decidable c] {g : Nat → Unit → Option β} (hc : c) (h2 : Tot (fun k => g k ()) Q) : Tot (fun k => (if c then some () else none).bind (g k)) Q := Tot.val (if_pos hc) h2
theorem Tot.nneg {α β : Type} {Q : β → Prop} {x : Int} {y : α} {g : Nat → α → Option β} (hx : 0 ≤ x) (h2 : Tot (fun k => g k y) Q) : Tot (fun k => (if x < 0 then none else some y).bind (g k)) Q := Tot.val (if_neg (by omega)) h2
theorem Tot.cnd {α : Type} {P : α → Prop} {c : Bool} {f g : Nat → Option α} (h1 : c = true → Tot f P) (h2 : c = false → Tot g P) : Tot (fun k => cond c (f k) (g k)) P := by
  cases c with
  | true => exact h1 rfl
  | false => exact h2 rfl
theorem Tot.join {α β : Type} {P : α ⊕ β → Prop} {Q : β → Prop} {f : Nat → Option (α ⊕ β)} {g : Nat → α → Option β} (h : Tot f P) (h1 : ∀ a, P (.inl a) → Tot (fun k => g k a) Q) (h2 : ∀ b, P (.inr b) → Q b) : Tot (fun k => (f k).bind (joined (g k))) Q := by
  obtain ⟨v, h, hv⟩ := h
  cases v with
  | inl a =>
    obtain ⟨b, h3, hb⟩ := h1 a hv
    exact ⟨b, Ev.joinL (S := Unit) h h3, hb⟩
  | inr b => exact ⟨b, h.joinR, h2 b hv⟩
theorem Tot.read {α β : Type} {Q : β → Prop} {l : List α} {i : Int} {g : Nat → α → Option β} (h : 0 ≤ i ∧ i < (l.length : Int)) (h2 : ∀ a, l[i.toNat]? = some a → Tot (fun k => g k a) Q) : Tot (fun k => (rd l i).bind (g k)) Q := by
  have hlt : i.toNat < l.length := by omega
  have := List.getElem?_eq_getElem hlt
  exact Tot.val (rd_at (i := i.toNat) (by omega) this) (h2 _ this)
theorem Tot.ev {α : Type} {P : α → Prop} {f : Nat → Option α} (h : Tot f P) : ∃ v, Ev f v ∧ P v := h
/-- a loop over a list -/
theorem Tot.walk {α β S R : Type} {body : Nat → S → Option (S ⊕ R)} (l : List α) (st : β → Int → S) (Inv : β → Prop) (Q : R → Prop)
    (hs : ∀ (i : Nat) x b, l[i]? = some x → Inv b → Tot (fun k => body k (st b (i : Int))) (fun y => match y with | .inl s => ∃ b', s = st b' ((i : Int) + 1) ∧ Inv b' | .inr r => Q r))
    (hd : ∀ b, Inv b → Tot (fun k => body k (st b l.length)) (fun y => match y with | .inl s => False | .inr r => Q r)) {b : β} (h0 : Inv b) : Tot (fun k => loopN (body k) k (st b 0)) Q := by
  have key : ∀ (suf pre : List α) (b : β), l = pre ++ suf → Inv b → ∃ r, Lp body (st b (pre.length : Int)) r ∧ Q r := by
    intro suf
    induction suf with
    | nil =>
      intro pre b h hi
      rw [List.append_nil] at h
      subst h
      obtain ⟨y, h1, h2⟩ := hd b hi
      cases y with
      | inl s => exact h2.elim
      | inr r => exact ⟨r, .done h1, h2⟩
    | cons x suf ih =>
      intro pre b h hi
      have hx : l[pre.length]? = some x := by rw [h]; simp
      obtain ⟨y, h1, h2⟩ := hs pre.length x b hx hi
      cases y with
      | inr r => exact ⟨r, .done h1, h2⟩
      | inl s =>
        obtain ⟨b', rfl, hb'⟩ := h2
        obtain ⟨r, h3, h4⟩ := ih (pre ++ [x]) b' (by rw [h]; simp) hb'
        refine ⟨r, .step h1 ?_, h4⟩
        rw [List.length_append] at h3
        exact h3
  obtain ⟨r, h1, h2⟩ := key l [] b rfl h0
  exact ⟨r, h1.ev, h2⟩

/-- .. with what was seen so far -/
theorem Tot.walkI {α β S R : Type} {body : Nat → S → Option (S ⊕ R)} (l : List α) (st : β → Int → S) (Inv : Nat → β → Prop) (Q : R → Prop)
    (hs : ∀ (i : Nat) x b, l[i]? = some x → Inv i b → Tot (fun k => body k (st b (i : Int))) (fun y => match y with | .inl s => ∃ b', s = st b' ((i : Int) + 1) ∧ Inv (i + 1) b' | .inr r => Q r))
    (hd : ∀ b, Inv l.length b → Tot (fun k => body k (st b l.length)) (fun y => match y with | .inl s => False | .inr r => Q r)) {b : β} (h0 : Inv 0 b) : Tot (fun k => loopN (body k) k (st b 0)) Q := by
  have key : ∀ (suf pre : List α) (b : β), l = pre ++ suf → Inv pre.length b → ∃ r, Lp body (st b (pre.length : Int)) r ∧ Q r := by
    intro suf
    induction suf with
    | nil =>
      intro pre b h hi
      rw [List.append_nil] at h
      subst h
      obtain ⟨y, h1, h2⟩ := hd b hi
      cases y with
      | inl s => exact h2.elim
      | inr r => exact ⟨r, .done h1, h2⟩
    | cons x suf ih =>
      intro pre b h hi
      have hx : l[pre.length]? = some x := by rw [h]; simp
      obtain ⟨y, h1, h2⟩ := hs pre.length x b hx hi
      cases y with
      | inr r => exact ⟨r, .done h1, h2⟩
      | inl s =>
        obtain ⟨b', rfl, hb'⟩ := h2
        obtain ⟨r, h3, h4⟩ := ih (pre ++ [x]) b' (by rw [h]; simp) (by rw [List.length_append]; exact hb')
        refine ⟨r, .step h1 ?_, h4⟩
        rw [List.length_append] at h3
        exact h3
  obtain ⟨r, h1, h2⟩ := key l [] b rfl h0
  exact ⟨r, h1.ev, h2⟩

/-- all rows of numbers have nine -/
class Nin (α : Type) where
  p : α → Prop
instance : Nin Unit := ⟨fun _ => True⟩
instance : Nin Int := ⟨fun _ => True⟩
instance : Nin Bool := ⟨fun _ => True⟩
instance : Nin (List Int) := ⟨fun l => l.length = 9⟩
instance {α β : Type} [Nin α] [Nin β] : Nin (α × β) := ⟨fun x => Nin.p x.1 ∧ Nin.p x.2⟩
instance {α β : Type} [Nin α] [Nin β] : Nin (α ⊕ β) := ⟨fun x => match x with | .inl a => Nin.p a | .inr b => Nin.p b⟩
theorem nin_mk {α β : Type} [Nin α] [Nin β] {a : α} {b : β} (h1 : Nin.p a) (h2 : Nin.p b) : Nin.p (a, b) := ⟨h1, h2⟩
theorem nin_set {l : List Int} {i : Nat} {x : Int} (h : Nin.p l) : Nin.p (l.set i x) := (List.length_set ..).trans h
theorem nin_rep : Nin.p (List.replicate 9 (0 : Int)) := List.length_replicate ..
theorem nin_len {l : List Int} (h : Nin.p l) : l.length = 9 := h
theorem nin_inl {α β : Type} [Nin α] [Nin β] {a : α} (h : Nin.p a) : Nin.p (.inl a : α ⊕ β) := h
theorem nin_inr {α β : Type} [Nin α] [Nin β] {b : β} (h : Nin.p b) : Nin.p (.inr b : α ⊕ β) := h
theorem Tot.prod {α β γ : Type} [Nin α] [Nin β] {Q : γ → Prop} {f : Nat → α × β → Option γ} (h : ∀ a, Nin.p a → ∀ b, Nin.p b → Tot (fun k => f k (a, b)) Q) : ∀ x : α × β, Nin.p x → Tot (fun k => f k x) Q := fun x hx => h x.1 hx.1 x.2 hx.2
theorem Tot.joinN {α β : Type} [Nin α] [Nin β] {f : Nat → Option (α ⊕ β)} {g : Nat → α → Option β} (h : Tot f Nin.p) (h1 : ∀ a, Nin.p a → Tot (fun k => g k a) Nin.p) : Tot (fun k => (f k).bind (Gp.joined (g k))) Nin.p :=
  Tot.join (P := Nin.p) h h1 (fun _ h => h)
/-- in the row -/
theorem inr9 {l : List Int} {i : Int} (h : Nin.p l) (h0 : 0 ≤ i) (h1 : i < 9) : 0 ≤ i ∧ i < (l.length : Int) := by
  have := nin_len h
  omega
/-- it answers -/
theorem Tot.bindT {α β : Type} {Q : β → Prop} {f : Nat → Option α} {g : Nat → α → Option β} (h : Tot f (fun _ => True)) (h2 : ∀ a, Tot (fun k => g k a) Q) : Tot (fun k => (f k).bind (g k)) Q := Tot.bind h (fun a _ => h2 a)
theorem Tot.any {α : Type} {P : α → Prop} {f : Nat → Option α} (h : Tot f P) : Tot f (fun _ => True) := h.mono fun _ _ => trivial
theorem Tot.prodT {α β γ : Type} {Q : γ → Prop} {f : Nat → α × β → Option γ} (h : ∀ a b, Tot (fun k => f k (a, b)) Q) : ∀ x : α × β, Tot (fun k => f k x) Q := fun x => h x.1 x.2
theorem Tot.joinT {α β : Type} {f : Nat → Option (α ⊕ β)} {g : Nat → α → Option β} (h : Tot f (fun _ => True)) (h1 : ∀ a, Tot (fun k => g k a) (fun _ => True)) : Tot (fun k => (f k).bind (Gp.joined (g k))) (fun _ => True) :=
  Tot.join (P := fun _ => True) h (fun a _ => h1 a) (fun _ _ => trivial)
end Go.Proofs.Ytcppmlgnceldmaa.Gp

/- Processors: steps answer. No program in sight. -/
set_option linter.unusedVariables false
set_option maxRecDepth 100000
noncomputable section
namespace Go.Proofs.Ytcppmlgnceldmaa.Ge
open Go Go.Proofs.Ytcppmlgnceldmaa.Gp

abbrev Stp4 := Int × Int × Int × Int
abbrev Cyc := Int × Int × Int × List Stp4
abbrev Ins := Int × ByteArray × Int × List Cyc
abbrev Cpu := ByteArray × List Ins × List Cyc × List Cyc × List Cyc
abbrev Cor := List Int × Int × Int × Bool
instance : Nin Stp4 := ⟨fun _ => True⟩

theorem mm_bounds (a b x : Int) (h : a ≤ b) : a ≤ mxI a (mnI x b) ∧ mxI a (mnI x b) ≤ b := by
  unfold mxI mnI
  split <;> split <;> omega
theorem mx_ge (a x : Int) : a ≤ mxI a x := by unfold mxI; split <;> omega
theorem width_t (bits : Int) : Tot (fun k => width84 k bits) (fun v => 0 ≤ v.1 ∧ v.1 ≤ 62) := by
  unfold width84
  exact .ret (mm_bounds 0 62 bits (by decide))
theorem index_t (reg : Int) : Tot (fun k => index108 k reg) (fun v => 0 ≤ v.1 ∧ v.1 < 9) := by
  unfold index108
  have := mm_bounds 0 8 reg (by decide)
  exact .ret ⟨this.1, by show mxI 0 (mnI reg 8) < 9; omega⟩
theorem low_t (n bits : Int) : Tot (fun k => Low47 k n bits) (fun _ => True) := by
  unfold Low47
  refine .bind (width_t bits) fun a ha => .nneg ha.1 (.ret trivial)
theorem wide_t (r : Int) : Tot (fun k => Wide104 k r) (fun v => v.1 = (cond (r == 7) true (r == 8))) := by
  unfold Wide104
  exact .ret rfl
theorem bits_t (r : Int) : Tot (fun k => bits106 k r) (fun v => v.1 = 8 ∨ v.1 = 16) := by
  unfold bits106
  exact .bind (wide_t r) fun a _ => .cnd (fun _ => .ret (.inr rfl)) (fun _ => .ret (.inl rfl))
theorem place_t (a s : Int) : Tot (fun k => place128 k a s) (fun v => 0 ≤ v.1.1 ∧ 0 ≤ v.1.2.1) := by
  unfold place128
  exact .bind (width_t a) fun b hb => .ret ⟨hb.1, mx_ge 0 _⟩
theorem put_t (n a s v : Int) : Tot (fun k => Put113 k n a s v) (fun _ => True) := by
  unfold Put113
  exact .bind (place_t a s) fun b hb => .nneg hb.2 (.nneg hb.1 (.bind (low_t _ _) fun _ _ => .bind (low_t _ _) fun _ _ => .nneg hb.1 (.ret trivial)))
theorem get_t (n a s : Int) : Tot (fun k => Get114 k n a s) (fun _ => True) := by
  unfold Get114
  exact .bind (place_t a s) fun b hb => .bind (low_t _ _) fun _ _ => .nneg hb.1 (.bind (low_t _ _) fun _ _ => .ret trivial)
theorem signed_t (n b : Int) : Tot (fun k => Signed115 k n b) (fun _ => True) := by
  unfold Signed115
  refine .bind (width_t b) fun w hw => .bind (low_t _ _) fun x _ => .bind (P := fun _ => True) (.cnd (fun h => ?_) (fun _ => .ret trivial)) fun y _ => .bind (P := fun _ => True) (.cnd (fun _ => .nneg hw.1 (.ret trivial)) (fun _ => .ret trivial)) fun z _ => .ret trivial
  have h := of_decide_eq_true h
  refine .nneg ?_ (.ret trivial)
  rw [w64_id (by omega) (by omega)]
  omega
theorem add_t (a b c d : Int) : Tot (fun k => Add122 k a b c d) (fun _ => True) := by
  unfold Add122
  exact .bind (width_t d) fun w hw => .bind (low_t _ _) fun x _ => .bind (low_t _ _) fun y _ => .nneg hw.1 (.bind (low_t _ _) fun _ _ => .ret trivial)
theorem sub_t (a b c d : Int) : Tot (fun k => Sub125 k a b c d) (fun _ => True) := by
  unfold Sub125
  exact .bind (width_t d) fun w hw => .bind (low_t _ _) fun x _ => .bind (low_t _ _) fun y _ => .cnd (fun _ => .nneg hw.1 (.ret trivial)) (fun _ => .ret trivial)
theorem rol_t (a b c : Int) : Tot (fun k => Rol126 k a b c) (fun _ => True) := by
  unfold Rol126
  exact .bind (width_t c) fun w hw => .bind (low_t _ _) fun x _ => .nneg hw.1 (.bind (low_t _ _) fun _ _ => .ret trivial)
theorem ror_t (a b c : Int) : Tot (fun k => Ror127 k a b c) (fun _ => True) := by
  unfold Ror127
  exact .bind (width_t c) fun w hw => .nneg hw.1 (.bind (low_t _ _) fun x _ => .ret trivial)
theorem flag_t {r : List Int} (h : Nin.p r) (f : Int) (on : Bool) : Tot (fun k => flag112 k r f on) Nin.p := by
  unfold flag112
  repeat' (first | ((with_reducible refine Tot.ret ?_); (repeat' (first | assumption | exact nin_rep | with_reducible refine nin_mk ?_ ?_ | with_reducible refine nin_set ?_ | with_reducible refine nin_inl ?_ | with_reducible refine nin_inr ?_ | exact (trivial : True))); done) | ((with_reducible refine Tot.ask ?_ ?_); (· omega)) | ((with_reducible refine Tot.nneg ?_ ?_); (· omega)) | ((with_reducible refine Tot.read ?_ ?_); (· exact inr9 (by repeat' (first | assumption | exact nin_rep | with_reducible refine nin_mk ?_ ?_ | with_reducible refine nin_set ?_ | with_reducible refine nin_inl ?_ | with_reducible refine nin_inr ?_ | exact (trivial : True))) (by omega) (by omega))) | with_reducible refine Tot.cnd ?_ ?_ | with_reducible refine Tot.joinN ?_ ?_ | with_reducible refine Tot.bind (P := Nin.p) ?_ ?_ | with_reducible refine Tot.prod ?_ | intro _ | (dsimp only))
theorem nz_t {r : List Int} (h : Nin.p r) (n : Int) : Tot (fun k => nz109 k r n) Nin.p := by
  unfold nz109
  exact .bind (flag_t h _ _) fun a ha => .bind (flag_t ha.1 _ _) fun b hb => .ret hb
theorem carry_t {r : List Int} (h : Nin.p r) : Tot (fun k => carry123 k r) (fun _ => True) := by
  unfold carry123
  exact .read (inr9 h (by decide) (by decide)) fun a _ => .ret trivial
theorem result_t {r : List Int} (h : Nin.p r) {to : Int} (h0 : 0 ≤ to ∧ to < 9) (n c : Int) : Tot (fun k => result124 k r to n c) Nin.p := by
  unfold result124
  exact .bind (nz_t h n) fun a ha => .bind (flag_t ha.1 _ _) fun b hb => .ask h0 (.read (inr9 hb.1 h0.1 h0.2) fun c _ => .ret ⟨nin_set hb.1, trivial⟩)
theorem binary_t {r : List Int} (h : Nin.p r) {to fr : Int} (h0 : 0 ≤ to ∧ to < 9) (h1 : 0 ≤ fr ∧ fr < 9) (d : Int) : Tot (fun k => binary110 k d to fr r) Nin.p := by
  unfold binary110
  refine .ask h0 (.read (inr9 h h0.1 h0.2) fun a _ => .ask h1 (.read (inr9 h h1.1 h1.2) fun b _ => .bind (low_t _ _) fun x _ => .bind (low_t _ _) fun y _ => .cnd (fun _ => ?_) (fun _ => .cnd (fun _ => ?_) (fun _ => .cnd (fun _ => ?_) (fun _ => ?_)))))
  · exact .bind (carry_t h) fun c _ => .bind (add_t _ _ _ _) fun d _ => .bind (result_t h h0 _ _) fun e he => .ret he
  · exact .bind (carry_t h) fun c _ => .bind (sub_t _ _ _ _) fun d _ => .bind (result_t h h0 _ _) fun e he => .ret he
  · exact .bind (sub_t _ _ _ _) fun d _ => .bind (nz_t h _) fun e he => .bind (flag_t he.1 _ _) fun g hg => .ret hg
  · refine .bind (P := Nin.p) (by repeat' (first | ((with_reducible refine Tot.ret ?_); (repeat' (first | assumption | exact nin_rep | with_reducible refine nin_mk ?_ ?_ | with_reducible refine nin_set ?_ | with_reducible refine nin_inl ?_ | with_reducible refine nin_inr ?_ | exact (trivial : True))); done) | ((with_reducible refine Tot.ask ?_ ?_); (· omega)) | ((with_reducible refine Tot.nneg ?_ ?_); (· omega)) | ((with_reducible refine Tot.read ?_ ?_); (· exact inr9 (by repeat' (first | assumption | exact nin_rep | with_reducible refine nin_mk ?_ ?_ | with_reducible refine nin_set ?_ | with_reducible refine nin_inl ?_ | with_reducible refine nin_inr ?_ | exact (trivial : True))) (by omega) (by omega))) | with_reducible refine Tot.cnd ?_ ?_ | with_reducible refine Tot.joinN ?_ ?_ | with_reducible refine Tot.bind (P := Nin.p) ?_ ?_ | with_reducible refine Tot.prod ?_ | intro _ | (dsimp only))) ?_
    refine Tot.prod fun _ _ => Tot.prod fun _ _ => Tot.prod fun a _ => Tot.prod fun o ho _ _ => ?_
    exact .bind (nz_t ho _) fun g hg => .ask h0 (.read (inr9 hg.1 h0.1 h0.2) fun c _ => .ret ⟨nin_set hg.1, trivial⟩)
theorem shift_t {r : List Int} (h : Nin.p r) {to : Int} (h0 : 0 ≤ to ∧ to < 9) (d : Int) : Tot (fun k => shift111 k d to r) Nin.p := by
  unfold shift111
  refine .bind (carry_t h) fun c _ => .bind (P := Nin.p) (by repeat' (first | ((with_reducible refine Tot.ret ?_); (repeat' (first | assumption | exact nin_rep | with_reducible refine nin_mk ?_ ?_ | with_reducible refine nin_set ?_ | with_reducible refine nin_inl ?_ | with_reducible refine nin_inr ?_ | exact (trivial : True))); done) | ((with_reducible refine Tot.ask ?_ ?_); (· omega)) | ((with_reducible refine Tot.nneg ?_ ?_); (· omega)) | ((with_reducible refine Tot.read ?_ ?_); (· exact inr9 (by repeat' (first | assumption | exact nin_rep | with_reducible refine nin_mk ?_ ?_ | with_reducible refine nin_set ?_ | with_reducible refine nin_inl ?_ | with_reducible refine nin_inr ?_ | exact (trivial : True))) (by omega) (by omega))) | with_reducible refine Tot.cnd ?_ ?_ | with_reducible refine Tot.joinN ?_ ?_ | with_reducible refine Tot.bind (P := Nin.p) ?_ ?_ | with_reducible refine Tot.prod ?_ | intro _ | (dsimp only))) ?_
  refine Tot.prod fun r hr => Tot.prod fun _ _ => Tot.prod fun c _ _ _ => .cnd (fun _ => .read (inr9 hr h0.1 h0.2) fun a _ => ?_) (fun _ => .read (inr9 hr h0.1 h0.2) fun a _ => ?_)
  · exact .bind (rol_t _ _ _) fun b _ => .bind (result_t hr h0 _ _) fun e he => .ret he
  · exact .bind (ror_t _ _ _) fun b _ => .bind (result_t hr h0 _ _) fun e he => .ret he
end Go.Proofs.Ytcppmlgnceldmaa.Ge

/- Processors: a step answers; registers that fit. No program in sight. -/
set_option linter.unusedVariables false
set_option maxRecDepth 100000
noncomputable section
namespace Go.Proofs.Ytcppmlgnceldmaa.Ge
open Go Go.Proofs.Ytcppmlgnceldmaa.Gp

theorem ibits_low (n : Int) {j : Nat} (hj : j ≤ 62) : ibits .and .i64 n ((2 ^ j - 1 : Nat) : Int) = n % ((2 ^ j : Nat) : Int) := by
  have hp : 2 ^ j ≤ 2 ^ 62 := Nat.pow_le_pow_right (by decide) hj
  have hpos : 0 < 2 ^ j := Nat.pow_pos (by decide)
  have e62 : (2 : Nat) ^ 62 = 4611686018427387904 := by decide
  have e64 : (2 : Nat) ^ 64 = 18446744073709551616 := by decide
  show IntKind.wrap .i64 (((BitVec.ofInt 64 n &&& BitVec.ofInt 64 ((2 ^ j - 1 : Nat) : Int)).toNat : Nat) : Int) = _
  rw [bv_nat, BitVec.toNat_and, BitVec.toNat_ofNat, Nat.mod_eq_of_lt (by omega), BitVec.toNat_ofInt, Nat.and_two_pow_sub_one_eq_mod]
  have hlt : (n % (2 ^ 64 : Nat)).toNat % 2 ^ j < 2 ^ j := Nat.mod_lt _ hpos
  rw [wrap64_nat (by omega), Int.natCast_emod, Int.toNat_of_nonneg (Int.emod_nonneg _ (by rw [e64]; decide))]
  exact Int.emod_emod_of_dvd n (Int.natCast_dvd_natCast.2 (Nat.pow_dvd_pow 2 (by omega)))
theorem low8_ev (n : Int) : Ev (fun k => Low47 k n 8) (n % 256, ()) := by
  unfold Low47
  refine .val (a := (8, ())) rfl (.val (a := shlI .i64 1 8) rfl (.now' ?_))
  have := ibits_low n (j := 8) (by decide)
  exact congrArg (fun x => (x, ())) this
theorem low16_ev (n : Int) : Ev (fun k => Low47 k n 16) (n % 65536, ()) := by
  unfold Low47
  refine .val (a := (16, ())) rfl (.val (a := shlI .i64 1 16) rfl (.now' ?_))
  have := ibits_low n (j := 16) (by decide)
  exact congrArg (fun x => (x, ())) this
def mI (i : Nat) : Int := if i = 7 ∨ i = 8 then 65536 else 256
def fitF (o : List Int) (i : Nat) : List Int := o.set i (o.getD i 0 % mI i)
def fitL (r : List Int) : List Int := (List.range 9).foldl fitF r
theorem nine {r : List Int} (h : r.length = 9) : ∃ a0 a1 a2 a3 a4 a5 a6 a7 a8, r = [a0, a1, a2, a3, a4, a5, a6, a7, a8] := by
  match r, h with
  | [a0, a1, a2, a3, a4, a5, a6, a7, a8], _ => exact ⟨a0, a1, a2, a3, a4, a5, a6, a7, a8, rfl⟩
theorem fitL_mk (a0 a1 a2 a3 a4 a5 a6 a7 a8 : Int) : fitL [a0, a1, a2, a3, a4, a5, a6, a7, a8] = [a0 % 256, a1 % 256, a2 % 256, a3 % 256, a4 % 256, a5 % 256, a6 % 256, a7 % 65536, a8 % 65536] := rfl
theorem bits_ev (i : Nat) : Ev (fun k => bits106 k (i : Int)) (if i = 7 ∨ i = 8 then 16 else 8, ()) := by
  unfold bits106 Wide104
  refine .val rfl (.cnd (fun h => ?_) (fun h => ?_))
  · rw [if_pos]
    · exact .now _
    · by_cases h7 : i = 7
      · exact .inl h7
      · right
        have : ((i : Int) == 7) = false := by simpa using (by omega : ¬ (i : Int) = 7)
        simp only [this, cond_false] at h
        have := eq_of_beq h
        omega
  · rw [if_neg]
    · exact .now _
    · rintro (rfl | rfl) <;> cases h
theorem fit_ev {r : List Int} (h : r.length = 9) : Ev (fun k => Fit77 k r) (fitL r, ()) := by
  unfold Fit77
  refine .bind (a := ((), (), fitL r, List.replicate 9 0)) (Lp.ev ?_) (.now _)
  refine Lp.count (body := fun k => Fit77.l0 k) 9 (fun (o : List Int) i => ((), (), i, o, List.replicate 9 0)) fitF (fun o => ((), (), o, List.replicate 9 0)) (fun _ o => o.length = 9) (fun i o hi ho => ⟨?_, ?_⟩) (fun b _ => ?_) (b := r) h
  · have hx : o[i]? = some (o.getD i 0) := by rw [List.getD_eq_getElem?_getD, List.getElem?_eq_getElem (by omega)]; rfl
    have hr := rd_some' hx
    simp only [Fit77.l0]
    refine .yes (decide_eq_true (by omega)) (.val (a := ()) (if_pos ⟨by omega, by omega⟩) (.val hr (.bind (bits_ev i) (.bind (a := (o.getD i 0 % mI i, ())) ?_ (.val (a := ()) (if_pos ⟨by omega, by omega⟩) (.val hr (.now' ?_)))))))
    · unfold mI
      by_cases h7 : i = 7 ∨ i = 8
      · rw [if_pos h7, if_pos h7]; exact low16_ev _
      · rw [if_neg h7, if_neg h7]; exact low8_ev _
    · rw [w64_id (by omega) (by omega)]
      rfl
  · unfold fitF; rw [List.length_set]; exact ho
  · simp only [Fit77.l0]
    exact .no rfl (.now _)
theorem fitL_nin {r : List Int} (h : Nin.p r) : Nin.p (fitL r) := by
  obtain ⟨a0, a1, a2, a3, a4, a5, a6, a7, a8, rfl⟩ := nine h
  rfl
theorem fit_t {r : List Int} (h : Nin.p r) : Tot (fun k => Fit77 k r) Nin.p := .of (fit_ev (nin_len h)) ⟨fitL_nin h, trivial⟩
theorem do_t (s : Stp4) {r : List Int} (h : Nin.p r) : Tot (fun k => Do82 k s r) Nin.p := by
  unfold Do82
  refine .bind (index_t _) fun t11 h11 => .bind (index_t _) fun t14 h14 => .bind (fit_t h) fun t16 h16 => ?_
  have h17 : Nin.p t16.1 := h16.1
  clear h16
  repeat' (first | ((with_reducible refine Tot.ret ?_); (repeat' (first | assumption | exact nin_rep | with_reducible refine nin_mk ?_ ?_ | with_reducible refine nin_set ?_ | with_reducible refine nin_inl ?_ | with_reducible refine nin_inr ?_ | exact (trivial : True))); done) | ((with_reducible refine Tot.ask ?_ ?_); (· omega)) | ((with_reducible refine Tot.nneg ?_ ?_); (· omega)) | ((with_reducible refine Tot.read ?_ ?_); (· exact inr9 (by repeat' (first | assumption | exact nin_rep | with_reducible refine nin_mk ?_ ?_ | with_reducible refine nin_set ?_ | with_reducible refine nin_inl ?_ | with_reducible refine nin_inr ?_ | exact (trivial : True))) (by omega) (by omega))) | ((with_reducible refine Tot.bind (low_t _ _) ?_) <;> (try ((repeat' (first | assumption | exact nin_rep | with_reducible refine nin_mk ?_ ?_ | with_reducible refine nin_set ?_ | with_reducible refine nin_inl ?_ | with_reducible refine nin_inr ?_ | exact (trivial : True))); done))) | ((with_reducible refine Tot.bind (nz_t ?_ _) ?_) <;> (try ((repeat' (first | assumption | exact nin_rep | with_reducible refine nin_mk ?_ ?_ | with_reducible refine nin_set ?_ | with_reducible refine nin_inl ?_ | with_reducible refine nin_inr ?_ | exact (trivial : True))); done))) | ((with_reducible refine Tot.bind (binary_t ?_ h11 h14 _) ?_) <;> (try ((repeat' (first | assumption | exact nin_rep | with_reducible refine nin_mk ?_ ?_ | with_reducible refine nin_set ?_ | with_reducible refine nin_inl ?_ | with_reducible refine nin_inr ?_ | exact (trivial : True))); done))) | ((with_reducible refine Tot.bind (bits_t _) ?_) <;> (try ((repeat' (first | assumption | exact nin_rep | with_reducible refine nin_mk ?_ ?_ | with_reducible refine nin_set ?_ | with_reducible refine nin_inl ?_ | with_reducible refine nin_inr ?_ | exact (trivial : True))); done))) | ((with_reducible refine Tot.bind (wide_t _) ?_) <;> (try ((repeat' (first | assumption | exact nin_rep | with_reducible refine nin_mk ?_ ?_ | with_reducible refine nin_set ?_ | with_reducible refine nin_inl ?_ | with_reducible refine nin_inr ?_ | exact (trivial : True))); done))) | ((with_reducible refine Tot.bind (shift_t ?_ h11 _) ?_) <;> (try ((repeat' (first | assumption | exact nin_rep | with_reducible refine nin_mk ?_ ?_ | with_reducible refine nin_set ?_ | with_reducible refine nin_inl ?_ | with_reducible refine nin_inr ?_ | exact (trivial : True))); done))) | ((with_reducible refine Tot.bind (flag_t ?_ _ _) ?_) <;> (try ((repeat' (first | assumption | exact nin_rep | with_reducible refine nin_mk ?_ ?_ | with_reducible refine nin_set ?_ | with_reducible refine nin_inl ?_ | with_reducible refine nin_inr ?_ | exact (trivial : True))); done))) | ((with_reducible refine Tot.bind (put_t _ _ _ _) ?_) <;> (try ((repeat' (first | assumption | exact nin_rep | with_reducible refine nin_mk ?_ ?_ | with_reducible refine nin_set ?_ | with_reducible refine nin_inl ?_ | with_reducible refine nin_inr ?_ | exact (trivial : True))); done))) | ((with_reducible refine Tot.bind (get_t _ _ _) ?_) <;> (try ((repeat' (first | assumption | exact nin_rep | with_reducible refine nin_mk ?_ ?_ | with_reducible refine nin_set ?_ | with_reducible refine nin_inl ?_ | with_reducible refine nin_inr ?_ | exact (trivial : True))); done))) | ((with_reducible refine Tot.bind (signed_t _ _) ?_) <;> (try ((repeat' (first | assumption | exact nin_rep | with_reducible refine nin_mk ?_ ?_ | with_reducible refine nin_set ?_ | with_reducible refine nin_inl ?_ | with_reducible refine nin_inr ?_ | exact (trivial : True))); done))) | ((with_reducible refine Tot.bind (fit_t ?_) ?_) <;> (try ((repeat' (first | assumption | exact nin_rep | with_reducible refine nin_mk ?_ ?_ | with_reducible refine nin_set ?_ | with_reducible refine nin_inl ?_ | with_reducible refine nin_inr ?_ | exact (trivial : True))); done))) | with_reducible refine Tot.cnd ?_ ?_ | with_reducible refine Tot.joinN ?_ ?_ | with_reducible refine Tot.bind (P := Nin.p) ?_ ?_ | with_reducible refine Tot.prod ?_ | intro _ | (dsimp only))
end Go.Proofs.Ytcppmlgnceldmaa.Ge

/- Processors: a cycle answers. No program in sight. -/
set_option linter.unusedVariables false
set_option maxRecDepth 100000
noncomputable section
namespace Go.Proofs.Ytcppmlgnceldmaa.Ge
open Go Go.Proofs.Ytcppmlgnceldmaa.Gp

/-- registers that fit -/
def Fitd (r : List Int) : Prop := ∃ a0 a1 a2 a3 a4 a5 a6 a7 a8 : Int, r = [a0, a1, a2, a3, a4, a5, a6, a7, a8] ∧ 0 ≤ a3 ∧ a3 < 256 ∧ 0 ≤ a7 ∧ a7 < 65536 ∧ 0 ≤ a8 ∧ a8 < 65536
theorem Fitd.nin {r : List Int} (h : Fitd r) : Nin.p r := by
  obtain ⟨a0, a1, a2, a3, a4, a5, a6, a7, a8, rfl, _⟩ := h
  rfl
theorem fitL_fitd {r : List Int} (h : Nin.p r) : Fitd (fitL r) := by
  obtain ⟨a0, a1, a2, a3, a4, a5, a6, a7, a8, rfl⟩ := nine h
  exact ⟨_, _, _, _, _, _, _, _, _, fitL_mk .., by omega, by omega, by omega, by omega, by omega, by omega⟩
theorem fit_tt {r : List Int} (h : Nin.p r) : Tot (fun k => Fit77 k r) (fun v => Fitd v.1) := .of (fit_ev (nin_len h)) (fitL_fitd h)
theorem low8_t (n : Int) : Tot (fun k => Low47 k n 8) (fun v => 0 ≤ v.1 ∧ v.1 < 256) := .of (low8_ev n) ⟨by show 0 ≤ n % 256; omega, by show n % 256 < 256; omega⟩
theorem low16_t (n : Int) : Tot (fun k => Low47 k n 16) (fun v => 0 ≤ v.1 ∧ v.1 < 65536) := .of (low16_ev n) ⟨by show 0 ≤ n % 65536; omega, by show n % 65536 < 65536; omega⟩
theorem ne_of_beq {a b : Int} (h : (a == b) = false) : a ≠ b := by simpa using h
theorem fixed_t {a : Int} (h0 : 6 ≤ a) (h1 : a < 12) : Tot (fun k => fixed107 k a) (fun v => 0 ≤ v.1 ∧ v.1 < 65536) := by
  unfold fixed107
  have : a = 6 ∨ a = 7 ∨ a = 8 ∨ a = 9 ∨ a = 10 ∨ a = 11 := by omega
  rcases this with rfl | rfl | rfl | rfl | rfl | rfl <;> exact .val rfl (.val rfl (.ret ⟨by decide, by decide⟩))
def Okp (v : (Int × (List Int × Unit)) × Unit) : Prop := 0 ≤ v.1.1 ∧ v.1.1 < 65536 ∧ Nin.p v.1.2.1
theorem place79_t (at_ : Int) {r : List Int} (h : Fitd r) : Tot (fun k => place79 k at_ r) Okp := by
  obtain ⟨a0, a1, a2, a3, a4, a5, a6, a7, a8, rfl, b0, b1, b2, b3, b4, b5⟩ := h
  unfold place79
  refine .cnd (fun _ => ?_) (fun h0 => .cnd (fun _ => ?_) (fun h1 => .cnd (fun _ => ?_) (fun h2 => .cnd (fun _ => ?_) (fun h3 => .cnd (fun _ => ?_) (fun h4 => .cnd (fun _ => ?_) (fun h5 => .cnd (fun _ => ?_) (fun h6 => ?_)))))))
  · exact .ask (by decide) (.val rfl (.bind (low16_t _) fun v _ => .ask (by decide) (.val rfl (.ret ⟨b2, b3, rfl⟩))))
  · exact .ask (by decide) (.val rfl (.ret ⟨b2, b3, rfl⟩))
  · exact .ask (by decide) (.val rfl (.ret ⟨b4, b5, rfl⟩))
  · exact .ask (by decide) (.val rfl (.bind (low16_t _) fun v hv => .ret ⟨hv.1, hv.2, rfl⟩))
  · refine .ask (by decide) (.val rfl (.ask (by decide) (.val rfl (.bind (low8_t _) fun v hv => .ask (by decide) (.val rfl (.ret ⟨?_, ?_, rfl⟩))))))
    · show 0 ≤ w64 (256 + a3)
      rw [w64_id (by omega) (by omega)]; omega
    · show w64 (256 + a3) < 65536
      rw [w64_id (by omega) (by omega)]; omega
  · refine .ask (by decide) (.val rfl (.bind (low8_t _) fun v hv => .ask (by decide) (.val rfl (.ask (by decide) (.val rfl (.ret ⟨?_, ?_, rfl⟩))))))
    · show 0 ≤ w64 (256 + v.1)
      rw [w64_id (by omega) (by omega)]; omega
    · show w64 (256 + v.1) < 65536
      rw [w64_id (by omega) (by omega)]; omega
  · exact .ret ⟨by show (0 : Int) ≤ 0; decide, by show (0 : Int) < 65536; decide, rfl⟩
  · have h0 := ne_of_beq h0
    have h1 := ne_of_beq h1
    have h2 := ne_of_beq h2
    have h3 := ne_of_beq h3
    have h4 := ne_of_beq h4
    have h5 := ne_of_beq h5
    have h7 : ¬ at_ < 0 ∧ ¬ at_ ≥ 12 := by
      by_cases hn : at_ < 0
      · rw [decide_eq_true hn] at h6; cases h6
      · rw [decide_eq_false hn] at h6
        exact ⟨hn, of_decide_eq_false h6⟩
    exact .bind (fixed_t (by omega) (by omega)) fun v hv => .ret ⟨hv.1, hv.2, rfl⟩

def Wcyc (l : List Cyc) : Prop := l.length * 48 ≤ 140737488351232 ∧ ∀ y ∈ l, y.2.2.2.length * 32 ≤ 140737488351232
/-- no row is too long -/
structure Wc (c : Cpu) : Prop where
  len : c.2.1.length * 56 ≤ 140737488351232
  ins : ∀ x ∈ c.2.1, Wcyc x.2.2.2
  res : Wcyc c.2.2.1
  irq : Wcyc c.2.2.2.1
  nmi : Wcyc c.2.2.2.2
theorem cycles_t {c : Cpu} (hc : Wc c) (op : Int) : Tot (fun k => cycles83 k c op) (fun v => Wcyc v.1) := by
  have hl := hc.len
  unfold cycles83
  refine .cnd (fun _ => .ret hc.irq) fun _ => .cnd (fun _ => .ret hc.nmi) fun _ => .cnd (fun _ => .ret hc.res) fun _ => .join (P := fun y => match y with | .inl _ => True | .inr v => Wcyc v.1) ?_ (fun _ _ => .ret ⟨by simp, fun y hy => by cases hy⟩) (fun _ h => h)
  refine Tot.walk (body := fun k => cycles83.l0 k c op) c.2.1 (fun (_ : Unit) i => i) (fun _ => True) _ (fun i x b hx _ => ?_) (fun b _ => ?_) (b := ()) trivial
  · have hi := get_lt hx
    simp only [cycles83.l0]
    refine .cnd (fun _ => .val (rd_some' hx) (.cnd (fun _ => .ret (hc.ins x (get_mem hx))) (fun _ => .ret ⟨(), ?_, trivial⟩))) (fun h => absurd (of_decide_eq_false h) (by omega))
    rw [w64_id (by omega) (by omega)]
  · simp only [cycles83.l0]
    exact .cnd (fun h => absurd (of_decide_eq_true h) (by omega)) (fun _ => .ret trivial)
theorem doing_t {c : Cpu} (hc : Wc c) (kk : Cor) : Tot (fun k => doing80 k c kk) (fun v => v.1.2.1 = true → v.1.1.2.2.2.length * 32 ≤ 140737488351232) := by
  unfold doing80
  refine .bind (cycles_t hc _) fun v hv => .cnd (fun _ => .ret (fun h => by cases h)) fun h => ?_
  have h2 : ¬ kk.2.2.1 < 0 ∧ ¬ kk.2.2.1 ≥ (v.1.length : Int) := by
    by_cases hn : kk.2.2.1 < 0
    · rw [decide_eq_true hn] at h
      cases hq : (kk.2.1 == (-1)) <;> rw [hq] at h <;> cases h
    · refine ⟨hn, fun hge => ?_⟩
      have hz : ∀ z : Bool, (bif z then true else true) = true := fun z => by cases z <;> rfl
      rw [decide_eq_true hge, hz] at h
      cases h
  exact .read ⟨by omega, by omega⟩ fun x hx => .ret (fun _ => hv.2 x (get_mem hx))
theorem start_t {c : Cpu} (hc : Wc c) (kk : Cor) (h9 : Nin.p kk.1) (irq : Bool) : Tot (fun k => start78 k c kk irq) (fun v => v.1.1 = kk.1) := by
  unfold start78
  refine .join (P := fun y => match y with | .inl x => x.2.2.1.1 = kk.1 | .inr v => v.1.1 = kk.1) ?_ (fun a ha => ?_) (fun _ h => h)
  · refine Tot.walk (body := fun k => start78.l0 k irq) ([257, 256] : List Int) (fun (b : Cor × Cor) i => (c, (), (), (), i, b.1, b.2, ([257, 256] : List Int))) (fun b => b.1.1 = kk.1) _ (fun i x b hx hb => ?_) (fun b hb => ?_) (b := (kk, ((List.replicate 9 0), 0, 0, false))) rfl
    · have hi := get_lt hx
      have hi2 : i < 2 := hi
      have h9 : Nin.p b.1.1 := by rw [hb]; exact h9
      simp only [start78.l0]
      refine .cnd (fun _ => .val (rd_some' hx) (.val (rd_some' hx) (.bind (P := fun y => ∃ wv, y = (c, (), (), wv, (), b.1, b.2, ([257, 256] : List Int))) ?_ fun y hy => ?_))) (fun h => absurd (of_decide_eq_false h) (by show ¬ ¬ ((i : Int) < 2); omega))
      · refine .cnd (fun _ => .bind (P := fun _ => True) (.cnd (fun _ => .ask (by decide) (.read (inr9 h9 (by decide) (by decide)) fun _ _ => .ret trivial)) (fun _ => .ret trivial)) fun wv _ => .ret ⟨wv, rfl⟩) (fun _ => .ret ⟨_, rfl⟩)
      · obtain ⟨wv, rfl⟩ := hy
        refine .bind (P := fun _ => True) (.cnd (fun _ => .bind (cycles_t hc _) fun _ _ => .ret trivial) (fun _ => .ret trivial)) fun t35 _ => .cnd (fun _ => .bind (P := fun y => y.2.2.1.1 = kk.1) (.cnd (fun _ => .ret hb) (fun _ => .ret hb)) fun y hy => .ret hy) (fun _ => .ret ⟨b, ?_, hb⟩)
        rw [w64_id (by omega) (by omega)]
    · simp only [start78.l0]
      exact .cnd (fun h => absurd (of_decide_eq_true h) (by show ¬ ((2 : Nat) : Int) < ((2 : Nat) : Int); omega)) (fun _ => .ret hb)
  · exact .ret ha
/-- what the bus shows -/
def Okb (b : Int × Int × Int) : Prop := 0 ≤ b.2.1 ∧ b.2.1 < 65536 ∧ 0 ≤ b.2.2 ∧ b.2.2 < 256
theorem ask_t {c : Cpu} (hc : Wc c) (kk : Cor) (h9 : Nin.p kk.1) (irq : Bool) : Tot (fun k => Ask43 k c kk irq) (fun v => Nin.p v.1.1.1 ∧ Okb v.1.2.1) := by
  unfold Ask43
  refine .bind (fit_tt h9) fun r hr => .bind (P := fun y => y.1 = c ∧ Fitd y.2.2.2.2.1.1 ∧ y.2.2.2.2.2.2 = (0, 0, 0)) (.cnd (fun _ => .bind (start_t hc _ hr.nin irq) fun v hv => .ret ⟨rfl, by show Fitd v.1.1; rw [hv]; exact hr, rfl⟩) (fun _ => .ret ⟨rfl, hr, rfl⟩)) fun y hy => ?_
  obtain ⟨c1, u1, u2, u3, o0, o1, o2⟩ := y
  obtain ⟨rfl, hf, rfl⟩ := hy
  refine .cnd (fun _ => .bind (place79_t 0 hf) fun v hv => .ret ⟨hv.2.2, hv.1, hv.2.1, by show (0 : Int) ≤ 0; decide, by show (0 : Int) < 256; decide⟩) fun _ => .bind (doing_t hc _) fun d hd => .cnd (fun _ => .ret ⟨hf.nin, by show (0 : Int) ≤ 0; decide, by show (0 : Int) < 65536; decide, by show (0 : Int) ≤ 0; decide, by show (0 : Int) < 256; decide⟩) fun _ =>
    .bind (P := fun y => y.2.2.2.2.2.1 = o0 ∧ 0 ≤ y.2.2.2.2.2.2.2.2.2.2 ∧ y.2.2.2.2.2.2.2.2.2.2 < 256) (.cnd (fun h => ?_) (fun _ => .ret ⟨rfl, by show (0 : Int) ≤ 0; decide, by show (0 : Int) < 256; decide⟩)) fun y hy => ?_
  · have h2 : 0 ≤ d.1.1.2.2.1 ∧ d.1.1.2.2.1 < 9 := by
      by_cases ha : d.1.1.2.2.1 ≥ 0
      · rw [decide_eq_true ha] at h
        by_cases hb : d.1.1.2.2.1 < 9
        · exact ⟨ha, hb⟩
        · rw [decide_eq_false hb] at h
          revert h
          cases (d.1.1.1 == 2) <;> simp
      · rw [decide_eq_false ha] at h
        revert h
        cases (d.1.1.1 == 2) <;> simp
    exact .ask h2 (.read (inr9 hf.nin h2.1 h2.2) fun a _ => .bind (low8_t _) fun b hb => .ret ⟨rfl, hb.1, hb.2⟩)
  · obtain ⟨u1, u2, u3, x, u4, p0, p1, p2, p3, p4, p5⟩ := y
    obtain ⟨rfl, q1, q2⟩ := hy
    exact .bind (place79_t x.2.1 hf) fun v hv => .ret ⟨hv.2.2, hv.1, hv.2.1, q1, q2⟩
end Go.Proofs.Ytcppmlgnceldmaa.Ge

/- Processors: what is told. No program in sight. -/
set_option linter.unusedVariables false
set_option maxRecDepth 100000
noncomputable section
namespace Go.Proofs.Ytcppmlgnceldmaa.Ge
open Go Go.Proofs.Ytcppmlgnceldmaa.Gp

theorem clone_ev (s : List Cyc) (h : s.length * 48 ≤ 140737488351232) : Ev (fun k => Clone129 k s) ((), s) := by
  unfold Clone129
  have e : (if room (0 + List.length s) 48 then some () else none : Option Unit) = some () := if_pos (room_ok (by omega))
  refine Ev.const ?_
  rw [orNil_same (fun h0 => ?_)]
  · show Option.bind _ _ = _
    rw [e]; rfl
  · have := List.length_eq_zero_iff.1 h0
    subst this
    rw [e]; rfl
theorem clones_ev (s : List Stp4) (h : s.length * 32 ≤ 140737488351232) : Ev (fun k => Clone130 k s) ((), s) := by
  unfold Clone130
  have e : (if room (0 + List.length s) 32 then some () else none : Option Unit) = some () := if_pos (room_ok (by omega))
  refine Ev.const ?_
  rw [orNil_same (fun h0 => ?_)]
  · show Option.bind _ _ = _
    rw [e]; rfl
  · have := List.length_eq_zero_iff.1 h0
    subst this
    rw [e]; rfl
theorem copies_ev (l : List Cyc) (h : Wcyc l) : Ev (fun k => copies116 k l) (l, ()) := by
  have hl := h.1
  unfold copies116
  refine .bind (clone_ev l hl) (.bind (a := ((), l)) (Lp.ev ?_) (.now _))
  have := Lp.count (body := fun k => copies116.l0 k ((), l)) l.length (fun (_ : Unit) i => ((), i, l)) (fun _ _ => ()) (fun _ => ((), l)) (fun _ _ => True) (fun i b hi _ => ⟨?_, trivial⟩) (fun b _ => ?_) (b := ()) trivial
  · exact this
  · obtain ⟨x, hx⟩ : ∃ x, l[i]? = some x := ⟨l[i], List.getElem?_eq_getElem hi⟩
    have hr := rd_some' hx
    simp only [copies116.l0]
    refine .yes (decide_eq_true (by omega)) (.val hr (.val hr (.bind (clones_ev x.2.2.2 (h.2 x (get_mem hx))) (.val hr (.val hr (.now' ?_))))))
    rw [w64_id (by omega) (by omega), Int.toNat_natCast]
    have : l.set i x = l := by
      obtain ⟨h1, h2⟩ := List.getElem?_eq_some_iff.1 hx
      rw [← h2]
      exact List.set_getElem_self h1
    show (Sum.inl ((), (i : Int) + 1, l.set i x) : _ ⊕ _) = _
    rw [this]
  · simp only [copies116.l0]
    exact .no (decide_eq_false (by show ¬ (l.length : Int) < (l.length : Int); omega)) (.now _)
theorem copy_ev (x : Ins) (h : Wcyc x.2.2.2) : Ev (fun k => Copy86 k x) (x, ()) := by
  unfold Copy86
  exact .bind (copies_ev _ h) (.now _)
def findI (c : Cpu) (op : Int) : Option Ins := c.2.1.find? (fun x => x.1 == op)
theorem idx_lp {c : Cpu} (hc : Wc c) (op : Int) : ∀ (suf pre : List Ins), c.2.1 = pre ++ suf → ∃ r, Lp (fun k => IndexFunc50'.l0 k c.2.1) ((op, ()), (pre.length : Int)) r ∧
    (match suf.find? (fun x => x.1 == op) with | none => r = .inl () | some x => ∃ j : Nat, r = .inr ((j : Int), ()) ∧ c.2.1[j]? = some x) := by
  have hl := hc.len
  intro suf
  induction suf with
  | nil =>
    intro pre h
    rw [List.append_nil] at h
    refine ⟨.inl (), .done ?_, rfl⟩
    simp only [IndexFunc50'.l0]
    exact .no (decide_eq_false (by rw [h]; omega)) (.now _)
  | cons x suf ih =>
    intro pre h
    have hx : c.2.1[pre.length]? = some x := by rw [h]; simp
    have hlt := get_lt hx
    cases hp : (x.1 == op) with
    | true =>
      refine ⟨.inr ((pre.length : Int), ()), .done ?_, ?_⟩
      · simp only [IndexFunc50'.l0]
        refine .yes (decide_eq_true (by omega)) (.val (rd_some' hx) (.bind (a := (true, ())) (.const ?_) (.yes rfl (.now _))))
        show some ((x.1 == op), ()) = _
        rw [hp]
      · rw [List.find?_cons_of_pos (by exact hp)]
        exact ⟨pre.length, rfl, hx⟩
    | false =>
      obtain ⟨r, h1, h2⟩ := ih (pre ++ [x]) (by rw [h]; simp)
      refine ⟨r, .step ?_ h1, ?_⟩
      · simp only [IndexFunc50'.l0]
        refine .yes (decide_eq_true (by omega)) (.val (rd_some' hx) (.bind (a := (false, ())) (.const ?_) (.no rfl (.now' ?_))))
        · show some ((x.1 == op), ()) = _
          rw [hp]
        · rw [w64_succ (by omega)]; simp
      · rw [List.find?_cons_of_neg (by rw [hp]; decide)]
        exact h2
def none4 : Ins := (0, ByteArray.mk #[], 0, [])
def findR (c : Cpu) (op : Int) : Ins × Bool × Unit := match findI c op with | some x => (x, true, ()) | none => (none4, false, ())
theorem find_ev {c : Cpu} (hc : Wc c) (op : Int) : Ev (fun k => Find52 k c op) (findR c op, ()) := by
  unfold Find52 IndexFunc50'
  obtain ⟨r, h1, h2⟩ := idx_lp hc op c.2.1 [] rfl
  unfold findR findI
  cases hf : c.2.1.find? (fun x => x.1 == op) with
  | none =>
    rw [hf] at h2
    subst h2
    exact .bind (.joinL (S := Unit) h1.ev (.now _)) (.yes rfl (.now _))
  | some x =>
    rw [hf] at h2
    obtain ⟨j, rfl, hj⟩ := h2
    exact .bind (.joinR h1.ev) (.no (decide_eq_false (by show ¬ (j : Int) < 0; omega)) (.val (rd_some' hj) (.bind (copy_ev x (hc.ins x (get_mem hj))) (.now _))))
theorem ended_t (c : Cpu) (kk : Cor) (h9 : Nin.p kk.1) : Tot (fun k => ended81 k c kk) (fun v => Nin.p v.1.1) := by
  unfold ended81
  exact .bind (P := fun y => Nin.p y.2.2.1.1) (.cnd (fun _ => .ret h9) (fun _ => .ret h9)) fun y hy => .ret hy
theorem tell_t {c : Cpu} (hc : Wc c) (kk : Cor) (h9 : Nin.p kk.1) (d : Int) : Tot (fun k => Tell46 k c kk d) (fun v => Nin.p v.1.1) := by
  unfold Tell46
  refine .bind (low8_t d) fun t16 _ => .bind (fit_t h9) fun t19 h19 => .cnd (fun _ => .bind (P := fun _ => True) (.of (find_ev hc _) trivial) fun f _ => .bind (P := fun y => Nin.p y.2.2.1.1) (.cnd (fun _ => .ret h19.1) (fun _ => .bind (P := fun y => Nin.p y.2.2.1.1) (.cnd (fun _ => .ret h19.1) (fun _ => .ret h19.1)) fun y hy => .ret hy)) fun y hy => .ret hy) fun _ => ?_
  refine .bind (doing_t hc _) fun t46 h46 => .cnd (fun _ => .bind (ended_t c _ h19.1) fun v hv => .ret hv) fun hb => ?_
  have hx : t46.1.1.2.2.2.length * 32 ≤ 140737488351232 := h46 (by simpa using hb)
  refine .bind (P := fun y => y.1 = c ∧ y.2.2.2.1 = t46.1.1 ∧ Nin.p y.2.2.2.2.1.1) (.cnd (fun h => ?_) (fun _ => .ret ⟨rfl, rfl, h19.1⟩)) fun y hy => ?_
  · have h2 : 0 ≤ t46.1.1.2.2.1 ∧ t46.1.1.2.2.1 < 9 := by
      by_cases ha : t46.1.1.2.2.1 ≥ 0
      · rw [decide_eq_true ha] at h
        by_cases hb : t46.1.1.2.2.1 < 9
        · exact ⟨ha, hb⟩
        · rw [decide_eq_false hb] at h
          revert h
          cases (t46.1.1.1 == 1) <;> simp
      · rw [decide_eq_false ha] at h
        revert h
        cases (t46.1.1.1 == 1) <;> simp
    exact .ask h2 (.read (inr9 h19.1 h2.1 h2.2) fun a _ => .ret ⟨rfl, rfl, nin_set h19.1⟩)
  · obtain ⟨c1, u1, u2, x, o0, o1⟩ := y
    obtain ⟨rfl, rfl, ho⟩ := hy
    refine .join (P := fun y => match y with | .inl y => y.1 = c1 ∧ Nin.p y.2.2.2.1.1 | .inr v => Nin.p v.1.1) ?_ (fun y hy => ?_) (fun _ h => h)
    · refine Tot.walk (body := fun k => Tell46.l0 k t46.1.1) t46.1.1.2.2.2 (fun (b : Cor × Cor) i => (c1, (), (), i, b.1, b.2)) (fun b => Nin.p b.1.1) _ (fun i s b hs hb => ?_) (fun b hb => ?_) (b := ((o0.1, o0.2.1, (w64 (o0.2.2.1 + 1)), o0.2.2.2), o1)) ho
      · have hi := get_lt hs
        simp only [Tell46.l0]
        refine .cnd (fun _ => .val (rd_some' hs) (.bind (do_t s hb) fun v hv => .cnd (fun _ => .ret hv.1.1) (fun _ => .ret ⟨((v.1.1, b.1.2), b.2), ?_, hv.1.1⟩))) (fun h => absurd (of_decide_eq_false h) (by omega))
        rw [w64_id (by omega) (by omega)]
      · simp only [Tell46.l0]
        exact .cnd (fun h => absurd (of_decide_eq_true h) (by omega)) (fun _ => .ret ⟨rfl, hb⟩)
    · obtain ⟨c2, u3, u4, p0, p1⟩ := y
      obtain ⟨rfl, hp⟩ := hy
      exact .bind (cycles_t hc _) fun t _ => .bind (P := fun y => Nin.p y.2.2.1.1) (.cnd (fun _ => .ret hp) (fun _ => .ret hp)) fun y hy => .ret hy
end Go.Proofs.Ytcppmlgnceldmaa.Ge

/- Go functions as plain Lean functions, and their contracts. -/
set_option linter.unusedVariables false
set_option maxRecDepth 100000
noncomputable section
namespace Go.Proofs.Ytcppmlgnceldmaa.Ge
open Go Go.Proofs.Ytcppmlgnceldmaa.Gp
def Cycle42 (k : Nat) (c : (ByteArray × ((List (Int × (ByteArray × (Int × (List (Int × (Int × (Int × (List (Int × (Int × (Int × Int)))))))))))) × ((List (Int × (Int × (Int × (List (Int × (Int × (Int × Int)))))))) × ((List (Int × (Int × (Int × (List (Int × (Int × (Int × Int)))))))) × (List (Int × (Int × (Int × (List (Int × (Int × (Int × Int))))))))))))) (k_ : ((List Int) × (Int × (Int × Bool)))) (irq : Bool) (_ : Unit) (o0 : (Unit × (List Int))) (o1 : (List (Int × Int))) : Option ((((List Int) × (Int × (Int × Bool))) × ((Int × (Int × Int)) × Unit)) × ((Unit × (List Int)) × (List (Int × Int)))) :=
  (Ask43 k c k_ irq).bind fun t15 =>
  Option.bind
    (cond (t15.1.2.1.1 == 1)
      ((Read147 k () t15.1.2.1.2.1 o0 o1).bind fun t25 =>
      (Low47 k t25.1 8).bind fun t26 =>
      some (c, (), (), (), (), t25.2.1, t25.2.2, t15.1.1, ((List.replicate 9 0), 0, 0, false), (0, 0, 0), t15.1.2.1.1, t15.1.2.1.2.1, t26.1))
      (Option.bind
        (cond (t15.1.2.1.1 == 2)
          ((Write148 k () t15.1.2.1.2.1 t15.1.2.1.2.2 o0 o1).bind fun t35 =>
          some (c, (), (), (), (), t35.2.1, t35.2.2, t15.1.1, ((List.replicate 9 0), 0, 0, false), (0, 0, 0), t15.1.2.1))
          (some (c, (), (), (), (), o0, o1, t15.1.1, ((List.replicate 9 0), 0, 0, false), (0, 0, 0), t15.1.2.1)) : Option ((ByteArray × ((List (Int × (ByteArray × (Int × (List (Int × (Int × (Int × (List (Int × (Int × (Int × Int)))))))))))) × ((List (Int × (Int × (Int × (List (Int × (Int × (Int × Int)))))))) × ((List (Int × (Int × (Int × (List (Int × (Int × (Int × Int)))))))) × (List (Int × (Int × (Int × (List (Int × (Int × (Int × Int)))))))))))) × (Unit × (Unit × (Unit × (Unit × ((Unit × (List Int)) × ((List (Int × Int)) × (((List Int) × (Int × (Int × Bool))) × (((List Int) × (Int × (Int × Bool))) × ((Int × (Int × Int)) × (Int × (Int × Int))))))))))))) fun ((c_1, _, _, _, _, o0_1, o1_1, o2, o3, o4, o5) : ((ByteArray × ((List (Int × (ByteArray × (Int × (List (Int × (Int × (Int × (List (Int × (Int × (Int × Int)))))))))))) × ((List (Int × (Int × (Int × (List (Int × (Int × (Int × Int)))))))) × ((List (Int × (Int × (Int × (List (Int × (Int × (Int × Int)))))))) × (List (Int × (Int × (Int × (List (Int × (Int × (Int × Int)))))))))))) × (Unit × (Unit × (Unit × (Unit × ((Unit × (List Int)) × ((List (Int × Int)) × (((List Int) × (Int × (Int × Bool))) × (((List Int) × (Int × (Int × Bool))) × ((Int × (Int × Int)) × (Int × (Int × Int))))))))))))) =>
      some (c_1, (), (), (), (), o0_1, o1_1, o2, o3, o4, o5)) : Option ((ByteArray × ((List (Int × (ByteArray × (Int × (List (Int × (Int × (Int × (List (Int × (Int × (Int × Int)))))))))))) × ((List (Int × (Int × (Int × (List (Int × (Int × (Int × Int)))))))) × ((List (Int × (Int × (Int × (List (Int × (Int × (Int × Int)))))))) × (List (Int × (Int × (Int × (List (Int × (Int × (Int × Int)))))))))))) × (Unit × (Unit × (Unit × (Unit × ((Unit × (List Int)) × ((List (Int × Int)) × (((List Int) × (Int × (Int × Bool))) × (((List Int) × (Int × (Int × Bool))) × ((Int × (Int × Int)) × (Int × (Int × Int))))))))))))) fun ((c_2, _, _, _, _, o0_2, o1_2, o2_1, _, _, o5_1) : ((ByteArray × ((List (Int × (ByteArray × (Int × (List (Int × (Int × (Int × (List (Int × (Int × (Int × Int)))))))))))) × ((List (Int × (Int × (Int × (List (Int × (Int × (Int × Int)))))))) × ((List (Int × (Int × (Int × (List (Int × (Int × (Int × Int)))))))) × (List (Int × (Int × (Int × (List (Int × (Int × (Int × Int)))))))))))) × (Unit × (Unit × (Unit × (Unit × ((Unit × (List Int)) × ((List (Int × Int)) × (((List Int) × (Int × (Int × Bool))) × (((List Int) × (Int × (Int × Bool))) × ((Int × (Int × Int)) × (Int × (Int × Int))))))))))))) =>
  (Tell46 k c_2 o2_1 o5_1.2.2).bind fun t40 =>
  some ((t40.1, o5_1, ()), o0_2, o1_2)
def Cycle42.A : Ann := { conds := [(1310724, ⟨[(4, .fp (.st (.pair .str (.pair (.sl (.st (.pair (.int .i64) (.pair .str (.pair (.int .i64) (.sl (.st (.pair (.int .i64) (.pair (.int .i64) (.pair (.int .i64) (.sl (.st (.pair (.int .i64) (.pair (.int .i64) (.pair (.int .i64) (.int .i64)))))))))))))))) (.pair (.sl (.st (.pair (.int .i64) (.pair (.int .i64) (.pair (.int .i64) (.sl (.st (.pair (.int .i64) (.pair (.int .i64) (.pair (.int .i64) (.int .i64))))))))))) (.pair (.sl (.st (.pair (.int .i64) (.pair (.int .i64) (.pair (.int .i64) (.sl (.st (.pair (.int .i64) (.pair (.int .i64) (.pair (.int .i64) (.int .i64))))))))))) (.sl (.st (.pair (.int .i64) (.pair (.int .i64) (.pair (.int .i64) (.sl (.st (.pair (.int .i64) (.pair (.int .i64) (.pair (.int .i64) (.int .i64))))))))))))))))), (5, .ptr 2 []), (8, .ptr 3 []), (9, .ptr 4 []), (10, .ptr 5 [])], [(0, .var (.st (.pair (.st (.mm 1)) (.sl (.int .u8))))), (1, .map (.int .i64) (.int .i64)), (2, .var (.st (.pair (.arr 9 (.int .i64)) (.pair (.int .i64) (.pair (.int .i64) .bool))))), (3, .var (.st (.pair (.arr 9 (.int .i64)) (.pair (.int .i64) (.pair (.int .i64) .bool))))), (4, .var (.st (.pair (.int .i64) (.pair (.int .i64) (.int .i64))))), (5, .var (.st (.pair (.int .i64) (.pair (.int .i64) (.int .i64)))))], 6, [], 68715282432⟩), (1835014, ⟨[(4, .fp (.st (.pair .str (.pair (.sl (.st (.pair (.int .i64) (.pair .str (.pair (.int .i64) (.sl (.st (.pair (.int .i64) (.pair (.int .i64) (.pair (.int .i64) (.sl (.st (.pair (.int .i64) (.pair (.int .i64) (.pair (.int .i64) (.int .i64)))))))))))))))) (.pair (.sl (.st (.pair (.int .i64) (.pair (.int .i64) (.pair (.int .i64) (.sl (.st (.pair (.int .i64) (.pair (.int .i64) (.pair (.int .i64) (.int .i64))))))))))) (.pair (.sl (.st (.pair (.int .i64) (.pair (.int .i64) (.pair (.int .i64) (.sl (.st (.pair (.int .i64) (.pair (.int .i64) (.pair (.int .i64) (.int .i64))))))))))) (.sl (.st (.pair (.int .i64) (.pair (.int .i64) (.pair (.int .i64) (.sl (.st (.pair (.int .i64) (.pair (.int .i64) (.pair (.int .i64) (.int .i64))))))))))))))))), (5, .ptr 2 []), (8, .ptr 3 []), (9, .ptr 4 []), (10, .ptr 5 [])], [(0, .var (.st (.pair (.st (.mm 1)) (.sl (.int .u8))))), (1, .map (.int .i64) (.int .i64)), (2, .var (.st (.pair (.arr 9 (.int .i64)) (.pair (.int .i64) (.pair (.int .i64) .bool))))), (3, .var (.st (.pair (.arr 9 (.int .i64)) (.pair (.int .i64) (.pair (.int .i64) .bool))))), (4, .var (.st (.pair (.int .i64) (.pair (.int .i64) (.int .i64))))), (5, .var (.st (.pair (.int .i64) (.pair (.int .i64) (.int .i64)))))], 6, [], 67645734912⟩)], blocks := [], loops := [], keeps := [4], orders := [(7, [(0, .strong), (1, .strong), (2, .strong), (3, .strong), (5, .strong), (4, .eff true), (6, .eff true), (7, .eff true)])], touches := [(7, 24)], meths := [⟨90, "Read", 147, none⟩, ⟨90, "Write", 148, some (95, 0)⟩] }
def Cycle42.S : Sig := { f := 42, params := [.st (.pair .str (.pair (.sl (.st (.pair (.int .i64) (.pair .str (.pair (.int .i64) (.sl (.st (.pair (.int .i64) (.pair (.int .i64) (.pair (.int .i64) (.sl (.st (.pair (.int .i64) (.pair (.int .i64) (.pair (.int .i64) (.int .i64)))))))))))))))) (.pair (.sl (.st (.pair (.int .i64) (.pair (.int .i64) (.pair (.int .i64) (.sl (.st (.pair (.int .i64) (.pair (.int .i64) (.pair (.int .i64) (.int .i64))))))))))) (.pair (.sl (.st (.pair (.int .i64) (.pair (.int .i64) (.pair (.int .i64) (.sl (.st (.pair (.int .i64) (.pair (.int .i64) (.pair (.int .i64) (.int .i64))))))))))) (.sl (.st (.pair (.int .i64) (.pair (.int .i64) (.pair (.int .i64) (.sl (.st (.pair (.int .i64) (.pair (.int .i64) (.pair (.int .i64) (.int .i64))))))))))))))), .st (.pair (.arr 9 (.int .i64)) (.pair (.int .i64) (.pair (.int .i64) .bool))), .bool, .ifc 90 (.ptr 0 [])], objs := [.var (.st (.pair (.st (.mm 1)) (.sl (.int .u8)))), .map (.int .i64) (.int .i64)], res := .tup (.pair (.st (.pair (.arr 9 (.int .i64)) (.pair (.int .i64) (.pair (.int .i64) .bool)))) (.pair (.st (.pair (.int .i64) (.pair (.int .i64) (.int .i64)))) .unit)), outs := [.var (.st (.pair (.st (.mm 1)) (.sl (.int .u8)))), .map (.int .i64) (.int .i64)], fix := [], run := fun k ds os => Cycle42 k ds.1 ds.2.1 ds.2.2.1 ds.2.2.2 os.1 os.2 }
def Cycle42.G : List Sig := [Ask43.S, Low47.S, Read147.S, Tell46.S, Write148.S]
theorem Cycle42.eq (k : Nat) : ∀ ds os, Cycle42.S.run k ds os = runF ⟨types, Cycle42.G, Cycle42.A, k, 0, []⟩ Try.f42 (codeOf Try.f42) Cycle42.S.params Cycle42.S.objs Cycle42.S.res Cycle42.S.outs ds os := by
  intro ds os; kernel_rfl
theorem Cycle42.dr : DrOk Try.prog Cycle42.A (codeOf Try.f42) := ⟨by kernel_rfl, by kernel_rfl⟩
theorem Cycle42.ok (k : Nat) : SoundAt Try.prog k Cycle42.S :=
  runF_sound (X := ⟨types, Cycle42.G, Cycle42.A, k, 0, []⟩) types_ok (mem_all (⟨Ask43.ok k, ⟨Low47.ok k, ⟨Read147.ok k, ⟨Tell46.ok k, ⟨Write148.ok k, trivial⟩⟩⟩⟩⟩)) (fn := Try.f42) (c := codeOf Try.f42) rfl (by kernel_rfl) rfl rfl Cycle42.dr (Cycle42.eq k) (hM := by kernel_rfl)

def Tested19.l0 (k : Nat) : ((ByteArray × ((List (Int × (ByteArray × (Int × (List (Int × (Int × (Int × (List (Int × (Int × (Int × Int)))))))))))) × ((List (Int × (Int × (Int × (List (Int × (Int × (Int × Int)))))))) × ((List (Int × (Int × (Int × (List (Int × (Int × (Int × Int)))))))) × (List (Int × (Int × (Int × (List (Int × (Int × (Int × Int)))))))))))) × (Unit × (Unit × (Unit × ((List (Int × Int)) × ((Unit × (List Int)) × (((List Int) × (Int × (Int × Bool))) × (List (Int × (Int × Int)))))))))) → Option (((ByteArray × ((List (Int × (ByteArray × (Int × (List (Int × (Int × (Int × (List (Int × (Int × (Int × Int)))))))))))) × ((List (Int × (Int × (Int × (List (Int × (Int × (Int × Int)))))))) × ((List (Int × (Int × (Int × (List (Int × (Int × (Int × Int)))))))) × (List (Int × (Int × (Int × (List (Int × (Int × (Int × Int)))))))))))) × (Unit × (Unit × (Unit × ((List (Int × Int)) × ((Unit × (List Int)) × (((List Int) × (Int × (Int × Bool))) × (List (Int × (Int × Int)))))))))) ⊕ (Unit × (List (Int × (Int × Int)))))
  | (c_1, _, _, _, o0, o1, o2, o5) =>
    cond (decide ((List.length o5 : Int) < 40))
      ((Cycle42 k c_1 o2 false () ((), o1.2) o0).bind fun t28 =>
      (if room (List.length o5 + List.length [t28.1.2.1]) 24 then some () else none).bind fun _ =>
      some (Sum.inl (c_1, (), (), (), t28.2.2, (t28.2.1.1, t28.2.1.2), t28.1.1, (o5 ++ [t28.1.2.1]))))
      (some (Sum.inr ((), o5)))
def Tested19 (k : Nat) (c : (ByteArray × ((List (Int × (ByteArray × (Int × (List (Int × (Int × (Int × (List (Int × (Int × (Int × Int)))))))))))) × ((List (Int × (Int × (Int × (List (Int × (Int × (Int × Int)))))))) × ((List (Int × (Int × (Int × (List (Int × (Int × (Int × Int)))))))) × (List (Int × (Int × (Int × (List (Int × (Int × (Int × Int))))))))))))) (t : ((List Int) × (List Int))) : Option ((List (Int × (Int × Int))) × Unit) :=
  (if 0 ≤ 7 ∧ 7 < 9 then some () else none).bind fun _ =>
  (rd t.2 7).bind fun _ =>
  Option.bind
    (loopN (Tested19.l0 k) k (c, (), (), (), ([] : (List (Int × Int))), ((), t.1), ((List.set t.2 (Int.toNat 7) 512), (-1), 0, false), []) : Option (Unit × (List (Int × (Int × Int))))) fun ((_, o5_1) : (Unit × (List (Int × (Int × Int))))) =>
  some (o5_1, ())
def Tested19.A : Ann := { conds := [], blocks := [(0, ⟨[(7, .ms 5)], [(5, .row (.st (.pair (.int .i64) (.pair (.int .i64) (.int .i64)))))], 6, [], 34358690176⟩)], loops := [(5, ⟨[(2, .fp (.st (.pair .str (.pair (.sl (.st (.pair (.int .i64) (.pair .str (.pair (.int .i64) (.sl (.st (.pair (.int .i64) (.pair (.int .i64) (.pair (.int .i64) (.sl (.st (.pair (.int .i64) (.pair (.int .i64) (.pair (.int .i64) (.int .i64)))))))))))))))) (.pair (.sl (.st (.pair (.int .i64) (.pair (.int .i64) (.pair (.int .i64) (.sl (.st (.pair (.int .i64) (.pair (.int .i64) (.pair (.int .i64) (.int .i64))))))))))) (.pair (.sl (.st (.pair (.int .i64) (.pair (.int .i64) (.pair (.int .i64) (.sl (.st (.pair (.int .i64) (.pair (.int .i64) (.pair (.int .i64) (.int .i64))))))))))) (.sl (.st (.pair (.int .i64) (.pair (.int .i64) (.pair (.int .i64) (.sl (.st (.pair (.int .i64) (.pair (.int .i64) (.pair (.int .i64) (.int .i64))))))))))))))))), (5, .ptr 1 []), (6, .ptr 2 []), (7, .ms 5)], [(0, .map (.int .i64) (.int .i64)), (1, .var (.st (.pair (.st (.mm 0)) (.sl (.int .u8))))), (2, .var (.st (.pair (.arr 9 (.int .i64)) (.pair (.int .i64) (.pair (.int .i64) .bool))))), (5, .row (.st (.pair (.int .i64) (.pair (.int .i64) (.int .i64)))))], 6, [(5, .st (.pair (.int .i64) (.pair (.int .i64) (.int .i64))))], 34358690176⟩)], keeps := [2, 3], orders := [] }
def Tested19.S : Sig := { f := 19, params := [.st (.pair .str (.pair (.sl (.st (.pair (.int .i64) (.pair .str (.pair (.int .i64) (.sl (.st (.pair (.int .i64) (.pair (.int .i64) (.pair (.int .i64) (.sl (.st (.pair (.int .i64) (.pair (.int .i64) (.pair (.int .i64) (.int .i64)))))))))))))))) (.pair (.sl (.st (.pair (.int .i64) (.pair (.int .i64) (.pair (.int .i64) (.sl (.st (.pair (.int .i64) (.pair (.int .i64) (.pair (.int .i64) (.int .i64))))))))))) (.pair (.sl (.st (.pair (.int .i64) (.pair (.int .i64) (.pair (.int .i64) (.sl (.st (.pair (.int .i64) (.pair (.int .i64) (.pair (.int .i64) (.int .i64))))))))))) (.sl (.st (.pair (.int .i64) (.pair (.int .i64) (.pair (.int .i64) (.sl (.st (.pair (.int .i64) (.pair (.int .i64) (.pair (.int .i64) (.int .i64))))))))))))))), .st (.pair (.sl (.int .u8)) (.arr 9 (.int .i64)))], objs := [], res := .sl (.st (.pair (.int .i64) (.pair (.int .i64) (.int .i64)))), outs := [], fix := [], run := fun k ds os => Tested19 k ds.1 ds.2 }
def Tested19.G : List Sig := [Cycle42.S]
theorem Tested19.eq (k : Nat) : ∀ ds os, Tested19.S.run k ds os = runF ⟨types, Tested19.G, Tested19.A, k, 0, []⟩ Try.f19 (codeOf Try.f19) Tested19.S.params Tested19.S.objs Tested19.S.res Tested19.S.outs ds os := by
  intro ds os; kernel_rfl
theorem Tested19.dr : DrOk Try.prog Tested19.A (codeOf Try.f19) := ⟨by kernel_rfl, by kernel_rfl⟩
theorem Tested19.ok (k : Nat) : SoundAt Try.prog k Tested19.S :=
  runF_sound (X := ⟨types, Tested19.G, Tested19.A, k, 0, []⟩) types_ok (mem_all (⟨Cycle42.ok k, trivial⟩)) (fn := Try.f19) (c := codeOf Try.f19) rfl (by kernel_rfl) rfl rfl Tested19.dr (Tested19.eq k)
end Go.Proofs.Ytcppmlgnceldmaa.Ge

/- Processors with a memory: the program's run and the reference's. No program in sight. -/
set_option linter.unusedVariables false
set_option maxRecDepth 100000
noncomputable section
namespace Go.Proofs.Ytcppmlgnceldmaa.Ge
open Go Go.Proofs.Ytcppmlgnceldmaa.Gp

abbrev Mem := List (Int × Int)
def getM (m : Mem) (x : Int) : Option Int := mget (.int .i64) (.int .i64) m x
def putM (m : Mem) (x d : Int) : Mem := mput (.int .i64) (.int .i64) m x d
def Byt (m : Mem) : Prop := ∀ x v, getM m x = some v → 0 ≤ v ∧ v < 256
theorem get_put (m : Mem) (x d y : Int) : getM (putM m x d) y = if y = x then some d else getM m y := by
  have := mget_mput (kk := .int .i64) (kv := .int .i64) rfl (l := m) (k := x) (k' := y) (v := d)
  refine Eq.trans this ?_
  by_cases h : y = x
  · rw [if_pos ((eqB_iff (k := .int .i64) rfl).2 h), if_pos h]; rfl
  · rw [if_neg (fun e => h ((eqB_iff (k := .int .i64) rfl).1 e)), if_neg h]
    rfl
theorem byt_put {m : Mem} (h : Byt m) (x : Int) {d : Int} (h0 : 0 ≤ d) (h1 : d < 256) : Byt (putM m x d) := by
  intro y v hv
  rw [get_put] at hv
  by_cases hy : y = x
  · rw [if_pos hy] at hv; cases hv; exact ⟨h0, h1⟩
  · rw [if_neg hy] at hv; exact h y v hv
def Wb (code : List Int) : Prop := code.length ≤ 140737488351232 ∧ ∀ x ∈ code, 0 ≤ x ∧ x < 256
def byteN (a : Nat) : Nat := (7 * a + a / 256 + 3) % 256
theorem byte_ev (a : Nat) (ha : a < 65536) : Ev (fun k => Byte22 k (a : Int)) (((byteN a : Nat) : Int), ()) := by
  unfold Byte22
  refine .bind (low8_ev _) (.now' ?_)
  have e : shrI .i64 (a : Int) 8 = ((a / 256 : Nat) : Int) := shrI_nat (a := a) (j := 8) (by decide)
  rw [e, w64_id (x := 7 * (a : Int)) (by omega) (by omega), w64_id (x := 7 * (a : Int) + ((a / 256 : Nat) : Int)) (by omega) (by omega), w64_id (x := 7 * (a : Int) + ((a / 256 : Nat) : Int) + 3) (by omega) (by omega)]
  refine congrArg (fun (z : Int) => (z, ())) ?_
  unfold byteN
  omega
theorem quo256 (a : Nat) (ha : a < 65536) : quoI .i64 (a : Int) 256 = ((a / 256 : Nat) : Int) := by
  unfold quoI
  rw [Int.tdiv_eq_ediv_of_nonneg (by omega), show (a : Int) / 256 = ((a / 256 : Nat) : Int) by omega]
  exact w64_nat (by omega)
theorem plain_byte (a : Nat) (ha : a < 65536) : Int.tmod (w64 ((w64 ((w64 (7 * (a : Int))) + (quoI .i64 (a : Int) 256))) + 3)) 256 = ((byteN a : Nat) : Int) := by
  rw [quo256 a ha, w64_id (x := 7 * (a : Int)) (by omega) (by omega), w64_id (x := 7 * (a : Int) + ((a / 256 : Nat) : Int)) (by omega) (by omega), w64_id (x := 7 * (a : Int) + ((a / 256 : Nat) : Int) + 3) (by omega) (by omega), Int.tmod_eq_emod_of_nonneg (by omega)]
  unfold byteN
  omega
theorem byteN_lt (a : Nat) : byteN a < 256 := Nat.mod_lt _ (by decide)
theorem read_same {code : List Int} (hw : Wb code) {m : Mem} (hm : Byt m) {a : Int} (h0 : 0 ≤ a) (h1 : a < 65536) : ∃ v w, 0 ≤ v ∧ v < 256 ∧
    Ev (fun k => Read44 k () a (code, ()) m) (v, (code, ()), m) ∧ Ev (fun k => Read147 k () a ((), code) m) (w, ((), code), m) ∧ Ev (fun k => Low47 k w 8) (v, ()) := by
  obtain ⟨n, rfl⟩ : ∃ n : Nat, a = (n : Int) := ⟨a.toNat, by omega⟩
  have hl := hw.1
  have low : ∀ v : Int, 0 ≤ v → v < 256 → Ev (fun k => Low47 k v 8) (v, ()) := fun v a b => by
    have := low8_ev v
    rw [show v % 256 = v by omega] at this
    exact this
  have wl : w64 (512 + (code.length : Int)) = 512 + (code.length : Int) := w64_id (by omega) (by omega)
  have wn : w64 ((n : Int) - 512) = (n : Int) - 512 := w64_id (by omega) (by omega)
  cases hg : getM m (n : Int) with
  | some v =>
    have hg' : mget (.int .i64) (.int .i64) m (n : Int) = some v := hg
    obtain ⟨b0, b1⟩ := hm _ _ hg
    refine ⟨v, v, b0, b1, ?_, ?_, low v b0 b1⟩
    · unfold Read44
      simp only [hg']
      exact .yes rfl (.now _)
    · unfold Read147 Read149
      simp only [hg']
      exact .no rfl (.bind (a := (v, ((), code), m)) (.yes rfl (.now _)) (.now _))
  | none =>
    have hg' : mget (.int .i64) (.int .i64) m (n : Int) = none := hg
    by_cases hc : 512 ≤ n ∧ n < 512 + code.length
    · have hx : code[n - 512]? = some code[n - 512] := List.getElem?_eq_getElem (by omega)
      have hb := hw.2 _ (get_mem hx)
      have hr : rd code ((n : Int) - 512) = some code[n - 512] := rd_at (i := n - 512) (by omega) hx
      have hwb : w64 code[n - 512] = code[n - 512] := w64_id (by omega) (by omega)
      refine ⟨code[n - 512], code[n - 512], hb.1, hb.2, ?_, ?_, low _ hb.1 hb.2⟩
      · unfold Read44
        simp only [hg', wn]
        refine .no rfl (.yes ?_ (.val hr (.now' (by rw [hwb]))))
        rw [decide_eq_true (show (n : Int) - 512 ≥ 0 by omega), decide_eq_true (show (n : Int) - 512 < (code.length : Int) by omega)]
        rfl
      · unfold Read147
        simp only [hg', wn, wl]
        refine .yes ?_ (.val hr (.now' (by rw [hwb])))
        rw [decide_eq_true (show (n : Int) ≥ 512 by omega), decide_eq_true (show (n : Int) < 512 + (code.length : Int) by omega)]
        rfl
    · have hlt := byteN_lt n
      refine ⟨((byteN n : Nat) : Int), ((byteN n : Nat) : Int), by omega, by omega, ?_, ?_, low _ (by omega) (by omega)⟩
      · unfold Read44
        simp only [hg', wn]
        refine .no rfl (.no ?_ (.bind (byte_ev n (by omega)) (.now _)))
        by_cases h5 : 512 ≤ n
        · rw [decide_eq_true (show (n : Int) - 512 ≥ 0 by omega), decide_eq_false (show ¬ (n : Int) - 512 < (code.length : Int) by omega)]
          rfl
        · rw [decide_eq_false (show ¬ (n : Int) - 512 ≥ 0 by omega)]
          rfl
      · unfold Read147 Read149
        simp only [hg', wl]
        refine .no ?_ (.bind (a := (((byteN n : Nat) : Int), ((), code), m)) (.no rfl (.now' ?_)) (.now _))
        · by_cases h5 : 512 ≤ n
          · rw [decide_eq_true (show (n : Int) ≥ 512 by omega), decide_eq_false (show ¬ (n : Int) < 512 + (code.length : Int) by omega)]
            rfl
          · rw [decide_eq_false (show ¬ (n : Int) ≥ 512 by omega)]
            rfl
        · rw [plain_byte n (by omega)]
/-- one cycle, in both -/
theorem cycle_same {c : Cpu} (hc : Wc c) {code : List Int} (hw : Wb code) {m : Mem} (hm : Byt m) (kk : Cor) (h9 : Nin.p kk.1) {l : List (Int × Int × Int)} {i : Nat} (hl : l.length = i) (hi : i < 40) :
    ∃ (b : Int × Int × Int) (k' : Cor) (m' : Mem), Nin.p k'.1 ∧ Byt m' ∧ Ev (fun n => Run20.l0 n (c, (), (), (), (i : Int), m, (code, ()), kk, l)) (.inl (c, (), (), (), (i : Int) + 1, m', (code, ()), k', l ++ [b])) ∧
      Ev (fun n => Tested19.l0 n (c, (), (), (), m, ((), code), kk, l)) (.inl (c, (), (), (), m', ((), code), k', l ++ [b])) ∧
      ∃ v, Ev (fun n => Ask43 n c kk false) v ∧ (v.1.2.1.1 = 1 → b.1 = 1 ∧ b.2.1 = v.1.2.1.2.1 ∧ ∃ x, Ev (fun n => Read44 n () v.1.2.1.2.1 (code, ()) m) x ∧ b.2.2 = x.1) := by
  obtain ⟨v, hv, q9, hb⟩ := ask_t hc kk h9 false
  have room : ∀ b : Int × Int × Int, (if room (List.length l + List.length [b]) 24 then some () else none : Option Unit) = some () := fun b => if_pos (room_ok (by simp only [List.length_cons, List.length_nil]; omega))
  have wi : w64 ((i : Int) + 1) = (i : Int) + 1 := w64_id (by omega) (by omega)
  obtain ⟨⟨kc, ⟨b1, b2, b3⟩, u1⟩, u2⟩ := v
  have hb0 : 0 ≤ b2 := hb.1
  have hb1 : b2 < 65536 := hb.2.1
  have hb2 : 0 ≤ b3 := hb.2.2.1
  have hb3 : b3 < 256 := hb.2.2.2
  by_cases r1 : b1 = 1
  · obtain ⟨x, w, x0, x1, e1, e2, e3⟩ := read_same hw hm hb0 hb1
    obtain ⟨t, ht, t9⟩ := tell_t hc kc q9 x
    refine ⟨(b1, b2, x), t.1, m, t9, hm, ?_, ?_, _, hv, fun _ => ⟨r1, rfl, _, e1, rfl⟩⟩
    · simp only [Run20.l0]
      refine .yes (decide_eq_true (by omega)) (.bind hv (.bind (.yes (by rw [r1]; rfl) (.bind e1 (.now _))) (.bind ht (.val (a := ()) (room _) (.now' ?_)))))
      rw [wi]
    · simp only [Tested19.l0]
      refine .yes (decide_eq_true (by omega)) (.bind (a := ((t.1, (b1, b2, x), ()), ((), code), m)) ?_ (.val (a := ()) (room _) (.now _)))
      unfold Cycle42
      exact .bind hv (.bind (.yes (by rw [r1]; rfl) (.bind e2 (.bind e3 (.now _)))) (.bind ht (.now _)))
  · have hne : (b1 == 1) = false := by simpa using r1
    obtain ⟨t, ht, t9⟩ := tell_t hc kc q9 b3
    by_cases r2 : b1 = 2
    · refine ⟨(b1, b2, b3), t.1, putM m b2 b3, t9, byt_put hm b2 hb2 hb3, ?_, ?_, _, hv, fun h => absurd h r1⟩
      · simp only [Run20.l0]
        refine .yes (decide_eq_true (by omega)) (.bind hv (.bind (.no hne (.bind (.yes (by rw [r2]; rfl) (.bind (a := ((), (code, ()), putM m b2 b3)) (.now _) (.now _))) (.now _))) (.bind ht (.val (a := ()) (room _) (.now' ?_)))))
        rw [wi]
      · simp only [Tested19.l0]
        refine .yes (decide_eq_true (by omega)) (.bind (a := ((t.1, (b1, b2, b3), ()), ((), code), putM m b2 b3)) ?_ (.val (a := ()) (room _) (.now _)))
        unfold Cycle42
        exact .bind hv (.bind (.no hne (.bind (.yes (by rw [r2]; rfl) (.bind (a := ((), ((), code), putM m b2 b3)) (.now _) (.now _))) (.now _))) (.bind ht (.now _)))
    · have hne2 : (b1 == 2) = false := by simpa using r2
      refine ⟨(b1, b2, b3), t.1, m, t9, hm, ?_, ?_, _, hv, fun h => absurd h r1⟩
      · simp only [Run20.l0]
        refine .yes (decide_eq_true (by omega)) (.bind hv (.bind (.no hne (.bind (.no hne2 (.now _)) (.now _))) (.bind ht (.val (a := ()) (room _) (.now' ?_)))))
        rw [wi]
      · simp only [Tested19.l0]
        refine .yes (decide_eq_true (by omega)) (.bind (a := ((t.1, (b1, b2, b3), ()), ((), code), m)) ?_ (.val (a := ()) (room _) (.now _)))
        unfold Cycle42
        exact .bind hv (.bind (.no hne (.bind (.no hne2 (.now _)) (.now _))) (.bind ht (.now _)))
theorem cycles_same {c : Cpu} (hc : Wc c) {code : List Int} (hw : Wb code) : ∀ (n i : Nat), i + n = 40 → ∀ (m : Mem) (kk : Cor) (l : List (Int × Int × Int)), Byt m → Nin.p kk.1 → l.length = i →
    ∃ r : List (Int × Int × Int), (l ++ r).length = 40 ∧ Lp (fun k => Run20.l0 k) (c, (), (), (), (i : Int), m, (code, ()), kk, l) ((), l ++ r) ∧ Lp (fun k => Tested19.l0 k) (c, (), (), (), m, ((), code), kk, l) ((), l ++ r) := by
  intro n
  induction n with
  | zero =>
    intro i hi m kk l hm h9 hl
    refine ⟨[], by rw [List.append_nil]; omega, ?_, ?_⟩
    · rw [List.append_nil]
      refine .done ?_
      simp only [Run20.l0]
      exact .no (decide_eq_false (by omega)) (.now _)
    · rw [List.append_nil]
      refine .done ?_
      simp only [Tested19.l0]
      exact .no (decide_eq_false (by omega)) (.now _)
  | succ n ih =>
    intro i hi m kk l hm h9 hl
    obtain ⟨b, k', m', g9, gm, e1, e2, _⟩ := cycle_same hc hw hm kk h9 hl (by omega)
    obtain ⟨r, r1, r2, r3⟩ := ih (i + 1) (by omega) m' k' (l ++ [b]) gm g9 (by rw [List.length_append, hl]; rfl)
    rw [List.append_assoc] at r1 r2 r3
    exact ⟨b :: r, r1, .step e1 r2, .step e2 r3⟩
def k0 (t : List Int × List Int) : Cor := (t.2.set 7 512, -1, 0, false)
/-- all that a test shows -/
theorem run_same {c : Cpu} (hc : Wc c) {t : List Int × List Int} (hw : Wb t.1) (h9 : Nin.p t.2) : ∃ l : List (Int × Int × Int), l.length = 40 ∧ Ev (fun k => Run20 k c t) (l, ()) ∧ Ev (fun k => Tested19 k c t) (l, ()) ∧
    ∃ v b, l[0]? = some b ∧ Ev (fun n => Ask43 n c (k0 t) false) v ∧ (v.1.2.1.1 = 1 → b.1 = 1 ∧ b.2.1 = v.1.2.1.2.1 ∧ ∃ x, Ev (fun n => Read44 n () v.1.2.1.2.1 (t.1, ()) []) x ∧ b.2.2 = x.1) := by
  have hk : Nin.p (k0 t).1 := nin_set h9
  have h0 : Byt [] := fun x v h => by cases h
  obtain ⟨b, k', m', g9, gm, e1, e2, v, hv, hb⟩ := cycle_same (l := []) (i := 0) hc hw h0 (k0 t) hk rfl (by decide)
  obtain ⟨r, r1, r2, r3⟩ := cycles_same hc hw 39 1 rfl m' k' [b] gm g9 rfl
  obtain ⟨a, ha⟩ : ∃ a, rd t.2 7 = some a := ⟨t.2[7]'(by rw [nin_len h9]; decide), rd_some' (i := 7) (List.getElem?_eq_getElem _)⟩
  refine ⟨[b] ++ r, r1, ?_, ?_, v, b, rfl, hv, hb⟩
  · unfold Run20
    exact .val (a := ()) rfl (.val ha (.bind (Lp.step e1 r2).ev (.now _)))
  · unfold Tested19
    exact .val (a := ()) rfl (.val ha (.bind (Lp.step e2 r3).ev (.now _)))
end Go.Proofs.Ytcppmlgnceldmaa.Ge

/- Processors: the check answers. No program in sight. -/
set_option linter.unusedVariables false
set_option maxRecDepth 100000
noncomputable section
namespace Go.Proofs.Ytcppmlgnceldmaa.Ge
open Go Go.Proofs.Ytcppmlgnceldmaa.Gp

/-- names are no longer than texts can be -/
def Wn (c : Cpu) : Prop := c.1.size ≤ 140737488351232 ∧ ∀ x ∈ c.2.1, x.2.1.size ≤ 140737488351232
theorem bytes_len (s : ByteArray) : (bytesOf s).length = s.size := by unfold bytesOf; rw [List.length_map, Array.length_toList]; rfl
theorem name_t (s : ByteArray) (h : s.size ≤ 140737488351232) : Tot (fun k => Name36 k s) (fun _ => True) := by
  unfold Name36
  have hl := bytes_len s
  have at0 : ∀ {β : Type} {Q : β → Prop} {g : Nat → Int → Option β}, ¬ streq s (ByteArray.mk #[]) = true → (∀ a, Tot (fun k => g k a) Q) → Tot (fun k => (rd (bytesOf s) 0).bind (g k)) Q := by
    intro β Q g hne hg
    refine .read ⟨by decide, ?_⟩ fun a _ => hg a
    rw [hl]
    by_cases h0 : s.size = 0
    · exfalso
      refine hne (streq_iff.2 ?_)
      cases s with
      | mk d =>
        have hd : d.size = 0 := h0
        have := Array.size_eq_zero_iff.1 hd
        rw [this]
    · omega
  refine .bind (P := fun b => b = false → ¬ streq s (ByteArray.mk #[]) = true) (.cnd (fun _ => .ret (fun h => by cases h)) (fun h => ?_)) fun t16 h16 => .bind (P := fun _ => True) (.cnd (fun _ => .ret trivial) (fun h => at0 (h16 h) fun a => .ret trivial)) fun t21 _ => .cnd (fun _ => .ret trivial) fun _ => .joinT ?_ (fun _ => .ret trivial)
  · have hne : ¬ streq s (ByteArray.mk #[]) = true := by
      intro h2
      rw [h2] at h
      cases h
    exact at0 hne fun a => .ret (fun _ => hne)
  · refine Tot.walk (body := fun k => Name36.l0 k s) (bytesOf s) (fun (_ : Unit) i => ((), i, bytesOf s)) (fun _ => True) _ (fun i x b hx _ => ?_) (fun b _ => ?_) (b := ()) trivial
    · have hi := get_lt hx
      simp only [Name36.l0]
      refine .cnd (fun _ => .val (rd_some' hx) (.val (rd_some' hx) (.cnd (fun _ => .ret trivial) (fun _ => .ret ⟨(), ?_, trivial⟩)))) (fun h => absurd (of_decide_eq_false h) (by omega))
      rw [w64_id (by omega) (by omega)]
    · simp only [Name36.l0]
      exact .cnd (fun h => absurd (of_decide_eq_true h) (by omega)) (fun _ => .ret trivial)
theorem size_t (m : Int) : Tot (fun k => Size37 k m) (fun _ => True) := by unfold Size37; repeat' (first | with_reducible exact Tot.ret trivial | with_reducible refine Tot.cnd ?_ ?_ | with_reducible refine Tot.bindT ?_ ?_ | with_reducible refine Tot.prodT ?_ | intro _ | (dsimp only))
theorem reg_t (m : Int) : Tot (fun k => register103 k m) (fun _ => True) := by unfold register103; repeat' (first | with_reducible exact Tot.ret trivial | with_reducible refine Tot.cnd ?_ ?_ | with_reducible refine Tot.bindT ?_ ?_ | with_reducible refine Tot.prodT ?_ | intro _ | (dsimp only))
theorem uses_t (m : Int) : Tot (fun k => uses120 k m) (fun _ => True) := by unfold uses120; repeat' (first | with_reducible exact Tot.ret trivial | with_reducible refine Tot.cnd ?_ ?_ | with_reducible refine Tot.bindT ?_ ?_ | with_reducible refine Tot.prodT ?_ | intro _ | (dsimp only))
theorem wide_tt (r : Int) : Tot (fun k => Wide104 k r) (fun _ => True) := (wide_t r).any
theorem fits_t (r n : Int) : Tot (fun k => fits121 k r n) (fun _ => True) := by unfold fits121; repeat' (first | with_reducible exact Tot.ret trivial | with_reducible refine Tot.bindT (reg_t _) ?_ | with_reducible refine Tot.bindT (wide_tt _) ?_ | with_reducible refine Tot.cnd ?_ ?_ | with_reducible refine Tot.bindT ?_ ?_ | with_reducible refine Tot.prodT ?_ | intro _ | (dsimp only))
theorem step_t (s : Stp4) : Tot (fun k => step105 k s) (fun _ => True) := by unfold step105; repeat' (first | with_reducible exact Tot.ret trivial | with_reducible refine Tot.bindT (uses_t _) ?_ | with_reducible refine Tot.bindT (reg_t _) ?_ | with_reducible refine Tot.bindT (wide_tt _) ?_ | with_reducible refine Tot.bindT (fits_t _ _) ?_ | with_reducible refine Tot.cnd ?_ ?_ | with_reducible refine Tot.bindT ?_ ?_ | with_reducible refine Tot.prodT ?_ | intro _ | (dsimp only))
theorem cycle_t (c : Cyc) (h : c.2.2.2.length * 32 ≤ 140737488351232) : Tot (fun k => cycle76 k c) (fun _ => True) := by
  unfold cycle76
  refine .cnd (fun _ => .ret trivial) fun _ => .cnd (fun _ => .ret trivial) fun _ => .bindT (.cnd (fun _ => .ret trivial) fun _ => .bindT (reg_t _) fun _ => .ret trivial) fun _ => .bindT (.cnd (fun _ => .ret trivial) fun _ => .bindT (wide_tt _) fun _ => .ret trivial) fun _ => .cnd (fun _ => .ret trivial) fun _ => .cnd (fun _ => .ret trivial) fun _ => .joinT ?_ (fun _ => .ret trivial)
  refine Tot.walk (body := fun k => cycle76.l0 k c) c.2.2.2 (fun (_ : Unit) i => i) (fun _ => True) _ (fun i x b hx _ => ?_) (fun b _ => ?_) (b := ()) trivial
  · have hi := get_lt hx
    simp only [cycle76.l0]
    refine .cnd (fun _ => .val (rd_some' hx) (.bindT (step_t x) fun v => .cnd (fun _ => .ret trivial) (fun _ => .ret ⟨(), ?_, trivial⟩))) (fun h => absurd (of_decide_eq_false h) (by omega))
    rw [w64_id (by omega) (by omega)]
  · simp only [cycle76.l0]
    exact .cnd (fun h => absurd (of_decide_eq_true h) (by omega)) (fun _ => .ret trivial)
theorem cycs_t {l : List Cyc} (h : Wcyc l) : Tot (fun k => cycles40 k l) (fun _ => True) := by
  have hl := h.1
  unfold cycles40
  refine .cnd (fun _ => .ret trivial) fun _ => .joinT ?_ (fun _ => .ret trivial)
  refine Tot.walk (body := fun k => cycles40.l0 k l) l (fun (_ : Unit) i => i) (fun _ => True) _ (fun i x b hx _ => ?_) (fun b _ => ?_) (b := ()) trivial
  · have hi := get_lt hx
    simp only [cycles40.l0]
    refine .cnd (fun _ => .val (rd_some' hx) (.bindT (cycle_t x (h.2 x (get_mem hx))) fun v => .cnd (fun _ => .ret trivial) (fun _ => .ret ⟨(), ?_, trivial⟩))) (fun h => absurd (of_decide_eq_false h) (by omega))
    rw [w64_id (by omega) (by omega)]
  · simp only [cycles40.l0]
    exact .cnd (fun h => absurd (of_decide_eq_true h) (by omega)) (fun _ => .ret trivial)
theorem operand_t {l : List Cyc} (h : Wcyc l) : Tot (fun k => operand41 k l) (fun _ => True) := by
  have hl := h.1
  unfold operand41
  refine .bindT ?_ fun _ => .ret trivial
  refine Tot.walk (body := fun k => operand41.l0 k l) l (fun (n : Int) i => (n, i)) (fun _ => True) _ (fun i x b hx _ => ?_) (fun b _ => ?_) (b := 0) trivial
  · have hi := get_lt hx
    simp only [operand41.l0]
    refine .cnd (fun _ => .val (rd_some' hx) (.bindT (.cnd (fun _ => .ret trivial) (fun _ => .ret trivial)) fun n => .ret ⟨n, ?_, trivial⟩)) (fun h => absurd (of_decide_eq_false h) (by omega))
    rw [w64_id (by omega) (by omega)]
  · simp only [operand41.l0]
    exact .cnd (fun h => absurd (of_decide_eq_true h) (by omega)) (fun _ => .ret trivial)
theorem there_t {s : List Ins} (h : s.length * 56 ≤ 140737488351232) (f : Ins) : Tot (fun k => ContainsFunc38 k s (f, ())) (fun _ => True) := by
  unfold ContainsFunc38 IndexFunc50''
  refine .bindT (.joinT ?_ (fun _ => .ret trivial)) fun _ => .ret trivial
  refine Tot.walk (body := fun k => IndexFunc50''.l0 k s) s (fun (_ : Unit) i => ((f, ()), i)) (fun _ => True) _ (fun i x b hx _ => ?_) (fun b _ => ?_) (b := ()) trivial
  · have hi := get_lt hx
    simp only [IndexFunc50''.l0]
    refine .cnd (fun _ => .val (rd_some' hx) (.bindT (by unfold Check139; exact .ret trivial) fun v => .cnd (fun _ => .ret trivial) (fun _ => .ret ⟨(), ?_, trivial⟩))) (fun h => absurd (of_decide_eq_false h) (by omega))
    rw [w64_id (by omega) (by omega)]
  · simp only [IndexFunc50''.l0]
    exact .cnd (fun h => absurd (of_decide_eq_true h) (by omega)) (fun _ => .ret trivial)
theorem size_in {m : Int} (h : 0 ≤ m ∧ m ≤ 8) : ∃ n : Nat, n ≤ 2 ∧ Ev (fun k => Size37 k m) ((n : Int), ()) ∧ rd ([0, 1, 1, 1, 2, 2, 2, 1, 1] : List Int) m = some (n : Int) := by
  have : m = 0 ∨ m = 1 ∨ m = 2 ∨ m = 3 ∨ m = 4 ∨ m = 5 ∨ m = 6 ∨ m = 7 ∨ m = 8 := by omega
  rcases this with rfl | rfl | rfl | rfl | rfl | rfl | rfl | rfl | rfl
  · exact ⟨0, by decide, .const rfl, rfl⟩
  · exact ⟨1, by decide, .const rfl, rfl⟩
  · exact ⟨1, by decide, .const rfl, rfl⟩
  · exact ⟨1, by decide, .const rfl, rfl⟩
  · exact ⟨2, by decide, .const rfl, rfl⟩
  · exact ⟨2, by decide, .const rfl, rfl⟩
  · exact ⟨2, by decide, .const rfl, rfl⟩
  · exact ⟨1, by decide, .const rfl, rfl⟩
  · exact ⟨1, by decide, .const rfl, rfl⟩
theorem size_out {m : Int} (h : ¬ (0 ≤ m ∧ m ≤ 8)) : Ev (fun k => Size37 k m) (-1, ()) := by
  have f : ∀ c : Int, 0 ≤ c ∧ c ≤ 8 → (m == c) = false := fun c hc => by simpa using (by omega : ¬ m = c)
  have h0 := f 0 (by decide)
  have h1 := f 1 (by decide)
  have h2 := f 2 (by decide)
  have h3 := f 3 (by decide)
  have h4 := f 4 (by decide)
  have h5 := f 5 (by decide)
  have h6 := f 6 (by decide)
  have h7 := f 7 (by decide)
  have h8 := f 8 (by decide)
  unfold Size37
  simp only [h0, h1, h2, h3, h4, h5, h6, h7, h8]
  exact .const rfl
theorem size_tt (m : Int) : Tot (fun k => Size37 k m) (fun v => 0 ≤ v.1 → 0 ≤ m ∧ m ≤ 8) := by
  by_cases h : 0 ≤ m ∧ m ≤ 8
  · obtain ⟨n, _, e, _⟩ := size_in h
    exact .of e fun _ => h
  · exact .of (size_out h) fun h => absurd h (by decide)
theorem check_t {c : Cpu} (hc : Wc c) (hn : Wn c) : Tot (fun k => Check18 k c) (fun v => v.1 = 0 → ∀ x ∈ c.2.1, 0 ≤ x.2.2.1 ∧ x.2.2.1 ≤ 8) := by
  have hl := hc.len
  unfold Check18
  refine .bindT (name_t _ hn.1) fun _ => .cnd (fun _ => .ret (fun h => by cases h)) fun _ => .cnd (fun _ => .ret (fun h => by cases h)) fun _ => .join (P := fun y => match y with | .inl y => y = c ∧ ∀ x ∈ c.2.1, 0 ≤ x.2.2.1 ∧ x.2.2.1 ≤ 8 | .inr v => v.1 ≠ 0) ?_ (fun c2 h2 => ?_) (fun _ h h0 => absurd h0 h)
  · refine Tot.walkI (body := fun k => Check18.l0 k c) c.2.1 (fun (_ : Unit) i => (c, i)) (fun i _ => ∀ (j : Nat) x, j < i → c.2.1[j]? = some x → 0 ≤ x.2.2.1 ∧ x.2.2.1 ≤ 8) _ (fun i x b hx hI => ?_) (fun b hI => ?_) (b := ()) (fun j x hj => absurd hj (Nat.not_lt_zero _))
    · have hi := get_lt hx
      have hm := get_mem hx
      simp only [Check18.l0]
      refine .cnd (fun _ => .val (rd_some' hx) (.cnd (fun _ => .ret (show (1 : Int) ≠ 0 by decide)) fun _ => .bindT (.cnd (fun h => ?_) (fun _ => .ret trivial)) fun _ => .cnd (fun _ => .ret (show (9 : Int) ≠ 0 by decide)) fun _ => .bindT (name_t _ (hn.2 x hm)) fun _ => .cnd (fun _ => .ret (show (15 : Int) ≠ 0 by decide)) fun _ => .bind (size_tt _) fun sz hsz => .cnd (fun _ => .ret (show (8 : Int) ≠ 0 by decide)) fun hneg =>
        .val (a := (c.2.1.take i).drop 0) (slc_ok (a := 0) (Nat.zero_le _) (by omega)) (.bindT (there_t (by rw [List.drop_zero, List.length_take]; omega) x) fun _ => .cnd (fun _ => .ret (show (5 : Int) ≠ 0 by decide)) fun _ => .bindT (cycs_t (hc.ins x hm)) fun cy => .cnd (fun hcy => .ret (by simpa using hcy)) fun _ => .bindT (operand_t (hc.ins x hm)) fun _ => .bindT (size_t _) fun _ => .cnd (fun _ => .ret (show (3 : Int) ≠ 0 by decide)) fun _ => .ret ⟨(), ?_, fun j y hj hy => ?_⟩))) (fun h => absurd (of_decide_eq_false h) (by omega))
      · have h := of_decide_eq_true h
        rw [w64_id (by omega) (by omega)]
        exact .read ⟨by omega, by omega⟩ fun a _ => .ret trivial
      · rw [w64_id (by omega) (by omega)]
      · by_cases hji : j = i
        · subst hji
          rw [hx] at hy
          cases hy
          have := of_decide_eq_false hneg
          exact hsz (by omega)
        · exact hI j y (by omega) hy
    · simp only [Check18.l0]
      refine .cnd (fun h => absurd (of_decide_eq_true h) (by omega)) (fun _ => .ret ⟨rfl, fun x hx => ?_⟩)
      obtain ⟨j, hj⟩ := List.mem_iff_getElem?.1 hx
      exact hI j x (get_lt hj) hj
  · obtain ⟨h2, hmode⟩ := h2
    subst h2
    refine .join (P := fun y => match y with | .inl _ => True | .inr v => v.1 ≠ 0) ?_ (fun _ _ => .ret fun _ => hmode) (fun _ h h0 => absurd h0 h)
    refine Tot.walk (body := fun k => Check18.l1 k c2) [c2.2.2.1, c2.2.2.2.1, c2.2.2.2.2] (fun (_ : Unit) i => ((), i, [c2.2.2.1, c2.2.2.2.1, c2.2.2.2.2])) (fun _ => True) _ (fun i x b hx _ => ?_) (fun b _ => ?_) (b := ()) trivial
    · have hi : i < 3 := get_lt hx
      have hw : Wcyc x := by
        have hm := get_mem hx
        simp only [List.mem_cons, List.not_mem_nil, or_false] at hm
        rcases hm with rfl | rfl | rfl
        · exact hc.res
        · exact hc.irq
        · exact hc.nmi
      simp only [Check18.l1]
      refine .cnd (fun _ => .val (rd_some' hx) (.val (rd_some' hx) (.bindT (cycs_t hw) fun v => .cnd (fun hv => .ret (by simpa using hv)) (fun _ => .ret ⟨(), ?_, trivial⟩)))) (fun h => absurd (of_decide_eq_false h) (by show ¬ ¬ (i : Int) < ((3 : Nat) : Int); omega))
      rw [w64_id (by omega) (by omega)]
    · simp only [Check18.l1]
      exact .cnd (fun h => absurd (of_decide_eq_true h) (by show ¬ ((3 : Nat) : Int) < ((3 : Nat) : Int); omega)) (fun _ => .ret trivial)
end Go.Proofs.Ytcppmlgnceldmaa.Ge

/- More fuel, no other answer: the functions. Printed by mono.py. -/
set_option linter.unusedVariables false
set_option maxRecDepth 100000
noncomputable section
namespace Go.Proofs.Ytcppmlgnceldmaa.Ge
open Go Go.Proofs.Ytcppmlgnceldmaa.Gp
theorem two99.mono : ∀ a0_ a1_ a2_, Mono (fun k => two99 k a0_ a1_ a2_) := by
  intro a0_ a1_ a2_
  unfold two99
  repeat' (first | exact Mono.const _ | with_reducible refine Mono.cond ?_ ?_ | with_reducible refine Mono.orNil ?_ ?_ | with_reducible refine Mono.agree ?_ ?_ | with_reducible refine Mono.joined ?_ ?_ | with_reducible refine Mono.bind ?_ ?_ | with_reducible refine Mono.loop ?_ | with_reducible refine Mono.prod ?_ | intro _ | (dsimp only))

theorem one100.mono : ∀ a0_ a1_, Mono (fun k => one100 k a0_ a1_) := by
  intro a0_ a1_
  unfold one100
  repeat' (first | exact Mono.const _ | with_reducible refine Mono.cond ?_ ?_ | with_reducible refine Mono.orNil ?_ ?_ | with_reducible refine Mono.agree ?_ ?_ | with_reducible refine Mono.joined ?_ ?_ | with_reducible refine Mono.bind ?_ ?_ | with_reducible refine Mono.loop ?_ | with_reducible refine Mono.prod ?_ | intro _ | (dsimp only))

theorem zero131.mono : Mono (fun k => zero131 k) := by
  unfold zero131
  repeat' (first | exact Mono.const _ | with_reducible refine Mono.cond ?_ ?_ | with_reducible refine Mono.orNil ?_ ?_ | with_reducible refine Mono.agree ?_ ?_ | with_reducible refine Mono.joined ?_ ?_ | with_reducible refine Mono.bind ?_ ?_ | with_reducible refine Mono.loop ?_ | with_reducible refine Mono.prod ?_ | intro _ | (dsimp only))

theorem rd72.mono : ∀ a0_ a1_ a2_ a3_, Mono (fun k => rd72 k a0_ a1_ a2_ a3_) := by
  intro a0_ a1_ a2_ a3_
  unfold rd72
  repeat' (first | exact Mono.const _ | with_reducible refine Mono.cond ?_ ?_ | with_reducible refine Mono.orNil ?_ ?_ | with_reducible refine Mono.agree ?_ ?_ | with_reducible refine Mono.joined ?_ ?_ | with_reducible refine Mono.bind ?_ ?_ | with_reducible refine Mono.loop ?_ | with_reducible refine Mono.prod ?_ | intro _ | (dsimp only))

theorem no98.mono : ∀ a0_, Mono (fun k => no98 k a0_) := by
  intro a0_
  unfold no98
  repeat' (first | exact Mono.const _ | with_reducible refine Mono.cond ?_ ?_ | with_reducible refine Mono.orNil ?_ ?_ | with_reducible refine Mono.agree ?_ ?_ | with_reducible refine Mono.joined ?_ ?_ | with_reducible refine Mono.bind ?_ ?_ | with_reducible refine Mono.loop ?_ | with_reducible refine Mono.prod ?_ | intro _ | (dsimp only))

theorem rd72'.mono : ∀ a0_ a1_ a2_, Mono (fun k => rd72' k a0_ a1_ a2_) := by
  intro a0_ a1_ a2_
  unfold rd72'
  repeat' (first | exact Mono.const _ | with_reducible refine Mono.cond ?_ ?_ | with_reducible refine Mono.orNil ?_ ?_ | with_reducible refine Mono.agree ?_ ?_ | with_reducible refine Mono.joined ?_ ?_ | with_reducible refine Mono.bind ?_ ?_ | with_reducible refine Mono.loop ?_ | with_reducible refine Mono.prod ?_ | intro _ | (dsimp only))

theorem jump73.mono : ∀ a0_, Mono (fun k => jump73 k a0_) := by
  intro a0_
  unfold jump73
  repeat' (first | exact Mono.const _ | with_reducible exact two99.mono _ _ _ | with_reducible refine Mono.cond ?_ ?_ | with_reducible refine Mono.orNil ?_ ?_ | with_reducible refine Mono.agree ?_ ?_ | with_reducible refine Mono.joined ?_ ?_ | with_reducible refine Mono.bind ?_ ?_ | with_reducible refine Mono.loop ?_ | with_reducible refine Mono.prod ?_ | intro _ | (dsimp only))

theorem lead119.mono : ∀ a0_, Mono (fun k => lead119 k a0_) := by
  intro a0_
  unfold lead119
  repeat' (first | exact Mono.const _ | with_reducible exact two99.mono _ _ _ | with_reducible exact zero131.mono | with_reducible exact rd72.mono _ _ _ _ | with_reducible exact no98.mono _ | with_reducible exact rd72'.mono _ _ _ | with_reducible exact jump73.mono _ | with_reducible refine Mono.cond ?_ ?_ | with_reducible refine Mono.orNil ?_ ?_ | with_reducible refine Mono.agree ?_ ?_ | with_reducible refine Mono.joined ?_ ?_ | with_reducible refine Mono.bind ?_ ?_ | with_reducible refine Mono.loop ?_ | with_reducible refine Mono.prod ?_ | intro _ | (dsimp only))

theorem rd72''.mono : ∀ a0_ a1_ a2_, Mono (fun k => rd72'' k a0_ a1_ a2_) := by
  intro a0_ a1_ a2_
  unfold rd72''
  repeat' (first | exact Mono.const _ | with_reducible refine Mono.cond ?_ ?_ | with_reducible refine Mono.orNil ?_ ?_ | with_reducible refine Mono.agree ?_ ?_ | with_reducible refine Mono.joined ?_ ?_ | with_reducible refine Mono.bind ?_ ?_ | with_reducible refine Mono.loop ?_ | with_reducible refine Mono.prod ?_ | intro _ | (dsimp only))

theorem reads118.mono : ∀ a0_ a1_, Mono (fun k => reads118 k a0_ a1_) := by
  intro a0_ a1_
  unfold reads118
  repeat' (first | exact Mono.const _ | with_reducible exact lead119.mono _ | with_reducible exact rd72''.mono _ _ _ | with_reducible refine Mono.cond ?_ ?_ | with_reducible refine Mono.orNil ?_ ?_ | with_reducible refine Mono.agree ?_ ?_ | with_reducible refine Mono.joined ?_ ?_ | with_reducible refine Mono.bind ?_ ?_ | with_reducible refine Mono.loop ?_ | with_reducible refine Mono.prod ?_ | intro _ | (dsimp only))

theorem add97.mono : ∀ a0_ a1_ a2_ a3_ a4_, Mono (fun k => add97 k a0_ a1_ a2_ a3_ a4_) := by
  intro a0_ a1_ a2_ a3_ a4_
  unfold add97
  repeat' (first | exact Mono.const _ | with_reducible refine Mono.cond ?_ ?_ | with_reducible refine Mono.orNil ?_ ?_ | with_reducible refine Mono.agree ?_ ?_ | with_reducible refine Mono.joined ?_ ?_ | with_reducible refine Mono.bind ?_ ?_ | with_reducible refine Mono.loop ?_ | with_reducible refine Mono.prod ?_ | intro _ | (dsimp only))

theorem add97'.mono : ∀ a0_ a1_ a2_ a3_ a4_ a5_, Mono (fun k => add97' k a0_ a1_ a2_ a3_ a4_ a5_) := by
  intro a0_ a1_ a2_ a3_ a4_ a5_
  unfold add97'
  repeat' (first | exact Mono.const _ | with_reducible refine Mono.cond ?_ ?_ | with_reducible refine Mono.orNil ?_ ?_ | with_reducible refine Mono.agree ?_ ?_ | with_reducible refine Mono.joined ?_ ?_ | with_reducible refine Mono.bind ?_ ?_ | with_reducible refine Mono.loop ?_ | with_reducible refine Mono.prod ?_ | intro _ | (dsimp only))

theorem loads93.l0.mono : ∀ a0_ a1_ a2_, ∀ s, Mono (fun k => loads93.l0 k a0_ a1_ a2_ s) := by
  intro a0_ a1_ a2_
  unfold loads93.l0
  repeat' (first | exact Mono.const _ | with_reducible exact two99.mono _ _ _ | with_reducible exact one100.mono _ _ | with_reducible exact reads118.mono _ _ | with_reducible exact add97'.mono _ _ _ _ _ _ | with_reducible refine Mono.cond ?_ ?_ | with_reducible refine Mono.orNil ?_ ?_ | with_reducible refine Mono.agree ?_ ?_ | with_reducible refine Mono.joined ?_ ?_ | with_reducible refine Mono.bind ?_ ?_ | with_reducible refine Mono.loop ?_ | with_reducible refine Mono.prod ?_ | intro _ | (dsimp only))

theorem loads93.mono : ∀ a0_ a1_ a2_ a3_ a4_, Mono (fun k => loads93 k a0_ a1_ a2_ a3_ a4_) := by
  intro a0_ a1_ a2_ a3_ a4_
  unfold loads93
  repeat' (first | exact Mono.const _ | with_reducible exact loads93.l0.mono _ _ _ | with_reducible refine Mono.cond ?_ ?_ | with_reducible refine Mono.orNil ?_ ?_ | with_reducible refine Mono.agree ?_ ?_ | with_reducible refine Mono.joined ?_ ?_ | with_reducible refine Mono.bind ?_ ?_ | with_reducible refine Mono.loop ?_ | with_reducible refine Mono.prod ?_ | intro _ | (dsimp only))

theorem loads93'.l0.mono : ∀ a0_ a1_ a2_, ∀ s, Mono (fun k => loads93'.l0 k a0_ a1_ a2_ s) := by
  intro a0_ a1_ a2_
  unfold loads93'.l0
  repeat' (first | exact Mono.const _ | with_reducible exact two99.mono _ _ _ | with_reducible exact one100.mono _ _ | with_reducible exact reads118.mono _ _ | with_reducible exact add97'.mono _ _ _ _ _ _ | with_reducible refine Mono.cond ?_ ?_ | with_reducible refine Mono.orNil ?_ ?_ | with_reducible refine Mono.agree ?_ ?_ | with_reducible refine Mono.joined ?_ ?_ | with_reducible refine Mono.bind ?_ ?_ | with_reducible refine Mono.loop ?_ | with_reducible refine Mono.prod ?_ | intro _ | (dsimp only))

theorem loads93'.mono : ∀ a0_ a1_ a2_ a3_ a4_ a5_, Mono (fun k => loads93' k a0_ a1_ a2_ a3_ a4_ a5_) := by
  intro a0_ a1_ a2_ a3_ a4_ a5_
  unfold loads93'
  repeat' (first | exact Mono.const _ | with_reducible exact loads93'.l0.mono _ _ _ | with_reducible refine Mono.cond ?_ ?_ | with_reducible refine Mono.orNil ?_ ?_ | with_reducible refine Mono.agree ?_ ?_ | with_reducible refine Mono.joined ?_ ?_ | with_reducible refine Mono.bind ?_ ?_ | with_reducible refine Mono.loop ?_ | with_reducible refine Mono.prod ?_ | intro _ | (dsimp only))

theorem wr101.mono : ∀ a0_ a1_ a2_, Mono (fun k => wr101 k a0_ a1_ a2_) := by
  intro a0_ a1_ a2_
  unfold wr101
  repeat' (first | exact Mono.const _ | with_reducible refine Mono.cond ?_ ?_ | with_reducible refine Mono.orNil ?_ ?_ | with_reducible refine Mono.agree ?_ ?_ | with_reducible refine Mono.joined ?_ ?_ | with_reducible refine Mono.bind ?_ ?_ | with_reducible refine Mono.loop ?_ | with_reducible refine Mono.prod ?_ | intro _ | (dsimp only))

theorem stores94.l0.mono : ∀ a0_ a1_ a2_, ∀ s, Mono (fun k => stores94.l0 k a0_ a1_ a2_ s) := by
  intro a0_ a1_ a2_
  unfold stores94.l0
  repeat' (first | exact Mono.const _ | with_reducible exact lead119.mono _ | with_reducible exact add97'.mono _ _ _ _ _ _ | with_reducible exact wr101.mono _ _ _ | with_reducible refine Mono.cond ?_ ?_ | with_reducible refine Mono.orNil ?_ ?_ | with_reducible refine Mono.agree ?_ ?_ | with_reducible refine Mono.joined ?_ ?_ | with_reducible refine Mono.bind ?_ ?_ | with_reducible refine Mono.loop ?_ | with_reducible refine Mono.prod ?_ | intro _ | (dsimp only))

theorem stores94.mono : ∀ a0_ a1_ a2_ a3_ a4_ a5_, Mono (fun k => stores94 k a0_ a1_ a2_ a3_ a4_ a5_) := by
  intro a0_ a1_ a2_ a3_ a4_ a5_
  unfold stores94
  repeat' (first | exact Mono.const _ | with_reducible exact stores94.l0.mono _ _ _ | with_reducible refine Mono.cond ?_ ?_ | with_reducible refine Mono.orNil ?_ ?_ | with_reducible refine Mono.agree ?_ ?_ | with_reducible refine Mono.joined ?_ ?_ | with_reducible refine Mono.bind ?_ ?_ | with_reducible refine Mono.loop ?_ | with_reducible refine Mono.prod ?_ | intro _ | (dsimp only))

theorem joins95.l0.mono : ∀ a0_ a1_ a2_ a3_, ∀ s, Mono (fun k => joins95.l0 k a0_ a1_ a2_ a3_ s) := by
  intro a0_ a1_ a2_ a3_
  unfold joins95.l0
  repeat' (first | exact Mono.const _ | with_reducible exact two99.mono _ _ _ | with_reducible exact reads118.mono _ _ | with_reducible exact add97'.mono _ _ _ _ _ _ | with_reducible refine Mono.cond ?_ ?_ | with_reducible refine Mono.orNil ?_ ?_ | with_reducible refine Mono.agree ?_ ?_ | with_reducible refine Mono.joined ?_ ?_ | with_reducible refine Mono.bind ?_ ?_ | with_reducible refine Mono.loop ?_ | with_reducible refine Mono.prod ?_ | intro _ | (dsimp only))

theorem joins95.mono : ∀ a0_ a1_ a2_ a3_ a4_ a5_ a6_, Mono (fun k => joins95 k a0_ a1_ a2_ a3_ a4_ a5_ a6_) := by
  intro a0_ a1_ a2_ a3_ a4_ a5_ a6_
  unfold joins95
  repeat' (first | exact Mono.const _ | with_reducible exact joins95.l0.mono _ _ _ _ | with_reducible refine Mono.cond ?_ ?_ | with_reducible refine Mono.orNil ?_ ?_ | with_reducible refine Mono.agree ?_ ?_ | with_reducible refine Mono.joined ?_ ?_ | with_reducible refine Mono.bind ?_ ?_ | with_reducible refine Mono.loop ?_ | with_reducible refine Mono.prod ?_ | intro _ | (dsimp only))

theorem turns96.l0.mono : ∀ a0_ a1_ a2_, ∀ s, Mono (fun k => turns96.l0 k a0_ a1_ a2_ s) := by
  intro a0_ a1_ a2_
  unfold turns96.l0
  repeat' (first | exact Mono.const _ | with_reducible exact one100.mono _ _ | with_reducible exact no98.mono _ | with_reducible exact lead119.mono _ | with_reducible exact rd72''.mono _ _ _ | with_reducible exact add97'.mono _ _ _ _ _ _ | with_reducible exact wr101.mono _ _ _ | with_reducible refine Mono.cond ?_ ?_ | with_reducible refine Mono.orNil ?_ ?_ | with_reducible refine Mono.agree ?_ ?_ | with_reducible refine Mono.joined ?_ ?_ | with_reducible refine Mono.bind ?_ ?_ | with_reducible refine Mono.loop ?_ | with_reducible refine Mono.prod ?_ | intro _ | (dsimp only))

theorem turns96.mono : ∀ a0_ a1_ a2_ a3_ a4_ a5_, Mono (fun k => turns96 k a0_ a1_ a2_ a3_ a4_ a5_) := by
  intro a0_ a1_ a2_ a3_ a4_ a5_
  unfold turns96
  repeat' (first | exact Mono.const _ | with_reducible exact turns96.l0.mono _ _ _ | with_reducible refine Mono.cond ?_ ?_ | with_reducible refine Mono.orNil ?_ ?_ | with_reducible refine Mono.agree ?_ ?_ | with_reducible refine Mono.joined ?_ ?_ | with_reducible refine Mono.bind ?_ ?_ | with_reducible refine Mono.loop ?_ | with_reducible refine Mono.prod ?_ | intro _ | (dsimp only))

theorem memory69.l0.mono : ∀ s, Mono (fun k => memory69.l0 k s) := by
  unfold memory69.l0
  repeat' (first | exact Mono.const _ | with_reducible exact joins95.mono _ _ _ _ _ _ _ | with_reducible refine Mono.cond ?_ ?_ | with_reducible refine Mono.orNil ?_ ?_ | with_reducible refine Mono.agree ?_ ?_ | with_reducible refine Mono.joined ?_ ?_ | with_reducible refine Mono.bind ?_ ?_ | with_reducible refine Mono.loop ?_ | with_reducible refine Mono.prod ?_ | intro _ | (dsimp only))

theorem memory69.mono : ∀ a0_ a1_, Mono (fun k => memory69 k a0_ a1_) := by
  intro a0_ a1_
  unfold memory69
  repeat' (first | exact Mono.const _ | with_reducible exact loads93.mono _ _ _ _ _ | with_reducible exact loads93'.mono _ _ _ _ _ _ | with_reducible exact stores94.mono _ _ _ _ _ _ | with_reducible exact joins95.mono _ _ _ _ _ _ _ | with_reducible exact turns96.mono _ _ _ _ _ _ | with_reducible exact memory69.l0.mono | with_reducible refine Mono.cond ?_ ?_ | with_reducible refine Mono.orNil ?_ ?_ | with_reducible refine Mono.agree ?_ ?_ | with_reducible refine Mono.joined ?_ ?_ | with_reducible refine Mono.bind ?_ ?_ | with_reducible refine Mono.loop ?_ | with_reducible refine Mono.prod ?_ | intro _ | (dsimp only))

theorem alone70.l0.mono : ∀ s, Mono (fun k => alone70.l0 k s) := by
  unfold alone70.l0
  repeat' (first | exact Mono.const _ | with_reducible exact two99.mono _ _ _ | with_reducible exact one100.mono _ _ | with_reducible exact no98.mono _ | with_reducible exact add97'.mono _ _ _ _ _ _ | with_reducible refine Mono.cond ?_ ?_ | with_reducible refine Mono.orNil ?_ ?_ | with_reducible refine Mono.agree ?_ ?_ | with_reducible refine Mono.joined ?_ ?_ | with_reducible refine Mono.bind ?_ ?_ | with_reducible refine Mono.loop ?_ | with_reducible refine Mono.prod ?_ | intro _ | (dsimp only))

theorem alone70.mono : ∀ a0_ a1_ a2_, Mono (fun k => alone70 k a0_ a1_ a2_) := by
  intro a0_ a1_ a2_
  unfold alone70
  repeat' (first | exact Mono.const _ | with_reducible exact two99.mono _ _ _ | with_reducible exact one100.mono _ _ | with_reducible exact no98.mono _ | with_reducible exact rd72''.mono _ _ _ | with_reducible exact add97'.mono _ _ _ _ _ _ | with_reducible exact wr101.mono _ _ _ | with_reducible exact alone70.l0.mono | with_reducible refine Mono.cond ?_ ?_ | with_reducible refine Mono.orNil ?_ ?_ | with_reducible refine Mono.agree ?_ ?_ | with_reducible refine Mono.joined ?_ ?_ | with_reducible refine Mono.bind ?_ ?_ | with_reducible refine Mono.loop ?_ | with_reducible refine Mono.prod ?_ | intro _ | (dsimp only))

theorem jump73'.mono : ∀ a0_, Mono (fun k => jump73' k a0_) := by
  intro a0_
  unfold jump73'
  repeat' (first | exact Mono.const _ | with_reducible exact two99.mono _ _ _ | with_reducible refine Mono.cond ?_ ?_ | with_reducible refine Mono.orNil ?_ ?_ | with_reducible refine Mono.agree ?_ ?_ | with_reducible refine Mono.joined ?_ ?_ | with_reducible refine Mono.bind ?_ ?_ | with_reducible refine Mono.loop ?_ | with_reducible refine Mono.prod ?_ | intro _ | (dsimp only))

theorem ways71.l0.mono : ∀ s, Mono (fun k => ways71.l0 k s) := by
  unfold ways71.l0
  repeat' (first | exact Mono.const _ | with_reducible exact two99.mono _ _ _ | with_reducible exact no98.mono _ | with_reducible exact rd72''.mono _ _ _ | with_reducible exact add97'.mono _ _ _ _ _ _ | with_reducible refine Mono.cond ?_ ?_ | with_reducible refine Mono.orNil ?_ ?_ | with_reducible refine Mono.agree ?_ ?_ | with_reducible refine Mono.joined ?_ ?_ | with_reducible refine Mono.bind ?_ ?_ | with_reducible refine Mono.loop ?_ | with_reducible refine Mono.prod ?_ | intro _ | (dsimp only))

theorem ways71.mono : ∀ a0_ a1_ a2_, Mono (fun k => ways71 k a0_ a1_ a2_) := by
  intro a0_ a1_ a2_
  unfold ways71
  repeat' (first | exact Mono.const _ | with_reducible exact two99.mono _ _ _ | with_reducible exact rd72''.mono _ _ _ | with_reducible exact add97'.mono _ _ _ _ _ _ | with_reducible exact wr101.mono _ _ _ | with_reducible exact jump73'.mono _ | with_reducible exact ways71.l0.mono | with_reducible refine Mono.cond ?_ ?_ | with_reducible refine Mono.orNil ?_ ?_ | with_reducible refine Mono.agree ?_ ?_ | with_reducible refine Mono.joined ?_ ?_ | with_reducible refine Mono.bind ?_ ?_ | with_reducible refine Mono.loop ?_ | with_reducible refine Mono.prod ?_ | intro _ | (dsimp only))

theorem answers74.mono : ∀ a0_ a1_, Mono (fun k => answers74 k a0_ a1_) := by
  intro a0_ a1_
  unfold answers74
  repeat' (first | exact Mono.const _ | with_reducible exact two99.mono _ _ _ | with_reducible exact no98.mono _ | with_reducible exact rd72''.mono _ _ _ | with_reducible exact wr101.mono _ _ _ | with_reducible exact jump73'.mono _ | with_reducible refine Mono.cond ?_ ?_ | with_reducible refine Mono.orNil ?_ ?_ | with_reducible refine Mono.agree ?_ ?_ | with_reducible refine Mono.joined ?_ ?_ | with_reducible refine Mono.bind ?_ ?_ | with_reducible refine Mono.loop ?_ | with_reducible refine Mono.prod ?_ | intro _ | (dsimp only))

theorem Cpu34.mono : Mono (fun k => Cpu34 k) := by
  unfold Cpu34
  repeat' (first | exact Mono.const _ | with_reducible exact jump73.mono _ | with_reducible exact rd72''.mono _ _ _ | with_reducible exact memory69.mono _ _ | with_reducible exact alone70.mono _ _ _ | with_reducible exact ways71.mono _ _ _ | with_reducible exact answers74.mono _ _ | with_reducible refine Mono.cond ?_ ?_ | with_reducible refine Mono.orNil ?_ ?_ | with_reducible refine Mono.agree ?_ ?_ | with_reducible refine Mono.joined ?_ ?_ | with_reducible refine Mono.bind ?_ ?_ | with_reducible refine Mono.loop ?_ | with_reducible refine Mono.prod ?_ | intro _ | (dsimp only))

theorem Named1102.mono : ∀ a0_ a1_ a2_, Mono (fun k => Named1102 k a0_ a1_ a2_) := by
  intro a0_ a1_ a2_
  unfold Named1102
  repeat' (first | exact Mono.const _ | with_reducible refine Mono.cond ?_ ?_ | with_reducible refine Mono.orNil ?_ ?_ | with_reducible refine Mono.agree ?_ ?_ | with_reducible refine Mono.joined ?_ ?_ | with_reducible refine Mono.bind ?_ ?_ | with_reducible refine Mono.loop ?_ | with_reducible refine Mono.prod ?_ | intro _ | (dsimp only))

theorem IndexFunc50.l0.mono : ∀ a0_, ∀ s, Mono (fun k => IndexFunc50.l0 k a0_ s) := by
  intro a0_
  unfold IndexFunc50.l0
  repeat' (first | exact Mono.const _ | with_reducible exact Named1102.mono _ _ _ | with_reducible refine Mono.cond ?_ ?_ | with_reducible refine Mono.orNil ?_ ?_ | with_reducible refine Mono.agree ?_ ?_ | with_reducible refine Mono.joined ?_ ?_ | with_reducible refine Mono.bind ?_ ?_ | with_reducible refine Mono.loop ?_ | with_reducible refine Mono.prod ?_ | intro _ | (dsimp only))

theorem IndexFunc50.mono : ∀ a0_ a1_, Mono (fun k => IndexFunc50 k a0_ a1_) := by
  intro a0_ a1_
  unfold IndexFunc50
  repeat' (first | exact Mono.const _ | with_reducible exact IndexFunc50.l0.mono _ | with_reducible refine Mono.cond ?_ ?_ | with_reducible refine Mono.orNil ?_ ?_ | with_reducible refine Mono.agree ?_ ?_ | with_reducible refine Mono.joined ?_ ?_ | with_reducible refine Mono.bind ?_ ?_ | with_reducible refine Mono.loop ?_ | with_reducible refine Mono.prod ?_ | intro _ | (dsimp only))

theorem Clone129.mono : ∀ a0_, Mono (fun k => Clone129 k a0_) := by
  intro a0_
  unfold Clone129
  repeat' (first | exact Mono.const _ | with_reducible refine Mono.cond ?_ ?_ | with_reducible refine Mono.orNil ?_ ?_ | with_reducible refine Mono.agree ?_ ?_ | with_reducible refine Mono.joined ?_ ?_ | with_reducible refine Mono.bind ?_ ?_ | with_reducible refine Mono.loop ?_ | with_reducible refine Mono.prod ?_ | intro _ | (dsimp only))

theorem Clone130.mono : ∀ a0_, Mono (fun k => Clone130 k a0_) := by
  intro a0_
  unfold Clone130
  repeat' (first | exact Mono.const _ | with_reducible refine Mono.cond ?_ ?_ | with_reducible refine Mono.orNil ?_ ?_ | with_reducible refine Mono.agree ?_ ?_ | with_reducible refine Mono.joined ?_ ?_ | with_reducible refine Mono.bind ?_ ?_ | with_reducible refine Mono.loop ?_ | with_reducible refine Mono.prod ?_ | intro _ | (dsimp only))

theorem copies116.l0.mono : ∀ a0_, ∀ s, Mono (fun k => copies116.l0 k a0_ s) := by
  intro a0_
  unfold copies116.l0
  repeat' (first | exact Mono.const _ | with_reducible exact Clone130.mono _ | with_reducible refine Mono.cond ?_ ?_ | with_reducible refine Mono.orNil ?_ ?_ | with_reducible refine Mono.agree ?_ ?_ | with_reducible refine Mono.joined ?_ ?_ | with_reducible refine Mono.bind ?_ ?_ | with_reducible refine Mono.loop ?_ | with_reducible refine Mono.prod ?_ | intro _ | (dsimp only))

theorem copies116.mono : ∀ a0_, Mono (fun k => copies116 k a0_) := by
  intro a0_
  unfold copies116
  repeat' (first | exact Mono.const _ | with_reducible exact Clone129.mono _ | with_reducible exact copies116.l0.mono _ | with_reducible refine Mono.cond ?_ ?_ | with_reducible refine Mono.orNil ?_ ?_ | with_reducible refine Mono.agree ?_ ?_ | with_reducible refine Mono.joined ?_ ?_ | with_reducible refine Mono.bind ?_ ?_ | with_reducible refine Mono.loop ?_ | with_reducible refine Mono.prod ?_ | intro _ | (dsimp only))

theorem Copy86.mono : ∀ a0_, Mono (fun k => Copy86 k a0_) := by
  intro a0_
  unfold Copy86
  repeat' (first | exact Mono.const _ | with_reducible exact copies116.mono _ | with_reducible refine Mono.cond ?_ ?_ | with_reducible refine Mono.orNil ?_ ?_ | with_reducible refine Mono.agree ?_ ?_ | with_reducible refine Mono.joined ?_ ?_ | with_reducible refine Mono.bind ?_ ?_ | with_reducible refine Mono.loop ?_ | with_reducible refine Mono.prod ?_ | intro _ | (dsimp only))

theorem Named75.mono : ∀ a0_ a1_ a2_, Mono (fun k => Named75 k a0_ a1_ a2_) := by
  intro a0_ a1_ a2_
  unfold Named75
  repeat' (first | exact Mono.const _ | with_reducible exact IndexFunc50.mono _ _ | with_reducible exact Copy86.mono _ | with_reducible refine Mono.cond ?_ ?_ | with_reducible refine Mono.orNil ?_ ?_ | with_reducible refine Mono.agree ?_ ?_ | with_reducible refine Mono.joined ?_ ?_ | with_reducible refine Mono.bind ?_ ?_ | with_reducible refine Mono.loop ?_ | with_reducible refine Mono.prod ?_ | intro _ | (dsimp only))

theorem nop35.mono : Mono (fun k => nop35 k) := by
  unfold nop35
  repeat' (first | exact Mono.const _ | with_reducible exact Cpu34.mono | with_reducible exact Named75.mono _ _ _ | with_reducible refine Mono.cond ?_ ?_ | with_reducible refine Mono.orNil ?_ ?_ | with_reducible refine Mono.agree ?_ ?_ | with_reducible refine Mono.joined ?_ ?_ | with_reducible refine Mono.bind ?_ ?_ | with_reducible refine Mono.loop ?_ | with_reducible refine Mono.prod ?_ | intro _ | (dsimp only))

theorem Wide104.mono : ∀ a0_, Mono (fun k => Wide104 k a0_) := by
  intro a0_
  unfold Wide104
  repeat' (first | exact Mono.const _ | with_reducible refine Mono.cond ?_ ?_ | with_reducible refine Mono.orNil ?_ ?_ | with_reducible refine Mono.agree ?_ ?_ | with_reducible refine Mono.joined ?_ ?_ | with_reducible refine Mono.bind ?_ ?_ | with_reducible refine Mono.loop ?_ | with_reducible refine Mono.prod ?_ | intro _ | (dsimp only))

theorem bits106.mono : ∀ a0_, Mono (fun k => bits106 k a0_) := by
  intro a0_
  unfold bits106
  repeat' (first | exact Mono.const _ | with_reducible exact Wide104.mono _ | with_reducible refine Mono.cond ?_ ?_ | with_reducible refine Mono.orNil ?_ ?_ | with_reducible refine Mono.agree ?_ ?_ | with_reducible refine Mono.joined ?_ ?_ | with_reducible refine Mono.bind ?_ ?_ | with_reducible refine Mono.loop ?_ | with_reducible refine Mono.prod ?_ | intro _ | (dsimp only))

theorem width84.mono : ∀ a0_, Mono (fun k => width84 k a0_) := by
  intro a0_
  unfold width84
  repeat' (first | exact Mono.const _ | with_reducible refine Mono.cond ?_ ?_ | with_reducible refine Mono.orNil ?_ ?_ | with_reducible refine Mono.agree ?_ ?_ | with_reducible refine Mono.joined ?_ ?_ | with_reducible refine Mono.bind ?_ ?_ | with_reducible refine Mono.loop ?_ | with_reducible refine Mono.prod ?_ | intro _ | (dsimp only))

theorem Low47.mono : ∀ a0_ a1_, Mono (fun k => Low47 k a0_ a1_) := by
  intro a0_ a1_
  unfold Low47
  repeat' (first | exact Mono.const _ | with_reducible exact width84.mono _ | with_reducible refine Mono.cond ?_ ?_ | with_reducible refine Mono.orNil ?_ ?_ | with_reducible refine Mono.agree ?_ ?_ | with_reducible refine Mono.joined ?_ ?_ | with_reducible refine Mono.bind ?_ ?_ | with_reducible refine Mono.loop ?_ | with_reducible refine Mono.prod ?_ | intro _ | (dsimp only))

theorem Fit77.l0.mono : ∀ s, Mono (fun k => Fit77.l0 k s) := by
  unfold Fit77.l0
  repeat' (first | exact Mono.const _ | with_reducible exact bits106.mono _ | with_reducible exact Low47.mono _ _ | with_reducible refine Mono.cond ?_ ?_ | with_reducible refine Mono.orNil ?_ ?_ | with_reducible refine Mono.agree ?_ ?_ | with_reducible refine Mono.joined ?_ ?_ | with_reducible refine Mono.bind ?_ ?_ | with_reducible refine Mono.loop ?_ | with_reducible refine Mono.prod ?_ | intro _ | (dsimp only))

theorem Fit77.mono : ∀ a0_, Mono (fun k => Fit77 k a0_) := by
  intro a0_
  unfold Fit77
  repeat' (first | exact Mono.const _ | with_reducible exact Fit77.l0.mono | with_reducible refine Mono.cond ?_ ?_ | with_reducible refine Mono.orNil ?_ ?_ | with_reducible refine Mono.agree ?_ ?_ | with_reducible refine Mono.joined ?_ ?_ | with_reducible refine Mono.bind ?_ ?_ | with_reducible refine Mono.loop ?_ | with_reducible refine Mono.prod ?_ | intro _ | (dsimp only))

theorem cycles83.l0.mono : ∀ a0_ a1_, ∀ s, Mono (fun k => cycles83.l0 k a0_ a1_ s) := by
  intro a0_ a1_
  unfold cycles83.l0
  repeat' (first | exact Mono.const _ | with_reducible refine Mono.cond ?_ ?_ | with_reducible refine Mono.orNil ?_ ?_ | with_reducible refine Mono.agree ?_ ?_ | with_reducible refine Mono.joined ?_ ?_ | with_reducible refine Mono.bind ?_ ?_ | with_reducible refine Mono.loop ?_ | with_reducible refine Mono.prod ?_ | intro _ | (dsimp only))

theorem cycles83.mono : ∀ a0_ a1_, Mono (fun k => cycles83 k a0_ a1_) := by
  intro a0_ a1_
  unfold cycles83
  repeat' (first | exact Mono.const _ | with_reducible exact cycles83.l0.mono _ _ | with_reducible refine Mono.cond ?_ ?_ | with_reducible refine Mono.orNil ?_ ?_ | with_reducible refine Mono.agree ?_ ?_ | with_reducible refine Mono.joined ?_ ?_ | with_reducible refine Mono.bind ?_ ?_ | with_reducible refine Mono.loop ?_ | with_reducible refine Mono.prod ?_ | intro _ | (dsimp only))

theorem start78.l0.mono : ∀ a0_, ∀ s, Mono (fun k => start78.l0 k a0_ s) := by
  intro a0_
  unfold start78.l0
  repeat' (first | exact Mono.const _ | with_reducible exact cycles83.mono _ _ | with_reducible refine Mono.cond ?_ ?_ | with_reducible refine Mono.orNil ?_ ?_ | with_reducible refine Mono.agree ?_ ?_ | with_reducible refine Mono.joined ?_ ?_ | with_reducible refine Mono.bind ?_ ?_ | with_reducible refine Mono.loop ?_ | with_reducible refine Mono.prod ?_ | intro _ | (dsimp only))

theorem start78.mono : ∀ a0_ a1_ a2_, Mono (fun k => start78 k a0_ a1_ a2_) := by
  intro a0_ a1_ a2_
  unfold start78
  repeat' (first | exact Mono.const _ | with_reducible exact start78.l0.mono _ | with_reducible refine Mono.cond ?_ ?_ | with_reducible refine Mono.orNil ?_ ?_ | with_reducible refine Mono.agree ?_ ?_ | with_reducible refine Mono.joined ?_ ?_ | with_reducible refine Mono.bind ?_ ?_ | with_reducible refine Mono.loop ?_ | with_reducible refine Mono.prod ?_ | intro _ | (dsimp only))

theorem fixed107.mono : ∀ a0_, Mono (fun k => fixed107 k a0_) := by
  intro a0_
  unfold fixed107
  repeat' (first | exact Mono.const _ | with_reducible refine Mono.cond ?_ ?_ | with_reducible refine Mono.orNil ?_ ?_ | with_reducible refine Mono.agree ?_ ?_ | with_reducible refine Mono.joined ?_ ?_ | with_reducible refine Mono.bind ?_ ?_ | with_reducible refine Mono.loop ?_ | with_reducible refine Mono.prod ?_ | intro _ | (dsimp only))

theorem place79.mono : ∀ a0_ a1_, Mono (fun k => place79 k a0_ a1_) := by
  intro a0_ a1_
  unfold place79
  repeat' (first | exact Mono.const _ | with_reducible exact Low47.mono _ _ | with_reducible exact fixed107.mono _ | with_reducible refine Mono.cond ?_ ?_ | with_reducible refine Mono.orNil ?_ ?_ | with_reducible refine Mono.agree ?_ ?_ | with_reducible refine Mono.joined ?_ ?_ | with_reducible refine Mono.bind ?_ ?_ | with_reducible refine Mono.loop ?_ | with_reducible refine Mono.prod ?_ | intro _ | (dsimp only))

theorem doing80.mono : ∀ a0_ a1_, Mono (fun k => doing80 k a0_ a1_) := by
  intro a0_ a1_
  unfold doing80
  repeat' (first | exact Mono.const _ | with_reducible exact cycles83.mono _ _ | with_reducible refine Mono.cond ?_ ?_ | with_reducible refine Mono.orNil ?_ ?_ | with_reducible refine Mono.agree ?_ ?_ | with_reducible refine Mono.joined ?_ ?_ | with_reducible refine Mono.bind ?_ ?_ | with_reducible refine Mono.loop ?_ | with_reducible refine Mono.prod ?_ | intro _ | (dsimp only))

theorem Ask43.mono : ∀ a0_ a1_ a2_, Mono (fun k => Ask43 k a0_ a1_ a2_) := by
  intro a0_ a1_ a2_
  unfold Ask43
  repeat' (first | exact Mono.const _ | with_reducible exact Low47.mono _ _ | with_reducible exact Fit77.mono _ | with_reducible exact start78.mono _ _ _ | with_reducible exact place79.mono _ _ | with_reducible exact doing80.mono _ _ | with_reducible refine Mono.cond ?_ ?_ | with_reducible refine Mono.orNil ?_ ?_ | with_reducible refine Mono.agree ?_ ?_ | with_reducible refine Mono.joined ?_ ?_ | with_reducible refine Mono.bind ?_ ?_ | with_reducible refine Mono.loop ?_ | with_reducible refine Mono.prod ?_ | intro _ | (dsimp only))

theorem Byte22.mono : ∀ a0_, Mono (fun k => Byte22 k a0_) := by
  intro a0_
  unfold Byte22
  repeat' (first | exact Mono.const _ | with_reducible exact Low47.mono _ _ | with_reducible refine Mono.cond ?_ ?_ | with_reducible refine Mono.orNil ?_ ?_ | with_reducible refine Mono.agree ?_ ?_ | with_reducible refine Mono.joined ?_ ?_ | with_reducible refine Mono.bind ?_ ?_ | with_reducible refine Mono.loop ?_ | with_reducible refine Mono.prod ?_ | intro _ | (dsimp only))

theorem Read44.mono : ∀ a0_ a1_ a2_ a3_, Mono (fun k => Read44 k a0_ a1_ a2_ a3_) := by
  intro a0_ a1_ a2_ a3_
  unfold Read44
  repeat' (first | exact Mono.const _ | with_reducible exact Byte22.mono _ | with_reducible refine Mono.cond ?_ ?_ | with_reducible refine Mono.orNil ?_ ?_ | with_reducible refine Mono.agree ?_ ?_ | with_reducible refine Mono.joined ?_ ?_ | with_reducible refine Mono.bind ?_ ?_ | with_reducible refine Mono.loop ?_ | with_reducible refine Mono.prod ?_ | intro _ | (dsimp only))

theorem Write45.mono : ∀ a0_ a1_ a2_ a3_ a4_, Mono (fun k => Write45 k a0_ a1_ a2_ a3_ a4_) := by
  intro a0_ a1_ a2_ a3_ a4_
  unfold Write45
  repeat' (first | exact Mono.const _ | with_reducible refine Mono.cond ?_ ?_ | with_reducible refine Mono.orNil ?_ ?_ | with_reducible refine Mono.agree ?_ ?_ | with_reducible refine Mono.joined ?_ ?_ | with_reducible refine Mono.bind ?_ ?_ | with_reducible refine Mono.loop ?_ | with_reducible refine Mono.prod ?_ | intro _ | (dsimp only))

theorem Find185.mono : ∀ a0_ a1_, Mono (fun k => Find185 k a0_ a1_) := by
  intro a0_ a1_
  unfold Find185
  repeat' (first | exact Mono.const _ | with_reducible refine Mono.cond ?_ ?_ | with_reducible refine Mono.orNil ?_ ?_ | with_reducible refine Mono.agree ?_ ?_ | with_reducible refine Mono.joined ?_ ?_ | with_reducible refine Mono.bind ?_ ?_ | with_reducible refine Mono.loop ?_ | with_reducible refine Mono.prod ?_ | intro _ | (dsimp only))

theorem Starts24.l0.mono : ∀ a0_, ∀ s, Mono (fun k => Starts24.l0 k a0_ s) := by
  intro a0_
  unfold Starts24.l0
  repeat' (first | exact Mono.const _ | with_reducible exact Low47.mono _ _ | with_reducible refine Mono.cond ?_ ?_ | with_reducible refine Mono.orNil ?_ ?_ | with_reducible refine Mono.agree ?_ ?_ | with_reducible refine Mono.joined ?_ ?_ | with_reducible refine Mono.bind ?_ ?_ | with_reducible refine Mono.loop ?_ | with_reducible refine Mono.prod ?_ | intro _ | (dsimp only))

theorem Starts24.l1.mono : ∀ s, Mono (fun k => Starts24.l1 k s) := by
  unfold Starts24.l1
  repeat' (first | exact Mono.const _ | with_reducible exact Starts24.l0.mono _ | with_reducible refine Mono.cond ?_ ?_ | with_reducible refine Mono.orNil ?_ ?_ | with_reducible refine Mono.agree ?_ ?_ | with_reducible refine Mono.joined ?_ ?_ | with_reducible refine Mono.bind ?_ ?_ | with_reducible refine Mono.loop ?_ | with_reducible refine Mono.prod ?_ | intro _ | (dsimp only))

theorem Starts24.mono : Mono (fun k => Starts24 k) := by
  unfold Starts24
  repeat' (first | exact Mono.const _ | with_reducible exact Starts24.l1.mono | with_reducible refine Mono.cond ?_ ?_ | with_reducible refine Mono.orNil ?_ ?_ | with_reducible refine Mono.agree ?_ ?_ | with_reducible refine Mono.joined ?_ ?_ | with_reducible refine Mono.bind ?_ ?_ | with_reducible refine Mono.loop ?_ | with_reducible refine Mono.prod ?_ | intro _ | (dsimp only))

theorem tail53.l0.mono : ∀ s, Mono (fun k => tail53.l0 k s) := by
  unfold tail53.l0
  repeat' (first | exact Mono.const _ | with_reducible exact Named75.mono _ _ _ | with_reducible refine Mono.cond ?_ ?_ | with_reducible refine Mono.orNil ?_ ?_ | with_reducible refine Mono.agree ?_ ?_ | with_reducible refine Mono.joined ?_ ?_ | with_reducible refine Mono.bind ?_ ?_ | with_reducible refine Mono.loop ?_ | with_reducible refine Mono.prod ?_ | intro _ | (dsimp only))

theorem tail53.mono : ∀ a0_, Mono (fun k => tail53 k a0_) := by
  intro a0_
  unfold tail53
  repeat' (first | exact Mono.const _ | with_reducible exact tail53.l0.mono | with_reducible refine Mono.cond ?_ ?_ | with_reducible refine Mono.orNil ?_ ?_ | with_reducible refine Mono.agree ?_ ?_ | with_reducible refine Mono.joined ?_ ?_ | with_reducible refine Mono.bind ?_ ?_ | with_reducible refine Mono.loop ?_ | with_reducible refine Mono.prod ?_ | intro _ | (dsimp only))

end Go.Proofs.Ytcppmlgnceldmaa.Ge

/- The museum's own processor. No program in sight. -/
set_option linter.unusedVariables false
set_option maxRecDepth 100000
noncomputable section
namespace Go.Proofs.Ytcppmlgnceldmaa.Ge
open Go Go.Proofs.Ytcppmlgnceldmaa.Gp

theorem Ev.one {α : Type} {f : Nat → Option α} {v w : α} (h : Ev f v) (h2 : Ev f w) : v = w := by
  obtain ⟨n, h⟩ := h
  obtain ⟨m, h2⟩ := h2
  have a := h (max n m) (by omega)
  rw [h2 (max n m) (by omega)] at a
  exact (Option.some.inj a).symm
def cpuV : Cpu := match Cpu34 20 with | some v => v.1 | none => (ByteArray.mk #[], [], [], [], [])
def isS {α : Type} (o : Option α) : Bool := match o with | some _ => true | none => false
theorem isS_some {α : Type} {o : Option α} (h : isS o = true) : ∃ v, o = some v := by
  cases o with
  | none => cases h
  | some v => exact ⟨v, rfl⟩
theorem cpu_isS : isS (Cpu34 20) = true := by kernel_rfl
theorem cpu_ev : Ev (fun k => Cpu34 k) (cpuV, ()) := by
  obtain ⟨v, hv⟩ := isS_some cpu_isS
  have e : cpuV = v.1 := by unfold cpuV; rw [hv]
  rw [e]
  exact Mono.ev Cpu34.mono hv
def wcycB (l : List Cyc) : Bool := Nat.ble (l.length * 48) 140737488351232 && l.all (fun y => Nat.ble (y.2.2.2.length * 32) 140737488351232)
def wcB (c : Cpu) : Bool := Nat.ble (c.2.1.length * 56) 140737488351232 && c.2.1.all (fun x => wcycB x.2.2.2) && wcycB c.2.2.1 && wcycB c.2.2.2.1 && wcycB c.2.2.2.2
theorem wcyc_of {l : List Cyc} (h : wcycB l = true) : Wcyc l := by
  unfold wcycB at h
  simp only [Bool.and_eq_true] at h
  exact ⟨Nat.le_of_ble_eq_true h.1, fun y hy => Nat.le_of_ble_eq_true (List.all_eq_true.1 h.2 y hy)⟩
theorem wc_of {c : Cpu} (h : wcB c = true) : Wc c := by
  unfold wcB at h
  simp only [Bool.and_eq_true] at h
  exact ⟨Nat.le_of_ble_eq_true h.1.1.1.1, fun x hx => wcyc_of (List.all_eq_true.1 h.1.1.1.2 x hx), wcyc_of h.1.1.2, wcyc_of h.1.2, wcyc_of h.2⟩
theorem cpu_wcB : wcB cpuV = true := by kernel_rfl
theorem cpu_wc : Wc cpuV := wc_of cpu_wcB
-- instructions by their names
def isN (name : ByteArray) (mode : Int) (x : Ins) : Bool := cond (streq x.2.1 name) (x.2.2.1 == mode) false
theorem nidx_lp {c : Cpu} (hc : Wc c) (name : ByteArray) (mode : Int) : ∀ (suf pre : List Ins), c.2.1 = pre ++ suf → ∃ r, Lp (fun k => IndexFunc50.l0 k c.2.1) ((name, mode, ()), (pre.length : Int)) r ∧
    (match suf.find? (isN name mode) with | none => r = .inl () | some x => ∃ j : Nat, r = .inr ((j : Int), ()) ∧ c.2.1[j]? = some x) := by
  have hl := hc.len
  intro suf
  induction suf with
  | nil =>
    intro pre h
    rw [List.append_nil] at h
    refine ⟨.inl (), .done ?_, rfl⟩
    simp only [IndexFunc50.l0]
    exact .no (decide_eq_false (by rw [h]; omega)) (.now _)
  | cons x suf ih =>
    intro pre h
    have hx : c.2.1[pre.length]? = some x := by rw [h]; simp
    have hlt := get_lt hx
    cases hp : isN name mode x with
    | true =>
      refine ⟨.inr ((pre.length : Int), ()), .done ?_, ?_⟩
      · simp only [IndexFunc50.l0]
        refine .yes (decide_eq_true (by omega)) (.val (rd_some' hx) (.bind (a := (true, ())) (.const ?_) (.yes rfl (.now _))))
        show some (isN name mode x, ()) = _
        rw [hp]
      · rw [List.find?_cons_of_pos (by exact hp)]
        exact ⟨pre.length, rfl, hx⟩
    | false =>
      obtain ⟨r, h1, h2⟩ := ih (pre ++ [x]) (by rw [h]; simp)
      refine ⟨r, .step ?_ h1, ?_⟩
      · simp only [IndexFunc50.l0]
        refine .yes (decide_eq_true (by omega)) (.val (rd_some' hx) (.bind (a := (false, ())) (.const ?_) (.no rfl (.now' ?_))))
        · show some (isN name mode x, ()) = _
          rw [hp]
        · rw [w64_succ (by omega)]; simp
      · rw [List.find?_cons_of_neg (by rw [hp]; decide)]
        exact h2
def namedR (c : Cpu) (name : ByteArray) (mode : Int) : Ins × Bool × Unit := match c.2.1.find? (isN name mode) with | some x => (x, true, ()) | none => (none4, false, ())
theorem named_ev {c : Cpu} (hc : Wc c) (name : ByteArray) (mode : Int) : Ev (fun k => Named75 k c name mode) (namedR c name mode, ()) := by
  unfold Named75 IndexFunc50
  obtain ⟨r, h1, h2⟩ := nidx_lp hc name mode c.2.1 [] rfl
  unfold namedR
  cases hf : c.2.1.find? (isN name mode) with
  | none =>
    rw [hf] at h2
    subst h2
    exact .bind (.joinL (S := Unit) h1.ev (.now _)) (.yes rfl (.now _))
  | some x =>
    rw [hf] at h2
    obtain ⟨j, rfl, hj⟩ := h2
    exact .bind (.joinR h1.ev) (.no (decide_eq_false (by show ¬ (j : Int) < 0; omega)) (.val (rd_some' hj) (.bind (copy_ev x (hc.ins x (get_mem hj))) (.now _))))
theorem wrap8 (x : Int) : 0 ≤ IntKind.wrap .u8 x ∧ IntKind.wrap .u8 x < 256 := by
  have e2 : (2 : Int) ^ 8 = 256 := by decide
  simp only [IntKind.wrap, IntKind.signed, IntKind.bits, Bool.false_and, e2]
  constructor
  · simp; omega
  · simp; omega
def nopB : List Int := [IntKind.wrap .u8 (namedR cpuV (ByteArray.mk #[110, 111, 112]) 0).1.1, IntKind.wrap .u8 (namedR cpuV (ByteArray.mk #[106, 109, 112]) 4).1.1, 0, 2]
theorem nop_ev : Ev (fun k => nop35 k) ((512, nopB, []), ()) := by
  unfold nop35
  exact .bind cpu_ev (.bind (named_ev cpu_wc _ _) (.bind cpu_ev (.bind (named_ev cpu_wc _ _) (.now _))))
theorem nop_wb : Wb nopB := by
  refine ⟨by decide, fun x hx => ?_⟩
  unfold nopB at hx
  simp only [List.mem_cons, List.not_mem_nil, or_false] at hx
  rcases hx with rfl | rfl | rfl | rfl
  · exact wrap8 _
  · exact wrap8 _
  · decide
  · decide
def askV : Option ((Cor × ((Int × Int × Int) × Unit)) × Unit) := Ask43 20 cpuV ((List.replicate 9 0).set 7 512, -1, 0, false) false
theorem ask_isS : isS askV = true := by kernel_rfl
theorem ask_bus : (match askV with | some v => v.1.2.1 | none => (0, 0, 0)) = (1, 512, 0) := by kernel_rfl
theorem ask_first {v : (Cor × ((Int × Int × Int) × Unit)) × Unit} (h : Ev (fun n => Ask43 n cpuV (k0 (nopB, List.replicate 9 0)) false) v) : v.1.2.1 = (1, 512, 0) := by
  obtain ⟨w, hw⟩ := isS_some ask_isS
  have h2 : Ev (fun n => Ask43 n cpuV (k0 (nopB, List.replicate 9 0)) false) w := Mono.ev (Ask43.mono _ _ _) hw
  rw [Ev.one h h2]
  have := ask_bus
  rw [hw] at this
  exact this
theorem gen_ev : Ev (fun k => generated17 k) (true, ()) := by
  unfold generated17
  obtain ⟨l, h40, hr, _, v, b, hb, hv, hx⟩ := run_same cpu_wc (t := (nopB, List.replicate 9 0)) nop_wb nin_rep
  have hv2 := ask_first hv
  obtain ⟨q1, q2, x, hx, q3⟩ := hx (by rw [hv2])
  have hx0 : Ev (fun n => Read44 n () v.1.2.1.2.1 (nopB, ()) []) (w64 (IntKind.wrap .u8 (namedR cpuV (ByteArray.mk #[110, 111, 112]) 0).1.1), (nopB, ()), []) := by
    rw [hv2]
    exact .const rfl
  have hxx := Ev.one hx hx0
  have hb3 : b = (1, 512, w64 (IntKind.wrap .u8 (namedR cpuV (ByteArray.mk #[110, 111, 112]) 0).1.1)) := by
    obtain ⟨b1, b2, b3⟩ := b
    have q1 : b1 = 1 := q1
    have q2 : b2 = 512 := by rw [hv2] at q2; exact q2
    have q3 : b3 = x.1 := q3
    rw [q1, q2, q3, hxx]
  refine .bind cpu_ev (.bind nop_ev (.bind hr (.bind (a := true) (.yes ?_ (.val (rd_some' (i := 0) hb) (.bind nop_ev (.val (a := IntKind.wrap .u8 (namedR cpuV (ByteArray.mk #[110, 111, 112]) 0).1.1) rfl (.now' ?_))))) (.now _))))
  · show ((l.length : Int) == 40) = true
    rw [h40]; rfl
  · rw [hb3]
    exact (congrArg (xor false) ((eqB_iff (k := .st (.pair (.int .i64) (.pair (.int .i64) (.int .i64)))) rfl).2 rfl)).trans rfl
end Go.Proofs.Ytcppmlgnceldmaa.Ge

/- Go functions as plain Lean functions, and their contracts. -/
set_option linter.unusedVariables false
set_option maxRecDepth 100000
noncomputable section
namespace Go.Proofs.Ytcppmlgnceldmaa.Ge
open Go Go.Proofs.Ytcppmlgnceldmaa.Gp
def Equal14.l0 (k : Nat) (s1 : (List (Int × (Int × Int)))) (s2 : (List (Int × (Int × Int)))) : Int → Option (Int ⊕ (Unit ⊕ (Bool × Unit)))
  | t13 =>
    cond (decide (t13 < (List.length s1 : Int)))
      ((rd s1 t13).bind fun t18 =>
      (rd s2 t13).bind fun t22 =>
      cond (xor true (eqB (.st (.pair (.int .i64) (.pair (.int .i64) (.int .i64)))) t18 t22))
        (some (Sum.inr (Sum.inr (false, ()))))
        (some (Sum.inl (w64 (t13 + 1)))))
      (some (Sum.inr (Sum.inl ())))
def Equal14 (k : Nat) (s1 : (List (Int × (Int × Int)))) (s2 : (List (Int × (Int × Int)))) : Option (Bool × Unit) :=
  cond ((List.length s1 : Int) != (List.length s2 : Int))
    (some (false, ()))
    (Option.bind
      (loopN (Equal14.l0 k s1 s2) k 0 : Option (Unit ⊕ (Bool × Unit))) (joined fun (_ : Unit) =>
      some (true, ())))
def Equal14.A : Ann := { conds := [], blocks := [(0, ⟨[], [], 0, [], 67100720⟩)], loops := [(4, ⟨[(13, .int .i64)], [], 0, [], 67100720⟩)], keeps := [], orders := [(6, [(0, .strong), (1, .strong), (2, .strong), (3, .strong), (4, .strong), (5, .strong), (6, .strong), (7, .strong), (8, .strong)])] }
def Equal14.S : Sig := { f := 14, params := [.sl (.st (.pair (.int .i64) (.pair (.int .i64) (.int .i64)))), .sl (.st (.pair (.int .i64) (.pair (.int .i64) (.int .i64))))], objs := [], res := .bool, outs := [], fix := [], run := fun k ds os => Equal14 k ds.1 ds.2 }
def Equal14.G : List Sig := []
theorem Equal14.eq (k : Nat) : ∀ ds os, Equal14.S.run k ds os = runF ⟨types, Equal14.G, Equal14.A, k, 0, []⟩ Try.f14 (codeOf Try.f14) Equal14.S.params Equal14.S.objs Equal14.S.res Equal14.S.outs ds os := by
  intro ds os; kernel_rfl
theorem Equal14.dr : DrOk Try.prog Equal14.A (codeOf Try.f14) := ⟨by kernel_rfl, by kernel_rfl⟩
theorem Equal14.ok (k : Nat) : SoundAt Try.prog k Equal14.S :=
  runF_sound (X := ⟨types, Equal14.G, Equal14.A, k, 0, []⟩) types_ok (fun s hs => absurd hs List.not_mem_nil) (fn := Try.f14) (c := codeOf Try.f14) rfl (by kernel_rfl) rfl rfl Equal14.dr (Equal14.eq k)

def Tells21.l0 (k : Nat) (t12 : ((List (Int × (Int × Int))) × Unit)) (t15 : ((List (Int × (Int × Int))) × Unit)) : Int → Option (Int ⊕ (Unit ⊕ (Int × Unit)))
  | t18 =>
    cond (decide (t18 < (List.length t12.1 : Int)))
      ((rd t12.1 t18).bind fun t23 =>
      (rd t15.1 t18).bind fun t27 =>
      cond (xor true (eqB (.st (.pair (.int .i64) (.pair (.int .i64) (.int .i64)))) t23 t27))
        (some (Sum.inr (Sum.inr (t18, ()))))
        (some (Sum.inl (w64 (t18 + 1)))))
      (some (Sum.inr (Sum.inl ())))
def Tells21 (k : Nat) (a : (ByteArray × ((List (Int × (ByteArray × (Int × (List (Int × (Int × (Int × (List (Int × (Int × (Int × Int)))))))))))) × ((List (Int × (Int × (Int × (List (Int × (Int × (Int × Int)))))))) × ((List (Int × (Int × (Int × (List (Int × (Int × (Int × Int)))))))) × (List (Int × (Int × (Int × (List (Int × (Int × (Int × Int))))))))))))) (b : (ByteArray × ((List (Int × (ByteArray × (Int × (List (Int × (Int × (Int × (List (Int × (Int × (Int × Int)))))))))))) × ((List (Int × (Int × (Int × (List (Int × (Int × (Int × Int)))))))) × ((List (Int × (Int × (Int × (List (Int × (Int × (Int × Int)))))))) × (List (Int × (Int × (Int × (List (Int × (Int × (Int × Int))))))))))))) (t : ((List Int) × (List Int))) : Option (Int × Unit) :=
  (Run20 k a t).bind fun t12 =>
  (Run20 k b t).bind fun t15 =>
  Option.bind
    (loopN (Tells21.l0 k t12 t15) k 0 : Option (Unit ⊕ (Int × Unit))) (joined fun (_ : Unit) =>
    some ((-1), ()))
def Tells21.A : Ann := { conds := [], blocks := [(0, ⟨[], [], 0, [], 4294705728⟩)], loops := [(3, ⟨[(18, .int .i64)], [], 0, [], 4294705728⟩)], keeps := [3, 4, 5], orders := [(1, [(0, .strong), (1, .strong), (3, .strong), (4, .strong), (2, .eff true), (5, .eff true), (6, .strong), (7, .strong)]), (5, [(0, .strong), (1, .strong), (2, .strong), (3, .strong), (4, .strong), (5, .strong), (6, .strong), (7, .strong), (8, .strong)])] }
def Tells21.S : Sig := { f := 21, params := [.st (.pair .str (.pair (.sl (.st (.pair (.int .i64) (.pair .str (.pair (.int .i64) (.sl (.st (.pair (.int .i64) (.pair (.int .i64) (.pair (.int .i64) (.sl (.st (.pair (.int .i64) (.pair (.int .i64) (.pair (.int .i64) (.int .i64)))))))))))))))) (.pair (.sl (.st (.pair (.int .i64) (.pair (.int .i64) (.pair (.int .i64) (.sl (.st (.pair (.int .i64) (.pair (.int .i64) (.pair (.int .i64) (.int .i64))))))))))) (.pair (.sl (.st (.pair (.int .i64) (.pair (.int .i64) (.pair (.int .i64) (.sl (.st (.pair (.int .i64) (.pair (.int .i64) (.pair (.int .i64) (.int .i64))))))))))) (.sl (.st (.pair (.int .i64) (.pair (.int .i64) (.pair (.int .i64) (.sl (.st (.pair (.int .i64) (.pair (.int .i64) (.pair (.int .i64) (.int .i64))))))))))))))), .st (.pair .str (.pair (.sl (.st (.pair (.int .i64) (.pair .str (.pair (.int .i64) (.sl (.st (.pair (.int .i64) (.pair (.int .i64) (.pair (.int .i64) (.sl (.st (.pair (.int .i64) (.pair (.int .i64) (.pair (.int .i64) (.int .i64)))))))))))))))) (.pair (.sl (.st (.pair (.int .i64) (.pair (.int .i64) (.pair (.int .i64) (.sl (.st (.pair (.int .i64) (.pair (.int .i64) (.pair (.int .i64) (.int .i64))))))))))) (.pair (.sl (.st (.pair (.int .i64) (.pair (.int .i64) (.pair (.int .i64) (.sl (.st (.pair (.int .i64) (.pair (.int .i64) (.pair (.int .i64) (.int .i64))))))))))) (.sl (.st (.pair (.int .i64) (.pair (.int .i64) (.pair (.int .i64) (.sl (.st (.pair (.int .i64) (.pair (.int .i64) (.pair (.int .i64) (.int .i64))))))))))))))), .st (.pair (.sl (.int .u8)) (.arr 9 (.int .i64)))], objs := [], res := .int .i64, outs := [], fix := [], run := fun k ds os => Tells21 k ds.1 ds.2.1 ds.2.2 }
def Tells21.G : List Sig := [Run20.S]
theorem Tells21.eq (k : Nat) : ∀ ds os, Tells21.S.run k ds os = runF ⟨types, Tells21.G, Tells21.A, k, 0, []⟩ Try.f21 (codeOf Try.f21) Tells21.S.params Tells21.S.objs Tells21.S.res Tells21.S.outs ds os := by
  intro ds os; kernel_rfl
theorem Tells21.dr : DrOk Try.prog Tells21.A (codeOf Try.f21) := ⟨by kernel_rfl, by kernel_rfl⟩
theorem Tells21.ok (k : Nat) : SoundAt Try.prog k Tells21.S :=
  runF_sound (X := ⟨types, Tells21.G, Tells21.A, k, 0, []⟩) types_ok (mem_all (⟨Run20.ok k, trivial⟩)) (fn := Try.f21) (c := codeOf Try.f21) rfl (by kernel_rfl) rfl rfl Tells21.dr (Tells21.eq k)
end Go.Proofs.Ytcppmlgnceldmaa.Ge

/- Go functions as plain Lean functions, and their contracts. -/
set_option linter.unusedVariables false
set_option maxRecDepth 100000
noncomputable section
namespace Go.Proofs.Ytcppmlgnceldmaa.Ge
open Go Go.Proofs.Ytcppmlgnceldmaa.Gp
def GenRuns4.l0 (k : Nat) (t29 : ((List (Int × (Int × Int))) × Unit)) (t32 : ((List (Int × (Int × Int))) × Unit)) : ((ByteArray × ((List (Int × (ByteArray × (Int × (List (Int × (Int × (Int × (List (Int × (Int × (Int × Int)))))))))))) × ((List (Int × (Int × (Int × (List (Int × (Int × (Int × Int)))))))) × ((List (Int × (Int × (Int × (List (Int × (Int × (Int × Int)))))))) × (List (Int × (Int × (Int × (List (Int × (Int × (Int × Int)))))))))))) × ((ByteArray × ((List (Int × (ByteArray × (Int × (List (Int × (Int × (Int × (List (Int × (Int × (Int × Int)))))))))))) × ((List (Int × (Int × (Int × (List (Int × (Int × (Int × Int)))))))) × ((List (Int × (Int × (Int × (List (Int × (Int × (Int × Int)))))))) × (List (Int × (Int × (Int × (List (Int × (Int × (Int × Int)))))))))))) × (((List Int) × (List Int)) × (Int × Int)))) → Option (((ByteArray × ((List (Int × (ByteArray × (Int × (List (Int × (Int × (Int × (List (Int × (Int × (Int × Int)))))))))))) × ((List (Int × (Int × (Int × (List (Int × (Int × (Int × Int)))))))) × ((List (Int × (Int × (Int × (List (Int × (Int × (Int × Int)))))))) × (List (Int × (Int × (Int × (List (Int × (Int × (Int × Int)))))))))))) × ((ByteArray × ((List (Int × (ByteArray × (Int × (List (Int × (Int × (Int × (List (Int × (Int × (Int × Int)))))))))))) × ((List (Int × (Int × (Int × (List (Int × (Int × (Int × Int)))))))) × ((List (Int × (Int × (Int × (List (Int × (Int × (Int × Int)))))))) × (List (Int × (Int × (Int × (List (Int × (Int × (Int × Int)))))))))))) × (((List Int) × (List Int)) × (Int × Int)))) ⊕ ((ByteArray × ((List (Int × (ByteArray × (Int × (List (Int × (Int × (Int × (List (Int × (Int × (Int × Int)))))))))))) × ((List (Int × (Int × (Int × (List (Int × (Int × (Int × Int)))))))) × ((List (Int × (Int × (Int × (List (Int × (Int × (Int × Int)))))))) × (List (Int × (Int × (Int × (List (Int × (Int × (Int × Int)))))))))))) × ((ByteArray × ((List (Int × (ByteArray × (Int × (List (Int × (Int × (Int × (List (Int × (Int × (Int × Int)))))))))))) × ((List (Int × (Int × (Int × (List (Int × (Int × (Int × Int)))))))) × ((List (Int × (Int × (Int × (List (Int × (Int × (Int × Int)))))))) × (List (Int × (Int × (Int × (List (Int × (Int × (Int × Int)))))))))))) × (((List Int) × (List Int)) × Int))))
  | (a_1, b_1, t_1, first, i) =>
    cond (decide (i ≥ 0))
      ((rd t29.1 i).bind fun t39 =>
      (rd t32.1 i).bind fun t43 =>
      Option.bind
        (cond (xor true (eqB (.st (.pair (.int .i64) (.pair (.int .i64) (.int .i64)))) t39 t43))
          (some (a_1, b_1, t_1, i))
          (some (a_1, b_1, t_1, first)) : Option ((ByteArray × ((List (Int × (ByteArray × (Int × (List (Int × (Int × (Int × (List (Int × (Int × (Int × Int)))))))))))) × ((List (Int × (Int × (Int × (List (Int × (Int × (Int × Int)))))))) × ((List (Int × (Int × (Int × (List (Int × (Int × (Int × Int)))))))) × (List (Int × (Int × (Int × (List (Int × (Int × (Int × Int)))))))))))) × ((ByteArray × ((List (Int × (ByteArray × (Int × (List (Int × (Int × (Int × (List (Int × (Int × (Int × Int)))))))))))) × ((List (Int × (Int × (Int × (List (Int × (Int × (Int × Int)))))))) × ((List (Int × (Int × (Int × (List (Int × (Int × (Int × Int)))))))) × (List (Int × (Int × (Int × (List (Int × (Int × (Int × Int)))))))))))) × (((List Int) × (List Int)) × Int)))) fun ((a_2, b_2, t_2, first_1) : ((ByteArray × ((List (Int × (ByteArray × (Int × (List (Int × (Int × (Int × (List (Int × (Int × (Int × Int)))))))))))) × ((List (Int × (Int × (Int × (List (Int × (Int × (Int × Int)))))))) × ((List (Int × (Int × (Int × (List (Int × (Int × (Int × Int)))))))) × (List (Int × (Int × (Int × (List (Int × (Int × (Int × Int)))))))))))) × ((ByteArray × ((List (Int × (ByteArray × (Int × (List (Int × (Int × (Int × (List (Int × (Int × (Int × Int)))))))))))) × ((List (Int × (Int × (Int × (List (Int × (Int × (Int × Int)))))))) × ((List (Int × (Int × (Int × (List (Int × (Int × (Int × Int)))))))) × (List (Int × (Int × (Int × (List (Int × (Int × (Int × Int)))))))))))) × (((List Int) × (List Int)) × Int)))) =>
      some (Sum.inl (a_2, b_2, t_2, first_1, (w64 (i - 1)))))
      (some (Sum.inr (a_1, b_1, t_1, first)))
def GenRuns4 (k : Nat) (a : (ByteArray × ((List (Int × (ByteArray × (Int × (List (Int × (Int × (Int × (List (Int × (Int × (Int × Int)))))))))))) × ((List (Int × (Int × (Int × (List (Int × (Int × (Int × Int)))))))) × ((List (Int × (Int × (Int × (List (Int × (Int × (Int × Int)))))))) × (List (Int × (Int × (Int × (List (Int × (Int × (Int × Int))))))))))))) (b : (ByteArray × ((List (Int × (ByteArray × (Int × (List (Int × (Int × (Int × (List (Int × (Int × (Int × Int)))))))))))) × ((List (Int × (Int × (Int × (List (Int × (Int × (Int × Int)))))))) × ((List (Int × (Int × (Int × (List (Int × (Int × (Int × Int)))))))) × (List (Int × (Int × (Int × (List (Int × (Int × (Int × Int))))))))))))) (t : ((List Int) × (List Int))) (addr : Int) : Option (Bool × Unit) :=
  (generated17 k).bind fun t14 =>
  Option.bind (cond (!t14.1)
    (some true)
    ((Check18 k a).bind fun t18 =>
    some (t18.1 != 0))) fun t20 =>
  Option.bind (cond t20
    (some true)
    ((Check18 k b).bind fun t23 =>
    some (t23.1 != 0))) fun t25 =>
  cond t25
    ((generated17 k).bind fun t26 =>
    some (t26.1, ()))
    ((Tested19 k a t).bind fun t29 =>
    (Tested19 k b t).bind fun t32 =>
    Option.bind
      (loopN (GenRuns4.l0 k t29 t32) k (a, b, t, (-1), 39) : Option ((ByteArray × ((List (Int × (ByteArray × (Int × (List (Int × (Int × (Int × (List (Int × (Int × (Int × Int)))))))))))) × ((List (Int × (Int × (Int × (List (Int × (Int × (Int × Int)))))))) × ((List (Int × (Int × (Int × (List (Int × (Int × (Int × Int)))))))) × (List (Int × (Int × (Int × (List (Int × (Int × (Int × Int)))))))))))) × ((ByteArray × ((List (Int × (ByteArray × (Int × (List (Int × (Int × (Int × (List (Int × (Int × (Int × Int)))))))))))) × ((List (Int × (Int × (Int × (List (Int × (Int × (Int × Int)))))))) × ((List (Int × (Int × (Int × (List (Int × (Int × (Int × Int)))))))) × (List (Int × (Int × (Int × (List (Int × (Int × (Int × Int)))))))))))) × (((List Int) × (List Int)) × Int)))) fun ((a_3, b_3, t_3, first_2) : ((ByteArray × ((List (Int × (ByteArray × (Int × (List (Int × (Int × (Int × (List (Int × (Int × (Int × Int)))))))))))) × ((List (Int × (Int × (Int × (List (Int × (Int × (Int × Int)))))))) × ((List (Int × (Int × (Int × (List (Int × (Int × (Int × Int)))))))) × (List (Int × (Int × (Int × (List (Int × (Int × (Int × Int)))))))))))) × ((ByteArray × ((List (Int × (ByteArray × (Int × (List (Int × (Int × (Int × (List (Int × (Int × (Int × Int)))))))))))) × ((List (Int × (Int × (Int × (List (Int × (Int × (Int × Int)))))))) × ((List (Int × (Int × (Int × (List (Int × (Int × (Int × Int)))))))) × (List (Int × (Int × (Int × (List (Int × (Int × (Int × Int)))))))))))) × (((List Int) × (List Int)) × Int)))) =>
    let t48 : Int := (ibits .and .i64 addr 65535)
    (Run20 k a_3 t_3).bind fun t51 =>
    (Equal14 k t51.1 t29.1).bind fun t53 =>
    Option.bind (cond t53.1
      ((Tells21 k a_3 b_3 t_3).bind fun t58 =>
      some (t58.1 == first_2))
      (some false)) fun t61 =>
    Option.bind (cond t61
      ((Byte22 k t48).bind fun t64 =>
      some (t64.1 == (Int.tmod (w64 ((w64 ((w64 (7 * t48)) + (quoI .i64 t48 256))) + 3)) 256)))
      (some false)) fun t73 =>
    some (t73, ()))
def GenRuns4.A : Ann := { conds := [(2949129, ⟨[(4, .fp (.st (.pair .str (.pair (.sl (.st (.pair (.int .i64) (.pair .str (.pair (.int .i64) (.sl (.st (.pair (.int .i64) (.pair (.int .i64) (.pair (.int .i64) (.sl (.st (.pair (.int .i64) (.pair (.int .i64) (.pair (.int .i64) (.int .i64)))))))))))))))) (.pair (.sl (.st (.pair (.int .i64) (.pair (.int .i64) (.pair (.int .i64) (.sl (.st (.pair (.int .i64) (.pair (.int .i64) (.pair (.int .i64) (.int .i64))))))))))) (.pair (.sl (.st (.pair (.int .i64) (.pair (.int .i64) (.pair (.int .i64) (.sl (.st (.pair (.int .i64) (.pair (.int .i64) (.pair (.int .i64) (.int .i64))))))))))) (.sl (.st (.pair (.int .i64) (.pair (.int .i64) (.pair (.int .i64) (.sl (.st (.pair (.int .i64) (.pair (.int .i64) (.pair (.int .i64) (.int .i64))))))))))))))))), (5, .fp (.st (.pair .str (.pair (.sl (.st (.pair (.int .i64) (.pair .str (.pair (.int .i64) (.sl (.st (.pair (.int .i64) (.pair (.int .i64) (.pair (.int .i64) (.sl (.st (.pair (.int .i64) (.pair (.int .i64) (.pair (.int .i64) (.int .i64)))))))))))))))) (.pair (.sl (.st (.pair (.int .i64) (.pair (.int .i64) (.pair (.int .i64) (.sl (.st (.pair (.int .i64) (.pair (.int .i64) (.pair (.int .i64) (.int .i64))))))))))) (.pair (.sl (.st (.pair (.int .i64) (.pair (.int .i64) (.pair (.int .i64) (.sl (.st (.pair (.int .i64) (.pair (.int .i64) (.pair (.int .i64) (.int .i64))))))))))) (.sl (.st (.pair (.int .i64) (.pair (.int .i64) (.pair (.int .i64) (.sl (.st (.pair (.int .i64) (.pair (.int .i64) (.pair (.int .i64) (.int .i64))))))))))))))))), (6, .fp (.st (.pair (.sl (.int .u8)) (.arr 9 (.int .i64))))), (11, .int .i64)], [], 0, [], 70368744179712⟩)], blocks := [(0, ⟨[(4, .fp (.st (.pair .str (.pair (.sl (.st (.pair (.int .i64) (.pair .str (.pair (.int .i64) (.sl (.st (.pair (.int .i64) (.pair (.int .i64) (.pair (.int .i64) (.sl (.st (.pair (.int .i64) (.pair (.int .i64) (.pair (.int .i64) (.int .i64)))))))))))))))) (.pair (.sl (.st (.pair (.int .i64) (.pair (.int .i64) (.pair (.int .i64) (.sl (.st (.pair (.int .i64) (.pair (.int .i64) (.pair (.int .i64) (.int .i64))))))))))) (.pair (.sl (.st (.pair (.int .i64) (.pair (.int .i64) (.pair (.int .i64) (.sl (.st (.pair (.int .i64) (.pair (.int .i64) (.pair (.int .i64) (.int .i64))))))))))) (.sl (.st (.pair (.int .i64) (.pair (.int .i64) (.pair (.int .i64) (.sl (.st (.pair (.int .i64) (.pair (.int .i64) (.pair (.int .i64) (.int .i64))))))))))))))))), (5, .fp (.st (.pair .str (.pair (.sl (.st (.pair (.int .i64) (.pair .str (.pair (.int .i64) (.sl (.st (.pair (.int .i64) (.pair (.int .i64) (.pair (.int .i64) (.sl (.st (.pair (.int .i64) (.pair (.int .i64) (.pair (.int .i64) (.int .i64)))))))))))))))) (.pair (.sl (.st (.pair (.int .i64) (.pair (.int .i64) (.pair (.int .i64) (.sl (.st (.pair (.int .i64) (.pair (.int .i64) (.pair (.int .i64) (.int .i64))))))))))) (.pair (.sl (.st (.pair (.int .i64) (.pair (.int .i64) (.pair (.int .i64) (.sl (.st (.pair (.int .i64) (.pair (.int .i64) (.pair (.int .i64) (.int .i64))))))))))) (.sl (.st (.pair (.int .i64) (.pair (.int .i64) (.pair (.int .i64) (.sl (.st (.pair (.int .i64) (.pair (.int .i64) (.pair (.int .i64) (.int .i64))))))))))))))))), (6, .fp (.st (.pair (.sl (.int .u8)) (.arr 9 (.int .i64))))), (11, .int .i64)], [], 0, [], 140728898426880⟩)], loops := [(6, ⟨[(4, .fp (.st (.pair .str (.pair (.sl (.st (.pair (.int .i64) (.pair .str (.pair (.int .i64) (.sl (.st (.pair (.int .i64) (.pair (.int .i64) (.pair (.int .i64) (.sl (.st (.pair (.int .i64) (.pair (.int .i64) (.pair (.int .i64) (.int .i64)))))))))))))))) (.pair (.sl (.st (.pair (.int .i64) (.pair (.int .i64) (.pair (.int .i64) (.sl (.st (.pair (.int .i64) (.pair (.int .i64) (.pair (.int .i64) (.int .i64))))))))))) (.pair (.sl (.st (.pair (.int .i64) (.pair (.int .i64) (.pair (.int .i64) (.sl (.st (.pair (.int .i64) (.pair (.int .i64) (.pair (.int .i64) (.int .i64))))))))))) (.sl (.st (.pair (.int .i64) (.pair (.int .i64) (.pair (.int .i64) (.sl (.st (.pair (.int .i64) (.pair (.int .i64) (.pair (.int .i64) (.int .i64))))))))))))))))), (5, .fp (.st (.pair .str (.pair (.sl (.st (.pair (.int .i64) (.pair .str (.pair (.int .i64) (.sl (.st (.pair (.int .i64) (.pair (.int .i64) (.pair (.int .i64) (.sl (.st (.pair (.int .i64) (.pair (.int .i64) (.pair (.int .i64) (.int .i64)))))))))))))))) (.pair (.sl (.st (.pair (.int .i64) (.pair (.int .i64) (.pair (.int .i64) (.sl (.st (.pair (.int .i64) (.pair (.int .i64) (.pair (.int .i64) (.int .i64))))))))))) (.pair (.sl (.st (.pair (.int .i64) (.pair (.int .i64) (.pair (.int .i64) (.sl (.st (.pair (.int .i64) (.pair (.int .i64) (.pair (.int .i64) (.int .i64))))))))))) (.sl (.st (.pair (.int .i64) (.pair (.int .i64) (.pair (.int .i64) (.sl (.st (.pair (.int .i64) (.pair (.int .i64) (.pair (.int .i64) (.int .i64))))))))))))))))), (6, .fp (.st (.pair (.sl (.int .u8)) (.arr 9 (.int .i64))))), (11, .int .i64), (12, .int .i64)], [], 0, [], 140728898426880⟩)], keeps := [4, 5, 6], orders := [(3, [(0, .strong), (1, .strong), (3, .strong), (4, .strong), (2, .eff true), (5, .eff true), (6, .strong), (7, .strong)]), (8, [(0, .strong), (1, .strong), (2, .strong), (3, .strong), (4, .strong), (5, .strong), (6, .strong), (7, .strong), (8, .strong)])] }
def GenRuns4.S : Sig := { f := 4, params := [.st (.pair .str (.pair (.sl (.st (.pair (.int .i64) (.pair .str (.pair (.int .i64) (.sl (.st (.pair (.int .i64) (.pair (.int .i64) (.pair (.int .i64) (.sl (.st (.pair (.int .i64) (.pair (.int .i64) (.pair (.int .i64) (.int .i64)))))))))))))))) (.pair (.sl (.st (.pair (.int .i64) (.pair (.int .i64) (.pair (.int .i64) (.sl (.st (.pair (.int .i64) (.pair (.int .i64) (.pair (.int .i64) (.int .i64))))))))))) (.pair (.sl (.st (.pair (.int .i64) (.pair (.int .i64) (.pair (.int .i64) (.sl (.st (.pair (.int .i64) (.pair (.int .i64) (.pair (.int .i64) (.int .i64))))))))))) (.sl (.st (.pair (.int .i64) (.pair (.int .i64) (.pair (.int .i64) (.sl (.st (.pair (.int .i64) (.pair (.int .i64) (.pair (.int .i64) (.int .i64))))))))))))))), .st (.pair .str (.pair (.sl (.st (.pair (.int .i64) (.pair .str (.pair (.int .i64) (.sl (.st (.pair (.int .i64) (.pair (.int .i64) (.pair (.int .i64) (.sl (.st (.pair (.int .i64) (.pair (.int .i64) (.pair (.int .i64) (.int .i64)))))))))))))))) (.pair (.sl (.st (.pair (.int .i64) (.pair (.int .i64) (.pair (.int .i64) (.sl (.st (.pair (.int .i64) (.pair (.int .i64) (.pair (.int .i64) (.int .i64))))))))))) (.pair (.sl (.st (.pair (.int .i64) (.pair (.int .i64) (.pair (.int .i64) (.sl (.st (.pair (.int .i64) (.pair (.int .i64) (.pair (.int .i64) (.int .i64))))))))))) (.sl (.st (.pair (.int .i64) (.pair (.int .i64) (.pair (.int .i64) (.sl (.st (.pair (.int .i64) (.pair (.int .i64) (.pair (.int .i64) (.int .i64))))))))))))))), .st (.pair (.sl (.int .u8)) (.arr 9 (.int .i64))), .int .i64], objs := [], res := .bool, outs := [], fix := [], run := fun k ds os => GenRuns4 k ds.1 ds.2.1 ds.2.2.1 ds.2.2.2 }
def GenRuns4.G : List Sig := [Byte22.S, Check18.S, Equal14.S, Run20.S, Tells21.S, Tested19.S, generated17.S]
theorem GenRuns4.eq (k : Nat) : ∀ ds os, GenRuns4.S.run k ds os = runF ⟨types, GenRuns4.G, GenRuns4.A, k, 0, []⟩ Try.f4 (codeOf Try.f4) GenRuns4.S.params GenRuns4.S.objs GenRuns4.S.res GenRuns4.S.outs ds os := by
  intro ds os; kernel_rfl
theorem GenRuns4.dr : DrOk Try.prog GenRuns4.A (codeOf Try.f4) := ⟨by kernel_rfl, by kernel_rfl⟩
theorem GenRuns4.ok (k : Nat) : SoundAt Try.prog k GenRuns4.S :=
  runF_sound (X := ⟨types, GenRuns4.G, GenRuns4.A, k, 0, []⟩) types_ok (mem_all (⟨Byte22.ok k, ⟨Check18.ok k, ⟨Equal14.ok k, ⟨Run20.ok k, ⟨Tells21.ok k, ⟨Tested19.ok k, ⟨generated17.ok k, trivial⟩⟩⟩⟩⟩⟩⟩)) (fn := Try.f4) (c := codeOf Try.f4) rfl (by kernel_rfl) rfl rfl GenRuns4.dr (GenRuns4.eq k)
end Go.Proofs.Ytcppmlgnceldmaa.Ge
