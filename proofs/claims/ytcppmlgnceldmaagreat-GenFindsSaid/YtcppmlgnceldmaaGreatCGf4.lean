/- Merged texts of one claim: a Go law, its functions without memory, and the plain law. The law returns true for every input; conditions: as the row says. -/
import Derived.Test.YtcppmlgnceldmaaGreatCGf0
import Derived.Test.YtcppmlgnceldmaaGreatCGf1
import Derived.Test.YtcppmlgnceldmaaGreatCGf2
import Derived.Test.YtcppmlgnceldmaaGreatCGf3
/- Go functions as plain Lean functions, and their contracts. -/
set_option linter.unusedVariables false
set_option maxRecDepth 100000
noncomputable section
namespace Go.Proofs.YtcppmlgnceldmaaGreat.Gf
open Go Go.Proofs.YtcppmlgnceldmaaGreat.Gp
def Find7.l0 (k : Nat) (t67 : ((List ((List Int) × (List Int))) × Unit)) : ((ByteArray × ((List (Int × (ByteArray × (Int × (List (Int × (Int × (Int × (List (Int × (Int × (Int × Int)))))))))))) × ((List (Int × (Int × (Int × (List (Int × (Int × (Int × Int)))))))) × ((List (Int × (Int × (Int × (List (Int × (Int × (Int × Int)))))))) × (List (Int × (Int × (Int × (List (Int × (Int × (Int × Int)))))))))))) × ((ByteArray × ((List (Int × (ByteArray × (Int × (List (Int × (Int × (Int × (List (Int × (Int × (Int × Int)))))))))))) × ((List (Int × (Int × (Int × (List (Int × (Int × (Int × Int)))))))) × ((List (Int × (Int × (Int × (List (Int × (Int × (Int × Int)))))))) × (List (Int × (Int × (Int × (List (Int × (Int × (Int × Int)))))))))))) × (Unit × (Int × (Unit × (List Int)))))) → Option (((ByteArray × ((List (Int × (ByteArray × (Int × (List (Int × (Int × (Int × (List (Int × (Int × (Int × Int)))))))))))) × ((List (Int × (Int × (Int × (List (Int × (Int × (Int × Int)))))))) × ((List (Int × (Int × (Int × (List (Int × (Int × (Int × Int)))))))) × (List (Int × (Int × (Int × (List (Int × (Int × (Int × Int)))))))))))) × ((ByteArray × ((List (Int × (ByteArray × (Int × (List (Int × (Int × (Int × (List (Int × (Int × (Int × Int)))))))))))) × ((List (Int × (Int × (Int × (List (Int × (Int × (Int × Int)))))))) × ((List (Int × (Int × (Int × (List (Int × (Int × (Int × Int)))))))) × (List (Int × (Int × (Int × (List (Int × (Int × (Int × Int)))))))))))) × (Unit × (Int × (Unit × (List Int)))))) ⊕ (((ByteArray × ((List (Int × (ByteArray × (Int × (List (Int × (Int × (Int × (List (Int × (Int × (Int × Int)))))))))))) × ((List (Int × (Int × (Int × (List (Int × (Int × (Int × Int)))))))) × ((List (Int × (Int × (Int × (List (Int × (Int × (Int × Int)))))))) × (List (Int × (Int × (Int × (List (Int × (Int × (Int × Int)))))))))))) × ((ByteArray × ((List (Int × (ByteArray × (Int × (List (Int × (Int × (Int × (List (Int × (Int × (Int × Int)))))))))))) × ((List (Int × (Int × (Int × (List (Int × (Int × (Int × Int)))))))) × ((List (Int × (Int × (Int × (List (Int × (Int × (Int × Int)))))))) × (List (Int × (Int × (Int × (List (Int × (Int × (Int × Int)))))))))))) × (Unit × (Unit × (List Int))))) ⊕ (((ByteArray × ((List (Int × (ByteArray × (Int × (List (Int × (Int × (Int × (List (Int × (Int × (Int × Int)))))))))))) × ((List (Int × (Int × (Int × (List (Int × (Int × (Int × Int)))))))) × ((List (Int × (Int × (Int × (List (Int × (Int × (Int × Int)))))))) × (List (Int × (Int × (Int × (List (Int × (Int × (Int × Int)))))))))))) × ((ByteArray × ((List (Int × (ByteArray × (Int × (List (Int × (Int × (Int × (List (Int × (Int × (Int × Int)))))))))))) × ((List (Int × (Int × (Int × (List (Int × (Int × (Int × Int)))))))) × ((List (Int × (Int × (Int × (List (Int × (Int × (Int × Int)))))))) × (List (Int × (Int × (Int × (List (Int × (Int × (Int × Int)))))))))))) × (Unit × (Unit × (List Int))))) ⊕ (((ByteArray × ((List (Int × (ByteArray × (Int × (List (Int × (Int × (Int × (List (Int × (Int × (Int × Int)))))))))))) × ((List (Int × (Int × (Int × (List (Int × (Int × (Int × Int)))))))) × ((List (Int × (Int × (Int × (List (Int × (Int × (Int × Int)))))))) × (List (Int × (Int × (Int × (List (Int × (Int × (Int × Int)))))))))))) × ((ByteArray × ((List (Int × (ByteArray × (Int × (List (Int × (Int × (Int × (List (Int × (Int × (Int × Int)))))))))))) × ((List (Int × (Int × (Int × (List (Int × (Int × (Int × Int)))))))) × ((List (Int × (Int × (Int × (List (Int × (Int × (Int × Int)))))))) × (List (Int × (Int × (Int × (List (Int × (Int × (Int × Int)))))))))))) × (Unit × (Int × (Unit × (List Int)))))) ⊕ ((Unit × (Unit × (List Int))) ⊕ ((((List Int) × (List Int)) × (Bool × (Int × Unit))) × Unit))))))
  | (a_2, b_2, _, t69, o0_1) =>
    cond (decide (t69 < (List.length t67.1 : Int)))
      ((rd t67.1 t69).bind fun t71 =>
      (Tells31 k a_2 b_2 t71).bind fun t76 =>
      cond (decide (t76.1 ≥ 0))
        (some (Sum.inr (Sum.inr (Sum.inr (Sum.inr (Sum.inr ((t71, true, 0, ()), ())))))))
        (some (Sum.inl (a_2, b_2, (), (w64 (t69 + 1)), o0_1))))
      (some (Sum.inr (Sum.inl (a_2, b_2, (), o0_1))))
def Find7.l1 (k : Nat) : ((ByteArray × ((List (Int × (ByteArray × (Int × (List (Int × (Int × (Int × (List (Int × (Int × (Int × Int)))))))))))) × ((List (Int × (Int × (Int × (List (Int × (Int × (Int × Int)))))))) × ((List (Int × (Int × (Int × (List (Int × (Int × (Int × Int)))))))) × (List (Int × (Int × (Int × (List (Int × (Int × (Int × Int)))))))))))) × ((ByteArray × ((List (Int × (ByteArray × (Int × (List (Int × (Int × (Int × (List (Int × (Int × (Int × Int)))))))))))) × ((List (Int × (Int × (Int × (List (Int × (Int × (Int × Int)))))))) × ((List (Int × (Int × (Int × (List (Int × (Int × (Int × Int)))))))) × (List (Int × (Int × (Int × (List (Int × (Int × (Int × Int)))))))))))) × (Unit × (Int × (Unit × (List Int)))))) → Option (((ByteArray × ((List (Int × (ByteArray × (Int × (List (Int × (Int × (Int × (List (Int × (Int × (Int × Int)))))))))))) × ((List (Int × (Int × (Int × (List (Int × (Int × (Int × Int)))))))) × ((List (Int × (Int × (Int × (List (Int × (Int × (Int × Int)))))))) × (List (Int × (Int × (Int × (List (Int × (Int × (Int × Int)))))))))))) × ((ByteArray × ((List (Int × (ByteArray × (Int × (List (Int × (Int × (Int × (List (Int × (Int × (Int × Int)))))))))))) × ((List (Int × (Int × (Int × (List (Int × (Int × (Int × Int)))))))) × ((List (Int × (Int × (Int × (List (Int × (Int × (Int × Int)))))))) × (List (Int × (Int × (Int × (List (Int × (Int × (Int × Int)))))))))))) × (Unit × (Int × (Unit × (List Int)))))) ⊕ ((Unit × (Unit × (List Int))) ⊕ ((((List Int) × (List Int)) × (Bool × (Int × Unit))) × Unit)))
  | (a_1, b_1, _, t28, o0) =>
    cond (decide (t28 < 256))
      (Option.bind
        ((Find11 k a_1 t28).bind fun t34 =>
        (Find11 k b_1 t28).bind fun t40 =>
        Option.bind (cond (cond (!t34.1.2.1) (!t40.1.2.1) false)
          (some true)
          (Option.bind (cond (cond t34.1.2.1 t40.1.2.1 false)
            ((alike29 k t34.1.1 t40.1.1).bind fun t57 =>
            some t57.1)
            (some false)) fun t58 =>
          some t58)) fun t59 =>
        cond t59
          (some (Sum.inl (a_1, b_1, (), o0)))
          ((Tests30 k a_1 t28).bind fun t62 =>
          (Tests30 k b_1 t28).bind fun t65 =>
          (Concat13 k [t62.1, t65.1]).bind fun t67 =>
          Option.bind
            (loopN (Find7.l0 k t67) k (a_1, b_1, (), 0, o0) : Option (((ByteArray × ((List (Int × (ByteArray × (Int × (List (Int × (Int × (Int × (List (Int × (Int × (Int × Int)))))))))))) × ((List (Int × (Int × (Int × (List (Int × (Int × (Int × Int)))))))) × ((List (Int × (Int × (Int × (List (Int × (Int × (Int × Int)))))))) × (List (Int × (Int × (Int × (List (Int × (Int × (Int × Int)))))))))))) × ((ByteArray × ((List (Int × (ByteArray × (Int × (List (Int × (Int × (Int × (List (Int × (Int × (Int × Int)))))))))))) × ((List (Int × (Int × (Int × (List (Int × (Int × (Int × Int)))))))) × ((List (Int × (Int × (Int × (List (Int × (Int × (Int × Int)))))))) × (List (Int × (Int × (Int × (List (Int × (Int × (Int × Int)))))))))))) × (Unit × (Unit × (List Int))))) ⊕ (((ByteArray × ((List (Int × (ByteArray × (Int × (List (Int × (Int × (Int × (List (Int × (Int × (Int × Int)))))))))))) × ((List (Int × (Int × (Int × (List (Int × (Int × (Int × Int)))))))) × ((List (Int × (Int × (Int × (List (Int × (Int × (Int × Int)))))))) × (List (Int × (Int × (Int × (List (Int × (Int × (Int × Int)))))))))))) × ((ByteArray × ((List (Int × (ByteArray × (Int × (List (Int × (Int × (Int × (List (Int × (Int × (Int × Int)))))))))))) × ((List (Int × (Int × (Int × (List (Int × (Int × (Int × Int)))))))) × ((List (Int × (Int × (Int × (List (Int × (Int × (Int × Int)))))))) × (List (Int × (Int × (Int × (List (Int × (Int × (Int × Int)))))))))))) × (Unit × (Unit × (List Int))))) ⊕ (((ByteArray × ((List (Int × (ByteArray × (Int × (List (Int × (Int × (Int × (List (Int × (Int × (Int × Int)))))))))))) × ((List (Int × (Int × (Int × (List (Int × (Int × (Int × Int)))))))) × ((List (Int × (Int × (Int × (List (Int × (Int × (Int × Int)))))))) × (List (Int × (Int × (Int × (List (Int × (Int × (Int × Int)))))))))))) × ((ByteArray × ((List (Int × (ByteArray × (Int × (List (Int × (Int × (Int × (List (Int × (Int × (Int × Int)))))))))))) × ((List (Int × (Int × (Int × (List (Int × (Int × (Int × Int)))))))) × ((List (Int × (Int × (Int × (List (Int × (Int × (Int × Int)))))))) × (List (Int × (Int × (Int × (List (Int × (Int × (Int × Int)))))))))))) × (Unit × (Int × (Unit × (List Int)))))) ⊕ ((Unit × (Unit × (List Int))) ⊕ ((((List Int) × (List Int)) × (Bool × (Int × Unit))) × Unit)))))) (joined fun ((a_3, b_3, _, o0_2) : ((ByteArray × ((List (Int × (ByteArray × (Int × (List (Int × (Int × (Int × (List (Int × (Int × (Int × Int)))))))))))) × ((List (Int × (Int × (Int × (List (Int × (Int × (Int × Int)))))))) × ((List (Int × (Int × (Int × (List (Int × (Int × (Int × Int)))))))) × (List (Int × (Int × (Int × (List (Int × (Int × (Int × Int)))))))))))) × ((ByteArray × ((List (Int × (ByteArray × (Int × (List (Int × (Int × (Int × (List (Int × (Int × (Int × Int)))))))))))) × ((List (Int × (Int × (Int × (List (Int × (Int × (Int × Int)))))))) × ((List (Int × (Int × (Int × (List (Int × (Int × (Int × Int)))))))) × (List (Int × (Int × (Int × (List (Int × (Int × (Int × Int)))))))))))) × (Unit × (Unit × (List Int)))))) =>
            some (Sum.inl (a_3, b_3, (), o0_2)))) : Option (((ByteArray × ((List (Int × (ByteArray × (Int × (List (Int × (Int × (Int × (List (Int × (Int × (Int × Int)))))))))))) × ((List (Int × (Int × (Int × (List (Int × (Int × (Int × Int)))))))) × ((List (Int × (Int × (Int × (List (Int × (Int × (Int × Int)))))))) × (List (Int × (Int × (Int × (List (Int × (Int × (Int × Int)))))))))))) × ((ByteArray × ((List (Int × (ByteArray × (Int × (List (Int × (Int × (Int × (List (Int × (Int × (Int × Int)))))))))))) × ((List (Int × (Int × (Int × (List (Int × (Int × (Int × Int)))))))) × ((List (Int × (Int × (Int × (List (Int × (Int × (Int × Int)))))))) × (List (Int × (Int × (Int × (List (Int × (Int × (Int × Int)))))))))))) × (Unit × (Unit × (List Int))))) ⊕ (((ByteArray × ((List (Int × (ByteArray × (Int × (List (Int × (Int × (Int × (List (Int × (Int × (Int × Int)))))))))))) × ((List (Int × (Int × (Int × (List (Int × (Int × (Int × Int)))))))) × ((List (Int × (Int × (Int × (List (Int × (Int × (Int × Int)))))))) × (List (Int × (Int × (Int × (List (Int × (Int × (Int × Int)))))))))))) × ((ByteArray × ((List (Int × (ByteArray × (Int × (List (Int × (Int × (Int × (List (Int × (Int × (Int × Int)))))))))))) × ((List (Int × (Int × (Int × (List (Int × (Int × (Int × Int)))))))) × ((List (Int × (Int × (Int × (List (Int × (Int × (Int × Int)))))))) × (List (Int × (Int × (Int × (List (Int × (Int × (Int × Int)))))))))))) × (Unit × (Int × (Unit × (List Int)))))) ⊕ ((Unit × (Unit × (List Int))) ⊕ ((((List Int) × (List Int)) × (Bool × (Int × Unit))) × Unit))))) (joined fun ((a_4, b_4, _, o0_3) : ((ByteArray × ((List (Int × (ByteArray × (Int × (List (Int × (Int × (Int × (List (Int × (Int × (Int × Int)))))))))))) × ((List (Int × (Int × (Int × (List (Int × (Int × (Int × Int)))))))) × ((List (Int × (Int × (Int × (List (Int × (Int × (Int × Int)))))))) × (List (Int × (Int × (Int × (List (Int × (Int × (Int × Int)))))))))))) × ((ByteArray × ((List (Int × (ByteArray × (Int × (List (Int × (Int × (Int × (List (Int × (Int × (Int × Int)))))))))))) × ((List (Int × (Int × (Int × (List (Int × (Int × (Int × Int)))))))) × ((List (Int × (Int × (Int × (List (Int × (Int × (Int × Int)))))))) × (List (Int × (Int × (Int × (List (Int × (Int × (Int × Int)))))))))))) × (Unit × (Unit × (List Int)))))) =>
        some (Sum.inl (a_4, b_4, (), (w64 (t28 + 1)), o0_3))))
      (some (Sum.inr (Sum.inl ((), o0))))
def Find7 (k : Nat) (a : (ByteArray × ((List (Int × (ByteArray × (Int × (List (Int × (Int × (Int × (List (Int × (Int × (Int × Int)))))))))))) × ((List (Int × (Int × (Int × (List (Int × (Int × (Int × Int)))))))) × ((List (Int × (Int × (Int × (List (Int × (Int × (Int × Int)))))))) × (List (Int × (Int × (Int × (List (Int × (Int × (Int × Int))))))))))))) (b : (ByteArray × ((List (Int × (ByteArray × (Int × (List (Int × (Int × (Int × (List (Int × (Int × (Int × Int)))))))))))) × ((List (Int × (Int × (Int × (List (Int × (Int × (Int × Int)))))))) × ((List (Int × (Int × (Int × (List (Int × (Int × (Int × Int)))))))) × (List (Int × (Int × (Int × (List (Int × (Int × (Int × Int))))))))))))) : Option ((((List Int) × (List Int)) × (Bool × (Int × Unit))) × Unit) :=
  (Check8 k a).bind fun t17 =>
  cond (t17.1 != 0)
    (some ((([], (List.replicate 9 0)), false, t17.1, ()), ()))
    ((Check8 k b).bind fun t23 =>
    cond (t23.1 != 0)
      (some ((([], (List.replicate 9 0)), false, t23.1, ()), ()))
      (Option.bind
        (loopN (Find7.l1 k) k (a, b, (), 0, (), (List.replicate 9 0)) : Option ((Unit × (Unit × (List Int))) ⊕ ((((List Int) × (List Int)) × (Bool × (Int × Unit))) × Unit))) (joined fun ((_, _) : (Unit × (Unit × (List Int)))) =>
        some ((([], (List.replicate 9 0)), false, 0, ()), ()))))
def Find7.A : Ann := { conds := [], blocks := [(0, ⟨[(4, .ptr 0 [])], [(0, .var (.st (.pair .nil (.arr 9 (.int .i64)))))], 1, [], 2417851639229258081025632⟩), (1, ⟨[(2, .fp (.st (.pair .str (.pair (.sl (.st (.pair (.int .i64) (.pair .str (.pair (.int .i64) (.sl (.st (.pair (.int .i64) (.pair (.int .i64) (.pair (.int .i64) (.sl (.st (.pair (.int .i64) (.pair (.int .i64) (.pair (.int .i64) (.int .i64)))))))))))))))) (.pair (.sl (.st (.pair (.int .i64) (.pair (.int .i64) (.pair (.int .i64) (.sl (.st (.pair (.int .i64) (.pair (.int .i64) (.pair (.int .i64) (.int .i64))))))))))) (.pair (.sl (.st (.pair (.int .i64) (.pair (.int .i64) (.pair (.int .i64) (.sl (.st (.pair (.int .i64) (.pair (.int .i64) (.pair (.int .i64) (.int .i64))))))))))) (.sl (.st (.pair (.int .i64) (.pair (.int .i64) (.pair (.int .i64) (.sl (.st (.pair (.int .i64) (.pair (.int .i64) (.pair (.int .i64) (.int .i64))))))))))))))))), (3, .fp (.st (.pair .str (.pair (.sl (.st (.pair (.int .i64) (.pair .str (.pair (.int .i64) (.sl (.st (.pair (.int .i64) (.pair (.int .i64) (.pair (.int .i64) (.sl (.st (.pair (.int .i64) (.pair (.int .i64) (.pair (.int .i64) (.int .i64)))))))))))))))) (.pair (.sl (.st (.pair (.int .i64) (.pair (.int .i64) (.pair (.int .i64) (.sl (.st (.pair (.int .i64) (.pair (.int .i64) (.pair (.int .i64) (.int .i64))))))))))) (.pair (.sl (.st (.pair (.int .i64) (.pair (.int .i64) (.pair (.int .i64) (.sl (.st (.pair (.int .i64) (.pair (.int .i64) (.pair (.int .i64) (.int .i64))))))))))) (.sl (.st (.pair (.int .i64) (.pair (.int .i64) (.pair (.int .i64) (.sl (.st (.pair (.int .i64) (.pair (.int .i64) (.pair (.int .i64) (.int .i64))))))))))))))))), (4, .ptr 0 [])], [(0, .var (.st (.pair .nil (.arr 9 (.int .i64)))))], 1, [], 1208925819614628101013088⟩), (2, ⟨[(2, .fp (.st (.pair .str (.pair (.sl (.st (.pair (.int .i64) (.pair .str (.pair (.int .i64) (.sl (.st (.pair (.int .i64) (.pair (.int .i64) (.pair (.int .i64) (.sl (.st (.pair (.int .i64) (.pair (.int .i64) (.pair (.int .i64) (.int .i64)))))))))))))))) (.pair (.sl (.st (.pair (.int .i64) (.pair (.int .i64) (.pair (.int .i64) (.sl (.st (.pair (.int .i64) (.pair (.int .i64) (.pair (.int .i64) (.int .i64))))))))))) (.pair (.sl (.st (.pair (.int .i64) (.pair (.int .i64) (.pair (.int .i64) (.sl (.st (.pair (.int .i64) (.pair (.int .i64) (.pair (.int .i64) (.int .i64))))))))))) (.sl (.st (.pair (.int .i64) (.pair (.int .i64) (.pair (.int .i64) (.sl (.st (.pair (.int .i64) (.pair (.int .i64) (.pair (.int .i64) (.int .i64))))))))))))))))), (3, .fp (.st (.pair .str (.pair (.sl (.st (.pair (.int .i64) (.pair .str (.pair (.int .i64) (.sl (.st (.pair (.int .i64) (.pair (.int .i64) (.pair (.int .i64) (.sl (.st (.pair (.int .i64) (.pair (.int .i64) (.pair (.int .i64) (.int .i64)))))))))))))))) (.pair (.sl (.st (.pair (.int .i64) (.pair (.int .i64) (.pair (.int .i64) (.sl (.st (.pair (.int .i64) (.pair (.int .i64) (.pair (.int .i64) (.int .i64))))))))))) (.pair (.sl (.st (.pair (.int .i64) (.pair (.int .i64) (.pair (.int .i64) (.sl (.st (.pair (.int .i64) (.pair (.int .i64) (.pair (.int .i64) (.int .i64))))))))))) (.sl (.st (.pair (.int .i64) (.pair (.int .i64) (.pair (.int .i64) (.sl (.st (.pair (.int .i64) (.pair (.int .i64) (.pair (.int .i64) (.int .i64))))))))))))))))), (4, .ptr 0 [])], [(0, .var (.st (.pair .nil (.arr 9 (.int .i64)))))], 1, [], 1208335523804270469087328⟩)], loops := [(8, ⟨[(2, .fp (.st (.pair .str (.pair (.sl (.st (.pair (.int .i64) (.pair .str (.pair (.int .i64) (.sl (.st (.pair (.int .i64) (.pair (.int .i64) (.pair (.int .i64) (.sl (.st (.pair (.int .i64) (.pair (.int .i64) (.pair (.int .i64) (.int .i64)))))))))))))))) (.pair (.sl (.st (.pair (.int .i64) (.pair (.int .i64) (.pair (.int .i64) (.sl (.st (.pair (.int .i64) (.pair (.int .i64) (.pair (.int .i64) (.int .i64))))))))))) (.pair (.sl (.st (.pair (.int .i64) (.pair (.int .i64) (.pair (.int .i64) (.sl (.st (.pair (.int .i64) (.pair (.int .i64) (.pair (.int .i64) (.int .i64))))))))))) (.sl (.st (.pair (.int .i64) (.pair (.int .i64) (.pair (.int .i64) (.sl (.st (.pair (.int .i64) (.pair (.int .i64) (.pair (.int .i64) (.int .i64))))))))))))))))), (3, .fp (.st (.pair .str (.pair (.sl (.st (.pair (.int .i64) (.pair .str (.pair (.int .i64) (.sl (.st (.pair (.int .i64) (.pair (.int .i64) (.pair (.int .i64) (.sl (.st (.pair (.int .i64) (.pair (.int .i64) (.pair (.int .i64) (.int .i64)))))))))))))))) (.pair (.sl (.st (.pair (.int .i64) (.pair (.int .i64) (.pair (.int .i64) (.sl (.st (.pair (.int .i64) (.pair (.int .i64) (.pair (.int .i64) (.int .i64))))))))))) (.pair (.sl (.st (.pair (.int .i64) (.pair (.int .i64) (.pair (.int .i64) (.sl (.st (.pair (.int .i64) (.pair (.int .i64) (.pair (.int .i64) (.int .i64))))))))))) (.sl (.st (.pair (.int .i64) (.pair (.int .i64) (.pair (.int .i64) (.sl (.st (.pair (.int .i64) (.pair (.int .i64) (.pair (.int .i64) (.int .i64))))))))))))))))), (4, .ptr 0 []), (28, .int .i64)], [(0, .var (.st (.pair .nil (.arr 9 (.int .i64)))))], 1, [], 2417851639229258081025632⟩), (14, ⟨[(2, .fp (.st (.pair .str (.pair (.sl (.st (.pair (.int .i64) (.pair .str (.pair (.int .i64) (.sl (.st (.pair (.int .i64) (.pair (.int .i64) (.pair (.int .i64) (.sl (.st (.pair (.int .i64) (.pair (.int .i64) (.pair (.int .i64) (.int .i64)))))))))))))))) (.pair (.sl (.st (.pair (.int .i64) (.pair (.int .i64) (.pair (.int .i64) (.sl (.st (.pair (.int .i64) (.pair (.int .i64) (.pair (.int .i64) (.int .i64))))))))))) (.pair (.sl (.st (.pair (.int .i64) (.pair (.int .i64) (.pair (.int .i64) (.sl (.st (.pair (.int .i64) (.pair (.int .i64) (.pair (.int .i64) (.int .i64))))))))))) (.sl (.st (.pair (.int .i64) (.pair (.int .i64) (.pair (.int .i64) (.sl (.st (.pair (.int .i64) (.pair (.int .i64) (.pair (.int .i64) (.int .i64))))))))))))))))), (3, .fp (.st (.pair .str (.pair (.sl (.st (.pair (.int .i64) (.pair .str (.pair (.int .i64) (.sl (.st (.pair (.int .i64) (.pair (.int .i64) (.pair (.int .i64) (.sl (.st (.pair (.int .i64) (.pair (.int .i64) (.pair (.int .i64) (.int .i64)))))))))))))))) (.pair (.sl (.st (.pair (.int .i64) (.pair (.int .i64) (.pair (.int .i64) (.sl (.st (.pair (.int .i64) (.pair (.int .i64) (.pair (.int .i64) (.int .i64))))))))))) (.pair (.sl (.st (.pair (.int .i64) (.pair (.int .i64) (.pair (.int .i64) (.sl (.st (.pair (.int .i64) (.pair (.int .i64) (.pair (.int .i64) (.int .i64))))))))))) (.sl (.st (.pair (.int .i64) (.pair (.int .i64) (.pair (.int .i64) (.sl (.st (.pair (.int .i64) (.pair (.int .i64) (.pair (.int .i64) (.int .i64))))))))))))))))), (4, .ptr 0 []), (69, .int .i64)], [(0, .var (.st (.pair .nil (.arr 9 (.int .i64)))))], 1, [], 1208335523804270469087328⟩)], keeps := [2, 3, 10, 12, 15], orders := [(13, [(0, .strong), (1, .strong), (3, .strong), (4, .strong), (9, .strong), (2, .eff true), (5, .eff true), (6, .eff true), (7, .eff true), (8, .strong)])] }
def Find7.S : Sig := { f := 7, params := [.st (.pair .str (.pair (.sl (.st (.pair (.int .i64) (.pair .str (.pair (.int .i64) (.sl (.st (.pair (.int .i64) (.pair (.int .i64) (.pair (.int .i64) (.sl (.st (.pair (.int .i64) (.pair (.int .i64) (.pair (.int .i64) (.int .i64)))))))))))))))) (.pair (.sl (.st (.pair (.int .i64) (.pair (.int .i64) (.pair (.int .i64) (.sl (.st (.pair (.int .i64) (.pair (.int .i64) (.pair (.int .i64) (.int .i64))))))))))) (.pair (.sl (.st (.pair (.int .i64) (.pair (.int .i64) (.pair (.int .i64) (.sl (.st (.pair (.int .i64) (.pair (.int .i64) (.pair (.int .i64) (.int .i64))))))))))) (.sl (.st (.pair (.int .i64) (.pair (.int .i64) (.pair (.int .i64) (.sl (.st (.pair (.int .i64) (.pair (.int .i64) (.pair (.int .i64) (.int .i64))))))))))))))), .st (.pair .str (.pair (.sl (.st (.pair (.int .i64) (.pair .str (.pair (.int .i64) (.sl (.st (.pair (.int .i64) (.pair (.int .i64) (.pair (.int .i64) (.sl (.st (.pair (.int .i64) (.pair (.int .i64) (.pair (.int .i64) (.int .i64)))))))))))))))) (.pair (.sl (.st (.pair (.int .i64) (.pair (.int .i64) (.pair (.int .i64) (.sl (.st (.pair (.int .i64) (.pair (.int .i64) (.pair (.int .i64) (.int .i64))))))))))) (.pair (.sl (.st (.pair (.int .i64) (.pair (.int .i64) (.pair (.int .i64) (.sl (.st (.pair (.int .i64) (.pair (.int .i64) (.pair (.int .i64) (.int .i64))))))))))) (.sl (.st (.pair (.int .i64) (.pair (.int .i64) (.pair (.int .i64) (.sl (.st (.pair (.int .i64) (.pair (.int .i64) (.pair (.int .i64) (.int .i64)))))))))))))))], objs := [], res := .tup (.pair (.st (.pair (.sl (.int .u8)) (.arr 9 (.int .i64)))) (.pair .bool (.pair (.int .i64) .unit))), outs := [], fix := [], run := fun k ds os => Find7 k ds.1 ds.2 }
def Find7.G : List Sig := [Check8.S, Concat13.S, Find11.S, Tells31.S, Tests30.S, alike29.S]
theorem Find7.eq (k : Nat) : ∀ ds os, Find7.S.run k ds os = runF ⟨types, Find7.G, Find7.A, k, 0, []⟩ Tryz.f7 (codeOf Tryz.f7) Find7.S.params Find7.S.objs Find7.S.res Find7.S.outs ds os := by
  intro ds os; kernel_rfl
theorem Find7.dr : DrOk Tryz.prog Find7.A (codeOf Tryz.f7) := ⟨by kernel_rfl, by kernel_rfl⟩
theorem Find7.ok (k : Nat) : SoundAt Tryz.prog k Find7.S :=
  runF_sound (X := ⟨types, Find7.G, Find7.A, k, 0, []⟩) types_ok (mem_all (⟨Check8.ok k, ⟨Concat13.ok k, ⟨Find11.ok k, ⟨Tells31.ok k, ⟨Tests30.ok k, ⟨alike29.ok k, trivial⟩⟩⟩⟩⟩⟩)) (fn := Tryz.f7) (c := codeOf Tryz.f7) rfl (by kernel_rfl) rfl rfl Find7.dr (Find7.eq k)
end Go.Proofs.YtcppmlgnceldmaaGreat.Gf

/- Go functions as plain Lean functions, and their contracts. -/
set_option linter.unusedVariables false
set_option maxRecDepth 100000
noncomputable section
namespace Go.Proofs.YtcppmlgnceldmaaGreat.Gf
open Go Go.Proofs.YtcppmlgnceldmaaGreat.Gp
def two118 (k : Nat) (do_ : Int) (to : Int) (from_ : Int) : Option ((Int × (Int × (Int × Int))) × Unit) :=
  some ((do_, to, from_, 0), ())
def two118.A : Ann := { conds := [], blocks := [], loops := [], keeps := [], orders := [] }
def two118.S : Sig := { f := 118, params := [.int .i64, .int .i64, .int .i64], objs := [], res := .st (.pair (.int .i64) (.pair (.int .i64) (.pair (.int .i64) (.int .i64)))), outs := [], fix := [], run := fun k ds os => two118 k ds.1 ds.2.1 ds.2.2 }
def two118.G : List Sig := []
theorem two118.eq (k : Nat) : ∀ ds os, two118.S.run k ds os = runF ⟨types, two118.G, two118.A, k, 0, []⟩ Tryz.f118 (codeOf Tryz.f118) two118.S.params two118.S.objs two118.S.res two118.S.outs ds os := by
  intro ds os; kernel_rfl
theorem two118.dr : DrOk Tryz.prog two118.A (codeOf Tryz.f118) := ⟨by kernel_rfl, by kernel_rfl⟩
theorem two118.ok (k : Nat) : SoundAt Tryz.prog k two118.S :=
  runF_sound (X := ⟨types, two118.G, two118.A, k, 0, []⟩) types_ok (fun s hs => absurd hs List.not_mem_nil) (fn := Tryz.f118) (c := codeOf Tryz.f118) rfl (by kernel_rfl) rfl rfl two118.dr (two118.eq k)

def one119 (k : Nat) (do_ : Int) (to : Int) : Option ((Int × (Int × (Int × Int))) × Unit) :=
  some ((do_, to, 0, 0), ())
def one119.A : Ann := { conds := [], blocks := [], loops := [], keeps := [], orders := [] }
def one119.S : Sig := { f := 119, params := [.int .i64, .int .i64], objs := [], res := .st (.pair (.int .i64) (.pair (.int .i64) (.pair (.int .i64) (.int .i64)))), outs := [], fix := [], run := fun k ds os => one119 k ds.1 ds.2 }
def one119.G : List Sig := []
theorem one119.eq (k : Nat) : ∀ ds os, one119.S.run k ds os = runF ⟨types, one119.G, one119.A, k, 0, []⟩ Tryz.f119 (codeOf Tryz.f119) one119.S.params one119.S.objs one119.S.res one119.S.outs ds os := by
  intro ds os; kernel_rfl
theorem one119.dr : DrOk Tryz.prog one119.A (codeOf Tryz.f119) := ⟨by kernel_rfl, by kernel_rfl⟩
theorem one119.ok (k : Nat) : SoundAt Tryz.prog k one119.S :=
  runF_sound (X := ⟨types, one119.G, one119.A, k, 0, []⟩) types_ok (fun s hs => absurd hs List.not_mem_nil) (fn := Tryz.f119) (c := codeOf Tryz.f119) rfl (by kernel_rfl) rfl rfl one119.dr (one119.eq k)

def zero178 (k : Nat) : Option ((Int × (Int × (Int × Int))) × Unit) :=
  some ((2, 8, 0, 0), ())
def zero178.A : Ann := { conds := [], blocks := [], loops := [], keeps := [], orders := [] }
def zero178.S : Sig := { f := 178, params := [], objs := [], res := .st (.pair (.int .i64) (.pair (.int .i64) (.pair (.int .i64) (.int .i64)))), outs := [], fix := [], run := fun k ds os => zero178 k }
def zero178.G : List Sig := []
theorem zero178.eq (k : Nat) : ∀ ds os, zero178.S.run k ds os = runF ⟨types, zero178.G, zero178.A, k, 0, []⟩ Tryz.f178 (codeOf Tryz.f178) zero178.S.params zero178.S.objs zero178.S.res zero178.S.outs ds os := by
  intro ds os; kernel_rfl
theorem zero178.dr : DrOk Tryz.prog zero178.A (codeOf Tryz.f178) := ⟨by kernel_rfl, by kernel_rfl⟩
theorem zero178.ok (k : Nat) : SoundAt Tryz.prog k zero178.S :=
  runF_sound (X := ⟨types, zero178.G, zero178.A, k, 0, []⟩) types_ok (fun s hs => absurd hs List.not_mem_nil) (fn := Tryz.f178) (c := codeOf Tryz.f178) rfl (by kernel_rfl) rfl rfl zero178.dr (zero178.eq k)

def rd81 (k : Nat) (at_ : Int) (reg : Int) (_ : Unit) (o0 : (List (Int × (Int × (Int × Int))))) : Option ((Int × (Int × (Int × Unit))) × (List (Int × (Int × (Int × Int))))) :=
  some ((1, at_, reg, ()), o0)
def rd81.A : Ann := { conds := [], blocks := [], loops := [], keeps := [], orders := [] }
def rd81.S : Sig := { f := 81, params := [.int .i64, .int .i64, .ms 0], objs := [.row (.st (.pair (.int .i64) (.pair (.int .i64) (.pair (.int .i64) (.int .i64)))))], res := .st (.pair (.int .i64) (.pair (.int .i64) (.pair (.int .i64) (.ms 0)))), outs := [.row (.st (.pair (.int .i64) (.pair (.int .i64) (.pair (.int .i64) (.int .i64)))))], fix := [], run := fun k ds os => rd81 k ds.1 ds.2.1 ds.2.2 os }
def rd81.G : List Sig := []
theorem rd81.eq (k : Nat) : ∀ ds os, rd81.S.run k ds os = runF ⟨types, rd81.G, rd81.A, k, 0, []⟩ Tryz.f81 (codeOf Tryz.f81) rd81.S.params rd81.S.objs rd81.S.res rd81.S.outs ds os := by
  intro ds os; kernel_rfl
theorem rd81.dr : DrOk Tryz.prog rd81.A (codeOf Tryz.f81) := ⟨by kernel_rfl, by kernel_rfl⟩
theorem rd81.ok (k : Nat) : SoundAt Tryz.prog k rd81.S :=
  runF_sound (X := ⟨types, rd81.G, rd81.A, k, 0, []⟩) types_ok (fun s hs => absurd hs List.not_mem_nil) (fn := Tryz.f81) (c := codeOf Tryz.f81) rfl (by kernel_rfl) rfl rfl rd81.dr (rd81.eq k)

def no117 (k : Nat) (steps : (List (Int × (Int × (Int × Int))))) : Option ((Int × (Int × (Int × (List (Int × (Int × (Int × Int))))))) × Unit) :=
  some ((0, 0, 0, steps), ())
def no117.A : Ann := { conds := [], blocks := [], loops := [], keeps := [], orders := [] }
def no117.S : Sig := { f := 117, params := [.sl (.st (.pair (.int .i64) (.pair (.int .i64) (.pair (.int .i64) (.int .i64)))))], objs := [], res := .st (.pair (.int .i64) (.pair (.int .i64) (.pair (.int .i64) (.sl (.st (.pair (.int .i64) (.pair (.int .i64) (.pair (.int .i64) (.int .i64))))))))), outs := [], fix := [], run := fun k ds os => no117 k ds }
def no117.G : List Sig := []
theorem no117.eq (k : Nat) : ∀ ds os, no117.S.run k ds os = runF ⟨types, no117.G, no117.A, k, 0, []⟩ Tryz.f117 (codeOf Tryz.f117) no117.S.params no117.S.objs no117.S.res no117.S.outs ds os := by
  intro ds os; kernel_rfl
theorem no117.dr : DrOk Tryz.prog no117.A (codeOf Tryz.f117) := ⟨by kernel_rfl, by kernel_rfl⟩
theorem no117.ok (k : Nat) : SoundAt Tryz.prog k no117.S :=
  runF_sound (X := ⟨types, no117.G, no117.A, k, 0, []⟩) types_ok (fun s hs => absurd hs List.not_mem_nil) (fn := Tryz.f117) (c := codeOf Tryz.f117) rfl (by kernel_rfl) rfl rfl no117.dr (no117.eq k)

def rd81' (k : Nat) (at_ : Int) (reg : Int) (steps : (List (Int × (Int × (Int × Int))))) : Option ((Int × (Int × (Int × (List (Int × (Int × (Int × Int))))))) × Unit) :=
  some ((1, at_, reg, steps), ())
def rd81'.A : Ann := { conds := [], blocks := [], loops := [], keeps := [], orders := [] }
def rd81'.S : Sig := { f := 81, params := [.int .i64, .int .i64, .sl (.st (.pair (.int .i64) (.pair (.int .i64) (.pair (.int .i64) (.int .i64)))))], objs := [], res := .st (.pair (.int .i64) (.pair (.int .i64) (.pair (.int .i64) (.sl (.st (.pair (.int .i64) (.pair (.int .i64) (.pair (.int .i64) (.int .i64))))))))), outs := [], fix := [], run := fun k ds os => rd81' k ds.1 ds.2.1 ds.2.2 }
def rd81'.G : List Sig := []
theorem rd81'.eq (k : Nat) : ∀ ds os, rd81'.S.run k ds os = runF ⟨types, rd81'.G, rd81'.A, k, 0, []⟩ Tryz.f81 (codeOf Tryz.f81) rd81'.S.params rd81'.S.objs rd81'.S.res rd81'.S.outs ds os := by
  intro ds os; kernel_rfl
theorem rd81'.dr : DrOk Tryz.prog rd81'.A (codeOf Tryz.f81) := ⟨by kernel_rfl, by kernel_rfl⟩
theorem rd81'.ok (k : Nat) : SoundAt Tryz.prog k rd81'.S :=
  runF_sound (X := ⟨types, rd81'.G, rd81'.A, k, 0, []⟩) types_ok (fun s hs => absurd hs List.not_mem_nil) (fn := Tryz.f81) (c := codeOf Tryz.f81) rfl (by kernel_rfl) rfl rfl rd81'.dr (rd81'.eq k)

def jump82 (k : Nat) (to : Int) : Option (Unit × (List (Int × (Int × (Int × Int))))) :=
  (two118 k 18 to 5).bind fun t4 =>
  (two118 k 19 to 6).bind fun t6 =>
  some ((), [t4.1, t6.1])
def jump82.A : Ann := { conds := [], blocks := [], loops := [], keeps := [], orders := [] }
def jump82.S : Sig := { f := 82, params := [.int .i64], objs := [], res := .ms 0, outs := [.row (.st (.pair (.int .i64) (.pair (.int .i64) (.pair (.int .i64) (.int .i64)))))], fix := [], run := fun k ds os => jump82 k ds }
def jump82.G : List Sig := [two118.S]
theorem jump82.eq (k : Nat) : ∀ ds os, jump82.S.run k ds os = runF ⟨types, jump82.G, jump82.A, k, 0, []⟩ Tryz.f82 (codeOf Tryz.f82) jump82.S.params jump82.S.objs jump82.S.res jump82.S.outs ds os := by
  intro ds os; kernel_rfl
theorem jump82.dr : DrOk Tryz.prog jump82.A (codeOf Tryz.f82) := ⟨by kernel_rfl, by kernel_rfl⟩
theorem jump82.ok (k : Nat) : SoundAt Tryz.prog k jump82.S :=
  runF_sound (X := ⟨types, jump82.G, jump82.A, k, 0, []⟩) types_ok (mem_all (⟨two118.ok k, trivial⟩)) (fn := Tryz.f82) (c := codeOf Tryz.f82) rfl (by kernel_rfl) rfl rfl jump82.dr (jump82.eq k)

def lead150 (k : Nat) (mode : Int) : Option (Unit × (List (Int × (Int × (Int × (List (Int × (Int × (Int × Int))))))))) :=
  (zero178 k).bind fun t6 =>
  (two118 k 18 8 5).bind fun t7 =>
  (rd81 k 0 5 () [t6.1, t7.1]).bind fun t9 =>
  (two118 k 18 8 5).bind fun t10 =>
  (rd81 k 0 5 () [t10.1]).bind fun t12 =>
  (two118 k 19 8 5).bind fun t13 =>
  (rd81 k 0 5 () [t13.1]).bind fun t15 =>
  cond (mode == 2)
    (some ((), [(t9.1.1, t9.1.2.1, t9.1.2.2.1, t9.2)]))
    (cond (mode == 3)
      ((two118 k 22 8 1).bind fun t25 =>
      (if room (List.length t9.2 + List.length [t25.1]) 32 then some () else none).bind fun _ =>
      (two118 k 20 5 8).bind fun t30 =>
      (zero178 k).bind fun t31 =>
      (two118 k 18 8 5).bind fun t32 =>
      (no117 k [t30.1, t31.1, t32.1]).bind fun t34 =>
      some ((), [(t9.1.1, t9.1.2.1, t9.1.2.2.1, (t9.2 ++ [t25.1])), t34.1]))
      (cond (mode == 4)
        (some ((), [(t12.1.1, t12.1.2.1, t12.1.2.2.1, t12.2), (t15.1.1, t15.1.2.1, t15.1.2.2.1, t15.2)]))
        (cond (mode == 5)
          ((two118 k 22 8 1).bind fun t45 =>
          (no117 k [t45.1]).bind fun t47 =>
          some ((), [(t12.1.1, t12.1.2.1, t12.1.2.2.1, t12.2), (t15.1.1, t15.1.2.1, t15.1.2.2.1, t15.2), t47.1]))
          (cond (mode == 6)
            ((two118 k 22 8 2).bind fun t53 =>
            (no117 k [t53.1]).bind fun t55 =>
            some ((), [(t12.1.1, t12.1.2.1, t12.1.2.2.1, t12.2), (t15.1.1, t15.1.2.1, t15.1.2.2.1, t15.2), t55.1]))
            (cond (mode == 8)
              ((rd81' k 2 5 []).bind fun t60 =>
              (jump82 k 8).bind fun t61 =>
              (two118 k 22 8 2).bind fun t62 =>
              (if room (List.length t61.2 + List.length [t62.1]) 32 then some () else none).bind fun _ =>
              (rd81 k 3 6 () (t61.2 ++ [t62.1])).bind fun t65 =>
              some ((), [(t9.1.1, t9.1.2.1, t9.1.2.2.1, t9.2), t60.1, (t65.1.1, t65.1.2.1, t65.1.2.2.1, t65.2)]))
              (some ((), [])))))))
def lead150.A : Ann := { conds := [], blocks := [], loops := [], keeps := [], orders := [(8, [(0, .strong), (1, .strong), (2, .eff true), (3, .eff true), (4, .eff false), (5, .strong), (6, .eff false)]), (9, [(0, .strong), (1, .eff true), (2, .eff true), (3, .eff true), (4, .eff true), (5, .eff true), (6, .eff true), (7, .strong)]), (13, [(0, .strong), (1, .strong), (2, .eff true), (3, .eff true), (4, .eff true), (5, .eff true), (6, .strong)]), (15, [(0, .strong), (1, .strong), (2, .eff true), (3, .eff true), (4, .eff true), (5, .eff true), (6, .strong)]), (17, [(0, .weak), (1, .eff true), (2, .eff true), (3, .eff true), (4, .eff true), (5, .eff false), (6, .eff false), (7, .eff true), (8, .strong)])], turns := [(16, [⟨1, [(0, .unit)], .undef⟩])] }
def lead150.S : Sig := { f := 150, params := [.int .i64], objs := [], res := .ms 0, outs := [.row (.st (.pair (.int .i64) (.pair (.int .i64) (.pair (.int .i64) (.sl (.st (.pair (.int .i64) (.pair (.int .i64) (.pair (.int .i64) (.int .i64))))))))))], fix := [], run := fun k ds os => lead150 k ds }
def lead150.G : List Sig := [jump82.S, no117.S, rd81.S, rd81'.S, two118.S, zero178.S]
theorem lead150.eq (k : Nat) : ∀ ds os, lead150.S.run k ds os = runF ⟨types, lead150.G, lead150.A, k, 0, []⟩ Tryz.f150 (codeOf Tryz.f150) lead150.S.params lead150.S.objs lead150.S.res lead150.S.outs ds os := by
  intro ds os; kernel_rfl
theorem lead150.dr : DrOk Tryz.prog lead150.A (codeOf Tryz.f150) := ⟨by kernel_rfl, by kernel_rfl⟩
theorem lead150.ok (k : Nat) : SoundAt Tryz.prog k lead150.S :=
  runF_sound (X := ⟨types, lead150.G, lead150.A, k, 0, []⟩) types_ok (mem_all (⟨jump82.ok k, ⟨no117.ok k, ⟨rd81.ok k, ⟨rd81'.ok k, ⟨two118.ok k, ⟨zero178.ok k, trivial⟩⟩⟩⟩⟩⟩)) (fn := Tryz.f150) (c := codeOf Tryz.f150) rfl (by kernel_rfl) rfl rfl lead150.dr (lead150.eq k)

def rd81'' (k : Nat) (at_ : Int) (reg : Int) (steps : (List (Int × (Int × (Int × Int))))) : Option ((Int × (Int × (Int × (List (Int × (Int × (Int × Int))))))) × Unit) :=
  some ((1, at_, reg, steps), ())
def rd81''.A : Ann := { conds := [], blocks := [], loops := [], keeps := [], orders := [] }
def rd81''.S : Sig := { f := 81, params := [.int .i64, .int .i64, .sl (.st (.pair (.int .i64) (.pair (.int .i64) (.pair (.int .i64) (.int .i64)))))], objs := [], res := .st (.pair (.int .i64) (.pair (.int .i64) (.pair (.int .i64) (.sl (.st (.pair (.int .i64) (.pair (.int .i64) (.pair (.int .i64) (.int .i64))))))))), outs := [], fix := [], run := fun k ds os => rd81'' k ds.1 ds.2.1 ds.2.2 }
def rd81''.G : List Sig := []
theorem rd81''.eq (k : Nat) : ∀ ds os, rd81''.S.run k ds os = runF ⟨types, rd81''.G, rd81''.A, k, 0, []⟩ Tryz.f81 (codeOf Tryz.f81) rd81''.S.params rd81''.S.objs rd81''.S.res rd81''.S.outs ds os := by
  intro ds os; kernel_rfl
theorem rd81''.dr : DrOk Tryz.prog rd81''.A (codeOf Tryz.f81) := ⟨by kernel_rfl, by kernel_rfl⟩
theorem rd81''.ok (k : Nat) : SoundAt Tryz.prog k rd81''.S :=
  runF_sound (X := ⟨types, rd81''.G, rd81''.A, k, 0, []⟩) types_ok (fun s hs => absurd hs List.not_mem_nil) (fn := Tryz.f81) (c := codeOf Tryz.f81) rfl (by kernel_rfl) rfl rfl rd81''.dr (rd81''.eq k)

def reads149 (k : Nat) (mode : Int) (steps : (List (Int × (Int × (Int × Int))))) : Option ((List (Int × (Int × (Int × (List (Int × (Int × (Int × Int)))))))) × Unit) :=
  Option.bind
    (cond (mode == 1)
      (some 0)
      (some 2) : Option Int) fun (at_ : Int) =>
  (lead150 k mode).bind fun t9 =>
  (rd81'' k at_ 5 steps).bind fun t12 =>
  (if room (List.length t9.2 + List.length [t12.1]) 48 then some () else none).bind fun _ =>
  some ((t9.2 ++ [t12.1]), ())
def reads149.A : Ann := { conds := [(458755, ⟨[(5, .int .i64)], [], 0, [], 32⟩)], blocks := [], loops := [], keeps := [], orders := [] }
def reads149.S : Sig := { f := 149, params := [.int .i64, .sl (.st (.pair (.int .i64) (.pair (.int .i64) (.pair (.int .i64) (.int .i64)))))], objs := [], res := .sl (.st (.pair (.int .i64) (.pair (.int .i64) (.pair (.int .i64) (.sl (.st (.pair (.int .i64) (.pair (.int .i64) (.pair (.int .i64) (.int .i64)))))))))), outs := [], fix := [], run := fun k ds os => reads149 k ds.1 ds.2 }
def reads149.G : List Sig := [lead150.S, rd81''.S]
theorem reads149.eq (k : Nat) : ∀ ds os, reads149.S.run k ds os = runF ⟨types, reads149.G, reads149.A, k, 0, []⟩ Tryz.f149 (codeOf Tryz.f149) reads149.S.params reads149.S.objs reads149.S.res reads149.S.outs ds os := by
  intro ds os; kernel_rfl
theorem reads149.dr : DrOk Tryz.prog reads149.A (codeOf Tryz.f149) := ⟨by kernel_rfl, by kernel_rfl⟩
theorem reads149.ok (k : Nat) : SoundAt Tryz.prog k reads149.S :=
  runF_sound (X := ⟨types, reads149.G, reads149.A, k, 0, []⟩) types_ok (mem_all (⟨lead150.ok k, ⟨rd81''.ok k, trivial⟩⟩)) (fn := Tryz.f149) (c := codeOf Tryz.f149) rfl (by kernel_rfl) rfl rfl reads149.dr (reads149.eq k)
end Go.Proofs.YtcppmlgnceldmaaGreat.Gf

/- Go functions as plain Lean functions, and their contracts. -/
set_option linter.unusedVariables false
set_option maxRecDepth 100000
noncomputable section
namespace Go.Proofs.YtcppmlgnceldmaaGreat.Gf
open Go Go.Proofs.YtcppmlgnceldmaaGreat.Gp
def add116 (k : Nat) (_ : Unit) (name : ByteArray) (mode : Int) (cycles : (List (Int × (Int × (Int × (List (Int × (Int × (Int × Int))))))))) (o0 : Unit) (o1 : (List (Int × (ByteArray × (Int × (List (Int × (Int × (Int × (List (Int × (Int × (Int × Int))))))))))))) : Option (Unit × (Unit × (List (Int × (ByteArray × (Int × (List (Int × (Int × (Int × (List (Int × (Int × (Int × Int)))))))))))))) :=
  let t18 : Int := (w64 ((List.length o1 : Int) + 1))
  (if room (List.length o1 + List.length [(t18, name, mode, cycles)]) 56 then some () else none).bind fun _ =>
  some ((), (), (o1 ++ [(t18, name, mode, cycles)]))
def add116.A : Ann := { conds := [], blocks := [], loops := [], keeps := [], orders := [(0, [(0, .weak), (1, .strong), (2, .strong), (3, .strong), (4, .strong), (5, .strong), (6, .strong), (7, .strong), (8, .strong), (9, .strong), (10, .strong), (11, .strong), (12, .strong), (13, .strong), (14, .strong), (15, .eff true), (16, .eff false), (17, .strong), (18, .strong), (19, .eff false)])] }
def add116.S : Sig := { f := 116, params := [.ptr 0 [], .str, .int .i64, .sl (.st (.pair (.int .i64) (.pair (.int .i64) (.pair (.int .i64) (.sl (.st (.pair (.int .i64) (.pair (.int .i64) (.pair (.int .i64) (.int .i64))))))))))], objs := [.var (.st (.ms 1)), .row (.st (.pair (.int .i64) (.pair .str (.pair (.int .i64) (.sl (.st (.pair (.int .i64) (.pair (.int .i64) (.pair (.int .i64) (.sl (.st (.pair (.int .i64) (.pair (.int .i64) (.pair (.int .i64) (.int .i64)))))))))))))))], res := .tup .unit, outs := [.var (.st (.ms 1)), .row (.st (.pair (.int .i64) (.pair .str (.pair (.int .i64) (.sl (.st (.pair (.int .i64) (.pair (.int .i64) (.pair (.int .i64) (.sl (.st (.pair (.int .i64) (.pair (.int .i64) (.pair (.int .i64) (.int .i64)))))))))))))))], fix := [], run := fun k ds os => add116 k ds.1 ds.2.1 ds.2.2.1 ds.2.2.2 os.1 os.2 }
def add116.G : List Sig := []
theorem add116.eq (k : Nat) : ∀ ds os, add116.S.run k ds os = runF ⟨types, add116.G, add116.A, k, 0, []⟩ Tryz.f116 (codeOf Tryz.f116) add116.S.params add116.S.objs add116.S.res add116.S.outs ds os := by
  intro ds os; kernel_rfl
theorem add116.dr : DrOk Tryz.prog add116.A (codeOf Tryz.f116) := ⟨by kernel_rfl, by kernel_rfl⟩
theorem add116.ok (k : Nat) : SoundAt Tryz.prog k add116.S :=
  runF_sound (X := ⟨types, add116.G, add116.A, k, 0, []⟩) types_ok (fun s hs => absurd hs List.not_mem_nil) (fn := Tryz.f116) (c := codeOf Tryz.f116) rfl (by kernel_rfl) rfl rfl add116.dr (add116.eq k)

def loads112.l0 (k : Nat) (name : ByteArray) (reg : Int) (modes : (List Int)) : (Unit × (Int × (Unit × (List (Int × (ByteArray × (Int × (List (Int × (Int × (Int × (List (Int × (Int × (Int × Int))))))))))))))) → Option ((Unit × (Int × (Unit × (List (Int × (ByteArray × (Int × (List (Int × (Int × (Int × (List (Int × (Int × (Int × Int))))))))))))))) ⊕ (Unit × (List (Int × (ByteArray × (Int × (List (Int × (Int × (Int × (List (Int × (Int × (Int × Int))))))))))))))
  | (_, t12, _, o1_1) =>
    cond (decide (t12 < (List.length modes : Int)))
      ((rd modes t12).bind fun t14 =>
      (two118 k 1 reg 5).bind fun t21 =>
      (one119 k 3 reg).bind fun t23 =>
      (reads149 k t14 [t21.1, t23.1]).bind fun t25 =>
      (add116 k () name t14 t25.1 () o1_1).bind fun t26 =>
      some (Sum.inl ((), (w64 (t12 + 1)), (), t26.2.2)))
      (some (Sum.inr ((), o1_1)))
def loads112 (k : Nat) (_ : Unit) (name : ByteArray) (reg : Int) (modes : (List Int)) (o0 : Unit) (o1 : (List (Int × (ByteArray × (Int × (List (Int × (Int × (Int × (List (Int × (Int × (Int × Int))))))))))))) : Option (Unit × (Unit × (List (Int × (ByteArray × (Int × (List (Int × (Int × (Int × (List (Int × (Int × (Int × Int)))))))))))))) :=
  Option.bind
    (loopN (loads112.l0 k name reg modes) k ((), 0, (), o1) : Option (Unit × (List (Int × (ByteArray × (Int × (List (Int × (Int × (Int × (List (Int × (Int × (Int × Int)))))))))))))) fun ((_, o1_2) : (Unit × (List (Int × (ByteArray × (Int × (List (Int × (Int × (Int × (List (Int × (Int × (Int × Int)))))))))))))) =>
  some ((), (), o1_2)
def loads112.A : Ann := { conds := [], blocks := [(0, ⟨[], [(0, .var (.st (.ms 1))), (1, .row (.st (.pair (.int .i64) (.pair .str (.pair (.int .i64) (.sl (.st (.pair (.int .i64) (.pair (.int .i64) (.pair (.int .i64) (.sl (.st (.pair (.int .i64) (.pair (.int .i64) (.pair (.int .i64) (.int .i64))))))))))))))))], 2, [], 268431872⟩)], loops := [(1, ⟨[(0, .ptr 0 []), (12, .int .i64)], [(0, .var (.st (.ms 1))), (1, .row (.st (.pair (.int .i64) (.pair .str (.pair (.int .i64) (.sl (.st (.pair (.int .i64) (.pair (.int .i64) (.pair (.int .i64) (.sl (.st (.pair (.int .i64) (.pair (.int .i64) (.pair (.int .i64) (.int .i64))))))))))))))))], 2, [], 268431872⟩)], keeps := [], orders := [] }
def loads112.S : Sig := { f := 112, params := [.ptr 0 [], .str, .int .i64, .sl (.int .i64)], objs := [.var (.st (.ms 1)), .row (.st (.pair (.int .i64) (.pair .str (.pair (.int .i64) (.sl (.st (.pair (.int .i64) (.pair (.int .i64) (.pair (.int .i64) (.sl (.st (.pair (.int .i64) (.pair (.int .i64) (.pair (.int .i64) (.int .i64)))))))))))))))], res := .tup .unit, outs := [.var (.st (.ms 1)), .row (.st (.pair (.int .i64) (.pair .str (.pair (.int .i64) (.sl (.st (.pair (.int .i64) (.pair (.int .i64) (.pair (.int .i64) (.sl (.st (.pair (.int .i64) (.pair (.int .i64) (.pair (.int .i64) (.int .i64)))))))))))))))], fix := [], run := fun k ds os => loads112 k ds.1 ds.2.1 ds.2.2.1 ds.2.2.2 os.1 os.2 }
def loads112.G : List Sig := [add116.S, one119.S, reads149.S, two118.S]
theorem loads112.eq (k : Nat) : ∀ ds os, loads112.S.run k ds os = runF ⟨types, loads112.G, loads112.A, k, 0, []⟩ Tryz.f112 (codeOf Tryz.f112) loads112.S.params loads112.S.objs loads112.S.res loads112.S.outs ds os := by
  intro ds os; kernel_rfl
theorem loads112.dr : DrOk Tryz.prog loads112.A (codeOf Tryz.f112) := ⟨by kernel_rfl, by kernel_rfl⟩
theorem loads112.ok (k : Nat) : SoundAt Tryz.prog k loads112.S :=
  runF_sound (X := ⟨types, loads112.G, loads112.A, k, 0, []⟩) types_ok (mem_all (⟨add116.ok k, ⟨one119.ok k, ⟨reads149.ok k, ⟨two118.ok k, trivial⟩⟩⟩⟩)) (fn := Tryz.f112) (c := codeOf Tryz.f112) rfl (by kernel_rfl) rfl rfl loads112.dr (loads112.eq k)

def wr120 (k : Nat) (at_ : Int) (reg : Int) (steps : (List (Int × (Int × (Int × Int))))) : Option ((Int × (Int × (Int × (List (Int × (Int × (Int × Int))))))) × Unit) :=
  some ((2, at_, reg, steps), ())
def wr120.A : Ann := { conds := [], blocks := [], loops := [], keeps := [], orders := [] }
def wr120.S : Sig := { f := 120, params := [.int .i64, .int .i64, .sl (.st (.pair (.int .i64) (.pair (.int .i64) (.pair (.int .i64) (.int .i64)))))], objs := [], res := .st (.pair (.int .i64) (.pair (.int .i64) (.pair (.int .i64) (.sl (.st (.pair (.int .i64) (.pair (.int .i64) (.pair (.int .i64) (.int .i64))))))))), outs := [], fix := [], run := fun k ds os => wr120 k ds.1 ds.2.1 ds.2.2 }
def wr120.G : List Sig := []
theorem wr120.eq (k : Nat) : ∀ ds os, wr120.S.run k ds os = runF ⟨types, wr120.G, wr120.A, k, 0, []⟩ Tryz.f120 (codeOf Tryz.f120) wr120.S.params wr120.S.objs wr120.S.res wr120.S.outs ds os := by
  intro ds os; kernel_rfl
theorem wr120.dr : DrOk Tryz.prog wr120.A (codeOf Tryz.f120) := ⟨by kernel_rfl, by kernel_rfl⟩
theorem wr120.ok (k : Nat) : SoundAt Tryz.prog k wr120.S :=
  runF_sound (X := ⟨types, wr120.G, wr120.A, k, 0, []⟩) types_ok (fun s hs => absurd hs List.not_mem_nil) (fn := Tryz.f120) (c := codeOf Tryz.f120) rfl (by kernel_rfl) rfl rfl wr120.dr (wr120.eq k)

def stores113.l0 (k : Nat) (name : ByteArray) (reg : Int) (modes : (List Int)) : (Unit × (Int × (Unit × (List (Int × (ByteArray × (Int × (List (Int × (Int × (Int × (List (Int × (Int × (Int × Int))))))))))))))) → Option ((Unit × (Int × (Unit × (List (Int × (ByteArray × (Int × (List (Int × (Int × (Int × (List (Int × (Int × (Int × Int))))))))))))))) ⊕ (Unit × (List (Int × (ByteArray × (Int × (List (Int × (Int × (Int × (List (Int × (Int × (Int × Int))))))))))))))
  | (_, t12, _, o1_1) =>
    cond (decide (t12 < (List.length modes : Int)))
      ((rd modes t12).bind fun t14 =>
      (lead150 k t14).bind fun t20 =>
      (wr120 k 2 reg []).bind fun t22 =>
      (if room (List.length t20.2 + List.length [t22.1]) 48 then some () else none).bind fun _ =>
      (add116 k () name t14 (t20.2 ++ [t22.1]) () o1_1).bind fun t25 =>
      some (Sum.inl ((), (w64 (t12 + 1)), (), t25.2.2)))
      (some (Sum.inr ((), o1_1)))
def stores113 (k : Nat) (_ : Unit) (name : ByteArray) (reg : Int) (modes : (List Int)) (o0 : Unit) (o1 : (List (Int × (ByteArray × (Int × (List (Int × (Int × (Int × (List (Int × (Int × (Int × Int))))))))))))) : Option (Unit × (Unit × (List (Int × (ByteArray × (Int × (List (Int × (Int × (Int × (List (Int × (Int × (Int × Int)))))))))))))) :=
  Option.bind
    (loopN (stores113.l0 k name reg modes) k ((), 0, (), o1) : Option (Unit × (List (Int × (ByteArray × (Int × (List (Int × (Int × (Int × (List (Int × (Int × (Int × Int)))))))))))))) fun ((_, o1_2) : (Unit × (List (Int × (ByteArray × (Int × (List (Int × (Int × (Int × (List (Int × (Int × (Int × Int)))))))))))))) =>
  some ((), (), o1_2)
def stores113.A : Ann := { conds := [], blocks := [(0, ⟨[], [(0, .var (.st (.ms 1))), (1, .row (.st (.pair (.int .i64) (.pair .str (.pair (.int .i64) (.sl (.st (.pair (.int .i64) (.pair (.int .i64) (.pair (.int .i64) (.sl (.st (.pair (.int .i64) (.pair (.int .i64) (.pair (.int .i64) (.int .i64))))))))))))))))], 2, [], 134214144⟩)], loops := [(1, ⟨[(0, .ptr 0 []), (12, .int .i64)], [(0, .var (.st (.ms 1))), (1, .row (.st (.pair (.int .i64) (.pair .str (.pair (.int .i64) (.sl (.st (.pair (.int .i64) (.pair (.int .i64) (.pair (.int .i64) (.sl (.st (.pair (.int .i64) (.pair (.int .i64) (.pair (.int .i64) (.int .i64))))))))))))))))], 2, [], 134214144⟩)], keeps := [], orders := [] }
def stores113.S : Sig := { f := 113, params := [.ptr 0 [], .str, .int .i64, .sl (.int .i64)], objs := [.var (.st (.ms 1)), .row (.st (.pair (.int .i64) (.pair .str (.pair (.int .i64) (.sl (.st (.pair (.int .i64) (.pair (.int .i64) (.pair (.int .i64) (.sl (.st (.pair (.int .i64) (.pair (.int .i64) (.pair (.int .i64) (.int .i64)))))))))))))))], res := .tup .unit, outs := [.var (.st (.ms 1)), .row (.st (.pair (.int .i64) (.pair .str (.pair (.int .i64) (.sl (.st (.pair (.int .i64) (.pair (.int .i64) (.pair (.int .i64) (.sl (.st (.pair (.int .i64) (.pair (.int .i64) (.pair (.int .i64) (.int .i64)))))))))))))))], fix := [], run := fun k ds os => stores113 k ds.1 ds.2.1 ds.2.2.1 ds.2.2.2 os.1 os.2 }
def stores113.G : List Sig := [add116.S, lead150.S, wr120.S]
theorem stores113.eq (k : Nat) : ∀ ds os, stores113.S.run k ds os = runF ⟨types, stores113.G, stores113.A, k, 0, []⟩ Tryz.f113 (codeOf Tryz.f113) stores113.S.params stores113.S.objs stores113.S.res stores113.S.outs ds os := by
  intro ds os; kernel_rfl
theorem stores113.dr : DrOk Tryz.prog stores113.A (codeOf Tryz.f113) := ⟨by kernel_rfl, by kernel_rfl⟩
theorem stores113.ok (k : Nat) : SoundAt Tryz.prog k stores113.S :=
  runF_sound (X := ⟨types, stores113.G, stores113.A, k, 0, []⟩) types_ok (mem_all (⟨add116.ok k, ⟨lead150.ok k, ⟨wr120.ok k, trivial⟩⟩⟩)) (fn := Tryz.f113) (c := codeOf Tryz.f113) rfl (by kernel_rfl) rfl rfl stores113.dr (stores113.eq k)

def joins114.l0 (k : Nat) (name : ByteArray) (do_ : Int) (reg : Int) (modes : (List Int)) : (Unit × (Int × (Unit × (List (Int × (ByteArray × (Int × (List (Int × (Int × (Int × (List (Int × (Int × (Int × Int))))))))))))))) → Option ((Unit × (Int × (Unit × (List (Int × (ByteArray × (Int × (List (Int × (Int × (Int × (List (Int × (Int × (Int × Int))))))))))))))) ⊕ (Unit × (List (Int × (ByteArray × (Int × (List (Int × (Int × (Int × (List (Int × (Int × (Int × Int))))))))))))))
  | (_, t14, _, o1_1) =>
    cond (decide (t14 < (List.length modes : Int)))
      ((rd modes t14).bind fun t16 =>
      (two118 k do_ reg 5).bind fun t24 =>
      (reads149 k t16 [t24.1]).bind fun t26 =>
      (add116 k () name t16 t26.1 () o1_1).bind fun t27 =>
      some (Sum.inl ((), (w64 (t14 + 1)), (), t27.2.2)))
      (some (Sum.inr ((), o1_1)))
def joins114 (k : Nat) (_ : Unit) (name : ByteArray) (do_ : Int) (reg : Int) (modes : (List Int)) (o0 : Unit) (o1 : (List (Int × (ByteArray × (Int × (List (Int × (Int × (Int × (List (Int × (Int × (Int × Int))))))))))))) : Option (Unit × (Unit × (List (Int × (ByteArray × (Int × (List (Int × (Int × (Int × (List (Int × (Int × (Int × Int)))))))))))))) :=
  Option.bind
    (loopN (joins114.l0 k name do_ reg modes) k ((), 0, (), o1) : Option (Unit × (List (Int × (ByteArray × (Int × (List (Int × (Int × (Int × (List (Int × (Int × (Int × Int)))))))))))))) fun ((_, o1_2) : (Unit × (List (Int × (ByteArray × (Int × (List (Int × (Int × (Int × (List (Int × (Int × (Int × Int)))))))))))))) =>
  some ((), (), o1_2)
def joins114.A : Ann := { conds := [], blocks := [(0, ⟨[], [(0, .var (.st (.ms 1))), (1, .row (.st (.pair (.int .i64) (.pair .str (.pair (.int .i64) (.sl (.st (.pair (.int .i64) (.pair (.int .i64) (.pair (.int .i64) (.sl (.st (.pair (.int .i64) (.pair (.int .i64) (.pair (.int .i64) (.int .i64))))))))))))))))], 2, [], 536856576⟩)], loops := [(1, ⟨[(0, .ptr 0 []), (14, .int .i64)], [(0, .var (.st (.ms 1))), (1, .row (.st (.pair (.int .i64) (.pair .str (.pair (.int .i64) (.sl (.st (.pair (.int .i64) (.pair (.int .i64) (.pair (.int .i64) (.sl (.st (.pair (.int .i64) (.pair (.int .i64) (.pair (.int .i64) (.int .i64))))))))))))))))], 2, [], 536856576⟩)], keeps := [], orders := [] }
def joins114.S : Sig := { f := 114, params := [.ptr 0 [], .str, .int .i64, .int .i64, .sl (.int .i64)], objs := [.var (.st (.ms 1)), .row (.st (.pair (.int .i64) (.pair .str (.pair (.int .i64) (.sl (.st (.pair (.int .i64) (.pair (.int .i64) (.pair (.int .i64) (.sl (.st (.pair (.int .i64) (.pair (.int .i64) (.pair (.int .i64) (.int .i64)))))))))))))))], res := .tup .unit, outs := [.var (.st (.ms 1)), .row (.st (.pair (.int .i64) (.pair .str (.pair (.int .i64) (.sl (.st (.pair (.int .i64) (.pair (.int .i64) (.pair (.int .i64) (.sl (.st (.pair (.int .i64) (.pair (.int .i64) (.pair (.int .i64) (.int .i64)))))))))))))))], fix := [], run := fun k ds os => joins114 k ds.1 ds.2.1 ds.2.2.1 ds.2.2.2.1 ds.2.2.2.2 os.1 os.2 }
def joins114.G : List Sig := [add116.S, reads149.S, two118.S]
theorem joins114.eq (k : Nat) : ∀ ds os, joins114.S.run k ds os = runF ⟨types, joins114.G, joins114.A, k, 0, []⟩ Tryz.f114 (codeOf Tryz.f114) joins114.S.params joins114.S.objs joins114.S.res joins114.S.outs ds os := by
  intro ds os; kernel_rfl
theorem joins114.dr : DrOk Tryz.prog joins114.A (codeOf Tryz.f114) := ⟨by kernel_rfl, by kernel_rfl⟩
theorem joins114.ok (k : Nat) : SoundAt Tryz.prog k joins114.S :=
  runF_sound (X := ⟨types, joins114.G, joins114.A, k, 0, []⟩) types_ok (mem_all (⟨add116.ok k, ⟨reads149.ok k, ⟨two118.ok k, trivial⟩⟩⟩)) (fn := Tryz.f114) (c := codeOf Tryz.f114) rfl (by kernel_rfl) rfl rfl joins114.dr (joins114.eq k)
end Go.Proofs.YtcppmlgnceldmaaGreat.Gf

/- Go functions as plain Lean functions, and their contracts. -/
set_option linter.unusedVariables false
set_option maxRecDepth 100000
noncomputable section
namespace Go.Proofs.YtcppmlgnceldmaaGreat.Gf
open Go Go.Proofs.YtcppmlgnceldmaaGreat.Gp
def turns115.l0 (k : Nat) (name : ByteArray) (do_ : Int) (modes : (List Int)) : (Unit × (Int × (Unit × (List (Int × (ByteArray × (Int × (List (Int × (Int × (Int × (List (Int × (Int × (Int × Int))))))))))))))) → Option ((Unit × (Int × (Unit × (List (Int × (ByteArray × (Int × (List (Int × (Int × (Int × (List (Int × (Int × (Int × Int))))))))))))))) ⊕ (Unit × (List (Int × (ByteArray × (Int × (List (Int × (Int × (Int × (List (Int × (Int × (Int × Int))))))))))))))
  | (_, t12, _, o1_1) =>
    cond (decide (t12 < (List.length modes : Int)))
      (Option.bind
        ((rd modes t12).bind fun t14 =>
        cond (t14 == 0)
          ((one119 k do_ 0).bind fun t22 =>
          (no117 k [t22.1]).bind fun t24 =>
          (add116 k () name t14 [t24.1] () o1_1).bind fun t26 =>
          some ((), (), t26.2.2))
          ((lead150 k t14).bind fun t31 =>
          (one119 k do_ 5).bind fun t33 =>
          (rd81'' k 2 5 [t33.1]).bind fun t35 =>
          (wr120 k 2 5 []).bind fun t36 =>
          (if room (List.length t31.2 + List.length [t35.1, t36.1]) 48 then some () else none).bind fun _ =>
          (add116 k () name t14 (t31.2 ++ [t35.1, t36.1]) () o1_1).bind fun t39 =>
          some ((), (), t39.2.2)) : Option (Unit × (Unit × (List (Int × (ByteArray × (Int × (List (Int × (Int × (Int × (List (Int × (Int × (Int × Int))))))))))))))) fun ((_, _, o1_2) : (Unit × (Unit × (List (Int × (ByteArray × (Int × (List (Int × (Int × (Int × (List (Int × (Int × (Int × Int))))))))))))))) =>
      some (Sum.inl ((), (w64 (t12 + 1)), (), o1_2)))
      (some (Sum.inr ((), o1_1)))
def turns115 (k : Nat) (_ : Unit) (name : ByteArray) (do_ : Int) (modes : (List Int)) (o0 : Unit) (o1 : (List (Int × (ByteArray × (Int × (List (Int × (Int × (Int × (List (Int × (Int × (Int × Int))))))))))))) : Option (Unit × (Unit × (List (Int × (ByteArray × (Int × (List (Int × (Int × (Int × (List (Int × (Int × (Int × Int)))))))))))))) :=
  Option.bind
    (loopN (turns115.l0 k name do_ modes) k ((), 0, (), o1) : Option (Unit × (List (Int × (ByteArray × (Int × (List (Int × (Int × (Int × (List (Int × (Int × (Int × Int)))))))))))))) fun ((_, o1_3) : (Unit × (List (Int × (ByteArray × (Int × (List (Int × (Int × (Int × (List (Int × (Int × (Int × Int)))))))))))))) =>
  some ((), (), o1_3)
def turns115.A : Ann := { conds := [], blocks := [(0, ⟨[], [(0, .var (.st (.ms 1))), (1, .row (.st (.pair (.int .i64) (.pair .str (.pair (.int .i64) (.sl (.st (.pair (.int .i64) (.pair (.int .i64) (.pair (.int .i64) (.sl (.st (.pair (.int .i64) (.pair (.int .i64) (.pair (.int .i64) (.int .i64))))))))))))))))], 2, [], 2199023251968⟩), (1, ⟨[(0, .ptr 0 [])], [(0, .var (.st (.ms 1))), (1, .row (.st (.pair (.int .i64) (.pair .str (.pair (.int .i64) (.sl (.st (.pair (.int .i64) (.pair (.int .i64) (.pair (.int .i64) (.sl (.st (.pair (.int .i64) (.pair (.int .i64) (.pair (.int .i64) (.int .i64))))))))))))))))], 2, [], 1099511611904⟩)], loops := [(1, ⟨[(0, .ptr 0 []), (12, .int .i64)], [(0, .var (.st (.ms 1))), (1, .row (.st (.pair (.int .i64) (.pair .str (.pair (.int .i64) (.sl (.st (.pair (.int .i64) (.pair (.int .i64) (.pair (.int .i64) (.sl (.st (.pair (.int .i64) (.pair (.int .i64) (.pair (.int .i64) (.int .i64))))))))))))))))], 2, [], 2199023251968⟩)], keeps := [], orders := [] }
def turns115.S : Sig := { f := 115, params := [.ptr 0 [], .str, .int .i64, .sl (.int .i64)], objs := [.var (.st (.ms 1)), .row (.st (.pair (.int .i64) (.pair .str (.pair (.int .i64) (.sl (.st (.pair (.int .i64) (.pair (.int .i64) (.pair (.int .i64) (.sl (.st (.pair (.int .i64) (.pair (.int .i64) (.pair (.int .i64) (.int .i64)))))))))))))))], res := .tup .unit, outs := [.var (.st (.ms 1)), .row (.st (.pair (.int .i64) (.pair .str (.pair (.int .i64) (.sl (.st (.pair (.int .i64) (.pair (.int .i64) (.pair (.int .i64) (.sl (.st (.pair (.int .i64) (.pair (.int .i64) (.pair (.int .i64) (.int .i64)))))))))))))))], fix := [], run := fun k ds os => turns115 k ds.1 ds.2.1 ds.2.2.1 ds.2.2.2 os.1 os.2 }
def turns115.G : List Sig := [add116.S, lead150.S, no117.S, one119.S, rd81''.S, wr120.S]
theorem turns115.eq (k : Nat) : ∀ ds os, turns115.S.run k ds os = runF ⟨types, turns115.G, turns115.A, k, 0, []⟩ Tryz.f115 (codeOf Tryz.f115) turns115.S.params turns115.S.objs turns115.S.res turns115.S.outs ds os := by
  intro ds os; kernel_rfl
theorem turns115.dr : DrOk Tryz.prog turns115.A (codeOf Tryz.f115) := ⟨by kernel_rfl, by kernel_rfl⟩
theorem turns115.ok (k : Nat) : SoundAt Tryz.prog k turns115.S :=
  runF_sound (X := ⟨types, turns115.G, turns115.A, k, 0, []⟩) types_ok (mem_all (⟨add116.ok k, ⟨lead150.ok k, ⟨no117.ok k, ⟨one119.ok k, ⟨rd81''.ok k, ⟨wr120.ok k, trivial⟩⟩⟩⟩⟩⟩)) (fn := Tryz.f115) (c := codeOf Tryz.f115) rfl (by kernel_rfl) rfl rfl turns115.dr (turns115.eq k)

def memory78.l0 (k : Nat) : (Unit × (Unit × (Int × (Unit × ((List (Int × (ByteArray × (Int × (List (Int × (Int × (Int × (List (Int × (Int × (Int × Int)))))))))))) × (List (ByteArray × Int))))))) → Option ((Unit × (Unit × (Int × (Unit × ((List (Int × (ByteArray × (Int × (List (Int × (Int × (Int × (List (Int × (Int × (Int × Int)))))))))))) × (List (ByteArray × Int))))))) ⊕ (Unit × (Unit × (List (Int × (ByteArray × (Int × (List (Int × (Int × (Int × (List (Int × (Int × (Int × Int)))))))))))))))
  | (_, _, t30, _, o1_1, o8) =>
    cond (decide (t30 < (List.length [((ByteArray.mk #[97, 100, 99]), 4), ((ByteArray.mk #[115, 98, 99]), 5), ((ByteArray.mk #[97, 110, 100]), 7), ((ByteArray.mk #[111, 114, 97]), 8), ((ByteArray.mk #[101, 111, 114]), 9), ((ByteArray.mk #[99, 109, 112]), 6)] : Int)))
      ((rd o8 t30).bind fun _ =>
      (rd o8 t30).bind fun t33 =>
      (joins114 k () t33.1 t33.2 0 ([1, 2, 4, 5] : List Int) () o1_1).bind fun t40 =>
      some (Sum.inl ((), (), (w64 (t30 + 1)), (), t40.2.2, o8)))
      (some (Sum.inr ((), (), o1_1)))
def memory78 (k : Nat) (_ : Unit) (o0 : Unit) (o1 : (List (Int × (ByteArray × (Int × (List (Int × (Int × (Int × (List (Int × (Int × (Int × Int))))))))))))) : Option (Unit × (Unit × (List (Int × (ByteArray × (Int × (List (Int × (Int × (Int × (List (Int × (Int × (Int × Int)))))))))))))) :=
  (loads112 k () (ByteArray.mk #[108, 100, 97]) 0 ([1, 2, 3, 4, 5, 6, 8] : List Int) () o1).bind fun t6 =>
  (loads112 k () (ByteArray.mk #[108, 100, 120]) 1 ([1, 2, 4] : List Int) () t6.2.2).bind fun t9 =>
  (loads112 k () (ByteArray.mk #[108, 100, 121]) 2 ([1, 2, 4] : List Int) () t9.2.2).bind fun t12 =>
  (stores113 k () (ByteArray.mk #[115, 116, 97]) 0 ([2, 3, 4, 5, 6, 8] : List Int) () t12.2.2).bind fun t15 =>
  (stores113 k () (ByteArray.mk #[115, 116, 120]) 1 ([2, 4] : List Int) () t15.2.2).bind fun t18 =>
  (stores113 k () (ByteArray.mk #[115, 116, 121]) 2 ([2, 4] : List Int) () t18.2.2).bind fun t21 =>
  Option.bind
    (loopN (memory78.l0 k) k ((), (), 0, (), t21.2.2, [((ByteArray.mk #[97, 100, 99]), 4), ((ByteArray.mk #[115, 98, 99]), 5), ((ByteArray.mk #[97, 110, 100]), 7), ((ByteArray.mk #[111, 114, 97]), 8), ((ByteArray.mk #[101, 111, 114]), 9), ((ByteArray.mk #[99, 109, 112]), 6)]) : Option (Unit × (Unit × (List (Int × (ByteArray × (Int × (List (Int × (Int × (Int × (List (Int × (Int × (Int × Int))))))))))))))) fun ((_, _, o1_2) : (Unit × (Unit × (List (Int × (ByteArray × (Int × (List (Int × (Int × (Int × (List (Int × (Int × (Int × Int))))))))))))))) =>
  (joins114 k () (ByteArray.mk #[99, 112, 120]) 6 1 ([1, 2] : List Int) () o1_2).bind fun t44 =>
  (joins114 k () (ByteArray.mk #[99, 112, 121]) 6 2 ([1, 2] : List Int) () t44.2.2).bind fun t47 =>
  (turns115 k () (ByteArray.mk #[105, 110, 99]) 10 ([2, 4] : List Int) () t47.2.2).bind fun t50 =>
  (turns115 k () (ByteArray.mk #[100, 101, 99]) 11 ([2, 4] : List Int) () t50.2.2).bind fun t53 =>
  (turns115 k () (ByteArray.mk #[97, 115, 108]) 12 ([0, 2] : List Int) () t53.2.2).bind fun t56 =>
  (turns115 k () (ByteArray.mk #[108, 115, 114]) 13 ([0, 2] : List Int) () t56.2.2).bind fun t59 =>
  (turns115 k () (ByteArray.mk #[114, 111, 108]) 14 ([0, 2] : List Int) () t59.2.2).bind fun t62 =>
  (turns115 k () (ByteArray.mk #[114, 111, 114]) 15 ([0, 2] : List Int) () t62.2.2).bind fun t65 =>
  some ((), (), t65.2.2)
def memory78.A : Ann := { conds := [], blocks := [(0, ⟨[(0, .ptr 0 [])], [(0, .var (.st (.ms 1))), (1, .row (.st (.pair (.int .i64) (.pair .str (.pair (.int .i64) (.sl (.st (.pair (.int .i64) (.pair (.int .i64) (.pair (.int .i64) (.sl (.st (.pair (.int .i64) (.pair (.int .i64) (.pair (.int .i64) (.int .i64))))))))))))))))], 2, [], 4396972769288⟩)], loops := [(7, ⟨[(0, .ptr 0 []), (28, .ms 8), (30, .int .i64)], [(0, .var (.st (.ms 1))), (1, .row (.st (.pair (.int .i64) (.pair .str (.pair (.int .i64) (.sl (.st (.pair (.int .i64) (.pair (.int .i64) (.pair (.int .i64) (.sl (.st (.pair (.int .i64) (.pair (.int .i64) (.pair (.int .i64) (.int .i64)))))))))))))))), (8, .row (.st (.pair .str (.int .i64))))], 9, [], 4396972769288⟩)], keeps := [3], orders := [] }
def memory78.S : Sig := { f := 78, params := [.ptr 0 []], objs := [.var (.st (.ms 1)), .row (.st (.pair (.int .i64) (.pair .str (.pair (.int .i64) (.sl (.st (.pair (.int .i64) (.pair (.int .i64) (.pair (.int .i64) (.sl (.st (.pair (.int .i64) (.pair (.int .i64) (.pair (.int .i64) (.int .i64)))))))))))))))], res := .tup .unit, outs := [.var (.st (.ms 1)), .row (.st (.pair (.int .i64) (.pair .str (.pair (.int .i64) (.sl (.st (.pair (.int .i64) (.pair (.int .i64) (.pair (.int .i64) (.sl (.st (.pair (.int .i64) (.pair (.int .i64) (.pair (.int .i64) (.int .i64)))))))))))))))], fix := [], run := fun k ds os => memory78 k ds os.1 os.2 }
def memory78.G : List Sig := [joins114.S, loads112.S, stores113.S, turns115.S]
theorem memory78.eq (k : Nat) : ∀ ds os, memory78.S.run k ds os = runF ⟨types, memory78.G, memory78.A, k, 0, []⟩ Tryz.f78 (codeOf Tryz.f78) memory78.S.params memory78.S.objs memory78.S.res memory78.S.outs ds os := by
  intro ds os; kernel_rfl
theorem memory78.dr : DrOk Tryz.prog memory78.A (codeOf Tryz.f78) := ⟨by kernel_rfl, by kernel_rfl⟩
theorem memory78.ok (k : Nat) : SoundAt Tryz.prog k memory78.S :=
  runF_sound (X := ⟨types, memory78.G, memory78.A, k, 0, []⟩) types_ok (mem_all (⟨joins114.ok k, ⟨loads112.ok k, ⟨stores113.ok k, ⟨turns115.ok k, trivial⟩⟩⟩⟩)) (fn := Tryz.f78) (c := codeOf Tryz.f78) rfl (by kernel_rfl) rfl rfl memory78.dr (memory78.eq k)
end Go.Proofs.YtcppmlgnceldmaaGreat.Gf

/- Go functions as plain Lean functions, and their contracts. -/
set_option linter.unusedVariables false
set_option maxRecDepth 100000
noncomputable section
namespace Go.Proofs.YtcppmlgnceldmaaGreat.Gf
open Go Go.Proofs.YtcppmlgnceldmaaGreat.Gp
def alone79.l0 (k : Nat) : (Unit × (Unit × (Int × (Unit × ((List (Int × (ByteArray × (Int × (List (Int × (Int × (Int × (List (Int × (Int × (Int × Int)))))))))))) × (List (ByteArray × (Int × Int)))))))) → Option ((Unit × (Unit × (Int × (Unit × ((List (Int × (ByteArray × (Int × (List (Int × (Int × (Int × (List (Int × (Int × (Int × Int)))))))))))) × (List (ByteArray × (Int × Int)))))))) ⊕ (Unit × (Unit × (List (Int × (ByteArray × (Int × (List (Int × (Int × (Int × (List (Int × (Int × (Int × Int)))))))))))))))
  | (_, _, t11, _, o1_1, o2) =>
    cond (decide (t11 < (List.length [((ByteArray.mk #[116, 97, 120]), 1, 0), ((ByteArray.mk #[116, 97, 121]), 2, 0), ((ByteArray.mk #[116, 120, 97]), 0, 1), ((ByteArray.mk #[116, 121, 97]), 0, 2), ((ByteArray.mk #[116, 115, 120]), 1, 3)] : Int)))
      ((rd o2 t11).bind fun _ =>
      (rd o2 t11).bind fun t14 =>
      (two118 k 1 t14.2.1 t14.2.2).bind fun t22 =>
      (one119 k 3 t14.2.1).bind fun t25 =>
      (no117 k [t22.1, t25.1]).bind fun t27 =>
      (add116 k () t14.1 0 [t27.1] () o1_1).bind fun t29 =>
      some (Sum.inl ((), (), (w64 (t11 + 1)), (), t29.2.2, o2)))
      (some (Sum.inr ((), (), o1_1)))
def alone79 (k : Nat) (_ : Unit) (o0 : Unit) (o1 : (List (Int × (ByteArray × (Int × (List (Int × (Int × (Int × (List (Int × (Int × (Int × Int))))))))))))) : Option (Unit × (Unit × (List (Int × (ByteArray × (Int × (List (Int × (Int × (Int × (List (Int × (Int × (Int × Int)))))))))))))) :=
  Option.bind
    (loopN (alone79.l0 k) k ((), (), 0, (), o1, [((ByteArray.mk #[116, 97, 120]), 1, 0), ((ByteArray.mk #[116, 97, 121]), 2, 0), ((ByteArray.mk #[116, 120, 97]), 0, 1), ((ByteArray.mk #[116, 121, 97]), 0, 2), ((ByteArray.mk #[116, 115, 120]), 1, 3)]) : Option (Unit × (Unit × (List (Int × (ByteArray × (Int × (List (Int × (Int × (Int × (List (Int × (Int × (Int × Int))))))))))))))) fun ((_, _, o1_2) : (Unit × (Unit × (List (Int × (ByteArray × (Int × (List (Int × (Int × (Int × (List (Int × (Int × (Int × Int))))))))))))))) =>
  (two118 k 1 3 1).bind fun t32 =>
  (no117 k [t32.1]).bind fun t34 =>
  (add116 k () (ByteArray.mk #[116, 120, 115]) 0 [t34.1] () o1_2).bind fun t36 =>
  (one119 k 10 1).bind fun t38 =>
  (no117 k [t38.1]).bind fun t40 =>
  (add116 k () (ByteArray.mk #[105, 110, 120]) 0 [t40.1] () t36.2.2).bind fun t42 =>
  (one119 k 10 2).bind fun t44 =>
  (no117 k [t44.1]).bind fun t46 =>
  (add116 k () (ByteArray.mk #[105, 110, 121]) 0 [t46.1] () t42.2.2).bind fun t48 =>
  (one119 k 11 1).bind fun t50 =>
  (no117 k [t50.1]).bind fun t52 =>
  (add116 k () (ByteArray.mk #[100, 101, 120]) 0 [t52.1] () t48.2.2).bind fun t54 =>
  (one119 k 11 2).bind fun t56 =>
  (no117 k [t56.1]).bind fun t58 =>
  (add116 k () (ByteArray.mk #[100, 101, 121]) 0 [t58.1] () t54.2.2).bind fun t60 =>
  (no117 k [(17, 0, 0, 1)]).bind fun t64 =>
  (add116 k () (ByteArray.mk #[99, 108, 99]) 0 [t64.1] () t60.2.2).bind fun t66 =>
  (no117 k [(16, 0, 0, 1)]).bind fun t70 =>
  (add116 k () (ByteArray.mk #[115, 101, 99]) 0 [t70.1] () t66.2.2).bind fun t72 =>
  (no117 k [(17, 0, 0, 4)]).bind fun t76 =>
  (add116 k () (ByteArray.mk #[99, 108, 105]) 0 [t76.1] () t72.2.2).bind fun t78 =>
  (no117 k [(16, 0, 0, 4)]).bind fun t82 =>
  (add116 k () (ByteArray.mk #[115, 101, 105]) 0 [t82.1] () t78.2.2).bind fun t84 =>
  (no117 k []).bind fun t86 =>
  (add116 k () (ByteArray.mk #[110, 111, 112]) 0 [t86.1] () t84.2.2).bind fun t88 =>
  (wr120 k 4 0 []).bind fun t90 =>
  (add116 k () (ByteArray.mk #[112, 104, 97]) 0 [t90.1] () t88.2.2).bind fun t92 =>
  (one119 k 3 0).bind fun t94 =>
  (rd81'' k 5 0 [t94.1]).bind fun t96 =>
  (add116 k () (ByteArray.mk #[112, 108, 97]) 0 [t96.1] () t92.2.2).bind fun t98 =>
  (wr120 k 4 4 []).bind fun t100 =>
  (add116 k () (ByteArray.mk #[112, 104, 112]) 0 [t100.1] () t98.2.2).bind fun t102 =>
  (rd81'' k 5 4 []).bind fun t104 =>
  (add116 k () (ByteArray.mk #[112, 108, 112]) 0 [t104.1] () t102.2.2).bind fun t106 =>
  some ((), (), t106.2.2)
def alone79.A : Ann := { conds := [], blocks := [(0, ⟨[(0, .ptr 0 [])], [(0, .var (.st (.ms 1))), (1, .row (.st (.pair (.int .i64) (.pair .str (.pair (.int .i64) (.sl (.st (.pair (.int .i64) (.pair (.int .i64) (.pair (.int .i64) (.sl (.st (.pair (.int .i64) (.pair (.int .i64) (.pair (.int .i64) (.int .i64))))))))))))))))], 2, [], 2147481608⟩)], loops := [(1, ⟨[(0, .ptr 0 []), (9, .ms 2), (11, .int .i64)], [(0, .var (.st (.ms 1))), (1, .row (.st (.pair (.int .i64) (.pair .str (.pair (.int .i64) (.sl (.st (.pair (.int .i64) (.pair (.int .i64) (.pair (.int .i64) (.sl (.st (.pair (.int .i64) (.pair (.int .i64) (.pair (.int .i64) (.int .i64)))))))))))))))), (2, .row (.st (.pair .str (.pair (.int .i64) (.int .i64)))))], 3, [], 2147481608⟩)], keeps := [3], orders := [(3, [(0, .strong), (1, .strong), (2, .strong), (3, .strong), (4, .strong), (5, .strong), (6, .strong), (8, .strong), (9, .strong), (7, .eff true), (10, .eff true), (11, .eff true), (12, .eff true), (13, .eff true), (14, .eff false)])] }
def alone79.S : Sig := { f := 79, params := [.ptr 0 []], objs := [.var (.st (.ms 1)), .row (.st (.pair (.int .i64) (.pair .str (.pair (.int .i64) (.sl (.st (.pair (.int .i64) (.pair (.int .i64) (.pair (.int .i64) (.sl (.st (.pair (.int .i64) (.pair (.int .i64) (.pair (.int .i64) (.int .i64)))))))))))))))], res := .tup .unit, outs := [.var (.st (.ms 1)), .row (.st (.pair (.int .i64) (.pair .str (.pair (.int .i64) (.sl (.st (.pair (.int .i64) (.pair (.int .i64) (.pair (.int .i64) (.sl (.st (.pair (.int .i64) (.pair (.int .i64) (.pair (.int .i64) (.int .i64)))))))))))))))], fix := [], run := fun k ds os => alone79 k ds os.1 os.2 }
def alone79.G : List Sig := [add116.S, no117.S, one119.S, rd81''.S, two118.S, wr120.S]
theorem alone79.eq (k : Nat) : ∀ ds os, alone79.S.run k ds os = runF ⟨types, alone79.G, alone79.A, k, 0, []⟩ Tryz.f79 (codeOf Tryz.f79) alone79.S.params alone79.S.objs alone79.S.res alone79.S.outs ds os := by
  intro ds os; kernel_rfl
theorem alone79.dr : DrOk Tryz.prog alone79.A (codeOf Tryz.f79) := ⟨by kernel_rfl, by kernel_rfl⟩
theorem alone79.ok (k : Nat) : SoundAt Tryz.prog k alone79.S :=
  runF_sound (X := ⟨types, alone79.G, alone79.A, k, 0, []⟩) types_ok (mem_all (⟨add116.ok k, ⟨no117.ok k, ⟨one119.ok k, ⟨rd81''.ok k, ⟨two118.ok k, ⟨wr120.ok k, trivial⟩⟩⟩⟩⟩⟩)) (fn := Tryz.f79) (c := codeOf Tryz.f79) rfl (by kernel_rfl) rfl rfl alone79.dr (alone79.eq k)

def jump82' (k : Nat) (to : Int) : Option ((List (Int × (Int × (Int × Int)))) × Unit) :=
  (two118 k 18 to 5).bind fun t4 =>
  (two118 k 19 to 6).bind fun t6 =>
  some ([t4.1, t6.1], ())
def jump82'.A : Ann := { conds := [], blocks := [], loops := [], keeps := [], orders := [] }
def jump82'.S : Sig := { f := 82, params := [.int .i64], objs := [], res := .sl (.st (.pair (.int .i64) (.pair (.int .i64) (.pair (.int .i64) (.int .i64))))), outs := [], fix := [], run := fun k ds os => jump82' k ds }
def jump82'.G : List Sig := [two118.S]
theorem jump82'.eq (k : Nat) : ∀ ds os, jump82'.S.run k ds os = runF ⟨types, jump82'.G, jump82'.A, k, 0, []⟩ Tryz.f82 (codeOf Tryz.f82) jump82'.S.params jump82'.S.objs jump82'.S.res jump82'.S.outs ds os := by
  intro ds os; kernel_rfl
theorem jump82'.dr : DrOk Tryz.prog jump82'.A (codeOf Tryz.f82) := ⟨by kernel_rfl, by kernel_rfl⟩
theorem jump82'.ok (k : Nat) : SoundAt Tryz.prog k jump82'.S :=
  runF_sound (X := ⟨types, jump82'.G, jump82'.A, k, 0, []⟩) types_ok (mem_all (⟨two118.ok k, trivial⟩)) (fn := Tryz.f82) (c := codeOf Tryz.f82) rfl (by kernel_rfl) rfl rfl jump82'.dr (jump82'.eq k)

def ways80.l0 (k : Nat) : (Unit × (Unit × (Int × (Unit × ((List (Int × (ByteArray × (Int × (List (Int × (Int × (Int × (List (Int × (Int × (Int × Int)))))))))))) × (List (ByteArray × (Int × Int)))))))) → Option ((Unit × (Unit × (Int × (Unit × ((List (Int × (ByteArray × (Int × (List (Int × (Int × (Int × (List (Int × (Int × (Int × Int)))))))))))) × (List (ByteArray × (Int × Int)))))))) ⊕ (Unit × (List (Int × (ByteArray × (Int × (List (Int × (Int × (Int × (List (Int × (Int × (Int × Int))))))))))))))
  | (_, _, t47, _, o1_1, o10) =>
    cond (decide (t47 < (List.length [((ByteArray.mk #[98, 101, 113]), 2, 1), ((ByteArray.mk #[98, 110, 101]), 2, 0), ((ByteArray.mk #[98, 99, 115]), 1, 1), ((ByteArray.mk #[98, 99, 99]), 1, 0), ((ByteArray.mk #[98, 109, 105]), 128, 1), ((ByteArray.mk #[98, 112, 108]), 128, 0)] : Int)))
      ((rd o10 t47).bind fun _ =>
      (rd o10 t47).bind fun t50 =>
      (rd81'' k 0 5 [(24, 0, t50.2.2, t50.2.1)]).bind fun t60 =>
      (two118 k 23 7 5).bind fun t61 =>
      (no117 k [t61.1]).bind fun t63 =>
      (add116 k () t50.1 7 [t60.1, t63.1] () o1_1).bind fun t65 =>
      some (Sum.inl ((), (), (w64 (t47 + 1)), (), t65.2.2, o10)))
      (some (Sum.inr ((), o1_1)))
def ways80 (k : Nat) (_ : Unit) (o0 : Unit) (o1 : (List (Int × (ByteArray × (Int × (List (Int × (Int × (Int × (List (Int × (Int × (Int × Int))))))))))))) : Option (Unit × (Unit × (List (Int × (ByteArray × (Int × (List (Int × (Int × (Int × (List (Int × (Int × (Int × Int)))))))))))))) :=
  (rd81'' k 0 5 []).bind fun t5 =>
  (jump82' k 7).bind fun t6 =>
  (rd81'' k 0 6 t6.1).bind fun t7 =>
  (add116 k () (ByteArray.mk #[106, 109, 112]) 4 [t5.1, t7.1] () o1).bind fun t9 =>
  (two118 k 18 8 5).bind fun t11 =>
  (rd81'' k 0 5 [t11.1]).bind fun t13 =>
  (two118 k 19 8 5).bind fun t14 =>
  (two118 k 21 5 7).bind fun t15 =>
  (rd81'' k 0 5 [t14.1, t15.1]).bind fun t17 =>
  (two118 k 20 5 7).bind fun t18 =>
  (wr120 k 4 5 [t18.1]).bind fun t20 =>
  (two118 k 1 7 8).bind fun t21 =>
  (wr120 k 4 5 [t21.1]).bind fun t23 =>
  (add116 k () (ByteArray.mk #[106, 115, 114]) 4 [t13.1, t17.1, t20.1, t23.1] () t9.2.2).bind fun t25 =>
  (rd81'' k 5 5 []).bind fun t27 =>
  (jump82' k 7).bind fun t28 =>
  (rd81'' k 5 6 t28.1).bind fun t29 =>
  (add116 k () (ByteArray.mk #[114, 116, 115]) 0 [t27.1, t29.1] () t25.2.2).bind fun t31 =>
  (rd81'' k 5 4 []).bind fun t33 =>
  (rd81'' k 5 5 []).bind fun t34 =>
  (jump82' k 7).bind fun t35 =>
  (rd81'' k 5 6 t35.1).bind fun t36 =>
  (add116 k () (ByteArray.mk #[114, 116, 105]) 0 [t33.1, t34.1, t36.1] () t31.2.2).bind fun t38 =>
  Option.bind
    (loopN (ways80.l0 k) k ((), (), 0, (), t38.2.2, [((ByteArray.mk #[98, 101, 113]), 2, 1), ((ByteArray.mk #[98, 110, 101]), 2, 0), ((ByteArray.mk #[98, 99, 115]), 1, 1), ((ByteArray.mk #[98, 99, 99]), 1, 0), ((ByteArray.mk #[98, 109, 105]), 128, 1), ((ByteArray.mk #[98, 112, 108]), 128, 0)]) : Option (Unit × (List (Int × (ByteArray × (Int × (List (Int × (Int × (Int × (List (Int × (Int × (Int × Int)))))))))))))) fun ((_, o1_2) : (Unit × (List (Int × (ByteArray × (Int × (List (Int × (Int × (Int × (List (Int × (Int × (Int × Int)))))))))))))) =>
  some ((), (), o1_2)
def ways80.A : Ann := { conds := [], blocks := [(0, ⟨[], [(0, .var (.st (.ms 1))), (1, .row (.st (.pair (.int .i64) (.pair .str (.pair (.int .i64) (.sl (.st (.pair (.int .i64) (.pair (.int .i64) (.pair (.int .i64) (.sl (.st (.pair (.int .i64) (.pair (.int .i64) (.pair (.int .i64) (.int .i64))))))))))))))))], 2, [], 147573811852188057608⟩)], loops := [(5, ⟨[(0, .ptr 0 []), (45, .ms 10), (47, .int .i64)], [(0, .var (.st (.ms 1))), (1, .row (.st (.pair (.int .i64) (.pair .str (.pair (.int .i64) (.sl (.st (.pair (.int .i64) (.pair (.int .i64) (.pair (.int .i64) (.sl (.st (.pair (.int .i64) (.pair (.int .i64) (.pair (.int .i64) (.int .i64)))))))))))))))), (10, .row (.st (.pair .str (.pair (.int .i64) (.int .i64)))))], 11, [], 147573811852188057608⟩)], keeps := [3], orders := [(7, [(0, .strong), (1, .strong), (2, .strong), (3, .strong), (4, .strong), (5, .strong), (6, .strong), (7, .strong), (8, .eff true), (9, .eff true), (10, .eff true), (11, .eff true), (12, .eff true), (13, .eff true), (14, .eff false)])] }
def ways80.S : Sig := { f := 80, params := [.ptr 0 []], objs := [.var (.st (.ms 1)), .row (.st (.pair (.int .i64) (.pair .str (.pair (.int .i64) (.sl (.st (.pair (.int .i64) (.pair (.int .i64) (.pair (.int .i64) (.sl (.st (.pair (.int .i64) (.pair (.int .i64) (.pair (.int .i64) (.int .i64)))))))))))))))], res := .tup .unit, outs := [.var (.st (.ms 1)), .row (.st (.pair (.int .i64) (.pair .str (.pair (.int .i64) (.sl (.st (.pair (.int .i64) (.pair (.int .i64) (.pair (.int .i64) (.sl (.st (.pair (.int .i64) (.pair (.int .i64) (.pair (.int .i64) (.int .i64)))))))))))))))], fix := [], run := fun k ds os => ways80 k ds os.1 os.2 }
def ways80.G : List Sig := [add116.S, jump82'.S, no117.S, rd81''.S, two118.S, wr120.S]
theorem ways80.eq (k : Nat) : ∀ ds os, ways80.S.run k ds os = runF ⟨types, ways80.G, ways80.A, k, 0, []⟩ Tryz.f80 (codeOf Tryz.f80) ways80.S.params ways80.S.objs ways80.S.res ways80.S.outs ds os := by
  intro ds os; kernel_rfl
theorem ways80.dr : DrOk Tryz.prog ways80.A (codeOf Tryz.f80) := ⟨by kernel_rfl, by kernel_rfl⟩
theorem ways80.ok (k : Nat) : SoundAt Tryz.prog k ways80.S :=
  runF_sound (X := ⟨types, ways80.G, ways80.A, k, 0, []⟩) types_ok (mem_all (⟨add116.ok k, ⟨jump82'.ok k, ⟨no117.ok k, ⟨rd81''.ok k, ⟨two118.ok k, ⟨wr120.ok k, trivial⟩⟩⟩⟩⟩⟩)) (fn := Tryz.f80) (c := codeOf Tryz.f80) rfl (by kernel_rfl) rfl rfl ways80.dr (ways80.eq k)

def answers83 (k : Nat) (low : Int) (high : Int) : Option ((List (Int × (Int × (Int × (List (Int × (Int × (Int × Int)))))))) × Unit) :=
  (two118 k 21 5 7).bind fun t5 =>
  (no117 k [t5.1]).bind fun t7 =>
  (two118 k 20 5 7).bind fun t8 =>
  (wr120 k 4 5 [t8.1]).bind fun t10 =>
  (wr120 k 4 5 []).bind fun t11 =>
  (wr120 k 4 4 [(16, 0, 0, 4)]).bind fun t14 =>
  (rd81'' k low 5 []).bind fun t16 =>
  (jump82' k 7).bind fun t18 =>
  (rd81'' k high 6 t18.1).bind fun t19 =>
  some ([t7.1, t10.1, t11.1, t14.1, t16.1, t19.1], ())
def answers83.A : Ann := { conds := [], blocks := [], loops := [], keeps := [], orders := [] }
def answers83.S : Sig := { f := 83, params := [.int .i64, .int .i64], objs := [], res := .sl (.st (.pair (.int .i64) (.pair (.int .i64) (.pair (.int .i64) (.sl (.st (.pair (.int .i64) (.pair (.int .i64) (.pair (.int .i64) (.int .i64)))))))))), outs := [], fix := [], run := fun k ds os => answers83 k ds.1 ds.2 }
def answers83.G : List Sig := [jump82'.S, no117.S, rd81''.S, two118.S, wr120.S]
theorem answers83.eq (k : Nat) : ∀ ds os, answers83.S.run k ds os = runF ⟨types, answers83.G, answers83.A, k, 0, []⟩ Tryz.f83 (codeOf Tryz.f83) answers83.S.params answers83.S.objs answers83.S.res answers83.S.outs ds os := by
  intro ds os; kernel_rfl
theorem answers83.dr : DrOk Tryz.prog answers83.A (codeOf Tryz.f83) := ⟨by kernel_rfl, by kernel_rfl⟩
theorem answers83.ok (k : Nat) : SoundAt Tryz.prog k answers83.S :=
  runF_sound (X := ⟨types, answers83.G, answers83.A, k, 0, []⟩) types_ok (mem_all (⟨jump82'.ok k, ⟨no117.ok k, ⟨rd81''.ok k, ⟨two118.ok k, ⟨wr120.ok k, trivial⟩⟩⟩⟩⟩)) (fn := Tryz.f83) (c := codeOf Tryz.f83) rfl (by kernel_rfl) rfl rfl answers83.dr (answers83.eq k)
end Go.Proofs.YtcppmlgnceldmaaGreat.Gf

/- Go functions as plain Lean functions, and their contracts. -/
set_option linter.unusedVariables false
set_option maxRecDepth 100000
noncomputable section
namespace Go.Proofs.YtcppmlgnceldmaaGreat.Gf
open Go Go.Proofs.YtcppmlgnceldmaaGreat.Gp
def Cpu39 (k : Nat) : Option ((ByteArray × ((List (Int × (ByteArray × (Int × (List (Int × (Int × (Int × (List (Int × (Int × (Int × Int)))))))))))) × ((List (Int × (Int × (Int × (List (Int × (Int × (Int × Int)))))))) × ((List (Int × (Int × (Int × (List (Int × (Int × (Int × Int)))))))) × (List (Int × (Int × (Int × (List (Int × (Int × (Int × Int)))))))))))) × Unit) :=
  (memory78 k () () []).bind fun t6 =>
  (alone79 k () () t6.2.2).bind fun t8 =>
  (ways80 k () () t8.2.2).bind fun t10 =>
  (rd81'' k 10 5 []).bind fun t11 =>
  (jump82 k 7).bind fun t12 =>
  (if room (List.length t12.2 + List.length [(2, 3, 0, 255)]) 32 then some () else none).bind fun _ =>
  (rd81'' k 11 6 (t12.2 ++ [(2, 3, 0, 255)])).bind fun t16 =>
  (answers83 k 6 7).bind fun t23 =>
  (answers83 k 8 9).bind fun t24 =>
  some (((ByteArray.mk #[115, 116, 100]), t10.2.2, [t11.1, t16.1], t23.1, t24.1), ())
def Cpu39.A : Ann := { conds := [], blocks := [], loops := [], keeps := [], orders := [(6, [(0, .strong), (1, .strong), (2, .strong), (3, .strong), (4, .strong), (5, .eff true), (6, .eff true), (7, .strong), (8, .eff false)])], turns := [(0, [⟨0, [(1, .st (.pair (.int .i64) (.pair .str (.pair (.int .i64) (.sl (.st (.pair (.int .i64) (.pair (.int .i64) (.pair (.int .i64) (.sl (.st (.pair (.int .i64) (.pair (.int .i64) (.pair (.int .i64) (.int .i64))))))))))))))), (2, .st (.pair (.int .i64) (.pair (.int .i64) (.pair (.int .i64) (.sl (.st (.pair (.int .i64) (.pair (.int .i64) (.pair (.int .i64) (.int .i64)))))))))), (3, .st (.pair (.int .i64) (.pair (.int .i64) (.pair (.int .i64) (.sl (.st (.pair (.int .i64) (.pair (.int .i64) (.pair (.int .i64) (.int .i64)))))))))), (4, .st (.pair (.int .i64) (.pair (.int .i64) (.pair (.int .i64) (.sl (.st (.pair (.int .i64) (.pair (.int .i64) (.pair (.int .i64) (.int .i64))))))))))], .st (.pair .str (.pair (.ms 1) (.pair (.ms 2) (.pair (.ms 3) (.ms 4)))))⟩]), (1, [⟨5, [(6, .st (.pair (.int .i64) (.pair .str (.pair (.int .i64) (.sl (.st (.pair (.int .i64) (.pair (.int .i64) (.pair (.int .i64) (.sl (.st (.pair (.int .i64) (.pair (.int .i64) (.pair (.int .i64) (.int .i64)))))))))))))))], .st (.ms 6)⟩])] }
def Cpu39.S : Sig := { f := 39, params := [], objs := [], res := .st (.pair .str (.pair (.sl (.st (.pair (.int .i64) (.pair .str (.pair (.int .i64) (.sl (.st (.pair (.int .i64) (.pair (.int .i64) (.pair (.int .i64) (.sl (.st (.pair (.int .i64) (.pair (.int .i64) (.pair (.int .i64) (.int .i64)))))))))))))))) (.pair (.sl (.st (.pair (.int .i64) (.pair (.int .i64) (.pair (.int .i64) (.sl (.st (.pair (.int .i64) (.pair (.int .i64) (.pair (.int .i64) (.int .i64))))))))))) (.pair (.sl (.st (.pair (.int .i64) (.pair (.int .i64) (.pair (.int .i64) (.sl (.st (.pair (.int .i64) (.pair (.int .i64) (.pair (.int .i64) (.int .i64))))))))))) (.sl (.st (.pair (.int .i64) (.pair (.int .i64) (.pair (.int .i64) (.sl (.st (.pair (.int .i64) (.pair (.int .i64) (.pair (.int .i64) (.int .i64))))))))))))))), outs := [], fix := [], run := fun k ds os => Cpu39 k }
def Cpu39.G : List Sig := [alone79.S, answers83.S, jump82.S, memory78.S, rd81''.S, ways80.S]
theorem Cpu39.eq (k : Nat) : ∀ ds os, Cpu39.S.run k ds os = runF ⟨types, Cpu39.G, Cpu39.A, k, 0, []⟩ Tryz.f39 (codeOf Tryz.f39) Cpu39.S.params Cpu39.S.objs Cpu39.S.res Cpu39.S.outs ds os := by
  intro ds os; kernel_rfl
theorem Cpu39.dr : DrOk Tryz.prog Cpu39.A (codeOf Tryz.f39) := ⟨by kernel_rfl, by kernel_rfl⟩
theorem Cpu39.ok (k : Nat) : SoundAt Tryz.prog k Cpu39.S :=
  runF_sound (X := ⟨types, Cpu39.G, Cpu39.A, k, 0, []⟩) types_ok (mem_all (⟨alone79.ok k, ⟨answers83.ok k, ⟨jump82.ok k, ⟨memory78.ok k, ⟨rd81''.ok k, ⟨ways80.ok k, trivial⟩⟩⟩⟩⟩⟩)) (fn := Tryz.f39) (c := codeOf Tryz.f39) rfl (by kernel_rfl) rfl rfl Cpu39.dr (Cpu39.eq k)

def nop40 (k : Nat) : Option ((Int × ((List Int) × (List (ByteArray × Int)))) × Unit) :=
  (Cpu39 k).bind fun t6 =>
  (Named84 k t6.1 (ByteArray.mk #[110, 111, 112]) 0).bind fun t7 =>
  (Cpu39 k).bind fun t11 =>
  (Named84 k t11.1 (ByteArray.mk #[106, 109, 112]) 4).bind fun t12 =>
  some ((512, ([(IntKind.wrap .u8 t7.1.1.1), (IntKind.wrap .u8 t12.1.1.1), 0, 2] : List Int), []), ())
def nop40.A : Ann := { conds := [], blocks := [], loops := [], keeps := [1, 3], orders := [] }
def nop40.S : Sig := { f := 40, params := [], objs := [], res := .st (.pair (.int .i64) (.pair (.sl (.int .u8)) (.sl (.st (.pair .str (.int .i64)))))), outs := [], fix := [], run := fun k ds os => nop40 k }
def nop40.G : List Sig := [Cpu39.S, Named84.S]
theorem nop40.eq (k : Nat) : ∀ ds os, nop40.S.run k ds os = runF ⟨types, nop40.G, nop40.A, k, 0, []⟩ Tryz.f40 (codeOf Tryz.f40) nop40.S.params nop40.S.objs nop40.S.res nop40.S.outs ds os := by
  intro ds os; kernel_rfl
theorem nop40.dr : DrOk Tryz.prog nop40.A (codeOf Tryz.f40) := ⟨by kernel_rfl, by kernel_rfl⟩
theorem nop40.ok (k : Nat) : SoundAt Tryz.prog k nop40.S :=
  runF_sound (X := ⟨types, nop40.G, nop40.A, k, 0, []⟩) types_ok (mem_all (⟨Cpu39.ok k, ⟨Named84.ok k, trivial⟩⟩)) (fn := Tryz.f40) (c := codeOf Tryz.f40) rfl (by kernel_rfl) rfl rfl nop40.dr (nop40.eq k)

def generated9 (k : Nat) : Option (Bool × Unit) :=
  (Cpu39 k).bind fun t2 =>
  (nop40 k).bind fun t3 =>
  (Run38 k t2.1 (t3.1.2.1, (List.replicate 9 0))).bind fun t6 =>
  Option.bind (cond ((List.length t6.1 : Int) == 40)
    ((rd t6.1 0).bind fun t12 =>
    (nop40 k).bind fun t14 =>
    (rd t14.1.2.1 0).bind fun t16 =>
    some (xor false (eqB (.st (.pair (.int .i64) (.pair (.int .i64) (.int .i64)))) t12 ((1, 512, (w64 t16)) : (Int × (Int × Int))))))
    (some false)) fun t21 =>
  some (t21, ())
def generated9.A : Ann := { conds := [], blocks := [], loops := [], keeps := [], orders := [(2, [(0, .strong), (1, .strong), (2, .strong), (3, .strong), (4, .strong), (5, .strong), (6, .strong), (7, .eff true), (8, .strong), (9, .strong), (10, .strong), (11, .strong), (12, .strong), (13, .strong), (14, .strong), (15, .strong)])] }
def generated9.S : Sig := { f := 9, params := [], objs := [], res := .bool, outs := [], fix := [], run := fun k ds os => generated9 k }
def generated9.G : List Sig := [Cpu39.S, Run38.S, nop40.S]
theorem generated9.eq (k : Nat) : ∀ ds os, generated9.S.run k ds os = runF ⟨types, generated9.G, generated9.A, k, 0, []⟩ Tryz.f9 (codeOf Tryz.f9) generated9.S.params generated9.S.objs generated9.S.res generated9.S.outs ds os := by
  intro ds os; kernel_rfl
theorem generated9.dr : DrOk Tryz.prog generated9.A (codeOf Tryz.f9) := ⟨by kernel_rfl, by kernel_rfl⟩
theorem generated9.ok (k : Nat) : SoundAt Tryz.prog k generated9.S :=
  runF_sound (X := ⟨types, generated9.G, generated9.A, k, 0, []⟩) types_ok (mem_all (⟨Cpu39.ok k, ⟨Run38.ok k, ⟨nop40.ok k, trivial⟩⟩⟩)) (fn := Tryz.f9) (c := codeOf Tryz.f9) rfl (by kernel_rfl) rfl rfl generated9.dr (generated9.eq k)

def Equal41.l0 (k : Nat) (s1 : (List Int)) (s2 : (List Int)) : Int → Option (Int ⊕ (Unit ⊕ (Bool × Unit)))
  | t13 =>
    cond (decide (t13 < (List.length s1 : Int)))
      ((rd s1 t13).bind fun t18 =>
      (rd s2 t13).bind fun t22 =>
      cond (t18 != t22)
        (some (Sum.inr (Sum.inr (false, ()))))
        (some (Sum.inl (w64 (t13 + 1)))))
      (some (Sum.inr (Sum.inl ())))
def Equal41 (k : Nat) (s1 : (List Int)) (s2 : (List Int)) : Option (Bool × Unit) :=
  cond ((List.length s1 : Int) != (List.length s2 : Int))
    (some (false, ()))
    (Option.bind
      (loopN (Equal41.l0 k s1 s2) k 0 : Option (Unit ⊕ (Bool × Unit))) (joined fun (_ : Unit) =>
      some (true, ())))
def Equal41.A : Ann := { conds := [], blocks := [(0, ⟨[], [], 0, [], 67100720⟩)], loops := [(4, ⟨[(13, .int .i64)], [], 0, [], 67100720⟩)], keeps := [], orders := [(6, [(0, .strong), (1, .strong), (2, .strong), (3, .strong), (4, .strong), (5, .strong), (6, .strong), (7, .strong), (8, .strong)])] }
def Equal41.S : Sig := { f := 41, params := [.sl (.int .u8), .sl (.int .u8)], objs := [], res := .bool, outs := [], fix := [], run := fun k ds os => Equal41 k ds.1 ds.2 }
def Equal41.G : List Sig := []
theorem Equal41.eq (k : Nat) : ∀ ds os, Equal41.S.run k ds os = runF ⟨types, Equal41.G, Equal41.A, k, 0, []⟩ Tryz.f41 (codeOf Tryz.f41) Equal41.S.params Equal41.S.objs Equal41.S.res Equal41.S.outs ds os := by
  intro ds os; kernel_rfl
theorem Equal41.dr : DrOk Tryz.prog Equal41.A (codeOf Tryz.f41) := ⟨by kernel_rfl, by kernel_rfl⟩
theorem Equal41.ok (k : Nat) : SoundAt Tryz.prog k Equal41.S :=
  runF_sound (X := ⟨types, Equal41.G, Equal41.A, k, 0, []⟩) types_ok (fun s hs => absurd hs List.not_mem_nil) (fn := Tryz.f41) (c := codeOf Tryz.f41) rfl (by kernel_rfl) rfl rfl Equal41.dr (Equal41.eq k)

def sameTest10 (k : Nat) (a : ((List Int) × (List Int))) (b : ((List Int) × (List Int))) : Option (Bool × Unit) :=
  (Equal41 k a.1 b.1).bind fun t9 =>
  some ((cond t9.1 (xor false (eqB (.arr 9 (.int .i64)) a.2 b.2)) false), ())
def sameTest10.A : Ann := { conds := [], blocks := [], loops := [], keeps := [2, 3], orders := [] }
def sameTest10.S : Sig := { f := 10, params := [.st (.pair (.sl (.int .u8)) (.arr 9 (.int .i64))), .st (.pair (.sl (.int .u8)) (.arr 9 (.int .i64)))], objs := [], res := .bool, outs := [], fix := [], run := fun k ds os => sameTest10 k ds.1 ds.2 }
def sameTest10.G : List Sig := [Equal41.S]
theorem sameTest10.eq (k : Nat) : ∀ ds os, sameTest10.S.run k ds os = runF ⟨types, sameTest10.G, sameTest10.A, k, 0, []⟩ Tryz.f10 (codeOf Tryz.f10) sameTest10.S.params sameTest10.S.objs sameTest10.S.res sameTest10.S.outs ds os := by
  intro ds os; kernel_rfl
theorem sameTest10.dr : DrOk Tryz.prog sameTest10.A (codeOf Tryz.f10) := ⟨by kernel_rfl, by kernel_rfl⟩
theorem sameTest10.ok (k : Nat) : SoundAt Tryz.prog k sameTest10.S :=
  runF_sound (X := ⟨types, sameTest10.G, sameTest10.A, k, 0, []⟩) types_ok (mem_all (⟨Equal41.ok k, trivial⟩)) (fn := Tryz.f10) (c := codeOf Tryz.f10) rfl (by kernel_rfl) rfl rfl sameTest10.dr (sameTest10.eq k)

def sameCycles186 (k : Nat) (x : (Int × (Int × (Int × (List (Int × (Int × (Int × Int)))))))) (y : (Int × (Int × (Int × (List (Int × (Int × (Int × Int)))))))) : Option (Bool × Unit) :=
  Option.bind (cond (cond (cond (x.1 == y.1) (x.2.1 == y.2.1) false) (x.2.2.1 == y.2.2.1) false)
    ((Equal69 k x.2.2.2 y.2.2.2).bind fun t29 =>
    some t29.1)
    (some false)) fun t30 =>
  some (t30, ())
def sameCycles186.A : Ann := { conds := [], blocks := [], loops := [], keeps := [2, 3], orders := [] }
def sameCycles186.S : Sig := { f := 86, params := [.st (.pair (.int .i64) (.pair (.int .i64) (.pair (.int .i64) (.sl (.st (.pair (.int .i64) (.pair (.int .i64) (.pair (.int .i64) (.int .i64))))))))), .st (.pair (.int .i64) (.pair (.int .i64) (.pair (.int .i64) (.sl (.st (.pair (.int .i64) (.pair (.int .i64) (.pair (.int .i64) (.int .i64)))))))))], objs := [], res := .bool, outs := [], fix := [], run := fun k ds os => sameCycles186 k ds.1 ds.2 }
def sameCycles186.G : List Sig := [Equal69.S]
theorem sameCycles186.eq (k : Nat) : ∀ ds os, sameCycles186.S.run k ds os = runF ⟨types, sameCycles186.G, sameCycles186.A, k, 0, []⟩ Tryz.f86 (codeOf Tryz.f86) sameCycles186.S.params sameCycles186.S.objs sameCycles186.S.res sameCycles186.S.outs ds os := by
  intro ds os; kernel_rfl
theorem sameCycles186.dr : DrOk Tryz.prog sameCycles186.A (codeOf Tryz.f86) := ⟨by kernel_rfl, by kernel_rfl⟩
theorem sameCycles186.ok (k : Nat) : SoundAt Tryz.prog k sameCycles186.S :=
  runF_sound (X := ⟨types, sameCycles186.G, sameCycles186.A, k, 0, []⟩) types_ok (mem_all (⟨Equal69.ok k, trivial⟩)) (fn := Tryz.f86) (c := codeOf Tryz.f86) rfl (by kernel_rfl) rfl rfl sameCycles186.dr (sameCycles186.eq k)

def EqualFunc67'.l0 (k : Nat) (s1 : (List (Int × (Int × (Int × (List (Int × (Int × (Int × Int))))))))) (s2 : (List (Int × (Int × (Int × (List (Int × (Int × (Int × Int))))))))) : (Unit × Int) → Option ((Unit × Int) ⊕ (Unit ⊕ (Bool × Unit)))
  | (_, t17) =>
    cond (decide (t17 < (List.length s1 : Int)))
      ((rd s1 t17).bind fun t20 =>
      (rd s2 t17).bind fun t24 =>
      (sameCycles186 k t20 t24).bind fun t29 =>
      cond (!t29.1)
        (some (Sum.inr (Sum.inr (false, ()))))
        (some (Sum.inl ((), (w64 (t17 + 1))))))
      (some (Sum.inr (Sum.inl ())))
def EqualFunc67' (k : Nat) (s1 : (List (Int × (Int × (Int × (List (Int × (Int × (Int × Int))))))))) (s2 : (List (Int × (Int × (Int × (List (Int × (Int × (Int × Int))))))))) (_ : Unit) : Option (Bool × Unit) :=
  cond ((List.length s1 : Int) != (List.length s2 : Int))
    (some (false, ()))
    (Option.bind
      (loopN (EqualFunc67'.l0 k s1 s2) k ((), 0) : Option (Unit ⊕ (Bool × Unit))) (joined fun (_ : Unit) =>
      some (true, ())))
def EqualFunc67'.A : Ann := { conds := [], blocks := [(0, ⟨[], [], 0, [], 4294837184⟩)], loops := [(4, ⟨[(2, .fn 86 .unit), (17, .int .i64)], [], 0, [], 4294837184⟩)], keeps := [8, 9], orders := [] }
def EqualFunc67'.S : Sig := { f := 67, params := [.sl (.st (.pair (.int .i64) (.pair (.int .i64) (.pair (.int .i64) (.sl (.st (.pair (.int .i64) (.pair (.int .i64) (.pair (.int .i64) (.int .i64)))))))))), .sl (.st (.pair (.int .i64) (.pair (.int .i64) (.pair (.int .i64) (.sl (.st (.pair (.int .i64) (.pair (.int .i64) (.pair (.int .i64) (.int .i64)))))))))), .fn 86 .unit], objs := [], res := .bool, outs := [], fix := [], run := fun k ds os => EqualFunc67' k ds.1 ds.2.1 ds.2.2 }
def EqualFunc67'.G : List Sig := [sameCycles186.S]
theorem EqualFunc67'.eq (k : Nat) : ∀ ds os, EqualFunc67'.S.run k ds os = runF ⟨types, EqualFunc67'.G, EqualFunc67'.A, k, 0, []⟩ Tryz.f67 (codeOf Tryz.f67) EqualFunc67'.S.params EqualFunc67'.S.objs EqualFunc67'.S.res EqualFunc67'.S.outs ds os := by
  intro ds os; kernel_rfl
theorem EqualFunc67'.dr : DrOk Tryz.prog EqualFunc67'.A (codeOf Tryz.f67) := ⟨by kernel_rfl, by kernel_rfl⟩
theorem EqualFunc67'.ok (k : Nat) : SoundAt Tryz.prog k EqualFunc67'.S :=
  runF_sound (X := ⟨types, EqualFunc67'.G, EqualFunc67'.A, k, 0, []⟩) types_ok (mem_all (⟨sameCycles186.ok k, trivial⟩)) (fn := Tryz.f67) (c := codeOf Tryz.f67) rfl (by kernel_rfl) rfl rfl EqualFunc67'.dr (EqualFunc67'.eq k)
end Go.Proofs.YtcppmlgnceldmaaGreat.Gf

/- Go functions as plain Lean functions, and their contracts. -/
set_option linter.unusedVariables false
set_option maxRecDepth 100000
noncomputable section
namespace Go.Proofs.YtcppmlgnceldmaaGreat.Gf
open Go Go.Proofs.YtcppmlgnceldmaaGreat.Gp
def sameCycles45 (k : Nat) (a : (List (Int × (Int × (Int × (List (Int × (Int × (Int × Int))))))))) (b : (List (Int × (Int × (Int × (List (Int × (Int × (Int × Int))))))))) : Option (Bool × Unit) :=
  (EqualFunc67' k a b ()).bind fun t7 =>
  some (t7.1, ())
def sameCycles45.A : Ann := { conds := [], blocks := [], loops := [], keeps := [], orders := [] }
def sameCycles45.S : Sig := { f := 45, params := [.sl (.st (.pair (.int .i64) (.pair (.int .i64) (.pair (.int .i64) (.sl (.st (.pair (.int .i64) (.pair (.int .i64) (.pair (.int .i64) (.int .i64)))))))))), .sl (.st (.pair (.int .i64) (.pair (.int .i64) (.pair (.int .i64) (.sl (.st (.pair (.int .i64) (.pair (.int .i64) (.pair (.int .i64) (.int .i64))))))))))], objs := [], res := .bool, outs := [], fix := [], run := fun k ds os => sameCycles45 k ds.1 ds.2 }
def sameCycles45.G : List Sig := [EqualFunc67'.S]
theorem sameCycles45.eq (k : Nat) : ∀ ds os, sameCycles45.S.run k ds os = runF ⟨types, sameCycles45.G, sameCycles45.A, k, 0, []⟩ Tryz.f45 (codeOf Tryz.f45) sameCycles45.S.params sameCycles45.S.objs sameCycles45.S.res sameCycles45.S.outs ds os := by
  intro ds os; kernel_rfl
theorem sameCycles45.dr : DrOk Tryz.prog sameCycles45.A (codeOf Tryz.f45) := ⟨by kernel_rfl, by kernel_rfl⟩
theorem sameCycles45.ok (k : Nat) : SoundAt Tryz.prog k sameCycles45.S :=
  runF_sound (X := ⟨types, sameCycles45.G, sameCycles45.A, k, 0, []⟩) types_ok (mem_all (⟨EqualFunc67'.ok k, trivial⟩)) (fn := Tryz.f45) (c := codeOf Tryz.f45) rfl (by kernel_rfl) rfl rfl sameCycles45.dr (sameCycles45.eq k)

def Same147 (k : Nat) (x : (Int × (ByteArray × (Int × (List (Int × (Int × (Int × (List (Int × (Int × (Int × Int)))))))))))) (y : (Int × (ByteArray × (Int × (List (Int × (Int × (Int × (List (Int × (Int × (Int × Int)))))))))))) : Option (Bool × Unit) :=
  Option.bind (cond (cond (cond (x.1 == y.1) (streq x.2.1 y.2.1) false) (x.2.2.1 == y.2.2.1) false)
    ((sameCycles45 k x.2.2.2 y.2.2.2).bind fun t29 =>
    some t29.1)
    (some false)) fun t30 =>
  some (t30, ())
def Same147.A : Ann := { conds := [], blocks := [], loops := [], keeps := [2, 3], orders := [] }
def Same147.S : Sig := { f := 47, params := [.st (.pair (.int .i64) (.pair .str (.pair (.int .i64) (.sl (.st (.pair (.int .i64) (.pair (.int .i64) (.pair (.int .i64) (.sl (.st (.pair (.int .i64) (.pair (.int .i64) (.pair (.int .i64) (.int .i64)))))))))))))), .st (.pair (.int .i64) (.pair .str (.pair (.int .i64) (.sl (.st (.pair (.int .i64) (.pair (.int .i64) (.pair (.int .i64) (.sl (.st (.pair (.int .i64) (.pair (.int .i64) (.pair (.int .i64) (.int .i64))))))))))))))], objs := [], res := .bool, outs := [], fix := [], run := fun k ds os => Same147 k ds.1 ds.2 }
def Same147.G : List Sig := [sameCycles45.S]
theorem Same147.eq (k : Nat) : ∀ ds os, Same147.S.run k ds os = runF ⟨types, Same147.G, Same147.A, k, 0, []⟩ Tryz.f47 (codeOf Tryz.f47) Same147.S.params Same147.S.objs Same147.S.res Same147.S.outs ds os := by
  intro ds os; kernel_rfl
theorem Same147.dr : DrOk Tryz.prog Same147.A (codeOf Tryz.f47) := ⟨by kernel_rfl, by kernel_rfl⟩
theorem Same147.ok (k : Nat) : SoundAt Tryz.prog k Same147.S :=
  runF_sound (X := ⟨types, Same147.G, Same147.A, k, 0, []⟩) types_ok (mem_all (⟨sameCycles45.ok k, trivial⟩)) (fn := Tryz.f47) (c := codeOf Tryz.f47) rfl (by kernel_rfl) rfl rfl Same147.dr (Same147.eq k)

def EqualFunc46.l0 (k : Nat) (s1 : (List (Int × (ByteArray × (Int × (List (Int × (Int × (Int × (List (Int × (Int × (Int × Int))))))))))))) (s2 : (List (Int × (ByteArray × (Int × (List (Int × (Int × (Int × (List (Int × (Int × (Int × Int))))))))))))) : (Unit × Int) → Option ((Unit × Int) ⊕ (Unit ⊕ (Bool × Unit)))
  | (_, t17) =>
    cond (decide (t17 < (List.length s1 : Int)))
      ((rd s1 t17).bind fun t20 =>
      (rd s2 t17).bind fun t24 =>
      (Same147 k t20 t24).bind fun t29 =>
      cond (!t29.1)
        (some (Sum.inr (Sum.inr (false, ()))))
        (some (Sum.inl ((), (w64 (t17 + 1))))))
      (some (Sum.inr (Sum.inl ())))
def EqualFunc46 (k : Nat) (s1 : (List (Int × (ByteArray × (Int × (List (Int × (Int × (Int × (List (Int × (Int × (Int × Int))))))))))))) (s2 : (List (Int × (ByteArray × (Int × (List (Int × (Int × (Int × (List (Int × (Int × (Int × Int))))))))))))) (_ : Unit) : Option (Bool × Unit) :=
  cond ((List.length s1 : Int) != (List.length s2 : Int))
    (some (false, ()))
    (Option.bind
      (loopN (EqualFunc46.l0 k s1 s2) k ((), 0) : Option (Unit ⊕ (Bool × Unit))) (joined fun (_ : Unit) =>
      some (true, ())))
def EqualFunc46.A : Ann := { conds := [], blocks := [(0, ⟨[], [], 0, [], 4294837184⟩)], loops := [(4, ⟨[(2, .fn 47 .unit), (17, .int .i64)], [], 0, [], 4294837184⟩)], keeps := [8, 9], orders := [] }
def EqualFunc46.S : Sig := { f := 46, params := [.sl (.st (.pair (.int .i64) (.pair .str (.pair (.int .i64) (.sl (.st (.pair (.int .i64) (.pair (.int .i64) (.pair (.int .i64) (.sl (.st (.pair (.int .i64) (.pair (.int .i64) (.pair (.int .i64) (.int .i64))))))))))))))), .sl (.st (.pair (.int .i64) (.pair .str (.pair (.int .i64) (.sl (.st (.pair (.int .i64) (.pair (.int .i64) (.pair (.int .i64) (.sl (.st (.pair (.int .i64) (.pair (.int .i64) (.pair (.int .i64) (.int .i64))))))))))))))), .fn 47 .unit], objs := [], res := .bool, outs := [], fix := [], run := fun k ds os => EqualFunc46 k ds.1 ds.2.1 ds.2.2 }
def EqualFunc46.G : List Sig := [Same147.S]
theorem EqualFunc46.eq (k : Nat) : ∀ ds os, EqualFunc46.S.run k ds os = runF ⟨types, EqualFunc46.G, EqualFunc46.A, k, 0, []⟩ Tryz.f46 (codeOf Tryz.f46) EqualFunc46.S.params EqualFunc46.S.objs EqualFunc46.S.res EqualFunc46.S.outs ds os := by
  intro ds os; kernel_rfl
theorem EqualFunc46.dr : DrOk Tryz.prog EqualFunc46.A (codeOf Tryz.f46) := ⟨by kernel_rfl, by kernel_rfl⟩
theorem EqualFunc46.ok (k : Nat) : SoundAt Tryz.prog k EqualFunc46.S :=
  runF_sound (X := ⟨types, EqualFunc46.G, EqualFunc46.A, k, 0, []⟩) types_ok (mem_all (⟨Same147.ok k, trivial⟩)) (fn := Tryz.f46) (c := codeOf Tryz.f46) rfl (by kernel_rfl) rfl rfl EqualFunc46.dr (EqualFunc46.eq k)

def Same12 (k : Nat) (a : (ByteArray × ((List (Int × (ByteArray × (Int × (List (Int × (Int × (Int × (List (Int × (Int × (Int × Int)))))))))))) × ((List (Int × (Int × (Int × (List (Int × (Int × (Int × Int)))))))) × ((List (Int × (Int × (Int × (List (Int × (Int × (Int × Int)))))))) × (List (Int × (Int × (Int × (List (Int × (Int × (Int × Int))))))))))))) (b : (ByteArray × ((List (Int × (ByteArray × (Int × (List (Int × (Int × (Int × (List (Int × (Int × (Int × Int)))))))))))) × ((List (Int × (Int × (Int × (List (Int × (Int × (Int × Int)))))))) × ((List (Int × (Int × (Int × (List (Int × (Int × (Int × Int)))))))) × (List (Int × (Int × (Int × (List (Int × (Int × (Int × Int))))))))))))) : Option (Bool × Unit) :=
  Option.bind (cond (streq a.1 b.1)
    ((sameCycles45 k a.2.2.1 b.2.2.1).bind fun t15 =>
    some t15.1)
    (some false)) fun t16 =>
  Option.bind (cond t16
    ((sameCycles45 k a.2.2.2.1 b.2.2.2.1).bind fun t22 =>
    some t22.1)
    (some false)) fun t23 =>
  Option.bind (cond t23
    ((sameCycles45 k a.2.2.2.2 b.2.2.2.2).bind fun t29 =>
    some t29.1)
    (some false)) fun t30 =>
  Option.bind (cond t30
    ((EqualFunc46 k a.2.1 b.2.1 ()).bind fun t36 =>
    some t36.1)
    (some false)) fun t37 =>
  some (t37, ())
def Same12.A : Ann := { conds := [], blocks := [], loops := [], keeps := [2, 3], orders := [] }
def Same12.S : Sig := { f := 12, params := [.st (.pair .str (.pair (.sl (.st (.pair (.int .i64) (.pair .str (.pair (.int .i64) (.sl (.st (.pair (.int .i64) (.pair (.int .i64) (.pair (.int .i64) (.sl (.st (.pair (.int .i64) (.pair (.int .i64) (.pair (.int .i64) (.int .i64)))))))))))))))) (.pair (.sl (.st (.pair (.int .i64) (.pair (.int .i64) (.pair (.int .i64) (.sl (.st (.pair (.int .i64) (.pair (.int .i64) (.pair (.int .i64) (.int .i64))))))))))) (.pair (.sl (.st (.pair (.int .i64) (.pair (.int .i64) (.pair (.int .i64) (.sl (.st (.pair (.int .i64) (.pair (.int .i64) (.pair (.int .i64) (.int .i64))))))))))) (.sl (.st (.pair (.int .i64) (.pair (.int .i64) (.pair (.int .i64) (.sl (.st (.pair (.int .i64) (.pair (.int .i64) (.pair (.int .i64) (.int .i64))))))))))))))), .st (.pair .str (.pair (.sl (.st (.pair (.int .i64) (.pair .str (.pair (.int .i64) (.sl (.st (.pair (.int .i64) (.pair (.int .i64) (.pair (.int .i64) (.sl (.st (.pair (.int .i64) (.pair (.int .i64) (.pair (.int .i64) (.int .i64)))))))))))))))) (.pair (.sl (.st (.pair (.int .i64) (.pair (.int .i64) (.pair (.int .i64) (.sl (.st (.pair (.int .i64) (.pair (.int .i64) (.pair (.int .i64) (.int .i64))))))))))) (.pair (.sl (.st (.pair (.int .i64) (.pair (.int .i64) (.pair (.int .i64) (.sl (.st (.pair (.int .i64) (.pair (.int .i64) (.pair (.int .i64) (.int .i64))))))))))) (.sl (.st (.pair (.int .i64) (.pair (.int .i64) (.pair (.int .i64) (.sl (.st (.pair (.int .i64) (.pair (.int .i64) (.pair (.int .i64) (.int .i64)))))))))))))))], objs := [], res := .bool, outs := [], fix := [], run := fun k ds os => Same12 k ds.1 ds.2 }
def Same12.G : List Sig := [EqualFunc46.S, sameCycles45.S]
theorem Same12.eq (k : Nat) : ∀ ds os, Same12.S.run k ds os = runF ⟨types, Same12.G, Same12.A, k, 0, []⟩ Tryz.f12 (codeOf Tryz.f12) Same12.S.params Same12.S.objs Same12.S.res Same12.S.outs ds os := by
  intro ds os; kernel_rfl
theorem Same12.dr : DrOk Tryz.prog Same12.A (codeOf Tryz.f12) := ⟨by kernel_rfl, by kernel_rfl⟩
theorem Same12.ok (k : Nat) : SoundAt Tryz.prog k Same12.S :=
  runF_sound (X := ⟨types, Same12.G, Same12.A, k, 0, []⟩) types_ok (mem_all (⟨EqualFunc46.ok k, ⟨sameCycles45.ok k, trivial⟩⟩)) (fn := Tryz.f12) (c := codeOf Tryz.f12) rfl (by kernel_rfl) rfl rfl Same12.dr (Same12.eq k)

def operands49 (k : Nat) : Option (((List Int) × ((List ByteArray) × Unit)) × Unit) :=
  some ((([0, 1, 1, 1, 2, 2, 2, 1, 1] : List Int), [(ByteArray.mk #[]), (ByteArray.mk #[32, 35, 63]), (ByteArray.mk #[32, 42, 63]), (ByteArray.mk #[32, 42, 63, 44, 120]), (ByteArray.mk #[32, 63]), (ByteArray.mk #[32, 63, 44, 120]), (ByteArray.mk #[32, 63, 44, 121]), (ByteArray.mk #[32, 64, 63]), (ByteArray.mk #[32, 40, 63, 41, 44, 121])], ()), ())
def operands49.A : Ann := { conds := [], blocks := [], loops := [], keeps := [], orders := [] }
def operands49.S : Sig := { f := 49, params := [], objs := [], res := .tup (.pair (.sl (.int .i64)) (.pair (.sl .str) .unit)), outs := [], fix := [], run := fun k ds os => operands49 k }
def operands49.G : List Sig := []
theorem operands49.eq (k : Nat) : ∀ ds os, operands49.S.run k ds os = runF ⟨types, operands49.G, operands49.A, k, 0, []⟩ Tryz.f49 (codeOf Tryz.f49) operands49.S.params operands49.S.objs operands49.S.res operands49.S.outs ds os := by
  intro ds os; kernel_rfl
theorem operands49.dr : DrOk Tryz.prog operands49.A (codeOf Tryz.f49) := ⟨by kernel_rfl, by kernel_rfl⟩
theorem operands49.ok (k : Nat) : SoundAt Tryz.prog k operands49.S :=
  runF_sound (X := ⟨types, operands49.G, operands49.A, k, 0, []⟩) types_ok (fun s hs => absurd hs List.not_mem_nil) (fn := Tryz.f49) (c := codeOf Tryz.f49) rfl (by kernel_rfl) rfl rfl operands49.dr (operands49.eq k)

def with50.l0 (k : Nat) (c : (ByteArray × ((List (Int × (ByteArray × (Int × (List (Int × (Int × (Int × (List (Int × (Int × (Int × Int)))))))))))) × ((List (Int × (Int × (Int × (List (Int × (Int × (Int × Int)))))))) × ((List (Int × (Int × (Int × (List (Int × (Int × (Int × Int)))))))) × (List (Int × (Int × (Int × (List (Int × (Int × (Int × Int))))))))))))) (op : Int) : (Unit × (Int × (Int × (ByteArray × (Int × Unit))))) → Option ((Unit × (Int × (Int × (ByteArray × (Int × Unit))))) ⊕ ((Unit × (Int × (ByteArray × (Int × Unit)))) ⊕ (((Int × (ByteArray × (Int × (List (Int × (Int × (Int × (List (Int × (Int × (Int × Int))))))))))) × (Bool × Unit)) × Unit)))
  | (_, t11, o0) =>
    cond (decide (t11 < (List.length c.2.1 : Int)))
      ((rd c.2.1 t11).bind fun t13 =>
      cond (t13.1 == op)
        (some (Sum.inr (Sum.inr ((t13, true, ()), ()))))
        (some (Sum.inl ((), (w64 (t11 + 1)), o0))))
      (some (Sum.inr (Sum.inl ((), o0))))
def with50 (k : Nat) (c : (ByteArray × ((List (Int × (ByteArray × (Int × (List (Int × (Int × (Int × (List (Int × (Int × (Int × Int)))))))))))) × ((List (Int × (Int × (Int × (List (Int × (Int × (Int × Int)))))))) × ((List (Int × (Int × (Int × (List (Int × (Int × (Int × Int)))))))) × (List (Int × (Int × (Int × (List (Int × (Int × (Int × Int))))))))))))) (op : Int) : Option (((Int × (ByteArray × (Int × (List (Int × (Int × (Int × (List (Int × (Int × (Int × Int))))))))))) × (Bool × Unit)) × Unit) :=
  Option.bind
    (loopN (with50.l0 k c op) k ((), 0, 0, (ByteArray.mk #[]), 0, ()) : Option ((Unit × (Int × (ByteArray × (Int × Unit)))) ⊕ (((Int × (ByteArray × (Int × (List (Int × (Int × (Int × (List (Int × (Int × (Int × Int))))))))))) × (Bool × Unit)) × Unit))) (joined fun ((_, _) : (Unit × (Int × (ByteArray × (Int × Unit))))) =>
    some (((0, (ByteArray.mk #[]), 0, []), false, ()), ()))
def with50.A : Ann := { conds := [], blocks := [(0, ⟨[(4, .ptr 0 [])], [(0, .var (.st (.pair (.int .i64) (.pair .str (.pair (.int .i64) .nil)))))], 1, [], 2095264⟩)], loops := [(2, ⟨[(4, .ptr 0 []), (11, .int .i64)], [(0, .var (.st (.pair (.int .i64) (.pair .str (.pair (.int .i64) .nil)))))], 1, [], 2095264⟩)], keeps := [2, 7], orders := [] }
def with50.S : Sig := { f := 50, params := [.st (.pair .str (.pair (.sl (.st (.pair (.int .i64) (.pair .str (.pair (.int .i64) (.sl (.st (.pair (.int .i64) (.pair (.int .i64) (.pair (.int .i64) (.sl (.st (.pair (.int .i64) (.pair (.int .i64) (.pair (.int .i64) (.int .i64)))))))))))))))) (.pair (.sl (.st (.pair (.int .i64) (.pair (.int .i64) (.pair (.int .i64) (.sl (.st (.pair (.int .i64) (.pair (.int .i64) (.pair (.int .i64) (.int .i64))))))))))) (.pair (.sl (.st (.pair (.int .i64) (.pair (.int .i64) (.pair (.int .i64) (.sl (.st (.pair (.int .i64) (.pair (.int .i64) (.pair (.int .i64) (.int .i64))))))))))) (.sl (.st (.pair (.int .i64) (.pair (.int .i64) (.pair (.int .i64) (.sl (.st (.pair (.int .i64) (.pair (.int .i64) (.pair (.int .i64) (.int .i64))))))))))))))), .int .i64], objs := [], res := .tup (.pair (.st (.pair (.int .i64) (.pair .str (.pair (.int .i64) (.sl (.st (.pair (.int .i64) (.pair (.int .i64) (.pair (.int .i64) (.sl (.st (.pair (.int .i64) (.pair (.int .i64) (.pair (.int .i64) (.int .i64))))))))))))))) (.pair .bool .unit)), outs := [], fix := [], run := fun k ds os => with50 k ds.1 ds.2 }
def with50.G : List Sig := []
theorem with50.eq (k : Nat) : ∀ ds os, with50.S.run k ds os = runF ⟨types, with50.G, with50.A, k, 0, []⟩ Tryz.f50 (codeOf Tryz.f50) with50.S.params with50.S.objs with50.S.res with50.S.outs ds os := by
  intro ds os; kernel_rfl
theorem with50.dr : DrOk Tryz.prog with50.A (codeOf Tryz.f50) := ⟨by kernel_rfl, by kernel_rfl⟩
theorem with50.ok (k : Nat) : SoundAt Tryz.prog k with50.S :=
  runF_sound (X := ⟨types, with50.G, with50.A, k, 0, []⟩) types_ok (fun s hs => absurd hs List.not_mem_nil) (fn := Tryz.f50) (c := codeOf Tryz.f50) rfl (by kernel_rfl) rfl rfl with50.dr (with50.eq k)
end Go.Proofs.YtcppmlgnceldmaaGreat.Gf

/- Go functions as plain Lean functions, and their contracts. -/
set_option linter.unusedVariables false
set_option maxRecDepth 100000
noncomputable section
namespace Go.Proofs.YtcppmlgnceldmaaGreat.Gf
open Go Go.Proofs.YtcppmlgnceldmaaGreat.Gp
def TestsOf151 (k : Nat) (y : (Int × (ByteArray × (Int × (List (Int × (Int × (Int × (List (Int × (Int × (Int × Int)))))))))))) (t1 : (ByteArray × Int)) : Option (Bool × Unit) :=
  some ((cond (streq y.2.1 t1.1) (y.2.2.1 == t1.2) false), ())
def TestsOf151.A : Ann := { conds := [], blocks := [], loops := [], keeps := [2], orders := [] }
def TestsOf151.S : Sig := { f := 51, params := [.st (.pair (.int .i64) (.pair .str (.pair (.int .i64) (.sl (.st (.pair (.int .i64) (.pair (.int .i64) (.pair (.int .i64) (.sl (.st (.pair (.int .i64) (.pair (.int .i64) (.pair (.int .i64) (.int .i64)))))))))))))), .fp (.st (.pair .str (.int .i64)))], objs := [], res := .bool, outs := [], fix := [], run := fun k ds os => TestsOf151 k ds.1 ds.2 }
def TestsOf151.G : List Sig := []
theorem TestsOf151.eq (k : Nat) : ∀ ds os, TestsOf151.S.run k ds os = runF ⟨types, TestsOf151.G, TestsOf151.A, k, 0, []⟩ Tryz.f51 (codeOf Tryz.f51) TestsOf151.S.params TestsOf151.S.objs TestsOf151.S.res TestsOf151.S.outs ds os := by
  intro ds os; kernel_rfl
theorem TestsOf151.dr : DrOk Tryz.prog TestsOf151.A (codeOf Tryz.f51) := ⟨by kernel_rfl, by kernel_rfl⟩
theorem TestsOf151.ok (k : Nat) : SoundAt Tryz.prog k TestsOf151.S :=
  runF_sound (X := ⟨types, TestsOf151.G, TestsOf151.A, k, 0, []⟩) types_ok (fun s hs => absurd hs List.not_mem_nil) (fn := Tryz.f51) (c := codeOf Tryz.f51) rfl (by kernel_rfl) rfl rfl TestsOf151.dr (TestsOf151.eq k)

def IndexFunc42'''.l0 (k : Nat) (s : (List (Int × (ByteArray × (Int × (List (Int × (Int × (Int × (List (Int × (Int × (Int × Int))))))))))))) : (((ByteArray × Int) × Unit) × Int) → Option ((((ByteArray × Int) × Unit) × Int) ⊕ (Unit ⊕ (Int × Unit)))
  | (f_1, t8) =>
    cond (decide (t8 < (List.length s : Int)))
      ((rd s t8).bind fun t14 =>
      (TestsOf151 k t14 f_1.1).bind fun t16 =>
      cond t16.1
        (some (Sum.inr (Sum.inr (t8, ()))))
        (some (Sum.inl (f_1, (w64 (t8 + 1))))))
      (some (Sum.inr (Sum.inl ())))
def IndexFunc42''' (k : Nat) (s : (List (Int × (ByteArray × (Int × (List (Int × (Int × (Int × (List (Int × (Int × (Int × Int))))))))))))) (f : ((ByteArray × Int) × Unit)) : Option (Int × Unit) :=
  Option.bind
    (loopN (IndexFunc42'''.l0 k s) k (f, 0) : Option (Unit ⊕ (Int × Unit))) (joined fun (_ : Unit) =>
    some ((-1), ()))
def IndexFunc42'''.A : Ann := { conds := [], blocks := [(0, ⟨[], [], 0, [], 524080⟩)], loops := [(2, ⟨[(1, .fn 51 (.pair (.fp (.st (.pair .str (.int .i64)))) .unit)), (8, .int .i64)], [], 0, [], 524080⟩)], keeps := [], orders := [] }
def IndexFunc42'''.S : Sig := { f := 42, params := [.sl (.st (.pair (.int .i64) (.pair .str (.pair (.int .i64) (.sl (.st (.pair (.int .i64) (.pair (.int .i64) (.pair (.int .i64) (.sl (.st (.pair (.int .i64) (.pair (.int .i64) (.pair (.int .i64) (.int .i64))))))))))))))), .fn 51 (.pair (.fp (.st (.pair .str (.int .i64)))) .unit)], objs := [], res := .int .i64, outs := [], fix := [], run := fun k ds os => IndexFunc42''' k ds.1 ds.2 }
def IndexFunc42'''.G : List Sig := [TestsOf151.S]
theorem IndexFunc42'''.eq (k : Nat) : ∀ ds os, IndexFunc42'''.S.run k ds os = runF ⟨types, IndexFunc42'''.G, IndexFunc42'''.A, k, 0, []⟩ Tryz.f42 (codeOf Tryz.f42) IndexFunc42'''.S.params IndexFunc42'''.S.objs IndexFunc42'''.S.res IndexFunc42'''.S.outs ds os := by
  intro ds os; kernel_rfl
theorem IndexFunc42'''.dr : DrOk Tryz.prog IndexFunc42'''.A (codeOf Tryz.f42) := ⟨by kernel_rfl, by kernel_rfl⟩
theorem IndexFunc42'''.ok (k : Nat) : SoundAt Tryz.prog k IndexFunc42'''.S :=
  runF_sound (X := ⟨types, IndexFunc42'''.G, IndexFunc42'''.A, k, 0, []⟩) types_ok (mem_all (⟨TestsOf151.ok k, trivial⟩)) (fn := Tryz.f42) (c := codeOf Tryz.f42) rfl (by kernel_rfl) rfl rfl IndexFunc42'''.dr (IndexFunc42'''.eq k)
end Go.Proofs.YtcppmlgnceldmaaGreat.Gf

/- Go functions as plain Lean functions, and their contracts. -/
set_option linter.unusedVariables false
set_option maxRecDepth 100000
noncomputable section
namespace Go.Proofs.YtcppmlgnceldmaaGreat.Gf
open Go Go.Proofs.YtcppmlgnceldmaaGreat.Gp
def TestsOf14.l0 (k : Nat) : ((ByteArray × ((List (Int × (ByteArray × (Int × (List (Int × (Int × (Int × (List (Int × (Int × (Int × Int)))))))))))) × ((List (Int × (Int × (Int × (List (Int × (Int × (Int × Int)))))))) × ((List (Int × (Int × (Int × (List (Int × (Int × (Int × Int)))))))) × (List (Int × (Int × (Int × (List (Int × (Int × (Int × Int)))))))))))) × (Unit × (Unit × (Int × ((List (ByteArray × Int)) × (List Int)))))) → Option (((ByteArray × ((List (Int × (ByteArray × (Int × (List (Int × (Int × (Int × (List (Int × (Int × (Int × Int)))))))))))) × ((List (Int × (Int × (Int × (List (Int × (Int × (Int × Int)))))))) × ((List (Int × (Int × (Int × (List (Int × (Int × (Int × Int)))))))) × (List (Int × (Int × (Int × (List (Int × (Int × (Int × Int)))))))))))) × (Unit × (Unit × (Int × ((List (ByteArray × Int)) × (List Int)))))) ⊕ (Unit × (List Int)))
  | (c_2, _, _, t47, o0, o3) =>
    cond (decide (t47 < (List.length [((ByteArray.mk #[112, 104, 112]), 0), ((ByteArray.mk #[112, 104, 97]), 0), ((ByteArray.mk #[115, 116, 97]), 2), ((ByteArray.mk #[115, 116, 120]), 2), ((ByteArray.mk #[115, 116, 121]), 2)] : Int)))
      ((rd o0 t47).bind fun _ =>
      (rd o0 t47).bind fun t50 =>
      (IndexFunc42''' k c_2.2.1 (t50, ())).bind fun t54 =>
      Option.bind
        (cond (decide (t54.1 ≥ 0))
          ((rd c_2.2.1 t54.1).bind fun t61 =>
          let t64 : Int := (IntKind.wrap .u8 t61.1)
          (if room (List.length o3 + List.length ([t64] : List Int)) 1 then some () else none).bind fun _ =>
          let t66 : (List Int) := (o3 ++ ([t64] : List Int))
          Option.bind
            (cond (decide (t50.2 > 0))
              (let t74 : Int := (IntKind.wrap .u8 (w64 (16 + (List.length t66 : Int))))
              (if room (List.length t66 + List.length ([t74] : List Int)) 1 then some () else none).bind fun _ =>
              some (c_2, (), (), o0, (t66 ++ ([t74] : List Int))))
              (some (c_2, (), (), o0, t66)) : Option ((ByteArray × ((List (Int × (ByteArray × (Int × (List (Int × (Int × (Int × (List (Int × (Int × (Int × Int)))))))))))) × ((List (Int × (Int × (Int × (List (Int × (Int × (Int × Int)))))))) × ((List (Int × (Int × (Int × (List (Int × (Int × (Int × Int)))))))) × (List (Int × (Int × (Int × (List (Int × (Int × (Int × Int)))))))))))) × (Unit × (Unit × ((List (ByteArray × Int)) × (List Int)))))) fun ((c_3, _, _, o0_1, o3_1) : ((ByteArray × ((List (Int × (ByteArray × (Int × (List (Int × (Int × (Int × (List (Int × (Int × (Int × Int)))))))))))) × ((List (Int × (Int × (Int × (List (Int × (Int × (Int × Int)))))))) × ((List (Int × (Int × (Int × (List (Int × (Int × (Int × Int)))))))) × (List (Int × (Int × (Int × (List (Int × (Int × (Int × Int)))))))))))) × (Unit × (Unit × ((List (ByteArray × Int)) × (List Int)))))) =>
          some (c_3, (), (), o0_1, o3_1))
          (some (c_2, (), (), o0, o3)) : Option ((ByteArray × ((List (Int × (ByteArray × (Int × (List (Int × (Int × (Int × (List (Int × (Int × (Int × Int)))))))))))) × ((List (Int × (Int × (Int × (List (Int × (Int × (Int × Int)))))))) × ((List (Int × (Int × (Int × (List (Int × (Int × (Int × Int)))))))) × (List (Int × (Int × (Int × (List (Int × (Int × (Int × Int)))))))))))) × (Unit × (Unit × ((List (ByteArray × Int)) × (List Int)))))) fun ((c_4, _, _, o0_2, o3_2) : ((ByteArray × ((List (Int × (ByteArray × (Int × (List (Int × (Int × (Int × (List (Int × (Int × (Int × Int)))))))))))) × ((List (Int × (Int × (Int × (List (Int × (Int × (Int × Int)))))))) × ((List (Int × (Int × (Int × (List (Int × (Int × (Int × Int)))))))) × (List (Int × (Int × (Int × (List (Int × (Int × (Int × Int)))))))))))) × (Unit × (Unit × ((List (ByteArray × Int)) × (List Int)))))) =>
      some (Sum.inl (c_4, (), (), (w64 (t47 + 1)), o0_2, o3_2)))
      (some (Sum.inr ((), o3)))
def TestsOf14.l1 (k : Nat) (n : Int) : (Unit × (Unit × (Int × (Unit × (Int × ((List Int) × ((List ((List Int) × (List Int))) × ((List Int) × (Unit × (List Int)))))))))) → Option ((Unit × (Unit × (Int × (Unit × (Int × ((List Int) × ((List ((List Int) × (List Int))) × ((List Int) × (Unit × (List Int)))))))))) ⊕ (Unit × (Unit × (Unit × ((List Int) × ((List ((List Int) × (List Int))) × ((List Int) × (Unit × (List Int)))))))))
  | (_, _, v, _, t114, o3_5, o10_1, o14, o15) =>
    cond (decide (t114 < n))
      (let t119 : Int := (IntKind.wrap .u8 v)
      (if room (List.length o14 + List.length ([t119] : List Int)) 1 then some () else none).bind fun _ =>
      some (Sum.inl ((), (), (quoI .i64 v 8), (), (w64 (t114 + 1)), o3_5, o10_1, (o14 ++ ([t119] : List Int)), o15.1, o15.2)))
      (some (Sum.inr ((), (), (), o3_5, o10_1, o14, o15)))
def TestsOf14.l2 (k : Nat) (t23 : Int) (n : Int) : (Unit × (Unit × (Int × ((List Int) × (List ((List Int) × (List Int))))))) → Option ((Unit × (Unit × (Int × ((List Int) × (List ((List Int) × (List Int))))))) ⊕ (Unit × (List ((List Int) × (List Int)))))
  | (_, _, t78, o3_4, o10) =>
    cond (decide (t78 < 125))
      (let t83 : Int := (quoI .i64 t78 25)
      (rd ([0, 1, 127, 128, 255] : List Int) t83).bind fun _ =>
      (rd ([0, 1, 127, 128, 255] : List Int) t83).bind fun t85 =>
      let t89 : Int := (Int.tmod (quoI .i64 t78 5) 5)
      (rd ([0, 1, 2, 128, 131] : List Int) t89).bind fun _ =>
      (rd ([0, 1, 2, 128, 131] : List Int) t89).bind fun t91 =>
      let t94 : Int := (Int.tmod t78 5)
      (rd ([0, 1, 6, 128, 255] : List Int) t94).bind fun _ =>
      (rd ([0, 1, 6, 128, 255] : List Int) t94).bind fun t96 =>
      Option.bind
        (loopN (TestsOf14.l1 k n) k ((), (), t96, (), 0, o3_4, o10, ([(IntKind.wrap .u8 t23)] : List Int), (), [t85, (Int.tmod (w64 ((w64 (3 * t85)) + 1)) 256), (Int.tmod (w64 ((w64 (5 * t85)) + 2)) 256), 240, t91, 0, 0, 0, 0]) : Option (Unit × (Unit × (Unit × ((List Int) × ((List ((List Int) × (List Int))) × ((List Int) × (Unit × (List Int))))))))) fun ((_, _, _, o3_6, o10_2, o14_1, o15_1) : (Unit × (Unit × (Unit × ((List Int) × ((List ((List Int) × (List Int))) × ((List Int) × (Unit × (List Int))))))))) =>
      (if room (List.length o14_1 + List.length o3_6) 1 then some () else none).bind fun _ =>
      (if room (List.length o10_2 + List.length [((o14_1 ++ o3_6), o15_1.2)]) 96 then some () else none).bind fun _ =>
      some (Sum.inl ((), (), (w64 (t78 + 1)), o3_6, (o10_2 ++ [((o14_1 ++ o3_6), o15_1.2)]))))
      (some (Sum.inr ((), o10)))
def TestsOf14 (k : Nat) (c : (ByteArray × ((List (Int × (ByteArray × (Int × (List (Int × (Int × (Int × (List (Int × (Int × (Int × Int)))))))))))) × ((List (Int × (Int × (Int × (List (Int × (Int × (Int × Int)))))))) × ((List (Int × (Int × (Int × (List (Int × (Int × (Int × Int)))))))) × (List (Int × (Int × (Int × (List (Int × (Int × (Int × Int))))))))))))) (op : Int) : Option ((List ((List Int) × (List Int))) × Unit) :=
  let t23 : Int := (Int.tmod (w64 ((Int.tmod op 256) + 256)) 256)
  (operands49 k).bind fun t25 =>
  (with50 k c t23).bind fun t31 =>
  Option.bind
    (cond t31.1.2.1
      ((rd t25.1.1 t31.1.1.2.2.1).bind fun t38 =>
      some (c, t38))
      (some (c, 2)) : Option ((ByteArray × ((List (Int × (ByteArray × (Int × (List (Int × (Int × (Int × (List (Int × (Int × (Int × Int)))))))))))) × ((List (Int × (Int × (Int × (List (Int × (Int × (Int × Int)))))))) × ((List (Int × (Int × (Int × (List (Int × (Int × (Int × Int)))))))) × (List (Int × (Int × (Int × (List (Int × (Int × (Int × Int)))))))))))) × Int)) fun ((c_1, n) : ((ByteArray × ((List (Int × (ByteArray × (Int × (List (Int × (Int × (Int × (List (Int × (Int × (Int × Int)))))))))))) × ((List (Int × (Int × (Int × (List (Int × (Int × (Int × Int)))))))) × ((List (Int × (Int × (Int × (List (Int × (Int × (Int × Int)))))))) × (List (Int × (Int × (Int × (List (Int × (Int × (Int × Int)))))))))))) × Int)) =>
  Option.bind
    (loopN (TestsOf14.l0 k) k (c_1, (), (), 0, [((ByteArray.mk #[112, 104, 112]), 0), ((ByteArray.mk #[112, 104, 97]), 0), ((ByteArray.mk #[115, 116, 97]), 2), ((ByteArray.mk #[115, 116, 120]), 2), ((ByteArray.mk #[115, 116, 121]), 2)], []) : Option (Unit × (List Int))) fun ((_, o3_3) : (Unit × (List Int))) =>
  Option.bind
    (loopN (TestsOf14.l2 k t23 n) k ((), (), 0, o3_3, []) : Option (Unit × (List ((List Int) × (List Int))))) fun ((_, o10_3) : (Unit × (List ((List Int) × (List Int))))) =>
  some (o10_3, ())
def TestsOf14.A : Ann := { conds := [(2228230, ⟨[(2, .fp (.st (.pair .str (.pair (.sl (.st (.pair (.int .i64) (.pair .str (.pair (.int .i64) (.sl (.st (.pair (.int .i64) (.pair (.int .i64) (.pair (.int .i64) (.sl (.st (.pair (.int .i64) (.pair (.int .i64) (.pair (.int .i64) (.int .i64)))))))))))))))) (.pair (.sl (.st (.pair (.int .i64) (.pair (.int .i64) (.pair (.int .i64) (.sl (.st (.pair (.int .i64) (.pair (.int .i64) (.pair (.int .i64) (.int .i64))))))))))) (.pair (.sl (.st (.pair (.int .i64) (.pair (.int .i64) (.pair (.int .i64) (.sl (.st (.pair (.int .i64) (.pair (.int .i64) (.pair (.int .i64) (.int .i64))))))))))) (.sl (.st (.pair (.int .i64) (.pair (.int .i64) (.pair (.int .i64) (.sl (.st (.pair (.int .i64) (.pair (.int .i64) (.pair (.int .i64) (.int .i64))))))))))))))))), (7, .int .i64)], [], 0, [], 1065151889536⟩), (3670029, ⟨[(2, .fp (.st (.pair .str (.pair (.sl (.st (.pair (.int .i64) (.pair .str (.pair (.int .i64) (.sl (.st (.pair (.int .i64) (.pair (.int .i64) (.pair (.int .i64) (.sl (.st (.pair (.int .i64) (.pair (.int .i64) (.pair (.int .i64) (.int .i64)))))))))))))))) (.pair (.sl (.st (.pair (.int .i64) (.pair (.int .i64) (.pair (.int .i64) (.sl (.st (.pair (.int .i64) (.pair (.int .i64) (.pair (.int .i64) (.int .i64))))))))))) (.pair (.sl (.st (.pair (.int .i64) (.pair (.int .i64) (.pair (.int .i64) (.sl (.st (.pair (.int .i64) (.pair (.int .i64) (.pair (.int .i64) (.int .i64))))))))))) (.sl (.st (.pair (.int .i64) (.pair (.int .i64) (.pair (.int .i64) (.sl (.st (.pair (.int .i64) (.pair (.int .i64) (.pair (.int .i64) (.int .i64))))))))))))))))), (10, .ms 3), (45, .ms 0)], [(0, .row (.st (.pair .str (.int .i64)))), (3, .row (.int .u8))], 4, [], 151115583336640570983424⟩), (4521999, ⟨[(2, .fp (.st (.pair .str (.pair (.sl (.st (.pair (.int .i64) (.pair .str (.pair (.int .i64) (.sl (.st (.pair (.int .i64) (.pair (.int .i64) (.pair (.int .i64) (.sl (.st (.pair (.int .i64) (.pair (.int .i64) (.pair (.int .i64) (.int .i64)))))))))))))))) (.pair (.sl (.st (.pair (.int .i64) (.pair (.int .i64) (.pair (.int .i64) (.sl (.st (.pair (.int .i64) (.pair (.int .i64) (.pair (.int .i64) (.int .i64))))))))))) (.pair (.sl (.st (.pair (.int .i64) (.pair (.int .i64) (.pair (.int .i64) (.sl (.st (.pair (.int .i64) (.pair (.int .i64) (.pair (.int .i64) (.int .i64))))))))))) (.sl (.st (.pair (.int .i64) (.pair (.int .i64) (.pair (.int .i64) (.sl (.st (.pair (.int .i64) (.pair (.int .i64) (.pair (.int .i64) (.int .i64))))))))))))))))), (10, .ms 3), (45, .ms 0)], [(0, .row (.st (.pair .str (.int .i64)))), (3, .row (.int .u8))], 4, [], 149935135831111235535872⟩)], blocks := [(0, ⟨[(10, .ms 3)], [(3, .row (.int .u8))], 4, [], 302231454762919805334528⟩), (2, ⟨[(14, .ms 10)], [(10, .row (.st (.pair (.sl (.int .u8)) (.arr 9 (.int .i64)))))], 11, [], 87112285931760246344392444598875369488384⟩), (4, ⟨[(10, .ms 3), (14, .ms 10), (19, .ptr 15 [])], [(3, .row (.int .u8)), (10, .row (.st (.pair (.sl (.int .u8)) (.arr 9 (.int .i64))))), (14, .row (.int .u8)), (15, .var (.st (.pair (.ms 14) (.arr 9 (.int .i64)))))], 16, [], 85049822542800476555329529872625434624⟩)], loops := [(9, ⟨[(2, .fp (.st (.pair .str (.pair (.sl (.st (.pair (.int .i64) (.pair .str (.pair (.int .i64) (.sl (.st (.pair (.int .i64) (.pair (.int .i64) (.pair (.int .i64) (.sl (.st (.pair (.int .i64) (.pair (.int .i64) (.pair (.int .i64) (.int .i64)))))))))))))))) (.pair (.sl (.st (.pair (.int .i64) (.pair (.int .i64) (.pair (.int .i64) (.sl (.st (.pair (.int .i64) (.pair (.int .i64) (.pair (.int .i64) (.int .i64))))))))))) (.pair (.sl (.st (.pair (.int .i64) (.pair (.int .i64) (.pair (.int .i64) (.sl (.st (.pair (.int .i64) (.pair (.int .i64) (.pair (.int .i64) (.int .i64))))))))))) (.sl (.st (.pair (.int .i64) (.pair (.int .i64) (.pair (.int .i64) (.sl (.st (.pair (.int .i64) (.pair (.int .i64) (.pair (.int .i64) (.int .i64))))))))))))))))), (10, .ms 3), (45, .ms 0), (47, .int .i64)], [(0, .row (.st (.pair .str (.int .i64)))), (3, .row (.int .u8))], 4, [(3, .int .u8)], 302231454762919805334528⟩), (19, ⟨[(10, .ms 3), (14, .ms 10), (78, .int .i64)], [(3, .row (.int .u8)), (10, .row (.st (.pair (.sl (.int .u8)) (.arr 9 (.int .i64)))))], 11, [(10, .st (.pair (.sl (.int .u8)) (.arr 9 (.int .i64))))], 87112285931760246344392444598875369488384⟩), (27, ⟨[(10, .ms 3), (14, .ms 10), (18, .int .i64), (19, .ptr 15 []), (114, .int .i64)], [(3, .row (.int .u8)), (10, .row (.st (.pair (.sl (.int .u8)) (.arr 9 (.int .i64))))), (14, .row (.int .u8)), (15, .var (.st (.pair (.ms 14) (.arr 9 (.int .i64)))))], 16, [], 85049822542800476555329529872625434624⟩)], keeps := [2, 8, 12], orders := [] }
def TestsOf14.S : Sig := { f := 14, params := [.st (.pair .str (.pair (.sl (.st (.pair (.int .i64) (.pair .str (.pair (.int .i64) (.sl (.st (.pair (.int .i64) (.pair (.int .i64) (.pair (.int .i64) (.sl (.st (.pair (.int .i64) (.pair (.int .i64) (.pair (.int .i64) (.int .i64)))))))))))))))) (.pair (.sl (.st (.pair (.int .i64) (.pair (.int .i64) (.pair (.int .i64) (.sl (.st (.pair (.int .i64) (.pair (.int .i64) (.pair (.int .i64) (.int .i64))))))))))) (.pair (.sl (.st (.pair (.int .i64) (.pair (.int .i64) (.pair (.int .i64) (.sl (.st (.pair (.int .i64) (.pair (.int .i64) (.pair (.int .i64) (.int .i64))))))))))) (.sl (.st (.pair (.int .i64) (.pair (.int .i64) (.pair (.int .i64) (.sl (.st (.pair (.int .i64) (.pair (.int .i64) (.pair (.int .i64) (.int .i64))))))))))))))), .int .i64], objs := [], res := .sl (.st (.pair (.sl (.int .u8)) (.arr 9 (.int .i64)))), outs := [], fix := [], run := fun k ds os => TestsOf14 k ds.1 ds.2 }
def TestsOf14.G : List Sig := [IndexFunc42'''.S, operands49.S, with50.S]
theorem TestsOf14.eq (k : Nat) : ∀ ds os, TestsOf14.S.run k ds os = runF ⟨types, TestsOf14.G, TestsOf14.A, k, 0, []⟩ Tryz.f14 (codeOf Tryz.f14) TestsOf14.S.params TestsOf14.S.objs TestsOf14.S.res TestsOf14.S.outs ds os := by
  intro ds os; kernel_rfl
theorem TestsOf14.dr : DrOk Tryz.prog TestsOf14.A (codeOf Tryz.f14) := ⟨by kernel_rfl, by kernel_rfl⟩
theorem TestsOf14.ok (k : Nat) : SoundAt Tryz.prog k TestsOf14.S :=
  runF_sound (X := ⟨types, TestsOf14.G, TestsOf14.A, k, 0, []⟩) types_ok (mem_all (⟨IndexFunc42'''.ok k, ⟨operands49.ok k, ⟨with50.ok k, trivial⟩⟩⟩)) (fn := Tryz.f14) (c := codeOf Tryz.f14) rfl (by kernel_rfl) rfl rfl TestsOf14.dr (TestsOf14.eq k)
end Go.Proofs.YtcppmlgnceldmaaGreat.Gf

/- Go functions as plain Lean functions, and their contracts. -/
set_option linter.unusedVariables false
set_option maxRecDepth 100000
noncomputable section
namespace Go.Proofs.YtcppmlgnceldmaaGreat.Gf
open Go Go.Proofs.YtcppmlgnceldmaaGreat.Gp
def Read203 (k : Nat) (_ : Unit) (addr : Int) (o0 : (Unit × (List Int))) (o1 : (List (Int × Int))) : Option (Int × ((Unit × (List Int)) × (List (Int × Int)))) :=
  let t13 : (Option Int) := (mget (.int .i64) (.int .i64) o1 addr)
  cond (Option.isSome t13)
    (some ((Option.getD (α := Int) t13 (0 : Int)), o0, o1))
    (some ((Int.tmod (w64 ((w64 ((w64 (7 * addr)) + (quoI .i64 addr 256))) + 3)) 256), o0, o1))
def Read203.A : Ann := { conds := [], blocks := [], loops := [], keeps := [], orders := [] }
def Read203.S : Sig := { f := 203, params := [.ptr 0 [.fld 0 0], .int .i64], objs := [.var (.st (.pair (.st (.mm 1)) (.sl (.int .u8)))), .map (.int .i64) (.int .i64)], res := .int .i64, outs := [.var (.st (.pair (.st (.mm 1)) (.sl (.int .u8)))), .map (.int .i64) (.int .i64)], fix := [], run := fun k ds os => Read203 k ds.1 ds.2 os.1 os.2 }
def Read203.G : List Sig := []
theorem Read203.eq (k : Nat) : ∀ ds os, Read203.S.run k ds os = runF ⟨types, Read203.G, Read203.A, k, 0, []⟩ Tryz.f203 (codeOf Tryz.f203) Read203.S.params Read203.S.objs Read203.S.res Read203.S.outs ds os := by
  intro ds os; kernel_rfl
theorem Read203.dr : DrOk Tryz.prog Read203.A (codeOf Tryz.f203) := ⟨by kernel_rfl, by kernel_rfl⟩
theorem Read203.ok (k : Nat) : SoundAt Tryz.prog k Read203.S :=
  runF_sound (X := ⟨types, Read203.G, Read203.A, k, 0, []⟩) types_ok (fun s hs => absurd hs List.not_mem_nil) (fn := Tryz.f203) (c := codeOf Tryz.f203) rfl (by kernel_rfl) rfl rfl Read203.dr (Read203.eq k)

def Read201 (k : Nat) (_ : Unit) (addr : Int) (o0 : (Unit × (List Int))) (o1 : (List (Int × Int))) : Option (Int × ((Unit × (List Int)) × (List (Int × Int)))) :=
  cond (cond (cond (!(Option.isSome (mget (.int .i64) (.int .i64) o1 addr))) (decide (addr ≥ 512)) false) (decide (addr < (w64 (512 + (List.length o0.2 : Int))))) false)
    ((rd o0.2 (w64 (addr - 512))).bind fun t39 =>
    some ((w64 t39), o0, o1))
    ((Read203 k () addr o0 o1).bind fun t46 =>
    some (t46.1, t46.2.1, t46.2.2))
def Read201.A : Ann := { conds := [], blocks := [], loops := [], keeps := [], orders := [] }
def Read201.S : Sig := { f := 201, params := [.ptr 0 [], .int .i64], objs := [.var (.st (.pair (.st (.mm 1)) (.sl (.int .u8)))), .map (.int .i64) (.int .i64)], res := .int .i64, outs := [.var (.st (.pair (.st (.mm 1)) (.sl (.int .u8)))), .map (.int .i64) (.int .i64)], fix := [], run := fun k ds os => Read201 k ds.1 ds.2 os.1 os.2 }
def Read201.G : List Sig := [Read203.S]
theorem Read201.eq (k : Nat) : ∀ ds os, Read201.S.run k ds os = runF ⟨types, Read201.G, Read201.A, k, 0, []⟩ Tryz.f201 (codeOf Tryz.f201) Read201.S.params Read201.S.objs Read201.S.res Read201.S.outs ds os := by
  intro ds os; kernel_rfl
theorem Read201.dr : DrOk Tryz.prog Read201.A (codeOf Tryz.f201) := ⟨by kernel_rfl, by kernel_rfl⟩
theorem Read201.ok (k : Nat) : SoundAt Tryz.prog k Read201.S :=
  runF_sound (X := ⟨types, Read201.G, Read201.A, k, 0, []⟩) types_ok (mem_all (⟨Read203.ok k, trivial⟩)) (fn := Tryz.f201) (c := codeOf Tryz.f201) rfl (by kernel_rfl) rfl rfl Read201.dr (Read201.eq k)

def Write202 (k : Nat) (_ : Unit) (addr : Int) (data : Int) (o0 : (Unit × (List Int))) (o1 : (List (Int × Int))) : Option (Unit × ((Unit × (List Int)) × (List (Int × Int)))) :=
  some ((), o0, (mput (.int .i64) (.int .i64) o1 addr data))
def Write202.A : Ann := { conds := [], blocks := [], loops := [], keeps := [], orders := [] }
def Write202.S : Sig := { f := 202, params := [.ptr 0 [.fld 0 0], .int .i64, .int .i64], objs := [.var (.st (.pair (.st (.mm 1)) (.sl (.int .u8)))), .map (.int .i64) (.int .i64)], res := .tup .unit, outs := [.var (.st (.pair (.st (.mm 1)) (.sl (.int .u8)))), .map (.int .i64) (.int .i64)], fix := [], run := fun k ds os => Write202 k ds.1 ds.2.1 ds.2.2 os.1 os.2 }
def Write202.G : List Sig := []
theorem Write202.eq (k : Nat) : ∀ ds os, Write202.S.run k ds os = runF ⟨types, Write202.G, Write202.A, k, 0, []⟩ Tryz.f202 (codeOf Tryz.f202) Write202.S.params Write202.S.objs Write202.S.res Write202.S.outs ds os := by
  intro ds os; kernel_rfl
theorem Write202.dr : DrOk Tryz.prog Write202.A (codeOf Tryz.f202) := ⟨by kernel_rfl, by kernel_rfl⟩
theorem Write202.ok (k : Nat) : SoundAt Tryz.prog k Write202.S :=
  runF_sound (X := ⟨types, Write202.G, Write202.A, k, 0, []⟩) types_ok (fun s hs => absurd hs List.not_mem_nil) (fn := Tryz.f202) (c := codeOf Tryz.f202) rfl (by kernel_rfl) rfl rfl Write202.dr (Write202.eq k)

def Cycle52 (k : Nat) (c : (ByteArray × ((List (Int × (ByteArray × (Int × (List (Int × (Int × (Int × (List (Int × (Int × (Int × Int)))))))))))) × ((List (Int × (Int × (Int × (List (Int × (Int × (Int × Int)))))))) × ((List (Int × (Int × (Int × (List (Int × (Int × (Int × Int)))))))) × (List (Int × (Int × (Int × (List (Int × (Int × (Int × Int))))))))))))) (k_ : ((List Int) × (Int × (Int × Bool)))) (irq : Bool) (_ : Unit) (o0 : (Unit × (List Int))) (o1 : (List (Int × Int))) : Option ((((List Int) × (Int × (Int × Bool))) × ((Int × (Int × Int)) × Unit)) × ((Unit × (List Int)) × (List (Int × Int)))) :=
  (Ask74 k c k_ irq).bind fun t15 =>
  Option.bind
    (cond (t15.1.2.1.1 == 1)
      ((Read201 k () t15.1.2.1.2.1 o0 o1).bind fun t25 =>
      (Low70 k t25.1 8).bind fun t26 =>
      some (c, (), (), (), (), t25.2.1, t25.2.2, t15.1.1, ((List.replicate 9 0), 0, 0, false), (0, 0, 0), t15.1.2.1.1, t15.1.2.1.2.1, t26.1))
      (Option.bind
        (cond (t15.1.2.1.1 == 2)
          ((Write202 k () t15.1.2.1.2.1 t15.1.2.1.2.2 o0 o1).bind fun t35 =>
          some (c, (), (), (), (), t35.2.1, t35.2.2, t15.1.1, ((List.replicate 9 0), 0, 0, false), (0, 0, 0), t15.1.2.1))
          (some (c, (), (), (), (), o0, o1, t15.1.1, ((List.replicate 9 0), 0, 0, false), (0, 0, 0), t15.1.2.1)) : Option ((ByteArray × ((List (Int × (ByteArray × (Int × (List (Int × (Int × (Int × (List (Int × (Int × (Int × Int)))))))))))) × ((List (Int × (Int × (Int × (List (Int × (Int × (Int × Int)))))))) × ((List (Int × (Int × (Int × (List (Int × (Int × (Int × Int)))))))) × (List (Int × (Int × (Int × (List (Int × (Int × (Int × Int)))))))))))) × (Unit × (Unit × (Unit × (Unit × ((Unit × (List Int)) × ((List (Int × Int)) × (((List Int) × (Int × (Int × Bool))) × (((List Int) × (Int × (Int × Bool))) × ((Int × (Int × Int)) × (Int × (Int × Int))))))))))))) fun ((c_1, _, _, _, _, o0_1, o1_1, o2, o3, o4, o5) : ((ByteArray × ((List (Int × (ByteArray × (Int × (List (Int × (Int × (Int × (List (Int × (Int × (Int × Int)))))))))))) × ((List (Int × (Int × (Int × (List (Int × (Int × (Int × Int)))))))) × ((List (Int × (Int × (Int × (List (Int × (Int × (Int × Int)))))))) × (List (Int × (Int × (Int × (List (Int × (Int × (Int × Int)))))))))))) × (Unit × (Unit × (Unit × (Unit × ((Unit × (List Int)) × ((List (Int × Int)) × (((List Int) × (Int × (Int × Bool))) × (((List Int) × (Int × (Int × Bool))) × ((Int × (Int × Int)) × (Int × (Int × Int))))))))))))) =>
      some (c_1, (), (), (), (), o0_1, o1_1, o2, o3, o4, o5)) : Option ((ByteArray × ((List (Int × (ByteArray × (Int × (List (Int × (Int × (Int × (List (Int × (Int × (Int × Int)))))))))))) × ((List (Int × (Int × (Int × (List (Int × (Int × (Int × Int)))))))) × ((List (Int × (Int × (Int × (List (Int × (Int × (Int × Int)))))))) × (List (Int × (Int × (Int × (List (Int × (Int × (Int × Int)))))))))))) × (Unit × (Unit × (Unit × (Unit × ((Unit × (List Int)) × ((List (Int × Int)) × (((List Int) × (Int × (Int × Bool))) × (((List Int) × (Int × (Int × Bool))) × ((Int × (Int × Int)) × (Int × (Int × Int))))))))))))) fun ((c_2, _, _, _, _, o0_2, o1_2, o2_1, _, _, o5_1) : ((ByteArray × ((List (Int × (ByteArray × (Int × (List (Int × (Int × (Int × (List (Int × (Int × (Int × Int)))))))))))) × ((List (Int × (Int × (Int × (List (Int × (Int × (Int × Int)))))))) × ((List (Int × (Int × (Int × (List (Int × (Int × (Int × Int)))))))) × (List (Int × (Int × (Int × (List (Int × (Int × (Int × Int)))))))))))) × (Unit × (Unit × (Unit × (Unit × ((Unit × (List Int)) × ((List (Int × Int)) × (((List Int) × (Int × (Int × Bool))) × (((List Int) × (Int × (Int × Bool))) × ((Int × (Int × Int)) × (Int × (Int × Int))))))))))))) =>
  (Tell77 k c_2 o2_1 o5_1.2.2).bind fun t40 =>
  some ((t40.1, o5_1, ()), o0_2, o1_2)
def Cycle52.A : Ann := { conds := [(1310724, ⟨[(4, .fp (.st (.pair .str (.pair (.sl (.st (.pair (.int .i64) (.pair .str (.pair (.int .i64) (.sl (.st (.pair (.int .i64) (.pair (.int .i64) (.pair (.int .i64) (.sl (.st (.pair (.int .i64) (.pair (.int .i64) (.pair (.int .i64) (.int .i64)))))))))))))))) (.pair (.sl (.st (.pair (.int .i64) (.pair (.int .i64) (.pair (.int .i64) (.sl (.st (.pair (.int .i64) (.pair (.int .i64) (.pair (.int .i64) (.int .i64))))))))))) (.pair (.sl (.st (.pair (.int .i64) (.pair (.int .i64) (.pair (.int .i64) (.sl (.st (.pair (.int .i64) (.pair (.int .i64) (.pair (.int .i64) (.int .i64))))))))))) (.sl (.st (.pair (.int .i64) (.pair (.int .i64) (.pair (.int .i64) (.sl (.st (.pair (.int .i64) (.pair (.int .i64) (.pair (.int .i64) (.int .i64))))))))))))))))), (5, .ptr 2 []), (8, .ptr 3 []), (9, .ptr 4 []), (10, .ptr 5 [])], [(0, .var (.st (.pair (.st (.mm 1)) (.sl (.int .u8))))), (1, .map (.int .i64) (.int .i64)), (2, .var (.st (.pair (.arr 9 (.int .i64)) (.pair (.int .i64) (.pair (.int .i64) .bool))))), (3, .var (.st (.pair (.arr 9 (.int .i64)) (.pair (.int .i64) (.pair (.int .i64) .bool))))), (4, .var (.st (.pair (.int .i64) (.pair (.int .i64) (.int .i64))))), (5, .var (.st (.pair (.int .i64) (.pair (.int .i64) (.int .i64)))))], 6, [], 68715282432⟩), (1835014, ⟨[(4, .fp (.st (.pair .str (.pair (.sl (.st (.pair (.int .i64) (.pair .str (.pair (.int .i64) (.sl (.st (.pair (.int .i64) (.pair (.int .i64) (.pair (.int .i64) (.sl (.st (.pair (.int .i64) (.pair (.int .i64) (.pair (.int .i64) (.int .i64)))))))))))))))) (.pair (.sl (.st (.pair (.int .i64) (.pair (.int .i64) (.pair (.int .i64) (.sl (.st (.pair (.int .i64) (.pair (.int .i64) (.pair (.int .i64) (.int .i64))))))))))) (.pair (.sl (.st (.pair (.int .i64) (.pair (.int .i64) (.pair (.int .i64) (.sl (.st (.pair (.int .i64) (.pair (.int .i64) (.pair (.int .i64) (.int .i64))))))))))) (.sl (.st (.pair (.int .i64) (.pair (.int .i64) (.pair (.int .i64) (.sl (.st (.pair (.int .i64) (.pair (.int .i64) (.pair (.int .i64) (.int .i64))))))))))))))))), (5, .ptr 2 []), (8, .ptr 3 []), (9, .ptr 4 []), (10, .ptr 5 [])], [(0, .var (.st (.pair (.st (.mm 1)) (.sl (.int .u8))))), (1, .map (.int .i64) (.int .i64)), (2, .var (.st (.pair (.arr 9 (.int .i64)) (.pair (.int .i64) (.pair (.int .i64) .bool))))), (3, .var (.st (.pair (.arr 9 (.int .i64)) (.pair (.int .i64) (.pair (.int .i64) .bool))))), (4, .var (.st (.pair (.int .i64) (.pair (.int .i64) (.int .i64))))), (5, .var (.st (.pair (.int .i64) (.pair (.int .i64) (.int .i64)))))], 6, [], 67645734912⟩)], blocks := [], loops := [], keeps := [4], orders := [(7, [(0, .strong), (1, .strong), (2, .strong), (3, .strong), (5, .strong), (4, .eff true), (6, .eff true), (7, .eff true)])], touches := [(7, 24)], meths := [⟨92, "Read", 201, none⟩, ⟨92, "Write", 202, some (97, 0)⟩] }
def Cycle52.S : Sig := { f := 52, params := [.st (.pair .str (.pair (.sl (.st (.pair (.int .i64) (.pair .str (.pair (.int .i64) (.sl (.st (.pair (.int .i64) (.pair (.int .i64) (.pair (.int .i64) (.sl (.st (.pair (.int .i64) (.pair (.int .i64) (.pair (.int .i64) (.int .i64)))))))))))))))) (.pair (.sl (.st (.pair (.int .i64) (.pair (.int .i64) (.pair (.int .i64) (.sl (.st (.pair (.int .i64) (.pair (.int .i64) (.pair (.int .i64) (.int .i64))))))))))) (.pair (.sl (.st (.pair (.int .i64) (.pair (.int .i64) (.pair (.int .i64) (.sl (.st (.pair (.int .i64) (.pair (.int .i64) (.pair (.int .i64) (.int .i64))))))))))) (.sl (.st (.pair (.int .i64) (.pair (.int .i64) (.pair (.int .i64) (.sl (.st (.pair (.int .i64) (.pair (.int .i64) (.pair (.int .i64) (.int .i64))))))))))))))), .st (.pair (.arr 9 (.int .i64)) (.pair (.int .i64) (.pair (.int .i64) .bool))), .bool, .ifc 92 (.ptr 0 [])], objs := [.var (.st (.pair (.st (.mm 1)) (.sl (.int .u8)))), .map (.int .i64) (.int .i64)], res := .tup (.pair (.st (.pair (.arr 9 (.int .i64)) (.pair (.int .i64) (.pair (.int .i64) .bool)))) (.pair (.st (.pair (.int .i64) (.pair (.int .i64) (.int .i64)))) .unit)), outs := [.var (.st (.pair (.st (.mm 1)) (.sl (.int .u8)))), .map (.int .i64) (.int .i64)], fix := [], run := fun k ds os => Cycle52 k ds.1 ds.2.1 ds.2.2.1 ds.2.2.2 os.1 os.2 }
def Cycle52.G : List Sig := [Ask74.S, Low70.S, Read201.S, Tell77.S, Write202.S]
theorem Cycle52.eq (k : Nat) : ∀ ds os, Cycle52.S.run k ds os = runF ⟨types, Cycle52.G, Cycle52.A, k, 0, []⟩ Tryz.f52 (codeOf Tryz.f52) Cycle52.S.params Cycle52.S.objs Cycle52.S.res Cycle52.S.outs ds os := by
  intro ds os; kernel_rfl
theorem Cycle52.dr : DrOk Tryz.prog Cycle52.A (codeOf Tryz.f52) := ⟨by kernel_rfl, by kernel_rfl⟩
theorem Cycle52.ok (k : Nat) : SoundAt Tryz.prog k Cycle52.S :=
  runF_sound (X := ⟨types, Cycle52.G, Cycle52.A, k, 0, []⟩) types_ok (mem_all (⟨Ask74.ok k, ⟨Low70.ok k, ⟨Read201.ok k, ⟨Tell77.ok k, ⟨Write202.ok k, trivial⟩⟩⟩⟩⟩)) (fn := Tryz.f52) (c := codeOf Tryz.f52) rfl (by kernel_rfl) rfl rfl Cycle52.dr (Cycle52.eq k) (hM := by kernel_rfl)
end Go.Proofs.YtcppmlgnceldmaaGreat.Gf

/- Go functions as plain Lean functions, and their contracts. -/
set_option linter.unusedVariables false
set_option maxRecDepth 100000
noncomputable section
namespace Go.Proofs.YtcppmlgnceldmaaGreat.Gf
open Go Go.Proofs.YtcppmlgnceldmaaGreat.Gp
def Tested16.l0 (k : Nat) : ((ByteArray × ((List (Int × (ByteArray × (Int × (List (Int × (Int × (Int × (List (Int × (Int × (Int × Int)))))))))))) × ((List (Int × (Int × (Int × (List (Int × (Int × (Int × Int)))))))) × ((List (Int × (Int × (Int × (List (Int × (Int × (Int × Int)))))))) × (List (Int × (Int × (Int × (List (Int × (Int × (Int × Int)))))))))))) × (Unit × (Unit × (Unit × ((List (Int × Int)) × ((Unit × (List Int)) × (((List Int) × (Int × (Int × Bool))) × (List (Int × (Int × Int)))))))))) → Option (((ByteArray × ((List (Int × (ByteArray × (Int × (List (Int × (Int × (Int × (List (Int × (Int × (Int × Int)))))))))))) × ((List (Int × (Int × (Int × (List (Int × (Int × (Int × Int)))))))) × ((List (Int × (Int × (Int × (List (Int × (Int × (Int × Int)))))))) × (List (Int × (Int × (Int × (List (Int × (Int × (Int × Int)))))))))))) × (Unit × (Unit × (Unit × ((List (Int × Int)) × ((Unit × (List Int)) × (((List Int) × (Int × (Int × Bool))) × (List (Int × (Int × Int)))))))))) ⊕ (Unit × (List (Int × (Int × Int)))))
  | (c_1, _, _, _, o0, o1, o2, o5) =>
    cond (decide ((List.length o5 : Int) < 40))
      ((Cycle52 k c_1 o2 false () ((), o1.2) o0).bind fun t28 =>
      (if room (List.length o5 + List.length [t28.1.2.1]) 24 then some () else none).bind fun _ =>
      some (Sum.inl (c_1, (), (), (), t28.2.2, (t28.2.1.1, t28.2.1.2), t28.1.1, (o5 ++ [t28.1.2.1]))))
      (some (Sum.inr ((), o5)))
def Tested16 (k : Nat) (c : (ByteArray × ((List (Int × (ByteArray × (Int × (List (Int × (Int × (Int × (List (Int × (Int × (Int × Int)))))))))))) × ((List (Int × (Int × (Int × (List (Int × (Int × (Int × Int)))))))) × ((List (Int × (Int × (Int × (List (Int × (Int × (Int × Int)))))))) × (List (Int × (Int × (Int × (List (Int × (Int × (Int × Int))))))))))))) (t : ((List Int) × (List Int))) : Option ((List (Int × (Int × Int))) × Unit) :=
  (if 0 ≤ 7 ∧ 7 < 9 then some () else none).bind fun _ =>
  (rd t.2 7).bind fun _ =>
  Option.bind
    (loopN (Tested16.l0 k) k (c, (), (), (), ([] : (List (Int × Int))), ((), t.1), ((List.set t.2 (Int.toNat 7) 512), (-1), 0, false), []) : Option (Unit × (List (Int × (Int × Int))))) fun ((_, o5_1) : (Unit × (List (Int × (Int × Int))))) =>
  some (o5_1, ())
def Tested16.A : Ann := { conds := [], blocks := [(0, ⟨[(7, .ms 5)], [(5, .row (.st (.pair (.int .i64) (.pair (.int .i64) (.int .i64)))))], 6, [], 34358690176⟩)], loops := [(5, ⟨[(2, .fp (.st (.pair .str (.pair (.sl (.st (.pair (.int .i64) (.pair .str (.pair (.int .i64) (.sl (.st (.pair (.int .i64) (.pair (.int .i64) (.pair (.int .i64) (.sl (.st (.pair (.int .i64) (.pair (.int .i64) (.pair (.int .i64) (.int .i64)))))))))))))))) (.pair (.sl (.st (.pair (.int .i64) (.pair (.int .i64) (.pair (.int .i64) (.sl (.st (.pair (.int .i64) (.pair (.int .i64) (.pair (.int .i64) (.int .i64))))))))))) (.pair (.sl (.st (.pair (.int .i64) (.pair (.int .i64) (.pair (.int .i64) (.sl (.st (.pair (.int .i64) (.pair (.int .i64) (.pair (.int .i64) (.int .i64))))))))))) (.sl (.st (.pair (.int .i64) (.pair (.int .i64) (.pair (.int .i64) (.sl (.st (.pair (.int .i64) (.pair (.int .i64) (.pair (.int .i64) (.int .i64))))))))))))))))), (5, .ptr 1 []), (6, .ptr 2 []), (7, .ms 5)], [(0, .map (.int .i64) (.int .i64)), (1, .var (.st (.pair (.st (.mm 0)) (.sl (.int .u8))))), (2, .var (.st (.pair (.arr 9 (.int .i64)) (.pair (.int .i64) (.pair (.int .i64) .bool))))), (5, .row (.st (.pair (.int .i64) (.pair (.int .i64) (.int .i64)))))], 6, [(5, .st (.pair (.int .i64) (.pair (.int .i64) (.int .i64))))], 34358690176⟩)], keeps := [2, 3], orders := [] }
def Tested16.S : Sig := { f := 16, params := [.st (.pair .str (.pair (.sl (.st (.pair (.int .i64) (.pair .str (.pair (.int .i64) (.sl (.st (.pair (.int .i64) (.pair (.int .i64) (.pair (.int .i64) (.sl (.st (.pair (.int .i64) (.pair (.int .i64) (.pair (.int .i64) (.int .i64)))))))))))))))) (.pair (.sl (.st (.pair (.int .i64) (.pair (.int .i64) (.pair (.int .i64) (.sl (.st (.pair (.int .i64) (.pair (.int .i64) (.pair (.int .i64) (.int .i64))))))))))) (.pair (.sl (.st (.pair (.int .i64) (.pair (.int .i64) (.pair (.int .i64) (.sl (.st (.pair (.int .i64) (.pair (.int .i64) (.pair (.int .i64) (.int .i64))))))))))) (.sl (.st (.pair (.int .i64) (.pair (.int .i64) (.pair (.int .i64) (.sl (.st (.pair (.int .i64) (.pair (.int .i64) (.pair (.int .i64) (.int .i64))))))))))))))), .st (.pair (.sl (.int .u8)) (.arr 9 (.int .i64)))], objs := [], res := .sl (.st (.pair (.int .i64) (.pair (.int .i64) (.int .i64)))), outs := [], fix := [], run := fun k ds os => Tested16 k ds.1 ds.2 }
def Tested16.G : List Sig := [Cycle52.S]
theorem Tested16.eq (k : Nat) : ∀ ds os, Tested16.S.run k ds os = runF ⟨types, Tested16.G, Tested16.A, k, 0, []⟩ Tryz.f16 (codeOf Tryz.f16) Tested16.S.params Tested16.S.objs Tested16.S.res Tested16.S.outs ds os := by
  intro ds os; kernel_rfl
theorem Tested16.dr : DrOk Tryz.prog Tested16.A (codeOf Tryz.f16) := ⟨by kernel_rfl, by kernel_rfl⟩
theorem Tested16.ok (k : Nat) : SoundAt Tryz.prog k Tested16.S :=
  runF_sound (X := ⟨types, Tested16.G, Tested16.A, k, 0, []⟩) types_ok (mem_all (⟨Cycle52.ok k, trivial⟩)) (fn := Tryz.f16) (c := codeOf Tryz.f16) rfl (by kernel_rfl) rfl rfl Tested16.dr (Tested16.eq k)

def Equal15.l0 (k : Nat) (s1 : (List (Int × (Int × Int)))) (s2 : (List (Int × (Int × Int)))) : Int → Option (Int ⊕ (Unit ⊕ (Bool × Unit)))
  | t13 =>
    cond (decide (t13 < (List.length s1 : Int)))
      ((rd s1 t13).bind fun t18 =>
      (rd s2 t13).bind fun t22 =>
      cond (xor true (eqB (.st (.pair (.int .i64) (.pair (.int .i64) (.int .i64)))) t18 t22))
        (some (Sum.inr (Sum.inr (false, ()))))
        (some (Sum.inl (w64 (t13 + 1)))))
      (some (Sum.inr (Sum.inl ())))
def Equal15 (k : Nat) (s1 : (List (Int × (Int × Int)))) (s2 : (List (Int × (Int × Int)))) : Option (Bool × Unit) :=
  cond ((List.length s1 : Int) != (List.length s2 : Int))
    (some (false, ()))
    (Option.bind
      (loopN (Equal15.l0 k s1 s2) k 0 : Option (Unit ⊕ (Bool × Unit))) (joined fun (_ : Unit) =>
      some (true, ())))
def Equal15.A : Ann := { conds := [], blocks := [(0, ⟨[], [], 0, [], 67100720⟩)], loops := [(4, ⟨[(13, .int .i64)], [], 0, [], 67100720⟩)], keeps := [], orders := [(6, [(0, .strong), (1, .strong), (2, .strong), (3, .strong), (4, .strong), (5, .strong), (6, .strong), (7, .strong), (8, .strong)])] }
def Equal15.S : Sig := { f := 15, params := [.sl (.st (.pair (.int .i64) (.pair (.int .i64) (.int .i64)))), .sl (.st (.pair (.int .i64) (.pair (.int .i64) (.int .i64))))], objs := [], res := .bool, outs := [], fix := [], run := fun k ds os => Equal15 k ds.1 ds.2 }
def Equal15.G : List Sig := []
theorem Equal15.eq (k : Nat) : ∀ ds os, Equal15.S.run k ds os = runF ⟨types, Equal15.G, Equal15.A, k, 0, []⟩ Tryz.f15 (codeOf Tryz.f15) Equal15.S.params Equal15.S.objs Equal15.S.res Equal15.S.outs ds os := by
  intro ds os; kernel_rfl
theorem Equal15.dr : DrOk Tryz.prog Equal15.A (codeOf Tryz.f15) := ⟨by kernel_rfl, by kernel_rfl⟩
theorem Equal15.ok (k : Nat) : SoundAt Tryz.prog k Equal15.S :=
  runF_sound (X := ⟨types, Equal15.G, Equal15.A, k, 0, []⟩) types_ok (fun s hs => absurd hs List.not_mem_nil) (fn := Tryz.f15) (c := codeOf Tryz.f15) rfl (by kernel_rfl) rfl rfl Equal15.dr (Equal15.eq k)
end Go.Proofs.YtcppmlgnceldmaaGreat.Gf

/- Go functions as plain Lean functions, and their contracts. -/
set_option linter.unusedVariables false
set_option maxRecDepth 100000
noncomputable section
namespace Go.Proofs.YtcppmlgnceldmaaGreat.Gf
open Go Go.Proofs.YtcppmlgnceldmaaGreat.Gp
def GenFinds3.l0 (k : Nat) (t21 : ((((List Int) × (List Int)) × (Bool × (Int × Unit))) × Unit)) (t87 : ((List ((List Int) × (List Int))) × Unit)) : ((ByteArray × ((List (Int × (ByteArray × (Int × (List (Int × (Int × (Int × (List (Int × (Int × (Int × Int)))))))))))) × ((List (Int × (Int × (Int × (List (Int × (Int × (Int × Int)))))))) × ((List (Int × (Int × (Int × (List (Int × (Int × (Int × Int)))))))) × (List (Int × (Int × (Int × (List (Int × (Int × (Int × Int)))))))))))) × ((ByteArray × ((List (Int × (ByteArray × (Int × (List (Int × (Int × (Int × (List (Int × (Int × (Int × Int)))))))))))) × ((List (Int × (Int × (Int × (List (Int × (Int × (Int × Int)))))))) × ((List (Int × (Int × (Int × (List (Int × (Int × (Int × Int)))))))) × (List (Int × (Int × (Int × (List (Int × (Int × (Int × Int)))))))))))) × (((List Int) × (List Int)) × Int))) → Option (((ByteArray × ((List (Int × (ByteArray × (Int × (List (Int × (Int × (Int × (List (Int × (Int × (Int × Int)))))))))))) × ((List (Int × (Int × (Int × (List (Int × (Int × (Int × Int)))))))) × ((List (Int × (Int × (Int × (List (Int × (Int × (Int × Int)))))))) × (List (Int × (Int × (Int × (List (Int × (Int × (Int × Int)))))))))))) × ((ByteArray × ((List (Int × (ByteArray × (Int × (List (Int × (Int × (Int × (List (Int × (Int × (Int × Int)))))))))))) × ((List (Int × (Int × (Int × (List (Int × (Int × (Int × Int)))))))) × ((List (Int × (Int × (Int × (List (Int × (Int × (Int × Int)))))))) × (List (Int × (Int × (Int × (List (Int × (Int × (Int × Int)))))))))))) × (((List Int) × (List Int)) × Int))) ⊕ (((ByteArray × ((List (Int × (ByteArray × (Int × (List (Int × (Int × (Int × (List (Int × (Int × (Int × Int)))))))))))) × ((List (Int × (Int × (Int × (List (Int × (Int × (Int × Int)))))))) × ((List (Int × (Int × (Int × (List (Int × (Int × (Int × Int)))))))) × (List (Int × (Int × (Int × (List (Int × (Int × (Int × Int)))))))))))) × ((ByteArray × ((List (Int × (ByteArray × (Int × (List (Int × (Int × (Int × (List (Int × (Int × (Int × Int)))))))))))) × ((List (Int × (Int × (Int × (List (Int × (Int × (Int × Int)))))))) × ((List (Int × (Int × (Int × (List (Int × (Int × (Int × Int)))))))) × (List (Int × (Int × (Int × (List (Int × (Int × (Int × Int)))))))))))) × ((List Int) × (List Int)))) ⊕ (((ByteArray × ((List (Int × (ByteArray × (Int × (List (Int × (Int × (Int × (List (Int × (Int × (Int × Int)))))))))))) × ((List (Int × (Int × (Int × (List (Int × (Int × (Int × Int)))))))) × ((List (Int × (Int × (Int × (List (Int × (Int × (Int × Int)))))))) × (List (Int × (Int × (Int × (List (Int × (Int × (Int × Int)))))))))))) × ((ByteArray × ((List (Int × (ByteArray × (Int × (List (Int × (Int × (Int × (List (Int × (Int × (Int × Int)))))))))))) × ((List (Int × (Int × (Int × (List (Int × (Int × (Int × Int)))))))) × ((List (Int × (Int × (Int × (List (Int × (Int × (Int × Int)))))))) × (List (Int × (Int × (Int × (List (Int × (Int × (Int × Int)))))))))))) × ((List Int) × (List Int)))) ⊕ (((ByteArray × ((List (Int × (ByteArray × (Int × (List (Int × (Int × (Int × (List (Int × (Int × (Int × Int)))))))))))) × ((List (Int × (Int × (Int × (List (Int × (Int × (Int × Int)))))))) × ((List (Int × (Int × (Int × (List (Int × (Int × (Int × Int)))))))) × (List (Int × (Int × (Int × (List (Int × (Int × (Int × Int)))))))))))) × ((ByteArray × ((List (Int × (ByteArray × (Int × (List (Int × (Int × (Int × (List (Int × (Int × (Int × Int)))))))))))) × ((List (Int × (Int × (Int × (List (Int × (Int × (Int × Int)))))))) × ((List (Int × (Int × (Int × (List (Int × (Int × (Int × Int)))))))) × (List (Int × (Int × (Int × (List (Int × (Int × (Int × Int)))))))))))) × (((List Int) × (List Int)) × Int))) ⊕ (((List Int) × (List Int)) ⊕ (Bool × Unit))))))
  | (a_4, b_4, t_3, t89) =>
    cond (decide (t89 < (List.length t87.1 : Int)))
      ((rd t87.1 t89).bind fun t91 =>
      (Tested16 k a_4 t91).bind fun t95 =>
      (Tested16 k b_4 t91).bind fun t98 =>
      (Equal15 k t95.1 t98.1).bind fun t99 =>
      cond (!t99.1)
        (Option.bind (cond t21.1.2.1
          ((sameTest10 k t_3 t91).bind fun t105 =>
          some t105.1)
          (some false)) fun t106 =>
        some (Sum.inr (Sum.inr (Sum.inr (Sum.inr (Sum.inr (t106, ())))))))
        (some (Sum.inl (a_4, b_4, t_3, (w64 (t89 + 1))))))
      (some (Sum.inr (Sum.inl (a_4, b_4, t_3))))
def GenFinds3.l1 (k : Nat) (t21 : ((((List Int) × (List Int)) × (Bool × (Int × Unit))) × Unit)) : ((ByteArray × ((List (Int × (ByteArray × (Int × (List (Int × (Int × (Int × (List (Int × (Int × (Int × Int)))))))))))) × ((List (Int × (Int × (Int × (List (Int × (Int × (Int × Int)))))))) × ((List (Int × (Int × (Int × (List (Int × (Int × (Int × Int)))))))) × (List (Int × (Int × (Int × (List (Int × (Int × (Int × Int)))))))))))) × ((ByteArray × ((List (Int × (ByteArray × (Int × (List (Int × (Int × (Int × (List (Int × (Int × (Int × Int)))))))))))) × ((List (Int × (Int × (Int × (List (Int × (Int × (Int × Int)))))))) × ((List (Int × (Int × (Int × (List (Int × (Int × (Int × Int)))))))) × (List (Int × (Int × (Int × (List (Int × (Int × (Int × Int)))))))))))) × (((List Int) × (List Int)) × Int))) → Option (((ByteArray × ((List (Int × (ByteArray × (Int × (List (Int × (Int × (Int × (List (Int × (Int × (Int × Int)))))))))))) × ((List (Int × (Int × (Int × (List (Int × (Int × (Int × Int)))))))) × ((List (Int × (Int × (Int × (List (Int × (Int × (Int × Int)))))))) × (List (Int × (Int × (Int × (List (Int × (Int × (Int × Int)))))))))))) × ((ByteArray × ((List (Int × (ByteArray × (Int × (List (Int × (Int × (Int × (List (Int × (Int × (Int × Int)))))))))))) × ((List (Int × (Int × (Int × (List (Int × (Int × (Int × Int)))))))) × ((List (Int × (Int × (Int × (List (Int × (Int × (Int × Int)))))))) × (List (Int × (Int × (Int × (List (Int × (Int × (Int × Int)))))))))))) × (((List Int) × (List Int)) × Int))) ⊕ (((List Int) × (List Int)) ⊕ (Bool × Unit)))
  | (a_2, b_2, t_1, t47) =>
    cond (decide (t47 < 256))
      (Option.bind
        ((Find11 k a_2 t47).bind fun t53 =>
        (Find11 k b_2 t47).bind fun t59 =>
        Option.bind
          (let q_ : Option ((ByteArray × ((List (Int × (ByteArray × (Int × (List (Int × (Int × (Int × (List (Int × (Int × (Int × Int)))))))))))) × ((List (Int × (Int × (Int × (List (Int × (Int × (Int × Int)))))))) × ((List (Int × (Int × (Int × (List (Int × (Int × (Int × Int)))))))) × (List (Int × (Int × (Int × (List (Int × (Int × (Int × Int)))))))))))) × ((ByteArray × ((List (Int × (ByteArray × (Int × (List (Int × (Int × (Int × (List (Int × (Int × (Int × Int)))))))))))) × ((List (Int × (Int × (Int × (List (Int × (Int × (Int × Int)))))))) × ((List (Int × (Int × (Int × (List (Int × (Int × (Int × Int)))))))) × (List (Int × (Int × (Int × (List (Int × (Int × (Int × Int)))))))))))) × (((List Int) × (List Int)) × ((ByteArray × ((List (Int × (ByteArray × (Int × (List (Int × (Int × (Int × (List (Int × (Int × (Int × Int)))))))))))) × ((List (Int × (Int × (Int × (List (Int × (Int × (Int × Int)))))))) × ((List (Int × (Int × (Int × (List (Int × (Int × (Int × Int)))))))) × (List (Int × (Int × (Int × (List (Int × (Int × (Int × Int)))))))))))) × (ByteArray × ((List (Int × (ByteArray × (Int × (List (Int × (Int × (Int × (List (Int × (Int × (Int × Int)))))))))))) × ((List (Int × (Int × (Int × (List (Int × (Int × (Int × Int)))))))) × ((List (Int × (Int × (Int × (List (Int × (Int × (Int × Int)))))))) × (List (Int × (Int × (Int × (List (Int × (Int × (Int × Int)))))))))))))))) :=
            (some (a_2, b_2, t_1, ((ByteArray.mk #[]), [(t53.1.1.1, (ByteArray.mk #[97]), 0, t53.1.1.2.2.2)], [], [], []), (ByteArray.mk #[]), [(t59.1.1.1, (ByteArray.mk #[97]), 0, t59.1.1.2.2.2)], [], [], []))
          agree (agree (agree q_ q_) (agree (agree q_ (agree q_ q_)) (agree q_ (agree q_ q_)))) (agree (agree (agree q_ q_) (agree (agree q_ q_) (agree q_ q_))) (agree (agree (agree q_ (agree q_ q_)) (agree (agree q_ q_) (agree (agree q_ q_) q_))) (agree (agree q_ (agree q_ q_)) (agree (agree q_ q_) (agree (agree q_ q_) q_))))) : Option ((ByteArray × ((List (Int × (ByteArray × (Int × (List (Int × (Int × (Int × (List (Int × (Int × (Int × Int)))))))))))) × ((List (Int × (Int × (Int × (List (Int × (Int × (Int × Int)))))))) × ((List (Int × (Int × (Int × (List (Int × (Int × (Int × Int)))))))) × (List (Int × (Int × (Int × (List (Int × (Int × (Int × Int)))))))))))) × ((ByteArray × ((List (Int × (ByteArray × (Int × (List (Int × (Int × (Int × (List (Int × (Int × (Int × Int)))))))))))) × ((List (Int × (Int × (Int × (List (Int × (Int × (Int × Int)))))))) × ((List (Int × (Int × (Int × (List (Int × (Int × (Int × Int)))))))) × (List (Int × (Int × (Int × (List (Int × (Int × (Int × Int)))))))))))) × (((List Int) × (List Int)) × ((ByteArray × ((List (Int × (ByteArray × (Int × (List (Int × (Int × (Int × (List (Int × (Int × (Int × Int)))))))))))) × ((List (Int × (Int × (Int × (List (Int × (Int × (Int × Int)))))))) × ((List (Int × (Int × (Int × (List (Int × (Int × (Int × Int)))))))) × (List (Int × (Int × (Int × (List (Int × (Int × (Int × Int)))))))))))) × (ByteArray × ((List (Int × (ByteArray × (Int × (List (Int × (Int × (Int × (List (Int × (Int × (Int × Int)))))))))))) × ((List (Int × (Int × (Int × (List (Int × (Int × (Int × Int)))))))) × ((List (Int × (Int × (Int × (List (Int × (Int × (Int × Int)))))))) × (List (Int × (Int × (Int × (List (Int × (Int × (Int × Int))))))))))))))))) fun ((a_3, b_3, t_2, one, two) : ((ByteArray × ((List (Int × (ByteArray × (Int × (List (Int × (Int × (Int × (List (Int × (Int × (Int × Int)))))))))))) × ((List (Int × (Int × (Int × (List (Int × (Int × (Int × Int)))))))) × ((List (Int × (Int × (Int × (List (Int × (Int × (Int × Int)))))))) × (List (Int × (Int × (Int × (List (Int × (Int × (Int × Int)))))))))))) × ((ByteArray × ((List (Int × (ByteArray × (Int × (List (Int × (Int × (Int × (List (Int × (Int × (Int × Int)))))))))))) × ((List (Int × (Int × (Int × (List (Int × (Int × (Int × Int)))))))) × ((List (Int × (Int × (Int × (List (Int × (Int × (Int × Int)))))))) × (List (Int × (Int × (Int × (List (Int × (Int × (Int × Int)))))))))))) × (((List Int) × (List Int)) × ((ByteArray × ((List (Int × (ByteArray × (Int × (List (Int × (Int × (Int × (List (Int × (Int × (Int × Int)))))))))))) × ((List (Int × (Int × (Int × (List (Int × (Int × (Int × Int)))))))) × ((List (Int × (Int × (Int × (List (Int × (Int × (Int × Int)))))))) × (List (Int × (Int × (Int × (List (Int × (Int × (Int × Int)))))))))))) × (ByteArray × ((List (Int × (ByteArray × (Int × (List (Int × (Int × (Int × (List (Int × (Int × (Int × Int)))))))))))) × ((List (Int × (Int × (Int × (List (Int × (Int × (Int × Int)))))))) × ((List (Int × (Int × (Int × (List (Int × (Int × (Int × Int)))))))) × (List (Int × (Int × (Int × (List (Int × (Int × (Int × Int))))))))))))))))) =>
        Option.bind (cond (xor false (t53.1.2.1 == t59.1.2.1))
          ((Same12 k one two).bind fun t78 =>
          some t78.1)
          (some false)) fun t79 =>
        cond t79
          (some (Sum.inl (a_3, b_3, t_2)))
          ((TestsOf14 k a_3 t47).bind fun t82 =>
          (TestsOf14 k b_3 t47).bind fun t85 =>
          (Concat13 k [t82.1, t85.1]).bind fun t87 =>
          Option.bind
            (loopN (GenFinds3.l0 k t21 t87) k (a_3, b_3, t_2, 0) : Option (((ByteArray × ((List (Int × (ByteArray × (Int × (List (Int × (Int × (Int × (List (Int × (Int × (Int × Int)))))))))))) × ((List (Int × (Int × (Int × (List (Int × (Int × (Int × Int)))))))) × ((List (Int × (Int × (Int × (List (Int × (Int × (Int × Int)))))))) × (List (Int × (Int × (Int × (List (Int × (Int × (Int × Int)))))))))))) × ((ByteArray × ((List (Int × (ByteArray × (Int × (List (Int × (Int × (Int × (List (Int × (Int × (Int × Int)))))))))))) × ((List (Int × (Int × (Int × (List (Int × (Int × (Int × Int)))))))) × ((List (Int × (Int × (Int × (List (Int × (Int × (Int × Int)))))))) × (List (Int × (Int × (Int × (List (Int × (Int × (Int × Int)))))))))))) × ((List Int) × (List Int)))) ⊕ (((ByteArray × ((List (Int × (ByteArray × (Int × (List (Int × (Int × (Int × (List (Int × (Int × (Int × Int)))))))))))) × ((List (Int × (Int × (Int × (List (Int × (Int × (Int × Int)))))))) × ((List (Int × (Int × (Int × (List (Int × (Int × (Int × Int)))))))) × (List (Int × (Int × (Int × (List (Int × (Int × (Int × Int)))))))))))) × ((ByteArray × ((List (Int × (ByteArray × (Int × (List (Int × (Int × (Int × (List (Int × (Int × (Int × Int)))))))))))) × ((List (Int × (Int × (Int × (List (Int × (Int × (Int × Int)))))))) × ((List (Int × (Int × (Int × (List (Int × (Int × (Int × Int)))))))) × (List (Int × (Int × (Int × (List (Int × (Int × (Int × Int)))))))))))) × ((List Int) × (List Int)))) ⊕ (((ByteArray × ((List (Int × (ByteArray × (Int × (List (Int × (Int × (Int × (List (Int × (Int × (Int × Int)))))))))))) × ((List (Int × (Int × (Int × (List (Int × (Int × (Int × Int)))))))) × ((List (Int × (Int × (Int × (List (Int × (Int × (Int × Int)))))))) × (List (Int × (Int × (Int × (List (Int × (Int × (Int × Int)))))))))))) × ((ByteArray × ((List (Int × (ByteArray × (Int × (List (Int × (Int × (Int × (List (Int × (Int × (Int × Int)))))))))))) × ((List (Int × (Int × (Int × (List (Int × (Int × (Int × Int)))))))) × ((List (Int × (Int × (Int × (List (Int × (Int × (Int × Int)))))))) × (List (Int × (Int × (Int × (List (Int × (Int × (Int × Int)))))))))))) × (((List Int) × (List Int)) × Int))) ⊕ (((List Int) × (List Int)) ⊕ (Bool × Unit)))))) (joined fun ((a_5, b_5, t_4) : ((ByteArray × ((List (Int × (ByteArray × (Int × (List (Int × (Int × (Int × (List (Int × (Int × (Int × Int)))))))))))) × ((List (Int × (Int × (Int × (List (Int × (Int × (Int × Int)))))))) × ((List (Int × (Int × (Int × (List (Int × (Int × (Int × Int)))))))) × (List (Int × (Int × (Int × (List (Int × (Int × (Int × Int)))))))))))) × ((ByteArray × ((List (Int × (ByteArray × (Int × (List (Int × (Int × (Int × (List (Int × (Int × (Int × Int)))))))))))) × ((List (Int × (Int × (Int × (List (Int × (Int × (Int × Int)))))))) × ((List (Int × (Int × (Int × (List (Int × (Int × (Int × Int)))))))) × (List (Int × (Int × (Int × (List (Int × (Int × (Int × Int)))))))))))) × ((List Int) × (List Int))))) =>
            some (Sum.inl (a_5, b_5, t_4)))) : Option (((ByteArray × ((List (Int × (ByteArray × (Int × (List (Int × (Int × (Int × (List (Int × (Int × (Int × Int)))))))))))) × ((List (Int × (Int × (Int × (List (Int × (Int × (Int × Int)))))))) × ((List (Int × (Int × (Int × (List (Int × (Int × (Int × Int)))))))) × (List (Int × (Int × (Int × (List (Int × (Int × (Int × Int)))))))))))) × ((ByteArray × ((List (Int × (ByteArray × (Int × (List (Int × (Int × (Int × (List (Int × (Int × (Int × Int)))))))))))) × ((List (Int × (Int × (Int × (List (Int × (Int × (Int × Int)))))))) × ((List (Int × (Int × (Int × (List (Int × (Int × (Int × Int)))))))) × (List (Int × (Int × (Int × (List (Int × (Int × (Int × Int)))))))))))) × ((List Int) × (List Int)))) ⊕ (((ByteArray × ((List (Int × (ByteArray × (Int × (List (Int × (Int × (Int × (List (Int × (Int × (Int × Int)))))))))))) × ((List (Int × (Int × (Int × (List (Int × (Int × (Int × Int)))))))) × ((List (Int × (Int × (Int × (List (Int × (Int × (Int × Int)))))))) × (List (Int × (Int × (Int × (List (Int × (Int × (Int × Int)))))))))))) × ((ByteArray × ((List (Int × (ByteArray × (Int × (List (Int × (Int × (Int × (List (Int × (Int × (Int × Int)))))))))))) × ((List (Int × (Int × (Int × (List (Int × (Int × (Int × Int)))))))) × ((List (Int × (Int × (Int × (List (Int × (Int × (Int × Int)))))))) × (List (Int × (Int × (Int × (List (Int × (Int × (Int × Int)))))))))))) × (((List Int) × (List Int)) × Int))) ⊕ (((List Int) × (List Int)) ⊕ (Bool × Unit))))) (joined fun ((a_6, b_6, t_5) : ((ByteArray × ((List (Int × (ByteArray × (Int × (List (Int × (Int × (Int × (List (Int × (Int × (Int × Int)))))))))))) × ((List (Int × (Int × (Int × (List (Int × (Int × (Int × Int)))))))) × ((List (Int × (Int × (Int × (List (Int × (Int × (Int × Int)))))))) × (List (Int × (Int × (Int × (List (Int × (Int × (Int × Int)))))))))))) × ((ByteArray × ((List (Int × (ByteArray × (Int × (List (Int × (Int × (Int × (List (Int × (Int × (Int × Int)))))))))))) × ((List (Int × (Int × (Int × (List (Int × (Int × (Int × Int)))))))) × ((List (Int × (Int × (Int × (List (Int × (Int × (Int × Int)))))))) × (List (Int × (Int × (Int × (List (Int × (Int × (Int × Int)))))))))))) × ((List Int) × (List Int))))) =>
        some (Sum.inl (a_6, b_6, t_5, (w64 (t47 + 1))))))
      (some (Sum.inr (Sum.inl t_1)))
def GenFinds3 (k : Nat) (a : (ByteArray × ((List (Int × (ByteArray × (Int × (List (Int × (Int × (Int × (List (Int × (Int × (Int × Int)))))))))))) × ((List (Int × (Int × (Int × (List (Int × (Int × (Int × Int)))))))) × ((List (Int × (Int × (Int × (List (Int × (Int × (Int × Int)))))))) × (List (Int × (Int × (Int × (List (Int × (Int × (Int × Int))))))))))))) (b : (ByteArray × ((List (Int × (ByteArray × (Int × (List (Int × (Int × (Int × (List (Int × (Int × (Int × Int)))))))))))) × ((List (Int × (Int × (Int × (List (Int × (Int × (Int × Int)))))))) × ((List (Int × (Int × (Int × (List (Int × (Int × (Int × Int)))))))) × (List (Int × (Int × (Int × (List (Int × (Int × (Int × Int))))))))))))) : Option (Bool × Unit) :=
  (Find7 k a b).bind fun t21 =>
  (Check8 k a).bind fun t26 =>
  Option.bind
    (cond (t26.1 == 0)
      ((Check8 k b).bind fun t30 =>
      some (a, b, t21.1.1, t30.1))
      (some (a, b, t21.1.1, t26.1)) : Option ((ByteArray × ((List (Int × (ByteArray × (Int × (List (Int × (Int × (Int × (List (Int × (Int × (Int × Int)))))))))))) × ((List (Int × (Int × (Int × (List (Int × (Int × (Int × Int)))))))) × ((List (Int × (Int × (Int × (List (Int × (Int × (Int × Int)))))))) × (List (Int × (Int × (Int × (List (Int × (Int × (Int × Int)))))))))))) × ((ByteArray × ((List (Int × (ByteArray × (Int × (List (Int × (Int × (Int × (List (Int × (Int × (Int × Int)))))))))))) × ((List (Int × (Int × (Int × (List (Int × (Int × (Int × Int)))))))) × ((List (Int × (Int × (Int × (List (Int × (Int × (Int × Int)))))))) × (List (Int × (Int × (Int × (List (Int × (Int × (Int × Int)))))))))))) × (((List Int) × (List Int)) × Int)))) fun ((a_1, b_1, t, f) : ((ByteArray × ((List (Int × (ByteArray × (Int × (List (Int × (Int × (Int × (List (Int × (Int × (Int × Int)))))))))))) × ((List (Int × (Int × (Int × (List (Int × (Int × (Int × Int)))))))) × ((List (Int × (Int × (Int × (List (Int × (Int × (Int × Int)))))))) × (List (Int × (Int × (Int × (List (Int × (Int × (Int × Int)))))))))))) × ((ByteArray × ((List (Int × (ByteArray × (Int × (List (Int × (Int × (Int × (List (Int × (Int × (Int × Int)))))))))))) × ((List (Int × (Int × (Int × (List (Int × (Int × (Int × Int)))))))) × ((List (Int × (Int × (Int × (List (Int × (Int × (Int × Int)))))))) × (List (Int × (Int × (Int × (List (Int × (Int × (Int × Int)))))))))))) × (((List Int) × (List Int)) × Int)))) =>
  (generated9 k).bind fun t31 =>
  cond (cond (!t31.1) true (t21.1.2.2.1 != f))
    (some (false, ()))
    (cond (f != 0)
      (Option.bind (cond (!t21.1.2.1)
        ((sameTest10 k t ([], (List.replicate 9 0))).bind fun t45 =>
        some t45.1)
        (some false)) fun t46 =>
      some (t46, ()))
      (Option.bind
        (loopN (GenFinds3.l1 k t21) k (a_1, b_1, t, 0) : Option (((List Int) × (List Int)) ⊕ (Bool × Unit))) (joined fun (t_6 : ((List Int) × (List Int))) =>
        Option.bind (cond (!t21.1.2.1)
          ((sameTest10 k t_6 ([], (List.replicate 9 0))).bind fun t114 =>
          some t114.1)
          (some false)) fun t115 =>
        some (t115, ()))))
def GenFinds3.A : Ann := { conds := [(1835012, ⟨[(2, .fp (.st (.pair .str (.pair (.sl (.st (.pair (.int .i64) (.pair .str (.pair (.int .i64) (.sl (.st (.pair (.int .i64) (.pair (.int .i64) (.pair (.int .i64) (.sl (.st (.pair (.int .i64) (.pair (.int .i64) (.pair (.int .i64) (.int .i64)))))))))))))))) (.pair (.sl (.st (.pair (.int .i64) (.pair (.int .i64) (.pair (.int .i64) (.sl (.st (.pair (.int .i64) (.pair (.int .i64) (.pair (.int .i64) (.int .i64))))))))))) (.pair (.sl (.st (.pair (.int .i64) (.pair (.int .i64) (.pair (.int .i64) (.sl (.st (.pair (.int .i64) (.pair (.int .i64) (.pair (.int .i64) (.int .i64))))))))))) (.sl (.st (.pair (.int .i64) (.pair (.int .i64) (.pair (.int .i64) (.sl (.st (.pair (.int .i64) (.pair (.int .i64) (.pair (.int .i64) (.int .i64))))))))))))))))), (3, .fp (.st (.pair .str (.pair (.sl (.st (.pair (.int .i64) (.pair .str (.pair (.int .i64) (.sl (.st (.pair (.int .i64) (.pair (.int .i64) (.pair (.int .i64) (.sl (.st (.pair (.int .i64) (.pair (.int .i64) (.pair (.int .i64) (.int .i64)))))))))))))))) (.pair (.sl (.st (.pair (.int .i64) (.pair (.int .i64) (.pair (.int .i64) (.sl (.st (.pair (.int .i64) (.pair (.int .i64) (.pair (.int .i64) (.int .i64))))))))))) (.pair (.sl (.st (.pair (.int .i64) (.pair (.int .i64) (.pair (.int .i64) (.sl (.st (.pair (.int .i64) (.pair (.int .i64) (.pair (.int .i64) (.int .i64))))))))))) (.sl (.st (.pair (.int .i64) (.pair (.int .i64) (.pair (.int .i64) (.sl (.st (.pair (.int .i64) (.pair (.int .i64) (.pair (.int .i64) (.int .i64))))))))))))))))), (5, .fp (.st (.pair (.sl (.int .u8)) (.arr 9 (.int .i64))))), (8, .int .i64)], [], 0, [], 1610612992⟩)], blocks := [(0, ⟨[(5, .fp (.st (.pair (.sl (.int .u8)) (.arr 9 (.int .i64)))))], [], 0, [], 649037107316853453425574552993296⟩), (1, ⟨[(2, .fp (.st (.pair .str (.pair (.sl (.st (.pair (.int .i64) (.pair .str (.pair (.int .i64) (.sl (.st (.pair (.int .i64) (.pair (.int .i64) (.pair (.int .i64) (.sl (.st (.pair (.int .i64) (.pair (.int .i64) (.pair (.int .i64) (.int .i64)))))))))))))))) (.pair (.sl (.st (.pair (.int .i64) (.pair (.int .i64) (.pair (.int .i64) (.sl (.st (.pair (.int .i64) (.pair (.int .i64) (.pair (.int .i64) (.int .i64))))))))))) (.pair (.sl (.st (.pair (.int .i64) (.pair (.int .i64) (.pair (.int .i64) (.sl (.st (.pair (.int .i64) (.pair (.int .i64) (.pair (.int .i64) (.int .i64))))))))))) (.sl (.st (.pair (.int .i64) (.pair (.int .i64) (.pair (.int .i64) (.sl (.st (.pair (.int .i64) (.pair (.int .i64) (.pair (.int .i64) (.int .i64))))))))))))))))), (3, .fp (.st (.pair .str (.pair (.sl (.st (.pair (.int .i64) (.pair .str (.pair (.int .i64) (.sl (.st (.pair (.int .i64) (.pair (.int .i64) (.pair (.int .i64) (.sl (.st (.pair (.int .i64) (.pair (.int .i64) (.pair (.int .i64) (.int .i64)))))))))))))))) (.pair (.sl (.st (.pair (.int .i64) (.pair (.int .i64) (.pair (.int .i64) (.sl (.st (.pair (.int .i64) (.pair (.int .i64) (.pair (.int .i64) (.int .i64))))))))))) (.pair (.sl (.st (.pair (.int .i64) (.pair (.int .i64) (.pair (.int .i64) (.sl (.st (.pair (.int .i64) (.pair (.int .i64) (.pair (.int .i64) (.int .i64))))))))))) (.sl (.st (.pair (.int .i64) (.pair (.int .i64) (.pair (.int .i64) (.sl (.st (.pair (.int .i64) (.pair (.int .i64) (.pair (.int .i64) (.int .i64))))))))))))))))), (5, .fp (.st (.pair (.sl (.int .u8)) (.arr 9 (.int .i64)))))], [], 0, [], 324518553658426726220206067351056⟩), (2, ⟨[(2, .fp (.st (.pair .str (.pair (.sl (.st (.pair (.int .i64) (.pair .str (.pair (.int .i64) (.sl (.st (.pair (.int .i64) (.pair (.int .i64) (.pair (.int .i64) (.sl (.st (.pair (.int .i64) (.pair (.int .i64) (.pair (.int .i64) (.int .i64)))))))))))))))) (.pair (.sl (.st (.pair (.int .i64) (.pair (.int .i64) (.pair (.int .i64) (.sl (.st (.pair (.int .i64) (.pair (.int .i64) (.pair (.int .i64) (.int .i64))))))))))) (.pair (.sl (.st (.pair (.int .i64) (.pair (.int .i64) (.pair (.int .i64) (.sl (.st (.pair (.int .i64) (.pair (.int .i64) (.pair (.int .i64) (.int .i64))))))))))) (.sl (.st (.pair (.int .i64) (.pair (.int .i64) (.pair (.int .i64) (.sl (.st (.pair (.int .i64) (.pair (.int .i64) (.pair (.int .i64) (.int .i64))))))))))))))))), (3, .fp (.st (.pair .str (.pair (.sl (.st (.pair (.int .i64) (.pair .str (.pair (.int .i64) (.sl (.st (.pair (.int .i64) (.pair (.int .i64) (.pair (.int .i64) (.sl (.st (.pair (.int .i64) (.pair (.int .i64) (.pair (.int .i64) (.int .i64)))))))))))))))) (.pair (.sl (.st (.pair (.int .i64) (.pair (.int .i64) (.pair (.int .i64) (.sl (.st (.pair (.int .i64) (.pair (.int .i64) (.pair (.int .i64) (.int .i64))))))))))) (.pair (.sl (.st (.pair (.int .i64) (.pair (.int .i64) (.pair (.int .i64) (.sl (.st (.pair (.int .i64) (.pair (.int .i64) (.pair (.int .i64) (.int .i64))))))))))) (.sl (.st (.pair (.int .i64) (.pair (.int .i64) (.pair (.int .i64) (.sl (.st (.pair (.int .i64) (.pair (.int .i64) (.pair (.int .i64) (.int .i64))))))))))))))))), (5, .fp (.st (.pair (.sl (.int .u8)) (.arr 9 (.int .i64)))))], [], 0, [], 324517934688407084093018571145232⟩)], loops := [(10, ⟨[(2, .fp (.st (.pair .str (.pair (.sl (.st (.pair (.int .i64) (.pair .str (.pair (.int .i64) (.sl (.st (.pair (.int .i64) (.pair (.int .i64) (.pair (.int .i64) (.sl (.st (.pair (.int .i64) (.pair (.int .i64) (.pair (.int .i64) (.int .i64)))))))))))))))) (.pair (.sl (.st (.pair (.int .i64) (.pair (.int .i64) (.pair (.int .i64) (.sl (.st (.pair (.int .i64) (.pair (.int .i64) (.pair (.int .i64) (.int .i64))))))))))) (.pair (.sl (.st (.pair (.int .i64) (.pair (.int .i64) (.pair (.int .i64) (.sl (.st (.pair (.int .i64) (.pair (.int .i64) (.pair (.int .i64) (.int .i64))))))))))) (.sl (.st (.pair (.int .i64) (.pair (.int .i64) (.pair (.int .i64) (.sl (.st (.pair (.int .i64) (.pair (.int .i64) (.pair (.int .i64) (.int .i64))))))))))))))))), (3, .fp (.st (.pair .str (.pair (.sl (.st (.pair (.int .i64) (.pair .str (.pair (.int .i64) (.sl (.st (.pair (.int .i64) (.pair (.int .i64) (.pair (.int .i64) (.sl (.st (.pair (.int .i64) (.pair (.int .i64) (.pair (.int .i64) (.int .i64)))))))))))))))) (.pair (.sl (.st (.pair (.int .i64) (.pair (.int .i64) (.pair (.int .i64) (.sl (.st (.pair (.int .i64) (.pair (.int .i64) (.pair (.int .i64) (.int .i64))))))))))) (.pair (.sl (.st (.pair (.int .i64) (.pair (.int .i64) (.pair (.int .i64) (.sl (.st (.pair (.int .i64) (.pair (.int .i64) (.pair (.int .i64) (.int .i64))))))))))) (.sl (.st (.pair (.int .i64) (.pair (.int .i64) (.pair (.int .i64) (.sl (.st (.pair (.int .i64) (.pair (.int .i64) (.pair (.int .i64) (.int .i64))))))))))))))))), (5, .fp (.st (.pair (.sl (.int .u8)) (.arr 9 (.int .i64))))), (47, .int .i64)], [], 0, [], 649037107316853453425574552993296⟩), (18, ⟨[(2, .fp (.st (.pair .str (.pair (.sl (.st (.pair (.int .i64) (.pair .str (.pair (.int .i64) (.sl (.st (.pair (.int .i64) (.pair (.int .i64) (.pair (.int .i64) (.sl (.st (.pair (.int .i64) (.pair (.int .i64) (.pair (.int .i64) (.int .i64)))))))))))))))) (.pair (.sl (.st (.pair (.int .i64) (.pair (.int .i64) (.pair (.int .i64) (.sl (.st (.pair (.int .i64) (.pair (.int .i64) (.pair (.int .i64) (.int .i64))))))))))) (.pair (.sl (.st (.pair (.int .i64) (.pair (.int .i64) (.pair (.int .i64) (.sl (.st (.pair (.int .i64) (.pair (.int .i64) (.pair (.int .i64) (.int .i64))))))))))) (.sl (.st (.pair (.int .i64) (.pair (.int .i64) (.pair (.int .i64) (.sl (.st (.pair (.int .i64) (.pair (.int .i64) (.pair (.int .i64) (.int .i64))))))))))))))))), (3, .fp (.st (.pair .str (.pair (.sl (.st (.pair (.int .i64) (.pair .str (.pair (.int .i64) (.sl (.st (.pair (.int .i64) (.pair (.int .i64) (.pair (.int .i64) (.sl (.st (.pair (.int .i64) (.pair (.int .i64) (.pair (.int .i64) (.int .i64)))))))))))))))) (.pair (.sl (.st (.pair (.int .i64) (.pair (.int .i64) (.pair (.int .i64) (.sl (.st (.pair (.int .i64) (.pair (.int .i64) (.pair (.int .i64) (.int .i64))))))))))) (.pair (.sl (.st (.pair (.int .i64) (.pair (.int .i64) (.pair (.int .i64) (.sl (.st (.pair (.int .i64) (.pair (.int .i64) (.pair (.int .i64) (.int .i64))))))))))) (.sl (.st (.pair (.int .i64) (.pair (.int .i64) (.pair (.int .i64) (.sl (.st (.pair (.int .i64) (.pair (.int .i64) (.pair (.int .i64) (.int .i64))))))))))))))))), (5, .fp (.st (.pair (.sl (.int .u8)) (.arr 9 (.int .i64))))), (89, .int .i64)], [], 0, [], 324517934688407084093018571145232⟩)], keeps := [2, 3, 5, 17], orders := [(17, [(0, .strong), (1, .strong), (3, .strong), (4, .strong), (9, .strong), (2, .eff true), (5, .eff true), (6, .eff true), (7, .eff true), (8, .strong)]), (20, [(0, .strong), (1, .strong), (3, .strong), (4, .strong), (2, .eff true), (5, .eff true), (6, .eff true), (7, .strong)])], turns := [(14, [⟨0, [], .undef⟩, ⟨1, [], .undef⟩])], alts := [(15, ((.op 0 .strong (.op 3 .weak (.alt (.op 1 (.eff true) (.op 2 .strong (.alt (.op 4 (.eff true) (.op 5 .weak (.alt (.op 6 (.eff true) (.op 7 (.eff true) (.op 8 (.eff false) (.op 9 (.eff false) (.leaf [⟨4, [], .st (.pair .str (.pair (.ms 2) (.pair (.sl (.st (.pair (.int .i64) (.pair (.int .i64) (.pair (.int .i64) (.sl (.st (.pair (.int .i64) (.pair (.int .i64) (.pair (.int .i64) (.int .i64))))))))))) (.pair (.sl (.st (.pair (.int .i64) (.pair (.int .i64) (.pair (.int .i64) (.sl (.st (.pair (.int .i64) (.pair (.int .i64) (.pair (.int .i64) (.int .i64))))))))))) (.sl (.st (.pair (.int .i64) (.pair (.int .i64) (.pair (.int .i64) (.sl (.st (.pair (.int .i64) (.pair (.int .i64) (.pair (.int .i64) (.int .i64)))))))))))))))⟩, ⟨4, [(2, .unit)], .undef⟩, ⟨5, [], .st (.pair .str (.pair (.ms 3) (.pair (.sl (.st (.pair (.int .i64) (.pair (.int .i64) (.pair (.int .i64) (.sl (.st (.pair (.int .i64) (.pair (.int .i64) (.pair (.int .i64) (.int .i64))))))))))) (.pair (.sl (.st (.pair (.int .i64) (.pair (.int .i64) (.pair (.int .i64) (.sl (.st (.pair (.int .i64) (.pair (.int .i64) (.pair (.int .i64) (.int .i64))))))))))) (.sl (.st (.pair (.int .i64) (.pair (.int .i64) (.pair (.int .i64) (.sl (.st (.pair (.int .i64) (.pair (.int .i64) (.pair (.int .i64) (.int .i64)))))))))))))))⟩, ⟨5, [(3, .unit)], .undef⟩]))))) (.op 7 (.eff true) (.op 6 (.eff true) (.op 8 (.eff false) (.op 9 (.eff false) (.leaf [⟨5, [], .st (.pair .str (.pair (.ms 2) (.pair (.sl (.st (.pair (.int .i64) (.pair (.int .i64) (.pair (.int .i64) (.sl (.st (.pair (.int .i64) (.pair (.int .i64) (.pair (.int .i64) (.int .i64))))))))))) (.pair (.sl (.st (.pair (.int .i64) (.pair (.int .i64) (.pair (.int .i64) (.sl (.st (.pair (.int .i64) (.pair (.int .i64) (.pair (.int .i64) (.int .i64))))))))))) (.sl (.st (.pair (.int .i64) (.pair (.int .i64) (.pair (.int .i64) (.sl (.st (.pair (.int .i64) (.pair (.int .i64) (.pair (.int .i64) (.int .i64)))))))))))))))⟩, ⟨5, [(2, .unit)], .undef⟩, ⟨4, [], .st (.pair .str (.pair (.ms 3) (.pair (.sl (.st (.pair (.int .i64) (.pair (.int .i64) (.pair (.int .i64) (.sl (.st (.pair (.int .i64) (.pair (.int .i64) (.pair (.int .i64) (.int .i64))))))))))) (.pair (.sl (.st (.pair (.int .i64) (.pair (.int .i64) (.pair (.int .i64) (.sl (.st (.pair (.int .i64) (.pair (.int .i64) (.pair (.int .i64) (.int .i64))))))))))) (.sl (.st (.pair (.int .i64) (.pair (.int .i64) (.pair (.int .i64) (.sl (.st (.pair (.int .i64) (.pair (.int .i64) (.pair (.int .i64) (.int .i64)))))))))))))))⟩, ⟨4, [(3, .unit)], .undef⟩])))))))) (.alt (.op 6 (.eff true) (.alt (.op 4 (.eff true) (.op 5 .weak (.op 7 (.eff true) (.op 8 (.eff false) (.op 9 (.eff false) (.leaf [⟨3, [], .st (.pair .str (.pair (.ms 2) (.pair (.sl (.st (.pair (.int .i64) (.pair (.int .i64) (.pair (.int .i64) (.sl (.st (.pair (.int .i64) (.pair (.int .i64) (.pair (.int .i64) (.int .i64))))))))))) (.pair (.sl (.st (.pair (.int .i64) (.pair (.int .i64) (.pair (.int .i64) (.sl (.st (.pair (.int .i64) (.pair (.int .i64) (.pair (.int .i64) (.int .i64))))))))))) (.sl (.st (.pair (.int .i64) (.pair (.int .i64) (.pair (.int .i64) (.sl (.st (.pair (.int .i64) (.pair (.int .i64) (.pair (.int .i64) (.int .i64)))))))))))))))⟩, ⟨3, [(2, .unit)], .undef⟩, ⟨5, [], .st (.pair .str (.pair (.ms 4) (.pair (.sl (.st (.pair (.int .i64) (.pair (.int .i64) (.pair (.int .i64) (.sl (.st (.pair (.int .i64) (.pair (.int .i64) (.pair (.int .i64) (.int .i64))))))))))) (.pair (.sl (.st (.pair (.int .i64) (.pair (.int .i64) (.pair (.int .i64) (.sl (.st (.pair (.int .i64) (.pair (.int .i64) (.pair (.int .i64) (.int .i64))))))))))) (.sl (.st (.pair (.int .i64) (.pair (.int .i64) (.pair (.int .i64) (.sl (.st (.pair (.int .i64) (.pair (.int .i64) (.pair (.int .i64) (.int .i64)))))))))))))))⟩, ⟨5, [(4, .unit)], .undef⟩])))))) (.op 7 (.eff true) (.alt (.op 4 (.eff true) (.op 5 .weak (.op 8 (.eff false) (.op 9 (.eff false) (.leaf [⟨3, [], .st (.pair .str (.pair (.ms 2) (.pair (.sl (.st (.pair (.int .i64) (.pair (.int .i64) (.pair (.int .i64) (.sl (.st (.pair (.int .i64) (.pair (.int .i64) (.pair (.int .i64) (.int .i64))))))))))) (.pair (.sl (.st (.pair (.int .i64) (.pair (.int .i64) (.pair (.int .i64) (.sl (.st (.pair (.int .i64) (.pair (.int .i64) (.pair (.int .i64) (.int .i64))))))))))) (.sl (.st (.pair (.int .i64) (.pair (.int .i64) (.pair (.int .i64) (.sl (.st (.pair (.int .i64) (.pair (.int .i64) (.pair (.int .i64) (.int .i64)))))))))))))))⟩, ⟨3, [(2, .unit)], .undef⟩, ⟨4, [], .st (.pair .str (.pair (.ms 5) (.pair (.sl (.st (.pair (.int .i64) (.pair (.int .i64) (.pair (.int .i64) (.sl (.st (.pair (.int .i64) (.pair (.int .i64) (.pair (.int .i64) (.int .i64))))))))))) (.pair (.sl (.st (.pair (.int .i64) (.pair (.int .i64) (.pair (.int .i64) (.sl (.st (.pair (.int .i64) (.pair (.int .i64) (.pair (.int .i64) (.int .i64))))))))))) (.sl (.st (.pair (.int .i64) (.pair (.int .i64) (.pair (.int .i64) (.sl (.st (.pair (.int .i64) (.pair (.int .i64) (.pair (.int .i64) (.int .i64)))))))))))))))⟩, ⟨4, [(5, .unit)], .undef⟩]))))) (.op 8 (.eff false) (.op 4 (.eff true) (.op 5 .strong (.op 9 (.eff false) (.leaf [⟨3, [], .st (.pair .str (.pair (.ms 2) (.pair (.sl (.st (.pair (.int .i64) (.pair (.int .i64) (.pair (.int .i64) (.sl (.st (.pair (.int .i64) (.pair (.int .i64) (.pair (.int .i64) (.int .i64))))))))))) (.pair (.sl (.st (.pair (.int .i64) (.pair (.int .i64) (.pair (.int .i64) (.sl (.st (.pair (.int .i64) (.pair (.int .i64) (.pair (.int .i64) (.int .i64))))))))))) (.sl (.st (.pair (.int .i64) (.pair (.int .i64) (.pair (.int .i64) (.sl (.st (.pair (.int .i64) (.pair (.int .i64) (.pair (.int .i64) (.int .i64)))))))))))))))⟩, ⟨3, [(2, .unit)], .undef⟩, ⟨4, [], .st (.pair .str (.pair (.ms 5) (.pair (.sl (.st (.pair (.int .i64) (.pair (.int .i64) (.pair (.int .i64) (.sl (.st (.pair (.int .i64) (.pair (.int .i64) (.pair (.int .i64) (.int .i64))))))))))) (.pair (.sl (.st (.pair (.int .i64) (.pair (.int .i64) (.pair (.int .i64) (.sl (.st (.pair (.int .i64) (.pair (.int .i64) (.pair (.int .i64) (.int .i64))))))))))) (.sl (.st (.pair (.int .i64) (.pair (.int .i64) (.pair (.int .i64) (.sl (.st (.pair (.int .i64) (.pair (.int .i64) (.pair (.int .i64) (.int .i64)))))))))))))))⟩, ⟨4, [(5, .unit)], .undef⟩]))))))))) (.op 7 (.eff true) (.alt (.op 4 (.eff true) (.op 5 .weak (.op 6 (.eff true) (.op 8 (.eff false) (.op 9 (.eff false) (.leaf [⟨5, [], .st (.pair .str (.pair (.ms 2) (.pair (.sl (.st (.pair (.int .i64) (.pair (.int .i64) (.pair (.int .i64) (.sl (.st (.pair (.int .i64) (.pair (.int .i64) (.pair (.int .i64) (.int .i64))))))))))) (.pair (.sl (.st (.pair (.int .i64) (.pair (.int .i64) (.pair (.int .i64) (.sl (.st (.pair (.int .i64) (.pair (.int .i64) (.pair (.int .i64) (.int .i64))))))))))) (.sl (.st (.pair (.int .i64) (.pair (.int .i64) (.pair (.int .i64) (.sl (.st (.pair (.int .i64) (.pair (.int .i64) (.pair (.int .i64) (.int .i64)))))))))))))))⟩, ⟨5, [(2, .unit)], .undef⟩, ⟨3, [], .st (.pair .str (.pair (.ms 4) (.pair (.sl (.st (.pair (.int .i64) (.pair (.int .i64) (.pair (.int .i64) (.sl (.st (.pair (.int .i64) (.pair (.int .i64) (.pair (.int .i64) (.int .i64))))))))))) (.pair (.sl (.st (.pair (.int .i64) (.pair (.int .i64) (.pair (.int .i64) (.sl (.st (.pair (.int .i64) (.pair (.int .i64) (.pair (.int .i64) (.int .i64))))))))))) (.sl (.st (.pair (.int .i64) (.pair (.int .i64) (.pair (.int .i64) (.sl (.st (.pair (.int .i64) (.pair (.int .i64) (.pair (.int .i64) (.int .i64)))))))))))))))⟩, ⟨3, [(4, .unit)], .undef⟩])))))) (.op 6 (.eff true) (.alt (.op 4 (.eff true) (.op 5 .weak (.op 8 (.eff false) (.op 9 (.eff false) (.leaf [⟨4, [], .st (.pair .str (.pair (.ms 2) (.pair (.sl (.st (.pair (.int .i64) (.pair (.int .i64) (.pair (.int .i64) (.sl (.st (.pair (.int .i64) (.pair (.int .i64) (.pair (.int .i64) (.int .i64))))))))))) (.pair (.sl (.st (.pair (.int .i64) (.pair (.int .i64) (.pair (.int .i64) (.sl (.st (.pair (.int .i64) (.pair (.int .i64) (.pair (.int .i64) (.int .i64))))))))))) (.sl (.st (.pair (.int .i64) (.pair (.int .i64) (.pair (.int .i64) (.sl (.st (.pair (.int .i64) (.pair (.int .i64) (.pair (.int .i64) (.int .i64)))))))))))))))⟩, ⟨4, [(2, .unit)], .undef⟩, ⟨3, [], .st (.pair .str (.pair (.ms 5) (.pair (.sl (.st (.pair (.int .i64) (.pair (.int .i64) (.pair (.int .i64) (.sl (.st (.pair (.int .i64) (.pair (.int .i64) (.pair (.int .i64) (.int .i64))))))))))) (.pair (.sl (.st (.pair (.int .i64) (.pair (.int .i64) (.pair (.int .i64) (.sl (.st (.pair (.int .i64) (.pair (.int .i64) (.pair (.int .i64) (.int .i64))))))))))) (.sl (.st (.pair (.int .i64) (.pair (.int .i64) (.pair (.int .i64) (.sl (.st (.pair (.int .i64) (.pair (.int .i64) (.pair (.int .i64) (.int .i64)))))))))))))))⟩, ⟨3, [(5, .unit)], .undef⟩]))))) (.op 8 (.eff false) (.op 4 (.eff true) (.op 5 .strong (.op 9 (.eff false) (.leaf [⟨4, [], .st (.pair .str (.pair (.ms 2) (.pair (.sl (.st (.pair (.int .i64) (.pair (.int .i64) (.pair (.int .i64) (.sl (.st (.pair (.int .i64) (.pair (.int .i64) (.pair (.int .i64) (.int .i64))))))))))) (.pair (.sl (.st (.pair (.int .i64) (.pair (.int .i64) (.pair (.int .i64) (.sl (.st (.pair (.int .i64) (.pair (.int .i64) (.pair (.int .i64) (.int .i64))))))))))) (.sl (.st (.pair (.int .i64) (.pair (.int .i64) (.pair (.int .i64) (.sl (.st (.pair (.int .i64) (.pair (.int .i64) (.pair (.int .i64) (.int .i64)))))))))))))))⟩, ⟨4, [(2, .unit)], .undef⟩, ⟨3, [], .st (.pair .str (.pair (.ms 5) (.pair (.sl (.st (.pair (.int .i64) (.pair (.int .i64) (.pair (.int .i64) (.sl (.st (.pair (.int .i64) (.pair (.int .i64) (.pair (.int .i64) (.int .i64))))))))))) (.pair (.sl (.st (.pair (.int .i64) (.pair (.int .i64) (.pair (.int .i64) (.sl (.st (.pair (.int .i64) (.pair (.int .i64) (.pair (.int .i64) (.int .i64))))))))))) (.sl (.st (.pair (.int .i64) (.pair (.int .i64) (.pair (.int .i64) (.sl (.st (.pair (.int .i64) (.pair (.int .i64) (.pair (.int .i64) (.int .i64)))))))))))))))⟩, ⟨3, [(5, .unit)], .undef⟩]))))))))))))) (.alt (.op 4 (.eff true) (.op 5 .weak (.alt (.op 1 (.eff true) (.op 2 .strong (.alt (.op 6 (.eff true) (.op 7 (.eff true) (.op 8 (.eff false) (.op 9 (.eff false) (.leaf [⟨4, [], .st (.pair .str (.pair (.ms 3) (.pair (.sl (.st (.pair (.int .i64) (.pair (.int .i64) (.pair (.int .i64) (.sl (.st (.pair (.int .i64) (.pair (.int .i64) (.pair (.int .i64) (.int .i64))))))))))) (.pair (.sl (.st (.pair (.int .i64) (.pair (.int .i64) (.pair (.int .i64) (.sl (.st (.pair (.int .i64) (.pair (.int .i64) (.pair (.int .i64) (.int .i64))))))))))) (.sl (.st (.pair (.int .i64) (.pair (.int .i64) (.pair (.int .i64) (.sl (.st (.pair (.int .i64) (.pair (.int .i64) (.pair (.int .i64) (.int .i64)))))))))))))))⟩, ⟨4, [(3, .unit)], .undef⟩, ⟨5, [], .st (.pair .str (.pair (.ms 2) (.pair (.sl (.st (.pair (.int .i64) (.pair (.int .i64) (.pair (.int .i64) (.sl (.st (.pair (.int .i64) (.pair (.int .i64) (.pair (.int .i64) (.int .i64))))))))))) (.pair (.sl (.st (.pair (.int .i64) (.pair (.int .i64) (.pair (.int .i64) (.sl (.st (.pair (.int .i64) (.pair (.int .i64) (.pair (.int .i64) (.int .i64))))))))))) (.sl (.st (.pair (.int .i64) (.pair (.int .i64) (.pair (.int .i64) (.sl (.st (.pair (.int .i64) (.pair (.int .i64) (.pair (.int .i64) (.int .i64)))))))))))))))⟩, ⟨5, [(2, .unit)], .undef⟩]))))) (.op 7 (.eff true) (.op 6 (.eff true) (.op 8 (.eff false) (.op 9 (.eff false) (.leaf [⟨5, [], .st (.pair .str (.pair (.ms 3) (.pair (.sl (.st (.pair (.int .i64) (.pair (.int .i64) (.pair (.int .i64) (.sl (.st (.pair (.int .i64) (.pair (.int .i64) (.pair (.int .i64) (.int .i64))))))))))) (.pair (.sl (.st (.pair (.int .i64) (.pair (.int .i64) (.pair (.int .i64) (.sl (.st (.pair (.int .i64) (.pair (.int .i64) (.pair (.int .i64) (.int .i64))))))))))) (.sl (.st (.pair (.int .i64) (.pair (.int .i64) (.pair (.int .i64) (.sl (.st (.pair (.int .i64) (.pair (.int .i64) (.pair (.int .i64) (.int .i64)))))))))))))))⟩, ⟨5, [(3, .unit)], .undef⟩, ⟨4, [], .st (.pair .str (.pair (.ms 2) (.pair (.sl (.st (.pair (.int .i64) (.pair (.int .i64) (.pair (.int .i64) (.sl (.st (.pair (.int .i64) (.pair (.int .i64) (.pair (.int .i64) (.int .i64))))))))))) (.pair (.sl (.st (.pair (.int .i64) (.pair (.int .i64) (.pair (.int .i64) (.sl (.st (.pair (.int .i64) (.pair (.int .i64) (.pair (.int .i64) (.int .i64))))))))))) (.sl (.st (.pair (.int .i64) (.pair (.int .i64) (.pair (.int .i64) (.sl (.st (.pair (.int .i64) (.pair (.int .i64) (.pair (.int .i64) (.int .i64)))))))))))))))⟩, ⟨4, [(2, .unit)], .undef⟩])))))))) (.alt (.op 6 (.eff true) (.alt (.op 1 (.eff true) (.op 2 .strong (.op 7 (.eff true) (.op 8 (.eff false) (.op 9 (.eff false) (.leaf [⟨3, [], .st (.pair .str (.pair (.ms 4) (.pair (.sl (.st (.pair (.int .i64) (.pair (.int .i64) (.pair (.int .i64) (.sl (.st (.pair (.int .i64) (.pair (.int .i64) (.pair (.int .i64) (.int .i64))))))))))) (.pair (.sl (.st (.pair (.int .i64) (.pair (.int .i64) (.pair (.int .i64) (.sl (.st (.pair (.int .i64) (.pair (.int .i64) (.pair (.int .i64) (.int .i64))))))))))) (.sl (.st (.pair (.int .i64) (.pair (.int .i64) (.pair (.int .i64) (.sl (.st (.pair (.int .i64) (.pair (.int .i64) (.pair (.int .i64) (.int .i64)))))))))))))))⟩, ⟨3, [(4, .unit)], .undef⟩, ⟨5, [], .st (.pair .str (.pair (.ms 2) (.pair (.sl (.st (.pair (.int .i64) (.pair (.int .i64) (.pair (.int .i64) (.sl (.st (.pair (.int .i64) (.pair (.int .i64) (.pair (.int .i64) (.int .i64))))))))))) (.pair (.sl (.st (.pair (.int .i64) (.pair (.int .i64) (.pair (.int .i64) (.sl (.st (.pair (.int .i64) (.pair (.int .i64) (.pair (.int .i64) (.int .i64))))))))))) (.sl (.st (.pair (.int .i64) (.pair (.int .i64) (.pair (.int .i64) (.sl (.st (.pair (.int .i64) (.pair (.int .i64) (.pair (.int .i64) (.int .i64)))))))))))))))⟩, ⟨5, [(2, .unit)], .undef⟩])))))) (.op 7 (.eff true) (.op 1 (.eff true) (.op 2 .strong (.op 8 (.eff false) (.op 9 (.eff false) (.leaf [⟨3, [], .st (.pair .str (.pair (.ms 5) (.pair (.sl (.st (.pair (.int .i64) (.pair (.int .i64) (.pair (.int .i64) (.sl (.st (.pair (.int .i64) (.pair (.int .i64) (.pair (.int .i64) (.int .i64))))))))))) (.pair (.sl (.st (.pair (.int .i64) (.pair (.int .i64) (.pair (.int .i64) (.sl (.st (.pair (.int .i64) (.pair (.int .i64) (.pair (.int .i64) (.int .i64))))))))))) (.sl (.st (.pair (.int .i64) (.pair (.int .i64) (.pair (.int .i64) (.sl (.st (.pair (.int .i64) (.pair (.int .i64) (.pair (.int .i64) (.int .i64)))))))))))))))⟩, ⟨3, [(5, .unit)], .undef⟩, ⟨4, [], .st (.pair .str (.pair (.ms 2) (.pair (.sl (.st (.pair (.int .i64) (.pair (.int .i64) (.pair (.int .i64) (.sl (.st (.pair (.int .i64) (.pair (.int .i64) (.pair (.int .i64) (.int .i64))))))))))) (.pair (.sl (.st (.pair (.int .i64) (.pair (.int .i64) (.pair (.int .i64) (.sl (.st (.pair (.int .i64) (.pair (.int .i64) (.pair (.int .i64) (.int .i64))))))))))) (.sl (.st (.pair (.int .i64) (.pair (.int .i64) (.pair (.int .i64) (.sl (.st (.pair (.int .i64) (.pair (.int .i64) (.pair (.int .i64) (.int .i64)))))))))))))))⟩, ⟨4, [(2, .unit)], .undef⟩])))))))) (.op 7 (.eff true) (.alt (.op 1 (.eff true) (.op 2 .strong (.op 6 (.eff true) (.op 8 (.eff false) (.op 9 (.eff false) (.leaf [⟨5, [], .st (.pair .str (.pair (.ms 4) (.pair (.sl (.st (.pair (.int .i64) (.pair (.int .i64) (.pair (.int .i64) (.sl (.st (.pair (.int .i64) (.pair (.int .i64) (.pair (.int .i64) (.int .i64))))))))))) (.pair (.sl (.st (.pair (.int .i64) (.pair (.int .i64) (.pair (.int .i64) (.sl (.st (.pair (.int .i64) (.pair (.int .i64) (.pair (.int .i64) (.int .i64))))))))))) (.sl (.st (.pair (.int .i64) (.pair (.int .i64) (.pair (.int .i64) (.sl (.st (.pair (.int .i64) (.pair (.int .i64) (.pair (.int .i64) (.int .i64)))))))))))))))⟩, ⟨5, [(4, .unit)], .undef⟩, ⟨3, [], .st (.pair .str (.pair (.ms 2) (.pair (.sl (.st (.pair (.int .i64) (.pair (.int .i64) (.pair (.int .i64) (.sl (.st (.pair (.int .i64) (.pair (.int .i64) (.pair (.int .i64) (.int .i64))))))))))) (.pair (.sl (.st (.pair (.int .i64) (.pair (.int .i64) (.pair (.int .i64) (.sl (.st (.pair (.int .i64) (.pair (.int .i64) (.pair (.int .i64) (.int .i64))))))))))) (.sl (.st (.pair (.int .i64) (.pair (.int .i64) (.pair (.int .i64) (.sl (.st (.pair (.int .i64) (.pair (.int .i64) (.pair (.int .i64) (.int .i64)))))))))))))))⟩, ⟨3, [(2, .unit)], .undef⟩])))))) (.op 6 (.eff true) (.op 1 (.eff true) (.op 2 .strong (.op 8 (.eff false) (.op 9 (.eff false) (.leaf [⟨4, [], .st (.pair .str (.pair (.ms 5) (.pair (.sl (.st (.pair (.int .i64) (.pair (.int .i64) (.pair (.int .i64) (.sl (.st (.pair (.int .i64) (.pair (.int .i64) (.pair (.int .i64) (.int .i64))))))))))) (.pair (.sl (.st (.pair (.int .i64) (.pair (.int .i64) (.pair (.int .i64) (.sl (.st (.pair (.int .i64) (.pair (.int .i64) (.pair (.int .i64) (.int .i64))))))))))) (.sl (.st (.pair (.int .i64) (.pair (.int .i64) (.pair (.int .i64) (.sl (.st (.pair (.int .i64) (.pair (.int .i64) (.pair (.int .i64) (.int .i64)))))))))))))))⟩, ⟨4, [(5, .unit)], .undef⟩, ⟨3, [], .st (.pair .str (.pair (.ms 2) (.pair (.sl (.st (.pair (.int .i64) (.pair (.int .i64) (.pair (.int .i64) (.sl (.st (.pair (.int .i64) (.pair (.int .i64) (.pair (.int .i64) (.int .i64))))))))))) (.pair (.sl (.st (.pair (.int .i64) (.pair (.int .i64) (.pair (.int .i64) (.sl (.st (.pair (.int .i64) (.pair (.int .i64) (.pair (.int .i64) (.int .i64))))))))))) (.sl (.st (.pair (.int .i64) (.pair (.int .i64) (.pair (.int .i64) (.sl (.st (.pair (.int .i64) (.pair (.int .i64) (.pair (.int .i64) (.int .i64)))))))))))))))⟩, ⟨3, [(2, .unit)], .undef⟩])))))))))))) (.alt (.op 6 (.eff true) (.alt (.op 1 (.eff true) (.op 2 .strong (.alt (.op 4 (.eff true) (.op 5 .weak (.op 7 (.eff true) (.op 8 (.eff false) (.op 9 (.eff false) (.leaf [⟨2, [], .st (.pair .str (.pair (.ms 3) (.pair (.sl (.st (.pair (.int .i64) (.pair (.int .i64) (.pair (.int .i64) (.sl (.st (.pair (.int .i64) (.pair (.int .i64) (.pair (.int .i64) (.int .i64))))))))))) (.pair (.sl (.st (.pair (.int .i64) (.pair (.int .i64) (.pair (.int .i64) (.sl (.st (.pair (.int .i64) (.pair (.int .i64) (.pair (.int .i64) (.int .i64))))))))))) (.sl (.st (.pair (.int .i64) (.pair (.int .i64) (.pair (.int .i64) (.sl (.st (.pair (.int .i64) (.pair (.int .i64) (.pair (.int .i64) (.int .i64)))))))))))))))⟩, ⟨2, [(3, .unit)], .undef⟩, ⟨5, [], .st (.pair .str (.pair (.ms 4) (.pair (.sl (.st (.pair (.int .i64) (.pair (.int .i64) (.pair (.int .i64) (.sl (.st (.pair (.int .i64) (.pair (.int .i64) (.pair (.int .i64) (.int .i64))))))))))) (.pair (.sl (.st (.pair (.int .i64) (.pair (.int .i64) (.pair (.int .i64) (.sl (.st (.pair (.int .i64) (.pair (.int .i64) (.pair (.int .i64) (.int .i64))))))))))) (.sl (.st (.pair (.int .i64) (.pair (.int .i64) (.pair (.int .i64) (.sl (.st (.pair (.int .i64) (.pair (.int .i64) (.pair (.int .i64) (.int .i64)))))))))))))))⟩, ⟨5, [(4, .unit)], .undef⟩])))))) (.op 7 (.eff true) (.alt (.op 4 (.eff true) (.op 5 .weak (.op 8 (.eff false) (.op 9 (.eff false) (.leaf [⟨2, [], .st (.pair .str (.pair (.ms 3) (.pair (.sl (.st (.pair (.int .i64) (.pair (.int .i64) (.pair (.int .i64) (.sl (.st (.pair (.int .i64) (.pair (.int .i64) (.pair (.int .i64) (.int .i64))))))))))) (.pair (.sl (.st (.pair (.int .i64) (.pair (.int .i64) (.pair (.int .i64) (.sl (.st (.pair (.int .i64) (.pair (.int .i64) (.pair (.int .i64) (.int .i64))))))))))) (.sl (.st (.pair (.int .i64) (.pair (.int .i64) (.pair (.int .i64) (.sl (.st (.pair (.int .i64) (.pair (.int .i64) (.pair (.int .i64) (.int .i64)))))))))))))))⟩, ⟨2, [(3, .unit)], .undef⟩, ⟨4, [], .st (.pair .str (.pair (.ms 5) (.pair (.sl (.st (.pair (.int .i64) (.pair (.int .i64) (.pair (.int .i64) (.sl (.st (.pair (.int .i64) (.pair (.int .i64) (.pair (.int .i64) (.int .i64))))))))))) (.pair (.sl (.st (.pair (.int .i64) (.pair (.int .i64) (.pair (.int .i64) (.sl (.st (.pair (.int .i64) (.pair (.int .i64) (.pair (.int .i64) (.int .i64))))))))))) (.sl (.st (.pair (.int .i64) (.pair (.int .i64) (.pair (.int .i64) (.sl (.st (.pair (.int .i64) (.pair (.int .i64) (.pair (.int .i64) (.int .i64)))))))))))))))⟩, ⟨4, [(5, .unit)], .undef⟩]))))) (.op 8 (.eff false) (.op 4 (.eff true) (.op 5 .strong (.op 9 (.eff false) (.leaf [⟨2, [], .st (.pair .str (.pair (.ms 3) (.pair (.sl (.st (.pair (.int .i64) (.pair (.int .i64) (.pair (.int .i64) (.sl (.st (.pair (.int .i64) (.pair (.int .i64) (.pair (.int .i64) (.int .i64))))))))))) (.pair (.sl (.st (.pair (.int .i64) (.pair (.int .i64) (.pair (.int .i64) (.sl (.st (.pair (.int .i64) (.pair (.int .i64) (.pair (.int .i64) (.int .i64))))))))))) (.sl (.st (.pair (.int .i64) (.pair (.int .i64) (.pair (.int .i64) (.sl (.st (.pair (.int .i64) (.pair (.int .i64) (.pair (.int .i64) (.int .i64)))))))))))))))⟩, ⟨2, [(3, .unit)], .undef⟩, ⟨4, [], .st (.pair .str (.pair (.ms 5) (.pair (.sl (.st (.pair (.int .i64) (.pair (.int .i64) (.pair (.int .i64) (.sl (.st (.pair (.int .i64) (.pair (.int .i64) (.pair (.int .i64) (.int .i64))))))))))) (.pair (.sl (.st (.pair (.int .i64) (.pair (.int .i64) (.pair (.int .i64) (.sl (.st (.pair (.int .i64) (.pair (.int .i64) (.pair (.int .i64) (.int .i64))))))))))) (.sl (.st (.pair (.int .i64) (.pair (.int .i64) (.pair (.int .i64) (.sl (.st (.pair (.int .i64) (.pair (.int .i64) (.pair (.int .i64) (.int .i64)))))))))))))))⟩, ⟨4, [(5, .unit)], .undef⟩])))))))))) (.alt (.op 4 (.eff true) (.op 5 .weak (.alt (.op 1 (.eff true) (.op 2 .strong (.op 7 (.eff true) (.op 8 (.eff false) (.op 9 (.eff false) (.leaf [⟨2, [], .st (.pair .str (.pair (.ms 4) (.pair (.sl (.st (.pair (.int .i64) (.pair (.int .i64) (.pair (.int .i64) (.sl (.st (.pair (.int .i64) (.pair (.int .i64) (.pair (.int .i64) (.int .i64))))))))))) (.pair (.sl (.st (.pair (.int .i64) (.pair (.int .i64) (.pair (.int .i64) (.sl (.st (.pair (.int .i64) (.pair (.int .i64) (.pair (.int .i64) (.int .i64))))))))))) (.sl (.st (.pair (.int .i64) (.pair (.int .i64) (.pair (.int .i64) (.sl (.st (.pair (.int .i64) (.pair (.int .i64) (.pair (.int .i64) (.int .i64)))))))))))))))⟩, ⟨2, [(4, .unit)], .undef⟩, ⟨5, [], .st (.pair .str (.pair (.ms 3) (.pair (.sl (.st (.pair (.int .i64) (.pair (.int .i64) (.pair (.int .i64) (.sl (.st (.pair (.int .i64) (.pair (.int .i64) (.pair (.int .i64) (.int .i64))))))))))) (.pair (.sl (.st (.pair (.int .i64) (.pair (.int .i64) (.pair (.int .i64) (.sl (.st (.pair (.int .i64) (.pair (.int .i64) (.pair (.int .i64) (.int .i64))))))))))) (.sl (.st (.pair (.int .i64) (.pair (.int .i64) (.pair (.int .i64) (.sl (.st (.pair (.int .i64) (.pair (.int .i64) (.pair (.int .i64) (.int .i64)))))))))))))))⟩, ⟨5, [(3, .unit)], .undef⟩])))))) (.op 7 (.eff true) (.op 1 (.eff true) (.op 2 .strong (.op 8 (.eff false) (.op 9 (.eff false) (.leaf [⟨2, [], .st (.pair .str (.pair (.ms 5) (.pair (.sl (.st (.pair (.int .i64) (.pair (.int .i64) (.pair (.int .i64) (.sl (.st (.pair (.int .i64) (.pair (.int .i64) (.pair (.int .i64) (.int .i64))))))))))) (.pair (.sl (.st (.pair (.int .i64) (.pair (.int .i64) (.pair (.int .i64) (.sl (.st (.pair (.int .i64) (.pair (.int .i64) (.pair (.int .i64) (.int .i64))))))))))) (.sl (.st (.pair (.int .i64) (.pair (.int .i64) (.pair (.int .i64) (.sl (.st (.pair (.int .i64) (.pair (.int .i64) (.pair (.int .i64) (.int .i64)))))))))))))))⟩, ⟨2, [(5, .unit)], .undef⟩, ⟨4, [], .st (.pair .str (.pair (.ms 3) (.pair (.sl (.st (.pair (.int .i64) (.pair (.int .i64) (.pair (.int .i64) (.sl (.st (.pair (.int .i64) (.pair (.int .i64) (.pair (.int .i64) (.int .i64))))))))))) (.pair (.sl (.st (.pair (.int .i64) (.pair (.int .i64) (.pair (.int .i64) (.sl (.st (.pair (.int .i64) (.pair (.int .i64) (.pair (.int .i64) (.int .i64))))))))))) (.sl (.st (.pair (.int .i64) (.pair (.int .i64) (.pair (.int .i64) (.sl (.st (.pair (.int .i64) (.pair (.int .i64) (.pair (.int .i64) (.int .i64)))))))))))))))⟩, ⟨4, [(3, .unit)], .undef⟩]))))))))) (.op 7 (.eff true) (.alt (.op 1 (.eff true) (.op 2 .strong (.alt (.op 4 (.eff true) (.op 5 .weak (.op 8 (.eff false) (.op 9 (.eff false) (.leaf [⟨2, [], .st (.pair .str (.pair (.ms 4) (.pair (.sl (.st (.pair (.int .i64) (.pair (.int .i64) (.pair (.int .i64) (.sl (.st (.pair (.int .i64) (.pair (.int .i64) (.pair (.int .i64) (.int .i64))))))))))) (.pair (.sl (.st (.pair (.int .i64) (.pair (.int .i64) (.pair (.int .i64) (.sl (.st (.pair (.int .i64) (.pair (.int .i64) (.pair (.int .i64) (.int .i64))))))))))) (.sl (.st (.pair (.int .i64) (.pair (.int .i64) (.pair (.int .i64) (.sl (.st (.pair (.int .i64) (.pair (.int .i64) (.pair (.int .i64) (.int .i64)))))))))))))))⟩, ⟨2, [(4, .unit)], .undef⟩, ⟨3, [], .st (.pair .str (.pair (.ms 5) (.pair (.sl (.st (.pair (.int .i64) (.pair (.int .i64) (.pair (.int .i64) (.sl (.st (.pair (.int .i64) (.pair (.int .i64) (.pair (.int .i64) (.int .i64))))))))))) (.pair (.sl (.st (.pair (.int .i64) (.pair (.int .i64) (.pair (.int .i64) (.sl (.st (.pair (.int .i64) (.pair (.int .i64) (.pair (.int .i64) (.int .i64))))))))))) (.sl (.st (.pair (.int .i64) (.pair (.int .i64) (.pair (.int .i64) (.sl (.st (.pair (.int .i64) (.pair (.int .i64) (.pair (.int .i64) (.int .i64)))))))))))))))⟩, ⟨3, [(5, .unit)], .undef⟩]))))) (.op 8 (.eff false) (.op 4 (.eff true) (.op 5 .strong (.op 9 (.eff false) (.leaf [⟨2, [], .st (.pair .str (.pair (.ms 4) (.pair (.sl (.st (.pair (.int .i64) (.pair (.int .i64) (.pair (.int .i64) (.sl (.st (.pair (.int .i64) (.pair (.int .i64) (.pair (.int .i64) (.int .i64))))))))))) (.pair (.sl (.st (.pair (.int .i64) (.pair (.int .i64) (.pair (.int .i64) (.sl (.st (.pair (.int .i64) (.pair (.int .i64) (.pair (.int .i64) (.int .i64))))))))))) (.sl (.st (.pair (.int .i64) (.pair (.int .i64) (.pair (.int .i64) (.sl (.st (.pair (.int .i64) (.pair (.int .i64) (.pair (.int .i64) (.int .i64)))))))))))))))⟩, ⟨2, [(4, .unit)], .undef⟩, ⟨3, [], .st (.pair .str (.pair (.ms 5) (.pair (.sl (.st (.pair (.int .i64) (.pair (.int .i64) (.pair (.int .i64) (.sl (.st (.pair (.int .i64) (.pair (.int .i64) (.pair (.int .i64) (.int .i64))))))))))) (.pair (.sl (.st (.pair (.int .i64) (.pair (.int .i64) (.pair (.int .i64) (.sl (.st (.pair (.int .i64) (.pair (.int .i64) (.pair (.int .i64) (.int .i64))))))))))) (.sl (.st (.pair (.int .i64) (.pair (.int .i64) (.pair (.int .i64) (.sl (.st (.pair (.int .i64) (.pair (.int .i64) (.pair (.int .i64) (.int .i64)))))))))))))))⟩, ⟨3, [(5, .unit)], .undef⟩])))))))) (.op 4 (.eff true) (.op 5 .weak (.op 1 (.eff true) (.op 2 .strong (.op 8 (.eff false) (.op 9 (.eff false) (.leaf [⟨2, [], .st (.pair .str (.pair (.ms 5) (.pair (.sl (.st (.pair (.int .i64) (.pair (.int .i64) (.pair (.int .i64) (.sl (.st (.pair (.int .i64) (.pair (.int .i64) (.pair (.int .i64) (.int .i64))))))))))) (.pair (.sl (.st (.pair (.int .i64) (.pair (.int .i64) (.pair (.int .i64) (.sl (.st (.pair (.int .i64) (.pair (.int .i64) (.pair (.int .i64) (.int .i64))))))))))) (.sl (.st (.pair (.int .i64) (.pair (.int .i64) (.pair (.int .i64) (.sl (.st (.pair (.int .i64) (.pair (.int .i64) (.pair (.int .i64) (.int .i64)))))))))))))))⟩, ⟨2, [(5, .unit)], .undef⟩, ⟨3, [], .st (.pair .str (.pair (.ms 4) (.pair (.sl (.st (.pair (.int .i64) (.pair (.int .i64) (.pair (.int .i64) (.sl (.st (.pair (.int .i64) (.pair (.int .i64) (.pair (.int .i64) (.int .i64))))))))))) (.pair (.sl (.st (.pair (.int .i64) (.pair (.int .i64) (.pair (.int .i64) (.sl (.st (.pair (.int .i64) (.pair (.int .i64) (.pair (.int .i64) (.int .i64))))))))))) (.sl (.st (.pair (.int .i64) (.pair (.int .i64) (.pair (.int .i64) (.sl (.st (.pair (.int .i64) (.pair (.int .i64) (.pair (.int .i64) (.int .i64)))))))))))))))⟩, ⟨3, [(4, .unit)], .undef⟩])))))))))))) (.op 7 (.eff true) (.alt (.op 1 (.eff true) (.op 2 .strong (.alt (.op 4 (.eff true) (.op 5 .weak (.op 6 (.eff true) (.op 8 (.eff false) (.op 9 (.eff false) (.leaf [⟨5, [], .st (.pair .str (.pair (.ms 3) (.pair (.sl (.st (.pair (.int .i64) (.pair (.int .i64) (.pair (.int .i64) (.sl (.st (.pair (.int .i64) (.pair (.int .i64) (.pair (.int .i64) (.int .i64))))))))))) (.pair (.sl (.st (.pair (.int .i64) (.pair (.int .i64) (.pair (.int .i64) (.sl (.st (.pair (.int .i64) (.pair (.int .i64) (.pair (.int .i64) (.int .i64))))))))))) (.sl (.st (.pair (.int .i64) (.pair (.int .i64) (.pair (.int .i64) (.sl (.st (.pair (.int .i64) (.pair (.int .i64) (.pair (.int .i64) (.int .i64)))))))))))))))⟩, ⟨5, [(3, .unit)], .undef⟩, ⟨2, [], .st (.pair .str (.pair (.ms 4) (.pair (.sl (.st (.pair (.int .i64) (.pair (.int .i64) (.pair (.int .i64) (.sl (.st (.pair (.int .i64) (.pair (.int .i64) (.pair (.int .i64) (.int .i64))))))))))) (.pair (.sl (.st (.pair (.int .i64) (.pair (.int .i64) (.pair (.int .i64) (.sl (.st (.pair (.int .i64) (.pair (.int .i64) (.pair (.int .i64) (.int .i64))))))))))) (.sl (.st (.pair (.int .i64) (.pair (.int .i64) (.pair (.int .i64) (.sl (.st (.pair (.int .i64) (.pair (.int .i64) (.pair (.int .i64) (.int .i64)))))))))))))))⟩, ⟨2, [(4, .unit)], .undef⟩])))))) (.op 6 (.eff true) (.alt (.op 4 (.eff true) (.op 5 .weak (.op 8 (.eff false) (.op 9 (.eff false) (.leaf [⟨4, [], .st (.pair .str (.pair (.ms 3) (.pair (.sl (.st (.pair (.int .i64) (.pair (.int .i64) (.pair (.int .i64) (.sl (.st (.pair (.int .i64) (.pair (.int .i64) (.pair (.int .i64) (.int .i64))))))))))) (.pair (.sl (.st (.pair (.int .i64) (.pair (.int .i64) (.pair (.int .i64) (.sl (.st (.pair (.int .i64) (.pair (.int .i64) (.pair (.int .i64) (.int .i64))))))))))) (.sl (.st (.pair (.int .i64) (.pair (.int .i64) (.pair (.int .i64) (.sl (.st (.pair (.int .i64) (.pair (.int .i64) (.pair (.int .i64) (.int .i64)))))))))))))))⟩, ⟨4, [(3, .unit)], .undef⟩, ⟨2, [], .st (.pair .str (.pair (.ms 5) (.pair (.sl (.st (.pair (.int .i64) (.pair (.int .i64) (.pair (.int .i64) (.sl (.st (.pair (.int .i64) (.pair (.int .i64) (.pair (.int .i64) (.int .i64))))))))))) (.pair (.sl (.st (.pair (.int .i64) (.pair (.int .i64) (.pair (.int .i64) (.sl (.st (.pair (.int .i64) (.pair (.int .i64) (.pair (.int .i64) (.int .i64))))))))))) (.sl (.st (.pair (.int .i64) (.pair (.int .i64) (.pair (.int .i64) (.sl (.st (.pair (.int .i64) (.pair (.int .i64) (.pair (.int .i64) (.int .i64)))))))))))))))⟩, ⟨2, [(5, .unit)], .undef⟩]))))) (.op 8 (.eff false) (.op 4 (.eff true) (.op 5 .strong (.op 9 (.eff false) (.leaf [⟨4, [], .st (.pair .str (.pair (.ms 3) (.pair (.sl (.st (.pair (.int .i64) (.pair (.int .i64) (.pair (.int .i64) (.sl (.st (.pair (.int .i64) (.pair (.int .i64) (.pair (.int .i64) (.int .i64))))))))))) (.pair (.sl (.st (.pair (.int .i64) (.pair (.int .i64) (.pair (.int .i64) (.sl (.st (.pair (.int .i64) (.pair (.int .i64) (.pair (.int .i64) (.int .i64))))))))))) (.sl (.st (.pair (.int .i64) (.pair (.int .i64) (.pair (.int .i64) (.sl (.st (.pair (.int .i64) (.pair (.int .i64) (.pair (.int .i64) (.int .i64)))))))))))))))⟩, ⟨4, [(3, .unit)], .undef⟩, ⟨2, [], .st (.pair .str (.pair (.ms 5) (.pair (.sl (.st (.pair (.int .i64) (.pair (.int .i64) (.pair (.int .i64) (.sl (.st (.pair (.int .i64) (.pair (.int .i64) (.pair (.int .i64) (.int .i64))))))))))) (.pair (.sl (.st (.pair (.int .i64) (.pair (.int .i64) (.pair (.int .i64) (.sl (.st (.pair (.int .i64) (.pair (.int .i64) (.pair (.int .i64) (.int .i64))))))))))) (.sl (.st (.pair (.int .i64) (.pair (.int .i64) (.pair (.int .i64) (.sl (.st (.pair (.int .i64) (.pair (.int .i64) (.pair (.int .i64) (.int .i64)))))))))))))))⟩, ⟨2, [(5, .unit)], .undef⟩])))))))))) (.alt (.op 4 (.eff true) (.op 5 .weak (.alt (.op 1 (.eff true) (.op 2 .strong (.op 6 (.eff true) (.op 8 (.eff false) (.op 9 (.eff false) (.leaf [⟨5, [], .st (.pair .str (.pair (.ms 4) (.pair (.sl (.st (.pair (.int .i64) (.pair (.int .i64) (.pair (.int .i64) (.sl (.st (.pair (.int .i64) (.pair (.int .i64) (.pair (.int .i64) (.int .i64))))))))))) (.pair (.sl (.st (.pair (.int .i64) (.pair (.int .i64) (.pair (.int .i64) (.sl (.st (.pair (.int .i64) (.pair (.int .i64) (.pair (.int .i64) (.int .i64))))))))))) (.sl (.st (.pair (.int .i64) (.pair (.int .i64) (.pair (.int .i64) (.sl (.st (.pair (.int .i64) (.pair (.int .i64) (.pair (.int .i64) (.int .i64)))))))))))))))⟩, ⟨5, [(4, .unit)], .undef⟩, ⟨2, [], .st (.pair .str (.pair (.ms 3) (.pair (.sl (.st (.pair (.int .i64) (.pair (.int .i64) (.pair (.int .i64) (.sl (.st (.pair (.int .i64) (.pair (.int .i64) (.pair (.int .i64) (.int .i64))))))))))) (.pair (.sl (.st (.pair (.int .i64) (.pair (.int .i64) (.pair (.int .i64) (.sl (.st (.pair (.int .i64) (.pair (.int .i64) (.pair (.int .i64) (.int .i64))))))))))) (.sl (.st (.pair (.int .i64) (.pair (.int .i64) (.pair (.int .i64) (.sl (.st (.pair (.int .i64) (.pair (.int .i64) (.pair (.int .i64) (.int .i64)))))))))))))))⟩, ⟨2, [(3, .unit)], .undef⟩])))))) (.op 6 (.eff true) (.op 1 (.eff true) (.op 2 .strong (.op 8 (.eff false) (.op 9 (.eff false) (.leaf [⟨4, [], .st (.pair .str (.pair (.ms 5) (.pair (.sl (.st (.pair (.int .i64) (.pair (.int .i64) (.pair (.int .i64) (.sl (.st (.pair (.int .i64) (.pair (.int .i64) (.pair (.int .i64) (.int .i64))))))))))) (.pair (.sl (.st (.pair (.int .i64) (.pair (.int .i64) (.pair (.int .i64) (.sl (.st (.pair (.int .i64) (.pair (.int .i64) (.pair (.int .i64) (.int .i64))))))))))) (.sl (.st (.pair (.int .i64) (.pair (.int .i64) (.pair (.int .i64) (.sl (.st (.pair (.int .i64) (.pair (.int .i64) (.pair (.int .i64) (.int .i64)))))))))))))))⟩, ⟨4, [(5, .unit)], .undef⟩, ⟨2, [], .st (.pair .str (.pair (.ms 3) (.pair (.sl (.st (.pair (.int .i64) (.pair (.int .i64) (.pair (.int .i64) (.sl (.st (.pair (.int .i64) (.pair (.int .i64) (.pair (.int .i64) (.int .i64))))))))))) (.pair (.sl (.st (.pair (.int .i64) (.pair (.int .i64) (.pair (.int .i64) (.sl (.st (.pair (.int .i64) (.pair (.int .i64) (.pair (.int .i64) (.int .i64))))))))))) (.sl (.st (.pair (.int .i64) (.pair (.int .i64) (.pair (.int .i64) (.sl (.st (.pair (.int .i64) (.pair (.int .i64) (.pair (.int .i64) (.int .i64)))))))))))))))⟩, ⟨2, [(3, .unit)], .undef⟩]))))))))) (.op 6 (.eff true) (.alt (.op 1 (.eff true) (.op 2 .strong (.alt (.op 4 (.eff true) (.op 5 .weak (.op 8 (.eff false) (.op 9 (.eff false) (.leaf [⟨3, [], .st (.pair .str (.pair (.ms 4) (.pair (.sl (.st (.pair (.int .i64) (.pair (.int .i64) (.pair (.int .i64) (.sl (.st (.pair (.int .i64) (.pair (.int .i64) (.pair (.int .i64) (.int .i64))))))))))) (.pair (.sl (.st (.pair (.int .i64) (.pair (.int .i64) (.pair (.int .i64) (.sl (.st (.pair (.int .i64) (.pair (.int .i64) (.pair (.int .i64) (.int .i64))))))))))) (.sl (.st (.pair (.int .i64) (.pair (.int .i64) (.pair (.int .i64) (.sl (.st (.pair (.int .i64) (.pair (.int .i64) (.pair (.int .i64) (.int .i64)))))))))))))))⟩, ⟨3, [(4, .unit)], .undef⟩, ⟨2, [], .st (.pair .str (.pair (.ms 5) (.pair (.sl (.st (.pair (.int .i64) (.pair (.int .i64) (.pair (.int .i64) (.sl (.st (.pair (.int .i64) (.pair (.int .i64) (.pair (.int .i64) (.int .i64))))))))))) (.pair (.sl (.st (.pair (.int .i64) (.pair (.int .i64) (.pair (.int .i64) (.sl (.st (.pair (.int .i64) (.pair (.int .i64) (.pair (.int .i64) (.int .i64))))))))))) (.sl (.st (.pair (.int .i64) (.pair (.int .i64) (.pair (.int .i64) (.sl (.st (.pair (.int .i64) (.pair (.int .i64) (.pair (.int .i64) (.int .i64)))))))))))))))⟩, ⟨2, [(5, .unit)], .undef⟩]))))) (.op 8 (.eff false) (.op 4 (.eff true) (.op 5 .strong (.op 9 (.eff false) (.leaf [⟨3, [], .st (.pair .str (.pair (.ms 4) (.pair (.sl (.st (.pair (.int .i64) (.pair (.int .i64) (.pair (.int .i64) (.sl (.st (.pair (.int .i64) (.pair (.int .i64) (.pair (.int .i64) (.int .i64))))))))))) (.pair (.sl (.st (.pair (.int .i64) (.pair (.int .i64) (.pair (.int .i64) (.sl (.st (.pair (.int .i64) (.pair (.int .i64) (.pair (.int .i64) (.int .i64))))))))))) (.sl (.st (.pair (.int .i64) (.pair (.int .i64) (.pair (.int .i64) (.sl (.st (.pair (.int .i64) (.pair (.int .i64) (.pair (.int .i64) (.int .i64)))))))))))))))⟩, ⟨3, [(4, .unit)], .undef⟩, ⟨2, [], .st (.pair .str (.pair (.ms 5) (.pair (.sl (.st (.pair (.int .i64) (.pair (.int .i64) (.pair (.int .i64) (.sl (.st (.pair (.int .i64) (.pair (.int .i64) (.pair (.int .i64) (.int .i64))))))))))) (.pair (.sl (.st (.pair (.int .i64) (.pair (.int .i64) (.pair (.int .i64) (.sl (.st (.pair (.int .i64) (.pair (.int .i64) (.pair (.int .i64) (.int .i64))))))))))) (.sl (.st (.pair (.int .i64) (.pair (.int .i64) (.pair (.int .i64) (.sl (.st (.pair (.int .i64) (.pair (.int .i64) (.pair (.int .i64) (.int .i64)))))))))))))))⟩, ⟨2, [(5, .unit)], .undef⟩])))))))) (.op 4 (.eff true) (.op 5 .weak (.op 1 (.eff true) (.op 2 .strong (.op 8 (.eff false) (.op 9 (.eff false) (.leaf [⟨3, [], .st (.pair .str (.pair (.ms 5) (.pair (.sl (.st (.pair (.int .i64) (.pair (.int .i64) (.pair (.int .i64) (.sl (.st (.pair (.int .i64) (.pair (.int .i64) (.pair (.int .i64) (.int .i64))))))))))) (.pair (.sl (.st (.pair (.int .i64) (.pair (.int .i64) (.pair (.int .i64) (.sl (.st (.pair (.int .i64) (.pair (.int .i64) (.pair (.int .i64) (.int .i64))))))))))) (.sl (.st (.pair (.int .i64) (.pair (.int .i64) (.pair (.int .i64) (.sl (.st (.pair (.int .i64) (.pair (.int .i64) (.pair (.int .i64) (.int .i64)))))))))))))))⟩, ⟨3, [(5, .unit)], .undef⟩, ⟨2, [], .st (.pair .str (.pair (.ms 4) (.pair (.sl (.st (.pair (.int .i64) (.pair (.int .i64) (.pair (.int .i64) (.sl (.st (.pair (.int .i64) (.pair (.int .i64) (.pair (.int .i64) (.int .i64))))))))))) (.pair (.sl (.st (.pair (.int .i64) (.pair (.int .i64) (.pair (.int .i64) (.sl (.st (.pair (.int .i64) (.pair (.int .i64) (.pair (.int .i64) (.int .i64))))))))))) (.sl (.st (.pair (.int .i64) (.pair (.int .i64) (.pair (.int .i64) (.sl (.st (.pair (.int .i64) (.pair (.int .i64) (.pair (.int .i64) (.int .i64)))))))))))))))⟩, ⟨2, [(4, .unit)], .undef⟩]))))))))))))))))), ⟨[(2, .fp (.st (.pair .str (.pair (.sl (.st (.pair (.int .i64) (.pair .str (.pair (.int .i64) (.sl (.st (.pair (.int .i64) (.pair (.int .i64) (.pair (.int .i64) (.sl (.st (.pair (.int .i64) (.pair (.int .i64) (.pair (.int .i64) (.int .i64)))))))))))))))) (.pair (.sl (.st (.pair (.int .i64) (.pair (.int .i64) (.pair (.int .i64) (.sl (.st (.pair (.int .i64) (.pair (.int .i64) (.pair (.int .i64) (.int .i64))))))))))) (.pair (.sl (.st (.pair (.int .i64) (.pair (.int .i64) (.pair (.int .i64) (.sl (.st (.pair (.int .i64) (.pair (.int .i64) (.pair (.int .i64) (.int .i64))))))))))) (.sl (.st (.pair (.int .i64) (.pair (.int .i64) (.pair (.int .i64) (.sl (.st (.pair (.int .i64) (.pair (.int .i64) (.pair (.int .i64) (.int .i64))))))))))))))))), (3, .fp (.st (.pair .str (.pair (.sl (.st (.pair (.int .i64) (.pair .str (.pair (.int .i64) (.sl (.st (.pair (.int .i64) (.pair (.int .i64) (.pair (.int .i64) (.sl (.st (.pair (.int .i64) (.pair (.int .i64) (.pair (.int .i64) (.int .i64)))))))))))))))) (.pair (.sl (.st (.pair (.int .i64) (.pair (.int .i64) (.pair (.int .i64) (.sl (.st (.pair (.int .i64) (.pair (.int .i64) (.pair (.int .i64) (.int .i64))))))))))) (.pair (.sl (.st (.pair (.int .i64) (.pair (.int .i64) (.pair (.int .i64) (.sl (.st (.pair (.int .i64) (.pair (.int .i64) (.pair (.int .i64) (.int .i64))))))))))) (.sl (.st (.pair (.int .i64) (.pair (.int .i64) (.pair (.int .i64) (.sl (.st (.pair (.int .i64) (.pair (.int .i64) (.pair (.int .i64) (.int .i64))))))))))))))))), (5, .fp (.st (.pair (.sl (.int .u8)) (.arr 9 (.int .i64))))), (14, .fp (.st (.pair .str (.pair (.sl (.st (.pair (.int .i64) (.pair .str (.pair (.int .i64) (.sl (.st (.pair (.int .i64) (.pair (.int .i64) (.pair (.int .i64) (.sl (.st (.pair (.int .i64) (.pair (.int .i64) (.pair (.int .i64) (.int .i64)))))))))))))))) (.pair (.sl (.st (.pair (.int .i64) (.pair (.int .i64) (.pair (.int .i64) (.sl (.st (.pair (.int .i64) (.pair (.int .i64) (.pair (.int .i64) (.int .i64))))))))))) (.pair (.sl (.st (.pair (.int .i64) (.pair (.int .i64) (.pair (.int .i64) (.sl (.st (.pair (.int .i64) (.pair (.int .i64) (.pair (.int .i64) (.int .i64))))))))))) (.sl (.st (.pair (.int .i64) (.pair (.int .i64) (.pair (.int .i64) (.sl (.st (.pair (.int .i64) (.pair (.int .i64) (.pair (.int .i64) (.int .i64))))))))))))))))), (15, .fp (.st (.pair .str (.pair (.sl (.st (.pair (.int .i64) (.pair .str (.pair (.int .i64) (.sl (.st (.pair (.int .i64) (.pair (.int .i64) (.pair (.int .i64) (.sl (.st (.pair (.int .i64) (.pair (.int .i64) (.pair (.int .i64) (.int .i64)))))))))))))))) (.pair (.sl (.st (.pair (.int .i64) (.pair (.int .i64) (.pair (.int .i64) (.sl (.st (.pair (.int .i64) (.pair (.int .i64) (.pair (.int .i64) (.int .i64))))))))))) (.pair (.sl (.st (.pair (.int .i64) (.pair (.int .i64) (.pair (.int .i64) (.sl (.st (.pair (.int .i64) (.pair (.int .i64) (.pair (.int .i64) (.int .i64))))))))))) (.sl (.st (.pair (.int .i64) (.pair (.int .i64) (.pair (.int .i64) (.sl (.st (.pair (.int .i64) (.pair (.int .i64) (.pair (.int .i64) (.int .i64)))))))))))))))))], [], 0, [], 4648579506574807056384⟩))] }
def GenFinds3.S : Sig := { f := 3, params := [.st (.pair .str (.pair (.sl (.st (.pair (.int .i64) (.pair .str (.pair (.int .i64) (.sl (.st (.pair (.int .i64) (.pair (.int .i64) (.pair (.int .i64) (.sl (.st (.pair (.int .i64) (.pair (.int .i64) (.pair (.int .i64) (.int .i64)))))))))))))))) (.pair (.sl (.st (.pair (.int .i64) (.pair (.int .i64) (.pair (.int .i64) (.sl (.st (.pair (.int .i64) (.pair (.int .i64) (.pair (.int .i64) (.int .i64))))))))))) (.pair (.sl (.st (.pair (.int .i64) (.pair (.int .i64) (.pair (.int .i64) (.sl (.st (.pair (.int .i64) (.pair (.int .i64) (.pair (.int .i64) (.int .i64))))))))))) (.sl (.st (.pair (.int .i64) (.pair (.int .i64) (.pair (.int .i64) (.sl (.st (.pair (.int .i64) (.pair (.int .i64) (.pair (.int .i64) (.int .i64))))))))))))))), .st (.pair .str (.pair (.sl (.st (.pair (.int .i64) (.pair .str (.pair (.int .i64) (.sl (.st (.pair (.int .i64) (.pair (.int .i64) (.pair (.int .i64) (.sl (.st (.pair (.int .i64) (.pair (.int .i64) (.pair (.int .i64) (.int .i64)))))))))))))))) (.pair (.sl (.st (.pair (.int .i64) (.pair (.int .i64) (.pair (.int .i64) (.sl (.st (.pair (.int .i64) (.pair (.int .i64) (.pair (.int .i64) (.int .i64))))))))))) (.pair (.sl (.st (.pair (.int .i64) (.pair (.int .i64) (.pair (.int .i64) (.sl (.st (.pair (.int .i64) (.pair (.int .i64) (.pair (.int .i64) (.int .i64))))))))))) (.sl (.st (.pair (.int .i64) (.pair (.int .i64) (.pair (.int .i64) (.sl (.st (.pair (.int .i64) (.pair (.int .i64) (.pair (.int .i64) (.int .i64)))))))))))))))], objs := [], res := .bool, outs := [], fix := [], run := fun k ds os => GenFinds3 k ds.1 ds.2 }
def GenFinds3.G : List Sig := [Check8.S, Concat13.S, Equal15.S, Find11.S, Find7.S, Same12.S, Tested16.S, TestsOf14.S, generated9.S, sameTest10.S]
theorem GenFinds3.eq (k : Nat) : ∀ ds os, GenFinds3.S.run k ds os = runF ⟨types, GenFinds3.G, GenFinds3.A, k, 0, []⟩ Tryz.f3 (codeOf Tryz.f3) GenFinds3.S.params GenFinds3.S.objs GenFinds3.S.res GenFinds3.S.outs ds os := by
  intro ds os; kernel_rfl
theorem GenFinds3.dr : DrOk Tryz.prog GenFinds3.A (codeOf Tryz.f3) := ⟨by kernel_rfl, by kernel_rfl⟩
theorem GenFinds3.ok (k : Nat) : SoundAt Tryz.prog k GenFinds3.S :=
  runF_sound (X := ⟨types, GenFinds3.G, GenFinds3.A, k, 0, []⟩) types_ok (mem_all (⟨Check8.ok k, ⟨Concat13.ok k, ⟨Equal15.ok k, ⟨Find11.ok k, ⟨Find7.ok k, ⟨Same12.ok k, ⟨Tested16.ok k, ⟨TestsOf14.ok k, ⟨generated9.ok k, ⟨sameTest10.ok k, trivial⟩⟩⟩⟩⟩⟩⟩⟩⟩⟩)) (fn := Tryz.f3) (c := codeOf Tryz.f3) rfl (by kernel_rfl) rfl rfl GenFinds3.dr (GenFinds3.eq k)
end Go.Proofs.YtcppmlgnceldmaaGreat.Gf
