/- Merged texts of one claim: a Go law, its functions without memory, and the plain law. The law returns true for every input; conditions: as the row says. -/
import Derived.Test.YtjbdhaenakcclaaRows
import Derived.ChangeArms
import Derived.OpenShut
import Derived.SizedLaws
import Derived.Deep.Slices
import Derived.Below
import Derived.WalkKit
import Derived.ProofKit
import Derived.ShutString
import Derived.ChangeOld
import Derived.Test.YtjbdhaenakcclaaCEc0
import Derived.Test.YtjbdhaenakcclaaCEc1
import Derived.Test.YtjbdhaenakcclaaCEc2
/- Go functions as plain Lean functions, and their contracts. -/
set_option linter.unusedVariables false
set_option maxRecDepth 100000
noncomputable section
namespace Go.Proofs.Ytjbdhaenakcclaa.Ec
open Go Go.Proofs.Ytjbdhaenakcclaa.Gp
def Accept38.l0 (k : Nat) (l : (List (List Int))) : ((Int × ((List (Int × (Int × (Int × (Int × Int))))) × ((List Int) × ((List Int) × (List Int))))) × ((Int × (Int × (List (List (Int × Int))))) × (Unit × (Int × (List ((List Int) × Bool)))))) → Option (((Int × ((List (Int × (Int × (Int × (Int × Int))))) × ((List Int) × ((List Int) × (List Int))))) × ((Int × (Int × (List (List (Int × Int))))) × (Unit × (Int × (List ((List Int) × Bool)))))) ⊕ (((Int × ((List (Int × (Int × (Int × (Int × Int))))) × ((List Int) × ((List Int) × (List Int))))) × ((Int × (Int × (List (List (Int × Int))))) × (Unit × (List ((List Int) × Bool))))) ⊕ (Int × Unit)))
  | (a_1, t_1, _, t26, o0) =>
    cond (decide (t26 < (List.length l : Int)))
      ((rd l t26).bind fun t28 =>
      (rd t28 0).bind fun t30 =>
      Option.bind (cond (decide (t30 < 0))
        (some true)
        ((rd t28 0).bind fun t34 =>
        (if (List.length a_1.2.2.2.1 : Int) < 0 then none else some (shlI .i64 1 (List.length a_1.2.2.2.1 : Int))).bind fun t39 =>
        some (decide (t34 ≥ t39)))) fun t41 =>
      Option.bind (cond t41
        (some true)
        ((rd t28 1).bind fun t43 =>
        some (decide (t43 < 0)))) fun t46 =>
      Option.bind (cond t46
        (some true)
        ((rd t28 1).bind fun t48 =>
        some (decide (t48 ≥ (List.length t_1.2.2 : Int))))) fun t54 =>
      cond t54
        (some (Sum.inr (Sum.inr (4, ()))))
        (some (Sum.inl (a_1, t_1, (), (w64 (t26 + 1)), (mput (.arr 2 (.int .i64)) .bool o0 t28 true)))))
      (some (Sum.inr (Sum.inl (a_1, t_1, (), o0))))
def Accept38.l1 (k : Nat) (t72 : Int) : ((Int × ((List (Int × (Int × (Int × (Int × Int))))) × ((List Int) × ((List Int) × (List Int))))) × ((Int × (Int × (List (List (Int × Int))))) × (Unit × ((List Int) × (Int × (List ((List Int) × Bool))))))) → Option (((Int × ((List (Int × (Int × (Int × (Int × Int))))) × ((List Int) × ((List Int) × (List Int))))) × ((Int × (Int × (List (List (Int × Int))))) × (Unit × ((List Int) × (Int × (List ((List Int) × Bool))))))) ⊕ (((Int × ((List (Int × (Int × (Int × (Int × Int))))) × ((List Int) × ((List Int) × (List Int))))) × ((Int × (Int × (List (List (Int × Int))))) × (Unit × (List ((List Int) × Bool))))) ⊕ (((Int × ((List (Int × (Int × (Int × (Int × Int))))) × ((List Int) × ((List Int) × (List Int))))) × ((Int × (Int × (List (List (Int × Int))))) × (Unit × (Int × (List ((List Int) × Bool)))))) ⊕ (Unit ⊕ (Int × Unit)))))
  | (a_4, t_4, _, p, t73, o0_3) =>
    cond (decide (t73 < t72))
      ((step85 k a_4 t_4 p t73).bind fun t81 =>
      cond (t81.1.1 != t81.1.2.1)
        (some (Sum.inr (Sum.inr (Sum.inr (Sum.inr (12, ()))))))
        (cond (!(Option.getD (α := Bool) (mget (.arr 2 (.int .i64)) .bool o0_3 t81.1.2.2.1) false))
          (some (Sum.inr (Sum.inr (Sum.inr (Sum.inr (13, ()))))))
          (some (Sum.inl (a_4, t_4, (), p, (w64 (t73 + 1)), o0_3)))))
      (some (Sum.inr (Sum.inl (a_4, t_4, (), o0_3))))
def Accept38.l2 (k : Nat) (l : (List (List Int))) : ((Int × ((List (Int × (Int × (Int × (Int × Int))))) × ((List Int) × ((List Int) × (List Int))))) × ((Int × (Int × (List (List (Int × Int))))) × (Unit × (Int × (List ((List Int) × Bool)))))) → Option (((Int × ((List (Int × (Int × (Int × (Int × Int))))) × ((List Int) × ((List Int) × (List Int))))) × ((Int × (Int × (List (List (Int × Int))))) × (Unit × (Int × (List ((List Int) × Bool)))))) ⊕ (Unit ⊕ (Int × Unit)))
  | (a_3, t_3, _, t66, o0_2) =>
    cond (decide (t66 < (List.length l : Int)))
      ((rd l t66).bind fun t68 =>
      (if a_3.1 < 0 then none else some (shlI .i64 1 a_3.1)).bind fun t72 =>
      Option.bind
        (loopN (Accept38.l1 k t72) k (a_3, t_3, (), t68, 0, o0_2) : Option (((Int × ((List (Int × (Int × (Int × (Int × Int))))) × ((List Int) × ((List Int) × (List Int))))) × ((Int × (Int × (List (List (Int × Int))))) × (Unit × (List ((List Int) × Bool))))) ⊕ (((Int × ((List (Int × (Int × (Int × (Int × Int))))) × ((List Int) × ((List Int) × (List Int))))) × ((Int × (Int × (List (List (Int × Int))))) × (Unit × (Int × (List ((List Int) × Bool)))))) ⊕ (Unit ⊕ (Int × Unit))))) (joined fun ((a_5, t_5, _, o0_4) : ((Int × ((List (Int × (Int × (Int × (Int × Int))))) × ((List Int) × ((List Int) × (List Int))))) × ((Int × (Int × (List (List (Int × Int))))) × (Unit × (List ((List Int) × Bool)))))) =>
        some (Sum.inl (a_5, t_5, (), (w64 (t66 + 1)), o0_4))))
      (some (Sum.inr (Sum.inl ())))
def Accept38 (k : Nat) (a : (Int × ((List (Int × (Int × (Int × (Int × Int))))) × ((List Int) × ((List Int) × (List Int)))))) (t : (Int × (Int × (List (List (Int × Int)))))) (l : (List (List Int))) : Option (Int × Unit) :=
  (Check65 k a t).bind fun t19 =>
  cond (t19.1 != 0)
    (some (t19.1, ()))
    (Option.bind
      (loopN (Accept38.l0 k l) k (a, t, (), 0, ([] : (List ((List Int) × Bool)))) : Option (((Int × ((List (Int × (Int × (Int × (Int × Int))))) × ((List Int) × ((List Int) × (List Int))))) × ((Int × (Int × (List (List (Int × Int))))) × (Unit × (List ((List Int) × Bool))))) ⊕ (Int × Unit))) (joined fun ((a_2, t_2, _, o0_1) : ((Int × ((List (Int × (Int × (Int × (Int × Int))))) × ((List Int) × ((List Int) × (List Int))))) × ((Int × (Int × (List (List (Int × Int))))) × (Unit × (List ((List Int) × Bool)))))) =>
      (Start80 k a_2).bind fun t60 =>
      cond (!(Option.getD (α := Bool) (mget (.arr 2 (.int .i64)) .bool o0_1 ([t60.1, 0] : (List Int))) false))
        (some (13, ()))
        (Option.bind
          (loopN (Accept38.l2 k l) k (a_2, t_2, (), 0, o0_1) : Option (Unit ⊕ (Int × Unit))) (joined fun (_ : Unit) =>
          some (0, ())))))
def Accept38.A : Ann := { conds := [], blocks := [(0, ⟨[(3, .fp (.st (.pair (.int .i64) (.pair (.sl (.st (.pair (.int .i64) (.pair (.int .i64) (.pair (.int .i64) (.pair (.int .i64) (.int .i64))))))) (.pair (.sl (.int .i64)) (.pair (.sl (.int .i64)) (.sl (.int .i64)))))))), (4, .fp (.st (.pair (.int .i64) (.pair (.int .i64) (.sl (.sl (.st (.pair (.int .i64) (.int .i64))))))))), (8, .mm 0)], [(0, .map (.arr 2 (.int .i64)) .bool)], 1, [], 288230376084603968⟩), (2, ⟨[], [], 0, [], 19807040554779108103547908160⟩), (4, ⟨[(3, .fp (.st (.pair (.int .i64) (.pair (.sl (.st (.pair (.int .i64) (.pair (.int .i64) (.pair (.int .i64) (.pair (.int .i64) (.int .i64))))))) (.pair (.sl (.int .i64)) (.pair (.sl (.int .i64)) (.sl (.int .i64)))))))), (4, .fp (.st (.pair (.int .i64) (.pair (.int .i64) (.sl (.sl (.st (.pair (.int .i64) (.int .i64))))))))), (8, .mm 0)], [(0, .map (.arr 2 (.int .i64)) .bool)], 1, [], 9903510869550076459902689344⟩)], loops := [(6, ⟨[(3, .fp (.st (.pair (.int .i64) (.pair (.sl (.st (.pair (.int .i64) (.pair (.int .i64) (.pair (.int .i64) (.pair (.int .i64) (.int .i64))))))) (.pair (.sl (.int .i64)) (.pair (.sl (.int .i64)) (.sl (.int .i64)))))))), (4, .fp (.st (.pair (.int .i64) (.pair (.int .i64) (.sl (.sl (.st (.pair (.int .i64) (.int .i64))))))))), (8, .mm 0), (26, .int .i64)], [(0, .map (.arr 2 (.int .i64)) .bool)], 1, [], 288230376084603968⟩), (15, ⟨[(3, .fp (.st (.pair (.int .i64) (.pair (.sl (.st (.pair (.int .i64) (.pair (.int .i64) (.pair (.int .i64) (.pair (.int .i64) (.int .i64))))))) (.pair (.sl (.int .i64)) (.pair (.sl (.int .i64)) (.sl (.int .i64)))))))), (4, .fp (.st (.pair (.int .i64) (.pair (.int .i64) (.sl (.sl (.st (.pair (.int .i64) (.int .i64))))))))), (8, .mm 0), (66, .int .i64)], [(0, .map (.arr 2 (.int .i64)) .bool)], 1, [], 19807040554779108103547908160⟩), (18, ⟨[(3, .fp (.st (.pair (.int .i64) (.pair (.sl (.st (.pair (.int .i64) (.pair (.int .i64) (.pair (.int .i64) (.pair (.int .i64) (.int .i64))))))) (.pair (.sl (.int .i64)) (.pair (.sl (.int .i64)) (.sl (.int .i64)))))))), (4, .fp (.st (.pair (.int .i64) (.pair (.int .i64) (.sl (.sl (.st (.pair (.int .i64) (.int .i64))))))))), (8, .mm 0), (12, .fp (.arr 2 (.int .i64))), (73, .int .i64)], [(0, .map (.arr 2 (.int .i64)) .bool)], 1, [], 9903510869550076459902689344⟩)], keeps := [3, 4, 10, 12, 16], orders := [(8, [(0, .strong), (1, .strong), (2, .strong), (3, .strong), (4, .strong), (5, .strong), (6, .strong), (7, .strong), (8, .strong), (9, .strong), (10, .strong), (11, .strong), (12, .strong), (13, .strong), (14, .strong), (15, .strong), (16, .strong), (17, .strong), (18, .strong), (19, .strong), (20, .strong), (21, .strong), (22, .strong), (23, .strong), (24, .strong)])] }
def Accept38.S : Sig := { f := 38, params := [.st (.pair (.int .i64) (.pair (.sl (.st (.pair (.int .i64) (.pair (.int .i64) (.pair (.int .i64) (.pair (.int .i64) (.int .i64))))))) (.pair (.sl (.int .i64)) (.pair (.sl (.int .i64)) (.sl (.int .i64)))))), .st (.pair (.int .i64) (.pair (.int .i64) (.sl (.sl (.st (.pair (.int .i64) (.int .i64))))))), .sl (.arr 2 (.int .i64))], objs := [], res := .int .i64, outs := [], fix := [], run := fun k ds os => Accept38 k ds.1 ds.2.1 ds.2.2 }
def Accept38.G : List Sig := [Check65.S, Start80.S, step85.S]
theorem Accept38.eq (k : Nat) : ∀ ds os, Accept38.S.run k ds os = runF ⟨types, Accept38.G, Accept38.A, k, 0⟩ Try.f38 (codeOf Try.f38) Accept38.S.params Accept38.S.objs Accept38.S.res Accept38.S.outs ds os := by
  intro ds os; kernel_rfl
theorem Accept38.dr : DrOk Try.prog Accept38.A (codeOf Try.f38) := ⟨by kernel_rfl, by kernel_rfl⟩
theorem Accept38.ok (k : Nat) : SoundAt Try.prog k Accept38.S :=
  runF_sound (X := ⟨types, Accept38.G, Accept38.A, k, 0⟩) types_ok (mem_all (⟨Check65.ok k, ⟨Start80.ok k, ⟨step85.ok k, trivial⟩⟩⟩)) (fn := Try.f38) (c := codeOf Try.f38) rfl (by kernel_rfl) rfl rfl Accept38.dr (Accept38.eq k)
end Go.Proofs.Ytjbdhaenakcclaa.Ec

/- Go functions as plain Lean functions, and their contracts. -/
set_option linter.unusedVariables false
set_option maxRecDepth 100000
noncomputable section
namespace Go.Proofs.Ytjbdhaenakcclaa.Ec
open Go Go.Proofs.Ytjbdhaenakcclaa.Gp
def EqualCerts7.l0 (k : Nat) (l : (List (List Int))) : ((Int × ((List (Int × (Int × (Int × (Int × Int))))) × ((List Int) × ((List Int) × (List Int))))) × ((Int × (Int × (List (List (Int × Int))))) × (Int × Int))) → Option (((Int × ((List (Int × (Int × (Int × (Int × Int))))) × ((List Int) × ((List Int) × (List Int))))) × ((Int × (Int × (List (List (Int × Int))))) × (Int × Int))) ⊕ ((Int × ((List (Int × (Int × (Int × (Int × Int))))) × ((List Int) × ((List Int) × (List Int))))) × ((Int × (Int × (List (List (Int × Int))))) × Int)))
  | (c_1, t_1, f, t21) =>
    cond (decide (t21 < (List.length l : Int)))
      ((rd l t21).bind fun t23 =>
      Option.bind (cond (f == 0)
        ((rd t23 0).bind fun t28 =>
        Option.bind (cond (decide (t28 < 0))
          (some true)
          ((rd t23 0).bind fun t32 =>
          (if (List.length c_1.2.2.2.1 : Int) < 0 then none else some (shlI .i64 1 (List.length c_1.2.2.2.1 : Int))).bind fun t37 =>
          some (decide (t32 ≥ t37)))) fun t39 =>
        Option.bind (cond t39
          (some true)
          ((rd t23 1).bind fun t41 =>
          some (decide (t41 < 0)))) fun t44 =>
        Option.bind (cond t44
          (some true)
          ((rd t23 1).bind fun t46 =>
          some (decide (t46 ≥ (List.length t_1.2.2 : Int))))) fun t52 =>
        some t52)
        (some false)) fun t53 =>
      Option.bind
        (cond t53
          (some (c_1, t_1, 4))
          (some (c_1, t_1, f)) : Option ((Int × ((List (Int × (Int × (Int × (Int × Int))))) × ((List Int) × ((List Int) × (List Int))))) × ((Int × (Int × (List (List (Int × Int))))) × Int))) fun ((c_2, t_2, f_1) : ((Int × ((List (Int × (Int × (Int × (Int × Int))))) × ((List Int) × ((List Int) × (List Int))))) × ((Int × (Int × (List (List (Int × Int))))) × Int))) =>
      some (Sum.inl (c_2, t_2, f_1, (w64 (t21 + 1)))))
      (some (Sum.inr (c_1, t_1, f)))
def EqualCerts7.l1 (k : Nat) (l : (List (List Int))) : ((Int × ((List (Int × (Int × (Int × (Int × Int))))) × ((List Int) × ((List Int) × (List Int))))) × ((Int × (Int × (List (List (Int × Int))))) × (Int × ((List Int) × Int)))) → Option (((Int × ((List (Int × (Int × (Int × (Int × Int))))) × ((List Int) × ((List Int) × (List Int))))) × ((Int × (Int × (List (List (Int × Int))))) × (Int × ((List Int) × Int)))) ⊕ ((Int × ((List (Int × (Int × (Int × (Int × Int))))) × ((List Int) × ((List Int) × (List Int))))) × ((Int × (Int × (List (List (Int × Int))))) × Int)))
  | (c_6, t_6, f_5, p, i) =>
    Option.bind (cond (f_5 == 0)
      ((if c_6.1 < 0 then none else some (shlI .i64 1 c_6.1)).bind fun t77 =>
      some (decide (i < t77)))
      (some false)) fun t79 =>
    cond t79
      ((rd p 0).bind fun t84 =>
      (Stepped20 k c_6 t84 i).bind fun t87 =>
      (rd p 1).bind fun t92 =>
      (rd t_6.2.2 t92).bind fun t94 =>
      (rd t94 i).bind fun t97 =>
      Option.bind
        (cond (t87.1.1 != t97.1)
          (some (c_6, t_6, 12, p))
          ((Contains36 k l [t87.1.2.1, t97.2]).bind fun t108 =>
          Option.bind
            (cond (!t108.1)
              (some (c_6, t_6, 13, p))
              (some (c_6, t_6, f_5, p)) : Option ((Int × ((List (Int × (Int × (Int × (Int × Int))))) × ((List Int) × ((List Int) × (List Int))))) × ((Int × (Int × (List (List (Int × Int))))) × (Int × (List Int))))) fun ((c_7, t_7, f_6, p_1) : ((Int × ((List (Int × (Int × (Int × (Int × Int))))) × ((List Int) × ((List Int) × (List Int))))) × ((Int × (Int × (List (List (Int × Int))))) × (Int × (List Int))))) =>
          some (c_7, t_7, f_6, p_1)) : Option ((Int × ((List (Int × (Int × (Int × (Int × Int))))) × ((List Int) × ((List Int) × (List Int))))) × ((Int × (Int × (List (List (Int × Int))))) × (Int × (List Int))))) fun ((c_8, t_8, f_7, p_2) : ((Int × ((List (Int × (Int × (Int × (Int × Int))))) × ((List Int) × ((List Int) × (List Int))))) × ((Int × (Int × (List (List (Int × Int))))) × (Int × (List Int))))) =>
      some (Sum.inl (c_8, t_8, f_7, p_2, (w64 (i + 1)))))
      (some (Sum.inr (c_6, t_6, f_5)))
def EqualCerts7.l2 (k : Nat) (l : (List (List Int))) : ((Int × ((List (Int × (Int × (Int × (Int × Int))))) × ((List Int) × ((List Int) × (List Int))))) × ((Int × (Int × (List (List (Int × Int))))) × (Int × Int))) → Option (((Int × ((List (Int × (Int × (Int × (Int × Int))))) × ((List Int) × ((List Int) × (List Int))))) × ((Int × (Int × (List (List (Int × Int))))) × (Int × Int))) ⊕ ((Int × ((List (Int × (Int × (Int × (Int × Int))))) × ((List Int) × ((List Int) × (List Int))))) × ((Int × (Int × (List (List (Int × Int))))) × Int)))
  | (c_5, t_5, f_4, t67) =>
    cond (decide (t67 < (List.length l : Int)))
      ((rd l t67).bind fun t69 =>
      Option.bind
        (loopN (EqualCerts7.l1 k l) k (c_5, t_5, f_4, t69, 0) : Option ((Int × ((List (Int × (Int × (Int × (Int × Int))))) × ((List Int) × ((List Int) × (List Int))))) × ((Int × (Int × (List (List (Int × Int))))) × Int))) fun ((c_9, t_9, f_8) : ((Int × ((List (Int × (Int × (Int × (Int × Int))))) × ((List Int) × ((List Int) × (List Int))))) × ((Int × (Int × (List (List (Int × Int))))) × Int))) =>
      some (Sum.inl (c_9, t_9, f_8, (w64 (t67 + 1)))))
      (some (Sum.inr (c_5, t_5, f_4)))
def EqualCerts7 (k : Nat) (c : (Int × ((List (Int × (Int × (Int × (Int × Int))))) × ((List Int) × ((List Int) × (List Int)))))) (t : (Int × (Int × (List (List (Int × Int)))))) (l : (List (List Int))) : Option (Bool × Unit) :=
  (pairFault35 k c t).bind fun t18 =>
  Option.bind
    (loopN (EqualCerts7.l0 k l) k (c, t, t18.1, 0) : Option ((Int × ((List (Int × (Int × (Int × (Int × Int))))) × ((List Int) × ((List Int) × (List Int))))) × ((Int × (Int × (List (List (Int × Int))))) × Int))) fun ((c_3, t_3, f_2) : ((Int × ((List (Int × (Int × (Int × (Int × Int))))) × ((List Int) × ((List Int) × (List Int))))) × ((Int × (Int × (List (List (Int × Int))))) × Int))) =>
  Option.bind (cond (f_2 == 0)
    ((First37 k c_3).bind fun t60 =>
    (Contains36 k l [t60.1, 0]).bind fun t62 =>
    some (!t62.1))
    (some false)) fun t64 =>
  Option.bind
    (cond t64
      (some (c_3, t_3, 13))
      (some (c_3, t_3, f_2)) : Option ((Int × ((List (Int × (Int × (Int × (Int × Int))))) × ((List Int) × ((List Int) × (List Int))))) × ((Int × (Int × (List (List (Int × Int))))) × Int))) fun ((c_4, t_4, f_3) : ((Int × ((List (Int × (Int × (Int × (Int × Int))))) × ((List Int) × ((List Int) × (List Int))))) × ((Int × (Int × (List (List (Int × Int))))) × Int))) =>
  Option.bind
    (loopN (EqualCerts7.l2 k l) k (c_4, t_4, f_3, 0) : Option ((Int × ((List (Int × (Int × (Int × (Int × Int))))) × ((List Int) × ((List Int) × (List Int))))) × ((Int × (Int × (List (List (Int × Int))))) × Int))) fun ((c_10, t_10, f_9) : ((Int × ((List (Int × (Int × (Int × (Int × Int))))) × ((List Int) × ((List Int) × (List Int))))) × ((Int × (Int × (List (List (Int × Int))))) × Int))) =>
  (same32 k).bind fun t111 =>
  Option.bind (cond t111.1
    ((Accept38 k c_10 t_10 l).bind fun t116 =>
    some (t116.1 == f_9))
    (some false)) fun t119 =>
  some (t119, ())
def EqualCerts7.A : Ann := { conds := [(3473414, ⟨[(3, .fp (.st (.pair (.int .i64) (.pair (.sl (.st (.pair (.int .i64) (.pair (.int .i64) (.pair (.int .i64) (.pair (.int .i64) (.int .i64))))))) (.pair (.sl (.int .i64)) (.pair (.sl (.int .i64)) (.sl (.int .i64)))))))), (4, .fp (.st (.pair (.int .i64) (.pair (.int .i64) (.sl (.sl (.st (.pair (.int .i64) (.int .i64))))))))), (7, .int .i64)], [], 0, [], 128⟩), (4194313, ⟨[(3, .fp (.st (.pair (.int .i64) (.pair (.sl (.st (.pair (.int .i64) (.pair (.int .i64) (.pair (.int .i64) (.pair (.int .i64) (.int .i64))))))) (.pair (.sl (.int .i64)) (.pair (.sl (.int .i64)) (.sl (.int .i64)))))))), (4, .fp (.st (.pair (.int .i64) (.pair (.int .i64) (.sl (.sl (.st (.pair (.int .i64) (.int .i64))))))))), (7, .int .i64)], [], 0, [], 128⟩), (6684691, ⟨[(3, .fp (.st (.pair (.int .i64) (.pair (.sl (.st (.pair (.int .i64) (.pair (.int .i64) (.pair (.int .i64) (.pair (.int .i64) (.int .i64))))))) (.pair (.sl (.int .i64)) (.pair (.sl (.int .i64)) (.sl (.int .i64)))))))), (4, .fp (.st (.pair (.int .i64) (.pair (.int .i64) (.sl (.sl (.st (.pair (.int .i64) (.int .i64))))))))), (7, .int .i64), (11, .fp (.arr 2 (.int .i64)))], [], 0, [], 1287933009831881071920650456662144⟩), (7143445, ⟨[(3, .fp (.st (.pair (.int .i64) (.pair (.sl (.st (.pair (.int .i64) (.pair (.int .i64) (.pair (.int .i64) (.pair (.int .i64) (.int .i64))))))) (.pair (.sl (.int .i64)) (.pair (.sl (.int .i64)) (.sl (.int .i64)))))))), (4, .fp (.st (.pair (.int .i64) (.pair (.int .i64) (.sl (.sl (.st (.pair (.int .i64) (.int .i64))))))))), (7, .int .i64), (11, .fp (.arr 2 (.int .i64)))], [], 0, [], 128⟩)], blocks := [(0, ⟨[(3, .fp (.st (.pair (.int .i64) (.pair (.sl (.st (.pair (.int .i64) (.pair (.int .i64) (.pair (.int .i64) (.pair (.int .i64) (.int .i64))))))) (.pair (.sl (.int .i64)) (.pair (.sl (.int .i64)) (.sl (.int .i64)))))))), (4, .fp (.st (.pair (.int .i64) (.pair (.int .i64) (.sl (.sl (.st (.pair (.int .i64) (.int .i64))))))))), (7, .int .i64)], [], 0, [], 36028797016867456⟩), (2, ⟨[(3, .fp (.st (.pair (.int .i64) (.pair (.sl (.st (.pair (.int .i64) (.pair (.int .i64) (.pair (.int .i64) (.pair (.int .i64) (.int .i64))))))) (.pair (.sl (.int .i64)) (.pair (.sl (.int .i64)) (.sl (.int .i64)))))))), (4, .fp (.st (.pair (.int .i64) (.pair (.int .i64) (.sl (.sl (.st (.pair (.int .i64) (.int .i64))))))))), (7, .int .i64)], [], 0, [], 2596148429267266240312658488260736⟩), (4, ⟨[(3, .fp (.st (.pair (.int .i64) (.pair (.sl (.st (.pair (.int .i64) (.pair (.int .i64) (.pair (.int .i64) (.pair (.int .i64) (.int .i64))))))) (.pair (.sl (.int .i64)) (.pair (.sl (.int .i64)) (.sl (.int .i64)))))))), (4, .fp (.st (.pair (.int .i64) (.pair (.int .i64) (.sl (.sl (.st (.pair (.int .i64) (.int .i64))))))))), (7, .int .i64)], [], 0, [], 1298074214631345723891189259759744⟩)], loops := [(3, ⟨[(3, .fp (.st (.pair (.int .i64) (.pair (.sl (.st (.pair (.int .i64) (.pair (.int .i64) (.pair (.int .i64) (.pair (.int .i64) (.int .i64))))))) (.pair (.sl (.int .i64)) (.pair (.sl (.int .i64)) (.sl (.int .i64)))))))), (4, .fp (.st (.pair (.int .i64) (.pair (.int .i64) (.sl (.sl (.st (.pair (.int .i64) (.int .i64))))))))), (7, .int .i64), (21, .int .i64)], [], 0, [], 36028797016867456⟩), (11, ⟨[(3, .fp (.st (.pair (.int .i64) (.pair (.sl (.st (.pair (.int .i64) (.pair (.int .i64) (.pair (.int .i64) (.pair (.int .i64) (.int .i64))))))) (.pair (.sl (.int .i64)) (.pair (.sl (.int .i64)) (.sl (.int .i64)))))))), (4, .fp (.st (.pair (.int .i64) (.pair (.int .i64) (.sl (.sl (.st (.pair (.int .i64) (.int .i64))))))))), (7, .int .i64), (67, .int .i64)], [], 0, [], 2596148429267266240312658488260736⟩), (14, ⟨[(3, .fp (.st (.pair (.int .i64) (.pair (.sl (.st (.pair (.int .i64) (.pair (.int .i64) (.pair (.int .i64) (.pair (.int .i64) (.int .i64))))))) (.pair (.sl (.int .i64)) (.pair (.sl (.int .i64)) (.sl (.int .i64)))))))), (4, .fp (.st (.pair (.int .i64) (.pair (.int .i64) (.sl (.sl (.st (.pair (.int .i64) (.int .i64))))))))), (7, .int .i64), (11, .fp (.arr 2 (.int .i64))), (12, .int .i64)], [], 0, [], 1298074214631345723891189259759744⟩)], keeps := [3, 4, 9, 11, 15], orders := [(5, [(0, .strong), (1, .strong), (2, .strong), (3, .strong), (4, .strong), (5, .strong), (6, .strong), (7, .strong), (8, .strong), (9, .strong), (10, .strong), (11, .strong), (12, .strong), (13, .strong), (14, .strong), (15, .strong), (16, .strong), (17, .strong), (18, .strong), (19, .strong), (20, .strong), (21, .strong), (22, .strong), (23, .strong), (24, .strong), (25, .strong), (26, .strong), (27, .strong), (28, .strong)])] }
def EqualCerts7.S : Sig := { f := 7, params := [.st (.pair (.int .i64) (.pair (.sl (.st (.pair (.int .i64) (.pair (.int .i64) (.pair (.int .i64) (.pair (.int .i64) (.int .i64))))))) (.pair (.sl (.int .i64)) (.pair (.sl (.int .i64)) (.sl (.int .i64)))))), .st (.pair (.int .i64) (.pair (.int .i64) (.sl (.sl (.st (.pair (.int .i64) (.int .i64))))))), .sl (.arr 2 (.int .i64))], objs := [], res := .bool, outs := [], fix := [], run := fun k ds os => EqualCerts7 k ds.1 ds.2.1 ds.2.2 }
def EqualCerts7.G : List Sig := [Accept38.S, Contains36.S, First37.S, Stepped20.S, pairFault35.S, same32.S]
theorem EqualCerts7.eq (k : Nat) : ∀ ds os, EqualCerts7.S.run k ds os = runF ⟨types, EqualCerts7.G, EqualCerts7.A, k, 0⟩ Try.f7 (codeOf Try.f7) EqualCerts7.S.params EqualCerts7.S.objs EqualCerts7.S.res EqualCerts7.S.outs ds os := by
  intro ds os; kernel_rfl
theorem EqualCerts7.dr : DrOk Try.prog EqualCerts7.A (codeOf Try.f7) := ⟨by kernel_rfl, by kernel_rfl⟩
theorem EqualCerts7.ok (k : Nat) : SoundAt Try.prog k EqualCerts7.S :=
  runF_sound (X := ⟨types, EqualCerts7.G, EqualCerts7.A, k, 0⟩) types_ok (mem_all (⟨Accept38.ok k, ⟨Contains36.ok k, ⟨First37.ok k, ⟨Stepped20.ok k, ⟨pairFault35.ok k, ⟨same32.ok k, trivial⟩⟩⟩⟩⟩⟩)) (fn := Try.f7) (c := codeOf Try.f7) rfl (by kernel_rfl) rfl rfl EqualCerts7.dr (EqualCerts7.eq k)
end Go.Proofs.Ytjbdhaenakcclaa.Ec

/- What is left of a Go function, in the long run: rounds, loops, lists, numbers. No program in sight. -/
set_option linter.unusedVariables false
noncomputable section
namespace Go.Proofs.Ytjbdhaenakcclaa.Gp
open Go

/-- from some fuel on, f answers v -/
def Ev {α : Type} (f : Nat → Option α) (v : α) : Prop := ∃ n, ∀ k, n ≤ k → f k = some v
/-- .. a loop, from some fuel on and with enough rounds -/
def Lp {S R : Type} (body : Nat → S → Option (S ⊕ R)) (s : S) (r : R) : Prop := ∃ n m, ∀ k, n ≤ k → ∀ j, m ≤ j → loopN (body k) j s = some r

theorem Ev.ex {α : Type} {f : Nat → Option α} {v : α} (h : Ev f v) : ∃ k, f k = some v := by
  obtain ⟨n, h⟩ := h
  exact ⟨n, h n (Nat.le_refl _)⟩
theorem Ev.now {α : Type} (v : α) : Ev (fun _ => some v) v := ⟨0, fun _ _ => rfl⟩
theorem Ev.now' {α : Type} {v w : α} (h : v = w) : Ev (fun _ => some v) w := h ▸ .now v
/-- what hangs on no fuel -/
theorem Ev.const {α : Type} {o : Option α} {v : α} (h : o = some v) : Ev (fun _ => o) v := ⟨0, fun _ _ => h⟩
theorem Ev.to {α : Type} {f : Nat → Option α} {v w : α} (h : Ev f v) (e : v = w) : Ev f w := e ▸ h
theorem Ev.of {α : Type} {f g : Nat → Option α} {v : α} (h : Ev f v) (e : ∀ k, g k = f k) : Ev g v := by
  obtain ⟨n, h⟩ := h
  exact ⟨n, fun k hk => (e k).trans (h k hk)⟩
theorem Ev.bind {α β : Type} {f : Nat → Option α} {g : Nat → α → Option β} {a : α} {b : β} (h : Ev f a) (h2 : Ev (fun k => g k a) b) : Ev (fun k => (f k).bind (g k)) b := by
  obtain ⟨n, h⟩ := h
  obtain ⟨m, h2⟩ := h2
  refine ⟨max n m, fun k hk => ?_⟩
  show (f k).bind (g k) = _
  rw [h k (by omega)]
  exact h2 k (by omega)
/-- a value that hangs on no fuel -/
theorem Ev.val {α β : Type} {o : Option α} {g : Nat → α → Option β} {a : α} {b : β} (h : o = some a) (h2 : Ev (fun k => g k a) b) : Ev (fun k => o.bind (g k)) b := by
  subst h
  exact h2
theorem Ev.joinL {S α β : Type} {f : Nat → Option (α ⊕ β)} {g : Nat → α → Option β} {a : α} {b : β} (h : Ev f (.inl a)) (h2 : Ev (fun k => g k a) b) : Ev (fun k => (f k).bind (joined (g k))) b :=
  Ev.bind (g := fun k => joined (g k)) h h2
theorem Ev.joinR {α β : Type} {f : Nat → Option (α ⊕ β)} {g : Nat → α → Option β} {b : β} (h : Ev f (.inr b)) : Ev (fun k => (f k).bind (joined (g k))) b :=
  Ev.bind (g := fun k => joined (g k)) h (.now b)
/-- a join: how it came, and what follows -/
theorem Ev.join {α β : Type} {f : Nat → Option (α ⊕ β)} {g : Nat → α → Option β} {s : α ⊕ β} {b : β} (h : Ev f s) (h1 : ∀ a, s = .inl a → Ev (fun k => g k a) b) (h2 : ∀ r, s = .inr r → r = b) : Ev (fun k => (f k).bind (joined (g k))) b := by
  cases s with
  | inl a => exact Ev.bind (g := fun k => joined (g k)) h (h1 a rfl)
  | inr r => exact Ev.bind (g := fun k => joined (g k)) h (.now' (h2 r rfl))
theorem Ev.cnd {α : Type} {c : Bool} {f g : Nat → Option α} {v : α} (h1 : c = true → Ev f v) (h2 : c = false → Ev g v) : Ev (fun k => cond c (f k) (g k)) v := by
  cases c with
  | true => exact h1 rfl
  | false => exact h2 rfl
theorem Ev.yes {α : Type} {c : Bool} {f g : Nat → Option α} {v : α} (hc : c = true) (h : Ev f v) : Ev (fun k => cond c (f k) (g k)) v := by rw [hc]; exact h
theorem Ev.no {α : Type} {c : Bool} {f g : Nat → Option α} {v : α} (hc : c = false) (h : Ev g v) : Ev (fun k => cond c (f k) (g k)) v := by rw [hc]; exact h
theorem Ev.iff {α : Type} {c : Prop} [Decidable c] {f g : Nat → Option α} {v : α} (h1 : c → Ev f v) (h2 : ¬ c → Ev g v) : Ev (fun k => cond (decide c) (f k) (g k)) v := by
  by_cases h : c
  · exact .yes (decide_eq_true h) (h1 h)
  · exact .no (decide_eq_false h) (h2 h)
theorem Ev.map {α β : Type} {f : Nat → Option α} {g : α → β} {a : α} (h : Ev f a) : Ev (fun k => (f k).map g) (g a) := by
  obtain ⟨n, h⟩ := h
  exact ⟨n, fun k hk => by show (f k).map g = _; rw [h k hk]; rfl⟩

theorem Lp.ev {S R : Type} {body : Nat → S → Option (S ⊕ R)} {s : S} {r : R} (h : Lp body s r) : Ev (fun k => loopN (body k) k s) r := by
  obtain ⟨n, m, h⟩ := h
  exact ⟨max n m, fun k hk => h k (by omega) k (by omega)⟩
theorem Lp.done {S R : Type} {body : Nat → S → Option (S ⊕ R)} {s : S} {r : R} (h : Ev (fun k => body k s) (.inr r)) : Lp body s r := by
  obtain ⟨n, h⟩ := h
  refine ⟨n, 1, fun k hk j hj => ?_⟩
  obtain ⟨j, rfl⟩ : ∃ i, j = i + 1 := ⟨j - 1, by omega⟩
  show (body k s).bind _ = _
  rw [show body k s = _ from h k hk]
  rfl
theorem Lp.step {S R : Type} {body : Nat → S → Option (S ⊕ R)} {s s' : S} {r : R} (h : Ev (fun k => body k s) (.inl s')) (h2 : Lp body s' r) : Lp body s r := by
  obtain ⟨n, h⟩ := h
  obtain ⟨n2, m, h2⟩ := h2
  refine ⟨max n n2, m + 1, fun k hk j hj => ?_⟩
  obtain ⟨j, rfl⟩ : ∃ i, j = i + 1 := ⟨j - 1, by omega⟩
  show (body k s).bind _ = _
  rw [show body k s = _ from h k (by omega)]
  exact h2 k (by omega) j (by omega)

/-- a walk over a list, that may end early -/
def walk {α β R : Type} (f : β → α → β ⊕ R) (fin : β → R) : List α → β → R
  | [], b => fin b
  | x :: l, b => match f b x with | .inl b' => walk f fin l b' | .inr r => r
theorem walk_nil {α β R : Type} {f : β → α → β ⊕ R} {fin : β → R} {b : β} : walk f fin [] b = fin b := rfl
theorem walk_cons {α β R : Type} {f : β → α → β ⊕ R} {fin : β → R} {x : α} {l : List α} {b : β} : walk f fin (x :: l) b = match f b x with | .inl b' => walk f fin l b' | .inr r => r := rfl

/-- a loop over a list by its index: 'st b i' is the loop's state -/
theorem Lp.walk {α β S R : Type} {body : Nat → S → Option (S ⊕ R)} (l : List α) (st : β → Int → S) (f : β → α → β ⊕ R) (fin : β → R) (Inv : Nat → β → Prop)
    (hs : ∀ i x b, l[i]? = some x → Inv i b → Ev (fun k => body k (st b i)) (match f b x with | .inl b' => .inl (st b' ((i : Int) + 1)) | .inr r => .inr r) ∧ ∀ b', f b x = .inl b' → Inv (i + 1) b')
    (hd : ∀ b, Inv l.length b → Ev (fun k => body k (st b l.length)) (.inr (fin b))) {b : β} (h0 : Inv 0 b) : Lp body (st b 0) (walk f fin l b) := by
  have key : ∀ (suf pre : List α) (b : β), l = pre ++ suf → Inv pre.length b → Lp body (st b (pre.length : Int)) (Gp.walk f fin suf b) := by
    intro suf
    induction suf with
    | nil =>
      intro pre b h hi
      rw [List.append_nil] at h
      subst h
      exact .done (hd b hi)
    | cons x suf ih =>
      intro pre b h hi
      have hx : l[pre.length]? = some x := by rw [h]; simp
      obtain ⟨h1, h2⟩ := hs pre.length x b hx hi
      rw [walk_cons]
      cases hf : f b x with
      | inr r => rw [hf] at h1; exact .done h1
      | inl b' =>
        rw [hf] at h1
        refine .step h1 ?_
        have := ih (pre ++ [x]) b' (by rw [h]; simp) (by simpa using h2 b' hf)
        simpa using this
  exact key l [] b rfl h0
/-- .. that always goes to its end -/
theorem Lp.fold {α β S R : Type} {body : Nat → S → Option (S ⊕ R)} (l : List α) (st : β → Int → S) (f : β → α → β) (fin : β → R) (Inv : Nat → β → Prop)
    (hs : ∀ i x b, l[i]? = some x → Inv i b → Ev (fun k => body k (st b i)) (.inl (st (f b x) ((i : Int) + 1))) ∧ Inv (i + 1) (f b x))
    (hd : ∀ b, Inv l.length b → Ev (fun k => body k (st b l.length)) (.inr (fin b))) {b : β} (h0 : Inv 0 b) : Lp body (st b 0) (fin (l.foldl f b)) := by
  have := Lp.walk (body := body) l st (fun b x => .inl (f b x)) fin Inv (fun i x b hx hi => ⟨(hs i x b hx hi).1, fun b' hb => by cases hb; exact (hs i x b hx hi).2⟩) hd h0
  have e : ∀ (l : List α) (b : β), Gp.walk (fun b x => (.inl (f b x) : β ⊕ R)) fin l b = fin (l.foldl f b) := by
    intro l
    induction l with
    | nil => intro b; rfl
    | cons x l ih => intro b; rw [walk_cons, List.foldl_cons]; exact ih _
  rwa [e] at this
/-- a loop that counts from 0 to n -/
theorem Lp.count {β S R : Type} {body : Nat → S → Option (S ⊕ R)} (n : Nat) (st : β → Int → S) (f : β → Nat → β) (fin : β → R) (Inv : Nat → β → Prop)
    (hs : ∀ i b, i < n → Inv i b → Ev (fun k => body k (st b i)) (.inl (st (f b i) ((i : Int) + 1))) ∧ Inv (i + 1) (f b i))
    (hd : ∀ b, Inv n b → Ev (fun k => body k (st b n)) (.inr (fin b))) {b : β} (h0 : Inv 0 b) : Lp body (st b 0) (fin ((List.range n).foldl f b)) := by
  refine Lp.fold (List.range n) st f fin Inv (fun i x b hx hi => ?_) (fun b hb => ?_) h0
  · obtain ⟨h1, h2⟩ := List.getElem?_eq_some_iff.1 hx
    rw [List.getElem_range] at h2
    subst h2
    exact hs i b (by simpa using h1) hi
  · rw [List.length_range] at hb ⊢
    exact hd b hb

-- numbers
theorem w64_id {x : Int} (h0 : -9223372036854775808 ≤ x) (h1 : x ≤ 9223372036854775807) : w64 x = x := by
  show IntKind.wrap .i64 x = x
  have e : (2 : Int) ^ (64 - 1) = 9223372036854775808 := by decide
  have e2 : (2 : Int) ^ 64 = 18446744073709551616 := by decide
  simp only [IntKind.wrap, IntKind.signed, IntKind.bits, Bool.true_and, decide_eq_true_eq, e, e2]
  split <;> omega
theorem w64_nat {n : Nat} (h : n ≤ 9223372036854775807) : w64 (n : Int) = n := w64_id (by omega) (by omega)
theorem w64_succ {n : Nat} (h : n < 9223372036854775807) : w64 ((n : Int) + 1) = ((n + 1 : Nat) : Int) := by rw [w64_id (by omega) (by omega)]; omega
theorem rd_nat {α : Type} (l : List α) (i : Nat) : rd l (i : Int) = l[i]? := by
  unfold rd
  rw [if_pos (by omega)]
  rfl
theorem rd_some' {α : Type} {l : List α} {i : Nat} {x : α} (h : l[i]? = some x) : rd l (i : Int) = some x := by rw [rd_nat, h]
theorem rd_at {α : Type} {l : List α} {z : Int} {i : Nat} {x : α} (hz : z = i) (h : l[i]? = some x) : rd l z = some x := by rw [hz, rd_nat, h]
theorem room_ok {n b : Nat} (h : n * b ≤ 140737488355328) : room n b = true := Nat.ble_eq_true_of_le h
theorem get_lt {α : Type} {l : List α} {i : Nat} {x : α} (h : l[i]? = some x) : i < l.length := (List.getElem?_eq_some_iff.1 h).1
theorem get_mem {α : Type} {l : List α} {i : Nat} {x : α} (h : l[i]? = some x) : x ∈ l := List.mem_of_getElem? h
theorem slc_ok {α : Type} {l : List α} {a b : Nat} (h1 : a ≤ b) (h2 : b ≤ l.length) : slc l (a : Int) (b : Int) = some ((l.take b).drop a) := by
  unfold slc
  rw [if_pos ⟨by omega, by omega, by omega⟩]
  simp
theorem slc_tail {α : Type} {l : List α} {a : Nat} (h1 : a ≤ l.length) : slc l (a : Int) (l.length : Int) = some (l.drop a) := by
  rw [slc_ok h1 (Nat.le_refl _), List.take_length]
theorem eqB_iff {k : K} (hc : k.cmp = true) {x y : k.den} : eqB k x y = true ↔ x = y := ⟨eqB_eq hc, fun h => by rw [h]; exact eqB_refl hc⟩
theorem eqB_dec {k : K} (hc : k.cmp = true) {x y : k.den} [Decidable (x = y)] : eqB k x y = decide (x = y) := by
  rw [Bool.eq_iff_iff, eqB_iff hc, decide_eq_true_eq]
theorem streq_iff {a b : ByteArray} : streq a b = true ↔ a = b := ⟨streq_eq, fun h => by rw [h]; exact streq_refl b⟩
theorem lit_wf {k : Int} (h : (Lit.int .i64 k).wf = true) : -9223372036854775808 ≤ k ∧ k ≤ 9223372036854775807 := by
  simp [Lit.wf, IntKind.min, IntKind.max, IntKind.signed, IntKind.bits] at h
  omega

-- bits
theorem wrap64_nat {n : Nat} (h : n < 9223372036854775808) : IntKind.wrap .i64 (n : Int) = n := w64_nat (by omega)
theorem bv_nat (a : Nat) : BitVec.ofInt 64 (a : Int) = BitVec.ofNat 64 a := BitVec.ofInt_natCast 64 a
theorem ibits_and {a b : Nat} (ha : a < 9223372036854775808) (hb : b < 9223372036854775808) : ibits .and .i64 (a : Int) (b : Int) = ((a &&& b : Nat) : Int) := by
  have h : (a &&& b) < 2 ^ 63 := by rw [Nat.and_comm]; exact Nat.and_lt_two_pow _ ha
  show IntKind.wrap .i64 (((BitVec.ofInt 64 (a : Int) &&& BitVec.ofInt 64 (b : Int)).toNat : Nat) : Int) = _
  rw [bv_nat, bv_nat, BitVec.toNat_and, BitVec.toNat_ofNat, BitVec.toNat_ofNat, Nat.mod_eq_of_lt (by omega), Nat.mod_eq_of_lt (by omega)]
  exact wrap64_nat h
theorem ibits_or {a b : Nat} (ha : a < 9223372036854775808) (hb : b < 9223372036854775808) : ibits .or .i64 (a : Int) (b : Int) = ((a ||| b : Nat) : Int) := by
  have h : (a ||| b) < 2 ^ 63 := Nat.or_lt_two_pow ha hb
  show IntKind.wrap .i64 (((BitVec.ofInt 64 (a : Int) ||| BitVec.ofInt 64 (b : Int)).toNat : Nat) : Int) = _
  rw [bv_nat, bv_nat, BitVec.toNat_or, BitVec.toNat_ofNat, BitVec.toNat_ofNat, Nat.mod_eq_of_lt (by omega), Nat.mod_eq_of_lt (by omega)]
  exact wrap64_nat h
theorem ibits_xor {a b : Nat} (ha : a < 9223372036854775808) (hb : b < 9223372036854775808) : ibits .xor .i64 (a : Int) (b : Int) = ((a ^^^ b : Nat) : Int) := by
  have h : (a ^^^ b) < 2 ^ 63 := Nat.xor_lt_two_pow ha hb
  show IntKind.wrap .i64 (((BitVec.ofInt 64 (a : Int) ^^^ BitVec.ofInt 64 (b : Int)).toNat : Nat) : Int) = _
  rw [bv_nat, bv_nat, BitVec.toNat_xor, BitVec.toNat_ofNat, BitVec.toNat_ofNat, Nat.mod_eq_of_lt (by omega), Nat.mod_eq_of_lt (by omega)]
  exact wrap64_nat h
theorem ibits_andNot {a b : Nat} (ha : a < 9223372036854775808) (hb : b < 9223372036854775808) : ibits .andNot .i64 (a : Int) (b : Int) = ((a ^^^ (a &&& b) : Nat) : Int) := by
  have h1 : (a &&& b) < 2 ^ 63 := by rw [Nat.and_comm]; exact Nat.and_lt_two_pow _ ha
  have h : (a ^^^ (a &&& b)) < 2 ^ 63 := Nat.xor_lt_two_pow ha h1
  have e : (BitVec.ofNat 64 a &&& ~~~ BitVec.ofNat 64 b).toNat = a ^^^ (a &&& b) := by
    apply Nat.eq_of_testBit_eq
    intro i
    rw [BitVec.testBit_toNat, BitVec.getLsbD_and, BitVec.getLsbD_not, BitVec.getLsbD_ofNat, BitVec.getLsbD_ofNat, Nat.testBit_xor, Nat.testBit_and]
    by_cases hi : i < 64
    · cases a.testBit i <;> cases b.testBit i <;> simp [hi]
    · have : a.testBit i = false := Nat.testBit_lt_two_pow (Nat.lt_of_lt_of_le ha (Nat.le_trans (by decide : 9223372036854775808 ≤ 2 ^ 64) (Nat.pow_le_pow_right (by decide) (by omega))))
      simp [this]
  show IntKind.wrap .i64 (((BitVec.ofInt 64 (a : Int) &&& ~~~ BitVec.ofInt 64 (b : Int)).toNat : Nat) : Int) = _
  rw [bv_nat, bv_nat, e]
  exact wrap64_nat h
theorem pow_small {j : Nat} (h : j < 63) : 2 ^ j < 9223372036854775808 := by
  have : 2 ^ j < 2 ^ 63 := Nat.pow_lt_pow_right (by decide) h
  simpa using this
theorem shlI_nat {a j : Nat} (hj : j ≤ 64) (h : a * 2 ^ j < 9223372036854775808) : shlI .i64 (a : Int) (j : Int) = ((a * 2 ^ j : Nat) : Int) := by
  unfold shlI
  simp only [IntKind.bits, Int.toNat_natCast]
  rw [Nat.min_eq_left hj, show ((a : Int) * 2 ^ j) = ((a * 2 ^ j : Nat) : Int) by simp]
  exact wrap64_nat h
theorem shlI_one {j : Nat} (h : j < 63) : shlI .i64 1 (j : Int) = ((2 ^ j : Nat) : Int) := by
  have := shlI_nat (a := 1) (j := j) (by omega) (by rw [Nat.one_mul]; exact pow_small h)
  simpa using this
theorem shrI_nat {a j : Nat} (hj : j ≤ 64) : shrI .i64 (a : Int) (j : Int) = ((a / 2 ^ j : Nat) : Int) := by
  unfold shrI
  simp only [IntKind.bits, Int.toNat_natCast]
  rw [Nat.min_eq_left hj, show ((2 : Int) ^ j) = ((2 ^ j : Nat) : Int) by simp, Int.fdiv_eq_ediv_of_nonneg _ (Int.natCast_nonneg _)]
  simp

-- maps
theorem mget_nil {kk kv : K} {k : kk.den} : mget kk kv [] k = none := rfl
theorem mpos_lt {kk kv : K} {l : List (kk.den × kv.den)} {k : kk.den} (h : mpos kk kv l k < l.length) : ∃ e, l[mpos kk kv l k]? = some e ∧ eqB kk k e.1 = true := by
  have := List.findIdx_getElem (xs := l) (p := fun (e : kk.den × kv.den) => eqB kk k e.1) (w := h)
  exact ⟨_, List.getElem?_eq_getElem h, this⟩
theorem find_modify {α : Type} {p : α → Bool} {x : α} : ∀ {l : List α} {i : Nat}, (∀ y, l[i]? = some y → p y = p x) → p x = false → (l.modify i (fun _ => x)).find? p = l.find? p
  | [], i, _, _ => by simp
  | y :: l, 0, h, hx => by
    have := h y rfl
    rw [hx] at this
    simp [List.modify, List.find?, this, hx]
  | y :: l, i + 1, h, hx => by
    have ih := find_modify (l := l) (i := i) (fun z hz => h z (by simpa using hz)) hx
    simp only [List.modify_succ_cons, List.find?_cons]
    rw [ih]
theorem find_modify_at {α : Type} {p : α → Bool} {x : α} (hx : p x = true) : ∀ {l : List α}, l.findIdx p < l.length → (l.modify (l.findIdx p) (fun _ => x)).find? p = some x
  | [], h => by simp at h
  | y :: l, h => by
    rw [List.findIdx_cons] at h ⊢
    cases hy : p y with
    | true => simp [hx]
    | false =>
      rw [hy] at h
      simp only [cond_false, List.length_cons] at h ⊢
      rw [List.modify_succ_cons, List.find?_cons, hy]
      exact find_modify_at hx (by omega)
theorem mget_mput {kk kv : K} (hc : kk.cmp = true) {l : List (kk.den × kv.den)} {k k' : kk.den} {v : kv.den} : mget kk kv (mput kk kv l k v) k' = if eqB kk k' k = true then some v else mget kk kv l k' := by
  unfold mget mput
  by_cases hk : eqB kk k' k = true
  · have := eqB_eq hc hk
    subst this
    rw [if_pos hk]
    split
    · rename_i h
      rw [show mpos kk kv l k' = l.findIdx (fun e => eqB kk k' e.1) from rfl] at h ⊢
      rw [find_modify_at (by exact hk) h]
      rfl
    · rename_i h
      have hn : l.find? (fun e => eqB kk k' e.1) = none := by
        rw [List.find?_eq_none]
        intro x hx hp
        exact h (List.findIdx_lt_length_of_exists ⟨x, hx, hp⟩)
      rw [List.find?_append, hn]
      simp [hk]
  · rw [if_neg hk]
    have hk' : eqB kk k' k = false := by simpa using hk
    split
    · rename_i h
      rw [find_modify (fun y hy => ?_) (by exact hk')]
      obtain ⟨e, he, hp⟩ := mpos_lt h
      rw [he] at hy
      cases hy
      rw [← eqB_eq hc hp]
    · rw [List.find?_append]
      simp [hk']
theorem foldl_snoc {α β : Type} (g : α → β) : ∀ (l : List α) (o : List β), l.foldl (fun o x => o ++ [g x]) o = o ++ l.map g
  | [], o => by simp
  | x :: l, o => by rw [List.foldl_cons, foldl_snoc g l]; simp
end Go.Proofs.Ytjbdhaenakcclaa.Gp

/- Circuits of gates: bits that are joined; the first state. No program in sight. -/
set_option linter.unusedVariables false
noncomputable section
namespace Go.Proofs.Ytjbdhaenakcclaa.Ec
open Go Go.Proofs.Ytjbdhaenakcclaa.Gp

abbrev Gate := Int × Int × Int × Int × Int
abbrev Cir := Int × List Gate × List Int × List Int × List Int

/-- the lowest bit -/
def bitOf (n : Int) : Nat := (ibits .and .i64 n 1).toNat
theorem bit_and (n : Int) : ibits .and .i64 n 1 = (bitOf n : Int) ∧ bitOf n ≤ 1 := by
  have e : (BitVec.ofInt 64 n &&& BitVec.ofInt 64 1).toNat ≤ 1 := by
    rw [BitVec.toNat_and]
    exact Nat.le_trans Nat.and_le_right (by decide)
  have h : ibits .and .i64 n 1 = (((BitVec.ofInt 64 n &&& BitVec.ofInt 64 1).toNat : Nat) : Int) := wrap64_nat (n := (BitVec.ofInt 64 n &&& BitVec.ofInt 64 1).toNat) (by omega)
  unfold bitOf
  rw [h]
  simp only [Int.toNat_natCast]
  exact ⟨trivial, e⟩
theorem pow60 {i : Nat} (h : i ≤ 60) : 2 ^ i ≤ 1152921504606846976 := by
  have : 2 ^ i ≤ 2 ^ 60 := Nat.pow_le_pow_right (by decide) h
  simpa using this
theorem or_bit {m i b : Nat} (hm : m < 2 ^ i) (hb : b ≤ 1) (hi : i ≤ 60) : ibits .or .i64 (m : Int) (shlI .i64 (b : Int) (i : Int)) = ((m + b * 2 ^ i : Nat) : Int) := by
  have hp := pow60 hi
  have hbp : b * 2 ^ i ≤ 2 ^ i := by
    have := Nat.mul_le_mul_right (2 ^ i) hb
    omega
  rw [shlI_nat (by omega) (by omega), ibits_or (by omega) (by omega)]
  congr 1
  have := Nat.two_pow_add_eq_or_of_lt hm b
  rw [Nat.mul_comm b, Nat.add_comm, this, Nat.or_comm]
theorem add_bit {m i b : Nat} (hm : m < 2 ^ i) (hb : b ≤ 1) (hi : i ≤ 60) : w64 ((m : Int) + shlI .i64 (b : Int) (i : Int)) = ((m + b * 2 ^ i : Nat) : Int) := by
  have hp := pow60 hi
  have hbp : b * 2 ^ i ≤ 2 ^ i := by
    have := Nat.mul_le_mul_right (2 ^ i) hb
    omega
  rw [shlI_nat (by omega) (by omega), show ((m : Int) + ((b * 2 ^ i : Nat) : Int)) = ((m + b * 2 ^ i : Nat) : Int) by omega]
  exact w64_nat (by omega)
/-- bits joined, the lowest first -/
def pk (l : List Nat) : Nat := l.foldr (fun b m => b + 2 * m) 0
theorem pk_snoc : ∀ (l : List Nat) (b : Nat), pk (l ++ [b]) = pk l + b * 2 ^ l.length
  | [], b => by simp [pk]
  | x :: l, b => by
    have ih := pk_snoc l b
    simp only [pk, List.cons_append, List.foldr_cons, List.length_cons] at ih ⊢
    rw [ih, Nat.pow_succ, Nat.mul_add, Nat.add_assoc]
    congr 2
    rw [Nat.mul_left_comm, Nat.mul_comm 2 (2 ^ l.length)]
theorem pk_lt : ∀ (l : List Nat), (∀ b ∈ l, b ≤ 1) → pk l < 2 ^ l.length
  | [], _ => by simp [pk]
  | x :: l, h => by
    have ih := pk_lt l (fun b hb => h b (List.mem_cons_of_mem _ hb))
    have := h x List.mem_cons_self
    simp only [pk, List.foldr_cons, List.length_cons, Nat.pow_succ] at ih ⊢
    omega

/-- the first state -/
def first (c : Cir) : Nat := pk ((c.2.2.2.2.take 10).map bitOf)
theorem bits_ok (l : List Int) : ∀ b ∈ l.map bitOf, b ≤ 1 := by
  intro b hb
  obtain ⟨x, _, rfl⟩ := List.mem_map.1 hb
  exact (bit_and x).2
theorem take_snoc {l : List Int} {i : Nat} {x : Int} (h : l[i]? = some x) : l.take (i + 1) = l.take i ++ [x] := by
  rw [List.take_add_one, h]; rfl
theorem start_ev (c : Cir) : Ev (fun k => Start80 k c) ((first c : Int), ()) := by
  unfold Start80
  have e : mnI (c.2.2.2.2.length : Int) 10 = ((min c.2.2.2.2.length 10 : Nat) : Int) := by unfold mnI; split <;> omega
  refine .val (a := c.2.2.2.2.take 10) ?_ (.bind (a := (first c : Int)) (Lp.ev ?_) (.now _))
  · rw [e, show (0 : Int) = ((0 : Nat) : Int) from rfl, slc_ok (Nat.zero_le _) (by omega)]
    simp [List.take_eq_take_iff]
    omega
  generalize hl : c.2.2.2.2.take 10 = l
  have hll : l.length ≤ 10 := by rw [← hl, List.length_take]; omega
  have hf : first c = pk (l.map bitOf) := by unfold first; rw [hl]
  have := Lp.fold (body := fun k => Start80.l0 k l) l (fun (m : List Nat) i => ((pk m : Int), i)) (fun m x => m ++ [bitOf x]) (fun m => (pk m : Int)) (fun i m => m = (l.take i).map bitOf) (fun i x m hx hm => ⟨?_, ?_⟩) (fun m _ => ?_) (b := []) rfl
  · rw [foldl_snoc, List.nil_append, ← hf] at this
    exact this
  · have hi := get_lt hx
    have hlen : m.length = i := by rw [hm, List.length_map, List.length_take]; omega
    have hlt : pk m < 2 ^ i := by rw [← hlen]; exact pk_lt m (by rw [hm]; exact bits_ok _)
    simp only [Start80.l0]
    refine .yes (decide_eq_true (by omega)) (.val (rd_some' hx) (.val (a := shlI .i64 (bitOf x : Int) (i : Int)) ?_ (.now' ?_)))
    · rw [if_neg (by omega), (bit_and x).1]
    · rw [or_bit hlt (bit_and x).2 (by omega), pk_snoc, hlen, w64_id (by omega) (by omega)]
  · rw [hm, take_snoc hx, List.map_append]; rfl
  · simp only [Start80.l0]
    exact .no (by simp) (.now _)
end Go.Proofs.Ytjbdhaenakcclaa.Ec

/- Circuits of gates: what is wrong with one. No program in sight. -/
set_option linter.unusedVariables false
noncomputable section
namespace Go.Proofs.Ytjbdhaenakcclaa.Ec
open Go Go.Proofs.Ytjbdhaenakcclaa.Gp

def needs (kd : Int) : Int := if kd = 3 then 1 else if kd = 4 ∨ kd = 5 ∨ kd = 6 then 2 else if kd = 7 then 3 else 0
def mostN (c : Cir) (kd : Int) : Int := if kd = 0 then 2 else if kd = 1 then c.1 else if kd = 2 then (c.2.2.2.1.length : Int) else 1
def leg (i n k x : Int) : Int := if k < n ∧ (x < 0 ∨ x ≥ i) then 9 else if k ≥ n ∧ x ≠ 0 then 3 else 0
def legs (i : Int) (g : Gate) : Int :=
  if leg i (needs g.1) 0 g.2.1 ≠ 0 then leg i (needs g.1) 0 g.2.1 else
  if leg i (needs g.1) 1 g.2.2.1 ≠ 0 then leg i (needs g.1) 1 g.2.2.1 else leg i (needs g.1) 2 g.2.2.2.1
def oneF (c : Cir) (i : Int) (g : Gate) : Int :=
  if g.1 < 0 ∨ g.1 > 7 then 1 else if legs i g ≠ 0 then legs i g else if g.2.2.2.2 < 0 ∨ g.2.2.2.2 ≥ mostN c g.1 then 1 else 0
theorem kinds {kd : Int} (h : ¬ (kd < 0 ∨ kd > 7)) : kd = 0 ∨ kd = 1 ∨ kd = 2 ∨ kd = 3 ∨ kd = 4 ∨ kd = 5 ∨ kd = 6 ∨ kd = 7 := by omega
theorem inputs_ev (kd : Int) : Ev (fun k => inputs79 k kd) (if kd < 0 ∨ kd > 7 then -1 else needs kd, ()) := by
  unfold inputs79
  have e : cond (decide (kd < 0)) true (decide (kd ≥ 8)) = decide (kd < 0 ∨ kd > 7) := by
    by_cases h : kd < 0
    · simp [h]
    · simp only [decide_eq_false h, cond_false, false_or, h]
      exact decide_eq_decide.2 (by omega)
  rw [e]
  refine .iff (fun h => .now' (by rw [if_pos h])) (fun h => ?_)
  rw [if_neg h]
  rcases kinds h with rfl | rfl | rfl | rfl | rfl | rfl | rfl | rfl <;> exact .val rfl (.val rfl (.now _))

theorem leg_step (c : Cir) (i : Int) (g : Gate) (n j x : Int) (l : List Int) (hl : l = [g.2.1, g.2.2.1, g.2.2.2.1]) (h3 : j < 3) (hx : rd l j = some x) (h0 : 0 ≤ j) :
    Ev (fun k => one72.l0 k i g (n, ()) (c, g, (), j, l)) (if leg i n j x ≠ 0 then .inr (.inr (leg i n j x, ())) else .inl (c, g, (), j + 1, l)) := by
  simp only [one72.l0]
  refine .yes (decide_eq_true (by simpa using h3)) (.val hx (.val hx ?_))
  unfold leg
  by_cases h1 : j < n ∧ (x < 0 ∨ x ≥ i)
  · refine .yes ?_ (.now' (by rw [if_pos h1]; rfl))
    rw [decide_eq_true h1.1]
    rcases h1.2 with h2 | h2
    · rw [decide_eq_true h2]; rfl
    · by_cases h4 : x < 0 <;> simp [h2, h4]
  · refine .no ?_ ?_
    · by_cases h2 : j < n
      · have h5 : ¬ (x < 0 ∨ x ≥ i) := fun h => h1 ⟨h2, h⟩
        simp only [not_or] at h5
        rw [decide_eq_true h2, decide_eq_false h5.1, decide_eq_false h5.2]; rfl
      · rw [decide_eq_false h2]; rfl
    · rw [if_neg h1]
      by_cases h2 : j ≥ n ∧ x ≠ 0
      · refine .yes ?_ (.now' (by rw [if_pos h2]; rfl))
        rw [decide_eq_true h2.1, bne_iff_ne.2 h2.2]; rfl
      · refine .no ?_ (.now' (by rw [if_neg h2, w64_id (by omega) (by omega)]; rfl))
        by_cases h4 : j ≥ n
        · have : x = 0 := by
            by_cases h5 : x = 0
            · exact h5
            · exact absurd ⟨h4, h5⟩ h2
          rw [this]; simp
        · rw [decide_eq_false h4]; rfl
theorem legs_lp {S R : Type} {body : Nat → S → Option (S ⊕ R)} {s0 s1 s2 s3 : S} {r0 r1 r2 r3 : R} {f0 f1 f2 : Int}
    (h0 : Ev (fun k => body k s0) (if f0 ≠ 0 then .inr r0 else .inl s1)) (h1 : Ev (fun k => body k s1) (if f1 ≠ 0 then .inr r1 else .inl s2)) (h2 : Ev (fun k => body k s2) (if f2 ≠ 0 then .inr r2 else .inl s3)) (h3 : Ev (fun k => body k s3) (.inr r3)) :
    Lp body s0 (if f0 ≠ 0 then r0 else if f1 ≠ 0 then r1 else if f2 ≠ 0 then r2 else r3) := by
  by_cases g0 : f0 ≠ 0
  · rw [if_pos g0] at h0 ⊢; exact .done h0
  rw [if_neg g0] at h0 ⊢
  refine .step h0 ?_
  by_cases g1 : f1 ≠ 0
  · rw [if_pos g1] at h1 ⊢; exact .done h1
  rw [if_neg g1] at h1 ⊢
  refine .step h1 ?_
  by_cases g2 : f2 ≠ 0
  · rw [if_pos g2] at h2 ⊢; exact .done h2
  rw [if_neg g2] at h2 ⊢
  exact .step h2 (.done h3)

theorem one_ev (c : Cir) (i : Int) (g : Gate) (hg : rd c.2.1 i = some g) : Ev (fun k => one72 k c i) (oneF c i g, ()) := by
  unfold one72
  refine .val hg (.bind (inputs_ev g.1) ?_)
  unfold oneF
  by_cases h : g.1 < 0 ∨ g.1 > 7
  · rw [if_pos h, if_pos h]; exact .yes rfl (.now _)
  rw [if_neg h, if_neg h]
  have hn : ¬ needs g.1 < 0 := by unfold needs; split <;> (try split) <;> (try split) <;> omega
  refine .no (decide_eq_false hn) ?_
  have hlp := legs_lp (body := fun k => one72.l0 k i g (needs g.1, ())) (s3 := (c, g, (), 3, [g.2.1, g.2.2.1, g.2.2.2.1])) (r3 := .inl (c, g))
    (leg_step c i g (needs g.1) 0 g.2.1 _ rfl (by omega) rfl (by omega)) (leg_step c i g (needs g.1) 1 g.2.2.1 _ rfl (by omega) rfl (by omega)) (leg_step c i g (needs g.1) 2 g.2.2.2.1 _ rfl (by omega) rfl (by omega))
    (by simp only [one72.l0]; exact .no rfl (.now _))
  have hr : (if leg i (needs g.1) 0 g.2.1 ≠ 0 then (.inr (leg i (needs g.1) 0 g.2.1, ()) : (Cir × Gate) ⊕ (Int × Unit)) else if leg i (needs g.1) 1 g.2.2.1 ≠ 0 then .inr (leg i (needs g.1) 1 g.2.2.1, ()) else if leg i (needs g.1) 2 g.2.2.2.1 ≠ 0 then .inr (leg i (needs g.1) 2 g.2.2.2.1, ()) else .inl (c, g)) =
      if legs i g ≠ 0 then .inr (legs i g, ()) else .inl (c, g) := by
    unfold legs
    by_cases g0 : leg i (needs g.1) 0 g.2.1 ≠ 0
    · rw [if_pos g0, if_pos g0, if_pos g0]
    · rw [if_neg g0, if_neg g0]
      by_cases g1 : leg i (needs g.1) 1 g.2.2.1 ≠ 0
      · rw [if_pos g1, if_pos g1, if_pos g1]
      · rw [if_neg g1, if_neg g1]
  rw [hr] at hlp
  by_cases hl : legs i g ≠ 0
  · rw [if_pos hl] at hlp ⊢
    exact .joinR hlp.ev
  · rw [if_neg hl] at hlp ⊢
    refine .joinL (S := Unit) hlp.ev ?_
    have hm : rd ([2, c.1, (List.length c.2.2.2.1 : Int), 1, 1, 1, 1, 1] : List Int) g.1 = some (mostN c g.1) := by
      generalize g.1 = kd at h
      rcases kinds h with rfl | rfl | rfl | rfl | rfl | rfl | rfl | rfl <;> rfl
    refine .val hm (.val hm ?_)
    by_cases h2 : g.2.2.2.2 < 0 ∨ g.2.2.2.2 ≥ mostN c g.1
    · refine .yes ?_ (.now' (by rw [if_pos h2]))
      rcases h2 with h2 | h2
      · simp [h2]
      · by_cases h4 : g.2.2.2.2 < 0 <;> simp [h2, h4]
    · refine .no ?_ (.now' (by rw [if_neg h2]))
      simp only [not_or] at h2
      rw [decide_eq_false h2.1, decide_eq_false h2.2]; rfl
end Go.Proofs.Ytjbdhaenakcclaa.Ec

/- Circuits of gates: what is wrong with one, said twice. No program in sight. -/
set_option linter.unusedVariables false
noncomputable section
namespace Go.Proofs.Ytjbdhaenakcclaa.Ec
open Go Go.Proofs.Ytjbdhaenakcclaa.Gp

def nds : List (Int × Int) := mput (.int .i64) (.int .i64) (mput (.int .i64) (.int .i64) (mput (.int .i64) (.int .i64) (mput (.int .i64) (.int .i64) (mput (.int .i64) (.int .i64) ([] : (List (Int × Int))) (3 : Int) (1 : Int)) (4 : Int) (2 : Int)) (5 : Int) (2 : Int)) (6 : Int) (2 : Int)) (7 : Int) (3 : Int)
theorem nds_get {kd : Int} (h : ¬ (kd < 0 ∨ kd > 7)) : Option.getD (α := Int) (mget (.int .i64) (.int .i64) nds kd) (0 : Int) = needs kd := by
  rcases kinds h with rfl | rfl | rfl | rfl | rfl | rfl | rfl | rfl <;> rfl
theorem most_get (c : Cir) {kd : Int} (h : ¬ (kd < 0 ∨ kd > 7)) : Option.getD (α := Int) (mget (.int .i64) (.int .i64) (mput (.int .i64) (.int .i64) (mput (.int .i64) (.int .i64) (mput (.int .i64) (.int .i64) ([] : (List (Int × Int))) (0 : Int) (1 : Int)) (1 : Int) (w64 (c.1 - 1))) (2 : Int) (w64 ((List.length c.2.2.2.1 : Int) - 1))) kd) (0 : Int) =
    if kd = 0 then 1 else if kd = 1 then w64 (c.1 - 1) else if kd = 2 then w64 ((List.length c.2.2.2.1 : Int) - 1) else 0 := by
  rcases kinds h with rfl | rfl | rfl | rfl | rfl | rfl | rfl | rfl <;> rfl

theorem leg_step2 (c : Cir) (i : Int) (g : Gate) (hi0 : 0 ≤ i) (hi1 : i ≤ 1000) (t62 : Option Int) (n j x : Int) (ht : Option.getD (α := Int) t62 (0 : Int) = n) (h3 : j < 3) (hx : rd ([g.2.1, g.2.2.1, g.2.2.2.1] : List Int) j = some x) (h0 : 0 ≤ j) :
    Ev (fun k => CircuitFault14.l0 k i g t62 (c, g, j)) (if leg i n j x ≠ 0 then .inr (.inr (.inr (.inr (leg i n j x, ())))) else .inl (c, g, j + 1)) := by
  simp only [CircuitFault14.l0, ht]
  refine .yes (decide_eq_true h3) (.val hx ?_)
  rw [w64_id (x := i - 1) (by omega) (by omega)]
  unfold leg
  by_cases h2 : j ≥ n ∧ x ≠ 0
  · have h1 : ¬ (j < n ∧ (x < 0 ∨ x ≥ i)) := fun h => by omega
    refine .yes ?_ (.now' (by rw [if_neg h1, if_pos h2]; rfl))
    rw [decide_eq_true h2.1, bne_iff_ne.2 h2.2]; rfl
  · refine .no ?_ ?_
    · by_cases h4 : j ≥ n
      · have : x = 0 := by
          by_cases h5 : x = 0
          · exact h5
          · exact absurd ⟨h4, h5⟩ h2
        rw [this]; simp
      · rw [decide_eq_false h4]; rfl
    · by_cases h1 : j < n ∧ (x < 0 ∨ x ≥ i)
      · refine .yes ?_ (.now' (by rw [if_pos h1]; rfl))
        rw [decide_eq_true h1.1]
        rcases h1.2 with h5 | h5
        · rw [decide_eq_true h5]; rfl
        · rw [decide_eq_true (show x > i - 1 by omega)]
          by_cases h4 : x < 0 <;> simp [h4]
      · refine .no ?_ (.now' (by rw [if_neg h1, if_neg h2, w64_id (by omega) (by omega)]; rfl))
        by_cases h5 : j < n
        · have h6 : ¬ (x < 0 ∨ x ≥ i) := fun h => h1 ⟨h5, h⟩
          simp only [not_or] at h6
          rw [decide_eq_true h5, decide_eq_false h6.1, decide_eq_false (by omega)]; rfl
        · rw [decide_eq_false h5]; rfl

/-- all gates -/
def gW (c : Cir) (b : Nat) (g : Gate) : Nat ⊕ (Cir ⊕ (Int × Unit)) := if oneF c b g = 0 then .inl (b + 1) else .inr (.inr (oneF c b g, ()))
def gatesW (c : Cir) : Cir ⊕ (Int × Unit) := walk (gW c) (fun _ => .inl c) c.2.1 0
theorem check_gates (c : Cir) (hl : c.2.1.length ≤ 400) : Lp (fun k => Check18.l0 k c) (c, 0) (gatesW c) := by
  refine Lp.walk (body := fun k => Check18.l0 k c) c.2.1 (fun (_ : Nat) i => (c, i)) (gW c) (fun _ => .inl c) (fun i b => b = i) (fun i g b hx hb => ⟨?_, fun b' h => ?_⟩) (fun b _ => ?_) (b := 0) rfl
  · have hi := get_lt hx
    subst hb
    simp only [Check18.l0]
    refine .yes (decide_eq_true (by omega)) (.bind (one_ev c b g (rd_some' hx)) ?_)
    unfold gW
    by_cases h : oneF c b g = 0
    · rw [if_pos h]
      refine .no (by rw [h]; rfl) (.now' ?_)
      rw [w64_id (by omega) (by omega)]
    · rw [if_neg h]
      exact .yes (bne_iff_ne.2 h) (.now _)
  · subst hb
    unfold gW at h
    split at h <;> cases h
    rfl
  · simp only [Check18.l0]
    exact .no (by simp) (.now _)
theorem fault_gates (c : Cir) (hl : c.2.1.length ≤ 400) (h0 : 0 ≤ c.1) (h1 : c.1 ≤ 10) (h2 : c.2.2.2.1.length ≤ 10) : Lp (fun k => CircuitFault14.l1 k c) (c, 0) (gatesW c) := by
  refine Lp.walk (body := fun k => CircuitFault14.l1 k c) c.2.1 (fun (_ : Nat) i => (c, i)) (gW c) (fun _ => .inl c) (fun i b => b = i) (fun i g b hx hb => ⟨?_, fun b' h => ?_⟩) (fun b _ => ?_) (b := 0) rfl
  · have hi := get_lt hx
    subst hb
    simp only [CircuitFault14.l1]
    refine .yes (decide_eq_true (by omega)) (.val (rd_some' hx) ?_)
    have e : cond (decide (g.1 < 0)) true (decide (g.1 > 7)) = decide (g.1 < 0 ∨ g.1 > 7) := by by_cases h : g.1 < 0 <;> simp [h]
    rw [e]
    unfold gW oneF
    refine .iff (fun h => .now' ?_) (fun h => ?_)
    · rw [if_pos h, if_neg (show ¬ (1 : Int) = 0 by omega)]
    rw [if_neg h]
    have hn : Option.getD (α := Int) (mget (.int .i64) (.int .i64) nds g.1) (0 : Int) = needs g.1 := nds_get h
    have hlp := legs_lp (body := fun k => CircuitFault14.l0 k b g (mget (.int .i64) (.int .i64) nds g.1)) (s3 := (c, g, 3)) (r3 := .inl (c, g))
      (leg_step2 c b g (by omega) (by omega) _ (needs g.1) 0 g.2.1 hn (by omega) rfl (by omega)) (leg_step2 c b g (by omega) (by omega) _ (needs g.1) 1 g.2.2.1 hn (by omega) rfl (by omega)) (leg_step2 c b g (by omega) (by omega) _ (needs g.1) 2 g.2.2.2.1 hn (by omega) rfl (by omega))
      (by simp only [CircuitFault14.l0]; exact .no rfl (.now _))
    have hr : (if leg b (needs g.1) 0 g.2.1 ≠ 0 then (.inr (.inr (.inr (leg b (needs g.1) 0 g.2.1, ()))) : (Cir × Gate) ⊕ ((Cir × Int) ⊕ (Cir ⊕ (Int × Unit)))) else if leg b (needs g.1) 1 g.2.2.1 ≠ 0 then .inr (.inr (.inr (leg b (needs g.1) 1 g.2.2.1, ()))) else if leg b (needs g.1) 2 g.2.2.2.1 ≠ 0 then .inr (.inr (.inr (leg b (needs g.1) 2 g.2.2.2.1, ()))) else .inl (c, g)) =
        if legs b g ≠ 0 then .inr (.inr (.inr (legs b g, ()))) else .inl (c, g) := by
      unfold legs
      by_cases g0 : leg b (needs g.1) 0 g.2.1 ≠ 0
      · rw [if_pos g0, if_pos g0, if_pos g0]
      · rw [if_neg g0, if_neg g0]
        by_cases g1 : leg b (needs g.1) 1 g.2.2.1 ≠ 0
        · rw [if_pos g1, if_pos g1, if_pos g1]
        · rw [if_neg g1, if_neg g1]
    rw [hr] at hlp
    by_cases hl : legs b g ≠ 0
    · rw [if_pos hl] at hlp ⊢
      refine .joinR (hlp.ev.to ?_)
      rw [if_neg hl]
    · rw [if_neg hl] at hlp ⊢
      refine .joinL (S := Unit) hlp.ev ?_
      dsimp only
      rw [most_get c h]
      have hm : (g.2.2.2.2 > if g.1 = 0 then 1 else if g.1 = 1 then w64 (c.1 - 1) else if g.1 = 2 then w64 ((List.length c.2.2.2.1 : Int) - 1) else 0) ↔ g.2.2.2.2 ≥ mostN c g.1 := by
        rw [w64_id (x := c.1 - 1) (by omega) (by omega), w64_id (x := (List.length c.2.2.2.1 : Int) - 1) (by omega) (by omega)]
        unfold mostN
        split <;> (try split) <;> (try split) <;> omega
      by_cases h5 : g.2.2.2.2 < 0 ∨ g.2.2.2.2 ≥ mostN c g.1
      · rw [if_pos h5, if_neg (show ¬ (1 : Int) = 0 by omega)]
        refine .yes ?_ (.now _)
        rcases h5 with h5 | h5
        · rw [decide_eq_true h5]; rfl
        · rw [decide_eq_true (hm.2 h5)]
          by_cases h4 : g.2.2.2.2 < 0 <;> simp [h4]
      · rw [if_neg h5, if_pos (rfl : (0 : Int) = 0)]
        simp only [not_or] at h5
        refine .no ?_ (.now' ?_)
        · rw [decide_eq_false h5.1, decide_eq_false (fun h => h5.2 (hm.1 h))]; rfl
        · rw [w64_id (by omega) (by omega)]
  · subst hb
    unfold gW at h
    split at h <;> cases h
    rfl
  · simp only [CircuitFault14.l1]
    exact .no (by simp) (.now _)
end Go.Proofs.Ytjbdhaenakcclaa.Ec

/- Circuits of gates: the checks are one. No program in sight. -/

set_option linter.unusedVariables false
noncomputable section
namespace Go.Proofs.Ytjbdhaenakcclaa.Ec
open Go Go.Proofs.Ytjbdhaenakcclaa.Gp

theorem walk_bad {α R : Type} (bad : α → Bool) (e fin : R) : ∀ (l : List α), walk (fun (_ : Unit) x => if bad x then (.inr e : Unit ⊕ R) else .inl ()) (fun _ => fin) l () = if l.any bad then e else fin
  | [] => rfl
  | x :: l => by
    rw [walk_cons, List.any_cons]
    cases h : bad x with
    | true => simp
    | false => simpa using walk_bad bad e fin l
def badX (c : Cir) (x : Int) : Bool := decide (x < 0 ∨ x ≥ (c.2.1.length : Int))
theorem badX_or (c : Cir) (x : Int) : cond (decide (x < 0)) true (decide (x ≥ (c.2.1.length : Int))) = badX c x := by
  unfold badX
  by_cases h : x < 0 <;> simp [h]
theorem check_range (c : Cir) (l : List Int) (hl : l.length ≤ 1000) : Lp (fun k => Check18.l1 k (l, ())) (c, 0) (if l.any (badX c) then .inr (4, ()) else .inl c) := by
  rw [← walk_bad (R := Cir ⊕ (Int × Unit))]
  refine Lp.walk (body := fun k => Check18.l1 k (l, ())) l (fun (_ : Unit) i => (c, i)) _ _ (fun _ _ => True) (fun i x b hx _ => ⟨?_, fun _ _ => trivial⟩) (fun b _ => ?_) (b := ()) trivial
  · have hi := get_lt hx
    simp only [Check18.l1]
    refine .yes (decide_eq_true (by omega)) (.val (rd_some' hx) (.cnd (fun h => .now' ?_) (fun h => .now' ?_)))
    · rw [badX_or] at h; rw [if_pos h]
    · rw [badX_or] at h; rw [h, w64_id (by omega) (by omega)]; rfl
  · simp only [Check18.l1]
    exact .no (by simp) (.now _)
theorem fault_range1 (c : Cir) (l : List Int) (o : List (List Int)) (hl : l.length ≤ 1000) : Lp (fun k => CircuitFault14.l2 k l) (c, (), 0, o) (if l.any (badX c) then .inr (.inr (.inr (4, ()))) else .inl (c, (), o)) := by
  rw [← walk_bad (R := (Cir × (Unit × (List (List Int)))) ⊕ ((Cir × (Unit × (Int × (List (List Int))))) ⊕ (Cir ⊕ (Int × Unit))))]
  refine Lp.walk (body := fun k => CircuitFault14.l2 k l) l (fun (_ : Unit) i => (c, (), i, o)) _ _ (fun _ _ => True) (fun i x b hx _ => ⟨?_, fun _ _ => trivial⟩) (fun b _ => ?_) (b := ()) trivial
  · have hi := get_lt hx
    simp only [CircuitFault14.l2]
    refine .yes (decide_eq_true (by omega)) (.val (rd_some' hx) (.cnd (fun h => .now' ?_) (fun h => .now' ?_)))
    · rw [badX_or] at h; rw [if_pos h]
    · rw [badX_or] at h; rw [h, w64_id (by omega) (by omega)]; rfl
  · simp only [CircuitFault14.l2]
    exact .no (by simp) (.now _)
theorem fault_range (c : Cir) (h1 : c.2.2.1.length ≤ 10) (h2 : c.2.2.2.1.length ≤ 10) : Lp (fun k => CircuitFault14.l3 k c) (c, (), 0, [c.2.2.1, c.2.2.2.1]) (if (c.2.2.1 ++ c.2.2.2.1).any (badX c) then .inr (4, ()) else .inl c) := by
  have r1 := fault_range1 c c.2.2.1 [c.2.2.1, c.2.2.2.1] (by omega)
  have r2 := fault_range1 c c.2.2.2.1 [c.2.2.1, c.2.2.2.1] (by omega)
  rw [List.any_append]
  cases e1 : c.2.2.1.any (badX c) with
  | true =>
    rw [e1] at r1
    refine .done ?_
    simp only [CircuitFault14.l3]
    exact .yes rfl (.val rfl (.val rfl (.joinR r1.ev)))
  | false =>
    rw [e1] at r1
    refine .step (s' := (c, (), 1, [c.2.2.1, c.2.2.2.1])) ?_ ?_
    · simp only [CircuitFault14.l3]
      exact .yes rfl (.val rfl (.val rfl (.joinL (S := Unit) r1.ev (.now' (by rw [w64_id (by omega) (by omega)]; rfl)))))
    · cases e2 : c.2.2.2.1.any (badX c) with
      | true =>
        rw [e2] at r2
        refine .done ?_
        simp only [CircuitFault14.l3]
        exact .yes rfl (.val rfl (.val rfl (.joinR r2.ev)))
      | false =>
        rw [e2] at r2
        refine .step (s' := (c, (), 2, [c.2.2.1, c.2.2.2.1])) ?_ (.done ?_)
        · simp only [CircuitFault14.l3]
          exact .yes rfl (.val rfl (.val rfl (.joinL (S := Unit) r2.ev (.now' (by rw [w64_id (by omega) (by omega)]; rfl)))))
        · simp only [CircuitFault14.l3]
          exact .no rfl (.now _)

def bad1 (x : Int) : Bool := decide (x ≠ 0 ∧ x ≠ 1)
theorem check_init (c : Cir) (hl : c.2.2.2.2.length ≤ 1000) : Lp (fun k => Check18.l2 k c) 0 (if c.2.2.2.2.any bad1 then .inr (1, ()) else .inl ()) := by
  rw [← walk_bad (R := Unit ⊕ (Int × Unit))]
  refine Lp.walk (body := fun k => Check18.l2 k c) c.2.2.2.2 (fun (_ : Unit) i => i) _ _ (fun _ _ => True) (fun i x b hx _ => ⟨?_, fun _ _ => trivial⟩) (fun b _ => ?_) (b := ()) trivial
  · have hi := get_lt hx
    simp only [Check18.l2]
    have e : cond (x != 0) (x != 1) false = bad1 x := by
      unfold bad1
      by_cases h0 : x = 0 <;> by_cases h1 : x = 1 <;> simp [h0, h1]
    refine .yes (decide_eq_true (by omega)) (.val (rd_some' hx) (.cnd (fun h => .now' ?_) (fun h => .now' ?_)))
    · rw [e] at h; rw [if_pos h]
    · rw [e] at h; rw [h, w64_id (by omega) (by omega)]; rfl
  · simp only [Check18.l2]
    exact .no (by simp) (.now _)
theorem wrap_zero {m : Nat} (h : m < 18446744073709551616) (h0 : IntKind.wrap .i64 (m : Int) = 0) : m = 0 := by
  have e : (2 : Int) ^ (64 - 1) = 9223372036854775808 := by decide
  have e2 : (2 : Int) ^ 64 = 18446744073709551616 := by decide
  simp only [IntKind.wrap, IntKind.signed, IntKind.bits, Bool.true_and, decide_eq_true_eq, e, e2] at h0
  split at h0 <;> omega
theorem andNot_bad {x : Int} (h0 : -9223372036854775808 ≤ x) (h1 : x ≤ 9223372036854775807) : (ibits .andNot .i64 x 1 != 0) = bad1 x := by
  have e : ibits .andNot .i64 x 1 = IntKind.wrap .i64 (((BitVec.ofInt 64 x &&& ~~~ BitVec.ofInt 64 1).toNat : Nat) : Int) := rfl
  unfold bad1
  by_cases hx : x = 0
  · subst hx; rfl
  by_cases hx1 : x = 1
  · subst hx1; rfl
  rw [show decide (x ≠ 0 ∧ x ≠ 1) = true from decide_eq_true ⟨hx, hx1⟩, bne_iff_ne]
  intro hz
  rw [e] at hz
  have hn := wrap_zero (BitVec.isLt _) hz
  have h3 : BitVec.ofInt 64 x = BitVec.ofInt 64 x &&& BitVec.ofInt 64 1 := by
    have hz : BitVec.ofInt 64 x &&& ~~~ BitVec.ofInt 64 1 = 0#64 := BitVec.eq_of_toNat_eq hn
    apply BitVec.eq_of_getLsbD_eq
    intro i hi
    have := congrArg (fun v => BitVec.getLsbD v i) hz
    simp only [BitVec.getLsbD_and, BitVec.getLsbD_not, BitVec.getLsbD_zero, hi, decide_true, Bool.true_and] at this
    rw [BitVec.getLsbD_and]
    cases h4 : (BitVec.ofInt 64 x).getLsbD i <;> cases h5 : (BitVec.ofInt 64 1).getLsbD i <;> simp_all
  have h4 : (BitVec.ofInt 64 x).toNat ≤ 1 := by
    rw [h3, BitVec.toNat_and]
    exact Nat.le_trans Nat.and_le_right (by decide)
  rw [BitVec.toNat_ofInt] at h4
  have e2 : ((2 ^ 64 : Nat) : Int) = 18446744073709551616 := by decide
  rw [e2] at h4
  omega
theorem fault_init (c : Cir) (hl : c.2.2.2.2.length ≤ 1000) (hw : ∀ x ∈ c.2.2.2.2, -9223372036854775808 ≤ x ∧ x ≤ 9223372036854775807) : Lp (fun k => CircuitFault14.l4 k c) 0 (if c.2.2.2.2.any bad1 then .inr (1, ()) else .inl ()) := by
  rw [← walk_bad (R := Unit ⊕ (Int × Unit))]
  refine Lp.walk (body := fun k => CircuitFault14.l4 k c) c.2.2.2.2 (fun (_ : Unit) i => i) _ _ (fun _ _ => True) (fun i x b hx _ => ⟨?_, fun _ _ => trivial⟩) (fun b _ => ?_) (b := ()) trivial
  · have hi := get_lt hx
    simp only [CircuitFault14.l4]
    have e := andNot_bad (hw x (get_mem hx)).1 (hw x (get_mem hx)).2
    refine .yes (decide_eq_true (by omega)) (.val (rd_some' hx) (.cnd (fun h => .now' ?_) (fun h => .now' ?_)))
    · rw [e] at h; rw [if_pos h]
    · rw [e] at h; rw [h, w64_id (by omega) (by omega)]; rfl
  · simp only [CircuitFault14.l4]
    exact .no (by simp) (.now _)

def large (c : Cir) : Bool := decide (c.1 < 0 ∨ c.1 > 10 ∨ c.2.1.length > 400 ∨ c.2.2.1.length > 10 ∨ c.2.2.2.1.length > 10)
theorem large_or (c : Cir) : cond (cond (cond (cond (decide (c.1 < 0)) true (decide (c.1 > 10))) true (decide ((List.length c.2.1 : Int) > 400))) true (decide ((List.length c.2.2.1 : Int) > 10))) true (decide ((List.length c.2.2.2.1 : Int) > 10)) = large c := by
  have e : ∀ a b : Bool, cond a true b = (a || b) := fun a b => by cases a <;> rfl
  simp only [e, large, ← Bool.decide_or]
  exact decide_eq_decide.2 (by omega)
def rest (c : Cir) : Int := if (c.2.2.1 ++ c.2.2.2.1).any (badX c) then 4 else if c.2.2.2.2.any bad1 then 1 else 0
def fault (c : Cir) : Int := if large c then 2 else if c.2.2.2.2.length ≠ c.2.2.2.1.length then 3 else match gatesW c with | .inr e => e.1 | .inl _ => rest c
theorem gatesW_inl (c : Cir) {a : Cir} (h : gatesW c = .inl a) : a = c := by
  have : ∀ (l : List Gate) (b : Nat), walk (gW c) (fun _ => (.inl c : Cir ⊕ (Int × Unit))) l b = .inl a → a = c := by
    intro l
    induction l with
    | nil => intro b h; exact (Sum.inl.inj h).symm
    | cons x l ih =>
      intro b h
      rw [walk_cons] at h
      unfold gW at h
      split at h
      · rename_i b' hb
        exact ih _ h
      · rename_i r hr
        split at hr
        · cases hr
        · cases hr; cases h
  exact this _ _ h
theorem ne_len (c : Cir) : ((List.length c.2.2.2.2 : Int) != (List.length c.2.2.2.1 : Int)) = decide (c.2.2.2.2.length ≠ c.2.2.2.1.length) := by
  rw [Bool.eq_iff_iff, bne_iff_ne, decide_eq_true_iff]; omega
end Go.Proofs.Ytjbdhaenakcclaa.Ec

/- Circuits of gates: the checks are one. No program in sight. -/
set_option linter.unusedVariables false
noncomputable section
namespace Go.Proofs.Ytjbdhaenakcclaa.Ec
open Go Go.Proofs.Ytjbdhaenakcclaa.Gp

theorem room_small {n : Nat} (h : n ≤ 1000) : room n 8 = true := room_ok (by omega)
theorem concat_ev (a b : List Int) (h : a.length + b.length ≤ 1000) : Ev (fun k => Concat59 k [a, b]) (a ++ b, ()) := by
  unfold Concat59
  refine .bind (a := (((a.length + b.length : Nat) : Int))) (Lp.ev ?_) (.bind (a := ((), [])) ?_ (.bind (a := ((), a ++ b)) (Lp.ev ?_) (.now _)))
  · refine Lp.step (s' := ((a.length : Int), 1)) ?_ (Lp.step (s' := (((a.length + b.length : Nat) : Int), 2)) ?_ (Lp.done ?_))
    · simp only [Concat59.l0]
      refine .yes (by simp) (.val (a := a) rfl ?_)
      simp only [w64_id (x := 0 + (a.length : Int)) (by omega) (by omega)]
      refine .val (a := ()) ?_ (.now' ?_)
      · rw [decide_eq_false (by omega)]; rfl
      · simp [w64_id]
    · simp only [Concat59.l0]
      refine .yes (by simp) (.val (a := b) rfl ?_)
      simp only [w64_id (x := (a.length : Int) + (b.length : Int)) (by omega) (by omega)]
      refine .val (a := ()) ?_ (.now' ?_)
      · rw [decide_eq_false (by omega)]; rfl
      · simp [w64_id]
    · simp only [Concat59.l0]
      exact .no (by simp) (.now _)
  · generalize hn : a.length + b.length = n
    have hn' : n ≤ 1000 := hn ▸ h
    unfold Grow112
    have e : w64 ((n : Int) - w64 (0 - 0)) = n := by
      rw [show w64 (0 - 0) = 0 from w64_id (by omega) (by omega), w64_id (by omega) (by omega)]; omega
    refine .val (a := ()) ?_ ?_
    · rw [decide_eq_false (by omega)]; rfl
    · simp only [e]
      refine .bind (a := ((), [])) ?_ (.now _)
      refine .iff (fun h1 => ?_) (fun _ => .now _)
      refine .val (a := ()) (by simp) (.val (a := ()) (by rw [if_pos ⟨h1, by omega⟩]) (.val (a := []) ?_ (.now _)))
      rw [show ((0 : Int)) = ((0 : Nat) : Int) from rfl, slc_ok (Nat.le_refl _) (Nat.zero_le _)]
      rfl
  · refine Lp.step (s' := ((), 1, a)) ?_ (Lp.step (s' := ((), 2, a ++ b)) ?_ (Lp.done ?_))
    · simp only [Concat59.l1]
      refine .yes (by simp) (.val (a := a) rfl (.val (a := ()) ?_ (.now' ?_)))
      · simp [room_small (n := a.length) (by omega)]
      · simp [w64_id]
    · simp only [Concat59.l1]
      refine .yes (by simp) (.val (a := b) rfl (.val (a := ()) ?_ (.now' ?_)))
      · simp [room_small (n := a.length + b.length) (by omega)]
      · simp [w64_id]
    · simp only [Concat59.l1]
      exact .no (by simp) (.now _)


theorem small_of {c : Cir} (h : large c = false) : 0 ≤ c.1 ∧ c.1 ≤ 10 ∧ c.2.1.length ≤ 400 ∧ c.2.2.1.length ≤ 10 ∧ c.2.2.2.1.length ≤ 10 := by
  unfold large at h
  have := of_decide_eq_false h
  omega
theorem check_ev (c : Cir) : Ev (fun k => Check18 k c) (fault c, ()) := by
  unfold Check18
  refine .cnd (fun h => ?_) (fun h => ?_)
  · rw [large_or] at h
    exact .now' (by unfold fault; rw [if_pos h])
  rw [large_or] at h
  obtain ⟨s0, s1, s2, s3, s4⟩ := small_of h
  refine .cnd (fun h2 => ?_) (fun h2 => ?_)
  · rw [ne_len] at h2
    exact .now' (by unfold fault; rw [h, if_neg (by simp), if_pos (of_decide_eq_true h2)])
  rw [ne_len] at h2
  have h2 := of_decide_eq_false h2
  have hf : fault c = match gatesW c with | .inr e => e.1 | .inl _ => rest c := by
    unfold fault; rw [h, if_neg (by simp), if_neg h2] <;> (cases gatesW c <;> rfl)
  have hi : c.2.2.2.2.length ≤ 10 := by
    by_cases h3 : c.2.2.2.2.length = c.2.2.2.1.length
    · omega
    · exact absurd h3 h2
  refine .join (check_gates c s2).ev (fun a ha => ?_) (fun r hr => ?_)
  · obtain rfl := gatesW_inl c ha
    rw [ha] at hf
    rw [hf]
    refine .bind (concat_ev a.2.2.1 a.2.2.2.1 (by omega)) ?_
    have h1 := check_range a (a.2.2.1 ++ a.2.2.2.1) (by rw [List.length_append]; omega)
    have h3 := check_init a (by omega)
    unfold rest
    cases e1 : (a.2.2.1 ++ a.2.2.2.1).any (badX a) with
    | true => rw [e1] at h1; exact .joinR h1.ev
    | false =>
      rw [e1] at h1
      refine .joinL (S := Unit) h1.ev ?_
      cases e2 : a.2.2.2.2.any bad1 with
      | true => rw [e2] at h3; exact .joinR h3.ev
      | false => rw [e2] at h3; exact .joinL (S := Unit) (a := ()) h3.ev (.now _)
  · rw [hf, hr]
theorem cfault_ev (c : Cir) (hw : ∀ x ∈ c.2.2.2.2, -9223372036854775808 ≤ x ∧ x ≤ 9223372036854775807) : Ev (fun k => CircuitFault14 k c) (fault c, ()) := by
  unfold CircuitFault14
  refine .cnd (fun h => ?_) (fun h => ?_)
  · rw [large_or] at h
    exact .now' (by unfold fault; rw [if_pos h])
  rw [large_or] at h
  obtain ⟨s0, s1, s2, s3, s4⟩ := small_of h
  refine .cnd (fun h2 => ?_) (fun h2 => ?_)
  · rw [ne_len] at h2
    exact .now' (by unfold fault; rw [h, if_neg (by simp), if_pos (of_decide_eq_true h2)])
  rw [ne_len] at h2
  have h2 := of_decide_eq_false h2
  have hf : fault c = match gatesW c with | .inr e => e.1 | .inl _ => rest c := by
    unfold fault; rw [h, if_neg (by simp), if_neg h2] <;> (cases gatesW c <;> rfl)
  have hi : c.2.2.2.2.length ≤ 10 := by
    by_cases h3 : c.2.2.2.2.length = c.2.2.2.1.length
    · omega
    · exact absurd h3 h2
  refine .join (fault_gates c s2 s0 s1 s4).ev (fun a ha => ?_) (fun r hr => ?_)
  · obtain rfl := gatesW_inl c ha
    rw [ha] at hf
    rw [hf]
    have h1 := fault_range a s3 s4
    have h3 := fault_init a (by omega) hw
    unfold rest
    cases e1 : (a.2.2.1 ++ a.2.2.2.1).any (badX a) with
    | true => rw [e1] at h1; exact .joinR h1.ev
    | false =>
      rw [e1] at h1
      refine .joinL (S := Unit) h1.ev ?_
      cases e2 : a.2.2.2.2.any bad1 with
      | true => rw [e2] at h3; exact .joinR h3.ev
      | false => rw [e2] at h3; exact .joinL (S := Unit) (a := ()) h3.ev (.now _)
  · rw [hf, hr]

/-- a right circuit -/
structure Right (c : Cir) : Prop where
  ins : 0 ≤ c.1 ∧ c.1 ≤ 10
  gates : c.2.1.length ≤ 400
  outs : c.2.2.1.length ≤ 10 ∧ ∀ x ∈ c.2.2.1, 0 ≤ x ∧ x < (c.2.1.length : Int)
  next : c.2.2.2.1.length ≤ 10 ∧ ∀ x ∈ c.2.2.2.1, 0 ≤ x ∧ x < (c.2.1.length : Int)
  gate : ∀ (i : Nat) (g : Gate), c.2.1[i]? = some g → oneF c i g = 0
theorem right_of (c : Cir) (h : fault c = 0) : Right c := by
  unfold fault at h
  split at h
  · omega
  rename_i hl
  have hl : large c = false := by simpa using hl
  obtain ⟨s0, s1, s2, s3, s4⟩ := small_of hl
  split at h
  · omega
  have hone : ∀ (l : List Gate) (b : Nat), (∀ r, walk (gW c) (fun _ => (.inl c : Cir ⊕ (Int × Unit))) l b = .inr r → r.1 ≠ 0) ∧ ((∃ a, walk (gW c) (fun _ => (.inl c : Cir ⊕ (Int × Unit))) l b = .inl a) → ∀ (i : Nat) (g : Gate), l[i]? = some g → oneF c ((b + i : Nat) : Int) g = 0) := by
    intro l
    induction l with
    | nil => intro b; exact ⟨fun r hr => (by cases hr), fun _ i g hg => (by simp at hg)⟩
    | cons x l ih =>
      intro b
      rw [walk_cons]
      unfold gW
      by_cases h0 : oneF c b x = 0
      · rw [if_pos h0]
        refine ⟨(ih (b + 1)).1, fun ha i g hg => ?_⟩
        cases i with
        | zero =>
          have : x = g := by simpa using hg
          rw [← this]; exact h0
        | succ i =>
          have := (ih (b + 1)).2 ha i g (by simpa using hg)
          rwa [show b + 1 + i = b + (i + 1) by omega] at this
      · rw [if_neg h0]
        exact ⟨fun r hr => (by cases hr; exact h0), fun ⟨a, ha⟩ => (by cases ha)⟩
  cases hg : gatesW c with
  | inr r =>
    rw [hg] at h
    exact absurd h ((hone c.2.1 0).1 r hg)
  | inl a =>
    rw [hg] at h
    have h : rest c = 0 := h
    unfold rest at h
    split at h
    · omega
    rename_i hr
    have hr : ∀ x ∈ c.2.2.1 ++ c.2.2.2.1, 0 ≤ x ∧ x < (c.2.1.length : Int) := by
      intro x hx
      have : (c.2.2.1 ++ c.2.2.2.1).any (badX c) = false := by simpa using hr
      rw [List.any_eq_false] at this
      have := this x hx
      unfold badX at this
      simp only [decide_eq_true_eq] at this
      omega
    exact ⟨⟨s0, s1⟩, s2, ⟨s3, fun x hx => hr x (List.mem_append_left _ hx)⟩, ⟨s4, fun x hx => hr x (List.mem_append_right _ hx)⟩, fun i g hgi => by
      have := (hone c.2.1 0).2 ⟨a, hg⟩ i g hgi
      rwa [Nat.zero_add] at this⟩
end Go.Proofs.Ytjbdhaenakcclaa.Ec

/- Circuits of gates: the values of all gates. No program in sight. -/
set_option linter.unusedVariables false
noncomputable section
namespace Go.Proofs.Ytjbdhaenakcclaa.Ec
open Go Go.Proofs.Ytjbdhaenakcclaa.Gp

/-- the value of a gate behind others -/
def valG (st inn : Int) (v : List Nat) (g : Gate) : Nat :=
  if g.1 = 0 then g.2.2.2.2.toNat else
  if g.1 = 1 then bitOf (shrI .i64 inn g.2.2.2.2) else
  if g.1 = 2 then bitOf (shrI .i64 st g.2.2.2.2) else
  if g.1 = 3 then 1 - v.getD g.2.1.toNat 0 else
  if g.1 = 4 then v.getD g.2.1.toNat 0 &&& v.getD g.2.2.1.toNat 0 else
  if g.1 = 5 then v.getD g.2.1.toNat 0 ||| v.getD g.2.2.1.toNat 0 else
  if g.1 = 6 then v.getD g.2.1.toNat 0 ^^^ v.getD g.2.2.1.toNat 0 else
  if v.getD g.2.1.toNat 0 = 1 then v.getD g.2.2.1.toNat 0 else v.getD g.2.2.2.1.toNat 0
def vS (st inn : Int) (v : List Nat) (g : Gate) : List Nat := v ++ [valG st inn v g]
def vals (st inn : Int) (l : List Gate) : List Nat := l.foldl (vS st inn) []
theorem vals_snoc (st inn : Int) (l : List Gate) (g : Gate) : vals st inn (l ++ [g]) = vals st inn l ++ [valG st inn (vals st inn l) g] := by
  unfold vals; rw [List.foldl_append]; rfl
theorem vals_len (st inn : Int) (l : List Gate) : (vals st inn l).length = l.length := by
  have : ∀ (l : List Gate) (v : List Nat), (l.foldl (vS st inn) v).length = v.length + l.length := by
    intro l
    induction l with
    | nil => intro v; rfl
    | cons x l ih => intro v; rw [List.foldl_cons, ih]; simp [vS]; omega
  unfold vals; rw [this]; simp
theorem leg_ok {i n k x : Int} (h : leg i n k x = 0) (hk : k < n) : 0 ≤ x ∧ x < i := by
  unfold leg at h
  split at h
  · omega
  · rename_i h1
    by_cases h2 : x < 0 ∨ x ≥ i
    · exact absurd ⟨hk, h2⟩ h1
    · omega
/-- what a right gate's parts are -/
theorem gate_ok {c : Cir} {i : Int} {g : Gate} (h : oneF c i g = 0) : ¬ (g.1 < 0 ∨ g.1 > 7) ∧ (0 < needs g.1 → 0 ≤ g.2.1 ∧ g.2.1 < i) ∧ (1 < needs g.1 → 0 ≤ g.2.2.1 ∧ g.2.2.1 < i) ∧ (2 < needs g.1 → 0 ≤ g.2.2.2.1 ∧ g.2.2.2.1 < i) ∧ 0 ≤ g.2.2.2.2 ∧ g.2.2.2.2 < mostN c g.1 := by
  unfold oneF at h
  split at h
  · omega
  rename_i hk
  split at h
  · omega
  rename_i hl
  have hl : legs i g = 0 := by
    by_cases h0 : legs i g = 0
    · exact h0
    · exact absurd h0 hl
  split at h
  · omega
  rename_i hN
  unfold legs at hl
  split at hl
  · rename_i h0; exact absurd hl h0
  rename_i h0
  split at hl
  · rename_i h1; exact absurd hl h1
  rename_i h1
  have h0 : leg i (needs g.1) 0 g.2.1 = 0 := by
    by_cases h : leg i (needs g.1) 0 g.2.1 = 0
    · exact h
    · exact absurd h h0
  have h1 : leg i (needs g.1) 1 g.2.2.1 = 0 := by
    by_cases h : leg i (needs g.1) 1 g.2.2.1 = 0
    · exact h
    · exact absurd h h1
  exact ⟨hk, leg_ok h0, leg_ok h1, leg_ok hl, by omega, by omega⟩
theorem bits2 {a b : Nat} (ha : a ≤ 1) (hb : b ≤ 1) : (a &&& b) ≤ 1 ∧ (a ||| b) ≤ 1 ∧ (a ^^^ b) ≤ 1 := by
  have : ∀ a < 2, ∀ b < 2, (a &&& b) ≤ 1 ∧ (a ||| b) ≤ 1 ∧ (a ^^^ b) ≤ 1 := by decide
  exact this a (by omega) b (by omega)
theorem getD_le {v : List Nat} (h : ∀ b ∈ v, b ≤ 1) (j : Nat) : v.getD j 0 ≤ 1 := by
  rw [List.getD_eq_getElem?_getD]
  cases hj : v[j]? with
  | none => simp
  | some b => exact h b (get_mem hj)
theorem valG_le {c : Cir} {i : Int} {g : Gate} (hg : oneF c i g = 0) (st inn : Int) {v : List Nat} (h : ∀ b ∈ v, b ≤ 1) : valG st inn v g ≤ 1 := by
  obtain ⟨_, _, _, _, h0, h1⟩ := gate_ok hg
  have b2 := bits2 (getD_le h g.2.1.toNat) (getD_le h g.2.2.1.toNat)
  unfold valG
  split
  · rename_i hk; rw [hk] at h1; have : mostN c 0 = 2 := rfl; omega
  split
  · exact (bit_and _).2
  split
  · exact (bit_and _).2
  split
  · omega
  split
  · exact b2.1
  split
  · exact b2.2.1
  split
  · exact b2.2.2
  split
  · exact getD_le h _
  · exact getD_le h _

def ints (v : List Nat) : List Int := v.map (fun (b : Nat) => (b : Int))
/-- what the row holds behind the values that are known -/
def rowOf (v : List Nat) (n : Nat) : List Int := ints v ++ List.replicate (n - v.length) 0
theorem rowOf_at {v : List Nat} {n j : Nat} (h : j < v.length) : (rowOf v n)[j]? = some ((v.getD j 0 : Nat) : Int) := by
  unfold rowOf ints
  rw [List.getElem?_append_left (by simpa using h), List.getElem?_map, List.getD_eq_getElem?_getD, List.getElem?_eq_getElem h]
  rfl
theorem rowOf_next {v : List Nat} {n : Nat} (h : v.length < n) : (rowOf v n)[v.length]? = some 0 := by
  unfold rowOf ints
  rw [List.getElem?_append_right (by simp), List.length_map, Nat.sub_self, List.getElem?_replicate, if_pos (by omega)]
theorem rowOf_set {v : List Nat} {n : Nat} (h : v.length < n) (x : Nat) : (rowOf v n).set v.length (x : Int) = rowOf (v ++ [x]) n := by
  unfold rowOf ints
  rw [List.set_append_right _ _ (by simp), List.length_map, Nat.sub_self, List.map_append, List.length_append, List.append_assoc]
  congr 1
  obtain ⟨m, hm⟩ : ∃ m, n - v.length = m + 1 := ⟨n - v.length - 1, by omega⟩
  rw [hm, show n - (v.length + [x].length) = m by simp; omega]
  rfl
theorem rd_z {l : List Int} {z : Int} {x : Int} (h0 : 0 ≤ z) (h : l[z.toNat]? = some x) : rd l z = some x := rd_at (i := z.toNat) (by omega) h
end Go.Proofs.Ytjbdhaenakcclaa.Ec

/- Circuits of gates: the values of all gates, forwards. No program in sight. -/
set_option linter.unusedVariables false
noncomputable section
namespace Go.Proofs.Ytjbdhaenakcclaa.Ec
open Go Go.Proofs.Ytjbdhaenakcclaa.Gp

theorem int_bit {a : Nat} (h : a ≤ 1) : a < 9223372036854775808 := by omega
theorem values_step (c : Cir) (st inn : Int) (i : Nat) (g : Gate) (b : List Nat) (hx : c.2.1[i]? = some g) (hg : oneF c i g = 0) (hb : b.length = i) (h1 : ∀ x ∈ b, x ≤ 1) (hn : c.2.1.length ≤ 400) :
    Ev (fun k => values69.l0 k c st inn ((), (i : Int), rowOf b c.2.1.length)) (.inl ((), (i : Int) + 1, rowOf (vS st inn b g) c.2.1.length)) := by
  have hi := get_lt hx
  obtain ⟨hk, hA, hB, hC, hN0, hN1⟩ := gate_ok hg
  have hne : (rowOf b c.2.1.length)[i]? = some 0 := by rw [← hb]; exact rowOf_next (by omega)
  have hr : rd (rowOf b c.2.1.length) (i : Int) = some 0 := rd_some' hne
  have hlen : i < (rowOf b c.2.1.length).length := get_lt hne
  have hset : ∀ x : Nat, (rowOf b c.2.1.length).set (Int.toNat (i : Int)) (x : Int) = rowOf (b ++ [x]) c.2.1.length := fun x => by
    rw [Int.toNat_natCast, ← hb]; exact rowOf_set (by omega) x
  have hget : ∀ z : Int, 0 ≤ z → z < (i : Int) → rd (rowOf b c.2.1.length) z = some ((b.getD z.toNat 0 : Nat) : Int) := fun z h0 h2 => rd_z h0 (rowOf_at (by omega))
  simp only [values69.l0]
  refine .yes (decide_eq_true (by omega)) (.val (rd_some' hx) (.bind (a := ((), rowOf (vS st inn b g) c.2.1.length)) ?_ (.now' (by rw [w64_id (by omega) (by omega)]))))
  obtain ⟨kd, A, B, C, N⟩ := g
  have lA := getD_le h1 A.toNat
  have lB := getD_le h1 B.toNat
  have lC := getD_le h1 C.toNat
  dsimp only at hk hA hB hC hN0 hN1 ⊢
  rcases kinds hk with rfl | rfl | rfl | rfl | rfl | rfl | rfl | rfl
  · refine .yes rfl (.val hr (.val hr (.now' ?_)))
    rw [show N = ((N.toNat : Nat) : Int) by omega, hset]; rfl
  · refine .no rfl (.bind (a := ((), _)) (.yes rfl (.val (a := shrI .i64 inn N) (by rw [if_neg (by omega)]) (.val hr (.val hr (.now' ?_))))) (.now _))
    rw [(bit_and _).1, hset]; rfl
  · refine .no rfl (.bind (a := ((), _)) (.no rfl (.bind (a := ((), _)) (.yes rfl (.val (a := shrI .i64 st N) (by rw [if_neg (by omega)]) (.val hr (.val hr (.now' ?_))))) (.now _))) (.now _))
    rw [(bit_and _).1, hset]; rfl
  · have a1 := hget A (hA (by decide)).1 (hA (by decide)).2
    refine .no rfl (.bind (a := ((), _)) (.no rfl (.bind (a := ((), _)) (.no rfl (.bind (a := ((), _)) (.yes rfl (.val a1 (.val a1 (.val hr (.val hr (.now' ?_)))))) (.now _))) (.now _))) (.now _))
    rw [w64_id (by omega) (by omega), show (1 : Int) - ((b.getD A.toNat 0 : Nat) : Int) = ((1 - b.getD A.toNat 0 : Nat) : Int) by omega, hset]; rfl
  · have a1 := hget A (hA (by decide)).1 (hA (by decide)).2
    have a2 := hget B (hB (by decide)).1 (hB (by decide)).2
    refine .no rfl (.bind (a := ((), _)) (.no rfl (.bind (a := ((), _)) (.no rfl (.bind (a := ((), _)) (.no rfl (.bind (a := ((), _)) (.yes rfl (.val a1 (.val a1 (.val a2 (.val a2 (.val hr (.val hr (.now' ?_)))))))) (.now _))) (.now _))) (.now _))) (.now _))
    rw [ibits_and (int_bit lA) (int_bit lB), hset]; rfl
  · have a1 := hget A (hA (by decide)).1 (hA (by decide)).2
    have a2 := hget B (hB (by decide)).1 (hB (by decide)).2
    refine .no rfl (.bind (a := ((), _)) (.no rfl (.bind (a := ((), _)) (.no rfl (.bind (a := ((), _)) (.no rfl (.bind (a := ((), _)) (.no rfl (.bind (a := ((), _)) (.yes rfl (.val a1 (.val a1 (.val a2 (.val a2 (.val hr (.val hr (.now' ?_)))))))) (.now _))) (.now _))) (.now _))) (.now _))) (.now _))
    rw [ibits_or (int_bit lA) (int_bit lB), hset]; rfl
  · have a1 := hget A (hA (by decide)).1 (hA (by decide)).2
    have a2 := hget B (hB (by decide)).1 (hB (by decide)).2
    refine .no rfl (.bind (a := ((), _)) (.no rfl (.bind (a := ((), _)) (.no rfl (.bind (a := ((), _)) (.no rfl (.bind (a := ((), _)) (.no rfl (.bind (a := ((), _)) (.no rfl (.bind (a := ((), _)) (.yes rfl (.val a1 (.val a1 (.val a2 (.val a2 (.val hr (.val hr (.now' ?_)))))))) (.now _))) (.now _))) (.now _))) (.now _))) (.now _))) (.now _))
    rw [ibits_xor (int_bit lA) (int_bit lB), hset]; rfl
  · have a1 := hget A (hA (by decide)).1 (hA (by decide)).2
    have a2 := hget B (hB (by decide)).1 (hB (by decide)).2
    have a3 := hget C (hC (by decide)).1 (hC (by decide)).2
    have hA' := hA (by decide)
    have hB' := hB (by decide)
    have b1 : ∀ x : Int, rd ((rowOf b c.2.1.length).set (Int.toNat (i : Int)) x) A = some ((b.getD A.toNat 0 : Nat) : Int) := fun x => by
      refine rd_z hA'.1 ?_
      rw [Int.toNat_natCast, List.getElem?_set_ne (by omega)]
      exact rowOf_at (by omega)
    have b2 : ∀ x : Int, rd ((rowOf b c.2.1.length).set (Int.toNat (i : Int)) x) B = some ((b.getD B.toNat 0 : Nat) : Int) := fun x => by
      refine rd_z hB'.1 ?_
      rw [Int.toNat_natCast, List.getElem?_set_ne (by omega)]
      exact rowOf_at (by omega)
    have b3 : ∀ x : Int, rd ((rowOf b c.2.1.length).set (Int.toNat (i : Int)) x) (i : Int) = some x := fun x => by
      rw [Int.toNat_natCast]
      exact rd_some' (List.getElem?_set_self hlen)
    refine .no rfl (.bind (a := ((), _)) (.no rfl (.bind (a := ((), _)) (.no rfl (.bind (a := ((), _)) (.no rfl (.bind (a := ((), _)) (.no rfl (.bind (a := ((), _)) (.no rfl (.bind (a := ((), _)) (.no rfl (.bind (a := ((), _)) (.yes rfl (.val a3 (.val a3 (.val hr (.val hr (.val (b1 _) (.val (b1 _) (.bind (a := ((), _)) ?_ (.now _))))))))) (.now _))) (.now _))) (.now _))) (.now _))) (.now _))) (.now _))) (.now _))
    by_cases hv : b.getD A.toNat 0 = 1
    · refine .yes (by rw [hv]; rfl) (.val (b2 _) (.val (b2 _) (.val (b3 _) (.val (b3 _) (.now' ?_)))))
      rw [List.set_set, hset]
      show ((), rowOf (b ++ [_]) _) = ((), rowOf (b ++ [valG st inn b (7, A, B, C, N)]) _)
      rw [show valG st inn b (7, A, B, C, N) = b.getD B.toNat 0 from if_pos hv]
    · refine .no (by rw [beq_eq_false_iff_ne]; omega) (.now' ?_)
      rw [hset]
      show ((), rowOf (b ++ [_]) _) = ((), rowOf (b ++ [valG st inn b (7, A, B, C, N)]) _)
      rw [show valG st inn b (7, A, B, C, N) = b.getD C.toNat 0 from if_neg hv]

theorem vals_le {c : Cir} (hR : Right c) (st inn : Int) : ∀ (i : Nat), i ≤ c.2.1.length → ∀ x ∈ vals st inn (c.2.1.take i), x ≤ 1
  | 0, _, x, hx => by simp [vals] at hx
  | i + 1, h, x, hx => by
    have ih := vals_le hR st inn i (by omega)
    have hg := List.getElem?_eq_getElem (show i < c.2.1.length by omega)
    rw [List.take_add_one, hg, Option.toList_some, vals_snoc, List.mem_append] at hx
    rcases hx with hx | hx
    · exact ih x hx
    · rw [List.mem_singleton] at hx
      rw [hx]
      exact valG_le (hR.gate i _ hg) st inn ih
theorem values_ev {c : Cir} (hR : Right c) (st inn : Int) : Ev (fun k => values69 k c st inn) (ints (vals st inn c.2.1), ()) := by
  unfold values69
  refine .val (a := ()) (by rw [if_pos ⟨by omega, by omega, by have := hR.gates; omega⟩]) (.bind (a := ((), rowOf (vals st inn c.2.1) c.2.1.length)) (Lp.ev ?_) (.now' ?_))
  · refine Lp.fold (body := fun k => values69.l0 k c st inn) c.2.1 (fun b i => ((), i, rowOf b c.2.1.length)) (vS st inn) (fun b => ((), rowOf b c.2.1.length)) (fun i b => b = vals st inn (c.2.1.take i)) (fun i g b hx hb => ⟨?_, ?_⟩) (fun b _ => ?_) (b := []) rfl
    · have hi := get_lt hx
      exact values_step c st inn i g b hx (hR.gate i g hx) (by rw [hb, vals_len, List.length_take]; omega) (by rw [hb]; exact vals_le hR st inn i (by omega)) hR.gates
    · rw [List.take_add_one, hx, Option.toList_some, vals_snoc, ← hb]; rfl
    · simp only [values69.l0]
      exact .no (by simp) (.now _)
  · unfold rowOf
    rw [vals_len, Nat.sub_self]
    simp
end Go.Proofs.Ytjbdhaenakcclaa.Ec

/- Circuits of gates: the value of a gate, backwards, with what is known already. No program in sight. -/
set_option linter.unusedVariables false
noncomputable section
namespace Go.Proofs.Ytjbdhaenakcclaa.Ec
open Go Go.Proofs.Ytjbdhaenakcclaa.Gp

theorem Ev.succ {α : Type} {f : Nat → Option α} {v : α} (h : Ev (fun k => f (k + 1)) v) : Ev f v := by
  obtain ⟨n, h⟩ := h
  refine ⟨n + 1, fun k hk => ?_⟩
  obtain ⟨j, rfl⟩ : ∃ j, k = j + 1 := ⟨k - 1, by omega⟩
  exact h j (by omega)

/-- the value of the j-th -/
def V (c : Cir) (st inn : Int) (j : Nat) : Nat := (vals st inn c.2.1).getD j 0
theorem vals_app (st inn : Int) (l1 l2 : List Gate) : ∃ t, vals st inn (l1 ++ l2) = vals st inn l1 ++ t := by
  have : ∀ (l : List Gate) (v : List Nat), ∃ t, l.foldl (vS st inn) v = v ++ t := by
    intro l
    induction l with
    | nil => intro v; exact ⟨[], by simp⟩
    | cons x l ih =>
      intro v
      obtain ⟨t, ht⟩ := ih (vS st inn v x)
      exact ⟨[valG st inn v x] ++ t, by rw [List.foldl_cons, ht]; unfold vS; rw [List.append_assoc]⟩
  unfold vals
  rw [List.foldl_append]
  exact this l2 _
theorem V_pre (c : Cir) (st inn : Int) {i j : Nat} (hj : j < i) (hi : i ≤ c.2.1.length) : (vals st inn (c.2.1.take i)).getD j 0 = V c st inn j := by
  obtain ⟨t, ht⟩ := vals_app st inn (c.2.1.take i) (c.2.1.drop i)
  rw [List.take_append_drop] at ht
  unfold V
  rw [ht, List.getD_eq_getElem?_getD, List.getD_eq_getElem?_getD, List.getElem?_append_left (by rw [vals_len, List.length_take]; omega)]
theorem V_at (c : Cir) (st inn : Int) {i : Nat} {g : Gate} (h : c.2.1[i]? = some g) : V c st inn i = valG st inn (vals st inn (c.2.1.take i)) g := by
  have hi := get_lt h
  rw [← V_pre c st inn (Nat.lt_succ_self i) (by omega), List.take_add_one, h, Option.toList_some, vals_snoc, List.getD_eq_getElem?_getD, List.getElem?_append_right (by rw [vals_len, List.length_take]; omega)]
  have : i - (vals st inn (c.2.1.take i)).length = 0 := by rw [vals_len, List.length_take]; omega
  rw [this]; rfl
theorem V_le {c : Cir} (hR : Right c) (st inn : Int) (j : Nat) : V c st inn j ≤ 1 := by
  have := vals_le hR st inn c.2.1.length (Nat.le_refl _)
  rw [List.take_length] at this
  exact getD_le this j

theorem b_xor1 {a : Nat} (h : a ≤ 1) : ibits .xor .i64 (a : Int) 1 = ((1 - a : Nat) : Int) := by
  have : a = 0 ∨ a = 1 := by omega
  rcases this with rfl | rfl <;> rfl
theorem b_mn {a b : Nat} (h : a ≤ 1) (h2 : b ≤ 1) : mnI (a : Int) (b : Int) = ((a &&& b : Nat) : Int) := by
  have h : a = 0 ∨ a = 1 := by omega
  have h2 : b = 0 ∨ b = 1 := by omega
  rcases h with rfl | rfl <;> rcases h2 with rfl | rfl <;> rfl
theorem b_mx {a b : Nat} (h : a ≤ 1) (h2 : b ≤ 1) : mxI (a : Int) (b : Int) = ((a ||| b : Nat) : Int) := by
  have h : a = 0 ∨ a = 1 := by omega
  have h2 : b = 0 ∨ b = 1 := by omega
  rcases h with rfl | rfl <;> rcases h2 with rfl | rfl <;> rfl
theorem b_xor {a b : Nat} (h : a ≤ 1) (h2 : b ≤ 1) : Int.tmod (w64 ((a : Int) + (b : Int))) 2 = ((a ^^^ b : Nat) : Int) := by
  have h : a = 0 ∨ a = 1 := by omega
  have h2 : b = 0 ∨ b = 1 := by omega
  rcases h with rfl | rfl <;> rcases h2 with rfl | rfl <;> rfl

abbrev Map := List (Int × Int)
def RightM (c : Cir) (st inn : Int) (m : Map) : Prop := ∀ (k x : Int), mget (.int .i64) (.int .i64) m k = some x → ∃ j : Nat, k = j ∧ j < c.2.1.length ∧ x = ((V c st inn j : Nat) : Int)
theorem RightM.put {c : Cir} {st inn : Int} {m : Map} (h : RightM c st inn m) {i : Nat} (hi : i < c.2.1.length) : RightM c st inn (mput (.int .i64) (.int .i64) m (i : Int) ((V c st inn i : Nat) : Int)) := by
  intro k x hx
  have hx := (mget_mput (kk := .int .i64) (kv := .int .i64) rfl).symm.trans hx
  by_cases he : eqB (.int .i64) k (i : Int) = true
  · have : k = (i : Int) := (eqB_iff (k := .int .i64) rfl).1 he
    have hx := (if_pos he).symm.trans hx
    exact ⟨i, this, hi, (Option.some.inj hx).symm⟩
  · exact h k x ((if_neg he).symm.trans hx)
theorem RightM.nil (c : Cir) (st inn : Int) : RightM c st inn [] := fun k x h => by cases h

theorem value_ev {c : Cir} (hR : Right c) (st inn : Int) : ∀ (n i : Nat), i < n → i < c.2.1.length → ∀ m, RightM c st inn m → ∃ m', RightM c st inn m' ∧ Ev (fun k => Value19 k c st inn (i : Int) () m) (((V c st inn i : Nat) : Int), m') := by
  intro n
  induction n with
  | zero => intro i h; omega
  | succ n ih =>
    intro i hin hi m hm
    obtain ⟨g, hx⟩ : ∃ g, c.2.1[i]? = some g := ⟨_, List.getElem?_eq_getElem hi⟩
    have call : ∀ (z : Int), 0 ≤ z → z < (i : Int) → ∀ m, RightM c st inn m → ∃ m', RightM c st inn m' ∧ Ev (fun k => (GrpValue19 k).1 z c st inn () () m) (((V c st inn z.toNat : Nat) : Int), (), m') := by
      intro z h0 h1 m hm
      obtain ⟨m', r, e⟩ := ih z.toNat (by omega) (by omega) m hm
      refine ⟨m', r, Ev.succ ?_⟩
      rw [show ((z.toNat : Nat) : Int) = z by omega] at e
      exact .bind e (.now _)
    cases hk : mget (.int .i64) (.int .i64) m (i : Int) with
    | some x =>
      obtain ⟨j, e, _, rfl⟩ := hm _ _ hk
      have : j = i := by omega
      subst this
      refine ⟨m, hm, Ev.succ ?_⟩
      show Ev (fun k => Value19.b (GrpValue19 k) k c st inn (j : Int) () m) _
      simp only [Value19.b, hk]
      exact .yes rfl (.now _)
    | none =>
      have hgo := hR.gate i g hx
      obtain ⟨hkd, hA, hB, hC, hN0, hN1⟩ := gate_ok hgo
      have hV := V_at c st inn hx
      have pre : ∀ z : Int, 0 ≤ z → z < (i : Int) → (vals st inn (c.2.1.take i)).getD z.toNat 0 = V c st inn z.toNat := fun z h0 h1 => V_pre c st inn (by omega) (by omega)
      have le := V_le hR st inn
      obtain ⟨kd, A, B, C, N⟩ := g
      dsimp only at hkd hA hB hC hN0 hN1
      have start : ∀ m', RightM c st inn m' → (Ev (fun k => (Value19.b (GrpValue19 k) k c st inn (i : Int) () m)) (((V c st inn i : Nat) : Int), mput (.int .i64) (.int .i64) m' (i : Int) ((V c st inn i : Nat) : Int))) →
          ∃ m', RightM c st inn m' ∧ Ev (fun k => Value19 k c st inn (i : Int) () m) (((V c st inn i : Nat) : Int), m') := fun m' h e => ⟨_, h.put hi, Ev.succ e⟩
      rcases kinds hkd with rfl | rfl | rfl | rfl | rfl | rfl | rfl | rfl
      · have hv : ((V c st inn i : Nat) : Int) = N := by rw [hV]; show ((N.toNat : Nat) : Int) = N; omega
        refine start m hm ?_
        simp only [Value19.b, hk]
        refine .no rfl (.val (rd_some' hx) (.bind (a := ((), ((V c st inn i : Nat) : Int), m, ())) ?_ (.now _)))
        exact .yes rfl (.now' (by rw [hv]))
      · have hv : ((V c st inn i : Nat) : Int) = ibits .and .i64 (shrI .i64 inn N) 1 := by rw [hV, (bit_and _).1]; rfl
        refine start m hm ?_
        simp only [Value19.b, hk]
        refine .no rfl (.val (rd_some' hx) (.bind (a := ((), ((V c st inn i : Nat) : Int), m, ())) ?_ (.now _)))
        refine .no rfl (.bind (a := (st, inn, (), ((1 : Int), A, B, C, N), (c, st, inn, (), ()), true, m, ())) (.yes rfl (.now _)) ?_)
        dsimp only
        refine .bind (a := ((), ((V c st inn i : Nat) : Int), m, ())) (.yes rfl (.val (a := shrI .i64 inn N) ?_ (.now' (by rw [hv])))) (.now _)
        exact if_neg (by omega)
      · have hv : ((V c st inn i : Nat) : Int) = ibits .and .i64 (shrI .i64 st N) 1 := by rw [hV, (bit_and _).1]; rfl
        refine start m hm ?_
        simp only [Value19.b, hk]
        refine .no rfl (.val (rd_some' hx) (.bind (a := ((), ((V c st inn i : Nat) : Int), m, ())) ?_ (.now _)))
        refine .no rfl (.bind (a := (st, inn, (), ((2 : Int), A, B, C, N), (c, st, inn, (), ()), true, m, ())) (.no rfl (.now _)) ?_)
        dsimp only
        refine .bind (a := ((), ((V c st inn i : Nat) : Int), m, ())) (.yes rfl (.val (a := shrI .i64 st N) ?_ (.now' (by rw [hv])))) (.now _)
        exact if_neg (by omega)
      · skip
        obtain ⟨m1, r1, e1⟩ := call A (hA (by decide)).1 (hA (by decide)).2 m hm
        have pA := pre A (hA (by decide)).1 (hA (by decide)).2
        have hv : ((V c st inn i : Nat) : Int) = ibits .xor .i64 ((V c st inn A.toNat : Nat) : Int) 1 := by
          rw [hV, b_xor1 (le _), ← pA]; rfl
        refine start m1 r1 ?_
        simp only [Value19.b, hk]
        refine .no rfl (.val (rd_some' hx) (.bind (a := ((), ((V c st inn i : Nat) : Int), m1, ())) ?_ (.now _)))
        refine .no rfl (.bind (a := (st, inn, (), ((3 : Int), A, B, C, N), (c, st, inn, (), ()), false, m, ())) (.no rfl (.now _)) ?_)
        dsimp only
        refine .bind (a := ((), ((V c st inn i : Nat) : Int), m1, ())) (.no rfl (.bind (a := ((), ((V c st inn i : Nat) : Int), m1, ())) (.yes rfl (.bind e1 (.now' (by rw [hv])))) (.now _))) (.now _)
      · skip
        obtain ⟨m1, r1, e1⟩ := call A (hA (by decide)).1 (hA (by decide)).2 m hm
        have pA := pre A (hA (by decide)).1 (hA (by decide)).2
        obtain ⟨m2, r2, e2⟩ := call B (hB (by decide)).1 (hB (by decide)).2 m1 r1
        have pB := pre B (hB (by decide)).1 (hB (by decide)).2
        have hv : ((V c st inn i : Nat) : Int) = mnI ((V c st inn A.toNat : Nat) : Int) ((V c st inn B.toNat : Nat) : Int) := by
          rw [hV, b_mn (le _) (le _), ← pA, ← pB]; rfl
        refine start m2 r2 ?_
        simp only [Value19.b, hk]
        refine .no rfl (.val (rd_some' hx) (.bind (a := ((), ((V c st inn i : Nat) : Int), m2, ())) ?_ (.now _)))
        refine .no rfl (.bind (a := (st, inn, (), ((4 : Int), A, B, C, N), (c, st, inn, (), ()), false, m, ())) (.no rfl (.now _)) ?_)
        dsimp only
        refine .bind (a := ((), ((V c st inn i : Nat) : Int), m2, ())) (.no rfl (.bind (a := ((), ((V c st inn i : Nat) : Int), m2, ())) (.no rfl (.bind (a := ((), ((V c st inn i : Nat) : Int), m2, ())) (.yes rfl (.bind e1 (.bind e2 (.now' (by rw [hv]))))) (.now _))) (.now _))) (.now _)
      · skip
        obtain ⟨m1, r1, e1⟩ := call A (hA (by decide)).1 (hA (by decide)).2 m hm
        have pA := pre A (hA (by decide)).1 (hA (by decide)).2
        obtain ⟨m2, r2, e2⟩ := call B (hB (by decide)).1 (hB (by decide)).2 m1 r1
        have pB := pre B (hB (by decide)).1 (hB (by decide)).2
        have hv : ((V c st inn i : Nat) : Int) = mxI ((V c st inn A.toNat : Nat) : Int) ((V c st inn B.toNat : Nat) : Int) := by
          rw [hV, b_mx (le _) (le _), ← pA, ← pB]; rfl
        refine start m2 r2 ?_
        simp only [Value19.b, hk]
        refine .no rfl (.val (rd_some' hx) (.bind (a := ((), ((V c st inn i : Nat) : Int), m2, ())) ?_ (.now _)))
        refine .no rfl (.bind (a := (st, inn, (), ((5 : Int), A, B, C, N), (c, st, inn, (), ()), false, m, ())) (.no rfl (.now _)) ?_)
        dsimp only
        refine .bind (a := ((), ((V c st inn i : Nat) : Int), m2, ())) (.no rfl (.bind (a := ((), ((V c st inn i : Nat) : Int), m2, ())) (.no rfl (.bind (a := ((), ((V c st inn i : Nat) : Int), m2, ())) (.no rfl (.bind (a := ((), ((V c st inn i : Nat) : Int), m2, ())) (.yes rfl (.bind e1 (.bind e2 (.now' (by rw [hv]))))) (.now _))) (.now _))) (.now _))) (.now _)
      · skip
        obtain ⟨m1, r1, e1⟩ := call A (hA (by decide)).1 (hA (by decide)).2 m hm
        have pA := pre A (hA (by decide)).1 (hA (by decide)).2
        obtain ⟨m2, r2, e2⟩ := call B (hB (by decide)).1 (hB (by decide)).2 m1 r1
        have pB := pre B (hB (by decide)).1 (hB (by decide)).2
        have hv : ((V c st inn i : Nat) : Int) = Int.tmod (w64 (((V c st inn A.toNat : Nat) : Int) + ((V c st inn B.toNat : Nat) : Int))) 2 := by
          rw [hV, b_xor (le _) (le _), ← pA, ← pB]; rfl
        refine start m2 r2 ?_
        simp only [Value19.b, hk]
        refine .no rfl (.val (rd_some' hx) (.bind (a := ((), ((V c st inn i : Nat) : Int), m2, ())) ?_ (.now _)))
        refine .no rfl (.bind (a := (st, inn, (), ((6 : Int), A, B, C, N), (c, st, inn, (), ()), false, m, ())) (.no rfl (.now _)) ?_)
        dsimp only
        refine .bind (a := ((), ((V c st inn i : Nat) : Int), m2, ())) (.no rfl (.bind (a := ((), ((V c st inn i : Nat) : Int), m2, ())) (.no rfl (.bind (a := ((), ((V c st inn i : Nat) : Int), m2, ())) (.no rfl (.bind (a := ((), ((V c st inn i : Nat) : Int), m2, ())) (.no rfl (.bind (a := ((), ((V c st inn i : Nat) : Int), m2, ())) (.yes rfl (.bind e1 (.bind e2 (.now' (by rw [hv]))))) (.now _))) (.now _))) (.now _))) (.now _))) (.now _)
      · obtain ⟨m1, r1, e1⟩ := call C (hC (by decide)).1 (hC (by decide)).2 m hm
        obtain ⟨m2, r2, e2⟩ := call A (hA (by decide)).1 (hA (by decide)).2 m1 r1
        have pA := pre A (hA (by decide)).1 (hA (by decide)).2
        have pB := pre B (hB (by decide)).1 (hB (by decide)).2
        have pC := pre C (hC (by decide)).1 (hC (by decide)).2
        by_cases hva : V c st inn A.toNat = 1
        · obtain ⟨m3, r3, e3⟩ := call B (hB (by decide)).1 (hB (by decide)).2 m2 r2
          have hv : V c st inn i = V c st inn B.toNat := by
            rw [hV, ← pB]
            exact if_pos (pA.trans hva)
          refine start m3 r3 ?_
          simp only [Value19.b, hk]
          refine .no rfl (.val (rd_some' hx) (.bind (a := ((), ((V c st inn i : Nat) : Int), m3, ())) ?_ (.now _)))
          refine .no rfl (.bind (a := (st, inn, (), ((7 : Int), A, B, C, N), (c, st, inn, (), ()), false, m, ())) (.no rfl (.now _)) ?_)
          dsimp only
          refine .bind (a := ((), ((V c st inn i : Nat) : Int), m3, ())) (.no rfl (.bind (a := ((), ((V c st inn i : Nat) : Int), m3, ())) (.no rfl (.bind (a := ((), ((V c st inn i : Nat) : Int), m3, ())) (.no rfl (.bind (a := ((), ((V c st inn i : Nat) : Int), m3, ())) (.no rfl (.bind (a := ((), ((V c st inn i : Nat) : Int), m3, ())) (.no rfl (.bind (a := ((), ((V c st inn i : Nat) : Int), m3, ())) (.yes rfl (.bind e1 (.bind e2 (.bind (a := ((), ((V c st inn i : Nat) : Int), m3, ())) (.yes ?_ (.bind e3 (.now' (by rw [hv])))) (.now _))))) (.now _))) (.now _))) (.now _))) (.now _))) (.now _))) (.now _)
          exact decide_eq_true (by show ((V c st inn A.toNat : Nat) : Int) > 0; rw [hva]; decide)
        · have hv : V c st inn i = V c st inn C.toNat := by
            rw [hV, ← pC]
            exact if_neg (fun h => hva (pA.symm.trans h))
          refine start m2 r2 ?_
          simp only [Value19.b, hk]
          refine .no rfl (.val (rd_some' hx) (.bind (a := ((), ((V c st inn i : Nat) : Int), m2, ())) ?_ (.now _)))
          refine .no rfl (.bind (a := (st, inn, (), ((7 : Int), A, B, C, N), (c, st, inn, (), ()), false, m, ())) (.no rfl (.now _)) ?_)
          dsimp only
          refine .bind (a := ((), ((V c st inn i : Nat) : Int), m2, ())) (.no rfl (.bind (a := ((), ((V c st inn i : Nat) : Int), m2, ())) (.no rfl (.bind (a := ((), ((V c st inn i : Nat) : Int), m2, ())) (.no rfl (.bind (a := ((), ((V c st inn i : Nat) : Int), m2, ())) (.no rfl (.bind (a := ((), ((V c st inn i : Nat) : Int), m2, ())) (.no rfl (.bind (a := ((), ((V c st inn i : Nat) : Int), m2, ())) (.yes rfl (.bind e1 (.bind e2 (.bind (a := ((), ((V c st inn i : Nat) : Int), m2, ())) (.no ?_ (.now' (by rw [hv]))) (.now _))))) (.now _))) (.now _))) (.now _))) (.now _))) (.now _))) (.now _)
          have := le A.toNat
          exact decide_eq_false (by show ¬ ((V c st inn A.toNat : Nat) : Int) > 0; omega)
end Go.Proofs.Ytjbdhaenakcclaa.Ec

/- Circuits of gates: steps. No program in sight. -/
set_option linter.unusedVariables false
noncomputable section
namespace Go.Proofs.Ytjbdhaenakcclaa.Ec
open Go Go.Proofs.Ytjbdhaenakcclaa.Gp

/-- the values of the gates that are named, joined -/
def line (c : Cir) (st inn : Int) (l : List Int) : List Nat := l.map (fun x => V c st inn x.toNat)
theorem line_le {c : Cir} (hR : Right c) (st inn : Int) (l : List Int) : ∀ b ∈ line c st inn l, b ≤ 1 := by
  intro b hb
  obtain ⟨x, _, rfl⟩ := List.mem_map.1 hb
  exact V_le hR st inn _
def InG (c : Cir) (l : List Int) : Prop := l.length ≤ 10 ∧ ∀ x ∈ l, 0 ≤ x ∧ x < (c.2.1.length : Int)
theorem bits_ev {c : Cir} (hR : Right c) (st inn : Int) (l : List Int) (hl : InG c l) : Ev (fun k => bits70 k (ints (vals st inn c.2.1)) l) (((pk (line c st inn l) : Nat) : Int), ()) := by
  unfold bits70
  refine .bind (a := ((pk (line c st inn l) : Nat) : Int)) (Lp.ev ?_) (.now _)
  have := Lp.fold (body := fun k => bits70.l0 k (ints (vals st inn c.2.1)) l) l (fun (m : List Nat) i => ((pk m : Int), i)) (fun m x => m ++ [V c st inn x.toNat]) (fun m => (pk m : Int)) (fun i m => m = line c st inn (l.take i)) (fun i x m hx hm => ⟨?_, ?_⟩) (fun m _ => ?_) (b := []) rfl
  · rw [foldl_snoc, List.nil_append] at this
    exact this
  · have hi := get_lt hx
    have hll := hl.1
    obtain ⟨x0, x1⟩ := hl.2 x (get_mem hx)
    have hlen : m.length = i := by rw [hm]; unfold line; rw [List.length_map, List.length_take]; omega
    have hlt : pk m < 2 ^ i := by rw [← hlen]; exact pk_lt m (by rw [hm]; exact line_le hR st inn _)
    have hv : rd (ints (vals st inn c.2.1)) x = some ((V c st inn x.toNat : Nat) : Int) := by
      refine rd_z x0 ?_
      unfold ints V
      rw [List.getElem?_map, List.getD_eq_getElem?_getD, List.getElem?_eq_getElem (show x.toNat < (vals st inn c.2.1).length by rw [vals_len]; omega)]
      rfl
    simp only [bits70.l0]
    refine .yes (decide_eq_true (by omega)) (.val (rd_some' hx) (.val hv (.val (a := shlI .i64 ((V c st inn x.toNat : Nat) : Int) (i : Int)) ?_ (.now' ?_))))
    · rw [if_neg (by omega)]
    · rw [or_bit hlt (V_le hR st inn _) (by omega), pk_snoc, hlen, w64_id (by omega) (by omega)]
  · rw [hm, take_snoc hx]; unfold line; rw [List.map_append]; rfl
  · simp only [bits70.l0]
    exact .no (by simp) (.now _)

theorem line_lp {c : Cir} (hR : Right c) (st inn : Int) (w : Nat) (hw : w < 2) (l : List Int) (hl : InG c l) (o2 : List (List Int)) : ∀ (suf pre : List Int) (m : Map) (o1 : List Int), l = pre ++ suf → RightM c st inn m → o1.length = 2 → o1[w]? = some ((pk (line c st inn pre) : Nat) : Int) →
    ∃ m' o1', RightM c st inn m' ∧ o1'.length = 2 ∧ o1'[w]? = some ((pk (line c st inn l) : Nat) : Int) ∧ (∀ j, j ≠ w → o1'[j]? = o1[j]?) ∧
      Lp (fun k => Stepped20.l0 k st inn (w : Int) l) (c, (), (), (), (pre.length : Int), m, o1, o2) (c, (), (), (), m', o1', o2) := by
  intro suf
  induction suf with
  | nil =>
    intro pre m o1 h hm ho hp
    rw [List.append_nil] at h
    subst h
    refine ⟨m, o1, hm, ho, hp, fun _ _ => rfl, .done ?_⟩
    simp only [Stepped20.l0]
    exact .no (by simp) (.now _)
  | cons x suf ih =>
    intro pre m o1 h hm ho hp
    have hx : l[pre.length]? = some x := by rw [h]; simp
    have hi := get_lt hx
    have hll := hl.1
    obtain ⟨x0, x1⟩ := hl.2 x (get_mem hx)
    obtain ⟨m', r, e⟩ := value_ev hR st inn c.2.1.length x.toNat (by omega) (by omega) m hm
    rw [show ((x.toNat : Nat) : Int) = x by omega] at e
    have hlen : (line c st inn pre).length = pre.length := by unfold line; rw [List.length_map]
    have hlt : pk (line c st inn pre) < 2 ^ pre.length := by
      have := pk_lt _ (line_le hR st inn pre)
      rwa [hlen] at this
    have hpk : pk (line c st inn (pre ++ [x])) = pk (line c st inn pre) + V c st inn x.toNat * 2 ^ pre.length := by
      unfold line
      rw [List.map_append, List.map_singleton, pk_snoc, List.length_map]
    obtain ⟨m2, o', g1, g2, g3, g4, g5⟩ := ih (pre ++ [x]) m' (o1.set w ((pk (line c st inn (pre ++ [x])) : Nat) : Int)) (by rw [h]; simp) r (by rw [List.length_set]; exact ho) (List.getElem?_set_self (by omega))
    refine ⟨m2, o', g1, g2, g3, fun j hj => by rw [g4 j hj, List.getElem?_set_ne (Ne.symm hj)], .step ?_ g5⟩
    simp only [Stepped20.l0]
    refine .yes (decide_eq_true (by omega)) (.val (rd_some' hx) (.val (a := ()) (if_pos ⟨by omega, by omega⟩) (.val (rd_some' hp) (.bind e (.val (a := shlI .i64 ((V c st inn x.toNat : Nat) : Int) (pre.length : Int)) (if_neg (by omega)) (.val (a := ()) (if_pos ⟨by omega, by omega⟩) (.val (rd_some' hp) (.now' ?_))))))))
    rw [add_bit hlt (V_le hR st inn _) (by omega), w64_id (by omega) (by omega), ← hpk, List.length_append]
    simp

theorem stepped_ev {c : Cir} (hR : Right c) (st inn : Int) : Ev (fun k => Stepped20 k c st inn) ((((pk (line c st inn c.2.2.1) : Nat) : Int), ((pk (line c st inn c.2.2.2.1) : Nat) : Int), ()), ()) := by
  unfold Stepped20
  obtain ⟨m1, o1, a1, a2, a3, a4, a5⟩ := line_lp hR st inn 0 (by omega) c.2.2.1 hR.outs [c.2.2.1, c.2.2.2.1] c.2.2.1 [] [] [0, 0] rfl (.nil c st inn) rfl rfl
  obtain ⟨m2, o2, b1, b2, b3, b4, b5⟩ := line_lp hR st inn 1 (by omega) c.2.2.2.1 hR.next [c.2.2.1, c.2.2.2.1] c.2.2.2.1 [] m1 o1 rfl a1 a2 (by rw [a4 1 (by omega)]; rfl)
  have h0 : o2[0]? = some ((pk (line c st inn c.2.2.1) : Nat) : Int) := by rw [b4 0 (by omega)]; exact a3
  refine .bind (a := ((), o2)) (Lp.ev ?_) ?_
  · refine Lp.step (s' := (c, (), (), (), 1, m1, o1, [c.2.2.1, c.2.2.2.1])) ?_ (Lp.step (s' := (c, (), (), (), 2, m2, o2, [c.2.2.1, c.2.2.2.1])) ?_ (Lp.done ?_))
    · simp only [Stepped20.l1]
      exact .yes rfl (.val rfl (.val rfl (.bind a5.ev (.now' (by rw [w64_id (by omega) (by omega)]; rfl)))))
    · simp only [Stepped20.l1]
      exact .yes rfl (.val rfl (.val rfl (.bind b5.ev (.now' (by rw [w64_id (by omega) (by omega)]; rfl)))))
    · simp only [Stepped20.l1]
      exact .no rfl (.now _)
  · exact .val rfl (.val (rd_at (i := 0) rfl h0) (.val rfl (.val (rd_at (i := 1) rfl b3) (.now _))))
end Go.Proofs.Ytjbdhaenakcclaa.Ec

/- Circuits and tables: what is wrong with two together. No program in sight. -/
set_option linter.unusedVariables false
noncomputable section
namespace Go.Proofs.Ytjbdhaenakcclaa.Ec
open Go Go.Proofs.Ytjbdhaenakcclaa.Gp

theorem first_ev (c : Cir) (hc : c.2.2.2.2.length ≤ 9223372036854775806) : Ev (fun k => First37 k c) ((first c : Int), ()) := by
  unfold First37
  refine .bind (a := (first c : Int)) (Lp.ev ?_) (.now _)
  generalize hl : c.2.2.2.2 = l at hc
  have hf : first c = pk ((l.take 10).map bitOf) := by unfold first; rw [hl]
  have := Lp.fold (body := fun k => First37.l0 k c) l (fun (m : List Nat) i => ((pk (m.take 10) : Int), i)) (fun m x => m ++ [bitOf x]) (fun m => (pk (m.take 10) : Int)) (fun i m => m = (l.take i).map bitOf) (fun i x m hx hm => ⟨?_, ?_⟩) (fun m _ => ?_) (b := []) rfl
  · rw [foldl_snoc, List.nil_append, ← List.map_take, ← hf] at this
    exact this
  · have hi := get_lt hx
    have hlen : m.length = i := by rw [hm, List.length_map, List.length_take]; omega
    simp only [First37.l0, hl]
    refine .yes (decide_eq_true (by omega)) (.val (rd_some' hx) (.bind (a := (pk ((m ++ [bitOf x]).take 10) : Int)) ?_ (.now' ?_)))
    · refine .iff (fun h => ?_) (fun h => .now' ?_)
      · have hlt : pk m < 2 ^ i := by rw [← hlen]; exact pk_lt m (by rw [hm]; exact bits_ok _)
        refine .val (a := shlI .i64 (bitOf x : Int) (i : Int)) ?_ (.now' ?_)
        · rw [if_neg (by omega), (bit_and x).1]
        · rw [List.take_of_length_le (show m.length ≤ 10 by omega), add_bit hlt (bit_and x).2 (by omega), List.take_of_length_le (by rw [List.length_append]; simp; omega), pk_snoc, hlen]
      · rw [List.take_append_of_le_length (by omega)]
    · rw [w64_id (by omega) (by omega)]
  · rw [hm, take_snoc hx, List.map_append]; rfl
  · simp only [First37.l0, hl]
    exact .no (by simp) (.now _)

/-- the first fault of a list -/
def firstE {α : Type} (f : α → Int) : List α → Int
  | [] => 0
  | x :: l => if f x ≠ 0 then f x else firstE f l
theorem walk_first {α R : Type} (f : α → Int) (mk : Int → R) (fin : R) : ∀ (l : List α), walk (fun (_ : Unit) x => if f x ≠ 0 then (.inr (mk (f x)) : Unit ⊕ R) else .inl ()) (fun _ => fin) l () = if firstE f l ≠ 0 then mk (firstE f l) else fin
  | [] => rfl
  | x :: l => by
    rw [walk_cons]
    unfold firstE
    by_cases h : f x ≠ 0
    · rw [if_pos h, if_pos h, if_pos h]
    · rw [if_neg h, if_neg h]
      exact walk_first f mk fin l
theorem firstE_zero {α : Type} {f : α → Int} : ∀ {l : List α}, firstE f l = 0 → ∀ x ∈ l, f x = 0
  | y :: l, h, x, hx => by
    unfold firstE at h
    by_cases h0 : f y ≠ 0
    · rw [if_pos h0] at h; exact absurd h h0
    · rw [if_neg h0] at h
      rcases List.mem_cons.1 hx with rfl | hx
      · omega
      · exact firstE_zero h x hx

abbrev Tab := Int × (Int × List (List (Int × Int)))
def largeT (t : Tab) : Bool := decide (t.1 < 0 ∨ t.1 > 4 ∨ t.2.1 < 0 ∨ t.2.1 > 10 ∨ t.2.2.length > 64)
def cellE (t : Tab) (r : Int × Int) : Int := if r.1 < 0 ∨ r.1 ≥ ((2 ^ t.2.1.toNat : Nat) : Int) then 1 else if r.2 < 0 ∨ r.2 ≥ (t.2.2.length : Int) then 4 else 0
def rowE (t : Tab) (l : List (Int × Int)) : Int := if l.length ≠ 2 ^ t.1.toNat then 3 else firstE (cellE t) l
def tfault (t : Tab) : Int := if largeT t then 2 else if t.2.2.length = 0 then 13 else firstE (rowE t) t.2.2
theorem largeT_or (t : Tab) : cond (cond (cond (cond (decide (t.1 < 0)) true (decide (t.1 > 4))) true (decide (t.2.1 < 0))) true (decide (t.2.1 > 10))) true (decide ((List.length t.2.2 : Int) > 64)) = largeT t := by
  have e : ∀ a b : Bool, cond a true b = (a || b) := fun a b => by cases a <;> rfl
  simp only [e, largeT, ← Bool.decide_or]
  exact decide_eq_decide.2 (by omega)
structure SmallT (t : Tab) : Prop where
  ins : 0 ≤ t.1 ∧ t.1 ≤ 4
  outs : 0 ≤ t.2.1 ∧ t.2.1 ≤ 10
  rows : t.2.2.length ≤ 64
theorem smallT_of {t : Tab} (h : largeT t = false) : SmallT t := by
  unfold largeT at h
  have := of_decide_eq_false h
  exact ⟨by omega, by omega, by omega⟩
theorem pow_ins {n : Int} (h0 : 0 ≤ n) (h1 : n ≤ 4) : 2 ^ n.toNat ≤ 16 := by
  have : n.toNat ≤ 4 := by omega
  exact Nat.le_trans (Nat.pow_le_pow_right (by decide) this) (by decide)
theorem shl_one {n : Int} (h0 : 0 ≤ n) (h1 : n ≤ 60) : shlI .i64 1 n = ((2 ^ n.toNat : Nat) : Int) := by
  obtain ⟨j, hj⟩ : ∃ j : Nat, n = (j : Int) := ⟨n.toNat, by omega⟩
  rw [hj, shlI_one (by omega), Int.toNat_natCast]
theorem shr_ne {x n : Int} (hx : 0 ≤ x) (h0 : 0 ≤ n) (h1 : n ≤ 60) : (shrI .i64 x n != 0) = decide (x ≥ ((2 ^ n.toNat : Nat) : Int)) := by
  obtain ⟨j, hj⟩ : ∃ j : Nat, n = (j : Int) := ⟨n.toNat, by omega⟩
  obtain ⟨a, ha⟩ : ∃ a : Nat, x = (a : Int) := ⟨x.toNat, by omega⟩
  rw [hj, ha, shrI_nat (by omega), Int.toNat_natCast, Bool.eq_iff_iff, bne_iff_ne, decide_eq_true_iff]
  have h := Nat.div_eq_zero_iff_lt (Nat.two_pow_pos j) (x := a)
  constructor
  · intro hn
    have : ¬ a < 2 ^ j := fun hl => hn (by rw [h.2 hl]; rfl)
    omega
  · intro hn he
    have : a / 2 ^ j = 0 := by omega
    have := h.1 this
    omega

theorem tf_cell (t : Tab) (hs : SmallT t) (l : List (Int × Int)) (hl : l.length ≤ 1000) : Lp (fun k => TableFault40.l0 k l) (t, 0) (if firstE (cellE t) l ≠ 0 then .inr (.inr (.inr (firstE (cellE t) l, ()))) else .inl t) := by
  rw [← walk_first (R := Tab ⊕ ((Tab × Int) ⊕ (Unit ⊕ (Int × Unit)))) (cellE t) (fun e => .inr (.inr (.inr (e, ())))) (.inl t)]
  refine Lp.walk (body := fun k => TableFault40.l0 k l) l (fun (_ : Unit) i => (t, i)) _ _ (fun _ _ => True) (fun i x b hx _ => ⟨?_, fun _ _ => trivial⟩) (fun b _ => ?_) (b := ()) trivial
  · have hi := get_lt hx
    obtain ⟨o0, o1⟩ := hs.outs
    have hr := hs.rows
    simp only [TableFault40.l0]
    refine .yes (decide_eq_true (by omega)) (.val (rd_some' hx) (.bind (a := decide (x.1 < 0 ∨ x.1 ≥ ((2 ^ t.2.1.toNat : Nat) : Int))) ?_ ?_))
    · refine .iff (fun h => .now' (by rw [decide_eq_true (.inl h)])) (fun h => .val (a := shrI .i64 x.1 t.2.1) (if_neg (by omega)) (.now' ?_))
      rw [shr_ne (by omega) o0 (by omega)]
      exact decide_eq_decide.2 (by omega)
    · unfold cellE
      refine .iff (fun h => .now' (by simp only [if_pos h]; rfl)) (fun h => ?_)
      simp only [if_neg h]
      have e : cond (decide (x.2 < 0)) true (decide (x.2 > w64 ((List.length t.2.2 : Int) - 1))) = decide (x.2 < 0 ∨ x.2 ≥ (t.2.2.length : Int)) := by
        rw [w64_id (by omega) (by omega)]
        by_cases h0 : x.2 < 0
        · simp [h0]
        · simp only [decide_eq_false h0, cond_false]
          exact decide_eq_decide.2 (by omega)
      rw [e]
      refine .iff (fun h => .now' (by simp only [if_pos h]; rfl)) (fun h => .now' ?_)
      simp only [if_neg h]
      rw [w64_id (by omega) (by omega)]; rfl
  · simp only [TableFault40.l0]
    exact .no (by simp) (.now _)
theorem tc_cell (t : Tab) (hs : SmallT t) (l : List (Int × Int)) (hl : l.length ≤ 1000) : Lp (fun k => Check105.l0 k l) (t, 0) (if firstE (cellE t) l ≠ 0 then .inr (.inr (.inr (firstE (cellE t) l, ()))) else .inl t) := by
  rw [← walk_first (R := Tab ⊕ ((Tab × Int) ⊕ (Unit ⊕ (Int × Unit)))) (cellE t) (fun e => .inr (.inr (.inr (e, ())))) (.inl t)]
  refine Lp.walk (body := fun k => Check105.l0 k l) l (fun (_ : Unit) i => (t, i)) _ _ (fun _ _ => True) (fun i x b hx _ => ⟨?_, fun _ _ => trivial⟩) (fun b _ => ?_) (b := ()) trivial
  · have hi := get_lt hx
    obtain ⟨o0, o1⟩ := hs.outs
    have hr := hs.rows
    simp only [Check105.l0]
    refine .yes (decide_eq_true (by omega)) (.val (rd_some' hx) (.bind (a := decide (x.1 < 0 ∨ x.1 ≥ ((2 ^ t.2.1.toNat : Nat) : Int))) ?_ ?_))
    · refine .iff (fun h => .now' (by rw [decide_eq_true (.inl h)])) (fun h => .val (a := ((2 ^ t.2.1.toNat : Nat) : Int)) (by rw [if_neg (by omega), shl_one o0 (by omega)]) (.now' ?_))
      exact decide_eq_decide.2 (by omega)
    · unfold cellE
      refine .iff (fun h => .now' (by simp only [if_pos h]; rfl)) (fun h => ?_)
      simp only [if_neg h]
      have e : cond (decide (x.2 < 0)) true (decide (x.2 ≥ (List.length t.2.2 : Int))) = decide (x.2 < 0 ∨ x.2 ≥ (t.2.2.length : Int)) := by
        by_cases h0 : x.2 < 0
        · simp [h0]
        · simp only [decide_eq_false h0, cond_false]
          exact decide_eq_decide.2 (by omega)
      rw [e]
      refine .iff (fun h => .now' (by simp only [if_pos h]; rfl)) (fun h => .now' ?_)
      simp only [if_neg h]
      rw [w64_id (by omega) (by omega)]; rfl
  · simp only [Check105.l0]
    exact .no (by simp) (.now _)
theorem two_at {n : Int} (h0 : 0 ≤ n) (h1 : n ≤ 4) : rd ([1, 2, 4, 8, 16] : List Int) n = some ((2 ^ n.toNat : Nat) : Int) := by
  have : n = 0 ∨ n = 1 ∨ n = 2 ∨ n = 3 ∨ n = 4 := by omega
  rcases this with rfl | rfl | rfl | rfl | rfl <;> rfl
theorem ne_pow {l : List (Int × Int)} {n : Nat} : ((List.length l : Int) != (n : Int)) = decide (l.length ≠ n) := by
  rw [Bool.eq_iff_iff, bne_iff_ne, decide_eq_true_iff]; omega
theorem tf_rows (t : Tab) (hs : SmallT t) : Lp (fun k => TableFault40.l1 k t) (t, 0) (if firstE (rowE t) t.2.2 ≠ 0 then .inr (firstE (rowE t) t.2.2, ()) else .inl ()) := by
  rw [← walk_first (R := Unit ⊕ (Int × Unit)) (rowE t) (fun e => .inr (e, ())) (.inl ())]
  refine Lp.walk (body := fun k => TableFault40.l1 k t) t.2.2 (fun (_ : Unit) i => (t, i)) _ _ (fun _ _ => True) (fun i x b hx _ => ⟨?_, fun _ _ => trivial⟩) (fun b _ => ?_) (b := ()) trivial
  · have hi := get_lt hx
    obtain ⟨o0, o1⟩ := hs.ins
    have hr := hs.rows
    have h16 := pow_ins o0 o1
    simp only [TableFault40.l1]
    refine .yes (decide_eq_true (by omega)) (.val (rd_some' hx) (.val (two_at o0 o1) (.val (two_at o0 o1) ?_)))
    rw [ne_pow]
    unfold rowE
    refine .iff (fun h => .now' (by simp only [if_pos h]; rfl)) (fun h => ?_)
    simp only [if_neg h]
    have hc := tf_cell t hs x (by omega)
    by_cases h2 : firstE (cellE t) x ≠ 0
    · rw [if_pos h2] at hc
      simp only [if_pos h2]
      exact .joinR hc.ev
    · rw [if_neg h2] at hc
      simp only [if_neg h2]
      exact .joinL (S := Unit) hc.ev (.now' (by rw [w64_id (by omega) (by omega)]))
  · simp only [TableFault40.l1]
    exact .no (by simp) (.now _)
theorem tc_rows (t : Tab) (hs : SmallT t) : Lp (fun k => Check105.l1 k t) (t, 0) (if firstE (rowE t) t.2.2 ≠ 0 then .inr (firstE (rowE t) t.2.2, ()) else .inl ()) := by
  rw [← walk_first (R := Unit ⊕ (Int × Unit)) (rowE t) (fun e => .inr (e, ())) (.inl ())]
  refine Lp.walk (body := fun k => Check105.l1 k t) t.2.2 (fun (_ : Unit) i => (t, i)) _ _ (fun _ _ => True) (fun i x b hx _ => ⟨?_, fun _ _ => trivial⟩) (fun b _ => ?_) (b := ()) trivial
  · have hi := get_lt hx
    obtain ⟨o0, o1⟩ := hs.ins
    have hr := hs.rows
    have h16 := pow_ins o0 o1
    simp only [Check105.l1]
    refine .yes (decide_eq_true (by omega)) (.val (rd_some' hx) (.val (a := ((2 ^ t.1.toNat : Nat) : Int)) (by rw [if_neg (by omega), shl_one o0 (by omega)]) ?_))
    rw [ne_pow]
    unfold rowE
    refine .iff (fun h => .now' (by simp only [if_pos h]; rfl)) (fun h => ?_)
    simp only [if_neg h]
    have hc := tc_cell t hs x (by omega)
    by_cases h2 : firstE (cellE t) x ≠ 0
    · rw [if_pos h2] at hc
      simp only [if_pos h2]
      exact .joinR hc.ev
    · rw [if_neg h2] at hc
      simp only [if_neg h2]
      exact .joinL (S := Unit) hc.ev (.now' (by rw [w64_id (by omega) (by omega)]))
  · simp only [Check105.l1]
    exact .no (by simp) (.now _)
theorem zero_len (t : Tab) : ((List.length t.2.2 : Int) == 0) = decide (t.2.2.length = 0) := by
  rw [Bool.eq_iff_iff, beq_iff_eq, decide_eq_true_iff]; omega
theorem tfault_ev (t : Tab) : Ev (fun k => TableFault40 k t) (tfault t, ()) := by
  unfold TableFault40 tfault
  rw [largeT_or]
  refine .cnd (fun h => .now' (by rw [if_pos h])) (fun h => ?_)
  have hs := smallT_of h
  rw [h, if_neg (by simp), zero_len]
  refine .iff (fun h => .now' (by rw [if_pos h])) (fun h => ?_)
  rw [if_neg h]
  have hr := tf_rows t hs
  by_cases h2 : firstE (rowE t) t.2.2 ≠ 0
  · rw [if_pos h2] at hr
    exact .joinR hr.ev
  · rw [if_neg h2] at hr
    exact .joinL (S := Unit) (a := ()) hr.ev (.now' (by rw [show firstE (rowE t) t.2.2 = 0 by omega]))
theorem tcheck_ev (t : Tab) : Ev (fun k => Check105 k t) (tfault t, ()) := by
  unfold Check105 tfault
  rw [largeT_or]
  refine .cnd (fun h => .now' (by rw [if_pos h])) (fun h => ?_)
  have hs := smallT_of h
  rw [h, if_neg (by simp), zero_len]
  refine .iff (fun h => .now' (by rw [if_pos h])) (fun h => ?_)
  rw [if_neg h]
  have hr := tc_rows t hs
  by_cases h2 : firstE (rowE t) t.2.2 ≠ 0
  · rw [if_pos h2] at hr
    exact .joinR hr.ev
  · rw [if_neg h2] at hr
    exact .joinL (S := Unit) (a := ()) hr.ev (.now' (by rw [show firstE (rowE t) t.2.2 = 0 by omega]))

/-- a right table -/
structure RightT (t : Tab) : Prop extends SmallT t where
  some : 0 < t.2.2.length
  row : ∀ l ∈ t.2.2, l.length = 2 ^ t.1.toNat
  cell : ∀ l ∈ t.2.2, ∀ r ∈ l, 0 ≤ r.1 ∧ r.1 < ((2 ^ t.2.1.toNat : Nat) : Int) ∧ 0 ≤ r.2 ∧ r.2 < (t.2.2.length : Int)
theorem rightT_of {t : Tab} (h : tfault t = 0) : RightT t := by
  unfold tfault at h
  split at h
  · omega
  rename_i hl
  split at h
  · omega
  rename_i h0
  have hs := smallT_of (t := t) (by simpa using hl)
  have hrow : ∀ l ∈ t.2.2, l.length = 2 ^ t.1.toNat ∧ firstE (cellE t) l = 0 := by
    intro l hm
    have := firstE_zero h l hm
    unfold rowE at this
    split at this
    · omega
    · rename_i h1; exact ⟨by omega, this⟩
  refine ⟨hs, by omega, fun l hm => (hrow l hm).1, fun l hm r hr => ?_⟩
  have := firstE_zero (hrow l hm).2 r hr
  unfold cellE at this
  split at this
  · omega
  split at this <;> omega

def pfault (c : Cir) (t : Tab) : Int := if fault c ≠ 0 then fault c else if tfault t ≠ 0 then tfault t else if c.1 ≠ t.1 ∨ (c.2.2.1.length : Int) ≠ t.2.1 then 8 else 0
theorem ne_or (c : Cir) (t : Tab) : cond (c.1 != t.1) true ((List.length c.2.2.1 : Int) != t.2.1) = decide (c.1 ≠ t.1 ∨ (c.2.2.1.length : Int) ≠ t.2.1) := by
  by_cases h : c.1 = t.1
  · have : (c.1 != t.1) = false := by simp [h]
    rw [this, Bool.eq_iff_iff, decide_eq_true_iff]
    simp [h]
  · have : (c.1 != t.1) = true := by simp [h]
    rw [this]
    simp [h]
theorem pair_ev (c : Cir) (t : Tab) (hw : ∀ x ∈ c.2.2.2.2, -9223372036854775808 ≤ x ∧ x ≤ 9223372036854775807) : Ev (fun k => pairFault35 k c t) (pfault c t, ()) := by
  unfold pairFault35 pfault
  refine .bind (cfault_ev c hw) (.bind (a := (c, t, if fault c ≠ 0 then fault c else tfault t)) ?_ (.bind (a := pfault c t) ?_ (.now _)))
  · by_cases h : fault c ≠ 0
    · rw [if_pos h]
      exact .no (by simpa using h) (.now _)
    · rw [if_neg h]
      exact .yes (by simpa using h) (.bind (tfault_ev t) (.now _))
  · unfold pfault
    by_cases h : fault c ≠ 0
    · rw [if_pos h, if_pos h]
      have e : (fault c == 0) = false := by simpa using h
      simp only [e, cond_false]
      exact .now _
    · rw [if_neg h, if_neg h]
      by_cases h2 : tfault t ≠ 0
      · rw [if_pos h2]
        have e : (tfault t == 0) = false := by simpa using h2
        simp only [e, cond_false]
        exact .now _
      · rw [if_neg h2]
        have e : tfault t = 0 := by omega
        simp only [e, ne_or]
        refine .cnd (fun h => .now' ?_) (fun h => .now' ?_)
        · have h : decide (c.1 ≠ t.1 ∨ (c.2.2.1.length : Int) ≠ t.2.1) = true := h
          rw [if_pos (of_decide_eq_true h)]
        · have h : decide (c.1 ≠ t.1 ∨ (c.2.2.1.length : Int) ≠ t.2.1) = false := h
          rw [if_neg (of_decide_eq_false h)]
theorem check2_ev (c : Cir) (t : Tab) : Ev (fun k => Check65 k c t) (pfault c t, ()) := by
  unfold Check65 pfault
  refine .bind (check_ev c) ?_
  by_cases h : fault c ≠ 0
  · rw [if_pos h]
    exact .yes (bne_iff_ne.2 h) (.now _)
  · rw [if_neg h]
    refine .no (by simpa using h) (.bind (tcheck_ev t) ?_)
    by_cases h2 : tfault t ≠ 0
    · rw [if_pos h2]
      exact .yes (bne_iff_ne.2 h2) (.now _)
    · rw [if_neg h2]
      refine .no (by simpa using h2) ?_
      simp only [ne_or]
      exact .iff (fun h => .now' (by rw [if_pos h])) (fun h => .now' (by rw [if_neg h]))
theorem pfault_zero {c : Cir} {t : Tab} (h : pfault c t = 0) : fault c = 0 ∧ RightT t ∧ c.1 = t.1 ∧ (c.2.2.1.length : Int) = t.2.1 := by
  unfold pfault at h
  split at h
  · omega
  split at h
  · omega
  rename_i h1 h2
  split at h
  · omega
  rename_i h3
  refine ⟨by omega, rightT_of (by omega), ?_, ?_⟩
  · exact Decidable.byContradiction fun hn => h3 (.inl hn)
  · exact Decidable.byContradiction fun hn => h3 (.inr hn)
theorem init_len {c : Cir} (h : fault c = 0) : c.2.2.2.2.length ≤ 10 := by
  unfold fault at h
  split at h
  · omega
  rename_i hl
  obtain ⟨s0, s1, s2, s3, s4⟩ := small_of (c := c) (by simpa using hl)
  split at h
  · omega
  rename_i h2
  have : c.2.2.2.2.length = c.2.2.2.1.length := Decidable.byContradiction fun hn => h2 hn
  omega
def outN (c : Cir) (st inn : Int) : Nat := pk (line c st inn c.2.2.1)
def nxtN (c : Cir) (st inn : Int) : Nat := pk (line c st inn c.2.2.2.1)
theorem step16_ev {c : Cir} (hf : fault c = 0) (st inn : Int) : Ev (fun k => Step16 k c st inn) (((outN c st inn : Int), (nxtN c st inn : Int), ()), ()) := by
  unfold Step16
  have hR := right_of c hf
  refine .bind (check_ev c) (.no (by rw [hf]; rfl) (.bind (values_ev hR st inn) (.bind (bits_ev hR st inn _ hR.outs) (.bind (bits_ev hR st inn _ hR.next) (.now _)))))
end Go.Proofs.Ytjbdhaenakcclaa.Ec

/- What an argument of a law reads as, kind by kind. -/
set_option linter.unusedVariables false
noncomputable section
namespace Go.Proofs.Ytjbdhaenakcclaa.Gp
open Go Go.ChangeShapes Go.WideShapes Go.RowKit

/-- the input's memory, all of it frozen -/
def memH (W : World) : Hp := fun b => W.heap[b]?

structure Gd (P : Program) (t : TypeId) (k : K) (wf : k.den → Prop) (siz : k.den → Nat) : Prop where
  cells : P.cellsOf t = k.w
  one : k.one = true
  pur : k.pur = true
  val : ∀ {W : World} {r : Reach} {base : Nat} {v : Value}, Value.okWide P W r base t v → v = k.mk v.cells.toList
  read : ∀ {H : Type} {enc : TypeId × Value → H} {W : World} {base : Nat} {spare : Nat → Bool} {held : Bool} {fuel : Nat} {cs : List Value} {x : DataW H × List MemPlace},
    DataW.trod enc P W base spare held fuel t cs = some x → (∀ n ∈ x.1.weights P t, n ≤ reachBytes) → ∃ y, (∀ L, Lv (memH W) L k y cs) ∧ wf y ∧ siz y ≤ Rows.uptoBulk x.1

variable {P : Program}

theorem str_len {s : ByteArray} : s.data.toList.length = s.size := Array.length_toList
theorem gd_int {t : TypeId} {k : IntKind} (hu : P.underlying t = some (.int k)) (hc : P.cellsOf t = 1) : Gd P t (.int k) (fun (y : Int) => (Lit.int k y).wf = true) (fun _ => 1) :=
  ⟨hc, rfl, rfl, fun h => by obtain ⟨n, rfl⟩ := okWide_int hu h; rfl, fun h _ => by
    obtain ⟨n, rfl, rfl, hw⟩ := DataW.trod_int hu h
    exact ⟨n, fun _ => rfl, hw, by simp [Rows.uptoBulk]⟩⟩
theorem gd_bool {t : TypeId} (hu : P.underlying t = some .bool) (hc : P.cellsOf t = 1) : Gd P t .bool (fun _ => True) (fun _ => 1) :=
  ⟨hc, rfl, rfl, fun h => by
    simp only [Value.okWide, hu, Cell.okWide] at h
    rename_i v
    cases v <;> first | rfl | (simp_all [Cell.ok]; done), fun h _ => by
    obtain ⟨n, rfl, rfl⟩ := DataW.trod_bool hu h
    exact ⟨n, fun _ => rfl, trivial, by simp [Rows.uptoBulk]⟩⟩
theorem gd_str {t : TypeId} (hu : P.underlying t = some .string) (hc : P.cellsOf t = 1) : Gd P t .str (fun (y : ByteArray) => y.size ≤ 140737488351232) (fun (y : ByteArray) => y.size + 1) :=
  ⟨hc, rfl, rfl, fun h => by
    simp only [Value.okWide, hu, Cell.okWide] at h
    rename_i v
    cases v <;> first | rfl | (simp_all [Cell.ok]; done), fun h hw => by
    obtain ⟨s, rfl, rfl, _⟩ := DataW.trod_string hu h
    refine ⟨s, fun _ => rfl, ?_, ?_⟩
    · have := hw s.data.toList.length (by simp [DataW.weights])
      rw [str_len] at this
      exact this
    · simp only [Rows.uptoBulk]
      rw [str_len]
      omega⟩

theorem weights_all {H : Type} {e : TypeId} {n : Nat} : ∀ {l : List (DataW H)} {d : DataW H}, d ∈ l → n ∈ d.weights P e → n ∈ DataW.weightsAll P e l
  | x :: r, d, hd, hn => by
    rw [DataW.weightsAll]
    rcases List.mem_cons.1 hd with rfl | hd
    · exact List.mem_append_left _ hn
    · exact List.mem_append_right _ (weights_all hd hn)
theorem buildL {α : Type} {H : Type} {wf : α → Prop} {siz : α → Nat} : ∀ (es : List (DataW H × List MemPlace)) (p : Nat → α → Prop),
    (∀ i x, es[i]? = some x → ∃ y, p i y ∧ wf y ∧ siz y ≤ Rows.uptoBulk x.1) →
    ∃ ys : List α, ys.length = es.length ∧ (∀ j y, ys[j]? = some y → p j y ∧ wf y) ∧ (ys.map siz).sum ≤ Rows.uptoBulkAll (es.map (·.1))
  | [], _, _ => ⟨[], rfl, fun j y h => by simp at h, by simp⟩
  | x :: r, p, h => by
    obtain ⟨y, hp, hw, hs⟩ := h 0 x rfl
    obtain ⟨ys, hl, hy, hsum⟩ := buildL r (fun i => p (i + 1)) (fun i x hx => h (i + 1) x (by simpa using hx))
    refine ⟨y :: ys, by simp [hl], fun j z hz => ?_, ?_⟩
    · cases j with
      | zero => simp only [List.getElem?_cons_zero, Option.some.injEq] at hz; subst hz; exact ⟨hp, hw⟩
      | succ j => exact hy j z (by simpa using hz)
    · simp only [List.map_cons, List.sum_cons, Rows.uptoBulkAll]
      omega

def sizL {α : Type} (siz : α → Nat) (l : List α) : Nat := (l.map siz).sum + 1
def wfL {α : Type} (B : Nat) (wf : α → Prop) (l : List α) : Prop := l.length * B ≤ 140737488351232 ∧ ∀ y ∈ l, wf y

theorem LvL_mk {α : Type} {R : α → List Value → Prop} {w : Nat} {C : List Value} : ∀ {ys : List α} {o : Nat}, (∀ j y, ys[j]? = some y → ∃ c : List Value, c.length = w ∧ R y c ∧ ∀ i u, c[i]? = some u → C[o + (j * w + i)]? = some u) →
    LvL R ys ((C.drop o).take (ys.length * w))
  | [], o, h => by simp [LvL]
  | y :: ys, o, h => by
    obtain ⟨c, hc, hr, hu⟩ := h 0 y rfl
    have e : (C.drop o).take w = c := by
      apply List.ext_getElem?
      intro i
      rw [cut_get]
      by_cases hi : i < w
      · rw [if_pos hi]
        have hi' : i < c.length := by omega
        have := hu i c[i] (List.getElem?_eq_getElem hi')
        rw [Nat.zero_mul, Nat.zero_add] at this
        rw [this, List.getElem?_eq_getElem hi']
      · rw [if_neg hi, List.getElem?_eq_none (by omega)]
    refine ⟨c, (C.drop (o + w)).take (ys.length * w), ?_, hr, LvL_mk (fun j z hz => ?_)⟩
    · rw [List.length_cons, Nat.add_mul, Nat.one_mul, Nat.add_comm (ys.length * w) w, List.take_add, e, List.drop_drop]
    · obtain ⟨c', h1, h2, h3⟩ := h (j + 1) z hz
      refine ⟨c', h1, h2, fun i u hi => ?_⟩
      have := h3 i u hi
      rw [Nat.add_mul, Nat.one_mul] at this
      rw [show o + w + (j * w + i) = o + (j * w + w + i) by omega]
      exact this

theorem gd_sl {t e : TypeId} {k : K} {wf : k.den → Prop} {siz : k.den → Nat} {B : Nat} (hu : P.underlying t = some (.slice e)) (hc : P.cellsOf t = 1) (hB : P.bytesOf e = B) (hk : 0 < k.w) (r : Gd P e k wf siz) :
    Gd P t (.sl k) (wfL (α := k.den) B wf) (sizL (α := k.den) siz) :=
  ⟨hc, rfl, r.pur, fun h => by obtain ⟨a, len, cap, rfl⟩ := okWide_slice hu h; rfl, fun {H enc W base spare held fuel cs x} h hw => by
    rcases DataW.trod_slice hu h with ⟨rfl, rfl⟩ | ⟨a, len, cap, elems, rest, n, _, rfl, rfl, hb, hl, hm, hlen, hel, _, _⟩
    · exact ⟨([] : List k.den), fun L => ⟨r.pur, none, 0, rfl, Nat.le_refl _, fun hn => absurd rfl hn⟩, ⟨by simp, fun y hy => by simp at hy⟩, by simp [sizL, Rows.uptoBulk]⟩
    · simp only [DataW.weights, hu] at hw
      have hw1 : (elems.length + rest.length) * B ≤ 140737488351232 := by
        have := hw ((elems.length + rest.length) * B) (by simp [hB])
        exact this
      obtain ⟨ys, hyl, hyp, hys⟩ := buildL (wf := wf) (siz := siz) elems (fun i y => ∃ c : List Value, c.length = k.w ∧ (∀ L, Lv (memH W) L k y c) ∧ ∀ j u, c[j]? = some u → W.cell? (a.add (i * k.w + j)) = some u) (fun i z hz => by
        have hi : i < len := by
          have := (List.getElem?_eq_some_iff.1 hz).1
          omega
        have h1 := hel i hi
        rw [hz] at h1
        obtain ⟨c, hc1, hc2⟩ := Option.bind_eq_some_iff.1 h1
        obtain ⟨y, hK, hwf, hsz⟩ := r.read hc2 (fun q hq => hw q (List.mem_cons_of_mem _ (List.mem_append_left _ (weights_all (List.mem_map.2 ⟨z, List.mem_of_getElem? hz, rfl⟩) hq))))
        obtain ⟨_, hcl, hcell⟩ := World.cells?_some hc1
        refine ⟨y, ⟨c, Lv_len (hK default), hK, fun j u hu => ?_⟩, hwf, hsz⟩
        have hj : j < P.cellsOf e := by
          have := (List.getElem?_eq_some_iff.1 hu).1
          omega
        have h3 := hcell j hj
        rw [Go.Deep.add_add, r.cells] at h3
        rw [h3]
        exact hu)
      refine ⟨ys, fun L => ⟨r.pur, some a, cap, by rw [hyl, hlen], by omega, fun hn => ?_⟩, ⟨?_, fun y hy => ?_⟩, ?_⟩
      · have hn : ys.length ≠ 0 := hn
        obtain ⟨y, hy⟩ : ∃ y, ys[0]? = some y := ⟨ys[0]'(by omega), List.getElem?_eq_getElem (by omega)⟩
        obtain ⟨c, c1, c2, c3⟩ := (hyp 0 y hy).1
        obtain ⟨u, hu0⟩ : ∃ u, c[0]? = some u := ⟨c[0]'(by omega), List.getElem?_eq_getElem (by omega)⟩
        have hcell := c3 0 u hu0
        rw [Nat.zero_mul, Nat.zero_add, show a.add 0 = a from rfl] at hcell
        unfold World.cell? at hcell
        split at hcell
        · rename_i C ee zz hblk
          split at hcell
          · cases hcell
          · rename_i hsp
            have hsp : a.spot = none := by cases hs : a.spot with | none => rfl | some q => rw [hs] at hsp; exact absurd rfl hsp
            refine ⟨a.block, a.off, C, ee, zz, by cases a; simp only at hsp; rw [hsp], hblk, LvL_mk (C := C.toList) (fun j y hy => ?_)⟩
            obtain ⟨c, c1, c2, c3⟩ := (hyp j y hy).1
            refine ⟨c, c1, c2 L, fun i u hi => ?_⟩
            have h5 := c3 i u hi
            have hadd : (a.add (j * k.w + i)).block = a.block ∧ (a.add (j * k.w + i)).off = a.off + (j * k.w + i) ∧ (a.add (j * k.w + i)).spot = none := by
              unfold Addr.add
              split
              · rename_i h0; exact ⟨rfl, by omega, hsp⟩
              · exact ⟨rfl, rfl, rfl⟩
            unfold World.cell? at h5
            rw [hadd.1, hblk, hadd.2.1, hadd.2.2] at h5
            rw [Array.getElem?_toList]
            exact h5
        · cases hcell
      · rw [hyl]
        exact Nat.le_trans (Nat.mul_le_mul_right _ (Nat.le_add_right _ _)) hw1
      · obtain ⟨j, hj⟩ := List.mem_iff_getElem?.1 hy
        exact (hyp j y hj).2
      · simp only [sizL, Rows.uptoBulk]
        omega⟩

/-- arrays -/
def sizA {α : Type} (siz : α → Nat) (l : List α) : Nat := (l.map siz).sum
def wfA {α : Type} (n : Nat) (wf : α → Prop) (l : List α) : Prop := l.length = n ∧ ∀ y ∈ l, wf y
theorem gd_arr {t e : TypeId} {n : Nat} {k : K} {wf : k.den → Prop} {siz : k.den → Nat} (hu : P.underlying t = some (.array n e)) (hc : P.cellsOf t = n * k.w) (r : Gd P e k wf siz) :
    Gd P t (.arr n k) (wfA (α := k.den) n wf) (sizA (α := k.den) siz) :=
  ⟨hc, rfl, r.pur, fun h => by
    simp only [Value.okWide, hu] at h
    obtain ⟨cs, rfl, _⟩ := h
    rfl, fun {H enc W base spare held fuel cs x} h hw => by
    obtain ⟨xs, m, _, rfl, hl, hxl, hx⟩ := DataW.trod_array hu h
    simp only [DataW.weights, hu] at hw
    obtain ⟨ys, hyl, hyp, hys⟩ := buildL (wf := wf) (siz := siz) xs (fun i y => ∀ L, Lv (memH W) L k y ((cs.drop (i * k.w)).take k.w)) (fun i z hz => by
      have hi : i < n := by
        have := (List.getElem?_eq_some_iff.1 hz).1
        omega
      have h1 := hx i hi
      rw [hz, r.cells] at h1
      obtain ⟨y, hK, hwf, hsz⟩ := r.read h1 (fun q hq => hw q (weights_all (List.mem_map.2 ⟨z, List.mem_of_getElem? hz, rfl⟩) hq))
      exact ⟨y, hK, hwf, hsz⟩)
    refine ⟨ys, fun L => ⟨r.pur, hyl.trans hxl, ?_⟩, ⟨hyl.trans hxl, fun y hy => ?_⟩, ?_⟩
    · have := LvL_mk (w := k.w) (R := Lv (memH W) L k) (C := cs) (ys := ys) (o := 0) (fun j y hy => ⟨(cs.drop (j * k.w)).take k.w, Lv_len ((hyp j y hy).1 L), (hyp j y hy).1 L, fun i u hi => by
        rw [cut_get] at hi
        split at hi
        · rw [Nat.zero_add]; exact hi
        · cases hi⟩)
      rwa [List.drop_zero, List.take_of_length_le (by rw [hl, hc, hyl, hxl]; exact Nat.le_refl _)] at this
    · obtain ⟨j, hj⟩ := List.mem_iff_getElem?.1 hy
      exact (hyp j y hj).2
    · simp only [sizA, Rows.uptoBulk]
      omega⟩

/-- fields in line, from cell 'off' on -/
structure GdF (P : Program) (off : Nat) (fs : List Field) (k : K) (wf : k.den → Prop) (siz : k.den → Nat) : Prop where
  pur : k.pur = true
  read : ∀ {H : Type} {enc : TypeId × Value → H} {W : World} {base : Nat} {spare : Nat → Bool} {held : Bool} {fuel : Nat} {cs : List Value} {xs : List (DataW H × List MemPlace)},
    cs.length = off + k.w → xs.length = fs.length →
    (∀ (i : Nat) (f : Field), fs[i]? = some f → DataW.trod enc P W base spare held fuel f.type ((cs.drop f.offset).take (P.cellsOf f.type)) = xs[i]?) →
    (∀ n ∈ DataW.weightsEach P (fs.map (·.type)) (xs.map (·.1)), n ≤ reachBytes) →
    ∃ y, (∀ L, Lv (memH W) L k y (cs.drop off)) ∧ wf y ∧ siz y ≤ Rows.uptoBulkAll (xs.map (·.1))

theorem gdf_nil {off : Nat} : GdF P off [] .unit (fun _ => True) (fun _ => 0) :=
  ⟨rfl, fun {H enc W base spare held fuel cs xs} hl hxl hx hw => ⟨(), fun L => by
    show cs.drop off = []
    exact List.drop_eq_nil_of_le (by rw [hl]; exact Nat.le_refl _), trivial, Nat.zero_le _⟩⟩
theorem gdf_cons {off : Nat} {f : Field} {fs : List Field} {k k' : K} {wf : k.den → Prop} {wf' : k'.den → Prop} {siz : k.den → Nat} {siz' : k'.den → Nat} (ho : f.offset = off) (r : Gd P f.type k wf siz)
    (rs : GdF P (off + k.w) fs k' wf' siz') : GdF P off (f :: fs) (.pair k k') (fun (y : k.den × k'.den) => wf y.1 ∧ wf' y.2) (fun (y : k.den × k'.den) => siz y.1 + siz' y.2) := by
  refine ⟨by simp only [K.pur, r.pur, rs.pur]; rfl, ?_⟩
  intro H enc W base spare held fuel cs xs hl hxl hx hw
  have hl' : cs.length = off + (k.w + k'.w) := hl
  match xs, hxl with
  | x :: xs, hxl =>
    have h := hx 0 f rfl
    rw [ho, r.cells] at h
    simp only [List.getElem?_cons_zero] at h
    obtain ⟨y, h1, h2, h3⟩ := r.read h (fun n hn => hw n (by simp [DataW.weightsEach, hn]))
    obtain ⟨z, g1, g2, g3⟩ := rs.read (enc := enc) (W := W) (base := base) (spare := spare) (held := held) (fuel := fuel) (cs := cs) (xs := xs) (by omega) (by simpa using hxl)
      (fun i g hg => by simpa using hx (i + 1) g (by simpa using hg)) (fun n hn => hw n (by simp only [List.map_cons, DataW.weightsEach]; exact List.mem_append_right _ hn))
    refine ⟨(y, z), fun L => ⟨(cs.drop off).take k.w, cs.drop (off + k.w), ?_, h1 L, g1 L⟩, ⟨h2, g2⟩, ?_⟩
    · rw [← List.drop_drop]
      exact (List.take_append_drop _ _).symm
    · simp only [List.map_cons, Rows.uptoBulkAll]
      omega
theorem gdf_one {off : Nat} {f : Field} {k : K} {wf : k.den → Prop} {siz : k.den → Nat} (ho : f.offset = off) (r : Gd P f.type k wf siz) : GdF P off [f] k wf siz := by
  refine ⟨r.pur, ?_⟩
  intro H enc W base spare held fuel cs xs hl hxl hx hw
  match xs, hxl with
  | [x], hxl =>
    have h := hx 0 f rfl
    rw [ho, r.cells] at h
    simp only [List.getElem?_cons_zero] at h
    have e : (cs.drop off).take k.w = cs.drop off := List.take_of_length_le (by rw [List.length_drop, hl]; omega)
    rw [e] at h
    obtain ⟨y, h1, h2, h3⟩ := r.read h (fun n hn => hw n (by simp [DataW.weightsEach, hn]))
    refine ⟨y, h1, h2, ?_⟩
    simp only [List.map_cons, List.map_nil, Rows.uptoBulkAll]
    omega
theorem gd_st {t : TypeId} {fs : Array Field} {k : K} {wf : k.den → Prop} {siz : k.den → Nat} (hu : P.underlying t = some (.struct fs)) (hc : P.cellsOf t = k.w) (r : GdF P 0 fs.toList k wf siz) : Gd P t (.st k) wf siz :=
  ⟨hc, rfl, r.pur, fun h => by
    simp only [Value.okWide, hu] at h
    obtain ⟨cs, rfl, _⟩ := h
    rfl, fun h hw => by
    obtain ⟨xs, n, _, rfl, hl, hxl, hx⟩ := DataW.trod_struct hu h
    obtain ⟨y, h1, h2, h3⟩ := r.read (by rw [hl, hc]; omega) (by rw [hxl]; simp) (fun i f hf => hx i f (by simpa using hf)) (fun n hn => hw n (by simp only [DataW.weights, hu]; exact hn))
    refine ⟨y, h1, h2, ?_⟩
    simp only [Rows.uptoBulk]
    omega⟩

/-- an argument -/
theorem Gd.arg {t : TypeId} {k : K} {wf : k.den → Prop} {siz : k.den → Nat} (r : Gd P t k wf siz) {H : Type} {enc : TypeId × Value → H} {W : World} {base : Nat} {spare : Nat → Bool} {held : Bool} {rr : Reach} {b2 : Nat} {v : Value} {x : DataW H} {ps : List MemPlace}
    (hval : Value.okWide P W rr b2 t v) (h : DataW.Trod enc P W base spare held t v x ps) (hw : ∀ n ∈ x.weights P t, n ≤ reachBytes) : ∃ y : k.den, (∀ L, SR (memH W) L ⟨k, y⟩ v) ∧ wf y ∧ siz y ≤ Rows.uptoBulk x := by
  obtain ⟨fuel, hf⟩ := h
  obtain ⟨y, h1, h2, h3⟩ := r.read hf hw
  refine ⟨y, fun L => ?_, h2, h3⟩
  rw [r.val hval]
  exact SR_mk (h1 L)

def noLoc : Ls := fun _ => default
theorem law_calls {fuel : Nat} {f : FuncId} {params : List K} {run : Nat → HL params → HL (List.map (·.toK) ([] : List OK)) → Option (K.bool.den × HL (List.map (·.toK) ([] : List OK)))} (hs : SoundAt P fuel ⟨f, params, [], .bool, [], [], run⟩) {ds : HL params}
    (hr : run fuel ds () = some (true, ())) {args : Array Value} {W : World} (hv : SRs (memH W) noLoc (unpackL params ds) args.toList) : Calls P f args W (fun e W' => e = .returned (.bool true) ∧ Below W.heap.size W W') := by
  have hno : ∀ b, ¬ Own (assoc O.dead (objsFrom 0 ([] : List OK) ())) noLoc b := fun b ⟨i, hi, _⟩ => hi
  refine Calls.mono (hs.2 ds () (true, ()) hr args W (memH W) noLoc hv ⟨fun i => trivial, fun b o h => h, fun i hi => hi.elim, fun i j hi => hi.elim⟩ (fun i hi => by cases hi)) fun e W' hh => ?_
  obtain ⟨v, H', L', rfl, h1, _, _, hp⟩ := hh
  have h1 : SR H' L' ⟨.bool, true⟩ v := h1
  refine ⟨by rw [bool_at h1], hp.fr.os, hp.fr.tape, hp.fr.output, hp.fr.size, fun b hb => hp.fr.same b hb (hno b)⟩
/-- The weights of one argument. -/
theorem weights_at {H : Type} {ts : List TypeId} {ds : List (DataW H)} (hsz : (DataW.weightsEach P ts ds).all (· ≤ reachBytes) = true) (j : Nat) {t : TypeId} {d : DataW H} (ht : ts[j]? = some t) (hd : ds[j]? = some d) :
    ∀ n ∈ d.weights P t, n ≤ reachBytes := fun n hn => by
  have := List.all_eq_true.1 hsz n (DataW.weights_mem_each ht hd n hn)
  simpa using this

/-- The bulk of one argument. -/
theorem bulk_at {H : Type} {l : List (DataW H)} (hk : Rows.uptoSmall H l = true) {d : DataW H} (hd : d ∈ l) : Rows.uptoBulk d ≤ 1048576 := by
  have h : Rows.uptoBulkAll l ≤ 1048576 := of_decide_eq_true hk
  have key : ∀ {l : List (DataW H)}, d ∈ l → Rows.uptoBulk d ≤ Rows.uptoBulkAll l := by
    intro l
    induction l with
    | nil => intro h; simp at h
    | cons x r ih =>
      intro h
      simp only [Rows.uptoBulkAll]
      rcases List.mem_cons.1 h with rfl | h
      · omega
      · have := ih h
        omega
  exact Nat.le_trans (key hd) h
end Go.Proofs.Ytjbdhaenakcclaa.Gp

/- Certificates of circuits and tables: the law. No program in sight. -/
set_option linter.unusedVariables false
noncomputable section
namespace Go.Proofs.Ytjbdhaenakcclaa.Ec
open Go Go.Proofs.Ytjbdhaenakcclaa.Gp

def p0 (p : List Int) : Int := p.getD 0 0
def p1 (p : List Int) : Int := p.getD 1 0
theorem two_of {p : List Int} (h : p.length = 2) : p = [p0 p, p1 p] := by
  match p, h with
  | [a, b], _ => rfl
theorem rd_p0 {p : List Int} (h : p.length = 2) : rd p 0 = some (p0 p) := by
  match p, h with
  | [a, b], _ => rfl
theorem rd_p1 {p : List Int} (h : p.length = 2) : rd p 1 = some (p1 p) := by
  match p, h with
  | [a, b], _ => rfl
def BA (c : Cir) (p : List Int) : Prop := p0 p < 0 ∨ p0 p ≥ ((2 ^ c.2.2.2.1.length : Nat) : Int)
def BB (c : Cir) (p : List Int) : Prop := BA c p ∨ p1 p < 0
def BC (c : Cir) (t : Tab) (p : List Int) : Prop := BB c p ∨ p1 p ≥ (t.2.2.length : Int)
instance (c : Cir) (p : List Int) : Decidable (BA c p) := by unfold BA; infer_instance
instance (c : Cir) (p : List Int) : Decidable (BB c p) := by unfold BB; infer_instance
instance (c : Cir) (t : Tab) (p : List Int) : Decidable (BC c t p) := by unfold BC; infer_instance
theorem evA {c : Cir} {p : List Int} (hp : p.length = 2) (hn : c.2.2.2.1.length ≤ 10) : Ev (fun (_ : Nat) => cond (decide (p0 p < 0)) (some true) ((rd p 0).bind fun t34 => (if (List.length c.2.2.2.1 : Int) < 0 then none else some (shlI .i64 1 (List.length c.2.2.2.1 : Int))).bind fun t39 => some (decide (t34 ≥ t39)))) (decide (BA c p)) := by
  refine .iff (fun h => .now' (decide_eq_true (.inl h)).symm) (fun h => .val (rd_p0 hp) (.val (a := ((2 ^ c.2.2.2.1.length : Nat) : Int)) (by rw [if_neg (by omega), shlI_one (by omega)]) (.now' (decide_eq_decide.2 ?_))))
  unfold BA
  omega
theorem evB {c : Cir} {p : List Int} (hp : p.length = 2) : Ev (fun (_ : Nat) => cond (decide (BA c p)) (some true) ((rd p 1).bind fun t43 => some (decide (t43 < 0)))) (decide (BB c p)) := by
  refine .iff (fun h => .now' (decide_eq_true (.inl h)).symm) (fun h => .val (rd_p1 hp) (.now' (decide_eq_decide.2 ?_)))
  exact ⟨.inr, fun h2 => h2.resolve_left h⟩
theorem evC {c : Cir} {t : Tab} {p : List Int} (hp : p.length = 2) : Ev (fun (_ : Nat) => cond (decide (BB c p)) (some true) ((rd p 1).bind fun t48 => some (decide (t48 ≥ (List.length t.2.2 : Int))))) (decide (BC c t p)) := by
  refine .iff (fun h => .now' (decide_eq_true (.inl h)).symm) (fun h => .val (rd_p1 hp) (.now' (decide_eq_decide.2 ?_)))
  exact ⟨.inr, fun h2 => h2.resolve_left h⟩

theorem foldE {α : Type} (g : α → Int) : ∀ (l : List α) (b : Int), l.foldl (fun b p => if b ≠ 0 then b else g p) b = if b ≠ 0 then b else firstE g l
  | [], b => by
    show b = _
    by_cases h : b ≠ 0
    · rw [if_pos h]
    · rw [if_neg h]
      show b = 0
      omega
  | x :: l, b => by
    rw [List.foldl_cons, foldE g l]
    by_cases h : b ≠ 0
    · rw [if_pos h, if_pos h, if_pos h]
    · rw [if_neg h, if_neg h]
      rfl
theorem walk_firstS {α β R : Type} (f : α → Int) (mk : Int → R) (s : β → α → β) (fin : β → R) : ∀ (l : List α) (b : β), walk (fun b x => if f x ≠ 0 then (.inr (mk (f x)) : β ⊕ R) else .inl (s b x)) fin l b = if firstE f l ≠ 0 then mk (firstE f l) else fin (l.foldl s b)
  | [], b => rfl
  | x :: l, b => by
    rw [walk_cons]
    unfold firstE
    by_cases h : f x ≠ 0
    · rw [if_pos h, if_pos h, if_pos h]
    · rw [if_neg h, if_neg h]
      exact walk_firstS f mk s fin l (s b x)

abbrev HM := List (List Int × Bool)
def putM (m : HM) (p : List Int) : HM := mput (.arr 2 (.int .i64)) .bool m p true
def getM (m : HM) (p : List Int) : Option Bool := mget (.arr 2 (.int .i64)) .bool m p
theorem get_put (m : HM) (p q : List Int) : getM (putM m p) q = if q = p then some true else getM m q := by
  have := mget_mput (kk := .arr 2 (.int .i64)) (kv := .bool) rfl (l := m) (k := p) (k' := q) (v := true)
  refine Eq.trans this ?_
  by_cases h : q = p
  · rw [if_pos ((eqB_iff (k := .arr 2 (.int .i64)) rfl).2 h), if_pos h]
    rfl
  · rw [if_neg (fun e => h ((eqB_iff (k := .arr 2 (.int .i64)) rfl).1 e)), if_neg h]
    rfl
theorem get_all : ∀ (l : List (List Int)) (m : HM) (q : List Int), getM (l.foldl putM m) q = if q ∈ l then some true else getM m q
  | [], m, q => by rw [if_neg (by simp)]; rfl
  | p :: l, m, q => by
    rw [List.foldl_cons, get_all l, get_put]
    by_cases h : q ∈ l
    · rw [if_pos h, if_pos (List.mem_cons_of_mem _ h)]
    · rw [if_neg h]
      by_cases h2 : q = p
      · rw [if_pos h2, if_pos (by rw [h2]; exact List.mem_cons_self ..)]
      · rw [if_neg h2, if_neg (by simp [h, h2])]
theorem has_all (l : List (List Int)) (q : List Int) : Option.getD (α := Bool) (mget (.arr 2 (.int .i64)) .bool (l.foldl putM []) q) false = decide (q ∈ l) := by
  have h : Option.getD (α := Bool) (getM (l.foldl putM []) q) false = decide (q ∈ l) := by
    rw [get_all]
    by_cases h : q ∈ l
    · rw [if_pos h, decide_eq_true h]; rfl
    · rw [if_neg h, decide_eq_false h]; rfl
  exact h

/-- what is in a table -/
def cellAt (t : Tab) (s : Int) (i : Nat) : Int × Int := (t.2.2.getD s.toNat []).getD i (0, 0)
theorem cell_rd {t : Tab} (hT : RightT t) {s : Int} (h0 : 0 ≤ s) (h1 : s < (t.2.2.length : Int)) {i : Nat} (hi : i < 2 ^ t.1.toNat) : ∃ l, rd t.2.2 s = some l ∧ rd l (i : Int) = some (cellAt t s i) := by
  have hx : s.toNat < t.2.2.length := by omega
  refine ⟨t.2.2[s.toNat], rd_at (i := s.toNat) (by omega) (List.getElem?_eq_getElem hx), rd_some' ?_⟩
  have hl := hT.row _ (List.getElem_mem hx)
  unfold cellAt
  rw [List.getD_eq_getElem?_getD, List.getD_eq_getElem?_getD, List.getElem?_eq_getElem hx]
  simp only [Option.getD_some]
  rw [List.getElem?_eq_getElem (by omega)]
  rfl
def cellC (c : Cir) (t : Tab) (l : List (List Int)) (p : List Int) (i : Nat) : Int :=
  if (outN c (p0 p) i : Int) ≠ (cellAt t (p1 p) i).1 then 12 else if ([(nxtN c (p0 p) i : Int), (cellAt t (p1 p) i).2] : List Int) ∉ l then 13 else 0
/-- all is right so far -/
structure Good (c : Cir) (t : Tab) (l : List (List Int)) : Prop where
  fault : fault c = 0
  tab : RightT t
  ins : c.1 = t.1
  all : ∀ p ∈ l, ¬ BC c t p
theorem Good.in1 {c : Cir} {t : Tab} {l : List (List Int)} (h : Good c t l) {p : List Int} (hp : p ∈ l) : 0 ≤ p1 p ∧ p1 p < (t.2.2.length : Int) := by
  have := h.all p hp
  unfold BC BB at this
  omega
theorem step85_ev {c : Cir} {t : Tab} {l : List (List Int)} (hg : Good c t l) {p : List Int} (hp : p ∈ l) (h2 : p.length = 2) {i : Nat} (hi : i < 2 ^ t.1.toNat) :
    Ev (fun k => step85 k c t p (i : Int)) (((outN c (p0 p) i : Int), (cellAt t (p1 p) i).1, [(nxtN c (p0 p) i : Int), (cellAt t (p1 p) i).2], ()), ()) := by
  obtain ⟨a, b⟩ := hg.in1 hp
  obtain ⟨r, h3, h4⟩ := cell_rd hg.tab a b hi
  unfold step85
  exact .val (rd_p0 h2) (.bind (step16_ev hg.fault _ _) (.val (rd_p1 h2) (.val h3 (.val h4 (.now _)))))

-- contains
theorem contains_ev (l : List (List Int)) (v : List Int) (hl : l.length < 9223372036854775807) : Ev (fun k => Contains36 k l v) (decide (v ∈ l), ()) := by
  unfold Contains36
  have key : Ev (fun k => Index84 k l v) ((if v ∈ l then (l.findIdx (fun x => decide (v = x)) : Int) else -1), ()) := by
    unfold Index84
    have hw : ∀ (suf pre : List (List Int)), l = pre ++ suf → v ∉ pre → Lp (fun k => Index84.l0 k l) (v, (pre.length : Int)) (if v ∈ l then .inr ((l.findIdx (fun x => decide (v = x)) : Int), ()) else .inl ()) := by
      intro suf
      induction suf with
      | nil =>
        intro pre h hn
        rw [List.append_nil] at h
        subst h
        refine .done ?_
        simp only [Index84.l0]
        exact .no (by simp) (.now' (by rw [if_neg hn]))
      | cons x suf ih =>
        intro pre h hn
        have hx : l[pre.length]? = some x := by rw [h]; simp
        have hi := get_lt hx
        have e : (xor false (eqB (.arr 2 (.int .i64)) v x)) = decide (v = x) := by rw [Bool.false_xor, Bool.eq_iff_iff, decide_eq_true_iff]; exact eqB_iff (k := .arr 2 (.int .i64)) rfl
        by_cases hvx : v = x
        · refine .done ?_
          simp only [Index84.l0]
          refine .yes (decide_eq_true (by omega)) (.val (rd_some' hx) (.yes (e.trans (decide_eq_true hvx)) (.now' ?_)))
          have hm : v ∈ l := by rw [hvx]; exact get_mem hx
          have : l.findIdx (fun x => decide (v = x)) = pre.length := by
            rw [h, List.findIdx_append, List.findIdx_eq_length_of_false (fun y hy => by simp only [decide_eq_false_iff_not]; intro e; rw [e] at hn; exact hn hy), List.findIdx_cons]
            simp [hvx]
          rw [if_pos hm, this]
        · refine .step (s' := (v, ((pre ++ [x]).length : Int))) ?_ (ih (pre ++ [x]) (by rw [h]; simp) (by simp [hn, hvx]))
          simp only [Index84.l0]
          refine .yes (decide_eq_true (by omega)) (.val (rd_some' hx) (.no (e.trans (decide_eq_false hvx)) (.now' ?_)))
          rw [w64_id (by omega) (by omega)]
          simp
    have h0 := hw l [] rfl (by simp)
    by_cases hm : v ∈ l
    · rw [if_pos hm] at h0 ⊢
      exact .joinR h0.ev
    · rw [if_neg hm] at h0 ⊢
      exact .joinL (S := Unit) (a := ()) h0.ev (.now _)
  refine .bind key (.now' ?_)
  by_cases hm : v ∈ l
  · simp only [if_pos hm, decide_eq_true hm]
    rw [decide_eq_true (by omega)]
  · simp only [if_neg hm, decide_eq_false hm]
    rfl

-- Accept
def g4 (c : Cir) (t : Tab) (p : List Int) : Int := if BC c t p then 4 else 0
theorem acc_l0 {c : Cir} {t : Tab} {l : List (List Int)} (h2 : ∀ p ∈ l, p.length = 2) (hn : c.2.2.2.1.length ≤ 10) (hl : l.length < 9223372036854775807) :
    Lp (fun k => Accept38.l0 k l) (c, t, (), 0, []) (if firstE (g4 c t) l ≠ 0 then .inr (firstE (g4 c t) l, ()) else .inl (c, t, (), l.foldl putM [])) := by
  rw [← walk_firstS (R := (Cir × (Tab × (Unit × HM))) ⊕ (Int × Unit)) (g4 c t) (fun e => .inr (e, ())) putM (fun m => .inl (c, t, (), m))]
  refine Lp.walk (body := fun k => Accept38.l0 k l) l (fun (m : HM) i => (c, t, (), i, m)) _ _ (fun _ _ => True) (fun i p b hx _ => ⟨?_, fun _ _ => trivial⟩) (fun b _ => ?_) (b := []) trivial
  · have hi := get_lt hx
    have hp := h2 p (get_mem hx)
    simp only [Accept38.l0]
    refine .yes (decide_eq_true (by omega)) (.val (rd_some' hx) (.val (rd_p0 hp) (.bind (evA hp hn) (.bind (evB hp) (.bind (evC (t := t) hp) ?_)))))
    unfold g4
    refine .iff (fun h => .now' (by simp only [if_pos h]; rfl)) (fun h => .now' ?_)
    simp only [if_neg h]
    rw [w64_id (by omega) (by omega)]; rfl
  · simp only [Accept38.l0]
    exact .no (by simp) (.now _)
theorem acc_l1 {c : Cir} {t : Tab} {l : List (List Int)} (hg : Good c t l) {p : List Int} (hp : p ∈ l) (h2 : p.length = 2) :
    Lp (fun k => Accept38.l1 k ((2 ^ t.1.toNat : Nat) : Int)) (c, t, (), p, 0, l.foldl putM []) (if firstE (cellC c t l p) (List.range (2 ^ t.1.toNat)) ≠ 0 then .inr (.inr (.inr (firstE (cellC c t l p) (List.range (2 ^ t.1.toNat)), ()))) else .inl (c, t, (), l.foldl putM [])) := by
  have h16 := pow_ins hg.tab.ins.1 hg.tab.ins.2
  rw [← walk_first (R := (Cir × (Tab × (Unit × HM))) ⊕ ((Cir × (Tab × (Unit × (Int × HM)))) ⊕ (Unit ⊕ (Int × Unit)))) (cellC c t l p) (fun e => .inr (.inr (.inr (e, ())))) (.inl (c, t, (), l.foldl putM []))]
  refine Lp.walk (body := fun k => Accept38.l1 k ((2 ^ t.1.toNat : Nat) : Int)) (List.range (2 ^ t.1.toNat)) (fun (_ : Unit) i => (c, t, (), p, i, l.foldl putM [])) _ _ (fun _ _ => True) (fun i x b hx _ => ⟨?_, fun _ _ => trivial⟩) (fun b _ => ?_) (b := ()) trivial
  · obtain ⟨hi, hxi⟩ := List.getElem?_eq_some_iff.1 hx
    rw [List.getElem_range] at hxi
    rw [List.length_range] at hi
    subst hxi
    simp only [Accept38.l1]
    refine .yes (decide_eq_true (by omega)) (.bind (step85_ev hg hp h2 hi) ?_)
    unfold cellC
    by_cases e1 : (outN c (p0 p) i : Int) ≠ (cellAt t (p1 p) i).1
    · simp only [if_pos e1]
      exact .yes (bne_iff_ne.2 e1) (.now' rfl)
    · simp only [if_neg e1]
      refine .no (by simpa using e1) ?_
      by_cases e2 : ([(nxtN c (p0 p) i : Int), (cellAt t (p1 p) i).2] : List Int) ∉ l
      · simp only [if_pos e2]
        exact .yes ((congrArg not (has_all l _)).trans (by rw [decide_eq_false e2]; rfl)) (.now' rfl)
      · simp only [if_neg e2]
        refine .no ((congrArg not (has_all l _)).trans (by rw [decide_eq_true (by simpa using e2)]; rfl)) (.now' ?_)
        rw [w64_id (by omega) (by omega)]; rfl
  · simp only [Accept38.l1]
    exact .no (by simp) (.now _)
def runE (c : Cir) (t : Tab) (l : List (List Int)) (p : List Int) : Int := firstE (cellC c t l p) (List.range (2 ^ t.1.toNat))
theorem acc_l2 {c : Cir} {t : Tab} {l : List (List Int)} (hg : Good c t l) (h2 : ∀ p ∈ l, p.length = 2) (hl : l.length < 9223372036854775807) :
    Lp (fun k => Accept38.l2 k l) (c, t, (), 0, l.foldl putM []) (if firstE (runE c t l) l ≠ 0 then .inr (firstE (runE c t l) l, ()) else .inl ()) := by
  rw [← walk_first (R := Unit ⊕ (Int × Unit)) (runE c t l) (fun e => .inr (e, ())) (.inl ())]
  refine Lp.walk (body := fun k => Accept38.l2 k l) l (fun (_ : Unit) i => (c, t, (), i, l.foldl putM [])) _ _ (fun _ _ => True) (fun i p b hx _ => ⟨?_, fun _ _ => trivial⟩) (fun b _ => ?_) (b := ()) trivial
  · have hi := get_lt hx
    have h1 := acc_l1 hg (get_mem hx) (h2 p (get_mem hx))
    have hi0 := hg.tab.ins
    have hci := hg.ins
    simp only [Accept38.l2]
    refine .yes (decide_eq_true (by omega)) (.val (rd_some' hx) (.val (a := ((2 ^ t.1.toNat : Nat) : Int)) (by rw [if_neg (by omega), hci, shl_one (by omega) (by omega)]) ?_))
    unfold runE
    by_cases h3 : firstE (cellC c t l p) (List.range (2 ^ t.1.toNat)) ≠ 0
    · rw [if_pos h3] at h1
      simp only [if_pos h3]
      exact .joinR h1.ev
    · rw [if_neg h3] at h1
      simp only [if_neg h3]
      exact .joinL (S := Unit) h1.ev (.now' (by rw [w64_id (by omega) (by omega)]))
  · simp only [Accept38.l2]
    exact .no (by simp) (.now _)
def begins (c : Cir) : List Int := [(first c : Int), 0]
def accF (c : Cir) (t : Tab) (l : List (List Int)) : Int :=
  if pfault c t ≠ 0 then pfault c t else if firstE (g4 c t) l ≠ 0 then firstE (g4 c t) l else if begins c ∉ l then 13 else firstE (runE c t l) l
theorem good_of {c : Cir} {t : Tab} {l : List (List Int)} (h : pfault c t = 0) (h4 : firstE (g4 c t) l = 0) : Good c t l := by
  obtain ⟨a, b, d, e⟩ := pfault_zero h
  refine ⟨a, b, d, fun p hp hb => ?_⟩
  have := firstE_zero h4 p hp
  unfold g4 at this
  rw [if_pos hb] at this
  omega
theorem accept_ev (c : Cir) (t : Tab) (l : List (List Int)) (h2 : ∀ p ∈ l, p.length = 2) (hl : l.length < 9223372036854775807) : Ev (fun k => Accept38 k c t l) (accF c t l, ()) := by
  unfold Accept38 accF
  refine .bind (check2_ev c t) ?_
  by_cases hf : pfault c t ≠ 0
  · rw [if_pos hf]
    exact .yes (bne_iff_ne.2 hf) (.now _)
  rw [if_neg hf]
  have hf0 : pfault c t = 0 := by omega
  obtain ⟨hc0, _, _, _⟩ := pfault_zero hf0
  have h0 := acc_l0 (t := t) h2 (right_of c hc0).next.1 hl
  refine .no (by simpa using hf) ?_
  by_cases h4 : firstE (g4 c t) l ≠ 0
  · rw [if_pos h4] at h0 ⊢
    exact .joinR h0.ev
  rw [if_neg h4] at h0 ⊢
  have hg := good_of hf0 (by omega : firstE (g4 c t) l = 0)
  refine .joinL (S := Unit) h0.ev (.bind (start_ev c) ?_)
  by_cases hb : begins c ∉ l
  · rw [if_pos hb]
    exact .yes ((congrArg not (has_all l _)).trans (by rw [show decide (([(first c : Int), 0] : List Int) ∈ l) = false from decide_eq_false hb]; rfl)) (.now _)
  · rw [if_neg hb]
    have h3 := acc_l2 hg h2 hl
    refine .no ((congrArg not (has_all l _)).trans (by rw [show decide (([(first c : Int), 0] : List Int) ∈ l) = true from decide_eq_true (Classical.not_not.1 hb)]; rfl)) ?_
    by_cases h5 : firstE (runE c t l) l ≠ 0
    · rw [if_pos h5] at h3
      exact .joinR h3.ev
    · rw [if_neg h5] at h3
      exact .joinL (S := Unit) (a := ()) h3.ev (.now' (by rw [show firstE (runE c t l) l = 0 by omega]))

-- the law's own
theorem ec_l0 {c : Cir} {t : Tab} {l : List (List Int)} (h2 : ∀ p ∈ l, p.length = 2) (hl : l.length < 9223372036854775807) (f : Int) (hf : f = 0 → c.2.2.2.1.length ≤ 10) :
    Lp (fun k => EqualCerts7.l0 k l) (c, t, f, 0) (c, t, if f ≠ 0 then f else firstE (g4 c t) l) := by
  rw [← foldE]
  refine Lp.fold (body := fun k => EqualCerts7.l0 k l) l (fun (b : Int) i => (c, t, b, i)) (fun b p => if b ≠ 0 then b else g4 c t p) (fun b => (c, t, b)) (fun _ b => b = 0 → c.2.2.2.1.length ≤ 10) (fun i p b hx hb => ⟨?_, fun h => ?_⟩) (fun b _ => ?_) hf
  · have hi := get_lt hx
    have hp := h2 p (get_mem hx)
    simp only [EqualCerts7.l0]
    refine .yes (decide_eq_true (by omega)) (.val (rd_some' hx) ?_)
    by_cases h0 : b ≠ 0
    · simp only [if_pos h0]
      refine .bind (a := false) (.no (by simpa using h0) (.now _)) (.bind (.no rfl (.now (c, t, b))) (.now' ?_))
      rw [w64_id (by omega) (by omega)]
    · simp only [if_neg h0]
      have hb0 : b = 0 := by omega
      subst hb0
      refine .bind (a := decide (BC c t p)) (.yes rfl (.val (rd_p0 hp) (.bind (evA hp (hb rfl)) (.bind (evB hp) (.bind (evC (t := t) hp) (.now _)))))) ?_
      unfold g4
      by_cases h4 : BC c t p
      · simp only [if_pos h4]
        refine .bind (.yes (decide_eq_true h4) (.now (c, t, 4))) (.now' ?_)
        rw [w64_id (by omega) (by omega)]
      · simp only [if_neg h4]
        refine .bind (.no (decide_eq_false h4) (.now (c, t, 0))) (.now' ?_)
        rw [w64_id (by omega) (by omega)]
  · by_cases h0 : b ≠ 0
    · simp only [if_pos h0] at h; exact absurd h h0
    · exact hb (by omega)
  · simp only [EqualCerts7.l0]
    exact .no (by simp) (.now _)
theorem ec_stop {c : Cir} {t : Tab} {l : List (List Int)} {f : Int} (h : f ≠ 0) (p : List Int) (i : Int) : Lp (fun k => EqualCerts7.l1 k l) (c, t, f, p, i) (c, t, f) := by
  refine .done ?_
  simp only [EqualCerts7.l1]
  exact .bind (a := false) (.no (by simpa using h) (.now _)) (.no rfl (.now _))
theorem ec_l1 {c : Cir} {t : Tab} {l : List (List Int)} (hg : Good c t l) {p : List Int} (hp : p ∈ l) (h2 : p.length = 2) (hl : l.length < 9223372036854775807) : ∀ (n i : Nat), i + n = 2 ^ t.1.toNat →
    Lp (fun k => EqualCerts7.l1 k l) (c, t, 0, p, (i : Int)) (c, t, firstE (cellC c t l p) (List.range' i n)) := by
  have h16 := pow_ins hg.tab.ins.1 hg.tab.ins.2
  have hi0 := hg.tab.ins
  have hci := hg.ins
  have hR := right_of c hg.fault
  have e : (if c.1 < 0 then none else some (shlI .i64 1 c.1)) = some ((2 ^ t.1.toNat : Nat) : Int) := by rw [if_neg (by omega), hci, shl_one (by omega) (by omega)]
  intro n
  induction n with
  | zero =>
    intro i h
    refine .done ?_
    simp only [EqualCerts7.l1]
    exact .bind (a := false) (.yes rfl (.val e (.now' (decide_eq_false (by omega))))) (.no rfl (.now _))
  | succ n ih =>
    intro i h
    obtain ⟨a, b⟩ := hg.in1 hp
    obtain ⟨r, h3, h4⟩ := cell_rd hg.tab a b (show i < 2 ^ t.1.toNat by omega)
    have hs : ∀ f', Ev (fun k => Option.bind
        (cond ((outN c (p0 p) i : Int) != (cellAt t (p1 p) i).1)
          (some (c, t, (12 : Int), p))
          ((Contains36 k l [(nxtN c (p0 p) i : Int), (cellAt t (p1 p) i).2]).bind fun t108 =>
          Option.bind
            (cond (!t108.1)
              (some (c, t, (13 : Int), p))
              (some (c, t, (0 : Int), p)) : Option (Cir × (Tab × (Int × (List Int))))) fun ((c_7, t_7, f_6, p_1) : Cir × (Tab × (Int × (List Int)))) =>
          some (c_7, t_7, f_6, p_1)) : Option (Cir × (Tab × (Int × (List Int))))) fun ((c_8, t_8, f_7, p_2) : Cir × (Tab × (Int × (List Int)))) =>
        some (Sum.inl (β := Cir × (Tab × Int)) (c_8, t_8, f_7, p_2, w64 ((i : Int) + 1)))) (.inl (c, t, f', p, ((i + 1 : Nat) : Int))) → Ev (fun k => EqualCerts7.l1 k l (c, t, 0, p, (i : Int))) (.inl (c, t, f', p, ((i + 1 : Nat) : Int))) := by
      intro f' hh
      simp only [EqualCerts7.l1]
      exact .bind (a := true) (.yes rfl (.val e (.now' (decide_eq_true (by omega))))) (.yes rfl (.val (rd_p0 h2) (.bind (stepped_ev hR _ _) (.val (rd_p1 h2) (.val h3 (.val h4 hh))))))
    have hw : w64 ((i : Int) + 1) = ((i + 1 : Nat) : Int) := w64_succ (by omega)
    rw [List.range'_succ]
    unfold firstE
    by_cases e1 : (outN c (p0 p) i : Int) ≠ (cellAt t (p1 p) i).1
    · have ec : cellC c t l p i = 12 := by unfold cellC; rw [if_pos e1]
      rw [ec, if_pos (by decide)]
      refine .step (hs 12 (.bind (.yes (bne_iff_ne.2 e1) (.now (c, t, 12, p))) (.now' ?_))) (ec_stop (by decide) p _)
      rw [hw]
    · by_cases e2 : ([(nxtN c (p0 p) i : Int), (cellAt t (p1 p) i).2] : List Int) ∉ l
      · have ec : cellC c t l p i = 13 := by unfold cellC; rw [if_neg e1, if_pos e2]
        rw [ec, if_pos (by decide)]
        refine .step (hs 13 (.bind (.no (by simpa using e1) (.bind (contains_ev l _ hl) (.bind (.yes (by rw [decide_eq_false e2]; rfl) (.now (c, t, 13, p))) (.now (c, t, 13, p))))) (.now' ?_))) (ec_stop (by decide) p _)
        rw [hw]
      · have ec : cellC c t l p i = 0 := by unfold cellC; rw [if_neg e1, if_neg e2]
        rw [ec, if_neg (by decide)]
        refine .step (hs 0 (.bind (.no (by simpa using e1) (.bind (contains_ev l _ hl) (.bind (.no (by rw [decide_eq_true (by simpa using e2)]; rfl) (.now (c, t, 0, p))) (.now (c, t, 0, p))))) (.now' ?_))) (ih (i + 1) (by omega))
        rw [hw]
theorem ec_l2 {c : Cir} {t : Tab} {l : List (List Int)} (h2 : ∀ p ∈ l, p.length = 2) (hl : l.length < 9223372036854775807) (f : Int) (hf : f = 0 → Good c t l) :
    Lp (fun k => EqualCerts7.l2 k l) (c, t, f, 0) (c, t, if f ≠ 0 then f else firstE (runE c t l) l) := by
  rw [← foldE]
  refine Lp.fold (body := fun k => EqualCerts7.l2 k l) l (fun (b : Int) i => (c, t, b, i)) (fun b p => if b ≠ 0 then b else runE c t l p) (fun b => (c, t, b)) (fun _ b => b = 0 → Good c t l) (fun i p b hx hb => ⟨?_, fun h => ?_⟩) (fun b _ => ?_) hf
  · have hi := get_lt hx
    simp only [EqualCerts7.l2]
    refine .yes (decide_eq_true (by omega)) (.val (rd_some' hx) ?_)
    by_cases h0 : b ≠ 0
    · simp only [if_pos h0]
      refine .bind (ec_stop h0 p 0).ev (.now' ?_)
      rw [w64_id (by omega) (by omega)]
    · simp only [if_neg h0]
      have hb0 : b = 0 := by omega
      subst hb0
      have h1 := ec_l1 (hb rfl) (get_mem hx) (h2 p (get_mem hx)) hl (2 ^ t.1.toNat) 0 (by omega)
      rw [← List.range_eq_range'] at h1
      refine .bind h1.ev (.now' ?_)
      rw [w64_id (by omega) (by omega)]; rfl
  · by_cases h0 : b ≠ 0
    · simp only [if_pos h0] at h; exact absurd h h0
    · exact hb (by omega)
  · simp only [EqualCerts7.l2]
    exact .no (by simp) (.now _)

-- the fact
theorem clone0 (k : Nat) : Clone81 k [] = some ((), []) := by
  unfold Clone81
  exact orNil_zero rfl
theorem clone_ev : Ev (fun k => Clone81 k []) ((), []) := ⟨0, fun k _ => clone0 k⟩
theorem equal1 : Ev (fun k => Equal25 k [1] [1]) (true, ()) := by
  unfold Equal25
  refine .no rfl (.joinL (S := Unit) (a := ()) (Lp.ev (.step (s' := (1 : Int)) ?_ (.done ?_))) (.now _))
  · simp only [Equal25.l0]
    exact .yes rfl (.val rfl (.val rfl (.no rfl (.now' rfl))))
  · simp only [Equal25.l0]
    exact .no rfl (.now' rfl)
def c1 : Cir := (1, [(0, 0, 0, 0, 0)], [0], [], [])
def t1 : Tab := (1, 1, [[(0, 0), (1, 0)]])
theorem pf1 : pfault c1 t1 = 0 := by decide +kernel
theorem out1 : outN c1 0 0 = 0 ∧ outN c1 0 1 = 0 ∧ nxtN c1 0 0 = 0 ∧ first c1 = 0 := by decide +kernel
theorem same_ev : Ev (fun k => same32 k) (true, ()) := by
  have hg : Good c1 t1 [[0, 0]] := good_of pf1 (by decide +kernel)
  obtain ⟨o1, o2, o3, o4⟩ := out1
  have s0 := step85_ev hg (p := [0, 0]) (by simp) rfl (i := 0) (by decide)
  have s1 := step85_ev hg (p := [0, 0]) (by simp) rfl (i := 1) (by decide)
  unfold same32
  refine .bind (a := (([1], true, 0, ()), ())) ?_ ?_
  · show Ev (fun k => Find63 k c1 t1) _
    unfold Find63
    refine .bind (check2_ev c1 t1) (.no (by rw [pf1]; rfl) (.bind (start_ev c1) (.joinR (Lp.ev (.done ?_)))))
    rw [o4]
    simp only [Find63.l1]
    refine .yes rfl (.val rfl (.val rfl (.val rfl (.val (a := (2 : Int)) rfl (.joinR (Lp.ev (.step (s' := (c1, t1, (), (), [0, 0], 1, [([0, 0], [])], [])) ?_ (.done ?_))))))))
    · simp only [Find63.l0]
      refine .yes rfl (.bind s0 (.bind clone_ev (.val rfl (.no ?_ (.bind (.no ?_ (.now _)) (.now' ?_))))))
      · rw [show (outN c1 (p0 [0, 0]) ((0 : Nat) : Int)) = 0 from o1]; rfl
      · rw [show (nxtN c1 (p0 [0, 0]) ((0 : Nat) : Int)) = 0 from o3]; rfl
      · rfl
    · simp only [Find63.l0]
      refine .yes rfl (.bind s1 (.bind clone_ev (.val rfl (.yes ?_ (.now' rfl)))))
      rw [show (outN c1 (p0 [0, 0]) ((1 : Nat) : Int)) = 0 from o2]; rfl
  · exact .bind (a := true) (.yes rfl (.bind equal1 (.now _))) (.now _)
theorem law (c : Cir) (t : Tab) (l : List (List Int)) (hw : ∀ x ∈ c.2.2.2.2, -9223372036854775808 ≤ x ∧ x ≤ 9223372036854775807) (h2 : ∀ p ∈ l, p.length = 2) (hl : l.length < 9223372036854775807) : ∃ k, EqualCerts7 k c t l = some (true, ()) := by
  refine Ev.ex ?_
  unfold EqualCerts7
  have hpf : pfault c t = 0 → c.2.2.2.1.length ≤ 10 := fun h => (right_of c (pfault_zero h).1).next.1
  have e0 := ec_l0 (c := c) (t := t) h2 hl (pfault c t) hpf
  generalize hf2 : (if pfault c t ≠ 0 then pfault c t else firstE (g4 c t) l) = f2 at e0
  have hz : f2 = 0 → pfault c t = 0 ∧ firstE (g4 c t) l = 0 := by
    intro h
    rw [← hf2] at h
    by_cases hp : pfault c t ≠ 0
    · rw [if_pos hp] at h; exact absurd h hp
    · rw [if_neg hp] at h; exact ⟨by omega, h⟩
  refine .bind (pair_ev c t hw) (.bind e0.ev (.bind (a := decide (f2 = 0 ∧ begins c ∉ l)) ?_ (.bind (a := (c, t, if f2 = 0 ∧ begins c ∉ l then 13 else f2)) ?_ ?_)))
  · by_cases h0 : f2 = 0
    · refine .yes (by simpa using h0) (.bind (first_ev c ?_) (.bind (contains_ev l _ hl) (.now' ?_)))
      · have := init_len (pfault_zero (hz h0).1).1
        omega
      · rw [← decide_not]
        exact decide_eq_decide.2 ⟨fun h => ⟨h0, h⟩, fun h => h.2⟩
    · exact .no (by simpa using h0) (.now' (decide_eq_false (fun h => h0 h.1)).symm)
  · refine .iff (fun h => .now' (by rw [if_pos h])) (fun h => .now' (by rw [if_neg h]))
  · generalize hf3 : (if f2 = 0 ∧ begins c ∉ l then (13 : Int) else f2) = f3
    have hz3 : f3 = 0 → Good c t l := by
      intro h
      rw [← hf3] at h
      by_cases hb : f2 = 0 ∧ begins c ∉ l
      · rw [if_pos hb] at h; omega
      · rw [if_neg hb] at h; exact good_of (hz h).1 (hz h).2
    have e2 := ec_l2 (c := c) (t := t) h2 hl f3 hz3
    refine .bind e2.ev (.bind same_ev (.bind (a := true) (.yes rfl (.bind (accept_ev c t l h2 hl) (.now' ?_))) (.now _)))
    rw [beq_iff_eq]
    show accF c t l = _
    unfold accF
    by_cases hp : pfault c t ≠ 0
    · rw [if_pos hp] at hf2 ⊢
      have : f3 = pfault c t := by rw [← hf3, if_neg (by omega), hf2]
      rw [this, if_pos hp]
    rw [if_neg hp] at hf2 ⊢
    by_cases h4 : firstE (g4 c t) l ≠ 0
    · rw [if_pos h4]
      have : f3 = firstE (g4 c t) l := by rw [← hf3, if_neg (by omega), hf2]
      rw [this, if_pos h4]
    rw [if_neg h4]
    have h0 : f2 = 0 := by omega
    by_cases hb : begins c ∉ l
    · rw [if_pos hb]
      have : f3 = 13 := by rw [← hf3, if_pos ⟨h0, hb⟩]
      rw [this, if_pos (by decide)]
    · rw [if_neg hb]
      have : f3 = 0 := by rw [← hf3, if_neg (fun h => hb h.2), h0]
      rw [this, if_neg (by decide)]
theorem equalCerts (c : Cir) (t : Tab) (l : List (List Int)) {p q r s u : Prop} (hc : p ∧ q ∧ r ∧ s ∧ wfL (α := Int) 8 (fun (y : Int) => (Lit.int .i64 y).wf = true) c.2.2.2.2) (_ : u) {wfi : Int → Prop} (hl : wfL (α := List Int) 16 (wfA (α := Int) 2 wfi) l) : ∃ k, EqualCerts7 k c t l = some (true, ()) :=
  law c t l (fun x hx => lit_wf (hc.2.2.2.2.2 x hx)) (fun p hp => (hl.2 p hp).1) (by have := hl.1; omega)
end Go.Proofs.Ytjbdhaenakcclaa.Ec

/- The row of EqualCerts: certificates of a circuit and a table are accepted as specified. The law returns true for every input; the input reads as it did. -/
namespace Go.Proofs.Ytjbdhaenakcclaa.equalCerts
open Go.ChangeShapes Go.WideShapes Go.ChangeAt Go.RowKit Go.Proofs.Ytjbdhaenakcclaa.Gp Go.Proofs.Ytjbdhaenakcclaa.Ec
set_option linter.unusedVariables false
theorem own : ownKnob Try.prog.godebug = none := by kernel_rfl
theorem laidOut : laidOutB Try.prog = true := by kernel_rfl
abbrev wf3 : Int → Prop := (fun (y : Int) => (Lit.int .i64 y).wf = true)
abbrev siz3 : Int → Nat := (fun _ => 1)
theorem gd3 : Gd Try.prog 3 (.int .i64) wf3 siz3 := gd_int Try.underlying3 (by kernel_rfl)
abbrev wf51 : (Int × (Int × (Int × (Int × Int)))) → Prop := (fun (y : (Int × (Int × (Int × (Int × Int))))) => wf3 y.1 ∧ (fun (y : (Int × (Int × (Int × Int)))) => wf3 y.1 ∧ (fun (y : (Int × (Int × Int))) => wf3 y.1 ∧ (fun (y : (Int × Int)) => wf3 y.1 ∧ wf3 y.2) y.2) y.2) y.2)
abbrev siz51 : (Int × (Int × (Int × (Int × Int)))) → Nat := (fun (y : (Int × (Int × (Int × (Int × Int))))) => siz3 y.1 + (fun (y : (Int × (Int × (Int × Int)))) => siz3 y.1 + (fun (y : (Int × (Int × Int))) => siz3 y.1 + (fun (y : (Int × Int)) => siz3 y.1 + siz3 y.2) y.2) y.2) y.2)
theorem gd51 : Gd Try.prog 51 (.st (.pair (.int .i64) (.pair (.int .i64) (.pair (.int .i64) (.pair (.int .i64) (.int .i64)))))) wf51 siz51 := gd_st Try.underlying51 (by kernel_rfl) (gdf_cons (k := .int .i64) (k' := .pair (.int .i64) (.pair (.int .i64) (.pair (.int .i64) (.int .i64)))) (wf := wf3) (siz := siz3) (wf' := (fun (y : (Int × (Int × (Int × Int)))) => wf3 y.1 ∧ (fun (y : (Int × (Int × Int))) => wf3 y.1 ∧ (fun (y : (Int × Int)) => wf3 y.1 ∧ wf3 y.2) y.2) y.2)) (siz' := (fun (y : (Int × (Int × (Int × Int)))) => siz3 y.1 + (fun (y : (Int × (Int × Int))) => siz3 y.1 + (fun (y : (Int × Int)) => siz3 y.1 + siz3 y.2) y.2) y.2)) rfl gd3 (gdf_cons (k := .int .i64) (k' := .pair (.int .i64) (.pair (.int .i64) (.int .i64))) (wf := wf3) (siz := siz3) (wf' := (fun (y : (Int × (Int × Int))) => wf3 y.1 ∧ (fun (y : (Int × Int)) => wf3 y.1 ∧ wf3 y.2) y.2)) (siz' := (fun (y : (Int × (Int × Int))) => siz3 y.1 + (fun (y : (Int × Int)) => siz3 y.1 + siz3 y.2) y.2)) rfl gd3 (gdf_cons (k := .int .i64) (k' := .pair (.int .i64) (.int .i64)) (wf := wf3) (siz := siz3) (wf' := (fun (y : (Int × Int)) => wf3 y.1 ∧ wf3 y.2)) (siz' := (fun (y : (Int × Int)) => siz3 y.1 + siz3 y.2)) rfl gd3 (gdf_cons (k := .int .i64) (k' := .int .i64) (wf := wf3) (siz := siz3) (wf' := wf3) (siz' := siz3) rfl gd3 (gdf_one rfl gd3)))))
abbrev wf22 : (List (Int × (Int × (Int × (Int × Int))))) → Prop := (wfL (α := (Int × (Int × (Int × (Int × Int))))) 40 wf51)
abbrev siz22 : (List (Int × (Int × (Int × (Int × Int))))) → Nat := (sizL (α := (Int × (Int × (Int × (Int × Int))))) siz51)
theorem gd22 : Gd Try.prog 22 (.sl (.st (.pair (.int .i64) (.pair (.int .i64) (.pair (.int .i64) (.pair (.int .i64) (.int .i64))))))) wf22 siz22 := gd_sl (B := 40) Try.underlying22 (by kernel_rfl) (by kernel_rfl) (by decide) gd51
abbrev wf23 : (List Int) → Prop := (wfL (α := Int) 8 wf3)
abbrev siz23 : (List Int) → Nat := (sizL (α := Int) siz3)
theorem gd23 : Gd Try.prog 23 (.sl (.int .i64)) wf23 siz23 := gd_sl (B := 8) Try.underlying23 (by kernel_rfl) (by kernel_rfl) (by decide) gd3
abbrev wf25 : (Int × ((List (Int × (Int × (Int × (Int × Int))))) × ((List Int) × ((List Int) × (List Int))))) → Prop := (fun (y : (Int × ((List (Int × (Int × (Int × (Int × Int))))) × ((List Int) × ((List Int) × (List Int)))))) => wf3 y.1 ∧ (fun (y : ((List (Int × (Int × (Int × (Int × Int))))) × ((List Int) × ((List Int) × (List Int))))) => wf22 y.1 ∧ (fun (y : ((List Int) × ((List Int) × (List Int)))) => wf23 y.1 ∧ (fun (y : ((List Int) × (List Int))) => wf23 y.1 ∧ wf23 y.2) y.2) y.2) y.2)
abbrev siz25 : (Int × ((List (Int × (Int × (Int × (Int × Int))))) × ((List Int) × ((List Int) × (List Int))))) → Nat := (fun (y : (Int × ((List (Int × (Int × (Int × (Int × Int))))) × ((List Int) × ((List Int) × (List Int)))))) => siz3 y.1 + (fun (y : ((List (Int × (Int × (Int × (Int × Int))))) × ((List Int) × ((List Int) × (List Int))))) => siz22 y.1 + (fun (y : ((List Int) × ((List Int) × (List Int)))) => siz23 y.1 + (fun (y : ((List Int) × (List Int))) => siz23 y.1 + siz23 y.2) y.2) y.2) y.2)
theorem gd25 : Gd Try.prog 25 (.st (.pair (.int .i64) (.pair (.sl (.st (.pair (.int .i64) (.pair (.int .i64) (.pair (.int .i64) (.pair (.int .i64) (.int .i64))))))) (.pair (.sl (.int .i64)) (.pair (.sl (.int .i64)) (.sl (.int .i64))))))) wf25 siz25 := gd_st Try.underlying25 (by kernel_rfl) (gdf_cons (k := .int .i64) (k' := .pair (.sl (.st (.pair (.int .i64) (.pair (.int .i64) (.pair (.int .i64) (.pair (.int .i64) (.int .i64))))))) (.pair (.sl (.int .i64)) (.pair (.sl (.int .i64)) (.sl (.int .i64))))) (wf := wf3) (siz := siz3) (wf' := (fun (y : ((List (Int × (Int × (Int × (Int × Int))))) × ((List Int) × ((List Int) × (List Int))))) => wf22 y.1 ∧ (fun (y : ((List Int) × ((List Int) × (List Int)))) => wf23 y.1 ∧ (fun (y : ((List Int) × (List Int))) => wf23 y.1 ∧ wf23 y.2) y.2) y.2)) (siz' := (fun (y : ((List (Int × (Int × (Int × (Int × Int))))) × ((List Int) × ((List Int) × (List Int))))) => siz22 y.1 + (fun (y : ((List Int) × ((List Int) × (List Int)))) => siz23 y.1 + (fun (y : ((List Int) × (List Int))) => siz23 y.1 + siz23 y.2) y.2) y.2)) rfl gd3 (gdf_cons (k := .sl (.st (.pair (.int .i64) (.pair (.int .i64) (.pair (.int .i64) (.pair (.int .i64) (.int .i64))))))) (k' := .pair (.sl (.int .i64)) (.pair (.sl (.int .i64)) (.sl (.int .i64)))) (wf := wf22) (siz := siz22) (wf' := (fun (y : ((List Int) × ((List Int) × (List Int)))) => wf23 y.1 ∧ (fun (y : ((List Int) × (List Int))) => wf23 y.1 ∧ wf23 y.2) y.2)) (siz' := (fun (y : ((List Int) × ((List Int) × (List Int)))) => siz23 y.1 + (fun (y : ((List Int) × (List Int))) => siz23 y.1 + siz23 y.2) y.2)) rfl gd22 (gdf_cons (k := .sl (.int .i64)) (k' := .pair (.sl (.int .i64)) (.sl (.int .i64))) (wf := wf23) (siz := siz23) (wf' := (fun (y : ((List Int) × (List Int))) => wf23 y.1 ∧ wf23 y.2)) (siz' := (fun (y : ((List Int) × (List Int))) => siz23 y.1 + siz23 y.2)) rfl gd23 (gdf_cons (k := .sl (.int .i64)) (k' := .sl (.int .i64)) (wf := wf23) (siz := siz23) (wf' := wf23) (siz' := siz23) rfl gd23 (gdf_one rfl gd23)))))
abbrev wf67 : (Int × Int) → Prop := (fun (y : (Int × Int)) => wf3 y.1 ∧ wf3 y.2)
abbrev siz67 : (Int × Int) → Nat := (fun (y : (Int × Int)) => siz3 y.1 + siz3 y.2)
theorem gd67 : Gd Try.prog 67 (.st (.pair (.int .i64) (.int .i64))) wf67 siz67 := gd_st Try.underlying67 (by kernel_rfl) (gdf_cons (k := .int .i64) (k' := .int .i64) (wf := wf3) (siz := siz3) (wf' := wf3) (siz' := siz3) rfl gd3 (gdf_one rfl gd3))
abbrev wf68 : (List (Int × Int)) → Prop := (wfL (α := (Int × Int)) 16 wf67)
abbrev siz68 : (List (Int × Int)) → Nat := (sizL (α := (Int × Int)) siz67)
theorem gd68 : Gd Try.prog 68 (.sl (.st (.pair (.int .i64) (.int .i64)))) wf68 siz68 := gd_sl (B := 16) Try.underlying68 (by kernel_rfl) (by kernel_rfl) (by decide) gd67
abbrev wf58 : (List (List (Int × Int))) → Prop := (wfL (α := (List (Int × Int))) 24 wf68)
abbrev siz58 : (List (List (Int × Int))) → Nat := (sizL (α := (List (Int × Int))) siz68)
theorem gd58 : Gd Try.prog 58 (.sl (.sl (.st (.pair (.int .i64) (.int .i64))))) wf58 siz58 := gd_sl (B := 24) Try.underlying58 (by kernel_rfl) (by kernel_rfl) (by decide) gd68
abbrev wf60 : (Int × (Int × (List (List (Int × Int))))) → Prop := (fun (y : (Int × (Int × (List (List (Int × Int)))))) => wf3 y.1 ∧ (fun (y : (Int × (List (List (Int × Int))))) => wf3 y.1 ∧ wf58 y.2) y.2)
abbrev siz60 : (Int × (Int × (List (List (Int × Int))))) → Nat := (fun (y : (Int × (Int × (List (List (Int × Int)))))) => siz3 y.1 + (fun (y : (Int × (List (List (Int × Int))))) => siz3 y.1 + siz58 y.2) y.2)
theorem gd60 : Gd Try.prog 60 (.st (.pair (.int .i64) (.pair (.int .i64) (.sl (.sl (.st (.pair (.int .i64) (.int .i64)))))))) wf60 siz60 := gd_st Try.underlying60 (by kernel_rfl) (gdf_cons (k := .int .i64) (k' := .pair (.int .i64) (.sl (.sl (.st (.pair (.int .i64) (.int .i64)))))) (wf := wf3) (siz := siz3) (wf' := (fun (y : (Int × (List (List (Int × Int))))) => wf3 y.1 ∧ wf58 y.2)) (siz' := (fun (y : (Int × (List (List (Int × Int))))) => siz3 y.1 + siz58 y.2)) rfl gd3 (gdf_cons (k := .int .i64) (k' := .sl (.sl (.st (.pair (.int .i64) (.int .i64))))) (wf := wf3) (siz := siz3) (wf' := wf58) (siz' := siz58) rfl gd3 (gdf_one rfl gd58)))
abbrev wf63 : (List Int) → Prop := (wfA (α := Int) 2 wf3)
abbrev siz63 : (List Int) → Nat := (sizA (α := Int) siz3)
theorem gd63 : Gd Try.prog 63 (.arr 2 (.int .i64)) wf63 siz63 := gd_arr Try.underlying63 (by kernel_rfl) gd3
abbrev wf61 : (List (List Int)) → Prop := (wfL (α := (List Int)) 16 wf63)
abbrev siz61 : (List (List Int)) → Nat := (sizL (α := (List Int)) siz63)
theorem gd61 : Gd Try.prog 61 (.sl (.arr 2 (.int .i64))) wf61 siz61 := gd_sl (B := 16) Try.underlying61 (by kernel_rfl) (by kernel_rfl) (by decide) gd63
set_option maxRecDepth 100000 in
set_option maxHeartbeats 1000000 in
theorem lifted (os : Os) (started : os.Started) (H : Type) (enc : TypeId × Value → H) :
    ReturnsInHanded {} Try.checked os 7 .any (Rows.equalCertsSpec.pre6 enc Try.prog Try.f7 Rows.equalCertsRow.domain false) (Rows.equalCertsSpec.post enc Try.prog Try.f7 false true false false) := by
  refine returnsInHanded_of_change_sized (C := Try.checked) own started (by kernel_rfl) Try.func7
    (ChangeSpec.witness6 (enc := enc) (C := Try.checked) false ⟨#[], #[.agg #[.int .i64 0, .slice none 0 0, .slice none 0 0, .slice none 0 0, .slice none 0 0], .agg #[.int .i64 0, .int .i64 0, .slice none 0 0], .slice none 0 0], []⟩ 8 (by kernel_rfl) (by kernel_rfl) (by kernel_rfl) (by kernel_rfl)) ?_
  intro W base args ds gs before hval0 hW hcnd hsz0 _
  have hsz : (DataW.weightsEach Try.prog (Try.f7.params.toList ++ Rows.equalCertsSpec.plain.varTypes Try.prog) (ds ++ gs)).all (· ≤ reachBytes) = true := hsz0
  have hval : ∀ (j : Nat) t v, Try.f7.params[j]? = some t → args[j]? = some v → Value.okWide Try.prog W .any base t v := hval0
  have hW' := hW
  obtain ⟨p, q, hA0, hV, rfl, hfz, hnd⟩ := hW
  have hA : DataW.TrodAll enc Try.prog W 0 (fun _ => true) true Try.f7.params.toList args.toList ds p := hA0
  rw [Try.params7] at hA hval hsz
  obtain ⟨v0, vs0, d0, ds0, p0, q0, hargs, rfl, rfl, h0, r0⟩ := trodAll_cons hA
  obtain ⟨v1, vs1, d1, ds1, p1, q1, rfl, rfl, rfl, h1, r1⟩ := trodAll_cons r0
  obtain ⟨v2, vs2, d2, ds2, p2, q2, rfl, rfl, rfl, h2, r2⟩ := trodAll_cons r1
  obtain ⟨rfl, rfl, rfl⟩ := trodAll_nil r2
  obtain rfl : args = #[v0, v1, v2] := by cases args; simp_all
  obtain ⟨rfl, rfl⟩ := trodVars_none hV
  have lt0 : ∀ x ∈ p0, x.block < W.heap.size := by obtain ⟨m, hm⟩ := h0; exact DataW.trod_lt m _ _ _ hm
  have wt0 := weights_at hsz 0 (t := 25) rfl rfl
  obtain ⟨a0, s0, wf0_, up0_⟩ := gd25.arg (hval 0 25 v0 rfl rfl) h0 wt0
  have lt1 : ∀ x ∈ p1, x.block < W.heap.size := by obtain ⟨m, hm⟩ := h1; exact DataW.trod_lt m _ _ _ hm
  have wt1 := weights_at hsz 1 (t := 60) rfl rfl
  obtain ⟨a1, s1, wf1_, up1_⟩ := gd60.arg (hval 1 60 v1 rfl rfl) h1 wt1
  have lt2 : ∀ x ∈ p2, x.block < W.heap.size := by obtain ⟨m, hm⟩ := h2; exact DataW.trod_lt m _ _ _ hm
  have wt2 := weights_at hsz 2 (t := 61) rfl rfl
  obtain ⟨a2, s2, wf2_, up2_⟩ := gd61.arg (hval 2 61 v2 rfl rfl) h2 wt2
  clear hA0 hval0 hsz0 hsz
  obtain ⟨k, h⟩ := Ec.equalCerts a0 a1 a2 wf0_ wf1_ wf2_
  refine (law_calls (EqualCerts7.ok k) (ds := (a0, a1, a2)) h (args := #[v0, v1, v2]) (W := W) (.cons (s0 _) (.cons (s1 _) (.cons (s2 _) (.nil))))).mono fun e W' ⟨he, bel0⟩ => ?_
  have bel : Below W.heap.size W W' := bel0
  subst he
  exact ⟨_, rfl, _, _, _, [], _, [], hW', trodAll_mk1 (shut_bool Try.underlying4 _), (trodAll_cons_mk (Below.trod laidOut (by kernel_rfl) (of_decide_eq_true (by kernel_rfl)) h0 bel lt0) (trodAll_cons_mk (Below.trod laidOut (by kernel_rfl) (of_decide_eq_true (by kernel_rfl)) h1 bel lt1) (trodAll_cons_mk (Below.trod laidOut (by kernel_rfl) (of_decide_eq_true (by kernel_rfl)) h2 bel lt2) (trodAll_mk0)))), rfl, bel.frame _, fun h => by cases h⟩
theorem over : Rows.equalCertsRow.holds Try.pinned (OpenSpec.ofChange Rows.equalCertsSpec) :=
  OpenClaim.holds_of_wide 7 Try.f7 rfl rfl rfl rfl rfl rfl rfl ⟨rfl, rfl, rfl, rfl, rfl⟩ rfl rfl rfl rfl rfl (by kernel_rfl) Try.func7 (by kernel_rfl)
    (of_decide_eq_true (by kernel_rfl)) (by unfold Func.isWrapper; first | (rw [if_pos (by decide +kernel)]; kernel_rfl) | (rw [if_neg (by decide +kernel)]; exact ⟨rfl, rfl⟩))
    (fun os started H enc _ => lifted os started H enc)
theorem proved : Rows.EqualCertsSaid := over
#print axioms proved
end Go.Proofs.Ytjbdhaenakcclaa.equalCerts
namespace Go.Proofs.Ytjbdhaenakcclaa
theorem equalCerts_holds : Rows.EqualCertsSaid := equalCerts.proved
end Go.Proofs.Ytjbdhaenakcclaa
