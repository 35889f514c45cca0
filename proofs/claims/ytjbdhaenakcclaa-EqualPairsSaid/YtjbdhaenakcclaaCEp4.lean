/- Merged texts of one claim: a Go law, its functions without memory, and the plain law. The law returns true for every input; conditions: as the row says. -/
import Derived.Test.YtjbdhaenakcclaaRows
import Derived.ChangeArms
import Derived.OpenShut
import Derived.SizedLaws
import Derived.Deep.Slices
import Derived.Below
import Derived.Test.YtjbdhaenakcclaaCEp0
import Derived.Test.YtjbdhaenakcclaaCEp1
import Derived.Test.YtjbdhaenakcclaaCEp2
import Derived.Test.YtjbdhaenakcclaaCEp3
/- Go functions as plain Lean functions, and their contracts. -/
set_option linter.unusedVariables false
set_option maxRecDepth 100000
noncomputable section
namespace Go.Proofs.Ytjbdhaenakcclaa.St
open Go Go.Proofs.Ytjbdhaenakcclaa.Gp
def Circuits33.l0 (k : Nat) (t77 : Int) : ((Int × ((List (Int × (Int × (Int × (Int × Int))))) × ((List Int) × ((List Int) × (List Int))))) × ((Int × ((List (Int × (Int × (Int × (Int × Int))))) × ((List Int) × ((List Int) × (List Int))))) × ((List Int) × (Unit × (Unit × ((List Int) × (Int × ((List ((List Int) × (List Int))) × (List (List Int)))))))))) → Option (((Int × ((List (Int × (Int × (Int × (Int × Int))))) × ((List Int) × ((List Int) × (List Int))))) × ((Int × ((List (Int × (Int × (Int × (Int × Int))))) × ((List Int) × ((List Int) × (List Int))))) × ((List Int) × (Unit × (Unit × ((List Int) × (Int × ((List ((List Int) × (List Int))) × (List (List Int)))))))))) ⊕ (((Int × ((List (Int × (Int × (Int × (Int × Int))))) × ((List Int) × ((List Int) × (List Int))))) × ((Int × ((List (Int × (Int × (Int × (Int × Int))))) × ((List Int) × ((List Int) × (List Int))))) × ((List Int) × (Unit × (Unit × ((List ((List Int) × (List Int))) × (List (List Int)))))))) ⊕ (((Int × ((List (Int × (Int × (Int × (Int × Int))))) × ((List Int) × ((List Int) × (List Int))))) × ((Int × ((List (Int × (Int × (Int × (Int × Int))))) × ((List Int) × ((List Int) × (List Int))))) × ((List Int) × (Unit × (Unit × ((List ((List Int) × (List Int))) × (List (List Int)))))))) ⊕ (Unit ⊕ (((List Int) × (Bool × (Int × Unit))) × Unit)))))
  | (a_3, b_3, start_2, _, _, p, t78, o0_1, o1_1) =>
    cond (decide (t78 < t77))
      ((rd p 0).bind fun t83 =>
      (Step16 k a_3 t83 t78).bind fun t86 =>
      (rd p 1).bind fun t91 =>
      (Step16 k b_3 t91 t78).bind fun t94 =>
      (Clone81 k (Option.getD (α := (List Int)) (mget (.arr 2 (.int .i64)) (.sl (.int .i64)) o0_1 p) [])).bind fun t100 =>
      (if room (List.length t100.2 + List.length ([t78] : List Int)) 8 then some () else none).bind fun _ =>
      let t103 : (List Int) := (t100.2 ++ ([t78] : List Int))
      cond (t86.1.1 != t94.1.1)
        (some (Sum.inr (Sum.inr (Sum.inr (Sum.inr ((t103, true, 0, ()), ()))))))
        (let t113 : (Option (List Int)) := (mget (.arr 2 (.int .i64)) (.sl (.int .i64)) o0_1 ([t86.1.2.1, t94.1.2.1] : (List Int)))
        cond (Option.isSome t113)
          (orNil (List.length (Option.getD (α := (List Int)) t113 []))
            (Option.bind
              (cond (cond true (xor true (eqB (.arr 2 (.int .i64)) ([t86.1.2.1, t94.1.2.1] : (List Int)) start_2)) false)
                ((if room (List.length o1_1 + List.length [[t86.1.2.1, t94.1.2.1]]) 16 then some () else none).bind fun _ =>
                some (a_3, b_3, start_2, (), (), p, (mput (.arr 2 (.int .i64)) (.sl (.int .i64)) o0_1 ([t86.1.2.1, t94.1.2.1] : (List Int)) t103), (o1_1 ++ [[t86.1.2.1, t94.1.2.1]])))
                (some (a_3, b_3, start_2, (), (), p, o0_1, o1_1)) : Option ((Int × ((List (Int × (Int × (Int × (Int × Int))))) × ((List Int) × ((List Int) × (List Int))))) × ((Int × ((List (Int × (Int × (Int × (Int × Int))))) × ((List Int) × ((List Int) × (List Int))))) × ((List Int) × (Unit × (Unit × ((List Int) × ((List ((List Int) × (List Int))) × (List (List Int)))))))))) fun ((a_4, b_4, start_3, _, _, p_1, o0_2, o1_2) : ((Int × ((List (Int × (Int × (Int × (Int × Int))))) × ((List Int) × ((List Int) × (List Int))))) × ((Int × ((List (Int × (Int × (Int × (Int × Int))))) × ((List Int) × ((List Int) × (List Int))))) × ((List Int) × (Unit × (Unit × ((List Int) × ((List ((List Int) × (List Int))) × (List (List Int)))))))))) =>
            some (Sum.inl (a_4, b_4, start_3, (), (), p_1, (w64 (t78 + 1)), o0_2, o1_2)))
            (Option.bind
              (cond (cond false (xor true (eqB (.arr 2 (.int .i64)) ([t86.1.2.1, t94.1.2.1] : (List Int)) start_2)) false)
                ((if room (List.length o1_1 + List.length [[t86.1.2.1, t94.1.2.1]]) 16 then some () else none).bind fun _ =>
                some (a_3, b_3, start_2, (), (), p, (mput (.arr 2 (.int .i64)) (.sl (.int .i64)) o0_1 ([t86.1.2.1, t94.1.2.1] : (List Int)) t103), (o1_1 ++ [[t86.1.2.1, t94.1.2.1]])))
                (some (a_3, b_3, start_2, (), (), p, o0_1, o1_1)) : Option ((Int × ((List (Int × (Int × (Int × (Int × Int))))) × ((List Int) × ((List Int) × (List Int))))) × ((Int × ((List (Int × (Int × (Int × (Int × Int))))) × ((List Int) × ((List Int) × (List Int))))) × ((List Int) × (Unit × (Unit × ((List Int) × ((List ((List Int) × (List Int))) × (List (List Int)))))))))) fun ((a_5, b_5, start_4, _, _, p_2, o0_3, o1_3) : ((Int × ((List (Int × (Int × (Int × (Int × Int))))) × ((List Int) × ((List Int) × (List Int))))) × ((Int × ((List (Int × (Int × (Int × (Int × Int))))) × ((List Int) × ((List Int) × (List Int))))) × ((List Int) × (Unit × (Unit × ((List Int) × ((List ((List Int) × (List Int))) × (List (List Int)))))))))) =>
            some (Sum.inl (a_5, b_5, start_4, (), (), p_2, (w64 (t78 + 1)), o0_3, o1_3))))
          (Option.bind
            (cond (cond true (xor true (eqB (.arr 2 (.int .i64)) ([t86.1.2.1, t94.1.2.1] : (List Int)) start_2)) false)
              ((if room (List.length o1_1 + List.length [[t86.1.2.1, t94.1.2.1]]) 16 then some () else none).bind fun _ =>
              some (a_3, b_3, start_2, (), (), p, (mput (.arr 2 (.int .i64)) (.sl (.int .i64)) o0_1 ([t86.1.2.1, t94.1.2.1] : (List Int)) t103), (o1_1 ++ [[t86.1.2.1, t94.1.2.1]])))
              (some (a_3, b_3, start_2, (), (), p, o0_1, o1_1)) : Option ((Int × ((List (Int × (Int × (Int × (Int × Int))))) × ((List Int) × ((List Int) × (List Int))))) × ((Int × ((List (Int × (Int × (Int × (Int × Int))))) × ((List Int) × ((List Int) × (List Int))))) × ((List Int) × (Unit × (Unit × ((List Int) × ((List ((List Int) × (List Int))) × (List (List Int)))))))))) fun ((a_6, b_6, start_5, _, _, p_3, o0_4, o1_4) : ((Int × ((List (Int × (Int × (Int × (Int × Int))))) × ((List Int) × ((List Int) × (List Int))))) × ((Int × ((List (Int × (Int × (Int × (Int × Int))))) × ((List Int) × ((List Int) × (List Int))))) × ((List Int) × (Unit × (Unit × ((List Int) × ((List ((List Int) × (List Int))) × (List (List Int)))))))))) =>
          some (Sum.inl (a_6, b_6, start_5, (), (), p_3, (w64 (t78 + 1)), o0_4, o1_4)))))
      (some (Sum.inr (Sum.inl (a_3, b_3, start_2, (), (), o0_1, o1_1))))
def Circuits33.l1 (k : Nat) : ((Int × ((List (Int × (Int × (Int × (Int × Int))))) × ((List Int) × ((List Int) × (List Int))))) × ((Int × ((List (Int × (Int × (Int × (Int × Int))))) × ((List Int) × ((List Int) × (List Int))))) × ((List Int) × (Unit × (Unit × ((List ((List Int) × (List Int))) × (List (List Int)))))))) → Option (((Int × ((List (Int × (Int × (Int × (Int × Int))))) × ((List Int) × ((List Int) × (List Int))))) × ((Int × ((List (Int × (Int × (Int × (Int × Int))))) × ((List Int) × ((List Int) × (List Int))))) × ((List Int) × (Unit × (Unit × ((List ((List Int) × (List Int))) × (List (List Int)))))))) ⊕ (Unit ⊕ (((List Int) × (Bool × (Int × Unit))) × Unit)))
  | (a_2, b_2, start_1, _, _, o0, o1) =>
    cond (decide ((List.length o1 : Int) > 0))
      ((rd o1 0).bind fun _ =>
      (rd o1 0).bind fun t72 =>
      (slc o1 1 (List.length o1 : Int)).bind fun t74 =>
      (if a_2.1 < 0 then none else some (shlI .i64 1 a_2.1)).bind fun t77 =>
      Option.bind
        (loopN (Circuits33.l0 k t77) k (a_2, b_2, start_1, (), (), t72, 0, o0, t74) : Option (((Int × ((List (Int × (Int × (Int × (Int × Int))))) × ((List Int) × ((List Int) × (List Int))))) × ((Int × ((List (Int × (Int × (Int × (Int × Int))))) × ((List Int) × ((List Int) × (List Int))))) × ((List Int) × (Unit × (Unit × ((List ((List Int) × (List Int))) × (List (List Int)))))))) ⊕ (((Int × ((List (Int × (Int × (Int × (Int × Int))))) × ((List Int) × ((List Int) × (List Int))))) × ((Int × ((List (Int × (Int × (Int × (Int × Int))))) × ((List Int) × ((List Int) × (List Int))))) × ((List Int) × (Unit × (Unit × ((List ((List Int) × (List Int))) × (List (List Int)))))))) ⊕ (Unit ⊕ (((List Int) × (Bool × (Int × Unit))) × Unit))))) (joined fun ((a_7, b_7, start_6, _, _, o0_5, o1_5) : ((Int × ((List (Int × (Int × (Int × (Int × Int))))) × ((List Int) × ((List Int) × (List Int))))) × ((Int × ((List (Int × (Int × (Int × (Int × Int))))) × ((List Int) × ((List Int) × (List Int))))) × ((List Int) × (Unit × (Unit × ((List ((List Int) × (List Int))) × (List (List Int))))))))) =>
        some (Sum.inl (a_7, b_7, start_6, (), (), o0_5, o1_5))))
      (some (Sum.inr (Sum.inl ())))
def Circuits33 (k : Nat) (a : (Int × ((List (Int × (Int × (Int × (Int × Int))))) × ((List Int) × ((List Int) × (List Int)))))) (b : (Int × ((List (Int × (Int × (Int × (Int × Int))))) × ((List Int) × ((List Int) × (List Int)))))) : Option (((List Int) × (Bool × (Int × Unit))) × Unit) :=
  (Check18 k a).bind fun t21 =>
  cond (t21.1 != 0)
    (some (([], false, t21.1, ()), ()))
    ((Check18 k b).bind fun t26 =>
    cond (t26.1 != 0)
      (some (([], false, t26.1, ()), ()))
      (cond (cond (a.1 != b.1) true ((List.length a.2.2.1 : Int) != (List.length b.2.2.1 : Int)))
        (some (([], false, 8, ()), ()))
        (cond (cond (decide (a.1 > 4)) true (decide ((w64 ((List.length a.2.2.2.1 : Int) + (List.length b.2.2.2.1 : Int))) > 10)))
          (some (([], false, 2, ()), ()))
          (Option.bind
            (agree
              ((Start80 k a).bind fun t58 =>
              agree
                ((Start80 k b).bind fun t60 =>
                some (a, b, [t58.1, t60.1]))
                ((Start80 k b).bind fun t60_1 =>
                some (a, b, [t58.1, t60_1.1])))
              ((Start80 k a).bind fun t58_1 =>
              (Start80 k b).bind fun t60_2 =>
              some (a, b, [t58_1.1, t60_2.1])) : Option ((Int × ((List (Int × (Int × (Int × (Int × Int))))) × ((List Int) × ((List Int) × (List Int))))) × ((Int × ((List (Int × (Int × (Int × (Int × Int))))) × ((List Int) × ((List Int) × (List Int))))) × (List Int)))) fun ((a_1, b_1, start) : ((Int × ((List (Int × (Int × (Int × (Int × Int))))) × ((List Int) × ((List Int) × (List Int))))) × ((Int × ((List (Int × (Int × (Int × (Int × Int))))) × ((List Int) × ((List Int) × (List Int))))) × (List Int)))) =>
          Option.bind
            (loopN (Circuits33.l1 k) k (a_1, b_1, start, (), (), (mput (.arr 2 (.int .i64)) (.sl (.int .i64)) ([] : (List ((List Int) × (List Int)))) start []), [start]) : Option (Unit ⊕ (((List Int) × (Bool × (Int × Unit))) × Unit))) (joined fun (_ : Unit) =>
            some (([], false, 0, ()), ()))))))
def Circuits33.A : Ann := { conds := [(7798811, ⟨[(2, .fp (.st (.pair (.int .i64) (.pair (.sl (.st (.pair (.int .i64) (.pair (.int .i64) (.pair (.int .i64) (.pair (.int .i64) (.int .i64))))))) (.pair (.sl (.int .i64)) (.pair (.sl (.int .i64)) (.sl (.int .i64)))))))), (3, .fp (.st (.pair (.int .i64) (.pair (.sl (.st (.pair (.int .i64) (.pair (.int .i64) (.pair (.int .i64) (.pair (.int .i64) (.int .i64))))))) (.pair (.sl (.int .i64)) (.pair (.sl (.int .i64)) (.sl (.int .i64)))))))), (9, .fp (.arr 2 (.int .i64))), (10, .mm 0), (11, .ms 1), (12, .fp (.arr 2 (.int .i64)))], [(0, .map (.arr 2 (.int .i64)) (.sl (.int .i64))), (1, .row (.arr 2 (.int .i64)))], 2, [], 168811955464684315858783496655603763200⟩)], blocks := [(0, ⟨[], [], 0, [], 340282366920938463315800654842092845168⟩), (2, ⟨[(2, .fp (.st (.pair (.int .i64) (.pair (.sl (.st (.pair (.int .i64) (.pair (.int .i64) (.pair (.int .i64) (.pair (.int .i64) (.int .i64))))))) (.pair (.sl (.int .i64)) (.pair (.sl (.int .i64)) (.sl (.int .i64)))))))), (3, .fp (.st (.pair (.int .i64) (.pair (.sl (.st (.pair (.int .i64) (.pair (.int .i64) (.pair (.int .i64) (.pair (.int .i64) (.int .i64))))))) (.pair (.sl (.int .i64)) (.pair (.sl (.int .i64)) (.sl (.int .i64)))))))), (9, .fp (.arr 2 (.int .i64))), (10, .mm 0), (11, .ms 1)], [(0, .map (.arr 2 (.int .i64)) (.sl (.int .i64))), (1, .row (.arr 2 (.int .i64)))], 2, [], 340282366920938161231919703774475577456⟩)], loops := [(14, ⟨[(2, .fp (.st (.pair (.int .i64) (.pair (.sl (.st (.pair (.int .i64) (.pair (.int .i64) (.pair (.int .i64) (.pair (.int .i64) (.int .i64))))))) (.pair (.sl (.int .i64)) (.pair (.sl (.int .i64)) (.sl (.int .i64)))))))), (3, .fp (.st (.pair (.int .i64) (.pair (.sl (.st (.pair (.int .i64) (.pair (.int .i64) (.pair (.int .i64) (.pair (.int .i64) (.int .i64))))))) (.pair (.sl (.int .i64)) (.pair (.sl (.int .i64)) (.sl (.int .i64)))))))), (9, .fp (.arr 2 (.int .i64))), (10, .mm 0), (11, .ms 1)], [(0, .map (.arr 2 (.int .i64)) (.sl (.int .i64))), (1, .row (.arr 2 (.int .i64)))], 2, [], 340282366920938463315800654842092845168⟩), (18, ⟨[(2, .fp (.st (.pair (.int .i64) (.pair (.sl (.st (.pair (.int .i64) (.pair (.int .i64) (.pair (.int .i64) (.pair (.int .i64) (.int .i64))))))) (.pair (.sl (.int .i64)) (.pair (.sl (.int .i64)) (.sl (.int .i64)))))))), (3, .fp (.st (.pair (.int .i64) (.pair (.sl (.st (.pair (.int .i64) (.pair (.int .i64) (.pair (.int .i64) (.pair (.int .i64) (.int .i64))))))) (.pair (.sl (.int .i64)) (.pair (.sl (.int .i64)) (.sl (.int .i64)))))))), (9, .fp (.arr 2 (.int .i64))), (10, .mm 0), (11, .ms 1), (12, .fp (.arr 2 (.int .i64))), (78, .int .i64)], [(0, .map (.arr 2 (.int .i64)) (.sl (.int .i64))), (1, .row (.arr 2 (.int .i64)))], 2, [], 340282366920938161231919703774475577456⟩)], keeps := [2, 3, 9, 12, 19], orders := [], forks := [113], alts := [(11, ((.op 0 .strong (.op 2 .strong (.alt (.op 1 (.eff true) (.alt (.op 3 (.eff true) (.op 4 .strong (.op 5 (.eff true) (.op 6 (.eff false) (.leaf []))))) (.op 5 (.eff true) (.op 3 (.eff true) (.op 4 .strong (.op 6 (.eff false) (.leaf []))))))) (.op 5 (.eff true) (.op 1 (.eff true) (.op 3 (.eff true) (.op 4 .strong (.op 6 (.eff false) (.leaf []))))))))), ⟨[(2, .fp (.st (.pair (.int .i64) (.pair (.sl (.st (.pair (.int .i64) (.pair (.int .i64) (.pair (.int .i64) (.pair (.int .i64) (.int .i64))))))) (.pair (.sl (.int .i64)) (.pair (.sl (.int .i64)) (.sl (.int .i64)))))))), (3, .fp (.st (.pair (.int .i64) (.pair (.sl (.st (.pair (.int .i64) (.pair (.int .i64) (.pair (.int .i64) (.pair (.int .i64) (.int .i64))))))) (.pair (.sl (.int .i64)) (.pair (.sl (.int .i64)) (.sl (.int .i64)))))))), (9, .fp (.arr 2 (.int .i64)))], [], 0, [], 4467570830351532544⟩))] }
def Circuits33.S : Sig := { f := 33, params := [.st (.pair (.int .i64) (.pair (.sl (.st (.pair (.int .i64) (.pair (.int .i64) (.pair (.int .i64) (.pair (.int .i64) (.int .i64))))))) (.pair (.sl (.int .i64)) (.pair (.sl (.int .i64)) (.sl (.int .i64)))))), .st (.pair (.int .i64) (.pair (.sl (.st (.pair (.int .i64) (.pair (.int .i64) (.pair (.int .i64) (.pair (.int .i64) (.int .i64))))))) (.pair (.sl (.int .i64)) (.pair (.sl (.int .i64)) (.sl (.int .i64))))))], objs := [], res := .tup (.pair (.sl (.int .i64)) (.pair .bool (.pair (.int .i64) .unit))), outs := [], fix := [], run := fun k ds os => Circuits33 k ds.1 ds.2 }
def Circuits33.G : List Sig := [Check18.S, Clone81.S, Start80.S, Step16.S]
theorem Circuits33.eq (k : Nat) : ∀ ds os, Circuits33.S.run k ds os = runF ⟨types, Circuits33.G, Circuits33.A, k, 0, []⟩ Try.f33 (codeOf Try.f33) Circuits33.S.params Circuits33.S.objs Circuits33.S.res Circuits33.S.outs ds os := by
  intro ds os; kernel_rfl
theorem Circuits33.dr : DrOk Try.prog Circuits33.A (codeOf Try.f33) := ⟨by kernel_rfl, by kernel_rfl⟩
theorem Circuits33.ok (k : Nat) : SoundAt Try.prog k Circuits33.S :=
  runF_sound (X := ⟨types, Circuits33.G, Circuits33.A, k, 0, []⟩) types_ok (mem_all (⟨Check18.ok k, ⟨Clone81.ok k, ⟨Start80.ok k, ⟨Step16.ok k, trivial⟩⟩⟩⟩)) (fn := Try.f33) (c := codeOf Try.f33) rfl (by kernel_rfl) rfl rfl Circuits33.dr (Circuits33.eq k)
end Go.Proofs.Ytjbdhaenakcclaa.St

/- Go functions as plain Lean functions, and their contracts. -/
set_option linter.unusedVariables false
set_option maxRecDepth 100000
noncomputable section
namespace Go.Proofs.Ytjbdhaenakcclaa.St
open Go Go.Proofs.Ytjbdhaenakcclaa.Gp
def EqualPairs6 (k : Nat) (a : (Int × ((List (Int × (Int × (Int × (Int × Int))))) × ((List Int) × ((List Int) × (List Int)))))) (b : (Int × ((List (Int × (Int × (Int × (Int × Int))))) × ((List Int) × ((List Int) × (List Int)))))) : Option (Bool × Unit) :=
  (CircuitFault14 k a).bind fun t12 =>
  Option.bind
    (cond (t12.1 == 0)
      ((CircuitFault14 k b).bind fun t16 =>
      some (a, b, t16.1))
      (some (a, b, t12.1)) : Option ((Int × ((List (Int × (Int × (Int × (Int × Int))))) × ((List Int) × ((List Int) × (List Int))))) × ((Int × ((List (Int × (Int × (Int × (Int × Int))))) × ((List Int) × ((List Int) × (List Int))))) × Int))) fun ((a_1, b_1, f) : ((Int × ((List (Int × (Int × (Int × (Int × Int))))) × ((List Int) × ((List Int) × (List Int))))) × ((Int × ((List (Int × (Int × (Int × (Int × Int))))) × ((List Int) × ((List Int) × (List Int))))) × Int))) =>
  Option.bind
    (cond (f != 0)
      (some (Sum.inl (a_1, b_1, f)))
      (Option.bind
        (cond (cond (a_1.1 != b_1.1) true ((List.length a_1.2.2.1 : Int) != (List.length b_1.2.2.1 : Int)))
          (some (Sum.inl (a_1, b_1, 8)))
          (Option.bind
            (cond (cond (decide (a_1.1 > 4)) true (decide ((w64 ((List.length a_1.2.2.2.1 : Int) + (List.length b_1.2.2.2.1 : Int))) > 10)))
              (some (Sum.inl (a_1, b_1, 2)))
              (cond (decide ((w64 ((List.length a_1.2.2.2.1 : Int) + (List.length b_1.2.2.2.1 : Int))) > 6))
                ((same32 k).bind fun t58 =>
                some (Sum.inr (Sum.inr (Sum.inr (t58.1, ())))))
                (some (Sum.inl (a_1, b_1, f)))) : Option (((Int × ((List (Int × (Int × (Int × (Int × Int))))) × ((List Int) × ((List Int) × (List Int))))) × ((Int × ((List (Int × (Int × (Int × (Int × Int))))) × ((List Int) × ((List Int) × (List Int))))) × Int)) ⊕ (((Int × ((List (Int × (Int × (Int × (Int × Int))))) × ((List Int) × ((List Int) × (List Int))))) × ((Int × ((List (Int × (Int × (Int × (Int × Int))))) × ((List Int) × ((List Int) × (List Int))))) × Int)) ⊕ (((Int × ((List (Int × (Int × (Int × (Int × Int))))) × ((List Int) × ((List Int) × (List Int))))) × ((Int × ((List (Int × (Int × (Int × (Int × Int))))) × ((List Int) × ((List Int) × (List Int))))) × Int)) ⊕ (Bool × Unit))))) (joined fun ((a_2, b_2, f_1) : ((Int × ((List (Int × (Int × (Int × (Int × Int))))) × ((List Int) × ((List Int) × (List Int))))) × ((Int × ((List (Int × (Int × (Int × (Int × Int))))) × ((List Int) × ((List Int) × (List Int))))) × Int))) =>
            some (Sum.inl (a_2, b_2, f_1)))) : Option (((Int × ((List (Int × (Int × (Int × (Int × Int))))) × ((List Int) × ((List Int) × (List Int))))) × ((Int × ((List (Int × (Int × (Int × (Int × Int))))) × ((List Int) × ((List Int) × (List Int))))) × Int)) ⊕ (((Int × ((List (Int × (Int × (Int × (Int × Int))))) × ((List Int) × ((List Int) × (List Int))))) × ((Int × ((List (Int × (Int × (Int × (Int × Int))))) × ((List Int) × ((List Int) × (List Int))))) × Int)) ⊕ (Bool × Unit)))) (joined fun ((a_3, b_3, f_2) : ((Int × ((List (Int × (Int × (Int × (Int × Int))))) × ((List Int) × ((List Int) × (List Int))))) × ((Int × ((List (Int × (Int × (Int × (Int × Int))))) × ((List Int) × ((List Int) × (List Int))))) × Int))) =>
        some (Sum.inl (a_3, b_3, f_2)))) : Option (((Int × ((List (Int × (Int × (Int × (Int × Int))))) × ((List Int) × ((List Int) × (List Int))))) × ((Int × ((List (Int × (Int × (Int × (Int × Int))))) × ((List Int) × ((List Int) × (List Int))))) × Int)) ⊕ (Bool × Unit))) (joined fun ((a_4, b_4, f_3) : ((Int × ((List (Int × (Int × (Int × (Int × Int))))) × ((List Int) × ((List Int) × (List Int))))) × ((Int × ((List (Int × (Int × (Int × (Int × Int))))) × ((List Int) × ((List Int) × (List Int))))) × Int))) =>
    (Circuits33 k a_4 b_4).bind fun t62 =>
    (same32 k).bind fun t66 =>
    cond (cond (!t66.1) true (t62.1.2.2.1 != f_3))
      (some (false, ()))
      (Option.bind
        (cond (f_3 == 0)
          ((ToldCircuits34 k a_4 b_4).bind fun t78 =>
          some (t78.1.1, t78.1.2.1))
          (some ([], false)) : Option ((List Int) × Bool)) fun ((want, differ) : ((List Int) × Bool)) =>
      Option.bind (cond (xor false (t62.1.2.1 == differ))
        ((Equal25 k t62.1.1 want).bind fun t87 =>
        some t87.1)
        (some false)) fun t88 =>
      some (t88, ())))
def EqualPairs6.A : Ann := { conds := [(917507, ⟨[(2, .fp (.st (.pair (.int .i64) (.pair (.sl (.st (.pair (.int .i64) (.pair (.int .i64) (.pair (.int .i64) (.pair (.int .i64) (.int .i64))))))) (.pair (.sl (.int .i64)) (.pair (.sl (.int .i64)) (.sl (.int .i64)))))))), (3, .fp (.st (.pair (.int .i64) (.pair (.sl (.st (.pair (.int .i64) (.pair (.int .i64) (.pair (.int .i64) (.pair (.int .i64) (.int .i64))))))) (.pair (.sl (.int .i64)) (.pair (.sl (.int .i64)) (.sl (.int .i64)))))))), (5, .int .i64)], [], 0, [], 98336⟩), (1114117, ⟨[(2, .fp (.st (.pair (.int .i64) (.pair (.sl (.st (.pair (.int .i64) (.pair (.int .i64) (.pair (.int .i64) (.pair (.int .i64) (.int .i64))))))) (.pair (.sl (.int .i64)) (.pair (.sl (.int .i64)) (.sl (.int .i64)))))))), (3, .fp (.st (.pair (.int .i64) (.pair (.sl (.st (.pair (.int .i64) (.pair (.int .i64) (.pair (.int .i64) (.pair (.int .i64) (.int .i64))))))) (.pair (.sl (.int .i64)) (.pair (.sl (.int .i64)) (.sl (.int .i64)))))))), (5, .int .i64)], [], 0, [], 576460752302374960⟩), (1310726, ⟨[(2, .fp (.st (.pair (.int .i64) (.pair (.sl (.st (.pair (.int .i64) (.pair (.int .i64) (.pair (.int .i64) (.pair (.int .i64) (.int .i64))))))) (.pair (.sl (.int .i64)) (.pair (.sl (.int .i64)) (.sl (.int .i64)))))))), (3, .fp (.st (.pair (.int .i64) (.pair (.sl (.st (.pair (.int .i64) (.pair (.int .i64) (.pair (.int .i64) (.pair (.int .i64) (.int .i64))))))) (.pair (.sl (.int .i64)) (.pair (.sl (.int .i64)) (.sl (.int .i64)))))))), (5, .int .i64)], [], 0, [], 576460717943685168⟩), (2293768, ⟨[(2, .fp (.st (.pair (.int .i64) (.pair (.sl (.st (.pair (.int .i64) (.pair (.int .i64) (.pair (.int .i64) (.pair (.int .i64) (.int .i64))))))) (.pair (.sl (.int .i64)) (.pair (.sl (.int .i64)) (.sl (.int .i64)))))))), (3, .fp (.st (.pair (.int .i64) (.pair (.sl (.st (.pair (.int .i64) (.pair (.int .i64) (.pair (.int .i64) (.pair (.int .i64) (.int .i64))))))) (.pair (.sl (.int .i64)) (.pair (.sl (.int .i64)) (.sl (.int .i64)))))))), (5, .int .i64)], [], 0, [], 575897802350002224⟩), (4849681, ⟨[(9, .sl (.int .i64)), (10, .bool)], [], 0, [], 2380072707366301187704320⟩)], blocks := [], loops := [], keeps := [2, 3], orders := [] }
def EqualPairs6.S : Sig := { f := 6, params := [.st (.pair (.int .i64) (.pair (.sl (.st (.pair (.int .i64) (.pair (.int .i64) (.pair (.int .i64) (.pair (.int .i64) (.int .i64))))))) (.pair (.sl (.int .i64)) (.pair (.sl (.int .i64)) (.sl (.int .i64)))))), .st (.pair (.int .i64) (.pair (.sl (.st (.pair (.int .i64) (.pair (.int .i64) (.pair (.int .i64) (.pair (.int .i64) (.int .i64))))))) (.pair (.sl (.int .i64)) (.pair (.sl (.int .i64)) (.sl (.int .i64))))))], objs := [], res := .bool, outs := [], fix := [], run := fun k ds os => EqualPairs6 k ds.1 ds.2 }
def EqualPairs6.G : List Sig := [CircuitFault14.S, Circuits33.S, Equal25.S, ToldCircuits34.S, same32.S]
theorem EqualPairs6.eq (k : Nat) : ∀ ds os, EqualPairs6.S.run k ds os = runF ⟨types, EqualPairs6.G, EqualPairs6.A, k, 0, []⟩ Try.f6 (codeOf Try.f6) EqualPairs6.S.params EqualPairs6.S.objs EqualPairs6.S.res EqualPairs6.S.outs ds os := by
  intro ds os; kernel_rfl
theorem EqualPairs6.dr : DrOk Try.prog EqualPairs6.A (codeOf Try.f6) := ⟨by kernel_rfl, by kernel_rfl⟩
theorem EqualPairs6.ok (k : Nat) : SoundAt Try.prog k EqualPairs6.S :=
  runF_sound (X := ⟨types, EqualPairs6.G, EqualPairs6.A, k, 0, []⟩) types_ok (mem_all (⟨CircuitFault14.ok k, ⟨Circuits33.ok k, ⟨Equal25.ok k, ⟨ToldCircuits34.ok k, ⟨same32.ok k, trivial⟩⟩⟩⟩⟩)) (fn := Try.f6) (c := codeOf Try.f6) rfl (by kernel_rfl) rfl rfl EqualPairs6.dr (EqualPairs6.eq k)
end Go.Proofs.Ytjbdhaenakcclaa.St

/- What is left of a Go function, in the long run: rounds, loops, lists, numbers. No program in sight. -/
set_option linter.unusedVariables false
noncomputable section
namespace Go.Proofs.Ytjbdhaenakcclaa.Gp
open Go

/-- from some fuel on, f answers v -/
def Ev {α : Type} (f : Nat → Option α) (v : α) : Prop := ∃ n, ∀ k, n ≤ k → f k = some v
/-- .. a loop, from some fuel on and with enough rounds -/
def Lp {S R : Type} (body : Nat → S → Option (S ⊕ R)) (s : S) (r : R) : Prop := ∃ n m, ∀ k, n ≤ k → ∀ j, m ≤ j → loopN (body k) j s = some r

theorem Ev.ex {α : Type} {f : Nat → Option α} {v : α} (h : Ev f v) : ∃ k, f k = some v := by
  obtain ⟨n, h⟩ := h
  exact ⟨n, h n (Nat.le_refl _)⟩
theorem Ev.now {α : Type} (v : α) : Ev (fun _ => some v) v := ⟨0, fun _ _ => rfl⟩
theorem Ev.now' {α : Type} {v w : α} (h : v = w) : Ev (fun _ => some v) w := h ▸ .now v
/-- what hangs on no fuel -/
theorem Ev.const {α : Type} {o : Option α} {v : α} (h : o = some v) : Ev (fun _ => o) v := ⟨0, fun _ _ => h⟩
theorem Ev.to {α : Type} {f : Nat → Option α} {v w : α} (h : Ev f v) (e : v = w) : Ev f w := e ▸ h
theorem Ev.of {α : Type} {f g : Nat → Option α} {v : α} (h : Ev f v) (e : ∀ k, g k = f k) : Ev g v := by
  obtain ⟨n, h⟩ := h
  exact ⟨n, fun k hk => (e k).trans (h k hk)⟩
theorem Ev.bind {α β : Type} {f : Nat → Option α} {g : Nat → α → Option β} {a : α} {b : β} (h : Ev f a) (h2 : Ev (fun k => g k a) b) : Ev (fun k => (f k).bind (g k)) b := by
  obtain ⟨n, h⟩ := h
  obtain ⟨m, h2⟩ := h2
  refine ⟨max n m, fun k hk => ?_⟩
  show (f k).bind (g k) = _
  rw [h k (by omega)]
  exact h2 k (by omega)
/-- a value that hangs on no fuel -/
theorem Ev.val {α β : Type} {o : Option α} {g : Nat → α → Option β} {a : α} {b : β} (h : o = some a) (h2 : Ev (fun k => g k a) b) : Ev (fun k => o.bind (g k)) b := by
  subst h
  exact h2
theorem Ev.joinL {S α β : Type} {f : Nat → Option (α ⊕ β)} {g : Nat → α → Option β} {a : α} {b : β} (h : Ev f (.inl a)) (h2 : Ev (fun k => g k a) b) : Ev (fun k => (f k).bind (joined (g k))) b :=
  Ev.bind (g := fun k => joined (g k)) h h2
theorem Ev.joinR {α β : Type} {f : Nat → Option (α ⊕ β)} {g : Nat → α → Option β} {b : β} (h : Ev f (.inr b)) : Ev (fun k => (f k).bind (joined (g k))) b :=
  Ev.bind (g := fun k => joined (g k)) h (.now b)
/-- a join: how it came, and what follows -/
theorem Ev.join {α β : Type} {f : Nat → Option (α ⊕ β)} {g : Nat → α → Option β} {s : α ⊕ β} {b : β} (h : Ev f s) (h1 : ∀ a, s = .inl a → Ev (fun k => g k a) b) (h2 : ∀ r, s = .inr r → r = b) : Ev (fun k => (f k).bind (joined (g k))) b := by
  cases s with
  | inl a => exact Ev.bind (g := fun k => joined (g k)) h (h1 a rfl)
  | inr r => exact Ev.bind (g := fun k => joined (g k)) h (.now' (h2 r rfl))
theorem Ev.cnd {α : Type} {c : Bool} {f g : Nat → Option α} {v : α} (h1 : c = true → Ev f v) (h2 : c = false → Ev g v) : Ev (fun k => cond c (f k) (g k)) v := by
  cases c with
  | true => exact h1 rfl
  | false => exact h2 rfl
theorem Ev.yes {α : Type} {c : Bool} {f g : Nat → Option α} {v : α} (hc : c = true) (h : Ev f v) : Ev (fun k => cond c (f k) (g k)) v := by rw [hc]; exact h
theorem Ev.no {α : Type} {c : Bool} {f g : Nat → Option α} {v : α} (hc : c = false) (h : Ev g v) : Ev (fun k => cond c (f k) (g k)) v := by rw [hc]; exact h
theorem Ev.iff {α : Type} {c : Prop} [Decidable c] {f g : Nat → Option α} {v : α} (h1 : c → Ev f v) (h2 : ¬ c → Ev g v) : Ev (fun k => cond (decide c) (f k) (g k)) v := by
  by_cases h : c
  · exact .yes (decide_eq_true h) (h1 h)
  · exact .no (decide_eq_false h) (h2 h)
theorem Ev.map {α β : Type} {f : Nat → Option α} {g : α → β} {a : α} (h : Ev f a) : Ev (fun k => (f k).map g) (g a) := by
  obtain ⟨n, h⟩ := h
  exact ⟨n, fun k hk => by show (f k).map g = _; rw [h k hk]; rfl⟩

theorem Lp.ev {S R : Type} {body : Nat → S → Option (S ⊕ R)} {s : S} {r : R} (h : Lp body s r) : Ev (fun k => loopN (body k) k s) r := by
  obtain ⟨n, m, h⟩ := h
  exact ⟨max n m, fun k hk => h k (by omega) k (by omega)⟩
theorem Lp.done {S R : Type} {body : Nat → S → Option (S ⊕ R)} {s : S} {r : R} (h : Ev (fun k => body k s) (.inr r)) : Lp body s r := by
  obtain ⟨n, h⟩ := h
  refine ⟨n, 1, fun k hk j hj => ?_⟩
  obtain ⟨j, rfl⟩ : ∃ i, j = i + 1 := ⟨j - 1, by omega⟩
  show (body k s).bind _ = _
  rw [show body k s = _ from h k hk]
  rfl
theorem Lp.step {S R : Type} {body : Nat → S → Option (S ⊕ R)} {s s' : S} {r : R} (h : Ev (fun k => body k s) (.inl s')) (h2 : Lp body s' r) : Lp body s r := by
  obtain ⟨n, h⟩ := h
  obtain ⟨n2, m, h2⟩ := h2
  refine ⟨max n n2, m + 1, fun k hk j hj => ?_⟩
  obtain ⟨j, rfl⟩ : ∃ i, j = i + 1 := ⟨j - 1, by omega⟩
  show (body k s).bind _ = _
  rw [show body k s = _ from h k (by omega)]
  exact h2 k (by omega) j (by omega)

/-- a walk over a list, that may end early -/
def walk {α β R : Type} (f : β → α → β ⊕ R) (fin : β → R) : List α → β → R
  | [], b => fin b
  | x :: l, b => match f b x with | .inl b' => walk f fin l b' | .inr r => r
theorem walk_nil {α β R : Type} {f : β → α → β ⊕ R} {fin : β → R} {b : β} : walk f fin [] b = fin b := rfl
theorem walk_cons {α β R : Type} {f : β → α → β ⊕ R} {fin : β → R} {x : α} {l : List α} {b : β} : walk f fin (x :: l) b = match f b x with | .inl b' => walk f fin l b' | .inr r => r := rfl

/-- a loop over a list by its index: 'st b i' is the loop's state -/
theorem Lp.walk {α β S R : Type} {body : Nat → S → Option (S ⊕ R)} (l : List α) (st : β → Int → S) (f : β → α → β ⊕ R) (fin : β → R) (Inv : Nat → β → Prop)
    (hs : ∀ i x b, l[i]? = some x → Inv i b → Ev (fun k => body k (st b i)) (match f b x with | .inl b' => .inl (st b' ((i : Int) + 1)) | .inr r => .inr r) ∧ ∀ b', f b x = .inl b' → Inv (i + 1) b')
    (hd : ∀ b, Inv l.length b → Ev (fun k => body k (st b l.length)) (.inr (fin b))) {b : β} (h0 : Inv 0 b) : Lp body (st b 0) (walk f fin l b) := by
  have key : ∀ (suf pre : List α) (b : β), l = pre ++ suf → Inv pre.length b → Lp body (st b (pre.length : Int)) (Gp.walk f fin suf b) := by
    intro suf
    induction suf with
    | nil =>
      intro pre b h hi
      rw [List.append_nil] at h
      subst h
      exact .done (hd b hi)
    | cons x suf ih =>
      intro pre b h hi
      have hx : l[pre.length]? = some x := by rw [h]; simp
      obtain ⟨h1, h2⟩ := hs pre.length x b hx hi
      rw [walk_cons]
      cases hf : f b x with
      | inr r => rw [hf] at h1; exact .done h1
      | inl b' =>
        rw [hf] at h1
        refine .step h1 ?_
        have := ih (pre ++ [x]) b' (by rw [h]; simp) (by simpa using h2 b' hf)
        simpa using this
  exact key l [] b rfl h0
/-- .. that always goes to its end -/
theorem Lp.fold {α β S R : Type} {body : Nat → S → Option (S ⊕ R)} (l : List α) (st : β → Int → S) (f : β → α → β) (fin : β → R) (Inv : Nat → β → Prop)
    (hs : ∀ i x b, l[i]? = some x → Inv i b → Ev (fun k => body k (st b i)) (.inl (st (f b x) ((i : Int) + 1))) ∧ Inv (i + 1) (f b x))
    (hd : ∀ b, Inv l.length b → Ev (fun k => body k (st b l.length)) (.inr (fin b))) {b : β} (h0 : Inv 0 b) : Lp body (st b 0) (fin (l.foldl f b)) := by
  have := Lp.walk (body := body) l st (fun b x => .inl (f b x)) fin Inv (fun i x b hx hi => ⟨(hs i x b hx hi).1, fun b' hb => by cases hb; exact (hs i x b hx hi).2⟩) hd h0
  have e : ∀ (l : List α) (b : β), Gp.walk (fun b x => (.inl (f b x) : β ⊕ R)) fin l b = fin (l.foldl f b) := by
    intro l
    induction l with
    | nil => intro b; rfl
    | cons x l ih => intro b; rw [walk_cons, List.foldl_cons]; exact ih _
  rwa [e] at this
/-- a loop that counts from 0 to n -/
theorem Lp.count {β S R : Type} {body : Nat → S → Option (S ⊕ R)} (n : Nat) (st : β → Int → S) (f : β → Nat → β) (fin : β → R) (Inv : Nat → β → Prop)
    (hs : ∀ i b, i < n → Inv i b → Ev (fun k => body k (st b i)) (.inl (st (f b i) ((i : Int) + 1))) ∧ Inv (i + 1) (f b i))
    (hd : ∀ b, Inv n b → Ev (fun k => body k (st b n)) (.inr (fin b))) {b : β} (h0 : Inv 0 b) : Lp body (st b 0) (fin ((List.range n).foldl f b)) := by
  refine Lp.fold (List.range n) st f fin Inv (fun i x b hx hi => ?_) (fun b hb => ?_) h0
  · obtain ⟨h1, h2⟩ := List.getElem?_eq_some_iff.1 hx
    rw [List.getElem_range] at h2
    subst h2
    exact hs i b (by simpa using h1) hi
  · rw [List.length_range] at hb ⊢
    exact hd b hb

-- numbers
theorem w64_id {x : Int} (h0 : -9223372036854775808 ≤ x) (h1 : x ≤ 9223372036854775807) : w64 x = x := by
  show IntKind.wrap .i64 x = x
  have e : (2 : Int) ^ (64 - 1) = 9223372036854775808 := by decide
  have e2 : (2 : Int) ^ 64 = 18446744073709551616 := by decide
  simp only [IntKind.wrap, IntKind.signed, IntKind.bits, Bool.true_and, decide_eq_true_eq, e, e2]
  split <;> omega
theorem w64_nat {n : Nat} (h : n ≤ 9223372036854775807) : w64 (n : Int) = n := w64_id (by omega) (by omega)
theorem w64_succ {n : Nat} (h : n < 9223372036854775807) : w64 ((n : Int) + 1) = ((n + 1 : Nat) : Int) := by rw [w64_id (by omega) (by omega)]; omega
theorem rd_nat {α : Type} (l : List α) (i : Nat) : rd l (i : Int) = l[i]? := by
  unfold rd
  rw [if_pos (by omega)]
  rfl
theorem rd_some' {α : Type} {l : List α} {i : Nat} {x : α} (h : l[i]? = some x) : rd l (i : Int) = some x := by rw [rd_nat, h]
theorem rd_at {α : Type} {l : List α} {z : Int} {i : Nat} {x : α} (hz : z = i) (h : l[i]? = some x) : rd l z = some x := by rw [hz, rd_nat, h]
theorem room_ok {n b : Nat} (h : n * b ≤ 140737488355328) : room n b = true := Nat.ble_eq_true_of_le h
theorem get_lt {α : Type} {l : List α} {i : Nat} {x : α} (h : l[i]? = some x) : i < l.length := (List.getElem?_eq_some_iff.1 h).1
theorem get_mem {α : Type} {l : List α} {i : Nat} {x : α} (h : l[i]? = some x) : x ∈ l := List.mem_of_getElem? h
theorem slc_ok {α : Type} {l : List α} {a b : Nat} (h1 : a ≤ b) (h2 : b ≤ l.length) : slc l (a : Int) (b : Int) = some ((l.take b).drop a) := by
  unfold slc
  rw [if_pos ⟨by omega, by omega, by omega⟩]
  simp
theorem slc_tail {α : Type} {l : List α} {a : Nat} (h1 : a ≤ l.length) : slc l (a : Int) (l.length : Int) = some (l.drop a) := by
  rw [slc_ok h1 (Nat.le_refl _), List.take_length]
theorem eqB_iff {k : K} (hc : k.cmp = true) {x y : k.den} : eqB k x y = true ↔ x = y := ⟨eqB_eq hc, fun h => by rw [h]; exact eqB_refl hc⟩
theorem eqB_dec {k : K} (hc : k.cmp = true) {x y : k.den} [Decidable (x = y)] : eqB k x y = decide (x = y) := by
  rw [Bool.eq_iff_iff, eqB_iff hc, decide_eq_true_eq]
theorem streq_iff {a b : ByteArray} : streq a b = true ↔ a = b := ⟨streq_eq, fun h => by rw [h]; exact streq_refl b⟩
theorem lit_wf {k : Int} (h : (Lit.int .i64 k).wf = true) : -9223372036854775808 ≤ k ∧ k ≤ 9223372036854775807 := by
  simp [Lit.wf, IntKind.min, IntKind.max, IntKind.signed, IntKind.bits] at h
  omega

-- bits
theorem wrap64_nat {n : Nat} (h : n < 9223372036854775808) : IntKind.wrap .i64 (n : Int) = n := w64_nat (by omega)
theorem bv_nat (a : Nat) : BitVec.ofInt 64 (a : Int) = BitVec.ofNat 64 a := BitVec.ofInt_natCast 64 a
theorem ibits_and {a b : Nat} (ha : a < 9223372036854775808) (hb : b < 9223372036854775808) : ibits .and .i64 (a : Int) (b : Int) = ((a &&& b : Nat) : Int) := by
  have h : (a &&& b) < 2 ^ 63 := by rw [Nat.and_comm]; exact Nat.and_lt_two_pow _ ha
  show IntKind.wrap .i64 (((BitVec.ofInt 64 (a : Int) &&& BitVec.ofInt 64 (b : Int)).toNat : Nat) : Int) = _
  rw [bv_nat, bv_nat, BitVec.toNat_and, BitVec.toNat_ofNat, BitVec.toNat_ofNat, Nat.mod_eq_of_lt (by omega), Nat.mod_eq_of_lt (by omega)]
  exact wrap64_nat h
theorem ibits_or {a b : Nat} (ha : a < 9223372036854775808) (hb : b < 9223372036854775808) : ibits .or .i64 (a : Int) (b : Int) = ((a ||| b : Nat) : Int) := by
  have h : (a ||| b) < 2 ^ 63 := Nat.or_lt_two_pow ha hb
  show IntKind.wrap .i64 (((BitVec.ofInt 64 (a : Int) ||| BitVec.ofInt 64 (b : Int)).toNat : Nat) : Int) = _
  rw [bv_nat, bv_nat, BitVec.toNat_or, BitVec.toNat_ofNat, BitVec.toNat_ofNat, Nat.mod_eq_of_lt (by omega), Nat.mod_eq_of_lt (by omega)]
  exact wrap64_nat h
theorem ibits_xor {a b : Nat} (ha : a < 9223372036854775808) (hb : b < 9223372036854775808) : ibits .xor .i64 (a : Int) (b : Int) = ((a ^^^ b : Nat) : Int) := by
  have h : (a ^^^ b) < 2 ^ 63 := Nat.xor_lt_two_pow ha hb
  show IntKind.wrap .i64 (((BitVec.ofInt 64 (a : Int) ^^^ BitVec.ofInt 64 (b : Int)).toNat : Nat) : Int) = _
  rw [bv_nat, bv_nat, BitVec.toNat_xor, BitVec.toNat_ofNat, BitVec.toNat_ofNat, Nat.mod_eq_of_lt (by omega), Nat.mod_eq_of_lt (by omega)]
  exact wrap64_nat h
theorem ibits_andNot {a b : Nat} (ha : a < 9223372036854775808) (hb : b < 9223372036854775808) : ibits .andNot .i64 (a : Int) (b : Int) = ((a ^^^ (a &&& b) : Nat) : Int) := by
  have h1 : (a &&& b) < 2 ^ 63 := by rw [Nat.and_comm]; exact Nat.and_lt_two_pow _ ha
  have h : (a ^^^ (a &&& b)) < 2 ^ 63 := Nat.xor_lt_two_pow ha h1
  have e : (BitVec.ofNat 64 a &&& ~~~ BitVec.ofNat 64 b).toNat = a ^^^ (a &&& b) := by
    apply Nat.eq_of_testBit_eq
    intro i
    rw [BitVec.testBit_toNat, BitVec.getLsbD_and, BitVec.getLsbD_not, BitVec.getLsbD_ofNat, BitVec.getLsbD_ofNat, Nat.testBit_xor, Nat.testBit_and]
    by_cases hi : i < 64
    · cases a.testBit i <;> cases b.testBit i <;> simp [hi]
    · have : a.testBit i = false := Nat.testBit_lt_two_pow (Nat.lt_of_lt_of_le ha (Nat.le_trans (by decide : 9223372036854775808 ≤ 2 ^ 64) (Nat.pow_le_pow_right (by decide) (by omega))))
      simp [this]
  show IntKind.wrap .i64 (((BitVec.ofInt 64 (a : Int) &&& ~~~ BitVec.ofInt 64 (b : Int)).toNat : Nat) : Int) = _
  rw [bv_nat, bv_nat, e]
  exact wrap64_nat h
theorem pow_small {j : Nat} (h : j < 63) : 2 ^ j < 9223372036854775808 := by
  have : 2 ^ j < 2 ^ 63 := Nat.pow_lt_pow_right (by decide) h
  simpa using this
theorem shlI_nat {a j : Nat} (hj : j ≤ 64) (h : a * 2 ^ j < 9223372036854775808) : shlI .i64 (a : Int) (j : Int) = ((a * 2 ^ j : Nat) : Int) := by
  unfold shlI
  simp only [IntKind.bits, Int.toNat_natCast]
  rw [Nat.min_eq_left hj, show ((a : Int) * 2 ^ j) = ((a * 2 ^ j : Nat) : Int) by simp]
  exact wrap64_nat h
theorem shlI_one {j : Nat} (h : j < 63) : shlI .i64 1 (j : Int) = ((2 ^ j : Nat) : Int) := by
  have := shlI_nat (a := 1) (j := j) (by omega) (by rw [Nat.one_mul]; exact pow_small h)
  simpa using this
theorem shrI_nat {a j : Nat} (hj : j ≤ 64) : shrI .i64 (a : Int) (j : Int) = ((a / 2 ^ j : Nat) : Int) := by
  unfold shrI
  simp only [IntKind.bits, Int.toNat_natCast]
  rw [Nat.min_eq_left hj, show ((2 : Int) ^ j) = ((2 ^ j : Nat) : Int) by simp, Int.fdiv_eq_ediv_of_nonneg _ (Int.natCast_nonneg _)]
  simp

-- maps
theorem mget_nil {kk kv : K} {k : kk.den} : mget kk kv [] k = none := rfl
theorem mpos_lt {kk kv : K} {l : List (kk.den × kv.den)} {k : kk.den} (h : mpos kk kv l k < l.length) : ∃ e, l[mpos kk kv l k]? = some e ∧ eqB kk k e.1 = true := by
  have := List.findIdx_getElem (xs := l) (p := fun (e : kk.den × kv.den) => eqB kk k e.1) (w := h)
  exact ⟨_, List.getElem?_eq_getElem h, this⟩
theorem find_modify {α : Type} {p : α → Bool} {x : α} : ∀ {l : List α} {i : Nat}, (∀ y, l[i]? = some y → p y = p x) → p x = false → (l.modify i (fun _ => x)).find? p = l.find? p
  | [], i, _, _ => by simp
  | y :: l, 0, h, hx => by
    have := h y rfl
    rw [hx] at this
    simp [List.modify, List.find?, this, hx]
  | y :: l, i + 1, h, hx => by
    have ih := find_modify (l := l) (i := i) (fun z hz => h z (by simpa using hz)) hx
    simp only [List.modify_succ_cons, List.find?_cons]
    rw [ih]
theorem find_modify_at {α : Type} {p : α → Bool} {x : α} (hx : p x = true) : ∀ {l : List α}, l.findIdx p < l.length → (l.modify (l.findIdx p) (fun _ => x)).find? p = some x
  | [], h => by simp at h
  | y :: l, h => by
    rw [List.findIdx_cons] at h ⊢
    cases hy : p y with
    | true => simp [hx]
    | false =>
      rw [hy] at h
      simp only [cond_false, List.length_cons] at h ⊢
      rw [List.modify_succ_cons, List.find?_cons, hy]
      exact find_modify_at hx (by omega)
theorem mget_mput {kk kv : K} (hc : kk.cmp = true) {l : List (kk.den × kv.den)} {k k' : kk.den} {v : kv.den} : mget kk kv (mput kk kv l k v) k' = if eqB kk k' k = true then some v else mget kk kv l k' := by
  unfold mget mput
  by_cases hk : eqB kk k' k = true
  · have := eqB_eq hc hk
    subst this
    rw [if_pos hk]
    split
    · rename_i h
      rw [show mpos kk kv l k' = l.findIdx (fun e => eqB kk k' e.1) from rfl] at h ⊢
      rw [find_modify_at (by exact hk) h]
      rfl
    · rename_i h
      have hn : l.find? (fun e => eqB kk k' e.1) = none := by
        rw [List.find?_eq_none]
        intro x hx hp
        exact h (List.findIdx_lt_length_of_exists ⟨x, hx, hp⟩)
      rw [List.find?_append, hn]
      simp [hk]
  · rw [if_neg hk]
    have hk' : eqB kk k' k = false := by simpa using hk
    split
    · rename_i h
      rw [find_modify (fun y hy => ?_) (by exact hk')]
      obtain ⟨e, he, hp⟩ := mpos_lt h
      rw [he] at hy
      cases hy
      rw [← eqB_eq hc hp]
    · rw [List.find?_append]
      simp [hk']
theorem foldl_snoc {α β : Type} (g : α → β) : ∀ (l : List α) (o : List β), l.foldl (fun o x => o ++ [g x]) o = o ++ l.map g
  | [], o => by simp
  | x :: l, o => by rw [List.foldl_cons, foldl_snoc g l]; simp
end Go.Proofs.Ytjbdhaenakcclaa.Gp

/- Shortest words that tell two machines apart: words, and a search round by round. No program in sight. -/
set_option linter.unusedVariables false
noncomputable section
namespace Go.Proofs.Ytjbdhaenakcclaa.St
open Go Go.Proofs.Ytjbdhaenakcclaa.Gp

abbrev Pr := Int × Int
def cod (w : List Nat) : Nat := w.foldl (fun c i => c * 17 + i) 1
theorem cod_snoc (w : List Nat) (i : Nat) : cod (w ++ [i]) = cod w * 17 + i := by unfold cod; rw [List.foldl_append]; rfl
theorem cod_pos (w : List Nat) : 1 ≤ cod w := by
  have : ∀ (w : List Nat) (c : Nat), 1 ≤ c → 1 ≤ w.foldl (fun c i => c * 17 + i) c := by
    intro w
    induction w with
    | nil => intro c h; exact h
    | cons x w ih => intro c h; exact ih _ (show 1 ≤ c * 17 + x by omega)
  exact this w 1 (Nat.le_refl _)
theorem snoc_ind {p : List Nat → Prop} (h0 : p []) (h1 : ∀ w i, p w → p (w ++ [i])) (w : List Nat) : p w := by
  have : ∀ (n : Nat) (w : List Nat), w.length = n → p w := by
    intro n
    induction n with
    | zero => intro w h; rw [List.length_eq_zero_iff.1 h]; exact h0
    | succ n ih =>
      intro w h
      rcases List.eq_nil_or_concat w with rfl | ⟨u, i, hc⟩
      · cases h
      · rw [List.concat_eq_append] at hc
        subst hc
        exact h1 u i (ih u (by simpa using h))
  exact this w.length w rfl
theorem cod_inj : ∀ (u v : List Nat), (∀ i ∈ u, i < 17) → (∀ i ∈ v, i < 17) → cod u = cod v → u = v := by
  intro u
  refine snoc_ind (p := fun u => ∀ v : List Nat, (∀ i ∈ u, i < 17) → (∀ i ∈ v, i < 17) → cod u = cod v → u = v) ?_ ?_ u
  · intro v _ hv h
    rcases List.eq_nil_or_concat v with rfl | ⟨v', j, hc⟩
    · rfl
    · rw [List.concat_eq_append] at hc
      subst hc
      rw [cod_snoc] at h
      have := cod_pos v'
      have h1 : cod [] = 1 := rfl
      omega
  · intro u i ih v hu hv h
    rcases List.eq_nil_or_concat v with rfl | ⟨v', j, hc⟩
    · rw [cod_snoc] at h
      have := cod_pos u
      have h1 : cod [] = 1 := rfl
      omega
    · rw [List.concat_eq_append] at hc
      subst hc
      rw [cod_snoc, cod_snoc] at h
      have hi := hu i (by simp)
      have hj := hv j (by simp)
      have e1 : cod u = cod v' := by omega
      have e2 : i = j := by omega
      rw [ih v' (fun x hx => hu x (by simp [hx])) (fun x hx => hv x (by simp [hx])) e1, e2]
/-- the number of a word of a given length -/
def vl (w : List Nat) : Nat := w.foldl (fun c i => c * 17 + i) 0
theorem fold_lin (w : List Nat) : ∀ c : Nat, w.foldl (fun c i => c * 17 + i) c = c * 17 ^ w.length + vl w := by
  induction w with
  | nil => intro c; simp [vl]
  | cons x w ih =>
    intro c
    unfold vl
    rw [List.foldl_cons, List.foldl_cons, ih, ih (0 * 17 + x), List.length_cons, Nat.pow_succ, Nat.zero_mul, Nat.zero_add, Nat.add_mul]
    rw [Nat.mul_assoc, Nat.mul_comm 17, Nat.add_assoc]
theorem cod_vl (w : List Nat) : cod w = 17 ^ w.length + vl w := by unfold cod; rw [fold_lin, Nat.one_mul]
theorem vl_cons (i : Nat) (w : List Nat) : vl (i :: w) = i * 17 ^ w.length + vl w := by
  show w.foldl _ (0 * 17 + i) = _
  rw [fold_lin, Nat.zero_mul, Nat.zero_add]
theorem vl_lt : ∀ (w : List Nat), (∀ i ∈ w, i < 17) → vl w < 17 ^ w.length
  | [], _ => by simp [vl]
  | x :: w, h => by
    have ih := vl_lt w (fun i hi => h i (by simp [hi]))
    have hx := h x (by simp)
    rw [vl_cons, List.length_cons, Nat.pow_succ]
    have : x * 17 ^ w.length ≤ 16 * 17 ^ w.length := Nat.mul_le_mul_right _ (by omega)
    omega
theorem cod_len {u v : List Nat} (hu : ∀ i ∈ u, i < 17) (h : u.length < v.length) : cod u < cod v := by
  have h1 := vl_lt u hu
  rw [cod_vl, cod_vl]
  have h2 : 17 ^ (u.length + 1) ≤ 17 ^ v.length := Nat.pow_le_pow_right (by decide) h
  rw [Nat.pow_succ] at h2
  omega

section
variable (dl : Pr → Nat → Pr) (df : Pr → Nat → Bool) (B : Nat)
def go (p : Pr) (w : List Nat) : Pr := w.foldl dl p
theorem go_snoc (p : Pr) (w : List Nat) (i : Nat) : go dl p (w ++ [i]) = dl (go dl p w) i := by unfold go; rw [List.foldl_append]; rfl
/-- a word whose last letter tells them apart -/
def Tells (p : Pr) (w : List Nat) : Prop := ∃ u j, w = u ++ [j] ∧ (∀ i ∈ u, i < B) ∧ j < B ∧ df (go dl p u) j = true
theorem Tells.cons {p : Pr} {j : Nat} {w : List Nat} (h : Tells dl df B p (j :: w)) : j < B ∧ ((w = [] ∧ df p j = true) ∨ Tells dl df B (dl p j) w) := by
  obtain ⟨u, i, e, h1, h2, h3⟩ := h
  cases u with
  | nil =>
    simp only [List.nil_append, List.cons.injEq] at e
    obtain ⟨rfl, rfl⟩ := e
    exact ⟨h2, .inl ⟨rfl, h3⟩⟩
  | cons x u =>
    simp only [List.cons_append, List.cons.injEq] at e
    obtain ⟨rfl, rfl⟩ := e
    exact ⟨h1 j (by simp), .inr ⟨u, i, rfl, fun y hy => h1 y (by simp [hy]), h2, h3⟩⟩
theorem Tells.of_cons {p : Pr} {j : Nat} {w : List Nat} (hj : j < B) (h : Tells dl df B (dl p j) w) : Tells dl df B p (j :: w) := by
  obtain ⟨u, i, rfl, h1, h2, h3⟩ := h
  exact ⟨j :: u, i, rfl, fun y hy => by
    rcases List.mem_cons.1 hy with rfl | hy
    · exact hj
    · exact h1 y hy, h2, h3⟩
theorem Tells.lets {p : Pr} {w : List Nat} (h : Tells dl df B p w) : ∀ i ∈ w, i < B := by
  obtain ⟨u, j, rfl, h1, h2, h3⟩ := h
  intro i hi
  rcases List.mem_append.1 hi with hi | hi
  · exact h1 i hi
  · rw [List.mem_singleton.1 hi]; exact h2
theorem Tells.pos {p : Pr} {w : List Nat} (h : Tells dl df B p w) : 1 ≤ w.length := by
  obtain ⟨u, j, rfl, _⟩ := h
  simp
def Least (p : Pr) (w : List Nat) : Prop := Tells dl df B p w ∧ ∀ w', Tells dl df B p w' → cod w ≤ cod w'
theorem Least.uniq (hB : B ≤ 17) {p : Pr} {w w' : List Nat} (h : Least dl df B p w) (h' : Least dl df B p w') : w = w' :=
  cod_inj w w' (fun i hi => by have := h.1.lets dl df B i hi; omega) (fun i hi => by have := h'.1.lets dl df B i hi; omega) (Nat.le_antisymm (h.2 w' h'.1) (h'.2 w h.1))

-- round by round
def Done (k i k' i' : Nat) : Prop := k' < k ∨ (k' = k ∧ i' < i)
structure Bfs (s : Pr) (Dom : Pr → Prop) (P : List Pr) (Ws : List (List Nat)) (k i : Nat) : Prop where
  len : Ws.length = P.length
  dif : P.Nodup
  dom : ∀ p ∈ P, Dom p
  p0 : P[0]? = some s
  w0 : Ws[0]? = some []
  reach : ∀ (b : Nat) (w : List Nat), Ws[b]? = some w → P[b]? = some (go dl s w) ∧ (∀ j ∈ w, j < B) ∧ w.length ≤ b
  sorted : ∀ (b b' : Nat) (w w' : List Nat), b < b' → Ws[b]? = some w → Ws[b']? = some w' → cod w < cod w'
  top : ∀ (b : Nat) (w wk : List Nat), Ws[b]? = some w → Ws[k]? = some wk → cod w < cod wk * 17 + i
  proc : ∀ (k' i' : Nat) (p : Pr) (w : List Nat), Done k i k' i' → i' < B → P[k']? = some p → Ws[k']? = some w → df p i' = false ∧ ∃ (b : Nat) (wb : List Nat), P[b]? = some (dl p i') ∧ Ws[b]? = some wb ∧ cod wb ≤ cod w * 17 + i'
theorem bfs0 {s : Pr} {Dom : Pr → Prop} (hs : Dom s) : Bfs dl df B s Dom [s] [[]] 0 0 := by
  refine ⟨rfl, by simp, fun p hp => by rw [List.mem_singleton.1 hp]; exact hs, rfl, rfl, fun b w hw => ?_, fun b b' w w' hlt hw hw' => ?_, fun b w wk hw hk => ?_, fun k' i' p w h => ?_⟩
  · have := get_lt hw
    have hb : b = 0 := by simpa using this
    subst hb
    cases hw
    exact ⟨rfl, fun j hj => (by cases hj), Nat.le_refl _⟩
  · have := get_lt hw'
    simp only [List.length_singleton] at this
    omega
  · have := get_lt hw
    have hb : b = 0 := by simpa using this
    subst hb
    cases hw
    cases hk
    decide
  · rcases h with h | ⟨_, h⟩ <;> omega
variable {dl df B}
theorem Bfs.old {s : Pr} {Dom : Pr → Prop} {P : List Pr} {Ws : List (List Nat)} {k i : Nat} (h : Bfs dl df B s Dom P Ws k i) {p : Pr} {w : List Nat} (hp : P[k]? = some p) (hw : Ws[k]? = some w) (hd : df p i = false) (hq : dl p i ∈ P) : Bfs dl df B s Dom P Ws k (i + 1) := by
  refine ⟨h.len, h.dif, h.dom, h.p0, h.w0, h.reach, h.sorted, fun b w' wk h1 h2 => by have := h.top b w' wk h1 h2; omega, fun k' i' p' w' hD hi hp' hw' => ?_⟩
  by_cases hold : Done k i k' i'
  · exact h.proc k' i' p' w' hold hi hp' hw'
  · have : k' = k ∧ i' = i := by unfold Done at hD hold; omega
    obtain ⟨rfl, rfl⟩ := this
    rw [hp] at hp'
    rw [hw] at hw'
    cases hp'
    cases hw'
    obtain ⟨b, hb⟩ := List.getElem?_of_mem hq
    have hbl : b < Ws.length := by rw [h.len]; exact get_lt hb
    have hwb := List.getElem?_eq_getElem hbl
    exact ⟨hd, b, _, hb, hwb, Nat.le_of_lt (h.top b _ _ hwb hw)⟩
theorem Bfs.new {s : Pr} {Dom : Pr → Prop} {P : List Pr} {Ws : List (List Nat)} {k i : Nat} (h : Bfs dl df B s Dom P Ws k i) (hdom : ∀ p i, Dom p → i < B → Dom (dl p i)) (hi : i < B) {p : Pr} {w : List Nat} (hp : P[k]? = some p) (hw : Ws[k]? = some w) (hd : df p i = false) (hq : dl p i ∉ P) : Bfs dl df B s Dom (P ++ [dl p i]) (Ws ++ [w ++ [i]]) k (i + 1) := by
  have hk := get_lt hp
  have hkw := get_lt hw
  have hlen := h.len
  have at1 : ∀ {b : Nat} {q : Pr}, P[b]? = some q → (P ++ [dl p i])[b]? = some q := fun hb => by rw [List.getElem?_append_left (get_lt hb)]; exact hb
  have at2 : ∀ {b : Nat} {q : List Nat}, Ws[b]? = some q → (Ws ++ [w ++ [i]])[b]? = some q := fun hb => by rw [List.getElem?_append_left (get_lt hb)]; exact hb
  have inv2 : ∀ {b : Nat} {q : List Nat}, (Ws ++ [w ++ [i]])[b]? = some q → Ws[b]? = some q ∨ (b = Ws.length ∧ q = w ++ [i]) := by
    intro b q hb
    by_cases hlt : b < Ws.length
    · rw [List.getElem?_append_left hlt] at hb; exact .inl hb
    · have := get_lt hb
      rw [List.length_append, List.length_singleton] at this
      have e : b = Ws.length := by omega
      subst e
      rw [List.getElem?_append_right (Nat.le_refl _), Nat.sub_self] at hb
      cases hb
      exact .inr ⟨rfl, rfl⟩
  obtain ⟨r1, r2, r3⟩ := h.reach k w hw
  have hgo : go dl s w = p := by rw [hp] at r1; exact (Option.some.inj r1).symm
  refine ⟨by rw [List.length_append, List.length_append, h.len]; rfl, ?_, fun q hq' => ?_, at1 h.p0, at2 h.w0, fun b q hb => ?_, fun b b' x x' hlt hb hb' => ?_, fun b x wk hb hk' => ?_, fun k' i' p' w' hD hi' hp' hw' => ?_⟩
  · rw [List.nodup_append]
    exact ⟨h.dif, by simp, fun a ha b hb => by rw [List.mem_singleton.1 hb]; exact fun e => hq (e ▸ ha)⟩
  · rcases List.mem_append.1 hq' with hq' | hq'
    · exact h.dom q hq'
    · rw [List.mem_singleton.1 hq']; exact hdom p i (h.dom p (get_mem hp)) hi
  · rcases inv2 hb with hb | ⟨rfl, rfl⟩
    · obtain ⟨a1, a2, a3⟩ := h.reach b q hb
      exact ⟨at1 a1, a2, a3⟩
    · refine ⟨?_, fun j hj => ?_, ?_⟩
      · rw [go_snoc, hgo, h.len, List.getElem?_append_right (Nat.le_refl _), Nat.sub_self]; rfl
      · rcases List.mem_append.1 hj with hj | hj
        · exact r2 j hj
        · rw [List.mem_singleton.1 hj]; exact hi
      · rw [List.length_append, List.length_singleton]; omega
  · rcases inv2 hb with hb | ⟨rfl, rfl⟩
    · rcases inv2 hb' with hb' | ⟨rfl, rfl⟩
      · exact h.sorted b b' x x' hlt hb hb'
      · rw [cod_snoc]; exact h.top b x w hb hw
    · have := get_lt hb'
      rw [List.length_append, List.length_singleton] at this
      omega
  · have hk2 : wk = w := by
      have := at2 hw
      rw [hk'] at this
      exact Option.some.inj this
    subst hk2
    rcases inv2 hb with hb | ⟨rfl, rfl⟩
    · have := h.top b x wk hb hw; omega
    · rw [cod_snoc]; omega
  · have hk'lt : k' < P.length := by unfold Done at hD; omega
    have hp'' : P[k']? = some p' := by rwa [List.getElem?_append_left hk'lt] at hp'
    have hw'' : Ws[k']? = some w' := by rwa [List.getElem?_append_left (by omega)] at hw'
    by_cases hold : Done k i k' i'
    · obtain ⟨a1, b, wb, a2, a3, a4⟩ := h.proc k' i' p' w' hold hi' hp'' hw''
      exact ⟨a1, b, wb, at1 a2, at2 a3, a4⟩
    · have : k' = k ∧ i' = i := by unfold Done at hD hold; omega
      obtain ⟨rfl, rfl⟩ := this
      rw [hp] at hp''
      rw [hw] at hw''
      cases hp''
      cases hw''
      refine ⟨hd, P.length, w ++ [i'], ?_, ?_, by rw [cod_snoc]; exact Nat.le_refl _⟩
      · rw [List.getElem?_append_right (Nat.le_refl _), Nat.sub_self]; rfl
      · rw [← h.len, List.getElem?_append_right (Nat.le_refl _), Nat.sub_self]; rfl
theorem Bfs.row {s : Pr} {Dom : Pr → Prop} {P : List Pr} {Ws : List (List Nat)} {k : Nat} (hB : B ≤ 16) (h : Bfs dl df B s Dom P Ws k B) : Bfs dl df B s Dom P Ws (k + 1) 0 := by
  refine ⟨h.len, h.dif, h.dom, h.p0, h.w0, h.reach, h.sorted, fun b w wk hb hk => ?_, fun k' i' p w hD hi hp hw => ?_⟩
  · have hk1 : k < Ws.length := by have := get_lt hk; omega
    have hwk := List.getElem?_eq_getElem hk1
    have h1 := h.top b w _ hb hwk
    have h2 := h.sorted k (k + 1) _ _ (by omega) hwk hk
    omega
  · refine h.proc k' i' p w ?_ hi hp hw
    unfold Done at hD ⊢
    omega
/-- a word's way: within what is done, or beyond -/
theorem Bfs.trace {s : Pr} {Dom : Pr → Prop} {P : List Pr} {Ws : List (List Nat)} {k i : Nat} (hB : B ≤ 16) (h : Bfs dl df B s Dom P Ws k i) (hi : i ≤ 16) : ∀ v : List Nat, (∀ j ∈ v, j < B) →
    (∃ (b : Nat) (w : List Nat), P[b]? = some (go dl s v) ∧ Ws[b]? = some w ∧ cod w ≤ cod v) ∨ (∃ wk : List Nat, Ws[k]? = some wk ∧ cod wk * 17 + i ≤ cod v) := by
  intro v
  refine snoc_ind (p := fun v => (∀ j ∈ v, j < B) → (∃ (b : Nat) (w : List Nat), P[b]? = some (go dl s v) ∧ Ws[b]? = some w ∧ cod w ≤ cod v) ∨ (∃ wk : List Nat, Ws[k]? = some wk ∧ cod wk * 17 + i ≤ cod v)) ?_ ?_ v
  · intro _
    exact .inl ⟨0, [], h.p0, h.w0, Nat.le_refl _⟩
  · intro v j ih hv
    have hj := hv j (by simp)
    rw [cod_snoc, go_snoc]
    rcases ih (fun x hx => hv x (by simp [hx])) with ⟨b, w, e1, e2, e3⟩ | ⟨wk, e1, e2⟩
    · by_cases hD : Done k i b j
      · obtain ⟨_, b2, wb, f1, f2, f3⟩ := h.proc b j _ w hD hj e1 e2
        exact .inl ⟨b2, wb, f1, f2, by omega⟩
      · right
        have hb := get_lt e2
        by_cases hbk : b = k
        · subst hbk
          exact ⟨w, e2, by unfold Done at hD; omega⟩
        · have hkb : k < b := by unfold Done at hD; omega
          have hk1 := List.getElem?_eq_getElem (show k < Ws.length by omega)
          have := h.sorted k b _ w hkb hk1 e2
          exact ⟨_, hk1, by omega⟩
    · exact .inr ⟨wk, e1, by omega⟩
theorem Bfs.found {s : Pr} {Dom : Pr → Prop} {P : List Pr} {Ws : List (List Nat)} {k i : Nat} (hB : B ≤ 16) (h : Bfs dl df B s Dom P Ws k i) (hi : i < B) {p : Pr} {w : List Nat} (hp : P[k]? = some p) (hw : Ws[k]? = some w) (hd : df p i = true) : Least dl df B s (w ++ [i]) := by
  obtain ⟨r1, r2, r3⟩ := h.reach k w hw
  have hgo : go dl s w = p := by rw [hp] at r1; exact (Option.some.inj r1).symm
  refine ⟨⟨w, i, rfl, r2, hi, by rw [hgo]; exact hd⟩, ?_⟩
  rintro w' ⟨u, j, rfl, h1, h2, h3⟩
  rw [cod_snoc, cod_snoc]
  rcases h.trace hB (by omega) u h1 with ⟨b, wb, e1, e2, e3⟩ | ⟨wk, e1, e2⟩
  · by_cases hD : Done k i b j
    · have := (h.proc b j _ wb hD h2 e1 e2).1
      rw [h3] at this
      cases this
    · have hb := get_lt e2
      by_cases hbk : b = k
      · subst hbk
        rw [hw] at e2
        cases e2
        unfold Done at hD
        omega
      · have hkb : k < b := by unfold Done at hD; omega
        have := h.sorted k b w wb hkb hw e2
        omega
  · rw [hw] at e1
    cases e1
    omega
theorem Bfs.none {s : Pr} {Dom : Pr → Prop} {P : List Pr} {Ws : List (List Nat)} {k : Nat} (hB : B ≤ 16) (h : Bfs dl df B s Dom P Ws k 0) (hk : P.length ≤ k) : ∀ w, ¬ Tells dl df B s w := by
  rintro w ⟨u, j, rfl, h1, h2, h3⟩
  rcases h.trace hB (by omega) u h1 with ⟨b, wb, e1, e2, e3⟩ | ⟨wk, e1, e2⟩
  · have := (h.proc b j _ wb (.inl (by have := get_lt e1; omega)) h2 e1 e2).1
    rw [h3] at this
    cases this
  · have := get_lt e1
    have := h.len
    omega
end
end Go.Proofs.Ytjbdhaenakcclaa.St

/- Shortest words that tell two machines apart: how far each pair is from a difference. No program in sight. -/
set_option linter.unusedVariables false
noncomputable section
namespace Go.Proofs.Ytjbdhaenakcclaa.St
open Go Go.Proofs.Ytjbdhaenakcclaa.Gp

def sumF (g : Pr → Nat) : List Pr → Nat
  | [] => 0
  | p :: l => g p + sumF g l
theorem sum_eq {g g' : Pr → Nat} : ∀ {l : List Pr}, (∀ x ∈ l, g' x = g x) → sumF g' l = sumF g l
  | [], _ => rfl
  | p :: l, h => by
    unfold sumF
    rw [h p (by simp), sum_eq (fun x hx => h x (by simp [hx]))]
theorem sum_upd {g g' : Pr → Nat} {p : Pr} (h : ∀ x, x ≠ p → g' x = g x) : ∀ {l : List Pr}, l.Nodup → p ∈ l → sumF g' l + g p = sumF g l + g' p
  | [], _, hp => by cases hp
  | x :: l, nd, hp => by
    rw [List.nodup_cons] at nd
    unfold sumF
    by_cases hx : x = p
    · subst hx
      rw [sum_eq (fun y hy => h y (fun e => nd.1 (e ▸ hy)))]
      omega
    · have ih := sum_upd h nd.2 ((List.mem_cons.1 hp).resolve_left (fun e => hx e.symm))
      rw [h x hx]
      omega
abbrev Fr := Pr → Option Nat
def nF : Option Nat → Nat | none => 1 | some _ => 0
def vF : Option Nat → Nat | none => 100 | some d => d
theorem nsum_le (F : Fr) : ∀ l : List Pr, sumF (fun x => nF (F x)) l ≤ l.length
  | [] => Nat.le_refl _
  | p :: l => by
    have := nsum_le F l
    have h : nF (F p) ≤ 1 := by cases F p <;> simp [nF]
    show nF (F p) + _ ≤ l.length + 1
    omega
def updF (F : Fr) (p : Pr) (d : Nat) : Fr := fun x => if x = p then some d else F x
theorem updF_same {F : Fr} {p : Pr} {d : Nat} : updF F p d p = some d := if_pos rfl
theorem updF_other {F : Fr} {p x : Pr} {d : Nat} (h : x ≠ p) : updF F p d x = F x := if_neg h
theorem first_ex (P : Nat → Bool) : ∀ (B : Nat), (∃ i, i < B ∧ P i = true) → ∃ i, i < B ∧ P i = true ∧ ∀ j, j < i → P j = false
  | 0, ⟨i, h, _⟩ => by omega
  | B + 1, ⟨i, h, hp⟩ => by
    by_cases hB : ∃ i, i < B ∧ P i = true
    · obtain ⟨i, h1, h2, h3⟩ := first_ex P B hB
      exact ⟨i, by omega, h2, h3⟩
    · have hi : i = B := by
        by_cases h2 : i < B
        · exact absurd ⟨i, h2, hp⟩ hB
        · omega
      subst hi
      refine ⟨i, by omega, hp, fun j hj => ?_⟩
      cases hpj : P j with
      | false => rfl
      | true => exact absurd ⟨j, hj, hpj⟩ hB
section
variable (dl : Pr → Nat → Pr) (df : Pr → Nat → Bool) (B : Nat)
structure Far (l : List Pr) (F : Fr) : Prop where
  keys : ∀ (p : Pr) (d : Nat), F p = some d → p ∈ l
  snd : ∀ (p : Pr) (d : Nat), F p = some d → ∃ w : List Nat, w.length = d ∧ Tells dl df B p w
  bnd : ∀ (p : Pr) (d : Nat), F p = some d → d + sumF (fun x => nF (F x)) l ≤ l.length
theorem far0 (l : List Pr) : Far dl df B l (fun _ => none) := ⟨fun p d h => (by cases h), fun p d h => (by cases h), fun p d h => (by cases h)⟩
/-- how far, by one letter -/
def cand (F : Fr) (p : Pr) (i : Nat) : Option Nat := if df p i = true then some 1 else (F (dl p i)).map (· + 1)
def Fix (l : List Pr) (F : Fr) : Prop := ∀ p ∈ l, ∀ i, i < B → ∀ d, cand dl df F p i = some d → ∃ o, F p = some o ∧ o ≤ d
variable {dl df B}
theorem Far.le {l : List Pr} {F : Fr} (h : Far dl df B l F) {p : Pr} {d : Nat} (hd : F p = some d) : d ≤ l.length := by have := h.bnd p d hd; omega
theorem Far.upd {l : List Pr} {F : Fr} (h : Far dl df B l F) (nd : l.Nodup) (hl : l.length ≤ 64) {p : Pr} (hp : p ∈ l) {i d : Nat} (hi : i < B) (hc : cand dl df F p i = some d) (hb : ∀ o, F p = some o → d < o) :
    Far dl df B l (updF F p d) ∧ sumF (fun x => vF (updF F p d x)) l < sumF (fun x => vF (F x)) l := by
  have en := sum_upd (g := fun x => nF (F x)) (g' := fun x => nF (updF F p d x)) (p := p) (fun x hx => by simp only [updF_other hx]) nd hp
  have ev := sum_upd (g := fun x => vF (F x)) (g' := fun x => vF (updF F p d x)) (p := p) (fun x hx => by simp only [updF_other hx]) nd hp
  simp only [updF_same] at en ev
  have n0 : nF (some d) = 0 := rfl
  have v0 : vF (some d) = d := rfl
  have nle := nsum_le F l
  -- the bound of the new one
  have hd1 : d + sumF (fun x => nF (updF F p d x)) l ≤ l.length := by
    cases hF : F p with
    | some o =>
      have := hb o hF
      have h2 := h.bnd p o hF
      rw [hF] at en
      have : nF (some o) = 0 := rfl
      omega
    | none =>
      rw [hF] at en
      have e1 : nF none = 1 := rfl
      unfold cand at hc
      split at hc
      · cases hc; omega
      · obtain ⟨e, he, rfl⟩ := Option.map_eq_some_iff.1 hc
        have := h.bnd _ e he
        omega
  refine ⟨⟨fun x e hx => ?_, fun x e hx => ?_, fun x e hx => ?_⟩, ?_⟩
  · by_cases hxp : x = p
    · rw [hxp]; exact hp
    · rw [updF_other hxp] at hx; exact h.keys x e hx
  · by_cases hxp : x = p
    · subst hxp
      rw [updF_same] at hx
      cases hx
      unfold cand at hc
      split at hc
      · rename_i hdf
        cases hc
        exact ⟨[i], rfl, [], i, rfl, fun j hj => (by cases hj), hi, hdf⟩
      · obtain ⟨e, he, rfl⟩ := Option.map_eq_some_iff.1 hc
        obtain ⟨w, h1, h2⟩ := h.snd _ e he
        exact ⟨i :: w, by rw [List.length_cons, h1], h2.of_cons dl df B hi⟩
    · rw [updF_other hxp] at hx; exact h.snd x e hx
  · by_cases hxp : x = p
    · subst hxp
      rw [updF_same] at hx
      cases hx
      exact hd1
    · rw [updF_other hxp] at hx
      have := h.bnd x e hx
      omega
  · cases hF : F p with
    | some o =>
      have := hb o hF
      rw [hF] at ev
      have : vF (some o) = o := rfl
      omega
    | none =>
      rw [hF] at ev
      have : vF none = 100 := rfl
      omega
theorem far_min {l : List Pr} {F : Fr} (hx : Fix dl df B l F) (hcl : ∀ p ∈ l, ∀ i, i < B → dl p i ∈ l) : ∀ (w : List Nat) (p : Pr), p ∈ l → Tells dl df B p w → ∃ d, F p = some d ∧ d ≤ w.length
  | [], p, hp, ht => by have := ht.pos dl df B; simp at this
  | j :: w, p, hp, ht => by
    obtain ⟨hj, h⟩ := ht.cons dl df B
    by_cases hdf : df p j = true
    · obtain ⟨o, h1, h2⟩ := hx p hp j hj 1 (if_pos hdf)
      exact ⟨o, h1, by rw [List.length_cons]; omega⟩
    · rcases h with ⟨_, h⟩ | h
      · exact absurd h hdf
      · obtain ⟨e, e1, e2⟩ := far_min hx hcl w (dl p j) (hcl p hp j hj) h
        obtain ⟨o, h1, h2⟩ := hx p hp j hj (e + 1) (by unfold cand; rw [if_neg hdf, e1]; rfl)
        exact ⟨o, h1, by rw [List.length_cons]; omega⟩
theorem far_none {l : List Pr} {F : Fr} (hx : Fix dl df B l F) (hcl : ∀ p ∈ l, ∀ i, i < B → dl p i ∈ l) {p : Pr} (hp : p ∈ l) (h : F p = none) : ∀ w, ¬ Tells dl df B p w := fun w ht => by
  obtain ⟨d, h1, _⟩ := far_min hx hcl w p hp ht
  rw [h] at h1
  cases h1
/-- the next letter of the way out -/
theorem far_one {l : List Pr} {F : Fr} (h : Far dl df B l F) {p : Pr} (hF : F p = some 1) : ∃ i, i < B ∧ df p i = true ∧ ∀ j, j < i → df p j = false := by
  obtain ⟨w, h1, h2⟩ := h.snd p 1 hF
  obtain ⟨j, rfl⟩ := List.length_eq_one_iff.1 h1
  obtain ⟨hj, h3⟩ := h2.cons dl df B
  rcases h3 with ⟨_, h3⟩ | h3
  · exact first_ex (df p) B ⟨j, hj, h3⟩
  · have := h3.pos dl df B; simp at this
theorem far_more {l : List Pr} {F : Fr} (h : Far dl df B l F) (hx : Fix dl df B l F) (hcl : ∀ p ∈ l, ∀ i, i < B → dl p i ∈ l) {p : Pr} {d : Nat} (hp : p ∈ l) (hF : F p = some (d + 2)) : (∀ i, i < B → df p i = false) ∧ ∃ i, i < B ∧ F (dl p i) = some (d + 1) ∧ ∀ j, j < i → F (dl p j) ≠ some (d + 1) := by
  have h0 : ∀ i, i < B → df p i = false := by
    intro i hi
    cases hdf : df p i with
    | false => rfl
    | true =>
      obtain ⟨o, h1, h2⟩ := hx p hp i hi 1 (if_pos hdf)
      rw [hF] at h1
      cases h1
      omega
  refine ⟨h0, ?_⟩
  obtain ⟨w, h1, h2⟩ := h.snd p (d + 2) hF
  cases w with
  | nil => simp at h1
  | cons j w =>
    obtain ⟨hj, h3⟩ := h2.cons dl df B
    rcases h3 with ⟨_, h3⟩ | h3
    · rw [h0 j hj] at h3; cases h3
    · obtain ⟨e, e1, e2⟩ := far_min hx hcl w (dl p j) (hcl p hp j hj) h3
      obtain ⟨o, g1, g2⟩ := hx p hp j hj (e + 1) (by unfold cand; rw [if_neg (by rw [h0 j hj]; decide), e1]; rfl)
      rw [hF] at g1
      cases g1
      have he : e = d + 1 := by simp only [List.length_cons] at h1; omega
      subst he
      obtain ⟨i, i1, i2, i3⟩ := first_ex (fun i => decide (F (dl p i) = some (d + 1))) B ⟨j, hj, decide_eq_true e1⟩
      exact ⟨i, i1, of_decide_eq_true i2, fun j hj => of_decide_eq_false (i3 j hj)⟩
/-- the least word of a length -/
def Best (p : Pr) (d : Nat) (w : List Nat) : Prop := w.length = d ∧ Tells dl df B p w ∧ ∀ w', w'.length = d → Tells dl df B p w' → vl w ≤ vl w'
theorem best_one {p : Pr} {i : Nat} (hi : i < B) (hd : df p i = true) (hf : ∀ j, j < i → df p j = false) : Best (dl := dl) (df := df) (B := B) p 1 [i] := by
  refine ⟨rfl, ⟨[], i, rfl, fun j hj => (by cases hj), hi, hd⟩, fun w' h1 h2 => ?_⟩
  obtain ⟨j, rfl⟩ := List.length_eq_one_iff.1 h1
  obtain ⟨hj, h3⟩ := h2.cons dl df B
  rcases h3 with ⟨_, h3⟩ | h3
  · rw [vl_cons, vl_cons]
    have : i ≤ j := by
      by_cases hij : j < i
      · rw [hf j hij] at h3; cases h3
      · omega
    simp only [List.length_nil, Nat.pow_zero, Nat.mul_one]
    omega
  · have := h3.pos dl df B; simp at this
theorem best_more (hB : B ≤ 16) {l : List Pr} {F : Fr} (h : Far dl df B l F) (hx : Fix dl df B l F) (hcl : ∀ p ∈ l, ∀ i, i < B → dl p i ∈ l) {p : Pr} {d i : Nat} {w : List Nat} (hp : p ∈ l) (hF : F p = some (d + 2)) (hi : i < B) (h0 : ∀ i, i < B → df p i = false) (hf : ∀ j, j < i → F (dl p j) ≠ some (d + 1)) (hw : Best (dl := dl) (df := df) (B := B) (dl p i) (d + 1) w) : Best (dl := dl) (df := df) (B := B) p (d + 2) (i :: w) := by
  obtain ⟨w1, w2, w3⟩ := hw
  refine ⟨by rw [List.length_cons, w1], w2.of_cons dl df B hi, fun w' h1 h2 => ?_⟩
  cases w' with
  | nil => simp at h1
  | cons j r =>
    have hr : r.length = d + 1 := by simpa using h1
    obtain ⟨hj, h3⟩ := h2.cons dl df B
    rcases h3 with ⟨_, h3⟩ | h3
    · rw [h0 j hj] at h3; cases h3
    rw [vl_cons, vl_cons, w1, hr]
    by_cases hij : j = i
    · subst hij
      have := w3 r hr h3
      omega
    · have hlt : i < j := by
        by_cases hji : j < i
        · exfalso
          obtain ⟨e, e1, e2⟩ := far_min hx hcl r (dl p j) (hcl p hp j hj) h3
          obtain ⟨o, g1, g2⟩ := hx p hp j hj (e + 1) (by unfold cand; rw [if_neg (by rw [h0 j hj]; decide), e1]; rfl)
          rw [hF] at g1
          cases g1
          have he : e = d + 1 := by omega
          subst he
          exact hf j hji e1
        · omega
      have hv := vl_lt w (fun x hx' => by have := w2.lets dl df B x hx'; omega)
      rw [w1] at hv
      have : (i + 1) * 17 ^ (d + 1) ≤ j * 17 ^ (d + 1) := Nat.mul_le_mul_right _ hlt
      rw [Nat.add_mul, Nat.one_mul] at this
      omega
theorem best_least (hB : B ≤ 16) {l : List Pr} {F : Fr} (h : Far dl df B l F) (hx : Fix dl df B l F) (hcl : ∀ p ∈ l, ∀ i, i < B → dl p i ∈ l) {p : Pr} {d : Nat} {w : List Nat} (hp : p ∈ l) (hF : F p = some d) (hw : Best (dl := dl) (df := df) (B := B) p d w) : Least dl df B p w := by
  obtain ⟨w1, w2, w3⟩ := hw
  refine ⟨w2, fun w' ht => ?_⟩
  obtain ⟨e, e1, e2⟩ := far_min hx hcl w' p hp ht
  rw [hF] at e1
  cases e1
  by_cases he : w'.length = d
  · have := w3 w' he ht
    rw [cod_vl, cod_vl, w1, he]
    omega
  · exact Nat.le_of_lt (cod_len (fun x hx' => by have := w2.lets dl df B x hx'; omega) (by omega))
end
end Go.Proofs.Ytjbdhaenakcclaa.St

/- Go functions as plain Lean functions, and their contracts. -/
set_option linter.unusedVariables false
set_option maxRecDepth 100000
noncomputable section
namespace Go.Proofs.Ytjbdhaenakcclaa.St
open Go Go.Proofs.Ytjbdhaenakcclaa.Gp
def Table56.l0 (k : Nat) (t42 : Int) : ((Int × ((List (Int × (Int × (Int × (Int × Int))))) × ((List Int) × ((List Int) × (List Int))))) × (Unit × (Unit × (Unit × (Unit × (Unit × (Int × ((Int × (Int × Unit)) × ((List (List (Int × Int))) × ((Int × (Int × Unit)) × ((List (List (Int × Int))) × ((List (Int × Int)) × ((List Int) × (List (Int × Int))))))))))))))) → Option (((Int × ((List (Int × (Int × (Int × (Int × Int))))) × ((List Int) × ((List Int) × (List Int))))) × (Unit × (Unit × (Unit × (Unit × (Unit × (Int × ((Int × (Int × Unit)) × ((List (List (Int × Int))) × ((Int × (Int × Unit)) × ((List (List (Int × Int))) × ((List (Int × Int)) × ((List Int) × (List (Int × Int))))))))))))))) ⊕ ((Int × ((List (Int × (Int × (Int × (Int × Int))))) × ((List Int) × ((List Int) × (List Int))))) × (Unit × (Unit × (Unit × (Unit × (Unit × ((Int × (Int × Unit)) × ((List (List (Int × Int))) × ((Int × (Int × Unit)) × ((List (List (Int × Int))) × ((List (Int × Int)) × ((List Int) × (List (Int × Int)))))))))))))))
  | (c_2, _, _, _, _, _, t43, o0_1, o1_1, o2_1, o3_1, o4_1, o5_1, o7) =>
    cond (decide (t43 < t42))
      ((rd o5_1 0).bind fun _ =>
      (rd o5_1 0).bind fun t50 =>
      (Step16 k c_2 t50 t43).bind fun t52 =>
      let t58 : (Option Int) := (mget (.int .i64) (.int .i64) o4_1 t52.1.2.1)
      Option.bind
        (cond (!(Option.isSome t58))
          ((if room (List.length o5_1 + List.length ([t52.1.2.1] : List Int)) 8 then some () else none).bind fun _ =>
          some (c_2, (), (), (), (), (), (List.length o4_1 : Int), o0_1, o1_1, o2_1, o3_1, (mput (.int .i64) (.int .i64) o4_1 t52.1.2.1 (List.length o4_1 : Int)), (o5_1 ++ ([t52.1.2.1] : List Int)), o7))
          (some (c_2, (), (), (), (), (), (Option.getD (α := Int) t58 (0 : Int)), o0_1, o1_1, o2_1, o3_1, o4_1, o5_1, o7)) : Option ((Int × ((List (Int × (Int × (Int × (Int × Int))))) × ((List Int) × ((List Int) × (List Int))))) × (Unit × (Unit × (Unit × (Unit × (Unit × (Int × ((Int × (Int × Unit)) × ((List (List (Int × Int))) × ((Int × (Int × Unit)) × ((List (List (Int × Int))) × ((List (Int × Int)) × ((List Int) × (List (Int × Int)))))))))))))))) fun ((c_3, _, _, _, _, _, k_, o0_2, o1_2, o2_2, o3_2, o4_2, o5_2, o7_1) : ((Int × ((List (Int × (Int × (Int × (Int × Int))))) × ((List Int) × ((List Int) × (List Int))))) × (Unit × (Unit × (Unit × (Unit × (Unit × (Int × ((Int × (Int × Unit)) × ((List (List (Int × Int))) × ((Int × (Int × Unit)) × ((List (List (Int × Int))) × ((List (Int × Int)) × ((List Int) × (List (Int × Int)))))))))))))))) =>
      (if room (List.length o7_1 + List.length [(t52.1.1, k_)]) 16 then some () else none).bind fun _ =>
      some (Sum.inl (c_3, (), (), (), (), (), (w64 (t43 + 1)), o0_2, o1_2, o2_2, o3_2, o4_2, o5_2, (o7_1 ++ [(t52.1.1, k_)]))))
      (some (Sum.inr (c_2, (), (), (), (), (), o0_1, o1_1, o2_1, o3_1, o4_1, o5_1, o7)))
def Table56.l1 (k : Nat) : ((Int × ((List (Int × (Int × (Int × (Int × Int))))) × ((List Int) × ((List Int) × (List Int))))) × (Unit × (Unit × (Unit × (Unit × ((Int × (Int × Unit)) × ((List (List (Int × Int))) × ((Int × (Int × Unit)) × ((List (List (Int × Int))) × ((List (Int × Int)) × (List Int))))))))))) → Option (((Int × ((List (Int × (Int × (Int × (Int × Int))))) × ((List Int) × ((List Int) × (List Int))))) × (Unit × (Unit × (Unit × (Unit × ((Int × (Int × Unit)) × ((List (List (Int × Int))) × ((Int × (Int × Unit)) × ((List (List (Int × Int))) × ((List (Int × Int)) × (List Int))))))))))) ⊕ ((Unit × (Unit × ((Int × (Int × Unit)) × ((List (List (Int × Int))) × ((Int × (Int × Unit)) × (List (List (Int × Int)))))))) ⊕ (((Int × (Int × (List (List (Int × Int))))) × (Int × Unit)) × Unit)))
  | (c_1, _, _, _, _, o0, o1, o2, o3, o4, o5) =>
    cond (decide ((List.length o5 : Int) > 0))
      ((if c_1.1 < 0 then none else some (shlI .i64 1 c_1.1)).bind fun t42 =>
      Option.bind
        (loopN (Table56.l0 k t42) k (c_1, (), (), (), (), (), 0, o0, o1, o2, o3, o4, o5, []) : Option ((Int × ((List (Int × (Int × (Int × (Int × Int))))) × ((List Int) × ((List Int) × (List Int))))) × (Unit × (Unit × (Unit × (Unit × (Unit × ((Int × (Int × Unit)) × ((List (List (Int × Int))) × ((Int × (Int × Unit)) × ((List (List (Int × Int))) × ((List (Int × Int)) × ((List Int) × (List (Int × Int))))))))))))))) fun ((c_4, _, _, _, _, _, o0_3, o1_3, o2_3, o3_3, o4_3, o5_3, o7_2) : ((Int × ((List (Int × (Int × (Int × (Int × Int))))) × ((List Int) × ((List Int) × (List Int))))) × (Unit × (Unit × (Unit × (Unit × (Unit × ((Int × (Int × Unit)) × ((List (List (Int × Int))) × ((Int × (Int × Unit)) × ((List (List (Int × Int))) × ((List (Int × Int)) × ((List Int) × (List (Int × Int))))))))))))))) =>
      (if room (List.length o3_3 + List.length [o7_2]) 24 then some () else none).bind fun _ =>
      (slc o5_3 1 (List.length o5_3 : Int)).bind fun t86 =>
      cond (decide ((List.length o4_3 : Int) > 64))
        (some (Sum.inr (Sum.inr (((0, 0, []), 6, ()), ()))))
        (some (Sum.inl (c_4, (), (), (), (), o0_3, o1_3, (o2_3.1, o2_3.2.1, o2_3.2.2), (o3_3 ++ [o7_2]), o4_3, t86))))
      (some (Sum.inr (Sum.inl ((), (), o0, o1, o2, o3))))
def Table56 (k : Nat) (c : (Int × ((List (Int × (Int × (Int × (Int × Int))))) × ((List Int) × ((List Int) × (List Int)))))) : Option (((Int × (Int × (List (List (Int × Int))))) × (Int × Unit)) × Unit) :=
  (Check18 k c).bind fun t15 =>
  cond (t15.1 != 0)
    (some (((0, 0, []), t15.1, ()), ()))
    (cond (decide (c.1 > 4))
      (some (((0, 0, []), 2, ()), ()))
      ((Start80 k c).bind fun t32 =>
      (Start80 k c).bind fun t35 =>
      Option.bind
        (loopN (Table56.l1 k) k (c, (), (), (), (), (0, 0, ()), [], (c.1, (List.length c.2.2.1 : Int), ()), [], (mput (.int .i64) (.int .i64) ([] : (List (Int × Int))) t32.1 (0 : Int)), ([t35.1] : List Int)) : Option ((Unit × (Unit × ((Int × (Int × Unit)) × ((List (List (Int × Int))) × ((Int × (Int × Unit)) × (List (List (Int × Int)))))))) ⊕ (((Int × (Int × (List (List (Int × Int))))) × (Int × Unit)) × Unit))) (joined fun ((_, _, _, _, o2_4, o3_4) : (Unit × (Unit × ((Int × (Int × Unit)) × ((List (List (Int × Int))) × ((Int × (Int × Unit)) × (List (List (Int × Int))))))))) =>
        some (((o2_4.1, o2_4.2.1, o3_4), 0, ()), ()))))
def Table56.A : Ann := { conds := [(4063249, ⟨[(1, .fp (.st (.pair (.int .i64) (.pair (.sl (.st (.pair (.int .i64) (.pair (.int .i64) (.pair (.int .i64) (.pair (.int .i64) (.int .i64))))))) (.pair (.sl (.int .i64)) (.pair (.sl (.int .i64)) (.sl (.int .i64)))))))), (2, .ptr 0 []), (5, .ptr 2 []), (6, .mm 4), (7, .ms 5), (8, .ms 7), (12, .int .i64)], [(0, .var (.st (.pair (.int .i64) (.pair (.int .i64) (.ms 1))))), (1, .row (.sl (.st (.pair (.int .i64) (.int .i64))))), (2, .var (.st (.pair (.int .i64) (.pair (.int .i64) (.ms 3))))), (3, .row (.sl (.st (.pair (.int .i64) (.int .i64))))), (4, .map (.int .i64) (.int .i64)), (5, .row (.int .i64)), (7, .row (.st (.pair (.int .i64) (.int .i64))))], 8, [], 4713143110832790442112⟩)], blocks := [(0, ⟨[(2, .ptr 0 []), (5, .ptr 2 [])], [(0, .var (.st (.pair (.int .i64) (.pair (.int .i64) (.ms 1))))), (1, .row (.sl (.st (.pair (.int .i64) (.int .i64))))), (2, .var (.st (.pair (.int .i64) (.pair (.int .i64) (.ms 3))))), (3, .row (.sl (.st (.pair (.int .i64) (.int .i64)))))], 4, [], 2475880078570760412359311240⟩), (2, ⟨[(1, .fp (.st (.pair (.int .i64) (.pair (.sl (.st (.pair (.int .i64) (.pair (.int .i64) (.pair (.int .i64) (.pair (.int .i64) (.int .i64))))))) (.pair (.sl (.int .i64)) (.pair (.sl (.int .i64)) (.sl (.int .i64)))))))), (2, .ptr 0 []), (5, .ptr 2 []), (6, .mm 4), (7, .ms 5), (8, .ms 7)], [(0, .var (.st (.pair (.int .i64) (.pair (.int .i64) (.ms 1))))), (1, .row (.sl (.st (.pair (.int .i64) (.int .i64))))), (2, .var (.st (.pair (.int .i64) (.pair (.int .i64) (.ms 3))))), (3, .row (.sl (.st (.pair (.int .i64) (.int .i64))))), (4, .map (.int .i64) (.int .i64)), (5, .row (.int .i64)), (7, .row (.st (.pair (.int .i64) (.int .i64))))], 8, [], 604462909798518494347136⟩)], loops := [(9, ⟨[(1, .fp (.st (.pair (.int .i64) (.pair (.sl (.st (.pair (.int .i64) (.pair (.int .i64) (.pair (.int .i64) (.pair (.int .i64) (.int .i64))))))) (.pair (.sl (.int .i64)) (.pair (.sl (.int .i64)) (.sl (.int .i64)))))))), (2, .ptr 0 []), (5, .ptr 2 []), (6, .mm 4), (7, .ms 5)], [(0, .var (.st (.pair (.int .i64) (.pair (.int .i64) (.ms 1))))), (1, .row (.sl (.st (.pair (.int .i64) (.int .i64))))), (2, .var (.st (.pair (.int .i64) (.pair (.int .i64) (.ms 3))))), (3, .row (.sl (.st (.pair (.int .i64) (.int .i64))))), (4, .map (.int .i64) (.int .i64)), (5, .row (.int .i64))], 6, [], 2475880078570760412359311240⟩), (12, ⟨[(1, .fp (.st (.pair (.int .i64) (.pair (.sl (.st (.pair (.int .i64) (.pair (.int .i64) (.pair (.int .i64) (.pair (.int .i64) (.int .i64))))))) (.pair (.sl (.int .i64)) (.pair (.sl (.int .i64)) (.sl (.int .i64)))))))), (2, .ptr 0 []), (5, .ptr 2 []), (6, .mm 4), (7, .ms 5), (8, .ms 7), (43, .int .i64)], [(0, .var (.st (.pair (.int .i64) (.pair (.int .i64) (.ms 1))))), (1, .row (.sl (.st (.pair (.int .i64) (.int .i64))))), (2, .var (.st (.pair (.int .i64) (.pair (.int .i64) (.ms 3))))), (3, .row (.sl (.st (.pair (.int .i64) (.int .i64))))), (4, .map (.int .i64) (.int .i64)), (5, .row (.int .i64)), (7, .row (.st (.pair (.int .i64) (.int .i64))))], 8, [(7, .st (.pair (.int .i64) (.int .i64)))], 604462909798518494347136⟩)], keeps := [1], orders := [(14, [(0, .strong), (1, .strong), (2, .strong), (3, .strong), (4, .strong), (5, .eff true), (6, .strong), (7, .strong), (8, .strong), (9, .strong), (10, .strong)])], turns := [(0, [⟨0, [(1, .sl (.st (.pair (.int .i64) (.int .i64))))], .st (.pair (.int .i64) (.pair (.int .i64) (.ms 1)))⟩]), (6, [⟨2, [(3, .sl (.st (.pair (.int .i64) (.int .i64))))], .st (.pair (.int .i64) (.pair (.int .i64) (.ms 3)))⟩])] }
def Table56.S : Sig := { f := 56, params := [.st (.pair (.int .i64) (.pair (.sl (.st (.pair (.int .i64) (.pair (.int .i64) (.pair (.int .i64) (.pair (.int .i64) (.int .i64))))))) (.pair (.sl (.int .i64)) (.pair (.sl (.int .i64)) (.sl (.int .i64))))))], objs := [], res := .tup (.pair (.st (.pair (.int .i64) (.pair (.int .i64) (.sl (.sl (.st (.pair (.int .i64) (.int .i64)))))))) (.pair (.int .i64) .unit)), outs := [], fix := [], run := fun k ds os => Table56 k ds }
def Table56.G : List Sig := [Check18.S, Start80.S, Step16.S]
theorem Table56.eq (k : Nat) : ∀ ds os, Table56.S.run k ds os = runF ⟨types, Table56.G, Table56.A, k, 0, []⟩ Try.f56 (codeOf Try.f56) Table56.S.params Table56.S.objs Table56.S.res Table56.S.outs ds os := by
  intro ds os; kernel_rfl
theorem Table56.dr : DrOk Try.prog Table56.A (codeOf Try.f56) := ⟨by kernel_rfl, by kernel_rfl⟩
theorem Table56.ok (k : Nat) : SoundAt Try.prog k Table56.S :=
  runF_sound (X := ⟨types, Table56.G, Table56.A, k, 0, []⟩) types_ok (mem_all (⟨Check18.ok k, ⟨Start80.ok k, ⟨Step16.ok k, trivial⟩⟩⟩)) (fn := Try.f56) (c := codeOf Try.f56) rfl (by kernel_rfl) rfl rfl Table56.dr (Table56.eq k)
end Go.Proofs.Ytjbdhaenakcclaa.St

/- Go functions as plain Lean functions, and their contracts. -/
set_option linter.unusedVariables false
set_option maxRecDepth 100000
noncomputable section
namespace Go.Proofs.Ytjbdhaenakcclaa.St
open Go Go.Proofs.Ytjbdhaenakcclaa.Gp
def SynthTables11.l0 (k : Nat) (k_ : Int) (t68 : Int) : ((Int × ((List (Int × (Int × (Int × (Int × Int))))) × ((List Int) × ((List Int) × (List Int))))) × ((Int × (Int × (List (List (Int × Int))))) × (Unit × (Unit × (Unit × (Int × ((List Int) × ((Int × (Int × Unit)) × ((List (List (Int × Int))) × (List (Int × Int))))))))))) → Option (((Int × ((List (Int × (Int × (Int × (Int × Int))))) × ((List Int) × ((List Int) × (List Int))))) × ((Int × (Int × (List (List (Int × Int))))) × (Unit × (Unit × (Unit × (Int × ((List Int) × ((Int × (Int × Unit)) × ((List (List (Int × Int))) × (List (Int × Int))))))))))) ⊕ ((Int × ((List (Int × (Int × (Int × (Int × Int))))) × ((List Int) × ((List Int) × (List Int))))) × ((Int × (Int × (List (List (Int × Int))))) × (Unit × (Unit × (Unit × ((List Int) × ((Int × (Int × Unit)) × ((List (List (Int × Int))) × (List (Int × Int)))))))))))
  | (c_3, t_2, _, _, _, t69, o0_1, o1_1, o2_1, o4) =>
    cond (decide (t69 < t68))
      ((rd o0_1 k_).bind fun _ =>
      (rd o0_1 k_).bind fun t77 =>
      (Stepped20 k c_3 t77 t69).bind fun t79 =>
      (Index57 k o0_1 t79.1.2.1).bind fun t84 =>
      Option.bind
        (cond (decide (t84.1 < 0))
          ((if room (List.length o0_1 + List.length ([t79.1.2.1] : List Int)) 8 then some () else none).bind fun _ =>
          some (c_3, t_2, (), (), (), (List.length o0_1 : Int), (o0_1 ++ ([t79.1.2.1] : List Int)), o1_1, o2_1, o4))
          (some (c_3, t_2, (), (), (), t84.1, o0_1, o1_1, o2_1, o4)) : Option ((Int × ((List (Int × (Int × (Int × (Int × Int))))) × ((List Int) × ((List Int) × (List Int))))) × ((Int × (Int × (List (List (Int × Int))))) × (Unit × (Unit × (Unit × (Int × ((List Int) × ((Int × (Int × Unit)) × ((List (List (Int × Int))) × (List (Int × Int)))))))))))) fun ((c_4, t_3, _, _, _, n, o0_2, o1_2, o2_2, o4_1) : ((Int × ((List (Int × (Int × (Int × (Int × Int))))) × ((List Int) × ((List Int) × (List Int))))) × ((Int × (Int × (List (List (Int × Int))))) × (Unit × (Unit × (Unit × (Int × ((List Int) × ((Int × (Int × Unit)) × ((List (List (Int × Int))) × (List (Int × Int)))))))))))) =>
      (if room (List.length o4_1 + List.length [(t79.1.1, n)]) 16 then some () else none).bind fun _ =>
      some (Sum.inl (c_4, t_3, (), (), (), (w64 (t69 + 1)), o0_2, o1_2, o2_2, (o4_1 ++ [(t79.1.1, n)]))))
      (some (Sum.inr (c_3, t_2, (), (), (), o0_1, o1_1, o2_1, o4)))
def SynthTables11.l1 (k : Nat) : ((Int × ((List (Int × (Int × (Int × (Int × Int))))) × ((List Int) × ((List Int) × (List Int))))) × ((Int × (Int × (List (List (Int × Int))))) × (Unit × (Unit × (Int × ((List Int) × ((Int × (Int × Unit)) × (List (List (Int × Int)))))))))) → Option (((Int × ((List (Int × (Int × (Int × (Int × Int))))) × ((List Int) × ((List Int) × (List Int))))) × ((Int × (Int × (List (List (Int × Int))))) × (Unit × (Unit × (Int × ((List Int) × ((Int × (Int × Unit)) × (List (List (Int × Int)))))))))) ⊕ ((Int × (Int × (List (List (Int × Int))))) × (Unit × (Unit × ((List Int) × ((Int × (Int × Unit)) × (List (List (Int × Int)))))))))
  | (c_2, t_1, _, _, k_, o0, o1, o2) =>
    cond (cond (decide (k_ < (List.length o0 : Int))) (decide ((List.length o0 : Int) ≤ 64)) false)
      ((if c_2.1 < 0 then none else some (shlI .i64 1 c_2.1)).bind fun t68 =>
      Option.bind
        (loopN (SynthTables11.l0 k k_ t68) k (c_2, t_1, (), (), (), 0, o0, o1, o2, []) : Option ((Int × ((List (Int × (Int × (Int × (Int × Int))))) × ((List Int) × ((List Int) × (List Int))))) × ((Int × (Int × (List (List (Int × Int))))) × (Unit × (Unit × (Unit × ((List Int) × ((Int × (Int × Unit)) × ((List (List (Int × Int))) × (List (Int × Int))))))))))) fun ((c_5, t_4, _, _, _, o0_3, o1_3, o2_3, o4_2) : ((Int × ((List (Int × (Int × (Int × (Int × Int))))) × ((List Int) × ((List Int) × (List Int))))) × ((Int × (Int × (List (List (Int × Int))))) × (Unit × (Unit × (Unit × ((List Int) × ((Int × (Int × Unit)) × ((List (List (Int × Int))) × (List (Int × Int))))))))))) =>
      (if room (List.length o2_3 + List.length [o4_2]) 24 then some () else none).bind fun _ =>
      some (Sum.inl (c_5, t_4, (), (), (w64 (k_ + 1)), o0_3, (o1_3.1, o1_3.2.1, o1_3.2.2), (o2_3 ++ [o4_2]))))
      (some (Sum.inr (t_1, (), (), o0, o1, o2)))
def SynthTables11 (k : Nat) (c : (Int × ((List (Int × (Int × (Int × (Int × Int))))) × ((List Int) × ((List Int) × (List Int)))))) : Option (Bool × Unit) :=
  (Table56 k c).bind fun t16 =>
  (CircuitFault14 k c).bind fun t20 =>
  Option.bind
    (cond (cond (t20.1 == 0) (decide (c.1 > 4)) false)
      (some (c, t16.1.1, 2))
      (some (c, t16.1.1, t20.1)) : Option ((Int × ((List (Int × (Int × (Int × (Int × Int))))) × ((List Int) × ((List Int) × (List Int))))) × ((Int × (Int × (List (List (Int × Int))))) × Int))) fun ((c_1, t, f) : ((Int × ((List (Int × (Int × (Int × (Int × Int))))) × ((List Int) × ((List Int) × (List Int))))) × ((Int × (Int × (List (List (Int × Int))))) × Int))) =>
  (built55 k).bind fun t28 =>
  cond (cond (!t28.1) true (f != 0))
    ((built55 k).bind fun t34 =>
    some ((cond (cond t34.1 (t16.1.2.1 == f) false) ((List.length t.2.2 : Int) == 0) false), ()))
    ((First37 k c_1).bind fun t47 =>
    Option.bind
      (loopN (SynthTables11.l1 k) k (c_1, t, (), (), 0, ([t47.1] : List Int), (c_1.1, (List.length c_1.2.2.1 : Int), ()), []) : Option ((Int × (Int × (List (List (Int × Int))))) × (Unit × (Unit × ((List Int) × ((Int × (Int × Unit)) × (List (List (Int × Int))))))))) fun ((t_5, _, _, o0_4, o1_4, o2_4) : ((Int × (Int × (List (List (Int × Int))))) × (Unit × (Unit × ((List Int) × ((Int × (Int × Unit)) × (List (List (Int × Int))))))))) =>
    cond (decide ((List.length o0_4 : Int) > 64))
      (some ((cond (t16.1.2.1 == 6) ((List.length t_5.2.2 : Int) == 0) false), ()))
      (Option.bind (cond (t16.1.2.1 == 0)
        ((sameTable45 k t_5 (o1_4.1, o1_4.2.1, o2_4)).bind fun t122 =>
        some t122.1)
        (some false)) fun t123 =>
      some (t123, ())))
def SynthTables11.A : Ann := { conds := [(1769476, ⟨[(1, .fp (.st (.pair (.int .i64) (.pair (.sl (.st (.pair (.int .i64) (.pair (.int .i64) (.pair (.int .i64) (.pair (.int .i64) (.int .i64))))))) (.pair (.sl (.int .i64)) (.pair (.sl (.int .i64)) (.sl (.int .i64)))))))), (3, .fp (.st (.pair (.int .i64) (.pair (.int .i64) (.sl (.sl (.st (.pair (.int .i64) (.int .i64))))))))), (5, .int .i64)], [], 0, [], 32⟩), (5636115, ⟨[(1, .fp (.st (.pair (.int .i64) (.pair (.sl (.st (.pair (.int .i64) (.pair (.int .i64) (.pair (.int .i64) (.pair (.int .i64) (.int .i64))))))) (.pair (.sl (.int .i64)) (.pair (.sl (.int .i64)) (.sl (.int .i64)))))))), (3, .fp (.st (.pair (.int .i64) (.pair (.int .i64) (.sl (.sl (.st (.pair (.int .i64) (.int .i64))))))))), (6, .ms 0), (7, .ptr 1 []), (9, .ms 4), (13, .int .i64)], [(0, .row (.int .i64)), (1, .var (.st (.pair (.int .i64) (.pair (.int .i64) (.ms 2))))), (2, .row (.sl (.st (.pair (.int .i64) (.int .i64))))), (4, .row (.st (.pair (.int .i64) (.int .i64))))], 5, [], 9748777809372369664830611520⟩)], blocks := [(0, ⟨[(3, .fp (.st (.pair (.int .i64) (.pair (.int .i64) (.sl (.sl (.st (.pair (.int .i64) (.int .i64))))))))), (6, .ms 0), (7, .ptr 1 [])], [(0, .row (.int .i64)), (1, .var (.st (.pair (.int .i64) (.pair (.int .i64) (.ms 2))))), (2, .row (.sl (.st (.pair (.int .i64) (.int .i64)))))], 3, [], 81129638414606645666991986196288⟩), (2, ⟨[(1, .fp (.st (.pair (.int .i64) (.pair (.sl (.st (.pair (.int .i64) (.pair (.int .i64) (.pair (.int .i64) (.pair (.int .i64) (.int .i64))))))) (.pair (.sl (.int .i64)) (.pair (.sl (.int .i64)) (.sl (.int .i64)))))))), (3, .fp (.st (.pair (.int .i64) (.pair (.int .i64) (.sl (.sl (.st (.pair (.int .i64) (.int .i64))))))))), (6, .ms 0), (7, .ptr 1 []), (9, .ms 4)], [(0, .row (.int .i64)), (1, .var (.st (.pair (.int .i64) (.pair (.int .i64) (.ms 2))))), (2, .row (.sl (.st (.pair (.int .i64) (.int .i64))))), (4, .row (.st (.pair (.int .i64) (.int .i64))))], 5, [], 1267650599637933591137997569600⟩)], loops := [(10, ⟨[(1, .fp (.st (.pair (.int .i64) (.pair (.sl (.st (.pair (.int .i64) (.pair (.int .i64) (.pair (.int .i64) (.pair (.int .i64) (.int .i64))))))) (.pair (.sl (.int .i64)) (.pair (.sl (.int .i64)) (.sl (.int .i64)))))))), (3, .fp (.st (.pair (.int .i64) (.pair (.int .i64) (.sl (.sl (.st (.pair (.int .i64) (.int .i64))))))))), (6, .ms 0), (7, .ptr 1 []), (8, .int .i64)], [(0, .row (.int .i64)), (1, .var (.st (.pair (.int .i64) (.pair (.int .i64) (.ms 2))))), (2, .row (.sl (.st (.pair (.int .i64) (.int .i64)))))], 3, [], 81129638414606645666991986196288⟩), (14, ⟨[(1, .fp (.st (.pair (.int .i64) (.pair (.sl (.st (.pair (.int .i64) (.pair (.int .i64) (.pair (.int .i64) (.pair (.int .i64) (.int .i64))))))) (.pair (.sl (.int .i64)) (.pair (.sl (.int .i64)) (.sl (.int .i64)))))))), (3, .fp (.st (.pair (.int .i64) (.pair (.int .i64) (.sl (.sl (.st (.pair (.int .i64) (.int .i64))))))))), (6, .ms 0), (7, .ptr 1 []), (9, .ms 4), (69, .int .i64)], [(0, .row (.int .i64)), (1, .var (.st (.pair (.int .i64) (.pair (.int .i64) (.ms 2))))), (2, .row (.sl (.st (.pair (.int .i64) (.int .i64))))), (4, .row (.st (.pair (.int .i64) (.int .i64))))], 5, [(4, .st (.pair (.int .i64) (.int .i64)))], 1267650599637933591137997569600⟩)], keeps := [1, 3], orders := [(16, [(0, .strong), (1, .strong), (2, .strong), (3, .strong), (4, .strong), (5, .strong), (6, .eff true), (7, .strong), (8, .strong), (9, .strong), (10, .strong), (11, .strong)])], turns := [(8, [⟨1, [(2, .sl (.st (.pair (.int .i64) (.int .i64))))], .st (.pair (.int .i64) (.pair (.int .i64) (.ms 2)))⟩])] }
def SynthTables11.S : Sig := { f := 11, params := [.st (.pair (.int .i64) (.pair (.sl (.st (.pair (.int .i64) (.pair (.int .i64) (.pair (.int .i64) (.pair (.int .i64) (.int .i64))))))) (.pair (.sl (.int .i64)) (.pair (.sl (.int .i64)) (.sl (.int .i64))))))], objs := [], res := .bool, outs := [], fix := [], run := fun k ds os => SynthTables11 k ds }
def SynthTables11.G : List Sig := [CircuitFault14.S, First37.S, Index57.S, Stepped20.S, Table56.S, built55.S, sameTable45.S]
theorem SynthTables11.eq (k : Nat) : ∀ ds os, SynthTables11.S.run k ds os = runF ⟨types, SynthTables11.G, SynthTables11.A, k, 0, []⟩ Try.f11 (codeOf Try.f11) SynthTables11.S.params SynthTables11.S.objs SynthTables11.S.res SynthTables11.S.outs ds os := by
  intro ds os; kernel_rfl
theorem SynthTables11.dr : DrOk Try.prog SynthTables11.A (codeOf Try.f11) := ⟨by kernel_rfl, by kernel_rfl⟩
theorem SynthTables11.ok (k : Nat) : SoundAt Try.prog k SynthTables11.S :=
  runF_sound (X := ⟨types, SynthTables11.G, SynthTables11.A, k, 0, []⟩) types_ok (mem_all (⟨CircuitFault14.ok k, ⟨First37.ok k, ⟨Index57.ok k, ⟨Stepped20.ok k, ⟨Table56.ok k, ⟨built55.ok k, ⟨sameTable45.ok k, trivial⟩⟩⟩⟩⟩⟩⟩)) (fn := Try.f11) (c := codeOf Try.f11) rfl (by kernel_rfl) rfl rfl SynthTables11.dr (SynthTables11.eq k)

def TableFault40.l0 (k : Nat) (t40 : (List (Int × Int))) : ((Int × (Int × (List (List (Int × Int))))) × Int) → Option (((Int × (Int × (List (List (Int × Int))))) × Int) ⊕ ((Int × (Int × (List (List (Int × Int))))) ⊕ (((Int × (Int × (List (List (Int × Int))))) × Int) ⊕ (Unit ⊕ (Int × Unit)))))
  | (t_2, t52) =>
    cond (decide (t52 < (List.length t40 : Int)))
      ((rd t40 t52).bind fun t54 =>
      Option.bind (cond (decide (t54.1 < 0))
        (some true)
        ((if t_2.2.1 < 0 then none else some (shrI .i64 t54.1 t_2.2.1)).bind fun t64 =>
        some (t64 != 0))) fun t66 =>
      cond t66
        (some (Sum.inr (Sum.inr (Sum.inr (Sum.inr (1, ()))))))
        (cond (cond (decide (t54.2 < 0)) true (decide (t54.2 > (w64 ((List.length t_2.2.2 : Int) - 1)))))
          (some (Sum.inr (Sum.inr (Sum.inr (Sum.inr (4, ()))))))
          (some (Sum.inl (t_2, (w64 (t52 + 1)))))))
      (some (Sum.inr (Sum.inl t_2)))
def TableFault40.l1 (k : Nat) (t : (Int × (Int × (List (List (Int × Int)))))) : ((Int × (Int × (List (List (Int × Int))))) × Int) → Option (((Int × (Int × (List (List (Int × Int))))) × Int) ⊕ (Unit ⊕ (Int × Unit)))
  | (t_1, t38) =>
    cond (decide (t38 < (List.length t.2.2 : Int)))
      ((rd t.2.2 t38).bind fun t40 =>
      (rd ([1, 2, 4, 8, 16] : List Int) t_1.1).bind fun _ =>
      (rd ([1, 2, 4, 8, 16] : List Int) t_1.1).bind fun t48 =>
      cond ((List.length t40 : Int) != t48)
        (some (Sum.inr (Sum.inr (3, ()))))
        (Option.bind
          (loopN (TableFault40.l0 k t40) k (t_1, 0) : Option ((Int × (Int × (List (List (Int × Int))))) ⊕ (((Int × (Int × (List (List (Int × Int))))) × Int) ⊕ (Unit ⊕ (Int × Unit))))) (joined fun (t_3 : (Int × (Int × (List (List (Int × Int)))))) =>
          some (Sum.inl (t_3, (w64 (t38 + 1)))))))
      (some (Sum.inr (Sum.inl ())))
def TableFault40 (k : Nat) (t : (Int × (Int × (List (List (Int × Int)))))) : Option (Int × Unit) :=
  cond (cond (cond (cond (cond (decide (t.1 < 0)) true (decide (t.1 > 4))) true (decide (t.2.1 < 0))) true (decide (t.2.1 > 10))) true (decide ((List.length t.2.2 : Int) > 64)))
    (some (2, ()))
    (cond ((List.length t.2.2 : Int) == 0)
      (some (13, ()))
      (Option.bind
        (loopN (TableFault40.l1 k t) k (t, 0) : Option (Unit ⊕ (Int × Unit))) (joined fun (_ : Unit) =>
        some (0, ()))))
def TableFault40.A : Ann := { conds := [], blocks := [(0, ⟨[], [], 0, [], 2417851639228983471505492⟩), (2, ⟨[(1, .fp (.st (.pair (.int .i64) (.pair (.int .i64) (.sl (.sl (.st (.pair (.int .i64) (.int .i64)))))))))], [], 0, [], 1208925815111029547335748⟩)], loops := [(6, ⟨[(1, .fp (.st (.pair (.int .i64) (.pair (.int .i64) (.sl (.sl (.st (.pair (.int .i64) (.int .i64))))))))), (38, .int .i64)], [], 0, [], 2417851639228983471505492⟩), (11, ⟨[(1, .fp (.st (.pair (.int .i64) (.pair (.int .i64) (.sl (.sl (.st (.pair (.int .i64) (.int .i64))))))))), (52, .int .i64)], [], 0, [], 1208925815111029547335748⟩)], keeps := [1, 6], orders := [] }
def TableFault40.S : Sig := { f := 40, params := [.st (.pair (.int .i64) (.pair (.int .i64) (.sl (.sl (.st (.pair (.int .i64) (.int .i64)))))))], objs := [], res := .int .i64, outs := [], fix := [], run := fun k ds os => TableFault40 k ds }
def TableFault40.G : List Sig := []
theorem TableFault40.eq (k : Nat) : ∀ ds os, TableFault40.S.run k ds os = runF ⟨types, TableFault40.G, TableFault40.A, k, 0, []⟩ Try.f40 (codeOf Try.f40) TableFault40.S.params TableFault40.S.objs TableFault40.S.res TableFault40.S.outs ds os := by
  intro ds os; kernel_rfl
theorem TableFault40.dr : DrOk Try.prog TableFault40.A (codeOf Try.f40) := ⟨by kernel_rfl, by kernel_rfl⟩
theorem TableFault40.ok (k : Nat) : SoundAt Try.prog k TableFault40.S :=
  runF_sound (X := ⟨types, TableFault40.G, TableFault40.A, k, 0, []⟩) types_ok (fun s hs => absurd hs List.not_mem_nil) (fn := Try.f40) (c := codeOf Try.f40) rfl (by kernel_rfl) rfl rfl TableFault40.dr (TableFault40.eq k)
end Go.Proofs.Ytjbdhaenakcclaa.St

/- Circuits of gates: bits that are joined; the first state. No program in sight. -/
set_option linter.unusedVariables false
noncomputable section
namespace Go.Proofs.Ytjbdhaenakcclaa.St
open Go Go.Proofs.Ytjbdhaenakcclaa.Gp

abbrev Gate := Int × Int × Int × Int × Int
abbrev Cir := Int × List Gate × List Int × List Int × List Int

/-- the lowest bit -/
def bitOf (n : Int) : Nat := (ibits .and .i64 n 1).toNat
theorem bit_and (n : Int) : ibits .and .i64 n 1 = (bitOf n : Int) ∧ bitOf n ≤ 1 := by
  have e : (BitVec.ofInt 64 n &&& BitVec.ofInt 64 1).toNat ≤ 1 := by
    rw [BitVec.toNat_and]
    exact Nat.le_trans Nat.and_le_right (by decide)
  have h : ibits .and .i64 n 1 = (((BitVec.ofInt 64 n &&& BitVec.ofInt 64 1).toNat : Nat) : Int) := wrap64_nat (n := (BitVec.ofInt 64 n &&& BitVec.ofInt 64 1).toNat) (by omega)
  unfold bitOf
  rw [h]
  simp only [Int.toNat_natCast]
  exact ⟨trivial, e⟩
theorem pow60 {i : Nat} (h : i ≤ 60) : 2 ^ i ≤ 1152921504606846976 := by
  have : 2 ^ i ≤ 2 ^ 60 := Nat.pow_le_pow_right (by decide) h
  simpa using this
theorem or_bit {m i b : Nat} (hm : m < 2 ^ i) (hb : b ≤ 1) (hi : i ≤ 60) : ibits .or .i64 (m : Int) (shlI .i64 (b : Int) (i : Int)) = ((m + b * 2 ^ i : Nat) : Int) := by
  have hp := pow60 hi
  have hbp : b * 2 ^ i ≤ 2 ^ i := by
    have := Nat.mul_le_mul_right (2 ^ i) hb
    omega
  rw [shlI_nat (by omega) (by omega), ibits_or (by omega) (by omega)]
  congr 1
  have := Nat.two_pow_add_eq_or_of_lt hm b
  rw [Nat.mul_comm b, Nat.add_comm, this, Nat.or_comm]
theorem add_bit {m i b : Nat} (hm : m < 2 ^ i) (hb : b ≤ 1) (hi : i ≤ 60) : w64 ((m : Int) + shlI .i64 (b : Int) (i : Int)) = ((m + b * 2 ^ i : Nat) : Int) := by
  have hp := pow60 hi
  have hbp : b * 2 ^ i ≤ 2 ^ i := by
    have := Nat.mul_le_mul_right (2 ^ i) hb
    omega
  rw [shlI_nat (by omega) (by omega), show ((m : Int) + ((b * 2 ^ i : Nat) : Int)) = ((m + b * 2 ^ i : Nat) : Int) by omega]
  exact w64_nat (by omega)
/-- bits joined, the lowest first -/
def pk (l : List Nat) : Nat := l.foldr (fun b m => b + 2 * m) 0
theorem pk_snoc : ∀ (l : List Nat) (b : Nat), pk (l ++ [b]) = pk l + b * 2 ^ l.length
  | [], b => by simp [pk]
  | x :: l, b => by
    have ih := pk_snoc l b
    simp only [pk, List.cons_append, List.foldr_cons, List.length_cons] at ih ⊢
    rw [ih, Nat.pow_succ, Nat.mul_add, Nat.add_assoc]
    congr 2
    rw [Nat.mul_left_comm, Nat.mul_comm 2 (2 ^ l.length)]
theorem pk_lt : ∀ (l : List Nat), (∀ b ∈ l, b ≤ 1) → pk l < 2 ^ l.length
  | [], _ => by simp [pk]
  | x :: l, h => by
    have ih := pk_lt l (fun b hb => h b (List.mem_cons_of_mem _ hb))
    have := h x List.mem_cons_self
    simp only [pk, List.foldr_cons, List.length_cons, Nat.pow_succ] at ih ⊢
    omega

/-- the first state -/
def first (c : Cir) : Nat := pk ((c.2.2.2.2.take 10).map bitOf)
theorem bits_ok (l : List Int) : ∀ b ∈ l.map bitOf, b ≤ 1 := by
  intro b hb
  obtain ⟨x, _, rfl⟩ := List.mem_map.1 hb
  exact (bit_and x).2
theorem take_snoc {l : List Int} {i : Nat} {x : Int} (h : l[i]? = some x) : l.take (i + 1) = l.take i ++ [x] := by
  rw [List.take_add_one, h]; rfl
theorem start_ev (c : Cir) : Ev (fun k => Start80 k c) ((first c : Int), ()) := by
  unfold Start80
  have e : mnI (c.2.2.2.2.length : Int) 10 = ((min c.2.2.2.2.length 10 : Nat) : Int) := by unfold mnI; split <;> omega
  refine .val (a := c.2.2.2.2.take 10) ?_ (.bind (a := (first c : Int)) (Lp.ev ?_) (.now _))
  · rw [e, show (0 : Int) = ((0 : Nat) : Int) from rfl, slc_ok (Nat.zero_le _) (by omega)]
    simp [List.take_eq_take_iff]
    omega
  generalize hl : c.2.2.2.2.take 10 = l
  have hll : l.length ≤ 10 := by rw [← hl, List.length_take]; omega
  have hf : first c = pk (l.map bitOf) := by unfold first; rw [hl]
  have := Lp.fold (body := fun k => Start80.l0 k l) l (fun (m : List Nat) i => ((pk m : Int), i)) (fun m x => m ++ [bitOf x]) (fun m => (pk m : Int)) (fun i m => m = (l.take i).map bitOf) (fun i x m hx hm => ⟨?_, ?_⟩) (fun m _ => ?_) (b := []) rfl
  · rw [foldl_snoc, List.nil_append, ← hf] at this
    exact this
  · have hi := get_lt hx
    have hlen : m.length = i := by rw [hm, List.length_map, List.length_take]; omega
    have hlt : pk m < 2 ^ i := by rw [← hlen]; exact pk_lt m (by rw [hm]; exact bits_ok _)
    simp only [Start80.l0]
    refine .yes (decide_eq_true (by omega)) (.val (rd_some' hx) (.val (a := shlI .i64 (bitOf x : Int) (i : Int)) ?_ (.now' ?_)))
    · rw [if_neg (by omega), (bit_and x).1]
    · rw [or_bit hlt (bit_and x).2 (by omega), pk_snoc, hlen, w64_id (by omega) (by omega)]
  · rw [hm, take_snoc hx, List.map_append]; rfl
  · simp only [Start80.l0]
    exact .no (by simp) (.now _)
end Go.Proofs.Ytjbdhaenakcclaa.St

/- Circuits of gates: what is wrong with one. No program in sight. -/
set_option linter.unusedVariables false
noncomputable section
namespace Go.Proofs.Ytjbdhaenakcclaa.St
open Go Go.Proofs.Ytjbdhaenakcclaa.Gp

def needs (kd : Int) : Int := if kd = 3 then 1 else if kd = 4 ∨ kd = 5 ∨ kd = 6 then 2 else if kd = 7 then 3 else 0
def mostN (c : Cir) (kd : Int) : Int := if kd = 0 then 2 else if kd = 1 then c.1 else if kd = 2 then (c.2.2.2.1.length : Int) else 1
def leg (i n k x : Int) : Int := if k < n ∧ (x < 0 ∨ x ≥ i) then 9 else if k ≥ n ∧ x ≠ 0 then 3 else 0
def legs (i : Int) (g : Gate) : Int :=
  if leg i (needs g.1) 0 g.2.1 ≠ 0 then leg i (needs g.1) 0 g.2.1 else
  if leg i (needs g.1) 1 g.2.2.1 ≠ 0 then leg i (needs g.1) 1 g.2.2.1 else leg i (needs g.1) 2 g.2.2.2.1
def oneF (c : Cir) (i : Int) (g : Gate) : Int :=
  if g.1 < 0 ∨ g.1 > 7 then 1 else if legs i g ≠ 0 then legs i g else if g.2.2.2.2 < 0 ∨ g.2.2.2.2 ≥ mostN c g.1 then 1 else 0
theorem kinds {kd : Int} (h : ¬ (kd < 0 ∨ kd > 7)) : kd = 0 ∨ kd = 1 ∨ kd = 2 ∨ kd = 3 ∨ kd = 4 ∨ kd = 5 ∨ kd = 6 ∨ kd = 7 := by omega
theorem inputs_ev (kd : Int) : Ev (fun k => inputs79 k kd) (if kd < 0 ∨ kd > 7 then -1 else needs kd, ()) := by
  unfold inputs79
  have e : cond (decide (kd < 0)) true (decide (kd ≥ 8)) = decide (kd < 0 ∨ kd > 7) := by
    by_cases h : kd < 0
    · simp [h]
    · simp only [decide_eq_false h, cond_false, false_or, h]
      exact decide_eq_decide.2 (by omega)
  rw [e]
  refine .iff (fun h => .now' (by rw [if_pos h])) (fun h => ?_)
  rw [if_neg h]
  rcases kinds h with rfl | rfl | rfl | rfl | rfl | rfl | rfl | rfl <;> exact .val rfl (.val rfl (.now _))

theorem leg_step (c : Cir) (i : Int) (g : Gate) (n j x : Int) (l : List Int) (hl : l = [g.2.1, g.2.2.1, g.2.2.2.1]) (h3 : j < 3) (hx : rd l j = some x) (h0 : 0 ≤ j) :
    Ev (fun k => one72.l0 k i g (n, ()) (c, g, (), j, l)) (if leg i n j x ≠ 0 then .inr (.inr (leg i n j x, ())) else .inl (c, g, (), j + 1, l)) := by
  simp only [one72.l0]
  refine .yes (decide_eq_true (by simpa using h3)) (.val hx (.val hx ?_))
  unfold leg
  by_cases h1 : j < n ∧ (x < 0 ∨ x ≥ i)
  · refine .yes ?_ (.now' (by rw [if_pos h1]; rfl))
    rw [decide_eq_true h1.1]
    rcases h1.2 with h2 | h2
    · rw [decide_eq_true h2]; rfl
    · by_cases h4 : x < 0 <;> simp [h2, h4]
  · refine .no ?_ ?_
    · by_cases h2 : j < n
      · have h5 : ¬ (x < 0 ∨ x ≥ i) := fun h => h1 ⟨h2, h⟩
        simp only [not_or] at h5
        rw [decide_eq_true h2, decide_eq_false h5.1, decide_eq_false h5.2]; rfl
      · rw [decide_eq_false h2]; rfl
    · rw [if_neg h1]
      by_cases h2 : j ≥ n ∧ x ≠ 0
      · refine .yes ?_ (.now' (by rw [if_pos h2]; rfl))
        rw [decide_eq_true h2.1, bne_iff_ne.2 h2.2]; rfl
      · refine .no ?_ (.now' (by rw [if_neg h2, w64_id (by omega) (by omega)]; rfl))
        by_cases h4 : j ≥ n
        · have : x = 0 := by
            by_cases h5 : x = 0
            · exact h5
            · exact absurd ⟨h4, h5⟩ h2
          rw [this]; simp
        · rw [decide_eq_false h4]; rfl
theorem legs_lp {S R : Type} {body : Nat → S → Option (S ⊕ R)} {s0 s1 s2 s3 : S} {r0 r1 r2 r3 : R} {f0 f1 f2 : Int}
    (h0 : Ev (fun k => body k s0) (if f0 ≠ 0 then .inr r0 else .inl s1)) (h1 : Ev (fun k => body k s1) (if f1 ≠ 0 then .inr r1 else .inl s2)) (h2 : Ev (fun k => body k s2) (if f2 ≠ 0 then .inr r2 else .inl s3)) (h3 : Ev (fun k => body k s3) (.inr r3)) :
    Lp body s0 (if f0 ≠ 0 then r0 else if f1 ≠ 0 then r1 else if f2 ≠ 0 then r2 else r3) := by
  by_cases g0 : f0 ≠ 0
  · rw [if_pos g0] at h0 ⊢; exact .done h0
  rw [if_neg g0] at h0 ⊢
  refine .step h0 ?_
  by_cases g1 : f1 ≠ 0
  · rw [if_pos g1] at h1 ⊢; exact .done h1
  rw [if_neg g1] at h1 ⊢
  refine .step h1 ?_
  by_cases g2 : f2 ≠ 0
  · rw [if_pos g2] at h2 ⊢; exact .done h2
  rw [if_neg g2] at h2 ⊢
  exact .step h2 (.done h3)

theorem one_ev (c : Cir) (i : Int) (g : Gate) (hg : rd c.2.1 i = some g) : Ev (fun k => one72 k c i) (oneF c i g, ()) := by
  unfold one72
  refine .val hg (.bind (inputs_ev g.1) ?_)
  unfold oneF
  by_cases h : g.1 < 0 ∨ g.1 > 7
  · rw [if_pos h, if_pos h]; exact .yes rfl (.now _)
  rw [if_neg h, if_neg h]
  have hn : ¬ needs g.1 < 0 := by unfold needs; split <;> (try split) <;> (try split) <;> omega
  refine .no (decide_eq_false hn) ?_
  have hlp := legs_lp (body := fun k => one72.l0 k i g (needs g.1, ())) (s3 := (c, g, (), 3, [g.2.1, g.2.2.1, g.2.2.2.1])) (r3 := .inl (c, g))
    (leg_step c i g (needs g.1) 0 g.2.1 _ rfl (by omega) rfl (by omega)) (leg_step c i g (needs g.1) 1 g.2.2.1 _ rfl (by omega) rfl (by omega)) (leg_step c i g (needs g.1) 2 g.2.2.2.1 _ rfl (by omega) rfl (by omega))
    (by simp only [one72.l0]; exact .no rfl (.now _))
  have hr : (if leg i (needs g.1) 0 g.2.1 ≠ 0 then (.inr (leg i (needs g.1) 0 g.2.1, ()) : (Cir × Gate) ⊕ (Int × Unit)) else if leg i (needs g.1) 1 g.2.2.1 ≠ 0 then .inr (leg i (needs g.1) 1 g.2.2.1, ()) else if leg i (needs g.1) 2 g.2.2.2.1 ≠ 0 then .inr (leg i (needs g.1) 2 g.2.2.2.1, ()) else .inl (c, g)) =
      if legs i g ≠ 0 then .inr (legs i g, ()) else .inl (c, g) := by
    unfold legs
    by_cases g0 : leg i (needs g.1) 0 g.2.1 ≠ 0
    · rw [if_pos g0, if_pos g0, if_pos g0]
    · rw [if_neg g0, if_neg g0]
      by_cases g1 : leg i (needs g.1) 1 g.2.2.1 ≠ 0
      · rw [if_pos g1, if_pos g1, if_pos g1]
      · rw [if_neg g1, if_neg g1]
  rw [hr] at hlp
  by_cases hl : legs i g ≠ 0
  · rw [if_pos hl] at hlp ⊢
    exact .joinR hlp.ev
  · rw [if_neg hl] at hlp ⊢
    refine .joinL (S := Unit) hlp.ev ?_
    have hm : rd ([2, c.1, (List.length c.2.2.2.1 : Int), 1, 1, 1, 1, 1] : List Int) g.1 = some (mostN c g.1) := by
      generalize g.1 = kd at h
      rcases kinds h with rfl | rfl | rfl | rfl | rfl | rfl | rfl | rfl <;> rfl
    refine .val hm (.val hm ?_)
    by_cases h2 : g.2.2.2.2 < 0 ∨ g.2.2.2.2 ≥ mostN c g.1
    · refine .yes ?_ (.now' (by rw [if_pos h2]))
      rcases h2 with h2 | h2
      · simp [h2]
      · by_cases h4 : g.2.2.2.2 < 0 <;> simp [h2, h4]
    · refine .no ?_ (.now' (by rw [if_neg h2]))
      simp only [not_or] at h2
      rw [decide_eq_false h2.1, decide_eq_false h2.2]; rfl
end Go.Proofs.Ytjbdhaenakcclaa.St

/- Circuits of gates: what is wrong with one, said twice. No program in sight. -/
set_option linter.unusedVariables false
noncomputable section
namespace Go.Proofs.Ytjbdhaenakcclaa.St
open Go Go.Proofs.Ytjbdhaenakcclaa.Gp

def nds : List (Int × Int) := mput (.int .i64) (.int .i64) (mput (.int .i64) (.int .i64) (mput (.int .i64) (.int .i64) (mput (.int .i64) (.int .i64) (mput (.int .i64) (.int .i64) ([] : (List (Int × Int))) (3 : Int) (1 : Int)) (4 : Int) (2 : Int)) (5 : Int) (2 : Int)) (6 : Int) (2 : Int)) (7 : Int) (3 : Int)
theorem nds_get {kd : Int} (h : ¬ (kd < 0 ∨ kd > 7)) : Option.getD (α := Int) (mget (.int .i64) (.int .i64) nds kd) (0 : Int) = needs kd := by
  rcases kinds h with rfl | rfl | rfl | rfl | rfl | rfl | rfl | rfl <;> rfl
theorem most_get (c : Cir) {kd : Int} (h : ¬ (kd < 0 ∨ kd > 7)) : Option.getD (α := Int) (mget (.int .i64) (.int .i64) (mput (.int .i64) (.int .i64) (mput (.int .i64) (.int .i64) (mput (.int .i64) (.int .i64) ([] : (List (Int × Int))) (0 : Int) (1 : Int)) (1 : Int) (w64 (c.1 - 1))) (2 : Int) (w64 ((List.length c.2.2.2.1 : Int) - 1))) kd) (0 : Int) =
    if kd = 0 then 1 else if kd = 1 then w64 (c.1 - 1) else if kd = 2 then w64 ((List.length c.2.2.2.1 : Int) - 1) else 0 := by
  rcases kinds h with rfl | rfl | rfl | rfl | rfl | rfl | rfl | rfl <;> rfl

theorem leg_step2 (c : Cir) (i : Int) (g : Gate) (hi0 : 0 ≤ i) (hi1 : i ≤ 1000) (t62 : Option Int) (n j x : Int) (ht : Option.getD (α := Int) t62 (0 : Int) = n) (h3 : j < 3) (hx : rd ([g.2.1, g.2.2.1, g.2.2.2.1] : List Int) j = some x) (h0 : 0 ≤ j) :
    Ev (fun k => CircuitFault14.l0 k i g t62 (c, g, j)) (if leg i n j x ≠ 0 then .inr (.inr (.inr (.inr (leg i n j x, ())))) else .inl (c, g, j + 1)) := by
  simp only [CircuitFault14.l0, ht]
  refine .yes (decide_eq_true h3) (.val hx ?_)
  rw [w64_id (x := i - 1) (by omega) (by omega)]
  unfold leg
  by_cases h2 : j ≥ n ∧ x ≠ 0
  · have h1 : ¬ (j < n ∧ (x < 0 ∨ x ≥ i)) := fun h => by omega
    refine .yes ?_ (.now' (by rw [if_neg h1, if_pos h2]; rfl))
    rw [decide_eq_true h2.1, bne_iff_ne.2 h2.2]; rfl
  · refine .no ?_ ?_
    · by_cases h4 : j ≥ n
      · have : x = 0 := by
          by_cases h5 : x = 0
          · exact h5
          · exact absurd ⟨h4, h5⟩ h2
        rw [this]; simp
      · rw [decide_eq_false h4]; rfl
    · by_cases h1 : j < n ∧ (x < 0 ∨ x ≥ i)
      · refine .yes ?_ (.now' (by rw [if_pos h1]; rfl))
        rw [decide_eq_true h1.1]
        rcases h1.2 with h5 | h5
        · rw [decide_eq_true h5]; rfl
        · rw [decide_eq_true (show x > i - 1 by omega)]
          by_cases h4 : x < 0 <;> simp [h4]
      · refine .no ?_ (.now' (by rw [if_neg h1, if_neg h2, w64_id (by omega) (by omega)]; rfl))
        by_cases h5 : j < n
        · have h6 : ¬ (x < 0 ∨ x ≥ i) := fun h => h1 ⟨h5, h⟩
          simp only [not_or] at h6
          rw [decide_eq_true h5, decide_eq_false h6.1, decide_eq_false (by omega)]; rfl
        · rw [decide_eq_false h5]; rfl

/-- all gates -/
def gW (c : Cir) (b : Nat) (g : Gate) : Nat ⊕ (Cir ⊕ (Int × Unit)) := if oneF c b g = 0 then .inl (b + 1) else .inr (.inr (oneF c b g, ()))
def gatesW (c : Cir) : Cir ⊕ (Int × Unit) := walk (gW c) (fun _ => .inl c) c.2.1 0
theorem check_gates (c : Cir) (hl : c.2.1.length ≤ 400) : Lp (fun k => Check18.l0 k c) (c, 0) (gatesW c) := by
  refine Lp.walk (body := fun k => Check18.l0 k c) c.2.1 (fun (_ : Nat) i => (c, i)) (gW c) (fun _ => .inl c) (fun i b => b = i) (fun i g b hx hb => ⟨?_, fun b' h => ?_⟩) (fun b _ => ?_) (b := 0) rfl
  · have hi := get_lt hx
    subst hb
    simp only [Check18.l0]
    refine .yes (decide_eq_true (by omega)) (.bind (one_ev c b g (rd_some' hx)) ?_)
    unfold gW
    by_cases h : oneF c b g = 0
    · rw [if_pos h]
      refine .no (by rw [h]; rfl) (.now' ?_)
      rw [w64_id (by omega) (by omega)]
    · rw [if_neg h]
      exact .yes (bne_iff_ne.2 h) (.now _)
  · subst hb
    unfold gW at h
    split at h <;> cases h
    rfl
  · simp only [Check18.l0]
    exact .no (by simp) (.now _)
theorem fault_gates (c : Cir) (hl : c.2.1.length ≤ 400) (h0 : 0 ≤ c.1) (h1 : c.1 ≤ 10) (h2 : c.2.2.2.1.length ≤ 10) : Lp (fun k => CircuitFault14.l1 k c) (c, 0) (gatesW c) := by
  refine Lp.walk (body := fun k => CircuitFault14.l1 k c) c.2.1 (fun (_ : Nat) i => (c, i)) (gW c) (fun _ => .inl c) (fun i b => b = i) (fun i g b hx hb => ⟨?_, fun b' h => ?_⟩) (fun b _ => ?_) (b := 0) rfl
  · have hi := get_lt hx
    subst hb
    simp only [CircuitFault14.l1]
    refine .yes (decide_eq_true (by omega)) (.val (rd_some' hx) ?_)
    have e : cond (decide (g.1 < 0)) true (decide (g.1 > 7)) = decide (g.1 < 0 ∨ g.1 > 7) := by by_cases h : g.1 < 0 <;> simp [h]
    rw [e]
    unfold gW oneF
    refine .iff (fun h => .now' ?_) (fun h => ?_)
    · rw [if_pos h, if_neg (show ¬ (1 : Int) = 0 by omega)]
    rw [if_neg h]
    have hn : Option.getD (α := Int) (mget (.int .i64) (.int .i64) nds g.1) (0 : Int) = needs g.1 := nds_get h
    have hlp := legs_lp (body := fun k => CircuitFault14.l0 k b g (mget (.int .i64) (.int .i64) nds g.1)) (s3 := (c, g, 3)) (r3 := .inl (c, g))
      (leg_step2 c b g (by omega) (by omega) _ (needs g.1) 0 g.2.1 hn (by omega) rfl (by omega)) (leg_step2 c b g (by omega) (by omega) _ (needs g.1) 1 g.2.2.1 hn (by omega) rfl (by omega)) (leg_step2 c b g (by omega) (by omega) _ (needs g.1) 2 g.2.2.2.1 hn (by omega) rfl (by omega))
      (by simp only [CircuitFault14.l0]; exact .no rfl (.now _))
    have hr : (if leg b (needs g.1) 0 g.2.1 ≠ 0 then (.inr (.inr (.inr (leg b (needs g.1) 0 g.2.1, ()))) : (Cir × Gate) ⊕ ((Cir × Int) ⊕ (Cir ⊕ (Int × Unit)))) else if leg b (needs g.1) 1 g.2.2.1 ≠ 0 then .inr (.inr (.inr (leg b (needs g.1) 1 g.2.2.1, ()))) else if leg b (needs g.1) 2 g.2.2.2.1 ≠ 0 then .inr (.inr (.inr (leg b (needs g.1) 2 g.2.2.2.1, ()))) else .inl (c, g)) =
        if legs b g ≠ 0 then .inr (.inr (.inr (legs b g, ()))) else .inl (c, g) := by
      unfold legs
      by_cases g0 : leg b (needs g.1) 0 g.2.1 ≠ 0
      · rw [if_pos g0, if_pos g0, if_pos g0]
      · rw [if_neg g0, if_neg g0]
        by_cases g1 : leg b (needs g.1) 1 g.2.2.1 ≠ 0
        · rw [if_pos g1, if_pos g1, if_pos g1]
        · rw [if_neg g1, if_neg g1]
    rw [hr] at hlp
    by_cases hl : legs b g ≠ 0
    · rw [if_pos hl] at hlp ⊢
      refine .joinR (hlp.ev.to ?_)
      rw [if_neg hl]
    · rw [if_neg hl] at hlp ⊢
      refine .joinL (S := Unit) hlp.ev ?_
      dsimp only
      rw [most_get c h]
      have hm : (g.2.2.2.2 > if g.1 = 0 then 1 else if g.1 = 1 then w64 (c.1 - 1) else if g.1 = 2 then w64 ((List.length c.2.2.2.1 : Int) - 1) else 0) ↔ g.2.2.2.2 ≥ mostN c g.1 := by
        rw [w64_id (x := c.1 - 1) (by omega) (by omega), w64_id (x := (List.length c.2.2.2.1 : Int) - 1) (by omega) (by omega)]
        unfold mostN
        split <;> (try split) <;> (try split) <;> omega
      by_cases h5 : g.2.2.2.2 < 0 ∨ g.2.2.2.2 ≥ mostN c g.1
      · rw [if_pos h5, if_neg (show ¬ (1 : Int) = 0 by omega)]
        refine .yes ?_ (.now _)
        rcases h5 with h5 | h5
        · rw [decide_eq_true h5]; rfl
        · rw [decide_eq_true (hm.2 h5)]
          by_cases h4 : g.2.2.2.2 < 0 <;> simp [h4]
      · rw [if_neg h5, if_pos (rfl : (0 : Int) = 0)]
        simp only [not_or] at h5
        refine .no ?_ (.now' ?_)
        · rw [decide_eq_false h5.1, decide_eq_false (fun h => h5.2 (hm.1 h))]; rfl
        · rw [w64_id (by omega) (by omega)]
  · subst hb
    unfold gW at h
    split at h <;> cases h
    rfl
  · simp only [CircuitFault14.l1]
    exact .no (by simp) (.now _)
end Go.Proofs.Ytjbdhaenakcclaa.St

/- Circuits of gates: the checks are one. No program in sight. -/

set_option linter.unusedVariables false
noncomputable section
namespace Go.Proofs.Ytjbdhaenakcclaa.St
open Go Go.Proofs.Ytjbdhaenakcclaa.Gp

theorem walk_bad {α R : Type} (bad : α → Bool) (e fin : R) : ∀ (l : List α), walk (fun (_ : Unit) x => if bad x then (.inr e : Unit ⊕ R) else .inl ()) (fun _ => fin) l () = if l.any bad then e else fin
  | [] => rfl
  | x :: l => by
    rw [walk_cons, List.any_cons]
    cases h : bad x with
    | true => simp
    | false => simpa using walk_bad bad e fin l
def badX (c : Cir) (x : Int) : Bool := decide (x < 0 ∨ x ≥ (c.2.1.length : Int))
theorem badX_or (c : Cir) (x : Int) : cond (decide (x < 0)) true (decide (x ≥ (c.2.1.length : Int))) = badX c x := by
  unfold badX
  by_cases h : x < 0 <;> simp [h]
theorem check_range (c : Cir) (l : List Int) (hl : l.length ≤ 1000) : Lp (fun k => Check18.l1 k (l, ())) (c, 0) (if l.any (badX c) then .inr (4, ()) else .inl c) := by
  rw [← walk_bad (R := Cir ⊕ (Int × Unit))]
  refine Lp.walk (body := fun k => Check18.l1 k (l, ())) l (fun (_ : Unit) i => (c, i)) _ _ (fun _ _ => True) (fun i x b hx _ => ⟨?_, fun _ _ => trivial⟩) (fun b _ => ?_) (b := ()) trivial
  · have hi := get_lt hx
    simp only [Check18.l1]
    refine .yes (decide_eq_true (by omega)) (.val (rd_some' hx) (.cnd (fun h => .now' ?_) (fun h => .now' ?_)))
    · rw [badX_or] at h; rw [if_pos h]
    · rw [badX_or] at h; rw [h, w64_id (by omega) (by omega)]; rfl
  · simp only [Check18.l1]
    exact .no (by simp) (.now _)
theorem fault_range1 (c : Cir) (l : List Int) (o : List (List Int)) (hl : l.length ≤ 1000) : Lp (fun k => CircuitFault14.l2 k l) (c, (), 0, o) (if l.any (badX c) then .inr (.inr (.inr (4, ()))) else .inl (c, (), o)) := by
  rw [← walk_bad (R := (Cir × (Unit × (List (List Int)))) ⊕ ((Cir × (Unit × (Int × (List (List Int))))) ⊕ (Cir ⊕ (Int × Unit))))]
  refine Lp.walk (body := fun k => CircuitFault14.l2 k l) l (fun (_ : Unit) i => (c, (), i, o)) _ _ (fun _ _ => True) (fun i x b hx _ => ⟨?_, fun _ _ => trivial⟩) (fun b _ => ?_) (b := ()) trivial
  · have hi := get_lt hx
    simp only [CircuitFault14.l2]
    refine .yes (decide_eq_true (by omega)) (.val (rd_some' hx) (.cnd (fun h => .now' ?_) (fun h => .now' ?_)))
    · rw [badX_or] at h; rw [if_pos h]
    · rw [badX_or] at h; rw [h, w64_id (by omega) (by omega)]; rfl
  · simp only [CircuitFault14.l2]
    exact .no (by simp) (.now _)
theorem fault_range (c : Cir) (h1 : c.2.2.1.length ≤ 10) (h2 : c.2.2.2.1.length ≤ 10) : Lp (fun k => CircuitFault14.l3 k c) (c, (), 0, [c.2.2.1, c.2.2.2.1]) (if (c.2.2.1 ++ c.2.2.2.1).any (badX c) then .inr (4, ()) else .inl c) := by
  have r1 := fault_range1 c c.2.2.1 [c.2.2.1, c.2.2.2.1] (by omega)
  have r2 := fault_range1 c c.2.2.2.1 [c.2.2.1, c.2.2.2.1] (by omega)
  rw [List.any_append]
  cases e1 : c.2.2.1.any (badX c) with
  | true =>
    rw [e1] at r1
    refine .done ?_
    simp only [CircuitFault14.l3]
    exact .yes rfl (.val rfl (.val rfl (.joinR r1.ev)))
  | false =>
    rw [e1] at r1
    refine .step (s' := (c, (), 1, [c.2.2.1, c.2.2.2.1])) ?_ ?_
    · simp only [CircuitFault14.l3]
      exact .yes rfl (.val rfl (.val rfl (.joinL (S := Unit) r1.ev (.now' (by rw [w64_id (by omega) (by omega)]; rfl)))))
    · cases e2 : c.2.2.2.1.any (badX c) with
      | true =>
        rw [e2] at r2
        refine .done ?_
        simp only [CircuitFault14.l3]
        exact .yes rfl (.val rfl (.val rfl (.joinR r2.ev)))
      | false =>
        rw [e2] at r2
        refine .step (s' := (c, (), 2, [c.2.2.1, c.2.2.2.1])) ?_ (.done ?_)
        · simp only [CircuitFault14.l3]
          exact .yes rfl (.val rfl (.val rfl (.joinL (S := Unit) r2.ev (.now' (by rw [w64_id (by omega) (by omega)]; rfl)))))
        · simp only [CircuitFault14.l3]
          exact .no rfl (.now _)

def bad1 (x : Int) : Bool := decide (x ≠ 0 ∧ x ≠ 1)
theorem check_init (c : Cir) (hl : c.2.2.2.2.length ≤ 1000) : Lp (fun k => Check18.l2 k c) 0 (if c.2.2.2.2.any bad1 then .inr (1, ()) else .inl ()) := by
  rw [← walk_bad (R := Unit ⊕ (Int × Unit))]
  refine Lp.walk (body := fun k => Check18.l2 k c) c.2.2.2.2 (fun (_ : Unit) i => i) _ _ (fun _ _ => True) (fun i x b hx _ => ⟨?_, fun _ _ => trivial⟩) (fun b _ => ?_) (b := ()) trivial
  · have hi := get_lt hx
    simp only [Check18.l2]
    have e : cond (x != 0) (x != 1) false = bad1 x := by
      unfold bad1
      by_cases h0 : x = 0 <;> by_cases h1 : x = 1 <;> simp [h0, h1]
    refine .yes (decide_eq_true (by omega)) (.val (rd_some' hx) (.cnd (fun h => .now' ?_) (fun h => .now' ?_)))
    · rw [e] at h; rw [if_pos h]
    · rw [e] at h; rw [h, w64_id (by omega) (by omega)]; rfl
  · simp only [Check18.l2]
    exact .no (by simp) (.now _)
theorem wrap_zero {m : Nat} (h : m < 18446744073709551616) (h0 : IntKind.wrap .i64 (m : Int) = 0) : m = 0 := by
  have e : (2 : Int) ^ (64 - 1) = 9223372036854775808 := by decide
  have e2 : (2 : Int) ^ 64 = 18446744073709551616 := by decide
  simp only [IntKind.wrap, IntKind.signed, IntKind.bits, Bool.true_and, decide_eq_true_eq, e, e2] at h0
  split at h0 <;> omega
theorem andNot_bad {x : Int} (h0 : -9223372036854775808 ≤ x) (h1 : x ≤ 9223372036854775807) : (ibits .andNot .i64 x 1 != 0) = bad1 x := by
  have e : ibits .andNot .i64 x 1 = IntKind.wrap .i64 (((BitVec.ofInt 64 x &&& ~~~ BitVec.ofInt 64 1).toNat : Nat) : Int) := rfl
  unfold bad1
  by_cases hx : x = 0
  · subst hx; rfl
  by_cases hx1 : x = 1
  · subst hx1; rfl
  rw [show decide (x ≠ 0 ∧ x ≠ 1) = true from decide_eq_true ⟨hx, hx1⟩, bne_iff_ne]
  intro hz
  rw [e] at hz
  have hn := wrap_zero (BitVec.isLt _) hz
  have h3 : BitVec.ofInt 64 x = BitVec.ofInt 64 x &&& BitVec.ofInt 64 1 := by
    have hz : BitVec.ofInt 64 x &&& ~~~ BitVec.ofInt 64 1 = 0#64 := BitVec.eq_of_toNat_eq hn
    apply BitVec.eq_of_getLsbD_eq
    intro i hi
    have := congrArg (fun v => BitVec.getLsbD v i) hz
    simp only [BitVec.getLsbD_and, BitVec.getLsbD_not, BitVec.getLsbD_zero, hi, decide_true, Bool.true_and] at this
    rw [BitVec.getLsbD_and]
    cases h4 : (BitVec.ofInt 64 x).getLsbD i <;> cases h5 : (BitVec.ofInt 64 1).getLsbD i <;> simp_all
  have h4 : (BitVec.ofInt 64 x).toNat ≤ 1 := by
    rw [h3, BitVec.toNat_and]
    exact Nat.le_trans Nat.and_le_right (by decide)
  rw [BitVec.toNat_ofInt] at h4
  have e2 : ((2 ^ 64 : Nat) : Int) = 18446744073709551616 := by decide
  rw [e2] at h4
  omega
theorem fault_init (c : Cir) (hl : c.2.2.2.2.length ≤ 1000) (hw : ∀ x ∈ c.2.2.2.2, -9223372036854775808 ≤ x ∧ x ≤ 9223372036854775807) : Lp (fun k => CircuitFault14.l4 k c) 0 (if c.2.2.2.2.any bad1 then .inr (1, ()) else .inl ()) := by
  rw [← walk_bad (R := Unit ⊕ (Int × Unit))]
  refine Lp.walk (body := fun k => CircuitFault14.l4 k c) c.2.2.2.2 (fun (_ : Unit) i => i) _ _ (fun _ _ => True) (fun i x b hx _ => ⟨?_, fun _ _ => trivial⟩) (fun b _ => ?_) (b := ()) trivial
  · have hi := get_lt hx
    simp only [CircuitFault14.l4]
    have e := andNot_bad (hw x (get_mem hx)).1 (hw x (get_mem hx)).2
    refine .yes (decide_eq_true (by omega)) (.val (rd_some' hx) (.cnd (fun h => .now' ?_) (fun h => .now' ?_)))
    · rw [e] at h; rw [if_pos h]
    · rw [e] at h; rw [h, w64_id (by omega) (by omega)]; rfl
  · simp only [CircuitFault14.l4]
    exact .no (by simp) (.now _)

def large (c : Cir) : Bool := decide (c.1 < 0 ∨ c.1 > 10 ∨ c.2.1.length > 400 ∨ c.2.2.1.length > 10 ∨ c.2.2.2.1.length > 10)
theorem large_or (c : Cir) : cond (cond (cond (cond (decide (c.1 < 0)) true (decide (c.1 > 10))) true (decide ((List.length c.2.1 : Int) > 400))) true (decide ((List.length c.2.2.1 : Int) > 10))) true (decide ((List.length c.2.2.2.1 : Int) > 10)) = large c := by
  have e : ∀ a b : Bool, cond a true b = (a || b) := fun a b => by cases a <;> rfl
  simp only [e, large, ← Bool.decide_or]
  exact decide_eq_decide.2 (by omega)
def rest (c : Cir) : Int := if (c.2.2.1 ++ c.2.2.2.1).any (badX c) then 4 else if c.2.2.2.2.any bad1 then 1 else 0
def fault (c : Cir) : Int := if large c then 2 else if c.2.2.2.2.length ≠ c.2.2.2.1.length then 3 else match gatesW c with | .inr e => e.1 | .inl _ => rest c
theorem gatesW_inl (c : Cir) {a : Cir} (h : gatesW c = .inl a) : a = c := by
  have : ∀ (l : List Gate) (b : Nat), walk (gW c) (fun _ => (.inl c : Cir ⊕ (Int × Unit))) l b = .inl a → a = c := by
    intro l
    induction l with
    | nil => intro b h; exact (Sum.inl.inj h).symm
    | cons x l ih =>
      intro b h
      rw [walk_cons] at h
      unfold gW at h
      split at h
      · rename_i b' hb
        exact ih _ h
      · rename_i r hr
        split at hr
        · cases hr
        · cases hr; cases h
  exact this _ _ h
theorem ne_len (c : Cir) : ((List.length c.2.2.2.2 : Int) != (List.length c.2.2.2.1 : Int)) = decide (c.2.2.2.2.length ≠ c.2.2.2.1.length) := by
  rw [Bool.eq_iff_iff, bne_iff_ne, decide_eq_true_iff]; omega
end Go.Proofs.Ytjbdhaenakcclaa.St

/- Circuits of gates: the checks are one. No program in sight. -/
set_option linter.unusedVariables false
noncomputable section
namespace Go.Proofs.Ytjbdhaenakcclaa.St
open Go Go.Proofs.Ytjbdhaenakcclaa.Gp

theorem room_small {n : Nat} (h : n ≤ 1000) : room n 8 = true := room_ok (by omega)
theorem concat_ev (a b : List Int) (h : a.length + b.length ≤ 1000) : Ev (fun k => Concat59 k [a, b]) (a ++ b, ()) := by
  unfold Concat59
  refine .bind (a := (((a.length + b.length : Nat) : Int))) (Lp.ev ?_) (.bind (a := ((), [])) ?_ (.bind (a := ((), a ++ b)) (Lp.ev ?_) (.now _)))
  · refine Lp.step (s' := ((a.length : Int), 1)) ?_ (Lp.step (s' := (((a.length + b.length : Nat) : Int), 2)) ?_ (Lp.done ?_))
    · simp only [Concat59.l0]
      refine .yes (by simp) (.val (a := a) rfl ?_)
      simp only [w64_id (x := 0 + (a.length : Int)) (by omega) (by omega)]
      refine .val (a := ()) ?_ (.now' ?_)
      · rw [decide_eq_false (by omega)]; rfl
      · simp [w64_id]
    · simp only [Concat59.l0]
      refine .yes (by simp) (.val (a := b) rfl ?_)
      simp only [w64_id (x := (a.length : Int) + (b.length : Int)) (by omega) (by omega)]
      refine .val (a := ()) ?_ (.now' ?_)
      · rw [decide_eq_false (by omega)]; rfl
      · simp [w64_id]
    · simp only [Concat59.l0]
      exact .no (by simp) (.now _)
  · generalize hn : a.length + b.length = n
    have hn' : n ≤ 1000 := hn ▸ h
    unfold Grow112
    have e : w64 ((n : Int) - w64 (0 - 0)) = n := by
      rw [show w64 (0 - 0) = 0 from w64_id (by omega) (by omega), w64_id (by omega) (by omega)]; omega
    refine .val (a := ()) ?_ ?_
    · rw [decide_eq_false (by omega)]; rfl
    · simp only [e]
      refine .bind (a := ((), [])) ?_ (.now _)
      refine .iff (fun h1 => ?_) (fun _ => .now _)
      refine .val (a := ()) (by simp) (.val (a := ()) (by rw [if_pos ⟨h1, by omega⟩]) (.val (a := []) ?_ (.now _)))
      rw [show ((0 : Int)) = ((0 : Nat) : Int) from rfl, slc_ok (Nat.le_refl _) (Nat.zero_le _)]
      rfl
  · refine Lp.step (s' := ((), 1, a)) ?_ (Lp.step (s' := ((), 2, a ++ b)) ?_ (Lp.done ?_))
    · simp only [Concat59.l1]
      refine .yes (by simp) (.val (a := a) rfl (.val (a := ()) ?_ (.now' ?_)))
      · simp [room_small (n := a.length) (by omega)]
      · simp [w64_id]
    · simp only [Concat59.l1]
      refine .yes (by simp) (.val (a := b) rfl (.val (a := ()) ?_ (.now' ?_)))
      · simp [room_small (n := a.length + b.length) (by omega)]
      · simp [w64_id]
    · simp only [Concat59.l1]
      exact .no (by simp) (.now _)


theorem small_of {c : Cir} (h : large c = false) : 0 ≤ c.1 ∧ c.1 ≤ 10 ∧ c.2.1.length ≤ 400 ∧ c.2.2.1.length ≤ 10 ∧ c.2.2.2.1.length ≤ 10 := by
  unfold large at h
  have := of_decide_eq_false h
  omega
theorem check_ev (c : Cir) : Ev (fun k => Check18 k c) (fault c, ()) := by
  unfold Check18
  refine .cnd (fun h => ?_) (fun h => ?_)
  · rw [large_or] at h
    exact .now' (by unfold fault; rw [if_pos h])
  rw [large_or] at h
  obtain ⟨s0, s1, s2, s3, s4⟩ := small_of h
  refine .cnd (fun h2 => ?_) (fun h2 => ?_)
  · rw [ne_len] at h2
    exact .now' (by unfold fault; rw [h, if_neg (by simp), if_pos (of_decide_eq_true h2)])
  rw [ne_len] at h2
  have h2 := of_decide_eq_false h2
  have hf : fault c = match gatesW c with | .inr e => e.1 | .inl _ => rest c := by
    unfold fault; rw [h, if_neg (by simp), if_neg h2] <;> (cases gatesW c <;> rfl)
  have hi : c.2.2.2.2.length ≤ 10 := by
    by_cases h3 : c.2.2.2.2.length = c.2.2.2.1.length
    · omega
    · exact absurd h3 h2
  refine .join (check_gates c s2).ev (fun a ha => ?_) (fun r hr => ?_)
  · obtain rfl := gatesW_inl c ha
    rw [ha] at hf
    rw [hf]
    refine .bind (concat_ev a.2.2.1 a.2.2.2.1 (by omega)) ?_
    have h1 := check_range a (a.2.2.1 ++ a.2.2.2.1) (by rw [List.length_append]; omega)
    have h3 := check_init a (by omega)
    unfold rest
    cases e1 : (a.2.2.1 ++ a.2.2.2.1).any (badX a) with
    | true => rw [e1] at h1; exact .joinR h1.ev
    | false =>
      rw [e1] at h1
      refine .joinL (S := Unit) h1.ev ?_
      cases e2 : a.2.2.2.2.any bad1 with
      | true => rw [e2] at h3; exact .joinR h3.ev
      | false => rw [e2] at h3; exact .joinL (S := Unit) (a := ()) h3.ev (.now _)
  · rw [hf, hr]
theorem cfault_ev (c : Cir) (hw : ∀ x ∈ c.2.2.2.2, -9223372036854775808 ≤ x ∧ x ≤ 9223372036854775807) : Ev (fun k => CircuitFault14 k c) (fault c, ()) := by
  unfold CircuitFault14
  refine .cnd (fun h => ?_) (fun h => ?_)
  · rw [large_or] at h
    exact .now' (by unfold fault; rw [if_pos h])
  rw [large_or] at h
  obtain ⟨s0, s1, s2, s3, s4⟩ := small_of h
  refine .cnd (fun h2 => ?_) (fun h2 => ?_)
  · rw [ne_len] at h2
    exact .now' (by unfold fault; rw [h, if_neg (by simp), if_pos (of_decide_eq_true h2)])
  rw [ne_len] at h2
  have h2 := of_decide_eq_false h2
  have hf : fault c = match gatesW c with | .inr e => e.1 | .inl _ => rest c := by
    unfold fault; rw [h, if_neg (by simp), if_neg h2] <;> (cases gatesW c <;> rfl)
  have hi : c.2.2.2.2.length ≤ 10 := by
    by_cases h3 : c.2.2.2.2.length = c.2.2.2.1.length
    · omega
    · exact absurd h3 h2
  refine .join (fault_gates c s2 s0 s1 s4).ev (fun a ha => ?_) (fun r hr => ?_)
  · obtain rfl := gatesW_inl c ha
    rw [ha] at hf
    rw [hf]
    have h1 := fault_range a s3 s4
    have h3 := fault_init a (by omega) hw
    unfold rest
    cases e1 : (a.2.2.1 ++ a.2.2.2.1).any (badX a) with
    | true => rw [e1] at h1; exact .joinR h1.ev
    | false =>
      rw [e1] at h1
      refine .joinL (S := Unit) h1.ev ?_
      cases e2 : a.2.2.2.2.any bad1 with
      | true => rw [e2] at h3; exact .joinR h3.ev
      | false => rw [e2] at h3; exact .joinL (S := Unit) (a := ()) h3.ev (.now _)
  · rw [hf, hr]

/-- a right circuit -/
structure Right (c : Cir) : Prop where
  ins : 0 ≤ c.1 ∧ c.1 ≤ 10
  gates : c.2.1.length ≤ 400
  outs : c.2.2.1.length ≤ 10 ∧ ∀ x ∈ c.2.2.1, 0 ≤ x ∧ x < (c.2.1.length : Int)
  next : c.2.2.2.1.length ≤ 10 ∧ ∀ x ∈ c.2.2.2.1, 0 ≤ x ∧ x < (c.2.1.length : Int)
  gate : ∀ (i : Nat) (g : Gate), c.2.1[i]? = some g → oneF c i g = 0
theorem right_of (c : Cir) (h : fault c = 0) : Right c := by
  unfold fault at h
  split at h
  · omega
  rename_i hl
  have hl : large c = false := by simpa using hl
  obtain ⟨s0, s1, s2, s3, s4⟩ := small_of hl
  split at h
  · omega
  have hone : ∀ (l : List Gate) (b : Nat), (∀ r, walk (gW c) (fun _ => (.inl c : Cir ⊕ (Int × Unit))) l b = .inr r → r.1 ≠ 0) ∧ ((∃ a, walk (gW c) (fun _ => (.inl c : Cir ⊕ (Int × Unit))) l b = .inl a) → ∀ (i : Nat) (g : Gate), l[i]? = some g → oneF c ((b + i : Nat) : Int) g = 0) := by
    intro l
    induction l with
    | nil => intro b; exact ⟨fun r hr => (by cases hr), fun _ i g hg => (by simp at hg)⟩
    | cons x l ih =>
      intro b
      rw [walk_cons]
      unfold gW
      by_cases h0 : oneF c b x = 0
      · rw [if_pos h0]
        refine ⟨(ih (b + 1)).1, fun ha i g hg => ?_⟩
        cases i with
        | zero =>
          have : x = g := by simpa using hg
          rw [← this]; exact h0
        | succ i =>
          have := (ih (b + 1)).2 ha i g (by simpa using hg)
          rwa [show b + 1 + i = b + (i + 1) by omega] at this
      · rw [if_neg h0]
        exact ⟨fun r hr => (by cases hr; exact h0), fun ⟨a, ha⟩ => (by cases ha)⟩
  cases hg : gatesW c with
  | inr r =>
    rw [hg] at h
    exact absurd h ((hone c.2.1 0).1 r hg)
  | inl a =>
    rw [hg] at h
    have h : rest c = 0 := h
    unfold rest at h
    split at h
    · omega
    rename_i hr
    have hr : ∀ x ∈ c.2.2.1 ++ c.2.2.2.1, 0 ≤ x ∧ x < (c.2.1.length : Int) := by
      intro x hx
      have : (c.2.2.1 ++ c.2.2.2.1).any (badX c) = false := by simpa using hr
      rw [List.any_eq_false] at this
      have := this x hx
      unfold badX at this
      simp only [decide_eq_true_eq] at this
      omega
    exact ⟨⟨s0, s1⟩, s2, ⟨s3, fun x hx => hr x (List.mem_append_left _ hx)⟩, ⟨s4, fun x hx => hr x (List.mem_append_right _ hx)⟩, fun i g hgi => by
      have := (hone c.2.1 0).2 ⟨a, hg⟩ i g hgi
      rwa [Nat.zero_add] at this⟩
end Go.Proofs.Ytjbdhaenakcclaa.St

/- Circuits of gates: the values of all gates. No program in sight. -/
set_option linter.unusedVariables false
noncomputable section
namespace Go.Proofs.Ytjbdhaenakcclaa.St
open Go Go.Proofs.Ytjbdhaenakcclaa.Gp

/-- the value of a gate behind others -/
def valG (st inn : Int) (v : List Nat) (g : Gate) : Nat :=
  if g.1 = 0 then g.2.2.2.2.toNat else
  if g.1 = 1 then bitOf (shrI .i64 inn g.2.2.2.2) else
  if g.1 = 2 then bitOf (shrI .i64 st g.2.2.2.2) else
  if g.1 = 3 then 1 - v.getD g.2.1.toNat 0 else
  if g.1 = 4 then v.getD g.2.1.toNat 0 &&& v.getD g.2.2.1.toNat 0 else
  if g.1 = 5 then v.getD g.2.1.toNat 0 ||| v.getD g.2.2.1.toNat 0 else
  if g.1 = 6 then v.getD g.2.1.toNat 0 ^^^ v.getD g.2.2.1.toNat 0 else
  if v.getD g.2.1.toNat 0 = 1 then v.getD g.2.2.1.toNat 0 else v.getD g.2.2.2.1.toNat 0
def vS (st inn : Int) (v : List Nat) (g : Gate) : List Nat := v ++ [valG st inn v g]
def vals (st inn : Int) (l : List Gate) : List Nat := l.foldl (vS st inn) []
theorem vals_snoc (st inn : Int) (l : List Gate) (g : Gate) : vals st inn (l ++ [g]) = vals st inn l ++ [valG st inn (vals st inn l) g] := by
  unfold vals; rw [List.foldl_append]; rfl
theorem vals_len (st inn : Int) (l : List Gate) : (vals st inn l).length = l.length := by
  have : ∀ (l : List Gate) (v : List Nat), (l.foldl (vS st inn) v).length = v.length + l.length := by
    intro l
    induction l with
    | nil => intro v; rfl
    | cons x l ih => intro v; rw [List.foldl_cons, ih]; simp [vS]; omega
  unfold vals; rw [this]; simp
theorem leg_ok {i n k x : Int} (h : leg i n k x = 0) (hk : k < n) : 0 ≤ x ∧ x < i := by
  unfold leg at h
  split at h
  · omega
  · rename_i h1
    by_cases h2 : x < 0 ∨ x ≥ i
    · exact absurd ⟨hk, h2⟩ h1
    · omega
/-- what a right gate's parts are -/
theorem gate_ok {c : Cir} {i : Int} {g : Gate} (h : oneF c i g = 0) : ¬ (g.1 < 0 ∨ g.1 > 7) ∧ (0 < needs g.1 → 0 ≤ g.2.1 ∧ g.2.1 < i) ∧ (1 < needs g.1 → 0 ≤ g.2.2.1 ∧ g.2.2.1 < i) ∧ (2 < needs g.1 → 0 ≤ g.2.2.2.1 ∧ g.2.2.2.1 < i) ∧ 0 ≤ g.2.2.2.2 ∧ g.2.2.2.2 < mostN c g.1 := by
  unfold oneF at h
  split at h
  · omega
  rename_i hk
  split at h
  · omega
  rename_i hl
  have hl : legs i g = 0 := by
    by_cases h0 : legs i g = 0
    · exact h0
    · exact absurd h0 hl
  split at h
  · omega
  rename_i hN
  unfold legs at hl
  split at hl
  · rename_i h0; exact absurd hl h0
  rename_i h0
  split at hl
  · rename_i h1; exact absurd hl h1
  rename_i h1
  have h0 : leg i (needs g.1) 0 g.2.1 = 0 := by
    by_cases h : leg i (needs g.1) 0 g.2.1 = 0
    · exact h
    · exact absurd h h0
  have h1 : leg i (needs g.1) 1 g.2.2.1 = 0 := by
    by_cases h : leg i (needs g.1) 1 g.2.2.1 = 0
    · exact h
    · exact absurd h h1
  exact ⟨hk, leg_ok h0, leg_ok h1, leg_ok hl, by omega, by omega⟩
theorem bits2 {a b : Nat} (ha : a ≤ 1) (hb : b ≤ 1) : (a &&& b) ≤ 1 ∧ (a ||| b) ≤ 1 ∧ (a ^^^ b) ≤ 1 := by
  have : ∀ a < 2, ∀ b < 2, (a &&& b) ≤ 1 ∧ (a ||| b) ≤ 1 ∧ (a ^^^ b) ≤ 1 := by decide
  exact this a (by omega) b (by omega)
theorem getD_le {v : List Nat} (h : ∀ b ∈ v, b ≤ 1) (j : Nat) : v.getD j 0 ≤ 1 := by
  rw [List.getD_eq_getElem?_getD]
  cases hj : v[j]? with
  | none => simp
  | some b => exact h b (get_mem hj)
theorem valG_le {c : Cir} {i : Int} {g : Gate} (hg : oneF c i g = 0) (st inn : Int) {v : List Nat} (h : ∀ b ∈ v, b ≤ 1) : valG st inn v g ≤ 1 := by
  obtain ⟨_, _, _, _, h0, h1⟩ := gate_ok hg
  have b2 := bits2 (getD_le h g.2.1.toNat) (getD_le h g.2.2.1.toNat)
  unfold valG
  split
  · rename_i hk; rw [hk] at h1; have : mostN c 0 = 2 := rfl; omega
  split
  · exact (bit_and _).2
  split
  · exact (bit_and _).2
  split
  · omega
  split
  · exact b2.1
  split
  · exact b2.2.1
  split
  · exact b2.2.2
  split
  · exact getD_le h _
  · exact getD_le h _

def ints (v : List Nat) : List Int := v.map (fun (b : Nat) => (b : Int))
/-- what the row holds behind the values that are known -/
def rowOf (v : List Nat) (n : Nat) : List Int := ints v ++ List.replicate (n - v.length) 0
theorem rowOf_at {v : List Nat} {n j : Nat} (h : j < v.length) : (rowOf v n)[j]? = some ((v.getD j 0 : Nat) : Int) := by
  unfold rowOf ints
  rw [List.getElem?_append_left (by simpa using h), List.getElem?_map, List.getD_eq_getElem?_getD, List.getElem?_eq_getElem h]
  rfl
theorem rowOf_next {v : List Nat} {n : Nat} (h : v.length < n) : (rowOf v n)[v.length]? = some 0 := by
  unfold rowOf ints
  rw [List.getElem?_append_right (by simp), List.length_map, Nat.sub_self, List.getElem?_replicate, if_pos (by omega)]
theorem rowOf_set {v : List Nat} {n : Nat} (h : v.length < n) (x : Nat) : (rowOf v n).set v.length (x : Int) = rowOf (v ++ [x]) n := by
  unfold rowOf ints
  rw [List.set_append_right _ _ (by simp), List.length_map, Nat.sub_self, List.map_append, List.length_append, List.append_assoc]
  congr 1
  obtain ⟨m, hm⟩ : ∃ m, n - v.length = m + 1 := ⟨n - v.length - 1, by omega⟩
  rw [hm, show n - (v.length + [x].length) = m by simp; omega]
  rfl
theorem rd_z {l : List Int} {z : Int} {x : Int} (h0 : 0 ≤ z) (h : l[z.toNat]? = some x) : rd l z = some x := rd_at (i := z.toNat) (by omega) h
end Go.Proofs.Ytjbdhaenakcclaa.St

/- Circuits of gates: the values of all gates, forwards. No program in sight. -/
set_option linter.unusedVariables false
noncomputable section
namespace Go.Proofs.Ytjbdhaenakcclaa.St
open Go Go.Proofs.Ytjbdhaenakcclaa.Gp

theorem int_bit {a : Nat} (h : a ≤ 1) : a < 9223372036854775808 := by omega
theorem values_step (c : Cir) (st inn : Int) (i : Nat) (g : Gate) (b : List Nat) (hx : c.2.1[i]? = some g) (hg : oneF c i g = 0) (hb : b.length = i) (h1 : ∀ x ∈ b, x ≤ 1) (hn : c.2.1.length ≤ 400) :
    Ev (fun k => values69.l0 k c st inn ((), (i : Int), rowOf b c.2.1.length)) (.inl ((), (i : Int) + 1, rowOf (vS st inn b g) c.2.1.length)) := by
  have hi := get_lt hx
  obtain ⟨hk, hA, hB, hC, hN0, hN1⟩ := gate_ok hg
  have hne : (rowOf b c.2.1.length)[i]? = some 0 := by rw [← hb]; exact rowOf_next (by omega)
  have hr : rd (rowOf b c.2.1.length) (i : Int) = some 0 := rd_some' hne
  have hlen : i < (rowOf b c.2.1.length).length := get_lt hne
  have hset : ∀ x : Nat, (rowOf b c.2.1.length).set (Int.toNat (i : Int)) (x : Int) = rowOf (b ++ [x]) c.2.1.length := fun x => by
    rw [Int.toNat_natCast, ← hb]; exact rowOf_set (by omega) x
  have hget : ∀ z : Int, 0 ≤ z → z < (i : Int) → rd (rowOf b c.2.1.length) z = some ((b.getD z.toNat 0 : Nat) : Int) := fun z h0 h2 => rd_z h0 (rowOf_at (by omega))
  simp only [values69.l0]
  refine .yes (decide_eq_true (by omega)) (.val (rd_some' hx) (.bind (a := ((), rowOf (vS st inn b g) c.2.1.length)) ?_ (.now' (by rw [w64_id (by omega) (by omega)]))))
  obtain ⟨kd, A, B, C, N⟩ := g
  have lA := getD_le h1 A.toNat
  have lB := getD_le h1 B.toNat
  have lC := getD_le h1 C.toNat
  dsimp only at hk hA hB hC hN0 hN1 ⊢
  rcases kinds hk with rfl | rfl | rfl | rfl | rfl | rfl | rfl | rfl
  · refine .yes rfl (.val hr (.val hr (.now' ?_)))
    rw [show N = ((N.toNat : Nat) : Int) by omega, hset]; rfl
  · refine .no rfl (.bind (a := ((), _)) (.yes rfl (.val (a := shrI .i64 inn N) (by rw [if_neg (by omega)]) (.val hr (.val hr (.now' ?_))))) (.now _))
    rw [(bit_and _).1, hset]; rfl
  · refine .no rfl (.bind (a := ((), _)) (.no rfl (.bind (a := ((), _)) (.yes rfl (.val (a := shrI .i64 st N) (by rw [if_neg (by omega)]) (.val hr (.val hr (.now' ?_))))) (.now _))) (.now _))
    rw [(bit_and _).1, hset]; rfl
  · have a1 := hget A (hA (by decide)).1 (hA (by decide)).2
    refine .no rfl (.bind (a := ((), _)) (.no rfl (.bind (a := ((), _)) (.no rfl (.bind (a := ((), _)) (.yes rfl (.val a1 (.val a1 (.val hr (.val hr (.now' ?_)))))) (.now _))) (.now _))) (.now _))
    rw [w64_id (by omega) (by omega), show (1 : Int) - ((b.getD A.toNat 0 : Nat) : Int) = ((1 - b.getD A.toNat 0 : Nat) : Int) by omega, hset]; rfl
  · have a1 := hget A (hA (by decide)).1 (hA (by decide)).2
    have a2 := hget B (hB (by decide)).1 (hB (by decide)).2
    refine .no rfl (.bind (a := ((), _)) (.no rfl (.bind (a := ((), _)) (.no rfl (.bind (a := ((), _)) (.no rfl (.bind (a := ((), _)) (.yes rfl (.val a1 (.val a1 (.val a2 (.val a2 (.val hr (.val hr (.now' ?_)))))))) (.now _))) (.now _))) (.now _))) (.now _))
    rw [ibits_and (int_bit lA) (int_bit lB), hset]; rfl
  · have a1 := hget A (hA (by decide)).1 (hA (by decide)).2
    have a2 := hget B (hB (by decide)).1 (hB (by decide)).2
    refine .no rfl (.bind (a := ((), _)) (.no rfl (.bind (a := ((), _)) (.no rfl (.bind (a := ((), _)) (.no rfl (.bind (a := ((), _)) (.no rfl (.bind (a := ((), _)) (.yes rfl (.val a1 (.val a1 (.val a2 (.val a2 (.val hr (.val hr (.now' ?_)))))))) (.now _))) (.now _))) (.now _))) (.now _))) (.now _))
    rw [ibits_or (int_bit lA) (int_bit lB), hset]; rfl
  · have a1 := hget A (hA (by decide)).1 (hA (by decide)).2
    have a2 := hget B (hB (by decide)).1 (hB (by decide)).2
    refine .no rfl (.bind (a := ((), _)) (.no rfl (.bind (a := ((), _)) (.no rfl (.bind (a := ((), _)) (.no rfl (.bind (a := ((), _)) (.no rfl (.bind (a := ((), _)) (.no rfl (.bind (a := ((), _)) (.yes rfl (.val a1 (.val a1 (.val a2 (.val a2 (.val hr (.val hr (.now' ?_)))))))) (.now _))) (.now _))) (.now _))) (.now _))) (.now _))) (.now _))
    rw [ibits_xor (int_bit lA) (int_bit lB), hset]; rfl
  · have a1 := hget A (hA (by decide)).1 (hA (by decide)).2
    have a2 := hget B (hB (by decide)).1 (hB (by decide)).2
    have a3 := hget C (hC (by decide)).1 (hC (by decide)).2
    have hA' := hA (by decide)
    have hB' := hB (by decide)
    have b1 : ∀ x : Int, rd ((rowOf b c.2.1.length).set (Int.toNat (i : Int)) x) A = some ((b.getD A.toNat 0 : Nat) : Int) := fun x => by
      refine rd_z hA'.1 ?_
      rw [Int.toNat_natCast, List.getElem?_set_ne (by omega)]
      exact rowOf_at (by omega)
    have b2 : ∀ x : Int, rd ((rowOf b c.2.1.length).set (Int.toNat (i : Int)) x) B = some ((b.getD B.toNat 0 : Nat) : Int) := fun x => by
      refine rd_z hB'.1 ?_
      rw [Int.toNat_natCast, List.getElem?_set_ne (by omega)]
      exact rowOf_at (by omega)
    have b3 : ∀ x : Int, rd ((rowOf b c.2.1.length).set (Int.toNat (i : Int)) x) (i : Int) = some x := fun x => by
      rw [Int.toNat_natCast]
      exact rd_some' (List.getElem?_set_self hlen)
    refine .no rfl (.bind (a := ((), _)) (.no rfl (.bind (a := ((), _)) (.no rfl (.bind (a := ((), _)) (.no rfl (.bind (a := ((), _)) (.no rfl (.bind (a := ((), _)) (.no rfl (.bind (a := ((), _)) (.no rfl (.bind (a := ((), _)) (.yes rfl (.val a3 (.val a3 (.val hr (.val hr (.val (b1 _) (.val (b1 _) (.bind (a := ((), _)) ?_ (.now _))))))))) (.now _))) (.now _))) (.now _))) (.now _))) (.now _))) (.now _))) (.now _))
    by_cases hv : b.getD A.toNat 0 = 1
    · refine .yes (by rw [hv]; rfl) (.val (b2 _) (.val (b2 _) (.val (b3 _) (.val (b3 _) (.now' ?_)))))
      rw [List.set_set, hset]
      show ((), rowOf (b ++ [_]) _) = ((), rowOf (b ++ [valG st inn b (7, A, B, C, N)]) _)
      rw [show valG st inn b (7, A, B, C, N) = b.getD B.toNat 0 from if_pos hv]
    · refine .no (by rw [beq_eq_false_iff_ne]; omega) (.now' ?_)
      rw [hset]
      show ((), rowOf (b ++ [_]) _) = ((), rowOf (b ++ [valG st inn b (7, A, B, C, N)]) _)
      rw [show valG st inn b (7, A, B, C, N) = b.getD C.toNat 0 from if_neg hv]

theorem vals_le {c : Cir} (hR : Right c) (st inn : Int) : ∀ (i : Nat), i ≤ c.2.1.length → ∀ x ∈ vals st inn (c.2.1.take i), x ≤ 1
  | 0, _, x, hx => by simp [vals] at hx
  | i + 1, h, x, hx => by
    have ih := vals_le hR st inn i (by omega)
    have hg := List.getElem?_eq_getElem (show i < c.2.1.length by omega)
    rw [List.take_add_one, hg, Option.toList_some, vals_snoc, List.mem_append] at hx
    rcases hx with hx | hx
    · exact ih x hx
    · rw [List.mem_singleton] at hx
      rw [hx]
      exact valG_le (hR.gate i _ hg) st inn ih
theorem values_ev {c : Cir} (hR : Right c) (st inn : Int) : Ev (fun k => values69 k c st inn) (ints (vals st inn c.2.1), ()) := by
  unfold values69
  refine .val (a := ()) (by rw [if_pos ⟨by omega, by omega, by have := hR.gates; omega⟩]) (.bind (a := ((), rowOf (vals st inn c.2.1) c.2.1.length)) (Lp.ev ?_) (.now' ?_))
  · refine Lp.fold (body := fun k => values69.l0 k c st inn) c.2.1 (fun b i => ((), i, rowOf b c.2.1.length)) (vS st inn) (fun b => ((), rowOf b c.2.1.length)) (fun i b => b = vals st inn (c.2.1.take i)) (fun i g b hx hb => ⟨?_, ?_⟩) (fun b _ => ?_) (b := []) rfl
    · have hi := get_lt hx
      exact values_step c st inn i g b hx (hR.gate i g hx) (by rw [hb, vals_len, List.length_take]; omega) (by rw [hb]; exact vals_le hR st inn i (by omega)) hR.gates
    · rw [List.take_add_one, hx, Option.toList_some, vals_snoc, ← hb]; rfl
    · simp only [values69.l0]
      exact .no (by simp) (.now _)
  · unfold rowOf
    rw [vals_len, Nat.sub_self]
    simp
end Go.Proofs.Ytjbdhaenakcclaa.St

/- Circuits of gates: the value of a gate, backwards, with what is known already. No program in sight. -/
set_option linter.unusedVariables false
noncomputable section
namespace Go.Proofs.Ytjbdhaenakcclaa.St
open Go Go.Proofs.Ytjbdhaenakcclaa.Gp

theorem Ev.succ {α : Type} {f : Nat → Option α} {v : α} (h : Ev (fun k => f (k + 1)) v) : Ev f v := by
  obtain ⟨n, h⟩ := h
  refine ⟨n + 1, fun k hk => ?_⟩
  obtain ⟨j, rfl⟩ : ∃ j, k = j + 1 := ⟨k - 1, by omega⟩
  exact h j (by omega)

/-- the value of the j-th -/
def V (c : Cir) (st inn : Int) (j : Nat) : Nat := (vals st inn c.2.1).getD j 0
theorem vals_app (st inn : Int) (l1 l2 : List Gate) : ∃ t, vals st inn (l1 ++ l2) = vals st inn l1 ++ t := by
  have : ∀ (l : List Gate) (v : List Nat), ∃ t, l.foldl (vS st inn) v = v ++ t := by
    intro l
    induction l with
    | nil => intro v; exact ⟨[], by simp⟩
    | cons x l ih =>
      intro v
      obtain ⟨t, ht⟩ := ih (vS st inn v x)
      exact ⟨[valG st inn v x] ++ t, by rw [List.foldl_cons, ht]; unfold vS; rw [List.append_assoc]⟩
  unfold vals
  rw [List.foldl_append]
  exact this l2 _
theorem V_pre (c : Cir) (st inn : Int) {i j : Nat} (hj : j < i) (hi : i ≤ c.2.1.length) : (vals st inn (c.2.1.take i)).getD j 0 = V c st inn j := by
  obtain ⟨t, ht⟩ := vals_app st inn (c.2.1.take i) (c.2.1.drop i)
  rw [List.take_append_drop] at ht
  unfold V
  rw [ht, List.getD_eq_getElem?_getD, List.getD_eq_getElem?_getD, List.getElem?_append_left (by rw [vals_len, List.length_take]; omega)]
theorem V_at (c : Cir) (st inn : Int) {i : Nat} {g : Gate} (h : c.2.1[i]? = some g) : V c st inn i = valG st inn (vals st inn (c.2.1.take i)) g := by
  have hi := get_lt h
  rw [← V_pre c st inn (Nat.lt_succ_self i) (by omega), List.take_add_one, h, Option.toList_some, vals_snoc, List.getD_eq_getElem?_getD, List.getElem?_append_right (by rw [vals_len, List.length_take]; omega)]
  have : i - (vals st inn (c.2.1.take i)).length = 0 := by rw [vals_len, List.length_take]; omega
  rw [this]; rfl
theorem V_le {c : Cir} (hR : Right c) (st inn : Int) (j : Nat) : V c st inn j ≤ 1 := by
  have := vals_le hR st inn c.2.1.length (Nat.le_refl _)
  rw [List.take_length] at this
  exact getD_le this j

theorem b_xor1 {a : Nat} (h : a ≤ 1) : ibits .xor .i64 (a : Int) 1 = ((1 - a : Nat) : Int) := by
  have : a = 0 ∨ a = 1 := by omega
  rcases this with rfl | rfl <;> rfl
theorem b_mn {a b : Nat} (h : a ≤ 1) (h2 : b ≤ 1) : mnI (a : Int) (b : Int) = ((a &&& b : Nat) : Int) := by
  have h : a = 0 ∨ a = 1 := by omega
  have h2 : b = 0 ∨ b = 1 := by omega
  rcases h with rfl | rfl <;> rcases h2 with rfl | rfl <;> rfl
theorem b_mx {a b : Nat} (h : a ≤ 1) (h2 : b ≤ 1) : mxI (a : Int) (b : Int) = ((a ||| b : Nat) : Int) := by
  have h : a = 0 ∨ a = 1 := by omega
  have h2 : b = 0 ∨ b = 1 := by omega
  rcases h with rfl | rfl <;> rcases h2 with rfl | rfl <;> rfl
theorem b_xor {a b : Nat} (h : a ≤ 1) (h2 : b ≤ 1) : Int.tmod (w64 ((a : Int) + (b : Int))) 2 = ((a ^^^ b : Nat) : Int) := by
  have h : a = 0 ∨ a = 1 := by omega
  have h2 : b = 0 ∨ b = 1 := by omega
  rcases h with rfl | rfl <;> rcases h2 with rfl | rfl <;> rfl

abbrev Map := List (Int × Int)
def RightM (c : Cir) (st inn : Int) (m : Map) : Prop := ∀ (k x : Int), mget (.int .i64) (.int .i64) m k = some x → ∃ j : Nat, k = j ∧ j < c.2.1.length ∧ x = ((V c st inn j : Nat) : Int)
theorem RightM.put {c : Cir} {st inn : Int} {m : Map} (h : RightM c st inn m) {i : Nat} (hi : i < c.2.1.length) : RightM c st inn (mput (.int .i64) (.int .i64) m (i : Int) ((V c st inn i : Nat) : Int)) := by
  intro k x hx
  have hx := (mget_mput (kk := .int .i64) (kv := .int .i64) rfl).symm.trans hx
  by_cases he : eqB (.int .i64) k (i : Int) = true
  · have : k = (i : Int) := (eqB_iff (k := .int .i64) rfl).1 he
    have hx := (if_pos he).symm.trans hx
    exact ⟨i, this, hi, (Option.some.inj hx).symm⟩
  · exact h k x ((if_neg he).symm.trans hx)
theorem RightM.nil (c : Cir) (st inn : Int) : RightM c st inn [] := fun k x h => by cases h

theorem value_ev {c : Cir} (hR : Right c) (st inn : Int) : ∀ (n i : Nat), i < n → i < c.2.1.length → ∀ m, RightM c st inn m → ∃ m', RightM c st inn m' ∧ Ev (fun k => Value19 k c st inn (i : Int) () m) (((V c st inn i : Nat) : Int), m') := by
  intro n
  induction n with
  | zero => intro i h; omega
  | succ n ih =>
    intro i hin hi m hm
    obtain ⟨g, hx⟩ : ∃ g, c.2.1[i]? = some g := ⟨_, List.getElem?_eq_getElem hi⟩
    have call : ∀ (z : Int), 0 ≤ z → z < (i : Int) → ∀ m, RightM c st inn m → ∃ m', RightM c st inn m' ∧ Ev (fun k => (GrpValue19 k).1 z c st inn () () m) (((V c st inn z.toNat : Nat) : Int), (), m') := by
      intro z h0 h1 m hm
      obtain ⟨m', r, e⟩ := ih z.toNat (by omega) (by omega) m hm
      refine ⟨m', r, Ev.succ ?_⟩
      rw [show ((z.toNat : Nat) : Int) = z by omega] at e
      exact .bind e (.now _)
    cases hk : mget (.int .i64) (.int .i64) m (i : Int) with
    | some x =>
      obtain ⟨j, e, _, rfl⟩ := hm _ _ hk
      have : j = i := by omega
      subst this
      refine ⟨m, hm, Ev.succ ?_⟩
      show Ev (fun k => Value19.b (GrpValue19 k) k c st inn (j : Int) () m) _
      simp only [Value19.b, hk]
      exact .yes rfl (.now _)
    | none =>
      have hgo := hR.gate i g hx
      obtain ⟨hkd, hA, hB, hC, hN0, hN1⟩ := gate_ok hgo
      have hV := V_at c st inn hx
      have pre : ∀ z : Int, 0 ≤ z → z < (i : Int) → (vals st inn (c.2.1.take i)).getD z.toNat 0 = V c st inn z.toNat := fun z h0 h1 => V_pre c st inn (by omega) (by omega)
      have le := V_le hR st inn
      obtain ⟨kd, A, B, C, N⟩ := g
      dsimp only at hkd hA hB hC hN0 hN1
      have start : ∀ m', RightM c st inn m' → (Ev (fun k => (Value19.b (GrpValue19 k) k c st inn (i : Int) () m)) (((V c st inn i : Nat) : Int), mput (.int .i64) (.int .i64) m' (i : Int) ((V c st inn i : Nat) : Int))) →
          ∃ m', RightM c st inn m' ∧ Ev (fun k => Value19 k c st inn (i : Int) () m) (((V c st inn i : Nat) : Int), m') := fun m' h e => ⟨_, h.put hi, Ev.succ e⟩
      rcases kinds hkd with rfl | rfl | rfl | rfl | rfl | rfl | rfl | rfl
      · have hv : ((V c st inn i : Nat) : Int) = N := by rw [hV]; show ((N.toNat : Nat) : Int) = N; omega
        refine start m hm ?_
        simp only [Value19.b, hk]
        refine .no rfl (.val (rd_some' hx) (.bind (a := ((), ((V c st inn i : Nat) : Int), m, ())) ?_ (.now _)))
        exact .yes rfl (.now' (by rw [hv]))
      · have hv : ((V c st inn i : Nat) : Int) = ibits .and .i64 (shrI .i64 inn N) 1 := by rw [hV, (bit_and _).1]; rfl
        refine start m hm ?_
        simp only [Value19.b, hk]
        refine .no rfl (.val (rd_some' hx) (.bind (a := ((), ((V c st inn i : Nat) : Int), m, ())) ?_ (.now _)))
        refine .no rfl (.bind (a := (st, inn, (), ((1 : Int), A, B, C, N), (c, st, inn, (), ()), true, m, ())) (.yes rfl (.now _)) ?_)
        dsimp only
        refine .bind (a := ((), ((V c st inn i : Nat) : Int), m, ())) (.yes rfl (.val (a := shrI .i64 inn N) ?_ (.now' (by rw [hv])))) (.now _)
        exact if_neg (by omega)
      · have hv : ((V c st inn i : Nat) : Int) = ibits .and .i64 (shrI .i64 st N) 1 := by rw [hV, (bit_and _).1]; rfl
        refine start m hm ?_
        simp only [Value19.b, hk]
        refine .no rfl (.val (rd_some' hx) (.bind (a := ((), ((V c st inn i : Nat) : Int), m, ())) ?_ (.now _)))
        refine .no rfl (.bind (a := (st, inn, (), ((2 : Int), A, B, C, N), (c, st, inn, (), ()), true, m, ())) (.no rfl (.now _)) ?_)
        dsimp only
        refine .bind (a := ((), ((V c st inn i : Nat) : Int), m, ())) (.yes rfl (.val (a := shrI .i64 st N) ?_ (.now' (by rw [hv])))) (.now _)
        exact if_neg (by omega)
      · skip
        obtain ⟨m1, r1, e1⟩ := call A (hA (by decide)).1 (hA (by decide)).2 m hm
        have pA := pre A (hA (by decide)).1 (hA (by decide)).2
        have hv : ((V c st inn i : Nat) : Int) = ibits .xor .i64 ((V c st inn A.toNat : Nat) : Int) 1 := by
          rw [hV, b_xor1 (le _), ← pA]; rfl
        refine start m1 r1 ?_
        simp only [Value19.b, hk]
        refine .no rfl (.val (rd_some' hx) (.bind (a := ((), ((V c st inn i : Nat) : Int), m1, ())) ?_ (.now _)))
        refine .no rfl (.bind (a := (st, inn, (), ((3 : Int), A, B, C, N), (c, st, inn, (), ()), false, m, ())) (.no rfl (.now _)) ?_)
        dsimp only
        refine .bind (a := ((), ((V c st inn i : Nat) : Int), m1, ())) (.no rfl (.bind (a := ((), ((V c st inn i : Nat) : Int), m1, ())) (.yes rfl (.bind e1 (.now' (by rw [hv])))) (.now _))) (.now _)
      · skip
        obtain ⟨m1, r1, e1⟩ := call A (hA (by decide)).1 (hA (by decide)).2 m hm
        have pA := pre A (hA (by decide)).1 (hA (by decide)).2
        obtain ⟨m2, r2, e2⟩ := call B (hB (by decide)).1 (hB (by decide)).2 m1 r1
        have pB := pre B (hB (by decide)).1 (hB (by decide)).2
        have hv : ((V c st inn i : Nat) : Int) = mnI ((V c st inn A.toNat : Nat) : Int) ((V c st inn B.toNat : Nat) : Int) := by
          rw [hV, b_mn (le _) (le _), ← pA, ← pB]; rfl
        refine start m2 r2 ?_
        simp only [Value19.b, hk]
        refine .no rfl (.val (rd_some' hx) (.bind (a := ((), ((V c st inn i : Nat) : Int), m2, ())) ?_ (.now _)))
        refine .no rfl (.bind (a := (st, inn, (), ((4 : Int), A, B, C, N), (c, st, inn, (), ()), false, m, ())) (.no rfl (.now _)) ?_)
        dsimp only
        refine .bind (a := ((), ((V c st inn i : Nat) : Int), m2, ())) (.no rfl (.bind (a := ((), ((V c st inn i : Nat) : Int), m2, ())) (.no rfl (.bind (a := ((), ((V c st inn i : Nat) : Int), m2, ())) (.yes rfl (.bind e1 (.bind e2 (.now' (by rw [hv]))))) (.now _))) (.now _))) (.now _)
      · skip
        obtain ⟨m1, r1, e1⟩ := call A (hA (by decide)).1 (hA (by decide)).2 m hm
        have pA := pre A (hA (by decide)).1 (hA (by decide)).2
        obtain ⟨m2, r2, e2⟩ := call B (hB (by decide)).1 (hB (by decide)).2 m1 r1
        have pB := pre B (hB (by decide)).1 (hB (by decide)).2
        have hv : ((V c st inn i : Nat) : Int) = mxI ((V c st inn A.toNat : Nat) : Int) ((V c st inn B.toNat : Nat) : Int) := by
          rw [hV, b_mx (le _) (le _), ← pA, ← pB]; rfl
        refine start m2 r2 ?_
        simp only [Value19.b, hk]
        refine .no rfl (.val (rd_some' hx) (.bind (a := ((), ((V c st inn i : Nat) : Int), m2, ())) ?_ (.now _)))
        refine .no rfl (.bind (a := (st, inn, (), ((5 : Int), A, B, C, N), (c, st, inn, (), ()), false, m, ())) (.no rfl (.now _)) ?_)
        dsimp only
        refine .bind (a := ((), ((V c st inn i : Nat) : Int), m2, ())) (.no rfl (.bind (a := ((), ((V c st inn i : Nat) : Int), m2, ())) (.no rfl (.bind (a := ((), ((V c st inn i : Nat) : Int), m2, ())) (.no rfl (.bind (a := ((), ((V c st inn i : Nat) : Int), m2, ())) (.yes rfl (.bind e1 (.bind e2 (.now' (by rw [hv]))))) (.now _))) (.now _))) (.now _))) (.now _)
      · skip
        obtain ⟨m1, r1, e1⟩ := call A (hA (by decide)).1 (hA (by decide)).2 m hm
        have pA := pre A (hA (by decide)).1 (hA (by decide)).2
        obtain ⟨m2, r2, e2⟩ := call B (hB (by decide)).1 (hB (by decide)).2 m1 r1
        have pB := pre B (hB (by decide)).1 (hB (by decide)).2
        have hv : ((V c st inn i : Nat) : Int) = Int.tmod (w64 (((V c st inn A.toNat : Nat) : Int) + ((V c st inn B.toNat : Nat) : Int))) 2 := by
          rw [hV, b_xor (le _) (le _), ← pA, ← pB]; rfl
        refine start m2 r2 ?_
        simp only [Value19.b, hk]
        refine .no rfl (.val (rd_some' hx) (.bind (a := ((), ((V c st inn i : Nat) : Int), m2, ())) ?_ (.now _)))
        refine .no rfl (.bind (a := (st, inn, (), ((6 : Int), A, B, C, N), (c, st, inn, (), ()), false, m, ())) (.no rfl (.now _)) ?_)
        dsimp only
        refine .bind (a := ((), ((V c st inn i : Nat) : Int), m2, ())) (.no rfl (.bind (a := ((), ((V c st inn i : Nat) : Int), m2, ())) (.no rfl (.bind (a := ((), ((V c st inn i : Nat) : Int), m2, ())) (.no rfl (.bind (a := ((), ((V c st inn i : Nat) : Int), m2, ())) (.no rfl (.bind (a := ((), ((V c st inn i : Nat) : Int), m2, ())) (.yes rfl (.bind e1 (.bind e2 (.now' (by rw [hv]))))) (.now _))) (.now _))) (.now _))) (.now _))) (.now _)
      · obtain ⟨m1, r1, e1⟩ := call C (hC (by decide)).1 (hC (by decide)).2 m hm
        obtain ⟨m2, r2, e2⟩ := call A (hA (by decide)).1 (hA (by decide)).2 m1 r1
        have pA := pre A (hA (by decide)).1 (hA (by decide)).2
        have pB := pre B (hB (by decide)).1 (hB (by decide)).2
        have pC := pre C (hC (by decide)).1 (hC (by decide)).2
        by_cases hva : V c st inn A.toNat = 1
        · obtain ⟨m3, r3, e3⟩ := call B (hB (by decide)).1 (hB (by decide)).2 m2 r2
          have hv : V c st inn i = V c st inn B.toNat := by
            rw [hV, ← pB]
            exact if_pos (pA.trans hva)
          refine start m3 r3 ?_
          simp only [Value19.b, hk]
          refine .no rfl (.val (rd_some' hx) (.bind (a := ((), ((V c st inn i : Nat) : Int), m3, ())) ?_ (.now _)))
          refine .no rfl (.bind (a := (st, inn, (), ((7 : Int), A, B, C, N), (c, st, inn, (), ()), false, m, ())) (.no rfl (.now _)) ?_)
          dsimp only
          refine .bind (a := ((), ((V c st inn i : Nat) : Int), m3, ())) (.no rfl (.bind (a := ((), ((V c st inn i : Nat) : Int), m3, ())) (.no rfl (.bind (a := ((), ((V c st inn i : Nat) : Int), m3, ())) (.no rfl (.bind (a := ((), ((V c st inn i : Nat) : Int), m3, ())) (.no rfl (.bind (a := ((), ((V c st inn i : Nat) : Int), m3, ())) (.no rfl (.bind (a := ((), ((V c st inn i : Nat) : Int), m3, ())) (.yes rfl (.bind e1 (.bind e2 (.bind (a := ((), ((V c st inn i : Nat) : Int), m3, ())) (.yes ?_ (.bind e3 (.now' (by rw [hv])))) (.now _))))) (.now _))) (.now _))) (.now _))) (.now _))) (.now _))) (.now _)
          exact decide_eq_true (by show ((V c st inn A.toNat : Nat) : Int) > 0; rw [hva]; decide)
        · have hv : V c st inn i = V c st inn C.toNat := by
            rw [hV, ← pC]
            exact if_neg (fun h => hva (pA.symm.trans h))
          refine start m2 r2 ?_
          simp only [Value19.b, hk]
          refine .no rfl (.val (rd_some' hx) (.bind (a := ((), ((V c st inn i : Nat) : Int), m2, ())) ?_ (.now _)))
          refine .no rfl (.bind (a := (st, inn, (), ((7 : Int), A, B, C, N), (c, st, inn, (), ()), false, m, ())) (.no rfl (.now _)) ?_)
          dsimp only
          refine .bind (a := ((), ((V c st inn i : Nat) : Int), m2, ())) (.no rfl (.bind (a := ((), ((V c st inn i : Nat) : Int), m2, ())) (.no rfl (.bind (a := ((), ((V c st inn i : Nat) : Int), m2, ())) (.no rfl (.bind (a := ((), ((V c st inn i : Nat) : Int), m2, ())) (.no rfl (.bind (a := ((), ((V c st inn i : Nat) : Int), m2, ())) (.no rfl (.bind (a := ((), ((V c st inn i : Nat) : Int), m2, ())) (.yes rfl (.bind e1 (.bind e2 (.bind (a := ((), ((V c st inn i : Nat) : Int), m2, ())) (.no ?_ (.now' (by rw [hv]))) (.now _))))) (.now _))) (.now _))) (.now _))) (.now _))) (.now _))) (.now _)
          have := le A.toNat
          exact decide_eq_false (by show ¬ ((V c st inn A.toNat : Nat) : Int) > 0; omega)
end Go.Proofs.Ytjbdhaenakcclaa.St

/- Circuits of gates: steps. No program in sight. -/
set_option linter.unusedVariables false
noncomputable section
namespace Go.Proofs.Ytjbdhaenakcclaa.St
open Go Go.Proofs.Ytjbdhaenakcclaa.Gp

/-- the values of the gates that are named, joined -/
def line (c : Cir) (st inn : Int) (l : List Int) : List Nat := l.map (fun x => V c st inn x.toNat)
theorem line_le {c : Cir} (hR : Right c) (st inn : Int) (l : List Int) : ∀ b ∈ line c st inn l, b ≤ 1 := by
  intro b hb
  obtain ⟨x, _, rfl⟩ := List.mem_map.1 hb
  exact V_le hR st inn _
def InG (c : Cir) (l : List Int) : Prop := l.length ≤ 10 ∧ ∀ x ∈ l, 0 ≤ x ∧ x < (c.2.1.length : Int)
theorem bits_ev {c : Cir} (hR : Right c) (st inn : Int) (l : List Int) (hl : InG c l) : Ev (fun k => bits70 k (ints (vals st inn c.2.1)) l) (((pk (line c st inn l) : Nat) : Int), ()) := by
  unfold bits70
  refine .bind (a := ((pk (line c st inn l) : Nat) : Int)) (Lp.ev ?_) (.now _)
  have := Lp.fold (body := fun k => bits70.l0 k (ints (vals st inn c.2.1)) l) l (fun (m : List Nat) i => ((pk m : Int), i)) (fun m x => m ++ [V c st inn x.toNat]) (fun m => (pk m : Int)) (fun i m => m = line c st inn (l.take i)) (fun i x m hx hm => ⟨?_, ?_⟩) (fun m _ => ?_) (b := []) rfl
  · rw [foldl_snoc, List.nil_append] at this
    exact this
  · have hi := get_lt hx
    have hll := hl.1
    obtain ⟨x0, x1⟩ := hl.2 x (get_mem hx)
    have hlen : m.length = i := by rw [hm]; unfold line; rw [List.length_map, List.length_take]; omega
    have hlt : pk m < 2 ^ i := by rw [← hlen]; exact pk_lt m (by rw [hm]; exact line_le hR st inn _)
    have hv : rd (ints (vals st inn c.2.1)) x = some ((V c st inn x.toNat : Nat) : Int) := by
      refine rd_z x0 ?_
      unfold ints V
      rw [List.getElem?_map, List.getD_eq_getElem?_getD, List.getElem?_eq_getElem (show x.toNat < (vals st inn c.2.1).length by rw [vals_len]; omega)]
      rfl
    simp only [bits70.l0]
    refine .yes (decide_eq_true (by omega)) (.val (rd_some' hx) (.val hv (.val (a := shlI .i64 ((V c st inn x.toNat : Nat) : Int) (i : Int)) ?_ (.now' ?_))))
    · rw [if_neg (by omega)]
    · rw [or_bit hlt (V_le hR st inn _) (by omega), pk_snoc, hlen, w64_id (by omega) (by omega)]
  · rw [hm, take_snoc hx]; unfold line; rw [List.map_append]; rfl
  · simp only [bits70.l0]
    exact .no (by simp) (.now _)

theorem line_lp {c : Cir} (hR : Right c) (st inn : Int) (w : Nat) (hw : w < 2) (l : List Int) (hl : InG c l) (o2 : List (List Int)) : ∀ (suf pre : List Int) (m : Map) (o1 : List Int), l = pre ++ suf → RightM c st inn m → o1.length = 2 → o1[w]? = some ((pk (line c st inn pre) : Nat) : Int) →
    ∃ m' o1', RightM c st inn m' ∧ o1'.length = 2 ∧ o1'[w]? = some ((pk (line c st inn l) : Nat) : Int) ∧ (∀ j, j ≠ w → o1'[j]? = o1[j]?) ∧
      Lp (fun k => Stepped20.l0 k st inn (w : Int) l) (c, (), (), (), (pre.length : Int), m, o1, o2) (c, (), (), (), m', o1', o2) := by
  intro suf
  induction suf with
  | nil =>
    intro pre m o1 h hm ho hp
    rw [List.append_nil] at h
    subst h
    refine ⟨m, o1, hm, ho, hp, fun _ _ => rfl, .done ?_⟩
    simp only [Stepped20.l0]
    exact .no (by simp) (.now _)
  | cons x suf ih =>
    intro pre m o1 h hm ho hp
    have hx : l[pre.length]? = some x := by rw [h]; simp
    have hi := get_lt hx
    have hll := hl.1
    obtain ⟨x0, x1⟩ := hl.2 x (get_mem hx)
    obtain ⟨m', r, e⟩ := value_ev hR st inn c.2.1.length x.toNat (by omega) (by omega) m hm
    rw [show ((x.toNat : Nat) : Int) = x by omega] at e
    have hlen : (line c st inn pre).length = pre.length := by unfold line; rw [List.length_map]
    have hlt : pk (line c st inn pre) < 2 ^ pre.length := by
      have := pk_lt _ (line_le hR st inn pre)
      rwa [hlen] at this
    have hpk : pk (line c st inn (pre ++ [x])) = pk (line c st inn pre) + V c st inn x.toNat * 2 ^ pre.length := by
      unfold line
      rw [List.map_append, List.map_singleton, pk_snoc, List.length_map]
    obtain ⟨m2, o', g1, g2, g3, g4, g5⟩ := ih (pre ++ [x]) m' (o1.set w ((pk (line c st inn (pre ++ [x])) : Nat) : Int)) (by rw [h]; simp) r (by rw [List.length_set]; exact ho) (List.getElem?_set_self (by omega))
    refine ⟨m2, o', g1, g2, g3, fun j hj => by rw [g4 j hj, List.getElem?_set_ne (Ne.symm hj)], .step ?_ g5⟩
    simp only [Stepped20.l0]
    refine .yes (decide_eq_true (by omega)) (.val (rd_some' hx) (.val (a := ()) (if_pos ⟨by omega, by omega⟩) (.val (rd_some' hp) (.bind e (.val (a := shlI .i64 ((V c st inn x.toNat : Nat) : Int) (pre.length : Int)) (if_neg (by omega)) (.val (a := ()) (if_pos ⟨by omega, by omega⟩) (.val (rd_some' hp) (.now' ?_))))))))
    rw [add_bit hlt (V_le hR st inn _) (by omega), w64_id (by omega) (by omega), ← hpk, List.length_append]
    simp

theorem stepped_ev {c : Cir} (hR : Right c) (st inn : Int) : Ev (fun k => Stepped20 k c st inn) ((((pk (line c st inn c.2.2.1) : Nat) : Int), ((pk (line c st inn c.2.2.2.1) : Nat) : Int), ()), ()) := by
  unfold Stepped20
  obtain ⟨m1, o1, a1, a2, a3, a4, a5⟩ := line_lp hR st inn 0 (by omega) c.2.2.1 hR.outs [c.2.2.1, c.2.2.2.1] c.2.2.1 [] [] [0, 0] rfl (.nil c st inn) rfl rfl
  obtain ⟨m2, o2, b1, b2, b3, b4, b5⟩ := line_lp hR st inn 1 (by omega) c.2.2.2.1 hR.next [c.2.2.1, c.2.2.2.1] c.2.2.2.1 [] m1 o1 rfl a1 a2 (by rw [a4 1 (by omega)]; rfl)
  have h0 : o2[0]? = some ((pk (line c st inn c.2.2.1) : Nat) : Int) := by rw [b4 0 (by omega)]; exact a3
  refine .bind (a := ((), o2)) (Lp.ev ?_) ?_
  · refine Lp.step (s' := (c, (), (), (), 1, m1, o1, [c.2.2.1, c.2.2.2.1])) ?_ (Lp.step (s' := (c, (), (), (), 2, m2, o2, [c.2.2.1, c.2.2.2.1])) ?_ (Lp.done ?_))
    · simp only [Stepped20.l1]
      exact .yes rfl (.val rfl (.val rfl (.bind a5.ev (.now' (by rw [w64_id (by omega) (by omega)]; rfl)))))
    · simp only [Stepped20.l1]
      exact .yes rfl (.val rfl (.val rfl (.bind b5.ev (.now' (by rw [w64_id (by omega) (by omega)]; rfl)))))
    · simp only [Stepped20.l1]
      exact .no rfl (.now _)
  · exact .val rfl (.val (rd_at (i := 0) rfl h0) (.val rfl (.val (rd_at (i := 1) rfl b3) (.now _))))
end Go.Proofs.Ytjbdhaenakcclaa.St

/- What an argument of a law reads as, kind by kind. -/
set_option linter.unusedVariables false
noncomputable section
namespace Go.Proofs.Ytjbdhaenakcclaa.Gp
open Go Go.ChangeShapes Go.WideShapes Go.RowKit

/-- the input's memory, all of it frozen -/
def memH (W : World) : Hp := fun b => W.heap[b]?

structure Gd (P : Program) (t : TypeId) (k : K) (wf : k.den → Prop) (siz : k.den → Nat) : Prop where
  cells : P.cellsOf t = k.w
  one : k.one = true
  pur : k.pur = true
  val : ∀ {W : World} {r : Reach} {base : Nat} {v : Value}, Value.okWide P W r base t v → v = k.mk v.cells.toList
  read : ∀ {H : Type} {enc : TypeId × Value → H} {W : World} {base : Nat} {spare : Nat → Bool} {held : Bool} {fuel : Nat} {cs : List Value} {x : DataW H × List MemPlace},
    DataW.trod enc P W base spare held fuel t cs = some x → (∀ n ∈ x.1.weights P t, n ≤ reachBytes) → ∃ y, (∀ L, Lv (memH W) L k y cs) ∧ wf y ∧ siz y ≤ Rows.uptoBulk x.1

variable {P : Program}

theorem str_len {s : ByteArray} : s.data.toList.length = s.size := Array.length_toList
theorem gd_int {t : TypeId} {k : IntKind} (hu : P.underlying t = some (.int k)) (hc : P.cellsOf t = 1) : Gd P t (.int k) (fun (y : Int) => (Lit.int k y).wf = true) (fun _ => 1) :=
  ⟨hc, rfl, rfl, fun h => by obtain ⟨n, rfl⟩ := okWide_int hu h; rfl, fun h _ => by
    obtain ⟨n, rfl, rfl, hw⟩ := DataW.trod_int hu h
    exact ⟨n, fun _ => rfl, hw, by simp [Rows.uptoBulk]⟩⟩
theorem gd_bool {t : TypeId} (hu : P.underlying t = some .bool) (hc : P.cellsOf t = 1) : Gd P t .bool (fun _ => True) (fun _ => 1) :=
  ⟨hc, rfl, rfl, fun h => by
    simp only [Value.okWide, hu, Cell.okWide] at h
    rename_i v
    cases v <;> first | rfl | (simp_all [Cell.ok]; done), fun h _ => by
    obtain ⟨n, rfl, rfl⟩ := DataW.trod_bool hu h
    exact ⟨n, fun _ => rfl, trivial, by simp [Rows.uptoBulk]⟩⟩
theorem gd_str {t : TypeId} (hu : P.underlying t = some .string) (hc : P.cellsOf t = 1) : Gd P t .str (fun (y : ByteArray) => y.size ≤ 140737488351232) (fun (y : ByteArray) => y.size + 1) :=
  ⟨hc, rfl, rfl, fun h => by
    simp only [Value.okWide, hu, Cell.okWide] at h
    rename_i v
    cases v <;> first | rfl | (simp_all [Cell.ok]; done), fun h hw => by
    obtain ⟨s, rfl, rfl, _⟩ := DataW.trod_string hu h
    refine ⟨s, fun _ => rfl, ?_, ?_⟩
    · have := hw s.data.toList.length (by simp [DataW.weights])
      rw [str_len] at this
      exact this
    · simp only [Rows.uptoBulk]
      rw [str_len]
      omega⟩

theorem weights_all {H : Type} {e : TypeId} {n : Nat} : ∀ {l : List (DataW H)} {d : DataW H}, d ∈ l → n ∈ d.weights P e → n ∈ DataW.weightsAll P e l
  | x :: r, d, hd, hn => by
    rw [DataW.weightsAll]
    rcases List.mem_cons.1 hd with rfl | hd
    · exact List.mem_append_left _ hn
    · exact List.mem_append_right _ (weights_all hd hn)
theorem buildL {α : Type} {H : Type} {wf : α → Prop} {siz : α → Nat} : ∀ (es : List (DataW H × List MemPlace)) (p : Nat → α → Prop),
    (∀ i x, es[i]? = some x → ∃ y, p i y ∧ wf y ∧ siz y ≤ Rows.uptoBulk x.1) →
    ∃ ys : List α, ys.length = es.length ∧ (∀ j y, ys[j]? = some y → p j y ∧ wf y) ∧ (ys.map siz).sum ≤ Rows.uptoBulkAll (es.map (·.1))
  | [], _, _ => ⟨[], rfl, fun j y h => by simp at h, by simp⟩
  | x :: r, p, h => by
    obtain ⟨y, hp, hw, hs⟩ := h 0 x rfl
    obtain ⟨ys, hl, hy, hsum⟩ := buildL r (fun i => p (i + 1)) (fun i x hx => h (i + 1) x (by simpa using hx))
    refine ⟨y :: ys, by simp [hl], fun j z hz => ?_, ?_⟩
    · cases j with
      | zero => simp only [List.getElem?_cons_zero, Option.some.injEq] at hz; subst hz; exact ⟨hp, hw⟩
      | succ j => exact hy j z (by simpa using hz)
    · simp only [List.map_cons, List.sum_cons, Rows.uptoBulkAll]
      omega

def sizL {α : Type} (siz : α → Nat) (l : List α) : Nat := (l.map siz).sum + 1
def wfL {α : Type} (B : Nat) (wf : α → Prop) (l : List α) : Prop := l.length * B ≤ 140737488351232 ∧ ∀ y ∈ l, wf y

theorem LvL_mk {α : Type} {R : α → List Value → Prop} {w : Nat} {C : List Value} : ∀ {ys : List α} {o : Nat}, (∀ j y, ys[j]? = some y → ∃ c : List Value, c.length = w ∧ R y c ∧ ∀ i u, c[i]? = some u → C[o + (j * w + i)]? = some u) →
    LvL R ys ((C.drop o).take (ys.length * w))
  | [], o, h => by simp [LvL]
  | y :: ys, o, h => by
    obtain ⟨c, hc, hr, hu⟩ := h 0 y rfl
    have e : (C.drop o).take w = c := by
      apply List.ext_getElem?
      intro i
      rw [cut_get]
      by_cases hi : i < w
      · rw [if_pos hi]
        have hi' : i < c.length := by omega
        have := hu i c[i] (List.getElem?_eq_getElem hi')
        rw [Nat.zero_mul, Nat.zero_add] at this
        rw [this, List.getElem?_eq_getElem hi']
      · rw [if_neg hi, List.getElem?_eq_none (by omega)]
    refine ⟨c, (C.drop (o + w)).take (ys.length * w), ?_, hr, LvL_mk (fun j z hz => ?_)⟩
    · rw [List.length_cons, Nat.add_mul, Nat.one_mul, Nat.add_comm (ys.length * w) w, List.take_add, e, List.drop_drop]
    · obtain ⟨c', h1, h2, h3⟩ := h (j + 1) z hz
      refine ⟨c', h1, h2, fun i u hi => ?_⟩
      have := h3 i u hi
      rw [Nat.add_mul, Nat.one_mul] at this
      rw [show o + w + (j * w + i) = o + (j * w + w + i) by omega]
      exact this

theorem gd_sl {t e : TypeId} {k : K} {wf : k.den → Prop} {siz : k.den → Nat} {B : Nat} (hu : P.underlying t = some (.slice e)) (hc : P.cellsOf t = 1) (hB : P.bytesOf e = B) (hk : 0 < k.w) (r : Gd P e k wf siz) :
    Gd P t (.sl k) (wfL (α := k.den) B wf) (sizL (α := k.den) siz) :=
  ⟨hc, rfl, r.pur, fun h => by obtain ⟨a, len, cap, rfl⟩ := okWide_slice hu h; rfl, fun {H enc W base spare held fuel cs x} h hw => by
    rcases DataW.trod_slice hu h with ⟨rfl, rfl⟩ | ⟨a, len, cap, elems, rest, n, _, rfl, rfl, hb, hl, hm, hlen, hel, _, _⟩
    · exact ⟨([] : List k.den), fun L => ⟨r.pur, none, 0, rfl, Nat.le_refl _, fun hn => absurd rfl hn⟩, ⟨by simp, fun y hy => by simp at hy⟩, by simp [sizL, Rows.uptoBulk]⟩
    · simp only [DataW.weights, hu] at hw
      have hw1 : (elems.length + rest.length) * B ≤ 140737488351232 := by
        have := hw ((elems.length + rest.length) * B) (by simp [hB])
        exact this
      obtain ⟨ys, hyl, hyp, hys⟩ := buildL (wf := wf) (siz := siz) elems (fun i y => ∃ c : List Value, c.length = k.w ∧ (∀ L, Lv (memH W) L k y c) ∧ ∀ j u, c[j]? = some u → W.cell? (a.add (i * k.w + j)) = some u) (fun i z hz => by
        have hi : i < len := by
          have := (List.getElem?_eq_some_iff.1 hz).1
          omega
        have h1 := hel i hi
        rw [hz] at h1
        obtain ⟨c, hc1, hc2⟩ := Option.bind_eq_some_iff.1 h1
        obtain ⟨y, hK, hwf, hsz⟩ := r.read hc2 (fun q hq => hw q (List.mem_cons_of_mem _ (List.mem_append_left _ (weights_all (List.mem_map.2 ⟨z, List.mem_of_getElem? hz, rfl⟩) hq))))
        obtain ⟨_, hcl, hcell⟩ := World.cells?_some hc1
        refine ⟨y, ⟨c, Lv_len (hK default), hK, fun j u hu => ?_⟩, hwf, hsz⟩
        have hj : j < P.cellsOf e := by
          have := (List.getElem?_eq_some_iff.1 hu).1
          omega
        have h3 := hcell j hj
        rw [Go.Deep.add_add, r.cells] at h3
        rw [h3]
        exact hu)
      refine ⟨ys, fun L => ⟨r.pur, some a, cap, by rw [hyl, hlen], by omega, fun hn => ?_⟩, ⟨?_, fun y hy => ?_⟩, ?_⟩
      · have hn : ys.length ≠ 0 := hn
        obtain ⟨y, hy⟩ : ∃ y, ys[0]? = some y := ⟨ys[0]'(by omega), List.getElem?_eq_getElem (by omega)⟩
        obtain ⟨c, c1, c2, c3⟩ := (hyp 0 y hy).1
        obtain ⟨u, hu0⟩ : ∃ u, c[0]? = some u := ⟨c[0]'(by omega), List.getElem?_eq_getElem (by omega)⟩
        have hcell := c3 0 u hu0
        rw [Nat.zero_mul, Nat.zero_add, show a.add 0 = a from rfl] at hcell
        unfold World.cell? at hcell
        split at hcell
        · rename_i C ee zz hblk
          split at hcell
          · cases hcell
          · rename_i hsp
            have hsp : a.spot = none := by cases hs : a.spot with | none => rfl | some q => rw [hs] at hsp; exact absurd rfl hsp
            refine ⟨a.block, a.off, C, ee, zz, by cases a; simp only at hsp; rw [hsp], hblk, LvL_mk (C := C.toList) (fun j y hy => ?_)⟩
            obtain ⟨c, c1, c2, c3⟩ := (hyp j y hy).1
            refine ⟨c, c1, c2 L, fun i u hi => ?_⟩
            have h5 := c3 i u hi
            have hadd : (a.add (j * k.w + i)).block = a.block ∧ (a.add (j * k.w + i)).off = a.off + (j * k.w + i) ∧ (a.add (j * k.w + i)).spot = none := by
              unfold Addr.add
              split
              · rename_i h0; exact ⟨rfl, by omega, hsp⟩
              · exact ⟨rfl, rfl, rfl⟩
            unfold World.cell? at h5
            rw [hadd.1, hblk, hadd.2.1, hadd.2.2] at h5
            rw [Array.getElem?_toList]
            exact h5
        · cases hcell
      · rw [hyl]
        exact Nat.le_trans (Nat.mul_le_mul_right _ (Nat.le_add_right _ _)) hw1
      · obtain ⟨j, hj⟩ := List.mem_iff_getElem?.1 hy
        exact (hyp j y hj).2
      · simp only [sizL, Rows.uptoBulk]
        omega⟩

/-- arrays -/
def sizA {α : Type} (siz : α → Nat) (l : List α) : Nat := (l.map siz).sum
def wfA {α : Type} (n : Nat) (wf : α → Prop) (l : List α) : Prop := l.length = n ∧ ∀ y ∈ l, wf y
theorem gd_arr {t e : TypeId} {n : Nat} {k : K} {wf : k.den → Prop} {siz : k.den → Nat} (hu : P.underlying t = some (.array n e)) (hc : P.cellsOf t = n * k.w) (r : Gd P e k wf siz) :
    Gd P t (.arr n k) (wfA (α := k.den) n wf) (sizA (α := k.den) siz) :=
  ⟨hc, rfl, r.pur, fun h => by
    simp only [Value.okWide, hu] at h
    obtain ⟨cs, rfl, _⟩ := h
    rfl, fun {H enc W base spare held fuel cs x} h hw => by
    obtain ⟨xs, m, _, rfl, hl, hxl, hx⟩ := DataW.trod_array hu h
    simp only [DataW.weights, hu] at hw
    obtain ⟨ys, hyl, hyp, hys⟩ := buildL (wf := wf) (siz := siz) xs (fun i y => ∀ L, Lv (memH W) L k y ((cs.drop (i * k.w)).take k.w)) (fun i z hz => by
      have hi : i < n := by
        have := (List.getElem?_eq_some_iff.1 hz).1
        omega
      have h1 := hx i hi
      rw [hz, r.cells] at h1
      obtain ⟨y, hK, hwf, hsz⟩ := r.read h1 (fun q hq => hw q (weights_all (List.mem_map.2 ⟨z, List.mem_of_getElem? hz, rfl⟩) hq))
      exact ⟨y, hK, hwf, hsz⟩)
    refine ⟨ys, fun L => ⟨r.pur, hyl.trans hxl, ?_⟩, ⟨hyl.trans hxl, fun y hy => ?_⟩, ?_⟩
    · have := LvL_mk (w := k.w) (R := Lv (memH W) L k) (C := cs) (ys := ys) (o := 0) (fun j y hy => ⟨(cs.drop (j * k.w)).take k.w, Lv_len ((hyp j y hy).1 L), (hyp j y hy).1 L, fun i u hi => by
        rw [cut_get] at hi
        split at hi
        · rw [Nat.zero_add]; exact hi
        · cases hi⟩)
      rwa [List.drop_zero, List.take_of_length_le (by rw [hl, hc, hyl, hxl]; exact Nat.le_refl _)] at this
    · obtain ⟨j, hj⟩ := List.mem_iff_getElem?.1 hy
      exact (hyp j y hj).2
    · simp only [sizA, Rows.uptoBulk]
      omega⟩

/-- fields in line, from cell 'off' on -/
structure GdF (P : Program) (off : Nat) (fs : List Field) (k : K) (wf : k.den → Prop) (siz : k.den → Nat) : Prop where
  pur : k.pur = true
  read : ∀ {H : Type} {enc : TypeId × Value → H} {W : World} {base : Nat} {spare : Nat → Bool} {held : Bool} {fuel : Nat} {cs : List Value} {xs : List (DataW H × List MemPlace)},
    cs.length = off + k.w → xs.length = fs.length →
    (∀ (i : Nat) (f : Field), fs[i]? = some f → DataW.trod enc P W base spare held fuel f.type ((cs.drop f.offset).take (P.cellsOf f.type)) = xs[i]?) →
    (∀ n ∈ DataW.weightsEach P (fs.map (·.type)) (xs.map (·.1)), n ≤ reachBytes) →
    ∃ y, (∀ L, Lv (memH W) L k y (cs.drop off)) ∧ wf y ∧ siz y ≤ Rows.uptoBulkAll (xs.map (·.1))

theorem gdf_nil {off : Nat} : GdF P off [] .unit (fun _ => True) (fun _ => 0) :=
  ⟨rfl, fun {H enc W base spare held fuel cs xs} hl hxl hx hw => ⟨(), fun L => by
    show cs.drop off = []
    exact List.drop_eq_nil_of_le (by rw [hl]; exact Nat.le_refl _), trivial, Nat.zero_le _⟩⟩
theorem gdf_cons {off : Nat} {f : Field} {fs : List Field} {k k' : K} {wf : k.den → Prop} {wf' : k'.den → Prop} {siz : k.den → Nat} {siz' : k'.den → Nat} (ho : f.offset = off) (r : Gd P f.type k wf siz)
    (rs : GdF P (off + k.w) fs k' wf' siz') : GdF P off (f :: fs) (.pair k k') (fun (y : k.den × k'.den) => wf y.1 ∧ wf' y.2) (fun (y : k.den × k'.den) => siz y.1 + siz' y.2) := by
  refine ⟨by simp only [K.pur, r.pur, rs.pur]; rfl, ?_⟩
  intro H enc W base spare held fuel cs xs hl hxl hx hw
  have hl' : cs.length = off + (k.w + k'.w) := hl
  match xs, hxl with
  | x :: xs, hxl =>
    have h := hx 0 f rfl
    rw [ho, r.cells] at h
    simp only [List.getElem?_cons_zero] at h
    obtain ⟨y, h1, h2, h3⟩ := r.read h (fun n hn => hw n (by simp [DataW.weightsEach, hn]))
    obtain ⟨z, g1, g2, g3⟩ := rs.read (enc := enc) (W := W) (base := base) (spare := spare) (held := held) (fuel := fuel) (cs := cs) (xs := xs) (by omega) (by simpa using hxl)
      (fun i g hg => by simpa using hx (i + 1) g (by simpa using hg)) (fun n hn => hw n (by simp only [List.map_cons, DataW.weightsEach]; exact List.mem_append_right _ hn))
    refine ⟨(y, z), fun L => ⟨(cs.drop off).take k.w, cs.drop (off + k.w), ?_, h1 L, g1 L⟩, ⟨h2, g2⟩, ?_⟩
    · rw [← List.drop_drop]
      exact (List.take_append_drop _ _).symm
    · simp only [List.map_cons, Rows.uptoBulkAll]
      omega
theorem gdf_one {off : Nat} {f : Field} {k : K} {wf : k.den → Prop} {siz : k.den → Nat} (ho : f.offset = off) (r : Gd P f.type k wf siz) : GdF P off [f] k wf siz := by
  refine ⟨r.pur, ?_⟩
  intro H enc W base spare held fuel cs xs hl hxl hx hw
  match xs, hxl with
  | [x], hxl =>
    have h := hx 0 f rfl
    rw [ho, r.cells] at h
    simp only [List.getElem?_cons_zero] at h
    have e : (cs.drop off).take k.w = cs.drop off := List.take_of_length_le (by rw [List.length_drop, hl]; omega)
    rw [e] at h
    obtain ⟨y, h1, h2, h3⟩ := r.read h (fun n hn => hw n (by simp [DataW.weightsEach, hn]))
    refine ⟨y, h1, h2, ?_⟩
    simp only [List.map_cons, List.map_nil, Rows.uptoBulkAll]
    omega
theorem gd_st {t : TypeId} {fs : Array Field} {k : K} {wf : k.den → Prop} {siz : k.den → Nat} (hu : P.underlying t = some (.struct fs)) (hc : P.cellsOf t = k.w) (r : GdF P 0 fs.toList k wf siz) : Gd P t (.st k) wf siz :=
  ⟨hc, rfl, r.pur, fun h => by
    simp only [Value.okWide, hu] at h
    obtain ⟨cs, rfl, _⟩ := h
    rfl, fun h hw => by
    obtain ⟨xs, n, _, rfl, hl, hxl, hx⟩ := DataW.trod_struct hu h
    obtain ⟨y, h1, h2, h3⟩ := r.read (by rw [hl, hc]; omega) (by rw [hxl]; simp) (fun i f hf => hx i f (by simpa using hf)) (fun n hn => hw n (by simp only [DataW.weights, hu]; exact hn))
    refine ⟨y, h1, h2, ?_⟩
    simp only [Rows.uptoBulk]
    omega⟩

/-- an argument -/
theorem Gd.arg {t : TypeId} {k : K} {wf : k.den → Prop} {siz : k.den → Nat} (r : Gd P t k wf siz) {H : Type} {enc : TypeId × Value → H} {W : World} {base : Nat} {spare : Nat → Bool} {held : Bool} {rr : Reach} {b2 : Nat} {v : Value} {x : DataW H} {ps : List MemPlace}
    (hval : Value.okWide P W rr b2 t v) (h : DataW.Trod enc P W base spare held t v x ps) (hw : ∀ n ∈ x.weights P t, n ≤ reachBytes) : ∃ y : k.den, (∀ L, SR (memH W) L ⟨k, y⟩ v) ∧ wf y ∧ siz y ≤ Rows.uptoBulk x := by
  obtain ⟨fuel, hf⟩ := h
  obtain ⟨y, h1, h2, h3⟩ := r.read hf hw
  refine ⟨y, fun L => ?_, h2, h3⟩
  rw [r.val hval]
  exact SR_mk (h1 L)

def noLoc : Ls := fun _ => default
theorem law_calls {fuel : Nat} {f : FuncId} {params : List K} {run : Nat → HL params → HL (List.map (·.toK) ([] : List OK)) → Option (K.bool.den × HL (List.map (·.toK) ([] : List OK)))} (hs : SoundAt P fuel ⟨f, params, [], .bool, [], [], run⟩) {ds : HL params}
    (hr : run fuel ds () = some (true, ())) {args : Array Value} {W : World} (hv : SRs (memH W) noLoc (unpackL params ds) args.toList) : Calls P f args W (fun e W' => e = .returned (.bool true) ∧ Below W.heap.size W W') := by
  have hno : ∀ b, ¬ Own (assoc O.dead (objsFrom 0 ([] : List OK) ())) noLoc b := fun b ⟨i, hi, _⟩ => hi
  refine Calls.mono (hs.2 ds () (true, ()) hr args W (memH W) noLoc hv ⟨fun i => trivial, fun b o h => h, fun i hi => hi.elim, fun i j hi => hi.elim⟩ (fun i hi => by cases hi)) fun e W' hh => ?_
  obtain ⟨v, H', L', rfl, h1, _, _, hp⟩ := hh
  have h1 : SR H' L' ⟨.bool, true⟩ v := h1
  refine ⟨by rw [bool_at h1], hp.fr.os, hp.fr.tape, hp.fr.output, hp.fr.size, fun b hb => hp.fr.same b hb (hno b)⟩
/-- The weights of one argument. -/
theorem weights_at {H : Type} {ts : List TypeId} {ds : List (DataW H)} (hsz : (DataW.weightsEach P ts ds).all (· ≤ reachBytes) = true) (j : Nat) {t : TypeId} {d : DataW H} (ht : ts[j]? = some t) (hd : ds[j]? = some d) :
    ∀ n ∈ d.weights P t, n ≤ reachBytes := fun n hn => by
  have := List.all_eq_true.1 hsz n (DataW.weights_mem_each ht hd n hn)
  simpa using this

/-- The bulk of one argument. -/
theorem bulk_at {H : Type} {l : List (DataW H)} (hk : Rows.uptoSmall H l = true) {d : DataW H} (hd : d ∈ l) : Rows.uptoBulk d ≤ 1048576 := by
  have h : Rows.uptoBulkAll l ≤ 1048576 := of_decide_eq_true hk
  have key : ∀ {l : List (DataW H)}, d ∈ l → Rows.uptoBulk d ≤ Rows.uptoBulkAll l := by
    intro l
    induction l with
    | nil => intro h; simp at h
    | cons x r ih =>
      intro h
      simp only [Rows.uptoBulkAll]
      rcases List.mem_cons.1 h with rfl | h
      · omega
      · have := ih h
        omega
  exact Nat.le_trans (key hd) h
end Go.Proofs.Ytjbdhaenakcclaa.Gp

/- Circuits of gates: the law. No program in sight. -/
set_option linter.unusedVariables false
noncomputable section
namespace Go.Proofs.Ytjbdhaenakcclaa.St
open Go Go.Proofs.Ytjbdhaenakcclaa.Gp

/-- one step: the state, and what came out so far -/
def stepS (c : Cir) (b : Int × List Int) (x : Int) : Int × List Int := (((pk (line c b.1 x c.2.2.2.1) : Nat) : Int), b.2 ++ [((pk (line c b.1 x c.2.2.1) : Nat) : Int)])
def ran (c : Cir) (l : List Int) : List Int := (l.foldl (stepS c) ((first c : Int), [])).2
def badIn (c : Cir) (x : Int) : Bool := decide (x < 0 ∨ x ≥ ((2 ^ c.1.toNat : Nat) : Int))
theorem room1 {n : Nat} (h : n * 8 ≤ 140737488351232 + 8) : room n 8 = true := room_ok (by omega)
theorem shl_ins {c : Cir} (hR : Right c) : shlI .i64 1 c.1 = ((2 ^ c.1.toNat : Nat) : Int) := by
  obtain ⟨h0, h1⟩ := hR.ins
  obtain ⟨j, hj⟩ : ∃ j : Nat, c.1 = (j : Int) := ⟨c.1.toNat, by omega⟩
  rw [hj, shlI_one (by omega), Int.toNat_natCast]
theorem foldl_len8 (c : Cir) : ∀ (l : List Int) (b : Int × List Int), (l.foldl (stepS c) b).2.length = b.2.length + l.length
  | [], b => rfl
  | x :: l, b => by rw [List.foldl_cons, foldl_len8 c l]; simp [stepS]; omega
def runW (c : Cir) (b : Int × List Int) (x : Int) : (Int × List Int) ⊕ ((Unit × (List Int)) ⊕ (((List Int) × (Int × Unit)) × Unit)) := if badIn c x then .inr (.inr (([], 1, ()), ())) else .inl (stepS c b x)
theorem walk_run (c : Cir) : ∀ (l : List Int) (b : Int × List Int), walk (runW c) (fun b => .inl ((), b.2)) l b = if l.any (badIn c) then .inr (([], 1, ()), ()) else .inl ((), (l.foldl (stepS c) b).2)
  | [], b => rfl
  | x :: l, b => by
    rw [walk_cons, List.any_cons, List.foldl_cons]
    cases h : badIn c x with
    | true =>
      rw [show runW c b x = .inr (.inr (([], 1, ()), ())) by unfold runW; rw [h]; rfl]
      rfl
    | false =>
      rw [show runW c b x = .inl (stepS c b x) by unfold runW; rw [h]; rfl]
      exact walk_run c l (stepS c b x)
def res (c : Cir) (l : List Int) : List Int × Int × Unit := if fault c ≠ 0 then ([], fault c, ()) else if l.any (badIn c) then ([], 1, ()) else (ran c l, 0, ())
theorem bad_ev {c : Cir} (hR : Right c) (x : Int) : Ev (fun (_ : Nat) => cond (decide (x < 0)) (some true) ((if c.1 < 0 then none else some (shlI .i64 1 c.1)).bind fun t31 => some (decide (x ≥ t31)))) (badIn c x) := by
  have h0 := hR.ins
  refine .iff (fun h => .now' ?_) (fun h => .val (a := ((2 ^ c.1.toNat : Nat) : Int)) (by rw [if_neg (by omega), shl_ins hR]) (.now' ?_))
  · unfold badIn; rw [decide_eq_true (.inl h)]
  · unfold badIn; exact decide_eq_decide.2 (by omega)
theorem run_ev (c : Cir) (l : List Int) (hl : l.length * 8 ≤ 140737488351232) : Ev (fun k => Run71 k c l) (res c l, ()) := by
  unfold Run71 res
  refine .bind (check_ev c) ?_
  by_cases hf : fault c ≠ 0
  · rw [if_pos hf]
    exact .yes (bne_iff_ne.2 hf) (.now _)
  rw [if_neg hf]
  have hf0 : fault c = 0 := by omega
  have hR := right_of c hf0
  refine .no (by rw [hf0]; rfl) (.bind (start_ev c) ?_)
  have hw : Lp (fun k => Run71.l0 k l) (c, (), (first c : Int), 0, []) (walk (runW c) (fun b => .inl ((), b.2)) l ((first c : Int), [])) := by
    refine Lp.walk (body := fun k => Run71.l0 k l) l (fun (b : Int × List Int) i => (c, (), b.1, i, b.2)) (runW c) (fun b => .inl ((), b.2)) (fun i b => b.2.length = i) (fun i x b hx hb => ⟨?_, fun b' h => ?_⟩) (fun b _ => ?_) (b := ((first c : Int), [])) rfl
    · have hi := get_lt hx
      simp only [Run71.l0]
      refine .yes (decide_eq_true (by omega)) (.val (rd_some' hx) (.bind (bad_ev hR x) ?_))
      unfold runW
      refine .cnd (fun h => .now' ?_) (fun h => ?_)
      · rw [if_pos h]
      · rw [if_neg (by simp [h])]
        refine .bind (values_ev hR b.1 x) (.bind (bits_ev hR b.1 x _ hR.outs) (.val (a := ()) ?_ (.bind (bits_ev hR b.1 x _ hR.next) (.now' ?_))))
        · rw [if_pos (room1 (by rw [hb]; show (i + 1) * 8 ≤ _; omega))]
        · rw [w64_id (by omega) (by omega)]; rfl
    · unfold runW at h
      split at h <;> cases h
      simp [stepS, hb]
    · simp only [Run71.l0]
      exact .no (by simp) (.now _)
  rw [walk_run] at hw
  by_cases hb : l.any (badIn c) = true
  · rw [if_pos hb] at hw ⊢
    exact .joinR hw.ev
  · rw [if_neg hb] at hw ⊢
    exact .joinL (S := Unit) hw.ev (.now _)

theorem equal_ev (l : List Int) (hl : l.length * 8 ≤ 140737488351232) : Ev (fun k => Equal25 k l l) (true, ()) := by
  unfold Equal25
  refine .no (by simp) (.joinL (S := Unit) (a := ()) (Lp.ev ?_) (.now _))
  refine Lp.fold (body := fun k => Equal25.l0 k l l) l (fun (_ : Unit) i => i) (fun _ _ => ()) (fun _ => (.inl () : Unit ⊕ (Bool × Unit))) (fun _ _ => True) (fun i x b hx _ => ⟨?_, trivial⟩) (fun b _ => ?_) (b := ()) trivial
  · have hi := get_lt hx
    simp only [Equal25.l0]
    refine .yes (decide_eq_true (by omega)) (.val (rd_some' hx) (.val (rd_some' hx) (.no (by simp) (.now' ?_))))
    rw [w64_id (by omega) (by omega)]
  · simp only [Equal25.l0]
    exact .no (by simp) (.now _)
def stepR (c : Cir) (st inn : Int) : Int × Int × Unit := if fault c ≠ 0 then (0, 0, ()) else (((pk (line c st inn c.2.2.1) : Nat) : Int), ((pk (line c st inn c.2.2.2.1) : Nat) : Int), ())
theorem stepR_ev (c : Cir) (st inn : Int) : Ev (fun k => Step16 k c st inn) (stepR c st inn, ()) := by
  unfold Step16 stepR
  refine .bind (check_ev c) ?_
  by_cases hf : fault c ≠ 0
  · rw [if_pos hf]
    exact .yes (bne_iff_ne.2 hf) (.now _)
  · rw [if_neg hf]
    have hf0 : fault c = 0 := by omega
    have hR := right_of c hf0
    exact .no (by rw [hf0]; rfl) (.bind (values_ev hR st inn) (.bind (bits_ev hR st inn _ hR.outs) (.bind (bits_ev hR st inn _ hR.next) (.now _))))
theorem first_ev (c : Cir) (hc : c.2.2.2.2.length ≤ 9223372036854775806) : Ev (fun k => First37 k c) ((first c : Int), ()) := by
  unfold First37
  refine .bind (a := (first c : Int)) (Lp.ev ?_) (.now _)
  generalize hl : c.2.2.2.2 = l at hc
  have hf : first c = pk ((l.take 10).map bitOf) := by unfold first; rw [hl]
  have := Lp.fold (body := fun k => First37.l0 k c) l (fun (m : List Nat) i => ((pk (m.take 10) : Int), i)) (fun m x => m ++ [bitOf x]) (fun m => (pk (m.take 10) : Int)) (fun i m => m = (l.take i).map bitOf) (fun i x m hx hm => ⟨?_, ?_⟩) (fun m _ => ?_) (b := []) rfl
  · rw [foldl_snoc, List.nil_append, ← List.map_take, ← hf] at this
    exact this
  · have hi := get_lt hx
    have hlen : m.length = i := by rw [hm, List.length_map, List.length_take]; omega
    simp only [First37.l0, hl]
    refine .yes (decide_eq_true (by omega)) (.val (rd_some' hx) (.bind (a := (pk ((m ++ [bitOf x]).take 10) : Int)) ?_ (.now' ?_)))
    · refine .iff (fun h => ?_) (fun h => .now' ?_)
      · have hlt : pk m < 2 ^ i := by rw [← hlen]; exact pk_lt m (by rw [hm]; exact bits_ok _)
        refine .val (a := shlI .i64 (bitOf x : Int) (i : Int)) ?_ (.now' ?_)
        · rw [if_neg (by omega), (bit_and x).1]
        · rw [List.take_of_length_le (show m.length ≤ 10 by omega), add_bit hlt (bit_and x).2 (by omega), List.take_of_length_le (by rw [List.length_append]; simp; omega), pk_snoc, hlen]
      · rw [List.take_append_of_le_length (by omega)]
    · rw [w64_id (by omega) (by omega)]
  · rw [hm, take_snoc hx, List.map_append]; rfl
  · simp only [First37.l0, hl]
    exact .no (by simp) (.now _)

end Go.Proofs.Ytjbdhaenakcclaa.St

/- Tables of circuits: lists, maps from states to numbers. No program in sight. -/
set_option linter.unusedVariables false
noncomputable section
namespace Go.Proofs.Ytjbdhaenakcclaa.St
open Go Go.Proofs.Ytjbdhaenakcclaa.Gp

theorem Lp.uniq {S R : Type} {body : Nat → S → Option (S ⊕ R)} {s : S} {r r' : R} (h : Lp body s r) (h' : Lp body s r') : r = r' := by
  obtain ⟨n, m, h⟩ := h
  obtain ⟨n', m', h'⟩ := h'
  exact Option.some.inj ((h (max n n') (by omega) (max m m') (by omega)).symm.trans (h' (max n n') (by omega) (max m m') (by omega)))
abbrev Tbl := Int × Int × List (List (Int × Int))
abbrev IMap := List (Int × Int)
def idx (l : List Int) (x : Int) : Int := (l.idxOf x : Nat)
theorem index_lp (l : List Int) (x : Int) (hl : l.length < 9223372036854775807) : ∀ (suf pre : List Int), l = pre ++ suf → x ∉ pre → Lp (fun k => Index57.l0 k l x) (pre.length : Int) (if x ∈ suf then .inr (idx l x, ()) else .inl ()) := by
  intro suf
  induction suf with
  | nil =>
    intro pre h hx
    rw [List.append_nil] at h
    subst h
    rw [if_neg (by simp)]
    refine .done ?_
    simp only [Index57.l0]
    exact .no (by simp) (.now _)
  | cons y suf ih =>
    intro pre h hx
    have hy : l[pre.length]? = some y := by rw [h]; simp
    have hlen : l.length = pre.length + (suf.length + 1) := by rw [h]; simp
    by_cases hxy : x = y
    · subst hxy
      rw [if_pos (by simp)]
      refine .done ?_
      simp only [Index57.l0]
      refine .yes (decide_eq_true (by omega)) (.val (rd_some' hy) (.yes (by simp) (.now' ?_)))
      have : l.idxOf x = pre.length := by rw [h, List.idxOf_append, if_neg hx]; simp
      unfold idx
      rw [this]
    · have e : (if x ∈ y :: suf then (.inr (idx l x, ()) : Unit ⊕ (Int × Unit)) else .inl ()) = if x ∈ suf then .inr (idx l x, ()) else .inl () := by
        simp [hxy]
      rw [e]
      have := ih (pre ++ [y]) (by rw [h]; simp) (by simp [hx, hxy])
      rw [List.length_append, List.length_singleton] at this
      refine .step ?_ this
      simp only [Index57.l0]
      refine .yes (decide_eq_true (by omega)) (.val (rd_some' hy) (.no (by simpa using hxy) (.now' ?_)))
      rw [w64_succ (by omega)]
theorem index_ev (l : List Int) (x : Int) (hl : l.length < 9223372036854775807) : Ev (fun k => Index57 k l x) (if x ∈ l then idx l x else -1, ()) := by
  unfold Index57
  have := index_lp l x hl l [] rfl (by simp)
  by_cases h : x ∈ l
  · rw [if_pos h] at this ⊢
    exact .joinR this.ev
  · rw [if_neg h] at this ⊢
    exact .joinL (S := Unit) this.ev (.now _)

theorem mput_new {kk kv : K} {l : List (kk.den × kv.den)} {k : kk.den} {v : kv.den} (h : mget kk kv l k = none) : mput kk kv l k v = l ++ [(k, v)] := by
  have hn : ¬ mpos kk kv l k < l.length := fun hlt => by
    obtain ⟨e, he, hp⟩ := mpos_lt hlt
    unfold mget at h
    rw [Option.map_eq_none_iff, List.find?_eq_none] at h
    exact h e (List.mem_of_getElem? he) hp
  unfold mput
  rw [if_neg hn]
theorem mget_self {kk kv : K} (hc : kk.cmp = true) {l : List (kk.den × kv.den)} {k : kk.den} {v : kv.den} : mget kk kv (mput kk kv l k v) k = some v := (mget_mput hc).trans (if_pos (eqB_refl hc))
theorem mget_other {kk kv : K} (hc : kk.cmp = true) {l : List (kk.den × kv.den)} {k k' : kk.den} {v : kv.den} (h : k' ≠ k) : mget kk kv (mput kk kv l k v) k' = mget kk kv l k' := (mget_mput hc).trans (if_neg (fun e => h (eqB_eq hc e)))
def inAt (l : List Int) (x : Int) : Option Int := if x ∈ l then some (idx l x) else none
theorem inAt_yes {l : List Int} {x : Int} (h : x ∈ l) : inAt l x = some (idx l x) := if_pos h
theorem inAt_no {l : List Int} {x : Int} (h : x ∉ l) : inAt l x = none := if_neg h
/-- a map that knows where each state stands -/
structure Knows (l : List Int) (m : IMap) : Prop where
  get : ∀ x : Int, mget (.int .i64) (.int .i64) m x = inAt l x
  len : m.length = l.length
theorem knows_nil : Knows [] [] := ⟨fun x => rfl, rfl⟩
theorem idx_app {l : List Int} {x : Int} (y : Int) (h : x ∈ l) : idx (l ++ [y]) x = idx l x := by
  unfold idx
  rw [List.idxOf_append, if_pos h]
theorem idx_new {l : List Int} {x : Int} (h : x ∉ l) : idx (l ++ [x]) x = (l.length : Int) := by
  unfold idx
  rw [List.idxOf_append, if_neg h]
  simp
theorem Knows.put {l : List Int} {m : IMap} (h : Knows l m) {x : Int} (hx : x ∉ l) : Knows (l ++ [x]) (mput (.int .i64) (.int .i64) m x (m.length : Int)) := by
  have hg : mget (.int .i64) (.int .i64) m x = none := (h.get x).trans (inAt_no hx)
  refine ⟨fun y => ?_, ?_⟩
  · by_cases hxy : y = x
    · subst hxy
      have e : inAt (l ++ [y]) y = some (m.length : Int) := by rw [inAt_yes (by simp), idx_new hx, h.len]
      exact (mget_self (kk := .int .i64) (kv := .int .i64) rfl).trans e.symm
    · refine (mget_other (kk := .int .i64) (kv := .int .i64) rfl hxy).trans ((h.get y).trans ?_)
      by_cases hy : y ∈ l
      · rw [inAt_yes hy, inAt_yes (by simp [hy]), idx_app x hy]
      · rw [inAt_no hy, inAt_no (by simp [hy, hxy])]
  · have := mput_new (kk := .int .i64) (kv := .int .i64) (v := (m.length : Int)) hg
    exact (congrArg List.length this).trans (by show (m ++ [(x, (m.length : Int))] : IMap).length = _; rw [List.length_append, List.length_append, h.len]; rfl)

def putS (l : List Int) (m : IMap) (x : Int) : IMap := if x ∈ l then m else mput (.int .i64) (.int .i64) m x (m.length : Int)
theorem putS_yes {l : List Int} {m : IMap} {x : Int} (h : x ∈ l) : putS l m x = m := if_pos h
theorem putS_no {l : List Int} {m : IMap} {x : Int} (h : x ∉ l) : putS l m x = mput (.int .i64) (.int .i64) m x (m.length : Int) := if_neg h
def addS (l : List Int) (x : Int) : List Int := if x ∈ l then l else l ++ [x]
theorem Knows.add {l : List Int} {m : IMap} (h : Knows l m) (x : Int) : Knows (addS l x) (putS l m x) := by
  by_cases hx : x ∈ l
  · rw [putS_yes hx, show addS l x = l from if_pos hx]; exact h
  · have := h.put hx
    rw [show addS l x = l ++ [x] from if_neg hx]
    rw [← putS_no hx] at this
    exact this
/-- equal tables -/
theorem equal96_ev (l : List (Int × Int)) (hl : l.length < 9223372036854775807) : Ev (fun k => Equal96 k l l) (true, ()) := by
  unfold Equal96
  refine .no (by simp) (.joinL (S := Unit) (a := ()) (Lp.ev ?_) (.now _))
  refine Lp.fold (body := fun k => Equal96.l0 k l l) l (fun (_ : Unit) i => i) (fun _ _ => ()) (fun _ => (.inl () : Unit ⊕ (Bool × Unit))) (fun _ _ => True) (fun i x b hx _ => ⟨?_, trivial⟩) (fun b _ => ?_) (b := ()) trivial
  · have hi := get_lt hx
    simp only [Equal96.l0]
    refine .yes (decide_eq_true (by omega)) (.val (rd_some' hx) (.val (rd_some' hx) (.no ?_ (.now' ?_))))
    · have : eqB (.st (.pair (.int .i64) (.int .i64))) x x = true := (eqB_iff (k := .st (.pair (.int .i64) (.int .i64))) rfl).2 rfl
      rw [this]; rfl
    · rw [w64_id (by omega) (by omega)]
  · simp only [Equal96.l0]
    exact .no (by simp) (.now _)
theorem rows_ev (l : List (List (Int × Int))) (hl : l.length < 9223372036854775807) (hr : ∀ r ∈ l, r.length < 9223372036854775807) : Ev (fun k => EqualFunc94 k l l ()) (true, ()) := by
  unfold EqualFunc94
  refine .no (by simp) (.joinL (S := Unit) (a := ()) (Lp.ev ?_) (.now _))
  refine Lp.fold (body := fun k => EqualFunc94.l0 k l l) l (fun (_ : Unit) i => ((), i)) (fun _ _ => ()) (fun _ => (.inl () : Unit ⊕ (Bool × Unit))) (fun _ _ => True) (fun i x b hx _ => ⟨?_, trivial⟩) (fun b _ => ?_) (b := ()) trivial
  · have hi := get_lt hx
    simp only [EqualFunc94.l0]
    refine .yes (decide_eq_true (by omega)) (.val (rd_some' hx) (.val (rd_some' hx) (.bind (a := (true, ())) ?_ (.no rfl (.now' ?_)))))
    · unfold sameTable195
      exact .bind (equal96_ev x (hr x (get_mem hx))) (.now _)
    · rw [w64_id (by omega) (by omega)]
  · simp only [EqualFunc94.l0]
    exact .no (by simp) (.now _)
theorem same_ev (t : Tbl) (hl : t.2.2.length < 9223372036854775807) (hr : ∀ r ∈ t.2.2, r.length < 9223372036854775807) : Ev (fun k => sameTable45 k t t) (true, ()) := by
  unfold sameTable45
  exact .bind (a := true) (.yes (by simp) (.bind (rows_ev t.2.2 hl hr) (.now _))) (.now _)
end Go.Proofs.Ytjbdhaenakcclaa.St

/- Tables of circuits: states found one after the other. No program in sight. -/
set_option linter.unusedVariables false
noncomputable section
namespace Go.Proofs.Ytjbdhaenakcclaa.St
open Go Go.Proofs.Ytjbdhaenakcclaa.Gp

def outI (c : Cir) (s : Int) (i : Nat) : Int := (pk (line c s (i : Int) c.2.2.1) : Nat)
def nxtI (c : Cir) (s : Int) (i : Nat) : Int := (pk (line c s (i : Int) c.2.2.2.1) : Nat)
theorem addS_len (l : List Int) (x : Int) : l.length ≤ (addS l x).length ∧ (addS l x).length ≤ l.length + 1 := by
  unfold addS
  split
  · omega
  · rw [List.length_append, List.length_singleton]; omega
theorem addS_at {l : List Int} {x : Int} {k : Nat} {s : Int} (h : l[k]? = some s) : (addS l x)[k]? = some s := by
  unfold addS
  split
  · exact h
  · rw [List.getElem?_append_left (get_lt h)]; exact h
/-- one input more of a state's row -/
def rowS (c : Cir) (s : Int) (b : List Int × List (Int × Int)) (i : Nat) : List Int × List (Int × Int) := (addS b.1 (nxtI c s i), b.2 ++ [(outI c s i, idx b.1 (nxtI c s i))])
theorem idx_none {l : List Int} {x : Int} (h : x ∉ l) : idx l x = (l.length : Int) := by unfold idx; rw [List.idxOf_eq_length h]
structure RowI (a : List Int) (k : Nat) (s : Int) (i : Nat) (b : List Int × List (Int × Int)) : Prop where
  len : a.length ≤ b.1.length ∧ b.1.length ≤ a.length + i
  row : b.2.length = i
  at' : b.1[k]? = some s
theorem RowI.next {a : List Int} {k : Nat} {s : Int} {i : Nat} {b : List Int × List (Int × Int)} (c : Cir) (h : RowI a k s i b) : RowI a k s (i + 1) (rowS c s b i) := by
  have := addS_len b.1 (nxtI c s i)
  have := h.len
  exact ⟨⟨show a.length ≤ (addS b.1 (nxtI c s i)).length by omega, show (addS b.1 (nxtI c s i)).length ≤ a.length + (i + 1) by omega⟩, by show (b.2 ++ _).length = _; rw [List.length_append, h.row]; rfl, addS_at h.at'⟩
theorem RowI.all {a : List Int} {k : Nat} {s : Int} (c : Cir) (h : a[k]? = some s) : ∀ n, RowI a k s n ((List.range n).foldl (rowS c s) (a, []))
  | 0 => ⟨⟨Nat.le_refl _, Nat.le_refl _⟩, rfl, h⟩
  | n + 1 => by rw [List.range_succ, List.foldl_append]; exact (RowI.all c h n).next c
theorem room8 {n : Nat} (h : n ≤ 100000) : room n 8 = true := room_ok (by omega)
theorem room16 {n : Nat} (h : n ≤ 100000) : room n 16 = true := room_ok (by omega)
theorem room24 {n : Nat} (h : n ≤ 100000) : room n 24 = true := room_ok (by omega)

theorem lawRow {c : Cir} (hR : Right c) (t : Tbl) (o1 : Int × Int × Unit) (o2 : List (List (Int × Int))) (a : List Int) (k : Nat) (s : Int) (n : Nat) (hk : a[k]? = some s) (ha : a.length ≤ 64) (hn : n ≤ 1024) :
    Lp (fun j => SynthTables11.l0 j (k : Int) (n : Int)) (c, t, (), (), (), 0, a, o1, o2, []) (c, t, (), (), (), ((List.range n).foldl (rowS c s) (a, [])).1, o1, o2, ((List.range n).foldl (rowS c s) (a, [])).2) := by
  refine Lp.count (body := fun j => SynthTables11.l0 j (k : Int) (n : Int)) n (fun (b : List Int × List (Int × Int)) i => (c, t, (), (), (), i, b.1, o1, o2, b.2)) (rowS c s) (fun b => (c, t, (), (), (), b.1, o1, o2, b.2)) (fun i b => i ≤ n ∧ RowI a k s i b) (fun i b hi hb => ⟨?_, hi, hb.2.next c⟩) (fun b hb => ?_) (b := (a, [])) ⟨Nat.zero_le _, RowI.all c hk 0⟩
  · obtain ⟨_, hb⟩ := hb
    have h1 := hb.len
    have h2 := hb.row
    simp only [SynthTables11.l0]
    refine .yes (decide_eq_true (by omega)) (.val (rd_some' hb.at') (.val (rd_some' hb.at') (.bind (stepped_ev hR s (i : Int)) ?_)))
    have hix := index_ev b.1 (nxtI c s i) (by omega)
    have tail : Ev (fun (j : Nat) => (if room (List.length b.2 + List.length [(outI c s i, idx b.1 (nxtI c s i))]) 16 then some () else none).bind fun _ => some (Sum.inl (β := Cir × Tbl × Unit × Unit × Unit × List Int × (Int × Int × Unit) × List (List (Int × Int)) × List (Int × Int)) (c, t, (), (), (), (w64 ((i : Int) + 1)), addS b.1 (nxtI c s i), o1, o2, b.2 ++ [(outI c s i, idx b.1 (nxtI c s i))]))) (.inl (c, t, (), (), (), (i : Int) + 1, (rowS c s b i).1, o1, o2, (rowS c s b i).2)) := by
      refine .val (a := ()) ?_ (.now' ?_)
      · rw [if_pos (room16 (by rw [h2]; simp; omega))]
      · rw [w64_id (by omega) (by omega)]; rfl
    by_cases hm : nxtI c s i ∈ b.1
    · rw [if_pos hm] at hix
      refine .bind hix (.bind (a := (c, t, (), (), (), idx b.1 (nxtI c s i), addS b.1 (nxtI c s i), o1, o2, b.2)) (.no (decide_eq_false (by unfold idx; omega)) (.now' ?_)) tail)
      rw [show addS b.1 (nxtI c s i) = b.1 from if_pos hm]
    · rw [if_neg hm] at hix
      refine .bind hix (.bind (a := (c, t, (), (), (), idx b.1 (nxtI c s i), addS b.1 (nxtI c s i), o1, o2, b.2)) (.yes rfl (.val (a := ()) ?_ (.now' ?_))) tail)
      · rw [if_pos (room8 (by simp; omega))]
      · rw [show addS b.1 (nxtI c s i) = b.1 ++ [nxtI c s i] from if_neg hm, idx_none hm]; rfl
  · simp only [SynthTables11.l0]
    exact .no (by simp) (.now _)
theorem progRow {c : Cir} (hf : fault c = 0) (o0 : Int × Int × Unit) (o1 : List (List (Int × Int))) (o2 : Int × Int × Unit) (o3 : List (List (Int × Int))) (a : List Int) (m : IMap) (k : Nat) (s : Int) (n : Nat) (hk : a[k]? = some s) (ha : a.length ≤ 64) (hn : n ≤ 1024) (hm : Knows a m) :
    ∃ m', Knows ((List.range n).foldl (rowS c s) (a, [])).1 m' ∧ Lp (fun j => Table56.l0 j (n : Int)) (c, (), (), (), (), (), 0, o0, o1, o2, o3, m, a.drop k, [])
      (c, (), (), (), (), (), o0, o1, o2, o3, m', ((List.range n).foldl (rowS c s) (a, [])).1.drop k, ((List.range n).foldl (rowS c s) (a, [])).2) := by
  have key : ∀ (d i : Nat) (m : IMap), i + d = n → Knows ((List.range i).foldl (rowS c s) (a, [])).1 m →
      ∃ m', Knows ((List.range n).foldl (rowS c s) (a, [])).1 m' ∧ Lp (fun j => Table56.l0 j (n : Int)) (c, (), (), (), (), (), (i : Int), o0, o1, o2, o3, m, ((List.range i).foldl (rowS c s) (a, [])).1.drop k, ((List.range i).foldl (rowS c s) (a, [])).2)
      (c, (), (), (), (), (), o0, o1, o2, o3, m', ((List.range n).foldl (rowS c s) (a, [])).1.drop k, ((List.range n).foldl (rowS c s) (a, [])).2) := by
    intro d
    induction d with
    | zero =>
      intro i m hi hm
      have : i = n := by omega
      subst this
      refine ⟨m, hm, .done ?_⟩
      simp only [Table56.l0]
      exact .no (by simp) (.now _)
    | succ d ih =>
      intro i m hi hm
      have hb := RowI.all c hk i
      have e : (List.range (i + 1)).foldl (rowS c s) (a, []) = rowS c s ((List.range i).foldl (rowS c s) (a, [])) i := by rw [List.range_succ, List.foldl_append]; rfl
      generalize (List.range i).foldl (rowS c s) (a, []) = b at hb hm e
      have h1 := hb.len
      have h2 := hb.row
      have h3 := hb.at'
      have hlt := get_lt h3
      have hrd : (b.1.drop k)[0]? = some s := by rw [List.getElem?_drop, Nat.add_zero]; exact h3
      have hd : (addS b.1 (nxtI c s i)).drop k = if nxtI c s i ∈ b.1 then b.1.drop k else b.1.drop k ++ [nxtI c s i] := by
        unfold addS
        split
        · rfl
        · rw [List.drop_append_of_le_length (by omega)]
      have hput := hm.add (nxtI c s i)
      obtain ⟨m', hm', hl⟩ := ih (i + 1) _ (by omega) (by rw [e]; exact hput)
      refine ⟨m', hm', .step ?_ hl⟩
      rw [e]
      simp only [Table56.l0]
      refine .yes (decide_eq_true (by omega)) (.val (rd_some' (i := 0) hrd) (.val (rd_some' (i := 0) hrd) (.bind (stepR_ev c s (i : Int)) ?_)))
      have es : stepR c s (i : Int) = (outI c s i, nxtI c s i, ()) := by unfold stepR; rw [if_neg (by omega)]; rfl
      rw [es]
      show Ev (fun j => Option.bind (cond (!(Option.isSome (mget (.int .i64) (.int .i64) m (nxtI c s i)))) _ _) _) _
      refine .bind (a := (c, (), (), (), (), (), idx b.1 (nxtI c s i), o0, o1, o2, o3, putS b.1 m (nxtI c s i), (addS b.1 (nxtI c s i)).drop k, b.2)) ?_ (.val (a := ()) ?_ (.now' ?_))
      · by_cases hx : nxtI c s i ∈ b.1
        · have hg : mget (.int .i64) (.int .i64) m (nxtI c s i) = some (idx b.1 (nxtI c s i)) := (hm.get _).trans (inAt_yes hx)
          rw [if_pos hx] at hd
          rw [putS_yes hx]
          refine .no (congrArg (fun (o : Option Int) => !(Option.isSome o)) hg) (.now' ?_)
          rw [hd]
          have : Option.getD (α := Int) (mget (.int .i64) (.int .i64) m (nxtI c s i)) (0 : Int) = idx b.1 (nxtI c s i) := congrArg (fun (o : Option Int) => Option.getD o 0) hg
          rw [this]
        · have hg : mget (.int .i64) (.int .i64) m (nxtI c s i) = none := (hm.get _).trans (inAt_no hx)
          rw [if_neg hx] at hd
          rw [putS_no hx]
          refine .yes (congrArg (fun (o : Option Int) => !(Option.isSome o)) hg) (.val (a := ()) ?_ (.now' ?_))
          · rw [if_pos (room8 (by rw [List.length_drop]; simp; omega))]
          · rw [hd, idx_none hx, hm.len]
      · rw [if_pos (room16 (by rw [h2]; simp; omega))]
      · rw [w64_succ (by omega)]; rfl
  exact key n 0 m (by omega) (by simpa using hm)

/-- all states that are found, and the rows -/
theorem found {c : Cir} (hR : Right c) (hf : fault c = 0) (h4 : c.1 ≤ 4) (t : Tbl) (x0 : Int × Int × Unit) : ∀ (n k : Nat) (a : List Int) (m : IMap) (rows : List (List (Int × Int))), k + n = 65 → k ≤ a.length → a.length ≤ 64 → rows.length = k → (∀ r ∈ rows, r.length ≤ 1024) → Knows a m →
    ∃ (a' : List Int) (rows' : List (List (Int × Int))), rows'.length ≤ 100 ∧ (∀ r ∈ rows', r.length ≤ 1024) ∧
      Lp (fun j => SynthTables11.l1 j) (c, t, (), (), (k : Int), a, (c.1, (c.2.2.1.length : Int), ()), rows) (t, (), (), a', (c.1, (c.2.2.1.length : Int), ()), rows') ∧
      Lp (fun j => Table56.l1 j) (c, (), (), (), (), x0, [], (c.1, (c.2.2.1.length : Int), ()), rows, m, a.drop k)
        (if a'.length > 64 then .inr (((0, 0, []), 6, ()), ()) else .inl ((), (), x0, [], (c.1, (c.2.2.1.length : Int), ()), rows')) := by
  intro n
  induction n with
  | zero => intro k a m rows hk hka ha; omega
  | succ n ih =>
    intro k a m rows hk hka ha hr hrr hm
    by_cases hlt : k < a.length
    · have hak : a[k]? = some a[k] := List.getElem?_eq_getElem hlt
      generalize a[k] = s at hak
      have hins := hR.ins
      have hsh := shl_ins hR
      obtain ⟨N, hN, hN2⟩ : ∃ N : Nat, shlI .i64 1 c.1 = (N : Int) ∧ N ≤ 16 := by
        refine ⟨_, hsh, ?_⟩
        have : c.1.toNat ≤ 4 := by omega
        exact Nat.le_trans (Nat.pow_le_pow_right (by decide) this) (by decide)
      have hrow := RowI.all c hak N
      have h1 := lawRow hR t (c.1, (c.2.2.1.length : Int), ()) rows a k s N hak ha (by omega)
      obtain ⟨m', hm', h2⟩ := progRow hf x0 [] (c.1, (c.2.2.1.length : Int), ()) rows a m k s N hak ha (by omega) hm
      generalize (List.range N).foldl (rowS c s) (a, []) = b at hrow hm' h1 h2
      have g1 := hrow.len
      have g2 := hrow.row
      have hrr' : ∀ r ∈ rows ++ [b.2], r.length ≤ 1024 := by
        intro r hr'
        rcases List.mem_append.1 hr' with h | h
        · exact hrr r h
        · rw [List.mem_singleton.1 h]; omega
      have law1 : Ev (fun j => SynthTables11.l1 j (c, t, (), (), (k : Int), a, (c.1, (c.2.2.1.length : Int), ()), rows)) (.inl (c, t, (), (), ((k + 1 : Nat) : Int), b.1, (c.1, (c.2.2.1.length : Int), ()), rows ++ [b.2])) := by
        simp only [SynthTables11.l1]
        refine .yes (by rw [decide_eq_true (by omega : (k : Int) < (a.length : Int)), decide_eq_true (by omega : (a.length : Int) ≤ 64)]; rfl) (.val (a := (N : Int)) (by rw [if_neg (by omega), hN]) (.bind h1.ev (.val (a := ()) ?_ (.now' ?_))))
        · rw [if_pos (room24 (by rw [hr]; simp; omega))]
        · rw [w64_succ (by omega)]
      have prog1 : ∀ r, (b.1.length > 64 → r = .inr (.inr (((0, 0, []), 6, ()), ()))) → (b.1.length ≤ 64 → r = .inl (c, (), (), (), (), x0, [], (c.1, (c.2.2.1.length : Int), ()), rows ++ [b.2], m', b.1.drop (k + 1))) → Ev (fun j => Table56.l1 j (c, (), (), (), (), x0, [], (c.1, (c.2.2.1.length : Int), ()), rows, m, a.drop k)) r := by
        intro r hr1 hr2
        simp only [Table56.l1]
        refine .yes (decide_eq_true (by rw [List.length_drop]; omega)) (.val (a := (N : Int)) (by rw [if_neg (by omega), hN]) (.bind h2.ev (.val (a := ()) ?_ (.val (a := b.1.drop (k + 1)) ?_ ?_))))
        · rw [if_pos (room24 (by rw [hr]; simp; omega))]
        · have := slc_tail (l := b.1.drop k) (a := 1) (by rw [List.length_drop]; omega)
          rw [List.drop_drop] at this
          exact this
        · refine .iff (fun h => .now' (hr1 (by rw [hm'.len] at h; omega)).symm) (fun h => .now' (hr2 (by rw [hm'.len] at h; omega)).symm)
      by_cases hbig : b.1.length > 64
      · refine ⟨b.1, rows ++ [b.2], by rw [List.length_append, hr]; simp; omega, hrr', .step law1 (.done ?_), ?_⟩
        · simp only [SynthTables11.l1]
          refine .no ?_ (.now _)
          rw [decide_eq_false (by omega : ¬ (b.1.length : Int) ≤ 64)]
          cases decide (((k + 1 : Nat) : Int) < (b.1.length : Int)) <;> rfl
        · rw [if_pos hbig]
          exact .done (prog1 _ (fun _ => rfl) (fun h => absurd h (by omega)))
      · obtain ⟨a', rows', q1, q2, q3, q4⟩ := ih (k + 1) b.1 m' (rows ++ [b.2]) (by omega) (by omega) (by omega) (by rw [List.length_append, hr]; rfl) hrr' hm'
        exact ⟨a', rows', q1, q2, .step law1 q3, .step (prog1 _ (fun h => absurd h hbig) (fun _ => rfl)) q4⟩
    · have : k = a.length := by omega
      refine ⟨a, rows, by omega, hrr, .done ?_, ?_⟩
      · simp only [SynthTables11.l1]
        refine .no ?_ (.now _)
        rw [decide_eq_false (by omega : ¬ (k : Int) < (a.length : Int))]; rfl
      · rw [if_neg (by omega)]
        refine .done ?_
        simp only [Table56.l1]
        refine .no (decide_eq_false (by rw [List.length_drop]; omega)) (.now _)
end Go.Proofs.Ytjbdhaenakcclaa.St

/- Shortest words that tell two circuits apart: the program's search. No program in sight. -/
set_option linter.unusedVariables false
set_option maxRecDepth 100000
noncomputable section
namespace Go.Proofs.Ytjbdhaenakcclaa.St
open Go Go.Proofs.Ytjbdhaenakcclaa.Gp

theorem intsLen (l : List Nat) : (ints l).length = l.length := List.length_map ..
theorem intsSnoc (l : List Nat) (x : Nat) : ints l ++ [(x : Int)] = ints (l ++ [x]) := by simp [ints]
theorem Ev.orN {α : Type} {n : Nat} {f g : Nat → Option α} {v : α} (h2 : Ev g v) (h1 : n = 0 → Ev f v) : Ev (fun k => orNil n (f k) (g k)) v := by
  by_cases hn : n = 0
  · subst hn
    obtain ⟨a, h1⟩ := h1 rfl
    obtain ⟨b, h2⟩ := h2
    refine ⟨max a b, fun k hk => ?_⟩
    show orNil 0 (f k) (g k) = some v
    rw [orNil_zero ((h1 k (by omega)).trans (h2 k (by omega)).symm)]
    exact h2 k (by omega)
  · obtain ⟨b, h2⟩ := h2
    refine ⟨b, fun k hk => ?_⟩
    show orNil n (f k) (g k) = some v
    rw [orNil_pos hn]
    exact h2 k hk
theorem clone_ev (l : List Int) (hl : l.length ≤ 1000) : Ev (fun k => Clone81 k l) ((), l) := by
  unfold Clone81
  refine Ev.orN (.no rfl (.val (a := ()) ?_ (.now _))) (fun h => .yes rfl (.now' ?_))
  · rw [if_pos (room_ok (by omega))]
  · rw [List.length_eq_zero_iff.1 h]
def dlC (a b : Cir) (p : Pr) (i : Nat) : Pr := (nxtI a p.1 i, nxtI b p.2 i)
def dfC (a b : Cir) (p : Pr) (i : Nat) : Bool := outI a p.1 i != outI b p.2 i
def DomC (a b : Cir) (p : Pr) : Prop := ∃ x y : Nat, p = ((x : Int), (y : Int)) ∧ x < 2 ^ a.2.2.2.1.length ∧ y < 2 ^ b.2.2.2.1.length
theorem nxt_in {c : Cir} (hR : Right c) (st : Int) (i : Nat) : ∃ x : Nat, nxtI c st i = (x : Int) ∧ x < 2 ^ c.2.2.2.1.length := by
  refine ⟨_, rfl, ?_⟩
  have := pk_lt (line c st (i : Int) c.2.2.2.1) (line_le hR st (i : Int) _)
  rwa [show (line c st (i : Int) c.2.2.2.1).length = c.2.2.2.1.length from List.length_map ..] at this
theorem dom_step {a b : Cir} (ha : Right a) (hb : Right b) (p : Pr) (i : Nat) : DomC a b (dlC a b p i) := by
  obtain ⟨x, hx, h1⟩ := nxt_in ha p.1 i
  obtain ⟨y, hy, h2⟩ := nxt_in hb p.2 i
  exact ⟨x, y, by unfold dlC; rw [hx, hy], h1, h2⟩
theorem nodup_lt : ∀ (n : Nat) (l : List Nat), l.Nodup → (∀ x ∈ l, x < n) → l.length ≤ n
  | 0, l, _, h => by
    cases l with
    | nil => exact Nat.le_refl _
    | cons x l => exact absurd (h x (by simp)) (by omega)
  | n + 1, l, nd, h => by
    by_cases hn : n ∈ l
    · have h1 := nodup_lt n (l.erase n) (nd.erase n) (fun x hx => by
        have := (List.Nodup.mem_erase_iff nd).1 hx
        have := h x this.2
        omega)
      rw [List.length_erase_of_mem hn] at h1
      omega
    · have := nodup_lt n l nd (fun x hx => by
        have := h x hx
        have : x ≠ n := fun e => hn (e ▸ hx)
        omega)
      omega
theorem dom_len {a b : Cir} (hf : a.2.2.2.1.length + b.2.2.2.1.length ≤ 6) {l : List Pr} (nd : l.Nodup) (hd : ∀ p ∈ l, DomC a b p) : l.length ≤ 64 := by
  have key := nodup_lt 64 (l.map fun p => p.1.toNat + 2 ^ a.2.2.2.1.length * p.2.toNat) ?_ ?_
  · rwa [List.length_map] at key
  · unfold List.Nodup
    rw [List.pairwise_map]
    refine List.Pairwise.imp_of_mem ?_ nd
    intro p q hp hq hne he
    obtain ⟨x, y, rfl, h1, h2⟩ := hd p hp
    obtain ⟨x', y', rfl, h3, h4⟩ := hd q hq
    simp only [Int.toNat_natCast] at he
    have hpos : 0 < 2 ^ a.2.2.2.1.length := Nat.pow_pos (by decide)
    have e1 : x = x' := by
      have := congrArg (· % 2 ^ a.2.2.2.1.length) he
      simp only [Nat.add_mul_mod_self_left] at this
      rwa [Nat.mod_eq_of_lt h1, Nat.mod_eq_of_lt h3] at this
    subst e1
    have e2 : y = y' := Nat.eq_of_mul_eq_mul_left hpos (by omega)
    subst e2
    exact hne rfl
  · intro z hz
    obtain ⟨p, hp, rfl⟩ := List.mem_map.1 hz
    obtain ⟨x, y, rfl, h1, h2⟩ := hd p hp
    simp only [Int.toNat_natCast]
    have : (2 : Nat) ^ (a.2.2.2.1.length + b.2.2.2.1.length) ≤ 2 ^ 6 := Nat.pow_le_pow_right (by decide) hf
    rw [Nat.pow_add] at this
    have h6 : (2 : Nat) ^ 6 = 64 := by decide
    have hm : 2 ^ a.2.2.2.1.length * (y + 1) ≤ 2 ^ a.2.2.2.1.length * 2 ^ b.2.2.2.1.length := Nat.mul_le_mul_left _ h2
    rw [Nat.mul_add, Nat.mul_one] at hm
    omega
-- the map of words
def pl (p : Pr) : List Int := [p.1, p.2]
theorem pl_inj {p q : Pr} (h : pl p = pl q) : p = q := by
  obtain ⟨x, y⟩ := p
  obtain ⟨x', y'⟩ := q
  simp only [pl, List.cons.injEq, and_true] at h
  rw [h.1, h.2]
abbrev WMap := List (List Int × List Int)
abbrev aK : K := .arr 2 (.int .i64)
abbrev sK : K := .sl (.int .i64)
structure Way (P : List Pr) (Ws : List (List Nat)) (m : WMap) : Prop where
  get : ∀ (b : Nat) (p : Pr) (w : List Nat), P[b]? = some p → Ws[b]? = some w → mget aK sK m (pl p) = some (ints w)
  non : ∀ p : Pr, p ∉ P → mget aK sK m (pl p) = none
theorem Way.add {P : List Pr} {Ws : List (List Nat)} {m : WMap} (h : Way P Ws m) (hl : Ws.length = P.length) {q : Pr} (hq : q ∉ P) (w : List Nat) : Way (P ++ [q]) (Ws ++ [w]) (mput aK sK m (pl q) (ints w)) := by
  refine ⟨fun b p x hb hx => ?_, fun p hp => ?_⟩
  · by_cases hlt : b < P.length
    · rw [List.getElem?_append_left hlt] at hb
      rw [List.getElem?_append_left (by omega)] at hx
      have hne : p ≠ q := fun e => hq (e ▸ get_mem hb)
      exact (mget_other (kk := aK) (kv := sK) rfl (fun e => hne (pl_inj e))).trans (h.get b p x hb hx)
    · have := get_lt hb
      rw [List.length_append, List.length_singleton] at this
      have e : b = P.length := by omega
      subst e
      rw [List.getElem?_append_right (Nat.le_refl _), Nat.sub_self] at hb
      rw [← hl, List.getElem?_append_right (Nat.le_refl _), Nat.sub_self] at hx
      cases hb
      cases hx
      exact mget_self (kk := aK) (kv := sK) rfl
  · have hpq : p ≠ q := fun e => hp (by simp [e])
    exact (mget_other (kk := aK) (kv := sK) rfl (fun e => hpq (pl_inj e))).trans (h.non p (fun hm => hp (by simp [hm])))
theorem way0 (s : Pr) : Way [s] [[]] (mput aK sK ([] : WMap) (pl s) []) := by
  have := (Way.add (P := []) (Ws := []) (m := []) ⟨fun b p w hb => (by simp at hb), fun p _ => rfl⟩ rfl (q := s) (by simp) [])
  exact this
theorem eq_pl {p q : Pr} : eqB aK (pl p) (pl q) = decide (p = q) := by
  have : eqB aK (pl p) (pl q) = true ↔ p = q := (eqB_iff (k := aK) rfl).trans ⟨pl_inj, fun h => by rw [h]⟩
  by_cases h : p = q
  · rw [decide_eq_true h]; exact this.2 h
  · rw [decide_eq_false h]
    cases he : eqB aK (pl p) (pl q) with
    | false => rfl
    | true => exact absurd (this.1 he) h
abbrev FoundC := (List Int × Bool × Int × Unit) × Unit
abbrev SC := Cir × Cir × List Int × Unit × Unit × List Int × Int × WMap × List (List Int)
abbrev AC := Cir × Cir × List Int × Unit × Unit × WMap × List (List Int)
def hit (w : List Nat) : FoundC := ((ints w, true, 0, ()), ())
theorem step_of {c : Cir} (hf : fault c = 0) (st : Int) (i : Nat) : Ev (fun k => Step16 k c st (i : Int)) ((outI c st i, nxtI c st i, ()), ()) := by
  have := stepR_ev c st (i : Int)
  rwa [show stepR c st (i : Int) = (outI c st i, nxtI c st i, ()) by unfold stepR; rw [if_neg (by omega)]; rfl] at this
section
variable {a b : Cir}
theorem rowC (ha : fault a = 0) (hb : fault b = 0) (hf : a.2.2.2.1.length + b.2.2.2.1.length ≤ 6) {B : Nat} (hB : B ≤ 16) {s : Pr} {k : Nat} : ∀ (n i : Nat) (P : List Pr) (Ws : List (List Nat)) (m : WMap), i + n = B → Bfs (dlC a b) (dfC a b) B s (DomC a b) P Ws k i → Way P Ws m → ∀ p, P[k]? = some p →
    (∃ w, Least (dlC a b) (dfC a b) B s w ∧ w.length ≤ 100 ∧ Gp.Lp (fun j => Circuits33.l0 j (B : Int)) (a, b, pl s, (), (), pl p, (i : Int), m, (P.drop (k + 1)).map pl) (.inr (.inr (.inr (hit w))))) ∨
    (∃ P' Ws' m', Bfs (dlC a b) (dfC a b) B s (DomC a b) P' Ws' k B ∧ Way P' Ws' m' ∧ P.length ≤ P'.length ∧ Gp.Lp (fun j => Circuits33.l0 j (B : Int)) (a, b, pl s, (), (), pl p, (i : Int), m, (P.drop (k + 1)).map pl) (.inl (a, b, pl s, (), (), m', (P'.drop (k + 1)).map pl))) := by
  have hRa := right_of a ha
  have hRb := right_of b hb
  intro n
  induction n with
  | zero =>
    intro i P Ws m hi h hm p hp
    have : i = B := by omega
    subst this
    refine .inr ⟨P, Ws, m, h, hm, Nat.le_refl _, .done ?_⟩
    simp only [Circuits33.l0]
    exact .no (by simp) (.now _)
  | succ n ih =>
    intro i P Ws m hi h hm p hp
    have hPl := dom_len hf h.dif h.dom
    have hk := get_lt hp
    have hlen := h.len
    have hw : Ws[k]? = some Ws[k] := List.getElem?_eq_getElem (by omega)
    generalize Ws[k]'(by omega) = w at hw
    obtain ⟨r1, r2, r3⟩ := h.reach k w hw
    have hmp : Option.getD (α := List Int) (mget aK sK m (pl p)) [] = ints w := congrArg (fun (o : Option (List Int)) => Option.getD o []) (hm.get k p w hp hw)
    have hwl : (ints w).length = w.length := intsLen w
    have hdrop : ((P.drop (k + 1)).map pl).length ≤ 64 := by rw [List.length_map, List.length_drop]; omega
    have hww : w64 ((i : Int) + 1) = ((i + 1 : Nat) : Int) := w64_succ (by omega)
    have pre : ∀ {r : SC ⊕ (AC ⊕ (AC ⊕ (Unit ⊕ FoundC)))}, Ev (fun (j : Nat) => (cond (outI a p.1 i != outI b p.2 i)
        (some (Sum.inr (Sum.inr (Sum.inr (Sum.inr ((ints w ++ ([(i : Int)] : List Int), true, 0, ()), ()))))))
        (cond (Option.isSome (mget aK sK m (pl (dlC a b p i))))
          (orNil (List.length (Option.getD (α := List Int) (mget aK sK m (pl (dlC a b p i))) []))
            (Option.bind (cond (cond true (xor true (eqB aK (pl (dlC a b p i)) (pl s))) false)
              ((if room (List.length ((P.drop (k + 1)).map pl) + List.length [pl (dlC a b p i)]) 16 then some () else none).bind fun _ => some (a, b, pl s, (), (), pl p, (mput aK sK m (pl (dlC a b p i)) (ints w ++ ([(i : Int)] : List Int))), ((P.drop (k + 1)).map pl ++ [pl (dlC a b p i)])))
              (some (a, b, pl s, (), (), pl p, m, (P.drop (k + 1)).map pl))) fun ((a_4, b_4, start_3, _, _, p_1, o0_2, o1_2) : Cir × Cir × List Int × Unit × Unit × List Int × WMap × List (List Int)) => some (Sum.inl (a_4, b_4, start_3, (), (), p_1, w64 ((i : Int) + 1), o0_2, o1_2)))
            (Option.bind (cond (cond false (xor true (eqB aK (pl (dlC a b p i)) (pl s))) false)
              ((if room (List.length ((P.drop (k + 1)).map pl) + List.length [pl (dlC a b p i)]) 16 then some () else none).bind fun _ => some (a, b, pl s, (), (), pl p, (mput aK sK m (pl (dlC a b p i)) (ints w ++ ([(i : Int)] : List Int))), ((P.drop (k + 1)).map pl ++ [pl (dlC a b p i)])))
              (some (a, b, pl s, (), (), pl p, m, (P.drop (k + 1)).map pl))) fun ((a_4, b_4, start_3, _, _, p_1, o0_2, o1_2) : Cir × Cir × List Int × Unit × Unit × List Int × WMap × List (List Int)) => some (Sum.inl (a_4, b_4, start_3, (), (), p_1, w64 ((i : Int) + 1), o0_2, o1_2))))
          (Option.bind (cond (cond true (xor true (eqB aK (pl (dlC a b p i)) (pl s))) false)
              ((if room (List.length ((P.drop (k + 1)).map pl) + List.length [pl (dlC a b p i)]) 16 then some () else none).bind fun _ => some (a, b, pl s, (), (), pl p, (mput aK sK m (pl (dlC a b p i)) (ints w ++ ([(i : Int)] : List Int))), ((P.drop (k + 1)).map pl ++ [pl (dlC a b p i)])))
              (some (a, b, pl s, (), (), pl p, m, (P.drop (k + 1)).map pl))) fun ((a_4, b_4, start_3, _, _, p_1, o0_2, o1_2) : Cir × Cir × List Int × Unit × Unit × List Int × WMap × List (List Int)) => some (Sum.inl (a_4, b_4, start_3, (), (), p_1, w64 ((i : Int) + 1), o0_2, o1_2)))) : Option (SC ⊕ (AC ⊕ (AC ⊕ (Unit ⊕ FoundC)))))) r →
        Ev (fun j => Circuits33.l0 j (B : Int) (a, b, pl s, (), (), pl p, (i : Int), m, (P.drop (k + 1)).map pl)) r := by
      intro r hr
      simp only [Circuits33.l0]
      refine .yes (decide_eq_true (by omega)) (.val (a := p.1) rfl (.bind (step_of ha p.1 i) (.val (a := p.2) rfl (.bind (step_of hb p.2 i) ?_))))
      have hcl : Ev (fun j => Clone81 j (Option.getD (α := List Int) (mget aK sK m (pl p)) [])) ((), ints w) := by
        rw [hmp]; exact clone_ev _ (by omega)
      refine .bind hcl (.val (a := ()) ?_ hr)
      rw [if_pos (room_ok (by rw [hwl]; simp only [List.length_cons, List.length_nil]; omega))]
    cases hd : dfC a b p i with
    | true =>
      have hl := h.found hB (by omega) hp hw hd
      refine .inl ⟨w ++ [i], hl, by rw [List.length_append, List.length_singleton]; omega, .done (pre (.yes hd (.now' ?_)))⟩
      unfold hit
      rw [← intsSnoc]
    | false =>
      by_cases hq : dlC a b p i ∈ P
      · -- seen before
        obtain ⟨b', hb'⟩ := List.getElem?_of_mem hq
        have hbl : b' < Ws.length := by have := get_lt hb'; omega
        have hwb : Ws[b']? = some Ws[b'] := List.getElem?_eq_getElem hbl
        generalize Ws[b']'hbl = wb at hwb
        have hg := hm.get b' _ wb hb' hwb
        have hs1 : Ev (fun j => Circuits33.l0 j (B : Int) (a, b, pl s, (), (), pl p, (i : Int), m, (P.drop (k + 1)).map pl)) (.inl (a, b, pl s, (), (), pl p, ((i + 1 : Nat) : Int), m, (P.drop (k + 1)).map pl)) := by
          refine pre (.no hd (.yes (congrArg (fun (o : Option (List Int)) => o.isSome) hg) (Ev.orN (.bind (.no rfl (.now _)) (.now' (by rw [hww]))) (fun hn => .bind (.no ?_ (.now _)) (.now' (by rw [hww]))))))
          have hn : (ints wb).length = 0 := (congrArg (fun (o : Option (List Int)) => (Option.getD o []).length) hg).symm.trans hn
          rw [intsLen] at hn
          have hwb0 := List.length_eq_zero_iff.1 hn
          subst hwb0
          have := (h.reach b' [] hwb).1
          rw [hb'] at this
          have hqs : dlC a b p i = s := Option.some.inj this
          rw [hqs, eq_pl, decide_eq_true rfl]
          rfl
        have h' := h.old hp hw hd hq
        rcases ih (i + 1) P Ws m (by omega) h' hm p hp with ⟨w', e1, e1', e2⟩ | ⟨P', Ws', m', e1, e2, e3, e4⟩
        · exact .inl ⟨w', e1, e1', .step hs1 e2⟩
        · exact .inr ⟨P', Ws', m', e1, e2, e3, .step hs1 e4⟩
      · -- new
        have hg := hm.non _ hq
        have hqs : dlC a b p i ≠ s := fun e => hq (e ▸ get_mem h.p0)
        have h' := h.new (fun p i _ _ => dom_step hRa hRb p i) (by omega) hp hw hd hq
        have hm' := hm.add hlen hq (w ++ [i])
        have hs1 : Ev (fun j => Circuits33.l0 j (B : Int) (a, b, pl s, (), (), pl p, (i : Int), m, (P.drop (k + 1)).map pl)) (.inl (a, b, pl s, (), (), pl p, ((i + 1 : Nat) : Int), mput aK sK m (pl (dlC a b p i)) (ints (w ++ [i])), ((P ++ [dlC a b p i]).drop (k + 1)).map pl)) := by
          refine pre (.no hd (.no (congrArg (fun (o : Option (List Int)) => o.isSome) hg) (.bind (.yes ?_ (.val (a := ()) ?_ (.now _))) (.now' ?_))))
          · rw [eq_pl, decide_eq_false hqs]; rfl
          · rw [if_pos (room_ok (by simp only [List.length_cons, List.length_nil]; omega))]
          · rw [hww, List.drop_append_of_le_length (by omega), List.map_append, ← intsSnoc]; rfl
        have hp' : (P ++ [dlC a b p i])[k]? = some p := by rw [List.getElem?_append_left hk]; exact hp
        rcases ih (i + 1) _ _ _ (by omega) h' hm' p hp' with ⟨w', e1, e1', e2⟩ | ⟨P', Ws', m', e1, e2, e3, e4⟩
        · exact .inl ⟨w', e1, e1', .step hs1 e2⟩
        · exact .inr ⟨P', Ws', m', e1, e2, by rw [List.length_append] at e3; omega, .step hs1 e4⟩
end
end Go.Proofs.Ytjbdhaenakcclaa.St

/- Shortest words that tell two circuits apart: the program's whole search. No program in sight. -/
set_option linter.unusedVariables false
set_option maxRecDepth 100000
noncomputable section
namespace Go.Proofs.Ytjbdhaenakcclaa.St
open Go Go.Proofs.Ytjbdhaenakcclaa.Gp

section
variable {a b : Cir}
theorem searchC (ha : fault a = 0) (hb : fault b = 0) (hf : a.2.2.2.1.length + b.2.2.2.1.length ≤ 6) {B : Nat} (hB : B ≤ 16) (hsh : shlI .i64 1 a.1 = (B : Int)) {s : Pr} : ∀ (n k : Nat) (P : List Pr) (Ws : List (List Nat)) (m : WMap), k + n = 65 → k ≤ P.length → Bfs (dlC a b) (dfC a b) B s (DomC a b) P Ws k 0 → Way P Ws m →
    (∃ w, Least (dlC a b) (dfC a b) B s w ∧ w.length ≤ 100 ∧ Gp.Lp (fun j => Circuits33.l1 j) (a, b, pl s, (), (), m, (P.drop k).map pl) (.inr (hit w))) ∨
    ((∀ w, ¬ Tells (dlC a b) (dfC a b) B s w) ∧ Gp.Lp (fun j => Circuits33.l1 j) (a, b, pl s, (), (), m, (P.drop k).map pl) (.inl ())) := by
  have hins := (right_of a ha).ins
  intro n
  induction n with
  | zero =>
    intro k P Ws m hk hkP h hm
    have := dom_len hf h.dif h.dom
    omega
  | succ n ih =>
    intro k P Ws m hk hkP h hm
    by_cases hlt : k < P.length
    · have hp : P[k]? = some P[k] := List.getElem?_eq_getElem hlt
      generalize P[k]'hlt = p at hp
      have hrd : ((P.drop k).map pl)[0]? = some (pl p) := by rw [List.getElem?_map, List.getElem?_drop, Nat.add_zero, hp]; rfl
      have hlen : ((P.drop k).map pl).length = P.length - k := by rw [List.length_map, List.length_drop]
      have hsl : slc ((P.drop k).map pl) 1 (((P.drop k).map pl).length : Int) = some ((P.drop (k + 1)).map pl) := by
        have := slc_tail (l := (P.drop k).map pl) (a := 1) (by omega)
        rw [← List.map_drop, List.drop_drop] at this
        exact this
      have pre : ∀ {r : AC ⊕ (Unit ⊕ FoundC)}, Ev (fun j => (Option.bind (loopN (Circuits33.l0 j (B : Int)) j (a, b, pl s, (), (), pl p, 0, m, (P.drop (k + 1)).map pl) : Option (AC ⊕ (AC ⊕ (Unit ⊕ FoundC)))) (joined fun ((a_6, b_6, start_5, _, _, o0_4, o1_4) : AC) => some (Sum.inl (a_6, b_6, start_5, (), (), o0_4, o1_4))) : Option (AC ⊕ (Unit ⊕ FoundC)))) r → Ev (fun j => Circuits33.l1 j (a, b, pl s, (), (), m, (P.drop k).map pl)) r := by
        intro r hr
        simp only [Circuits33.l1]
        refine .yes (decide_eq_true (by omega)) (.val (rd_some' (i := 0) hrd) (.val (rd_some' (i := 0) hrd) (.val hsl (.val (a := (B : Int)) (by rw [if_neg (by omega), hsh]) hr))))
      rcases rowC ha hb hf hB B 0 P Ws m (by omega) h hm p hp with ⟨w, e1, e1', e2⟩ | ⟨P', Ws', m', e1, e2, e3, e4⟩
      · exact .inl ⟨w, e1, e1', .done (pre (.joinR e2.ev))⟩
      · rcases ih (k + 1) P' Ws' m' (by omega) (by omega) (e1.row hB) e2 with ⟨w, f1, f1', f2⟩ | ⟨f1, f2⟩
        · exact .inl ⟨w, f1, f1', .step (pre (.joinL (S := Unit) e4.ev (.now _))) f2⟩
        · exact .inr ⟨f1, .step (pre (.joinL (S := Unit) e4.ev (.now _))) f2⟩
    · refine .inr ⟨h.none hB (by omega), .done ?_⟩
      have : P.drop k = [] := List.drop_of_length_le (by omega)
      rw [this]
      simp only [Circuits33.l1]
      exact .no rfl (.now _)
def startC (a b : Cir) : Pr := (((first a : Nat) : Int), ((first b : Nat) : Int))
theorem first_lt {c : Cir} (hf : fault c = 0) : first c < 2 ^ c.2.2.2.1.length := by
  have hR := right_of c hf
  have hx : c.2.2.2.2.length = c.2.2.2.1.length := by
    unfold fault at hf
    split at hf
    · omega
    · split at hf
      · omega
      · omega
  have h10 := hR.next.1
  unfold first
  have := pk_lt ((c.2.2.2.2.take 10).map bitOf) (bits_ok _)
  rw [List.length_map, List.length_take, hx, Nat.min_eq_right h10] at this
  exact this
theorem start_dom (ha : fault a = 0) (hb : fault b = 0) : DomC a b (startC a b) := ⟨first a, first b, rfl, first_lt ha, first_lt hb⟩
/-- what the program says of two right circuits -/
theorem circuits_ev (ha : fault a = 0) (hb : fault b = 0) (hins : a.1 = b.1) (hout : a.2.2.1.length = b.2.2.1.length) (h4 : a.1 ≤ 4) (hf : a.2.2.2.1.length + b.2.2.2.1.length ≤ 6) {B : Nat} (hB : B ≤ 16) (hsh : shlI .i64 1 a.1 = (B : Int)) :
    (∃ w, Least (dlC a b) (dfC a b) B (startC a b) w ∧ w.length ≤ 100 ∧ Ev (fun k => Circuits33 k a b) (hit w)) ∨
    ((∀ w, ¬ Tells (dlC a b) (dfC a b) B (startC a b) w) ∧ Ev (fun k => Circuits33 k a b) (([], false, 0, ()), ())) := by
  have hs := start_dom ha hb
  have e1 : cond (a.1 != b.1) true ((List.length a.2.2.1 : Int) != (List.length b.2.2.1 : Int)) = false := by rw [hins, hout]; simp
  have e2 : cond (decide (a.1 > 4)) true (decide ((w64 ((List.length a.2.2.2.1 : Int) + (List.length b.2.2.2.1 : Int))) > 10)) = false := by
    rw [decide_eq_false (by omega), w64_id (by omega) (by omega)]
    exact decide_eq_false (by omega)
  have pre : ∀ {r : FoundC}, Ev (fun k => (Option.bind (loopN (Circuits33.l1 k) k (a, b, pl (startC a b), (), (), mput aK sK ([] : WMap) (pl (startC a b)) [], [pl (startC a b)]) : Option (Unit ⊕ FoundC)) (joined fun (_ : Unit) => some (([], false, 0, ()), ())) : Option FoundC)) r → Ev (fun k => Circuits33 k a b) r := by
    intro r hr
    unfold Circuits33
    simp only [agree_self]
    exact .bind (check_ev a) (.no (by rw [ha]; rfl) (.bind (check_ev b) (.no (by rw [hb]; rfl) (.no e1 (.no e2 (.bind (.bind (start_ev a) (.bind (start_ev b) (.now _))) hr))))))
  rcases searchC ha hb hf hB hsh 65 0 [startC a b] [[]] _ (by omega) (Nat.zero_le _) (bfs0 _ _ _ hs) (way0 (startC a b)) with ⟨w, f1, f1', f2⟩ | ⟨f1, f2⟩
  · exact .inl ⟨w, f1, f1', pre (.joinR f2.ev)⟩
  · exact .inr ⟨f1, pre (.joinL (S := Unit) f2.ev (.now _))⟩
end
end Go.Proofs.Ytjbdhaenakcclaa.St
