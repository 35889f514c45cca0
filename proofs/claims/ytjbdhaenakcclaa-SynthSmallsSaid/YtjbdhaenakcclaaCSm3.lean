/- Merged texts of one claim: a Go law, its functions without memory, and the plain law. The law returns true for every input; conditions: as the row says. -/
import Derived.Test.YtjbdhaenakcclaaCSm0
import Derived.Test.YtjbdhaenakcclaaCSm1
import Derived.Test.YtjbdhaenakcclaaCSm2
/- Go functions as plain Lean functions, and their contracts. -/
set_option linter.unusedVariables false
set_option maxRecDepth 100000
noncomputable section
namespace Go.Proofs.Ytjbdhaenakcclaa.St
open Go Go.Proofs.Ytjbdhaenakcclaa.Gp
def CircuitFault14.l0 (k : Nat) (t53 : Int) (t56 : (Int × (Int × (Int × (Int × Int))))) (t62 : (Option Int)) : ((Int × ((List (Int × (Int × (Int × (Int × Int))))) × ((List Int) × ((List Int) × (List Int))))) × ((Int × (Int × (Int × (Int × Int)))) × Int)) → Option (((Int × ((List (Int × (Int × (Int × (Int × Int))))) × ((List Int) × ((List Int) × (List Int))))) × ((Int × (Int × (Int × (Int × Int)))) × Int)) ⊕ (((Int × ((List (Int × (Int × (Int × (Int × Int))))) × ((List Int) × ((List Int) × (List Int))))) × (Int × (Int × (Int × (Int × Int))))) ⊕ (((Int × ((List (Int × (Int × (Int × (Int × Int))))) × ((List Int) × ((List Int) × (List Int))))) × Int) ⊕ ((Int × ((List (Int × (Int × (Int × (Int × Int))))) × ((List Int) × ((List Int) × (List Int))))) ⊕ (Int × Unit)))))
  | (c_2, g, t78) =>
    cond (decide (t78 < 3))
      ((rd [t56.2.1, t56.2.2.1, t56.2.2.2.1] t78).bind fun t81 =>
      cond (cond (decide (t78 ≥ (Option.getD (α := Int) t62 (0 : Int)))) (t81 != 0) false)
        (some (Sum.inr (Sum.inr (Sum.inr (Sum.inr (3, ()))))))
        (cond (cond (decide (t78 < (Option.getD (α := Int) t62 (0 : Int)))) (cond (decide (t81 < 0)) true (decide (t81 > (w64 (t53 - 1))))) false)
          (some (Sum.inr (Sum.inr (Sum.inr (Sum.inr (9, ()))))))
          (some (Sum.inl (c_2, g, (w64 (t78 + 1)))))))
      (some (Sum.inr (Sum.inl (c_2, g))))
def CircuitFault14.l1 (k : Nat) (c : (Int × ((List (Int × (Int × (Int × (Int × Int))))) × ((List Int) × ((List Int) × (List Int)))))) : ((Int × ((List (Int × (Int × (Int × (Int × Int))))) × ((List Int) × ((List Int) × (List Int))))) × Int) → Option (((Int × ((List (Int × (Int × (Int × (Int × Int))))) × ((List Int) × ((List Int) × (List Int))))) × Int) ⊕ ((Int × ((List (Int × (Int × (Int × (Int × Int))))) × ((List Int) × ((List Int) × (List Int))))) ⊕ (Int × Unit)))
  | (c_1, t53) =>
    cond (decide (t53 < (List.length c.2.1 : Int)))
      ((rd c.2.1 t53).bind fun t56 =>
      cond (cond (decide (t56.1 < 0)) true (decide (t56.1 > 7)))
        (some (Sum.inr (Sum.inr (1, ()))))
        (Option.bind
          (loopN (CircuitFault14.l0 k t53 t56 (mget (.int .i64) (.int .i64) (mput (.int .i64) (.int .i64) (mput (.int .i64) (.int .i64) (mput (.int .i64) (.int .i64) (mput (.int .i64) (.int .i64) (mput (.int .i64) (.int .i64) ([] : (List (Int × Int))) (3 : Int) (1 : Int)) (4 : Int) (2 : Int)) (5 : Int) (2 : Int)) (6 : Int) (2 : Int)) (7 : Int) (3 : Int)) t56.1)) k (c_1, t56, 0) : Option (((Int × ((List (Int × (Int × (Int × (Int × Int))))) × ((List Int) × ((List Int) × (List Int))))) × (Int × (Int × (Int × (Int × Int))))) ⊕ (((Int × ((List (Int × (Int × (Int × (Int × Int))))) × ((List Int) × ((List Int) × (List Int))))) × Int) ⊕ ((Int × ((List (Int × (Int × (Int × (Int × Int))))) × ((List Int) × ((List Int) × (List Int))))) ⊕ (Int × Unit))))) (joined fun ((c_3, g_1) : ((Int × ((List (Int × (Int × (Int × (Int × Int))))) × ((List Int) × ((List Int) × (List Int))))) × (Int × (Int × (Int × (Int × Int)))))) =>
          cond (cond (decide (g_1.2.2.2.2 < 0)) true (decide (g_1.2.2.2.2 > (Option.getD (α := Int) (mget (.int .i64) (.int .i64) (mput (.int .i64) (.int .i64) (mput (.int .i64) (.int .i64) (mput (.int .i64) (.int .i64) ([] : (List (Int × Int))) (0 : Int) (1 : Int)) (1 : Int) (w64 (c_3.1 - 1))) (2 : Int) (w64 ((List.length c_3.2.2.2.1 : Int) - 1))) g_1.1) (0 : Int)))))
            (some (Sum.inr (Sum.inr (1, ()))))
            (some (Sum.inl (c_3, (w64 (t53 + 1))))))))
      (some (Sum.inr (Sum.inl c_1)))
def CircuitFault14.l2 (k : Nat) (t136 : (List Int)) : ((Int × ((List (Int × (Int × (Int × (Int × Int))))) × ((List Int) × ((List Int) × (List Int))))) × (Unit × (Int × (List (List Int))))) → Option (((Int × ((List (Int × (Int × (Int × (Int × Int))))) × ((List Int) × ((List Int) × (List Int))))) × (Unit × (Int × (List (List Int))))) ⊕ (((Int × ((List (Int × (Int × (Int × (Int × Int))))) × ((List Int) × ((List Int) × (List Int))))) × (Unit × (List (List Int)))) ⊕ (((Int × ((List (Int × (Int × (Int × (Int × Int))))) × ((List Int) × ((List Int) × (List Int))))) × (Unit × (Int × (List (List Int))))) ⊕ ((Int × ((List (Int × (Int × (Int × (Int × Int))))) × ((List Int) × ((List Int) × (List Int))))) ⊕ (Int × Unit)))))
  | (c_6, _, t139, o0_1) =>
    cond (decide (t139 < (List.length t136 : Int)))
      ((rd t136 t139).bind fun t141 =>
      cond (cond (decide (t141 < 0)) true (decide (t141 ≥ (List.length c_6.2.1 : Int))))
        (some (Sum.inr (Sum.inr (Sum.inr (Sum.inr (4, ()))))))
        (some (Sum.inl (c_6, (), (w64 (t139 + 1)), o0_1))))
      (some (Sum.inr (Sum.inl (c_6, (), o0_1))))
def CircuitFault14.l3 (k : Nat) (c_4 : (Int × ((List (Int × (Int × (Int × (Int × Int))))) × ((List Int) × ((List Int) × (List Int)))))) : ((Int × ((List (Int × (Int × (Int × (Int × Int))))) × ((List Int) × ((List Int) × (List Int))))) × (Unit × (Int × (List (List Int))))) → Option (((Int × ((List (Int × (Int × (Int × (Int × Int))))) × ((List Int) × ((List Int) × (List Int))))) × (Unit × (Int × (List (List Int))))) ⊕ ((Int × ((List (Int × (Int × (Int × (Int × Int))))) × ((List Int) × ((List Int) × (List Int))))) ⊕ (Int × Unit)))
  | (c_5, _, t133, o0) =>
    cond (decide (t133 < (List.length [c_4.2.2.1, c_4.2.2.2.1] : Int)))
      ((rd o0 t133).bind fun _ =>
      (rd o0 t133).bind fun t136 =>
      Option.bind
        (loopN (CircuitFault14.l2 k t136) k (c_5, (), 0, o0) : Option (((Int × ((List (Int × (Int × (Int × (Int × Int))))) × ((List Int) × ((List Int) × (List Int))))) × (Unit × (List (List Int)))) ⊕ (((Int × ((List (Int × (Int × (Int × (Int × Int))))) × ((List Int) × ((List Int) × (List Int))))) × (Unit × (Int × (List (List Int))))) ⊕ ((Int × ((List (Int × (Int × (Int × (Int × Int))))) × ((List Int) × ((List Int) × (List Int))))) ⊕ (Int × Unit))))) (joined fun ((c_7, _, o0_2) : ((Int × ((List (Int × (Int × (Int × (Int × Int))))) × ((List Int) × ((List Int) × (List Int))))) × (Unit × (List (List Int))))) =>
        some (Sum.inl (c_7, (), (w64 (t133 + 1)), o0_2))))
      (some (Sum.inr (Sum.inl c_5)))
def CircuitFault14.l4 (k : Nat) (c_8 : (Int × ((List (Int × (Int × (Int × (Int × Int))))) × ((List Int) × ((List Int) × (List Int)))))) : Int → Option (Int ⊕ (Unit ⊕ (Int × Unit)))
  | t157 =>
    cond (decide (t157 < (List.length c_8.2.2.2.2 : Int)))
      ((rd c_8.2.2.2.2 t157).bind fun t159 =>
      cond ((ibits .andNot .i64 t159 1) != 0)
        (some (Sum.inr (Sum.inr (1, ()))))
        (some (Sum.inl (w64 (t157 + 1)))))
      (some (Sum.inr (Sum.inl ())))
def CircuitFault14 (k : Nat) (c : (Int × ((List (Int × (Int × (Int × (Int × Int))))) × ((List Int) × ((List Int) × (List Int)))))) : Option (Int × Unit) :=
  cond (cond (cond (cond (cond (decide (c.1 < 0)) true (decide (c.1 > 10))) true (decide ((List.length c.2.1 : Int) > 400))) true (decide ((List.length c.2.2.1 : Int) > 10))) true (decide ((List.length c.2.2.2.1 : Int) > 10)))
    (some (2, ()))
    (cond ((List.length c.2.2.2.2 : Int) != (List.length c.2.2.2.1 : Int))
      (some (3, ()))
      (Option.bind
        (loopN (CircuitFault14.l1 k c) k (c, 0) : Option ((Int × ((List (Int × (Int × (Int × (Int × Int))))) × ((List Int) × ((List Int) × (List Int))))) ⊕ (Int × Unit))) (joined fun (c_4 : (Int × ((List (Int × (Int × (Int × (Int × Int))))) × ((List Int) × ((List Int) × (List Int)))))) =>
        Option.bind
          (loopN (CircuitFault14.l3 k c_4) k (c_4, (), 0, [c_4.2.2.1, c_4.2.2.2.1]) : Option ((Int × ((List (Int × (Int × (Int × (Int × Int))))) × ((List Int) × ((List Int) × (List Int))))) ⊕ (Int × Unit))) (joined fun (c_8 : (Int × ((List (Int × (Int × (Int × (Int × Int))))) × ((List Int) × ((List Int) × (List Int)))))) =>
          Option.bind
            (loopN (CircuitFault14.l4 k c_8) k 0 : Option (Unit ⊕ (Int × Unit))) (joined fun (_ : Unit) =>
            some (0, ()))))))
def CircuitFault14.A : Ann := { conds := [], blocks := [(1, ⟨[(1, .fp (.st (.pair (.int .i64) (.pair (.sl (.st (.pair (.int .i64) (.pair (.int .i64) (.pair (.int .i64) (.pair (.int .i64) (.int .i64))))))) (.pair (.sl (.int .i64)) (.pair (.sl (.int .i64)) (.sl (.int .i64))))))))], [], 0, [], 170141183460469231731678296516629365244⟩), (3, ⟨[(1, .fp (.st (.pair (.int .i64) (.pair (.sl (.st (.pair (.int .i64) (.pair (.int .i64) (.pair (.int .i64) (.pair (.int .i64) (.int .i64))))))) (.pair (.sl (.int .i64)) (.pair (.sl (.int .i64)) (.sl (.int .i64)))))))), (4, .fp (.st (.pair (.int .i64) (.pair (.int .i64) (.pair (.int .i64) (.pair (.int .i64) (.int .i64)))))))], [], 0, [], 40564818905071885944237208895684⟩), (6, ⟨[(1, .fp (.st (.pair (.int .i64) (.pair (.sl (.st (.pair (.int .i64) (.pair (.int .i64) (.pair (.int .i64) (.pair (.int .i64) (.int .i64))))))) (.pair (.sl (.int .i64)) (.pair (.sl (.int .i64)) (.sl (.int .i64))))))))], [], 0, [], 22835952194259616626901744683204484365541184516⟩), (8, ⟨[(1, .fp (.st (.pair (.int .i64) (.pair (.sl (.st (.pair (.int .i64) (.pair (.int .i64) (.pair (.int .i64) (.pair (.int .i64) (.int .i64))))))) (.pair (.sl (.int .i64)) (.pair (.sl (.int .i64)) (.sl (.int .i64)))))))), (131, .ms 0)], [(0, .row (.sl (.int .i64)))], 1, [], 11417284643360224966493114764399940829764915204⟩), (10, ⟨[], [], 0, [], 46585364689922530517742454042831521251532849823748⟩)], loops := [(6, ⟨[(1, .fp (.st (.pair (.int .i64) (.pair (.sl (.st (.pair (.int .i64) (.pair (.int .i64) (.pair (.int .i64) (.pair (.int .i64) (.int .i64))))))) (.pair (.sl (.int .i64)) (.pair (.sl (.int .i64)) (.sl (.int .i64)))))))), (53, .int .i64)], [], 0, [], 170141183460469231731678296516629365244⟩), (12, ⟨[(1, .fp (.st (.pair (.int .i64) (.pair (.sl (.st (.pair (.int .i64) (.pair (.int .i64) (.pair (.int .i64) (.pair (.int .i64) (.int .i64))))))) (.pair (.sl (.int .i64)) (.pair (.sl (.int .i64)) (.sl (.int .i64)))))))), (4, .fp (.st (.pair (.int .i64) (.pair (.int .i64) (.pair (.int .i64) (.pair (.int .i64) (.int .i64))))))), (78, .int .i64)], [], 0, [], 40564818905071885944237208895684⟩), (24, ⟨[(1, .fp (.st (.pair (.int .i64) (.pair (.sl (.st (.pair (.int .i64) (.pair (.int .i64) (.pair (.int .i64) (.pair (.int .i64) (.int .i64))))))) (.pair (.sl (.int .i64)) (.pair (.sl (.int .i64)) (.sl (.int .i64)))))))), (131, .ms 0), (133, .int .i64)], [(0, .row (.sl (.int .i64)))], 1, [], 22835952194259616626901744683204484365541184516⟩), (27, ⟨[(1, .fp (.st (.pair (.int .i64) (.pair (.sl (.st (.pair (.int .i64) (.pair (.int .i64) (.pair (.int .i64) (.pair (.int .i64) (.int .i64))))))) (.pair (.sl (.int .i64)) (.pair (.sl (.int .i64)) (.sl (.int .i64)))))))), (131, .ms 0), (139, .int .i64)], [(0, .row (.sl (.int .i64)))], 1, [], 11417284643360224966493114764399940829764915204⟩), (34, ⟨[(157, .int .i64)], [], 0, [], 46585364689922530517742454042831521251532849823748⟩)], keeps := [1, 4], orders := [] }
def CircuitFault14.S : Sig := { f := 14, params := [.st (.pair (.int .i64) (.pair (.sl (.st (.pair (.int .i64) (.pair (.int .i64) (.pair (.int .i64) (.pair (.int .i64) (.int .i64))))))) (.pair (.sl (.int .i64)) (.pair (.sl (.int .i64)) (.sl (.int .i64))))))], objs := [], res := .int .i64, outs := [], fix := [], run := fun k ds os => CircuitFault14 k ds }
def CircuitFault14.G : List Sig := []
theorem CircuitFault14.eq (k : Nat) : ∀ ds os, CircuitFault14.S.run k ds os = runF ⟨types, CircuitFault14.G, CircuitFault14.A, k, 0, []⟩ Try.f14 (codeOf Try.f14) CircuitFault14.S.params CircuitFault14.S.objs CircuitFault14.S.res CircuitFault14.S.outs ds os := by
  intro ds os; kernel_rfl
theorem CircuitFault14.dr : DrOk Try.prog CircuitFault14.A (codeOf Try.f14) := ⟨by kernel_rfl, by kernel_rfl⟩
theorem CircuitFault14.ok (k : Nat) : SoundAt Try.prog k CircuitFault14.S :=
  runF_sound (X := ⟨types, CircuitFault14.G, CircuitFault14.A, k, 0, []⟩) types_ok (fun s hs => absurd hs List.not_mem_nil) (fn := Try.f14) (c := codeOf Try.f14) rfl (by kernel_rfl) rfl rfl CircuitFault14.dr (CircuitFault14.eq k)
end Go.Proofs.Ytjbdhaenakcclaa.St

/- Go functions as plain Lean functions, and their contracts. -/
set_option linter.unusedVariables false
set_option maxRecDepth 100000
noncomputable section
namespace Go.Proofs.Ytjbdhaenakcclaa.St
open Go Go.Proofs.Ytjbdhaenakcclaa.Gp
def Start80.l0 (k : Nat) (t12 : (List Int)) : (Int × Int) → Option ((Int × Int) ⊕ Int)
  | (out, t14) =>
    cond (decide (t14 < (List.length t12 : Int)))
      ((rd t12 t14).bind fun t17 =>
      (if t14 < 0 then none else some (shlI .i64 (ibits .and .i64 t17 1) t14)).bind fun t23 =>
      some (Sum.inl ((ibits .or .i64 out t23), (w64 (t14 + 1)))))
      (some (Sum.inr out))
def Start80 (k : Nat) (c : (Int × ((List (Int × (Int × (Int × (Int × Int))))) × ((List Int) × ((List Int) × (List Int)))))) : Option (Int × Unit) :=
  (slc c.2.2.2.2 0 (mnI (List.length c.2.2.2.2 : Int) 10)).bind fun t12 =>
  Option.bind
    (loopN (Start80.l0 k t12) k (0, 0) : Option Int) fun (out_1 : Int) =>
  some (out_1, ())
def Start80.A : Ann := { conds := [], blocks := [(0, ⟨[(3, .int .i64)], [], 0, [], 67092536⟩)], loops := [(3, ⟨[(3, .int .i64), (14, .int .i64)], [], 0, [], 67092536⟩)], keeps := [1], orders := [] }
def Start80.S : Sig := { f := 80, params := [.st (.pair (.int .i64) (.pair (.sl (.st (.pair (.int .i64) (.pair (.int .i64) (.pair (.int .i64) (.pair (.int .i64) (.int .i64))))))) (.pair (.sl (.int .i64)) (.pair (.sl (.int .i64)) (.sl (.int .i64))))))], objs := [], res := .int .i64, outs := [], fix := [], run := fun k ds os => Start80 k ds }
def Start80.G : List Sig := []
theorem Start80.eq (k : Nat) : ∀ ds os, Start80.S.run k ds os = runF ⟨types, Start80.G, Start80.A, k, 0, []⟩ Try.f80 (codeOf Try.f80) Start80.S.params Start80.S.objs Start80.S.res Start80.S.outs ds os := by
  intro ds os; kernel_rfl
theorem Start80.dr : DrOk Try.prog Start80.A (codeOf Try.f80) := ⟨by kernel_rfl, by kernel_rfl⟩
theorem Start80.ok (k : Nat) : SoundAt Try.prog k Start80.S :=
  runF_sound (X := ⟨types, Start80.G, Start80.A, k, 0, []⟩) types_ok (fun s hs => absurd hs List.not_mem_nil) (fn := Try.f80) (c := codeOf Try.f80) rfl (by kernel_rfl) rfl rfl Start80.dr (Start80.eq k)

def values69.l0 (k : Nat) (c : (Int × ((List (Int × (Int × (Int × (Int × Int))))) × ((List Int) × ((List Int) × (List Int)))))) (state : Int) (in_ : Int) : (Unit × (Int × (List Int))) → Option ((Unit × (Int × (List Int))) ⊕ (Unit × (List Int)))
  | (_, t17, t13) =>
    cond (decide (t17 < (List.length c.2.1 : Int)))
      ((rd c.2.1 t17).bind fun t20 =>
      Option.bind
        (cond (t20.1 == 0)
          ((rd t13 t17).bind fun _ =>
          (rd t13 t17).bind fun _ =>
          some ((), (List.set t13 (Int.toNat t17) t20.2.2.2.2)))
          (Option.bind
            (cond (t20.1 == 1)
              ((if t20.2.2.2.2 < 0 then none else some (shrI .i64 in_ t20.2.2.2.2)).bind fun t38 =>
              (rd t13 t17).bind fun _ =>
              (rd t13 t17).bind fun _ =>
              some ((), (List.set t13 (Int.toNat t17) (ibits .and .i64 t38 1))))
              (Option.bind
                (cond (t20.1 == 2)
                  ((if t20.2.2.2.2 < 0 then none else some (shrI .i64 state t20.2.2.2.2)).bind fun t48 =>
                  (rd t13 t17).bind fun _ =>
                  (rd t13 t17).bind fun _ =>
                  some ((), (List.set t13 (Int.toNat t17) (ibits .and .i64 t48 1))))
                  (Option.bind
                    (cond (t20.1 == 3)
                      ((rd t13 t20.2.1).bind fun _ =>
                      (rd t13 t20.2.1).bind fun t59 =>
                      (rd t13 t17).bind fun _ =>
                      (rd t13 t17).bind fun _ =>
                      some ((), (List.set t13 (Int.toNat t17) (w64 (1 - t59)))))
                      (Option.bind
                        (cond (t20.1 == 4)
                          ((rd t13 t20.2.1).bind fun _ =>
                          (rd t13 t20.2.1).bind fun t70 =>
                          (rd t13 t20.2.2.1).bind fun _ =>
                          (rd t13 t20.2.2.1).bind fun t75 =>
                          (rd t13 t17).bind fun _ =>
                          (rd t13 t17).bind fun _ =>
                          some ((), (List.set t13 (Int.toNat t17) (ibits .and .i64 t70 t75))))
                          (Option.bind
                            (cond (t20.1 == 5)
                              ((rd t13 t20.2.1).bind fun _ =>
                              (rd t13 t20.2.1).bind fun t86 =>
                              (rd t13 t20.2.2.1).bind fun _ =>
                              (rd t13 t20.2.2.1).bind fun t91 =>
                              (rd t13 t17).bind fun _ =>
                              (rd t13 t17).bind fun _ =>
                              some ((), (List.set t13 (Int.toNat t17) (ibits .or .i64 t86 t91))))
                              (Option.bind
                                (cond (t20.1 == 6)
                                  ((rd t13 t20.2.1).bind fun _ =>
                                  (rd t13 t20.2.1).bind fun t102 =>
                                  (rd t13 t20.2.2.1).bind fun _ =>
                                  (rd t13 t20.2.2.1).bind fun t107 =>
                                  (rd t13 t17).bind fun _ =>
                                  (rd t13 t17).bind fun _ =>
                                  some ((), (List.set t13 (Int.toNat t17) (ibits .xor .i64 t102 t107))))
                                  (Option.bind
                                    (cond (t20.1 == 7)
                                      ((rd t13 t20.2.2.2.1).bind fun _ =>
                                      (rd t13 t20.2.2.2.1).bind fun t118 =>
                                      (rd t13 t17).bind fun _ =>
                                      (rd t13 t17).bind fun _ =>
                                      let t13_8 : (List Int) := (List.set t13 (Int.toNat t17) t118)
                                      (rd t13_8 t20.2.1).bind fun _ =>
                                      (rd t13_8 t20.2.1).bind fun t124 =>
                                      Option.bind
                                        (cond (t124 == 1)
                                          ((rd t13_8 t20.2.2.1).bind fun _ =>
                                          (rd t13_8 t20.2.2.1).bind fun t132 =>
                                          (rd t13_8 t17).bind fun _ =>
                                          (rd t13_8 t17).bind fun _ =>
                                          some ((), (List.set t13_8 (Int.toNat t17) t132)))
                                          (some ((), t13_8)) : Option (Unit × (List Int))) fun ((_, t13_10) : (Unit × (List Int))) =>
                                      some ((), t13_10))
                                      (some ((), t13)) : Option (Unit × (List Int))) fun ((_, t13_11) : (Unit × (List Int))) =>
                                  some ((), t13_11)) : Option (Unit × (List Int))) fun ((_, t13_12) : (Unit × (List Int))) =>
                              some ((), t13_12)) : Option (Unit × (List Int))) fun ((_, t13_13) : (Unit × (List Int))) =>
                          some ((), t13_13)) : Option (Unit × (List Int))) fun ((_, t13_14) : (Unit × (List Int))) =>
                      some ((), t13_14)) : Option (Unit × (List Int))) fun ((_, t13_15) : (Unit × (List Int))) =>
                  some ((), t13_15)) : Option (Unit × (List Int))) fun ((_, t13_16) : (Unit × (List Int))) =>
              some ((), t13_16)) : Option (Unit × (List Int))) fun ((_, t13_17) : (Unit × (List Int))) =>
          some ((), t13_17)) : Option (Unit × (List Int))) fun ((_, t13_18) : (Unit × (List Int))) =>
      some (Sum.inl ((), (w64 (t17 + 1)), t13_18)))
      (some (Sum.inr ((), t13)))
def values69 (k : Nat) (c : (Int × ((List (Int × (Int × (Int × (Int × Int))))) × ((List Int) × ((List Int) × (List Int)))))) (state : Int) (in_ : Int) : Option ((List Int) × Unit) :=
  (if 0 ≤ (List.length c.2.1 : Int) ∧ (List.length c.2.1 : Int) ≤ (List.length c.2.1 : Int) ∧ (List.length c.2.1 : Int) * 8 ≤ 140737488355328 then some () else none).bind fun _ =>
  Option.bind
    (loopN (values69.l0 k c state in_) k ((), 0, (List.replicate (Int.toNat (List.length c.2.1 : Int)) 0)) : Option (Unit × (List Int))) fun ((_, t13_19) : (Unit × (List Int))) =>
  some (t13_19, ())
def values69.A : Ann := { conds := [(1572871, ⟨[(7, .ms 0)], [(0, .row (.int .i64))], 1, [], 21778071482940061661655974875633098424320⟩), (2031625, ⟨[(7, .ms 0)], [(0, .row (.int .i64))], 1, [], 21778071482940061661655974875624575598592⟩), (2686987, ⟨[(7, .ms 0)], [(0, .row (.int .i64))], 1, [], 21778071482940061661655974866837072510976⟩), (3342349, ⟨[(7, .ms 0)], [(0, .row (.int .i64))], 1, [], 21778071482940061661655965868433910792192⟩), (4063247, ⟨[(7, .ms 0)], [(0, .row (.int .i64))], 1, [], 21778071482940061661637528131559455981568⟩), (5111825, ⟨[(7, .ms 0)], [(0, .row (.int .i64))], 1, [], 21778071482940060452730155261003990827008⟩), (6160403, ⟨[(7, .ms 0)], [(0, .row (.int .i64))], 1, [], 21778071482860833499141710538039621582848⟩), (7208981, ⟨[(7, .ms 0)], [(0, .row (.int .i64))], 1, [], 21778066290643203126828346345136836313088⟩), (8192023, ⟨[(7, .ms 0)], [(0, .row (.int .i64))], 1, [], 21693000891209827045790131223775223480320⟩)], blocks := [(0, ⟨[(7, .ms 0)], [(0, .row (.int .i64))], 1, [], 43556142965880123323311949751266330936064⟩)], loops := [(3, ⟨[(7, .ms 0), (17, .int .i64)], [(0, .row (.int .i64))], 1, [], 43556142965880123323311949751266330936064⟩)], keeps := [3, 9], orders := [(15, [(0, .strong), (1, .strong), (2, .strong), (3, .strong), (4, .strong), (5, .strong), (6, .strong), (7, .strong), (8, .strong), (9, .strong), (10, .strong), (11, .strong), (12, .strong), (13, .strong), (14, .eff false)]), (17, [(0, .strong), (1, .strong), (2, .strong), (3, .strong), (4, .strong), (5, .strong), (6, .strong), (7, .strong), (8, .strong), (9, .strong), (10, .strong), (11, .strong), (12, .strong), (13, .strong), (14, .eff false)]), (19, [(0, .strong), (1, .strong), (2, .strong), (3, .strong), (4, .strong), (5, .strong), (6, .strong), (7, .strong), (8, .strong), (9, .strong), (10, .strong), (11, .strong), (12, .strong), (13, .strong), (14, .eff false)])] }
def values69.S : Sig := { f := 69, params := [.st (.pair (.int .i64) (.pair (.sl (.st (.pair (.int .i64) (.pair (.int .i64) (.pair (.int .i64) (.pair (.int .i64) (.int .i64))))))) (.pair (.sl (.int .i64)) (.pair (.sl (.int .i64)) (.sl (.int .i64)))))), .int .i64, .int .i64], objs := [], res := .sl (.int .i64), outs := [], fix := [], run := fun k ds os => values69 k ds.1 ds.2.1 ds.2.2 }
def values69.G : List Sig := []
theorem values69.eq (k : Nat) : ∀ ds os, values69.S.run k ds os = runF ⟨types, values69.G, values69.A, k, 0, []⟩ Try.f69 (codeOf Try.f69) values69.S.params values69.S.objs values69.S.res values69.S.outs ds os := by
  intro ds os; kernel_rfl
theorem values69.dr : DrOk Try.prog values69.A (codeOf Try.f69) := ⟨by kernel_rfl, by kernel_rfl⟩
theorem values69.ok (k : Nat) : SoundAt Try.prog k values69.S :=
  runF_sound (X := ⟨types, values69.G, values69.A, k, 0, []⟩) types_ok (fun s hs => absurd hs List.not_mem_nil) (fn := Try.f69) (c := codeOf Try.f69) rfl (by kernel_rfl) rfl rfl values69.dr (values69.eq k)

def bits70.l0 (k : Nat) (v : (List Int)) (l : (List Int)) : (Int × Int) → Option ((Int × Int) ⊕ Int)
  | (out, t10) =>
    cond (decide (t10 < (List.length l : Int)))
      ((rd l t10).bind fun t13 =>
      (rd v t13).bind fun t18 =>
      (if t10 < 0 then none else some (shlI .i64 t18 t10)).bind fun t21 =>
      some (Sum.inl ((ibits .or .i64 out t21), (w64 (t10 + 1)))))
      (some (Sum.inr out))
def bits70 (k : Nat) (v : (List Int)) (l : (List Int)) : Option (Int × Unit) :=
  Option.bind
    (loopN (bits70.l0 k v l) k (0, 0) : Option Int) fun (out_1 : Int) =>
  some (out_1, ())
def bits70.A : Ann := { conds := [], blocks := [(0, ⟨[(5, .int .i64)], [], 0, [], 16776416⟩)], loops := [(3, ⟨[(5, .int .i64), (10, .int .i64)], [], 0, [], 16776416⟩)], keeps := [], orders := [] }
def bits70.S : Sig := { f := 70, params := [.sl (.int .i64), .sl (.int .i64)], objs := [], res := .int .i64, outs := [], fix := [], run := fun k ds os => bits70 k ds.1 ds.2 }
def bits70.G : List Sig := []
theorem bits70.eq (k : Nat) : ∀ ds os, bits70.S.run k ds os = runF ⟨types, bits70.G, bits70.A, k, 0, []⟩ Try.f70 (codeOf Try.f70) bits70.S.params bits70.S.objs bits70.S.res bits70.S.outs ds os := by
  intro ds os; kernel_rfl
theorem bits70.dr : DrOk Try.prog bits70.A (codeOf Try.f70) := ⟨by kernel_rfl, by kernel_rfl⟩
theorem bits70.ok (k : Nat) : SoundAt Try.prog k bits70.S :=
  runF_sound (X := ⟨types, bits70.G, bits70.A, k, 0, []⟩) types_ok (fun s hs => absurd hs List.not_mem_nil) (fn := Try.f70) (c := codeOf Try.f70) rfl (by kernel_rfl) rfl rfl bits70.dr (bits70.eq k)

end Go.Proofs.Ytjbdhaenakcclaa.St

/- Go functions as plain Lean functions, and their contracts. -/
set_option linter.unusedVariables false
set_option maxRecDepth 100000
noncomputable section
namespace Go.Proofs.Ytjbdhaenakcclaa.St
open Go Go.Proofs.Ytjbdhaenakcclaa.Gp
def Check105.l0 (k : Nat) (t40 : (List (Int × Int))) : ((Int × (Int × (List (List (Int × Int))))) × Int) → Option (((Int × (Int × (List (List (Int × Int))))) × Int) ⊕ ((Int × (Int × (List (List (Int × Int))))) ⊕ (((Int × (Int × (List (List (Int × Int))))) × Int) ⊕ (Unit ⊕ (Int × Unit)))))
  | (t_2, t50) =>
    cond (decide (t50 < (List.length t40 : Int)))
      ((rd t40 t50).bind fun t52 =>
      Option.bind (cond (decide (t52.1 < 0))
        (some true)
        ((if t_2.2.1 < 0 then none else some (shlI .i64 1 t_2.2.1)).bind fun t62 =>
        some (decide (t52.1 ≥ t62)))) fun t64 =>
      cond t64
        (some (Sum.inr (Sum.inr (Sum.inr (Sum.inr (1, ()))))))
        (cond (cond (decide (t52.2 < 0)) true (decide (t52.2 ≥ (List.length t_2.2.2 : Int))))
          (some (Sum.inr (Sum.inr (Sum.inr (Sum.inr (4, ()))))))
          (some (Sum.inl (t_2, (w64 (t50 + 1)))))))
      (some (Sum.inr (Sum.inl t_2)))
def Check105.l1 (k : Nat) (t : (Int × (Int × (List (List (Int × Int)))))) : ((Int × (Int × (List (List (Int × Int))))) × Int) → Option (((Int × (Int × (List (List (Int × Int))))) × Int) ⊕ (Unit ⊕ (Int × Unit)))
  | (t_1, t38) =>
    cond (decide (t38 < (List.length t.2.2 : Int)))
      ((rd t.2.2 t38).bind fun t40 =>
      (if t_1.1 < 0 then none else some (shlI .i64 1 t_1.1)).bind fun t46 =>
      cond ((List.length t40 : Int) != t46)
        (some (Sum.inr (Sum.inr (3, ()))))
        (Option.bind
          (loopN (Check105.l0 k t40) k (t_1, 0) : Option ((Int × (Int × (List (List (Int × Int))))) ⊕ (((Int × (Int × (List (List (Int × Int))))) × Int) ⊕ (Unit ⊕ (Int × Unit))))) (joined fun (t_3 : (Int × (Int × (List (List (Int × Int)))))) =>
          some (Sum.inl (t_3, (w64 (t38 + 1)))))))
      (some (Sum.inr (Sum.inl ())))
def Check105 (k : Nat) (t : (Int × (Int × (List (List (Int × Int)))))) : Option (Int × Unit) :=
  cond (cond (cond (cond (cond (decide (t.1 < 0)) true (decide (t.1 > 4))) true (decide (t.2.1 < 0))) true (decide (t.2.1 > 10))) true (decide ((List.length t.2.2 : Int) > 64)))
    (some (2, ()))
    (cond ((List.length t.2.2 : Int) == 0)
      (some (13, ()))
      (Option.bind
        (loopN (Check105.l1 k t) k (t, 0) : Option (Unit ⊕ (Int × Unit))) (joined fun (_ : Unit) =>
        some (0, ()))))
def Check105.A : Ann := { conds := [], blocks := [(0, ⟨[], [], 0, [], 302231454903382415769684⟩), (2, ⟨[(1, .fp (.st (.pair (.int .i64) (.pair (.int .i64) (.sl (.sl (.st (.pair (.int .i64) (.int .i64)))))))))], [], 0, [], 151115726325928739995716⟩)], loops := [(6, ⟨[(1, .fp (.st (.pair (.int .i64) (.pair (.int .i64) (.sl (.sl (.st (.pair (.int .i64) (.int .i64))))))))), (38, .int .i64)], [], 0, [], 302231454903382415769684⟩), (11, ⟨[(1, .fp (.st (.pair (.int .i64) (.pair (.int .i64) (.sl (.sl (.st (.pair (.int .i64) (.int .i64))))))))), (50, .int .i64)], [], 0, [], 151115726325928739995716⟩)], keeps := [1, 6], orders := [(13, [(0, .strong), (1, .strong), (2, .strong), (3, .strong), (4, .strong), (5, .strong), (6, .strong), (7, .strong), (8, .strong), (9, .strong), (10, .strong)])] }
def Check105.S : Sig := { f := 105, params := [.st (.pair (.int .i64) (.pair (.int .i64) (.sl (.sl (.st (.pair (.int .i64) (.int .i64)))))))], objs := [], res := .int .i64, outs := [], fix := [], run := fun k ds os => Check105 k ds }
def Check105.G : List Sig := []
theorem Check105.eq (k : Nat) : ∀ ds os, Check105.S.run k ds os = runF ⟨types, Check105.G, Check105.A, k, 0, []⟩ Try.f105 (codeOf Try.f105) Check105.S.params Check105.S.objs Check105.S.res Check105.S.outs ds os := by
  intro ds os; kernel_rfl
theorem Check105.dr : DrOk Try.prog Check105.A (codeOf Try.f105) := ⟨by kernel_rfl, by kernel_rfl⟩
theorem Check105.ok (k : Nat) : SoundAt Try.prog k Check105.S :=
  runF_sound (X := ⟨types, Check105.G, Check105.A, k, 0, []⟩) types_ok (fun s hs => absurd hs List.not_mem_nil) (fn := Try.f105) (c := codeOf Try.f105) rfl (by kernel_rfl) rfl rfl Check105.dr (Check105.eq k)

def width106.l0 (k : Nat) (n : Int) : Int → Option (Int ⊕ Int)
  | k_ =>
    (if k_ < 0 then none else some (shlI .i64 1 k_)).bind fun t5 =>
    cond (decide (t5 < n))
      (some (Sum.inl (w64 (k_ + 1))))
      (some (Sum.inr k_))
def width106 (k : Nat) (n : Int) : Option (Int × Unit) :=
  Option.bind
    (loopN (width106.l0 k n) k 0 : Option Int) fun (k__1 : Int) =>
  some (k__1, ())
def width106.A : Ann := { conds := [], blocks := [(0, ⟨[(3, .int .i64)], [], 0, [], 1016⟩)], loops := [(2, ⟨[(3, .int .i64)], [], 0, [], 1016⟩)], keeps := [], orders := [] }
def width106.S : Sig := { f := 106, params := [.int .i64], objs := [], res := .int .i64, outs := [], fix := [], run := fun k ds os => width106 k ds }
def width106.G : List Sig := []
theorem width106.eq (k : Nat) : ∀ ds os, width106.S.run k ds os = runF ⟨types, width106.G, width106.A, k, 0, []⟩ Try.f106 (codeOf Try.f106) width106.S.params width106.S.objs width106.S.res width106.S.outs ds os := by
  intro ds os; kernel_rfl
theorem width106.dr : DrOk Try.prog width106.A (codeOf Try.f106) := ⟨by kernel_rfl, by kernel_rfl⟩
theorem width106.ok (k : Nat) : SoundAt Try.prog k width106.S :=
  runF_sound (X := ⟨types, width106.G, width106.A, k, 0, []⟩) types_ok (fun s hs => absurd hs List.not_mem_nil) (fn := Try.f106) (c := codeOf Try.f106) rfl (by kernel_rfl) rfl rfl width106.dr (width106.eq k)

def put107 (k : Nat) (_ : Unit) (g : (Int × (Int × (Int × (Int × Int))))) (o0 : (Unit × Unit)) (o1 : (List (Int × (Int × (Int × (Int × Int)))))) (o2 : (List ((Int × (Int × (Int × (Int × Int)))) × Int))) : Option (Int × ((Unit × Unit) × ((List (Int × (Int × (Int × (Int × Int))))) × (List ((Int × (Int × (Int × (Int × Int)))) × Int))))) :=
  let t13 : (Option Int) := (mget (.st (.pair (.int .i64) (.pair (.int .i64) (.pair (.int .i64) (.pair (.int .i64) (.int .i64)))))) (.int .i64) o2 g)
  cond (Option.isSome t13)
    (some ((Option.getD (α := Int) t13 (0 : Int)), o0, o1, o2))
    ((if room (List.length o1 + List.length [g]) 40 then some () else none).bind fun _ =>
    some ((w64 ((List.length (o1 ++ [g]) : Int) - 1)), (o0.1, o0.2), (o1 ++ [g]), (mput (.st (.pair (.int .i64) (.pair (.int .i64) (.pair (.int .i64) (.pair (.int .i64) (.int .i64)))))) (.int .i64) o2 g (List.length o1 : Int))))
def put107.A : Ann := { conds := [], blocks := [], loops := [], keeps := [3], orders := [(1, [(0, .strong), (1, .strong), (2, .strong), (3, .strong), (4, .strong), (5, .strong), (6, .strong), (7, .strong), (8, .strong), (9, .strong), (10, .strong)]), (4, [(0, .strong), (1, .strong), (2, .strong), (3, .strong), (4, .strong), (5, .strong), (6, .strong), (7, .strong), (8, .strong), (9, .strong), (10, .eff false)]), (5, [(0, .weak), (1, .strong), (2, .strong), (3, .strong), (4, .strong), (5, .strong), (6, .eff true), (7, .eff false), (8, .strong), (9, .strong), (10, .eff false)])] }
def put107.S : Sig := { f := 107, params := [.ptr 0 [], .st (.pair (.int .i64) (.pair (.int .i64) (.pair (.int .i64) (.pair (.int .i64) (.int .i64)))))], objs := [.var (.st (.pair (.ms 1) (.mm 2))), .row (.st (.pair (.int .i64) (.pair (.int .i64) (.pair (.int .i64) (.pair (.int .i64) (.int .i64)))))), .map (.st (.pair (.int .i64) (.pair (.int .i64) (.pair (.int .i64) (.pair (.int .i64) (.int .i64)))))) (.int .i64)], res := .int .i64, outs := [.var (.st (.pair (.ms 1) (.mm 2))), .row (.st (.pair (.int .i64) (.pair (.int .i64) (.pair (.int .i64) (.pair (.int .i64) (.int .i64)))))), .map (.st (.pair (.int .i64) (.pair (.int .i64) (.pair (.int .i64) (.pair (.int .i64) (.int .i64)))))) (.int .i64)], fix := [], run := fun k ds os => put107 k ds.1 ds.2 os.1 os.2.1 os.2.2 }
def put107.G : List Sig := []
theorem put107.eq (k : Nat) : ∀ ds os, put107.S.run k ds os = runF ⟨types, put107.G, put107.A, k, 0, []⟩ Try.f107 (codeOf Try.f107) put107.S.params put107.S.objs put107.S.res put107.S.outs ds os := by
  intro ds os; kernel_rfl
theorem put107.dr : DrOk Try.prog put107.A (codeOf Try.f107) := ⟨by kernel_rfl, by kernel_rfl⟩
theorem put107.ok (k : Nat) : SoundAt Try.prog k put107.S :=
  runF_sound (X := ⟨types, put107.G, put107.A, k, 0, []⟩) types_ok (fun s hs => absurd hs List.not_mem_nil) (fn := Try.f107) (c := codeOf Try.f107) rfl (by kernel_rfl) rfl rfl put107.dr (put107.eq k)

def Of1108 (k : Nat) (x : Int) (t1 : (Int × (Int × (List (List (Int × Int)))))) : Option ((Int × Int) × Unit) :=
  (if t1.1 < 0 then none else some (shrI .i64 x t1.1)).bind fun t8 =>
  Option.bind
    (cond (decide (t8 ≥ (List.length t1.2.2 : Int)))
      (some (t1, (), 0, 0, 0))
      (some (t1, (), t8, 0, 0)) : Option ((Int × (Int × (List (List (Int × Int))))) × (Unit × (Int × (Int × Int))))) fun ((t1_1, _, s, _) : ((Int × (Int × (List (List (Int × Int))))) × (Unit × (Int × (Int × Int))))) =>
  (rd t1_1.2.2 s).bind fun t17 =>
  (if t1_1.1 < 0 then none else some (shlI .i64 1 t1_1.1)).bind fun t22 =>
  (rd t17 (ibits .and .i64 x (w64 (t22 - 1)))).bind fun t25 =>
  some (t25, ())
def Of1108.A : Ann := { conds := [(851971, ⟨[(1, .fp (.st (.pair (.int .i64) (.pair (.int .i64) (.sl (.sl (.st (.pair (.int .i64) (.int .i64))))))))), (3, .ptr 0 []), (4, .int .i64)], [(0, .var (.st (.pair (.int .i64) (.int .i64))))], 1, [], 16⟩)], blocks := [], loops := [], keeps := [], orders := [(4, [(0, .strong), (1, .strong), (2, .strong), (3, .strong), (4, .strong), (5, .strong), (6, .strong), (7, .strong), (8, .strong), (9, .strong), (10, .strong), (11, .strong), (12, .strong), (13, .eff false)])] }
def Of1108.S : Sig := { f := 108, params := [.int .i64, .fp (.st (.pair (.int .i64) (.pair (.int .i64) (.sl (.sl (.st (.pair (.int .i64) (.int .i64))))))))], objs := [], res := .st (.pair (.int .i64) (.int .i64)), outs := [], fix := [], run := fun k ds os => Of1108 k ds.1 ds.2 }
def Of1108.G : List Sig := []
theorem Of1108.eq (k : Nat) : ∀ ds os, Of1108.S.run k ds os = runF ⟨types, Of1108.G, Of1108.A, k, 0, []⟩ Try.f108 (codeOf Try.f108) Of1108.S.params Of1108.S.objs Of1108.S.res Of1108.S.outs ds os := by
  intro ds os; kernel_rfl
theorem Of1108.dr : DrOk Try.prog Of1108.A (codeOf Try.f108) := ⟨by kernel_rfl, by kernel_rfl⟩
theorem Of1108.ok (k : Nat) : SoundAt Try.prog k Of1108.S :=
  runF_sound (X := ⟨types, Of1108.G, Of1108.A, k, 0, []⟩) types_ok (fun s hs => absurd hs List.not_mem_nil) (fn := Try.f108) (c := codeOf Try.f108) rfl (by kernel_rfl) rfl rfl Of1108.dr (Of1108.eq k)

def bit135 (k : Nat) (_ : Unit) (n : Int) (o0 : (Unit × Unit)) (o1 : (List (Int × (Int × (Int × (Int × Int)))))) (o2 : (List ((Int × (Int × (Int × (Int × Int)))) × Int))) : Option (Int × ((Unit × Unit) × ((List (Int × (Int × (Int × (Int × Int))))) × (List ((Int × (Int × (Int × (Int × Int)))) × Int))))) :=
  (put107 k () (0, 0, 0, 0, n) o0 o1 o2).bind fun t8 =>
  some (t8.1, t8.2.1, t8.2.2.1, t8.2.2.2)
def bit135.A : Ann := { conds := [], blocks := [], loops := [], keeps := [], orders := [] }
def bit135.S : Sig := { f := 135, params := [.ptr 0 [], .int .i64], objs := [.var (.st (.pair (.ms 1) (.mm 2))), .row (.st (.pair (.int .i64) (.pair (.int .i64) (.pair (.int .i64) (.pair (.int .i64) (.int .i64)))))), .map (.st (.pair (.int .i64) (.pair (.int .i64) (.pair (.int .i64) (.pair (.int .i64) (.int .i64)))))) (.int .i64)], res := .int .i64, outs := [.var (.st (.pair (.ms 1) (.mm 2))), .row (.st (.pair (.int .i64) (.pair (.int .i64) (.pair (.int .i64) (.pair (.int .i64) (.int .i64)))))), .map (.st (.pair (.int .i64) (.pair (.int .i64) (.pair (.int .i64) (.pair (.int .i64) (.int .i64)))))) (.int .i64)], fix := [], run := fun k ds os => bit135 k ds.1 ds.2 os.1 os.2.1 os.2.2 }
def bit135.G : List Sig := [put107.S]
theorem bit135.eq (k : Nat) : ∀ ds os, bit135.S.run k ds os = runF ⟨types, bit135.G, bit135.A, k, 0, []⟩ Try.f135 (codeOf Try.f135) bit135.S.params bit135.S.objs bit135.S.res bit135.S.outs ds os := by
  intro ds os; kernel_rfl
theorem bit135.dr : DrOk Try.prog bit135.A (codeOf Try.f135) := ⟨by kernel_rfl, by kernel_rfl⟩
theorem bit135.ok (k : Nat) : SoundAt Try.prog k bit135.S :=
  runF_sound (X := ⟨types, bit135.G, bit135.A, k, 0, []⟩) types_ok (mem_all (⟨put107.ok k, trivial⟩)) (fn := Try.f135) (c := codeOf Try.f135) rfl (by kernel_rfl) rfl rfl bit135.dr (bit135.eq k)

def constant150 (k : Nat) (_ : Unit) (k_ : Int) (o0 : (Unit × Unit)) (o1 : (List (Int × (Int × (Int × (Int × Int)))))) (o2 : (List ((Int × (Int × (Int × (Int × Int)))) × Int))) : Option ((Int × (Bool × Unit)) × ((Unit × Unit) × ((List (Int × (Int × (Int × (Int × Int))))) × (List ((Int × (Int × (Int × (Int × Int)))) × Int))))) :=
  (rd o1 k_).bind fun _ =>
  (rd o1 k_).bind fun t13 =>
  (rd o1 k_).bind fun _ =>
  (rd o1 k_).bind fun t21 =>
  some ((t13.2.2.2.2, (t21.1 == 0), ()), o0, o1, o2)
def constant150.A : Ann := { conds := [], blocks := [], loops := [], keeps := [], orders := [(1, [(0, .strong), (1, .strong), (2, .strong), (3, .strong), (4, .strong), (5, .strong), (6, .strong), (7, .strong), (8, .strong), (9, .strong), (10, .strong), (11, .strong), (12, .strong), (13, .strong), (14, .strong), (15, .strong), (16, .strong), (17, .strong), (18, .strong)])] }
def constant150.S : Sig := { f := 150, params := [.ptr 0 [], .int .i64], objs := [.var (.st (.pair (.ms 1) (.mm 2))), .row (.st (.pair (.int .i64) (.pair (.int .i64) (.pair (.int .i64) (.pair (.int .i64) (.int .i64)))))), .map (.st (.pair (.int .i64) (.pair (.int .i64) (.pair (.int .i64) (.pair (.int .i64) (.int .i64)))))) (.int .i64)], res := .tup (.pair (.int .i64) (.pair .bool .unit)), outs := [.var (.st (.pair (.ms 1) (.mm 2))), .row (.st (.pair (.int .i64) (.pair (.int .i64) (.pair (.int .i64) (.pair (.int .i64) (.int .i64)))))), .map (.st (.pair (.int .i64) (.pair (.int .i64) (.pair (.int .i64) (.pair (.int .i64) (.int .i64)))))) (.int .i64)], fix := [], run := fun k ds os => constant150 k ds.1 ds.2 os.1 os.2.1 os.2.2 }
def constant150.G : List Sig := []
theorem constant150.eq (k : Nat) : ∀ ds os, constant150.S.run k ds os = runF ⟨types, constant150.G, constant150.A, k, 0, []⟩ Try.f150 (codeOf Try.f150) constant150.S.params constant150.S.objs constant150.S.res constant150.S.outs ds os := by
  intro ds os; kernel_rfl
theorem constant150.dr : DrOk Try.prog constant150.A (codeOf Try.f150) := ⟨by kernel_rfl, by kernel_rfl⟩
theorem constant150.ok (k : Nat) : SoundAt Try.prog k constant150.S :=
  runF_sound (X := ⟨types, constant150.G, constant150.A, k, 0, []⟩) types_ok (fun s hs => absurd hs List.not_mem_nil) (fn := Try.f150) (c := codeOf Try.f150) rfl (by kernel_rfl) rfl rfl constant150.dr (constant150.eq k)
end Go.Proofs.Ytjbdhaenakcclaa.St

/- Go functions as plain Lean functions, and their contracts. -/
set_option linter.unusedVariables false
set_option maxRecDepth 100000
noncomputable section
namespace Go.Proofs.Ytjbdhaenakcclaa.St
open Go Go.Proofs.Ytjbdhaenakcclaa.Gp
def not138 (k : Nat) (_ : Unit) (a : Int) (o0 : (Unit × Unit)) (o1 : (List (Int × (Int × (Int × (Int × Int)))))) (o2 : (List ((Int × (Int × (Int × (Int × Int)))) × Int))) : Option (Int × ((Unit × Unit) × ((List (Int × (Int × (Int × (Int × Int))))) × (List ((Int × (Int × (Int × (Int × Int)))) × Int))))) :=
  (constant150 k () a o0 o1 o2).bind fun t11 =>
  cond t11.1.2.1
    ((bit135 k () (w64 (1 - t11.1.1)) t11.2.1 t11.2.2.1 t11.2.2.2).bind fun t18 =>
    some (t18.1, t18.2.1, t18.2.2.1, t18.2.2.2))
    ((rd t11.2.2.1 a).bind fun _ =>
    (rd t11.2.2.1 a).bind fun t25 =>
    cond (t25.1 == 3)
      (some (t25.2.1, t11.2.1, t11.2.2.1, t11.2.2.2))
      ((put107 k () (3, a, 0, 0, 0) t11.2.1 t11.2.2.1 t11.2.2.2).bind fun t34 =>
      some (t34.1, t34.2.1, t34.2.2.1, t34.2.2.2)))
def not138.A : Ann := { conds := [], blocks := [], loops := [], keeps := [7], orders := [] }
def not138.S : Sig := { f := 138, params := [.ptr 0 [], .int .i64], objs := [.var (.st (.pair (.ms 1) (.mm 2))), .row (.st (.pair (.int .i64) (.pair (.int .i64) (.pair (.int .i64) (.pair (.int .i64) (.int .i64)))))), .map (.st (.pair (.int .i64) (.pair (.int .i64) (.pair (.int .i64) (.pair (.int .i64) (.int .i64)))))) (.int .i64)], res := .int .i64, outs := [.var (.st (.pair (.ms 1) (.mm 2))), .row (.st (.pair (.int .i64) (.pair (.int .i64) (.pair (.int .i64) (.pair (.int .i64) (.int .i64)))))), .map (.st (.pair (.int .i64) (.pair (.int .i64) (.pair (.int .i64) (.pair (.int .i64) (.int .i64)))))) (.int .i64)], fix := [], run := fun k ds os => not138 k ds.1 ds.2 os.1 os.2.1 os.2.2 }
def not138.G : List Sig := [bit135.S, constant150.S, put107.S]
theorem not138.eq (k : Nat) : ∀ ds os, not138.S.run k ds os = runF ⟨types, not138.G, not138.A, k, 0, []⟩ Try.f138 (codeOf Try.f138) not138.S.params not138.S.objs not138.S.res not138.S.outs ds os := by
  intro ds os; kernel_rfl
theorem not138.dr : DrOk Try.prog not138.A (codeOf Try.f138) := ⟨by kernel_rfl, by kernel_rfl⟩
theorem not138.ok (k : Nat) : SoundAt Try.prog k not138.S :=
  runF_sound (X := ⟨types, not138.G, not138.A, k, 0, []⟩) types_ok (mem_all (⟨bit135.ok k, ⟨constant150.ok k, ⟨put107.ok k, trivial⟩⟩⟩)) (fn := Try.f138) (c := codeOf Try.f138) rfl (by kernel_rfl) rfl rfl not138.dr (not138.eq k)

def mux136 (k : Nat) (_ : Unit) (a : Int) (b : Int) (c : Int) (o0 : (Unit × Unit)) (o1 : (List (Int × (Int × (Int × (Int × Int)))))) (o2 : (List ((Int × (Int × (Int × (Int × Int)))) × Int))) : Option (Int × ((Unit × Unit) × ((List (Int × (Int × (Int × (Int × Int))))) × (List ((Int × (Int × (Int × (Int × Int)))) × Int))))) :=
  (constant150 k () a o0 o1 o2).bind fun t18 =>
  cond t18.1.2.1
    (cond (t18.1.1 == 1)
      (some (b, t18.2.1, t18.2.2.1, t18.2.2.2))
      (some (c, t18.2.1, t18.2.2.1, t18.2.2.2)))
    ((constant150 k () b t18.2.1 t18.2.2.1 t18.2.2.2).bind fun t29 =>
    (constant150 k () c t29.2.1 t29.2.2.1 t29.2.2.2).bind fun t35 =>
    cond (b == c)
      (some (b, t35.2.1, t35.2.2.1, t35.2.2.2))
      (cond (cond (cond t29.1.2.1 t35.1.2.1 false) (t29.1.1 == 1) false)
        (some (a, t35.2.1, t35.2.2.1, t35.2.2.2))
        (cond (cond t29.1.2.1 t35.1.2.1 false)
          ((not138 k () a t35.2.1 t35.2.2.1 t35.2.2.2).bind fun t60 =>
          some (t60.1, t60.2.1, t60.2.2.1, t60.2.2.2))
          ((put107 k () (7, a, b, c, 0) t35.2.1 t35.2.2.1 t35.2.2.2).bind fun t66 =>
          some (t66.1, t66.2.1, t66.2.2.1, t66.2.2.2)))))
def mux136.A : Ann := { conds := [], blocks := [], loops := [], keeps := [], orders := [] }
def mux136.S : Sig := { f := 136, params := [.ptr 0 [], .int .i64, .int .i64, .int .i64], objs := [.var (.st (.pair (.ms 1) (.mm 2))), .row (.st (.pair (.int .i64) (.pair (.int .i64) (.pair (.int .i64) (.pair (.int .i64) (.int .i64)))))), .map (.st (.pair (.int .i64) (.pair (.int .i64) (.pair (.int .i64) (.pair (.int .i64) (.int .i64)))))) (.int .i64)], res := .int .i64, outs := [.var (.st (.pair (.ms 1) (.mm 2))), .row (.st (.pair (.int .i64) (.pair (.int .i64) (.pair (.int .i64) (.pair (.int .i64) (.int .i64)))))), .map (.st (.pair (.int .i64) (.pair (.int .i64) (.pair (.int .i64) (.pair (.int .i64) (.int .i64)))))) (.int .i64)], fix := [], run := fun k ds os => mux136 k ds.1 ds.2.1 ds.2.2.1 ds.2.2.2 os.1 os.2.1 os.2.2 }
def mux136.G : List Sig := [constant150.S, not138.S, put107.S]
theorem mux136.eq (k : Nat) : ∀ ds os, mux136.S.run k ds os = runF ⟨types, mux136.G, mux136.A, k, 0, []⟩ Try.f136 (codeOf Try.f136) mux136.S.params mux136.S.objs mux136.S.res mux136.S.outs ds os := by
  intro ds os; kernel_rfl
theorem mux136.dr : DrOk Try.prog mux136.A (codeOf Try.f136) := ⟨by kernel_rfl, by kernel_rfl⟩
theorem mux136.ok (k : Nat) : SoundAt Try.prog k mux136.S :=
  runF_sound (X := ⟨types, mux136.G, mux136.A, k, 0, []⟩) types_ok (mem_all (⟨constant150.ok k, ⟨not138.ok k, ⟨put107.ok k, trivial⟩⟩⟩)) (fn := Try.f136) (c := codeOf Try.f136) rfl (by kernel_rfl) rfl rfl mux136.dr (mux136.eq k)

abbrev Grptree109.T := (Unit → (List Int) → (List Int) → (Unit × Unit) → (List (Int × (Int × (Int × (Int × Int))))) → (List ((Int × (Int × (Int × (Int × Int)))) × Int)) → Option (Int × ((Unit × Unit) × ((List (Int × (Int × (Int × (Int × Int))))) × (List ((Int × (Int × (Int × (Int × Int)))) × Int))))))
def tree109.b (r_ : Grptree109.T) (k : Nat) (_ : Unit) (vars : (List Int)) (f : (List Int)) (o0 : (Unit × Unit)) (o1 : (List (Int × (Int × (Int × (Int × Int)))))) (o2 : (List ((Int × (Int × (Int × (Int × Int)))) × Int))) : Option (Int × ((Unit × Unit) × ((List (Int × (Int × (Int × (Int × Int))))) × (List ((Int × (Int × (Int × (Int × Int)))) × Int))))) :=
  cond ((List.length vars : Int) == 0)
    ((rd f 0).bind fun t15 =>
    (bit135 k () t15 o0 o1 o2).bind fun t17 =>
    some (t17.1, t17.2.1, t17.2.2.1, t17.2.2.2))
    (let t20 : Int := (w64 ((List.length vars : Int) - 1))
    (slc vars 0 t20).bind fun t24 =>
    (if t20 < 0 then none else some (shlI .i64 1 t20)).bind fun t27 =>
    (slc f 0 t27).bind fun t28 =>
    (r_ () t24 t28 o0 o1 o2).bind fun t29 =>
    (slc vars 0 t20).bind fun t33 =>
    (if t20 < 0 then none else some (shlI .i64 1 t20)).bind fun t36 =>
    (slc f t36 (List.length f : Int)).bind fun t37 =>
    (r_ () t33 t37 t29.2.1 t29.2.2.1 t29.2.2.2).bind fun t38 =>
    (rd vars t20).bind fun t42 =>
    (mux136 k () t42 t38.1 t29.1 t38.2.1 t38.2.2.1 t38.2.2.2).bind fun t46 =>
    some (t46.1, t46.2.1, t46.2.2.1, t46.2.2.2))
def Grptree109 : Nat → Grptree109.T
  | 0 => ((fun _ _ _ _ _ _ => none))
  | k + 1 => (tree109.b (Grptree109 k) k)
def tree109 (k : Nat) : Unit → (List Int) → (List Int) → (Unit × Unit) → (List (Int × (Int × (Int × (Int × Int))))) → (List ((Int × (Int × (Int × (Int × Int)))) × Int)) → Option (Int × ((Unit × Unit) × ((List (Int × (Int × (Int × (Int × Int))))) × (List ((Int × (Int × (Int × (Int × Int)))) × Int))))) := (Grptree109 k)
def tree109.A : Ann := { conds := [], blocks := [], loops := [], keeps := [], orders := [(4, [(0, .strong), (1, .strong), (2, .strong), (3, .strong), (4, .strong), (5, .strong), (6, .strong), (7, .strong), (8, .eff false), (9, .strong)]), (5, [(0, .strong), (1, .strong), (2, .strong), (3, .strong), (4, .strong), (5, .strong), (6, .strong), (7, .strong), (8, .eff false), (9, .strong)])] }
def tree109.S : Sig := { f := 109, params := [.ptr 0 [], .sl (.int .i64), .sl (.int .i64)], objs := [.var (.st (.pair (.ms 1) (.mm 2))), .row (.st (.pair (.int .i64) (.pair (.int .i64) (.pair (.int .i64) (.pair (.int .i64) (.int .i64)))))), .map (.st (.pair (.int .i64) (.pair (.int .i64) (.pair (.int .i64) (.pair (.int .i64) (.int .i64)))))) (.int .i64)], res := .int .i64, outs := [.var (.st (.pair (.ms 1) (.mm 2))), .row (.st (.pair (.int .i64) (.pair (.int .i64) (.pair (.int .i64) (.pair (.int .i64) (.int .i64)))))), .map (.st (.pair (.int .i64) (.pair (.int .i64) (.pair (.int .i64) (.pair (.int .i64) (.int .i64)))))) (.int .i64)], fix := [], run := fun k ds os => tree109 k ds.1 ds.2.1 ds.2.2 os.1 os.2.1 os.2.2 }
def tree109.G : List Sig := [bit135.S, mux136.S, tree109.S]
theorem tree109.eq (k : Nat) : ∀ ds os, tree109.S.run (k + 1) ds os = runF ⟨types, tree109.G, tree109.A, k, 0, []⟩ Try.f109 (codeOf Try.f109) tree109.S.params tree109.S.objs tree109.S.res tree109.S.outs ds os := by
  intro ds os; kernel_rfl
theorem tree109.dr : DrOk Try.prog tree109.A (codeOf Try.f109) := ⟨by kernel_rfl, by kernel_rfl⟩
theorem Grptree109.ok : ∀ k, SoundAt Try.prog k tree109.S := by
  intro k
  induction k with
  | zero => exact sound_none (fn := Try.f109) (c := codeOf Try.f109) rfl (by kernel_rfl) rfl (fun _ _ => rfl)
  | succ k ih => exact runF_sound (X := ⟨types, tree109.G, tree109.A, k, 0, []⟩) types_ok (mem_all (⟨bit135.ok k, ⟨mux136.ok k, ⟨ih, trivial⟩⟩⟩)) (fn := Try.f109) (c := codeOf Try.f109) rfl (by kernel_rfl) rfl rfl tree109.dr (tree109.eq k)
theorem tree109.ok (k : Nat) : SoundAt Try.prog k tree109.S := (Grptree109.ok k)
end Go.Proofs.Ytjbdhaenakcclaa.St

/- Go functions as plain Lean functions, and their contracts. -/
set_option linter.unusedVariables false
set_option maxRecDepth 100000
noncomputable section
namespace Go.Proofs.Ytjbdhaenakcclaa.St
open Go Go.Proofs.Ytjbdhaenakcclaa.Gp
abbrev Grpswept1137.T := (Int → Unit → (Int × ((List (Int × (Int × (Int × (Int × Int))))) × ((List Int) × ((List Int) × (List Int))))) → Unit → Unit → (List Bool) → (Unit × ((Int × ((List (Int × (Int × (Int × (Int × Int))))) × ((List Int) × ((List Int) × (List Int))))) × (Unit × Unit))) → Option (Unit × (Unit × ((List Bool) × (Unit × ((Int × ((List (Int × (Int × (Int × (Int × Int))))) × ((List Int) × ((List Int) × (List Int))))) × (Unit × Unit)))))))
def swept1137.l0 (r_ : Grpswept1137.T) (k : Nat) (t18 : (Int × (Int × (Int × (Int × Int))))) : (Unit × ((Int × (Int × (Int × (Int × Int)))) × (Unit × (Int × (Unit × ((List Bool) × ((Unit × ((Int × ((List (Int × (Int × (Int × (Int × Int))))) × ((List Int) × ((List Int) × (List Int))))) × (Unit × Unit))) × (List Int)))))))) → Option ((Unit × ((Int × (Int × (Int × (Int × Int)))) × (Unit × (Int × (Unit × ((List Bool) × ((Unit × ((Int × ((List (Int × (Int × (Int × (Int × Int))))) × ((List Int) × ((List Int) × (List Int))))) × (Unit × Unit))) × (List Int)))))))) ⊕ (Unit × ((List Bool) × (Unit × ((Int × ((List (Int × (Int × (Int × (Int × Int))))) × ((List Int) × ((List Int) × (List Int))))) × (Unit × Unit))))))
  | (_, g, _, t28, _, o1_1, o2_1, o4) =>
    cond (decide (t28 < (List.length ([t18.2.1, t18.2.2.1, t18.2.2.2.1] : List Int) : Int)))
      ((rd o4 t28).bind fun _ =>
      (rd o4 t28).bind fun t32 =>
      Option.bind
        (cond (cond (decide (g.1 ≥ 3)) (cond (cond (t28 == 0) true (cond (t28 == 1) (decide (g.1 > 3)) false)) true (g.1 == 7)) false)
          ((r_ t32 o2_1.1 o2_1.2.1 o2_1.2.2.1 () o1_1 o2_1).bind fun t56 =>
          some ((), g, (), (), t56.2.2.1, t56.2.2.2, o4))
          (some ((), g, (), (), o1_1, o2_1, o4)) : Option (Unit × ((Int × (Int × (Int × (Int × Int)))) × (Unit × (Unit × ((List Bool) × ((Unit × ((Int × ((List (Int × (Int × (Int × (Int × Int))))) × ((List Int) × ((List Int) × (List Int))))) × (Unit × Unit))) × (List Int)))))))) fun ((_, g_1, _, _, o1_2, o2_2, o4_1) : (Unit × ((Int × (Int × (Int × (Int × Int)))) × (Unit × (Unit × ((List Bool) × ((Unit × ((Int × ((List (Int × (Int × (Int × (Int × Int))))) × ((List Int) × ((List Int) × (List Int))))) × (Unit × Unit))) × (List Int)))))))) =>
      some (Sum.inl ((), g_1, (), (w64 (t28 + 1)), (), o1_2, o2_2, o4_1)))
      (some (Sum.inr ((), o1_1, o2_1)))
def swept1137.b (r_ : Grpswept1137.T) (k : Nat) (k_ : Int) (_ : Unit) (t2 : (Int × ((List (Int × (Int × (Int × (Int × Int))))) × ((List Int) × ((List Int) × (List Int)))))) (_ : Unit) (o0 : Unit) (o1 : (List Bool)) (o2 : (Unit × ((Int × ((List (Int × (Int × (Int × (Int × Int))))) × ((List Int) × ((List Int) × (List Int))))) × (Unit × Unit)))) : Option (Unit × (Unit × ((List Bool) × (Unit × ((Int × ((List (Int × (Int × (Int × (Int × Int))))) × ((List Int) × ((List Int) × (List Int))))) × (Unit × Unit)))))) :=
  (rd o1 k_).bind fun _ =>
  (rd o1 k_).bind fun t11 =>
  cond t11
    (some ((), (), o1, o2))
    ((rd o1 k_).bind fun _ =>
    (rd o1 k_).bind fun _ =>
    (rd t2.2.1 k_).bind fun t18 =>
    Option.bind
      (loopN (swept1137.l0 r_ k t18) k ((), t18, (), 0, (), (List.set o1 (Int.toNat k_) true), o2, ([t18.2.1, t18.2.2.1, t18.2.2.2.1] : List Int)) : Option (Unit × ((List Bool) × (Unit × ((Int × ((List (Int × (Int × (Int × (Int × Int))))) × ((List Int) × ((List Int) × (List Int))))) × (Unit × Unit)))))) fun ((_, o1_3, o2_3) : (Unit × ((List Bool) × (Unit × ((Int × ((List (Int × (Int × (Int × (Int × Int))))) × ((List Int) × ((List Int) × (List Int))))) × (Unit × Unit)))))) =>
    some ((), (), o1_3, o2_3))
def Grpswept1137 : Nat → Grpswept1137.T
  | 0 => ((fun _ _ _ _ _ _ _ => none))
  | k + 1 => (swept1137.b (Grpswept1137 k) k)
def swept1137 (k : Nat) : Int → Unit → (Int × ((List (Int × (Int × (Int × (Int × Int))))) × ((List Int) × ((List Int) × (List Int))))) → Unit → Unit → (List Bool) → (Unit × ((Int × ((List (Int × (Int × (Int × (Int × Int))))) × ((List Int) × ((List Int) × (List Int))))) × (Unit × Unit))) → Option (Unit × (Unit × ((List Bool) × (Unit × ((Int × ((List (Int × (Int × (Int × (Int × Int))))) × ((List Int) × ((List Int) × (List Int))))) × (Unit × Unit)))))) := (Grpswept1137 k)
def swept1137.A : Ann := { conds := [(3473415, ⟨[(3, .ptr 2 []), (5, .fp (.st (.pair (.int .i64) (.pair (.int .i64) (.pair (.int .i64) (.pair (.int .i64) (.int .i64))))))), (26, .ms 4)], [(0, .var (.ms 1)), (1, .row .bool), (2, .var (.fn 137 (.pair (.ptr 0 []) (.pair (.fp (.st (.pair (.int .i64) (.pair (.sl (.st (.pair (.int .i64) (.pair (.int .i64) (.pair (.int .i64) (.pair (.int .i64) (.int .i64))))))) (.pair (.sl (.int .i64)) (.pair (.sl (.int .i64)) (.sl (.int .i64)))))))) (.pair (.ptr 2 []) .unit))))), (4, .row (.int .i64))], 5, [], 126100789566373888⟩)], blocks := [(0, ⟨[], [(0, .var (.ms 1)), (1, .row .bool), (2, .var (.fn 137 (.pair (.ptr 0 []) (.pair (.fp (.st (.pair (.int .i64) (.pair (.sl (.st (.pair (.int .i64) (.pair (.int .i64) (.pair (.int .i64) (.pair (.int .i64) (.int .i64))))))) (.pair (.sl (.int .i64)) (.pair (.sl (.int .i64)) (.sl (.int .i64)))))))) (.pair (.ptr 2 []) .unit)))))], 3, [], 288230375883276480⟩)], loops := [(4, ⟨[(3, .ptr 2 []), (5, .fp (.st (.pair (.int .i64) (.pair (.int .i64) (.pair (.int .i64) (.pair (.int .i64) (.int .i64))))))), (26, .ms 4), (28, .int .i64)], [(0, .var (.ms 1)), (1, .row .bool), (2, .var (.fn 137 (.pair (.ptr 0 []) (.pair (.fp (.st (.pair (.int .i64) (.pair (.sl (.st (.pair (.int .i64) (.pair (.int .i64) (.pair (.int .i64) (.pair (.int .i64) (.int .i64))))))) (.pair (.sl (.int .i64)) (.pair (.sl (.int .i64)) (.sl (.int .i64)))))))) (.pair (.ptr 2 []) .unit))))), (4, .row (.int .i64))], 5, [], 288230375883276480⟩)], keeps := [5], orders := [] }
def swept1137.S : Sig := { f := 137, params := [.int .i64, .ptr 0 [], .fp (.st (.pair (.int .i64) (.pair (.sl (.st (.pair (.int .i64) (.pair (.int .i64) (.pair (.int .i64) (.pair (.int .i64) (.int .i64))))))) (.pair (.sl (.int .i64)) (.pair (.sl (.int .i64)) (.sl (.int .i64))))))), .ptr 2 []], objs := [.var (.ms 1), .row .bool, .var (.fn 137 (.pair (.ptr 0 []) (.pair (.fp (.st (.pair (.int .i64) (.pair (.sl (.st (.pair (.int .i64) (.pair (.int .i64) (.pair (.int .i64) (.pair (.int .i64) (.int .i64))))))) (.pair (.sl (.int .i64)) (.pair (.sl (.int .i64)) (.sl (.int .i64)))))))) (.pair (.ptr 2 []) .unit))))], res := .tup .unit, outs := [.var (.ms 1), .row .bool, .var (.fn 137 (.pair (.ptr 0 []) (.pair (.fp (.st (.pair (.int .i64) (.pair (.sl (.st (.pair (.int .i64) (.pair (.int .i64) (.pair (.int .i64) (.pair (.int .i64) (.int .i64))))))) (.pair (.sl (.int .i64)) (.pair (.sl (.int .i64)) (.sl (.int .i64)))))))) (.pair (.ptr 2 []) .unit))))], fix := [], run := fun k ds os => swept1137 k ds.1 ds.2.1 ds.2.2.1 ds.2.2.2 os.1 os.2.1 os.2.2 }
def swept1137.G : List Sig := [swept1137.S]
theorem swept1137.eq (k : Nat) : ∀ ds os, swept1137.S.run (k + 1) ds os = runF ⟨types, swept1137.G, swept1137.A, k, 0, []⟩ Try.f137 (codeOf Try.f137) swept1137.S.params swept1137.S.objs swept1137.S.res swept1137.S.outs ds os := by
  intro ds os; kernel_rfl
theorem swept1137.dr : DrOk Try.prog swept1137.A (codeOf Try.f137) := ⟨by kernel_rfl, by kernel_rfl⟩
theorem Grpswept1137.ok : ∀ k, SoundAt Try.prog k swept1137.S := by
  intro k
  induction k with
  | zero => exact sound_none (fn := Try.f137) (c := codeOf Try.f137) rfl (by kernel_rfl) rfl (fun _ _ => rfl)
  | succ k ih => exact runF_sound (X := ⟨types, swept1137.G, swept1137.A, k, 0, []⟩) types_ok (mem_all (⟨ih, trivial⟩)) (fn := Try.f137) (c := codeOf Try.f137) rfl (by kernel_rfl) rfl rfl swept1137.dr (swept1137.eq k)
theorem swept1137.ok (k : Nat) : SoundAt Try.prog k swept1137.S := (Grpswept1137.ok k)
end Go.Proofs.Ytjbdhaenakcclaa.St

/- Go functions as plain Lean functions, and their contracts. -/
set_option linter.unusedVariables false
set_option maxRecDepth 100000
noncomputable section
namespace Go.Proofs.Ytjbdhaenakcclaa.St
open Go Go.Proofs.Ytjbdhaenakcclaa.Gp
def swept110.l0 (k : Nat) (c : (Int × ((List (Int × (Int × (Int × (Int × Int))))) × ((List Int) × ((List Int) × (List Int)))))) : ((Int × ((List (Int × (Int × (Int × (Int × Int))))) × ((List Int) × ((List Int) × (List Int))))) × (Unit × (Unit × (Unit × (Int × ((Int × (Unit × (Unit × (Unit × Unit)))) × ((List (Int × (Int × (Int × (Int × Int))))) × ((List Int) × ((List Int) × ((List Int) × ((List Bool) × (Unit × (Unit × ((Int × ((List (Int × (Int × (Int × (Int × Int))))) × ((List Int) × ((List Int) × (List Int))))) × (Unit × Unit))))))))))))))) → Option (((Int × ((List (Int × (Int × (Int × (Int × Int))))) × ((List Int) × ((List Int) × (List Int))))) × (Unit × (Unit × (Unit × (Int × ((Int × (Unit × (Unit × (Unit × Unit)))) × ((List (Int × (Int × (Int × (Int × Int))))) × ((List Int) × ((List Int) × ((List Int) × ((List Bool) × (Unit × (Unit × ((Int × ((List (Int × (Int × (Int × (Int × Int))))) × ((List Int) × ((List Int) × (List Int))))) × (Unit × Unit))))))))))))))) ⊕ ((Int × ((List (Int × (Int × (Int × (Int × Int))))) × ((List Int) × ((List Int) × (List Int))))) × (Unit × (Unit × (Unit × ((Int × (Unit × (Unit × (Unit × Unit)))) × ((List (Int × (Int × (Int × (Int × Int))))) × ((List Int) × ((List Int) × ((List Int) × ((List Bool) × (Unit × (Unit × ((Int × ((List (Int × (Int × (Int × (Int × Int))))) × ((List Int) × ((List Int) × (List Int))))) × (Unit × Unit)))))))))))))))
  | (c_1, _, _, _, t25, o0, o1, o2, o3, o4, t20, _, o7) =>
    cond (decide (t25 < (List.length c.2.2.1 : Int)))
      ((rd c.2.2.1 t25).bind fun t27 =>
      (swept1137 k t27 o7.1 o7.2.1 o7.2.2.1 () t20 (o7.1, o7.2.1, o7.2.2.1, o7.2.2.2)).bind fun t31 =>
      some (Sum.inl (c_1, (), (), (), (w64 (t25 + 1)), o0, o1, o2, o3, o4, t31.2.2.1, (), t31.2.2.2.1, t31.2.2.2.2.1, t31.2.2.2.2.2.1, t31.2.2.2.2.2.2)))
      (some (Sum.inr (c_1, (), (), (), o0, o1, o2, o3, o4, t20, (), o7)))
def swept110.l1 (k : Nat) (c_2 : (Int × ((List (Int × (Int × (Int × (Int × Int))))) × ((List Int) × ((List Int) × (List Int)))))) : ((Int × ((List (Int × (Int × (Int × (Int × Int))))) × ((List Int) × ((List Int) × (List Int))))) × (Unit × (Unit × (Unit × (Int × ((Int × (Unit × (Unit × (Unit × Unit)))) × ((List (Int × (Int × (Int × (Int × Int))))) × ((List Int) × ((List Int) × ((List Int) × ((List Bool) × (Unit × (Unit × ((Int × ((List (Int × (Int × (Int × (Int × Int))))) × ((List Int) × ((List Int) × (List Int))))) × (Unit × Unit))))))))))))))) → Option (((Int × ((List (Int × (Int × (Int × (Int × Int))))) × ((List Int) × ((List Int) × (List Int))))) × (Unit × (Unit × (Unit × (Int × ((Int × (Unit × (Unit × (Unit × Unit)))) × ((List (Int × (Int × (Int × (Int × Int))))) × ((List Int) × ((List Int) × ((List Int) × ((List Bool) × (Unit × (Unit × ((Int × ((List (Int × (Int × (Int × (Int × Int))))) × ((List Int) × ((List Int) × (List Int))))) × (Unit × Unit))))))))))))))) ⊕ ((Int × ((List (Int × (Int × (Int × (Int × Int))))) × ((List Int) × ((List Int) × (List Int))))) × (Unit × (Unit × ((Int × (Unit × (Unit × (Unit × Unit)))) × ((List (Int × (Int × (Int × (Int × Int))))) × ((List Int) × ((List Int) × ((List Int) × ((List Bool) × Unit))))))))))
  | (c_3, _, _, _, t36, o0_2, o1_2, o2_2, o3_2, o4_2, t20_2, _, o7_2) =>
    cond (decide (t36 < (List.length c_2.2.2.2.1 : Int)))
      ((rd c_2.2.2.2.1 t36).bind fun t38 =>
      (swept1137 k t38 o7_2.1 o7_2.2.1 o7_2.2.2.1 () t20_2 (o7_2.1, o7_2.2.1, o7_2.2.2.1, o7_2.2.2.2)).bind fun t42 =>
      some (Sum.inl (c_3, (), (), (), (w64 (t36 + 1)), o0_2, o1_2, o2_2, o3_2, o4_2, t42.2.2.1, (), t42.2.2.2.1, t42.2.2.2.2.1, t42.2.2.2.2.2.1, t42.2.2.2.2.2.2)))
      (some (Sum.inr (c_3, (), (), o0_2, o1_2, o2_2, o3_2, o4_2, t20_2, ())))
def swept110.l2 (k : Nat) (c_4 : (Int × ((List (Int × (Int × (Int × (Int × Int))))) × ((List Int) × ((List Int) × (List Int)))))) : ((Int × ((List (Int × (Int × (Int × (Int × Int))))) × ((List Int) × ((List Int) × (List Int))))) × (Unit × (Unit × (Unit × (Unit × (Int × ((Int × (Unit × (Unit × (Unit × Unit)))) × ((List (Int × (Int × (Int × (Int × Int))))) × ((List Int) × ((List Int) × ((List Int) × ((List Bool) × (Unit × ((List Int) × ((Int × (Unit × (Unit × (Unit × (List Int))))) × ((List (Int × (Int × (Int × (Int × Int))))) × ((List Int) × (List Int)))))))))))))))))) → Option (((Int × ((List (Int × (Int × (Int × (Int × Int))))) × ((List Int) × ((List Int) × (List Int))))) × (Unit × (Unit × (Unit × (Unit × (Int × ((Int × (Unit × (Unit × (Unit × Unit)))) × ((List (Int × (Int × (Int × (Int × Int))))) × ((List Int) × ((List Int) × ((List Int) × ((List Bool) × (Unit × ((List Int) × ((Int × (Unit × (Unit × (Unit × (List Int))))) × ((List (Int × (Int × (Int × (Int × Int))))) × ((List Int) × (List Int)))))))))))))))))) ⊕ ((Int × ((List (Int × (Int × (Int × (Int × Int))))) × ((List Int) × ((List Int) × (List Int))))) × (Unit × (Unit × (Unit × ((Int × (Unit × (Unit × (Unit × Unit)))) × ((List (Int × (Int × (Int × (Int × Int))))) × ((List Int) × ((List Int) × ((List Int) × ((List Int) × ((Int × (Unit × (Unit × (Unit × (List Int))))) × ((List (Int × (Int × (Int × (Int × Int))))) × ((List Int) × (List Int)))))))))))))))
  | (c_5, _, _, _, _, t56, o0_4, o1_4, o2_4, o3_4, o4_4, t20_4, _, t47, o8, o9, o10, o11) =>
    cond (decide (t56 < (List.length c_4.2.1 : Int)))
      (Option.bind
        ((rd c_4.2.1 t56).bind fun t59 =>
        (rd t20_4 t56).bind fun _ =>
        (rd t20_4 t56).bind fun t64 =>
        cond (!t64)
          (some (c_5, (), (), (), (), o0_4, o1_4, o2_4, o3_4, o4_4, t20_4, (), t47, o8, o9, o10, o11))
          (Option.bind
            (cond (decide (t59.1 ≥ 3))
              ((rd t47 t59.2.1).bind fun _ =>
              (rd t47 t59.2.1).bind fun t73 =>
              some (c_5, (), (), (), (), (), o0_4, o1_4, o2_4, o3_4, o4_4, t20_4, (), t47, o8, o9, o10, o11, t59.1, t73, t59.2.2))
              (some (c_5, (), (), (), (), (), o0_4, o1_4, o2_4, o3_4, o4_4, t20_4, (), t47, o8, o9, o10, o11, t59)) : Option ((Int × ((List (Int × (Int × (Int × (Int × Int))))) × ((List Int) × ((List Int) × (List Int))))) × (Unit × (Unit × (Unit × (Unit × (Unit × ((Int × (Unit × (Unit × (Unit × Unit)))) × ((List (Int × (Int × (Int × (Int × Int))))) × ((List Int) × ((List Int) × ((List Int) × ((List Bool) × (Unit × ((List Int) × ((Int × (Unit × (Unit × (Unit × (List Int))))) × ((List (Int × (Int × (Int × (Int × Int))))) × ((List Int) × ((List Int) × (Int × (Int × (Int × (Int × Int))))))))))))))))))))))) fun ((c_6, _, _, _, _, _, o0_5, o1_5, o2_5, o3_5, o4_5, t20_5, _, t47_1, o8_1, o9_1, o10_1, o11_1, o12) : ((Int × ((List (Int × (Int × (Int × (Int × Int))))) × ((List Int) × ((List Int) × (List Int))))) × (Unit × (Unit × (Unit × (Unit × (Unit × ((Int × (Unit × (Unit × (Unit × Unit)))) × ((List (Int × (Int × (Int × (Int × Int))))) × ((List Int) × ((List Int) × ((List Int) × ((List Bool) × (Unit × ((List Int) × ((Int × (Unit × (Unit × (Unit × (List Int))))) × ((List (Int × (Int × (Int × (Int × Int))))) × ((List Int) × ((List Int) × (Int × (Int × (Int × (Int × Int))))))))))))))))))))))) =>
          Option.bind
            (cond (decide (o12.1 > 3))
              ((rd t47_1 o12.2.2.1).bind fun _ =>
              (rd t47_1 o12.2.2.1).bind fun t82 =>
              some (c_6, (), (), (), (), (), o0_5, o1_5, o2_5, o3_5, o4_5, t20_5, (), t47_1, o8_1, o9_1, o10_1, o11_1, o12.1, o12.2.1, t82, o12.2.2.2))
              (some (c_6, (), (), (), (), (), o0_5, o1_5, o2_5, o3_5, o4_5, t20_5, (), t47_1, o8_1, o9_1, o10_1, o11_1, o12)) : Option ((Int × ((List (Int × (Int × (Int × (Int × Int))))) × ((List Int) × ((List Int) × (List Int))))) × (Unit × (Unit × (Unit × (Unit × (Unit × ((Int × (Unit × (Unit × (Unit × Unit)))) × ((List (Int × (Int × (Int × (Int × Int))))) × ((List Int) × ((List Int) × ((List Int) × ((List Bool) × (Unit × ((List Int) × ((Int × (Unit × (Unit × (Unit × (List Int))))) × ((List (Int × (Int × (Int × (Int × Int))))) × ((List Int) × ((List Int) × (Int × (Int × (Int × (Int × Int))))))))))))))))))))))) fun ((c_7, _, _, _, _, _, o0_6, o1_6, o2_6, o3_6, o4_6, t20_6, _, t47_2, o8_2, o9_2, o10_2, o11_2, o12_1) : ((Int × ((List (Int × (Int × (Int × (Int × Int))))) × ((List Int) × ((List Int) × (List Int))))) × (Unit × (Unit × (Unit × (Unit × (Unit × ((Int × (Unit × (Unit × (Unit × Unit)))) × ((List (Int × (Int × (Int × (Int × Int))))) × ((List Int) × ((List Int) × ((List Int) × ((List Bool) × (Unit × ((List Int) × ((Int × (Unit × (Unit × (Unit × (List Int))))) × ((List (Int × (Int × (Int × (Int × Int))))) × ((List Int) × ((List Int) × (Int × (Int × (Int × (Int × Int))))))))))))))))))))))) =>
          Option.bind
            (cond (o12_1.1 == 7)
              ((rd t47_2 o12_1.2.2.2.1).bind fun _ =>
              (rd t47_2 o12_1.2.2.2.1).bind fun t91 =>
              some (c_7, (), (), (), (), (), o0_6, o1_6, o2_6, o3_6, o4_6, t20_6, (), t47_2, o8_2, o9_2, o10_2, o11_2, o12_1.1, o12_1.2.1, o12_1.2.2.1, t91, o12_1.2.2.2.2))
              (some (c_7, (), (), (), (), (), o0_6, o1_6, o2_6, o3_6, o4_6, t20_6, (), t47_2, o8_2, o9_2, o10_2, o11_2, o12_1)) : Option ((Int × ((List (Int × (Int × (Int × (Int × Int))))) × ((List Int) × ((List Int) × (List Int))))) × (Unit × (Unit × (Unit × (Unit × (Unit × ((Int × (Unit × (Unit × (Unit × Unit)))) × ((List (Int × (Int × (Int × (Int × Int))))) × ((List Int) × ((List Int) × ((List Int) × ((List Bool) × (Unit × ((List Int) × ((Int × (Unit × (Unit × (Unit × (List Int))))) × ((List (Int × (Int × (Int × (Int × Int))))) × ((List Int) × ((List Int) × (Int × (Int × (Int × (Int × Int))))))))))))))))))))))) fun ((c_8, _, _, _, _, _, o0_7, o1_7, o2_7, o3_7, o4_7, t20_7, _, t47_3, o8_3, o9_3, o10_3, o11_3, o12_2) : ((Int × ((List (Int × (Int × (Int × (Int × Int))))) × ((List Int) × ((List Int) × (List Int))))) × (Unit × (Unit × (Unit × (Unit × (Unit × ((Int × (Unit × (Unit × (Unit × Unit)))) × ((List (Int × (Int × (Int × (Int × Int))))) × ((List Int) × ((List Int) × ((List Int) × ((List Bool) × (Unit × ((List Int) × ((Int × (Unit × (Unit × (Unit × (List Int))))) × ((List (Int × (Int × (Int × (Int × Int))))) × ((List Int) × ((List Int) × (Int × (Int × (Int × (Int × Int))))))))))))))))))))))) =>
          (rd t47_3 t56).bind fun _ =>
          (rd t47_3 t56).bind fun _ =>
          (if room (List.length o9_3 + List.length [o12_2]) 40 then some () else none).bind fun _ =>
          some (c_8, (), (), (), (), o0_7, o1_7, o2_7, o3_7, o4_7, t20_7, (), (List.set t47_3 (Int.toNat t56) (List.length o9_3 : Int)), (o8_3.1, o8_3.2.1, o8_3.2.2), (o9_3 ++ [o12_2]), o10_3, o11_3)) : Option ((Int × ((List (Int × (Int × (Int × (Int × Int))))) × ((List Int) × ((List Int) × (List Int))))) × (Unit × (Unit × (Unit × (Unit × ((Int × (Unit × (Unit × (Unit × Unit)))) × ((List (Int × (Int × (Int × (Int × Int))))) × ((List Int) × ((List Int) × ((List Int) × ((List Bool) × (Unit × ((List Int) × ((Int × (Unit × (Unit × (Unit × (List Int))))) × ((List (Int × (Int × (Int × (Int × Int))))) × ((List Int) × (List Int)))))))))))))))))) fun ((c_9, _, _, _, _, o0_8, o1_8, o2_8, o3_8, o4_8, t20_8, _, t47_5, o8_4, o9_4, o10_4, o11_4) : ((Int × ((List (Int × (Int × (Int × (Int × Int))))) × ((List Int) × ((List Int) × (List Int))))) × (Unit × (Unit × (Unit × (Unit × ((Int × (Unit × (Unit × (Unit × Unit)))) × ((List (Int × (Int × (Int × (Int × Int))))) × ((List Int) × ((List Int) × ((List Int) × ((List Bool) × (Unit × ((List Int) × ((Int × (Unit × (Unit × (Unit × (List Int))))) × ((List (Int × (Int × (Int × (Int × Int))))) × ((List Int) × (List Int)))))))))))))))))) =>
      some (Sum.inl (c_9, (), (), (), (), (w64 (t56 + 1)), o0_8, o1_8, o2_8, o3_8, o4_8, t20_8, (), t47_5, o8_4, o9_4, o10_4, o11_4)))
      (some (Sum.inr (c_5, (), (), (), o0_4, o1_4, o2_4, o3_4, o4_4, t47, o8, o9, o10, o11)))
def swept110.l3 (k : Nat) (c_10 : (Int × ((List (Int × (Int × (Int × (Int × Int))))) × ((List Int) × ((List Int) × (List Int)))))) : ((Int × ((List (Int × (Int × (Int × (Int × Int))))) × ((List Int) × ((List Int) × (List Int))))) × (Unit × (Unit × (Unit × (Int × ((Int × (Unit × (Unit × (Unit × Unit)))) × ((List (Int × (Int × (Int × (Int × Int))))) × ((List Int) × ((List Int) × ((List Int) × ((List Int) × ((Int × (Unit × (Unit × (Unit × (List Int))))) × ((List (Int × (Int × (Int × (Int × Int))))) × ((List Int) × (List Int))))))))))))))) → Option (((Int × ((List (Int × (Int × (Int × (Int × Int))))) × ((List Int) × ((List Int) × (List Int))))) × (Unit × (Unit × (Unit × (Int × ((Int × (Unit × (Unit × (Unit × Unit)))) × ((List (Int × (Int × (Int × (Int × Int))))) × ((List Int) × ((List Int) × ((List Int) × ((List Int) × ((Int × (Unit × (Unit × (Unit × (List Int))))) × ((List (Int × (Int × (Int × (Int × Int))))) × ((List Int) × (List Int))))))))))))))) ⊕ ((Int × ((List (Int × (Int × (Int × (Int × Int))))) × ((List Int) × ((List Int) × (List Int))))) × (Unit × (Unit × (Unit × ((Int × (Unit × (Unit × (Unit × Unit)))) × ((List (Int × (Int × (Int × (Int × Int))))) × ((List Int) × ((List Int) × ((List Int) × ((List Int) × ((Int × (Unit × (Unit × (Unit × (List Int))))) × ((List (Int × (Int × (Int × (Int × Int))))) × ((List Int) × (List Int)))))))))))))))
  | (c_11, _, _, _, t109, o0_10, o1_10, o2_10, o3_10, o4_10, t47_7, o8_6, o9_6, o10_6, o11_6) =>
    cond (decide (t109 < (List.length c_10.2.2.1 : Int)))
      ((rd c_10.2.2.1 t109).bind fun t111 =>
      (rd t47_7 t111).bind fun _ =>
      (rd t47_7 t111).bind fun t118 =>
      (if room (List.length o10_6 + List.length ([t118] : List Int)) 8 then some () else none).bind fun _ =>
      some (Sum.inl (c_11, (), (), (), (w64 (t109 + 1)), o0_10, o1_10, o2_10, o3_10, o4_10, t47_7, (o8_6.1, o8_6.2.1, o8_6.2.2.1, o8_6.2.2.2), o9_6, (o10_6 ++ ([t118] : List Int)), o11_6)))
      (some (Sum.inr (c_11, (), (), (), o0_10, o1_10, o2_10, o3_10, o4_10, t47_7, o8_6, o9_6, o10_6, o11_6)))
def swept110.l4 (k : Nat) (c_12 : (Int × ((List (Int × (Int × (Int × (Int × Int))))) × ((List Int) × ((List Int) × (List Int)))))) : (Unit × (Unit × (Unit × (Int × ((Int × (Unit × (Unit × (Unit × Unit)))) × ((List (Int × (Int × (Int × (Int × Int))))) × ((List Int) × ((List Int) × ((List Int) × ((List Int) × ((Int × (Unit × (Unit × (Unit × (List Int))))) × ((List (Int × (Int × (Int × (Int × Int))))) × ((List Int) × (List Int)))))))))))))) → Option ((Unit × (Unit × (Unit × (Int × ((Int × (Unit × (Unit × (Unit × Unit)))) × ((List (Int × (Int × (Int × (Int × Int))))) × ((List Int) × ((List Int) × ((List Int) × ((List Int) × ((Int × (Unit × (Unit × (Unit × (List Int))))) × ((List (Int × (Int × (Int × (Int × Int))))) × ((List Int) × (List Int)))))))))))))) ⊕ (Unit × (Unit × ((Int × (Unit × (Unit × (Unit × Unit)))) × ((List (Int × (Int × (Int × (Int × Int))))) × ((List Int) × ((List Int) × ((List Int) × ((Int × (Unit × (Unit × (Unit × (List Int))))) × ((List (Int × (Int × (Int × (Int × Int))))) × ((List Int) × (List Int))))))))))))
  | (_, _, _, t126, o0_12, o1_12, o2_12, o3_12, o4_12, t47_9, o8_8, o9_8, o10_8, o11_8) =>
    cond (decide (t126 < (List.length c_12.2.2.2.1 : Int)))
      ((rd c_12.2.2.2.1 t126).bind fun t128 =>
      (rd t47_9 t128).bind fun _ =>
      (rd t47_9 t128).bind fun t135 =>
      (if room (List.length o11_8 + List.length ([t135] : List Int)) 8 then some () else none).bind fun _ =>
      some (Sum.inl ((), (), (), (w64 (t126 + 1)), o0_12, o1_12, o2_12, o3_12, o4_12, t47_9, (o8_8.1, o8_8.2.1, o8_8.2.2.1, o8_8.2.2.2.1, o8_8.2.2.2.2), o9_8, o10_8, (o11_8 ++ ([t135] : List Int)))))
      (some (Sum.inr ((), (), o0_12, o1_12, o2_12, o3_12, o4_12, o8_8, o9_8, o10_8, o11_8)))
def swept110 (k : Nat) (c : (Int × ((List (Int × (Int × (Int × (Int × Int))))) × ((List Int) × ((List Int) × (List Int)))))) : Option ((Int × ((List (Int × (Int × (Int × (Int × Int))))) × ((List Int) × ((List Int) × (List Int))))) × Unit) :=
  (if 0 ≤ (List.length c.2.1 : Int) ∧ (List.length c.2.1 : Int) ≤ (List.length c.2.1 : Int) ∧ (List.length c.2.1 : Int) * 1 ≤ 140737488355328 then some () else none).bind fun _ =>
  Option.bind
    (loopN (swept110.l0 k c) k (c, (), (), (), 0, (0, (), (), (), ()), [], [], [], [], (List.replicate (Int.toNat (List.length c.2.1 : Int)) false), (), (), c, (), ()) : Option ((Int × ((List (Int × (Int × (Int × (Int × Int))))) × ((List Int) × ((List Int) × (List Int))))) × (Unit × (Unit × (Unit × ((Int × (Unit × (Unit × (Unit × Unit)))) × ((List (Int × (Int × (Int × (Int × Int))))) × ((List Int) × ((List Int) × ((List Int) × ((List Bool) × (Unit × (Unit × ((Int × ((List (Int × (Int × (Int × (Int × Int))))) × ((List Int) × ((List Int) × (List Int))))) × (Unit × Unit))))))))))))))) fun ((c_2, _, _, _, o0_1, o1_1, o2_1, o3_1, o4_1, t20_1, _, o7_1) : ((Int × ((List (Int × (Int × (Int × (Int × Int))))) × ((List Int) × ((List Int) × (List Int))))) × (Unit × (Unit × (Unit × ((Int × (Unit × (Unit × (Unit × Unit)))) × ((List (Int × (Int × (Int × (Int × Int))))) × ((List Int) × ((List Int) × ((List Int) × ((List Bool) × (Unit × (Unit × ((Int × ((List (Int × (Int × (Int × (Int × Int))))) × ((List Int) × ((List Int) × (List Int))))) × (Unit × Unit))))))))))))))) =>
  Option.bind
    (loopN (swept110.l1 k c_2) k (c_2, (), (), (), 0, o0_1, o1_1, o2_1, o3_1, o4_1, t20_1, (), o7_1) : Option ((Int × ((List (Int × (Int × (Int × (Int × Int))))) × ((List Int) × ((List Int) × (List Int))))) × (Unit × (Unit × ((Int × (Unit × (Unit × (Unit × Unit)))) × ((List (Int × (Int × (Int × (Int × Int))))) × ((List Int) × ((List Int) × ((List Int) × ((List Bool) × Unit)))))))))) fun ((c_4, _, _, o0_3, o1_3, o2_3, o3_3, o4_3, t20_3, _) : ((Int × ((List (Int × (Int × (Int × (Int × Int))))) × ((List Int) × ((List Int) × (List Int))))) × (Unit × (Unit × ((Int × (Unit × (Unit × (Unit × Unit)))) × ((List (Int × (Int × (Int × (Int × Int))))) × ((List Int) × ((List Int) × ((List Int) × ((List Bool) × Unit)))))))))) =>
  (if 0 ≤ (List.length c_4.2.1 : Int) ∧ (List.length c_4.2.1 : Int) ≤ (List.length c_4.2.1 : Int) ∧ (List.length c_4.2.1 : Int) * 8 ≤ 140737488355328 then some () else none).bind fun _ =>
  Option.bind
    (loopN (swept110.l2 k c_4) k (c_4, (), (), (), (), 0, o0_3, o1_3, o2_3, o3_3, o4_3, t20_3, (), (List.replicate (Int.toNat (List.length c_4.2.1 : Int)) 0), (c_4.1, (), (), (), c_4.2.2.2.2), [], [], []) : Option ((Int × ((List (Int × (Int × (Int × (Int × Int))))) × ((List Int) × ((List Int) × (List Int))))) × (Unit × (Unit × (Unit × ((Int × (Unit × (Unit × (Unit × Unit)))) × ((List (Int × (Int × (Int × (Int × Int))))) × ((List Int) × ((List Int) × ((List Int) × ((List Int) × ((Int × (Unit × (Unit × (Unit × (List Int))))) × ((List (Int × (Int × (Int × (Int × Int))))) × ((List Int) × (List Int))))))))))))))) fun ((c_10, _, _, _, o0_9, o1_9, o2_9, o3_9, o4_9, t47_6, o8_5, o9_5, o10_5, o11_5) : ((Int × ((List (Int × (Int × (Int × (Int × Int))))) × ((List Int) × ((List Int) × (List Int))))) × (Unit × (Unit × (Unit × ((Int × (Unit × (Unit × (Unit × Unit)))) × ((List (Int × (Int × (Int × (Int × Int))))) × ((List Int) × ((List Int) × ((List Int) × ((List Int) × ((Int × (Unit × (Unit × (Unit × (List Int))))) × ((List (Int × (Int × (Int × (Int × Int))))) × ((List Int) × (List Int))))))))))))))) =>
  Option.bind
    (loopN (swept110.l3 k c_10) k (c_10, (), (), (), 0, o0_9, o1_9, o2_9, o3_9, o4_9, t47_6, o8_5, o9_5, o10_5, o11_5) : Option ((Int × ((List (Int × (Int × (Int × (Int × Int))))) × ((List Int) × ((List Int) × (List Int))))) × (Unit × (Unit × (Unit × ((Int × (Unit × (Unit × (Unit × Unit)))) × ((List (Int × (Int × (Int × (Int × Int))))) × ((List Int) × ((List Int) × ((List Int) × ((List Int) × ((Int × (Unit × (Unit × (Unit × (List Int))))) × ((List (Int × (Int × (Int × (Int × Int))))) × ((List Int) × (List Int))))))))))))))) fun ((c_12, _, _, _, o0_11, o1_11, o2_11, o3_11, o4_11, t47_8, o8_7, o9_7, o10_7, o11_7) : ((Int × ((List (Int × (Int × (Int × (Int × Int))))) × ((List Int) × ((List Int) × (List Int))))) × (Unit × (Unit × (Unit × ((Int × (Unit × (Unit × (Unit × Unit)))) × ((List (Int × (Int × (Int × (Int × Int))))) × ((List Int) × ((List Int) × ((List Int) × ((List Int) × ((Int × (Unit × (Unit × (Unit × (List Int))))) × ((List (Int × (Int × (Int × (Int × Int))))) × ((List Int) × (List Int))))))))))))))) =>
  Option.bind
    (loopN (swept110.l4 k c_12) k ((), (), (), 0, o0_11, o1_11, o2_11, o3_11, o4_11, t47_8, o8_7, o9_7, o10_7, o11_7) : Option (Unit × (Unit × ((Int × (Unit × (Unit × (Unit × Unit)))) × ((List (Int × (Int × (Int × (Int × Int))))) × ((List Int) × ((List Int) × ((List Int) × ((Int × (Unit × (Unit × (Unit × (List Int))))) × ((List (Int × (Int × (Int × (Int × Int))))) × ((List Int) × (List Int)))))))))))) fun ((_, _, _, _, _, _, _, o8_9, o9_9, o10_9, o11_9) : (Unit × (Unit × ((Int × (Unit × (Unit × (Unit × Unit)))) × ((List (Int × (Int × (Int × (Int × Int))))) × ((List Int) × ((List Int) × ((List Int) × ((Int × (Unit × (Unit × (Unit × (List Int))))) × ((List (Int × (Int × (Int × (Int × Int))))) × ((List Int) × (List Int)))))))))))) =>
  some ((o8_9.1, o9_9, o10_9, o11_9, o8_9.2.2.2.2), ())
def swept110.A : Ann := { conds := [(4456469, ⟨[(1, .fp (.st (.pair (.int .i64) (.pair (.sl (.st (.pair (.int .i64) (.pair (.int .i64) (.pair (.int .i64) (.pair (.int .i64) (.int .i64))))))) (.pair (.sl (.int .i64)) (.pair (.sl (.int .i64)) (.sl (.int .i64)))))))), (2, .ptr 0 []), (3, .ptr 6 []), (9, .ms 7), (10, .ptr 8 []), (12, .ptr 12 [])], [(0, .var (.st (.pair (.int .i64) (.pair (.ms 1) (.pair (.ms 2) (.pair (.ms 3) (.ms 4))))))), (1, .row (.st (.pair (.int .i64) (.pair (.int .i64) (.pair (.int .i64) (.pair (.int .i64) (.int .i64))))))), (2, .row (.int .i64)), (3, .row (.int .i64)), (4, .row (.int .i64)), (5, .row .bool), (6, .var (.ms 5)), (7, .row (.int .i64)), (8, .var (.st (.pair (.int .i64) (.pair (.ms 9) (.pair (.ms 10) (.pair (.ms 11) (.sl (.int .i64)))))))), (9, .row (.st (.pair (.int .i64) (.pair (.int .i64) (.pair (.int .i64) (.pair (.int .i64) (.int .i64))))))), (10, .row (.int .i64)), (11, .row (.int .i64)), (12, .var (.st (.pair (.int .i64) (.pair (.int .i64) (.pair (.int .i64) (.pair (.int .i64) (.int .i64)))))))], 13, [], 37188636052598456057856⟩), (5046295, ⟨[(1, .fp (.st (.pair (.int .i64) (.pair (.sl (.st (.pair (.int .i64) (.pair (.int .i64) (.pair (.int .i64) (.pair (.int .i64) (.int .i64))))))) (.pair (.sl (.int .i64)) (.pair (.sl (.int .i64)) (.sl (.int .i64)))))))), (2, .ptr 0 []), (3, .ptr 6 []), (9, .ms 7), (10, .ptr 8 []), (12, .ptr 12 [])], [(0, .var (.st (.pair (.int .i64) (.pair (.ms 1) (.pair (.ms 2) (.pair (.ms 3) (.ms 4))))))), (1, .row (.st (.pair (.int .i64) (.pair (.int .i64) (.pair (.int .i64) (.pair (.int .i64) (.int .i64))))))), (2, .row (.int .i64)), (3, .row (.int .i64)), (4, .row (.int .i64)), (5, .row .bool), (6, .var (.ms 5)), (7, .row (.int .i64)), (8, .var (.st (.pair (.int .i64) (.pair (.ms 9) (.pair (.ms 10) (.pair (.ms 11) (.sl (.int .i64)))))))), (9, .row (.st (.pair (.int .i64) (.pair (.int .i64) (.pair (.int .i64) (.pair (.int .i64) (.int .i64))))))), (10, .row (.int .i64)), (11, .row (.int .i64)), (12, .var (.st (.pair (.int .i64) (.pair (.int .i64) (.pair (.int .i64) (.pair (.int .i64) (.int .i64)))))))], 13, [], 19040581658930409501622272⟩), (5636121, ⟨[(1, .fp (.st (.pair (.int .i64) (.pair (.sl (.st (.pair (.int .i64) (.pair (.int .i64) (.pair (.int .i64) (.pair (.int .i64) (.int .i64))))))) (.pair (.sl (.int .i64)) (.pair (.sl (.int .i64)) (.sl (.int .i64)))))))), (2, .ptr 0 []), (3, .ptr 6 []), (9, .ms 7), (10, .ptr 8 []), (12, .ptr 12 [])], [(0, .var (.st (.pair (.int .i64) (.pair (.ms 1) (.pair (.ms 2) (.pair (.ms 3) (.ms 4))))))), (1, .row (.st (.pair (.int .i64) (.pair (.int .i64) (.pair (.int .i64) (.pair (.int .i64) (.int .i64))))))), (2, .row (.int .i64)), (3, .row (.int .i64)), (4, .row (.int .i64)), (5, .row .bool), (6, .var (.ms 5)), (7, .row (.int .i64)), (8, .var (.st (.pair (.int .i64) (.pair (.ms 9) (.pair (.ms 10) (.pair (.ms 11) (.sl (.int .i64)))))))), (9, .row (.st (.pair (.int .i64) (.pair (.int .i64) (.pair (.int .i64) (.pair (.int .i64) (.int .i64))))))), (10, .row (.int .i64)), (11, .row (.int .i64)), (12, .var (.st (.pair (.int .i64) (.pair (.int .i64) (.pair (.int .i64) (.pair (.int .i64) (.int .i64)))))))], 13, [], 9748777809372369664830603264⟩)], blocks := [(0, ⟨[(1, .fp (.st (.pair (.int .i64) (.pair (.sl (.st (.pair (.int .i64) (.pair (.int .i64) (.pair (.int .i64) (.pair (.int .i64) (.int .i64))))))) (.pair (.sl (.int .i64)) (.pair (.sl (.int .i64)) (.sl (.int .i64)))))))), (2, .ptr 0 []), (3, .ptr 6 []), (4, .ptr 7 [])], [(0, .var (.st (.pair (.int .i64) (.pair (.ms 1) (.pair (.ms 2) (.pair (.ms 3) (.ms 4))))))), (1, .row (.st (.pair (.int .i64) (.pair (.int .i64) (.pair (.int .i64) (.pair (.int .i64) (.int .i64))))))), (2, .row (.int .i64)), (3, .row (.int .i64)), (4, .row (.int .i64)), (5, .row .bool), (6, .var (.ms 5)), (7, .var (.fn 137 (.pair (.ptr 6 []) (.pair (.fp (.st (.pair (.int .i64) (.pair (.sl (.st (.pair (.int .i64) (.pair (.int .i64) (.pair (.int .i64) (.pair (.int .i64) (.int .i64))))))) (.pair (.sl (.int .i64)) (.pair (.sl (.int .i64)) (.sl (.int .i64)))))))) (.pair (.ptr 7 []) .unit)))))], 8, [], 8556380224⟩), (2, ⟨[(1, .fp (.st (.pair (.int .i64) (.pair (.sl (.st (.pair (.int .i64) (.pair (.int .i64) (.pair (.int .i64) (.pair (.int .i64) (.int .i64))))))) (.pair (.sl (.int .i64)) (.pair (.sl (.int .i64)) (.sl (.int .i64)))))))), (2, .ptr 0 []), (3, .ptr 6 [])], [(0, .var (.st (.pair (.int .i64) (.pair (.ms 1) (.pair (.ms 2) (.pair (.ms 3) (.ms 4))))))), (1, .row (.st (.pair (.int .i64) (.pair (.int .i64) (.pair (.int .i64) (.pair (.int .i64) (.int .i64))))))), (2, .row (.int .i64)), (3, .row (.int .i64)), (4, .row (.int .i64)), (5, .row .bool), (6, .var (.ms 5))], 7, [], 17523466567936⟩), (4, ⟨[(1, .fp (.st (.pair (.int .i64) (.pair (.sl (.st (.pair (.int .i64) (.pair (.int .i64) (.pair (.int .i64) (.pair (.int .i64) (.int .i64))))))) (.pair (.sl (.int .i64)) (.pair (.sl (.int .i64)) (.sl (.int .i64)))))))), (2, .ptr 0 []), (9, .ms 7), (10, .ptr 8 [])], [(0, .var (.st (.pair (.int .i64) (.pair (.ms 1) (.pair (.ms 2) (.pair (.ms 3) (.ms 4))))))), (1, .row (.st (.pair (.int .i64) (.pair (.int .i64) (.pair (.int .i64) (.pair (.int .i64) (.int .i64))))))), (2, .row (.int .i64)), (3, .row (.int .i64)), (4, .row (.int .i64)), (7, .row (.int .i64)), (8, .var (.st (.pair (.int .i64) (.pair (.ms 9) (.pair (.ms 10) (.pair (.ms 11) (.sl (.int .i64)))))))), (9, .row (.st (.pair (.int .i64) (.pair (.int .i64) (.pair (.int .i64) (.pair (.int .i64) (.int .i64))))))), (10, .row (.int .i64)), (11, .row (.int .i64))], 12, [], 81129638414606609638194967222272⟩), (5, ⟨[(1, .fp (.st (.pair (.int .i64) (.pair (.sl (.st (.pair (.int .i64) (.pair (.int .i64) (.pair (.int .i64) (.pair (.int .i64) (.int .i64))))))) (.pair (.sl (.int .i64)) (.pair (.sl (.int .i64)) (.sl (.int .i64)))))))), (2, .ptr 0 []), (3, .ptr 6 []), (9, .ms 7), (10, .ptr 8 [])], [(0, .var (.st (.pair (.int .i64) (.pair (.ms 1) (.pair (.ms 2) (.pair (.ms 3) (.ms 4))))))), (1, .row (.st (.pair (.int .i64) (.pair (.int .i64) (.pair (.int .i64) (.pair (.int .i64) (.int .i64))))))), (2, .row (.int .i64)), (3, .row (.int .i64)), (4, .row (.int .i64)), (5, .row .bool), (6, .var (.ms 5)), (7, .row (.int .i64)), (8, .var (.st (.pair (.int .i64) (.pair (.ms 9) (.pair (.ms 10) (.pair (.ms 11) (.sl (.int .i64)))))))), (9, .row (.st (.pair (.int .i64) (.pair (.int .i64) (.pair (.int .i64) (.pair (.int .i64) (.int .i64))))))), (10, .row (.int .i64)), (11, .row (.int .i64))], 12, [], 40564819207303052617518350866432⟩), (6, ⟨[(1, .fp (.st (.pair (.int .i64) (.pair (.sl (.st (.pair (.int .i64) (.pair (.int .i64) (.pair (.int .i64) (.pair (.int .i64) (.int .i64))))))) (.pair (.sl (.int .i64)) (.pair (.sl (.int .i64)) (.sl (.int .i64)))))))), (2, .ptr 0 []), (9, .ms 7), (10, .ptr 8 [])], [(0, .var (.st (.pair (.int .i64) (.pair (.ms 1) (.pair (.ms 2) (.pair (.ms 3) (.ms 4))))))), (1, .row (.st (.pair (.int .i64) (.pair (.int .i64) (.pair (.int .i64) (.pair (.int .i64) (.int .i64))))))), (2, .row (.int .i64)), (3, .row (.int .i64)), (4, .row (.int .i64)), (7, .row (.int .i64)), (8, .var (.st (.pair (.int .i64) (.pair (.ms 9) (.pair (.ms 10) (.pair (.ms 11) (.sl (.int .i64)))))))), (9, .row (.st (.pair (.int .i64) (.pair (.int .i64) (.pair (.int .i64) (.pair (.int .i64) (.int .i64))))))), (10, .row (.int .i64)), (11, .row (.int .i64))], 12, [], 10633174929172010129776890170201620480⟩), (8, ⟨[(2, .ptr 0 []), (10, .ptr 8 [])], [(0, .var (.st (.pair (.int .i64) (.pair (.ms 1) (.pair (.ms 2) (.pair (.ms 3) (.ms 4))))))), (1, .row (.st (.pair (.int .i64) (.pair (.int .i64) (.pair (.int .i64) (.pair (.int .i64) (.int .i64))))))), (2, .row (.int .i64)), (3, .row (.int .i64)), (4, .row (.int .i64)), (8, .var (.st (.pair (.int .i64) (.pair (.ms 9) (.pair (.ms 10) (.pair (.ms 11) (.sl (.int .i64)))))))), (9, .row (.st (.pair (.int .i64) (.pair (.int .i64) (.pair (.int .i64) (.pair (.int .i64) (.int .i64))))))), (10, .row (.int .i64)), (11, .row (.int .i64))], 12, [], 1393711504316433711730116548388664652136448⟩)], loops := [(5, ⟨[(1, .fp (.st (.pair (.int .i64) (.pair (.sl (.st (.pair (.int .i64) (.pair (.int .i64) (.pair (.int .i64) (.pair (.int .i64) (.int .i64))))))) (.pair (.sl (.int .i64)) (.pair (.sl (.int .i64)) (.sl (.int .i64)))))))), (2, .ptr 0 []), (3, .ptr 6 []), (4, .ptr 7 []), (25, .int .i64)], [(0, .var (.st (.pair (.int .i64) (.pair (.ms 1) (.pair (.ms 2) (.pair (.ms 3) (.ms 4))))))), (1, .row (.st (.pair (.int .i64) (.pair (.int .i64) (.pair (.int .i64) (.pair (.int .i64) (.int .i64))))))), (2, .row (.int .i64)), (3, .row (.int .i64)), (4, .row (.int .i64)), (5, .row .bool), (6, .var (.ms 5)), (7, .var (.fn 137 (.pair (.ptr 6 []) (.pair (.fp (.st (.pair (.int .i64) (.pair (.sl (.st (.pair (.int .i64) (.pair (.int .i64) (.pair (.int .i64) (.pair (.int .i64) (.int .i64))))))) (.pair (.sl (.int .i64)) (.pair (.sl (.int .i64)) (.sl (.int .i64)))))))) (.pair (.ptr 7 []) .unit)))))], 8, [], 8556380224⟩), (10, ⟨[(1, .fp (.st (.pair (.int .i64) (.pair (.sl (.st (.pair (.int .i64) (.pair (.int .i64) (.pair (.int .i64) (.pair (.int .i64) (.int .i64))))))) (.pair (.sl (.int .i64)) (.pair (.sl (.int .i64)) (.sl (.int .i64)))))))), (2, .ptr 0 []), (3, .ptr 6 []), (4, .ptr 7 []), (36, .int .i64)], [(0, .var (.st (.pair (.int .i64) (.pair (.ms 1) (.pair (.ms 2) (.pair (.ms 3) (.ms 4))))))), (1, .row (.st (.pair (.int .i64) (.pair (.int .i64) (.pair (.int .i64) (.pair (.int .i64) (.int .i64))))))), (2, .row (.int .i64)), (3, .row (.int .i64)), (4, .row (.int .i64)), (5, .row .bool), (6, .var (.ms 5)), (7, .var (.fn 137 (.pair (.ptr 6 []) (.pair (.fp (.st (.pair (.int .i64) (.pair (.sl (.st (.pair (.int .i64) (.pair (.int .i64) (.pair (.int .i64) (.pair (.int .i64) (.int .i64))))))) (.pair (.sl (.int .i64)) (.pair (.sl (.int .i64)) (.sl (.int .i64)))))))) (.pair (.ptr 7 []) .unit)))))], 8, [], 17523466567936⟩), (17, ⟨[(1, .fp (.st (.pair (.int .i64) (.pair (.sl (.st (.pair (.int .i64) (.pair (.int .i64) (.pair (.int .i64) (.pair (.int .i64) (.int .i64))))))) (.pair (.sl (.int .i64)) (.pair (.sl (.int .i64)) (.sl (.int .i64)))))))), (2, .ptr 0 []), (3, .ptr 6 []), (9, .ms 7), (10, .ptr 8 []), (56, .int .i64)], [(0, .var (.st (.pair (.int .i64) (.pair (.ms 1) (.pair (.ms 2) (.pair (.ms 3) (.ms 4))))))), (1, .row (.st (.pair (.int .i64) (.pair (.int .i64) (.pair (.int .i64) (.pair (.int .i64) (.int .i64))))))), (2, .row (.int .i64)), (3, .row (.int .i64)), (4, .row (.int .i64)), (5, .row .bool), (6, .var (.ms 5)), (7, .row (.int .i64)), (8, .var (.st (.pair (.int .i64) (.pair (.ms 9) (.pair (.ms 10) (.pair (.ms 11) (.sl (.int .i64)))))))), (9, .row (.st (.pair (.int .i64) (.pair (.int .i64) (.pair (.int .i64) (.pair (.int .i64) (.int .i64))))))), (10, .row (.int .i64)), (11, .row (.int .i64))], 12, [], 81129638414606609638194967222272⟩), (30, ⟨[(1, .fp (.st (.pair (.int .i64) (.pair (.sl (.st (.pair (.int .i64) (.pair (.int .i64) (.pair (.int .i64) (.pair (.int .i64) (.int .i64))))))) (.pair (.sl (.int .i64)) (.pair (.sl (.int .i64)) (.sl (.int .i64)))))))), (2, .ptr 0 []), (9, .ms 7), (10, .ptr 8 []), (109, .int .i64)], [(0, .var (.st (.pair (.int .i64) (.pair (.ms 1) (.pair (.ms 2) (.pair (.ms 3) (.ms 4))))))), (1, .row (.st (.pair (.int .i64) (.pair (.int .i64) (.pair (.int .i64) (.pair (.int .i64) (.int .i64))))))), (2, .row (.int .i64)), (3, .row (.int .i64)), (4, .row (.int .i64)), (7, .row (.int .i64)), (8, .var (.st (.pair (.int .i64) (.pair (.ms 9) (.pair (.ms 10) (.pair (.ms 11) (.sl (.int .i64)))))))), (9, .row (.st (.pair (.int .i64) (.pair (.int .i64) (.pair (.int .i64) (.pair (.int .i64) (.int .i64))))))), (10, .row (.int .i64)), (11, .row (.int .i64))], 12, [], 10633174929172010129776890170201620480⟩), (35, ⟨[(2, .ptr 0 []), (9, .ms 7), (10, .ptr 8 []), (126, .int .i64)], [(0, .var (.st (.pair (.int .i64) (.pair (.ms 1) (.pair (.ms 2) (.pair (.ms 3) (.ms 4))))))), (1, .row (.st (.pair (.int .i64) (.pair (.int .i64) (.pair (.int .i64) (.pair (.int .i64) (.int .i64))))))), (2, .row (.int .i64)), (3, .row (.int .i64)), (4, .row (.int .i64)), (7, .row (.int .i64)), (8, .var (.st (.pair (.int .i64) (.pair (.ms 9) (.pair (.ms 10) (.pair (.ms 11) (.sl (.int .i64)))))))), (9, .row (.st (.pair (.int .i64) (.pair (.int .i64) (.pair (.int .i64) (.pair (.int .i64) (.int .i64))))))), (10, .row (.int .i64)), (11, .row (.int .i64))], 12, [], 1393711504316433711730116548388664652136448⟩)], keeps := [1], orders := [(32, [(0, .strong), (1, .strong), (2, .strong), (3, .strong), (4, .strong), (5, .strong), (6, .eff true), (7, .eff false), (8, .strong), (9, .eff false)]), (37, [(0, .strong), (1, .strong), (2, .strong), (3, .strong), (4, .strong), (5, .strong), (6, .eff true), (7, .eff false), (8, .strong), (9, .eff false)])], turns := [(0, [⟨0, [(1, .st (.pair (.int .i64) (.pair (.int .i64) (.pair (.int .i64) (.pair (.int .i64) (.int .i64)))))), (2, .int .i64), (3, .int .i64), (4, .int .i64)], .st (.pair (.int .i64) (.pair (.ms 1) (.pair (.ms 2) (.pair (.ms 3) (.ms 4)))))⟩]), (15, [⟨8, [(9, .st (.pair (.int .i64) (.pair (.int .i64) (.pair (.int .i64) (.pair (.int .i64) (.int .i64)))))), (10, .int .i64), (11, .int .i64)], .st (.pair (.int .i64) (.pair (.ms 9) (.pair (.ms 10) (.pair (.ms 11) (.sl (.int .i64))))))⟩])] }
def swept110.S : Sig := { f := 110, params := [.st (.pair (.int .i64) (.pair (.sl (.st (.pair (.int .i64) (.pair (.int .i64) (.pair (.int .i64) (.pair (.int .i64) (.int .i64))))))) (.pair (.sl (.int .i64)) (.pair (.sl (.int .i64)) (.sl (.int .i64))))))], objs := [], res := .st (.pair (.int .i64) (.pair (.sl (.st (.pair (.int .i64) (.pair (.int .i64) (.pair (.int .i64) (.pair (.int .i64) (.int .i64))))))) (.pair (.sl (.int .i64)) (.pair (.sl (.int .i64)) (.sl (.int .i64)))))), outs := [], fix := [], run := fun k ds os => swept110 k ds }
def swept110.G : List Sig := [swept1137.S]
theorem swept110.eq (k : Nat) : ∀ ds os, swept110.S.run k ds os = runF ⟨types, swept110.G, swept110.A, k, 0, []⟩ Try.f110 (codeOf Try.f110) swept110.S.params swept110.S.objs swept110.S.res swept110.S.outs ds os := by
  intro ds os; kernel_rfl
theorem swept110.dr : DrOk Try.prog swept110.A (codeOf Try.f110) := ⟨by kernel_rfl, by kernel_rfl⟩
theorem swept110.ok (k : Nat) : SoundAt Try.prog k swept110.S :=
  runF_sound (X := ⟨types, swept110.G, swept110.A, k, 0, []⟩) types_ok (mem_all (⟨swept1137.ok k, trivial⟩)) (fn := Try.f110) (c := codeOf Try.f110) rfl (by kernel_rfl) rfl rfl swept110.dr (swept110.eq k)
end Go.Proofs.Ytjbdhaenakcclaa.St

/- Go functions as plain Lean functions, and their contracts. -/
set_option linter.unusedVariables false
set_option maxRecDepth 100000
noncomputable section
namespace Go.Proofs.Ytjbdhaenakcclaa.St
open Go Go.Proofs.Ytjbdhaenakcclaa.Gp
def Of54.l0 (k : Nat) (t : (Int × (Int × (List (List (Int × Int)))))) : ((Int × (Int × (List (List (Int × Int))))) × (Unit × (Unit × (Unit × (Int × ((Int × (Unit × (Unit × (Unit × Unit)))) × ((List (Int × (Int × (Int × (Int × Int))))) × ((List Int) × ((List Int) × ((List Int) × ((List ((Int × (Int × (Int × (Int × Int)))) × Int)) × ((Unit × Unit) × ((List (Int × (Int × (Int × (Int × Int))))) × (List Int)))))))))))))) → Option (((Int × (Int × (List (List (Int × Int))))) × (Unit × (Unit × (Unit × (Int × ((Int × (Unit × (Unit × (Unit × Unit)))) × ((List (Int × (Int × (Int × (Int × Int))))) × ((List Int) × ((List Int) × ((List Int) × ((List ((Int × (Int × (Int × (Int × Int)))) × Int)) × ((Unit × Unit) × ((List (Int × (Int × (Int × (Int × Int))))) × (List Int)))))))))))))) ⊕ ((Int × (Int × (List (List (Int × Int))))) × (Unit × (Unit × (Unit × ((Int × (Unit × (Unit × (Unit × Unit)))) × ((List (Int × (Int × (Int × (Int × Int))))) × ((List Int) × ((List Int) × ((List Int) × ((List ((Int × (Int × (Int × (Int × Int)))) × Int)) × ((Unit × Unit) × ((List (Int × (Int × (Int × (Int × Int))))) × (List Int))))))))))))))
  | (t_1, _, _, _, t32, o0, o1, o2, o3, o4, o5, o6, o7, o9) =>
    cond (decide (t32 < t.1))
      ((put107 k () (1, 0, 0, 0, t32) ((), ()) o7 o5).bind fun t39 =>
      (if room (List.length o9 + List.length ([t39.1] : List Int)) 8 then some () else none).bind fun _ =>
      some (Sum.inl (t_1, (), (), (), (w64 (t32 + 1)), o0, o1, o2, o3, o4, t39.2.2.2, (t39.2.1.1, t39.2.1.2), t39.2.2.1, (o9 ++ ([t39.1] : List Int)))))
      (some (Sum.inr (t_1, (), (), (), o0, o1, o2, o3, o4, o5, o6, o7, o9)))
def Of54.l1 (k : Nat) (t29 : (Int × Unit)) : ((Int × (Int × (List (List (Int × Int))))) × (Unit × (Unit × (Unit × (Int × ((Int × (Unit × (Unit × (Unit × Unit)))) × ((List (Int × (Int × (Int × (Int × Int))))) × ((List Int) × ((List Int) × ((List Int) × ((List ((Int × (Int × (Int × (Int × Int)))) × Int)) × ((Unit × Unit) × ((List (Int × (Int × (Int × (Int × Int))))) × (List Int)))))))))))))) → Option (((Int × (Int × (List (List (Int × Int))))) × (Unit × (Unit × (Unit × (Int × ((Int × (Unit × (Unit × (Unit × Unit)))) × ((List (Int × (Int × (Int × (Int × Int))))) × ((List Int) × ((List Int) × ((List Int) × ((List ((Int × (Int × (Int × (Int × Int)))) × Int)) × ((Unit × Unit) × ((List (Int × (Int × (Int × (Int × Int))))) × (List Int)))))))))))))) ⊕ ((Int × (Int × (List (List (Int × Int))))) × (Unit × (Unit × (Unit × ((Int × (Unit × (Unit × (Unit × Unit)))) × ((List (Int × (Int × (Int × (Int × Int))))) × ((List Int) × ((List Int) × ((List Int) × ((List ((Int × (Int × (Int × (Int × Int)))) × Int)) × ((Unit × Unit) × ((List (Int × (Int × (Int × (Int × Int))))) × (List Int))))))))))))))
  | (t_3, _, _, _, t44, o0_2, o1_2, o2_2, o3_2, o4_2, o5_2, o6_2, o7_2, o9_2) =>
    cond (decide (t44 < t29.1))
      ((put107 k () (2, 0, 0, 0, t44) ((), ()) o7_2 o5_2).bind fun t51 =>
      (if room (List.length o9_2 + List.length ([t51.1] : List Int)) 8 then some () else none).bind fun _ =>
      some (Sum.inl (t_3, (), (), (), (w64 (t44 + 1)), o0_2, o1_2, o2_2, o3_2, o4_2, t51.2.2.2, (t51.2.1.1, t51.2.1.2), t51.2.2.1, (o9_2 ++ ([t51.1] : List Int)))))
      (some (Sum.inr (t_3, (), (), (), o0_2, o1_2, o2_2, o3_2, o4_2, o5_2, o6_2, o7_2, o9_2)))
def Of54.l2 (k : Nat) (t63 : Int) (t68 : Int) : ((Int × (Int × (List (List (Int × Int))))) × (Unit × (Unit × (Unit × (((Int × (Int × (List (List (Int × Int))))) × Unit) × (Unit × (Unit × (Int × ((Int × (Unit × (Unit × (Unit × Unit)))) × ((List (Int × (Int × (Int × (Int × Int))))) × ((List Int) × ((List Int) × ((List Int) × ((List ((Int × (Int × (Int × (Int × Int)))) × Int)) × ((Unit × Unit) × ((List (Int × (Int × (Int × (Int × Int))))) × ((List Int) × ((Int × (Unit × (Unit × (Unit × Unit)))) × ((List (Int × (Int × (Int × (Int × Int))))) × ((List Int) × ((List Int) × ((List Int) × (List Int))))))))))))))))))))))) → Option (((Int × (Int × (List (List (Int × Int))))) × (Unit × (Unit × (Unit × (((Int × (Int × (List (List (Int × Int))))) × Unit) × (Unit × (Unit × (Int × ((Int × (Unit × (Unit × (Unit × Unit)))) × ((List (Int × (Int × (Int × (Int × Int))))) × ((List Int) × ((List Int) × ((List Int) × ((List ((Int × (Int × (Int × (Int × Int)))) × Int)) × ((Unit × Unit) × ((List (Int × (Int × (Int × (Int × Int))))) × ((List Int) × ((Int × (Unit × (Unit × (Unit × Unit)))) × ((List (Int × (Int × (Int × (Int × Int))))) × ((List Int) × ((List Int) × ((List Int) × (List Int))))))))))))))))))))))) ⊕ ((Int × (Int × (List (List (Int × Int))))) × (Unit × (Unit × (Unit × (((Int × (Int × (List (List (Int × Int))))) × Unit) × (Unit × (Unit × ((Int × (Unit × (Unit × (Unit × Unit)))) × ((List (Int × (Int × (Int × (Int × Int))))) × ((List Int) × ((List Int) × ((List Int) × ((List ((Int × (Int × (Int × (Int × Int)))) × Int)) × ((Unit × Unit) × ((List (Int × (Int × (Int × (Int × Int))))) × ((List Int) × ((Int × (Unit × (Unit × (Unit × Unit)))) × ((List (Int × (Int × (Int × (Int × Int))))) × ((List Int) × ((List Int) × ((List Int) × (List Int)))))))))))))))))))))))
  | (t_6, _, _, _, row_1, _, _, t69, o0_5, o1_5, o2_5, o3_5, o4_5, o5_5, o6_5, o7_5, o9_5, o10_1, o11_1, o12_1, o13_1, o14_1, o17) =>
    cond (decide (t69 < t68))
      ((Of1108 k t69 row_1.1).bind fun t74 =>
      Option.bind
        (cond (decide (t63 < t_6.2.1))
          ((if t63 < 0 then none else some (shrI .i64 t74.1.1 t63)).bind fun t83 =>
          let t84 : Int := (ibits .and .i64 t83 1)
          (if room (List.length o17 + List.length ([t84] : List Int)) 8 then some () else none).bind fun _ =>
          some (t_6, (), (), (), row_1, (), (), o0_5, o1_5, o2_5, o3_5, o4_5, o5_5, o6_5, o7_5, o9_5, o10_1, o11_1, o12_1, o13_1, o14_1, (o17 ++ ([t84] : List Int))))
          (let t93 : Int := (w64 (t63 - t_6.2.1))
          (if t93 < 0 then none else some (shrI .i64 t74.1.2 t93)).bind fun t94 =>
          let t95 : Int := (ibits .and .i64 t94 1)
          (if room (List.length o17 + List.length ([t95] : List Int)) 8 then some () else none).bind fun _ =>
          some (t_6, (), (), (), row_1, (), (), o0_5, o1_5, o2_5, o3_5, o4_5, o5_5, o6_5, o7_5, o9_5, o10_1, o11_1, o12_1, o13_1, o14_1, (o17 ++ ([t95] : List Int)))) : Option ((Int × (Int × (List (List (Int × Int))))) × (Unit × (Unit × (Unit × (((Int × (Int × (List (List (Int × Int))))) × Unit) × (Unit × (Unit × ((Int × (Unit × (Unit × (Unit × Unit)))) × ((List (Int × (Int × (Int × (Int × Int))))) × ((List Int) × ((List Int) × ((List Int) × ((List ((Int × (Int × (Int × (Int × Int)))) × Int)) × ((Unit × Unit) × ((List (Int × (Int × (Int × (Int × Int))))) × ((List Int) × ((Int × (Unit × (Unit × (Unit × Unit)))) × ((List (Int × (Int × (Int × (Int × Int))))) × ((List Int) × ((List Int) × ((List Int) × (List Int))))))))))))))))))))))) fun ((t_7, _, _, _, row_2, _, _, o0_6, o1_6, o2_6, o3_6, o4_6, o5_6, o6_6, o7_6, o9_6, o10_2, o11_2, o12_2, o13_2, o14_2, o17_1) : ((Int × (Int × (List (List (Int × Int))))) × (Unit × (Unit × (Unit × (((Int × (Int × (List (List (Int × Int))))) × Unit) × (Unit × (Unit × ((Int × (Unit × (Unit × (Unit × Unit)))) × ((List (Int × (Int × (Int × (Int × Int))))) × ((List Int) × ((List Int) × ((List Int) × ((List ((Int × (Int × (Int × (Int × Int)))) × Int)) × ((Unit × Unit) × ((List (Int × (Int × (Int × (Int × Int))))) × ((List Int) × ((Int × (Unit × (Unit × (Unit × Unit)))) × ((List (Int × (Int × (Int × (Int × Int))))) × ((List Int) × ((List Int) × ((List Int) × (List Int))))))))))))))))))))))) =>
      some (Sum.inl (t_7, (), (), (), row_2, (), (), (w64 (t69 + 1)), o0_6, o1_6, o2_6, o3_6, o4_6, o5_6, o6_6, o7_6, o9_6, o10_2, o11_2, o12_2, o13_2, o14_2, o17_1)))
      (some (Sum.inr (t_6, (), (), (), row_1, (), (), o0_5, o1_5, o2_5, o3_5, o4_5, o5_5, o6_5, o7_5, o9_5, o10_1, o11_1, o12_1, o13_1, o14_1, o17)))
def Of54.l3 (k : Nat) (t62 : Int) : ((Int × (Int × (List (List (Int × Int))))) × (Unit × (Unit × (Unit × (((Int × (Int × (List (List (Int × Int))))) × Unit) × (Unit × (Int × ((Int × (Unit × (Unit × (Unit × Unit)))) × ((List (Int × (Int × (Int × (Int × Int))))) × ((List Int) × ((List Int) × ((List Int) × ((List ((Int × (Int × (Int × (Int × Int)))) × Int)) × ((Unit × Unit) × ((List (Int × (Int × (Int × (Int × Int))))) × ((List Int) × ((Int × (Unit × (Unit × (Unit × Unit)))) × ((List (Int × (Int × (Int × (Int × Int))))) × ((List Int) × ((List Int) × (List Int))))))))))))))))))))) → Option (((Int × (Int × (List (List (Int × Int))))) × (Unit × (Unit × (Unit × (((Int × (Int × (List (List (Int × Int))))) × Unit) × (Unit × (Int × ((Int × (Unit × (Unit × (Unit × Unit)))) × ((List (Int × (Int × (Int × (Int × Int))))) × ((List Int) × ((List Int) × ((List Int) × ((List ((Int × (Int × (Int × (Int × Int)))) × Int)) × ((Unit × Unit) × ((List (Int × (Int × (Int × (Int × Int))))) × ((List Int) × ((Int × (Unit × (Unit × (Unit × Unit)))) × ((List (Int × (Int × (Int × (Int × Int))))) × ((List Int) × ((List Int) × (List Int))))))))))))))))))))) ⊕ (Unit × (Unit × (Unit × ((Int × (Unit × (Unit × (Unit × Unit)))) × ((List (Int × (Int × (Int × (Int × Int))))) × ((List Int) × ((List Int) × ((List Int) × ((List ((Int × (Int × (Int × (Int × Int)))) × Int)) × ((Unit × Unit) × ((List (Int × (Int × (Int × (Int × Int))))) × ((Int × (Unit × (Unit × (Unit × Unit)))) × ((List (Int × (Int × (Int × (Int × Int))))) × ((List Int) × ((List Int) × (List Int)))))))))))))))))
  | (t_5, _, _, _, row, _, t63, o0_4, o1_4, o2_4, o3_4, o4_4, o5_4, o6_4, o7_4, o9_4, o10, o11, o12, o13, o14) =>
    cond (decide (t63 < t62))
      ((if (List.length o9_4 : Int) < 0 then none else some (shlI .i64 1 (List.length o9_4 : Int))).bind fun t68 =>
      Option.bind
        (loopN (Of54.l2 k t63 t68) k (t_5, (), (), (), row, (), (), 0, o0_4, o1_4, o2_4, o3_4, o4_4, o5_4, o6_4, o7_4, o9_4, o10, o11, o12, o13, o14, []) : Option ((Int × (Int × (List (List (Int × Int))))) × (Unit × (Unit × (Unit × (((Int × (Int × (List (List (Int × Int))))) × Unit) × (Unit × (Unit × ((Int × (Unit × (Unit × (Unit × Unit)))) × ((List (Int × (Int × (Int × (Int × Int))))) × ((List Int) × ((List Int) × ((List Int) × ((List ((Int × (Int × (Int × (Int × Int)))) × Int)) × ((Unit × Unit) × ((List (Int × (Int × (Int × (Int × Int))))) × ((List Int) × ((Int × (Unit × (Unit × (Unit × Unit)))) × ((List (Int × (Int × (Int × (Int × Int))))) × ((List Int) × ((List Int) × ((List Int) × (List Int))))))))))))))))))))))) fun ((t_8, _, _, _, row_3, _, _, o0_7, o1_7, o2_7, o3_7, o4_7, o5_7, _, o7_7, o9_7, o10_3, o11_3, o12_3, o13_3, o14_3, o17_2) : ((Int × (Int × (List (List (Int × Int))))) × (Unit × (Unit × (Unit × (((Int × (Int × (List (List (Int × Int))))) × Unit) × (Unit × (Unit × ((Int × (Unit × (Unit × (Unit × Unit)))) × ((List (Int × (Int × (Int × (Int × Int))))) × ((List Int) × ((List Int) × ((List Int) × ((List ((Int × (Int × (Int × (Int × Int)))) × Int)) × ((Unit × Unit) × ((List (Int × (Int × (Int × (Int × Int))))) × ((List Int) × ((Int × (Unit × (Unit × (Unit × Unit)))) × ((List (Int × (Int × (Int × (Int × Int))))) × ((List Int) × ((List Int) × ((List Int) × (List Int))))))))))))))))))))))) =>
      (tree109 k () o9_7 o17_2 ((), ()) o7_7 o5_7).bind fun t102 =>
      Option.bind
        (cond (decide (t63 < t_8.2.1))
          ((if room (List.length o12_3 + List.length ([t102.1] : List Int)) 8 then some () else none).bind fun _ =>
          some (t_8, (), (), (), row_3, (), o0_7, o1_7, o2_7, o3_7, o4_7, t102.2.2.2, (t102.2.1.1, t102.2.1.2), t102.2.2.1, o9_7, (o10_3.1, o10_3.2.1, o10_3.2.2.1, o10_3.2.2.2), o11_3, (o12_3 ++ ([t102.1] : List Int)), o13_3, o14_3))
          (Option.bind
            (let q_ : Option ((Int × (Int × (List (List (Int × Int))))) × (Unit × (Unit × (Unit × (((Int × (Int × (List (List (Int × Int))))) × Unit) × (Unit × ((Int × (Unit × (Unit × (Unit × Unit)))) × ((List (Int × (Int × (Int × (Int × Int))))) × ((List Int) × ((List Int) × ((List Int) × ((List ((Int × (Int × (Int × (Int × Int)))) × Int)) × ((Unit × Unit) × ((List (Int × (Int × (Int × (Int × Int))))) × ((List Int) × ((Int × (Unit × (Unit × (Unit × Unit)))) × ((List (Int × (Int × (Int × (Int × Int))))) × ((List Int) × ((List Int) × (List Int)))))))))))))))))))) :=
              ((if room (List.length o13_3 + List.length ([t102.1] : List Int)) 8 then some () else none).bind fun _ =>
              (if room (List.length o14_3 + List.length ([0] : List Int)) 8 then some () else none).bind fun _ =>
              some (t_8, (), (), (), row_3, (), o0_7, o1_7, o2_7, o3_7, o4_7, t102.2.2.2, (t102.2.1.1, t102.2.1.2), t102.2.2.1, o9_7, (o10_3.1, o10_3.2.1, o10_3.2.2.1, o10_3.2.2.2.1, o10_3.2.2.2.2), o11_3, o12_3, (o13_3 ++ ([t102.1] : List Int)), (o14_3 ++ ([0] : List Int))))
            agree (agree q_ (agree (agree q_ q_) (agree q_ q_))) (agree (agree (agree q_ q_) q_) (agree (agree q_ q_) q_)) : Option ((Int × (Int × (List (List (Int × Int))))) × (Unit × (Unit × (Unit × (((Int × (Int × (List (List (Int × Int))))) × Unit) × (Unit × ((Int × (Unit × (Unit × (Unit × Unit)))) × ((List (Int × (Int × (Int × (Int × Int))))) × ((List Int) × ((List Int) × ((List Int) × ((List ((Int × (Int × (Int × (Int × Int)))) × Int)) × ((Unit × Unit) × ((List (Int × (Int × (Int × (Int × Int))))) × ((List Int) × ((Int × (Unit × (Unit × (Unit × Unit)))) × ((List (Int × (Int × (Int × (Int × Int))))) × ((List Int) × ((List Int) × (List Int))))))))))))))))))))) fun ((t_9, _, _, _, row_4, _, o0_8, o1_8, o2_8, o3_8, o4_8, o5_8, o6_8, o7_8, o9_8, o10_4, o11_4, o12_4, o13_4, o14_4) : ((Int × (Int × (List (List (Int × Int))))) × (Unit × (Unit × (Unit × (((Int × (Int × (List (List (Int × Int))))) × Unit) × (Unit × ((Int × (Unit × (Unit × (Unit × Unit)))) × ((List (Int × (Int × (Int × (Int × Int))))) × ((List Int) × ((List Int) × ((List Int) × ((List ((Int × (Int × (Int × (Int × Int)))) × Int)) × ((Unit × Unit) × ((List (Int × (Int × (Int × (Int × Int))))) × ((List Int) × ((Int × (Unit × (Unit × (Unit × Unit)))) × ((List (Int × (Int × (Int × (Int × Int))))) × ((List Int) × ((List Int) × (List Int))))))))))))))))))))) =>
          some (t_9, (), (), (), row_4, (), o0_8, o1_8, o2_8, o3_8, o4_8, o5_8, o6_8, o7_8, o9_8, o10_4, o11_4, o12_4, o13_4, o14_4)) : Option ((Int × (Int × (List (List (Int × Int))))) × (Unit × (Unit × (Unit × (((Int × (Int × (List (List (Int × Int))))) × Unit) × (Unit × ((Int × (Unit × (Unit × (Unit × Unit)))) × ((List (Int × (Int × (Int × (Int × Int))))) × ((List Int) × ((List Int) × ((List Int) × ((List ((Int × (Int × (Int × (Int × Int)))) × Int)) × ((Unit × Unit) × ((List (Int × (Int × (Int × (Int × Int))))) × ((List Int) × ((Int × (Unit × (Unit × (Unit × Unit)))) × ((List (Int × (Int × (Int × (Int × Int))))) × ((List Int) × ((List Int) × (List Int))))))))))))))))))))) fun ((t_10, _, _, _, row_5, _, o0_9, o1_9, o2_9, o3_9, o4_9, o5_9, o6_9, o7_9, o9_9, o10_5, o11_5, o12_5, o13_5, o14_5) : ((Int × (Int × (List (List (Int × Int))))) × (Unit × (Unit × (Unit × (((Int × (Int × (List (List (Int × Int))))) × Unit) × (Unit × ((Int × (Unit × (Unit × (Unit × Unit)))) × ((List (Int × (Int × (Int × (Int × Int))))) × ((List Int) × ((List Int) × ((List Int) × ((List ((Int × (Int × (Int × (Int × Int)))) × Int)) × ((Unit × Unit) × ((List (Int × (Int × (Int × (Int × Int))))) × ((List Int) × ((Int × (Unit × (Unit × (Unit × Unit)))) × ((List (Int × (Int × (Int × (Int × Int))))) × ((List Int) × ((List Int) × (List Int))))))))))))))))))))) =>
      some (Sum.inl (t_10, (), (), (), row_5, (), (w64 (t63 + 1)), o0_9, o1_9, o2_9, o3_9, o4_9, o5_9, o6_9, o7_9, o9_9, o10_5, o11_5, o12_5, o13_5, o14_5)))
      (some (Sum.inr ((), (), (), o0_4, o1_4, o2_4, o3_4, o4_4, o5_4, o6_4, o7_4, o10, o11, o12, o13, o14)))
def Of54 (k : Nat) (t : (Int × (Int × (List (List (Int × Int)))))) : Option (((Int × ((List (Int × (Int × (Int × (Int × Int))))) × ((List Int) × ((List Int) × (List Int))))) × (Int × Unit)) × Unit) :=
  (Check105 k t).bind fun t18 =>
  cond (t18.1 != 0)
    (some (((0, [], [], [], []), t18.1, ()), ()))
    ((width106 k (List.length t.2.2 : Int)).bind fun t29 =>
    Option.bind
      (loopN (Of54.l0 k t) k (t, (), (), (), 0, (0, (), (), (), ()), [], [], [], [], ([] : (List ((Int × (Int × (Int × (Int × Int)))) × Int))), ((), ()), [], []) : Option ((Int × (Int × (List (List (Int × Int))))) × (Unit × (Unit × (Unit × ((Int × (Unit × (Unit × (Unit × Unit)))) × ((List (Int × (Int × (Int × (Int × Int))))) × ((List Int) × ((List Int) × ((List Int) × ((List ((Int × (Int × (Int × (Int × Int)))) × Int)) × ((Unit × Unit) × ((List (Int × (Int × (Int × (Int × Int))))) × (List Int)))))))))))))) fun ((t_2, _, _, _, o0_1, o1_1, o2_1, o3_1, o4_1, o5_1, o6_1, o7_1, o9_1) : ((Int × (Int × (List (List (Int × Int))))) × (Unit × (Unit × (Unit × ((Int × (Unit × (Unit × (Unit × Unit)))) × ((List (Int × (Int × (Int × (Int × Int))))) × ((List Int) × ((List Int) × ((List Int) × ((List ((Int × (Int × (Int × (Int × Int)))) × Int)) × ((Unit × Unit) × ((List (Int × (Int × (Int × (Int × Int))))) × (List Int)))))))))))))) =>
    Option.bind
      (loopN (Of54.l1 k t29) k (t_2, (), (), (), 0, o0_1, o1_1, o2_1, o3_1, o4_1, o5_1, o6_1, o7_1, o9_1) : Option ((Int × (Int × (List (List (Int × Int))))) × (Unit × (Unit × (Unit × ((Int × (Unit × (Unit × (Unit × Unit)))) × ((List (Int × (Int × (Int × (Int × Int))))) × ((List Int) × ((List Int) × ((List Int) × ((List ((Int × (Int × (Int × (Int × Int)))) × Int)) × ((Unit × Unit) × ((List (Int × (Int × (Int × (Int × Int))))) × (List Int)))))))))))))) fun ((t_4, _, _, _, o0_3, o1_3, o2_3, o3_3, o4_3, o5_3, o6_3, o7_3, o9_3) : ((Int × (Int × (List (List (Int × Int))))) × (Unit × (Unit × (Unit × ((Int × (Unit × (Unit × (Unit × Unit)))) × ((List (Int × (Int × (Int × (Int × Int))))) × ((List Int) × ((List Int) × ((List Int) × ((List ((Int × (Int × (Int × (Int × Int)))) × Int)) × ((Unit × Unit) × ((List (Int × (Int × (Int × (Int × Int))))) × (List Int)))))))))))))) =>
    Option.bind
      (loopN (Of54.l3 k (w64 (t_4.2.1 + t29.1))) k (t_4, (), (), (), (t_4, ()), (), 0, o0_3, o1_3, o2_3, o3_3, o4_3, o5_3, o6_3, o7_3, o9_3, (t_4.1, (), (), (), ()), [], [], [], []) : Option (Unit × (Unit × (Unit × ((Int × (Unit × (Unit × (Unit × Unit)))) × ((List (Int × (Int × (Int × (Int × Int))))) × ((List Int) × ((List Int) × ((List Int) × ((List ((Int × (Int × (Int × (Int × Int)))) × Int)) × ((Unit × Unit) × ((List (Int × (Int × (Int × (Int × Int))))) × ((Int × (Unit × (Unit × (Unit × Unit)))) × ((List (Int × (Int × (Int × (Int × Int))))) × ((List Int) × ((List Int) × (List Int))))))))))))))))) fun ((_, _, _, _, _, _, _, _, _, _, o7_10, o10_6, _, o12_6, o13_6, o14_6) : (Unit × (Unit × (Unit × ((Int × (Unit × (Unit × (Unit × Unit)))) × ((List (Int × (Int × (Int × (Int × Int))))) × ((List Int) × ((List Int) × ((List Int) × ((List ((Int × (Int × (Int × (Int × Int)))) × Int)) × ((Unit × Unit) × ((List (Int × (Int × (Int × (Int × Int))))) × ((Int × (Unit × (Unit × (Unit × Unit)))) × ((List (Int × (Int × (Int × (Int × Int))))) × ((List Int) × ((List Int) × (List Int))))))))))))))))) =>
    (swept110 k (o10_6.1, o7_10, o12_6, o13_6, o14_6)).bind fun t131 =>
    cond (decide ((List.length t131.1.2.1 : Int) > 400))
      (some (((0, [], [], [], []), 6, ()), ()))
      (some ((t131.1, 0, ()), ())))
def Of54.A : Ann := { conds := [(5111836, ⟨[(1, .fp (.st (.pair (.int .i64) (.pair (.int .i64) (.sl (.sl (.st (.pair (.int .i64) (.int .i64))))))))), (2, .ptr 0 []), (5, .ptr 6 []), (7, .ms 9), (10, .fn 108 (.pair (.fp (.st (.pair (.int .i64) (.pair (.int .i64) (.sl (.sl (.st (.pair (.int .i64) (.int .i64))))))))) .unit)), (11, .ptr 10 []), (13, .ms 17)], [(0, .var (.st (.pair (.int .i64) (.pair (.ms 1) (.pair (.ms 2) (.pair (.ms 3) (.ms 4))))))), (1, .row (.st (.pair (.int .i64) (.pair (.int .i64) (.pair (.int .i64) (.pair (.int .i64) (.int .i64))))))), (2, .row (.int .i64)), (3, .row (.int .i64)), (4, .row (.int .i64)), (5, .map (.st (.pair (.int .i64) (.pair (.int .i64) (.pair (.int .i64) (.pair (.int .i64) (.int .i64)))))) (.int .i64)), (6, .var (.st (.pair (.ms 7) (.mm 5)))), (7, .row (.st (.pair (.int .i64) (.pair (.int .i64) (.pair (.int .i64) (.pair (.int .i64) (.int .i64))))))), (9, .row (.int .i64)), (10, .var (.st (.pair (.int .i64) (.pair (.ms 11) (.pair (.ms 12) (.pair (.ms 13) (.ms 14))))))), (11, .row (.st (.pair (.int .i64) (.pair (.int .i64) (.pair (.int .i64) (.pair (.int .i64) (.int .i64))))))), (12, .row (.int .i64)), (13, .row (.int .i64)), (14, .row (.int .i64)), (17, .row (.int .i64))], 18, [], 316912045594147543059588456448⟩), (6946849, ⟨[(1, .fp (.st (.pair (.int .i64) (.pair (.int .i64) (.sl (.sl (.st (.pair (.int .i64) (.int .i64))))))))), (2, .ptr 0 []), (5, .ptr 6 []), (7, .ms 9), (10, .fn 108 (.pair (.fp (.st (.pair (.int .i64) (.pair (.int .i64) (.sl (.sl (.st (.pair (.int .i64) (.int .i64))))))))) .unit)), (11, .ptr 10 [])], [(0, .var (.st (.pair (.int .i64) (.pair (.ms 1) (.pair (.ms 2) (.pair (.ms 3) (.ms 4))))))), (1, .row (.st (.pair (.int .i64) (.pair (.int .i64) (.pair (.int .i64) (.pair (.int .i64) (.int .i64))))))), (2, .row (.int .i64)), (3, .row (.int .i64)), (4, .row (.int .i64)), (5, .map (.st (.pair (.int .i64) (.pair (.int .i64) (.pair (.int .i64) (.pair (.int .i64) (.int .i64)))))) (.int .i64)), (6, .var (.st (.pair (.ms 7) (.mm 5)))), (7, .row (.st (.pair (.int .i64) (.pair (.int .i64) (.pair (.int .i64) (.pair (.int .i64) (.int .i64))))))), (9, .row (.int .i64)), (10, .var (.st (.pair (.int .i64) (.pair (.ms 11) (.pair (.ms 12) (.pair (.ms 13) (.ms 14))))))), (11, .row (.st (.pair (.int .i64) (.pair (.int .i64) (.pair (.int .i64) (.pair (.int .i64) (.int .i64))))))), (12, .row (.int .i64)), (13, .row (.int .i64)), (14, .row (.int .i64))], 15, [], 21267485673281824753097521386475225088⟩)], blocks := [(0, ⟨[(1, .fp (.st (.pair (.int .i64) (.pair (.int .i64) (.sl (.sl (.st (.pair (.int .i64) (.int .i64))))))))), (2, .ptr 0 []), (5, .ptr 6 []), (7, .ms 9)], [(0, .var (.st (.pair (.int .i64) (.pair (.ms 1) (.pair (.ms 2) (.pair (.ms 3) (.ms 4))))))), (1, .row (.st (.pair (.int .i64) (.pair (.int .i64) (.pair (.int .i64) (.pair (.int .i64) (.int .i64))))))), (2, .row (.int .i64)), (3, .row (.int .i64)), (4, .row (.int .i64)), (5, .map (.st (.pair (.int .i64) (.pair (.int .i64) (.pair (.int .i64) (.pair (.int .i64) (.int .i64)))))) (.int .i64)), (6, .var (.st (.pair (.ms 7) (.mm 5)))), (7, .row (.st (.pair (.int .i64) (.pair (.int .i64) (.pair (.int .i64) (.pair (.int .i64) (.int .i64))))))), (9, .row (.int .i64))], 10, [], 8791798055296⟩), (2, ⟨[(1, .fp (.st (.pair (.int .i64) (.pair (.int .i64) (.sl (.sl (.st (.pair (.int .i64) (.int .i64))))))))), (2, .ptr 0 []), (5, .ptr 6 []), (7, .ms 9)], [(0, .var (.st (.pair (.int .i64) (.pair (.ms 1) (.pair (.ms 2) (.pair (.ms 3) (.ms 4))))))), (1, .row (.st (.pair (.int .i64) (.pair (.int .i64) (.pair (.int .i64) (.pair (.int .i64) (.int .i64))))))), (2, .row (.int .i64)), (3, .row (.int .i64)), (4, .row (.int .i64)), (5, .map (.st (.pair (.int .i64) (.pair (.int .i64) (.pair (.int .i64) (.pair (.int .i64) (.int .i64)))))) (.int .i64)), (6, .var (.st (.pair (.ms 7) (.mm 5)))), (7, .row (.st (.pair (.int .i64) (.pair (.int .i64) (.pair (.int .i64) (.pair (.int .i64) (.int .i64))))))), (9, .row (.int .i64))], 10, [], 36011204832920192⟩), (4, ⟨[(2, .ptr 0 []), (5, .ptr 6 []), (11, .ptr 10 [])], [(0, .var (.st (.pair (.int .i64) (.pair (.ms 1) (.pair (.ms 2) (.pair (.ms 3) (.ms 4))))))), (1, .row (.st (.pair (.int .i64) (.pair (.int .i64) (.pair (.int .i64) (.pair (.int .i64) (.int .i64))))))), (2, .row (.int .i64)), (3, .row (.int .i64)), (4, .row (.int .i64)), (5, .map (.st (.pair (.int .i64) (.pair (.int .i64) (.pair (.int .i64) (.pair (.int .i64) (.int .i64)))))) (.int .i64)), (6, .var (.st (.pair (.ms 7) (.mm 5)))), (7, .row (.st (.pair (.int .i64) (.pair (.int .i64) (.pair (.int .i64) (.pair (.int .i64) (.int .i64))))))), (10, .var (.st (.pair (.int .i64) (.pair (.ms 11) (.pair (.ms 12) (.pair (.ms 13) (.ms 14))))))), (11, .row (.st (.pair (.int .i64) (.pair (.int .i64) (.pair (.int .i64) (.pair (.int .i64) (.int .i64))))))), (12, .row (.int .i64)), (13, .row (.int .i64)), (14, .row (.int .i64))], 15, [], 42535295865117307923698453892116377600⟩), (6, ⟨[(1, .fp (.st (.pair (.int .i64) (.pair (.int .i64) (.sl (.sl (.st (.pair (.int .i64) (.int .i64))))))))), (2, .ptr 0 []), (5, .ptr 6 []), (7, .ms 9), (10, .fn 108 (.pair (.fp (.st (.pair (.int .i64) (.pair (.int .i64) (.sl (.sl (.st (.pair (.int .i64) (.int .i64))))))))) .unit)), (11, .ptr 10 []), (13, .ms 17)], [(0, .var (.st (.pair (.int .i64) (.pair (.ms 1) (.pair (.ms 2) (.pair (.ms 3) (.ms 4))))))), (1, .row (.st (.pair (.int .i64) (.pair (.int .i64) (.pair (.int .i64) (.pair (.int .i64) (.int .i64))))))), (2, .row (.int .i64)), (3, .row (.int .i64)), (4, .row (.int .i64)), (5, .map (.st (.pair (.int .i64) (.pair (.int .i64) (.pair (.int .i64) (.pair (.int .i64) (.int .i64)))))) (.int .i64)), (6, .var (.st (.pair (.ms 7) (.mm 5)))), (7, .row (.st (.pair (.int .i64) (.pair (.int .i64) (.pair (.int .i64) (.pair (.int .i64) (.int .i64))))))), (9, .row (.int .i64)), (10, .var (.st (.pair (.int .i64) (.pair (.ms 11) (.pair (.ms 12) (.pair (.ms 13) (.ms 14))))))), (11, .row (.st (.pair (.int .i64) (.pair (.int .i64) (.pair (.int .i64) (.pair (.int .i64) (.int .i64))))))), (12, .row (.int .i64)), (13, .row (.int .i64)), (14, .row (.int .i64)), (17, .row (.int .i64))], 18, [], 633825299523818890389646008320⟩)], loops := [(8, ⟨[(1, .fp (.st (.pair (.int .i64) (.pair (.int .i64) (.sl (.sl (.st (.pair (.int .i64) (.int .i64))))))))), (2, .ptr 0 []), (5, .ptr 6 []), (7, .ms 9), (32, .int .i64)], [(0, .var (.st (.pair (.int .i64) (.pair (.ms 1) (.pair (.ms 2) (.pair (.ms 3) (.ms 4))))))), (1, .row (.st (.pair (.int .i64) (.pair (.int .i64) (.pair (.int .i64) (.pair (.int .i64) (.int .i64))))))), (2, .row (.int .i64)), (3, .row (.int .i64)), (4, .row (.int .i64)), (5, .map (.st (.pair (.int .i64) (.pair (.int .i64) (.pair (.int .i64) (.pair (.int .i64) (.int .i64)))))) (.int .i64)), (6, .var (.st (.pair (.ms 7) (.mm 5)))), (7, .row (.st (.pair (.int .i64) (.pair (.int .i64) (.pair (.int .i64) (.pair (.int .i64) (.int .i64))))))), (9, .row (.int .i64))], 10, [(9, .int .i64)], 8791798055296⟩), (13, ⟨[(1, .fp (.st (.pair (.int .i64) (.pair (.int .i64) (.sl (.sl (.st (.pair (.int .i64) (.int .i64))))))))), (2, .ptr 0 []), (5, .ptr 6 []), (7, .ms 9), (44, .int .i64)], [(0, .var (.st (.pair (.int .i64) (.pair (.ms 1) (.pair (.ms 2) (.pair (.ms 3) (.ms 4))))))), (1, .row (.st (.pair (.int .i64) (.pair (.int .i64) (.pair (.int .i64) (.pair (.int .i64) (.int .i64))))))), (2, .row (.int .i64)), (3, .row (.int .i64)), (4, .row (.int .i64)), (5, .map (.st (.pair (.int .i64) (.pair (.int .i64) (.pair (.int .i64) (.pair (.int .i64) (.int .i64)))))) (.int .i64)), (6, .var (.st (.pair (.ms 7) (.mm 5)))), (7, .row (.st (.pair (.int .i64) (.pair (.int .i64) (.pair (.int .i64) (.pair (.int .i64) (.int .i64))))))), (9, .row (.int .i64))], 10, [], 36011204832920192⟩), (20, ⟨[(1, .fp (.st (.pair (.int .i64) (.pair (.int .i64) (.sl (.sl (.st (.pair (.int .i64) (.int .i64))))))))), (2, .ptr 0 []), (5, .ptr 6 []), (7, .ms 9), (10, .fn 108 (.pair (.fp (.st (.pair (.int .i64) (.pair (.int .i64) (.sl (.sl (.st (.pair (.int .i64) (.int .i64))))))))) .unit)), (11, .ptr 10 []), (63, .int .i64)], [(0, .var (.st (.pair (.int .i64) (.pair (.ms 1) (.pair (.ms 2) (.pair (.ms 3) (.ms 4))))))), (1, .row (.st (.pair (.int .i64) (.pair (.int .i64) (.pair (.int .i64) (.pair (.int .i64) (.int .i64))))))), (2, .row (.int .i64)), (3, .row (.int .i64)), (4, .row (.int .i64)), (5, .map (.st (.pair (.int .i64) (.pair (.int .i64) (.pair (.int .i64) (.pair (.int .i64) (.int .i64)))))) (.int .i64)), (6, .var (.st (.pair (.ms 7) (.mm 5)))), (7, .row (.st (.pair (.int .i64) (.pair (.int .i64) (.pair (.int .i64) (.pair (.int .i64) (.int .i64))))))), (9, .row (.int .i64)), (10, .var (.st (.pair (.int .i64) (.pair (.ms 11) (.pair (.ms 12) (.pair (.ms 13) (.ms 14))))))), (11, .row (.st (.pair (.int .i64) (.pair (.int .i64) (.pair (.int .i64) (.pair (.int .i64) (.int .i64))))))), (12, .row (.int .i64)), (13, .row (.int .i64)), (14, .row (.int .i64))], 15, [], 42535295865117307923698453892116377600⟩), (24, ⟨[(1, .fp (.st (.pair (.int .i64) (.pair (.int .i64) (.sl (.sl (.st (.pair (.int .i64) (.int .i64))))))))), (2, .ptr 0 []), (5, .ptr 6 []), (7, .ms 9), (10, .fn 108 (.pair (.fp (.st (.pair (.int .i64) (.pair (.int .i64) (.sl (.sl (.st (.pair (.int .i64) (.int .i64))))))))) .unit)), (11, .ptr 10 []), (13, .ms 17), (69, .int .i64)], [(0, .var (.st (.pair (.int .i64) (.pair (.ms 1) (.pair (.ms 2) (.pair (.ms 3) (.ms 4))))))), (1, .row (.st (.pair (.int .i64) (.pair (.int .i64) (.pair (.int .i64) (.pair (.int .i64) (.int .i64))))))), (2, .row (.int .i64)), (3, .row (.int .i64)), (4, .row (.int .i64)), (5, .map (.st (.pair (.int .i64) (.pair (.int .i64) (.pair (.int .i64) (.pair (.int .i64) (.int .i64)))))) (.int .i64)), (6, .var (.st (.pair (.ms 7) (.mm 5)))), (7, .row (.st (.pair (.int .i64) (.pair (.int .i64) (.pair (.int .i64) (.pair (.int .i64) (.int .i64))))))), (9, .row (.int .i64)), (10, .var (.st (.pair (.int .i64) (.pair (.ms 11) (.pair (.ms 12) (.pair (.ms 13) (.ms 14))))))), (11, .row (.st (.pair (.int .i64) (.pair (.int .i64) (.pair (.int .i64) (.pair (.int .i64) (.int .i64))))))), (12, .row (.int .i64)), (13, .row (.int .i64)), (14, .row (.int .i64)), (17, .row (.int .i64))], 18, [(17, .int .i64)], 633825299523818890389646008320⟩)], keeps := [1, 15], orders := [], turns := [(0, [⟨0, [(1, .st (.pair (.int .i64) (.pair (.int .i64) (.pair (.int .i64) (.pair (.int .i64) (.int .i64)))))), (2, .int .i64), (3, .int .i64), (4, .int .i64)], .st (.pair (.int .i64) (.pair (.ms 1) (.pair (.ms 2) (.pair (.ms 3) (.ms 4)))))⟩]), (4, [⟨6, [(7, .st (.pair (.int .i64) (.pair (.int .i64) (.pair (.int .i64) (.pair (.int .i64) (.int .i64))))))], .st (.pair (.ms 7) (.mm 5))⟩]), (18, [⟨10, [(11, .st (.pair (.int .i64) (.pair (.int .i64) (.pair (.int .i64) (.pair (.int .i64) (.int .i64)))))), (12, .int .i64), (13, .int .i64), (14, .int .i64)], .st (.pair (.int .i64) (.pair (.ms 11) (.pair (.ms 12) (.pair (.ms 13) (.ms 14)))))⟩])], alts := [(34, ((.op 0 .strong (.op 1 .strong (.op 2 .strong (.op 5 .weak (.alt (.op 3 (.eff true) (.alt (.op 4 (.eff false) (.op 6 .strong (.op 9 .weak (.op 7 (.eff true) (.op 8 (.eff false) (.op 10 (.eff false) (.op 11 .strong (.op 12 (.eff false) (.leaf []))))))))) (.alt (.op 6 (.eff true) (.alt (.op 4 (.eff false) (.op 9 .weak (.op 7 (.eff true) (.op 8 (.eff false) (.op 10 (.eff false) (.op 11 .strong (.op 12 (.eff false) (.leaf [])))))))) (.op 7 (.eff true) (.op 4 (.eff false) (.op 9 .weak (.op 8 (.eff false) (.op 10 (.eff false) (.op 11 .strong (.op 12 (.eff false) (.leaf [])))))))))) (.op 7 (.eff true) (.alt (.op 4 (.eff false) (.op 6 .strong (.op 9 .weak (.op 8 (.eff false) (.op 10 (.eff false) (.op 11 .strong (.op 12 (.eff false) (.leaf [])))))))) (.op 6 (.eff true) (.op 4 (.eff false) (.op 9 .weak (.op 8 (.eff false) (.op 10 (.eff false) (.op 11 .strong (.op 12 (.eff false) (.leaf []))))))))))))) (.alt (.op 6 (.eff true) (.alt (.op 3 (.eff true) (.alt (.op 4 (.eff false) (.op 9 .weak (.op 7 (.eff true) (.op 8 (.eff false) (.op 10 (.eff false) (.op 11 .strong (.op 12 (.eff false) (.leaf [])))))))) (.op 7 (.eff true) (.op 4 (.eff false) (.op 9 .weak (.op 8 (.eff false) (.op 10 (.eff false) (.op 11 .strong (.op 12 (.eff false) (.leaf [])))))))))) (.op 7 (.eff true) (.op 3 (.eff true) (.op 4 (.eff false) (.op 9 .weak (.op 8 (.eff false) (.op 10 (.eff false) (.op 11 .strong (.op 12 (.eff false) (.leaf []))))))))))) (.op 7 (.eff true) (.alt (.op 3 (.eff true) (.alt (.op 4 (.eff false) (.op 6 .strong (.op 9 .weak (.op 8 (.eff false) (.op 10 (.eff false) (.op 11 .strong (.op 12 (.eff false) (.leaf [])))))))) (.op 6 (.eff true) (.op 4 (.eff false) (.op 9 .weak (.op 8 (.eff false) (.op 10 (.eff false) (.op 11 .strong (.op 12 (.eff false) (.leaf [])))))))))) (.op 6 (.eff true) (.op 3 (.eff true) (.op 4 (.eff false) (.op 9 .weak (.op 8 (.eff false) (.op 10 (.eff false) (.op 11 .strong (.op 12 (.eff false) (.leaf []))))))))))))))))), ⟨[(1, .fp (.st (.pair (.int .i64) (.pair (.int .i64) (.sl (.sl (.st (.pair (.int .i64) (.int .i64))))))))), (2, .ptr 0 []), (5, .ptr 6 []), (7, .ms 9), (10, .fn 108 (.pair (.fp (.st (.pair (.int .i64) (.pair (.int .i64) (.sl (.sl (.st (.pair (.int .i64) (.int .i64))))))))) .unit)), (11, .ptr 10 [])], [(0, .var (.st (.pair (.int .i64) (.pair (.ms 1) (.pair (.ms 2) (.pair (.ms 3) (.ms 4))))))), (1, .row (.st (.pair (.int .i64) (.pair (.int .i64) (.pair (.int .i64) (.pair (.int .i64) (.int .i64))))))), (2, .row (.int .i64)), (3, .row (.int .i64)), (4, .row (.int .i64)), (5, .map (.st (.pair (.int .i64) (.pair (.int .i64) (.pair (.int .i64) (.pair (.int .i64) (.int .i64)))))) (.int .i64)), (6, .var (.st (.pair (.ms 7) (.mm 5)))), (7, .row (.st (.pair (.int .i64) (.pair (.int .i64) (.pair (.int .i64) (.pair (.int .i64) (.int .i64))))))), (9, .row (.int .i64)), (10, .var (.st (.pair (.int .i64) (.pair (.ms 11) (.pair (.ms 12) (.pair (.ms 13) (.ms 14))))))), (11, .row (.st (.pair (.int .i64) (.pair (.int .i64) (.pair (.int .i64) (.pair (.int .i64) (.int .i64))))))), (12, .row (.int .i64)), (13, .row (.int .i64)), (14, .row (.int .i64))], 15, [], 21257263338841584311203851971827073024⟩))] }
def Of54.S : Sig := { f := 54, params := [.st (.pair (.int .i64) (.pair (.int .i64) (.sl (.sl (.st (.pair (.int .i64) (.int .i64)))))))], objs := [], res := .tup (.pair (.st (.pair (.int .i64) (.pair (.sl (.st (.pair (.int .i64) (.pair (.int .i64) (.pair (.int .i64) (.pair (.int .i64) (.int .i64))))))) (.pair (.sl (.int .i64)) (.pair (.sl (.int .i64)) (.sl (.int .i64))))))) (.pair (.int .i64) .unit)), outs := [], fix := [], run := fun k ds os => Of54 k ds }
def Of54.G : List Sig := [Check105.S, Of1108.S, put107.S, swept110.S, tree109.S, width106.S]
theorem Of54.eq (k : Nat) : ∀ ds os, Of54.S.run k ds os = runF ⟨types, Of54.G, Of54.A, k, 0, []⟩ Try.f54 (codeOf Try.f54) Of54.S.params Of54.S.objs Of54.S.res Of54.S.outs ds os := by
  intro ds os; kernel_rfl
theorem Of54.dr : DrOk Try.prog Of54.A (codeOf Try.f54) := ⟨by kernel_rfl, by kernel_rfl⟩
theorem Of54.ok (k : Nat) : SoundAt Try.prog k Of54.S :=
  runF_sound (X := ⟨types, Of54.G, Of54.A, k, 0, []⟩) types_ok (mem_all (⟨Check105.ok k, ⟨Of1108.ok k, ⟨put107.ok k, ⟨swept110.ok k, ⟨tree109.ok k, ⟨width106.ok k, trivial⟩⟩⟩⟩⟩⟩)) (fn := Try.f54) (c := codeOf Try.f54) rfl (by kernel_rfl) rfl rfl Of54.dr (Of54.eq k)
end Go.Proofs.Ytjbdhaenakcclaa.St

/- Go functions as plain Lean functions, and their contracts. -/
set_option linter.unusedVariables false
set_option maxRecDepth 100000
noncomputable section
namespace Go.Proofs.Ytjbdhaenakcclaa.St
open Go Go.Proofs.Ytjbdhaenakcclaa.Gp
def Run71.l0 (k : Nat) (in_ : (List Int)) : ((Int × ((List (Int × (Int × (Int × (Int × Int))))) × ((List Int) × ((List Int) × (List Int))))) × (Unit × (Int × (Int × (List Int))))) → Option (((Int × ((List (Int × (Int × (Int × (Int × Int))))) × ((List Int) × ((List Int) × (List Int))))) × (Unit × (Int × (Int × (List Int))))) ⊕ ((Unit × (List Int)) ⊕ (((List Int) × (Int × Unit)) × Unit)))
  | (c_1, _, s, t21, o1) =>
    cond (decide (t21 < (List.length in_ : Int)))
      ((rd in_ t21).bind fun t23 =>
      Option.bind (cond (decide (t23 < 0))
        (some true)
        ((if c_1.1 < 0 then none else some (shlI .i64 1 c_1.1)).bind fun t31 =>
        some (decide (t23 ≥ t31)))) fun t33 =>
      cond t33
        (some (Sum.inr (Sum.inr (([], 1, ()), ()))))
        ((values69 k c_1 s t23).bind fun t37 =>
        (bits70 k t37.1 c_1.2.2.1).bind fun t42 =>
        (if room (List.length o1 + List.length ([t42.1] : List Int)) 8 then some () else none).bind fun _ =>
        (bits70 k t37.1 c_1.2.2.2.1).bind fun t48 =>
        some (Sum.inl (c_1, (), t48.1, (w64 (t21 + 1)), (o1 ++ ([t42.1] : List Int))))))
      (some (Sum.inr (Sum.inl ((), o1))))
def Run71 (k : Nat) (c : (Int × ((List (Int × (Int × (Int × (Int × Int))))) × ((List Int) × ((List Int) × (List Int)))))) (in_ : (List Int)) : Option (((List Int) × (Int × Unit)) × Unit) :=
  (Check18 k c).bind fun t13 =>
  cond (t13.1 != 0)
    (some (([], t13.1, ()), ()))
    ((Start80 k c).bind fun t18 =>
    Option.bind
      (loopN (Run71.l0 k in_) k (c, (), t18.1, 0, []) : Option ((Unit × (List Int)) ⊕ (((List Int) × (Int × Unit)) × Unit))) (joined fun ((_, o1_1) : (Unit × (List Int))) =>
      some ((o1_1, 0, ()), ())))
def Run71.A : Ann := { conds := [], blocks := [(0, ⟨[(7, .ms 1)], [(1, .row (.int .i64))], 2, [], 1125899904748976⟩)], loops := [(7, ⟨[(2, .fp (.st (.pair (.int .i64) (.pair (.sl (.st (.pair (.int .i64) (.pair (.int .i64) (.pair (.int .i64) (.pair (.int .i64) (.int .i64))))))) (.pair (.sl (.int .i64)) (.pair (.sl (.int .i64)) (.sl (.int .i64)))))))), (7, .ms 1), (8, .int .i64), (21, .int .i64)], [(1, .row (.int .i64))], 2, [(1, .int .i64)], 1125899904748976⟩)], keeps := [2], orders := [(12, [(0, .strong), (1, .strong), (2, .strong), (3, .strong), (7, .weak), (8, .weak), (9, .weak), (4, .eff true), (5, .eff true), (6, .eff false), (10, .eff true), (11, .strong), (12, .strong)])] }
def Run71.S : Sig := { f := 71, params := [.st (.pair (.int .i64) (.pair (.sl (.st (.pair (.int .i64) (.pair (.int .i64) (.pair (.int .i64) (.pair (.int .i64) (.int .i64))))))) (.pair (.sl (.int .i64)) (.pair (.sl (.int .i64)) (.sl (.int .i64)))))), .sl (.int .i64)], objs := [], res := .tup (.pair (.sl (.int .i64)) (.pair (.int .i64) .unit)), outs := [], fix := [], run := fun k ds os => Run71 k ds.1 ds.2 }
def Run71.G : List Sig := [Check18.S, Start80.S, bits70.S, values69.S]
theorem Run71.eq (k : Nat) : ∀ ds os, Run71.S.run k ds os = runF ⟨types, Run71.G, Run71.A, k, 0, []⟩ Try.f71 (codeOf Try.f71) Run71.S.params Run71.S.objs Run71.S.res Run71.S.outs ds os := by
  intro ds os; kernel_rfl
theorem Run71.dr : DrOk Try.prog Run71.A (codeOf Try.f71) := ⟨by kernel_rfl, by kernel_rfl⟩
theorem Run71.ok (k : Nat) : SoundAt Try.prog k Run71.S :=
  runF_sound (X := ⟨types, Run71.G, Run71.A, k, 0, []⟩) types_ok (mem_all (⟨Check18.ok k, ⟨Start80.ok k, ⟨bits70.ok k, ⟨values69.ok k, trivial⟩⟩⟩⟩)) (fn := Try.f71) (c := codeOf Try.f71) rfl (by kernel_rfl) rfl rfl Run71.dr (Run71.eq k)

def Equal25.l0 (k : Nat) (s1 : (List Int)) (s2 : (List Int)) : Int → Option (Int ⊕ (Unit ⊕ (Bool × Unit)))
  | t13 =>
    cond (decide (t13 < (List.length s1 : Int)))
      ((rd s1 t13).bind fun t18 =>
      (rd s2 t13).bind fun t22 =>
      cond (t18 != t22)
        (some (Sum.inr (Sum.inr (false, ()))))
        (some (Sum.inl (w64 (t13 + 1)))))
      (some (Sum.inr (Sum.inl ())))
def Equal25 (k : Nat) (s1 : (List Int)) (s2 : (List Int)) : Option (Bool × Unit) :=
  cond ((List.length s1 : Int) != (List.length s2 : Int))
    (some (false, ()))
    (Option.bind
      (loopN (Equal25.l0 k s1 s2) k 0 : Option (Unit ⊕ (Bool × Unit))) (joined fun (_ : Unit) =>
      some (true, ())))
def Equal25.A : Ann := { conds := [], blocks := [(0, ⟨[], [], 0, [], 67100720⟩)], loops := [(4, ⟨[(13, .int .i64)], [], 0, [], 67100720⟩)], keeps := [], orders := [(6, [(0, .strong), (1, .strong), (2, .strong), (3, .strong), (4, .strong), (5, .strong), (6, .strong), (7, .strong), (8, .strong)])] }
def Equal25.S : Sig := { f := 25, params := [.sl (.int .i64), .sl (.int .i64)], objs := [], res := .bool, outs := [], fix := [], run := fun k ds os => Equal25 k ds.1 ds.2 }
def Equal25.G : List Sig := []
theorem Equal25.eq (k : Nat) : ∀ ds os, Equal25.S.run k ds os = runF ⟨types, Equal25.G, Equal25.A, k, 0, []⟩ Try.f25 (codeOf Try.f25) Equal25.S.params Equal25.S.objs Equal25.S.res Equal25.S.outs ds os := by
  intro ds os; kernel_rfl
theorem Equal25.dr : DrOk Try.prog Equal25.A (codeOf Try.f25) := ⟨by kernel_rfl, by kernel_rfl⟩
theorem Equal25.ok (k : Nat) : SoundAt Try.prog k Equal25.S :=
  runF_sound (X := ⟨types, Equal25.G, Equal25.A, k, 0, []⟩) types_ok (fun s hs => absurd hs List.not_mem_nil) (fn := Try.f25) (c := codeOf Try.f25) rfl (by kernel_rfl) rfl rfl Equal25.dr (Equal25.eq k)

def built55 (k : Nat) : Option (Bool × Unit) :=
  (Of54 k (1, 1, [[(0, 0), (1, 0)]])).bind fun t11 =>
  (Run71 k t11.1.1 ([0, 1] : List Int)).bind fun t17 =>
  Option.bind (cond (cond (t11.1.2.1 == 0) (t17.1.2.1 == 0) false)
    ((Equal25 k t17.1.1 ([0, 1] : List Int)).bind fun t29 =>
    some t29.1)
    (some false)) fun t30 =>
  some (t30, ())
def built55.A : Ann := { conds := [], blocks := [], loops := [], keeps := [1], orders := [] }
def built55.S : Sig := { f := 55, params := [], objs := [], res := .bool, outs := [], fix := [], run := fun k ds os => built55 k }
def built55.G : List Sig := [Equal25.S, Of54.S, Run71.S]
theorem built55.eq (k : Nat) : ∀ ds os, built55.S.run k ds os = runF ⟨types, built55.G, built55.A, k, 0, []⟩ Try.f55 (codeOf Try.f55) built55.S.params built55.S.objs built55.S.res built55.S.outs ds os := by
  intro ds os; kernel_rfl
theorem built55.dr : DrOk Try.prog built55.A (codeOf Try.f55) := ⟨by kernel_rfl, by kernel_rfl⟩
theorem built55.ok (k : Nat) : SoundAt Try.prog k built55.S :=
  runF_sound (X := ⟨types, built55.G, built55.A, k, 0, []⟩) types_ok (mem_all (⟨Equal25.ok k, ⟨Of54.ok k, ⟨Run71.ok k, trivial⟩⟩⟩)) (fn := Try.f55) (c := codeOf Try.f55) rfl (by kernel_rfl) rfl rfl built55.dr (built55.eq k)

def First37.l0 (k : Nat) (c : (Int × ((List (Int × (Int × (Int × (Int × Int))))) × ((List Int) × ((List Int) × (List Int)))))) : (Int × Int) → Option ((Int × Int) ⊕ Int)
  | (out, t9) =>
    cond (decide (t9 < (List.length c.2.2.2.2 : Int)))
      ((rd c.2.2.2.2 t9).bind fun t12 =>
      Option.bind
        (cond (decide (t9 < 10))
          ((if t9 < 0 then none else some (shlI .i64 (ibits .and .i64 t12 1) t9)).bind fun t20 =>
          some (w64 (out + t20)))
          (some out) : Option Int) fun (out_1 : Int) =>
      some (Sum.inl (out_1, (w64 (t9 + 1)))))
      (some (Sum.inr out))
def First37 (k : Nat) (c : (Int × ((List (Int × (Int × (Int × (Int × Int))))) × ((List Int) × ((List Int) × (List Int)))))) : Option (Int × Unit) :=
  Option.bind
    (loopN (First37.l0 k c) k (0, 0) : Option Int) fun (out_2 : Int) =>
  some (out_2, ())
def First37.A : Ann := { conds := [(983046, ⟨[(3, .int .i64)], [], 0, [], 4128776⟩)], blocks := [(0, ⟨[(3, .int .i64)], [], 0, [], 8388152⟩)], loops := [(3, ⟨[(3, .int .i64), (9, .int .i64)], [], 0, [], 8388152⟩)], keeps := [1], orders := [] }
def First37.S : Sig := { f := 37, params := [.st (.pair (.int .i64) (.pair (.sl (.st (.pair (.int .i64) (.pair (.int .i64) (.pair (.int .i64) (.pair (.int .i64) (.int .i64))))))) (.pair (.sl (.int .i64)) (.pair (.sl (.int .i64)) (.sl (.int .i64))))))], objs := [], res := .int .i64, outs := [], fix := [], run := fun k ds os => First37 k ds }
def First37.G : List Sig := []
theorem First37.eq (k : Nat) : ∀ ds os, First37.S.run k ds os = runF ⟨types, First37.G, First37.A, k, 0, []⟩ Try.f37 (codeOf Try.f37) First37.S.params First37.S.objs First37.S.res First37.S.outs ds os := by
  intro ds os; kernel_rfl
theorem First37.dr : DrOk Try.prog First37.A (codeOf Try.f37) := ⟨by kernel_rfl, by kernel_rfl⟩
theorem First37.ok (k : Nat) : SoundAt Try.prog k First37.S :=
  runF_sound (X := ⟨types, First37.G, First37.A, k, 0, []⟩) types_ok (fun s hs => absurd hs List.not_mem_nil) (fn := Try.f37) (c := codeOf Try.f37) rfl (by kernel_rfl) rfl rfl First37.dr (First37.eq k)
end Go.Proofs.Ytjbdhaenakcclaa.St

/- Go functions as plain Lean functions, and their contracts. -/
set_option linter.unusedVariables false
set_option maxRecDepth 100000
noncomputable section
namespace Go.Proofs.Ytjbdhaenakcclaa.St
open Go Go.Proofs.Ytjbdhaenakcclaa.Gp
abbrev GrpUsed178.T := (Int → Unit → (Int × ((List (Int × (Int × (Int × (Int × Int))))) × ((List Int) × ((List Int) × (List Int))))) → Unit → Unit → (List Bool) → (Unit × ((Int × ((List (Int × (Int × (Int × (Int × Int))))) × ((List Int) × ((List Int) × (List Int))))) × (Unit × Unit))) → Option (Unit × (Unit × ((List Bool) × (Unit × ((Int × ((List (Int × (Int × (Int × (Int × Int))))) × ((List Int) × ((List Int) × (List Int))))) × (Unit × Unit)))))))
def Used178.l0 (r_ : GrpUsed178.T) (k : Nat) (t31 : Int) : ((Int × ((List (Int × (Int × (Int × (Int × Int))))) × ((List Int) × ((List Int) × (List Int))))) × (Unit × ((Int × (Int × (Int × (Int × Int)))) × (Unit × (Int × (Unit × ((List Bool) × ((Unit × ((Int × ((List (Int × (Int × (Int × (Int × Int))))) × ((List Int) × ((List Int) × (List Int))))) × (Unit × Unit))) × (List Int))))))))) → Option (((Int × ((List (Int × (Int × (Int × (Int × Int))))) × ((List Int) × ((List Int) × (List Int))))) × (Unit × ((Int × (Int × (Int × (Int × Int)))) × (Unit × (Int × (Unit × ((List Bool) × ((Unit × ((Int × ((List (Int × (Int × (Int × (Int × Int))))) × ((List Int) × ((List Int) × (List Int))))) × (Unit × Unit))) × (List Int))))))))) ⊕ ((Int × ((List (Int × (Int × (Int × (Int × Int))))) × ((List Int) × ((List Int) × (List Int))))) × (Unit × ((Int × (Int × (Int × (Int × Int)))) × (Unit × ((List Bool) × (Unit × ((Int × ((List (Int × (Int × (Int × (Int × Int))))) × ((List Int) × ((List Int) × (List Int))))) × (Unit × Unit)))))))))
  | (t2_2, _, g_1, _, t32_1, _, o1_2, o2_2, o4_1) =>
    cond (decide (t32_1 < t31))
      ((rd o4_1 t32_1).bind fun _ =>
      (rd o4_1 t32_1).bind fun t35 =>
      (r_ t35 o2_2.1 o2_2.2.1 o2_2.2.2.1 () o1_2 o2_2).bind fun t38 =>
      some (Sum.inl (t2_2, (), g_1, (), (w64 (t32_1 + 1)), (), t38.2.2.1, t38.2.2.2, o4_1)))
      (some (Sum.inr (t2_2, (), g_1, (), o1_2, o2_2)))
def Used178.b (r_ : GrpUsed178.T) (k : Nat) (k_ : Int) (_ : Unit) (t2 : (Int × ((List (Int × (Int × (Int × (Int × Int))))) × ((List Int) × ((List Int) × (List Int)))))) (_ : Unit) (o0 : Unit) (o1 : (List Bool)) (o2 : (Unit × ((Int × ((List (Int × (Int × (Int × (Int × Int))))) × ((List Int) × ((List Int) × (List Int))))) × (Unit × Unit)))) : Option (Unit × (Unit × ((List Bool) × (Unit × ((Int × ((List (Int × (Int × (Int × (Int × Int))))) × ((List Int) × ((List Int) × (List Int))))) × (Unit × Unit)))))) :=
  (rd o1 k_).bind fun _ =>
  (rd o1 k_).bind fun t11 =>
  cond t11
    (some ((), (), o1, o2))
    ((rd o1 k_).bind fun _ =>
    (rd o1 k_).bind fun _ =>
    let l : (List Bool) := (List.set o1 (Int.toNat k_) true)
    (rd t2.2.1 k_).bind fun t18 =>
    Option.bind
      (agree
        ((inputs79 k t18.1).bind fun t29 =>
        (slc ([t18.2.1, t18.2.2.1, t18.2.2.2.1] : List Int) 0 t29.1).bind fun t30 =>
        some (t2, (), t18, (), (List.length t30 : Int), 0, (), l, o2, t30))
        ((inputs79 k t18.1).bind fun t29_1 =>
        (slc ([t18.2.1, t18.2.2.1, t18.2.2.2.1] : List Int) 0 t29_1.1).bind fun t30_1 =>
        some (t2, (), t18, (), (List.length t30_1 : Int), 0, (), l, o2, t30_1)) : Option ((Int × ((List (Int × (Int × (Int × (Int × Int))))) × ((List Int) × ((List Int) × (List Int))))) × (Unit × ((Int × (Int × (Int × (Int × Int)))) × (Unit × (Int × (Int × (Unit × ((List Bool) × ((Unit × ((Int × ((List (Int × (Int × (Int × (Int × Int))))) × ((List Int) × ((List Int) × (List Int))))) × (Unit × Unit))) × (List Int))))))))))) fun ((t2_1, _, g, _, t31, t32, _, o1_1, o2_1, o4) : ((Int × ((List (Int × (Int × (Int × (Int × Int))))) × ((List Int) × ((List Int) × (List Int))))) × (Unit × ((Int × (Int × (Int × (Int × Int)))) × (Unit × (Int × (Int × (Unit × ((List Bool) × ((Unit × ((Int × ((List (Int × (Int × (Int × (Int × Int))))) × ((List Int) × ((List Int) × (List Int))))) × (Unit × Unit))) × (List Int))))))))))) =>
    Option.bind
      (loopN (Used178.l0 r_ k t31) k (t2_1, (), g, (), t32, (), o1_1, o2_1, o4) : Option ((Int × ((List (Int × (Int × (Int × (Int × Int))))) × ((List Int) × ((List Int) × (List Int))))) × (Unit × ((Int × (Int × (Int × (Int × Int)))) × (Unit × ((List Bool) × (Unit × ((Int × ((List (Int × (Int × (Int × (Int × Int))))) × ((List Int) × ((List Int) × (List Int))))) × (Unit × Unit))))))))) fun ((t2_3, _, g_2, _, o1_3, o2_3) : ((Int × ((List (Int × (Int × (Int × (Int × Int))))) × ((List Int) × ((List Int) × (List Int))))) × (Unit × ((Int × (Int × (Int × (Int × Int)))) × (Unit × ((List Bool) × (Unit × ((Int × ((List (Int × (Int × (Int × (Int × Int))))) × ((List Int) × ((List Int) × (List Int))))) × (Unit × Unit))))))))) =>
    Option.bind
      (cond (g_2.1 == 2)
        ((rd t2_3.2.2.2.1 g_2.2.2.2.2).bind fun t48 =>
        (r_ t48 o2_3.1 o2_3.2.1 o2_3.2.2.1 () o1_3 o2_3).bind fun t50 =>
        some ((), t50.2.2.1, t50.2.2.2))
        (some ((), o1_3, o2_3)) : Option (Unit × ((List Bool) × (Unit × ((Int × ((List (Int × (Int × (Int × (Int × Int))))) × ((List Int) × ((List Int) × (List Int))))) × (Unit × Unit)))))) fun ((_, o1_4, o2_4) : (Unit × ((List Bool) × (Unit × ((Int × ((List (Int × (Int × (Int × (Int × Int))))) × ((List Int) × ((List Int) × (List Int))))) × (Unit × Unit)))))) =>
    some ((), (), o1_4, o2_4))
def GrpUsed178 : Nat → GrpUsed178.T
  | 0 => ((fun _ _ _ _ _ _ _ => none))
  | k + 1 => (Used178.b (GrpUsed178 k) k)
def Used178 (k : Nat) : Int → Unit → (Int × ((List (Int × (Int × (Int × (Int × Int))))) × ((List Int) × ((List Int) × (List Int))))) → Unit → Unit → (List Bool) → (Unit × ((Int × ((List (Int × (Int × (Int × (Int × Int))))) × ((List Int) × ((List Int) × (List Int))))) × (Unit × Unit))) → Option (Unit × (Unit × ((List Bool) × (Unit × ((Int × ((List (Int × (Int × (Int × (Int × Int))))) × ((List Int) × ((List Int) × (List Int))))) × (Unit × Unit)))))) := (GrpUsed178 k)
def Used178.A : Ann := { conds := [(2752521, ⟨[], [(0, .var (.ms 1)), (1, .row .bool), (2, .var (.fn 78 (.pair (.ptr 0 []) (.pair (.fp (.st (.pair (.int .i64) (.pair (.sl (.st (.pair (.int .i64) (.pair (.int .i64) (.pair (.int .i64) (.pair (.int .i64) (.int .i64))))))) (.pair (.sl (.int .i64)) (.pair (.sl (.int .i64)) (.sl (.int .i64)))))))) (.pair (.ptr 2 []) .unit)))))], 3, [], 2243003720663040⟩)], blocks := [(0, ⟨[(2, .fp (.st (.pair (.int .i64) (.pair (.sl (.st (.pair (.int .i64) (.pair (.int .i64) (.pair (.int .i64) (.pair (.int .i64) (.int .i64))))))) (.pair (.sl (.int .i64)) (.pair (.sl (.int .i64)) (.sl (.int .i64)))))))), (3, .ptr 2 []), (5, .fp (.st (.pair (.int .i64) (.pair (.int .i64) (.pair (.int .i64) (.pair (.int .i64) (.int .i64)))))))], [(0, .var (.ms 1)), (1, .row .bool), (2, .var (.fn 78 (.pair (.ptr 0 []) (.pair (.fp (.st (.pair (.int .i64) (.pair (.sl (.st (.pair (.int .i64) (.pair (.int .i64) (.pair (.int .i64) (.pair (.int .i64) (.int .i64))))))) (.pair (.sl (.int .i64)) (.pair (.sl (.int .i64)) (.sl (.int .i64)))))))) (.pair (.ptr 2 []) .unit)))))], 3, [], 1095216660608⟩)], loops := [(4, ⟨[(2, .fp (.st (.pair (.int .i64) (.pair (.sl (.st (.pair (.int .i64) (.pair (.int .i64) (.pair (.int .i64) (.pair (.int .i64) (.int .i64))))))) (.pair (.sl (.int .i64)) (.pair (.sl (.int .i64)) (.sl (.int .i64)))))))), (3, .ptr 2 []), (5, .fp (.st (.pair (.int .i64) (.pair (.int .i64) (.pair (.int .i64) (.pair (.int .i64) (.int .i64))))))), (30, .ms 4), (32, .int .i64)], [(0, .var (.ms 1)), (1, .row .bool), (2, .var (.fn 78 (.pair (.ptr 0 []) (.pair (.fp (.st (.pair (.int .i64) (.pair (.sl (.st (.pair (.int .i64) (.pair (.int .i64) (.pair (.int .i64) (.pair (.int .i64) (.int .i64))))))) (.pair (.sl (.int .i64)) (.pair (.sl (.int .i64)) (.sl (.int .i64)))))))) (.pair (.ptr 2 []) .unit))))), (4, .row (.int .i64))], 5, [], 1095216660608⟩)], keeps := [5], orders := [(9, [(0, .strong), (1, .strong), (2, .strong), (3, .strong), (4, .strong), (5, .strong), (6, .strong), (7, .eff false)])], alts := [(3, ((.op 0 .strong (.op 1 .strong (.op 2 .strong (.op 3 .strong (.op 4 .strong (.op 5 .strong (.op 7 .strong (.op 8 .strong (.op 12 .strong (.alt (.op 6 (.eff true) (.op 9 (.eff true) (.op 10 .strong (.op 11 .strong (.leaf []))))) (.op 9 (.eff true) (.op 6 (.eff true) (.op 10 .strong (.op 11 .strong (.leaf []))))))))))))))), ⟨[(2, .fp (.st (.pair (.int .i64) (.pair (.sl (.st (.pair (.int .i64) (.pair (.int .i64) (.pair (.int .i64) (.pair (.int .i64) (.int .i64))))))) (.pair (.sl (.int .i64)) (.pair (.sl (.int .i64)) (.sl (.int .i64)))))))), (3, .ptr 2 []), (5, .fp (.st (.pair (.int .i64) (.pair (.int .i64) (.pair (.int .i64) (.pair (.int .i64) (.int .i64))))))), (30, .ms 4), (31, .int .i64), (32, .int .i64)], [(0, .var (.ms 1)), (1, .row .bool), (2, .var (.fn 78 (.pair (.ptr 0 []) (.pair (.fp (.st (.pair (.int .i64) (.pair (.sl (.st (.pair (.int .i64) (.pair (.int .i64) (.pair (.int .i64) (.pair (.int .i64) (.int .i64))))))) (.pair (.sl (.int .i64)) (.pair (.sl (.int .i64)) (.sl (.int .i64)))))))) (.pair (.ptr 2 []) .unit))))), (4, .row (.int .i64))], 5, [], 8588886016⟩))] }
def Used178.S : Sig := { f := 78, params := [.int .i64, .ptr 0 [], .fp (.st (.pair (.int .i64) (.pair (.sl (.st (.pair (.int .i64) (.pair (.int .i64) (.pair (.int .i64) (.pair (.int .i64) (.int .i64))))))) (.pair (.sl (.int .i64)) (.pair (.sl (.int .i64)) (.sl (.int .i64))))))), .ptr 2 []], objs := [.var (.ms 1), .row .bool, .var (.fn 78 (.pair (.ptr 0 []) (.pair (.fp (.st (.pair (.int .i64) (.pair (.sl (.st (.pair (.int .i64) (.pair (.int .i64) (.pair (.int .i64) (.pair (.int .i64) (.int .i64))))))) (.pair (.sl (.int .i64)) (.pair (.sl (.int .i64)) (.sl (.int .i64)))))))) (.pair (.ptr 2 []) .unit))))], res := .tup .unit, outs := [.var (.ms 1), .row .bool, .var (.fn 78 (.pair (.ptr 0 []) (.pair (.fp (.st (.pair (.int .i64) (.pair (.sl (.st (.pair (.int .i64) (.pair (.int .i64) (.pair (.int .i64) (.pair (.int .i64) (.int .i64))))))) (.pair (.sl (.int .i64)) (.pair (.sl (.int .i64)) (.sl (.int .i64)))))))) (.pair (.ptr 2 []) .unit))))], fix := [], run := fun k ds os => Used178 k ds.1 ds.2.1 ds.2.2.1 ds.2.2.2 os.1 os.2.1 os.2.2 }
def Used178.G : List Sig := [Used178.S, inputs79.S]
theorem Used178.eq (k : Nat) : ∀ ds os, Used178.S.run (k + 1) ds os = runF ⟨types, Used178.G, Used178.A, k, 0, []⟩ Try.f78 (codeOf Try.f78) Used178.S.params Used178.S.objs Used178.S.res Used178.S.outs ds os := by
  intro ds os; kernel_rfl
theorem Used178.dr : DrOk Try.prog Used178.A (codeOf Try.f78) := ⟨by kernel_rfl, by kernel_rfl⟩
theorem GrpUsed178.ok : ∀ k, SoundAt Try.prog k Used178.S := by
  intro k
  induction k with
  | zero => exact sound_none (fn := Try.f78) (c := codeOf Try.f78) rfl (by kernel_rfl) rfl (fun _ _ => rfl)
  | succ k ih => exact runF_sound (X := ⟨types, Used178.G, Used178.A, k, 0, []⟩) types_ok (mem_all (⟨ih, ⟨inputs79.ok k, trivial⟩⟩)) (fn := Try.f78) (c := codeOf Try.f78) rfl (by kernel_rfl) rfl rfl Used178.dr (Used178.eq k)
theorem Used178.ok (k : Nat) : SoundAt Try.prog k Used178.S := (GrpUsed178.ok k)
end Go.Proofs.Ytjbdhaenakcclaa.St

/- Go functions as plain Lean functions, and their contracts. -/
set_option linter.unusedVariables false
set_option maxRecDepth 100000
noncomputable section
namespace Go.Proofs.Ytjbdhaenakcclaa.St
open Go Go.Proofs.Ytjbdhaenakcclaa.Gp
def Used29.l0 (k : Nat) (c : (Int × ((List (Int × (Int × (Int × (Int × Int))))) × ((List Int) × ((List Int) × (List Int)))))) : (Unit × (Unit × (Int × ((List Bool) × (Unit × (Unit × ((Int × ((List (Int × (Int × (Int × (Int × Int))))) × ((List Int) × ((List Int) × (List Int))))) × (Unit × Unit)))))))) → Option ((Unit × (Unit × (Int × ((List Bool) × (Unit × (Unit × ((Int × ((List (Int × (Int × (Int × (Int × Int))))) × ((List Int) × ((List Int) × (List Int))))) × (Unit × Unit)))))))) ⊕ (Unit × ((List Bool) × Unit)))
  | (_, _, t25, t20, _, o2) =>
    cond (decide (t25 < (List.length c.2.2.1 : Int)))
      ((rd c.2.2.1 t25).bind fun t27 =>
      (Used178 k t27 o2.1 o2.2.1 o2.2.2.1 () t20 (o2.1, o2.2)).bind fun t31 =>
      some (Sum.inl ((), (), (w64 (t25 + 1)), t31.2.2.1, (), t31.2.2.2.1, t31.2.2.2.2)))
      (some (Sum.inr ((), t20, ())))
def Used29.l1 (k : Nat) (t20_1 : (List Bool)) : (Unit × (Unit × (Int × ((List Bool) × (List Int))))) → Option ((Unit × (Unit × (Int × ((List Bool) × (List Int))))) ⊕ (Unit × (List Int)))
  | (_, _, t35, t20_2, o2_1) =>
    cond (decide (t35 < (List.length t20_1 : Int)))
      ((rd t20_2 t35).bind fun _ =>
      (rd t20_2 t35).bind fun t39 =>
      Option.bind
        (cond t39
          ((if room (List.length o2_1 + List.length ([t35] : List Int)) 8 then some () else none).bind fun _ =>
          some ((), (), t20_2, (o2_1 ++ ([t35] : List Int))))
          (some ((), (), t20_2, o2_1)) : Option (Unit × (Unit × ((List Bool) × (List Int))))) fun ((_, _, t20_3, o2_2) : (Unit × (Unit × ((List Bool) × (List Int))))) =>
      some (Sum.inl ((), (), (w64 (t35 + 1)), t20_3, o2_2)))
      (some (Sum.inr ((), o2_1)))
def Used29 (k : Nat) (c : (Int × ((List (Int × (Int × (Int × (Int × Int))))) × ((List Int) × ((List Int) × (List Int)))))) : Option (((List Int) × (Int × Unit)) × Unit) :=
  (Check18 k c).bind fun t13 =>
  cond (t13.1 != 0)
    (some (([], t13.1, ()), ()))
    ((if 0 ≤ (List.length c.2.1 : Int) ∧ (List.length c.2.1 : Int) ≤ (List.length c.2.1 : Int) ∧ (List.length c.2.1 : Int) * 1 ≤ 140737488355328 then some () else none).bind fun _ =>
    Option.bind
      (loopN (Used29.l0 k c) k ((), (), 0, (List.replicate (Int.toNat (List.length c.2.1 : Int)) false), (), (), c, (), ()) : Option (Unit × ((List Bool) × Unit))) fun ((_, t20_1, _) : (Unit × ((List Bool) × Unit))) =>
    Option.bind
      (loopN (Used29.l1 k t20_1) k ((), (), 0, t20_1, []) : Option (Unit × (List Int))) fun ((_, o2_3) : (Unit × (List Int))) =>
    some ((o2_3, 0, ()), ()))
def Used29.A : Ann := { conds := [(2621457, ⟨[(9, .ms 2), (33, .ms 0)], [(0, .row .bool), (2, .row (.int .i64))], 3, [], 32985348833792⟩)], blocks := [(0, ⟨[(5, .ptr 1 [])], [(0, .row .bool), (1, .var (.ms 0))], 2, [], 8556380416⟩), (2, ⟨[(9, .ms 2)], [(2, .row (.int .i64))], 3, [], 70334384442880⟩)], loops := [(8, ⟨[(5, .ptr 1 []), (6, .ptr 2 []), (25, .int .i64)], [(0, .row .bool), (1, .var (.ms 0)), (2, .var (.fn 78 (.pair (.ptr 1 []) (.pair (.fp (.st (.pair (.int .i64) (.pair (.sl (.st (.pair (.int .i64) (.pair (.int .i64) (.pair (.int .i64) (.pair (.int .i64) (.int .i64))))))) (.pair (.sl (.int .i64)) (.pair (.sl (.int .i64)) (.sl (.int .i64)))))))) (.pair (.ptr 2 []) .unit)))))], 3, [], 8556380416⟩), (14, ⟨[(9, .ms 2), (33, .ms 0), (35, .int .i64)], [(0, .row .bool), (2, .row (.int .i64))], 3, [(2, .int .i64)], 70334384442880⟩)], keeps := [1], orders := [] }
def Used29.S : Sig := { f := 29, params := [.st (.pair (.int .i64) (.pair (.sl (.st (.pair (.int .i64) (.pair (.int .i64) (.pair (.int .i64) (.pair (.int .i64) (.int .i64))))))) (.pair (.sl (.int .i64)) (.pair (.sl (.int .i64)) (.sl (.int .i64))))))], objs := [], res := .tup (.pair (.sl (.int .i64)) (.pair (.int .i64) .unit)), outs := [], fix := [], run := fun k ds os => Used29 k ds }
def Used29.G : List Sig := [Check18.S, Used178.S]
theorem Used29.eq (k : Nat) : ∀ ds os, Used29.S.run k ds os = runF ⟨types, Used29.G, Used29.A, k, 0, []⟩ Try.f29 (codeOf Try.f29) Used29.S.params Used29.S.objs Used29.S.res Used29.S.outs ds os := by
  intro ds os; kernel_rfl
theorem Used29.dr : DrOk Try.prog Used29.A (codeOf Try.f29) := ⟨by kernel_rfl, by kernel_rfl⟩
theorem Used29.ok (k : Nat) : SoundAt Try.prog k Used29.S :=
  runF_sound (X := ⟨types, Used29.G, Used29.A, k, 0, []⟩) types_ok (mem_all (⟨Check18.ok k, ⟨Used178.ok k, trivial⟩⟩)) (fn := Try.f29) (c := codeOf Try.f29) rfl (by kernel_rfl) rfl rfl Used29.dr (Used29.eq k)

def opposite151 (k : Nat) (_ : Unit) (a : Int) (b : Int) (o0 : (Unit × Unit)) (o1 : (List (Int × (Int × (Int × (Int × Int)))))) (o2 : (List ((Int × (Int × (Int × (Int × Int)))) × Int))) : Option (Bool × ((Unit × Unit) × ((List (Int × (Int × (Int × (Int × Int))))) × (List ((Int × (Int × (Int × (Int × Int)))) × Int))))) :=
  Option.bind
    ((rd o1 a).bind fun _ =>
    (rd o1 a).bind fun t15 =>
    agree
      ((rd o1 b).bind fun _ =>
      agree
        ((rd o1 b).bind fun t22 =>
        agree
          (some (t15, t22, o0, o1, o2))
          (some (t15, t22, o0, o1, o2)))
        (agree
          (agree
            ((rd o1 b).bind fun t22_1 =>
            some (t15, t22_1, o0, o1, o2))
            (agree
              ((rd o1 b).bind fun t22_2 =>
              some (t15, t22_2, o0, o1, o2))
              ((rd o1 b).bind fun t22_3 =>
              some (t15, t22_3, o0, o1, o2))))
          (agree
            ((rd o1 b).bind fun t22_4 =>
            some (t15, t22_4, o0, o1, o2))
            (agree
              ((rd o1 b).bind fun t22_5 =>
              some (t15, t22_5, o0, o1, o2))
              ((rd o1 b).bind fun t22_6 =>
              some (t15, t22_6, o0, o1, o2))))))
      (agree
        (agree
          ((rd o1 b).bind fun _ =>
          agree
            ((rd o1 b).bind fun t22_7 =>
            some (t15, t22_7, o0, o1, o2))
            (agree
              ((rd o1 b).bind fun t22_8 =>
              some (t15, t22_8, o0, o1, o2))
              ((rd o1 b).bind fun t22_9 =>
              some (t15, t22_9, o0, o1, o2))))
          (agree
            ((rd o1 b).bind fun _ =>
            agree
              ((rd o1 b).bind fun t22_10 =>
              some (t15, t22_10, o0, o1, o2))
              ((rd o1 b).bind fun t22_11 =>
              some (t15, t22_11, o0, o1, o2)))
            ((rd o1 b).bind fun _ =>
            (rd o1 b).bind fun t22_12 =>
            some (t15, t22_12, o0, o1, o2))))
        (agree
          ((rd o1 b).bind fun _ =>
          agree
            ((rd o1 b).bind fun t22_13 =>
            some (t15, t22_13, o0, o1, o2))
            (agree
              ((rd o1 b).bind fun t22_14 =>
              some (t15, t22_14, o0, o1, o2))
              ((rd o1 b).bind fun t22_15 =>
              some (t15, t22_15, o0, o1, o2))))
          (agree
            ((rd o1 b).bind fun _ =>
            agree
              ((rd o1 b).bind fun t22_16 =>
              some (t15, t22_16, o0, o1, o2))
              ((rd o1 b).bind fun t22_17 =>
              some (t15, t22_17, o0, o1, o2)))
            ((rd o1 b).bind fun _ =>
            (rd o1 b).bind fun t22_18 =>
            some (t15, t22_18, o0, o1, o2))))) : Option ((Int × (Int × (Int × (Int × Int)))) × ((Int × (Int × (Int × (Int × Int)))) × ((Unit × Unit) × ((List (Int × (Int × (Int × (Int × Int))))) × (List ((Int × (Int × (Int × (Int × Int)))) × Int))))))) fun ((x, y, o0_1, o1_1, o2_1) : ((Int × (Int × (Int × (Int × Int)))) × ((Int × (Int × (Int × (Int × Int)))) × ((Unit × Unit) × ((List (Int × (Int × (Int × (Int × Int))))) × (List ((Int × (Int × (Int × (Int × Int)))) × Int))))))) =>
  some ((cond (cond (x.1 == 3) (x.2.1 == b) false) true (cond (y.1 == 3) (y.2.1 == a) false)), o0_1, o1_1, o2_1)
def opposite151.A : Ann := { conds := [], blocks := [], loops := [], keeps := [7, 8], orders := [], alts := [(1, ((.op 0 .strong (.op 1 .strong (.op 2 .strong (.op 3 .strong (.op 4 .strong (.op 5 .strong (.op 6 .strong (.op 7 .weak (.op 8 .weak (.op 9 .weak (.op 11 .weak (.alt (.op 10 (.eff true) (.op 12 .weak (.alt (.op 13 (.eff true) (.alt (.op 14 (.eff true) (.op 15 (.eff true) (.op 16 (.eff false) (.op 17 (.eff false) (.leaf []))))) (.op 15 (.eff true) (.op 14 (.eff true) (.op 16 (.eff false) (.op 17 (.eff false) (.leaf []))))))) (.alt (.op 14 (.eff true) (.alt (.op 13 (.eff true) (.op 15 (.eff true) (.op 16 (.eff false) (.op 17 (.eff false) (.leaf []))))) (.op 15 (.eff true) (.alt (.op 13 (.eff true) (.op 16 (.eff false) (.op 17 (.eff false) (.leaf [])))) (.op 16 (.eff false) (.op 13 .strong (.op 17 (.eff false) (.leaf [])))))))) (.op 15 (.eff true) (.alt (.op 13 (.eff true) (.op 14 (.eff true) (.op 16 (.eff false) (.op 17 (.eff false) (.leaf []))))) (.op 14 (.eff true) (.alt (.op 13 (.eff true) (.op 16 (.eff false) (.op 17 (.eff false) (.leaf [])))) (.op 16 (.eff false) (.op 13 .strong (.op 17 (.eff false) (.leaf [])))))))))))) (.alt (.op 14 (.eff true) (.alt (.op 10 (.eff true) (.op 12 .weak (.alt (.op 13 (.eff true) (.op 15 (.eff true) (.op 16 (.eff false) (.op 17 (.eff false) (.leaf []))))) (.op 15 (.eff true) (.alt (.op 13 (.eff true) (.op 16 (.eff false) (.op 17 (.eff false) (.leaf [])))) (.op 16 (.eff false) (.op 13 .strong (.op 17 (.eff false) (.leaf []))))))))) (.op 15 (.eff true) (.alt (.op 10 (.eff true) (.op 12 .weak (.alt (.op 13 (.eff true) (.op 16 (.eff false) (.op 17 (.eff false) (.leaf [])))) (.op 16 (.eff false) (.op 13 .strong (.op 17 (.eff false) (.leaf []))))))) (.op 16 (.eff false) (.op 10 .strong (.op 12 .strong (.op 13 .strong (.op 17 (.eff false) (.leaf [])))))))))) (.op 15 (.eff true) (.alt (.op 10 (.eff true) (.op 12 .weak (.alt (.op 13 (.eff true) (.op 14 (.eff true) (.op 16 (.eff false) (.op 17 (.eff false) (.leaf []))))) (.op 14 (.eff true) (.alt (.op 13 (.eff true) (.op 16 (.eff false) (.op 17 (.eff false) (.leaf [])))) (.op 16 (.eff false) (.op 13 .strong (.op 17 (.eff false) (.leaf []))))))))) (.op 14 (.eff true) (.alt (.op 10 (.eff true) (.op 12 .weak (.alt (.op 13 (.eff true) (.op 16 (.eff false) (.op 17 (.eff false) (.leaf [])))) (.op 16 (.eff false) (.op 13 .strong (.op 17 (.eff false) (.leaf []))))))) (.op 16 (.eff false) (.op 10 .strong (.op 12 .strong (.op 13 .strong (.op 17 (.eff false) (.leaf []))))))))))))))))))))))), ⟨[(7, .fp (.st (.pair (.int .i64) (.pair (.int .i64) (.pair (.int .i64) (.pair (.int .i64) (.int .i64))))))), (8, .fp (.st (.pair (.int .i64) (.pair (.int .i64) (.pair (.int .i64) (.pair (.int .i64) (.int .i64)))))))], [(0, .var (.st (.pair (.ms 1) (.mm 2)))), (1, .row (.st (.pair (.int .i64) (.pair (.int .i64) (.pair (.int .i64) (.pair (.int .i64) (.int .i64))))))), (2, .map (.st (.pair (.int .i64) (.pair (.int .i64) (.pair (.int .i64) (.pair (.int .i64) (.int .i64)))))) (.int .i64))], 3, [], 8388480⟩))] }
def opposite151.S : Sig := { f := 151, params := [.ptr 0 [], .int .i64, .int .i64], objs := [.var (.st (.pair (.ms 1) (.mm 2))), .row (.st (.pair (.int .i64) (.pair (.int .i64) (.pair (.int .i64) (.pair (.int .i64) (.int .i64)))))), .map (.st (.pair (.int .i64) (.pair (.int .i64) (.pair (.int .i64) (.pair (.int .i64) (.int .i64)))))) (.int .i64)], res := .bool, outs := [.var (.st (.pair (.ms 1) (.mm 2))), .row (.st (.pair (.int .i64) (.pair (.int .i64) (.pair (.int .i64) (.pair (.int .i64) (.int .i64)))))), .map (.st (.pair (.int .i64) (.pair (.int .i64) (.pair (.int .i64) (.pair (.int .i64) (.int .i64)))))) (.int .i64)], fix := [], run := fun k ds os => opposite151 k ds.1 ds.2.1 ds.2.2 os.1 os.2.1 os.2.2 }
def opposite151.G : List Sig := []
theorem opposite151.eq (k : Nat) : ∀ ds os, opposite151.S.run k ds os = runF ⟨types, opposite151.G, opposite151.A, k, 0, []⟩ Try.f151 (codeOf Try.f151) opposite151.S.params opposite151.S.objs opposite151.S.res opposite151.S.outs ds os := by
  intro ds os; kernel_rfl
theorem opposite151.dr : DrOk Try.prog opposite151.A (codeOf Try.f151) := ⟨by kernel_rfl, by kernel_rfl⟩
theorem opposite151.ok (k : Nat) : SoundAt Try.prog k opposite151.S :=
  runF_sound (X := ⟨types, opposite151.G, opposite151.A, k, 0, []⟩) types_ok (fun s hs => absurd hs List.not_mem_nil) (fn := Try.f151) (c := codeOf Try.f151) rfl (by kernel_rfl) rfl rfl opposite151.dr (opposite151.eq k)
end Go.Proofs.Ytjbdhaenakcclaa.St

/- Go functions as plain Lean functions, and their contracts. -/
set_option linter.unusedVariables false
set_option maxRecDepth 100000
noncomputable section
namespace Go.Proofs.Ytjbdhaenakcclaa.St
open Go Go.Proofs.Ytjbdhaenakcclaa.Gp
def both139.l0 (k : Nat) (one : Int) (a_1 : Int) (b_1 : Int) : (Unit × (Unit × (Int × ((Unit × Unit) × ((List (Int × (Int × (Int × (Int × Int))))) × ((List ((Int × (Int × (Int × (Int × Int)))) × Int)) × (List (List Int)))))))) → Option ((Unit × (Unit × (Int × ((Unit × Unit) × ((List (Int × (Int × (Int × (Int × Int))))) × ((List ((Int × (Int × (Int × (Int × Int)))) × Int)) × (List (List Int)))))))) ⊕ ((Unit × ((Unit × Unit) × ((List (Int × (Int × (Int × (Int × Int))))) × (List ((Int × (Int × (Int × (Int × Int)))) × Int))))) ⊕ (Int × ((Unit × Unit) × ((List (Int × (Int × (Int × (Int × Int))))) × (List ((Int × (Int × (Int × (Int × Int)))) × Int)))))))
  | (_, _, t29, o0_3, o1_3, o2_3, o3) =>
    cond (decide (t29 < (List.length [[a_1, b_1], [b_1, a_1]] : Int)))
      ((rd o3 t29).bind fun _ =>
      (rd o3 t29).bind fun t32 =>
      (rd t32 0).bind fun t35 =>
      (constant150 k () t35 o0_3 o1_3 o2_3).bind fun t37 =>
      cond t37.1.2.1
        (cond (t37.1.1 == one)
          ((rd t32 1).bind fun t44 =>
          some (Sum.inr (Sum.inr (t44, t37.2.1, t37.2.2.1, t37.2.2.2))))
          ((rd t32 0).bind fun t46 =>
          some (Sum.inr (Sum.inr (t46, t37.2.1, t37.2.2.1, t37.2.2.2)))))
        (some (Sum.inl ((), (), (w64 (t29 + 1)), t37.2.1, t37.2.2.1, t37.2.2.2, o3))))
      (some (Sum.inr (Sum.inl ((), o0_3, o1_3, o2_3))))
def both139 (k : Nat) (_ : Unit) (kind : Int) (a : Int) (b : Int) (o0 : (Unit × Unit)) (o1 : (List (Int × (Int × (Int × (Int × Int)))))) (o2 : (List ((Int × (Int × (Int × (Int × Int)))) × Int))) : Option (Int × ((Unit × Unit) × ((List (Int × (Int × (Int × (Int × Int))))) × (List ((Int × (Int × (Int × (Int × Int)))) × Int))))) :=
  Option.bind
    (cond (kind == 5)
      (some ((), 0, o0, o1, o2))
      (some ((), 1, o0, o1, o2)) : Option (Unit × (Int × ((Unit × Unit) × ((List (Int × (Int × (Int × (Int × Int))))) × (List ((Int × (Int × (Int × (Int × Int)))) × Int))))))) fun ((_, one, o0_1, o1_1, o2_1) : (Unit × (Int × ((Unit × Unit) × ((List (Int × (Int × (Int × (Int × Int))))) × (List ((Int × (Int × (Int × (Int × Int)))) × Int))))))) =>
  Option.bind
    (cond (decide (a > b))
      (some ((), b, a, o0_1, o1_1, o2_1))
      (some ((), a, b, o0_1, o1_1, o2_1)) : Option (Unit × (Int × (Int × ((Unit × Unit) × ((List (Int × (Int × (Int × (Int × Int))))) × (List ((Int × (Int × (Int × (Int × Int)))) × Int)))))))) fun ((_, a_1, b_1, o0_2, o1_2, o2_2) : (Unit × (Int × (Int × ((Unit × Unit) × ((List (Int × (Int × (Int × (Int × Int))))) × (List ((Int × (Int × (Int × (Int × Int)))) × Int)))))))) =>
  Option.bind
    (loopN (both139.l0 k one a_1 b_1) k ((), (), 0, o0_2, o1_2, o2_2, [[a_1, b_1], [b_1, a_1]]) : Option ((Unit × ((Unit × Unit) × ((List (Int × (Int × (Int × (Int × Int))))) × (List ((Int × (Int × (Int × (Int × Int)))) × Int))))) ⊕ (Int × ((Unit × Unit) × ((List (Int × (Int × (Int × (Int × Int))))) × (List ((Int × (Int × (Int × (Int × Int)))) × Int))))))) (joined fun ((_, o0_4, o1_4, o2_4) : (Unit × ((Unit × Unit) × ((List (Int × (Int × (Int × (Int × Int))))) × (List ((Int × (Int × (Int × (Int × Int)))) × Int)))))) =>
    cond (a_1 == b_1)
      (some (a_1, o0_4, o1_4, o2_4))
      ((opposite151 k () a_1 b_1 o0_4 o1_4 o2_4).bind fun t58 =>
      cond t58.1
        ((bit135 k () (w64 (1 - one)) t58.2.1 t58.2.2.1 t58.2.2.2).bind fun t62 =>
        some (t62.1, t62.2.1, t62.2.2.1, t62.2.2.2))
        ((put107 k () (kind, a_1, b_1, 0, 0) t58.2.1 t58.2.2.1 t58.2.2.2).bind fun t68 =>
        some (t68.1, t68.2.1, t68.2.2.1, t68.2.2.2))))
def both139.A : Ann := { conds := [(983043, ⟨[(0, .ptr 0 []), (9, .int .i64)], [(0, .var (.st (.pair (.ms 1) (.mm 2)))), (1, .row (.st (.pair (.int .i64) (.pair (.int .i64) (.pair (.int .i64) (.pair (.int .i64) (.int .i64))))))), (2, .map (.st (.pair (.int .i64) (.pair (.int .i64) (.pair (.int .i64) (.pair (.int .i64) (.int .i64)))))) (.int .i64))], 3, [], 512⟩), (1179653, ⟨[(0, .ptr 0 []), (2, .int .i64), (3, .int .i64)], [(0, .var (.st (.pair (.ms 1) (.mm 2)))), (1, .row (.st (.pair (.int .i64) (.pair (.int .i64) (.pair (.int .i64) (.pair (.int .i64) (.int .i64))))))), (2, .map (.st (.pair (.int .i64) (.pair (.int .i64) (.pair (.int .i64) (.pair (.int .i64) (.int .i64)))))) (.int .i64))], 3, [], 1572876⟩)], blocks := [(0, ⟨[(0, .ptr 0 [])], [(0, .var (.st (.pair (.ms 1) (.mm 2)))), (1, .row (.st (.pair (.int .i64) (.pair (.int .i64) (.pair (.int .i64) (.pair (.int .i64) (.int .i64))))))), (2, .map (.st (.pair (.int .i64) (.pair (.int .i64) (.pair (.int .i64) (.pair (.int .i64) (.int .i64)))))) (.int .i64))], 3, [], 562949416564992⟩)], loops := [(7, ⟨[(0, .ptr 0 []), (27, .ms 3), (29, .int .i64)], [(0, .var (.st (.pair (.ms 1) (.mm 2)))), (1, .row (.st (.pair (.int .i64) (.pair (.int .i64) (.pair (.int .i64) (.pair (.int .i64) (.int .i64))))))), (2, .map (.st (.pair (.int .i64) (.pair (.int .i64) (.pair (.int .i64) (.pair (.int .i64) (.int .i64)))))) (.int .i64)), (3, .row (.arr 2 (.int .i64)))], 4, [], 562949416564992⟩)], keeps := [11], orders := [] }
def both139.S : Sig := { f := 139, params := [.ptr 0 [], .int .i64, .int .i64, .int .i64], objs := [.var (.st (.pair (.ms 1) (.mm 2))), .row (.st (.pair (.int .i64) (.pair (.int .i64) (.pair (.int .i64) (.pair (.int .i64) (.int .i64)))))), .map (.st (.pair (.int .i64) (.pair (.int .i64) (.pair (.int .i64) (.pair (.int .i64) (.int .i64)))))) (.int .i64)], res := .int .i64, outs := [.var (.st (.pair (.ms 1) (.mm 2))), .row (.st (.pair (.int .i64) (.pair (.int .i64) (.pair (.int .i64) (.pair (.int .i64) (.int .i64)))))), .map (.st (.pair (.int .i64) (.pair (.int .i64) (.pair (.int .i64) (.pair (.int .i64) (.int .i64)))))) (.int .i64)], fix := [], run := fun k ds os => both139 k ds.1 ds.2.1 ds.2.2.1 ds.2.2.2 os.1 os.2.1 os.2.2 }
def both139.G : List Sig := [bit135.S, constant150.S, opposite151.S, put107.S]
theorem both139.eq (k : Nat) : ∀ ds os, both139.S.run k ds os = runF ⟨types, both139.G, both139.A, k, 0, []⟩ Try.f139 (codeOf Try.f139) both139.S.params both139.S.objs both139.S.res both139.S.outs ds os := by
  intro ds os; kernel_rfl
theorem both139.dr : DrOk Try.prog both139.A (codeOf Try.f139) := ⟨by kernel_rfl, by kernel_rfl⟩
theorem both139.ok (k : Nat) : SoundAt Try.prog k both139.S :=
  runF_sound (X := ⟨types, both139.G, both139.A, k, 0, []⟩) types_ok (mem_all (⟨bit135.ok k, ⟨constant150.ok k, ⟨opposite151.ok k, ⟨put107.ok k, trivial⟩⟩⟩⟩)) (fn := Try.f139) (c := codeOf Try.f139) rfl (by kernel_rfl) rfl rfl both139.dr (both139.eq k)

def xor140.l0 (k : Nat) (a_1 : Int) (b_1 : Int) : (Unit × (Unit × (Int × ((Unit × Unit) × ((List (Int × (Int × (Int × (Int × Int))))) × ((List ((Int × (Int × (Int × (Int × Int)))) × Int)) × (List (List Int)))))))) → Option ((Unit × (Unit × (Int × ((Unit × Unit) × ((List (Int × (Int × (Int × (Int × Int))))) × ((List ((Int × (Int × (Int × (Int × Int)))) × Int)) × (List (List Int)))))))) ⊕ ((Unit × ((Unit × Unit) × ((List (Int × (Int × (Int × (Int × Int))))) × (List ((Int × (Int × (Int × (Int × Int)))) × Int))))) ⊕ (Int × ((Unit × Unit) × ((List (Int × (Int × (Int × (Int × Int))))) × (List ((Int × (Int × (Int × (Int × Int)))) × Int)))))))
  | (_, _, t24, o0_2, o1_2, o2_2, o3) =>
    cond (decide (t24 < (List.length [[a_1, b_1], [b_1, a_1]] : Int)))
      ((rd o3 t24).bind fun _ =>
      (rd o3 t24).bind fun t27 =>
      (rd t27 0).bind fun t30 =>
      (constant150 k () t30 o0_2 o1_2 o2_2).bind fun t32 =>
      cond t32.1.2.1
        (cond (t32.1.1 == 1)
          ((rd t27 1).bind fun t39 =>
          (not138 k () t39 t32.2.1 t32.2.2.1 t32.2.2.2).bind fun t41 =>
          some (Sum.inr (Sum.inr (t41.1, t41.2.1, t41.2.2.1, t41.2.2.2))))
          ((rd t27 1).bind fun t42 =>
          some (Sum.inr (Sum.inr (t42, t32.2.1, t32.2.2.1, t32.2.2.2)))))
        (some (Sum.inl ((), (), (w64 (t24 + 1)), t32.2.1, t32.2.2.1, t32.2.2.2, o3))))
      (some (Sum.inr (Sum.inl ((), o0_2, o1_2, o2_2))))
def xor140 (k : Nat) (_ : Unit) (a : Int) (b : Int) (o0 : (Unit × Unit)) (o1 : (List (Int × (Int × (Int × (Int × Int)))))) (o2 : (List ((Int × (Int × (Int × (Int × Int)))) × Int))) : Option (Int × ((Unit × Unit) × ((List (Int × (Int × (Int × (Int × Int))))) × (List ((Int × (Int × (Int × (Int × Int)))) × Int))))) :=
  Option.bind
    (cond (decide (a > b))
      (some ((), b, a, o0, o1, o2))
      (some ((), a, b, o0, o1, o2)) : Option (Unit × (Int × (Int × ((Unit × Unit) × ((List (Int × (Int × (Int × (Int × Int))))) × (List ((Int × (Int × (Int × (Int × Int)))) × Int)))))))) fun ((_, a_1, b_1, o0_1, o1_1, o2_1) : (Unit × (Int × (Int × ((Unit × Unit) × ((List (Int × (Int × (Int × (Int × Int))))) × (List ((Int × (Int × (Int × (Int × Int)))) × Int)))))))) =>
  Option.bind
    (loopN (xor140.l0 k a_1 b_1) k ((), (), 0, o0_1, o1_1, o2_1, [[a_1, b_1], [b_1, a_1]]) : Option ((Unit × ((Unit × Unit) × ((List (Int × (Int × (Int × (Int × Int))))) × (List ((Int × (Int × (Int × (Int × Int)))) × Int))))) ⊕ (Int × ((Unit × Unit) × ((List (Int × (Int × (Int × (Int × Int))))) × (List ((Int × (Int × (Int × (Int × Int)))) × Int))))))) (joined fun ((_, o0_3, o1_3, o2_3) : (Unit × ((Unit × Unit) × ((List (Int × (Int × (Int × (Int × Int))))) × (List ((Int × (Int × (Int × (Int × Int)))) × Int)))))) =>
    cond (a_1 == b_1)
      ((bit135 k () 0 o0_3 o1_3 o2_3).bind fun t50 =>
      some (t50.1, t50.2.1, t50.2.2.1, t50.2.2.2))
      ((opposite151 k () a_1 b_1 o0_3 o1_3 o2_3).bind fun t55 =>
      cond t55.1
        ((bit135 k () 1 t55.2.1 t55.2.2.1 t55.2.2.2).bind fun t57 =>
        some (t57.1, t57.2.1, t57.2.2.1, t57.2.2.2))
        ((put107 k () (6, a_1, b_1, 0, 0) t55.2.1 t55.2.2.1 t55.2.2.2).bind fun t62 =>
        some (t62.1, t62.2.1, t62.2.2.1, t62.2.2.2))))
def xor140.A : Ann := { conds := [(851970, ⟨[(0, .ptr 0 []), (1, .int .i64), (2, .int .i64)], [(0, .var (.st (.pair (.ms 1) (.mm 2)))), (1, .row (.st (.pair (.int .i64) (.pair (.int .i64) (.pair (.int .i64) (.pair (.int .i64) (.int .i64))))))), (2, .map (.st (.pair (.int .i64) (.pair (.int .i64) (.pair (.int .i64) (.pair (.int .i64) (.int .i64)))))) (.int .i64))], 3, [], 49158⟩)], blocks := [(0, ⟨[(0, .ptr 0 [])], [(0, .var (.st (.pair (.ms 1) (.mm 2)))), (1, .row (.st (.pair (.int .i64) (.pair (.int .i64) (.pair (.int .i64) (.pair (.int .i64) (.int .i64))))))), (2, .map (.st (.pair (.int .i64) (.pair (.int .i64) (.pair (.int .i64) (.pair (.int .i64) (.int .i64)))))) (.int .i64))], 3, [], 35184355313472⟩)], loops := [(4, ⟨[(0, .ptr 0 []), (22, .ms 3), (24, .int .i64)], [(0, .var (.st (.pair (.ms 1) (.mm 2)))), (1, .row (.st (.pair (.int .i64) (.pair (.int .i64) (.pair (.int .i64) (.pair (.int .i64) (.int .i64))))))), (2, .map (.st (.pair (.int .i64) (.pair (.int .i64) (.pair (.int .i64) (.pair (.int .i64) (.int .i64)))))) (.int .i64)), (3, .row (.arr 2 (.int .i64)))], 4, [], 35184355313472⟩)], keeps := [8], orders := [] }
def xor140.S : Sig := { f := 140, params := [.ptr 0 [], .int .i64, .int .i64], objs := [.var (.st (.pair (.ms 1) (.mm 2))), .row (.st (.pair (.int .i64) (.pair (.int .i64) (.pair (.int .i64) (.pair (.int .i64) (.int .i64)))))), .map (.st (.pair (.int .i64) (.pair (.int .i64) (.pair (.int .i64) (.pair (.int .i64) (.int .i64)))))) (.int .i64)], res := .int .i64, outs := [.var (.st (.pair (.ms 1) (.mm 2))), .row (.st (.pair (.int .i64) (.pair (.int .i64) (.pair (.int .i64) (.pair (.int .i64) (.int .i64)))))), .map (.st (.pair (.int .i64) (.pair (.int .i64) (.pair (.int .i64) (.pair (.int .i64) (.int .i64)))))) (.int .i64)], fix := [], run := fun k ds os => xor140 k ds.1 ds.2.1 ds.2.2 os.1 os.2.1 os.2.2 }
def xor140.G : List Sig := [bit135.S, constant150.S, not138.S, opposite151.S, put107.S]
theorem xor140.eq (k : Nat) : ∀ ds os, xor140.S.run k ds os = runF ⟨types, xor140.G, xor140.A, k, 0, []⟩ Try.f140 (codeOf Try.f140) xor140.S.params xor140.S.objs xor140.S.res xor140.S.outs ds os := by
  intro ds os; kernel_rfl
theorem xor140.dr : DrOk Try.prog xor140.A (codeOf Try.f140) := ⟨by kernel_rfl, by kernel_rfl⟩
theorem xor140.ok (k : Nat) : SoundAt Try.prog k xor140.S :=
  runF_sound (X := ⟨types, xor140.G, xor140.A, k, 0, []⟩) types_ok (mem_all (⟨bit135.ok k, ⟨constant150.ok k, ⟨not138.ok k, ⟨opposite151.ok k, ⟨put107.ok k, trivial⟩⟩⟩⟩⟩)) (fn := Try.f140) (c := codeOf Try.f140) rfl (by kernel_rfl) rfl rfl xor140.dr (xor140.eq k)
end Go.Proofs.Ytjbdhaenakcclaa.St

/- Go functions as plain Lean functions, and their contracts. -/
set_option linter.unusedVariables false
set_option maxRecDepth 100000
noncomputable section
namespace Go.Proofs.Ytjbdhaenakcclaa.St
open Go Go.Proofs.Ytjbdhaenakcclaa.Gp
def again111 (k : Nat) (_ : Unit) (g : (Int × (Int × (Int × (Int × Int))))) (at_ : (List Int)) (o0 : (Unit × Unit)) (o1 : (List (Int × (Int × (Int × (Int × Int)))))) (o2 : (List ((Int × (Int × (Int × (Int × Int)))) × Int))) : Option (Int × ((Unit × Unit) × ((List (Int × (Int × (Int × (Int × Int))))) × (List ((Int × (Int × (Int × (Int × Int)))) × Int))))) :=
  cond (g.1 == 3)
    ((rd at_ g.2.1).bind fun t15 =>
    (not138 k () t15 o0 o1 o2).bind fun t17 =>
    some (t17.1, t17.2.1, t17.2.2.1, t17.2.2.2))
    (Option.bind
      (cond (g.1 == 4)
        (some ((), g, (g.1 == 4), o0, o1, o2))
        (some ((), g, (g.1 == 5), o0, o1, o2)) : Option (Unit × ((Int × (Int × (Int × (Int × Int)))) × (Bool × ((Unit × Unit) × ((List (Int × (Int × (Int × (Int × Int))))) × (List ((Int × (Int × (Int × (Int × Int)))) × Int)))))))) fun ((_, g_1, t18, o0_1, o1_1, o2_1) : (Unit × ((Int × (Int × (Int × (Int × Int)))) × (Bool × ((Unit × Unit) × ((List (Int × (Int × (Int × (Int × Int))))) × (List ((Int × (Int × (Int × (Int × Int)))) × Int)))))))) =>
    cond t18
      ((rd at_ g_1.2.1).bind fun t27 =>
      (rd at_ g_1.2.2.1).bind fun t32 =>
      (both139 k () g_1.1 t27 t32 o0_1 o1_1 o2_1).bind fun t34 =>
      some (t34.1, t34.2.1, t34.2.2.1, t34.2.2.2))
      (cond (g.1 == 6)
        ((rd at_ g_1.2.1).bind fun t41 =>
        (rd at_ g_1.2.2.1).bind fun t46 =>
        (xor140 k () t41 t46 o0_1 o1_1 o2_1).bind fun t48 =>
        some (t48.1, t48.2.1, t48.2.2.1, t48.2.2.2))
        (cond (g.1 == 7)
          ((rd at_ g_1.2.1).bind fun t55 =>
          (rd at_ g_1.2.2.1).bind fun t60 =>
          (rd at_ g_1.2.2.2.1).bind fun t65 =>
          (mux136 k () t55 t60 t65 o0_1 o1_1 o2_1).bind fun t67 =>
          some (t67.1, t67.2.1, t67.2.2.1, t67.2.2.2))
          ((put107 k () g_1 o0_1 o1_1 o2_1).bind fun t70 =>
          some (t70.1, t70.2.1, t70.2.2.1, t70.2.2.2)))))
def again111.A : Ann := { conds := [(1179653, ⟨[(0, .ptr 0 []), (4, .fp (.st (.pair (.int .i64) (.pair (.int .i64) (.pair (.int .i64) (.pair (.int .i64) (.int .i64))))))), (18, .bool)], [(0, .var (.st (.pair (.ms 1) (.mm 2)))), (1, .row (.st (.pair (.int .i64) (.pair (.int .i64) (.pair (.int .i64) (.pair (.int .i64) (.int .i64))))))), (2, .map (.st (.pair (.int .i64) (.pair (.int .i64) (.pair (.int .i64) (.pair (.int .i64) (.int .i64)))))) (.int .i64))], 3, [], 1310720⟩)], blocks := [], loops := [], keeps := [4], orders := [(6, [(0, .strong), (1, .strong), (2, .strong), (3, .strong), (4, .strong), (5, .strong), (6, .strong), (7, .strong), (8, .strong), (9, .strong), (10, .strong), (11, .strong), (12, .strong), (13, .eff false), (14, .strong)]), (8, [(0, .strong), (1, .strong), (2, .strong), (3, .strong), (4, .strong), (5, .strong), (6, .strong), (7, .strong), (8, .strong), (9, .strong), (10, .strong), (11, .eff false), (12, .strong)]), (10, [(0, .strong), (1, .strong), (2, .strong), (3, .strong), (4, .strong), (5, .strong), (6, .strong), (7, .strong), (8, .strong), (9, .strong), (10, .strong), (11, .strong), (12, .strong), (13, .strong), (14, .strong), (15, .strong), (16, .eff false), (17, .strong)])] }
def again111.S : Sig := { f := 111, params := [.ptr 0 [], .st (.pair (.int .i64) (.pair (.int .i64) (.pair (.int .i64) (.pair (.int .i64) (.int .i64))))), .sl (.int .i64)], objs := [.var (.st (.pair (.ms 1) (.mm 2))), .row (.st (.pair (.int .i64) (.pair (.int .i64) (.pair (.int .i64) (.pair (.int .i64) (.int .i64)))))), .map (.st (.pair (.int .i64) (.pair (.int .i64) (.pair (.int .i64) (.pair (.int .i64) (.int .i64)))))) (.int .i64)], res := .int .i64, outs := [.var (.st (.pair (.ms 1) (.mm 2))), .row (.st (.pair (.int .i64) (.pair (.int .i64) (.pair (.int .i64) (.pair (.int .i64) (.int .i64)))))), .map (.st (.pair (.int .i64) (.pair (.int .i64) (.pair (.int .i64) (.pair (.int .i64) (.int .i64)))))) (.int .i64)], fix := [], run := fun k ds os => again111 k ds.1 ds.2.1 ds.2.2 os.1 os.2.1 os.2.2 }
def again111.G : List Sig := [both139.S, mux136.S, not138.S, put107.S, xor140.S]
theorem again111.eq (k : Nat) : ∀ ds os, again111.S.run k ds os = runF ⟨types, again111.G, again111.A, k, 0, []⟩ Try.f111 (codeOf Try.f111) again111.S.params again111.S.objs again111.S.res again111.S.outs ds os := by
  intro ds os; kernel_rfl
theorem again111.dr : DrOk Try.prog again111.A (codeOf Try.f111) := ⟨by kernel_rfl, by kernel_rfl⟩
theorem again111.ok (k : Nat) : SoundAt Try.prog k again111.S :=
  runF_sound (X := ⟨types, again111.G, again111.A, k, 0, []⟩) types_ok (mem_all (⟨both139.ok k, ⟨mux136.ok k, ⟨not138.ok k, ⟨put107.ok k, ⟨xor140.ok k, trivial⟩⟩⟩⟩⟩)) (fn := Try.f111) (c := codeOf Try.f111) rfl (by kernel_rfl) rfl rfl again111.dr (again111.eq k)
end Go.Proofs.Ytjbdhaenakcclaa.St

/- Go functions as plain Lean functions, and their contracts. -/
set_option linter.unusedVariables false
set_option maxRecDepth 100000
noncomputable section
namespace Go.Proofs.Ytjbdhaenakcclaa.St
open Go Go.Proofs.Ytjbdhaenakcclaa.Gp
def Small58.l0 (k : Nat) (t27 : (((List Int) × (Int × Unit)) × Unit)) (t41 : Int) : ((Int × ((List (Int × (Int × (Int × (Int × Int))))) × ((List Int) × ((List Int) × (List Int))))) × (Unit × (Unit × (Unit × (Int × ((Int × (Unit × (Unit × (Unit × Unit)))) × ((List (Int × (Int × (Int × (Int × Int))))) × ((List Int) × ((List Int) × ((List Int) × ((List (Int × Int)) × ((Int × (Unit × (Unit × (Unit × Unit)))) × ((List (Int × (Int × (Int × (Int × Int))))) × ((List Int) × ((List Int) × (List Int)))))))))))))))) → Option (((Int × ((List (Int × (Int × (Int × (Int × Int))))) × ((List Int) × ((List Int) × (List Int))))) × (Unit × (Unit × (Unit × (Int × ((Int × (Unit × (Unit × (Unit × Unit)))) × ((List (Int × (Int × (Int × (Int × Int))))) × ((List Int) × ((List Int) × ((List Int) × ((List (Int × Int)) × ((Int × (Unit × (Unit × (Unit × Unit)))) × ((List (Int × (Int × (Int × (Int × Int))))) × ((List Int) × ((List Int) × (List Int)))))))))))))))) ⊕ ((Int × ((List (Int × (Int × (Int × (Int × Int))))) × ((List Int) × ((List Int) × (List Int))))) × (Unit × (Unit × (Unit × ((Int × (Unit × (Unit × (Unit × Unit)))) × ((List (Int × (Int × (Int × (Int × Int))))) × ((List Int) × ((List Int) × ((List Int) × ((List (Int × Int)) × ((Int × (Unit × (Unit × (Unit × Unit)))) × ((List (Int × (Int × (Int × (Int × Int))))) × ((List Int) × ((List Int) × (List Int))))))))))))))))
  | (c_2, _, _, _, t46, o0_1, o1_1, o2_1, o3_1, o4_1, o5_1, o6_1, o7_1, o8_1, o9_1, o10_1) =>
    cond (decide (t46 < (List.length t27.1.1 : Int)))
      ((rd t27.1.1 t46).bind fun t48 =>
      (rd c_2.2.1 t48).bind fun t53 =>
      Option.bind
        (cond (cond (t53.1 == 2) (t53.2.2.2.2 == t41) false)
          (Option.bind
            (cond (!(Option.isSome (mget (.int .i64) (.int .i64) o5_1 t41)))
              ((rd c_2.2.2.2.2 t41).bind fun t82 =>
              (if room (List.length o10_1 + List.length ([t82] : List Int)) 8 then some () else none).bind fun _ =>
              some (c_2, (), (), (), o0_1, o1_1, o2_1, o3_1, o4_1, (mput (.int .i64) (.int .i64) o5_1 t41 (List.length o10_1 : Int)), (o6_1.1, o6_1.2.1, o6_1.2.2.1, o6_1.2.2.2.1, o6_1.2.2.2.2), o7_1, o8_1, o9_1, (o10_1 ++ ([t82] : List Int))))
              (some (c_2, (), (), (), o0_1, o1_1, o2_1, o3_1, o4_1, o5_1, o6_1, o7_1, o8_1, o9_1, o10_1)) : Option ((Int × ((List (Int × (Int × (Int × (Int × Int))))) × ((List Int) × ((List Int) × (List Int))))) × (Unit × (Unit × (Unit × ((Int × (Unit × (Unit × (Unit × Unit)))) × ((List (Int × (Int × (Int × (Int × Int))))) × ((List Int) × ((List Int) × ((List Int) × ((List (Int × Int)) × ((Int × (Unit × (Unit × (Unit × Unit)))) × ((List (Int × (Int × (Int × (Int × Int))))) × ((List Int) × ((List Int) × (List Int)))))))))))))))) fun ((c_3, _, _, _, o0_2, o1_2, o2_2, o3_2, o4_2, o5_2, o6_2, o7_2, o8_2, o9_2, o10_2) : ((Int × ((List (Int × (Int × (Int × (Int × Int))))) × ((List Int) × ((List Int) × (List Int))))) × (Unit × (Unit × (Unit × ((Int × (Unit × (Unit × (Unit × Unit)))) × ((List (Int × (Int × (Int × (Int × Int))))) × ((List Int) × ((List Int) × ((List Int) × ((List (Int × Int)) × ((Int × (Unit × (Unit × (Unit × Unit)))) × ((List (Int × (Int × (Int × (Int × Int))))) × ((List Int) × ((List Int) × (List Int)))))))))))))))) =>
          some (c_3, (), (), (), o0_2, o1_2, o2_2, o3_2, o4_2, o5_2, o6_2, o7_2, o8_2, o9_2, o10_2))
          (some (c_2, (), (), (), o0_1, o1_1, o2_1, o3_1, o4_1, o5_1, o6_1, o7_1, o8_1, o9_1, o10_1)) : Option ((Int × ((List (Int × (Int × (Int × (Int × Int))))) × ((List Int) × ((List Int) × (List Int))))) × (Unit × (Unit × (Unit × ((Int × (Unit × (Unit × (Unit × Unit)))) × ((List (Int × (Int × (Int × (Int × Int))))) × ((List Int) × ((List Int) × ((List Int) × ((List (Int × Int)) × ((Int × (Unit × (Unit × (Unit × Unit)))) × ((List (Int × (Int × (Int × (Int × Int))))) × ((List Int) × ((List Int) × (List Int)))))))))))))))) fun ((c_4, _, _, _, o0_3, o1_3, o2_3, o3_3, o4_3, o5_3, o6_3, o7_3, o8_3, o9_3, o10_3) : ((Int × ((List (Int × (Int × (Int × (Int × Int))))) × ((List Int) × ((List Int) × (List Int))))) × (Unit × (Unit × (Unit × ((Int × (Unit × (Unit × (Unit × Unit)))) × ((List (Int × (Int × (Int × (Int × Int))))) × ((List Int) × ((List Int) × ((List Int) × ((List (Int × Int)) × ((Int × (Unit × (Unit × (Unit × Unit)))) × ((List (Int × (Int × (Int × (Int × Int))))) × ((List Int) × ((List Int) × (List Int)))))))))))))))) =>
      some (Sum.inl (c_4, (), (), (), (w64 (t46 + 1)), o0_3, o1_3, o2_3, o3_3, o4_3, o5_3, o6_3, o7_3, o8_3, o9_3, o10_3)))
      (some (Sum.inr (c_2, (), (), (), o0_1, o1_1, o2_1, o3_1, o4_1, o5_1, o6_1, o7_1, o8_1, o9_1, o10_1)))
def Small58.l1 (k : Nat) (c : (Int × ((List (Int × (Int × (Int × (Int × Int))))) × ((List Int) × ((List Int) × (List Int)))))) (t27 : (((List Int) × (Int × Unit)) × Unit)) : ((Int × ((List (Int × (Int × (Int × (Int × Int))))) × ((List Int) × ((List Int) × (List Int))))) × (Unit × (Unit × (Unit × (Int × ((Int × (Unit × (Unit × (Unit × Unit)))) × ((List (Int × (Int × (Int × (Int × Int))))) × ((List Int) × ((List Int) × ((List Int) × ((List (Int × Int)) × ((Int × (Unit × (Unit × (Unit × Unit)))) × ((List (Int × (Int × (Int × (Int × Int))))) × ((List Int) × ((List Int) × (List Int)))))))))))))))) → Option (((Int × ((List (Int × (Int × (Int × (Int × Int))))) × ((List Int) × ((List Int) × (List Int))))) × (Unit × (Unit × (Unit × (Int × ((Int × (Unit × (Unit × (Unit × Unit)))) × ((List (Int × (Int × (Int × (Int × Int))))) × ((List Int) × ((List Int) × ((List Int) × ((List (Int × Int)) × ((Int × (Unit × (Unit × (Unit × Unit)))) × ((List (Int × (Int × (Int × (Int × Int))))) × ((List Int) × ((List Int) × (List Int)))))))))))))))) ⊕ ((Int × ((List (Int × (Int × (Int × (Int × Int))))) × ((List Int) × ((List Int) × (List Int))))) × (Unit × (Unit × (Unit × ((Int × (Unit × (Unit × (Unit × Unit)))) × ((List (Int × (Int × (Int × (Int × Int))))) × ((List Int) × ((List Int) × ((List Int) × ((List (Int × Int)) × ((Int × (Unit × (Unit × (Unit × Unit)))) × ((List (Int × (Int × (Int × (Int × Int))))) × ((List Int) × ((List Int) × (List Int))))))))))))))))
  | (c_1, _, _, _, t41, o0, o1, o2, o3, o4, o5, o6, o7, o8, o9, o10) =>
    cond (decide (t41 < (List.length c.2.2.2.1 : Int)))
      (Option.bind
        (loopN (Small58.l0 k t27 t41) k (c_1, (), (), (), 0, o0, o1, o2, o3, o4, o5, o6, o7, o8, o9, o10) : Option ((Int × ((List (Int × (Int × (Int × (Int × Int))))) × ((List Int) × ((List Int) × (List Int))))) × (Unit × (Unit × (Unit × ((Int × (Unit × (Unit × (Unit × Unit)))) × ((List (Int × (Int × (Int × (Int × Int))))) × ((List Int) × ((List Int) × ((List Int) × ((List (Int × Int)) × ((Int × (Unit × (Unit × (Unit × Unit)))) × ((List (Int × (Int × (Int × (Int × Int))))) × ((List Int) × ((List Int) × (List Int)))))))))))))))) fun ((c_5, _, _, _, o0_4, o1_4, o2_4, o3_4, o4_4, o5_4, o6_4, o7_4, o8_4, o9_4, o10_4) : ((Int × ((List (Int × (Int × (Int × (Int × Int))))) × ((List Int) × ((List Int) × (List Int))))) × (Unit × (Unit × (Unit × ((Int × (Unit × (Unit × (Unit × Unit)))) × ((List (Int × (Int × (Int × (Int × Int))))) × ((List Int) × ((List Int) × ((List Int) × ((List (Int × Int)) × ((Int × (Unit × (Unit × (Unit × Unit)))) × ((List (Int × (Int × (Int × (Int × Int))))) × ((List Int) × ((List Int) × (List Int)))))))))))))))) =>
      some (Sum.inl (c_5, (), (), (), (w64 (t41 + 1)), o0_4, o1_4, o2_4, o3_4, o4_4, o5_4, o6_4, o7_4, o8_4, o9_4, o10_4)))
      (some (Sum.inr (c_1, (), (), (), o0, o1, o2, o3, o4, o5, o6, o7, o8, o9, o10)))
def Small58.l2 (k : Nat) (t27 : (((List Int) × (Int × Unit)) × Unit)) : ((Int × ((List (Int × (Int × (Int × (Int × Int))))) × ((List Int) × ((List Int) × (List Int))))) × (Unit × (Unit × (Unit × (Unit × (Unit × (Int × ((Int × (Unit × (Unit × (Unit × Unit)))) × ((List (Int × (Int × (Int × (Int × Int))))) × ((List Int) × ((List Int) × ((List Int) × ((List (Int × Int)) × ((Int × (Unit × (Unit × (Unit × Unit)))) × ((List (Int × (Int × (Int × (Int × Int))))) × ((List Int) × ((List Int) × ((List Int) × ((List ((Int × (Int × (Int × (Int × Int)))) × Int)) × ((Unit × Unit) × ((List (Int × (Int × (Int × (Int × Int))))) × (List Int)))))))))))))))))))))) → Option (((Int × ((List (Int × (Int × (Int × (Int × Int))))) × ((List Int) × ((List Int) × (List Int))))) × (Unit × (Unit × (Unit × (Unit × (Unit × (Int × ((Int × (Unit × (Unit × (Unit × Unit)))) × ((List (Int × (Int × (Int × (Int × Int))))) × ((List Int) × ((List Int) × ((List Int) × ((List (Int × Int)) × ((Int × (Unit × (Unit × (Unit × Unit)))) × ((List (Int × (Int × (Int × (Int × Int))))) × ((List Int) × ((List Int) × ((List Int) × ((List ((Int × (Int × (Int × (Int × Int)))) × Int)) × ((Unit × Unit) × ((List (Int × (Int × (Int × (Int × Int))))) × (List Int)))))))))))))))))))))) ⊕ ((Int × ((List (Int × (Int × (Int × (Int × Int))))) × ((List Int) × ((List Int) × (List Int))))) × (Unit × (Unit × (Unit × (Unit × (Unit × ((Int × (Unit × (Unit × (Unit × Unit)))) × ((List (Int × (Int × (Int × (Int × Int))))) × ((List Int) × ((List Int) × ((List Int) × ((List (Int × Int)) × ((Int × (Unit × (Unit × (Unit × Unit)))) × ((List (Int × (Int × (Int × (Int × Int))))) × ((List Int) × ((List Int) × ((List Int) × ((List ((Int × (Int × (Int × (Int × Int)))) × Int)) × ((Unit × Unit) × ((List (Int × (Int × (Int × (Int × Int))))) × (List Int))))))))))))))))))))))
  | (c_7, _, _, _, _, _, t98, o0_6, o1_6, o2_6, o3_6, o4_6, o5_6, o6_6, o7_6, o8_6, o9_6, o10_6, o11, o12, o13, t95) =>
    cond (decide (t98 < (List.length t27.1.1 : Int)))
      ((rd t27.1.1 t98).bind fun t100 =>
      (rd c_7.2.1 t100).bind fun t105 =>
      Option.bind
        (cond (t105.1 == 2)
          (some (c_7, (), (), (), (), (), (), o0_6, o1_6, o2_6, o3_6, o4_6, o5_6, o6_6, o7_6, o8_6, o9_6, o10_6, o11, o12, o13, t95, t105.1, t105.2.1, t105.2.2.1, t105.2.2.2.1, (Option.getD (α := Int) (mget (.int .i64) (.int .i64) o5_6 t105.2.2.2.2) (0 : Int))))
          (some (c_7, (), (), (), (), (), (), o0_6, o1_6, o2_6, o3_6, o4_6, o5_6, o6_6, o7_6, o8_6, o9_6, o10_6, o11, o12, o13, t95, t105)) : Option ((Int × ((List (Int × (Int × (Int × (Int × Int))))) × ((List Int) × ((List Int) × (List Int))))) × (Unit × (Unit × (Unit × (Unit × (Unit × (Unit × ((Int × (Unit × (Unit × (Unit × Unit)))) × ((List (Int × (Int × (Int × (Int × Int))))) × ((List Int) × ((List Int) × ((List Int) × ((List (Int × Int)) × ((Int × (Unit × (Unit × (Unit × Unit)))) × ((List (Int × (Int × (Int × (Int × Int))))) × ((List Int) × ((List Int) × ((List Int) × ((List ((Int × (Int × (Int × (Int × Int)))) × Int)) × ((Unit × Unit) × ((List (Int × (Int × (Int × (Int × Int))))) × ((List Int) × (Int × (Int × (Int × (Int × Int))))))))))))))))))))))))))) fun ((c_8, _, _, _, _, _, _, o0_7, o1_7, o2_7, o3_7, o4_7, o5_7, o6_7, o7_7, o8_7, o9_7, o10_7, o11_1, _, o13_1, t95_1, o15) : ((Int × ((List (Int × (Int × (Int × (Int × Int))))) × ((List Int) × ((List Int) × (List Int))))) × (Unit × (Unit × (Unit × (Unit × (Unit × (Unit × ((Int × (Unit × (Unit × (Unit × Unit)))) × ((List (Int × (Int × (Int × (Int × Int))))) × ((List Int) × ((List Int) × ((List Int) × ((List (Int × Int)) × ((Int × (Unit × (Unit × (Unit × Unit)))) × ((List (Int × (Int × (Int × (Int × Int))))) × ((List Int) × ((List Int) × ((List Int) × ((List ((Int × (Int × (Int × (Int × Int)))) × Int)) × ((Unit × Unit) × ((List (Int × (Int × (Int × (Int × Int))))) × ((List Int) × (Int × (Int × (Int × (Int × Int))))))))))))))))))))))))))) =>
      (again111 k () o15 t95_1 ((), ()) o13_1 o11_1).bind fun t120 =>
      (rd t95_1 t100).bind fun _ =>
      (rd t95_1 t100).bind fun _ =>
      some (Sum.inl (c_8, (), (), (), (), (), (w64 (t98 + 1)), o0_7, o1_7, o2_7, o3_7, o4_7, o5_7, o6_7, o7_7, o8_7, o9_7, o10_7, t120.2.2.2, (t120.2.1.1, t120.2.1.2), t120.2.2.1, (List.set t95_1 (Int.toNat t100) t120.1))))
      (some (Sum.inr (c_7, (), (), (), (), (), o0_6, o1_6, o2_6, o3_6, o4_6, o5_6, o6_6, o7_6, o8_6, o9_6, o10_6, o11, o12, o13, t95)))
def Small58.l3 (k : Nat) (c_9 : (Int × ((List (Int × (Int × (Int × (Int × Int))))) × ((List Int) × ((List Int) × (List Int)))))) : ((Int × ((List (Int × (Int × (Int × (Int × Int))))) × ((List Int) × ((List Int) × (List Int))))) × (Unit × (Unit × (Unit × (Unit × (Int × ((Int × (Unit × (Unit × (Unit × Unit)))) × ((List (Int × (Int × (Int × (Int × Int))))) × ((List Int) × ((List Int) × ((List Int) × ((List (Int × Int)) × ((Int × (Unit × (Unit × (Unit × Unit)))) × ((List Int) × ((List Int) × ((List Int) × ((List (Int × (Int × (Int × (Int × Int))))) × (List Int)))))))))))))))))) → Option (((Int × ((List (Int × (Int × (Int × (Int × Int))))) × ((List Int) × ((List Int) × (List Int))))) × (Unit × (Unit × (Unit × (Unit × (Int × ((Int × (Unit × (Unit × (Unit × Unit)))) × ((List (Int × (Int × (Int × (Int × Int))))) × ((List Int) × ((List Int) × ((List Int) × ((List (Int × Int)) × ((Int × (Unit × (Unit × (Unit × Unit)))) × ((List Int) × ((List Int) × ((List Int) × ((List (Int × (Int × (Int × (Int × Int))))) × (List Int)))))))))))))))))) ⊕ ((Int × ((List (Int × (Int × (Int × (Int × Int))))) × ((List Int) × ((List Int) × (List Int))))) × (Unit × (Unit × (Unit × (Unit × ((Int × (Unit × (Unit × (Unit × Unit)))) × ((List (Int × (Int × (Int × (Int × Int))))) × ((List Int) × ((List Int) × ((List Int) × ((List (Int × Int)) × ((Int × (Unit × (Unit × (Unit × Unit)))) × ((List Int) × ((List Int) × ((List Int) × ((List (Int × (Int × (Int × (Int × Int))))) × (List Int))))))))))))))))))
  | (c_10, _, _, _, _, t131, o0_9, o1_9, o2_9, o3_9, o4_9, o5_9, o6_9, o8_9, o9_9, o10_9, o13_3, t95_4) =>
    cond (decide (t131 < (List.length c_9.2.2.1 : Int)))
      ((rd c_9.2.2.1 t131).bind fun t133 =>
      (rd t95_4 t133).bind fun _ =>
      (rd t95_4 t133).bind fun t140 =>
      (if room (List.length o8_9 + List.length ([t140] : List Int)) 8 then some () else none).bind fun _ =>
      some (Sum.inl (c_10, (), (), (), (), (w64 (t131 + 1)), o0_9, o1_9, o2_9, o3_9, o4_9, o5_9, (o6_9.1, o6_9.2.1, o6_9.2.2.1, o6_9.2.2.2), (o8_9 ++ ([t140] : List Int)), o9_9, o10_9, o13_3, t95_4)))
      (some (Sum.inr (c_10, (), (), (), (), o0_9, o1_9, o2_9, o3_9, o4_9, o5_9, o6_9, o8_9, o9_9, o10_9, o13_3, t95_4)))
def Small58.l4 (k : Nat) (c_11 : (Int × ((List (Int × (Int × (Int × (Int × Int))))) × ((List Int) × ((List Int) × (List Int)))))) : (Unit × (Unit × (Unit × (Unit × (Int × ((Int × (Unit × (Unit × (Unit × Unit)))) × ((List (Int × (Int × (Int × (Int × Int))))) × ((List Int) × ((List Int) × ((List Int) × ((List (Int × Int)) × ((Int × (Unit × (Unit × (Unit × Unit)))) × ((List Int) × ((List Int) × ((List Int) × ((List (Int × (Int × (Int × (Int × Int))))) × (List Int))))))))))))))))) → Option ((Unit × (Unit × (Unit × (Unit × (Int × ((Int × (Unit × (Unit × (Unit × Unit)))) × ((List (Int × (Int × (Int × (Int × Int))))) × ((List Int) × ((List Int) × ((List Int) × ((List (Int × Int)) × ((Int × (Unit × (Unit × (Unit × Unit)))) × ((List Int) × ((List Int) × ((List Int) × ((List (Int × (Int × (Int × (Int × Int))))) × (List Int))))))))))))))))) ⊕ (Unit × (Unit × ((Int × (Unit × (Unit × (Unit × Unit)))) × ((List (Int × (Int × (Int × (Int × Int))))) × ((List Int) × ((List Int) × ((List Int) × ((Int × (Unit × (Unit × (Unit × Unit)))) × ((List Int) × ((List Int) × ((List Int) × (List (Int × (Int × (Int × (Int × Int)))))))))))))))))
  | (_, _, _, _, t148, o0_11, o1_11, o2_11, o3_11, o4_11, o5_11, o6_11, o8_11, o9_11, o10_11, o13_5, t95_6) =>
    cond (decide (t148 < (List.length c_11.2.2.2.1 : Int)))
      ((rd c_11.2.2.2.1 t148).bind fun t151 =>
      Option.bind
        (cond (Option.isSome (mget (.int .i64) (.int .i64) o5_11 t148))
          ((rd t95_6 t151).bind fun _ =>
          (rd t95_6 t151).bind fun t165 =>
          (if room (List.length o9_11 + List.length ([t165] : List Int)) 8 then some () else none).bind fun _ =>
          some ((), (), (), (), o0_11, o1_11, o2_11, o3_11, o4_11, o5_11, (o6_11.1, o6_11.2.1, o6_11.2.2.1, o6_11.2.2.2.1, o6_11.2.2.2.2), o8_11, (o9_11 ++ ([t165] : List Int)), o10_11, o13_5, t95_6))
          (some ((), (), (), (), o0_11, o1_11, o2_11, o3_11, o4_11, o5_11, o6_11, o8_11, o9_11, o10_11, o13_5, t95_6)) : Option (Unit × (Unit × (Unit × (Unit × ((Int × (Unit × (Unit × (Unit × Unit)))) × ((List (Int × (Int × (Int × (Int × Int))))) × ((List Int) × ((List Int) × ((List Int) × ((List (Int × Int)) × ((Int × (Unit × (Unit × (Unit × Unit)))) × ((List Int) × ((List Int) × ((List Int) × ((List (Int × (Int × (Int × (Int × Int))))) × (List Int))))))))))))))))) fun ((_, _, _, _, o0_12, o1_12, o2_12, o3_12, o4_12, o5_12, o6_12, o8_12, o9_12, o10_12, o13_6, t95_7) : (Unit × (Unit × (Unit × (Unit × ((Int × (Unit × (Unit × (Unit × Unit)))) × ((List (Int × (Int × (Int × (Int × Int))))) × ((List Int) × ((List Int) × ((List Int) × ((List (Int × Int)) × ((Int × (Unit × (Unit × (Unit × Unit)))) × ((List Int) × ((List Int) × ((List Int) × ((List (Int × (Int × (Int × (Int × Int))))) × (List Int))))))))))))))))) =>
      some (Sum.inl ((), (), (), (), (w64 (t148 + 1)), o0_12, o1_12, o2_12, o3_12, o4_12, o5_12, o6_12, o8_12, o9_12, o10_12, o13_6, t95_7)))
      (some (Sum.inr ((), (), o0_11, o1_11, o2_11, o3_11, o4_11, o6_11, o8_11, o9_11, o10_11, o13_5)))
def Small58 (k : Nat) (c : (Int × ((List (Int × (Int × (Int × (Int × Int))))) × ((List Int) × ((List Int) × (List Int)))))) : Option (((Int × ((List (Int × (Int × (Int × (Int × Int))))) × ((List Int) × ((List Int) × (List Int))))) × (Int × Unit)) × Unit) :=
  (Used29 k c).bind fun t27 =>
  cond (t27.1.2.1 != 0)
    (some (((0, [], [], [], []), t27.1.2.1, ()), ()))
    (Option.bind
      (loopN (Small58.l1 k c t27) k (c, (), (), (), 0, (0, (), (), (), ()), [], [], [], [], ([] : (List (Int × Int))), (c.1, (), (), (), ()), [], [], [], []) : Option ((Int × ((List (Int × (Int × (Int × (Int × Int))))) × ((List Int) × ((List Int) × (List Int))))) × (Unit × (Unit × (Unit × ((Int × (Unit × (Unit × (Unit × Unit)))) × ((List (Int × (Int × (Int × (Int × Int))))) × ((List Int) × ((List Int) × ((List Int) × ((List (Int × Int)) × ((Int × (Unit × (Unit × (Unit × Unit)))) × ((List (Int × (Int × (Int × (Int × Int))))) × ((List Int) × ((List Int) × (List Int)))))))))))))))) fun ((c_6, _, _, _, o0_5, o1_5, o2_5, o3_5, o4_5, o5_5, o6_5, o7_5, o8_5, o9_5, o10_5) : ((Int × ((List (Int × (Int × (Int × (Int × Int))))) × ((List Int) × ((List Int) × (List Int))))) × (Unit × (Unit × (Unit × ((Int × (Unit × (Unit × (Unit × Unit)))) × ((List (Int × (Int × (Int × (Int × Int))))) × ((List Int) × ((List Int) × ((List Int) × ((List (Int × Int)) × ((Int × (Unit × (Unit × (Unit × Unit)))) × ((List (Int × (Int × (Int × (Int × Int))))) × ((List Int) × ((List Int) × (List Int)))))))))))))))) =>
    (if 0 ≤ (List.length c_6.2.1 : Int) ∧ (List.length c_6.2.1 : Int) ≤ (List.length c_6.2.1 : Int) ∧ (List.length c_6.2.1 : Int) * 8 ≤ 140737488355328 then some () else none).bind fun _ =>
    Option.bind
      (loopN (Small58.l2 k t27) k (c_6, (), (), (), (), (), 0, o0_5, o1_5, o2_5, o3_5, o4_5, o5_5, o6_5, o7_5, o8_5, o9_5, o10_5, ([] : (List ((Int × (Int × (Int × (Int × Int)))) × Int))), ((), ()), [], (List.replicate (Int.toNat (List.length c_6.2.1 : Int)) 0)) : Option ((Int × ((List (Int × (Int × (Int × (Int × Int))))) × ((List Int) × ((List Int) × (List Int))))) × (Unit × (Unit × (Unit × (Unit × (Unit × ((Int × (Unit × (Unit × (Unit × Unit)))) × ((List (Int × (Int × (Int × (Int × Int))))) × ((List Int) × ((List Int) × ((List Int) × ((List (Int × Int)) × ((Int × (Unit × (Unit × (Unit × Unit)))) × ((List (Int × (Int × (Int × (Int × Int))))) × ((List Int) × ((List Int) × ((List Int) × ((List ((Int × (Int × (Int × (Int × Int)))) × Int)) × ((Unit × Unit) × ((List (Int × (Int × (Int × (Int × Int))))) × (List Int)))))))))))))))))))))) fun ((c_9, _, _, _, _, _, o0_8, o1_8, o2_8, o3_8, o4_8, o5_8, o6_8, _, o8_8, o9_8, o10_8, _, o12_2, o13_2, t95_3) : ((Int × ((List (Int × (Int × (Int × (Int × Int))))) × ((List Int) × ((List Int) × (List Int))))) × (Unit × (Unit × (Unit × (Unit × (Unit × ((Int × (Unit × (Unit × (Unit × Unit)))) × ((List (Int × (Int × (Int × (Int × Int))))) × ((List Int) × ((List Int) × ((List Int) × ((List (Int × Int)) × ((Int × (Unit × (Unit × (Unit × Unit)))) × ((List (Int × (Int × (Int × (Int × Int))))) × ((List Int) × ((List Int) × ((List Int) × ((List ((Int × (Int × (Int × (Int × Int)))) × Int)) × ((Unit × Unit) × ((List (Int × (Int × (Int × (Int × Int))))) × (List Int)))))))))))))))))))))) =>
    Option.bind
      (loopN (Small58.l3 k c_9) k (c_9, (), (), (), (), 0, o0_8, o1_8, o2_8, o3_8, o4_8, o5_8, (o6_8.1, o12_2.1, o6_8.2.2), o8_8, o9_8, o10_8, o13_2, t95_3) : Option ((Int × ((List (Int × (Int × (Int × (Int × Int))))) × ((List Int) × ((List Int) × (List Int))))) × (Unit × (Unit × (Unit × (Unit × ((Int × (Unit × (Unit × (Unit × Unit)))) × ((List (Int × (Int × (Int × (Int × Int))))) × ((List Int) × ((List Int) × ((List Int) × ((List (Int × Int)) × ((Int × (Unit × (Unit × (Unit × Unit)))) × ((List Int) × ((List Int) × ((List Int) × ((List (Int × (Int × (Int × (Int × Int))))) × (List Int)))))))))))))))))) fun ((c_11, _, _, _, _, o0_10, o1_10, o2_10, o3_10, o4_10, o5_10, o6_10, o8_10, o9_10, o10_10, o13_4, t95_5) : ((Int × ((List (Int × (Int × (Int × (Int × Int))))) × ((List Int) × ((List Int) × (List Int))))) × (Unit × (Unit × (Unit × (Unit × ((Int × (Unit × (Unit × (Unit × Unit)))) × ((List (Int × (Int × (Int × (Int × Int))))) × ((List Int) × ((List Int) × ((List Int) × ((List (Int × Int)) × ((Int × (Unit × (Unit × (Unit × Unit)))) × ((List Int) × ((List Int) × ((List Int) × ((List (Int × (Int × (Int × (Int × Int))))) × (List Int)))))))))))))))))) =>
    Option.bind
      (loopN (Small58.l4 k c_11) k ((), (), (), (), 0, o0_10, o1_10, o2_10, o3_10, o4_10, o5_10, o6_10, o8_10, o9_10, o10_10, o13_4, t95_5) : Option (Unit × (Unit × ((Int × (Unit × (Unit × (Unit × Unit)))) × ((List (Int × (Int × (Int × (Int × Int))))) × ((List Int) × ((List Int) × ((List Int) × ((Int × (Unit × (Unit × (Unit × Unit)))) × ((List Int) × ((List Int) × ((List Int) × (List (Int × (Int × (Int × (Int × Int))))))))))))))))) fun ((_, _, _, _, _, _, _, o6_13, o8_13, o9_13, o10_13, o13_7) : (Unit × (Unit × ((Int × (Unit × (Unit × (Unit × Unit)))) × ((List (Int × (Int × (Int × (Int × Int))))) × ((List Int) × ((List Int) × ((List Int) × ((Int × (Unit × (Unit × (Unit × Unit)))) × ((List Int) × ((List Int) × ((List Int) × (List (Int × (Int × (Int × (Int × Int))))))))))))))))) =>
    (swept110 k (o6_13.1, o13_7, o8_13, o9_13, o10_13)).bind fun t171 =>
    some ((t171.1, 0, ()), ()))
def Small58.A : Ann := { conds := [(4128782, ⟨[(1, .fp (.st (.pair (.int .i64) (.pair (.sl (.st (.pair (.int .i64) (.pair (.int .i64) (.pair (.int .i64) (.pair (.int .i64) (.int .i64))))))) (.pair (.sl (.int .i64)) (.pair (.sl (.int .i64)) (.sl (.int .i64)))))))), (2, .ptr 0 []), (6, .mm 5), (7, .ptr 6 [])], [(0, .var (.st (.pair (.int .i64) (.pair (.ms 1) (.pair (.ms 2) (.pair (.ms 3) (.ms 4))))))), (1, .row (.st (.pair (.int .i64) (.pair (.int .i64) (.pair (.int .i64) (.pair (.int .i64) (.int .i64))))))), (2, .row (.int .i64)), (3, .row (.int .i64)), (4, .row (.int .i64)), (5, .map (.int .i64) (.int .i64)), (6, .var (.st (.pair (.int .i64) (.pair (.ms 7) (.pair (.ms 8) (.pair (.ms 9) (.ms 10))))))), (7, .row (.st (.pair (.int .i64) (.pair (.int .i64) (.pair (.int .i64) (.pair (.int .i64) (.int .i64))))))), (8, .row (.int .i64)), (9, .row (.int .i64)), (10, .row (.int .i64))], 11, [], 154742486463928460652851200⟩), (4653072, ⟨[(1, .fp (.st (.pair (.int .i64) (.pair (.sl (.st (.pair (.int .i64) (.pair (.int .i64) (.pair (.int .i64) (.pair (.int .i64) (.int .i64))))))) (.pair (.sl (.int .i64)) (.pair (.sl (.int .i64)) (.sl (.int .i64)))))))), (2, .ptr 0 []), (6, .mm 5), (7, .ptr 6 [])], [(0, .var (.st (.pair (.int .i64) (.pair (.ms 1) (.pair (.ms 2) (.pair (.ms 3) (.ms 4))))))), (1, .row (.st (.pair (.int .i64) (.pair (.int .i64) (.pair (.int .i64) (.pair (.int .i64) (.int .i64))))))), (2, .row (.int .i64)), (3, .row (.int .i64)), (4, .row (.int .i64)), (5, .map (.int .i64) (.int .i64)), (6, .var (.st (.pair (.int .i64) (.pair (.ms 7) (.pair (.ms 8) (.pair (.ms 9) (.ms 10))))))), (7, .row (.st (.pair (.int .i64) (.pair (.int .i64) (.pair (.int .i64) (.pair (.int .i64) (.int .i64))))))), (8, .row (.int .i64)), (9, .row (.int .i64)), (10, .row (.int .i64))], 11, [], 154737782544189664717176832⟩), (7143451, ⟨[(1, .fp (.st (.pair (.int .i64) (.pair (.sl (.st (.pair (.int .i64) (.pair (.int .i64) (.pair (.int .i64) (.pair (.int .i64) (.int .i64))))))) (.pair (.sl (.int .i64)) (.pair (.sl (.int .i64)) (.sl (.int .i64)))))))), (2, .ptr 0 []), (6, .mm 5), (7, .ptr 6 []), (14, .ptr 12 []), (15, .ms 14), (18, .ptr 15 [])], [(0, .var (.st (.pair (.int .i64) (.pair (.ms 1) (.pair (.ms 2) (.pair (.ms 3) (.ms 4))))))), (1, .row (.st (.pair (.int .i64) (.pair (.int .i64) (.pair (.int .i64) (.pair (.int .i64) (.int .i64))))))), (2, .row (.int .i64)), (3, .row (.int .i64)), (4, .row (.int .i64)), (5, .map (.int .i64) (.int .i64)), (6, .var (.st (.pair (.int .i64) (.pair (.ms 7) (.pair (.ms 8) (.pair (.ms 9) (.ms 10))))))), (7, .row (.st (.pair (.int .i64) (.pair (.int .i64) (.pair (.int .i64) (.pair (.int .i64) (.int .i64))))))), (8, .row (.int .i64)), (9, .row (.int .i64)), (10, .row (.int .i64)), (11, .map (.st (.pair (.int .i64) (.pair (.int .i64) (.pair (.int .i64) (.pair (.int .i64) (.int .i64)))))) (.int .i64)), (12, .var (.st (.pair (.ms 13) (.mm 11)))), (13, .row (.st (.pair (.int .i64) (.pair (.int .i64) (.pair (.int .i64) (.pair (.int .i64) (.int .i64))))))), (14, .row (.int .i64)), (15, .var (.st (.pair (.int .i64) (.pair (.int .i64) (.pair (.int .i64) (.pair (.int .i64) (.int .i64)))))))], 16, [], 40240300653644914121111346551455744⟩), (10420265, ⟨[(2, .ptr 0 []), (6, .mm 5), (7, .ptr 6 []), (15, .ms 14)], [(0, .var (.st (.pair (.int .i64) (.pair (.ms 1) (.pair (.ms 2) (.pair (.ms 3) (.ms 4))))))), (1, .row (.st (.pair (.int .i64) (.pair (.int .i64) (.pair (.int .i64) (.pair (.int .i64) (.int .i64))))))), (2, .row (.int .i64)), (3, .row (.int .i64)), (4, .row (.int .i64)), (5, .map (.int .i64) (.int .i64)), (6, .var (.st (.pair (.int .i64) (.pair (.ms 13) (.pair (.ms 8) (.pair (.ms 9) (.ms 10))))))), (8, .row (.int .i64)), (9, .row (.int .i64)), (10, .row (.int .i64)), (13, .row (.st (.pair (.int .i64) (.pair (.int .i64) (.pair (.int .i64) (.pair (.int .i64) (.int .i64))))))), (14, .row (.int .i64))], 15, [], 746827336676091391202082949518020623044181529460736⟩)], blocks := [(0, ⟨[(1, .fp (.st (.pair (.int .i64) (.pair (.sl (.st (.pair (.int .i64) (.pair (.int .i64) (.pair (.int .i64) (.pair (.int .i64) (.int .i64))))))) (.pair (.sl (.int .i64)) (.pair (.sl (.int .i64)) (.sl (.int .i64)))))))), (2, .ptr 0 []), (6, .mm 5), (7, .ptr 6 [])], [(0, .var (.st (.pair (.int .i64) (.pair (.ms 1) (.pair (.ms 2) (.pair (.ms 3) (.ms 4))))))), (1, .row (.st (.pair (.int .i64) (.pair (.int .i64) (.pair (.int .i64) (.pair (.int .i64) (.int .i64))))))), (2, .row (.int .i64)), (3, .row (.int .i64)), (4, .row (.int .i64)), (5, .map (.int .i64) (.int .i64)), (6, .var (.st (.pair (.int .i64) (.pair (.ms 7) (.pair (.ms 8) (.pair (.ms 9) (.ms 10))))))), (7, .row (.st (.pair (.int .i64) (.pair (.int .i64) (.pair (.int .i64) (.pair (.int .i64) (.int .i64))))))), (8, .row (.int .i64)), (9, .row (.int .i64)), (10, .row (.int .i64))], 11, [], 618970019642687938426322176⟩), (2, ⟨[(1, .fp (.st (.pair (.int .i64) (.pair (.sl (.st (.pair (.int .i64) (.pair (.int .i64) (.pair (.int .i64) (.pair (.int .i64) (.int .i64))))))) (.pair (.sl (.int .i64)) (.pair (.sl (.int .i64)) (.sl (.int .i64)))))))), (2, .ptr 0 []), (6, .mm 5), (7, .ptr 6 [])], [(0, .var (.st (.pair (.int .i64) (.pair (.ms 1) (.pair (.ms 2) (.pair (.ms 3) (.ms 4))))))), (1, .row (.st (.pair (.int .i64) (.pair (.int .i64) (.pair (.int .i64) (.pair (.int .i64) (.int .i64))))))), (2, .row (.int .i64)), (3, .row (.int .i64)), (4, .row (.int .i64)), (5, .map (.int .i64) (.int .i64)), (6, .var (.st (.pair (.int .i64) (.pair (.ms 7) (.pair (.ms 8) (.pair (.ms 9) (.ms 10))))))), (7, .row (.st (.pair (.int .i64) (.pair (.int .i64) (.pair (.int .i64) (.pair (.int .i64) (.int .i64))))))), (8, .row (.int .i64)), (9, .row (.int .i64)), (10, .row (.int .i64))], 11, [], 309485009821274699980618752⟩), (4, ⟨[(1, .fp (.st (.pair (.int .i64) (.pair (.sl (.st (.pair (.int .i64) (.pair (.int .i64) (.pair (.int .i64) (.pair (.int .i64) (.int .i64))))))) (.pair (.sl (.int .i64)) (.pair (.sl (.int .i64)) (.sl (.int .i64)))))))), (2, .ptr 0 []), (6, .mm 5), (7, .ptr 6 []), (14, .ptr 12 []), (15, .ms 14)], [(0, .var (.st (.pair (.int .i64) (.pair (.ms 1) (.pair (.ms 2) (.pair (.ms 3) (.ms 4))))))), (1, .row (.st (.pair (.int .i64) (.pair (.int .i64) (.pair (.int .i64) (.pair (.int .i64) (.int .i64))))))), (2, .row (.int .i64)), (3, .row (.int .i64)), (4, .row (.int .i64)), (5, .map (.int .i64) (.int .i64)), (6, .var (.st (.pair (.int .i64) (.pair (.ms 7) (.pair (.ms 8) (.pair (.ms 9) (.ms 10))))))), (7, .row (.st (.pair (.int .i64) (.pair (.int .i64) (.pair (.int .i64) (.pair (.int .i64) (.int .i64))))))), (8, .row (.int .i64)), (9, .row (.int .i64)), (10, .row (.int .i64)), (11, .map (.st (.pair (.int .i64) (.pair (.int .i64) (.pair (.int .i64) (.pair (.int .i64) (.int .i64)))))) (.int .i64)), (12, .var (.st (.pair (.ms 13) (.mm 11)))), (13, .row (.st (.pair (.int .i64) (.pair (.int .i64) (.pair (.int .i64) (.pair (.int .i64) (.int .i64))))))), (14, .row (.int .i64))], 15, [], 10633823649366676926173106108067348480⟩), (6, ⟨[(1, .fp (.st (.pair (.int .i64) (.pair (.sl (.st (.pair (.int .i64) (.pair (.int .i64) (.pair (.int .i64) (.pair (.int .i64) (.int .i64))))))) (.pair (.sl (.int .i64)) (.pair (.sl (.int .i64)) (.sl (.int .i64)))))))), (2, .ptr 0 []), (6, .mm 5), (7, .ptr 6 []), (15, .ms 14)], [(0, .var (.st (.pair (.int .i64) (.pair (.ms 1) (.pair (.ms 2) (.pair (.ms 3) (.ms 4))))))), (1, .row (.st (.pair (.int .i64) (.pair (.int .i64) (.pair (.int .i64) (.pair (.int .i64) (.int .i64))))))), (2, .row (.int .i64)), (3, .row (.int .i64)), (4, .row (.int .i64)), (5, .map (.int .i64) (.int .i64)), (6, .var (.st (.pair (.int .i64) (.pair (.ms 13) (.pair (.ms 8) (.pair (.ms 9) (.ms 10))))))), (8, .row (.int .i64)), (9, .row (.int .i64)), (10, .row (.int .i64)), (13, .row (.st (.pair (.int .i64) (.pair (.int .i64) (.pair (.int .i64) (.pair (.int .i64) (.int .i64))))))), (14, .row (.int .i64))], 15, [], 44598768138125878775363729548437268867317760⟩), (8, ⟨[(2, .ptr 0 []), (7, .ptr 6 [])], [(0, .var (.st (.pair (.int .i64) (.pair (.ms 1) (.pair (.ms 2) (.pair (.ms 3) (.ms 4))))))), (1, .row (.st (.pair (.int .i64) (.pair (.int .i64) (.pair (.int .i64) (.pair (.int .i64) (.int .i64))))))), (2, .row (.int .i64)), (3, .row (.int .i64)), (4, .row (.int .i64)), (6, .var (.st (.pair (.int .i64) (.pair (.ms 13) (.pair (.ms 8) (.pair (.ms 9) (.ms 10))))))), (8, .row (.int .i64)), (9, .row (.int .i64)), (10, .row (.int .i64)), (13, .row (.st (.pair (.int .i64) (.pair (.int .i64) (.pair (.int .i64) (.pair (.int .i64) (.int .i64)))))))], 14, [], 1496577319814921411750603004129981449753890859778048⟩)], loops := [(7, ⟨[(1, .fp (.st (.pair (.int .i64) (.pair (.sl (.st (.pair (.int .i64) (.pair (.int .i64) (.pair (.int .i64) (.pair (.int .i64) (.int .i64))))))) (.pair (.sl (.int .i64)) (.pair (.sl (.int .i64)) (.sl (.int .i64)))))))), (2, .ptr 0 []), (6, .mm 5), (7, .ptr 6 []), (41, .int .i64)], [(0, .var (.st (.pair (.int .i64) (.pair (.ms 1) (.pair (.ms 2) (.pair (.ms 3) (.ms 4))))))), (1, .row (.st (.pair (.int .i64) (.pair (.int .i64) (.pair (.int .i64) (.pair (.int .i64) (.int .i64))))))), (2, .row (.int .i64)), (3, .row (.int .i64)), (4, .row (.int .i64)), (5, .map (.int .i64) (.int .i64)), (6, .var (.st (.pair (.int .i64) (.pair (.ms 7) (.pair (.ms 8) (.pair (.ms 9) (.ms 10))))))), (7, .row (.st (.pair (.int .i64) (.pair (.int .i64) (.pair (.int .i64) (.pair (.int .i64) (.int .i64))))))), (8, .row (.int .i64)), (9, .row (.int .i64)), (10, .row (.int .i64))], 11, [], 618970019642687938426322176⟩), (10, ⟨[(1, .fp (.st (.pair (.int .i64) (.pair (.sl (.st (.pair (.int .i64) (.pair (.int .i64) (.pair (.int .i64) (.pair (.int .i64) (.int .i64))))))) (.pair (.sl (.int .i64)) (.pair (.sl (.int .i64)) (.sl (.int .i64)))))))), (2, .ptr 0 []), (6, .mm 5), (7, .ptr 6 []), (46, .int .i64)], [(0, .var (.st (.pair (.int .i64) (.pair (.ms 1) (.pair (.ms 2) (.pair (.ms 3) (.ms 4))))))), (1, .row (.st (.pair (.int .i64) (.pair (.int .i64) (.pair (.int .i64) (.pair (.int .i64) (.int .i64))))))), (2, .row (.int .i64)), (3, .row (.int .i64)), (4, .row (.int .i64)), (5, .map (.int .i64) (.int .i64)), (6, .var (.st (.pair (.int .i64) (.pair (.ms 7) (.pair (.ms 8) (.pair (.ms 9) (.ms 10))))))), (7, .row (.st (.pair (.int .i64) (.pair (.int .i64) (.pair (.int .i64) (.pair (.int .i64) (.int .i64))))))), (8, .row (.int .i64)), (9, .row (.int .i64)), (10, .row (.int .i64))], 11, [], 309485009821274699980618752⟩), (23, ⟨[(1, .fp (.st (.pair (.int .i64) (.pair (.sl (.st (.pair (.int .i64) (.pair (.int .i64) (.pair (.int .i64) (.pair (.int .i64) (.int .i64))))))) (.pair (.sl (.int .i64)) (.pair (.sl (.int .i64)) (.sl (.int .i64)))))))), (2, .ptr 0 []), (6, .mm 5), (7, .ptr 6 []), (14, .ptr 12 []), (15, .ms 14), (98, .int .i64)], [(0, .var (.st (.pair (.int .i64) (.pair (.ms 1) (.pair (.ms 2) (.pair (.ms 3) (.ms 4))))))), (1, .row (.st (.pair (.int .i64) (.pair (.int .i64) (.pair (.int .i64) (.pair (.int .i64) (.int .i64))))))), (2, .row (.int .i64)), (3, .row (.int .i64)), (4, .row (.int .i64)), (5, .map (.int .i64) (.int .i64)), (6, .var (.st (.pair (.int .i64) (.pair (.ms 7) (.pair (.ms 8) (.pair (.ms 9) (.ms 10))))))), (7, .row (.st (.pair (.int .i64) (.pair (.int .i64) (.pair (.int .i64) (.pair (.int .i64) (.int .i64))))))), (8, .row (.int .i64)), (9, .row (.int .i64)), (10, .row (.int .i64)), (11, .map (.st (.pair (.int .i64) (.pair (.int .i64) (.pair (.int .i64) (.pair (.int .i64) (.int .i64)))))) (.int .i64)), (12, .var (.st (.pair (.ms 13) (.mm 11)))), (13, .row (.st (.pair (.int .i64) (.pair (.int .i64) (.pair (.int .i64) (.pair (.int .i64) (.int .i64))))))), (14, .row (.int .i64))], 15, [], 10633823649366676926173106108067348480⟩), (32, ⟨[(1, .fp (.st (.pair (.int .i64) (.pair (.sl (.st (.pair (.int .i64) (.pair (.int .i64) (.pair (.int .i64) (.pair (.int .i64) (.int .i64))))))) (.pair (.sl (.int .i64)) (.pair (.sl (.int .i64)) (.sl (.int .i64)))))))), (2, .ptr 0 []), (6, .mm 5), (7, .ptr 6 []), (15, .ms 14), (131, .int .i64)], [(0, .var (.st (.pair (.int .i64) (.pair (.ms 1) (.pair (.ms 2) (.pair (.ms 3) (.ms 4))))))), (1, .row (.st (.pair (.int .i64) (.pair (.int .i64) (.pair (.int .i64) (.pair (.int .i64) (.int .i64))))))), (2, .row (.int .i64)), (3, .row (.int .i64)), (4, .row (.int .i64)), (5, .map (.int .i64) (.int .i64)), (6, .var (.st (.pair (.int .i64) (.pair (.ms 13) (.pair (.ms 8) (.pair (.ms 9) (.ms 10))))))), (8, .row (.int .i64)), (9, .row (.int .i64)), (10, .row (.int .i64)), (13, .row (.st (.pair (.int .i64) (.pair (.int .i64) (.pair (.int .i64) (.pair (.int .i64) (.int .i64))))))), (14, .row (.int .i64))], 15, [], 44598768138125878775363729548437268867317760⟩), (37, ⟨[(2, .ptr 0 []), (6, .mm 5), (7, .ptr 6 []), (15, .ms 14), (148, .int .i64)], [(0, .var (.st (.pair (.int .i64) (.pair (.ms 1) (.pair (.ms 2) (.pair (.ms 3) (.ms 4))))))), (1, .row (.st (.pair (.int .i64) (.pair (.int .i64) (.pair (.int .i64) (.pair (.int .i64) (.int .i64))))))), (2, .row (.int .i64)), (3, .row (.int .i64)), (4, .row (.int .i64)), (5, .map (.int .i64) (.int .i64)), (6, .var (.st (.pair (.int .i64) (.pair (.ms 13) (.pair (.ms 8) (.pair (.ms 9) (.ms 10))))))), (8, .row (.int .i64)), (9, .row (.int .i64)), (10, .row (.int .i64)), (13, .row (.st (.pair (.int .i64) (.pair (.int .i64) (.pair (.int .i64) (.pair (.int .i64) (.int .i64))))))), (14, .row (.int .i64))], 15, [], 1496577319814921411750603004129981449753890859778048⟩)], keeps := [1, 11], orders := [(17, [(0, .strong), (1, .strong), (2, .strong), (3, .strong), (4, .strong), (5, .strong), (6, .strong), (7, .eff true), (8, .eff false), (9, .strong), (10, .eff false)]), (34, [(0, .strong), (1, .strong), (2, .strong), (3, .strong), (4, .strong), (5, .strong), (6, .eff true), (7, .eff false), (8, .strong), (9, .eff false)]), (41, [(0, .strong), (1, .strong), (2, .strong), (3, .strong), (4, .strong), (5, .strong), (6, .eff true), (7, .eff false), (8, .strong), (9, .eff false)])], turns := [(0, [⟨0, [(1, .st (.pair (.int .i64) (.pair (.int .i64) (.pair (.int .i64) (.pair (.int .i64) (.int .i64)))))), (2, .int .i64), (3, .int .i64), (4, .int .i64)], .st (.pair (.int .i64) (.pair (.ms 1) (.pair (.ms 2) (.pair (.ms 3) (.ms 4)))))⟩]), (5, [⟨6, [(7, .st (.pair (.int .i64) (.pair (.int .i64) (.pair (.int .i64) (.pair (.int .i64) (.int .i64)))))), (8, .int .i64), (9, .int .i64), (10, .int .i64)], .st (.pair (.int .i64) (.pair (.ms 7) (.pair (.ms 8) (.pair (.ms 9) (.ms 10)))))⟩]), (20, [⟨12, [(13, .st (.pair (.int .i64) (.pair (.int .i64) (.pair (.int .i64) (.pair (.int .i64) (.int .i64))))))], .st (.pair (.ms 13) (.mm 11))⟩])] }
def Small58.S : Sig := { f := 58, params := [.st (.pair (.int .i64) (.pair (.sl (.st (.pair (.int .i64) (.pair (.int .i64) (.pair (.int .i64) (.pair (.int .i64) (.int .i64))))))) (.pair (.sl (.int .i64)) (.pair (.sl (.int .i64)) (.sl (.int .i64))))))], objs := [], res := .tup (.pair (.st (.pair (.int .i64) (.pair (.sl (.st (.pair (.int .i64) (.pair (.int .i64) (.pair (.int .i64) (.pair (.int .i64) (.int .i64))))))) (.pair (.sl (.int .i64)) (.pair (.sl (.int .i64)) (.sl (.int .i64))))))) (.pair (.int .i64) .unit)), outs := [], fix := [], run := fun k ds os => Small58 k ds }
def Small58.G : List Sig := [Used29.S, again111.S, swept110.S]
theorem Small58.eq (k : Nat) : ∀ ds os, Small58.S.run k ds os = runF ⟨types, Small58.G, Small58.A, k, 0, []⟩ Try.f58 (codeOf Try.f58) Small58.S.params Small58.S.objs Small58.S.res Small58.S.outs ds os := by
  intro ds os; kernel_rfl
theorem Small58.dr : DrOk Try.prog Small58.A (codeOf Try.f58) := ⟨by kernel_rfl, by kernel_rfl⟩
theorem Small58.ok (k : Nat) : SoundAt Try.prog k Small58.S :=
  runF_sound (X := ⟨types, Small58.G, Small58.A, k, 0, []⟩) types_ok (mem_all (⟨Used29.ok k, ⟨again111.ok k, ⟨swept110.ok k, trivial⟩⟩⟩)) (fn := Try.f58) (c := codeOf Try.f58) rfl (by kernel_rfl) rfl rfl Small58.dr (Small58.eq k)
end Go.Proofs.Ytjbdhaenakcclaa.St

/- Go functions as plain Lean functions, and their contracts. -/
set_option linter.unusedVariables false
set_option maxRecDepth 100000
noncomputable section
namespace Go.Proofs.Ytjbdhaenakcclaa.St
open Go Go.Proofs.Ytjbdhaenakcclaa.Gp
abbrev GrpValue19.T := (Int → (Int × ((List (Int × (Int × (Int × (Int × Int))))) × ((List Int) × ((List Int) × (List Int))))) → Int → Int → Unit → Unit → (List (Int × Int)) → Option (Int × (Unit × (List (Int × Int))))) × ((Int × ((List (Int × (Int × (Int × (Int × Int))))) × ((List Int) × ((List Int) × (List Int))))) → Int → Int → Int → Unit → (List (Int × Int)) → Option (Int × (List (Int × Int))))
def Value173.b (r_ : GrpValue19.T) (k : Nat) (x : Int) (t1 : (Int × ((List (Int × (Int × (Int × (Int × Int))))) × ((List Int) × ((List Int) × (List Int)))))) (t2 : Int) (t3 : Int) (_ : Unit) (o0 : Unit) (o1 : (List (Int × Int))) : Option (Int × (Unit × (List (Int × Int)))) :=
  (r_.2 t1 t2 t3 x () o1).bind fun t12 =>
  some (t12.1, (), t12.2)
def Value19.b (r_ : GrpValue19.T) (k : Nat) (c : (Int × ((List (Int × (Int × (Int × (Int × Int))))) × ((List Int) × ((List Int) × (List Int)))))) (state : Int) (in_ : Int) (k_ : Int) (_ : Unit) (o0 : (List (Int × Int))) : Option (Int × (List (Int × Int))) :=
  let t19 : (Option Int) := (mget (.int .i64) (.int .i64) o0 k_)
  cond (Option.isSome t19)
    (some ((Option.getD (α := Int) t19 (0 : Int)), o0))
    ((rd c.2.1 k_).bind fun t27 =>
    Option.bind
      (cond (t27.1 == 0)
        (some ((), t27.2.2.2.2, o0, ()))
        (Option.bind
          (cond (t27.1 == 1)
            (some (state, in_, (), t27, (c, state, in_, (), ()), (t27.1 == 1), o0, ()))
            (some (state, in_, (), t27, (c, state, in_, (), ()), (t27.1 == 2), o0, ())) : Option (Int × (Int × (Unit × ((Int × (Int × (Int × (Int × Int)))) × (((Int × ((List (Int × (Int × (Int × (Int × Int))))) × ((List Int) × ((List Int) × (List Int))))) × (Int × (Int × (Unit × Unit)))) × (Bool × ((List (Int × Int)) × Unit)))))))) fun ((state_1, in__1, _, g, v, t36, o0_1, _) : (Int × (Int × (Unit × ((Int × (Int × (Int × (Int × Int)))) × (((Int × ((List (Int × (Int × (Int × (Int × Int))))) × ((List Int) × ((List Int) × (List Int))))) × (Int × (Int × (Unit × Unit)))) × (Bool × ((List (Int × Int)) × Unit)))))))) =>
        Option.bind
          (cond t36
            ((if g.2.2.2.2 < 0 then none else some (shrI .i64 (Option.getD (α := Int) (mget (.int .i64) (.int .i64) (mput (.int .i64) (.int .i64) (mput (.int .i64) (.int .i64) ([] : (List (Int × Int))) (1 : Int) in__1) (2 : Int) state_1) g.1) (0 : Int)) g.2.2.2.2)).bind fun t48 =>
            some ((), (ibits .and .i64 t48 1), o0_1, ()))
            (Option.bind
              (cond (t27.1 == 3)
                ((r_.1 g.2.1 v.1 v.2.1 v.2.2.1 v.2.2.2.1 () o0_1).bind fun t55 =>
                some ((), (ibits .xor .i64 t55.1 1), t55.2.2, ()))
                (Option.bind
                  (cond (t27.1 == 4)
                    ((r_.1 g.2.1 v.1 v.2.1 v.2.2.1 v.2.2.2.1 () o0_1).bind fun t62 =>
                    (r_.1 g.2.2.1 v.1 v.2.1 v.2.2.1 v.2.2.2.1 () t62.2.2).bind fun t66 =>
                    some ((), (mnI t62.1 t66.1), t66.2.2, ()))
                    (Option.bind
                      (cond (t27.1 == 5)
                        ((r_.1 g.2.1 v.1 v.2.1 v.2.2.1 v.2.2.2.1 () o0_1).bind fun t73 =>
                        (r_.1 g.2.2.1 v.1 v.2.1 v.2.2.1 v.2.2.2.1 () t73.2.2).bind fun t77 =>
                        some ((), (mxI t73.1 t77.1), t77.2.2, ()))
                        (Option.bind
                          (cond (t27.1 == 6)
                            ((r_.1 g.2.1 v.1 v.2.1 v.2.2.1 v.2.2.2.1 () o0_1).bind fun t84 =>
                            (r_.1 g.2.2.1 v.1 v.2.1 v.2.2.1 v.2.2.2.1 () t84.2.2).bind fun t88 =>
                            some ((), (Int.tmod (w64 (t84.1 + t88.1)) 2), t88.2.2, ()))
                            (Option.bind
                              (cond (t27.1 == 7)
                                ((r_.1 g.2.2.2.1 v.1 v.2.1 v.2.2.1 v.2.2.2.1 () o0_1).bind fun t96 =>
                                (r_.1 g.2.1 v.1 v.2.1 v.2.2.1 v.2.2.2.1 () t96.2.2).bind fun t100 =>
                                Option.bind
                                  (cond (decide (t100.1 > 0))
                                    ((r_.1 g.2.2.1 v.1 v.2.1 v.2.2.1 v.2.2.2.1 () t100.2.2).bind fun t105 =>
                                    some ((), t105.1, t105.2.2, ()))
                                    (some ((), t96.1, t100.2.2, ())) : Option (Unit × (Int × ((List (Int × Int)) × Unit)))) fun ((_, n, o0_2, _) : (Unit × (Int × ((List (Int × Int)) × Unit)))) =>
                                some ((), n, o0_2, ()))
                                (some ((), 0, o0_1, ())) : Option (Unit × (Int × ((List (Int × Int)) × Unit)))) fun ((_, n_1, o0_3, _) : (Unit × (Int × ((List (Int × Int)) × Unit)))) =>
                            some ((), n_1, o0_3, ())) : Option (Unit × (Int × ((List (Int × Int)) × Unit)))) fun ((_, n_2, o0_4, _) : (Unit × (Int × ((List (Int × Int)) × Unit)))) =>
                        some ((), n_2, o0_4, ())) : Option (Unit × (Int × ((List (Int × Int)) × Unit)))) fun ((_, n_3, o0_5, _) : (Unit × (Int × ((List (Int × Int)) × Unit)))) =>
                    some ((), n_3, o0_5, ())) : Option (Unit × (Int × ((List (Int × Int)) × Unit)))) fun ((_, n_4, o0_6, _) : (Unit × (Int × ((List (Int × Int)) × Unit)))) =>
                some ((), n_4, o0_6, ())) : Option (Unit × (Int × ((List (Int × Int)) × Unit)))) fun ((_, n_5, o0_7, _) : (Unit × (Int × ((List (Int × Int)) × Unit)))) =>
            some ((), n_5, o0_7, ())) : Option (Unit × (Int × ((List (Int × Int)) × Unit)))) fun ((_, n_6, o0_8, _) : (Unit × (Int × ((List (Int × Int)) × Unit)))) =>
        some ((), n_6, o0_8, ())) : Option (Unit × (Int × ((List (Int × Int)) × Unit)))) fun ((_, n_7, o0_9, _) : (Unit × (Int × ((List (Int × Int)) × Unit)))) =>
    some (n_7, (mput (.int .i64) (.int .i64) o0_9 k_ n_7)))
def GrpValue19 : Nat → GrpValue19.T
  | 0 => ((fun _ _ _ _ _ _ _ => none), (fun _ _ _ _ _ _ => none))
  | k + 1 => (Value173.b (GrpValue19 k) k, Value19.b (GrpValue19 k) k)
def Value173 (k : Nat) : Int → (Int × ((List (Int × (Int × (Int × (Int × Int))))) × ((List Int) × ((List Int) × (List Int))))) → Int → Int → Unit → Unit → (List (Int × Int)) → Option (Int × (Unit × (List (Int × Int)))) := (GrpValue19 k).1
def Value19 (k : Nat) : (Int × ((List (Int × (Int × (Int × (Int × Int))))) × ((List Int) × ((List Int) × (List Int))))) → Int → Int → Int → Unit → (List (Int × Int)) → Option (Int × (List (Int × Int))) := (GrpValue19 k).2
def Value173.A : Ann := { conds := [], blocks := [], loops := [], keeps := [], orders := [] }
def Value173.S : Sig := { f := 73, params := [.int .i64, .fp (.st (.pair (.int .i64) (.pair (.sl (.st (.pair (.int .i64) (.pair (.int .i64) (.pair (.int .i64) (.pair (.int .i64) (.int .i64))))))) (.pair (.sl (.int .i64)) (.pair (.sl (.int .i64)) (.sl (.int .i64))))))), .fp (.int .i64), .fp (.int .i64), .ptr 0 []], objs := [.var (.mm 1), .map (.int .i64) (.int .i64)], res := .int .i64, outs := [.var (.mm 1), .map (.int .i64) (.int .i64)], fix := [], run := fun k ds os => Value173 k ds.1 ds.2.1 ds.2.2.1 ds.2.2.2.1 ds.2.2.2.2 os.1 os.2 }
def Value19.A : Ann := { conds := [(2097161, ⟨[(9, .ptr 1 []), (15, .int .i64)], [(0, .map (.int .i64) (.int .i64)), (1, .var (.mm 0))], 2, [], 81129638414606681695771825307648⟩), (2359307, ⟨[(6, .fp (.int .i64)), (7, .fp (.int .i64)), (9, .ptr 1 []), (13, .fp (.st (.pair (.int .i64) (.pair (.int .i64) (.pair (.int .i64) (.pair (.int .i64) (.int .i64))))))), (14, .fn 73 (.pair (.fp (.st (.pair (.int .i64) (.pair (.sl (.st (.pair (.int .i64) (.pair (.int .i64) (.pair (.int .i64) (.pair (.int .i64) (.int .i64))))))) (.pair (.sl (.int .i64)) (.pair (.sl (.int .i64)) (.sl (.int .i64)))))))) (.pair (.fp (.int .i64)) (.pair (.fp (.int .i64)) (.pair (.ptr 1 []) .unit))))), (36, .bool)], [(0, .map (.int .i64) (.int .i64)), (1, .var (.mm 0))], 2, [], 343597383680⟩), (2359308, ⟨[(9, .ptr 1 []), (15, .int .i64)], [(0, .map (.int .i64) (.int .i64)), (1, .var (.mm 0))], 2, [], 81129638414606681695239249362944⟩), (3276814, ⟨[(9, .ptr 1 []), (15, .int .i64)], [(0, .map (.int .i64) (.int .i64)), (1, .var (.mm 0))], 2, [], 81129638414606677192189377806336⟩), (3735568, ⟨[(9, .ptr 1 []), (15, .int .i64)], [(0, .map (.int .i64) (.int .i64)), (1, .var (.mm 0))], 2, [], 81129638414606105235036701753344⟩), (4456466, ⟨[(9, .ptr 1 []), (15, .int .i64)], [(0, .map (.int .i64) (.int .i64)), (1, .var (.mm 0))], 2, [], 81129638413426090075071593873408⟩), (5177364, ⟨[(9, .ptr 1 []), (15, .int .i64)], [(0, .map (.int .i64) (.int .i64)), (1, .var (.mm 0))], 2, [], 81129635996755042466530655764480⟩), (5963798, ⟨[(9, .ptr 1 []), (15, .int .i64)], [(0, .map (.int .i64) (.int .i64)), (1, .var (.mm 0))], 2, [], 81119734894292398653589812183040⟩), (6619160, ⟨[(9, .ptr 1 []), (15, .int .i64)], [(0, .map (.int .i64) (.int .i64)), (1, .var (.mm 0))], 2, [], 76059036013693764089802192355328⟩)], blocks := [], loops := [], keeps := [5, 6, 7, 13], orders := [(16, [(0, .strong), (1, .strong), (2, .strong), (4, .weak), (5, .weak), (6, .weak), (3, .eff false), (7, .eff false), (8, .strong), (9, .strong)]), (18, [(0, .strong), (1, .strong), (2, .strong), (4, .weak), (5, .weak), (6, .weak), (3, .eff false), (7, .eff false), (8, .strong), (9, .strong)]), (20, [(0, .strong), (1, .strong), (2, .strong), (4, .weak), (5, .weak), (6, .weak), (3, .eff false), (7, .eff false), (8, .strong), (9, .strong), (10, .strong)])] }
def Value19.S : Sig := { f := 19, params := [.st (.pair (.int .i64) (.pair (.sl (.st (.pair (.int .i64) (.pair (.int .i64) (.pair (.int .i64) (.pair (.int .i64) (.int .i64))))))) (.pair (.sl (.int .i64)) (.pair (.sl (.int .i64)) (.sl (.int .i64)))))), .int .i64, .int .i64, .int .i64, .mm 0], objs := [.map (.int .i64) (.int .i64)], res := .int .i64, outs := [.map (.int .i64) (.int .i64)], fix := [], run := fun k ds os => Value19 k ds.1 ds.2.1 ds.2.2.1 ds.2.2.2.1 ds.2.2.2.2 os }
def Value173.G : List Sig := [Value19.S]
theorem Value173.eq (k : Nat) : ∀ ds os, Value173.S.run (k + 1) ds os = runF ⟨types, Value173.G, Value173.A, k, 0, []⟩ Try.f73 (codeOf Try.f73) Value173.S.params Value173.S.objs Value173.S.res Value173.S.outs ds os := by
  intro ds os; kernel_rfl
theorem Value173.dr : DrOk Try.prog Value173.A (codeOf Try.f73) := ⟨by kernel_rfl, by kernel_rfl⟩
def Value19.G : List Sig := [Value173.S]
theorem Value19.eq (k : Nat) : ∀ ds os, Value19.S.run (k + 1) ds os = runF ⟨types, Value19.G, Value19.A, k, 0, []⟩ Try.f19 (codeOf Try.f19) Value19.S.params Value19.S.objs Value19.S.res Value19.S.outs ds os := by
  intro ds os; kernel_rfl
theorem Value19.dr : DrOk Try.prog Value19.A (codeOf Try.f19) := ⟨by kernel_rfl, by kernel_rfl⟩
theorem GrpValue19.ok : ∀ k, SoundAt Try.prog k Value173.S ∧ SoundAt Try.prog k Value19.S := by
  intro k
  induction k with
  | zero => exact ⟨sound_none (fn := Try.f73) (c := codeOf Try.f73) rfl (by kernel_rfl) rfl (fun _ _ => rfl), sound_none (fn := Try.f19) (c := codeOf Try.f19) rfl (by kernel_rfl) rfl (fun _ _ => rfl)⟩
  | succ k ih => exact ⟨runF_sound (X := ⟨types, Value173.G, Value173.A, k, 0, []⟩) types_ok (mem_all (⟨ih.2, trivial⟩)) (fn := Try.f73) (c := codeOf Try.f73) rfl (by kernel_rfl) rfl rfl Value173.dr (Value173.eq k), runF_sound (X := ⟨types, Value19.G, Value19.A, k, 0, []⟩) types_ok (mem_all (⟨ih.1, trivial⟩)) (fn := Try.f19) (c := codeOf Try.f19) rfl (by kernel_rfl) rfl rfl Value19.dr (Value19.eq k)⟩
theorem Value19.ok (k : Nat) : SoundAt Try.prog k Value19.S := (GrpValue19.ok k).2
end Go.Proofs.Ytjbdhaenakcclaa.St
