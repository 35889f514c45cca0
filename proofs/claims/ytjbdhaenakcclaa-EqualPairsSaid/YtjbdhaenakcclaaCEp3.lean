/- Merged texts of one claim: a Go law, its functions without memory, and the plain law. The law returns true for every input; conditions: as the row says. -/
import Derived.Test.YtjbdhaenakcclaaCEp0
import Derived.Test.YtjbdhaenakcclaaCEp1
import Derived.Test.YtjbdhaenakcclaaCEp2
/- Go functions as plain Lean functions, and their contracts. -/
set_option linter.unusedVariables false
set_option maxRecDepth 100000
noncomputable section
namespace Go.Proofs.Ytjbdhaenakcclaa.St
open Go Go.Proofs.Ytjbdhaenakcclaa.Gp
def inputs79 (k : Nat) (kind : Int) : Option (Int × Unit) :=
  cond (cond (decide (kind < 0)) true (decide (kind ≥ 8)))
    (some ((-1), ()))
    ((rd ([0, 0, 0, 1, 2, 2, 2, 3] : List Int) kind).bind fun _ =>
    (rd ([0, 0, 0, 1, 2, 2, 2, 3] : List Int) kind).bind fun t12 =>
    some (t12, ()))
def inputs79.A : Ann := { conds := [], blocks := [], loops := [], keeps := [], orders := [] }
def inputs79.S : Sig := { f := 79, params := [.int .i64], objs := [], res := .int .i64, outs := [], fix := [], run := fun k ds os => inputs79 k ds }
def inputs79.G : List Sig := []
theorem inputs79.eq (k : Nat) : ∀ ds os, inputs79.S.run k ds os = runF ⟨types, inputs79.G, inputs79.A, k, 0, []⟩ Try.f79 (codeOf Try.f79) inputs79.S.params inputs79.S.objs inputs79.S.res inputs79.S.outs ds os := by
  intro ds os; kernel_rfl
theorem inputs79.dr : DrOk Try.prog inputs79.A (codeOf Try.f79) := ⟨by kernel_rfl, by kernel_rfl⟩
theorem inputs79.ok (k : Nat) : SoundAt Try.prog k inputs79.S :=
  runF_sound (X := ⟨types, inputs79.G, inputs79.A, k, 0, []⟩) types_ok (fun s hs => absurd hs List.not_mem_nil) (fn := Try.f79) (c := codeOf Try.f79) rfl (by kernel_rfl) rfl rfl inputs79.dr (inputs79.eq k)

def one72.l0 (k : Nat) (i : Int) (t13 : (Int × (Int × (Int × (Int × Int))))) (t17 : (Int × Unit)) : ((Int × ((List (Int × (Int × (Int × (Int × Int))))) × ((List Int) × ((List Int) × (List Int))))) × ((Int × (Int × (Int × (Int × Int)))) × (Unit × (Int × (List Int))))) → Option (((Int × ((List (Int × (Int × (Int × (Int × Int))))) × ((List Int) × ((List Int) × (List Int))))) × ((Int × (Int × (Int × (Int × Int)))) × (Unit × (Int × (List Int))))) ⊕ (((Int × ((List (Int × (Int × (Int × (Int × Int))))) × ((List Int) × ((List Int) × (List Int))))) × (Int × (Int × (Int × (Int × Int))))) ⊕ (Int × Unit)))
  | (c_1, g, _, t28, o1) =>
    cond (decide (t28 < (List.length ([t13.2.1, t13.2.2.1, t13.2.2.2.1] : List Int) : Int)))
      ((rd o1 t28).bind fun _ =>
      (rd o1 t28).bind fun t32 =>
      cond (cond (decide (t28 < t17.1)) (cond (decide (t32 < 0)) true (decide (t32 ≥ i))) false)
        (some (Sum.inr (Sum.inr (9, ()))))
        (cond (cond (decide (t28 ≥ t17.1)) (t32 != 0) false)
          (some (Sum.inr (Sum.inr (3, ()))))
          (some (Sum.inl (c_1, g, (), (w64 (t28 + 1)), o1)))))
      (some (Sum.inr (Sum.inl (c_1, g))))
def one72 (k : Nat) (c : (Int × ((List (Int × (Int × (Int × (Int × Int))))) × ((List Int) × ((List Int) × (List Int)))))) (i : Int) : Option (Int × Unit) :=
  (rd c.2.1 i).bind fun t13 =>
  (inputs79 k t13.1).bind fun t17 =>
  cond (decide (t17.1 < 0))
    (some (1, ()))
    (Option.bind
      (loopN (one72.l0 k i t13 t17) k (c, t13, (), 0, ([t13.2.1, t13.2.2.1, t13.2.2.2.1] : List Int)) : Option (((Int × ((List (Int × (Int × (Int × (Int × Int))))) × ((List Int) × ((List Int) × (List Int))))) × (Int × (Int × (Int × (Int × Int))))) ⊕ (Int × Unit))) (joined fun ((c_2, g_1) : ((Int × ((List (Int × (Int × (Int × (Int × Int))))) × ((List Int) × ((List Int) × (List Int))))) × (Int × (Int × (Int × (Int × Int)))))) =>
      (rd ([2, c_2.1, (List.length c_2.2.2.2.1 : Int), 1, 1, 1, 1, 1] : List Int) g_1.1).bind fun _ =>
      (rd ([2, c_2.1, (List.length c_2.2.2.2.1 : Int), 1, 1, 1, 1, 1] : List Int) g_1.1).bind fun t62 =>
      cond (cond (decide (g_1.2.2.2.2 < 0)) true (decide (g_1.2.2.2.2 ≥ t62)))
        (some (1, ()))
        (some (0, ()))))
def one72.A : Ann := { conds := [], blocks := [(0, ⟨[(2, .fp (.st (.pair (.int .i64) (.pair (.sl (.st (.pair (.int .i64) (.pair (.int .i64) (.pair (.int .i64) (.pair (.int .i64) (.int .i64))))))) (.pair (.sl (.int .i64)) (.pair (.sl (.int .i64)) (.sl (.int .i64)))))))), (5, .fp (.st (.pair (.int .i64) (.pair (.int .i64) (.pair (.int .i64) (.pair (.int .i64) (.int .i64)))))))], [], 0, [], 9007198986305936⟩)], loops := [(6, ⟨[(2, .fp (.st (.pair (.int .i64) (.pair (.sl (.st (.pair (.int .i64) (.pair (.int .i64) (.pair (.int .i64) (.pair (.int .i64) (.int .i64))))))) (.pair (.sl (.int .i64)) (.pair (.sl (.int .i64)) (.sl (.int .i64)))))))), (5, .fp (.st (.pair (.int .i64) (.pair (.int .i64) (.pair (.int .i64) (.pair (.int .i64) (.int .i64))))))), (26, .ms 1), (28, .int .i64)], [(1, .row (.int .i64))], 2, [], 9007198986305936⟩)], keeps := [2, 5], orders := [] }
def one72.S : Sig := { f := 72, params := [.st (.pair (.int .i64) (.pair (.sl (.st (.pair (.int .i64) (.pair (.int .i64) (.pair (.int .i64) (.pair (.int .i64) (.int .i64))))))) (.pair (.sl (.int .i64)) (.pair (.sl (.int .i64)) (.sl (.int .i64)))))), .int .i64], objs := [], res := .int .i64, outs := [], fix := [], run := fun k ds os => one72 k ds.1 ds.2 }
def one72.G : List Sig := [inputs79.S]
theorem one72.eq (k : Nat) : ∀ ds os, one72.S.run k ds os = runF ⟨types, one72.G, one72.A, k, 0, []⟩ Try.f72 (codeOf Try.f72) one72.S.params one72.S.objs one72.S.res one72.S.outs ds os := by
  intro ds os; kernel_rfl
theorem one72.dr : DrOk Try.prog one72.A (codeOf Try.f72) := ⟨by kernel_rfl, by kernel_rfl⟩
theorem one72.ok (k : Nat) : SoundAt Try.prog k one72.S :=
  runF_sound (X := ⟨types, one72.G, one72.A, k, 0, []⟩) types_ok (mem_all (⟨inputs79.ok k, trivial⟩)) (fn := Try.f72) (c := codeOf Try.f72) rfl (by kernel_rfl) rfl rfl one72.dr (one72.eq k)

def Grow112 (k : Nat) (_ : Unit) (n : Int) : Option (Unit × (List Int)) :=
  Option.bind
    (cond (decide (n < 0))
      (none)
      (some ()) : Option Unit) fun (_ : Unit) =>
  let t14 : Int := (w64 (n - (w64 (0 - 0))))
  Option.bind
    (cond (decide (t14 > 0))
      ((if (0 : Int) = 0 ∧ 0 = 0 then some () else none).bind fun _ =>
      (if 0 < t14 ∧ t14 * 8 ≤ 140737488355328 then some () else none).bind fun _ =>
      (slc (List.replicate (Int.toNat t14) 0) 0 0).bind fun t25 =>
      some ((), t25))
      (some ((), [])) : Option (Unit × (List Int))) fun ((_, o0) : (Unit × (List Int))) =>
  some ((), o0)
def Grow112.A : Ann := { conds := [(393218, ⟨[(0, .nil)], [], 0, [], 128⟩), (1048581, ⟨[(0, .ms 0)], [(0, .row (.int .i64))], 1, [(0, .int .i64)], 66977793⟩)], blocks := [], loops := [], keeps := [], orders := [] }
def Grow112.S : Sig := { f := 112, params := [.nil, .int .i64], objs := [], res := .ms 0, outs := [.row (.int .i64)], fix := [], run := fun k ds os => Grow112 k ds.1 ds.2 }
def Grow112.G : List Sig := []
theorem Grow112.eq (k : Nat) : ∀ ds os, Grow112.S.run k ds os = runF ⟨types, Grow112.G, Grow112.A, k, 0, []⟩ Try.f112 (codeOf Try.f112) Grow112.S.params Grow112.S.objs Grow112.S.res Grow112.S.outs ds os := by
  intro ds os; kernel_rfl
theorem Grow112.dr : DrOk Try.prog Grow112.A (codeOf Try.f112) := ⟨by kernel_rfl, by kernel_rfl⟩
theorem Grow112.ok (k : Nat) : SoundAt Try.prog k Grow112.S :=
  runF_sound (X := ⟨types, Grow112.G, Grow112.A, k, 0, []⟩) types_ok (fun s hs => absurd hs List.not_mem_nil) (fn := Try.f112) (c := codeOf Try.f112) rfl (by kernel_rfl) rfl rfl Grow112.dr (Grow112.eq k)

def Concat59.l0 (k : Nat) (slices : (List (List Int))) : (Int × Int) → Option ((Int × Int) ⊕ Int)
  | (size, t11) =>
    cond (decide (t11 < (List.length slices : Int)))
      ((rd slices t11).bind fun t13 =>
      let t18 : Int := (w64 (size + (List.length t13 : Int)))
      Option.bind
        (cond (decide (t18 < 0))
          (none)
          (some ()) : Option Unit) fun (_ : Unit) =>
      some (Sum.inl (t18, (w64 (t11 + 1)))))
      (some (Sum.inr size))
def Concat59.l1 (k : Nat) (slices : (List (List Int))) : (Unit × (Int × (List Int))) → Option ((Unit × (Int × (List Int))) ⊕ (Unit × (List Int)))
  | (_, t27, o0) =>
    cond (decide (t27 < (List.length slices : Int)))
      ((rd slices t27).bind fun t29 =>
      (if room (List.length o0 + List.length t29) 8 then some () else none).bind fun _ =>
      some (Sum.inl ((), (w64 (t27 + 1)), (o0 ++ t29))))
      (some (Sum.inr ((), o0)))
def Concat59 (k : Nat) (slices : (List (List Int))) : Option ((List Int) × Unit) :=
  Option.bind
    (loopN (Concat59.l0 k slices) k (0, 0) : Option Int) fun (size_1 : Int) =>
  (Grow112 k () size_1).bind fun t24 =>
  Option.bind
    (loopN (Concat59.l1 k slices) k ((), 0, t24.2) : Option (Unit × (List Int))) fun ((_, o0_1) : (Unit × (List Int))) =>
  some (o0_1, ())
def Concat59.A : Ann := { conds := [(1310727, ⟨[], [], 0, [], 2097152⟩)], blocks := [(0, ⟨[(3, .int .i64)], [], 0, [], 8386600⟩), (2, ⟨[(6, .ms 0)], [(0, .row (.int .i64))], 1, [], 34225520960⟩)], loops := [(3, ⟨[(3, .int .i64), (11, .int .i64)], [], 0, [], 8386600⟩), (11, ⟨[(6, .ms 0), (27, .int .i64)], [(0, .row (.int .i64))], 1, [], 34225520960⟩)], keeps := [], orders := [] }
def Concat59.S : Sig := { f := 59, params := [.sl (.sl (.int .i64))], objs := [], res := .sl (.int .i64), outs := [], fix := [], run := fun k ds os => Concat59 k ds }
def Concat59.G : List Sig := [Grow112.S]
theorem Concat59.eq (k : Nat) : ∀ ds os, Concat59.S.run k ds os = runF ⟨types, Concat59.G, Concat59.A, k, 0, []⟩ Try.f59 (codeOf Try.f59) Concat59.S.params Concat59.S.objs Concat59.S.res Concat59.S.outs ds os := by
  intro ds os; kernel_rfl
theorem Concat59.dr : DrOk Try.prog Concat59.A (codeOf Try.f59) := ⟨by kernel_rfl, by kernel_rfl⟩
theorem Concat59.ok (k : Nat) : SoundAt Try.prog k Concat59.S :=
  runF_sound (X := ⟨types, Concat59.G, Concat59.A, k, 0, []⟩) types_ok (mem_all (⟨Grow112.ok k, trivial⟩)) (fn := Try.f59) (c := codeOf Try.f59) rfl (by kernel_rfl) rfl rfl Concat59.dr (Concat59.eq k)

def Check18.l0 (k : Nat) (c : (Int × ((List (Int × (Int × (Int × (Int × Int))))) × ((List Int) × ((List Int) × (List Int)))))) : ((Int × ((List (Int × (Int × (Int × (Int × Int))))) × ((List Int) × ((List Int) × (List Int))))) × Int) → Option (((Int × ((List (Int × (Int × (Int × (Int × Int))))) × ((List Int) × ((List Int) × (List Int))))) × Int) ⊕ ((Int × ((List (Int × (Int × (Int × (Int × Int))))) × ((List Int) × ((List Int) × (List Int))))) ⊕ (Int × Unit)))
  | (c_1, t45) =>
    cond (decide (t45 < (List.length c.2.1 : Int)))
      ((one72 k c_1 t45).bind fun t50 =>
      cond (t50.1 != 0)
        (some (Sum.inr (Sum.inr (t50.1, ()))))
        (some (Sum.inl (c_1, (w64 (t45 + 1))))))
      (some (Sum.inr (Sum.inl c_1)))
def Check18.l1 (k : Nat) (t60 : ((List Int) × Unit)) : ((Int × ((List (Int × (Int × (Int × (Int × Int))))) × ((List Int) × ((List Int) × (List Int))))) × Int) → Option (((Int × ((List (Int × (Int × (Int × (Int × Int))))) × ((List Int) × ((List Int) × (List Int))))) × Int) ⊕ ((Int × ((List (Int × (Int × (Int × (Int × Int))))) × ((List Int) × ((List Int) × (List Int))))) ⊕ (Int × Unit)))
  | (c_3, t62) =>
    cond (decide (t62 < (List.length t60.1 : Int)))
      ((rd t60.1 t62).bind fun t64 =>
      cond (cond (decide (t64 < 0)) true (decide (t64 ≥ (List.length c_3.2.1 : Int))))
        (some (Sum.inr (Sum.inr (4, ()))))
        (some (Sum.inl (c_3, (w64 (t62 + 1))))))
      (some (Sum.inr (Sum.inl c_3)))
def Check18.l2 (k : Nat) (c_4 : (Int × ((List (Int × (Int × (Int × (Int × Int))))) × ((List Int) × ((List Int) × (List Int)))))) : Int → Option (Int ⊕ (Unit ⊕ (Int × Unit)))
  | t79 =>
    cond (decide (t79 < (List.length c_4.2.2.2.2 : Int)))
      ((rd c_4.2.2.2.2 t79).bind fun t81 =>
      cond (cond (t81 != 0) (t81 != 1) false)
        (some (Sum.inr (Sum.inr (1, ()))))
        (some (Sum.inl (w64 (t79 + 1)))))
      (some (Sum.inr (Sum.inl ())))
def Check18 (k : Nat) (c : (Int × ((List (Int × (Int × (Int × (Int × Int))))) × ((List Int) × ((List Int) × (List Int)))))) : Option (Int × Unit) :=
  cond (cond (cond (cond (cond (decide (c.1 < 0)) true (decide (c.1 > 10))) true (decide ((List.length c.2.1 : Int) > 400))) true (decide ((List.length c.2.2.1 : Int) > 10))) true (decide ((List.length c.2.2.2.1 : Int) > 10)))
    (some (2, ()))
    (cond ((List.length c.2.2.2.2 : Int) != (List.length c.2.2.2.1 : Int))
      (some (3, ()))
      (Option.bind
        (loopN (Check18.l0 k c) k (c, 0) : Option ((Int × ((List (Int × (Int × (Int × (Int × Int))))) × ((List Int) × ((List Int) × (List Int))))) ⊕ (Int × Unit))) (joined fun (c_2 : (Int × ((List (Int × (Int × (Int × (Int × Int))))) × ((List Int) × ((List Int) × (List Int)))))) =>
        (Concat59 k [c_2.2.2.1, c_2.2.2.2.1]).bind fun t60 =>
        Option.bind
          (loopN (Check18.l1 k t60) k (c_2, 0) : Option ((Int × ((List (Int × (Int × (Int × (Int × Int))))) × ((List Int) × ((List Int) × (List Int))))) ⊕ (Int × Unit))) (joined fun (c_4 : (Int × ((List (Int × (Int × (Int × (Int × Int))))) × ((List Int) × ((List Int) × (List Int)))))) =>
          Option.bind
            (loopN (Check18.l2 k c_4) k 0 : Option (Unit ⊕ (Int × Unit))) (joined fun (_ : Unit) =>
            some (0, ()))))))
def Check18.A : Ann := { conds := [], blocks := [(0, ⟨[(1, .fp (.st (.pair (.int .i64) (.pair (.sl (.st (.pair (.int .i64) (.pair (.int .i64) (.pair (.int .i64) (.pair (.int .i64) (.int .i64))))))) (.pair (.sl (.int .i64)) (.pair (.sl (.int .i64)) (.sl (.int .i64))))))))], [], 0, [], 35993612646875164⟩), (2, ⟨[(1, .fp (.st (.pair (.int .i64) (.pair (.sl (.st (.pair (.int .i64) (.pair (.int .i64) (.pair (.int .i64) (.pair (.int .i64) (.int .i64))))))) (.pair (.sl (.int .i64)) (.pair (.sl (.int .i64)) (.sl (.int .i64))))))))], [], 0, [], 75553252039895896031300⟩), (4, ⟨[], [], 0, [], 1237335576375572960311771396⟩)], loops := [(6, ⟨[(1, .fp (.st (.pair (.int .i64) (.pair (.sl (.st (.pair (.int .i64) (.pair (.int .i64) (.pair (.int .i64) (.pair (.int .i64) (.int .i64))))))) (.pair (.sl (.int .i64)) (.pair (.sl (.int .i64)) (.sl (.int .i64)))))))), (45, .int .i64)], [], 0, [], 35993612646875164⟩), (13, ⟨[(1, .fp (.st (.pair (.int .i64) (.pair (.sl (.st (.pair (.int .i64) (.pair (.int .i64) (.pair (.int .i64) (.pair (.int .i64) (.int .i64))))))) (.pair (.sl (.int .i64)) (.pair (.sl (.int .i64)) (.sl (.int .i64)))))))), (62, .int .i64)], [], 0, [], 75553252039895896031300⟩), (19, ⟨[(79, .int .i64)], [], 0, [], 1237335576375572960311771396⟩)], keeps := [1], orders := [] }
def Check18.S : Sig := { f := 18, params := [.st (.pair (.int .i64) (.pair (.sl (.st (.pair (.int .i64) (.pair (.int .i64) (.pair (.int .i64) (.pair (.int .i64) (.int .i64))))))) (.pair (.sl (.int .i64)) (.pair (.sl (.int .i64)) (.sl (.int .i64))))))], objs := [], res := .int .i64, outs := [], fix := [], run := fun k ds os => Check18 k ds }
def Check18.G : List Sig := [Concat59.S, one72.S]
theorem Check18.eq (k : Nat) : ∀ ds os, Check18.S.run k ds os = runF ⟨types, Check18.G, Check18.A, k, 0, []⟩ Try.f18 (codeOf Try.f18) Check18.S.params Check18.S.objs Check18.S.res Check18.S.outs ds os := by
  intro ds os; kernel_rfl
theorem Check18.dr : DrOk Try.prog Check18.A (codeOf Try.f18) := ⟨by kernel_rfl, by kernel_rfl⟩
theorem Check18.ok (k : Nat) : SoundAt Try.prog k Check18.S :=
  runF_sound (X := ⟨types, Check18.G, Check18.A, k, 0, []⟩) types_ok (mem_all (⟨Concat59.ok k, ⟨one72.ok k, trivial⟩⟩)) (fn := Try.f18) (c := codeOf Try.f18) rfl (by kernel_rfl) rfl rfl Check18.dr (Check18.eq k)
end Go.Proofs.Ytjbdhaenakcclaa.St

/- Go functions as plain Lean functions, and their contracts. -/
set_option linter.unusedVariables false
set_option maxRecDepth 100000
noncomputable section
namespace Go.Proofs.Ytjbdhaenakcclaa.St
open Go Go.Proofs.Ytjbdhaenakcclaa.Gp
def Start80.l0 (k : Nat) (t12 : (List Int)) : (Int × Int) → Option ((Int × Int) ⊕ Int)
  | (out, t14) =>
    cond (decide (t14 < (List.length t12 : Int)))
      ((rd t12 t14).bind fun t17 =>
      (if t14 < 0 then none else some (shlI .i64 (ibits .and .i64 t17 1) t14)).bind fun t23 =>
      some (Sum.inl ((ibits .or .i64 out t23), (w64 (t14 + 1)))))
      (some (Sum.inr out))
def Start80 (k : Nat) (c : (Int × ((List (Int × (Int × (Int × (Int × Int))))) × ((List Int) × ((List Int) × (List Int)))))) : Option (Int × Unit) :=
  (slc c.2.2.2.2 0 (mnI (List.length c.2.2.2.2 : Int) 10)).bind fun t12 =>
  Option.bind
    (loopN (Start80.l0 k t12) k (0, 0) : Option Int) fun (out_1 : Int) =>
  some (out_1, ())
def Start80.A : Ann := { conds := [], blocks := [(0, ⟨[(3, .int .i64)], [], 0, [], 67092536⟩)], loops := [(3, ⟨[(3, .int .i64), (14, .int .i64)], [], 0, [], 67092536⟩)], keeps := [1], orders := [] }
def Start80.S : Sig := { f := 80, params := [.st (.pair (.int .i64) (.pair (.sl (.st (.pair (.int .i64) (.pair (.int .i64) (.pair (.int .i64) (.pair (.int .i64) (.int .i64))))))) (.pair (.sl (.int .i64)) (.pair (.sl (.int .i64)) (.sl (.int .i64))))))], objs := [], res := .int .i64, outs := [], fix := [], run := fun k ds os => Start80 k ds }
def Start80.G : List Sig := []
theorem Start80.eq (k : Nat) : ∀ ds os, Start80.S.run k ds os = runF ⟨types, Start80.G, Start80.A, k, 0, []⟩ Try.f80 (codeOf Try.f80) Start80.S.params Start80.S.objs Start80.S.res Start80.S.outs ds os := by
  intro ds os; kernel_rfl
theorem Start80.dr : DrOk Try.prog Start80.A (codeOf Try.f80) := ⟨by kernel_rfl, by kernel_rfl⟩
theorem Start80.ok (k : Nat) : SoundAt Try.prog k Start80.S :=
  runF_sound (X := ⟨types, Start80.G, Start80.A, k, 0, []⟩) types_ok (fun s hs => absurd hs List.not_mem_nil) (fn := Try.f80) (c := codeOf Try.f80) rfl (by kernel_rfl) rfl rfl Start80.dr (Start80.eq k)

def values69.l0 (k : Nat) (c : (Int × ((List (Int × (Int × (Int × (Int × Int))))) × ((List Int) × ((List Int) × (List Int)))))) (state : Int) (in_ : Int) : (Unit × (Int × (List Int))) → Option ((Unit × (Int × (List Int))) ⊕ (Unit × (List Int)))
  | (_, t17, t13) =>
    cond (decide (t17 < (List.length c.2.1 : Int)))
      ((rd c.2.1 t17).bind fun t20 =>
      Option.bind
        (cond (t20.1 == 0)
          ((rd t13 t17).bind fun _ =>
          (rd t13 t17).bind fun _ =>
          some ((), (List.set t13 (Int.toNat t17) t20.2.2.2.2)))
          (Option.bind
            (cond (t20.1 == 1)
              ((if t20.2.2.2.2 < 0 then none else some (shrI .i64 in_ t20.2.2.2.2)).bind fun t38 =>
              (rd t13 t17).bind fun _ =>
              (rd t13 t17).bind fun _ =>
              some ((), (List.set t13 (Int.toNat t17) (ibits .and .i64 t38 1))))
              (Option.bind
                (cond (t20.1 == 2)
                  ((if t20.2.2.2.2 < 0 then none else some (shrI .i64 state t20.2.2.2.2)).bind fun t48 =>
                  (rd t13 t17).bind fun _ =>
                  (rd t13 t17).bind fun _ =>
                  some ((), (List.set t13 (Int.toNat t17) (ibits .and .i64 t48 1))))
                  (Option.bind
                    (cond (t20.1 == 3)
                      ((rd t13 t20.2.1).bind fun _ =>
                      (rd t13 t20.2.1).bind fun t59 =>
                      (rd t13 t17).bind fun _ =>
                      (rd t13 t17).bind fun _ =>
                      some ((), (List.set t13 (Int.toNat t17) (w64 (1 - t59)))))
                      (Option.bind
                        (cond (t20.1 == 4)
                          ((rd t13 t20.2.1).bind fun _ =>
                          (rd t13 t20.2.1).bind fun t70 =>
                          (rd t13 t20.2.2.1).bind fun _ =>
                          (rd t13 t20.2.2.1).bind fun t75 =>
                          (rd t13 t17).bind fun _ =>
                          (rd t13 t17).bind fun _ =>
                          some ((), (List.set t13 (Int.toNat t17) (ibits .and .i64 t70 t75))))
                          (Option.bind
                            (cond (t20.1 == 5)
                              ((rd t13 t20.2.1).bind fun _ =>
                              (rd t13 t20.2.1).bind fun t86 =>
                              (rd t13 t20.2.2.1).bind fun _ =>
                              (rd t13 t20.2.2.1).bind fun t91 =>
                              (rd t13 t17).bind fun _ =>
                              (rd t13 t17).bind fun _ =>
                              some ((), (List.set t13 (Int.toNat t17) (ibits .or .i64 t86 t91))))
                              (Option.bind
                                (cond (t20.1 == 6)
                                  ((rd t13 t20.2.1).bind fun _ =>
                                  (rd t13 t20.2.1).bind fun t102 =>
                                  (rd t13 t20.2.2.1).bind fun _ =>
                                  (rd t13 t20.2.2.1).bind fun t107 =>
                                  (rd t13 t17).bind fun _ =>
                                  (rd t13 t17).bind fun _ =>
                                  some ((), (List.set t13 (Int.toNat t17) (ibits .xor .i64 t102 t107))))
                                  (Option.bind
                                    (cond (t20.1 == 7)
                                      ((rd t13 t20.2.2.2.1).bind fun _ =>
                                      (rd t13 t20.2.2.2.1).bind fun t118 =>
                                      (rd t13 t17).bind fun _ =>
                                      (rd t13 t17).bind fun _ =>
                                      let t13_8 : (List Int) := (List.set t13 (Int.toNat t17) t118)
                                      (rd t13_8 t20.2.1).bind fun _ =>
                                      (rd t13_8 t20.2.1).bind fun t124 =>
                                      Option.bind
                                        (cond (t124 == 1)
                                          ((rd t13_8 t20.2.2.1).bind fun _ =>
                                          (rd t13_8 t20.2.2.1).bind fun t132 =>
                                          (rd t13_8 t17).bind fun _ =>
                                          (rd t13_8 t17).bind fun _ =>
                                          some ((), (List.set t13_8 (Int.toNat t17) t132)))
                                          (some ((), t13_8)) : Option (Unit × (List Int))) fun ((_, t13_10) : (Unit × (List Int))) =>
                                      some ((), t13_10))
                                      (some ((), t13)) : Option (Unit × (List Int))) fun ((_, t13_11) : (Unit × (List Int))) =>
                                  some ((), t13_11)) : Option (Unit × (List Int))) fun ((_, t13_12) : (Unit × (List Int))) =>
                              some ((), t13_12)) : Option (Unit × (List Int))) fun ((_, t13_13) : (Unit × (List Int))) =>
                          some ((), t13_13)) : Option (Unit × (List Int))) fun ((_, t13_14) : (Unit × (List Int))) =>
                      some ((), t13_14)) : Option (Unit × (List Int))) fun ((_, t13_15) : (Unit × (List Int))) =>
                  some ((), t13_15)) : Option (Unit × (List Int))) fun ((_, t13_16) : (Unit × (List Int))) =>
              some ((), t13_16)) : Option (Unit × (List Int))) fun ((_, t13_17) : (Unit × (List Int))) =>
          some ((), t13_17)) : Option (Unit × (List Int))) fun ((_, t13_18) : (Unit × (List Int))) =>
      some (Sum.inl ((), (w64 (t17 + 1)), t13_18)))
      (some (Sum.inr ((), t13)))
def values69 (k : Nat) (c : (Int × ((List (Int × (Int × (Int × (Int × Int))))) × ((List Int) × ((List Int) × (List Int)))))) (state : Int) (in_ : Int) : Option ((List Int) × Unit) :=
  (if 0 ≤ (List.length c.2.1 : Int) ∧ (List.length c.2.1 : Int) ≤ (List.length c.2.1 : Int) ∧ (List.length c.2.1 : Int) * 8 ≤ 140737488355328 then some () else none).bind fun _ =>
  Option.bind
    (loopN (values69.l0 k c state in_) k ((), 0, (List.replicate (Int.toNat (List.length c.2.1 : Int)) 0)) : Option (Unit × (List Int))) fun ((_, t13_19) : (Unit × (List Int))) =>
  some (t13_19, ())
def values69.A : Ann := { conds := [(1572871, ⟨[(7, .ms 0)], [(0, .row (.int .i64))], 1, [], 21778071482940061661655974875633098424320⟩), (2031625, ⟨[(7, .ms 0)], [(0, .row (.int .i64))], 1, [], 21778071482940061661655974875624575598592⟩), (2686987, ⟨[(7, .ms 0)], [(0, .row (.int .i64))], 1, [], 21778071482940061661655974866837072510976⟩), (3342349, ⟨[(7, .ms 0)], [(0, .row (.int .i64))], 1, [], 21778071482940061661655965868433910792192⟩), (4063247, ⟨[(7, .ms 0)], [(0, .row (.int .i64))], 1, [], 21778071482940061661637528131559455981568⟩), (5111825, ⟨[(7, .ms 0)], [(0, .row (.int .i64))], 1, [], 21778071482940060452730155261003990827008⟩), (6160403, ⟨[(7, .ms 0)], [(0, .row (.int .i64))], 1, [], 21778071482860833499141710538039621582848⟩), (7208981, ⟨[(7, .ms 0)], [(0, .row (.int .i64))], 1, [], 21778066290643203126828346345136836313088⟩), (8192023, ⟨[(7, .ms 0)], [(0, .row (.int .i64))], 1, [], 21693000891209827045790131223775223480320⟩)], blocks := [(0, ⟨[(7, .ms 0)], [(0, .row (.int .i64))], 1, [], 43556142965880123323311949751266330936064⟩)], loops := [(3, ⟨[(7, .ms 0), (17, .int .i64)], [(0, .row (.int .i64))], 1, [], 43556142965880123323311949751266330936064⟩)], keeps := [3, 9], orders := [(15, [(0, .strong), (1, .strong), (2, .strong), (3, .strong), (4, .strong), (5, .strong), (6, .strong), (7, .strong), (8, .strong), (9, .strong), (10, .strong), (11, .strong), (12, .strong), (13, .strong), (14, .eff false)]), (17, [(0, .strong), (1, .strong), (2, .strong), (3, .strong), (4, .strong), (5, .strong), (6, .strong), (7, .strong), (8, .strong), (9, .strong), (10, .strong), (11, .strong), (12, .strong), (13, .strong), (14, .eff false)]), (19, [(0, .strong), (1, .strong), (2, .strong), (3, .strong), (4, .strong), (5, .strong), (6, .strong), (7, .strong), (8, .strong), (9, .strong), (10, .strong), (11, .strong), (12, .strong), (13, .strong), (14, .eff false)])] }
def values69.S : Sig := { f := 69, params := [.st (.pair (.int .i64) (.pair (.sl (.st (.pair (.int .i64) (.pair (.int .i64) (.pair (.int .i64) (.pair (.int .i64) (.int .i64))))))) (.pair (.sl (.int .i64)) (.pair (.sl (.int .i64)) (.sl (.int .i64)))))), .int .i64, .int .i64], objs := [], res := .sl (.int .i64), outs := [], fix := [], run := fun k ds os => values69 k ds.1 ds.2.1 ds.2.2 }
def values69.G : List Sig := []
theorem values69.eq (k : Nat) : ∀ ds os, values69.S.run k ds os = runF ⟨types, values69.G, values69.A, k, 0, []⟩ Try.f69 (codeOf Try.f69) values69.S.params values69.S.objs values69.S.res values69.S.outs ds os := by
  intro ds os; kernel_rfl
theorem values69.dr : DrOk Try.prog values69.A (codeOf Try.f69) := ⟨by kernel_rfl, by kernel_rfl⟩
theorem values69.ok (k : Nat) : SoundAt Try.prog k values69.S :=
  runF_sound (X := ⟨types, values69.G, values69.A, k, 0, []⟩) types_ok (fun s hs => absurd hs List.not_mem_nil) (fn := Try.f69) (c := codeOf Try.f69) rfl (by kernel_rfl) rfl rfl values69.dr (values69.eq k)

def bits70.l0 (k : Nat) (v : (List Int)) (l : (List Int)) : (Int × Int) → Option ((Int × Int) ⊕ Int)
  | (out, t10) =>
    cond (decide (t10 < (List.length l : Int)))
      ((rd l t10).bind fun t13 =>
      (rd v t13).bind fun t18 =>
      (if t10 < 0 then none else some (shlI .i64 t18 t10)).bind fun t21 =>
      some (Sum.inl ((ibits .or .i64 out t21), (w64 (t10 + 1)))))
      (some (Sum.inr out))
def bits70 (k : Nat) (v : (List Int)) (l : (List Int)) : Option (Int × Unit) :=
  Option.bind
    (loopN (bits70.l0 k v l) k (0, 0) : Option Int) fun (out_1 : Int) =>
  some (out_1, ())
def bits70.A : Ann := { conds := [], blocks := [(0, ⟨[(5, .int .i64)], [], 0, [], 16776416⟩)], loops := [(3, ⟨[(5, .int .i64), (10, .int .i64)], [], 0, [], 16776416⟩)], keeps := [], orders := [] }
def bits70.S : Sig := { f := 70, params := [.sl (.int .i64), .sl (.int .i64)], objs := [], res := .int .i64, outs := [], fix := [], run := fun k ds os => bits70 k ds.1 ds.2 }
def bits70.G : List Sig := []
theorem bits70.eq (k : Nat) : ∀ ds os, bits70.S.run k ds os = runF ⟨types, bits70.G, bits70.A, k, 0, []⟩ Try.f70 (codeOf Try.f70) bits70.S.params bits70.S.objs bits70.S.res bits70.S.outs ds os := by
  intro ds os; kernel_rfl
theorem bits70.dr : DrOk Try.prog bits70.A (codeOf Try.f70) := ⟨by kernel_rfl, by kernel_rfl⟩
theorem bits70.ok (k : Nat) : SoundAt Try.prog k bits70.S :=
  runF_sound (X := ⟨types, bits70.G, bits70.A, k, 0, []⟩) types_ok (fun s hs => absurd hs List.not_mem_nil) (fn := Try.f70) (c := codeOf Try.f70) rfl (by kernel_rfl) rfl rfl bits70.dr (bits70.eq k)

def Step16 (k : Nat) (c : (Int × ((List (Int × (Int × (Int × (Int × Int))))) × ((List Int) × ((List Int) × (List Int)))))) (state : Int) (in_ : Int) : Option ((Int × (Int × Unit)) × Unit) :=
  (Check18 k c).bind fun t10 =>
  cond (t10.1 != 0)
    (some ((0, 0, ()), ()))
    ((values69 k c state in_).bind fun t15 =>
    (bits70 k t15.1 c.2.2.1).bind fun t19 =>
    (bits70 k t15.1 c.2.2.2.1).bind fun t23 =>
    some ((t19.1, t23.1, ()), ()))
def Step16.A : Ann := { conds := [], blocks := [], loops := [], keeps := [3], orders := [(4, [(0, .strong), (1, .strong), (2, .strong), (4, .strong), (5, .strong), (6, .strong), (3, .eff true), (7, .eff true), (8, .strong), (9, .strong)])] }
def Step16.S : Sig := { f := 16, params := [.st (.pair (.int .i64) (.pair (.sl (.st (.pair (.int .i64) (.pair (.int .i64) (.pair (.int .i64) (.pair (.int .i64) (.int .i64))))))) (.pair (.sl (.int .i64)) (.pair (.sl (.int .i64)) (.sl (.int .i64)))))), .int .i64, .int .i64], objs := [], res := .tup (.pair (.int .i64) (.pair (.int .i64) .unit)), outs := [], fix := [], run := fun k ds os => Step16 k ds.1 ds.2.1 ds.2.2 }
def Step16.G : List Sig := [Check18.S, bits70.S, values69.S]
theorem Step16.eq (k : Nat) : ∀ ds os, Step16.S.run k ds os = runF ⟨types, Step16.G, Step16.A, k, 0, []⟩ Try.f16 (codeOf Try.f16) Step16.S.params Step16.S.objs Step16.S.res Step16.S.outs ds os := by
  intro ds os; kernel_rfl
theorem Step16.dr : DrOk Try.prog Step16.A (codeOf Try.f16) := ⟨by kernel_rfl, by kernel_rfl⟩
theorem Step16.ok (k : Nat) : SoundAt Try.prog k Step16.S :=
  runF_sound (X := ⟨types, Step16.G, Step16.A, k, 0, []⟩) types_ok (mem_all (⟨Check18.ok k, ⟨bits70.ok k, ⟨values69.ok k, trivial⟩⟩⟩)) (fn := Try.f16) (c := codeOf Try.f16) rfl (by kernel_rfl) rfl rfl Step16.dr (Step16.eq k)
end Go.Proofs.Ytjbdhaenakcclaa.St

/- Go functions as plain Lean functions, and their contracts. -/
set_option linter.unusedVariables false
set_option maxRecDepth 100000
noncomputable section
namespace Go.Proofs.Ytjbdhaenakcclaa.St
open Go Go.Proofs.Ytjbdhaenakcclaa.Gp
def Check105.l0 (k : Nat) (t40 : (List (Int × Int))) : ((Int × (Int × (List (List (Int × Int))))) × Int) → Option (((Int × (Int × (List (List (Int × Int))))) × Int) ⊕ ((Int × (Int × (List (List (Int × Int))))) ⊕ (((Int × (Int × (List (List (Int × Int))))) × Int) ⊕ (Unit ⊕ (Int × Unit)))))
  | (t_2, t50) =>
    cond (decide (t50 < (List.length t40 : Int)))
      ((rd t40 t50).bind fun t52 =>
      Option.bind (cond (decide (t52.1 < 0))
        (some true)
        ((if t_2.2.1 < 0 then none else some (shlI .i64 1 t_2.2.1)).bind fun t62 =>
        some (decide (t52.1 ≥ t62)))) fun t64 =>
      cond t64
        (some (Sum.inr (Sum.inr (Sum.inr (Sum.inr (1, ()))))))
        (cond (cond (decide (t52.2 < 0)) true (decide (t52.2 ≥ (List.length t_2.2.2 : Int))))
          (some (Sum.inr (Sum.inr (Sum.inr (Sum.inr (4, ()))))))
          (some (Sum.inl (t_2, (w64 (t50 + 1)))))))
      (some (Sum.inr (Sum.inl t_2)))
def Check105.l1 (k : Nat) (t : (Int × (Int × (List (List (Int × Int)))))) : ((Int × (Int × (List (List (Int × Int))))) × Int) → Option (((Int × (Int × (List (List (Int × Int))))) × Int) ⊕ (Unit ⊕ (Int × Unit)))
  | (t_1, t38) =>
    cond (decide (t38 < (List.length t.2.2 : Int)))
      ((rd t.2.2 t38).bind fun t40 =>
      (if t_1.1 < 0 then none else some (shlI .i64 1 t_1.1)).bind fun t46 =>
      cond ((List.length t40 : Int) != t46)
        (some (Sum.inr (Sum.inr (3, ()))))
        (Option.bind
          (loopN (Check105.l0 k t40) k (t_1, 0) : Option ((Int × (Int × (List (List (Int × Int))))) ⊕ (((Int × (Int × (List (List (Int × Int))))) × Int) ⊕ (Unit ⊕ (Int × Unit))))) (joined fun (t_3 : (Int × (Int × (List (List (Int × Int)))))) =>
          some (Sum.inl (t_3, (w64 (t38 + 1)))))))
      (some (Sum.inr (Sum.inl ())))
def Check105 (k : Nat) (t : (Int × (Int × (List (List (Int × Int)))))) : Option (Int × Unit) :=
  cond (cond (cond (cond (cond (decide (t.1 < 0)) true (decide (t.1 > 4))) true (decide (t.2.1 < 0))) true (decide (t.2.1 > 10))) true (decide ((List.length t.2.2 : Int) > 64)))
    (some (2, ()))
    (cond ((List.length t.2.2 : Int) == 0)
      (some (13, ()))
      (Option.bind
        (loopN (Check105.l1 k t) k (t, 0) : Option (Unit ⊕ (Int × Unit))) (joined fun (_ : Unit) =>
        some (0, ()))))
def Check105.A : Ann := { conds := [], blocks := [(0, ⟨[], [], 0, [], 302231454903382415769684⟩), (2, ⟨[(1, .fp (.st (.pair (.int .i64) (.pair (.int .i64) (.sl (.sl (.st (.pair (.int .i64) (.int .i64)))))))))], [], 0, [], 151115726325928739995716⟩)], loops := [(6, ⟨[(1, .fp (.st (.pair (.int .i64) (.pair (.int .i64) (.sl (.sl (.st (.pair (.int .i64) (.int .i64))))))))), (38, .int .i64)], [], 0, [], 302231454903382415769684⟩), (11, ⟨[(1, .fp (.st (.pair (.int .i64) (.pair (.int .i64) (.sl (.sl (.st (.pair (.int .i64) (.int .i64))))))))), (50, .int .i64)], [], 0, [], 151115726325928739995716⟩)], keeps := [1, 6], orders := [(13, [(0, .strong), (1, .strong), (2, .strong), (3, .strong), (4, .strong), (5, .strong), (6, .strong), (7, .strong), (8, .strong), (9, .strong), (10, .strong)])] }
def Check105.S : Sig := { f := 105, params := [.st (.pair (.int .i64) (.pair (.int .i64) (.sl (.sl (.st (.pair (.int .i64) (.int .i64)))))))], objs := [], res := .int .i64, outs := [], fix := [], run := fun k ds os => Check105 k ds }
def Check105.G : List Sig := []
theorem Check105.eq (k : Nat) : ∀ ds os, Check105.S.run k ds os = runF ⟨types, Check105.G, Check105.A, k, 0, []⟩ Try.f105 (codeOf Try.f105) Check105.S.params Check105.S.objs Check105.S.res Check105.S.outs ds os := by
  intro ds os; kernel_rfl
theorem Check105.dr : DrOk Try.prog Check105.A (codeOf Try.f105) := ⟨by kernel_rfl, by kernel_rfl⟩
theorem Check105.ok (k : Nat) : SoundAt Try.prog k Check105.S :=
  runF_sound (X := ⟨types, Check105.G, Check105.A, k, 0, []⟩) types_ok (fun s hs => absurd hs List.not_mem_nil) (fn := Try.f105) (c := codeOf Try.f105) rfl (by kernel_rfl) rfl rfl Check105.dr (Check105.eq k)

def width106.l0 (k : Nat) (n : Int) : Int → Option (Int ⊕ Int)
  | k_ =>
    (if k_ < 0 then none else some (shlI .i64 1 k_)).bind fun t5 =>
    cond (decide (t5 < n))
      (some (Sum.inl (w64 (k_ + 1))))
      (some (Sum.inr k_))
def width106 (k : Nat) (n : Int) : Option (Int × Unit) :=
  Option.bind
    (loopN (width106.l0 k n) k 0 : Option Int) fun (k__1 : Int) =>
  some (k__1, ())
def width106.A : Ann := { conds := [], blocks := [(0, ⟨[(3, .int .i64)], [], 0, [], 1016⟩)], loops := [(2, ⟨[(3, .int .i64)], [], 0, [], 1016⟩)], keeps := [], orders := [] }
def width106.S : Sig := { f := 106, params := [.int .i64], objs := [], res := .int .i64, outs := [], fix := [], run := fun k ds os => width106 k ds }
def width106.G : List Sig := []
theorem width106.eq (k : Nat) : ∀ ds os, width106.S.run k ds os = runF ⟨types, width106.G, width106.A, k, 0, []⟩ Try.f106 (codeOf Try.f106) width106.S.params width106.S.objs width106.S.res width106.S.outs ds os := by
  intro ds os; kernel_rfl
theorem width106.dr : DrOk Try.prog width106.A (codeOf Try.f106) := ⟨by kernel_rfl, by kernel_rfl⟩
theorem width106.ok (k : Nat) : SoundAt Try.prog k width106.S :=
  runF_sound (X := ⟨types, width106.G, width106.A, k, 0, []⟩) types_ok (fun s hs => absurd hs List.not_mem_nil) (fn := Try.f106) (c := codeOf Try.f106) rfl (by kernel_rfl) rfl rfl width106.dr (width106.eq k)

def put107 (k : Nat) (_ : Unit) (g : (Int × (Int × (Int × (Int × Int))))) (o0 : (Unit × Unit)) (o1 : (List (Int × (Int × (Int × (Int × Int)))))) (o2 : (List ((Int × (Int × (Int × (Int × Int)))) × Int))) : Option (Int × ((Unit × Unit) × ((List (Int × (Int × (Int × (Int × Int))))) × (List ((Int × (Int × (Int × (Int × Int)))) × Int))))) :=
  let t13 : (Option Int) := (mget (.st (.pair (.int .i64) (.pair (.int .i64) (.pair (.int .i64) (.pair (.int .i64) (.int .i64)))))) (.int .i64) o2 g)
  cond (Option.isSome t13)
    (some ((Option.getD (α := Int) t13 (0 : Int)), o0, o1, o2))
    ((if room (List.length o1 + List.length [g]) 40 then some () else none).bind fun _ =>
    some ((w64 ((List.length (o1 ++ [g]) : Int) - 1)), (o0.1, o0.2), (o1 ++ [g]), (mput (.st (.pair (.int .i64) (.pair (.int .i64) (.pair (.int .i64) (.pair (.int .i64) (.int .i64)))))) (.int .i64) o2 g (List.length o1 : Int))))
def put107.A : Ann := { conds := [], blocks := [], loops := [], keeps := [3], orders := [(1, [(0, .strong), (1, .strong), (2, .strong), (3, .strong), (4, .strong), (5, .strong), (6, .strong), (7, .strong), (8, .strong), (9, .strong), (10, .strong)]), (4, [(0, .strong), (1, .strong), (2, .strong), (3, .strong), (4, .strong), (5, .strong), (6, .strong), (7, .strong), (8, .strong), (9, .strong), (10, .eff false)]), (5, [(0, .weak), (1, .strong), (2, .strong), (3, .strong), (4, .strong), (5, .strong), (6, .eff true), (7, .eff false), (8, .strong), (9, .strong), (10, .eff false)])] }
def put107.S : Sig := { f := 107, params := [.ptr 0 [], .st (.pair (.int .i64) (.pair (.int .i64) (.pair (.int .i64) (.pair (.int .i64) (.int .i64)))))], objs := [.var (.st (.pair (.ms 1) (.mm 2))), .row (.st (.pair (.int .i64) (.pair (.int .i64) (.pair (.int .i64) (.pair (.int .i64) (.int .i64)))))), .map (.st (.pair (.int .i64) (.pair (.int .i64) (.pair (.int .i64) (.pair (.int .i64) (.int .i64)))))) (.int .i64)], res := .int .i64, outs := [.var (.st (.pair (.ms 1) (.mm 2))), .row (.st (.pair (.int .i64) (.pair (.int .i64) (.pair (.int .i64) (.pair (.int .i64) (.int .i64)))))), .map (.st (.pair (.int .i64) (.pair (.int .i64) (.pair (.int .i64) (.pair (.int .i64) (.int .i64)))))) (.int .i64)], fix := [], run := fun k ds os => put107 k ds.1 ds.2 os.1 os.2.1 os.2.2 }
def put107.G : List Sig := []
theorem put107.eq (k : Nat) : ∀ ds os, put107.S.run k ds os = runF ⟨types, put107.G, put107.A, k, 0, []⟩ Try.f107 (codeOf Try.f107) put107.S.params put107.S.objs put107.S.res put107.S.outs ds os := by
  intro ds os; kernel_rfl
theorem put107.dr : DrOk Try.prog put107.A (codeOf Try.f107) := ⟨by kernel_rfl, by kernel_rfl⟩
theorem put107.ok (k : Nat) : SoundAt Try.prog k put107.S :=
  runF_sound (X := ⟨types, put107.G, put107.A, k, 0, []⟩) types_ok (fun s hs => absurd hs List.not_mem_nil) (fn := Try.f107) (c := codeOf Try.f107) rfl (by kernel_rfl) rfl rfl put107.dr (put107.eq k)

def Of1108 (k : Nat) (x : Int) (t1 : (Int × (Int × (List (List (Int × Int)))))) : Option ((Int × Int) × Unit) :=
  (if t1.1 < 0 then none else some (shrI .i64 x t1.1)).bind fun t8 =>
  Option.bind
    (cond (decide (t8 ≥ (List.length t1.2.2 : Int)))
      (some (t1, (), 0, 0, 0))
      (some (t1, (), t8, 0, 0)) : Option ((Int × (Int × (List (List (Int × Int))))) × (Unit × (Int × (Int × Int))))) fun ((t1_1, _, s, _) : ((Int × (Int × (List (List (Int × Int))))) × (Unit × (Int × (Int × Int))))) =>
  (rd t1_1.2.2 s).bind fun t17 =>
  (if t1_1.1 < 0 then none else some (shlI .i64 1 t1_1.1)).bind fun t22 =>
  (rd t17 (ibits .and .i64 x (w64 (t22 - 1)))).bind fun t25 =>
  some (t25, ())
def Of1108.A : Ann := { conds := [(851971, ⟨[(1, .fp (.st (.pair (.int .i64) (.pair (.int .i64) (.sl (.sl (.st (.pair (.int .i64) (.int .i64))))))))), (3, .ptr 0 []), (4, .int .i64)], [(0, .var (.st (.pair (.int .i64) (.int .i64))))], 1, [], 16⟩)], blocks := [], loops := [], keeps := [], orders := [(4, [(0, .strong), (1, .strong), (2, .strong), (3, .strong), (4, .strong), (5, .strong), (6, .strong), (7, .strong), (8, .strong), (9, .strong), (10, .strong), (11, .strong), (12, .strong), (13, .eff false)])] }
def Of1108.S : Sig := { f := 108, params := [.int .i64, .fp (.st (.pair (.int .i64) (.pair (.int .i64) (.sl (.sl (.st (.pair (.int .i64) (.int .i64))))))))], objs := [], res := .st (.pair (.int .i64) (.int .i64)), outs := [], fix := [], run := fun k ds os => Of1108 k ds.1 ds.2 }
def Of1108.G : List Sig := []
theorem Of1108.eq (k : Nat) : ∀ ds os, Of1108.S.run k ds os = runF ⟨types, Of1108.G, Of1108.A, k, 0, []⟩ Try.f108 (codeOf Try.f108) Of1108.S.params Of1108.S.objs Of1108.S.res Of1108.S.outs ds os := by
  intro ds os; kernel_rfl
theorem Of1108.dr : DrOk Try.prog Of1108.A (codeOf Try.f108) := ⟨by kernel_rfl, by kernel_rfl⟩
theorem Of1108.ok (k : Nat) : SoundAt Try.prog k Of1108.S :=
  runF_sound (X := ⟨types, Of1108.G, Of1108.A, k, 0, []⟩) types_ok (fun s hs => absurd hs List.not_mem_nil) (fn := Try.f108) (c := codeOf Try.f108) rfl (by kernel_rfl) rfl rfl Of1108.dr (Of1108.eq k)

def bit135 (k : Nat) (_ : Unit) (n : Int) (o0 : (Unit × Unit)) (o1 : (List (Int × (Int × (Int × (Int × Int)))))) (o2 : (List ((Int × (Int × (Int × (Int × Int)))) × Int))) : Option (Int × ((Unit × Unit) × ((List (Int × (Int × (Int × (Int × Int))))) × (List ((Int × (Int × (Int × (Int × Int)))) × Int))))) :=
  (put107 k () (0, 0, 0, 0, n) o0 o1 o2).bind fun t8 =>
  some (t8.1, t8.2.1, t8.2.2.1, t8.2.2.2)
def bit135.A : Ann := { conds := [], blocks := [], loops := [], keeps := [], orders := [] }
def bit135.S : Sig := { f := 135, params := [.ptr 0 [], .int .i64], objs := [.var (.st (.pair (.ms 1) (.mm 2))), .row (.st (.pair (.int .i64) (.pair (.int .i64) (.pair (.int .i64) (.pair (.int .i64) (.int .i64)))))), .map (.st (.pair (.int .i64) (.pair (.int .i64) (.pair (.int .i64) (.pair (.int .i64) (.int .i64)))))) (.int .i64)], res := .int .i64, outs := [.var (.st (.pair (.ms 1) (.mm 2))), .row (.st (.pair (.int .i64) (.pair (.int .i64) (.pair (.int .i64) (.pair (.int .i64) (.int .i64)))))), .map (.st (.pair (.int .i64) (.pair (.int .i64) (.pair (.int .i64) (.pair (.int .i64) (.int .i64)))))) (.int .i64)], fix := [], run := fun k ds os => bit135 k ds.1 ds.2 os.1 os.2.1 os.2.2 }
def bit135.G : List Sig := [put107.S]
theorem bit135.eq (k : Nat) : ∀ ds os, bit135.S.run k ds os = runF ⟨types, bit135.G, bit135.A, k, 0, []⟩ Try.f135 (codeOf Try.f135) bit135.S.params bit135.S.objs bit135.S.res bit135.S.outs ds os := by
  intro ds os; kernel_rfl
theorem bit135.dr : DrOk Try.prog bit135.A (codeOf Try.f135) := ⟨by kernel_rfl, by kernel_rfl⟩
theorem bit135.ok (k : Nat) : SoundAt Try.prog k bit135.S :=
  runF_sound (X := ⟨types, bit135.G, bit135.A, k, 0, []⟩) types_ok (mem_all (⟨put107.ok k, trivial⟩)) (fn := Try.f135) (c := codeOf Try.f135) rfl (by kernel_rfl) rfl rfl bit135.dr (bit135.eq k)

def constant150 (k : Nat) (_ : Unit) (k_ : Int) (o0 : (Unit × Unit)) (o1 : (List (Int × (Int × (Int × (Int × Int)))))) (o2 : (List ((Int × (Int × (Int × (Int × Int)))) × Int))) : Option ((Int × (Bool × Unit)) × ((Unit × Unit) × ((List (Int × (Int × (Int × (Int × Int))))) × (List ((Int × (Int × (Int × (Int × Int)))) × Int))))) :=
  (rd o1 k_).bind fun _ =>
  (rd o1 k_).bind fun t13 =>
  (rd o1 k_).bind fun _ =>
  (rd o1 k_).bind fun t21 =>
  some ((t13.2.2.2.2, (t21.1 == 0), ()), o0, o1, o2)
def constant150.A : Ann := { conds := [], blocks := [], loops := [], keeps := [], orders := [(1, [(0, .strong), (1, .strong), (2, .strong), (3, .strong), (4, .strong), (5, .strong), (6, .strong), (7, .strong), (8, .strong), (9, .strong), (10, .strong), (11, .strong), (12, .strong), (13, .strong), (14, .strong), (15, .strong), (16, .strong), (17, .strong), (18, .strong)])] }
def constant150.S : Sig := { f := 150, params := [.ptr 0 [], .int .i64], objs := [.var (.st (.pair (.ms 1) (.mm 2))), .row (.st (.pair (.int .i64) (.pair (.int .i64) (.pair (.int .i64) (.pair (.int .i64) (.int .i64)))))), .map (.st (.pair (.int .i64) (.pair (.int .i64) (.pair (.int .i64) (.pair (.int .i64) (.int .i64)))))) (.int .i64)], res := .tup (.pair (.int .i64) (.pair .bool .unit)), outs := [.var (.st (.pair (.ms 1) (.mm 2))), .row (.st (.pair (.int .i64) (.pair (.int .i64) (.pair (.int .i64) (.pair (.int .i64) (.int .i64)))))), .map (.st (.pair (.int .i64) (.pair (.int .i64) (.pair (.int .i64) (.pair (.int .i64) (.int .i64)))))) (.int .i64)], fix := [], run := fun k ds os => constant150 k ds.1 ds.2 os.1 os.2.1 os.2.2 }
def constant150.G : List Sig := []
theorem constant150.eq (k : Nat) : ∀ ds os, constant150.S.run k ds os = runF ⟨types, constant150.G, constant150.A, k, 0, []⟩ Try.f150 (codeOf Try.f150) constant150.S.params constant150.S.objs constant150.S.res constant150.S.outs ds os := by
  intro ds os; kernel_rfl
theorem constant150.dr : DrOk Try.prog constant150.A (codeOf Try.f150) := ⟨by kernel_rfl, by kernel_rfl⟩
theorem constant150.ok (k : Nat) : SoundAt Try.prog k constant150.S :=
  runF_sound (X := ⟨types, constant150.G, constant150.A, k, 0, []⟩) types_ok (fun s hs => absurd hs List.not_mem_nil) (fn := Try.f150) (c := codeOf Try.f150) rfl (by kernel_rfl) rfl rfl constant150.dr (constant150.eq k)
end Go.Proofs.Ytjbdhaenakcclaa.St

/- Go functions as plain Lean functions, and their contracts. -/
set_option linter.unusedVariables false
set_option maxRecDepth 100000
noncomputable section
namespace Go.Proofs.Ytjbdhaenakcclaa.St
open Go Go.Proofs.Ytjbdhaenakcclaa.Gp
def not138 (k : Nat) (_ : Unit) (a : Int) (o0 : (Unit × Unit)) (o1 : (List (Int × (Int × (Int × (Int × Int)))))) (o2 : (List ((Int × (Int × (Int × (Int × Int)))) × Int))) : Option (Int × ((Unit × Unit) × ((List (Int × (Int × (Int × (Int × Int))))) × (List ((Int × (Int × (Int × (Int × Int)))) × Int))))) :=
  (constant150 k () a o0 o1 o2).bind fun t11 =>
  cond t11.1.2.1
    ((bit135 k () (w64 (1 - t11.1.1)) t11.2.1 t11.2.2.1 t11.2.2.2).bind fun t18 =>
    some (t18.1, t18.2.1, t18.2.2.1, t18.2.2.2))
    ((rd t11.2.2.1 a).bind fun _ =>
    (rd t11.2.2.1 a).bind fun t25 =>
    cond (t25.1 == 3)
      (some (t25.2.1, t11.2.1, t11.2.2.1, t11.2.2.2))
      ((put107 k () (3, a, 0, 0, 0) t11.2.1 t11.2.2.1 t11.2.2.2).bind fun t34 =>
      some (t34.1, t34.2.1, t34.2.2.1, t34.2.2.2)))
def not138.A : Ann := { conds := [], blocks := [], loops := [], keeps := [7], orders := [] }
def not138.S : Sig := { f := 138, params := [.ptr 0 [], .int .i64], objs := [.var (.st (.pair (.ms 1) (.mm 2))), .row (.st (.pair (.int .i64) (.pair (.int .i64) (.pair (.int .i64) (.pair (.int .i64) (.int .i64)))))), .map (.st (.pair (.int .i64) (.pair (.int .i64) (.pair (.int .i64) (.pair (.int .i64) (.int .i64)))))) (.int .i64)], res := .int .i64, outs := [.var (.st (.pair (.ms 1) (.mm 2))), .row (.st (.pair (.int .i64) (.pair (.int .i64) (.pair (.int .i64) (.pair (.int .i64) (.int .i64)))))), .map (.st (.pair (.int .i64) (.pair (.int .i64) (.pair (.int .i64) (.pair (.int .i64) (.int .i64)))))) (.int .i64)], fix := [], run := fun k ds os => not138 k ds.1 ds.2 os.1 os.2.1 os.2.2 }
def not138.G : List Sig := [bit135.S, constant150.S, put107.S]
theorem not138.eq (k : Nat) : ∀ ds os, not138.S.run k ds os = runF ⟨types, not138.G, not138.A, k, 0, []⟩ Try.f138 (codeOf Try.f138) not138.S.params not138.S.objs not138.S.res not138.S.outs ds os := by
  intro ds os; kernel_rfl
theorem not138.dr : DrOk Try.prog not138.A (codeOf Try.f138) := ⟨by kernel_rfl, by kernel_rfl⟩
theorem not138.ok (k : Nat) : SoundAt Try.prog k not138.S :=
  runF_sound (X := ⟨types, not138.G, not138.A, k, 0, []⟩) types_ok (mem_all (⟨bit135.ok k, ⟨constant150.ok k, ⟨put107.ok k, trivial⟩⟩⟩)) (fn := Try.f138) (c := codeOf Try.f138) rfl (by kernel_rfl) rfl rfl not138.dr (not138.eq k)

def mux136 (k : Nat) (_ : Unit) (a : Int) (b : Int) (c : Int) (o0 : (Unit × Unit)) (o1 : (List (Int × (Int × (Int × (Int × Int)))))) (o2 : (List ((Int × (Int × (Int × (Int × Int)))) × Int))) : Option (Int × ((Unit × Unit) × ((List (Int × (Int × (Int × (Int × Int))))) × (List ((Int × (Int × (Int × (Int × Int)))) × Int))))) :=
  (constant150 k () a o0 o1 o2).bind fun t18 =>
  cond t18.1.2.1
    (cond (t18.1.1 == 1)
      (some (b, t18.2.1, t18.2.2.1, t18.2.2.2))
      (some (c, t18.2.1, t18.2.2.1, t18.2.2.2)))
    ((constant150 k () b t18.2.1 t18.2.2.1 t18.2.2.2).bind fun t29 =>
    (constant150 k () c t29.2.1 t29.2.2.1 t29.2.2.2).bind fun t35 =>
    cond (b == c)
      (some (b, t35.2.1, t35.2.2.1, t35.2.2.2))
      (cond (cond (cond t29.1.2.1 t35.1.2.1 false) (t29.1.1 == 1) false)
        (some (a, t35.2.1, t35.2.2.1, t35.2.2.2))
        (cond (cond t29.1.2.1 t35.1.2.1 false)
          ((not138 k () a t35.2.1 t35.2.2.1 t35.2.2.2).bind fun t60 =>
          some (t60.1, t60.2.1, t60.2.2.1, t60.2.2.2))
          ((put107 k () (7, a, b, c, 0) t35.2.1 t35.2.2.1 t35.2.2.2).bind fun t66 =>
          some (t66.1, t66.2.1, t66.2.2.1, t66.2.2.2)))))
def mux136.A : Ann := { conds := [], blocks := [], loops := [], keeps := [], orders := [] }
def mux136.S : Sig := { f := 136, params := [.ptr 0 [], .int .i64, .int .i64, .int .i64], objs := [.var (.st (.pair (.ms 1) (.mm 2))), .row (.st (.pair (.int .i64) (.pair (.int .i64) (.pair (.int .i64) (.pair (.int .i64) (.int .i64)))))), .map (.st (.pair (.int .i64) (.pair (.int .i64) (.pair (.int .i64) (.pair (.int .i64) (.int .i64)))))) (.int .i64)], res := .int .i64, outs := [.var (.st (.pair (.ms 1) (.mm 2))), .row (.st (.pair (.int .i64) (.pair (.int .i64) (.pair (.int .i64) (.pair (.int .i64) (.int .i64)))))), .map (.st (.pair (.int .i64) (.pair (.int .i64) (.pair (.int .i64) (.pair (.int .i64) (.int .i64)))))) (.int .i64)], fix := [], run := fun k ds os => mux136 k ds.1 ds.2.1 ds.2.2.1 ds.2.2.2 os.1 os.2.1 os.2.2 }
def mux136.G : List Sig := [constant150.S, not138.S, put107.S]
theorem mux136.eq (k : Nat) : ∀ ds os, mux136.S.run k ds os = runF ⟨types, mux136.G, mux136.A, k, 0, []⟩ Try.f136 (codeOf Try.f136) mux136.S.params mux136.S.objs mux136.S.res mux136.S.outs ds os := by
  intro ds os; kernel_rfl
theorem mux136.dr : DrOk Try.prog mux136.A (codeOf Try.f136) := ⟨by kernel_rfl, by kernel_rfl⟩
theorem mux136.ok (k : Nat) : SoundAt Try.prog k mux136.S :=
  runF_sound (X := ⟨types, mux136.G, mux136.A, k, 0, []⟩) types_ok (mem_all (⟨constant150.ok k, ⟨not138.ok k, ⟨put107.ok k, trivial⟩⟩⟩)) (fn := Try.f136) (c := codeOf Try.f136) rfl (by kernel_rfl) rfl rfl mux136.dr (mux136.eq k)

abbrev Grptree109.T := (Unit → (List Int) → (List Int) → (Unit × Unit) → (List (Int × (Int × (Int × (Int × Int))))) → (List ((Int × (Int × (Int × (Int × Int)))) × Int)) → Option (Int × ((Unit × Unit) × ((List (Int × (Int × (Int × (Int × Int))))) × (List ((Int × (Int × (Int × (Int × Int)))) × Int))))))
def tree109.b (r_ : Grptree109.T) (k : Nat) (_ : Unit) (vars : (List Int)) (f : (List Int)) (o0 : (Unit × Unit)) (o1 : (List (Int × (Int × (Int × (Int × Int)))))) (o2 : (List ((Int × (Int × (Int × (Int × Int)))) × Int))) : Option (Int × ((Unit × Unit) × ((List (Int × (Int × (Int × (Int × Int))))) × (List ((Int × (Int × (Int × (Int × Int)))) × Int))))) :=
  cond ((List.length vars : Int) == 0)
    ((rd f 0).bind fun t15 =>
    (bit135 k () t15 o0 o1 o2).bind fun t17 =>
    some (t17.1, t17.2.1, t17.2.2.1, t17.2.2.2))
    (let t20 : Int := (w64 ((List.length vars : Int) - 1))
    (slc vars 0 t20).bind fun t24 =>
    (if t20 < 0 then none else some (shlI .i64 1 t20)).bind fun t27 =>
    (slc f 0 t27).bind fun t28 =>
    (r_ () t24 t28 o0 o1 o2).bind fun t29 =>
    (slc vars 0 t20).bind fun t33 =>
    (if t20 < 0 then none else some (shlI .i64 1 t20)).bind fun t36 =>
    (slc f t36 (List.length f : Int)).bind fun t37 =>
    (r_ () t33 t37 t29.2.1 t29.2.2.1 t29.2.2.2).bind fun t38 =>
    (rd vars t20).bind fun t42 =>
    (mux136 k () t42 t38.1 t29.1 t38.2.1 t38.2.2.1 t38.2.2.2).bind fun t46 =>
    some (t46.1, t46.2.1, t46.2.2.1, t46.2.2.2))
def Grptree109 : Nat → Grptree109.T
  | 0 => ((fun _ _ _ _ _ _ => none))
  | k + 1 => (tree109.b (Grptree109 k) k)
def tree109 (k : Nat) : Unit → (List Int) → (List Int) → (Unit × Unit) → (List (Int × (Int × (Int × (Int × Int))))) → (List ((Int × (Int × (Int × (Int × Int)))) × Int)) → Option (Int × ((Unit × Unit) × ((List (Int × (Int × (Int × (Int × Int))))) × (List ((Int × (Int × (Int × (Int × Int)))) × Int))))) := (Grptree109 k)
def tree109.A : Ann := { conds := [], blocks := [], loops := [], keeps := [], orders := [(4, [(0, .strong), (1, .strong), (2, .strong), (3, .strong), (4, .strong), (5, .strong), (6, .strong), (7, .strong), (8, .eff false), (9, .strong)]), (5, [(0, .strong), (1, .strong), (2, .strong), (3, .strong), (4, .strong), (5, .strong), (6, .strong), (7, .strong), (8, .eff false), (9, .strong)])] }
def tree109.S : Sig := { f := 109, params := [.ptr 0 [], .sl (.int .i64), .sl (.int .i64)], objs := [.var (.st (.pair (.ms 1) (.mm 2))), .row (.st (.pair (.int .i64) (.pair (.int .i64) (.pair (.int .i64) (.pair (.int .i64) (.int .i64)))))), .map (.st (.pair (.int .i64) (.pair (.int .i64) (.pair (.int .i64) (.pair (.int .i64) (.int .i64)))))) (.int .i64)], res := .int .i64, outs := [.var (.st (.pair (.ms 1) (.mm 2))), .row (.st (.pair (.int .i64) (.pair (.int .i64) (.pair (.int .i64) (.pair (.int .i64) (.int .i64)))))), .map (.st (.pair (.int .i64) (.pair (.int .i64) (.pair (.int .i64) (.pair (.int .i64) (.int .i64)))))) (.int .i64)], fix := [], run := fun k ds os => tree109 k ds.1 ds.2.1 ds.2.2 os.1 os.2.1 os.2.2 }
def tree109.G : List Sig := [bit135.S, mux136.S, tree109.S]
theorem tree109.eq (k : Nat) : ∀ ds os, tree109.S.run (k + 1) ds os = runF ⟨types, tree109.G, tree109.A, k, 0, []⟩ Try.f109 (codeOf Try.f109) tree109.S.params tree109.S.objs tree109.S.res tree109.S.outs ds os := by
  intro ds os; kernel_rfl
theorem tree109.dr : DrOk Try.prog tree109.A (codeOf Try.f109) := ⟨by kernel_rfl, by kernel_rfl⟩
theorem Grptree109.ok : ∀ k, SoundAt Try.prog k tree109.S := by
  intro k
  induction k with
  | zero => exact sound_none (fn := Try.f109) (c := codeOf Try.f109) rfl (by kernel_rfl) rfl (fun _ _ => rfl)
  | succ k ih => exact runF_sound (X := ⟨types, tree109.G, tree109.A, k, 0, []⟩) types_ok (mem_all (⟨bit135.ok k, ⟨mux136.ok k, ⟨ih, trivial⟩⟩⟩)) (fn := Try.f109) (c := codeOf Try.f109) rfl (by kernel_rfl) rfl rfl tree109.dr (tree109.eq k)
theorem tree109.ok (k : Nat) : SoundAt Try.prog k tree109.S := (Grptree109.ok k)
end Go.Proofs.Ytjbdhaenakcclaa.St

/- Go functions as plain Lean functions, and their contracts. -/
set_option linter.unusedVariables false
set_option maxRecDepth 100000
noncomputable section
namespace Go.Proofs.Ytjbdhaenakcclaa.St
open Go Go.Proofs.Ytjbdhaenakcclaa.Gp
abbrev Grpswept1137.T := (Int → Unit → (Int × ((List (Int × (Int × (Int × (Int × Int))))) × ((List Int) × ((List Int) × (List Int))))) → Unit → Unit → (List Bool) → (Unit × ((Int × ((List (Int × (Int × (Int × (Int × Int))))) × ((List Int) × ((List Int) × (List Int))))) × (Unit × Unit))) → Option (Unit × (Unit × ((List Bool) × (Unit × ((Int × ((List (Int × (Int × (Int × (Int × Int))))) × ((List Int) × ((List Int) × (List Int))))) × (Unit × Unit)))))))
def swept1137.l0 (r_ : Grpswept1137.T) (k : Nat) (t18 : (Int × (Int × (Int × (Int × Int))))) : (Unit × ((Int × (Int × (Int × (Int × Int)))) × (Unit × (Int × (Unit × ((List Bool) × ((Unit × ((Int × ((List (Int × (Int × (Int × (Int × Int))))) × ((List Int) × ((List Int) × (List Int))))) × (Unit × Unit))) × (List Int)))))))) → Option ((Unit × ((Int × (Int × (Int × (Int × Int)))) × (Unit × (Int × (Unit × ((List Bool) × ((Unit × ((Int × ((List (Int × (Int × (Int × (Int × Int))))) × ((List Int) × ((List Int) × (List Int))))) × (Unit × Unit))) × (List Int)))))))) ⊕ (Unit × ((List Bool) × (Unit × ((Int × ((List (Int × (Int × (Int × (Int × Int))))) × ((List Int) × ((List Int) × (List Int))))) × (Unit × Unit))))))
  | (_, g, _, t28, _, o1_1, o2_1, o4) =>
    cond (decide (t28 < (List.length ([t18.2.1, t18.2.2.1, t18.2.2.2.1] : List Int) : Int)))
      ((rd o4 t28).bind fun _ =>
      (rd o4 t28).bind fun t32 =>
      Option.bind
        (cond (cond (decide (g.1 ≥ 3)) (cond (cond (t28 == 0) true (cond (t28 == 1) (decide (g.1 > 3)) false)) true (g.1 == 7)) false)
          ((r_ t32 o2_1.1 o2_1.2.1 o2_1.2.2.1 () o1_1 o2_1).bind fun t56 =>
          some ((), g, (), (), t56.2.2.1, t56.2.2.2, o4))
          (some ((), g, (), (), o1_1, o2_1, o4)) : Option (Unit × ((Int × (Int × (Int × (Int × Int)))) × (Unit × (Unit × ((List Bool) × ((Unit × ((Int × ((List (Int × (Int × (Int × (Int × Int))))) × ((List Int) × ((List Int) × (List Int))))) × (Unit × Unit))) × (List Int)))))))) fun ((_, g_1, _, _, o1_2, o2_2, o4_1) : (Unit × ((Int × (Int × (Int × (Int × Int)))) × (Unit × (Unit × ((List Bool) × ((Unit × ((Int × ((List (Int × (Int × (Int × (Int × Int))))) × ((List Int) × ((List Int) × (List Int))))) × (Unit × Unit))) × (List Int)))))))) =>
      some (Sum.inl ((), g_1, (), (w64 (t28 + 1)), (), o1_2, o2_2, o4_1)))
      (some (Sum.inr ((), o1_1, o2_1)))
def swept1137.b (r_ : Grpswept1137.T) (k : Nat) (k_ : Int) (_ : Unit) (t2 : (Int × ((List (Int × (Int × (Int × (Int × Int))))) × ((List Int) × ((List Int) × (List Int)))))) (_ : Unit) (o0 : Unit) (o1 : (List Bool)) (o2 : (Unit × ((Int × ((List (Int × (Int × (Int × (Int × Int))))) × ((List Int) × ((List Int) × (List Int))))) × (Unit × Unit)))) : Option (Unit × (Unit × ((List Bool) × (Unit × ((Int × ((List (Int × (Int × (Int × (Int × Int))))) × ((List Int) × ((List Int) × (List Int))))) × (Unit × Unit)))))) :=
  (rd o1 k_).bind fun _ =>
  (rd o1 k_).bind fun t11 =>
  cond t11
    (some ((), (), o1, o2))
    ((rd o1 k_).bind fun _ =>
    (rd o1 k_).bind fun _ =>
    (rd t2.2.1 k_).bind fun t18 =>
    Option.bind
      (loopN (swept1137.l0 r_ k t18) k ((), t18, (), 0, (), (List.set o1 (Int.toNat k_) true), o2, ([t18.2.1, t18.2.2.1, t18.2.2.2.1] : List Int)) : Option (Unit × ((List Bool) × (Unit × ((Int × ((List (Int × (Int × (Int × (Int × Int))))) × ((List Int) × ((List Int) × (List Int))))) × (Unit × Unit)))))) fun ((_, o1_3, o2_3) : (Unit × ((List Bool) × (Unit × ((Int × ((List (Int × (Int × (Int × (Int × Int))))) × ((List Int) × ((List Int) × (List Int))))) × (Unit × Unit)))))) =>
    some ((), (), o1_3, o2_3))
def Grpswept1137 : Nat → Grpswept1137.T
  | 0 => ((fun _ _ _ _ _ _ _ => none))
  | k + 1 => (swept1137.b (Grpswept1137 k) k)
def swept1137 (k : Nat) : Int → Unit → (Int × ((List (Int × (Int × (Int × (Int × Int))))) × ((List Int) × ((List Int) × (List Int))))) → Unit → Unit → (List Bool) → (Unit × ((Int × ((List (Int × (Int × (Int × (Int × Int))))) × ((List Int) × ((List Int) × (List Int))))) × (Unit × Unit))) → Option (Unit × (Unit × ((List Bool) × (Unit × ((Int × ((List (Int × (Int × (Int × (Int × Int))))) × ((List Int) × ((List Int) × (List Int))))) × (Unit × Unit)))))) := (Grpswept1137 k)
def swept1137.A : Ann := { conds := [(3473415, ⟨[(3, .ptr 2 []), (5, .fp (.st (.pair (.int .i64) (.pair (.int .i64) (.pair (.int .i64) (.pair (.int .i64) (.int .i64))))))), (26, .ms 4)], [(0, .var (.ms 1)), (1, .row .bool), (2, .var (.fn 137 (.pair (.ptr 0 []) (.pair (.fp (.st (.pair (.int .i64) (.pair (.sl (.st (.pair (.int .i64) (.pair (.int .i64) (.pair (.int .i64) (.pair (.int .i64) (.int .i64))))))) (.pair (.sl (.int .i64)) (.pair (.sl (.int .i64)) (.sl (.int .i64)))))))) (.pair (.ptr 2 []) .unit))))), (4, .row (.int .i64))], 5, [], 126100789566373888⟩)], blocks := [(0, ⟨[], [(0, .var (.ms 1)), (1, .row .bool), (2, .var (.fn 137 (.pair (.ptr 0 []) (.pair (.fp (.st (.pair (.int .i64) (.pair (.sl (.st (.pair (.int .i64) (.pair (.int .i64) (.pair (.int .i64) (.pair (.int .i64) (.int .i64))))))) (.pair (.sl (.int .i64)) (.pair (.sl (.int .i64)) (.sl (.int .i64)))))))) (.pair (.ptr 2 []) .unit)))))], 3, [], 288230375883276480⟩)], loops := [(4, ⟨[(3, .ptr 2 []), (5, .fp (.st (.pair (.int .i64) (.pair (.int .i64) (.pair (.int .i64) (.pair (.int .i64) (.int .i64))))))), (26, .ms 4), (28, .int .i64)], [(0, .var (.ms 1)), (1, .row .bool), (2, .var (.fn 137 (.pair (.ptr 0 []) (.pair (.fp (.st (.pair (.int .i64) (.pair (.sl (.st (.pair (.int .i64) (.pair (.int .i64) (.pair (.int .i64) (.pair (.int .i64) (.int .i64))))))) (.pair (.sl (.int .i64)) (.pair (.sl (.int .i64)) (.sl (.int .i64)))))))) (.pair (.ptr 2 []) .unit))))), (4, .row (.int .i64))], 5, [], 288230375883276480⟩)], keeps := [5], orders := [] }
def swept1137.S : Sig := { f := 137, params := [.int .i64, .ptr 0 [], .fp (.st (.pair (.int .i64) (.pair (.sl (.st (.pair (.int .i64) (.pair (.int .i64) (.pair (.int .i64) (.pair (.int .i64) (.int .i64))))))) (.pair (.sl (.int .i64)) (.pair (.sl (.int .i64)) (.sl (.int .i64))))))), .ptr 2 []], objs := [.var (.ms 1), .row .bool, .var (.fn 137 (.pair (.ptr 0 []) (.pair (.fp (.st (.pair (.int .i64) (.pair (.sl (.st (.pair (.int .i64) (.pair (.int .i64) (.pair (.int .i64) (.pair (.int .i64) (.int .i64))))))) (.pair (.sl (.int .i64)) (.pair (.sl (.int .i64)) (.sl (.int .i64)))))))) (.pair (.ptr 2 []) .unit))))], res := .tup .unit, outs := [.var (.ms 1), .row .bool, .var (.fn 137 (.pair (.ptr 0 []) (.pair (.fp (.st (.pair (.int .i64) (.pair (.sl (.st (.pair (.int .i64) (.pair (.int .i64) (.pair (.int .i64) (.pair (.int .i64) (.int .i64))))))) (.pair (.sl (.int .i64)) (.pair (.sl (.int .i64)) (.sl (.int .i64)))))))) (.pair (.ptr 2 []) .unit))))], fix := [], run := fun k ds os => swept1137 k ds.1 ds.2.1 ds.2.2.1 ds.2.2.2 os.1 os.2.1 os.2.2 }
def swept1137.G : List Sig := [swept1137.S]
theorem swept1137.eq (k : Nat) : ∀ ds os, swept1137.S.run (k + 1) ds os = runF ⟨types, swept1137.G, swept1137.A, k, 0, []⟩ Try.f137 (codeOf Try.f137) swept1137.S.params swept1137.S.objs swept1137.S.res swept1137.S.outs ds os := by
  intro ds os; kernel_rfl
theorem swept1137.dr : DrOk Try.prog swept1137.A (codeOf Try.f137) := ⟨by kernel_rfl, by kernel_rfl⟩
theorem Grpswept1137.ok : ∀ k, SoundAt Try.prog k swept1137.S := by
  intro k
  induction k with
  | zero => exact sound_none (fn := Try.f137) (c := codeOf Try.f137) rfl (by kernel_rfl) rfl (fun _ _ => rfl)
  | succ k ih => exact runF_sound (X := ⟨types, swept1137.G, swept1137.A, k, 0, []⟩) types_ok (mem_all (⟨ih, trivial⟩)) (fn := Try.f137) (c := codeOf Try.f137) rfl (by kernel_rfl) rfl rfl swept1137.dr (swept1137.eq k)
theorem swept1137.ok (k : Nat) : SoundAt Try.prog k swept1137.S := (Grpswept1137.ok k)
end Go.Proofs.Ytjbdhaenakcclaa.St

/- Go functions as plain Lean functions, and their contracts. -/
set_option linter.unusedVariables false
set_option maxRecDepth 100000
noncomputable section
namespace Go.Proofs.Ytjbdhaenakcclaa.St
open Go Go.Proofs.Ytjbdhaenakcclaa.Gp
def swept110.l0 (k : Nat) (c : (Int × ((List (Int × (Int × (Int × (Int × Int))))) × ((List Int) × ((List Int) × (List Int)))))) : ((Int × ((List (Int × (Int × (Int × (Int × Int))))) × ((List Int) × ((List Int) × (List Int))))) × (Unit × (Unit × (Unit × (Int × ((Int × (Unit × (Unit × (Unit × Unit)))) × ((List (Int × (Int × (Int × (Int × Int))))) × ((List Int) × ((List Int) × ((List Int) × ((List Bool) × (Unit × (Unit × ((Int × ((List (Int × (Int × (Int × (Int × Int))))) × ((List Int) × ((List Int) × (List Int))))) × (Unit × Unit))))))))))))))) → Option (((Int × ((List (Int × (Int × (Int × (Int × Int))))) × ((List Int) × ((List Int) × (List Int))))) × (Unit × (Unit × (Unit × (Int × ((Int × (Unit × (Unit × (Unit × Unit)))) × ((List (Int × (Int × (Int × (Int × Int))))) × ((List Int) × ((List Int) × ((List Int) × ((List Bool) × (Unit × (Unit × ((Int × ((List (Int × (Int × (Int × (Int × Int))))) × ((List Int) × ((List Int) × (List Int))))) × (Unit × Unit))))))))))))))) ⊕ ((Int × ((List (Int × (Int × (Int × (Int × Int))))) × ((List Int) × ((List Int) × (List Int))))) × (Unit × (Unit × (Unit × ((Int × (Unit × (Unit × (Unit × Unit)))) × ((List (Int × (Int × (Int × (Int × Int))))) × ((List Int) × ((List Int) × ((List Int) × ((List Bool) × (Unit × (Unit × ((Int × ((List (Int × (Int × (Int × (Int × Int))))) × ((List Int) × ((List Int) × (List Int))))) × (Unit × Unit)))))))))))))))
  | (c_1, _, _, _, t25, o0, o1, o2, o3, o4, t20, _, o7) =>
    cond (decide (t25 < (List.length c.2.2.1 : Int)))
      ((rd c.2.2.1 t25).bind fun t27 =>
      (swept1137 k t27 o7.1 o7.2.1 o7.2.2.1 () t20 (o7.1, o7.2.1, o7.2.2.1, o7.2.2.2)).bind fun t31 =>
      some (Sum.inl (c_1, (), (), (), (w64 (t25 + 1)), o0, o1, o2, o3, o4, t31.2.2.1, (), t31.2.2.2.1, t31.2.2.2.2.1, t31.2.2.2.2.2.1, t31.2.2.2.2.2.2)))
      (some (Sum.inr (c_1, (), (), (), o0, o1, o2, o3, o4, t20, (), o7)))
def swept110.l1 (k : Nat) (c_2 : (Int × ((List (Int × (Int × (Int × (Int × Int))))) × ((List Int) × ((List Int) × (List Int)))))) : ((Int × ((List (Int × (Int × (Int × (Int × Int))))) × ((List Int) × ((List Int) × (List Int))))) × (Unit × (Unit × (Unit × (Int × ((Int × (Unit × (Unit × (Unit × Unit)))) × ((List (Int × (Int × (Int × (Int × Int))))) × ((List Int) × ((List Int) × ((List Int) × ((List Bool) × (Unit × (Unit × ((Int × ((List (Int × (Int × (Int × (Int × Int))))) × ((List Int) × ((List Int) × (List Int))))) × (Unit × Unit))))))))))))))) → Option (((Int × ((List (Int × (Int × (Int × (Int × Int))))) × ((List Int) × ((List Int) × (List Int))))) × (Unit × (Unit × (Unit × (Int × ((Int × (Unit × (Unit × (Unit × Unit)))) × ((List (Int × (Int × (Int × (Int × Int))))) × ((List Int) × ((List Int) × ((List Int) × ((List Bool) × (Unit × (Unit × ((Int × ((List (Int × (Int × (Int × (Int × Int))))) × ((List Int) × ((List Int) × (List Int))))) × (Unit × Unit))))))))))))))) ⊕ ((Int × ((List (Int × (Int × (Int × (Int × Int))))) × ((List Int) × ((List Int) × (List Int))))) × (Unit × (Unit × ((Int × (Unit × (Unit × (Unit × Unit)))) × ((List (Int × (Int × (Int × (Int × Int))))) × ((List Int) × ((List Int) × ((List Int) × ((List Bool) × Unit))))))))))
  | (c_3, _, _, _, t36, o0_2, o1_2, o2_2, o3_2, o4_2, t20_2, _, o7_2) =>
    cond (decide (t36 < (List.length c_2.2.2.2.1 : Int)))
      ((rd c_2.2.2.2.1 t36).bind fun t38 =>
      (swept1137 k t38 o7_2.1 o7_2.2.1 o7_2.2.2.1 () t20_2 (o7_2.1, o7_2.2.1, o7_2.2.2.1, o7_2.2.2.2)).bind fun t42 =>
      some (Sum.inl (c_3, (), (), (), (w64 (t36 + 1)), o0_2, o1_2, o2_2, o3_2, o4_2, t42.2.2.1, (), t42.2.2.2.1, t42.2.2.2.2.1, t42.2.2.2.2.2.1, t42.2.2.2.2.2.2)))
      (some (Sum.inr (c_3, (), (), o0_2, o1_2, o2_2, o3_2, o4_2, t20_2, ())))
def swept110.l2 (k : Nat) (c_4 : (Int × ((List (Int × (Int × (Int × (Int × Int))))) × ((List Int) × ((List Int) × (List Int)))))) : ((Int × ((List (Int × (Int × (Int × (Int × Int))))) × ((List Int) × ((List Int) × (List Int))))) × (Unit × (Unit × (Unit × (Unit × (Int × ((Int × (Unit × (Unit × (Unit × Unit)))) × ((List (Int × (Int × (Int × (Int × Int))))) × ((List Int) × ((List Int) × ((List Int) × ((List Bool) × (Unit × ((List Int) × ((Int × (Unit × (Unit × (Unit × (List Int))))) × ((List (Int × (Int × (Int × (Int × Int))))) × ((List Int) × (List Int)))))))))))))))))) → Option (((Int × ((List (Int × (Int × (Int × (Int × Int))))) × ((List Int) × ((List Int) × (List Int))))) × (Unit × (Unit × (Unit × (Unit × (Int × ((Int × (Unit × (Unit × (Unit × Unit)))) × ((List (Int × (Int × (Int × (Int × Int))))) × ((List Int) × ((List Int) × ((List Int) × ((List Bool) × (Unit × ((List Int) × ((Int × (Unit × (Unit × (Unit × (List Int))))) × ((List (Int × (Int × (Int × (Int × Int))))) × ((List Int) × (List Int)))))))))))))))))) ⊕ ((Int × ((List (Int × (Int × (Int × (Int × Int))))) × ((List Int) × ((List Int) × (List Int))))) × (Unit × (Unit × (Unit × ((Int × (Unit × (Unit × (Unit × Unit)))) × ((List (Int × (Int × (Int × (Int × Int))))) × ((List Int) × ((List Int) × ((List Int) × ((List Int) × ((Int × (Unit × (Unit × (Unit × (List Int))))) × ((List (Int × (Int × (Int × (Int × Int))))) × ((List Int) × (List Int)))))))))))))))
  | (c_5, _, _, _, _, t56, o0_4, o1_4, o2_4, o3_4, o4_4, t20_4, _, t47, o8, o9, o10, o11) =>
    cond (decide (t56 < (List.length c_4.2.1 : Int)))
      (Option.bind
        ((rd c_4.2.1 t56).bind fun t59 =>
        (rd t20_4 t56).bind fun _ =>
        (rd t20_4 t56).bind fun t64 =>
        cond (!t64)
          (some (c_5, (), (), (), (), o0_4, o1_4, o2_4, o3_4, o4_4, t20_4, (), t47, o8, o9, o10, o11))
          (Option.bind
            (cond (decide (t59.1 ≥ 3))
              ((rd t47 t59.2.1).bind fun _ =>
              (rd t47 t59.2.1).bind fun t73 =>
              some (c_5, (), (), (), (), (), o0_4, o1_4, o2_4, o3_4, o4_4, t20_4, (), t47, o8, o9, o10, o11, t59.1, t73, t59.2.2))
              (some (c_5, (), (), (), (), (), o0_4, o1_4, o2_4, o3_4, o4_4, t20_4, (), t47, o8, o9, o10, o11, t59)) : Option ((Int × ((List (Int × (Int × (Int × (Int × Int))))) × ((List Int) × ((List Int) × (List Int))))) × (Unit × (Unit × (Unit × (Unit × (Unit × ((Int × (Unit × (Unit × (Unit × Unit)))) × ((List (Int × (Int × (Int × (Int × Int))))) × ((List Int) × ((List Int) × ((List Int) × ((List Bool) × (Unit × ((List Int) × ((Int × (Unit × (Unit × (Unit × (List Int))))) × ((List (Int × (Int × (Int × (Int × Int))))) × ((List Int) × ((List Int) × (Int × (Int × (Int × (Int × Int))))))))))))))))))))))) fun ((c_6, _, _, _, _, _, o0_5, o1_5, o2_5, o3_5, o4_5, t20_5, _, t47_1, o8_1, o9_1, o10_1, o11_1, o12) : ((Int × ((List (Int × (Int × (Int × (Int × Int))))) × ((List Int) × ((List Int) × (List Int))))) × (Unit × (Unit × (Unit × (Unit × (Unit × ((Int × (Unit × (Unit × (Unit × Unit)))) × ((List (Int × (Int × (Int × (Int × Int))))) × ((List Int) × ((List Int) × ((List Int) × ((List Bool) × (Unit × ((List Int) × ((Int × (Unit × (Unit × (Unit × (List Int))))) × ((List (Int × (Int × (Int × (Int × Int))))) × ((List Int) × ((List Int) × (Int × (Int × (Int × (Int × Int))))))))))))))))))))))) =>
          Option.bind
            (cond (decide (o12.1 > 3))
              ((rd t47_1 o12.2.2.1).bind fun _ =>
              (rd t47_1 o12.2.2.1).bind fun t82 =>
              some (c_6, (), (), (), (), (), o0_5, o1_5, o2_5, o3_5, o4_5, t20_5, (), t47_1, o8_1, o9_1, o10_1, o11_1, o12.1, o12.2.1, t82, o12.2.2.2))
              (some (c_6, (), (), (), (), (), o0_5, o1_5, o2_5, o3_5, o4_5, t20_5, (), t47_1, o8_1, o9_1, o10_1, o11_1, o12)) : Option ((Int × ((List (Int × (Int × (Int × (Int × Int))))) × ((List Int) × ((List Int) × (List Int))))) × (Unit × (Unit × (Unit × (Unit × (Unit × ((Int × (Unit × (Unit × (Unit × Unit)))) × ((List (Int × (Int × (Int × (Int × Int))))) × ((List Int) × ((List Int) × ((List Int) × ((List Bool) × (Unit × ((List Int) × ((Int × (Unit × (Unit × (Unit × (List Int))))) × ((List (Int × (Int × (Int × (Int × Int))))) × ((List Int) × ((List Int) × (Int × (Int × (Int × (Int × Int))))))))))))))))))))))) fun ((c_7, _, _, _, _, _, o0_6, o1_6, o2_6, o3_6, o4_6, t20_6, _, t47_2, o8_2, o9_2, o10_2, o11_2, o12_1) : ((Int × ((List (Int × (Int × (Int × (Int × Int))))) × ((List Int) × ((List Int) × (List Int))))) × (Unit × (Unit × (Unit × (Unit × (Unit × ((Int × (Unit × (Unit × (Unit × Unit)))) × ((List (Int × (Int × (Int × (Int × Int))))) × ((List Int) × ((List Int) × ((List Int) × ((List Bool) × (Unit × ((List Int) × ((Int × (Unit × (Unit × (Unit × (List Int))))) × ((List (Int × (Int × (Int × (Int × Int))))) × ((List Int) × ((List Int) × (Int × (Int × (Int × (Int × Int))))))))))))))))))))))) =>
          Option.bind
            (cond (o12_1.1 == 7)
              ((rd t47_2 o12_1.2.2.2.1).bind fun _ =>
              (rd t47_2 o12_1.2.2.2.1).bind fun t91 =>
              some (c_7, (), (), (), (), (), o0_6, o1_6, o2_6, o3_6, o4_6, t20_6, (), t47_2, o8_2, o9_2, o10_2, o11_2, o12_1.1, o12_1.2.1, o12_1.2.2.1, t91, o12_1.2.2.2.2))
              (some (c_7, (), (), (), (), (), o0_6, o1_6, o2_6, o3_6, o4_6, t20_6, (), t47_2, o8_2, o9_2, o10_2, o11_2, o12_1)) : Option ((Int × ((List (Int × (Int × (Int × (Int × Int))))) × ((List Int) × ((List Int) × (List Int))))) × (Unit × (Unit × (Unit × (Unit × (Unit × ((Int × (Unit × (Unit × (Unit × Unit)))) × ((List (Int × (Int × (Int × (Int × Int))))) × ((List Int) × ((List Int) × ((List Int) × ((List Bool) × (Unit × ((List Int) × ((Int × (Unit × (Unit × (Unit × (List Int))))) × ((List (Int × (Int × (Int × (Int × Int))))) × ((List Int) × ((List Int) × (Int × (Int × (Int × (Int × Int))))))))))))))))))))))) fun ((c_8, _, _, _, _, _, o0_7, o1_7, o2_7, o3_7, o4_7, t20_7, _, t47_3, o8_3, o9_3, o10_3, o11_3, o12_2) : ((Int × ((List (Int × (Int × (Int × (Int × Int))))) × ((List Int) × ((List Int) × (List Int))))) × (Unit × (Unit × (Unit × (Unit × (Unit × ((Int × (Unit × (Unit × (Unit × Unit)))) × ((List (Int × (Int × (Int × (Int × Int))))) × ((List Int) × ((List Int) × ((List Int) × ((List Bool) × (Unit × ((List Int) × ((Int × (Unit × (Unit × (Unit × (List Int))))) × ((List (Int × (Int × (Int × (Int × Int))))) × ((List Int) × ((List Int) × (Int × (Int × (Int × (Int × Int))))))))))))))))))))))) =>
          (rd t47_3 t56).bind fun _ =>
          (rd t47_3 t56).bind fun _ =>
          (if room (List.length o9_3 + List.length [o12_2]) 40 then some () else none).bind fun _ =>
          some (c_8, (), (), (), (), o0_7, o1_7, o2_7, o3_7, o4_7, t20_7, (), (List.set t47_3 (Int.toNat t56) (List.length o9_3 : Int)), (o8_3.1, o8_3.2.1, o8_3.2.2), (o9_3 ++ [o12_2]), o10_3, o11_3)) : Option ((Int × ((List (Int × (Int × (Int × (Int × Int))))) × ((List Int) × ((List Int) × (List Int))))) × (Unit × (Unit × (Unit × (Unit × ((Int × (Unit × (Unit × (Unit × Unit)))) × ((List (Int × (Int × (Int × (Int × Int))))) × ((List Int) × ((List Int) × ((List Int) × ((List Bool) × (Unit × ((List Int) × ((Int × (Unit × (Unit × (Unit × (List Int))))) × ((List (Int × (Int × (Int × (Int × Int))))) × ((List Int) × (List Int)))))))))))))))))) fun ((c_9, _, _, _, _, o0_8, o1_8, o2_8, o3_8, o4_8, t20_8, _, t47_5, o8_4, o9_4, o10_4, o11_4) : ((Int × ((List (Int × (Int × (Int × (Int × Int))))) × ((List Int) × ((List Int) × (List Int))))) × (Unit × (Unit × (Unit × (Unit × ((Int × (Unit × (Unit × (Unit × Unit)))) × ((List (Int × (Int × (Int × (Int × Int))))) × ((List Int) × ((List Int) × ((List Int) × ((List Bool) × (Unit × ((List Int) × ((Int × (Unit × (Unit × (Unit × (List Int))))) × ((List (Int × (Int × (Int × (Int × Int))))) × ((List Int) × (List Int)))))))))))))))))) =>
      some (Sum.inl (c_9, (), (), (), (), (w64 (t56 + 1)), o0_8, o1_8, o2_8, o3_8, o4_8, t20_8, (), t47_5, o8_4, o9_4, o10_4, o11_4)))
      (some (Sum.inr (c_5, (), (), (), o0_4, o1_4, o2_4, o3_4, o4_4, t47, o8, o9, o10, o11)))
def swept110.l3 (k : Nat) (c_10 : (Int × ((List (Int × (Int × (Int × (Int × Int))))) × ((List Int) × ((List Int) × (List Int)))))) : ((Int × ((List (Int × (Int × (Int × (Int × Int))))) × ((List Int) × ((List Int) × (List Int))))) × (Unit × (Unit × (Unit × (Int × ((Int × (Unit × (Unit × (Unit × Unit)))) × ((List (Int × (Int × (Int × (Int × Int))))) × ((List Int) × ((List Int) × ((List Int) × ((List Int) × ((Int × (Unit × (Unit × (Unit × (List Int))))) × ((List (Int × (Int × (Int × (Int × Int))))) × ((List Int) × (List Int))))))))))))))) → Option (((Int × ((List (Int × (Int × (Int × (Int × Int))))) × ((List Int) × ((List Int) × (List Int))))) × (Unit × (Unit × (Unit × (Int × ((Int × (Unit × (Unit × (Unit × Unit)))) × ((List (Int × (Int × (Int × (Int × Int))))) × ((List Int) × ((List Int) × ((List Int) × ((List Int) × ((Int × (Unit × (Unit × (Unit × (List Int))))) × ((List (Int × (Int × (Int × (Int × Int))))) × ((List Int) × (List Int))))))))))))))) ⊕ ((Int × ((List (Int × (Int × (Int × (Int × Int))))) × ((List Int) × ((List Int) × (List Int))))) × (Unit × (Unit × (Unit × ((Int × (Unit × (Unit × (Unit × Unit)))) × ((List (Int × (Int × (Int × (Int × Int))))) × ((List Int) × ((List Int) × ((List Int) × ((List Int) × ((Int × (Unit × (Unit × (Unit × (List Int))))) × ((List (Int × (Int × (Int × (Int × Int))))) × ((List Int) × (List Int)))))))))))))))
  | (c_11, _, _, _, t109, o0_10, o1_10, o2_10, o3_10, o4_10, t47_7, o8_6, o9_6, o10_6, o11_6) =>
    cond (decide (t109 < (List.length c_10.2.2.1 : Int)))
      ((rd c_10.2.2.1 t109).bind fun t111 =>
      (rd t47_7 t111).bind fun _ =>
      (rd t47_7 t111).bind fun t118 =>
      (if room (List.length o10_6 + List.length ([t118] : List Int)) 8 then some () else none).bind fun _ =>
      some (Sum.inl (c_11, (), (), (), (w64 (t109 + 1)), o0_10, o1_10, o2_10, o3_10, o4_10, t47_7, (o8_6.1, o8_6.2.1, o8_6.2.2.1, o8_6.2.2.2), o9_6, (o10_6 ++ ([t118] : List Int)), o11_6)))
      (some (Sum.inr (c_11, (), (), (), o0_10, o1_10, o2_10, o3_10, o4_10, t47_7, o8_6, o9_6, o10_6, o11_6)))
def swept110.l4 (k : Nat) (c_12 : (Int × ((List (Int × (Int × (Int × (Int × Int))))) × ((List Int) × ((List Int) × (List Int)))))) : (Unit × (Unit × (Unit × (Int × ((Int × (Unit × (Unit × (Unit × Unit)))) × ((List (Int × (Int × (Int × (Int × Int))))) × ((List Int) × ((List Int) × ((List Int) × ((List Int) × ((Int × (Unit × (Unit × (Unit × (List Int))))) × ((List (Int × (Int × (Int × (Int × Int))))) × ((List Int) × (List Int)))))))))))))) → Option ((Unit × (Unit × (Unit × (Int × ((Int × (Unit × (Unit × (Unit × Unit)))) × ((List (Int × (Int × (Int × (Int × Int))))) × ((List Int) × ((List Int) × ((List Int) × ((List Int) × ((Int × (Unit × (Unit × (Unit × (List Int))))) × ((List (Int × (Int × (Int × (Int × Int))))) × ((List Int) × (List Int)))))))))))))) ⊕ (Unit × (Unit × ((Int × (Unit × (Unit × (Unit × Unit)))) × ((List (Int × (Int × (Int × (Int × Int))))) × ((List Int) × ((List Int) × ((List Int) × ((Int × (Unit × (Unit × (Unit × (List Int))))) × ((List (Int × (Int × (Int × (Int × Int))))) × ((List Int) × (List Int))))))))))))
  | (_, _, _, t126, o0_12, o1_12, o2_12, o3_12, o4_12, t47_9, o8_8, o9_8, o10_8, o11_8) =>
    cond (decide (t126 < (List.length c_12.2.2.2.1 : Int)))
      ((rd c_12.2.2.2.1 t126).bind fun t128 =>
      (rd t47_9 t128).bind fun _ =>
      (rd t47_9 t128).bind fun t135 =>
      (if room (List.length o11_8 + List.length ([t135] : List Int)) 8 then some () else none).bind fun _ =>
      some (Sum.inl ((), (), (), (w64 (t126 + 1)), o0_12, o1_12, o2_12, o3_12, o4_12, t47_9, (o8_8.1, o8_8.2.1, o8_8.2.2.1, o8_8.2.2.2.1, o8_8.2.2.2.2), o9_8, o10_8, (o11_8 ++ ([t135] : List Int)))))
      (some (Sum.inr ((), (), o0_12, o1_12, o2_12, o3_12, o4_12, o8_8, o9_8, o10_8, o11_8)))
def swept110 (k : Nat) (c : (Int × ((List (Int × (Int × (Int × (Int × Int))))) × ((List Int) × ((List Int) × (List Int)))))) : Option ((Int × ((List (Int × (Int × (Int × (Int × Int))))) × ((List Int) × ((List Int) × (List Int))))) × Unit) :=
  (if 0 ≤ (List.length c.2.1 : Int) ∧ (List.length c.2.1 : Int) ≤ (List.length c.2.1 : Int) ∧ (List.length c.2.1 : Int) * 1 ≤ 140737488355328 then some () else none).bind fun _ =>
  Option.bind
    (loopN (swept110.l0 k c) k (c, (), (), (), 0, (0, (), (), (), ()), [], [], [], [], (List.replicate (Int.toNat (List.length c.2.1 : Int)) false), (), (), c, (), ()) : Option ((Int × ((List (Int × (Int × (Int × (Int × Int))))) × ((List Int) × ((List Int) × (List Int))))) × (Unit × (Unit × (Unit × ((Int × (Unit × (Unit × (Unit × Unit)))) × ((List (Int × (Int × (Int × (Int × Int))))) × ((List Int) × ((List Int) × ((List Int) × ((List Bool) × (Unit × (Unit × ((Int × ((List (Int × (Int × (Int × (Int × Int))))) × ((List Int) × ((List Int) × (List Int))))) × (Unit × Unit))))))))))))))) fun ((c_2, _, _, _, o0_1, o1_1, o2_1, o3_1, o4_1, t20_1, _, o7_1) : ((Int × ((List (Int × (Int × (Int × (Int × Int))))) × ((List Int) × ((List Int) × (List Int))))) × (Unit × (Unit × (Unit × ((Int × (Unit × (Unit × (Unit × Unit)))) × ((List (Int × (Int × (Int × (Int × Int))))) × ((List Int) × ((List Int) × ((List Int) × ((List Bool) × (Unit × (Unit × ((Int × ((List (Int × (Int × (Int × (Int × Int))))) × ((List Int) × ((List Int) × (List Int))))) × (Unit × Unit))))))))))))))) =>
  Option.bind
    (loopN (swept110.l1 k c_2) k (c_2, (), (), (), 0, o0_1, o1_1, o2_1, o3_1, o4_1, t20_1, (), o7_1) : Option ((Int × ((List (Int × (Int × (Int × (Int × Int))))) × ((List Int) × ((List Int) × (List Int))))) × (Unit × (Unit × ((Int × (Unit × (Unit × (Unit × Unit)))) × ((List (Int × (Int × (Int × (Int × Int))))) × ((List Int) × ((List Int) × ((List Int) × ((List Bool) × Unit)))))))))) fun ((c_4, _, _, o0_3, o1_3, o2_3, o3_3, o4_3, t20_3, _) : ((Int × ((List (Int × (Int × (Int × (Int × Int))))) × ((List Int) × ((List Int) × (List Int))))) × (Unit × (Unit × ((Int × (Unit × (Unit × (Unit × Unit)))) × ((List (Int × (Int × (Int × (Int × Int))))) × ((List Int) × ((List Int) × ((List Int) × ((List Bool) × Unit)))))))))) =>
  (if 0 ≤ (List.length c_4.2.1 : Int) ∧ (List.length c_4.2.1 : Int) ≤ (List.length c_4.2.1 : Int) ∧ (List.length c_4.2.1 : Int) * 8 ≤ 140737488355328 then some () else none).bind fun _ =>
  Option.bind
    (loopN (swept110.l2 k c_4) k (c_4, (), (), (), (), 0, o0_3, o1_3, o2_3, o3_3, o4_3, t20_3, (), (List.replicate (Int.toNat (List.length c_4.2.1 : Int)) 0), (c_4.1, (), (), (), c_4.2.2.2.2), [], [], []) : Option ((Int × ((List (Int × (Int × (Int × (Int × Int))))) × ((List Int) × ((List Int) × (List Int))))) × (Unit × (Unit × (Unit × ((Int × (Unit × (Unit × (Unit × Unit)))) × ((List (Int × (Int × (Int × (Int × Int))))) × ((List Int) × ((List Int) × ((List Int) × ((List Int) × ((Int × (Unit × (Unit × (Unit × (List Int))))) × ((List (Int × (Int × (Int × (Int × Int))))) × ((List Int) × (List Int))))))))))))))) fun ((c_10, _, _, _, o0_9, o1_9, o2_9, o3_9, o4_9, t47_6, o8_5, o9_5, o10_5, o11_5) : ((Int × ((List (Int × (Int × (Int × (Int × Int))))) × ((List Int) × ((List Int) × (List Int))))) × (Unit × (Unit × (Unit × ((Int × (Unit × (Unit × (Unit × Unit)))) × ((List (Int × (Int × (Int × (Int × Int))))) × ((List Int) × ((List Int) × ((List Int) × ((List Int) × ((Int × (Unit × (Unit × (Unit × (List Int))))) × ((List (Int × (Int × (Int × (Int × Int))))) × ((List Int) × (List Int))))))))))))))) =>
  Option.bind
    (loopN (swept110.l3 k c_10) k (c_10, (), (), (), 0, o0_9, o1_9, o2_9, o3_9, o4_9, t47_6, o8_5, o9_5, o10_5, o11_5) : Option ((Int × ((List (Int × (Int × (Int × (Int × Int))))) × ((List Int) × ((List Int) × (List Int))))) × (Unit × (Unit × (Unit × ((Int × (Unit × (Unit × (Unit × Unit)))) × ((List (Int × (Int × (Int × (Int × Int))))) × ((List Int) × ((List Int) × ((List Int) × ((List Int) × ((Int × (Unit × (Unit × (Unit × (List Int))))) × ((List (Int × (Int × (Int × (Int × Int))))) × ((List Int) × (List Int))))))))))))))) fun ((c_12, _, _, _, o0_11, o1_11, o2_11, o3_11, o4_11, t47_8, o8_7, o9_7, o10_7, o11_7) : ((Int × ((List (Int × (Int × (Int × (Int × Int))))) × ((List Int) × ((List Int) × (List Int))))) × (Unit × (Unit × (Unit × ((Int × (Unit × (Unit × (Unit × Unit)))) × ((List (Int × (Int × (Int × (Int × Int))))) × ((List Int) × ((List Int) × ((List Int) × ((List Int) × ((Int × (Unit × (Unit × (Unit × (List Int))))) × ((List (Int × (Int × (Int × (Int × Int))))) × ((List Int) × (List Int))))))))))))))) =>
  Option.bind
    (loopN (swept110.l4 k c_12) k ((), (), (), 0, o0_11, o1_11, o2_11, o3_11, o4_11, t47_8, o8_7, o9_7, o10_7, o11_7) : Option (Unit × (Unit × ((Int × (Unit × (Unit × (Unit × Unit)))) × ((List (Int × (Int × (Int × (Int × Int))))) × ((List Int) × ((List Int) × ((List Int) × ((Int × (Unit × (Unit × (Unit × (List Int))))) × ((List (Int × (Int × (Int × (Int × Int))))) × ((List Int) × (List Int)))))))))))) fun ((_, _, _, _, _, _, _, o8_9, o9_9, o10_9, o11_9) : (Unit × (Unit × ((Int × (Unit × (Unit × (Unit × Unit)))) × ((List (Int × (Int × (Int × (Int × Int))))) × ((List Int) × ((List Int) × ((List Int) × ((Int × (Unit × (Unit × (Unit × (List Int))))) × ((List (Int × (Int × (Int × (Int × Int))))) × ((List Int) × (List Int)))))))))))) =>
  some ((o8_9.1, o9_9, o10_9, o11_9, o8_9.2.2.2.2), ())
def swept110.A : Ann := { conds := [(4456469, ⟨[(1, .fp (.st (.pair (.int .i64) (.pair (.sl (.st (.pair (.int .i64) (.pair (.int .i64) (.pair (.int .i64) (.pair (.int .i64) (.int .i64))))))) (.pair (.sl (.int .i64)) (.pair (.sl (.int .i64)) (.sl (.int .i64)))))))), (2, .ptr 0 []), (3, .ptr 6 []), (9, .ms 7), (10, .ptr 8 []), (12, .ptr 12 [])], [(0, .var (.st (.pair (.int .i64) (.pair (.ms 1) (.pair (.ms 2) (.pair (.ms 3) (.ms 4))))))), (1, .row (.st (.pair (.int .i64) (.pair (.int .i64) (.pair (.int .i64) (.pair (.int .i64) (.int .i64))))))), (2, .row (.int .i64)), (3, .row (.int .i64)), (4, .row (.int .i64)), (5, .row .bool), (6, .var (.ms 5)), (7, .row (.int .i64)), (8, .var (.st (.pair (.int .i64) (.pair (.ms 9) (.pair (.ms 10) (.pair (.ms 11) (.sl (.int .i64)))))))), (9, .row (.st (.pair (.int .i64) (.pair (.int .i64) (.pair (.int .i64) (.pair (.int .i64) (.int .i64))))))), (10, .row (.int .i64)), (11, .row (.int .i64)), (12, .var (.st (.pair (.int .i64) (.pair (.int .i64) (.pair (.int .i64) (.pair (.int .i64) (.int .i64)))))))], 13, [], 37188636052598456057856⟩), (5046295, ⟨[(1, .fp (.st (.pair (.int .i64) (.pair (.sl (.st (.pair (.int .i64) (.pair (.int .i64) (.pair (.int .i64) (.pair (.int .i64) (.int .i64))))))) (.pair (.sl (.int .i64)) (.pair (.sl (.int .i64)) (.sl (.int .i64)))))))), (2, .ptr 0 []), (3, .ptr 6 []), (9, .ms 7), (10, .ptr 8 []), (12, .ptr 12 [])], [(0, .var (.st (.pair (.int .i64) (.pair (.ms 1) (.pair (.ms 2) (.pair (.ms 3) (.ms 4))))))), (1, .row (.st (.pair (.int .i64) (.pair (.int .i64) (.pair (.int .i64) (.pair (.int .i64) (.int .i64))))))), (2, .row (.int .i64)), (3, .row (.int .i64)), (4, .row (.int .i64)), (5, .row .bool), (6, .var (.ms 5)), (7, .row (.int .i64)), (8, .var (.st (.pair (.int .i64) (.pair (.ms 9) (.pair (.ms 10) (.pair (.ms 11) (.sl (.int .i64)))))))), (9, .row (.st (.pair (.int .i64) (.pair (.int .i64) (.pair (.int .i64) (.pair (.int .i64) (.int .i64))))))), (10, .row (.int .i64)), (11, .row (.int .i64)), (12, .var (.st (.pair (.int .i64) (.pair (.int .i64) (.pair (.int .i64) (.pair (.int .i64) (.int .i64)))))))], 13, [], 19040581658930409501622272⟩), (5636121, ⟨[(1, .fp (.st (.pair (.int .i64) (.pair (.sl (.st (.pair (.int .i64) (.pair (.int .i64) (.pair (.int .i64) (.pair (.int .i64) (.int .i64))))))) (.pair (.sl (.int .i64)) (.pair (.sl (.int .i64)) (.sl (.int .i64)))))))), (2, .ptr 0 []), (3, .ptr 6 []), (9, .ms 7), (10, .ptr 8 []), (12, .ptr 12 [])], [(0, .var (.st (.pair (.int .i64) (.pair (.ms 1) (.pair (.ms 2) (.pair (.ms 3) (.ms 4))))))), (1, .row (.st (.pair (.int .i64) (.pair (.int .i64) (.pair (.int .i64) (.pair (.int .i64) (.int .i64))))))), (2, .row (.int .i64)), (3, .row (.int .i64)), (4, .row (.int .i64)), (5, .row .bool), (6, .var (.ms 5)), (7, .row (.int .i64)), (8, .var (.st (.pair (.int .i64) (.pair (.ms 9) (.pair (.ms 10) (.pair (.ms 11) (.sl (.int .i64)))))))), (9, .row (.st (.pair (.int .i64) (.pair (.int .i64) (.pair (.int .i64) (.pair (.int .i64) (.int .i64))))))), (10, .row (.int .i64)), (11, .row (.int .i64)), (12, .var (.st (.pair (.int .i64) (.pair (.int .i64) (.pair (.int .i64) (.pair (.int .i64) (.int .i64)))))))], 13, [], 9748777809372369664830603264⟩)], blocks := [(0, ⟨[(1, .fp (.st (.pair (.int .i64) (.pair (.sl (.st (.pair (.int .i64) (.pair (.int .i64) (.pair (.int .i64) (.pair (.int .i64) (.int .i64))))))) (.pair (.sl (.int .i64)) (.pair (.sl (.int .i64)) (.sl (.int .i64)))))))), (2, .ptr 0 []), (3, .ptr 6 []), (4, .ptr 7 [])], [(0, .var (.st (.pair (.int .i64) (.pair (.ms 1) (.pair (.ms 2) (.pair (.ms 3) (.ms 4))))))), (1, .row (.st (.pair (.int .i64) (.pair (.int .i64) (.pair (.int .i64) (.pair (.int .i64) (.int .i64))))))), (2, .row (.int .i64)), (3, .row (.int .i64)), (4, .row (.int .i64)), (5, .row .bool), (6, .var (.ms 5)), (7, .var (.fn 137 (.pair (.ptr 6 []) (.pair (.fp (.st (.pair (.int .i64) (.pair (.sl (.st (.pair (.int .i64) (.pair (.int .i64) (.pair (.int .i64) (.pair (.int .i64) (.int .i64))))))) (.pair (.sl (.int .i64)) (.pair (.sl (.int .i64)) (.sl (.int .i64)))))))) (.pair (.ptr 7 []) .unit)))))], 8, [], 8556380224⟩), (2, ⟨[(1, .fp (.st (.pair (.int .i64) (.pair (.sl (.st (.pair (.int .i64) (.pair (.int .i64) (.pair (.int .i64) (.pair (.int .i64) (.int .i64))))))) (.pair (.sl (.int .i64)) (.pair (.sl (.int .i64)) (.sl (.int .i64)))))))), (2, .ptr 0 []), (3, .ptr 6 [])], [(0, .var (.st (.pair (.int .i64) (.pair (.ms 1) (.pair (.ms 2) (.pair (.ms 3) (.ms 4))))))), (1, .row (.st (.pair (.int .i64) (.pair (.int .i64) (.pair (.int .i64) (.pair (.int .i64) (.int .i64))))))), (2, .row (.int .i64)), (3, .row (.int .i64)), (4, .row (.int .i64)), (5, .row .bool), (6, .var (.ms 5))], 7, [], 17523466567936⟩), (4, ⟨[(1, .fp (.st (.pair (.int .i64) (.pair (.sl (.st (.pair (.int .i64) (.pair (.int .i64) (.pair (.int .i64) (.pair (.int .i64) (.int .i64))))))) (.pair (.sl (.int .i64)) (.pair (.sl (.int .i64)) (.sl (.int .i64)))))))), (2, .ptr 0 []), (9, .ms 7), (10, .ptr 8 [])], [(0, .var (.st (.pair (.int .i64) (.pair (.ms 1) (.pair (.ms 2) (.pair (.ms 3) (.ms 4))))))), (1, .row (.st (.pair (.int .i64) (.pair (.int .i64) (.pair (.int .i64) (.pair (.int .i64) (.int .i64))))))), (2, .row (.int .i64)), (3, .row (.int .i64)), (4, .row (.int .i64)), (7, .row (.int .i64)), (8, .var (.st (.pair (.int .i64) (.pair (.ms 9) (.pair (.ms 10) (.pair (.ms 11) (.sl (.int .i64)))))))), (9, .row (.st (.pair (.int .i64) (.pair (.int .i64) (.pair (.int .i64) (.pair (.int .i64) (.int .i64))))))), (10, .row (.int .i64)), (11, .row (.int .i64))], 12, [], 81129638414606609638194967222272⟩), (5, ⟨[(1, .fp (.st (.pair (.int .i64) (.pair (.sl (.st (.pair (.int .i64) (.pair (.int .i64) (.pair (.int .i64) (.pair (.int .i64) (.int .i64))))))) (.pair (.sl (.int .i64)) (.pair (.sl (.int .i64)) (.sl (.int .i64)))))))), (2, .ptr 0 []), (3, .ptr 6 []), (9, .ms 7), (10, .ptr 8 [])], [(0, .var (.st (.pair (.int .i64) (.pair (.ms 1) (.pair (.ms 2) (.pair (.ms 3) (.ms 4))))))), (1, .row (.st (.pair (.int .i64) (.pair (.int .i64) (.pair (.int .i64) (.pair (.int .i64) (.int .i64))))))), (2, .row (.int .i64)), (3, .row (.int .i64)), (4, .row (.int .i64)), (5, .row .bool), (6, .var (.ms 5)), (7, .row (.int .i64)), (8, .var (.st (.pair (.int .i64) (.pair (.ms 9) (.pair (.ms 10) (.pair (.ms 11) (.sl (.int .i64)))))))), (9, .row (.st (.pair (.int .i64) (.pair (.int .i64) (.pair (.int .i64) (.pair (.int .i64) (.int .i64))))))), (10, .row (.int .i64)), (11, .row (.int .i64))], 12, [], 40564819207303052617518350866432⟩), (6, ⟨[(1, .fp (.st (.pair (.int .i64) (.pair (.sl (.st (.pair (.int .i64) (.pair (.int .i64) (.pair (.int .i64) (.pair (.int .i64) (.int .i64))))))) (.pair (.sl (.int .i64)) (.pair (.sl (.int .i64)) (.sl (.int .i64)))))))), (2, .ptr 0 []), (9, .ms 7), (10, .ptr 8 [])], [(0, .var (.st (.pair (.int .i64) (.pair (.ms 1) (.pair (.ms 2) (.pair (.ms 3) (.ms 4))))))), (1, .row (.st (.pair (.int .i64) (.pair (.int .i64) (.pair (.int .i64) (.pair (.int .i64) (.int .i64))))))), (2, .row (.int .i64)), (3, .row (.int .i64)), (4, .row (.int .i64)), (7, .row (.int .i64)), (8, .var (.st (.pair (.int .i64) (.pair (.ms 9) (.pair (.ms 10) (.pair (.ms 11) (.sl (.int .i64)))))))), (9, .row (.st (.pair (.int .i64) (.pair (.int .i64) (.pair (.int .i64) (.pair (.int .i64) (.int .i64))))))), (10, .row (.int .i64)), (11, .row (.int .i64))], 12, [], 10633174929172010129776890170201620480⟩), (8, ⟨[(2, .ptr 0 []), (10, .ptr 8 [])], [(0, .var (.st (.pair (.int .i64) (.pair (.ms 1) (.pair (.ms 2) (.pair (.ms 3) (.ms 4))))))), (1, .row (.st (.pair (.int .i64) (.pair (.int .i64) (.pair (.int .i64) (.pair (.int .i64) (.int .i64))))))), (2, .row (.int .i64)), (3, .row (.int .i64)), (4, .row (.int .i64)), (8, .var (.st (.pair (.int .i64) (.pair (.ms 9) (.pair (.ms 10) (.pair (.ms 11) (.sl (.int .i64)))))))), (9, .row (.st (.pair (.int .i64) (.pair (.int .i64) (.pair (.int .i64) (.pair (.int .i64) (.int .i64))))))), (10, .row (.int .i64)), (11, .row (.int .i64))], 12, [], 1393711504316433711730116548388664652136448⟩)], loops := [(5, ⟨[(1, .fp (.st (.pair (.int .i64) (.pair (.sl (.st (.pair (.int .i64) (.pair (.int .i64) (.pair (.int .i64) (.pair (.int .i64) (.int .i64))))))) (.pair (.sl (.int .i64)) (.pair (.sl (.int .i64)) (.sl (.int .i64)))))))), (2, .ptr 0 []), (3, .ptr 6 []), (4, .ptr 7 []), (25, .int .i64)], [(0, .var (.st (.pair (.int .i64) (.pair (.ms 1) (.pair (.ms 2) (.pair (.ms 3) (.ms 4))))))), (1, .row (.st (.pair (.int .i64) (.pair (.int .i64) (.pair (.int .i64) (.pair (.int .i64) (.int .i64))))))), (2, .row (.int .i64)), (3, .row (.int .i64)), (4, .row (.int .i64)), (5, .row .bool), (6, .var (.ms 5)), (7, .var (.fn 137 (.pair (.ptr 6 []) (.pair (.fp (.st (.pair (.int .i64) (.pair (.sl (.st (.pair (.int .i64) (.pair (.int .i64) (.pair (.int .i64) (.pair (.int .i64) (.int .i64))))))) (.pair (.sl (.int .i64)) (.pair (.sl (.int .i64)) (.sl (.int .i64)))))))) (.pair (.ptr 7 []) .unit)))))], 8, [], 8556380224⟩), (10, ⟨[(1, .fp (.st (.pair (.int .i64) (.pair (.sl (.st (.pair (.int .i64) (.pair (.int .i64) (.pair (.int .i64) (.pair (.int .i64) (.int .i64))))))) (.pair (.sl (.int .i64)) (.pair (.sl (.int .i64)) (.sl (.int .i64)))))))), (2, .ptr 0 []), (3, .ptr 6 []), (4, .ptr 7 []), (36, .int .i64)], [(0, .var (.st (.pair (.int .i64) (.pair (.ms 1) (.pair (.ms 2) (.pair (.ms 3) (.ms 4))))))), (1, .row (.st (.pair (.int .i64) (.pair (.int .i64) (.pair (.int .i64) (.pair (.int .i64) (.int .i64))))))), (2, .row (.int .i64)), (3, .row (.int .i64)), (4, .row (.int .i64)), (5, .row .bool), (6, .var (.ms 5)), (7, .var (.fn 137 (.pair (.ptr 6 []) (.pair (.fp (.st (.pair (.int .i64) (.pair (.sl (.st (.pair (.int .i64) (.pair (.int .i64) (.pair (.int .i64) (.pair (.int .i64) (.int .i64))))))) (.pair (.sl (.int .i64)) (.pair (.sl (.int .i64)) (.sl (.int .i64)))))))) (.pair (.ptr 7 []) .unit)))))], 8, [], 17523466567936⟩), (17, ⟨[(1, .fp (.st (.pair (.int .i64) (.pair (.sl (.st (.pair (.int .i64) (.pair (.int .i64) (.pair (.int .i64) (.pair (.int .i64) (.int .i64))))))) (.pair (.sl (.int .i64)) (.pair (.sl (.int .i64)) (.sl (.int .i64)))))))), (2, .ptr 0 []), (3, .ptr 6 []), (9, .ms 7), (10, .ptr 8 []), (56, .int .i64)], [(0, .var (.st (.pair (.int .i64) (.pair (.ms 1) (.pair (.ms 2) (.pair (.ms 3) (.ms 4))))))), (1, .row (.st (.pair (.int .i64) (.pair (.int .i64) (.pair (.int .i64) (.pair (.int .i64) (.int .i64))))))), (2, .row (.int .i64)), (3, .row (.int .i64)), (4, .row (.int .i64)), (5, .row .bool), (6, .var (.ms 5)), (7, .row (.int .i64)), (8, .var (.st (.pair (.int .i64) (.pair (.ms 9) (.pair (.ms 10) (.pair (.ms 11) (.sl (.int .i64)))))))), (9, .row (.st (.pair (.int .i64) (.pair (.int .i64) (.pair (.int .i64) (.pair (.int .i64) (.int .i64))))))), (10, .row (.int .i64)), (11, .row (.int .i64))], 12, [], 81129638414606609638194967222272⟩), (30, ⟨[(1, .fp (.st (.pair (.int .i64) (.pair (.sl (.st (.pair (.int .i64) (.pair (.int .i64) (.pair (.int .i64) (.pair (.int .i64) (.int .i64))))))) (.pair (.sl (.int .i64)) (.pair (.sl (.int .i64)) (.sl (.int .i64)))))))), (2, .ptr 0 []), (9, .ms 7), (10, .ptr 8 []), (109, .int .i64)], [(0, .var (.st (.pair (.int .i64) (.pair (.ms 1) (.pair (.ms 2) (.pair (.ms 3) (.ms 4))))))), (1, .row (.st (.pair (.int .i64) (.pair (.int .i64) (.pair (.int .i64) (.pair (.int .i64) (.int .i64))))))), (2, .row (.int .i64)), (3, .row (.int .i64)), (4, .row (.int .i64)), (7, .row (.int .i64)), (8, .var (.st (.pair (.int .i64) (.pair (.ms 9) (.pair (.ms 10) (.pair (.ms 11) (.sl (.int .i64)))))))), (9, .row (.st (.pair (.int .i64) (.pair (.int .i64) (.pair (.int .i64) (.pair (.int .i64) (.int .i64))))))), (10, .row (.int .i64)), (11, .row (.int .i64))], 12, [], 10633174929172010129776890170201620480⟩), (35, ⟨[(2, .ptr 0 []), (9, .ms 7), (10, .ptr 8 []), (126, .int .i64)], [(0, .var (.st (.pair (.int .i64) (.pair (.ms 1) (.pair (.ms 2) (.pair (.ms 3) (.ms 4))))))), (1, .row (.st (.pair (.int .i64) (.pair (.int .i64) (.pair (.int .i64) (.pair (.int .i64) (.int .i64))))))), (2, .row (.int .i64)), (3, .row (.int .i64)), (4, .row (.int .i64)), (7, .row (.int .i64)), (8, .var (.st (.pair (.int .i64) (.pair (.ms 9) (.pair (.ms 10) (.pair (.ms 11) (.sl (.int .i64)))))))), (9, .row (.st (.pair (.int .i64) (.pair (.int .i64) (.pair (.int .i64) (.pair (.int .i64) (.int .i64))))))), (10, .row (.int .i64)), (11, .row (.int .i64))], 12, [], 1393711504316433711730116548388664652136448⟩)], keeps := [1], orders := [(32, [(0, .strong), (1, .strong), (2, .strong), (3, .strong), (4, .strong), (5, .strong), (6, .eff true), (7, .eff false), (8, .strong), (9, .eff false)]), (37, [(0, .strong), (1, .strong), (2, .strong), (3, .strong), (4, .strong), (5, .strong), (6, .eff true), (7, .eff false), (8, .strong), (9, .eff false)])], turns := [(0, [⟨0, [(1, .st (.pair (.int .i64) (.pair (.int .i64) (.pair (.int .i64) (.pair (.int .i64) (.int .i64)))))), (2, .int .i64), (3, .int .i64), (4, .int .i64)], .st (.pair (.int .i64) (.pair (.ms 1) (.pair (.ms 2) (.pair (.ms 3) (.ms 4)))))⟩]), (15, [⟨8, [(9, .st (.pair (.int .i64) (.pair (.int .i64) (.pair (.int .i64) (.pair (.int .i64) (.int .i64)))))), (10, .int .i64), (11, .int .i64)], .st (.pair (.int .i64) (.pair (.ms 9) (.pair (.ms 10) (.pair (.ms 11) (.sl (.int .i64))))))⟩])] }
def swept110.S : Sig := { f := 110, params := [.st (.pair (.int .i64) (.pair (.sl (.st (.pair (.int .i64) (.pair (.int .i64) (.pair (.int .i64) (.pair (.int .i64) (.int .i64))))))) (.pair (.sl (.int .i64)) (.pair (.sl (.int .i64)) (.sl (.int .i64))))))], objs := [], res := .st (.pair (.int .i64) (.pair (.sl (.st (.pair (.int .i64) (.pair (.int .i64) (.pair (.int .i64) (.pair (.int .i64) (.int .i64))))))) (.pair (.sl (.int .i64)) (.pair (.sl (.int .i64)) (.sl (.int .i64)))))), outs := [], fix := [], run := fun k ds os => swept110 k ds }
def swept110.G : List Sig := [swept1137.S]
theorem swept110.eq (k : Nat) : ∀ ds os, swept110.S.run k ds os = runF ⟨types, swept110.G, swept110.A, k, 0, []⟩ Try.f110 (codeOf Try.f110) swept110.S.params swept110.S.objs swept110.S.res swept110.S.outs ds os := by
  intro ds os; kernel_rfl
theorem swept110.dr : DrOk Try.prog swept110.A (codeOf Try.f110) := ⟨by kernel_rfl, by kernel_rfl⟩
theorem swept110.ok (k : Nat) : SoundAt Try.prog k swept110.S :=
  runF_sound (X := ⟨types, swept110.G, swept110.A, k, 0, []⟩) types_ok (mem_all (⟨swept1137.ok k, trivial⟩)) (fn := Try.f110) (c := codeOf Try.f110) rfl (by kernel_rfl) rfl rfl swept110.dr (swept110.eq k)
end Go.Proofs.Ytjbdhaenakcclaa.St

/- Go functions as plain Lean functions, and their contracts. -/
set_option linter.unusedVariables false
set_option maxRecDepth 100000
noncomputable section
namespace Go.Proofs.Ytjbdhaenakcclaa.St
open Go Go.Proofs.Ytjbdhaenakcclaa.Gp
def Of54.l0 (k : Nat) (t : (Int × (Int × (List (List (Int × Int)))))) : ((Int × (Int × (List (List (Int × Int))))) × (Unit × (Unit × (Unit × (Int × ((Int × (Unit × (Unit × (Unit × Unit)))) × ((List (Int × (Int × (Int × (Int × Int))))) × ((List Int) × ((List Int) × ((List Int) × ((List ((Int × (Int × (Int × (Int × Int)))) × Int)) × ((Unit × Unit) × ((List (Int × (Int × (Int × (Int × Int))))) × (List Int)))))))))))))) → Option (((Int × (Int × (List (List (Int × Int))))) × (Unit × (Unit × (Unit × (Int × ((Int × (Unit × (Unit × (Unit × Unit)))) × ((List (Int × (Int × (Int × (Int × Int))))) × ((List Int) × ((List Int) × ((List Int) × ((List ((Int × (Int × (Int × (Int × Int)))) × Int)) × ((Unit × Unit) × ((List (Int × (Int × (Int × (Int × Int))))) × (List Int)))))))))))))) ⊕ ((Int × (Int × (List (List (Int × Int))))) × (Unit × (Unit × (Unit × ((Int × (Unit × (Unit × (Unit × Unit)))) × ((List (Int × (Int × (Int × (Int × Int))))) × ((List Int) × ((List Int) × ((List Int) × ((List ((Int × (Int × (Int × (Int × Int)))) × Int)) × ((Unit × Unit) × ((List (Int × (Int × (Int × (Int × Int))))) × (List Int))))))))))))))
  | (t_1, _, _, _, t32, o0, o1, o2, o3, o4, o5, o6, o7, o9) =>
    cond (decide (t32 < t.1))
      ((put107 k () (1, 0, 0, 0, t32) ((), ()) o7 o5).bind fun t39 =>
      (if room (List.length o9 + List.length ([t39.1] : List Int)) 8 then some () else none).bind fun _ =>
      some (Sum.inl (t_1, (), (), (), (w64 (t32 + 1)), o0, o1, o2, o3, o4, t39.2.2.2, (t39.2.1.1, t39.2.1.2), t39.2.2.1, (o9 ++ ([t39.1] : List Int)))))
      (some (Sum.inr (t_1, (), (), (), o0, o1, o2, o3, o4, o5, o6, o7, o9)))
def Of54.l1 (k : Nat) (t29 : (Int × Unit)) : ((Int × (Int × (List (List (Int × Int))))) × (Unit × (Unit × (Unit × (Int × ((Int × (Unit × (Unit × (Unit × Unit)))) × ((List (Int × (Int × (Int × (Int × Int))))) × ((List Int) × ((List Int) × ((List Int) × ((List ((Int × (Int × (Int × (Int × Int)))) × Int)) × ((Unit × Unit) × ((List (Int × (Int × (Int × (Int × Int))))) × (List Int)))))))))))))) → Option (((Int × (Int × (List (List (Int × Int))))) × (Unit × (Unit × (Unit × (Int × ((Int × (Unit × (Unit × (Unit × Unit)))) × ((List (Int × (Int × (Int × (Int × Int))))) × ((List Int) × ((List Int) × ((List Int) × ((List ((Int × (Int × (Int × (Int × Int)))) × Int)) × ((Unit × Unit) × ((List (Int × (Int × (Int × (Int × Int))))) × (List Int)))))))))))))) ⊕ ((Int × (Int × (List (List (Int × Int))))) × (Unit × (Unit × (Unit × ((Int × (Unit × (Unit × (Unit × Unit)))) × ((List (Int × (Int × (Int × (Int × Int))))) × ((List Int) × ((List Int) × ((List Int) × ((List ((Int × (Int × (Int × (Int × Int)))) × Int)) × ((Unit × Unit) × ((List (Int × (Int × (Int × (Int × Int))))) × (List Int))))))))))))))
  | (t_3, _, _, _, t44, o0_2, o1_2, o2_2, o3_2, o4_2, o5_2, o6_2, o7_2, o9_2) =>
    cond (decide (t44 < t29.1))
      ((put107 k () (2, 0, 0, 0, t44) ((), ()) o7_2 o5_2).bind fun t51 =>
      (if room (List.length o9_2 + List.length ([t51.1] : List Int)) 8 then some () else none).bind fun _ =>
      some (Sum.inl (t_3, (), (), (), (w64 (t44 + 1)), o0_2, o1_2, o2_2, o3_2, o4_2, t51.2.2.2, (t51.2.1.1, t51.2.1.2), t51.2.2.1, (o9_2 ++ ([t51.1] : List Int)))))
      (some (Sum.inr (t_3, (), (), (), o0_2, o1_2, o2_2, o3_2, o4_2, o5_2, o6_2, o7_2, o9_2)))
def Of54.l2 (k : Nat) (t63 : Int) (t68 : Int) : ((Int × (Int × (List (List (Int × Int))))) × (Unit × (Unit × (Unit × (((Int × (Int × (List (List (Int × Int))))) × Unit) × (Unit × (Unit × (Int × ((Int × (Unit × (Unit × (Unit × Unit)))) × ((List (Int × (Int × (Int × (Int × Int))))) × ((List Int) × ((List Int) × ((List Int) × ((List ((Int × (Int × (Int × (Int × Int)))) × Int)) × ((Unit × Unit) × ((List (Int × (Int × (Int × (Int × Int))))) × ((List Int) × ((Int × (Unit × (Unit × (Unit × Unit)))) × ((List (Int × (Int × (Int × (Int × Int))))) × ((List Int) × ((List Int) × ((List Int) × (List Int))))))))))))))))))))))) → Option (((Int × (Int × (List (List (Int × Int))))) × (Unit × (Unit × (Unit × (((Int × (Int × (List (List (Int × Int))))) × Unit) × (Unit × (Unit × (Int × ((Int × (Unit × (Unit × (Unit × Unit)))) × ((List (Int × (Int × (Int × (Int × Int))))) × ((List Int) × ((List Int) × ((List Int) × ((List ((Int × (Int × (Int × (Int × Int)))) × Int)) × ((Unit × Unit) × ((List (Int × (Int × (Int × (Int × Int))))) × ((List Int) × ((Int × (Unit × (Unit × (Unit × Unit)))) × ((List (Int × (Int × (Int × (Int × Int))))) × ((List Int) × ((List Int) × ((List Int) × (List Int))))))))))))))))))))))) ⊕ ((Int × (Int × (List (List (Int × Int))))) × (Unit × (Unit × (Unit × (((Int × (Int × (List (List (Int × Int))))) × Unit) × (Unit × (Unit × ((Int × (Unit × (Unit × (Unit × Unit)))) × ((List (Int × (Int × (Int × (Int × Int))))) × ((List Int) × ((List Int) × ((List Int) × ((List ((Int × (Int × (Int × (Int × Int)))) × Int)) × ((Unit × Unit) × ((List (Int × (Int × (Int × (Int × Int))))) × ((List Int) × ((Int × (Unit × (Unit × (Unit × Unit)))) × ((List (Int × (Int × (Int × (Int × Int))))) × ((List Int) × ((List Int) × ((List Int) × (List Int)))))))))))))))))))))))
  | (t_6, _, _, _, row_1, _, _, t69, o0_5, o1_5, o2_5, o3_5, o4_5, o5_5, o6_5, o7_5, o9_5, o10_1, o11_1, o12_1, o13_1, o14_1, o17) =>
    cond (decide (t69 < t68))
      ((Of1108 k t69 row_1.1).bind fun t74 =>
      Option.bind
        (cond (decide (t63 < t_6.2.1))
          ((if t63 < 0 then none else some (shrI .i64 t74.1.1 t63)).bind fun t83 =>
          let t84 : Int := (ibits .and .i64 t83 1)
          (if room (List.length o17 + List.length ([t84] : List Int)) 8 then some () else none).bind fun _ =>
          some (t_6, (), (), (), row_1, (), (), o0_5, o1_5, o2_5, o3_5, o4_5, o5_5, o6_5, o7_5, o9_5, o10_1, o11_1, o12_1, o13_1, o14_1, (o17 ++ ([t84] : List Int))))
          (let t93 : Int := (w64 (t63 - t_6.2.1))
          (if t93 < 0 then none else some (shrI .i64 t74.1.2 t93)).bind fun t94 =>
          let t95 : Int := (ibits .and .i64 t94 1)
          (if room (List.length o17 + List.length ([t95] : List Int)) 8 then some () else none).bind fun _ =>
          some (t_6, (), (), (), row_1, (), (), o0_5, o1_5, o2_5, o3_5, o4_5, o5_5, o6_5, o7_5, o9_5, o10_1, o11_1, o12_1, o13_1, o14_1, (o17 ++ ([t95] : List Int)))) : Option ((Int × (Int × (List (List (Int × Int))))) × (Unit × (Unit × (Unit × (((Int × (Int × (List (List (Int × Int))))) × Unit) × (Unit × (Unit × ((Int × (Unit × (Unit × (Unit × Unit)))) × ((List (Int × (Int × (Int × (Int × Int))))) × ((List Int) × ((List Int) × ((List Int) × ((List ((Int × (Int × (Int × (Int × Int)))) × Int)) × ((Unit × Unit) × ((List (Int × (Int × (Int × (Int × Int))))) × ((List Int) × ((Int × (Unit × (Unit × (Unit × Unit)))) × ((List (Int × (Int × (Int × (Int × Int))))) × ((List Int) × ((List Int) × ((List Int) × (List Int))))))))))))))))))))))) fun ((t_7, _, _, _, row_2, _, _, o0_6, o1_6, o2_6, o3_6, o4_6, o5_6, o6_6, o7_6, o9_6, o10_2, o11_2, o12_2, o13_2, o14_2, o17_1) : ((Int × (Int × (List (List (Int × Int))))) × (Unit × (Unit × (Unit × (((Int × (Int × (List (List (Int × Int))))) × Unit) × (Unit × (Unit × ((Int × (Unit × (Unit × (Unit × Unit)))) × ((List (Int × (Int × (Int × (Int × Int))))) × ((List Int) × ((List Int) × ((List Int) × ((List ((Int × (Int × (Int × (Int × Int)))) × Int)) × ((Unit × Unit) × ((List (Int × (Int × (Int × (Int × Int))))) × ((List Int) × ((Int × (Unit × (Unit × (Unit × Unit)))) × ((List (Int × (Int × (Int × (Int × Int))))) × ((List Int) × ((List Int) × ((List Int) × (List Int))))))))))))))))))))))) =>
      some (Sum.inl (t_7, (), (), (), row_2, (), (), (w64 (t69 + 1)), o0_6, o1_6, o2_6, o3_6, o4_6, o5_6, o6_6, o7_6, o9_6, o10_2, o11_2, o12_2, o13_2, o14_2, o17_1)))
      (some (Sum.inr (t_6, (), (), (), row_1, (), (), o0_5, o1_5, o2_5, o3_5, o4_5, o5_5, o6_5, o7_5, o9_5, o10_1, o11_1, o12_1, o13_1, o14_1, o17)))
def Of54.l3 (k : Nat) (t62 : Int) : ((Int × (Int × (List (List (Int × Int))))) × (Unit × (Unit × (Unit × (((Int × (Int × (List (List (Int × Int))))) × Unit) × (Unit × (Int × ((Int × (Unit × (Unit × (Unit × Unit)))) × ((List (Int × (Int × (Int × (Int × Int))))) × ((List Int) × ((List Int) × ((List Int) × ((List ((Int × (Int × (Int × (Int × Int)))) × Int)) × ((Unit × Unit) × ((List (Int × (Int × (Int × (Int × Int))))) × ((List Int) × ((Int × (Unit × (Unit × (Unit × Unit)))) × ((List (Int × (Int × (Int × (Int × Int))))) × ((List Int) × ((List Int) × (List Int))))))))))))))))))))) → Option (((Int × (Int × (List (List (Int × Int))))) × (Unit × (Unit × (Unit × (((Int × (Int × (List (List (Int × Int))))) × Unit) × (Unit × (Int × ((Int × (Unit × (Unit × (Unit × Unit)))) × ((List (Int × (Int × (Int × (Int × Int))))) × ((List Int) × ((List Int) × ((List Int) × ((List ((Int × (Int × (Int × (Int × Int)))) × Int)) × ((Unit × Unit) × ((List (Int × (Int × (Int × (Int × Int))))) × ((List Int) × ((Int × (Unit × (Unit × (Unit × Unit)))) × ((List (Int × (Int × (Int × (Int × Int))))) × ((List Int) × ((List Int) × (List Int))))))))))))))))))))) ⊕ (Unit × (Unit × (Unit × ((Int × (Unit × (Unit × (Unit × Unit)))) × ((List (Int × (Int × (Int × (Int × Int))))) × ((List Int) × ((List Int) × ((List Int) × ((List ((Int × (Int × (Int × (Int × Int)))) × Int)) × ((Unit × Unit) × ((List (Int × (Int × (Int × (Int × Int))))) × ((Int × (Unit × (Unit × (Unit × Unit)))) × ((List (Int × (Int × (Int × (Int × Int))))) × ((List Int) × ((List Int) × (List Int)))))))))))))))))
  | (t_5, _, _, _, row, _, t63, o0_4, o1_4, o2_4, o3_4, o4_4, o5_4, o6_4, o7_4, o9_4, o10, o11, o12, o13, o14) =>
    cond (decide (t63 < t62))
      ((if (List.length o9_4 : Int) < 0 then none else some (shlI .i64 1 (List.length o9_4 : Int))).bind fun t68 =>
      Option.bind
        (loopN (Of54.l2 k t63 t68) k (t_5, (), (), (), row, (), (), 0, o0_4, o1_4, o2_4, o3_4, o4_4, o5_4, o6_4, o7_4, o9_4, o10, o11, o12, o13, o14, []) : Option ((Int × (Int × (List (List (Int × Int))))) × (Unit × (Unit × (Unit × (((Int × (Int × (List (List (Int × Int))))) × Unit) × (Unit × (Unit × ((Int × (Unit × (Unit × (Unit × Unit)))) × ((List (Int × (Int × (Int × (Int × Int))))) × ((List Int) × ((List Int) × ((List Int) × ((List ((Int × (Int × (Int × (Int × Int)))) × Int)) × ((Unit × Unit) × ((List (Int × (Int × (Int × (Int × Int))))) × ((List Int) × ((Int × (Unit × (Unit × (Unit × Unit)))) × ((List (Int × (Int × (Int × (Int × Int))))) × ((List Int) × ((List Int) × ((List Int) × (List Int))))))))))))))))))))))) fun ((t_8, _, _, _, row_3, _, _, o0_7, o1_7, o2_7, o3_7, o4_7, o5_7, _, o7_7, o9_7, o10_3, o11_3, o12_3, o13_3, o14_3, o17_2) : ((Int × (Int × (List (List (Int × Int))))) × (Unit × (Unit × (Unit × (((Int × (Int × (List (List (Int × Int))))) × Unit) × (Unit × (Unit × ((Int × (Unit × (Unit × (Unit × Unit)))) × ((List (Int × (Int × (Int × (Int × Int))))) × ((List Int) × ((List Int) × ((List Int) × ((List ((Int × (Int × (Int × (Int × Int)))) × Int)) × ((Unit × Unit) × ((List (Int × (Int × (Int × (Int × Int))))) × ((List Int) × ((Int × (Unit × (Unit × (Unit × Unit)))) × ((List (Int × (Int × (Int × (Int × Int))))) × ((List Int) × ((List Int) × ((List Int) × (List Int))))))))))))))))))))))) =>
      (tree109 k () o9_7 o17_2 ((), ()) o7_7 o5_7).bind fun t102 =>
      Option.bind
        (cond (decide (t63 < t_8.2.1))
          ((if room (List.length o12_3 + List.length ([t102.1] : List Int)) 8 then some () else none).bind fun _ =>
          some (t_8, (), (), (), row_3, (), o0_7, o1_7, o2_7, o3_7, o4_7, t102.2.2.2, (t102.2.1.1, t102.2.1.2), t102.2.2.1, o9_7, (o10_3.1, o10_3.2.1, o10_3.2.2.1, o10_3.2.2.2), o11_3, (o12_3 ++ ([t102.1] : List Int)), o13_3, o14_3))
          (Option.bind
            (let q_ : Option ((Int × (Int × (List (List (Int × Int))))) × (Unit × (Unit × (Unit × (((Int × (Int × (List (List (Int × Int))))) × Unit) × (Unit × ((Int × (Unit × (Unit × (Unit × Unit)))) × ((List (Int × (Int × (Int × (Int × Int))))) × ((List Int) × ((List Int) × ((List Int) × ((List ((Int × (Int × (Int × (Int × Int)))) × Int)) × ((Unit × Unit) × ((List (Int × (Int × (Int × (Int × Int))))) × ((List Int) × ((Int × (Unit × (Unit × (Unit × Unit)))) × ((List (Int × (Int × (Int × (Int × Int))))) × ((List Int) × ((List Int) × (List Int)))))))))))))))))))) :=
              ((if room (List.length o13_3 + List.length ([t102.1] : List Int)) 8 then some () else none).bind fun _ =>
              (if room (List.length o14_3 + List.length ([0] : List Int)) 8 then some () else none).bind fun _ =>
              some (t_8, (), (), (), row_3, (), o0_7, o1_7, o2_7, o3_7, o4_7, t102.2.2.2, (t102.2.1.1, t102.2.1.2), t102.2.2.1, o9_7, (o10_3.1, o10_3.2.1, o10_3.2.2.1, o10_3.2.2.2.1, o10_3.2.2.2.2), o11_3, o12_3, (o13_3 ++ ([t102.1] : List Int)), (o14_3 ++ ([0] : List Int))))
            agree (agree q_ (agree (agree q_ q_) (agree q_ q_))) (agree (agree (agree q_ q_) q_) (agree (agree q_ q_) q_)) : Option ((Int × (Int × (List (List (Int × Int))))) × (Unit × (Unit × (Unit × (((Int × (Int × (List (List (Int × Int))))) × Unit) × (Unit × ((Int × (Unit × (Unit × (Unit × Unit)))) × ((List (Int × (Int × (Int × (Int × Int))))) × ((List Int) × ((List Int) × ((List Int) × ((List ((Int × (Int × (Int × (Int × Int)))) × Int)) × ((Unit × Unit) × ((List (Int × (Int × (Int × (Int × Int))))) × ((List Int) × ((Int × (Unit × (Unit × (Unit × Unit)))) × ((List (Int × (Int × (Int × (Int × Int))))) × ((List Int) × ((List Int) × (List Int))))))))))))))))))))) fun ((t_9, _, _, _, row_4, _, o0_8, o1_8, o2_8, o3_8, o4_8, o5_8, o6_8, o7_8, o9_8, o10_4, o11_4, o12_4, o13_4, o14_4) : ((Int × (Int × (List (List (Int × Int))))) × (Unit × (Unit × (Unit × (((Int × (Int × (List (List (Int × Int))))) × Unit) × (Unit × ((Int × (Unit × (Unit × (Unit × Unit)))) × ((List (Int × (Int × (Int × (Int × Int))))) × ((List Int) × ((List Int) × ((List Int) × ((List ((Int × (Int × (Int × (Int × Int)))) × Int)) × ((Unit × Unit) × ((List (Int × (Int × (Int × (Int × Int))))) × ((List Int) × ((Int × (Unit × (Unit × (Unit × Unit)))) × ((List (Int × (Int × (Int × (Int × Int))))) × ((List Int) × ((List Int) × (List Int))))))))))))))))))))) =>
          some (t_9, (), (), (), row_4, (), o0_8, o1_8, o2_8, o3_8, o4_8, o5_8, o6_8, o7_8, o9_8, o10_4, o11_4, o12_4, o13_4, o14_4)) : Option ((Int × (Int × (List (List (Int × Int))))) × (Unit × (Unit × (Unit × (((Int × (Int × (List (List (Int × Int))))) × Unit) × (Unit × ((Int × (Unit × (Unit × (Unit × Unit)))) × ((List (Int × (Int × (Int × (Int × Int))))) × ((List Int) × ((List Int) × ((List Int) × ((List ((Int × (Int × (Int × (Int × Int)))) × Int)) × ((Unit × Unit) × ((List (Int × (Int × (Int × (Int × Int))))) × ((List Int) × ((Int × (Unit × (Unit × (Unit × Unit)))) × ((List (Int × (Int × (Int × (Int × Int))))) × ((List Int) × ((List Int) × (List Int))))))))))))))))))))) fun ((t_10, _, _, _, row_5, _, o0_9, o1_9, o2_9, o3_9, o4_9, o5_9, o6_9, o7_9, o9_9, o10_5, o11_5, o12_5, o13_5, o14_5) : ((Int × (Int × (List (List (Int × Int))))) × (Unit × (Unit × (Unit × (((Int × (Int × (List (List (Int × Int))))) × Unit) × (Unit × ((Int × (Unit × (Unit × (Unit × Unit)))) × ((List (Int × (Int × (Int × (Int × Int))))) × ((List Int) × ((List Int) × ((List Int) × ((List ((Int × (Int × (Int × (Int × Int)))) × Int)) × ((Unit × Unit) × ((List (Int × (Int × (Int × (Int × Int))))) × ((List Int) × ((Int × (Unit × (Unit × (Unit × Unit)))) × ((List (Int × (Int × (Int × (Int × Int))))) × ((List Int) × ((List Int) × (List Int))))))))))))))))))))) =>
      some (Sum.inl (t_10, (), (), (), row_5, (), (w64 (t63 + 1)), o0_9, o1_9, o2_9, o3_9, o4_9, o5_9, o6_9, o7_9, o9_9, o10_5, o11_5, o12_5, o13_5, o14_5)))
      (some (Sum.inr ((), (), (), o0_4, o1_4, o2_4, o3_4, o4_4, o5_4, o6_4, o7_4, o10, o11, o12, o13, o14)))
def Of54 (k : Nat) (t : (Int × (Int × (List (List (Int × Int)))))) : Option (((Int × ((List (Int × (Int × (Int × (Int × Int))))) × ((List Int) × ((List Int) × (List Int))))) × (Int × Unit)) × Unit) :=
  (Check105 k t).bind fun t18 =>
  cond (t18.1 != 0)
    (some (((0, [], [], [], []), t18.1, ()), ()))
    ((width106 k (List.length t.2.2 : Int)).bind fun t29 =>
    Option.bind
      (loopN (Of54.l0 k t) k (t, (), (), (), 0, (0, (), (), (), ()), [], [], [], [], ([] : (List ((Int × (Int × (Int × (Int × Int)))) × Int))), ((), ()), [], []) : Option ((Int × (Int × (List (List (Int × Int))))) × (Unit × (Unit × (Unit × ((Int × (Unit × (Unit × (Unit × Unit)))) × ((List (Int × (Int × (Int × (Int × Int))))) × ((List Int) × ((List Int) × ((List Int) × ((List ((Int × (Int × (Int × (Int × Int)))) × Int)) × ((Unit × Unit) × ((List (Int × (Int × (Int × (Int × Int))))) × (List Int)))))))))))))) fun ((t_2, _, _, _, o0_1, o1_1, o2_1, o3_1, o4_1, o5_1, o6_1, o7_1, o9_1) : ((Int × (Int × (List (List (Int × Int))))) × (Unit × (Unit × (Unit × ((Int × (Unit × (Unit × (Unit × Unit)))) × ((List (Int × (Int × (Int × (Int × Int))))) × ((List Int) × ((List Int) × ((List Int) × ((List ((Int × (Int × (Int × (Int × Int)))) × Int)) × ((Unit × Unit) × ((List (Int × (Int × (Int × (Int × Int))))) × (List Int)))))))))))))) =>
    Option.bind
      (loopN (Of54.l1 k t29) k (t_2, (), (), (), 0, o0_1, o1_1, o2_1, o3_1, o4_1, o5_1, o6_1, o7_1, o9_1) : Option ((Int × (Int × (List (List (Int × Int))))) × (Unit × (Unit × (Unit × ((Int × (Unit × (Unit × (Unit × Unit)))) × ((List (Int × (Int × (Int × (Int × Int))))) × ((List Int) × ((List Int) × ((List Int) × ((List ((Int × (Int × (Int × (Int × Int)))) × Int)) × ((Unit × Unit) × ((List (Int × (Int × (Int × (Int × Int))))) × (List Int)))))))))))))) fun ((t_4, _, _, _, o0_3, o1_3, o2_3, o3_3, o4_3, o5_3, o6_3, o7_3, o9_3) : ((Int × (Int × (List (List (Int × Int))))) × (Unit × (Unit × (Unit × ((Int × (Unit × (Unit × (Unit × Unit)))) × ((List (Int × (Int × (Int × (Int × Int))))) × ((List Int) × ((List Int) × ((List Int) × ((List ((Int × (Int × (Int × (Int × Int)))) × Int)) × ((Unit × Unit) × ((List (Int × (Int × (Int × (Int × Int))))) × (List Int)))))))))))))) =>
    Option.bind
      (loopN (Of54.l3 k (w64 (t_4.2.1 + t29.1))) k (t_4, (), (), (), (t_4, ()), (), 0, o0_3, o1_3, o2_3, o3_3, o4_3, o5_3, o6_3, o7_3, o9_3, (t_4.1, (), (), (), ()), [], [], [], []) : Option (Unit × (Unit × (Unit × ((Int × (Unit × (Unit × (Unit × Unit)))) × ((List (Int × (Int × (Int × (Int × Int))))) × ((List Int) × ((List Int) × ((List Int) × ((List ((Int × (Int × (Int × (Int × Int)))) × Int)) × ((Unit × Unit) × ((List (Int × (Int × (Int × (Int × Int))))) × ((Int × (Unit × (Unit × (Unit × Unit)))) × ((List (Int × (Int × (Int × (Int × Int))))) × ((List Int) × ((List Int) × (List Int))))))))))))))))) fun ((_, _, _, _, _, _, _, _, _, _, o7_10, o10_6, _, o12_6, o13_6, o14_6) : (Unit × (Unit × (Unit × ((Int × (Unit × (Unit × (Unit × Unit)))) × ((List (Int × (Int × (Int × (Int × Int))))) × ((List Int) × ((List Int) × ((List Int) × ((List ((Int × (Int × (Int × (Int × Int)))) × Int)) × ((Unit × Unit) × ((List (Int × (Int × (Int × (Int × Int))))) × ((Int × (Unit × (Unit × (Unit × Unit)))) × ((List (Int × (Int × (Int × (Int × Int))))) × ((List Int) × ((List Int) × (List Int))))))))))))))))) =>
    (swept110 k (o10_6.1, o7_10, o12_6, o13_6, o14_6)).bind fun t131 =>
    cond (decide ((List.length t131.1.2.1 : Int) > 400))
      (some (((0, [], [], [], []), 6, ()), ()))
      (some ((t131.1, 0, ()), ())))
def Of54.A : Ann := { conds := [(5111836, ⟨[(1, .fp (.st (.pair (.int .i64) (.pair (.int .i64) (.sl (.sl (.st (.pair (.int .i64) (.int .i64))))))))), (2, .ptr 0 []), (5, .ptr 6 []), (7, .ms 9), (10, .fn 108 (.pair (.fp (.st (.pair (.int .i64) (.pair (.int .i64) (.sl (.sl (.st (.pair (.int .i64) (.int .i64))))))))) .unit)), (11, .ptr 10 []), (13, .ms 17)], [(0, .var (.st (.pair (.int .i64) (.pair (.ms 1) (.pair (.ms 2) (.pair (.ms 3) (.ms 4))))))), (1, .row (.st (.pair (.int .i64) (.pair (.int .i64) (.pair (.int .i64) (.pair (.int .i64) (.int .i64))))))), (2, .row (.int .i64)), (3, .row (.int .i64)), (4, .row (.int .i64)), (5, .map (.st (.pair (.int .i64) (.pair (.int .i64) (.pair (.int .i64) (.pair (.int .i64) (.int .i64)))))) (.int .i64)), (6, .var (.st (.pair (.ms 7) (.mm 5)))), (7, .row (.st (.pair (.int .i64) (.pair (.int .i64) (.pair (.int .i64) (.pair (.int .i64) (.int .i64))))))), (9, .row (.int .i64)), (10, .var (.st (.pair (.int .i64) (.pair (.ms 11) (.pair (.ms 12) (.pair (.ms 13) (.ms 14))))))), (11, .row (.st (.pair (.int .i64) (.pair (.int .i64) (.pair (.int .i64) (.pair (.int .i64) (.int .i64))))))), (12, .row (.int .i64)), (13, .row (.int .i64)), (14, .row (.int .i64)), (17, .row (.int .i64))], 18, [], 316912045594147543059588456448⟩), (6946849, ⟨[(1, .fp (.st (.pair (.int .i64) (.pair (.int .i64) (.sl (.sl (.st (.pair (.int .i64) (.int .i64))))))))), (2, .ptr 0 []), (5, .ptr 6 []), (7, .ms 9), (10, .fn 108 (.pair (.fp (.st (.pair (.int .i64) (.pair (.int .i64) (.sl (.sl (.st (.pair (.int .i64) (.int .i64))))))))) .unit)), (11, .ptr 10 [])], [(0, .var (.st (.pair (.int .i64) (.pair (.ms 1) (.pair (.ms 2) (.pair (.ms 3) (.ms 4))))))), (1, .row (.st (.pair (.int .i64) (.pair (.int .i64) (.pair (.int .i64) (.pair (.int .i64) (.int .i64))))))), (2, .row (.int .i64)), (3, .row (.int .i64)), (4, .row (.int .i64)), (5, .map (.st (.pair (.int .i64) (.pair (.int .i64) (.pair (.int .i64) (.pair (.int .i64) (.int .i64)))))) (.int .i64)), (6, .var (.st (.pair (.ms 7) (.mm 5)))), (7, .row (.st (.pair (.int .i64) (.pair (.int .i64) (.pair (.int .i64) (.pair (.int .i64) (.int .i64))))))), (9, .row (.int .i64)), (10, .var (.st (.pair (.int .i64) (.pair (.ms 11) (.pair (.ms 12) (.pair (.ms 13) (.ms 14))))))), (11, .row (.st (.pair (.int .i64) (.pair (.int .i64) (.pair (.int .i64) (.pair (.int .i64) (.int .i64))))))), (12, .row (.int .i64)), (13, .row (.int .i64)), (14, .row (.int .i64))], 15, [], 21267485673281824753097521386475225088⟩)], blocks := [(0, ⟨[(1, .fp (.st (.pair (.int .i64) (.pair (.int .i64) (.sl (.sl (.st (.pair (.int .i64) (.int .i64))))))))), (2, .ptr 0 []), (5, .ptr 6 []), (7, .ms 9)], [(0, .var (.st (.pair (.int .i64) (.pair (.ms 1) (.pair (.ms 2) (.pair (.ms 3) (.ms 4))))))), (1, .row (.st (.pair (.int .i64) (.pair (.int .i64) (.pair (.int .i64) (.pair (.int .i64) (.int .i64))))))), (2, .row (.int .i64)), (3, .row (.int .i64)), (4, .row (.int .i64)), (5, .map (.st (.pair (.int .i64) (.pair (.int .i64) (.pair (.int .i64) (.pair (.int .i64) (.int .i64)))))) (.int .i64)), (6, .var (.st (.pair (.ms 7) (.mm 5)))), (7, .row (.st (.pair (.int .i64) (.pair (.int .i64) (.pair (.int .i64) (.pair (.int .i64) (.int .i64))))))), (9, .row (.int .i64))], 10, [], 8791798055296⟩), (2, ⟨[(1, .fp (.st (.pair (.int .i64) (.pair (.int .i64) (.sl (.sl (.st (.pair (.int .i64) (.int .i64))))))))), (2, .ptr 0 []), (5, .ptr 6 []), (7, .ms 9)], [(0, .var (.st (.pair (.int .i64) (.pair (.ms 1) (.pair (.ms 2) (.pair (.ms 3) (.ms 4))))))), (1, .row (.st (.pair (.int .i64) (.pair (.int .i64) (.pair (.int .i64) (.pair (.int .i64) (.int .i64))))))), (2, .row (.int .i64)), (3, .row (.int .i64)), (4, .row (.int .i64)), (5, .map (.st (.pair (.int .i64) (.pair (.int .i64) (.pair (.int .i64) (.pair (.int .i64) (.int .i64)))))) (.int .i64)), (6, .var (.st (.pair (.ms 7) (.mm 5)))), (7, .row (.st (.pair (.int .i64) (.pair (.int .i64) (.pair (.int .i64) (.pair (.int .i64) (.int .i64))))))), (9, .row (.int .i64))], 10, [], 36011204832920192⟩), (4, ⟨[(2, .ptr 0 []), (5, .ptr 6 []), (11, .ptr 10 [])], [(0, .var (.st (.pair (.int .i64) (.pair (.ms 1) (.pair (.ms 2) (.pair (.ms 3) (.ms 4))))))), (1, .row (.st (.pair (.int .i64) (.pair (.int .i64) (.pair (.int .i64) (.pair (.int .i64) (.int .i64))))))), (2, .row (.int .i64)), (3, .row (.int .i64)), (4, .row (.int .i64)), (5, .map (.st (.pair (.int .i64) (.pair (.int .i64) (.pair (.int .i64) (.pair (.int .i64) (.int .i64)))))) (.int .i64)), (6, .var (.st (.pair (.ms 7) (.mm 5)))), (7, .row (.st (.pair (.int .i64) (.pair (.int .i64) (.pair (.int .i64) (.pair (.int .i64) (.int .i64))))))), (10, .var (.st (.pair (.int .i64) (.pair (.ms 11) (.pair (.ms 12) (.pair (.ms 13) (.ms 14))))))), (11, .row (.st (.pair (.int .i64) (.pair (.int .i64) (.pair (.int .i64) (.pair (.int .i64) (.int .i64))))))), (12, .row (.int .i64)), (13, .row (.int .i64)), (14, .row (.int .i64))], 15, [], 42535295865117307923698453892116377600⟩), (6, ⟨[(1, .fp (.st (.pair (.int .i64) (.pair (.int .i64) (.sl (.sl (.st (.pair (.int .i64) (.int .i64))))))))), (2, .ptr 0 []), (5, .ptr 6 []), (7, .ms 9), (10, .fn 108 (.pair (.fp (.st (.pair (.int .i64) (.pair (.int .i64) (.sl (.sl (.st (.pair (.int .i64) (.int .i64))))))))) .unit)), (11, .ptr 10 []), (13, .ms 17)], [(0, .var (.st (.pair (.int .i64) (.pair (.ms 1) (.pair (.ms 2) (.pair (.ms 3) (.ms 4))))))), (1, .row (.st (.pair (.int .i64) (.pair (.int .i64) (.pair (.int .i64) (.pair (.int .i64) (.int .i64))))))), (2, .row (.int .i64)), (3, .row (.int .i64)), (4, .row (.int .i64)), (5, .map (.st (.pair (.int .i64) (.pair (.int .i64) (.pair (.int .i64) (.pair (.int .i64) (.int .i64)))))) (.int .i64)), (6, .var (.st (.pair (.ms 7) (.mm 5)))), (7, .row (.st (.pair (.int .i64) (.pair (.int .i64) (.pair (.int .i64) (.pair (.int .i64) (.int .i64))))))), (9, .row (.int .i64)), (10, .var (.st (.pair (.int .i64) (.pair (.ms 11) (.pair (.ms 12) (.pair (.ms 13) (.ms 14))))))), (11, .row (.st (.pair (.int .i64) (.pair (.int .i64) (.pair (.int .i64) (.pair (.int .i64) (.int .i64))))))), (12, .row (.int .i64)), (13, .row (.int .i64)), (14, .row (.int .i64)), (17, .row (.int .i64))], 18, [], 633825299523818890389646008320⟩)], loops := [(8, ⟨[(1, .fp (.st (.pair (.int .i64) (.pair (.int .i64) (.sl (.sl (.st (.pair (.int .i64) (.int .i64))))))))), (2, .ptr 0 []), (5, .ptr 6 []), (7, .ms 9), (32, .int .i64)], [(0, .var (.st (.pair (.int .i64) (.pair (.ms 1) (.pair (.ms 2) (.pair (.ms 3) (.ms 4))))))), (1, .row (.st (.pair (.int .i64) (.pair (.int .i64) (.pair (.int .i64) (.pair (.int .i64) (.int .i64))))))), (2, .row (.int .i64)), (3, .row (.int .i64)), (4, .row (.int .i64)), (5, .map (.st (.pair (.int .i64) (.pair (.int .i64) (.pair (.int .i64) (.pair (.int .i64) (.int .i64)))))) (.int .i64)), (6, .var (.st (.pair (.ms 7) (.mm 5)))), (7, .row (.st (.pair (.int .i64) (.pair (.int .i64) (.pair (.int .i64) (.pair (.int .i64) (.int .i64))))))), (9, .row (.int .i64))], 10, [(9, .int .i64)], 8791798055296⟩), (13, ⟨[(1, .fp (.st (.pair (.int .i64) (.pair (.int .i64) (.sl (.sl (.st (.pair (.int .i64) (.int .i64))))))))), (2, .ptr 0 []), (5, .ptr 6 []), (7, .ms 9), (44, .int .i64)], [(0, .var (.st (.pair (.int .i64) (.pair (.ms 1) (.pair (.ms 2) (.pair (.ms 3) (.ms 4))))))), (1, .row (.st (.pair (.int .i64) (.pair (.int .i64) (.pair (.int .i64) (.pair (.int .i64) (.int .i64))))))), (2, .row (.int .i64)), (3, .row (.int .i64)), (4, .row (.int .i64)), (5, .map (.st (.pair (.int .i64) (.pair (.int .i64) (.pair (.int .i64) (.pair (.int .i64) (.int .i64)))))) (.int .i64)), (6, .var (.st (.pair (.ms 7) (.mm 5)))), (7, .row (.st (.pair (.int .i64) (.pair (.int .i64) (.pair (.int .i64) (.pair (.int .i64) (.int .i64))))))), (9, .row (.int .i64))], 10, [], 36011204832920192⟩), (20, ⟨[(1, .fp (.st (.pair (.int .i64) (.pair (.int .i64) (.sl (.sl (.st (.pair (.int .i64) (.int .i64))))))))), (2, .ptr 0 []), (5, .ptr 6 []), (7, .ms 9), (10, .fn 108 (.pair (.fp (.st (.pair (.int .i64) (.pair (.int .i64) (.sl (.sl (.st (.pair (.int .i64) (.int .i64))))))))) .unit)), (11, .ptr 10 []), (63, .int .i64)], [(0, .var (.st (.pair (.int .i64) (.pair (.ms 1) (.pair (.ms 2) (.pair (.ms 3) (.ms 4))))))), (1, .row (.st (.pair (.int .i64) (.pair (.int .i64) (.pair (.int .i64) (.pair (.int .i64) (.int .i64))))))), (2, .row (.int .i64)), (3, .row (.int .i64)), (4, .row (.int .i64)), (5, .map (.st (.pair (.int .i64) (.pair (.int .i64) (.pair (.int .i64) (.pair (.int .i64) (.int .i64)))))) (.int .i64)), (6, .var (.st (.pair (.ms 7) (.mm 5)))), (7, .row (.st (.pair (.int .i64) (.pair (.int .i64) (.pair (.int .i64) (.pair (.int .i64) (.int .i64))))))), (9, .row (.int .i64)), (10, .var (.st (.pair (.int .i64) (.pair (.ms 11) (.pair (.ms 12) (.pair (.ms 13) (.ms 14))))))), (11, .row (.st (.pair (.int .i64) (.pair (.int .i64) (.pair (.int .i64) (.pair (.int .i64) (.int .i64))))))), (12, .row (.int .i64)), (13, .row (.int .i64)), (14, .row (.int .i64))], 15, [], 42535295865117307923698453892116377600⟩), (24, ⟨[(1, .fp (.st (.pair (.int .i64) (.pair (.int .i64) (.sl (.sl (.st (.pair (.int .i64) (.int .i64))))))))), (2, .ptr 0 []), (5, .ptr 6 []), (7, .ms 9), (10, .fn 108 (.pair (.fp (.st (.pair (.int .i64) (.pair (.int .i64) (.sl (.sl (.st (.pair (.int .i64) (.int .i64))))))))) .unit)), (11, .ptr 10 []), (13, .ms 17), (69, .int .i64)], [(0, .var (.st (.pair (.int .i64) (.pair (.ms 1) (.pair (.ms 2) (.pair (.ms 3) (.ms 4))))))), (1, .row (.st (.pair (.int .i64) (.pair (.int .i64) (.pair (.int .i64) (.pair (.int .i64) (.int .i64))))))), (2, .row (.int .i64)), (3, .row (.int .i64)), (4, .row (.int .i64)), (5, .map (.st (.pair (.int .i64) (.pair (.int .i64) (.pair (.int .i64) (.pair (.int .i64) (.int .i64)))))) (.int .i64)), (6, .var (.st (.pair (.ms 7) (.mm 5)))), (7, .row (.st (.pair (.int .i64) (.pair (.int .i64) (.pair (.int .i64) (.pair (.int .i64) (.int .i64))))))), (9, .row (.int .i64)), (10, .var (.st (.pair (.int .i64) (.pair (.ms 11) (.pair (.ms 12) (.pair (.ms 13) (.ms 14))))))), (11, .row (.st (.pair (.int .i64) (.pair (.int .i64) (.pair (.int .i64) (.pair (.int .i64) (.int .i64))))))), (12, .row (.int .i64)), (13, .row (.int .i64)), (14, .row (.int .i64)), (17, .row (.int .i64))], 18, [(17, .int .i64)], 633825299523818890389646008320⟩)], keeps := [1, 15], orders := [], turns := [(0, [⟨0, [(1, .st (.pair (.int .i64) (.pair (.int .i64) (.pair (.int .i64) (.pair (.int .i64) (.int .i64)))))), (2, .int .i64), (3, .int .i64), (4, .int .i64)], .st (.pair (.int .i64) (.pair (.ms 1) (.pair (.ms 2) (.pair (.ms 3) (.ms 4)))))⟩]), (4, [⟨6, [(7, .st (.pair (.int .i64) (.pair (.int .i64) (.pair (.int .i64) (.pair (.int .i64) (.int .i64))))))], .st (.pair (.ms 7) (.mm 5))⟩]), (18, [⟨10, [(11, .st (.pair (.int .i64) (.pair (.int .i64) (.pair (.int .i64) (.pair (.int .i64) (.int .i64)))))), (12, .int .i64), (13, .int .i64), (14, .int .i64)], .st (.pair (.int .i64) (.pair (.ms 11) (.pair (.ms 12) (.pair (.ms 13) (.ms 14)))))⟩])], alts := [(34, ((.op 0 .strong (.op 1 .strong (.op 2 .strong (.op 5 .weak (.alt (.op 3 (.eff true) (.alt (.op 4 (.eff false) (.op 6 .strong (.op 9 .weak (.op 7 (.eff true) (.op 8 (.eff false) (.op 10 (.eff false) (.op 11 .strong (.op 12 (.eff false) (.leaf []))))))))) (.alt (.op 6 (.eff true) (.alt (.op 4 (.eff false) (.op 9 .weak (.op 7 (.eff true) (.op 8 (.eff false) (.op 10 (.eff false) (.op 11 .strong (.op 12 (.eff false) (.leaf [])))))))) (.op 7 (.eff true) (.op 4 (.eff false) (.op 9 .weak (.op 8 (.eff false) (.op 10 (.eff false) (.op 11 .strong (.op 12 (.eff false) (.leaf [])))))))))) (.op 7 (.eff true) (.alt (.op 4 (.eff false) (.op 6 .strong (.op 9 .weak (.op 8 (.eff false) (.op 10 (.eff false) (.op 11 .strong (.op 12 (.eff false) (.leaf [])))))))) (.op 6 (.eff true) (.op 4 (.eff false) (.op 9 .weak (.op 8 (.eff false) (.op 10 (.eff false) (.op 11 .strong (.op 12 (.eff false) (.leaf []))))))))))))) (.alt (.op 6 (.eff true) (.alt (.op 3 (.eff true) (.alt (.op 4 (.eff false) (.op 9 .weak (.op 7 (.eff true) (.op 8 (.eff false) (.op 10 (.eff false) (.op 11 .strong (.op 12 (.eff false) (.leaf [])))))))) (.op 7 (.eff true) (.op 4 (.eff false) (.op 9 .weak (.op 8 (.eff false) (.op 10 (.eff false) (.op 11 .strong (.op 12 (.eff false) (.leaf [])))))))))) (.op 7 (.eff true) (.op 3 (.eff true) (.op 4 (.eff false) (.op 9 .weak (.op 8 (.eff false) (.op 10 (.eff false) (.op 11 .strong (.op 12 (.eff false) (.leaf []))))))))))) (.op 7 (.eff true) (.alt (.op 3 (.eff true) (.alt (.op 4 (.eff false) (.op 6 .strong (.op 9 .weak (.op 8 (.eff false) (.op 10 (.eff false) (.op 11 .strong (.op 12 (.eff false) (.leaf [])))))))) (.op 6 (.eff true) (.op 4 (.eff false) (.op 9 .weak (.op 8 (.eff false) (.op 10 (.eff false) (.op 11 .strong (.op 12 (.eff false) (.leaf [])))))))))) (.op 6 (.eff true) (.op 3 (.eff true) (.op 4 (.eff false) (.op 9 .weak (.op 8 (.eff false) (.op 10 (.eff false) (.op 11 .strong (.op 12 (.eff false) (.leaf []))))))))))))))))), ⟨[(1, .fp (.st (.pair (.int .i64) (.pair (.int .i64) (.sl (.sl (.st (.pair (.int .i64) (.int .i64))))))))), (2, .ptr 0 []), (5, .ptr 6 []), (7, .ms 9), (10, .fn 108 (.pair (.fp (.st (.pair (.int .i64) (.pair (.int .i64) (.sl (.sl (.st (.pair (.int .i64) (.int .i64))))))))) .unit)), (11, .ptr 10 [])], [(0, .var (.st (.pair (.int .i64) (.pair (.ms 1) (.pair (.ms 2) (.pair (.ms 3) (.ms 4))))))), (1, .row (.st (.pair (.int .i64) (.pair (.int .i64) (.pair (.int .i64) (.pair (.int .i64) (.int .i64))))))), (2, .row (.int .i64)), (3, .row (.int .i64)), (4, .row (.int .i64)), (5, .map (.st (.pair (.int .i64) (.pair (.int .i64) (.pair (.int .i64) (.pair (.int .i64) (.int .i64)))))) (.int .i64)), (6, .var (.st (.pair (.ms 7) (.mm 5)))), (7, .row (.st (.pair (.int .i64) (.pair (.int .i64) (.pair (.int .i64) (.pair (.int .i64) (.int .i64))))))), (9, .row (.int .i64)), (10, .var (.st (.pair (.int .i64) (.pair (.ms 11) (.pair (.ms 12) (.pair (.ms 13) (.ms 14))))))), (11, .row (.st (.pair (.int .i64) (.pair (.int .i64) (.pair (.int .i64) (.pair (.int .i64) (.int .i64))))))), (12, .row (.int .i64)), (13, .row (.int .i64)), (14, .row (.int .i64))], 15, [], 21257263338841584311203851971827073024⟩))] }
def Of54.S : Sig := { f := 54, params := [.st (.pair (.int .i64) (.pair (.int .i64) (.sl (.sl (.st (.pair (.int .i64) (.int .i64)))))))], objs := [], res := .tup (.pair (.st (.pair (.int .i64) (.pair (.sl (.st (.pair (.int .i64) (.pair (.int .i64) (.pair (.int .i64) (.pair (.int .i64) (.int .i64))))))) (.pair (.sl (.int .i64)) (.pair (.sl (.int .i64)) (.sl (.int .i64))))))) (.pair (.int .i64) .unit)), outs := [], fix := [], run := fun k ds os => Of54 k ds }
def Of54.G : List Sig := [Check105.S, Of1108.S, put107.S, swept110.S, tree109.S, width106.S]
theorem Of54.eq (k : Nat) : ∀ ds os, Of54.S.run k ds os = runF ⟨types, Of54.G, Of54.A, k, 0, []⟩ Try.f54 (codeOf Try.f54) Of54.S.params Of54.S.objs Of54.S.res Of54.S.outs ds os := by
  intro ds os; kernel_rfl
theorem Of54.dr : DrOk Try.prog Of54.A (codeOf Try.f54) := ⟨by kernel_rfl, by kernel_rfl⟩
theorem Of54.ok (k : Nat) : SoundAt Try.prog k Of54.S :=
  runF_sound (X := ⟨types, Of54.G, Of54.A, k, 0, []⟩) types_ok (mem_all (⟨Check105.ok k, ⟨Of1108.ok k, ⟨put107.ok k, ⟨swept110.ok k, ⟨tree109.ok k, ⟨width106.ok k, trivial⟩⟩⟩⟩⟩⟩)) (fn := Try.f54) (c := codeOf Try.f54) rfl (by kernel_rfl) rfl rfl Of54.dr (Of54.eq k)
end Go.Proofs.Ytjbdhaenakcclaa.St

/- Go functions as plain Lean functions, and their contracts. -/
set_option linter.unusedVariables false
set_option maxRecDepth 100000
noncomputable section
namespace Go.Proofs.Ytjbdhaenakcclaa.St
open Go Go.Proofs.Ytjbdhaenakcclaa.Gp
def Run71.l0 (k : Nat) (in_ : (List Int)) : ((Int × ((List (Int × (Int × (Int × (Int × Int))))) × ((List Int) × ((List Int) × (List Int))))) × (Unit × (Int × (Int × (List Int))))) → Option (((Int × ((List (Int × (Int × (Int × (Int × Int))))) × ((List Int) × ((List Int) × (List Int))))) × (Unit × (Int × (Int × (List Int))))) ⊕ ((Unit × (List Int)) ⊕ (((List Int) × (Int × Unit)) × Unit)))
  | (c_1, _, s, t21, o1) =>
    cond (decide (t21 < (List.length in_ : Int)))
      ((rd in_ t21).bind fun t23 =>
      Option.bind (cond (decide (t23 < 0))
        (some true)
        ((if c_1.1 < 0 then none else some (shlI .i64 1 c_1.1)).bind fun t31 =>
        some (decide (t23 ≥ t31)))) fun t33 =>
      cond t33
        (some (Sum.inr (Sum.inr (([], 1, ()), ()))))
        ((values69 k c_1 s t23).bind fun t37 =>
        (bits70 k t37.1 c_1.2.2.1).bind fun t42 =>
        (if room (List.length o1 + List.length ([t42.1] : List Int)) 8 then some () else none).bind fun _ =>
        (bits70 k t37.1 c_1.2.2.2.1).bind fun t48 =>
        some (Sum.inl (c_1, (), t48.1, (w64 (t21 + 1)), (o1 ++ ([t42.1] : List Int))))))
      (some (Sum.inr (Sum.inl ((), o1))))
def Run71 (k : Nat) (c : (Int × ((List (Int × (Int × (Int × (Int × Int))))) × ((List Int) × ((List Int) × (List Int)))))) (in_ : (List Int)) : Option (((List Int) × (Int × Unit)) × Unit) :=
  (Check18 k c).bind fun t13 =>
  cond (t13.1 != 0)
    (some (([], t13.1, ()), ()))
    ((Start80 k c).bind fun t18 =>
    Option.bind
      (loopN (Run71.l0 k in_) k (c, (), t18.1, 0, []) : Option ((Unit × (List Int)) ⊕ (((List Int) × (Int × Unit)) × Unit))) (joined fun ((_, o1_1) : (Unit × (List Int))) =>
      some ((o1_1, 0, ()), ())))
def Run71.A : Ann := { conds := [], blocks := [(0, ⟨[(7, .ms 1)], [(1, .row (.int .i64))], 2, [], 1125899904748976⟩)], loops := [(7, ⟨[(2, .fp (.st (.pair (.int .i64) (.pair (.sl (.st (.pair (.int .i64) (.pair (.int .i64) (.pair (.int .i64) (.pair (.int .i64) (.int .i64))))))) (.pair (.sl (.int .i64)) (.pair (.sl (.int .i64)) (.sl (.int .i64)))))))), (7, .ms 1), (8, .int .i64), (21, .int .i64)], [(1, .row (.int .i64))], 2, [(1, .int .i64)], 1125899904748976⟩)], keeps := [2], orders := [(12, [(0, .strong), (1, .strong), (2, .strong), (3, .strong), (7, .weak), (8, .weak), (9, .weak), (4, .eff true), (5, .eff true), (6, .eff false), (10, .eff true), (11, .strong), (12, .strong)])] }
def Run71.S : Sig := { f := 71, params := [.st (.pair (.int .i64) (.pair (.sl (.st (.pair (.int .i64) (.pair (.int .i64) (.pair (.int .i64) (.pair (.int .i64) (.int .i64))))))) (.pair (.sl (.int .i64)) (.pair (.sl (.int .i64)) (.sl (.int .i64)))))), .sl (.int .i64)], objs := [], res := .tup (.pair (.sl (.int .i64)) (.pair (.int .i64) .unit)), outs := [], fix := [], run := fun k ds os => Run71 k ds.1 ds.2 }
def Run71.G : List Sig := [Check18.S, Start80.S, bits70.S, values69.S]
theorem Run71.eq (k : Nat) : ∀ ds os, Run71.S.run k ds os = runF ⟨types, Run71.G, Run71.A, k, 0, []⟩ Try.f71 (codeOf Try.f71) Run71.S.params Run71.S.objs Run71.S.res Run71.S.outs ds os := by
  intro ds os; kernel_rfl
theorem Run71.dr : DrOk Try.prog Run71.A (codeOf Try.f71) := ⟨by kernel_rfl, by kernel_rfl⟩
theorem Run71.ok (k : Nat) : SoundAt Try.prog k Run71.S :=
  runF_sound (X := ⟨types, Run71.G, Run71.A, k, 0, []⟩) types_ok (mem_all (⟨Check18.ok k, ⟨Start80.ok k, ⟨bits70.ok k, ⟨values69.ok k, trivial⟩⟩⟩⟩)) (fn := Try.f71) (c := codeOf Try.f71) rfl (by kernel_rfl) rfl rfl Run71.dr (Run71.eq k)

def Equal25.l0 (k : Nat) (s1 : (List Int)) (s2 : (List Int)) : Int → Option (Int ⊕ (Unit ⊕ (Bool × Unit)))
  | t13 =>
    cond (decide (t13 < (List.length s1 : Int)))
      ((rd s1 t13).bind fun t18 =>
      (rd s2 t13).bind fun t22 =>
      cond (t18 != t22)
        (some (Sum.inr (Sum.inr (false, ()))))
        (some (Sum.inl (w64 (t13 + 1)))))
      (some (Sum.inr (Sum.inl ())))
def Equal25 (k : Nat) (s1 : (List Int)) (s2 : (List Int)) : Option (Bool × Unit) :=
  cond ((List.length s1 : Int) != (List.length s2 : Int))
    (some (false, ()))
    (Option.bind
      (loopN (Equal25.l0 k s1 s2) k 0 : Option (Unit ⊕ (Bool × Unit))) (joined fun (_ : Unit) =>
      some (true, ())))
def Equal25.A : Ann := { conds := [], blocks := [(0, ⟨[], [], 0, [], 67100720⟩)], loops := [(4, ⟨[(13, .int .i64)], [], 0, [], 67100720⟩)], keeps := [], orders := [(6, [(0, .strong), (1, .strong), (2, .strong), (3, .strong), (4, .strong), (5, .strong), (6, .strong), (7, .strong), (8, .strong)])] }
def Equal25.S : Sig := { f := 25, params := [.sl (.int .i64), .sl (.int .i64)], objs := [], res := .bool, outs := [], fix := [], run := fun k ds os => Equal25 k ds.1 ds.2 }
def Equal25.G : List Sig := []
theorem Equal25.eq (k : Nat) : ∀ ds os, Equal25.S.run k ds os = runF ⟨types, Equal25.G, Equal25.A, k, 0, []⟩ Try.f25 (codeOf Try.f25) Equal25.S.params Equal25.S.objs Equal25.S.res Equal25.S.outs ds os := by
  intro ds os; kernel_rfl
theorem Equal25.dr : DrOk Try.prog Equal25.A (codeOf Try.f25) := ⟨by kernel_rfl, by kernel_rfl⟩
theorem Equal25.ok (k : Nat) : SoundAt Try.prog k Equal25.S :=
  runF_sound (X := ⟨types, Equal25.G, Equal25.A, k, 0, []⟩) types_ok (fun s hs => absurd hs List.not_mem_nil) (fn := Try.f25) (c := codeOf Try.f25) rfl (by kernel_rfl) rfl rfl Equal25.dr (Equal25.eq k)

def built55 (k : Nat) : Option (Bool × Unit) :=
  (Of54 k (1, 1, [[(0, 0), (1, 0)]])).bind fun t11 =>
  (Run71 k t11.1.1 ([0, 1] : List Int)).bind fun t17 =>
  Option.bind (cond (cond (t11.1.2.1 == 0) (t17.1.2.1 == 0) false)
    ((Equal25 k t17.1.1 ([0, 1] : List Int)).bind fun t29 =>
    some t29.1)
    (some false)) fun t30 =>
  some (t30, ())
def built55.A : Ann := { conds := [], blocks := [], loops := [], keeps := [1], orders := [] }
def built55.S : Sig := { f := 55, params := [], objs := [], res := .bool, outs := [], fix := [], run := fun k ds os => built55 k }
def built55.G : List Sig := [Equal25.S, Of54.S, Run71.S]
theorem built55.eq (k : Nat) : ∀ ds os, built55.S.run k ds os = runF ⟨types, built55.G, built55.A, k, 0, []⟩ Try.f55 (codeOf Try.f55) built55.S.params built55.S.objs built55.S.res built55.S.outs ds os := by
  intro ds os; kernel_rfl
theorem built55.dr : DrOk Try.prog built55.A (codeOf Try.f55) := ⟨by kernel_rfl, by kernel_rfl⟩
theorem built55.ok (k : Nat) : SoundAt Try.prog k built55.S :=
  runF_sound (X := ⟨types, built55.G, built55.A, k, 0, []⟩) types_ok (mem_all (⟨Equal25.ok k, ⟨Of54.ok k, ⟨Run71.ok k, trivial⟩⟩⟩)) (fn := Try.f55) (c := codeOf Try.f55) rfl (by kernel_rfl) rfl rfl built55.dr (built55.eq k)

def First37.l0 (k : Nat) (c : (Int × ((List (Int × (Int × (Int × (Int × Int))))) × ((List Int) × ((List Int) × (List Int)))))) : (Int × Int) → Option ((Int × Int) ⊕ Int)
  | (out, t9) =>
    cond (decide (t9 < (List.length c.2.2.2.2 : Int)))
      ((rd c.2.2.2.2 t9).bind fun t12 =>
      Option.bind
        (cond (decide (t9 < 10))
          ((if t9 < 0 then none else some (shlI .i64 (ibits .and .i64 t12 1) t9)).bind fun t20 =>
          some (w64 (out + t20)))
          (some out) : Option Int) fun (out_1 : Int) =>
      some (Sum.inl (out_1, (w64 (t9 + 1)))))
      (some (Sum.inr out))
def First37 (k : Nat) (c : (Int × ((List (Int × (Int × (Int × (Int × Int))))) × ((List Int) × ((List Int) × (List Int)))))) : Option (Int × Unit) :=
  Option.bind
    (loopN (First37.l0 k c) k (0, 0) : Option Int) fun (out_2 : Int) =>
  some (out_2, ())
def First37.A : Ann := { conds := [(983046, ⟨[(3, .int .i64)], [], 0, [], 4128776⟩)], blocks := [(0, ⟨[(3, .int .i64)], [], 0, [], 8388152⟩)], loops := [(3, ⟨[(3, .int .i64), (9, .int .i64)], [], 0, [], 8388152⟩)], keeps := [1], orders := [] }
def First37.S : Sig := { f := 37, params := [.st (.pair (.int .i64) (.pair (.sl (.st (.pair (.int .i64) (.pair (.int .i64) (.pair (.int .i64) (.pair (.int .i64) (.int .i64))))))) (.pair (.sl (.int .i64)) (.pair (.sl (.int .i64)) (.sl (.int .i64))))))], objs := [], res := .int .i64, outs := [], fix := [], run := fun k ds os => First37 k ds }
def First37.G : List Sig := []
theorem First37.eq (k : Nat) : ∀ ds os, First37.S.run k ds os = runF ⟨types, First37.G, First37.A, k, 0, []⟩ Try.f37 (codeOf Try.f37) First37.S.params First37.S.objs First37.S.res First37.S.outs ds os := by
  intro ds os; kernel_rfl
theorem First37.dr : DrOk Try.prog First37.A (codeOf Try.f37) := ⟨by kernel_rfl, by kernel_rfl⟩
theorem First37.ok (k : Nat) : SoundAt Try.prog k First37.S :=
  runF_sound (X := ⟨types, First37.G, First37.A, k, 0, []⟩) types_ok (fun s hs => absurd hs List.not_mem_nil) (fn := Try.f37) (c := codeOf Try.f37) rfl (by kernel_rfl) rfl rfl First37.dr (First37.eq k)
end Go.Proofs.Ytjbdhaenakcclaa.St

/- Go functions as plain Lean functions, and their contracts. -/
set_option linter.unusedVariables false
set_option maxRecDepth 100000
noncomputable section
namespace Go.Proofs.Ytjbdhaenakcclaa.St
open Go Go.Proofs.Ytjbdhaenakcclaa.Gp
abbrev GrpValue19.T := (Int → (Int × ((List (Int × (Int × (Int × (Int × Int))))) × ((List Int) × ((List Int) × (List Int))))) → Int → Int → Unit → Unit → (List (Int × Int)) → Option (Int × (Unit × (List (Int × Int))))) × ((Int × ((List (Int × (Int × (Int × (Int × Int))))) × ((List Int) × ((List Int) × (List Int))))) → Int → Int → Int → Unit → (List (Int × Int)) → Option (Int × (List (Int × Int))))
def Value173.b (r_ : GrpValue19.T) (k : Nat) (x : Int) (t1 : (Int × ((List (Int × (Int × (Int × (Int × Int))))) × ((List Int) × ((List Int) × (List Int)))))) (t2 : Int) (t3 : Int) (_ : Unit) (o0 : Unit) (o1 : (List (Int × Int))) : Option (Int × (Unit × (List (Int × Int)))) :=
  (r_.2 t1 t2 t3 x () o1).bind fun t12 =>
  some (t12.1, (), t12.2)
def Value19.b (r_ : GrpValue19.T) (k : Nat) (c : (Int × ((List (Int × (Int × (Int × (Int × Int))))) × ((List Int) × ((List Int) × (List Int)))))) (state : Int) (in_ : Int) (k_ : Int) (_ : Unit) (o0 : (List (Int × Int))) : Option (Int × (List (Int × Int))) :=
  let t19 : (Option Int) := (mget (.int .i64) (.int .i64) o0 k_)
  cond (Option.isSome t19)
    (some ((Option.getD (α := Int) t19 (0 : Int)), o0))
    ((rd c.2.1 k_).bind fun t27 =>
    Option.bind
      (cond (t27.1 == 0)
        (some ((), t27.2.2.2.2, o0, ()))
        (Option.bind
          (cond (t27.1 == 1)
            (some (state, in_, (), t27, (c, state, in_, (), ()), (t27.1 == 1), o0, ()))
            (some (state, in_, (), t27, (c, state, in_, (), ()), (t27.1 == 2), o0, ())) : Option (Int × (Int × (Unit × ((Int × (Int × (Int × (Int × Int)))) × (((Int × ((List (Int × (Int × (Int × (Int × Int))))) × ((List Int) × ((List Int) × (List Int))))) × (Int × (Int × (Unit × Unit)))) × (Bool × ((List (Int × Int)) × Unit)))))))) fun ((state_1, in__1, _, g, v, t36, o0_1, _) : (Int × (Int × (Unit × ((Int × (Int × (Int × (Int × Int)))) × (((Int × ((List (Int × (Int × (Int × (Int × Int))))) × ((List Int) × ((List Int) × (List Int))))) × (Int × (Int × (Unit × Unit)))) × (Bool × ((List (Int × Int)) × Unit)))))))) =>
        Option.bind
          (cond t36
            ((if g.2.2.2.2 < 0 then none else some (shrI .i64 (Option.getD (α := Int) (mget (.int .i64) (.int .i64) (mput (.int .i64) (.int .i64) (mput (.int .i64) (.int .i64) ([] : (List (Int × Int))) (1 : Int) in__1) (2 : Int) state_1) g.1) (0 : Int)) g.2.2.2.2)).bind fun t48 =>
            some ((), (ibits .and .i64 t48 1), o0_1, ()))
            (Option.bind
              (cond (t27.1 == 3)
                ((r_.1 g.2.1 v.1 v.2.1 v.2.2.1 v.2.2.2.1 () o0_1).bind fun t55 =>
                some ((), (ibits .xor .i64 t55.1 1), t55.2.2, ()))
                (Option.bind
                  (cond (t27.1 == 4)
                    ((r_.1 g.2.1 v.1 v.2.1 v.2.2.1 v.2.2.2.1 () o0_1).bind fun t62 =>
                    (r_.1 g.2.2.1 v.1 v.2.1 v.2.2.1 v.2.2.2.1 () t62.2.2).bind fun t66 =>
                    some ((), (mnI t62.1 t66.1), t66.2.2, ()))
                    (Option.bind
                      (cond (t27.1 == 5)
                        ((r_.1 g.2.1 v.1 v.2.1 v.2.2.1 v.2.2.2.1 () o0_1).bind fun t73 =>
                        (r_.1 g.2.2.1 v.1 v.2.1 v.2.2.1 v.2.2.2.1 () t73.2.2).bind fun t77 =>
                        some ((), (mxI t73.1 t77.1), t77.2.2, ()))
                        (Option.bind
                          (cond (t27.1 == 6)
                            ((r_.1 g.2.1 v.1 v.2.1 v.2.2.1 v.2.2.2.1 () o0_1).bind fun t84 =>
                            (r_.1 g.2.2.1 v.1 v.2.1 v.2.2.1 v.2.2.2.1 () t84.2.2).bind fun t88 =>
                            some ((), (Int.tmod (w64 (t84.1 + t88.1)) 2), t88.2.2, ()))
                            (Option.bind
                              (cond (t27.1 == 7)
                                ((r_.1 g.2.2.2.1 v.1 v.2.1 v.2.2.1 v.2.2.2.1 () o0_1).bind fun t96 =>
                                (r_.1 g.2.1 v.1 v.2.1 v.2.2.1 v.2.2.2.1 () t96.2.2).bind fun t100 =>
                                Option.bind
                                  (cond (decide (t100.1 > 0))
                                    ((r_.1 g.2.2.1 v.1 v.2.1 v.2.2.1 v.2.2.2.1 () t100.2.2).bind fun t105 =>
                                    some ((), t105.1, t105.2.2, ()))
                                    (some ((), t96.1, t100.2.2, ())) : Option (Unit × (Int × ((List (Int × Int)) × Unit)))) fun ((_, n, o0_2, _) : (Unit × (Int × ((List (Int × Int)) × Unit)))) =>
                                some ((), n, o0_2, ()))
                                (some ((), 0, o0_1, ())) : Option (Unit × (Int × ((List (Int × Int)) × Unit)))) fun ((_, n_1, o0_3, _) : (Unit × (Int × ((List (Int × Int)) × Unit)))) =>
                            some ((), n_1, o0_3, ())) : Option (Unit × (Int × ((List (Int × Int)) × Unit)))) fun ((_, n_2, o0_4, _) : (Unit × (Int × ((List (Int × Int)) × Unit)))) =>
                        some ((), n_2, o0_4, ())) : Option (Unit × (Int × ((List (Int × Int)) × Unit)))) fun ((_, n_3, o0_5, _) : (Unit × (Int × ((List (Int × Int)) × Unit)))) =>
                    some ((), n_3, o0_5, ())) : Option (Unit × (Int × ((List (Int × Int)) × Unit)))) fun ((_, n_4, o0_6, _) : (Unit × (Int × ((List (Int × Int)) × Unit)))) =>
                some ((), n_4, o0_6, ())) : Option (Unit × (Int × ((List (Int × Int)) × Unit)))) fun ((_, n_5, o0_7, _) : (Unit × (Int × ((List (Int × Int)) × Unit)))) =>
            some ((), n_5, o0_7, ())) : Option (Unit × (Int × ((List (Int × Int)) × Unit)))) fun ((_, n_6, o0_8, _) : (Unit × (Int × ((List (Int × Int)) × Unit)))) =>
        some ((), n_6, o0_8, ())) : Option (Unit × (Int × ((List (Int × Int)) × Unit)))) fun ((_, n_7, o0_9, _) : (Unit × (Int × ((List (Int × Int)) × Unit)))) =>
    some (n_7, (mput (.int .i64) (.int .i64) o0_9 k_ n_7)))
def GrpValue19 : Nat → GrpValue19.T
  | 0 => ((fun _ _ _ _ _ _ _ => none), (fun _ _ _ _ _ _ => none))
  | k + 1 => (Value173.b (GrpValue19 k) k, Value19.b (GrpValue19 k) k)
def Value173 (k : Nat) : Int → (Int × ((List (Int × (Int × (Int × (Int × Int))))) × ((List Int) × ((List Int) × (List Int))))) → Int → Int → Unit → Unit → (List (Int × Int)) → Option (Int × (Unit × (List (Int × Int)))) := (GrpValue19 k).1
def Value19 (k : Nat) : (Int × ((List (Int × (Int × (Int × (Int × Int))))) × ((List Int) × ((List Int) × (List Int))))) → Int → Int → Int → Unit → (List (Int × Int)) → Option (Int × (List (Int × Int))) := (GrpValue19 k).2
def Value173.A : Ann := { conds := [], blocks := [], loops := [], keeps := [], orders := [] }
def Value173.S : Sig := { f := 73, params := [.int .i64, .fp (.st (.pair (.int .i64) (.pair (.sl (.st (.pair (.int .i64) (.pair (.int .i64) (.pair (.int .i64) (.pair (.int .i64) (.int .i64))))))) (.pair (.sl (.int .i64)) (.pair (.sl (.int .i64)) (.sl (.int .i64))))))), .fp (.int .i64), .fp (.int .i64), .ptr 0 []], objs := [.var (.mm 1), .map (.int .i64) (.int .i64)], res := .int .i64, outs := [.var (.mm 1), .map (.int .i64) (.int .i64)], fix := [], run := fun k ds os => Value173 k ds.1 ds.2.1 ds.2.2.1 ds.2.2.2.1 ds.2.2.2.2 os.1 os.2 }
def Value19.A : Ann := { conds := [(2097161, ⟨[(9, .ptr 1 []), (15, .int .i64)], [(0, .map (.int .i64) (.int .i64)), (1, .var (.mm 0))], 2, [], 81129638414606681695771825307648⟩), (2359307, ⟨[(6, .fp (.int .i64)), (7, .fp (.int .i64)), (9, .ptr 1 []), (13, .fp (.st (.pair (.int .i64) (.pair (.int .i64) (.pair (.int .i64) (.pair (.int .i64) (.int .i64))))))), (14, .fn 73 (.pair (.fp (.st (.pair (.int .i64) (.pair (.sl (.st (.pair (.int .i64) (.pair (.int .i64) (.pair (.int .i64) (.pair (.int .i64) (.int .i64))))))) (.pair (.sl (.int .i64)) (.pair (.sl (.int .i64)) (.sl (.int .i64)))))))) (.pair (.fp (.int .i64)) (.pair (.fp (.int .i64)) (.pair (.ptr 1 []) .unit))))), (36, .bool)], [(0, .map (.int .i64) (.int .i64)), (1, .var (.mm 0))], 2, [], 343597383680⟩), (2359308, ⟨[(9, .ptr 1 []), (15, .int .i64)], [(0, .map (.int .i64) (.int .i64)), (1, .var (.mm 0))], 2, [], 81129638414606681695239249362944⟩), (3276814, ⟨[(9, .ptr 1 []), (15, .int .i64)], [(0, .map (.int .i64) (.int .i64)), (1, .var (.mm 0))], 2, [], 81129638414606677192189377806336⟩), (3735568, ⟨[(9, .ptr 1 []), (15, .int .i64)], [(0, .map (.int .i64) (.int .i64)), (1, .var (.mm 0))], 2, [], 81129638414606105235036701753344⟩), (4456466, ⟨[(9, .ptr 1 []), (15, .int .i64)], [(0, .map (.int .i64) (.int .i64)), (1, .var (.mm 0))], 2, [], 81129638413426090075071593873408⟩), (5177364, ⟨[(9, .ptr 1 []), (15, .int .i64)], [(0, .map (.int .i64) (.int .i64)), (1, .var (.mm 0))], 2, [], 81129635996755042466530655764480⟩), (5963798, ⟨[(9, .ptr 1 []), (15, .int .i64)], [(0, .map (.int .i64) (.int .i64)), (1, .var (.mm 0))], 2, [], 81119734894292398653589812183040⟩), (6619160, ⟨[(9, .ptr 1 []), (15, .int .i64)], [(0, .map (.int .i64) (.int .i64)), (1, .var (.mm 0))], 2, [], 76059036013693764089802192355328⟩)], blocks := [], loops := [], keeps := [5, 6, 7, 13], orders := [(16, [(0, .strong), (1, .strong), (2, .strong), (4, .weak), (5, .weak), (6, .weak), (3, .eff false), (7, .eff false), (8, .strong), (9, .strong)]), (18, [(0, .strong), (1, .strong), (2, .strong), (4, .weak), (5, .weak), (6, .weak), (3, .eff false), (7, .eff false), (8, .strong), (9, .strong)]), (20, [(0, .strong), (1, .strong), (2, .strong), (4, .weak), (5, .weak), (6, .weak), (3, .eff false), (7, .eff false), (8, .strong), (9, .strong), (10, .strong)])] }
def Value19.S : Sig := { f := 19, params := [.st (.pair (.int .i64) (.pair (.sl (.st (.pair (.int .i64) (.pair (.int .i64) (.pair (.int .i64) (.pair (.int .i64) (.int .i64))))))) (.pair (.sl (.int .i64)) (.pair (.sl (.int .i64)) (.sl (.int .i64)))))), .int .i64, .int .i64, .int .i64, .mm 0], objs := [.map (.int .i64) (.int .i64)], res := .int .i64, outs := [.map (.int .i64) (.int .i64)], fix := [], run := fun k ds os => Value19 k ds.1 ds.2.1 ds.2.2.1 ds.2.2.2.1 ds.2.2.2.2 os }
def Value173.G : List Sig := [Value19.S]
theorem Value173.eq (k : Nat) : ∀ ds os, Value173.S.run (k + 1) ds os = runF ⟨types, Value173.G, Value173.A, k, 0, []⟩ Try.f73 (codeOf Try.f73) Value173.S.params Value173.S.objs Value173.S.res Value173.S.outs ds os := by
  intro ds os; kernel_rfl
theorem Value173.dr : DrOk Try.prog Value173.A (codeOf Try.f73) := ⟨by kernel_rfl, by kernel_rfl⟩
def Value19.G : List Sig := [Value173.S]
theorem Value19.eq (k : Nat) : ∀ ds os, Value19.S.run (k + 1) ds os = runF ⟨types, Value19.G, Value19.A, k, 0, []⟩ Try.f19 (codeOf Try.f19) Value19.S.params Value19.S.objs Value19.S.res Value19.S.outs ds os := by
  intro ds os; kernel_rfl
theorem Value19.dr : DrOk Try.prog Value19.A (codeOf Try.f19) := ⟨by kernel_rfl, by kernel_rfl⟩
theorem GrpValue19.ok : ∀ k, SoundAt Try.prog k Value173.S ∧ SoundAt Try.prog k Value19.S := by
  intro k
  induction k with
  | zero => exact ⟨sound_none (fn := Try.f73) (c := codeOf Try.f73) rfl (by kernel_rfl) rfl (fun _ _ => rfl), sound_none (fn := Try.f19) (c := codeOf Try.f19) rfl (by kernel_rfl) rfl (fun _ _ => rfl)⟩
  | succ k ih => exact ⟨runF_sound (X := ⟨types, Value173.G, Value173.A, k, 0, []⟩) types_ok (mem_all (⟨ih.2, trivial⟩)) (fn := Try.f73) (c := codeOf Try.f73) rfl (by kernel_rfl) rfl rfl Value173.dr (Value173.eq k), runF_sound (X := ⟨types, Value19.G, Value19.A, k, 0, []⟩) types_ok (mem_all (⟨ih.1, trivial⟩)) (fn := Try.f19) (c := codeOf Try.f19) rfl (by kernel_rfl) rfl rfl Value19.dr (Value19.eq k)⟩
theorem Value173.ok (k : Nat) : SoundAt Try.prog k Value173.S := (GrpValue19.ok k).1
theorem Value19.ok (k : Nat) : SoundAt Try.prog k Value19.S := (GrpValue19.ok k).2
end Go.Proofs.Ytjbdhaenakcclaa.St

/- Go functions as plain Lean functions, and their contracts. -/
set_option linter.unusedVariables false
set_option maxRecDepth 100000
noncomputable section
namespace Go.Proofs.Ytjbdhaenakcclaa.St
open Go Go.Proofs.Ytjbdhaenakcclaa.Gp
def Stepped20.l0 (k : Nat) (state : Int) (in_ : Int) (t21 : Int) (t25 : (List Int)) : ((Int × ((List (Int × (Int × (Int × (Int × Int))))) × ((List Int) × ((List Int) × (List Int))))) × (Unit × (Unit × (Unit × (Int × ((List (Int × Int)) × ((List Int) × (List (List Int))))))))) → Option (((Int × ((List (Int × (Int × (Int × (Int × Int))))) × ((List Int) × ((List Int) × (List Int))))) × (Unit × (Unit × (Unit × (Int × ((List (Int × Int)) × ((List Int) × (List (List Int))))))))) ⊕ ((Int × ((List (Int × (Int × (Int × (Int × Int))))) × ((List Int) × ((List Int) × (List Int))))) × (Unit × (Unit × (Unit × ((List (Int × Int)) × ((List Int) × (List (List Int)))))))))
  | (c_2, _, _, _, t28, o0_1, o1_1, o2_1) =>
    cond (decide (t28 < (List.length t25 : Int)))
      ((rd t25 t28).bind fun t31 =>
      (if 0 ≤ t21 ∧ t21 < 2 then some () else none).bind fun _ =>
      (rd o1_1 t21).bind fun t35 =>
      (Value19 k c_2 state in_ t31 () o0_1).bind fun t41 =>
      (if t28 < 0 then none else some (shlI .i64 t41.1 t28)).bind fun t43 =>
      (if 0 ≤ t21 ∧ t21 < 2 then some () else none).bind fun _ =>
      (rd o1_1 t21).bind fun _ =>
      some (Sum.inl (c_2, (), (), (), (w64 (t28 + 1)), t41.2, (List.set o1_1 (Int.toNat t21) (w64 (t35 + t43))), o2_1)))
      (some (Sum.inr (c_2, (), (), (), o0_1, o1_1, o2_1)))
def Stepped20.l1 (k : Nat) (c : (Int × ((List (Int × (Int × (Int × (Int × Int))))) × ((List Int) × ((List Int) × (List Int)))))) (state : Int) (in_ : Int) : ((Int × ((List (Int × (Int × (Int × (Int × Int))))) × ((List Int) × ((List Int) × (List Int))))) × (Unit × (Unit × (Unit × (Int × ((List (Int × Int)) × ((List Int) × (List (List Int))))))))) → Option (((Int × ((List (Int × (Int × (Int × (Int × Int))))) × ((List Int) × ((List Int) × (List Int))))) × (Unit × (Unit × (Unit × (Int × ((List (Int × Int)) × ((List Int) × (List (List Int))))))))) ⊕ (Unit × (List Int)))
  | (c_1, _, _, _, t21, o0, o1, o2) =>
    cond (decide (t21 < (List.length [c.2.2.1, c.2.2.2.1] : Int)))
      ((rd o2 t21).bind fun _ =>
      (rd o2 t21).bind fun t25 =>
      Option.bind
        (loopN (Stepped20.l0 k state in_ t21 t25) k (c_1, (), (), (), 0, o0, o1, o2) : Option ((Int × ((List (Int × (Int × (Int × (Int × Int))))) × ((List Int) × ((List Int) × (List Int))))) × (Unit × (Unit × (Unit × ((List (Int × Int)) × ((List Int) × (List (List Int))))))))) fun ((c_3, _, _, _, o0_2, o1_2, o2_2) : ((Int × ((List (Int × (Int × (Int × (Int × Int))))) × ((List Int) × ((List Int) × (List Int))))) × (Unit × (Unit × (Unit × ((List (Int × Int)) × ((List Int) × (List (List Int))))))))) =>
      some (Sum.inl (c_3, (), (), (), (w64 (t21 + 1)), o0_2, o1_2, o2_2)))
      (some (Sum.inr ((), o1)))
def Stepped20 (k : Nat) (c : (Int × ((List (Int × (Int × (Int × (Int × Int))))) × ((List Int) × ((List Int) × (List Int)))))) (state : Int) (in_ : Int) : Option ((Int × (Int × Unit)) × Unit) :=
  Option.bind
    (loopN (Stepped20.l1 k c state in_) k (c, (), (), (), 0, ([] : (List (Int × Int))), (List.replicate 2 0), [c.2.2.1, c.2.2.2.1]) : Option (Unit × (List Int))) fun ((_, o1_3) : (Unit × (List Int))) =>
  (if 0 ≤ 0 ∧ 0 < 2 then some () else none).bind fun _ =>
  (rd o1_3 0).bind fun t49 =>
  (if 0 ≤ 1 ∧ 1 < 2 then some () else none).bind fun _ =>
  (rd o1_3 1).bind fun t51 =>
  some ((t49, t51, ()), ())
def Stepped20.A : Ann := { conds := [], blocks := [(0, ⟨[(9, .ptr 1 [])], [(1, .var (.arr 2 (.int .i64)))], 2, [], 281474974628864⟩), (2, ⟨[(3, .fp (.st (.pair (.int .i64) (.pair (.sl (.st (.pair (.int .i64) (.pair (.int .i64) (.pair (.int .i64) (.pair (.int .i64) (.int .i64))))))) (.pair (.sl (.int .i64)) (.pair (.sl (.int .i64)) (.sl (.int .i64)))))))), (8, .mm 0), (9, .ptr 1 []), (19, .ms 2)], [(0, .map (.int .i64) (.int .i64)), (1, .var (.arr 2 (.int .i64))), (2, .row (.sl (.int .i64)))], 3, [], 140737219932160⟩)], loops := [(4, ⟨[(3, .fp (.st (.pair (.int .i64) (.pair (.sl (.st (.pair (.int .i64) (.pair (.int .i64) (.pair (.int .i64) (.pair (.int .i64) (.int .i64))))))) (.pair (.sl (.int .i64)) (.pair (.sl (.int .i64)) (.sl (.int .i64)))))))), (8, .mm 0), (9, .ptr 1 []), (19, .ms 2), (21, .int .i64)], [(0, .map (.int .i64) (.int .i64)), (1, .var (.arr 2 (.int .i64))), (2, .row (.sl (.int .i64)))], 3, [], 281474974628864⟩), (7, ⟨[(3, .fp (.st (.pair (.int .i64) (.pair (.sl (.st (.pair (.int .i64) (.pair (.int .i64) (.pair (.int .i64) (.pair (.int .i64) (.int .i64))))))) (.pair (.sl (.int .i64)) (.pair (.sl (.int .i64)) (.sl (.int .i64)))))))), (8, .mm 0), (9, .ptr 1 []), (19, .ms 2), (28, .int .i64)], [(0, .map (.int .i64) (.int .i64)), (1, .var (.arr 2 (.int .i64))), (2, .row (.sl (.int .i64)))], 3, [], 140737219932160⟩)], keeps := [3], orders := [(9, [(0, .strong), (1, .strong), (2, .strong), (3, .strong), (4, .strong), (5, .strong), (6, .strong), (7, .strong), (9, .strong), (8, .eff true), (10, .strong), (11, .strong), (12, .strong), (13, .eff false)]), (12, [(0, .strong), (1, .strong), (2, .strong), (3, .strong), (4, .strong), (5, .strong)])], touches := [(9, 1)] }
def Stepped20.S : Sig := { f := 20, params := [.st (.pair (.int .i64) (.pair (.sl (.st (.pair (.int .i64) (.pair (.int .i64) (.pair (.int .i64) (.pair (.int .i64) (.int .i64))))))) (.pair (.sl (.int .i64)) (.pair (.sl (.int .i64)) (.sl (.int .i64)))))), .int .i64, .int .i64], objs := [], res := .tup (.pair (.int .i64) (.pair (.int .i64) .unit)), outs := [], fix := [], run := fun k ds os => Stepped20 k ds.1 ds.2.1 ds.2.2 }
def Stepped20.G : List Sig := [Value19.S]
theorem Stepped20.eq (k : Nat) : ∀ ds os, Stepped20.S.run k ds os = runF ⟨types, Stepped20.G, Stepped20.A, k, 0, []⟩ Try.f20 (codeOf Try.f20) Stepped20.S.params Stepped20.S.objs Stepped20.S.res Stepped20.S.outs ds os := by
  intro ds os; kernel_rfl
theorem Stepped20.dr : DrOk Try.prog Stepped20.A (codeOf Try.f20) := ⟨by kernel_rfl, by kernel_rfl⟩
theorem Stepped20.ok (k : Nat) : SoundAt Try.prog k Stepped20.S :=
  runF_sound (X := ⟨types, Stepped20.G, Stepped20.A, k, 0, []⟩) types_ok (mem_all (⟨Value19.ok k, trivial⟩)) (fn := Try.f20) (c := codeOf Try.f20) rfl (by kernel_rfl) rfl rfl Stepped20.dr (Stepped20.eq k)

def Index57.l0 (k : Nat) (s : (List Int)) (v : Int) : Int → Option (Int ⊕ (Unit ⊕ (Int × Unit)))
  | t8 =>
    cond (decide (t8 < (List.length s : Int)))
      ((rd s t8).bind fun t14 =>
      cond (v == t14)
        (some (Sum.inr (Sum.inr (t8, ()))))
        (some (Sum.inl (w64 (t8 + 1)))))
      (some (Sum.inr (Sum.inl ())))
def Index57 (k : Nat) (s : (List Int)) (v : Int) : Option (Int × Unit) :=
  Option.bind
    (loopN (Index57.l0 k s v) k 0 : Option (Unit ⊕ (Int × Unit))) (joined fun (_ : Unit) =>
    some ((-1), ()))
def Index57.A : Ann := { conds := [], blocks := [(0, ⟨[], [], 0, [], 524080⟩)], loops := [(2, ⟨[(8, .int .i64)], [], 0, [], 524080⟩)], keeps := [], orders := [] }
def Index57.S : Sig := { f := 57, params := [.sl (.int .i64), .int .i64], objs := [], res := .int .i64, outs := [], fix := [], run := fun k ds os => Index57 k ds.1 ds.2 }
def Index57.G : List Sig := []
theorem Index57.eq (k : Nat) : ∀ ds os, Index57.S.run k ds os = runF ⟨types, Index57.G, Index57.A, k, 0, []⟩ Try.f57 (codeOf Try.f57) Index57.S.params Index57.S.objs Index57.S.res Index57.S.outs ds os := by
  intro ds os; kernel_rfl
theorem Index57.dr : DrOk Try.prog Index57.A (codeOf Try.f57) := ⟨by kernel_rfl, by kernel_rfl⟩
theorem Index57.ok (k : Nat) : SoundAt Try.prog k Index57.S :=
  runF_sound (X := ⟨types, Index57.G, Index57.A, k, 0, []⟩) types_ok (fun s hs => absurd hs List.not_mem_nil) (fn := Try.f57) (c := codeOf Try.f57) rfl (by kernel_rfl) rfl rfl Index57.dr (Index57.eq k)

def Equal96.l0 (k : Nat) (s1 : (List (Int × Int))) (s2 : (List (Int × Int))) : Int → Option (Int ⊕ (Unit ⊕ (Bool × Unit)))
  | t13 =>
    cond (decide (t13 < (List.length s1 : Int)))
      ((rd s1 t13).bind fun t18 =>
      (rd s2 t13).bind fun t22 =>
      cond (xor true (eqB (.st (.pair (.int .i64) (.int .i64))) t18 t22))
        (some (Sum.inr (Sum.inr (false, ()))))
        (some (Sum.inl (w64 (t13 + 1)))))
      (some (Sum.inr (Sum.inl ())))
def Equal96 (k : Nat) (s1 : (List (Int × Int))) (s2 : (List (Int × Int))) : Option (Bool × Unit) :=
  cond ((List.length s1 : Int) != (List.length s2 : Int))
    (some (false, ()))
    (Option.bind
      (loopN (Equal96.l0 k s1 s2) k 0 : Option (Unit ⊕ (Bool × Unit))) (joined fun (_ : Unit) =>
      some (true, ())))
def Equal96.A : Ann := { conds := [], blocks := [(0, ⟨[], [], 0, [], 67100720⟩)], loops := [(4, ⟨[(13, .int .i64)], [], 0, [], 67100720⟩)], keeps := [], orders := [(6, [(0, .strong), (1, .strong), (2, .strong), (3, .strong), (4, .strong), (5, .strong), (6, .strong), (7, .strong), (8, .strong)])] }
def Equal96.S : Sig := { f := 96, params := [.sl (.st (.pair (.int .i64) (.int .i64))), .sl (.st (.pair (.int .i64) (.int .i64)))], objs := [], res := .bool, outs := [], fix := [], run := fun k ds os => Equal96 k ds.1 ds.2 }
def Equal96.G : List Sig := []
theorem Equal96.eq (k : Nat) : ∀ ds os, Equal96.S.run k ds os = runF ⟨types, Equal96.G, Equal96.A, k, 0, []⟩ Try.f96 (codeOf Try.f96) Equal96.S.params Equal96.S.objs Equal96.S.res Equal96.S.outs ds os := by
  intro ds os; kernel_rfl
theorem Equal96.dr : DrOk Try.prog Equal96.A (codeOf Try.f96) := ⟨by kernel_rfl, by kernel_rfl⟩
theorem Equal96.ok (k : Nat) : SoundAt Try.prog k Equal96.S :=
  runF_sound (X := ⟨types, Equal96.G, Equal96.A, k, 0, []⟩) types_ok (fun s hs => absurd hs List.not_mem_nil) (fn := Try.f96) (c := codeOf Try.f96) rfl (by kernel_rfl) rfl rfl Equal96.dr (Equal96.eq k)

def sameTable195 (k : Nat) (x : (List (Int × Int))) (y : (List (Int × Int))) : Option (Bool × Unit) :=
  (Equal96 k x y).bind fun t7 =>
  some (t7.1, ())
def sameTable195.A : Ann := { conds := [], blocks := [], loops := [], keeps := [], orders := [] }
def sameTable195.S : Sig := { f := 95, params := [.sl (.st (.pair (.int .i64) (.int .i64))), .sl (.st (.pair (.int .i64) (.int .i64)))], objs := [], res := .bool, outs := [], fix := [], run := fun k ds os => sameTable195 k ds.1 ds.2 }
def sameTable195.G : List Sig := [Equal96.S]
theorem sameTable195.eq (k : Nat) : ∀ ds os, sameTable195.S.run k ds os = runF ⟨types, sameTable195.G, sameTable195.A, k, 0, []⟩ Try.f95 (codeOf Try.f95) sameTable195.S.params sameTable195.S.objs sameTable195.S.res sameTable195.S.outs ds os := by
  intro ds os; kernel_rfl
theorem sameTable195.dr : DrOk Try.prog sameTable195.A (codeOf Try.f95) := ⟨by kernel_rfl, by kernel_rfl⟩
theorem sameTable195.ok (k : Nat) : SoundAt Try.prog k sameTable195.S :=
  runF_sound (X := ⟨types, sameTable195.G, sameTable195.A, k, 0, []⟩) types_ok (mem_all (⟨Equal96.ok k, trivial⟩)) (fn := Try.f95) (c := codeOf Try.f95) rfl (by kernel_rfl) rfl rfl sameTable195.dr (sameTable195.eq k)

def EqualFunc94.l0 (k : Nat) (s1 : (List (List (Int × Int)))) (s2 : (List (List (Int × Int)))) : (Unit × Int) → Option ((Unit × Int) ⊕ (Unit ⊕ (Bool × Unit)))
  | (_, t17) =>
    cond (decide (t17 < (List.length s1 : Int)))
      ((rd s1 t17).bind fun t20 =>
      (rd s2 t17).bind fun t24 =>
      (sameTable195 k t20 t24).bind fun t29 =>
      cond (!t29.1)
        (some (Sum.inr (Sum.inr (false, ()))))
        (some (Sum.inl ((), (w64 (t17 + 1))))))
      (some (Sum.inr (Sum.inl ())))
def EqualFunc94 (k : Nat) (s1 : (List (List (Int × Int)))) (s2 : (List (List (Int × Int)))) (_ : Unit) : Option (Bool × Unit) :=
  cond ((List.length s1 : Int) != (List.length s2 : Int))
    (some (false, ()))
    (Option.bind
      (loopN (EqualFunc94.l0 k s1 s2) k ((), 0) : Option (Unit ⊕ (Bool × Unit))) (joined fun (_ : Unit) =>
      some (true, ())))
def EqualFunc94.A : Ann := { conds := [], blocks := [(0, ⟨[], [], 0, [], 4294837184⟩)], loops := [(4, ⟨[(2, .fn 95 .unit), (17, .int .i64)], [], 0, [], 4294837184⟩)], keeps := [], orders := [] }
def EqualFunc94.S : Sig := { f := 94, params := [.sl (.sl (.st (.pair (.int .i64) (.int .i64)))), .sl (.sl (.st (.pair (.int .i64) (.int .i64)))), .fn 95 .unit], objs := [], res := .bool, outs := [], fix := [], run := fun k ds os => EqualFunc94 k ds.1 ds.2.1 ds.2.2 }
def EqualFunc94.G : List Sig := [sameTable195.S]
theorem EqualFunc94.eq (k : Nat) : ∀ ds os, EqualFunc94.S.run k ds os = runF ⟨types, EqualFunc94.G, EqualFunc94.A, k, 0, []⟩ Try.f94 (codeOf Try.f94) EqualFunc94.S.params EqualFunc94.S.objs EqualFunc94.S.res EqualFunc94.S.outs ds os := by
  intro ds os; kernel_rfl
theorem EqualFunc94.dr : DrOk Try.prog EqualFunc94.A (codeOf Try.f94) := ⟨by kernel_rfl, by kernel_rfl⟩
theorem EqualFunc94.ok (k : Nat) : SoundAt Try.prog k EqualFunc94.S :=
  runF_sound (X := ⟨types, EqualFunc94.G, EqualFunc94.A, k, 0, []⟩) types_ok (mem_all (⟨sameTable195.ok k, trivial⟩)) (fn := Try.f94) (c := codeOf Try.f94) rfl (by kernel_rfl) rfl rfl EqualFunc94.dr (EqualFunc94.eq k)

def sameTable45 (k : Nat) (a : (Int × (Int × (List (List (Int × Int)))))) (b : (Int × (Int × (List (List (Int × Int)))))) : Option (Bool × Unit) :=
  Option.bind (cond (cond (a.1 == b.1) (a.2.1 == b.2.1) false)
    ((EqualFunc94 k a.2.2 b.2.2 ()).bind fun t22 =>
    some t22.1)
    (some false)) fun t23 =>
  some (t23, ())
def sameTable45.A : Ann := { conds := [], blocks := [], loops := [], keeps := [2, 3], orders := [] }
def sameTable45.S : Sig := { f := 45, params := [.st (.pair (.int .i64) (.pair (.int .i64) (.sl (.sl (.st (.pair (.int .i64) (.int .i64))))))), .st (.pair (.int .i64) (.pair (.int .i64) (.sl (.sl (.st (.pair (.int .i64) (.int .i64)))))))], objs := [], res := .bool, outs := [], fix := [], run := fun k ds os => sameTable45 k ds.1 ds.2 }
def sameTable45.G : List Sig := [EqualFunc94.S]
theorem sameTable45.eq (k : Nat) : ∀ ds os, sameTable45.S.run k ds os = runF ⟨types, sameTable45.G, sameTable45.A, k, 0, []⟩ Try.f45 (codeOf Try.f45) sameTable45.S.params sameTable45.S.objs sameTable45.S.res sameTable45.S.outs ds os := by
  intro ds os; kernel_rfl
theorem sameTable45.dr : DrOk Try.prog sameTable45.A (codeOf Try.f45) := ⟨by kernel_rfl, by kernel_rfl⟩
theorem sameTable45.ok (k : Nat) : SoundAt Try.prog k sameTable45.S :=
  runF_sound (X := ⟨types, sameTable45.G, sameTable45.A, k, 0, []⟩) types_ok (mem_all (⟨EqualFunc94.ok k, trivial⟩)) (fn := Try.f45) (c := codeOf Try.f45) rfl (by kernel_rfl) rfl rfl sameTable45.dr (sameTable45.eq k)
end Go.Proofs.Ytjbdhaenakcclaa.St

/- Go functions as plain Lean functions, and their contracts. -/
set_option linter.unusedVariables false
set_option maxRecDepth 100000
noncomputable section
namespace Go.Proofs.Ytjbdhaenakcclaa.St
open Go Go.Proofs.Ytjbdhaenakcclaa.Gp
def Index113.l0 (k : Nat) (s : (List (Int × (Int × (Int × (Int × Int)))))) : ((Int × (Int × (Int × (Int × Int)))) × Int) → Option (((Int × (Int × (Int × (Int × Int)))) × Int) ⊕ (Unit ⊕ (Int × Unit)))
  | (v_1, t8) =>
    cond (decide (t8 < (List.length s : Int)))
      ((rd s t8).bind fun t14 =>
      cond (xor false (eqB (.st (.pair (.int .i64) (.pair (.int .i64) (.pair (.int .i64) (.pair (.int .i64) (.int .i64)))))) v_1 t14))
        (some (Sum.inr (Sum.inr (t8, ()))))
        (some (Sum.inl (v_1, (w64 (t8 + 1))))))
      (some (Sum.inr (Sum.inl ())))
def Index113 (k : Nat) (s : (List (Int × (Int × (Int × (Int × Int)))))) (v : (Int × (Int × (Int × (Int × Int))))) : Option (Int × Unit) :=
  Option.bind
    (loopN (Index113.l0 k s) k (v, 0) : Option (Unit ⊕ (Int × Unit))) (joined fun (_ : Unit) =>
    some ((-1), ()))
def Index113.A : Ann := { conds := [], blocks := [(0, ⟨[], [], 0, [], 524080⟩)], loops := [(2, ⟨[(3, .fp (.st (.pair (.int .i64) (.pair (.int .i64) (.pair (.int .i64) (.pair (.int .i64) (.int .i64))))))), (8, .int .i64)], [], 0, [], 524080⟩)], keeps := [3], orders := [(4, [(0, .strong), (1, .strong), (2, .strong), (3, .strong), (4, .strong), (5, .strong)])] }
def Index113.S : Sig := { f := 113, params := [.sl (.st (.pair (.int .i64) (.pair (.int .i64) (.pair (.int .i64) (.pair (.int .i64) (.int .i64)))))), .st (.pair (.int .i64) (.pair (.int .i64) (.pair (.int .i64) (.pair (.int .i64) (.int .i64)))))], objs := [], res := .int .i64, outs := [], fix := [], run := fun k ds os => Index113 k ds.1 ds.2 }
def Index113.G : List Sig := []
theorem Index113.eq (k : Nat) : ∀ ds os, Index113.S.run k ds os = runF ⟨types, Index113.G, Index113.A, k, 0, []⟩ Try.f113 (codeOf Try.f113) Index113.S.params Index113.S.objs Index113.S.res Index113.S.outs ds os := by
  intro ds os; kernel_rfl
theorem Index113.dr : DrOk Try.prog Index113.A (codeOf Try.f113) := ⟨by kernel_rfl, by kernel_rfl⟩
theorem Index113.ok (k : Nat) : SoundAt Try.prog k Index113.S :=
  runF_sound (X := ⟨types, Index113.G, Index113.A, k, 0, []⟩) types_ok (fun s hs => absurd hs List.not_mem_nil) (fn := Try.f113) (c := codeOf Try.f113) rfl (by kernel_rfl) rfl rfl Index113.dr (Index113.eq k)

def Contains60 (k : Nat) (s : (List (Int × (Int × (Int × (Int × Int)))))) (v : (Int × (Int × (Int × (Int × Int))))) : Option (Bool × Unit) :=
  (Index113 k s v).bind fun t7 =>
  some ((decide (t7.1 ≥ 0)), ())
def Contains60.A : Ann := { conds := [], blocks := [], loops := [], keeps := [3], orders := [] }
def Contains60.S : Sig := { f := 60, params := [.sl (.st (.pair (.int .i64) (.pair (.int .i64) (.pair (.int .i64) (.pair (.int .i64) (.int .i64)))))), .st (.pair (.int .i64) (.pair (.int .i64) (.pair (.int .i64) (.pair (.int .i64) (.int .i64)))))], objs := [], res := .bool, outs := [], fix := [], run := fun k ds os => Contains60 k ds.1 ds.2 }
def Contains60.G : List Sig := [Index113.S]
theorem Contains60.eq (k : Nat) : ∀ ds os, Contains60.S.run k ds os = runF ⟨types, Contains60.G, Contains60.A, k, 0, []⟩ Try.f60 (codeOf Try.f60) Contains60.S.params Contains60.S.objs Contains60.S.res Contains60.S.outs ds os := by
  intro ds os; kernel_rfl
theorem Contains60.dr : DrOk Try.prog Contains60.A (codeOf Try.f60) := ⟨by kernel_rfl, by kernel_rfl⟩
theorem Contains60.ok (k : Nat) : SoundAt Try.prog k Contains60.S :=
  runF_sound (X := ⟨types, Contains60.G, Contains60.A, k, 0, []⟩) types_ok (mem_all (⟨Index113.ok k, trivial⟩)) (fn := Try.f60) (c := codeOf Try.f60) rfl (by kernel_rfl) rfl rfl Contains60.dr (Contains60.eq k)

def constant61 (k : Nat) (c : (Int × ((List (Int × (Int × (Int × (Int × Int))))) × ((List Int) × ((List Int) × (List Int)))))) (k_ : Int) : Option (Bool × Unit) :=
  (rd c.2.1 k_).bind fun t8 =>
  some ((t8.1 == 0), ())
def constant61.A : Ann := { conds := [], blocks := [], loops := [], keeps := [2], orders := [] }
def constant61.S : Sig := { f := 61, params := [.st (.pair (.int .i64) (.pair (.sl (.st (.pair (.int .i64) (.pair (.int .i64) (.pair (.int .i64) (.pair (.int .i64) (.int .i64))))))) (.pair (.sl (.int .i64)) (.pair (.sl (.int .i64)) (.sl (.int .i64)))))), .int .i64], objs := [], res := .bool, outs := [], fix := [], run := fun k ds os => constant61 k ds.1 ds.2 }
def constant61.G : List Sig := []
theorem constant61.eq (k : Nat) : ∀ ds os, constant61.S.run k ds os = runF ⟨types, constant61.G, constant61.A, k, 0, []⟩ Try.f61 (codeOf Try.f61) constant61.S.params constant61.S.objs constant61.S.res constant61.S.outs ds os := by
  intro ds os; kernel_rfl
theorem constant61.dr : DrOk Try.prog constant61.A (codeOf Try.f61) := ⟨by kernel_rfl, by kernel_rfl⟩
theorem constant61.ok (k : Nat) : SoundAt Try.prog k constant61.S :=
  runF_sound (X := ⟨types, constant61.G, constant61.A, k, 0, []⟩) types_ok (fun s hs => absurd hs List.not_mem_nil) (fn := Try.f61) (c := codeOf Try.f61) rfl (by kernel_rfl) rfl rfl constant61.dr (constant61.eq k)

def circuitBox83 (k : Nat) (c : (Int × ((List (Int × (Int × (Int × (Int × Int))))) × ((List Int) × ((List Int) × (List Int)))))) : Option (((Int × ((List (Int × (Int × (Int × (Int × Int))))) × ((List Int) × ((List Int) × (List Int))))) × Unit) × Unit) :=
  some ((c, ()), ())
def circuitBox83.A : Ann := { conds := [], blocks := [], loops := [], keeps := [1], orders := [] }
def circuitBox83.S : Sig := { f := 83, params := [.st (.pair (.int .i64) (.pair (.sl (.st (.pair (.int .i64) (.pair (.int .i64) (.pair (.int .i64) (.pair (.int .i64) (.int .i64))))))) (.pair (.sl (.int .i64)) (.pair (.sl (.int .i64)) (.sl (.int .i64))))))], objs := [], res := .fn 123 (.pair (.fp (.st (.pair (.int .i64) (.pair (.sl (.st (.pair (.int .i64) (.pair (.int .i64) (.pair (.int .i64) (.pair (.int .i64) (.int .i64))))))) (.pair (.sl (.int .i64)) (.pair (.sl (.int .i64)) (.sl (.int .i64)))))))) .unit), outs := [], fix := [], run := fun k ds os => circuitBox83 k ds }
def circuitBox83.G : List Sig := []
theorem circuitBox83.eq (k : Nat) : ∀ ds os, circuitBox83.S.run k ds os = runF ⟨types, circuitBox83.G, circuitBox83.A, k, 0, []⟩ Try.f83 (codeOf Try.f83) circuitBox83.S.params circuitBox83.S.objs circuitBox83.S.res circuitBox83.S.outs ds os := by
  intro ds os; kernel_rfl
theorem circuitBox83.dr : DrOk Try.prog circuitBox83.A (codeOf Try.f83) := ⟨by kernel_rfl, by kernel_rfl⟩
theorem circuitBox83.ok (k : Nat) : SoundAt Try.prog k circuitBox83.S :=
  runF_sound (X := ⟨types, circuitBox83.G, circuitBox83.A, k, 0, []⟩) types_ok (fun s hs => absurd hs List.not_mem_nil) (fn := Try.f83) (c := codeOf Try.f83) rfl (by kernel_rfl) rfl rfl circuitBox83.dr (circuitBox83.eq k)

def circuitBox1123 (k : Nat) (s : Int) (in_ : Int) (t2 : (Int × ((List (Int × (Int × (Int × (Int × Int))))) × ((List Int) × ((List Int) × (List Int)))))) : Option ((Int × (Int × Unit)) × Unit) :=
  (Stepped20 k t2 s in_).bind fun t10 =>
  some ((t10.1.1, t10.1.2.1, ()), ())
def circuitBox1123.A : Ann := { conds := [], blocks := [], loops := [], keeps := [], orders := [] }
def circuitBox1123.S : Sig := { f := 123, params := [.int .i64, .int .i64, .fp (.st (.pair (.int .i64) (.pair (.sl (.st (.pair (.int .i64) (.pair (.int .i64) (.pair (.int .i64) (.pair (.int .i64) (.int .i64))))))) (.pair (.sl (.int .i64)) (.pair (.sl (.int .i64)) (.sl (.int .i64)))))))], objs := [], res := .tup (.pair (.int .i64) (.pair (.int .i64) .unit)), outs := [], fix := [], run := fun k ds os => circuitBox1123 k ds.1 ds.2.1 ds.2.2 }
def circuitBox1123.G : List Sig := [Stepped20.S]
theorem circuitBox1123.eq (k : Nat) : ∀ ds os, circuitBox1123.S.run k ds os = runF ⟨types, circuitBox1123.G, circuitBox1123.A, k, 0, []⟩ Try.f123 (codeOf Try.f123) circuitBox1123.S.params circuitBox1123.S.objs circuitBox1123.S.res circuitBox1123.S.outs ds os := by
  intro ds os; kernel_rfl
theorem circuitBox1123.dr : DrOk Try.prog circuitBox1123.A (codeOf Try.f123) := ⟨by kernel_rfl, by kernel_rfl⟩
theorem circuitBox1123.ok (k : Nat) : SoundAt Try.prog k circuitBox1123.S :=
  runF_sound (X := ⟨types, circuitBox1123.G, circuitBox1123.A, k, 0, []⟩) types_ok (mem_all (⟨Stepped20.ok k, trivial⟩)) (fn := Try.f123) (c := codeOf Try.f123) rfl (by kernel_rfl) rfl rfl circuitBox1123.dr (circuitBox1123.eq k)
end Go.Proofs.Ytjbdhaenakcclaa.St

/- Go functions as plain Lean functions, and their contracts. -/
set_option linter.unusedVariables false
set_option maxRecDepth 100000
noncomputable section
namespace Go.Proofs.Ytjbdhaenakcclaa.St
open Go Go.Proofs.Ytjbdhaenakcclaa.Gp
def shortest82.l0 (k : Nat) (k_ : Int) (t62 : Int) : (((Int × ((List (Int × (Int × (Int × (Int × Int))))) × ((List Int) × ((List Int) × (List Int))))) × Unit) × (((Int × ((List (Int × (Int × (Int × (Int × Int))))) × ((List Int) × ((List Int) × (List Int))))) × Unit) × (Unit × (Unit × (Int × ((List (Int × Int)) × (List ((Int × Int) × Bool)))))))) → Option ((((Int × ((List (Int × (Int × (Int × (Int × Int))))) × ((List Int) × ((List Int) × (List Int))))) × Unit) × (((Int × ((List (Int × (Int × (Int × (Int × Int))))) × ((List Int) × ((List Int) × (List Int))))) × Unit) × (Unit × (Unit × (Int × ((List (Int × Int)) × (List ((Int × Int) × Bool)))))))) ⊕ (((Int × ((List (Int × (Int × (Int × (Int × Int))))) × ((List Int) × ((List Int) × (List Int))))) × Unit) × (((Int × ((List (Int × (Int × (Int × (Int × Int))))) × ((List Int) × ((List Int) × (List Int))))) × Unit) × (Unit × (Unit × ((List (Int × Int)) × (List ((Int × Int) × Bool))))))))
  | (a_2, b_2, _, _, t63, o0_1, o1_1) =>
    cond (decide (t63 < t62))
      ((rd o0_1 k_).bind fun _ =>
      (rd o0_1 k_).bind fun t72 =>
      (circuitBox1123 k t72.1 t63 a_2.1).bind fun t74 =>
      (rd o0_1 k_).bind fun _ =>
      (rd o0_1 k_).bind fun t83 =>
      (circuitBox1123 k t83.2 t63 b_2.1).bind fun t85 =>
      Option.bind
        (cond (!(Option.getD (α := Bool) (mget (.st (.pair (.int .i64) (.int .i64))) .bool o1_1 (t74.1.2.1, t85.1.2.1)) false))
          ((if room (List.length o0_1 + List.length [(t74.1.2.1, t85.1.2.1)]) 16 then some () else none).bind fun _ =>
          some (a_2, b_2, (), (), (o0_1 ++ [(t74.1.2.1, t85.1.2.1)]), (mput (.st (.pair (.int .i64) (.int .i64))) .bool o1_1 (t74.1.2.1, t85.1.2.1) true)))
          (some (a_2, b_2, (), (), o0_1, o1_1)) : Option (((Int × ((List (Int × (Int × (Int × (Int × Int))))) × ((List Int) × ((List Int) × (List Int))))) × Unit) × (((Int × ((List (Int × (Int × (Int × (Int × Int))))) × ((List Int) × ((List Int) × (List Int))))) × Unit) × (Unit × (Unit × ((List (Int × Int)) × (List ((Int × Int) × Bool)))))))) fun ((a_3, b_3, _, _, o0_2, o1_2) : (((Int × ((List (Int × (Int × (Int × (Int × Int))))) × ((List Int) × ((List Int) × (List Int))))) × Unit) × (((Int × ((List (Int × (Int × (Int × (Int × Int))))) × ((List Int) × ((List Int) × (List Int))))) × Unit) × (Unit × (Unit × ((List (Int × Int)) × (List ((Int × Int) × Bool)))))))) =>
      some (Sum.inl (a_3, b_3, (), (), (w64 (t63 + 1)), o0_2, o1_2)))
      (some (Sum.inr (a_2, b_2, (), (), o0_1, o1_1)))
def shortest82.l1 (k : Nat) (ins : Int) : (((Int × ((List (Int × (Int × (Int × (Int × Int))))) × ((List Int) × ((List Int) × (List Int))))) × Unit) × (((Int × ((List (Int × (Int × (Int × (Int × Int))))) × ((List Int) × ((List Int) × (List Int))))) × Unit) × (Unit × (Unit × (Int × ((List (Int × Int)) × (List ((Int × Int) × Bool)))))))) → Option ((((Int × ((List (Int × (Int × (Int × (Int × Int))))) × ((List Int) × ((List Int) × (List Int))))) × Unit) × (((Int × ((List (Int × (Int × (Int × (Int × Int))))) × ((List Int) × ((List Int) × (List Int))))) × Unit) × (Unit × (Unit × (Int × ((List (Int × Int)) × (List ((Int × Int) × Bool)))))))) ⊕ (((Int × ((List (Int × (Int × (Int × (Int × Int))))) × ((List Int) × ((List Int) × (List Int))))) × Unit) × (((Int × ((List (Int × (Int × (Int × (Int × Int))))) × ((List Int) × ((List Int) × (List Int))))) × Unit) × (Unit × (List (Int × Int))))))
  | (a_1, b_1, _, _, k_, o0, o1) =>
    cond (decide (k_ < (List.length o0 : Int)))
      ((if ins < 0 then none else some (shlI .i64 1 ins)).bind fun t62 =>
      Option.bind
        (loopN (shortest82.l0 k k_ t62) k (a_1, b_1, (), (), 0, o0, o1) : Option (((Int × ((List (Int × (Int × (Int × (Int × Int))))) × ((List Int) × ((List Int) × (List Int))))) × Unit) × (((Int × ((List (Int × (Int × (Int × (Int × Int))))) × ((List Int) × ((List Int) × (List Int))))) × Unit) × (Unit × (Unit × ((List (Int × Int)) × (List ((Int × Int) × Bool)))))))) fun ((a_4, b_4, _, _, o0_3, o1_3) : (((Int × ((List (Int × (Int × (Int × (Int × Int))))) × ((List Int) × ((List Int) × (List Int))))) × Unit) × (((Int × ((List (Int × (Int × (Int × (Int × Int))))) × ((List Int) × ((List Int) × (List Int))))) × Unit) × (Unit × (Unit × ((List (Int × Int)) × (List ((Int × Int) × Bool)))))))) =>
      some (Sum.inl (a_4, b_4, (), (), (w64 (k_ + 1)), o0_3, o1_3)))
      (some (Sum.inr (a_1, b_1, (), o0)))
def shortest82.l2 (k : Nat) (t111 : Int) : (((Int × ((List (Int × (Int × (Int × (Int × Int))))) × ((List Int) × ((List Int) × (List Int))))) × Unit) × (((Int × ((List (Int × (Int × (Int × (Int × Int))))) × ((List Int) × ((List Int) × (List Int))))) × Unit) × (Unit × (Unit × (Bool × ((Int × Int) × (Unit × (Int × ((List (Int × Int)) × (List ((Int × Int) × Int))))))))))) → Option ((((Int × ((List (Int × (Int × (Int × (Int × Int))))) × ((List Int) × ((List Int) × (List Int))))) × Unit) × (((Int × ((List (Int × (Int × (Int × (Int × Int))))) × ((List Int) × ((List Int) × (List Int))))) × Unit) × (Unit × (Unit × (Bool × ((Int × Int) × (Unit × (Int × ((List (Int × Int)) × (List ((Int × Int) × Int))))))))))) ⊕ (((Int × ((List (Int × (Int × (Int × (Int × Int))))) × ((List Int) × ((List Int) × (List Int))))) × Unit) × (((Int × ((List (Int × (Int × (Int × (Int × Int))))) × ((List Int) × ((List Int) × (List Int))))) × Unit) × (Unit × (Unit × (Bool × (Unit × ((List (Int × Int)) × (List ((Int × Int) × Int))))))))))
  | (a_8, b_8, _, _, changed_2, p, _, t112, o0_7, o1_6) =>
    cond (decide (t112 < t111))
      (Option.bind
        ((circuitBox1123 k p.1 t112 a_8.1).bind fun t120 =>
        (circuitBox1123 k p.2 t112 b_8.1).bind fun t128 =>
        Option.bind
          (cond (t120.1.1 == t128.1.1)
            (let t139 : (Option Int) := (mget (.st (.pair (.int .i64) (.int .i64))) (.int .i64) o1_6 (t120.1.2.1, t128.1.2.1))
            cond (!(Option.isSome t139))
              (some (Sum.inr (a_8, b_8, (), (), changed_2, p, (), o0_7, o1_6)))
              (some (Sum.inl (a_8, b_8, (), (), p, (w64 ((Option.getD (α := Int) t139 (0 : Int)) + 1)), (), o0_7, o1_6))))
            (some (Sum.inl (a_8, b_8, (), (), p, 1, (), o0_7, o1_6))) : Option ((((Int × ((List (Int × (Int × (Int × (Int × Int))))) × ((List Int) × ((List Int) × (List Int))))) × Unit) × (((Int × ((List (Int × (Int × (Int × (Int × Int))))) × ((List Int) × ((List Int) × (List Int))))) × Unit) × (Unit × (Unit × ((Int × Int) × (Int × (Unit × ((List (Int × Int)) × (List ((Int × Int) × Int)))))))))) ⊕ (((Int × ((List (Int × (Int × (Int × (Int × Int))))) × ((List Int) × ((List Int) × (List Int))))) × Unit) × (((Int × ((List (Int × (Int × (Int × (Int × Int))))) × ((List Int) × ((List Int) × (List Int))))) × Unit) × (Unit × (Unit × (Bool × ((Int × Int) × (Unit × ((List (Int × Int)) × (List ((Int × Int) × Int)))))))))))) (joined fun ((a_9, b_9, _, _, p_1, d, _, o0_8, o1_7) : (((Int × ((List (Int × (Int × (Int × (Int × Int))))) × ((List Int) × ((List Int) × (List Int))))) × Unit) × (((Int × ((List (Int × (Int × (Int × (Int × Int))))) × ((List Int) × ((List Int) × (List Int))))) × Unit) × (Unit × (Unit × ((Int × Int) × (Int × (Unit × ((List (Int × Int)) × (List ((Int × Int) × Int))))))))))) =>
          let t149 : (Option Int) := (mget (.st (.pair (.int .i64) (.int .i64))) (.int .i64) o1_7 p_1)
          Option.bind
            (cond (cond (!(Option.isSome t149)) true (decide (d < (Option.getD (α := Int) t149 (0 : Int)))))
              (some (a_9, b_9, (), (), true, p_1, (), o0_8, (mput (.st (.pair (.int .i64) (.int .i64))) (.int .i64) o1_7 p_1 d)))
              (some (a_9, b_9, (), (), changed_2, p_1, (), o0_8, o1_7)) : Option (((Int × ((List (Int × (Int × (Int × (Int × Int))))) × ((List Int) × ((List Int) × (List Int))))) × Unit) × (((Int × ((List (Int × (Int × (Int × (Int × Int))))) × ((List Int) × ((List Int) × (List Int))))) × Unit) × (Unit × (Unit × (Bool × ((Int × Int) × (Unit × ((List (Int × Int)) × (List ((Int × Int) × Int))))))))))) fun ((a_10, b_10, _, _, changed_3, p_2, _, o0_9, o1_8) : (((Int × ((List (Int × (Int × (Int × (Int × Int))))) × ((List Int) × ((List Int) × (List Int))))) × Unit) × (((Int × ((List (Int × (Int × (Int × (Int × Int))))) × ((List Int) × ((List Int) × (List Int))))) × Unit) × (Unit × (Unit × (Bool × ((Int × Int) × (Unit × ((List (Int × Int)) × (List ((Int × Int) × Int))))))))))) =>
          some (a_10, b_10, (), (), changed_3, p_2, (), o0_9, o1_8)) : Option (((Int × ((List (Int × (Int × (Int × (Int × Int))))) × ((List Int) × ((List Int) × (List Int))))) × Unit) × (((Int × ((List (Int × (Int × (Int × (Int × Int))))) × ((List Int) × ((List Int) × (List Int))))) × Unit) × (Unit × (Unit × (Bool × ((Int × Int) × (Unit × ((List (Int × Int)) × (List ((Int × Int) × Int))))))))))) fun ((a_11, b_11, _, _, changed_4, p_3, _, o0_10, o1_9) : (((Int × ((List (Int × (Int × (Int × (Int × Int))))) × ((List Int) × ((List Int) × (List Int))))) × Unit) × (((Int × ((List (Int × (Int × (Int × (Int × Int))))) × ((List Int) × ((List Int) × (List Int))))) × Unit) × (Unit × (Unit × (Bool × ((Int × Int) × (Unit × ((List (Int × Int)) × (List ((Int × Int) × Int))))))))))) =>
      some (Sum.inl (a_11, b_11, (), (), changed_4, p_3, (), (w64 (t112 + 1)), o0_10, o1_9)))
      (some (Sum.inr (a_8, b_8, (), (), changed_2, (), o0_7, o1_6)))
def shortest82.l3 (k : Nat) (ins : Int) (o0_5 : (List (Int × Int))) : (((Int × ((List (Int × (Int × (Int × (Int × Int))))) × ((List Int) × ((List Int) × (List Int))))) × Unit) × (((Int × ((List (Int × (Int × (Int × (Int × Int))))) × ((List Int) × ((List Int) × (List Int))))) × Unit) × (Unit × (Unit × (Bool × (Unit × (Int × ((List (Int × Int)) × (List ((Int × Int) × Int)))))))))) → Option ((((Int × ((List (Int × (Int × (Int × (Int × Int))))) × ((List Int) × ((List Int) × (List Int))))) × Unit) × (((Int × ((List (Int × (Int × (Int × (Int × Int))))) × ((List Int) × ((List Int) × (List Int))))) × Unit) × (Unit × (Unit × (Bool × (Unit × (Int × ((List (Int × Int)) × (List ((Int × Int) × Int)))))))))) ⊕ (((Int × ((List (Int × (Int × (Int × (Int × Int))))) × ((List Int) × ((List Int) × (List Int))))) × Unit) × (((Int × ((List (Int × (Int × (Int × (Int × Int))))) × ((List Int) × ((List Int) × (List Int))))) × Unit) × (Unit × (Unit × (Bool × ((List (Int × Int)) × (List ((Int × Int) × Int)))))))))
  | (a_7, b_7, _, _, changed_1, _, t106, o0_6, o1_5) =>
    cond (decide (t106 < (List.length o0_5 : Int)))
      ((rd o0_6 t106).bind fun _ =>
      (rd o0_6 t106).bind fun t109 =>
      (if ins < 0 then none else some (shlI .i64 1 ins)).bind fun t111 =>
      Option.bind
        (loopN (shortest82.l2 k t111) k (a_7, b_7, (), (), changed_1, t109, (), 0, o0_6, o1_5) : Option (((Int × ((List (Int × (Int × (Int × (Int × Int))))) × ((List Int) × ((List Int) × (List Int))))) × Unit) × (((Int × ((List (Int × (Int × (Int × (Int × Int))))) × ((List Int) × ((List Int) × (List Int))))) × Unit) × (Unit × (Unit × (Bool × (Unit × ((List (Int × Int)) × (List ((Int × Int) × Int)))))))))) fun ((a_12, b_12, _, _, changed_5, _, o0_11, o1_10) : (((Int × ((List (Int × (Int × (Int × (Int × Int))))) × ((List Int) × ((List Int) × (List Int))))) × Unit) × (((Int × ((List (Int × (Int × (Int × (Int × Int))))) × ((List Int) × ((List Int) × (List Int))))) × Unit) × (Unit × (Unit × (Bool × (Unit × ((List (Int × Int)) × (List ((Int × Int) × Int)))))))))) =>
      some (Sum.inl (a_12, b_12, (), (), changed_5, (), (w64 (t106 + 1)), o0_11, o1_10)))
      (some (Sum.inr (a_7, b_7, (), (), changed_1, o0_6, o1_5)))
def shortest82.l4 (k : Nat) (ins : Int) : (((Int × ((List (Int × (Int × (Int × (Int × Int))))) × ((List Int) × ((List Int) × (List Int))))) × Unit) × (((Int × ((List (Int × (Int × (Int × (Int × Int))))) × ((List Int) × ((List Int) × (List Int))))) × Unit) × (Unit × (Unit × (Bool × ((List (Int × Int)) × (List ((Int × Int) × Int)))))))) → Option ((((Int × ((List (Int × (Int × (Int × (Int × Int))))) × ((List Int) × ((List Int) × (List Int))))) × Unit) × (((Int × ((List (Int × (Int × (Int × (Int × Int))))) × ((List Int) × ((List Int) × (List Int))))) × Unit) × (Unit × (Unit × (Bool × ((List (Int × Int)) × (List ((Int × Int) × Int)))))))) ⊕ (((Int × ((List (Int × (Int × (Int × (Int × Int))))) × ((List Int) × ((List Int) × (List Int))))) × Unit) × (((Int × ((List (Int × (Int × (Int × (Int × Int))))) × ((List Int) × ((List Int) × (List Int))))) × Unit) × (Unit × (List ((Int × Int) × Int))))))
  | (a_6, b_6, _, _, changed, o0_5, o1_4) =>
    cond changed
      (Option.bind
        (loopN (shortest82.l3 k ins o0_5) k (a_6, b_6, (), (), false, (), 0, o0_5, o1_4) : Option (((Int × ((List (Int × (Int × (Int × (Int × Int))))) × ((List Int) × ((List Int) × (List Int))))) × Unit) × (((Int × ((List (Int × (Int × (Int × (Int × Int))))) × ((List Int) × ((List Int) × (List Int))))) × Unit) × (Unit × (Unit × (Bool × ((List (Int × Int)) × (List ((Int × Int) × Int))))))))) fun ((a_13, b_13, _, _, changed_6, o0_12, o1_11) : (((Int × ((List (Int × (Int × (Int × (Int × Int))))) × ((List Int) × ((List Int) × (List Int))))) × Unit) × (((Int × ((List (Int × (Int × (Int × (Int × Int))))) × ((List Int) × ((List Int) × (List Int))))) × Unit) × (Unit × (Unit × (Bool × ((List (Int × Int)) × (List ((Int × Int) × Int))))))))) =>
      some (Sum.inl (a_13, b_13, (), (), changed_6, o0_12, o1_11)))
      (some (Sum.inr (a_6, b_6, (), o1_4)))
def shortest82.l5 (k : Nat) (t176 : Int) : (((Int × ((List (Int × (Int × (Int × (Int × Int))))) × ((List Int) × ((List Int) × (List Int))))) × Unit) × (((Int × ((List (Int × (Int × (Int × (Int × Int))))) × ((List Int) × ((List Int) × (List Int))))) × Unit) × (Unit × (Unit × (Unit × (Int × ((List ((Int × Int) × Int)) × ((Int × Int) × (List Int))))))))) → Option ((((Int × ((List (Int × (Int × (Int × (Int × Int))))) × ((List Int) × ((List Int) × (List Int))))) × Unit) × (((Int × ((List (Int × (Int × (Int × (Int × Int))))) × ((List Int) × ((List Int) × (List Int))))) × Unit) × (Unit × (Unit × (Unit × (Int × ((List ((Int × Int) × Int)) × ((Int × Int) × (List Int))))))))) ⊕ ((((Int × ((List (Int × (Int × (Int × (Int × Int))))) × ((List Int) × ((List Int) × (List Int))))) × Unit) × (((Int × ((List (Int × (Int × (Int × (Int × Int))))) × ((List Int) × ((List Int) × (List Int))))) × Unit) × (Unit × (Unit × (Unit × ((List ((Int × Int) × Int)) × ((Int × Int) × (List Int)))))))) ⊕ ((((Int × ((List (Int × (Int × (Int × (Int × Int))))) × ((List Int) × ((List Int) × (List Int))))) × Unit) × (((Int × ((List (Int × (Int × (Int × (Int × Int))))) × ((List Int) × ((List Int) × (List Int))))) × Unit) × (Unit × (Unit × (Unit × ((List ((Int × Int) × Int)) × ((Int × Int) × (List Int)))))))) ⊕ (((List Int) × (Bool × Unit)) × Unit))))
  | (a_16, b_16, _, _, _, t177, o1_14, o2_1, o4_1) =>
    cond (decide (t177 < t176))
      ((circuitBox1123 k o2_1.1 t177 a_16.1).bind fun t185 =>
      (circuitBox1123 k o2_1.2 t177 b_16.1).bind fun t193 =>
      cond (cond (t185.1.1 != t193.1.1) ((Option.getD (α := Int) (mget (.st (.pair (.int .i64) (.int .i64))) (.int .i64) o1_14 o2_1) (0 : Int)) == 1) false)
        ((if room (List.length o4_1 + List.length ([t177] : List Int)) 8 then some () else none).bind fun _ =>
        some (Sum.inr (Sum.inr (Sum.inr (((o4_1 ++ ([t177] : List Int)), true, ()), ())))))
        (let t214 : (Option Int) := (mget (.st (.pair (.int .i64) (.int .i64))) (.int .i64) o1_14 (t185.1.2.1, t193.1.2.1))
        cond (cond (cond (t185.1.1 == t193.1.1) (Option.isSome t214) false) ((Option.getD (α := Int) t214 (0 : Int)) == (w64 ((Option.getD (α := Int) (mget (.st (.pair (.int .i64) (.int .i64))) (.int .i64) o1_14 o2_1) (0 : Int)) - 1))) false)
          ((if room (List.length o4_1 + List.length ([t177] : List Int)) 8 then some () else none).bind fun _ =>
          some (Sum.inr (Sum.inl (a_16, b_16, (), (), (), o1_14, (t185.1.2.1, t193.1.2.1), (o4_1 ++ ([t177] : List Int))))))
          (some (Sum.inl (a_16, b_16, (), (), (), (w64 (t177 + 1)), o1_14, o2_1, o4_1)))))
      (some (Sum.inr (Sum.inl (a_16, b_16, (), (), (), o1_14, o2_1, o4_1))))
def shortest82.l6 (k : Nat) (ins : Int) : (((Int × ((List (Int × (Int × (Int × (Int × Int))))) × ((List Int) × ((List Int) × (List Int))))) × Unit) × (((Int × ((List (Int × (Int × (Int × (Int × Int))))) × ((List Int) × ((List Int) × (List Int))))) × Unit) × (Unit × (Unit × (Unit × ((List ((Int × Int) × Int)) × ((Int × Int) × (List Int)))))))) → Option ((((Int × ((List (Int × (Int × (Int × (Int × Int))))) × ((List Int) × ((List Int) × (List Int))))) × Unit) × (((Int × ((List (Int × (Int × (Int × (Int × Int))))) × ((List Int) × ((List Int) × (List Int))))) × Unit) × (Unit × (Unit × (Unit × ((List ((Int × Int) × Int)) × ((Int × Int) × (List Int)))))))) ⊕ (((List Int) × (Bool × Unit)) × Unit))
  | (a_15, b_15, _, _, _, o1_13, o2, o4) =>
    (if ins < 0 then none else some (shlI .i64 1 ins)).bind fun t176 =>
    Option.bind
      (loopN (shortest82.l5 k t176) k (a_15, b_15, (), (), (), 0, o1_13, o2, o4) : Option ((((Int × ((List (Int × (Int × (Int × (Int × Int))))) × ((List Int) × ((List Int) × (List Int))))) × Unit) × (((Int × ((List (Int × (Int × (Int × (Int × Int))))) × ((List Int) × ((List Int) × (List Int))))) × Unit) × (Unit × (Unit × (Unit × ((List ((Int × Int) × Int)) × ((Int × Int) × (List Int)))))))) ⊕ ((((Int × ((List (Int × (Int × (Int × (Int × Int))))) × ((List Int) × ((List Int) × (List Int))))) × Unit) × (((Int × ((List (Int × (Int × (Int × (Int × Int))))) × ((List Int) × ((List Int) × (List Int))))) × Unit) × (Unit × (Unit × (Unit × ((List ((Int × Int) × Int)) × ((Int × Int) × (List Int)))))))) ⊕ (((List Int) × (Bool × Unit)) × Unit)))) (joined fun ((a_17, b_17, _, _, _, o1_15, o2_2, o4_2) : (((Int × ((List (Int × (Int × (Int × (Int × Int))))) × ((List Int) × ((List Int) × (List Int))))) × Unit) × (((Int × ((List (Int × (Int × (Int × (Int × Int))))) × ((List Int) × ((List Int) × (List Int))))) × Unit) × (Unit × (Unit × (Unit × ((List ((Int × Int) × Int)) × ((Int × Int) × (List Int))))))))) =>
      some (Sum.inl (a_17, b_17, (), (), (), o1_15, o2_2, o4_2)))
def shortest82 (k : Nat) (a : ((Int × ((List (Int × (Int × (Int × (Int × Int))))) × ((List Int) × ((List Int) × (List Int))))) × Unit)) (b : ((Int × ((List (Int × (Int × (Int × (Int × Int))))) × ((List Int) × ((List Int) × (List Int))))) × Unit)) (s : Int) (t : Int) (ins : Int) : Option (((List Int) × (Bool × Unit)) × Unit) :=
  Option.bind
    (loopN (shortest82.l1 k ins) k (a, b, (), (), 0, [(s, t)], (mput (.st (.pair (.int .i64) (.int .i64))) .bool ([] : (List ((Int × Int) × Bool))) (s, t) true)) : Option (((Int × ((List (Int × (Int × (Int × (Int × Int))))) × ((List Int) × ((List Int) × (List Int))))) × Unit) × (((Int × ((List (Int × (Int × (Int × (Int × Int))))) × ((List Int) × ((List Int) × (List Int))))) × Unit) × (Unit × (List (Int × Int)))))) fun ((a_5, b_5, _, o0_4) : (((Int × ((List (Int × (Int × (Int × (Int × Int))))) × ((List Int) × ((List Int) × (List Int))))) × Unit) × (((Int × ((List (Int × (Int × (Int × (Int × Int))))) × ((List Int) × ((List Int) × (List Int))))) × Unit) × (Unit × (List (Int × Int)))))) =>
  Option.bind
    (loopN (shortest82.l4 k ins) k (a_5, b_5, (), (), true, o0_4, ([] : (List ((Int × Int) × Int)))) : Option (((Int × ((List (Int × (Int × (Int × (Int × Int))))) × ((List Int) × ((List Int) × (List Int))))) × Unit) × (((Int × ((List (Int × (Int × (Int × (Int × Int))))) × ((List Int) × ((List Int) × (List Int))))) × Unit) × (Unit × (List ((Int × Int) × Int)))))) fun ((a_14, b_14, _, o1_12) : (((Int × ((List (Int × (Int × (Int × (Int × Int))))) × ((List Int) × ((List Int) × (List Int))))) × Unit) × (((Int × ((List (Int × (Int × (Int × (Int × Int))))) × ((List Int) × ((List Int) × (List Int))))) × Unit) × (Unit × (List ((Int × Int) × Int)))))) =>
  cond (!(Option.isSome (mget (.st (.pair (.int .i64) (.int .i64))) (.int .i64) o1_12 (s, t))))
    (some (([], false, ()), ()))
    (loopN (shortest82.l6 k ins) k (a_14, b_14, (), (), (), o1_12, (s, t), []))
def shortest82.A : Ann := { conds := [(6160397, ⟨[(0, .fn 123 (.pair (.fp (.st (.pair (.int .i64) (.pair (.sl (.st (.pair (.int .i64) (.pair (.int .i64) (.pair (.int .i64) (.pair (.int .i64) (.int .i64))))))) (.pair (.sl (.int .i64)) (.pair (.sl (.int .i64)) (.sl (.int .i64)))))))) .unit)), (1, .fn 123 (.pair (.fp (.st (.pair (.int .i64) (.pair (.sl (.st (.pair (.int .i64) (.pair (.int .i64) (.pair (.int .i64) (.pair (.int .i64) (.int .i64))))))) (.pair (.sl (.int .i64)) (.pair (.sl (.int .i64)) (.sl (.int .i64)))))))) .unit)), (12, .ms 0), (13, .mm 1)], [(0, .row (.st (.pair (.int .i64) (.int .i64)))), (1, .map (.st (.pair (.int .i64) (.int .i64))) .bool)], 2, [], 2495687119199326634196634439680⟩), (8716318, ⟨[(0, .fn 123 (.pair (.fp (.st (.pair (.int .i64) (.pair (.sl (.st (.pair (.int .i64) (.pair (.int .i64) (.pair (.int .i64) (.pair (.int .i64) (.int .i64))))))) (.pair (.sl (.int .i64)) (.pair (.sl (.int .i64)) (.sl (.int .i64)))))))) .unit)), (1, .fn 123 (.pair (.fp (.st (.pair (.int .i64) (.pair (.sl (.st (.pair (.int .i64) (.pair (.int .i64) (.pair (.int .i64) (.pair (.int .i64) (.int .i64))))))) (.pair (.sl (.int .i64)) (.pair (.sl (.int .i64)) (.sl (.int .i64)))))))) .unit)), (12, .ms 0), (21, .mm 1), (24, .fp (.st (.pair (.int .i64) (.int .i64)))), (30, .int .i64), (104, .ms 0)], [(0, .row (.st (.pair (.int .i64) (.int .i64)))), (1, .map (.st (.pair (.int .i64) (.int .i64))) (.int .i64))], 2, [], 89181202722639552504481217115717820374581248⟩), (10354723, ⟨[(0, .fn 123 (.pair (.fp (.st (.pair (.int .i64) (.pair (.sl (.st (.pair (.int .i64) (.pair (.int .i64) (.pair (.int .i64) (.pair (.int .i64) (.int .i64))))))) (.pair (.sl (.int .i64)) (.pair (.sl (.int .i64)) (.sl (.int .i64)))))))) .unit)), (1, .fn 123 (.pair (.fp (.st (.pair (.int .i64) (.pair (.sl (.st (.pair (.int .i64) (.pair (.int .i64) (.pair (.int .i64) (.pair (.int .i64) (.int .i64))))))) (.pair (.sl (.int .i64)) (.pair (.sl (.int .i64)) (.sl (.int .i64)))))))) .unit)), (12, .ms 0), (21, .mm 1), (22, .bool), (24, .fp (.st (.pair (.int .i64) (.int .i64)))), (104, .ms 0)], [(0, .row (.st (.pair (.int .i64) (.int .i64)))), (1, .map (.st (.pair (.int .i64) (.int .i64))) (.int .i64))], 2, [], 5115255730658160213712896914506990568795768094720⟩)], blocks := [(0, ⟨[(0, .fn 123 (.pair (.fp (.st (.pair (.int .i64) (.pair (.sl (.st (.pair (.int .i64) (.pair (.int .i64) (.pair (.int .i64) (.pair (.int .i64) (.int .i64))))))) (.pair (.sl (.int .i64)) (.pair (.sl (.int .i64)) (.sl (.int .i64)))))))) .unit)), (1, .fn 123 (.pair (.fp (.st (.pair (.int .i64) (.pair (.sl (.st (.pair (.int .i64) (.pair (.int .i64) (.pair (.int .i64) (.pair (.int .i64) (.int .i64))))))) (.pair (.sl (.int .i64)) (.pair (.sl (.int .i64)) (.sl (.int .i64)))))))) .unit)), (12, .ms 0)], [(0, .row (.st (.pair (.int .i64) (.int .i64))))], 1, [], 5070602400912881577189795942400⟩), (2, ⟨[(0, .fn 123 (.pair (.fp (.st (.pair (.int .i64) (.pair (.sl (.st (.pair (.int .i64) (.pair (.int .i64) (.pair (.int .i64) (.pair (.int .i64) (.int .i64))))))) (.pair (.sl (.int .i64)) (.pair (.sl (.int .i64)) (.sl (.int .i64)))))))) .unit)), (1, .fn 123 (.pair (.fp (.st (.pair (.int .i64) (.pair (.sl (.st (.pair (.int .i64) (.pair (.int .i64) (.pair (.int .i64) (.pair (.int .i64) (.int .i64))))))) (.pair (.sl (.int .i64)) (.pair (.sl (.int .i64)) (.sl (.int .i64)))))))) .unit)), (12, .ms 0), (13, .mm 1)], [(0, .row (.st (.pair (.int .i64) (.int .i64)))), (1, .map (.st (.pair (.int .i64) (.int .i64))) .bool)], 2, [], 5070602400903694233949960114176⟩), (4, ⟨[(0, .fn 123 (.pair (.fp (.st (.pair (.int .i64) (.pair (.sl (.st (.pair (.int .i64) (.pair (.int .i64) (.pair (.int .i64) (.pair (.int .i64) (.int .i64))))))) (.pair (.sl (.int .i64)) (.pair (.sl (.int .i64)) (.sl (.int .i64)))))))) .unit)), (1, .fn 123 (.pair (.fp (.st (.pair (.int .i64) (.pair (.sl (.st (.pair (.int .i64) (.pair (.int .i64) (.pair (.int .i64) (.pair (.int .i64) (.int .i64))))))) (.pair (.sl (.int .i64)) (.pair (.sl (.int .i64)) (.sl (.int .i64)))))))) .unit)), (21, .mm 1)], [(1, .map (.st (.pair (.int .i64) (.int .i64))) (.int .i64))], 2, [], 23384026197294446681117752521634693102555642200064⟩), (6, ⟨[(0, .fn 123 (.pair (.fp (.st (.pair (.int .i64) (.pair (.sl (.st (.pair (.int .i64) (.pair (.int .i64) (.pair (.int .i64) (.pair (.int .i64) (.int .i64))))))) (.pair (.sl (.int .i64)) (.pair (.sl (.int .i64)) (.sl (.int .i64)))))))) .unit)), (1, .fn 123 (.pair (.fp (.st (.pair (.int .i64) (.pair (.sl (.st (.pair (.int .i64) (.pair (.int .i64) (.pair (.int .i64) (.pair (.int .i64) (.int .i64))))))) (.pair (.sl (.int .i64)) (.pair (.sl (.int .i64)) (.sl (.int .i64)))))))) .unit)), (12, .ms 0), (21, .mm 1), (22, .bool)], [(0, .row (.st (.pair (.int .i64) (.int .i64)))), (1, .map (.st (.pair (.int .i64) (.int .i64))) (.int .i64))], 2, [], 23384026197294446610129318908853846618740262699008⟩), (8, ⟨[(0, .fn 123 (.pair (.fp (.st (.pair (.int .i64) (.pair (.sl (.st (.pair (.int .i64) (.pair (.int .i64) (.pair (.int .i64) (.pair (.int .i64) (.int .i64))))))) (.pair (.sl (.int .i64)) (.pair (.sl (.int .i64)) (.sl (.int .i64)))))))) .unit)), (1, .fn 123 (.pair (.fp (.st (.pair (.int .i64) (.pair (.sl (.st (.pair (.int .i64) (.pair (.int .i64) (.pair (.int .i64) (.pair (.int .i64) (.int .i64))))))) (.pair (.sl (.int .i64)) (.pair (.sl (.int .i64)) (.sl (.int .i64)))))))) .unit)), (12, .ms 0), (21, .mm 1), (22, .bool), (104, .ms 0)], [(0, .row (.st (.pair (.int .i64) (.int .i64)))), (1, .map (.st (.pair (.int .i64) (.int .i64))) (.int .i64))], 2, [], 11692013098647218153332620126902635626785461501952⟩), (9, ⟨[(0, .fn 123 (.pair (.fp (.st (.pair (.int .i64) (.pair (.sl (.st (.pair (.int .i64) (.pair (.int .i64) (.pair (.int .i64) (.pair (.int .i64) (.int .i64))))))) (.pair (.sl (.int .i64)) (.pair (.sl (.int .i64)) (.sl (.int .i64)))))))) .unit)), (1, .fn 123 (.pair (.fp (.st (.pair (.int .i64) (.pair (.sl (.st (.pair (.int .i64) (.pair (.int .i64) (.pair (.int .i64) (.pair (.int .i64) (.int .i64))))))) (.pair (.sl (.int .i64)) (.pair (.sl (.int .i64)) (.sl (.int .i64)))))))) .unit)), (12, .ms 0), (21, .mm 1), (22, .bool), (24, .fp (.st (.pair (.int .i64) (.int .i64)))), (104, .ms 0)], [(0, .row (.st (.pair (.int .i64) (.int .i64)))), (1, .map (.st (.pair (.int .i64) (.int .i64))) (.int .i64))], 2, [], 5846006549323590903627305191554617956672743669760⟩), (12, ⟨[(0, .fn 123 (.pair (.fp (.st (.pair (.int .i64) (.pair (.sl (.st (.pair (.int .i64) (.pair (.int .i64) (.pair (.int .i64) (.pair (.int .i64) (.int .i64))))))) (.pair (.sl (.int .i64)) (.pair (.sl (.int .i64)) (.sl (.int .i64)))))))) .unit)), (1, .fn 123 (.pair (.fp (.st (.pair (.int .i64) (.pair (.sl (.st (.pair (.int .i64) (.pair (.int .i64) (.pair (.int .i64) (.pair (.int .i64) (.int .i64))))))) (.pair (.sl (.int .i64)) (.pair (.sl (.int .i64)) (.sl (.int .i64)))))))) .unit)), (21, .mm 1), (35, .ptr 2 []), (38, .ms 4)], [(1, .map (.st (.pair (.int .i64) (.int .i64))) (.int .i64)), (2, .var (.st (.pair (.int .i64) (.int .i64)))), (4, .row (.int .i64))], 5, [], 883423532389192164600086807763223150618948570044020831108530804239633408⟩)], loops := [(4, ⟨[(0, .fn 123 (.pair (.fp (.st (.pair (.int .i64) (.pair (.sl (.st (.pair (.int .i64) (.pair (.int .i64) (.pair (.int .i64) (.pair (.int .i64) (.int .i64))))))) (.pair (.sl (.int .i64)) (.pair (.sl (.int .i64)) (.sl (.int .i64)))))))) .unit)), (1, .fn 123 (.pair (.fp (.st (.pair (.int .i64) (.pair (.sl (.st (.pair (.int .i64) (.pair (.int .i64) (.pair (.int .i64) (.pair (.int .i64) (.int .i64))))))) (.pair (.sl (.int .i64)) (.pair (.sl (.int .i64)) (.sl (.int .i64)))))))) .unit)), (12, .ms 0), (13, .mm 1), (14, .int .i64)], [(0, .row (.st (.pair (.int .i64) (.int .i64)))), (1, .map (.st (.pair (.int .i64) (.int .i64))) .bool)], 2, [], 5070602400912881577189795942400⟩), (7, ⟨[(0, .fn 123 (.pair (.fp (.st (.pair (.int .i64) (.pair (.sl (.st (.pair (.int .i64) (.pair (.int .i64) (.pair (.int .i64) (.pair (.int .i64) (.int .i64))))))) (.pair (.sl (.int .i64)) (.pair (.sl (.int .i64)) (.sl (.int .i64)))))))) .unit)), (1, .fn 123 (.pair (.fp (.st (.pair (.int .i64) (.pair (.sl (.st (.pair (.int .i64) (.pair (.int .i64) (.pair (.int .i64) (.pair (.int .i64) (.int .i64))))))) (.pair (.sl (.int .i64)) (.pair (.sl (.int .i64)) (.sl (.int .i64)))))))) .unit)), (12, .ms 0), (13, .mm 1), (63, .int .i64)], [(0, .row (.st (.pair (.int .i64) (.int .i64)))), (1, .map (.st (.pair (.int .i64) (.int .i64))) .bool)], 2, [], 5070602400903694233949960114176⟩), (18, ⟨[(0, .fn 123 (.pair (.fp (.st (.pair (.int .i64) (.pair (.sl (.st (.pair (.int .i64) (.pair (.int .i64) (.pair (.int .i64) (.pair (.int .i64) (.int .i64))))))) (.pair (.sl (.int .i64)) (.pair (.sl (.int .i64)) (.sl (.int .i64)))))))) .unit)), (1, .fn 123 (.pair (.fp (.st (.pair (.int .i64) (.pair (.sl (.st (.pair (.int .i64) (.pair (.int .i64) (.pair (.int .i64) (.pair (.int .i64) (.int .i64))))))) (.pair (.sl (.int .i64)) (.pair (.sl (.int .i64)) (.sl (.int .i64)))))))) .unit)), (12, .ms 0), (21, .mm 1), (22, .bool)], [(0, .row (.st (.pair (.int .i64) (.int .i64)))), (1, .map (.st (.pair (.int .i64) (.int .i64))) (.int .i64))], 2, [], 23384026197294446681117752521634693102555642200064⟩), (21, ⟨[(0, .fn 123 (.pair (.fp (.st (.pair (.int .i64) (.pair (.sl (.st (.pair (.int .i64) (.pair (.int .i64) (.pair (.int .i64) (.pair (.int .i64) (.int .i64))))))) (.pair (.sl (.int .i64)) (.pair (.sl (.int .i64)) (.sl (.int .i64)))))))) .unit)), (1, .fn 123 (.pair (.fp (.st (.pair (.int .i64) (.pair (.sl (.st (.pair (.int .i64) (.pair (.int .i64) (.pair (.int .i64) (.pair (.int .i64) (.int .i64))))))) (.pair (.sl (.int .i64)) (.pair (.sl (.int .i64)) (.sl (.int .i64)))))))) .unit)), (12, .ms 0), (21, .mm 1), (22, .bool), (104, .ms 0), (106, .int .i64)], [(0, .row (.st (.pair (.int .i64) (.int .i64)))), (1, .map (.st (.pair (.int .i64) (.int .i64))) (.int .i64))], 2, [], 23384026197294446610129318908853846618740262699008⟩), (24, ⟨[(0, .fn 123 (.pair (.fp (.st (.pair (.int .i64) (.pair (.sl (.st (.pair (.int .i64) (.pair (.int .i64) (.pair (.int .i64) (.pair (.int .i64) (.int .i64))))))) (.pair (.sl (.int .i64)) (.pair (.sl (.int .i64)) (.sl (.int .i64)))))))) .unit)), (1, .fn 123 (.pair (.fp (.st (.pair (.int .i64) (.pair (.sl (.st (.pair (.int .i64) (.pair (.int .i64) (.pair (.int .i64) (.pair (.int .i64) (.int .i64))))))) (.pair (.sl (.int .i64)) (.pair (.sl (.int .i64)) (.sl (.int .i64)))))))) .unit)), (12, .ms 0), (21, .mm 1), (22, .bool), (24, .fp (.st (.pair (.int .i64) (.int .i64)))), (104, .ms 0), (112, .int .i64)], [(0, .row (.st (.pair (.int .i64) (.int .i64)))), (1, .map (.st (.pair (.int .i64) (.int .i64))) (.int .i64))], 2, [], 11692013098647218153332620126902635626785461501952⟩), (43, ⟨[(0, .fn 123 (.pair (.fp (.st (.pair (.int .i64) (.pair (.sl (.st (.pair (.int .i64) (.pair (.int .i64) (.pair (.int .i64) (.pair (.int .i64) (.int .i64))))))) (.pair (.sl (.int .i64)) (.pair (.sl (.int .i64)) (.sl (.int .i64)))))))) .unit)), (1, .fn 123 (.pair (.fp (.st (.pair (.int .i64) (.pair (.sl (.st (.pair (.int .i64) (.pair (.int .i64) (.pair (.int .i64) (.pair (.int .i64) (.int .i64))))))) (.pair (.sl (.int .i64)) (.pair (.sl (.int .i64)) (.sl (.int .i64)))))))) .unit)), (21, .mm 1), (35, .ptr 2 []), (38, .ms 4)], [(1, .map (.st (.pair (.int .i64) (.int .i64))) (.int .i64)), (2, .var (.st (.pair (.int .i64) (.int .i64)))), (4, .row (.int .i64))], 5, [(4, .int .i64)], 883423532389192164743758264719400231090043603839362317072787596944346112⟩), (44, ⟨[(0, .fn 123 (.pair (.fp (.st (.pair (.int .i64) (.pair (.sl (.st (.pair (.int .i64) (.pair (.int .i64) (.pair (.int .i64) (.pair (.int .i64) (.int .i64))))))) (.pair (.sl (.int .i64)) (.pair (.sl (.int .i64)) (.sl (.int .i64)))))))) .unit)), (1, .fn 123 (.pair (.fp (.st (.pair (.int .i64) (.pair (.sl (.st (.pair (.int .i64) (.pair (.int .i64) (.pair (.int .i64) (.pair (.int .i64) (.int .i64))))))) (.pair (.sl (.int .i64)) (.pair (.sl (.int .i64)) (.sl (.int .i64)))))))) .unit)), (21, .mm 1), (35, .ptr 2 []), (38, .ms 4), (177, .int .i64)], [(1, .map (.st (.pair (.int .i64) (.int .i64))) (.int .i64)), (2, .var (.st (.pair (.int .i64) (.int .i64)))), (4, .row (.int .i64))], 5, [], 883423532389192164600086807763223150618948570044020831108530804239633408⟩)], keeps := [20, 24], orders := [] }
def shortest82.S : Sig := { f := 82, params := [.fn 123 (.pair (.fp (.st (.pair (.int .i64) (.pair (.sl (.st (.pair (.int .i64) (.pair (.int .i64) (.pair (.int .i64) (.pair (.int .i64) (.int .i64))))))) (.pair (.sl (.int .i64)) (.pair (.sl (.int .i64)) (.sl (.int .i64)))))))) .unit), .fn 123 (.pair (.fp (.st (.pair (.int .i64) (.pair (.sl (.st (.pair (.int .i64) (.pair (.int .i64) (.pair (.int .i64) (.pair (.int .i64) (.int .i64))))))) (.pair (.sl (.int .i64)) (.pair (.sl (.int .i64)) (.sl (.int .i64)))))))) .unit), .int .i64, .int .i64, .int .i64], objs := [], res := .tup (.pair (.sl (.int .i64)) (.pair .bool .unit)), outs := [], fix := [], run := fun k ds os => shortest82 k ds.1 ds.2.1 ds.2.2.1 ds.2.2.2.1 ds.2.2.2.2 }
def shortest82.G : List Sig := [circuitBox1123.S]
theorem shortest82.eq (k : Nat) : ∀ ds os, shortest82.S.run k ds os = runF ⟨types, shortest82.G, shortest82.A, k, 0, []⟩ Try.f82 (codeOf Try.f82) shortest82.S.params shortest82.S.objs shortest82.S.res shortest82.S.outs ds os := by
  intro ds os; kernel_rfl
theorem shortest82.dr : DrOk Try.prog shortest82.A (codeOf Try.f82) := ⟨by kernel_rfl, by kernel_rfl⟩
theorem shortest82.ok (k : Nat) : SoundAt Try.prog k shortest82.S :=
  runF_sound (X := ⟨types, shortest82.G, shortest82.A, k, 0, []⟩) types_ok (mem_all (⟨circuitBox1123.ok k, trivial⟩)) (fn := Try.f82) (c := codeOf Try.f82) rfl (by kernel_rfl) rfl rfl shortest82.dr (shortest82.eq k)
end Go.Proofs.Ytjbdhaenakcclaa.St

/- Go functions as plain Lean functions, and their contracts. -/
set_option linter.unusedVariables false
set_option maxRecDepth 100000
noncomputable section
namespace Go.Proofs.Ytjbdhaenakcclaa.St
open Go Go.Proofs.Ytjbdhaenakcclaa.Gp
def ToldCircuits34 (k : Nat) (a : (Int × ((List (Int × (Int × (Int × (Int × Int))))) × ((List Int) × ((List Int) × (List Int)))))) (b : (Int × ((List (Int × (Int × (Int × (Int × Int))))) × ((List Int) × ((List Int) × (List Int)))))) : Option (((List Int) × (Bool × Unit)) × Unit) :=
  (circuitBox83 k a).bind fun t7 =>
  (circuitBox83 k b).bind fun t9 =>
  (First37 k a).bind fun t11 =>
  (First37 k b).bind fun t13 =>
  (shortest82 k t7.1 t9.1 t11.1 t13.1 a.1).bind fun t16 =>
  some ((t16.1.1, t16.1.2.1, ()), ())
def ToldCircuits34.A : Ann := { conds := [], blocks := [], loops := [], keeps := [2, 3], orders := [(1, [(0, .strong), (2, .strong), (4, .strong), (6, .strong), (8, .strong), (9, .strong), (1, .eff true), (3, .eff true), (5, .eff true), (7, .eff true), (10, .eff true), (11, .strong), (12, .strong), (13, .strong), (14, .strong)])] }
def ToldCircuits34.S : Sig := { f := 34, params := [.st (.pair (.int .i64) (.pair (.sl (.st (.pair (.int .i64) (.pair (.int .i64) (.pair (.int .i64) (.pair (.int .i64) (.int .i64))))))) (.pair (.sl (.int .i64)) (.pair (.sl (.int .i64)) (.sl (.int .i64)))))), .st (.pair (.int .i64) (.pair (.sl (.st (.pair (.int .i64) (.pair (.int .i64) (.pair (.int .i64) (.pair (.int .i64) (.int .i64))))))) (.pair (.sl (.int .i64)) (.pair (.sl (.int .i64)) (.sl (.int .i64))))))], objs := [], res := .tup (.pair (.sl (.int .i64)) (.pair .bool .unit)), outs := [], fix := [], run := fun k ds os => ToldCircuits34 k ds.1 ds.2 }
def ToldCircuits34.G : List Sig := [First37.S, circuitBox83.S, shortest82.S]
theorem ToldCircuits34.eq (k : Nat) : ∀ ds os, ToldCircuits34.S.run k ds os = runF ⟨types, ToldCircuits34.G, ToldCircuits34.A, k, 0, []⟩ Try.f34 (codeOf Try.f34) ToldCircuits34.S.params ToldCircuits34.S.objs ToldCircuits34.S.res ToldCircuits34.S.outs ds os := by
  intro ds os; kernel_rfl
theorem ToldCircuits34.dr : DrOk Try.prog ToldCircuits34.A (codeOf Try.f34) := ⟨by kernel_rfl, by kernel_rfl⟩
theorem ToldCircuits34.ok (k : Nat) : SoundAt Try.prog k ToldCircuits34.S :=
  runF_sound (X := ⟨types, ToldCircuits34.G, ToldCircuits34.A, k, 0, []⟩) types_ok (mem_all (⟨First37.ok k, ⟨circuitBox83.ok k, ⟨shortest82.ok k, trivial⟩⟩⟩)) (fn := Try.f34) (c := codeOf Try.f34) rfl (by kernel_rfl) rfl rfl ToldCircuits34.dr (ToldCircuits34.eq k)

def Answered62.l0 (k : Nat) (in_ : (List Int)) : ((Int × ((List (Int × (Int × (Int × (Int × Int))))) × ((List Int) × ((List Int) × (List Int))))) × (Int × (Unit × (Int × (List Int))))) → Option (((Int × ((List (Int × (Int × (Int × (Int × Int))))) × ((List Int) × ((List Int) × (List Int))))) × (Int × (Unit × (Int × (List Int))))) ⊕ (Unit × (List Int)))
  | (c_1, s, _, t14, o1) =>
    cond (decide (t14 < (List.length in_ : Int)))
      ((rd in_ t14).bind fun t16 =>
      (Stepped20 k c_1 s t16).bind fun t22 =>
      (if room (List.length o1 + List.length ([t22.1.1] : List Int)) 8 then some () else none).bind fun _ =>
      some (Sum.inl (c_1, t22.1.2.1, (), (w64 (t14 + 1)), (o1 ++ ([t22.1.1] : List Int)))))
      (some (Sum.inr ((), o1)))
def Answered62 (k : Nat) (c : (Int × ((List (Int × (Int × (Int × (Int × Int))))) × ((List Int) × ((List Int) × (List Int)))))) (in_ : (List Int)) : Option ((List Int) × Unit) :=
  (First37 k c).bind fun t11 =>
  Option.bind
    (loopN (Answered62.l0 k in_) k (c, t11.1, (), 0, []) : Option (Unit × (List Int))) fun ((_, o1_1) : (Unit × (List Int))) =>
  some (o1_1, ())
def Answered62.A : Ann := { conds := [], blocks := [(0, ⟨[(6, .ms 1)], [(1, .row (.int .i64))], 2, [], 1073726304⟩)], loops := [(4, ⟨[(2, .fp (.st (.pair (.int .i64) (.pair (.sl (.st (.pair (.int .i64) (.pair (.int .i64) (.pair (.int .i64) (.pair (.int .i64) (.int .i64))))))) (.pair (.sl (.int .i64)) (.pair (.sl (.int .i64)) (.sl (.int .i64)))))))), (5, .int .i64), (6, .ms 1), (14, .int .i64)], [(1, .row (.int .i64))], 2, [(1, .int .i64)], 1073726304⟩)], keeps := [2], orders := [] }
def Answered62.S : Sig := { f := 62, params := [.st (.pair (.int .i64) (.pair (.sl (.st (.pair (.int .i64) (.pair (.int .i64) (.pair (.int .i64) (.pair (.int .i64) (.int .i64))))))) (.pair (.sl (.int .i64)) (.pair (.sl (.int .i64)) (.sl (.int .i64)))))), .sl (.int .i64)], objs := [], res := .sl (.int .i64), outs := [], fix := [], run := fun k ds os => Answered62 k ds.1 ds.2 }
def Answered62.G : List Sig := [First37.S, Stepped20.S]
theorem Answered62.eq (k : Nat) : ∀ ds os, Answered62.S.run k ds os = runF ⟨types, Answered62.G, Answered62.A, k, 0, []⟩ Try.f62 (codeOf Try.f62) Answered62.S.params Answered62.S.objs Answered62.S.res Answered62.S.outs ds os := by
  intro ds os; kernel_rfl
theorem Answered62.dr : DrOk Try.prog Answered62.A (codeOf Try.f62) := ⟨by kernel_rfl, by kernel_rfl⟩
theorem Answered62.ok (k : Nat) : SoundAt Try.prog k Answered62.S :=
  runF_sound (X := ⟨types, Answered62.G, Answered62.A, k, 0, []⟩) types_ok (mem_all (⟨First37.ok k, ⟨Stepped20.ok k, trivial⟩⟩)) (fn := Try.f62) (c := codeOf Try.f62) rfl (by kernel_rfl) rfl rfl Answered62.dr (Answered62.eq k)
end Go.Proofs.Ytjbdhaenakcclaa.St

/- Go functions as plain Lean functions, and their contracts. -/
set_option linter.unusedVariables false
set_option maxRecDepth 100000
noncomputable section
namespace Go.Proofs.Ytjbdhaenakcclaa.St
open Go Go.Proofs.Ytjbdhaenakcclaa.Gp
def Check65 (k : Nat) (a : (Int × ((List (Int × (Int × (Int × (Int × Int))))) × ((List Int) × ((List Int) × (List Int)))))) (t : (Int × (Int × (List (List (Int × Int)))))) : Option (Int × Unit) :=
  (Check18 k a).bind fun t8 =>
  cond (t8.1 != 0)
    (some (t8.1, ()))
    ((Check105 k t).bind fun t13 =>
    cond (t13.1 != 0)
      (some (t13.1, ()))
      (cond (cond (a.1 != t.1) true ((List.length a.2.2.1 : Int) != t.2.1))
        (some (8, ()))
        (some (0, ()))))
def Check65.A : Ann := { conds := [], blocks := [], loops := [], keeps := [2, 3], orders := [] }
def Check65.S : Sig := { f := 65, params := [.st (.pair (.int .i64) (.pair (.sl (.st (.pair (.int .i64) (.pair (.int .i64) (.pair (.int .i64) (.pair (.int .i64) (.int .i64))))))) (.pair (.sl (.int .i64)) (.pair (.sl (.int .i64)) (.sl (.int .i64)))))), .st (.pair (.int .i64) (.pair (.int .i64) (.sl (.sl (.st (.pair (.int .i64) (.int .i64)))))))], objs := [], res := .int .i64, outs := [], fix := [], run := fun k ds os => Check65 k ds.1 ds.2 }
def Check65.G : List Sig := [Check105.S, Check18.S]
theorem Check65.eq (k : Nat) : ∀ ds os, Check65.S.run k ds os = runF ⟨types, Check65.G, Check65.A, k, 0, []⟩ Try.f65 (codeOf Try.f65) Check65.S.params Check65.S.objs Check65.S.res Check65.S.outs ds os := by
  intro ds os; kernel_rfl
theorem Check65.dr : DrOk Try.prog Check65.A (codeOf Try.f65) := ⟨by kernel_rfl, by kernel_rfl⟩
theorem Check65.ok (k : Nat) : SoundAt Try.prog k Check65.S :=
  runF_sound (X := ⟨types, Check65.G, Check65.A, k, 0, []⟩) types_ok (mem_all (⟨Check105.ok k, ⟨Check18.ok k, trivial⟩⟩)) (fn := Try.f65) (c := codeOf Try.f65) rfl (by kernel_rfl) rfl rfl Check65.dr (Check65.eq k)

def step85 (k : Nat) (a : (Int × ((List (Int × (Int × (Int × (Int × Int))))) × ((List Int) × ((List Int) × (List Int)))))) (t : (Int × (Int × (List (List (Int × Int)))))) (p : (List Int)) (in_ : Int) : Option ((Int × (Int × ((List Int) × Unit))) × Unit) :=
  (rd p 0).bind fun t16 =>
  (Step16 k a t16 in_).bind fun t19 =>
  (rd p 1).bind fun t24 =>
  (rd t.2.2 t24).bind fun t26 =>
  (rd t26 in_).bind fun t29 =>
  some ((t19.1.1, t29.1, [t19.1.2.1, t29.2], ()), ())
def step85.A : Ann := { conds := [], blocks := [], loops := [], keeps := [4, 5, 6, 13], orders := [(3, [(0, .strong), (1, .strong), (2, .strong), (3, .strong), (4, .strong), (5, .strong), (6, .strong), (7, .strong), (8, .strong), (9, .eff false)])] }
def step85.S : Sig := { f := 85, params := [.st (.pair (.int .i64) (.pair (.sl (.st (.pair (.int .i64) (.pair (.int .i64) (.pair (.int .i64) (.pair (.int .i64) (.int .i64))))))) (.pair (.sl (.int .i64)) (.pair (.sl (.int .i64)) (.sl (.int .i64)))))), .st (.pair (.int .i64) (.pair (.int .i64) (.sl (.sl (.st (.pair (.int .i64) (.int .i64))))))), .arr 2 (.int .i64), .int .i64], objs := [], res := .tup (.pair (.int .i64) (.pair (.int .i64) (.pair (.arr 2 (.int .i64)) .unit))), outs := [], fix := [], run := fun k ds os => step85 k ds.1 ds.2.1 ds.2.2.1 ds.2.2.2 }
def step85.G : List Sig := [Step16.S]
theorem step85.eq (k : Nat) : ∀ ds os, step85.S.run k ds os = runF ⟨types, step85.G, step85.A, k, 0, []⟩ Try.f85 (codeOf Try.f85) step85.S.params step85.S.objs step85.S.res step85.S.outs ds os := by
  intro ds os; kernel_rfl
theorem step85.dr : DrOk Try.prog step85.A (codeOf Try.f85) := ⟨by kernel_rfl, by kernel_rfl⟩
theorem step85.ok (k : Nat) : SoundAt Try.prog k step85.S :=
  runF_sound (X := ⟨types, step85.G, step85.A, k, 0, []⟩) types_ok (mem_all (⟨Step16.ok k, trivial⟩)) (fn := Try.f85) (c := codeOf Try.f85) rfl (by kernel_rfl) rfl rfl step85.dr (step85.eq k)

def Clone81 (k : Nat) (s : (List Int)) : Option (Unit × (List Int)) :=
  orNil (List.length s)
    (cond true
      (some ((), []))
      ((if room (0 + List.length s) 8 then some () else none).bind fun _ =>
      some ((), s)))
    (cond false
      (some ((), []))
      ((if room (0 + List.length s) 8 then some () else none).bind fun _ =>
      some ((), s)))
def Clone81.A : Ann := { conds := [], blocks := [], loops := [], keeps := [], orders := [] }
def Clone81.S : Sig := { f := 81, params := [.sl (.int .i64)], objs := [], res := .ms 0, outs := [.row (.int .i64)], fix := [], run := fun k ds os => Clone81 k ds }
def Clone81.G : List Sig := []
theorem Clone81.eq (k : Nat) : ∀ ds os, Clone81.S.run k ds os = runF ⟨types, Clone81.G, Clone81.A, k, 0, []⟩ Try.f81 (codeOf Try.f81) Clone81.S.params Clone81.S.objs Clone81.S.res Clone81.S.outs ds os := by
  intro ds os; kernel_rfl
theorem Clone81.dr : DrOk Try.prog Clone81.A (codeOf Try.f81) := ⟨by kernel_rfl, by kernel_rfl⟩
theorem Clone81.ok (k : Nat) : SoundAt Try.prog k Clone81.S :=
  runF_sound (X := ⟨types, Clone81.G, Clone81.A, k, 0, []⟩) types_ok (fun s hs => absurd hs List.not_mem_nil) (fn := Try.f81) (c := codeOf Try.f81) rfl (by kernel_rfl) rfl rfl Clone81.dr (Clone81.eq k)

def Find63.l0 (k : Nat) (t43 : Int) : ((Int × ((List (Int × (Int × (Int × (Int × Int))))) × ((List Int) × ((List Int) × (List Int))))) × ((Int × (Int × (List (List (Int × Int))))) × (Unit × (Unit × ((List Int) × (Int × ((List ((List Int) × (List Int))) × (List (List Int))))))))) → Option (((Int × ((List (Int × (Int × (Int × (Int × Int))))) × ((List Int) × ((List Int) × (List Int))))) × ((Int × (Int × (List (List (Int × Int))))) × (Unit × (Unit × ((List Int) × (Int × ((List ((List Int) × (List Int))) × (List (List Int))))))))) ⊕ (((Int × ((List (Int × (Int × (Int × (Int × Int))))) × ((List Int) × ((List Int) × (List Int))))) × ((Int × (Int × (List (List (Int × Int))))) × (Unit × (Unit × ((List ((List Int) × (List Int))) × (List (List Int))))))) ⊕ (((Int × ((List (Int × (Int × (Int × (Int × Int))))) × ((List Int) × ((List Int) × (List Int))))) × ((Int × (Int × (List (List (Int × Int))))) × (Unit × (Unit × ((List ((List Int) × (List Int))) × (List (List Int))))))) ⊕ (Unit ⊕ (((List Int) × (Bool × (Int × Unit))) × Unit)))))
  | (a_2, t_2, _, _, p, t44, o1_1, o2_1) =>
    cond (decide (t44 < t43))
      ((step85 k a_2 t_2 p t44).bind fun t52 =>
      (Clone81 k (Option.getD (α := (List Int)) (mget (.arr 2 (.int .i64)) (.sl (.int .i64)) o1_1 p) [])).bind fun t59 =>
      (if room (List.length t59.2 + List.length ([t44] : List Int)) 8 then some () else none).bind fun _ =>
      let t62 : (List Int) := (t59.2 ++ ([t44] : List Int))
      cond (t52.1.1 != t52.1.2.1)
        (some (Sum.inr (Sum.inr (Sum.inr (Sum.inr ((t62, true, 0, ()), ()))))))
        (Option.bind
          (cond (!(Option.isSome (mget (.arr 2 (.int .i64)) (.sl (.int .i64)) o1_1 t52.1.2.2.1)))
            ((if room (List.length o2_1 + List.length [t52.1.2.2.1]) 16 then some () else none).bind fun _ =>
            some (a_2, t_2, (), (), p, (mput (.arr 2 (.int .i64)) (.sl (.int .i64)) o1_1 t52.1.2.2.1 t62), (o2_1 ++ [t52.1.2.2.1])))
            (some (a_2, t_2, (), (), p, o1_1, o2_1)) : Option ((Int × ((List (Int × (Int × (Int × (Int × Int))))) × ((List Int) × ((List Int) × (List Int))))) × ((Int × (Int × (List (List (Int × Int))))) × (Unit × (Unit × ((List Int) × ((List ((List Int) × (List Int))) × (List (List Int))))))))) fun ((a_3, t_3, _, _, p_1, o1_2, o2_2) : ((Int × ((List (Int × (Int × (Int × (Int × Int))))) × ((List Int) × ((List Int) × (List Int))))) × ((Int × (Int × (List (List (Int × Int))))) × (Unit × (Unit × ((List Int) × ((List ((List Int) × (List Int))) × (List (List Int))))))))) =>
        some (Sum.inl (a_3, t_3, (), (), p_1, (w64 (t44 + 1)), o1_2, o2_2))))
      (some (Sum.inr (Sum.inl (a_2, t_2, (), (), o1_1, o2_1))))
def Find63.l1 (k : Nat) : ((Int × ((List (Int × (Int × (Int × (Int × Int))))) × ((List Int) × ((List Int) × (List Int))))) × ((Int × (Int × (List (List (Int × Int))))) × (Unit × (Unit × ((List ((List Int) × (List Int))) × (List (List Int))))))) → Option (((Int × ((List (Int × (Int × (Int × (Int × Int))))) × ((List Int) × ((List Int) × (List Int))))) × ((Int × (Int × (List (List (Int × Int))))) × (Unit × (Unit × ((List ((List Int) × (List Int))) × (List (List Int))))))) ⊕ (Unit ⊕ (((List Int) × (Bool × (Int × Unit))) × Unit)))
  | (a_1, t_1, _, _, o1, o2) =>
    cond (decide ((List.length o2 : Int) > 0))
      ((rd o2 0).bind fun _ =>
      (rd o2 0).bind fun t38 =>
      (slc o2 1 (List.length o2 : Int)).bind fun t40 =>
      (if a_1.1 < 0 then none else some (shlI .i64 1 a_1.1)).bind fun t43 =>
      Option.bind
        (loopN (Find63.l0 k t43) k (a_1, t_1, (), (), t38, 0, o1, t40) : Option (((Int × ((List (Int × (Int × (Int × (Int × Int))))) × ((List Int) × ((List Int) × (List Int))))) × ((Int × (Int × (List (List (Int × Int))))) × (Unit × (Unit × ((List ((List Int) × (List Int))) × (List (List Int))))))) ⊕ (((Int × ((List (Int × (Int × (Int × (Int × Int))))) × ((List Int) × ((List Int) × (List Int))))) × ((Int × (Int × (List (List (Int × Int))))) × (Unit × (Unit × ((List ((List Int) × (List Int))) × (List (List Int))))))) ⊕ (Unit ⊕ (((List Int) × (Bool × (Int × Unit))) × Unit))))) (joined fun ((a_4, t_4, _, _, o1_3, o2_3) : ((Int × ((List (Int × (Int × (Int × (Int × Int))))) × ((List Int) × ((List Int) × (List Int))))) × ((Int × (Int × (List (List (Int × Int))))) × (Unit × (Unit × ((List ((List Int) × (List Int))) × (List (List Int)))))))) =>
        some (Sum.inl (a_4, t_4, (), (), o1_3, o2_3))))
      (some (Sum.inr (Sum.inl ())))
def Find63 (k : Nat) (a : (Int × ((List (Int × (Int × (Int × (Int × Int))))) × ((List Int) × ((List Int) × (List Int)))))) (t : (Int × (Int × (List (List (Int × Int)))))) : Option (((List Int) × (Bool × (Int × Unit))) × Unit) :=
  (Check65 k a t).bind fun t21 =>
  cond (t21.1 != 0)
    (some (([], false, t21.1, ()), ()))
    ((Start80 k a).bind fun t26 =>
    Option.bind
      (loopN (Find63.l1 k) k (a, t, (), (), (mput (.arr 2 (.int .i64)) (.sl (.int .i64)) ([] : (List ((List Int) × (List Int)))) ([t26.1, 0] : (List Int)) []), [[t26.1, 0]]) : Option (Unit ⊕ (((List Int) × (Bool × (Int × Unit))) × Unit))) (joined fun (_ : Unit) =>
      some (([], false, 0, ()), ())))
def Find63.A : Ann := { conds := [(4849683, ⟨[(2, .fp (.st (.pair (.int .i64) (.pair (.sl (.st (.pair (.int .i64) (.pair (.int .i64) (.pair (.int .i64) (.pair (.int .i64) (.int .i64))))))) (.pair (.sl (.int .i64)) (.pair (.sl (.int .i64)) (.sl (.int .i64)))))))), (3, .fp (.st (.pair (.int .i64) (.pair (.int .i64) (.sl (.sl (.st (.pair (.int .i64) (.int .i64))))))))), (9, .mm 1), (10, .ms 2), (11, .fp (.arr 2 (.int .i64)))], [(1, .map (.arr 2 (.int .i64)) (.sl (.int .i64))), (2, .row (.arr 2 (.int .i64)))], 3, [], 4797924346595559537116160⟩)], blocks := [(0, ⟨[], [], 0, [], 9671406556917024808238192⟩), (2, ⟨[(2, .fp (.st (.pair (.int .i64) (.pair (.sl (.st (.pair (.int .i64) (.pair (.int .i64) (.pair (.int .i64) (.pair (.int .i64) (.int .i64))))))) (.pair (.sl (.int .i64)) (.pair (.sl (.int .i64)) (.sl (.int .i64)))))))), (3, .fp (.st (.pair (.int .i64) (.pair (.int .i64) (.sl (.sl (.st (.pair (.int .i64) (.int .i64))))))))), (9, .mm 1), (10, .ms 2)], [(1, .map (.arr 2 (.int .i64)) (.sl (.int .i64))), (2, .row (.arr 2 (.int .i64)))], 3, [], 9671406556899441212126320⟩)], loops := [(7, ⟨[(2, .fp (.st (.pair (.int .i64) (.pair (.sl (.st (.pair (.int .i64) (.pair (.int .i64) (.pair (.int .i64) (.pair (.int .i64) (.int .i64))))))) (.pair (.sl (.int .i64)) (.pair (.sl (.int .i64)) (.sl (.int .i64)))))))), (3, .fp (.st (.pair (.int .i64) (.pair (.int .i64) (.sl (.sl (.st (.pair (.int .i64) (.int .i64))))))))), (9, .mm 1), (10, .ms 2)], [(1, .map (.arr 2 (.int .i64)) (.sl (.int .i64))), (2, .row (.arr 2 (.int .i64)))], 3, [], 9671406556917024808238192⟩), (11, ⟨[(2, .fp (.st (.pair (.int .i64) (.pair (.sl (.st (.pair (.int .i64) (.pair (.int .i64) (.pair (.int .i64) (.pair (.int .i64) (.int .i64))))))) (.pair (.sl (.int .i64)) (.pair (.sl (.int .i64)) (.sl (.int .i64)))))))), (3, .fp (.st (.pair (.int .i64) (.pair (.int .i64) (.sl (.sl (.st (.pair (.int .i64) (.int .i64))))))))), (9, .mm 1), (10, .ms 2), (11, .fp (.arr 2 (.int .i64))), (44, .int .i64)], [(1, .map (.arr 2 (.int .i64)) (.sl (.int .i64))), (2, .row (.arr 2 (.int .i64)))], 3, [], 9671406556899441212126320⟩)], keeps := [2, 3, 8, 11, 15], orders := [] }
def Find63.S : Sig := { f := 63, params := [.st (.pair (.int .i64) (.pair (.sl (.st (.pair (.int .i64) (.pair (.int .i64) (.pair (.int .i64) (.pair (.int .i64) (.int .i64))))))) (.pair (.sl (.int .i64)) (.pair (.sl (.int .i64)) (.sl (.int .i64)))))), .st (.pair (.int .i64) (.pair (.int .i64) (.sl (.sl (.st (.pair (.int .i64) (.int .i64)))))))], objs := [], res := .tup (.pair (.sl (.int .i64)) (.pair .bool (.pair (.int .i64) .unit))), outs := [], fix := [], run := fun k ds os => Find63 k ds.1 ds.2 }
def Find63.G : List Sig := [Check65.S, Clone81.S, Start80.S, step85.S]
theorem Find63.eq (k : Nat) : ∀ ds os, Find63.S.run k ds os = runF ⟨types, Find63.G, Find63.A, k, 0, []⟩ Try.f63 (codeOf Try.f63) Find63.S.params Find63.S.objs Find63.S.res Find63.S.outs ds os := by
  intro ds os; kernel_rfl
theorem Find63.dr : DrOk Try.prog Find63.A (codeOf Try.f63) := ⟨by kernel_rfl, by kernel_rfl⟩
theorem Find63.ok (k : Nat) : SoundAt Try.prog k Find63.S :=
  runF_sound (X := ⟨types, Find63.G, Find63.A, k, 0, []⟩) types_ok (mem_all (⟨Check65.ok k, ⟨Clone81.ok k, ⟨Start80.ok k, ⟨step85.ok k, trivial⟩⟩⟩⟩)) (fn := Try.f63) (c := codeOf Try.f63) rfl (by kernel_rfl) rfl rfl Find63.dr (Find63.eq k)

def same32 (k : Nat) : Option (Bool × Unit) :=
  (Find63 k (1, [(0, 0, 0, 0, 0)], ([0] : List Int), [], []) (1, 1, [[(0, 0), (1, 0)]])).bind fun t14 =>
  Option.bind (cond (cond (t14.1.2.2.1 == 0) t14.1.2.1 false)
    ((Equal25 k t14.1.1 ([1] : List Int)).bind fun t26 =>
    some t26.1)
    (some false)) fun t27 =>
  some (t27, ())
def same32.A : Ann := { conds := [], blocks := [], loops := [], keeps := [], orders := [] }
def same32.S : Sig := { f := 32, params := [], objs := [], res := .bool, outs := [], fix := [], run := fun k ds os => same32 k }
def same32.G : List Sig := [Equal25.S, Find63.S]
theorem same32.eq (k : Nat) : ∀ ds os, same32.S.run k ds os = runF ⟨types, same32.G, same32.A, k, 0, []⟩ Try.f32 (codeOf Try.f32) same32.S.params same32.S.objs same32.S.res same32.S.outs ds os := by
  intro ds os; kernel_rfl
theorem same32.dr : DrOk Try.prog same32.A (codeOf Try.f32) := ⟨by kernel_rfl, by kernel_rfl⟩
theorem same32.ok (k : Nat) : SoundAt Try.prog k same32.S :=
  runF_sound (X := ⟨types, same32.G, same32.A, k, 0, []⟩) types_ok (mem_all (⟨Equal25.ok k, ⟨Find63.ok k, trivial⟩⟩)) (fn := Try.f32) (c := codeOf Try.f32) rfl (by kernel_rfl) rfl rfl same32.dr (same32.eq k)
end Go.Proofs.Ytjbdhaenakcclaa.St
