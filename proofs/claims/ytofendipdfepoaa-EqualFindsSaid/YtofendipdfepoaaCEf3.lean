/- Merged texts of one claim: a Go law, its functions without memory, and the plain law. The law returns true for every input; conditions: as the row says. -/
import Derived.Test.YtofendipdfepoaaRows
import Derived.WalkKit
import Derived.Shelf.SlSortCmp.InsertionK
import Derived.Deep.RegionWith
import Derived.Shelf.SlSortCmp.NoneTotal
import Derived.Shelf.LaysM
import Derived.Test.YtofendipdfepoaaProg
import Derived.Test.YtofendipdfepoaaChecked
import Derived.KernelRfl
import Derived.Test.YtofendipdfepoaaCEf0
import Derived.Test.YtofendipdfepoaaCEf1
import Derived.Test.YtofendipdfepoaaCEf2
/- Go functions as plain Lean functions, and their contracts. -/
set_option linter.unusedVariables false
set_option maxRecDepth 100000
noncomputable section
namespace Go.Proofs.Ytofendipdfepoaa.Ef
open Go Go.Proofs.Ytofendipdfepoaa.Gp
def inputs139 (k : Nat) (kind : Int) : Option tY64 :=
  cond (cond (decide (kind < 0)) true (decide (kind ≥ 8)))
    (some ((-1), ()))
    ((rd ([0, 0, 0, 1, 2, 2, 2, 3] : List Int) kind).bind fun _ =>
    (rd ([0, 0, 0, 1, 2, 2, 2, 3] : List Int) kind).bind fun t12 =>
    some (t12, ()))
def inputs139.A : Ann := { conds := [], blocks := [], loops := [], keeps := [], orders := [] }
def inputs139.S : Sig := { f := 139, params := [.int .i64], objs := [], res := .int .i64, outs := [], fix := [], run := fun k ds os => inputs139 k ds }
def inputs139.G : List Sig := []
theorem inputs139.eq (k : Nat) : ∀ ds os, inputs139.S.run k ds os = runF ⟨types, inputs139.G, inputs139.A, k, 0, []⟩ Try.f139 (codeOf Try.f139) inputs139.S.params inputs139.S.objs inputs139.S.res inputs139.S.outs ds os := by
  intro ds os; kernel_rfl
theorem inputs139.dr : DrOk Try.prog inputs139.A (codeOf Try.f139) := ⟨by kernel_rfl, by kernel_rfl⟩
theorem inputs139.ok (k : Nat) : SoundAt Try.prog k inputs139.S :=
  runF_sound (X := ⟨types, inputs139.G, inputs139.A, k, 0, []⟩) types_ok (fun s hs => absurd hs List.not_mem_nil) (fn := Try.f139) (c := codeOf Try.f139) rfl (by kernel_rfl) rfl rfl inputs139.dr (inputs139.eq k)

def one116.l0 (k : Nat) (i : Int) (t13 : tY52) (t17 : tY64) : tY34 → Option (tY34 ⊕ tY35)
  | (c_1, g, _, t28, o1) =>
    cond (decide (t28 < (List.length ([t13.2.1, t13.2.2.1, t13.2.2.2.1] : List Int) : Int)))
      ((rd o1 t28).bind fun _ =>
      (rd o1 t28).bind fun t32 =>
      cond (cond (decide (t28 < t17.1)) (cond (decide (t32 < 0)) true (decide (t32 ≥ i))) false)
        (some (Sum.inr (Sum.inr (9, ()))))
        (cond (cond (decide (t28 ≥ t17.1)) (t32 != 0) false)
          (some (Sum.inr (Sum.inr (3, ()))))
          (some (Sum.inl (c_1, g, (), (w64 (t28 + 1)), o1)))))
      (some (Sum.inr (Sum.inl (c_1, g))))
def one116 (k : Nat) (c : tY44) (i : Int) : Option tY64 :=
  (rd c.2.1 i).bind fun t13 =>
  (inputs139 k t13.1).bind fun t17 =>
  cond (decide (t17.1 < 0))
    (some (1, ()))
    (Option.bind
      (loopN (one116.l0 k i t13 t17) k (c, t13, (), 0, ([t13.2.1, t13.2.2.1, t13.2.2.2.1] : List Int)) : Option tY35) (joined fun ((c_2, g_1) : tY38) =>
      (rd ([2, c_2.1, (List.length c_2.2.2.2.1 : Int), 1, 1, 1, 1, 1] : List Int) g_1.1).bind fun _ =>
      (rd ([2, c_2.1, (List.length c_2.2.2.2.1 : Int), 1, 1, 1, 1, 1] : List Int) g_1.1).bind fun t62 =>
      cond (cond (decide (g_1.2.2.2.2 < 0)) true (decide (g_1.2.2.2.2 ≥ t62)))
        (some (1, ()))
        (some (0, ()))))
def one116.A : Ann := { conds := [], blocks := [(0, ⟨[(2, .fp kY1), (5, .fp kY4)], [], 0, [], 9007198986305936⟩)], loops := [(6, ⟨[(2, .fp kY1), (5, .fp kY4), (26, .ms 1), (28, .int .i64)], [(1, .row kY14)], 2, [], 9007198986305936⟩)], keeps := [2, 5], orders := [] }
def one116.S : Sig := { f := 116, params := [.st kY2, .int .i64], objs := [], res := .int .i64, outs := [], fix := [], run := fun k ds os => one116 k ds.1 ds.2 }
def one116.G : List Sig := [inputs139.S]
theorem one116.eq (k : Nat) : ∀ ds os, one116.S.run k ds os = runF ⟨types, one116.G, one116.A, k, 0, []⟩ Try.f116 (codeOf Try.f116) one116.S.params one116.S.objs one116.S.res one116.S.outs ds os := by
  intro ds os; kernel_rfl
theorem one116.dr : DrOk Try.prog one116.A (codeOf Try.f116) := ⟨by kernel_rfl, by kernel_rfl⟩
theorem one116.ok (k : Nat) : SoundAt Try.prog k one116.S :=
  runF_sound (X := ⟨types, one116.G, one116.A, k, 0, []⟩) types_ok (mem_all (⟨inputs139.ok k, trivial⟩)) (fn := Try.f116) (c := codeOf Try.f116) rfl (by kernel_rfl) rfl rfl one116.dr (one116.eq k)

def Grow124 (k : Nat) (_ : Unit) (n : Int) : Option tY59 :=
  Option.bind
    (cond (decide (n < 0))
      (none)
      (some ()) : Option Unit) fun (_ : Unit) =>
  let t14 : Int := (w64 (n - (w64 (0 - 0))))
  Option.bind
    (cond (decide (t14 > 0))
      ((if (0 : Int) = 0 ∧ 0 = 0 then some () else none).bind fun _ =>
      (if 0 < t14 ∧ t14 * 8 ≤ 140737488355328 then some () else none).bind fun _ =>
      (slc (List.replicate (Int.toNat t14) 0) 0 0).bind fun t25 =>
      some ((), t25))
      (some ((), [])) : Option tY59) fun ((_, o0) : tY59) =>
  some ((), o0)
def Grow124.A : Ann := { conds := [(393218, ⟨[(0, .nil)], [], 0, [], 128⟩), (1048581, ⟨[(0, .ms 0)], [(0, .row kY14)], 1, [(0, .int .i64)], 66977793⟩)], blocks := [], loops := [], keeps := [], orders := [] }
def Grow124.S : Sig := { f := 124, params := [.nil, .int .i64], objs := [], res := .ms 0, outs := [.row kY14], fix := [], run := fun k ds os => Grow124 k ds.1 ds.2 }
def Grow124.G : List Sig := []
theorem Grow124.eq (k : Nat) : ∀ ds os, Grow124.S.run k ds os = runF ⟨types, Grow124.G, Grow124.A, k, 0, []⟩ Try.f124 (codeOf Try.f124) Grow124.S.params Grow124.S.objs Grow124.S.res Grow124.S.outs ds os := by
  intro ds os; kernel_rfl
theorem Grow124.dr : DrOk Try.prog Grow124.A (codeOf Try.f124) := ⟨by kernel_rfl, by kernel_rfl⟩
theorem Grow124.ok (k : Nat) : SoundAt Try.prog k Grow124.S :=
  runF_sound (X := ⟨types, Grow124.G, Grow124.A, k, 0, []⟩) types_ok (fun s hs => absurd hs List.not_mem_nil) (fn := Try.f124) (c := codeOf Try.f124) rfl (by kernel_rfl) rfl rfl Grow124.dr (Grow124.eq k)

def Concat109.l0 (k : Nat) (slices : tY63) : tY65 → Option tY60
  | (size, t11) =>
    cond (decide (t11 < (List.length slices : Int)))
      ((rd slices t11).bind fun t13 =>
      let t18 : Int := (w64 (size + (List.length t13 : Int)))
      Option.bind
        (cond (decide (t18 < 0))
          (none)
          (some ()) : Option Unit) fun (_ : Unit) =>
      some (Sum.inl (t18, (w64 (t11 + 1)))))
      (some (Sum.inr size))
def Concat109.l1 (k : Nat) (slices : tY63) : (Unit × (Int × tY66)) → Option tY47
  | (_, t27, o0) =>
    cond (decide (t27 < (List.length slices : Int)))
      ((rd slices t27).bind fun t29 =>
      (if room (List.length o0 + List.length t29) 8 then some () else none).bind fun _ =>
      some (Sum.inl ((), (w64 (t27 + 1)), (o0 ++ t29))))
      (some (Sum.inr ((), o0)))
def Concat109 (k : Nat) (slices : tY63) : Option tY61 :=
  Option.bind
    (loopN (Concat109.l0 k slices) k (0, 0) : Option Int) fun (size_1 : Int) =>
  (Grow124 k () size_1).bind fun t24 =>
  Option.bind
    (loopN (Concat109.l1 k slices) k ((), 0, t24.2) : Option tY59) fun ((_, o0_1) : tY59) =>
  some (o0_1, ())
def Concat109.A : Ann := { conds := [(1310727, ⟨[], [], 0, [], 2097152⟩)], blocks := [(0, ⟨[(3, .int .i64)], [], 0, [], 8386600⟩), (2, ⟨[(6, .ms 0)], [(0, .row kY14)], 1, [], 34225520960⟩)], loops := [(3, ⟨[(3, .int .i64), (11, .int .i64)], [], 0, [], 8386600⟩), (11, ⟨[(6, .ms 0), (27, .int .i64)], [(0, .row kY14)], 1, [], 34225520960⟩)], keeps := [], orders := [] }
def Concat109.S : Sig := { f := 109, params := [.sl kY13], objs := [], res := .sl kY14, outs := [], fix := [], run := fun k ds os => Concat109 k ds }
def Concat109.G : List Sig := [Grow124.S]
theorem Concat109.eq (k : Nat) : ∀ ds os, Concat109.S.run k ds os = runF ⟨types, Concat109.G, Concat109.A, k, 0, []⟩ Try.f109 (codeOf Try.f109) Concat109.S.params Concat109.S.objs Concat109.S.res Concat109.S.outs ds os := by
  intro ds os; kernel_rfl
theorem Concat109.dr : DrOk Try.prog Concat109.A (codeOf Try.f109) := ⟨by kernel_rfl, by kernel_rfl⟩
theorem Concat109.ok (k : Nat) : SoundAt Try.prog k Concat109.S :=
  runF_sound (X := ⟨types, Concat109.G, Concat109.A, k, 0, []⟩) types_ok (mem_all (⟨Grow124.ok k, trivial⟩)) (fn := Try.f109) (c := codeOf Try.f109) rfl (by kernel_rfl) rfl rfl Concat109.dr (Concat109.eq k)

def Check87.l0 (k : Nat) (c : tY44) : tY43 → Option tY21
  | (c_1, t45) =>
    cond (decide (t45 < (List.length c.2.1 : Int)))
      ((one116 k c_1 t45).bind fun t50 =>
      cond (t50.1 != 0)
        (some (Sum.inr (Sum.inr (t50.1, ()))))
        (some (Sum.inl (c_1, (w64 (t45 + 1))))))
      (some (Sum.inr (Sum.inl c_1)))
def Check87.l1 (k : Nat) (t60 : tY61) : tY43 → Option tY21
  | (c_3, t62) =>
    cond (decide (t62 < (List.length t60.1 : Int)))
      ((rd t60.1 t62).bind fun t64 =>
      cond (cond (decide (t64 < 0)) true (decide (t64 ≥ (List.length c_3.2.1 : Int))))
        (some (Sum.inr (Sum.inr (4, ()))))
        (some (Sum.inl (c_3, (w64 (t62 + 1))))))
      (some (Sum.inr (Sum.inl c_3)))
def Check87.l2 (k : Nat) (c_4 : tY44) : Int → Option (Int ⊕ tY58)
  | t79 =>
    cond (decide (t79 < (List.length c_4.2.2.2.2 : Int)))
      ((rd c_4.2.2.2.2 t79).bind fun t81 =>
      cond (cond (t81 != 0) (t81 != 1) false)
        (some (Sum.inr (Sum.inr (1, ()))))
        (some (Sum.inl (w64 (t79 + 1)))))
      (some (Sum.inr (Sum.inl ())))
def Check87 (k : Nat) (c : tY44) : Option tY64 :=
  cond (cond (cond (cond (cond (decide (c.1 < 0)) true (decide (c.1 > 10))) true (decide ((List.length c.2.1 : Int) > 400))) true (decide ((List.length c.2.2.1 : Int) > 10))) true (decide ((List.length c.2.2.2.1 : Int) > 10)))
    (some (2, ()))
    (cond ((List.length c.2.2.2.2 : Int) != (List.length c.2.2.2.1 : Int))
      (some (3, ()))
      (Option.bind
        (loopN (Check87.l0 k c) k (c, 0) : Option tY41) (joined fun (c_2 : tY44) =>
        (Concat109 k [c_2.2.2.1, c_2.2.2.2.1]).bind fun t60 =>
        Option.bind
          (loopN (Check87.l1 k t60) k (c_2, 0) : Option tY41) (joined fun (c_4 : tY44) =>
          Option.bind
            (loopN (Check87.l2 k c_4) k 0 : Option tY58) (joined fun (_ : Unit) =>
            some (0, ()))))))
def Check87.A : Ann := { conds := [], blocks := [(0, ⟨[(1, .fp kY1)], [], 0, [], 35993612646875164⟩), (2, ⟨[(1, .fp kY1)], [], 0, [], 75553252039895896031300⟩), (4, ⟨[], [], 0, [], 1237335576375572960311771396⟩)], loops := [(6, ⟨[(1, .fp kY1), (45, .int .i64)], [], 0, [], 35993612646875164⟩), (13, ⟨[(1, .fp kY1), (62, .int .i64)], [], 0, [], 75553252039895896031300⟩), (19, ⟨[(79, .int .i64)], [], 0, [], 1237335576375572960311771396⟩)], keeps := [1], orders := [] }
def Check87.S : Sig := { f := 87, params := [.st kY2], objs := [], res := .int .i64, outs := [], fix := [], run := fun k ds os => Check87 k ds }
def Check87.G : List Sig := [Concat109.S, one116.S]
theorem Check87.eq (k : Nat) : ∀ ds os, Check87.S.run k ds os = runF ⟨types, Check87.G, Check87.A, k, 0, []⟩ Try.f87 (codeOf Try.f87) Check87.S.params Check87.S.objs Check87.S.res Check87.S.outs ds os := by
  intro ds os; kernel_rfl
theorem Check87.dr : DrOk Try.prog Check87.A (codeOf Try.f87) := ⟨by kernel_rfl, by kernel_rfl⟩
theorem Check87.ok (k : Nat) : SoundAt Try.prog k Check87.S :=
  runF_sound (X := ⟨types, Check87.G, Check87.A, k, 0, []⟩) types_ok (mem_all (⟨Concat109.ok k, ⟨one116.ok k, trivial⟩⟩)) (fn := Try.f87) (c := codeOf Try.f87) rfl (by kernel_rfl) rfl rfl Check87.dr (Check87.eq k)
end Go.Proofs.Ytofendipdfepoaa.Ef

/- Go functions as plain Lean functions, and their contracts. -/
set_option linter.unusedVariables false
set_option maxRecDepth 100000
noncomputable section
namespace Go.Proofs.Ytofendipdfepoaa.Ef
open Go Go.Proofs.Ytofendipdfepoaa.Gp
def Check13.l0 (k : Nat) (t40 : tY62) : tY48 → Option tY32
  | (t_2, t50) =>
    cond (decide (t50 < (List.length t40 : Int)))
      ((rd t40 t50).bind fun t52 =>
      Option.bind (cond (decide (t52.1 < 0))
        (some true)
        ((if t_2.2.1 < 0 then none else some (shlI .i64 1 t_2.2.1)).bind fun t62 =>
        some (decide (t52.1 ≥ t62)))) fun t64 =>
      cond t64
        (some (Sum.inr (Sum.inr (Sum.inr (Sum.inr (1, ()))))))
        (cond (cond (decide (t52.2 < 0)) true (decide (t52.2 ≥ (List.length t_2.2.2 : Int))))
          (some (Sum.inr (Sum.inr (Sum.inr (Sum.inr (4, ()))))))
          (some (Sum.inl (t_2, (w64 (t50 + 1)))))))
      (some (Sum.inr (Sum.inl t_2)))
def Check13.l1 (k : Nat) (t : tY50) : tY48 → Option tY45
  | (t_1, t38) =>
    cond (decide (t38 < (List.length t.2.2 : Int)))
      ((rd t.2.2 t38).bind fun t40 =>
      (if t_1.1 < 0 then none else some (shlI .i64 1 t_1.1)).bind fun t46 =>
      cond ((List.length t40 : Int) != t46)
        (some (Sum.inr (Sum.inr (3, ()))))
        (Option.bind
          (loopN (Check13.l0 k t40) k (t_1, 0) : Option tY40) (joined fun (t_3 : tY50) =>
          some (Sum.inl (t_3, (w64 (t38 + 1)))))))
      (some (Sum.inr (Sum.inl ())))
def Check13 (k : Nat) (t : tY50) : Option tY64 :=
  cond (cond (cond (cond (cond (decide (t.1 < 0)) true (decide (t.1 > 4))) true (decide (t.2.1 < 0))) true (decide (t.2.1 > 10))) true (decide ((List.length t.2.2 : Int) > 64)))
    (some (2, ()))
    (cond ((List.length t.2.2 : Int) == 0)
      (some (13, ()))
      (Option.bind
        (loopN (Check13.l1 k t) k (t, 0) : Option tY58) (joined fun (_ : Unit) =>
        some (0, ()))))
def Check13.A : Ann := { conds := [], blocks := [(0, ⟨[], [], 0, [], 302231454903382415769684⟩), (2, ⟨[(1, .fp kY5)], [], 0, [], 151115726325928739995716⟩)], loops := [(6, ⟨[(1, .fp kY5), (38, .int .i64)], [], 0, [], 302231454903382415769684⟩), (11, ⟨[(1, .fp kY5), (50, .int .i64)], [], 0, [], 151115726325928739995716⟩)], keeps := [1, 6], orders := [(13, [(0, .strong), (1, .strong), (2, .strong), (3, .strong), (4, .strong), (5, .strong), (6, .strong), (7, .strong), (8, .strong), (9, .strong), (10, .strong)])] }
def Check13.S : Sig := { f := 13, params := [.st kY7], objs := [], res := .int .i64, outs := [], fix := [], run := fun k ds os => Check13 k ds }
def Check13.G : List Sig := []
theorem Check13.eq (k : Nat) : ∀ ds os, Check13.S.run k ds os = runF ⟨types, Check13.G, Check13.A, k, 0, []⟩ Try.f13 (codeOf Try.f13) Check13.S.params Check13.S.objs Check13.S.res Check13.S.outs ds os := by
  intro ds os; kernel_rfl
theorem Check13.dr : DrOk Try.prog Check13.A (codeOf Try.f13) := ⟨by kernel_rfl, by kernel_rfl⟩
theorem Check13.ok (k : Nat) : SoundAt Try.prog k Check13.S :=
  runF_sound (X := ⟨types, Check13.G, Check13.A, k, 0, []⟩) types_ok (fun s hs => absurd hs List.not_mem_nil) (fn := Try.f13) (c := codeOf Try.f13) rfl (by kernel_rfl) rfl rfl Check13.dr (Check13.eq k)

def Check47 (k : Nat) (a : tY44) (t : tY50) : Option tY64 :=
  (Check87 k a).bind fun t8 =>
  cond (t8.1 != 0)
    (some (t8.1, ()))
    ((Check13 k t).bind fun t13 =>
    cond (t13.1 != 0)
      (some (t13.1, ()))
      (cond (cond (a.1 != t.1) true ((List.length a.2.2.1 : Int) != t.2.1))
        (some (8, ()))
        (some (0, ()))))
def Check47.A : Ann := { conds := [], blocks := [], loops := [], keeps := [2, 3], orders := [] }
def Check47.S : Sig := { f := 47, params := [.st kY2, .st kY7], objs := [], res := .int .i64, outs := [], fix := [], run := fun k ds os => Check47 k ds.1 ds.2 }
def Check47.G : List Sig := [Check13.S, Check87.S]
theorem Check47.eq (k : Nat) : ∀ ds os, Check47.S.run k ds os = runF ⟨types, Check47.G, Check47.A, k, 0, []⟩ Try.f47 (codeOf Try.f47) Check47.S.params Check47.S.objs Check47.S.res Check47.S.outs ds os := by
  intro ds os; kernel_rfl
theorem Check47.dr : DrOk Try.prog Check47.A (codeOf Try.f47) := ⟨by kernel_rfl, by kernel_rfl⟩
theorem Check47.ok (k : Nat) : SoundAt Try.prog k Check47.S :=
  runF_sound (X := ⟨types, Check47.G, Check47.A, k, 0, []⟩) types_ok (mem_all (⟨Check13.ok k, ⟨Check87.ok k, trivial⟩⟩)) (fn := Try.f47) (c := codeOf Try.f47) rfl (by kernel_rfl) rfl rfl Check47.dr (Check47.eq k)

def Start82.l0 (k : Nat) (t12 : tY66) : tY65 → Option tY60
  | (out, t14) =>
    cond (decide (t14 < (List.length t12 : Int)))
      ((rd t12 t14).bind fun t17 =>
      (if t14 < 0 then none else some (shlI .i64 (ibits .and .i64 t17 1) t14)).bind fun t23 =>
      some (Sum.inl ((ibits .or .i64 out t23), (w64 (t14 + 1)))))
      (some (Sum.inr out))
def Start82 (k : Nat) (c : tY44) : Option tY64 :=
  (slc c.2.2.2.2 0 (mnI (List.length c.2.2.2.2 : Int) 10)).bind fun t12 =>
  Option.bind
    (loopN (Start82.l0 k t12) k (0, 0) : Option Int) fun (out_1 : Int) =>
  some (out_1, ())
def Start82.A : Ann := { conds := [], blocks := [(0, ⟨[(3, .int .i64)], [], 0, [], 67092536⟩)], loops := [(3, ⟨[(3, .int .i64), (14, .int .i64)], [], 0, [], 67092536⟩)], keeps := [1], orders := [] }
def Start82.S : Sig := { f := 82, params := [.st kY2], objs := [], res := .int .i64, outs := [], fix := [], run := fun k ds os => Start82 k ds }
def Start82.G : List Sig := []
theorem Start82.eq (k : Nat) : ∀ ds os, Start82.S.run k ds os = runF ⟨types, Start82.G, Start82.A, k, 0, []⟩ Try.f82 (codeOf Try.f82) Start82.S.params Start82.S.objs Start82.S.res Start82.S.outs ds os := by
  intro ds os; kernel_rfl
theorem Start82.dr : DrOk Try.prog Start82.A (codeOf Try.f82) := ⟨by kernel_rfl, by kernel_rfl⟩
theorem Start82.ok (k : Nat) : SoundAt Try.prog k Start82.S :=
  runF_sound (X := ⟨types, Start82.G, Start82.A, k, 0, []⟩) types_ok (fun s hs => absurd hs List.not_mem_nil) (fn := Try.f82) (c := codeOf Try.f82) rfl (by kernel_rfl) rfl rfl Start82.dr (Start82.eq k)
end Go.Proofs.Ytofendipdfepoaa.Ef

/- Go functions as plain Lean functions, and their contracts. -/
set_option linter.unusedVariables false
set_option maxRecDepth 100000
noncomputable section
namespace Go.Proofs.Ytofendipdfepoaa.Ef
open Go Go.Proofs.Ytofendipdfepoaa.Gp
def values127.l0 (k : Nat) (c : tY44) (state : Int) (in_ : Int) : (Unit × (Int × tY66)) → Option tY47
  | (_, t17, t13) =>
    cond (decide (t17 < (List.length c.2.1 : Int)))
      ((rd c.2.1 t17).bind fun t20 =>
      Option.bind
        (cond (t20.1 == 0)
          ((rd t13 t17).bind fun _ =>
          (rd t13 t17).bind fun _ =>
          some ((), (List.set t13 (Int.toNat t17) t20.2.2.2.2)))
          (Option.bind
            (cond (t20.1 == 1)
              ((if t20.2.2.2.2 < 0 then none else some (shrI .i64 in_ t20.2.2.2.2)).bind fun t38 =>
              (rd t13 t17).bind fun _ =>
              (rd t13 t17).bind fun _ =>
              some ((), (List.set t13 (Int.toNat t17) (ibits .and .i64 t38 1))))
              (Option.bind
                (cond (t20.1 == 2)
                  ((if t20.2.2.2.2 < 0 then none else some (shrI .i64 state t20.2.2.2.2)).bind fun t48 =>
                  (rd t13 t17).bind fun _ =>
                  (rd t13 t17).bind fun _ =>
                  some ((), (List.set t13 (Int.toNat t17) (ibits .and .i64 t48 1))))
                  (Option.bind
                    (cond (t20.1 == 3)
                      ((rd t13 t20.2.1).bind fun _ =>
                      (rd t13 t20.2.1).bind fun t59 =>
                      (rd t13 t17).bind fun _ =>
                      (rd t13 t17).bind fun _ =>
                      some ((), (List.set t13 (Int.toNat t17) (w64 (1 - t59)))))
                      (Option.bind
                        (cond (t20.1 == 4)
                          ((rd t13 t20.2.1).bind fun _ =>
                          (rd t13 t20.2.1).bind fun t70 =>
                          (rd t13 t20.2.2.1).bind fun _ =>
                          (rd t13 t20.2.2.1).bind fun t75 =>
                          (rd t13 t17).bind fun _ =>
                          (rd t13 t17).bind fun _ =>
                          some ((), (List.set t13 (Int.toNat t17) (ibits .and .i64 t70 t75))))
                          (Option.bind
                            (cond (t20.1 == 5)
                              ((rd t13 t20.2.1).bind fun _ =>
                              (rd t13 t20.2.1).bind fun t86 =>
                              (rd t13 t20.2.2.1).bind fun _ =>
                              (rd t13 t20.2.2.1).bind fun t91 =>
                              (rd t13 t17).bind fun _ =>
                              (rd t13 t17).bind fun _ =>
                              some ((), (List.set t13 (Int.toNat t17) (ibits .or .i64 t86 t91))))
                              (Option.bind
                                (cond (t20.1 == 6)
                                  ((rd t13 t20.2.1).bind fun _ =>
                                  (rd t13 t20.2.1).bind fun t102 =>
                                  (rd t13 t20.2.2.1).bind fun _ =>
                                  (rd t13 t20.2.2.1).bind fun t107 =>
                                  (rd t13 t17).bind fun _ =>
                                  (rd t13 t17).bind fun _ =>
                                  some ((), (List.set t13 (Int.toNat t17) (ibits .xor .i64 t102 t107))))
                                  (Option.bind
                                    (cond (t20.1 == 7)
                                      ((rd t13 t20.2.2.2.1).bind fun _ =>
                                      (rd t13 t20.2.2.2.1).bind fun t118 =>
                                      (rd t13 t17).bind fun _ =>
                                      (rd t13 t17).bind fun _ =>
                                      let t13_8 : tY66 := (List.set t13 (Int.toNat t17) t118)
                                      (rd t13_8 t20.2.1).bind fun _ =>
                                      (rd t13_8 t20.2.1).bind fun t124 =>
                                      Option.bind
                                        (cond (t124 == 1)
                                          ((rd t13_8 t20.2.2.1).bind fun _ =>
                                          (rd t13_8 t20.2.2.1).bind fun t132 =>
                                          (rd t13_8 t17).bind fun _ =>
                                          (rd t13_8 t17).bind fun _ =>
                                          some ((), (List.set t13_8 (Int.toNat t17) t132)))
                                          (some ((), t13_8)) : Option tY59) fun ((_, t13_10) : tY59) =>
                                      some ((), t13_10))
                                      (some ((), t13)) : Option tY59) fun ((_, t13_11) : tY59) =>
                                  some ((), t13_11)) : Option tY59) fun ((_, t13_12) : tY59) =>
                              some ((), t13_12)) : Option tY59) fun ((_, t13_13) : tY59) =>
                          some ((), t13_13)) : Option tY59) fun ((_, t13_14) : tY59) =>
                      some ((), t13_14)) : Option tY59) fun ((_, t13_15) : tY59) =>
                  some ((), t13_15)) : Option tY59) fun ((_, t13_16) : tY59) =>
              some ((), t13_16)) : Option tY59) fun ((_, t13_17) : tY59) =>
          some ((), t13_17)) : Option tY59) fun ((_, t13_18) : tY59) =>
      some (Sum.inl ((), (w64 (t17 + 1)), t13_18)))
      (some (Sum.inr ((), t13)))
def values127 (k : Nat) (c : tY44) (state : Int) (in_ : Int) : Option tY61 :=
  (if 0 ≤ (List.length c.2.1 : Int) ∧ (List.length c.2.1 : Int) ≤ (List.length c.2.1 : Int) ∧ (List.length c.2.1 : Int) * 8 ≤ 140737488355328 then some () else none).bind fun _ =>
  Option.bind
    (loopN (values127.l0 k c state in_) k ((), 0, (List.replicate (Int.toNat (List.length c.2.1 : Int)) 0)) : Option tY59) fun ((_, t13_19) : tY59) =>
  some (t13_19, ())
def values127.A : Ann := { conds := [(1572871, ⟨[(7, .ms 0)], [(0, .row kY14)], 1, [], 21778071482940061661655974875633098424320⟩), (2031625, ⟨[(7, .ms 0)], [(0, .row kY14)], 1, [], 21778071482940061661655974875624575598592⟩), (2686987, ⟨[(7, .ms 0)], [(0, .row kY14)], 1, [], 21778071482940061661655974866837072510976⟩), (3342349, ⟨[(7, .ms 0)], [(0, .row kY14)], 1, [], 21778071482940061661655965868433910792192⟩), (4063247, ⟨[(7, .ms 0)], [(0, .row kY14)], 1, [], 21778071482940061661637528131559455981568⟩), (5111825, ⟨[(7, .ms 0)], [(0, .row kY14)], 1, [], 21778071482940060452730155261003990827008⟩), (6160403, ⟨[(7, .ms 0)], [(0, .row kY14)], 1, [], 21778071482860833499141710538039621582848⟩), (7208981, ⟨[(7, .ms 0)], [(0, .row kY14)], 1, [], 21778066290643203126828346345136836313088⟩), (8192023, ⟨[(7, .ms 0)], [(0, .row kY14)], 1, [], 21693000891209827045790131223775223480320⟩)], blocks := [(0, ⟨[(7, .ms 0)], [(0, .row kY14)], 1, [], 43556142965880123323311949751266330936064⟩)], loops := [(3, ⟨[(7, .ms 0), (17, .int .i64)], [(0, .row kY14)], 1, [], 43556142965880123323311949751266330936064⟩)], keeps := [3, 9], orders := [(15, [(0, .strong), (1, .strong), (2, .strong), (3, .strong), (4, .strong), (5, .strong), (6, .strong), (7, .strong), (8, .strong), (9, .strong), (10, .strong), (11, .strong), (12, .strong), (13, .strong), (14, .eff false)]), (17, [(0, .strong), (1, .strong), (2, .strong), (3, .strong), (4, .strong), (5, .strong), (6, .strong), (7, .strong), (8, .strong), (9, .strong), (10, .strong), (11, .strong), (12, .strong), (13, .strong), (14, .eff false)]), (19, [(0, .strong), (1, .strong), (2, .strong), (3, .strong), (4, .strong), (5, .strong), (6, .strong), (7, .strong), (8, .strong), (9, .strong), (10, .strong), (11, .strong), (12, .strong), (13, .strong), (14, .eff false)])] }
def values127.S : Sig := { f := 127, params := [.st kY2, .int .i64, .int .i64], objs := [], res := .sl kY14, outs := [], fix := [], run := fun k ds os => values127 k ds.1 ds.2.1 ds.2.2 }
def values127.G : List Sig := []
theorem values127.eq (k : Nat) : ∀ ds os, values127.S.run k ds os = runF ⟨types, values127.G, values127.A, k, 0, []⟩ Try.f127 (codeOf Try.f127) values127.S.params values127.S.objs values127.S.res values127.S.outs ds os := by
  intro ds os; kernel_rfl
theorem values127.dr : DrOk Try.prog values127.A (codeOf Try.f127) := ⟨by kernel_rfl, by kernel_rfl⟩
theorem values127.ok (k : Nat) : SoundAt Try.prog k values127.S :=
  runF_sound (X := ⟨types, values127.G, values127.A, k, 0, []⟩) types_ok (fun s hs => absurd hs List.not_mem_nil) (fn := Try.f127) (c := codeOf Try.f127) rfl (by kernel_rfl) rfl rfl values127.dr (values127.eq k)

def bits128.l0 (k : Nat) (v : tY66) (l : tY66) : tY65 → Option tY60
  | (out, t10) =>
    cond (decide (t10 < (List.length l : Int)))
      ((rd l t10).bind fun t13 =>
      (rd v t13).bind fun t18 =>
      (if t10 < 0 then none else some (shlI .i64 t18 t10)).bind fun t21 =>
      some (Sum.inl ((ibits .or .i64 out t21), (w64 (t10 + 1)))))
      (some (Sum.inr out))
def bits128 (k : Nat) (v : tY66) (l : tY66) : Option tY64 :=
  Option.bind
    (loopN (bits128.l0 k v l) k (0, 0) : Option Int) fun (out_1 : Int) =>
  some (out_1, ())
def bits128.A : Ann := { conds := [], blocks := [(0, ⟨[(5, .int .i64)], [], 0, [], 16776416⟩)], loops := [(3, ⟨[(5, .int .i64), (10, .int .i64)], [], 0, [], 16776416⟩)], keeps := [], orders := [] }
def bits128.S : Sig := { f := 128, params := [.sl kY14, .sl kY14], objs := [], res := .int .i64, outs := [], fix := [], run := fun k ds os => bits128 k ds.1 ds.2 }
def bits128.G : List Sig := []
theorem bits128.eq (k : Nat) : ∀ ds os, bits128.S.run k ds os = runF ⟨types, bits128.G, bits128.A, k, 0, []⟩ Try.f128 (codeOf Try.f128) bits128.S.params bits128.S.objs bits128.S.res bits128.S.outs ds os := by
  intro ds os; kernel_rfl
theorem bits128.dr : DrOk Try.prog bits128.A (codeOf Try.f128) := ⟨by kernel_rfl, by kernel_rfl⟩
theorem bits128.ok (k : Nat) : SoundAt Try.prog k bits128.S :=
  runF_sound (X := ⟨types, bits128.G, bits128.A, k, 0, []⟩) types_ok (fun s hs => absurd hs List.not_mem_nil) (fn := Try.f128) (c := codeOf Try.f128) rfl (by kernel_rfl) rfl rfl bits128.dr (bits128.eq k)

def Step113 (k : Nat) (c : tY44) (state : Int) (in_ : Int) : Option tY54 :=
  (Check87 k c).bind fun t10 =>
  cond (t10.1 != 0)
    (some ((0, 0, ()), ()))
    ((values127 k c state in_).bind fun t15 =>
    (bits128 k t15.1 c.2.2.1).bind fun t19 =>
    (bits128 k t15.1 c.2.2.2.1).bind fun t23 =>
    some ((t19.1, t23.1, ()), ()))
def Step113.A : Ann := { conds := [], blocks := [], loops := [], keeps := [3], orders := [(4, [(0, .strong), (1, .strong), (2, .strong), (4, .strong), (5, .strong), (6, .strong), (3, .eff true), (7, .eff true), (8, .strong), (9, .strong)])] }
def Step113.S : Sig := { f := 113, params := [.st kY2, .int .i64, .int .i64], objs := [], res := .tup kY8, outs := [], fix := [], run := fun k ds os => Step113 k ds.1 ds.2.1 ds.2.2 }
def Step113.G : List Sig := [Check87.S, bits128.S, values127.S]
theorem Step113.eq (k : Nat) : ∀ ds os, Step113.S.run k ds os = runF ⟨types, Step113.G, Step113.A, k, 0, []⟩ Try.f113 (codeOf Try.f113) Step113.S.params Step113.S.objs Step113.S.res Step113.S.outs ds os := by
  intro ds os; kernel_rfl
theorem Step113.dr : DrOk Try.prog Step113.A (codeOf Try.f113) := ⟨by kernel_rfl, by kernel_rfl⟩
theorem Step113.ok (k : Nat) : SoundAt Try.prog k Step113.S :=
  runF_sound (X := ⟨types, Step113.G, Step113.A, k, 0, []⟩) types_ok (mem_all (⟨Check87.ok k, ⟨bits128.ok k, ⟨values127.ok k, trivial⟩⟩⟩)) (fn := Try.f113) (c := codeOf Try.f113) rfl (by kernel_rfl) rfl rfl Step113.dr (Step113.eq k)

def step83 (k : Nat) (a : tY44) (t : tY50) (p : tY66) (in_ : Int) : Option ((Int × (Int × tY61)) × Unit) :=
  (rd p 0).bind fun t16 =>
  (Step113 k a t16 in_).bind fun t19 =>
  (rd p 1).bind fun t24 =>
  (rd t.2.2 t24).bind fun t26 =>
  (rd t26 in_).bind fun t29 =>
  some ((t19.1.1, t29.1, [t19.1.2.1, t29.2], ()), ())
def step83.A : Ann := { conds := [], blocks := [], loops := [], keeps := [4, 5, 6, 13], orders := [(3, [(0, .strong), (1, .strong), (2, .strong), (3, .strong), (4, .strong), (5, .strong), (6, .strong), (7, .strong), (8, .strong), (9, .eff false)])] }
def step83.S : Sig := { f := 83, params := [.st kY2, .st kY7, .arr 2 kY14, .int .i64], objs := [], res := .tup (.pair kY14 (.pair kY14 (.pair kY12 .unit))), outs := [], fix := [], run := fun k ds os => step83 k ds.1 ds.2.1 ds.2.2.1 ds.2.2.2 }
def step83.G : List Sig := [Step113.S]
theorem step83.eq (k : Nat) : ∀ ds os, step83.S.run k ds os = runF ⟨types, step83.G, step83.A, k, 0, []⟩ Try.f83 (codeOf Try.f83) step83.S.params step83.S.objs step83.S.res step83.S.outs ds os := by
  intro ds os; kernel_rfl
theorem step83.dr : DrOk Try.prog step83.A (codeOf Try.f83) := ⟨by kernel_rfl, by kernel_rfl⟩
theorem step83.ok (k : Nat) : SoundAt Try.prog k step83.S :=
  runF_sound (X := ⟨types, step83.G, step83.A, k, 0, []⟩) types_ok (mem_all (⟨Step113.ok k, trivial⟩)) (fn := Try.f83) (c := codeOf Try.f83) rfl (by kernel_rfl) rfl rfl step83.dr (step83.eq k)
end Go.Proofs.Ytofendipdfepoaa.Ef

/- Go functions as plain Lean functions, and their contracts. -/
set_option linter.unusedVariables false
set_option maxRecDepth 100000
noncomputable section
namespace Go.Proofs.Ytofendipdfepoaa.Ef
open Go Go.Proofs.Ytofendipdfepoaa.Gp
def Clone72 (k : Nat) (s : tY66) : Option tY59 :=
  orNil (List.length s)
    (cond true
      (some ((), []))
      ((if room (0 + List.length s) 8 then some () else none).bind fun _ =>
      some ((), s)))
    (cond false
      (some ((), []))
      ((if room (0 + List.length s) 8 then some () else none).bind fun _ =>
      some ((), s)))
def Clone72.A : Ann := { conds := [], blocks := [], loops := [], keeps := [], orders := [] }
def Clone72.S : Sig := { f := 72, params := [.sl kY14], objs := [], res := .ms 0, outs := [.row kY14], fix := [], run := fun k ds os => Clone72 k ds }
def Clone72.G : List Sig := []
theorem Clone72.eq (k : Nat) : ∀ ds os, Clone72.S.run k ds os = runF ⟨types, Clone72.G, Clone72.A, k, 0, []⟩ Try.f72 (codeOf Try.f72) Clone72.S.params Clone72.S.objs Clone72.S.res Clone72.S.outs ds os := by
  intro ds os; kernel_rfl
theorem Clone72.dr : DrOk Try.prog Clone72.A (codeOf Try.f72) := ⟨by kernel_rfl, by kernel_rfl⟩
theorem Clone72.ok (k : Nat) : SoundAt Try.prog k Clone72.S :=
  runF_sound (X := ⟨types, Clone72.G, Clone72.A, k, 0, []⟩) types_ok (fun s hs => absurd hs List.not_mem_nil) (fn := Try.f72) (c := codeOf Try.f72) rfl (by kernel_rfl) rfl rfl Clone72.dr (Clone72.eq k)

def Find45.l0 (k : Nat) (t43 : Int) : tY15 → Option (tY15 ⊕ tY1)
  | (a_2, t_2, _, _, p, t44, o1_1, o2_1) =>
    cond (decide (t44 < t43))
      ((step83 k a_2 t_2 p t44).bind fun t52 =>
      (Clone72 k (Option.getD (α := tY66) (mget kY12 kY13 o1_1 p) [])).bind fun t59 =>
      (if room (List.length t59.2 + List.length ([t44] : List Int)) 8 then some () else none).bind fun _ =>
      let t62 : tY66 := (t59.2 ++ ([t44] : List Int))
      cond (t52.1.1 != t52.1.2.1)
        (some (Sum.inr (Sum.inr (Sum.inr (Sum.inr ((t62, true, 0, ()), ()))))))
        (Option.bind
          (cond (!(Option.isSome (mget kY12 kY13 o1_1 t52.1.2.2.1)))
            ((if room (List.length o2_1 + List.length [t52.1.2.2.1]) 16 then some () else none).bind fun _ =>
            some (a_2, t_2, (), (), p, (mput kY12 kY13 o1_1 t52.1.2.2.1 t62), (o2_1 ++ [t52.1.2.2.1])))
            (some (a_2, t_2, (), (), p, o1_1, o2_1)) : Option tY19) fun ((a_3, t_3, _, _, p_1, o1_2, o2_2) : tY19) =>
        some (Sum.inl (a_3, t_3, (), (), p_1, (w64 (t44 + 1)), o1_2, o2_2))))
      (some (Sum.inr (Sum.inl (a_2, t_2, (), (), o1_1, o2_1))))
def Find45.l1 (k : Nat) : tY22 → Option (tY22 ⊕ tY46)
  | (a_1, t_1, _, _, o1, o2) =>
    cond (decide ((List.length o2 : Int) > 0))
      ((rd o2 0).bind fun _ =>
      (rd o2 0).bind fun t38 =>
      (slc o2 1 (List.length o2 : Int)).bind fun t40 =>
      (if a_1.1 < 0 then none else some (shlI .i64 1 a_1.1)).bind fun t43 =>
      Option.bind
        (loopN (Find45.l0 k t43) k (a_1, t_1, (), (), t38, 0, o1, t40) : Option tY1) (joined fun ((a_4, t_4, _, _, o1_3, o2_3) : tY22) =>
        some (Sum.inl (a_4, t_4, (), (), o1_3, o2_3))))
      (some (Sum.inr (Sum.inl ())))
def Find45 (k : Nat) (a : tY44) (t : tY50) : Option ((tY66 × (Bool × tY64)) × Unit) :=
  (Check47 k a t).bind fun t21 =>
  cond (t21.1 != 0)
    (some (([], false, t21.1, ()), ()))
    ((Start82 k a).bind fun t26 =>
    Option.bind
      (loopN (Find45.l1 k) k (a, t, (), (), (mput kY12 kY13 ([] : (List (tY66 × tY66))) ([t26.1, 0] : tY66) []), [[t26.1, 0]]) : Option tY46) (joined fun (_ : Unit) =>
      some (([], false, 0, ()), ())))
def Find45.A : Ann := { conds := [(4849683, ⟨[(2, .fp kY1), (3, .fp kY5), (9, .mm 1), (10, .ms 2), (11, .fp kY12)], [(1, .map kY12 kY13), (2, .row kY12)], 3, [], 4797924346595559537116160⟩)], blocks := [(0, ⟨[], [], 0, [], 9671406556917024808238192⟩), (2, ⟨[(2, .fp kY1), (3, .fp kY5), (9, .mm 1), (10, .ms 2)], [(1, .map kY12 kY13), (2, .row kY12)], 3, [], 9671406556899441212126320⟩)], loops := [(7, ⟨[(2, .fp kY1), (3, .fp kY5), (9, .mm 1), (10, .ms 2)], [(1, .map kY12 kY13), (2, .row kY12)], 3, [], 9671406556917024808238192⟩), (11, ⟨[(2, .fp kY1), (3, .fp kY5), (9, .mm 1), (10, .ms 2), (11, .fp kY12), (44, .int .i64)], [(1, .map kY12 kY13), (2, .row kY12)], 3, [], 9671406556899441212126320⟩)], keeps := [2, 3, 8, 11, 15], orders := [] }
def Find45.S : Sig := { f := 45, params := [.st kY2, .st kY7], objs := [], res := .tup (.pair kY13 (.pair .bool (.pair kY14 .unit))), outs := [], fix := [], run := fun k ds os => Find45 k ds.1 ds.2 }
def Find45.G : List Sig := [Check47.S, Clone72.S, Start82.S, step83.S]
theorem Find45.eq (k : Nat) : ∀ ds os, Find45.S.run k ds os = runF ⟨types, Find45.G, Find45.A, k, 0, []⟩ Try.f45 (codeOf Try.f45) Find45.S.params Find45.S.objs Find45.S.res Find45.S.outs ds os := by
  intro ds os; kernel_rfl
theorem Find45.dr : DrOk Try.prog Find45.A (codeOf Try.f45) := ⟨by kernel_rfl, by kernel_rfl⟩
theorem Find45.ok (k : Nat) : SoundAt Try.prog k Find45.S :=
  runF_sound (X := ⟨types, Find45.G, Find45.A, k, 0, []⟩) types_ok (mem_all (⟨Check47.ok k, ⟨Clone72.ok k, ⟨Start82.ok k, ⟨step83.ok k, trivial⟩⟩⟩⟩)) (fn := Try.f45) (c := codeOf Try.f45) rfl (by kernel_rfl) rfl rfl Find45.dr (Find45.eq k)

def Equal20.l0 (k : Nat) (s1 : tY66) (s2 : tY66) : Int → Option (Int ⊕ tY57)
  | t13 =>
    cond (decide (t13 < (List.length s1 : Int)))
      ((rd s1 t13).bind fun t18 =>
      (rd s2 t13).bind fun t22 =>
      cond (t18 != t22)
        (some (Sum.inr (Sum.inr (false, ()))))
        (some (Sum.inl (w64 (t13 + 1)))))
      (some (Sum.inr (Sum.inl ())))
def Equal20 (k : Nat) (s1 : tY66) (s2 : tY66) : Option (Bool × Unit) :=
  cond ((List.length s1 : Int) != (List.length s2 : Int))
    (some (false, ()))
    (Option.bind
      (loopN (Equal20.l0 k s1 s2) k 0 : Option tY57) (joined fun (_ : Unit) =>
      some (true, ())))
def Equal20.A : Ann := { conds := [], blocks := [(0, ⟨[], [], 0, [], 67100720⟩)], loops := [(4, ⟨[(13, .int .i64)], [], 0, [], 67100720⟩)], keeps := [], orders := [(6, [(0, .strong), (1, .strong), (2, .strong), (3, .strong), (4, .strong), (5, .strong), (6, .strong), (7, .strong), (8, .strong)])] }
def Equal20.S : Sig := { f := 20, params := [.sl kY14, .sl kY14], objs := [], res := .bool, outs := [], fix := [], run := fun k ds os => Equal20 k ds.1 ds.2 }
def Equal20.G : List Sig := []
theorem Equal20.eq (k : Nat) : ∀ ds os, Equal20.S.run k ds os = runF ⟨types, Equal20.G, Equal20.A, k, 0, []⟩ Try.f20 (codeOf Try.f20) Equal20.S.params Equal20.S.objs Equal20.S.res Equal20.S.outs ds os := by
  intro ds os; kernel_rfl
theorem Equal20.dr : DrOk Try.prog Equal20.A (codeOf Try.f20) := ⟨by kernel_rfl, by kernel_rfl⟩
theorem Equal20.ok (k : Nat) : SoundAt Try.prog k Equal20.S :=
  runF_sound (X := ⟨types, Equal20.G, Equal20.A, k, 0, []⟩) types_ok (fun s hs => absurd hs List.not_mem_nil) (fn := Try.f20) (c := codeOf Try.f20) rfl (by kernel_rfl) rfl rfl Equal20.dr (Equal20.eq k)

def same43 (k : Nat) : Option (Bool × Unit) :=
  (Find45 k (1, [(0, 0, 0, 0, 0)], ([0] : List Int), [], []) (1, 1, [[(0, 0), (1, 0)]])).bind fun t14 =>
  Option.bind (cond (cond (t14.1.2.2.1 == 0) t14.1.2.1 false)
    ((Equal20 k t14.1.1 ([1] : List Int)).bind fun t26 =>
    some t26.1)
    (some false)) fun t27 =>
  some (t27, ())
def same43.A : Ann := { conds := [], blocks := [], loops := [], keeps := [], orders := [] }
def same43.S : Sig := { f := 43, params := [], objs := [], res := .bool, outs := [], fix := [], run := fun k ds os => same43 k }
def same43.G : List Sig := [Equal20.S, Find45.S]
theorem same43.eq (k : Nat) : ∀ ds os, same43.S.run k ds os = runF ⟨types, same43.G, same43.A, k, 0, []⟩ Try.f43 (codeOf Try.f43) same43.S.params same43.S.objs same43.S.res same43.S.outs ds os := by
  intro ds os; kernel_rfl
theorem same43.dr : DrOk Try.prog same43.A (codeOf Try.f43) := ⟨by kernel_rfl, by kernel_rfl⟩
theorem same43.ok (k : Nat) : SoundAt Try.prog k same43.S :=
  runF_sound (X := ⟨types, same43.G, same43.A, k, 0, []⟩) types_ok (mem_all (⟨Equal20.ok k, ⟨Find45.ok k, trivial⟩⟩)) (fn := Try.f43) (c := codeOf Try.f43) rfl (by kernel_rfl) rfl rfl same43.dr (same43.eq k)
end Go.Proofs.Ytofendipdfepoaa.Ef

/- Go functions as plain Lean functions, and their contracts. -/
set_option linter.unusedVariables false
set_option maxRecDepth 100000
noncomputable section
namespace Go.Proofs.Ytofendipdfepoaa.Ef
open Go Go.Proofs.Ytofendipdfepoaa.Gp
def CircuitFault81.l0 (k : Nat) (t53 : Int) (t56 : tY52) (t62 : (Option Int)) : tY37 → Option (tY37 ⊕ tY4)
  | (c_2, g, t78) =>
    cond (decide (t78 < 3))
      ((rd [t56.2.1, t56.2.2.1, t56.2.2.2.1] t78).bind fun t81 =>
      cond (cond (decide (t78 ≥ (Option.getD (α := Int) t62 (0 : Int)))) (t81 != 0) false)
        (some (Sum.inr (Sum.inr (Sum.inr (Sum.inr (3, ()))))))
        (cond (cond (decide (t78 < (Option.getD (α := Int) t62 (0 : Int)))) (cond (decide (t81 < 0)) true (decide (t81 > (w64 (t53 - 1))))) false)
          (some (Sum.inr (Sum.inr (Sum.inr (Sum.inr (9, ()))))))
          (some (Sum.inl (c_2, g, (w64 (t78 + 1)))))))
      (some (Sum.inr (Sum.inl (c_2, g))))
def CircuitFault81.l1 (k : Nat) (c : tY44) : tY43 → Option tY21
  | (c_1, t53) =>
    cond (decide (t53 < (List.length c.2.1 : Int)))
      ((rd c.2.1 t53).bind fun t56 =>
      cond (cond (decide (t56.1 < 0)) true (decide (t56.1 > 7)))
        (some (Sum.inr (Sum.inr (1, ()))))
        (Option.bind
          (loopN (CircuitFault81.l0 k t53 t56 (mget kY14 kY14 (mput kY14 kY14 (mput kY14 kY14 (mput kY14 kY14 (mput kY14 kY14 (mput kY14 kY14 ([] : tY62) (3 : Int) (1 : Int)) (4 : Int) (2 : Int)) (5 : Int) (2 : Int)) (6 : Int) (2 : Int)) (7 : Int) (3 : Int)) t56.1)) k (c_1, t56, 0) : Option tY4) (joined fun ((c_3, g_1) : tY38) =>
          cond (cond (decide (g_1.2.2.2.2 < 0)) true (decide (g_1.2.2.2.2 > (Option.getD (α := Int) (mget kY14 kY14 (mput kY14 kY14 (mput kY14 kY14 (mput kY14 kY14 ([] : tY62) (0 : Int) (1 : Int)) (1 : Int) (w64 (c_3.1 - 1))) (2 : Int) (w64 ((List.length c_3.2.2.2.1 : Int) - 1))) g_1.1) (0 : Int)))))
            (some (Sum.inr (Sum.inr (1, ()))))
            (some (Sum.inl (c_3, (w64 (t53 + 1))))))))
      (some (Sum.inr (Sum.inl c_1)))
def CircuitFault81.l2 (k : Nat) (t136 : tY66) : tY39 → Option (tY39 ⊕ tY3)
  | (c_6, _, t139, o0_1) =>
    cond (decide (t139 < (List.length t136 : Int)))
      ((rd t136 t139).bind fun t141 =>
      cond (cond (decide (t141 < 0)) true (decide (t141 ≥ (List.length c_6.2.1 : Int))))
        (some (Sum.inr (Sum.inr (Sum.inr (Sum.inr (4, ()))))))
        (some (Sum.inl (c_6, (), (w64 (t139 + 1)), o0_1))))
      (some (Sum.inr (Sum.inl (c_6, (), o0_1))))
def CircuitFault81.l3 (k : Nat) (c_4 : tY44) : tY39 → Option (tY39 ⊕ tY41)
  | (c_5, _, t133, o0) =>
    cond (decide (t133 < (List.length [c_4.2.2.1, c_4.2.2.2.1] : Int)))
      ((rd o0 t133).bind fun _ =>
      (rd o0 t133).bind fun t136 =>
      Option.bind
        (loopN (CircuitFault81.l2 k t136) k (c_5, (), 0, o0) : Option tY3) (joined fun ((c_7, _, o0_2) : (tY44 × tY55)) =>
        some (Sum.inl (c_7, (), (w64 (t133 + 1)), o0_2))))
      (some (Sum.inr (Sum.inl c_5)))
def CircuitFault81.l4 (k : Nat) (c_8 : tY44) : Int → Option (Int ⊕ tY58)
  | t157 =>
    cond (decide (t157 < (List.length c_8.2.2.2.2 : Int)))
      ((rd c_8.2.2.2.2 t157).bind fun t159 =>
      cond ((ibits .andNot .i64 t159 1) != 0)
        (some (Sum.inr (Sum.inr (1, ()))))
        (some (Sum.inl (w64 (t157 + 1)))))
      (some (Sum.inr (Sum.inl ())))
def CircuitFault81 (k : Nat) (c : tY44) : Option tY64 :=
  cond (cond (cond (cond (cond (decide (c.1 < 0)) true (decide (c.1 > 10))) true (decide ((List.length c.2.1 : Int) > 400))) true (decide ((List.length c.2.2.1 : Int) > 10))) true (decide ((List.length c.2.2.2.1 : Int) > 10)))
    (some (2, ()))
    (cond ((List.length c.2.2.2.2 : Int) != (List.length c.2.2.2.1 : Int))
      (some (3, ()))
      (Option.bind
        (loopN (CircuitFault81.l1 k c) k (c, 0) : Option tY41) (joined fun (c_4 : tY44) =>
        Option.bind
          (loopN (CircuitFault81.l3 k c_4) k (c_4, (), 0, [c_4.2.2.1, c_4.2.2.2.1]) : Option tY41) (joined fun (c_8 : tY44) =>
          Option.bind
            (loopN (CircuitFault81.l4 k c_8) k 0 : Option tY58) (joined fun (_ : Unit) =>
            some (0, ()))))))
def CircuitFault81.A : Ann := { conds := [], blocks := [(1, ⟨[(1, .fp kY1)], [], 0, [], 170141183460469231731678296516629365244⟩), (3, ⟨[(1, .fp kY1), (4, .fp kY4)], [], 0, [], 40564818905071885944237208895684⟩), (6, ⟨[(1, .fp kY1)], [], 0, [], 22835952194259616626901744683204484365541184516⟩), (8, ⟨[(1, .fp kY1), (131, .ms 0)], [(0, .row kY13)], 1, [], 11417284643360224966493114764399940829764915204⟩), (10, ⟨[], [], 0, [], 46585364689922530517742454042831521251532849823748⟩)], loops := [(6, ⟨[(1, .fp kY1), (53, .int .i64)], [], 0, [], 170141183460469231731678296516629365244⟩), (12, ⟨[(1, .fp kY1), (4, .fp kY4), (78, .int .i64)], [], 0, [], 40564818905071885944237208895684⟩), (24, ⟨[(1, .fp kY1), (131, .ms 0), (133, .int .i64)], [(0, .row kY13)], 1, [], 22835952194259616626901744683204484365541184516⟩), (27, ⟨[(1, .fp kY1), (131, .ms 0), (139, .int .i64)], [(0, .row kY13)], 1, [], 11417284643360224966493114764399940829764915204⟩), (34, ⟨[(157, .int .i64)], [], 0, [], 46585364689922530517742454042831521251532849823748⟩)], keeps := [1, 4], orders := [] }
def CircuitFault81.S : Sig := { f := 81, params := [.st kY2], objs := [], res := .int .i64, outs := [], fix := [], run := fun k ds os => CircuitFault81 k ds }
def CircuitFault81.G : List Sig := []
theorem CircuitFault81.eq (k : Nat) : ∀ ds os, CircuitFault81.S.run k ds os = runF ⟨types, CircuitFault81.G, CircuitFault81.A, k, 0, []⟩ Try.f81 (codeOf Try.f81) CircuitFault81.S.params CircuitFault81.S.objs CircuitFault81.S.res CircuitFault81.S.outs ds os := by
  intro ds os; kernel_rfl
theorem CircuitFault81.dr : DrOk Try.prog CircuitFault81.A (codeOf Try.f81) := ⟨by kernel_rfl, by kernel_rfl⟩
theorem CircuitFault81.ok (k : Nat) : SoundAt Try.prog k CircuitFault81.S :=
  runF_sound (X := ⟨types, CircuitFault81.G, CircuitFault81.A, k, 0, []⟩) types_ok (fun s hs => absurd hs List.not_mem_nil) (fn := Try.f81) (c := codeOf Try.f81) rfl (by kernel_rfl) rfl rfl CircuitFault81.dr (CircuitFault81.eq k)
end Go.Proofs.Ytofendipdfepoaa.Ef

set_option linter.unusedVariables false
set_option maxRecDepth 100000
namespace Go.Proofs.Ytofendipdfepoaa
open Go Go.Shelf Go.RowKit Go.Lib Go.Sort
set_option maxHeartbeats 1000000 in
theorem closure94 (x0 x1 y0 y1 : Int) (W : World) : Calls Try.prog 94 #[.agg #[.int .i64 x0, .int .i64 x1], .agg #[.int .i64 y0, .int .i64 y1]] W fun e w' => e = .returned (.int .i64 (wrap64 (wrap64 (wrap64 (wrap64 (x0 - y0) * 100) + x1) - y1))) ∧ ∃ q os', w' = grow (W.drewN q) os' := by
  go_enter Try.func94, Try.ntmps94
  go_wp2
  go_ret
  exact ⟨rfl, 0, _, by rw [alloc_eq_grow, alloc_eq_grow, grow_grow]; rfl⟩
set_option maxHeartbeats 1000000 in
theorem isNaN112 (x : Int) (W : World) : Calls Try.prog 112 #[.int .i64 x] W fun e w' => e = .returned (.bool false) ∧ w' = W := by
  go_enter Try.func112, Try.ntmps112
  go_wp2
  go_ret
  exact ⟨by simp, rfl⟩
set_option maxHeartbeats 2000000 in
theorem cmp80 (x y : Int) (W : World) : Calls Try.prog 80 #[.int .i64 x, .int .i64 y] W fun e w' => e = .returned (.int .i64 (if x < y then -1 else if y < x then 1 else 0)) ∧ w' = W := by
  have hx := isNaN112 x W
  have hy := isNaN112 y W
  by_cases h1 : x < y
  · go_enter Try.func80, Try.ntmps80
    go_wp2_with (go_at_call 112; first | (refine hx.mono ?_; rintro e w' ⟨rfl, rfl⟩) | (refine hy.mono ?_; rintro e w' ⟨rfl, rfl⟩))
    go_ret
    exact ⟨by simp [h1], rfl⟩
  · by_cases h2 : y < x
    · go_enter Try.func80, Try.ntmps80
      go_wp2_with (go_at_call 112; first | (refine hx.mono ?_; rintro e w' ⟨rfl, rfl⟩) | (refine hy.mono ?_; rintro e w' ⟨rfl, rfl⟩))
      go_ret
      exact ⟨by simp [h1, h2], rfl⟩
    · go_enter Try.func80, Try.ntmps80
      go_wp2_with (go_at_call 112; first | (refine hx.mono ?_; rintro e w' ⟨rfl, rfl⟩) | (refine hy.mono ?_; rintro e w' ⟨rfl, rfl⟩))
      go_ret
      exact ⟨by simp [h1, h2], rfl⟩
set_option maxHeartbeats 2000000 in
theorem or86 (a c : Int) (b : Nat) (W : World) (h0 : W.cell? ⟨b, 0, none⟩ = some (.int .i64 a)) (h1 : W.cell? ⟨b, 1, none⟩ = some (.int .i64 c)) : Calls Try.prog 86 #[.slice (some ⟨b, 0, none⟩) 2 2] W fun e w' => e = .returned (.int .i64 (if a = 0 then c else a)) ∧ w' = W := by
  by_cases ha : a = 0
  · subst ha
    by_cases hc : c = 0
    · subst hc
      go_enter Try.func86, Try.ntmps86
      go_wp2
      refine wp_loop_rounds 3 ?_
      rw [rounds_succ]
      go_wp2
      rw [rounds_succ]
      go_wp2
      rw [rounds_succ]
      go_wp2
      go_ret
      exact ⟨by simp, rfl⟩
    · go_enter Try.func86, Try.ntmps86
      go_wp2
      refine wp_loop_rounds 2 ?_
      rw [rounds_succ]
      go_wp2
      rw [rounds_succ]
      go_wp2
      go_ret
      exact ⟨by simp, rfl⟩
  · go_enter Try.func86, Try.ntmps86
    go_wp2
    refine wp_loop_rounds 1 ?_
    rw [rounds_succ]
    go_wp2
    go_ret
    exact ⟨by simp [ha], rfl⟩
theorem drew3 (W : World) (A B C : Obj) : ∃ q os', (((W.alloc A).alloc B).alloc C).drew = grow (W.drewN q) os' := ⟨1, _, by rw [alloc_eq_grow, alloc_eq_grow, alloc_eq_grow, grow_grow, grow_grow]; rfl⟩
set_option maxHeartbeats 4000000 in
theorem closure85 (x0 x1 y0 y1 : Int) (W : World) : Calls Try.prog 85 #[.agg #[.int .i64 x0, .int .i64 x1], .agg #[.int .i64 y0, .int .i64 y1]] W fun e w' => e = .returned (.int .i64 (if (if x0 < y0 then (-1 : Int) else if y0 < x0 then 1 else 0) = 0 then (if x1 < y1 then (-1 : Int) else if y1 < x1 then 1 else 0) else (if x0 < y0 then (-1 : Int) else if y0 < x0 then 1 else 0))) ∧ ∃ q os', w' = grow (W.drewN q) os' := by
  have c80 := cmp80
  generalize ha : (if x0 < y0 then (-1 : Int) else if y0 < x0 then 1 else 0) = a
  generalize hc : (if x1 < y1 then (-1 : Int) else if y1 < x1 then 1 else 0) = c
  have c1 : ∀ W', Calls Try.prog 80 #[.int .i64 x0, .int .i64 y0] W' fun e w' => e = .returned (.int .i64 a) ∧ w' = W' := fun W' => by rw [← ha]; exact cmp80 x0 y0 W'
  have c2 : ∀ W', Calls Try.prog 80 #[.int .i64 x1, .int .i64 y1] W' fun e w' => e = .returned (.int .i64 c) ∧ w' = W' := fun W' => by rw [← hc]; exact cmp80 x1 y1 W'
  have c3 : ∀ A B : Obj, Calls Try.prog 86 #[.slice (some { block := W.heap.size + 1 + 1, off := 0 }) 2 2] (((W.alloc A).alloc B).alloc (Obj.cells #[Value.int IntKind.i64 a, Value.int IntKind.i64 c] 3)).drew fun e w' => e = .returned (.int .i64 (if a = 0 then c else a)) ∧ w' = (((W.alloc A).alloc B).alloc (Obj.cells #[Value.int IntKind.i64 a, Value.int IntKind.i64 c] 3)).drew := fun A B => or86 a c _ _ (by show (((W.alloc A).alloc B).alloc (Obj.cells #[Value.int IntKind.i64 a, Value.int IntKind.i64 c] 3)).cell? _ = _; rw [World.cell?_alloc_at _ _ _ _ (by simp)]; rfl) (by show (((W.alloc A).alloc B).alloc (Obj.cells #[Value.int IntKind.i64 a, Value.int IntKind.i64 c] 3)).cell? _ = _; rw [World.cell?_alloc_at _ _ _ _ (by simp)]; rfl)
  generalize (if a = 0 then c else a) = r at c3 ⊢
  clear c80 ha hc
  go_enter Try.func85, Try.ntmps85
  go_wp2
  go_region_with (first
    | (go_at_call_of 80 x0; refine (c1 _).mono ?_; rintro e w' ⟨rfl, rfl⟩)
    | (go_at_call_of 80 x1; refine (c2 _).mono ?_; rintro e w' ⟨rfl, rfl⟩)
    | (go_at_call 86; refine (c3 _ _).mono ?_; rintro e w' ⟨rfl, rfl⟩))
  all_goals (try go_wp2)
  all_goals go_ret
  all_goals exact ⟨rfl, drew3 _ _ _ _⟩
end Go.Proofs.Ytofendipdfepoaa

/- Sorting a row in place by a function of the caller's: the library's contract as one of ours. -/
set_option linter.unusedVariables false
noncomputable section
namespace Go.Proofs.Ytofendipdfepoaa.Gp
open Go Go.Sort Go.RowKit Go.Shelf

/-- a row's elements with their cells -/
theorem LvL_pairs {α : Type} {R : α → List Value → Prop} : ∀ {l : List α} {vs : List Value}, LvL R l vs → ∃ ps : List (α × List Value), ps.map Prod.fst = l ∧ (ps.map Prod.snd).flatten = vs ∧ ∀ p ∈ ps, R p.1 p.2
  | [], vs, h => ⟨[], rfl, h.symm, fun p hp => by cases hp⟩
  | x :: r, vs, ⟨a, b, e, h1, h2⟩ => by
    obtain ⟨ps, g1, g2, g3⟩ := LvL_pairs h2
    refine ⟨(x, a) :: ps, by rw [List.map_cons, g1], by rw [List.map_cons, List.flatten_cons, g2, e], fun p hp => ?_⟩
    rcases List.mem_cons.1 hp with rfl | hp
    · exact h1
    · exact g3 p hp
theorem LvL_of_pairs {α : Type} {R : α → List Value → Prop} : ∀ {ps : List (α × List Value)}, (∀ p ∈ ps, R p.1 p.2) → LvL R (ps.map Prod.fst) (ps.map Prod.snd).flatten
  | [], _ => rfl
  | p :: ps, h => ⟨p.2, (ps.map Prod.snd).flatten, rfl, h p (List.mem_cons_self ..), LvL_of_pairs fun q hq => h q (List.mem_cons_of_mem _ hq)⟩
theorem flat_get {k : Nat} : ∀ {l : List (List Value)} {t : Nat}, (∀ us ∈ l, us.length = k) → t < l.length * k → l.flatten[t]! = (l[t / k]!)[t % k]!
  | [], t, _, h => by simp at h
  | us :: l, t, hk, h => by
    have h0 := hk us (List.mem_cons_self ..)
    have kp : 0 < k := by
      rcases Nat.eq_zero_or_pos k with e | e
      · subst e; simp at h
      · exact e
    rw [List.flatten_cons]
    by_cases ht : t < k
    · rw [Nat.div_eq_of_lt ht, Nat.mod_eq_of_lt ht]
      rw [getElem!_pos (us ++ l.flatten) t (by rw [List.length_append]; omega), List.getElem_append_left (by omega)]
      show _ = us[t]!
      rw [getElem!_pos us t (by omega)]
    · have ih := flat_get (l := l) (t := t - k) (fun q hq => hk q (List.mem_cons_of_mem _ hq)) (by rw [List.length_cons, Nat.add_mul] at h; omega)
      obtain ⟨s, rfl⟩ : ∃ s, t = s + k := ⟨t - k, by omega⟩
      rw [Nat.add_sub_cancel] at ih
      have hlen : l.flatten.length = l.length * k := by
        clear ih h
        induction l with
        | nil => simp
        | cons v l ih2 =>
          have := hk v (List.mem_cons_of_mem _ (List.mem_cons_self ..))
          rw [List.flatten_cons, List.length_append, this, ih2 (fun q hq => hk q (by rcases List.mem_cons.1 hq with rfl | hq; exact List.mem_cons_self ..; exact List.mem_cons_of_mem _ (List.mem_cons_of_mem _ hq))), List.length_cons, Nat.add_mul]
          omega
      have hs : s < l.flatten.length := by rw [hlen]; rw [List.length_cons, Nat.add_mul] at h; omega
      rw [Nat.add_div_right _ kp, Nat.add_mod_right]
      show (us ++ l.flatten)[s + k]! = (l[s / k]!)[s % k]!
      rw [← ih, getElem!_pos (us ++ l.flatten) (s + k) (by rw [List.length_append]; omega), getElem!_pos l.flatten s hs, List.getElem_append_right (by omega)]
      congr 1
      omega
theorem flat_len {k : Nat} : ∀ {l : List (List Value)}, (∀ us ∈ l, us.length = k) → l.flatten.length = l.length * k
  | [], _ => by simp
  | us :: l, h => by
    rw [List.flatten_cons, List.length_append, h us (List.mem_cons_self ..), flat_len (fun q hq => h q (List.mem_cons_of_mem _ hq)), List.length_cons, Nat.add_mul]
    omega
theorem flatK_list {α : Type} [Inhabited α] (enc : α → List Value) {k : Nat} (hk : ∀ x, (enc x).length = k) (d : Array α) : (flatK enc k d).toList = (d.toList.map enc).flatten := by
  have hl : ∀ us ∈ d.toList.map enc, us.length = k := fun us h => by obtain ⟨x, _, rfl⟩ := List.mem_map.1 h; exact hk x
  have e : flatK enc k d = ((d.toList.map enc).flatten).toArray := by
    refine ext_get! ?_ fun t ht => ?_
    · show _ = (d.toList.map enc).flatten.length
      rw [size_flatK, flat_len hl, List.length_map, Array.length_toList]
    · rw [size_flatK] at ht
      rw [get_flatK _ _ _ _ ht]
      have := flat_get hl (t := t) (by rw [List.length_map, Array.length_toList]; exact ht)
      have hd : t / k < d.size := Nat.div_lt_of_lt_mul (by rw [Nat.mul_comm]; exact ht)
      have e1 : ((d.toList.map enc)[t / k]!) = enc d[t / k]! := by
        rw [getElem!_pos (d.toList.map enc) _ (by rw [List.length_map, Array.length_toList]; exact hd), List.getElem_map, getElem!_pos d _ hd]
        simp
      rw [e1] at this
      rw [← this]
      simp
  rw [e]
/-- any two places are parted -/
def Parted {α : Type} (cf : α → α → Int) (l : List α) : Prop := l.Pairwise fun x y => ltOf cf x y = true ∨ ltOf cf y x = true
theorem parted_eq {α : Type} {cf : α → α → Int} {l : List α} (h : Parted cf l) {x y : α} (hx : x ∈ l) (hy : y ∈ l) (h1 : ltOf cf x y = false) (h2 : ltOf cf y x = false) : x = y := by
  obtain ⟨i, hi, rfl⟩ := List.getElem_of_mem hx
  obtain ⟨j, hj, rfl⟩ := List.getElem_of_mem hy
  have hp := List.pairwise_iff_getElem.1 h
  rcases Nat.lt_trichotomy i j with q | q | q
  · rcases hp i j hi hj q with e | e
    · rw [e] at h1; cases h1
    · rw [e] at h2; cases h2
  · subst q; rfl
  · rcases hp j i hj hi q with e | e
    · rw [e] at h2; cases h2
    · rw [e] at h1; cases h1
/-- an order on the members of a list -/
structure SwoOn {α : Type} (cf : α → α → Int) (l : List α) : Prop where
  irrefl : ∀ x ∈ l, ltOf cf x x = false
  trans : ∀ x ∈ l, ∀ y ∈ l, ∀ z ∈ l, ltOf cf x y = true → ltOf cf y z = true → ltOf cf x z = true
  ntrans : ∀ x ∈ l, ∀ y ∈ l, ∀ z ∈ l, ltOf cf x y = false → ltOf cf y z = false → ltOf cf x z = false
def sortBy {α : Type} (cf : α → α → Int) (l : List α) : List α := l.mergeSort fun x y => !(ltOf cf) y x
theorem sortBy_len {α : Type} (cf : α → α → Int) (l : List α) : (sortBy cf l).length = l.length := List.length_mergeSort l
def SfOk {α : Type} (cf : α → α → Int) (good : α → Prop) (l : List α) : Prop := l.length < 4611686018427387904 ∧ (∀ x ∈ l, good x) ∧ SwoOn cf l ∧ Parted cf l
open Classical in
def sortFS (f g : Nat) (κ : K) (cf : κ.den → κ.den → Int) (good : κ.den → Prop) : Sig :=
  { f := f, params := [.ms 0, .fn g .unit], objs := [.row κ], res := .tup .unit, outs := [.row κ], fix := [0], run := fun _ _ os => if SfOk cf good os then some ((), sortBy cf os) else none }
def rowK (κ : K) (l : List κ.den) : Nat → O := assoc O.dead (objsFrom 0 [OK.row κ] l)
theorem rowK_own {κ : K} {l l' : List κ.den} {L : Ls} {b : Nat} : Own (rowK κ l) L b ↔ Own (rowK κ l') L b := by
  have key : ∀ (l l' : List κ.den) (b : Nat), Own (rowK κ l) L b → Own (rowK κ l') L b := by
    rintro l l' b ⟨i, h1, h2⟩
    refine ⟨i, ?_, h2⟩
    cases i with
    | zero => exact h1
    | succ i => exact h1
  exact ⟨key l l' b, key l' l b⟩
theorem putId_list (off : Nat) (l : List Value) (c : Array Value) (h : off + l.length ≤ c.size) : ((putCells id off l.toArray c).toList.drop off).take l.length = l := by
  refine List.ext_getElem? fun i => ?_
  rw [List.getElem?_take]
  by_cases hi : i < l.length
  · rw [if_pos hi, List.getElem?_drop, Array.getElem?_toList]
    unfold putCells
    rw [Array.getElem?_mapIdx, Array.getElem?_eq_getElem (by omega), Option.map_some, if_pos ⟨by omega, by simpa using hi⟩, show off + i - off = i by omega, List.getElem?_eq_getElem hi]
    congr 1
    show l.toArray[i]! = _
    rw [getElem!_pos l.toArray i (by simpa using hi)]
    simp
  · rw [if_neg hi, List.getElem?_eq_none (by omega)]
theorem sortF_sound {P : Program} {ρ : Ren} (Ly : SlLaysF0.n6 P ρ) {f g : Nat} (hf : ρ.f 6 = f) (hfn : ∃ fn c, P.funcs[f]? = some fn ∧ (fn.name == "runtime.NumGoroutine") = false ∧ fn.body = some c) {κ : K} (hagg : κ.agg = true)
    (aE : ∀ w, (isAgg (ρ.t 24)).run P w = .ok true w) (zE : ∀ w, (Go.sizeOf (ρ.t 24)).run P w = .ok κ.w w) (h1 : ∀ H L d us, Lv H L κ d us → ∀ v ∈ us, v.oneCell' = true) (eg : ∀ args w, (callFunc g args).run P w = .ok (.enter g args) w)
    (cf : κ.den → κ.den → Int) (good : κ.den → Prop) (hcmp : ∀ H L x y us vs (W : World), Lv H L κ x us → Lv H L κ y vs → good x → good y → Calls P g #[.agg us.toArray, .agg vs.toArray] W fun e w' => e = .returned (.int .i64 (cf x y)) ∧ ∃ q os', w' = grow (W.drewN q) os') (k : Nat) : SoundAt P k (sortFS f g κ cf good) := by
  subst hf
  refine ⟨hfn, fun ds (os : List κ.den) q hq xs w H L hx hp hl => ?_⟩
  have hq : (open Classical in if SfOk cf good os then some ((), sortBy cf os) else none) = some q := hq
  split at hq
  case isFalse => cases hq
  rename_i hok
  obtain ⟨hbig, hgood, hswo, hpart⟩ := hok
  cases hq
  have o0 : OR H L w (L 0) (.row κ) os := hp.obj 0
  obtain ⟨hpur, hlen, h⟩ := o0
  have hlen : (L 0).len = os.length := hlen
  have hxs : xs = #[(L 0).hdr, .func (.func g) #[] #[]] := by
    have hx : SRs H L [⟨.ms 0, ds.1⟩, ⟨.fn g .unit, ds.2⟩] xs.toList := hx
    generalize hl' : xs.toList = l at hx
    cases hx with
    | cons h1 h2 =>
      cases h2 with
      | cons h2 h3 =>
        cases h3
        obtain ⟨us, ⟨hus, _⟩, rfl⟩ := h1
        obtain ⟨us2, ⟨us3, hus2, hu3⟩, rfl⟩ := h2
        have hu3 : us3 = [] := hu3
        subst hus hus2 hu3
        rw [← Array.toArray_toList (xs := xs), hl']
        rfl
  have hsr : ∀ v, v = Value.tuple #[] → SR H L ⟨.tup .unit, ()⟩ v := fun v hv => ⟨[], hv, rfl⟩
  by_cases h0 : os.length = 0
  · have hos : os = ([] : List κ.den) := List.eq_nil_of_length_eq_zero h0
    subst hos
    have hh : ∃ p cap, (L 0).hdr = .slice p 0 cap := by
      unfold Loc.hdr
      split
      · exact ⟨_, _, rfl⟩
      · rw [hlen]; exact ⟨_, _, rfl⟩
    obtain ⟨p, cap, hh⟩ := hh
    rw [hxs, hh]
    refine (AnyF.slices_SortFunc_none Ly p cap _ w).mono ?_
    rintro e w' ⟨rfl, rfl⟩
    have hs : sortBy cf ([] : List κ.den) = [] := by unfold sortBy; simp
    refine ⟨_, H, L, rfl, hsr _ rfl, ?_, hl, ⟨?_, fun i hi hv => ?_, fun i _ => ⟨rfl, rfl, rfl, id⟩⟩⟩
    · show HeapOk (rowK κ (sortBy cf [])) H L w'
      rw [hs]
      exact hp
    · show Fr (Own (rowK κ []) L) H w' (Own (rowK κ (sortBy cf [])) L) H w'
      rw [hs]
      exact Fr.refl _ _ _
    · have : i = 0 := by have hi : i < 1 := hi; omega
      subst this
      cases hv
  · rcases h with ⟨_, h1', _⟩ | ⟨hnil, hcap, cs, e, z, hb, hz, hsz, hv⟩
    · exact absurd h1' h0
    have hcap : os.length ≤ (L 0).cap := hcap
    have hsz : (L 0).off + (L 0).cap * κ.w ≤ cs.size := hsz
    have hv : LvL (Lv H L κ) os ((cs.toList.drop (L 0).off).take (os.length * κ.w)) := hv
    obtain ⟨ps, hp1, hp2, hp3⟩ := LvL_pairs hv
    have hmem : ∀ p ∈ ps, p.1 ∈ os := fun p h => by rw [← hp1]; exact List.mem_map_of_mem h
    have hpl : ps.length = os.length := by rw [← hp1, List.length_map]
    have hne : ps ≠ [] := fun e => h0 (by rw [← hpl, e]; rfl)
    obtain ⟨p0, hp0⟩ := List.exists_mem_of_ne_nil ps hne
    haveI : Inhabited {p // p ∈ ps} := ⟨⟨p0, hp0⟩⟩
    let enc : {p // p ∈ ps} → List Value := fun p => p.1.2
    let cg : {p // p ∈ ps} → {p // p ∈ ps} → Int := fun p q => cf p.1.1 q.1.1
    have henc : ∀ p, (enc p).length = κ.w := fun p => Lv_len (hp3 p.1 p.2)
    have hps : Parted (fun p q : κ.den × List Value => cf p.1 q.1) ps := by
      have := hpart
      rw [← hp1] at this
      exact List.pairwise_map.1 this
    have hSWO : SWO (ltOf cg) := ⟨fun p => hswo.irrefl _ (hmem _ p.2), fun p q r => hswo.trans _ (hmem _ p.2) _ (hmem _ q.2) _ (hmem _ r.2), fun p q r => hswo.ntrans _ (hmem _ p.2) _ (hmem _ q.2) _ (hmem _ r.2)⟩
    have hT : ∀ p q : {p // p ∈ ps}, ltOf cg p q = false → ltOf cg q p = false → p = q := fun p q a b => Subtype.ext (parted_eq hps p.2 q.2 a b)
    have hD : (ps.attach.toArray.toList.map enc).flatten = (cs.toList.drop (L 0).off).take (os.length * κ.w) := by
      rw [List.toList_toArray, ← hp2]
      congr 1
      have e : ps.attach.map (fun p => p.1.2) = (ps.attach.map Subtype.val).map Prod.snd := by rw [List.map_map]; rfl
      rw [List.attach_map_subtype_val] at e
      exact e
    have hfl := flatK_list enc henc ps.attach.toArray
    rw [hD] at hfl
    have hdl : ps.attach.toArray.size = os.length := by simp [hpl]
    have hblk : (L 0).blk < w.heap.size := by
      rcases Nat.lt_or_ge (L 0).blk w.heap.size with h | h
      · exact h
      · rw [Array.getElem?_eq_none h] at hb; cases hb
    have hmul : os.length * κ.w ≤ (L 0).cap * κ.w := Nat.mul_le_mul_right _ hcap
    have hH : HoldsK enc κ.w w (L 0).blk (L 0).off ps.attach.toArray := by
      intro j hj
      have hj2 : j < os.length * κ.w := by rw [size_flatK, hdl] at hj; exact hj
      refine ⟨?_, ?_⟩
      · unfold World.cell?
        show (match w.heap[(L 0).blk]? with | some (.cells c _ _) => if false = true then none else c[(L 0).off + j]? | _ => none) = _
        rw [hb]
        show cs[(L 0).off + j]? = some (flatK enc κ.w ps.attach.toArray)[j]!
        have hg : (flatK enc κ.w ps.attach.toArray).toList[j]? = some ((flatK enc κ.w ps.attach.toArray)[j]!) := by
          rw [Array.getElem?_toList, getElem!_pos _ j hj, Array.getElem?_eq_getElem hj]
        rw [hfl, List.getElem?_take, if_pos hj2, List.getElem?_drop, Array.getElem?_toList] at hg
        exact hg
      · unfold World.frozen?
        show (match w.heap[(L 0).blk]? with | some (.cells _ _ (lo, hi)) => lo ≤ (L 0).off + j && (L 0).off + j < hi | _ => false) = false
        rw [hb]
        have := hz ((L 0).off + j) (by omega)
        show (decide (z.1 ≤ (L 0).off + j) && decide ((L 0).off + j < z.2)) = false
        rw [← Bool.decide_and]
        exact decide_eq_false this
    have hhdr : (L 0).hdr = .slice (some ⟨(L 0).blk, (L 0).off, none⟩) ps.attach.toArray.size (L 0).cap := by
      unfold Loc.hdr
      rw [hnil, hlen, hdl]; rfl
    have hC : CmpLays P g #[] enc κ.w cg (L 0).blk (L 0).off ps.attach.toArray.size w := fun m o2 dk hdk p q => hcmp H L p.1.1 q.1.1 p.1.2 q.1.2 _ (hp3 _ p.2) (hp3 _ q.2) (hgood _ (hmem _ p.2)) (hgood _ (hmem _ q.2))
    rw [hxs, hhdr]
    refine (AnyQ.slices_SortFunc_total Ly κ.w aE zE enc henc (fun p => h1 H L _ _ (hp3 _ p.2)) cg hSWO g #[] (L 0).blk (L 0).off (L 0).cap ps.attach.toArray w eg hC hH hblk (by rw [hdl]; exact hbig) hT).mono ?_
    rintro e' w' ⟨rfl, n, os', rfl⟩
    generalize hss : (ps.attach.toArray.toList.mergeSort fun x y => !(ltOf cg) y x) = ss
    have hsl := sortBy_len cf os
    have hs1 : ss.map (fun p => p.1.1) = sortBy cf os := by
      have hmm := List.map_mergeSort (r := fun x y => !(ltOf cg) y x) (s := fun x y => !(ltOf cf) y x) (f := fun p : {p // p ∈ ps} => p.1.1) (l := ps.attach.toArray.toList) (fun a _ b _ => rfl)
      rw [← hss, hmm]
      show ((ps.attach.toArray.toList.map (fun p => p.1.1)).mergeSort _) = os.mergeSort _
      congr 1
      rw [List.toList_toArray, ← hp1]
      have e : ps.attach.map (fun p => p.1.1) = (ps.attach.map Subtype.val).map Prod.fst := by rw [List.map_map]; rfl
      rw [List.attach_map_subtype_val] at e
      exact e
    have hsn : ss.length = os.length := by rw [← hsl, ← hs1, List.length_map]
    have hnl := flatK_list enc henc ss.toArray
    rw [List.toList_toArray] at hnl
    have hnv : LvL (Lv H L κ) (sortBy cf os) (ss.map enc).flatten := by
      have := LvL_of_pairs (R := Lv H L κ) (ps := ss.map Subtype.val) (fun p hp => by obtain ⟨q, _, rfl⟩ := List.mem_map.1 hp; exact hp3 _ q.2)
      rw [List.map_map, List.map_map] at this
      rw [← hs1]
      exact this
    have hnn : (ss.map enc).flatten.length = os.length * κ.w := by rw [flat_len (k := κ.w) (fun us h => by obtain ⟨q, _, rfl⟩ := List.mem_map.1 h; exact henc q), List.length_map, hsn]
    have hfk : flatK enc κ.w ss.toArray = ((ss.map enc).flatten).toArray := by rw [← hnl]
    have hF : ∀ b, b < w.heap.size → (sortWorldK enc κ.w w (L 0).blk (L 0).off n ss.toArray os').heap[b]? = if (L 0).blk = b then (w.heap[b]?).map (onCells (putCells id (L 0).off ((ss.map enc).flatten).toArray)) else w.heap[b]? := fun b hb => by
      rw [← hfk]
      show (w.heap.modify (L 0).blk (onCells (putCells id (L 0).off (flatK enc κ.w ss.toArray))) ++ os')[b]? = _
      rw [Array.getElem?_append_left (by rw [Array.size_modify]; exact hb), Array.getElem?_modify]
    have hnone : H (L 0).blk = none := hp.apart 0 hnil
    have hneq : ∀ b o, H b = some o → (L 0).blk ≠ b := fun b o h e => by rw [← e, hnone] at h; cases h
    have hcells : (sortWorldK enc κ.w w (L 0).blk (L 0).off n ss.toArray os').heap[(L 0).blk]? = some (.cells (putCells id (L 0).off ((ss.map enc).flatten).toArray cs) e z) := by
      rw [hF _ hblk, if_pos rfl, hb]; rfl
    have hpsz : (putCells id (L 0).off ((ss.map enc).flatten).toArray cs).size = cs.size := by unfold putCells; rw [Array.size_mapIdx]
    refine ⟨_, H, L, rfl, hsr _ rfl, ?_, hl, ⟨?_, fun i hi hv => ?_, fun i _ => ⟨rfl, rfl, rfl, id⟩⟩⟩
    · refine ⟨fun i => ?_, fun b o h => ?_, fun i h => ?_, fun i j h h' he => ?_, hp.glob⟩
      · cases i with
        | zero =>
          refine ⟨hpur, hlen.trans hsl.symm, .inr ⟨hnil, ?_, _, e, z, hcells, ?_, ?_, ?_⟩⟩
          · show (sortBy cf os).length ≤ (L 0).cap
            omega
          · intro o ho
            exact hz o (by omega)
          · show (L 0).off + (L 0).cap * κ.w ≤ _
            omega
          · show LvL (Lv H L κ) (sortBy cf os) (((putCells id (L 0).off ((ss.map enc).flatten).toArray cs).toList.drop (L 0).off).take ((sortBy cf os).length * κ.w))
            rw [hsl, ← hnn, putId_list _ _ _ (by omega)]
            exact hnv
        | succ i => exact trivial
      · refine (hF b (by
          have := hp.agree b o h
          rcases Nat.lt_or_ge b w.heap.size with h1 | h1
          · exact h1
          · rw [Array.getElem?_eq_none h1] at this; cases this)).trans ?_
        rw [if_neg (hneq b o h)]
        exact hp.agree b o h
      · cases i with
        | zero => exact hnone
        | succ i => exact absurd h id
      · cases i with
        | zero =>
          cases j with
          | zero => rfl
          | succ j => exact absurd h' id
        | succ i => exact absurd h id
    · refine ⟨fun _ _ h => h, fun b hb' ho => ?_, fun _ _ h => .inl h, fun b h => .inl (rowK_own.1 h), ?_, rfl, rfl, rfl⟩
      · refine (hF b hb').trans ?_
        rw [if_neg (fun e => ho ⟨0, hnil, e⟩)]
      · show w.heap.size ≤ (w.heap.modify (L 0).blk _ ++ os').size
        rw [Array.size_append, Array.size_modify]
        omega
    · have : i = 0 := by have hi : i < 1 := hi; omega
      subst this
      cases hv
end Go.Proofs.Ytofendipdfepoaa.Gp

/- The two comparing closures of equal.Cert and bakeref3.Together, in the words of the sorting contract. -/
set_option linter.unusedVariables false
noncomputable section
namespace Go.Proofs.Ytofendipdfepoaa.Gp
open Go Go.Shelf Go.RowKit Go.Lib Go.Sort

abbrev aK2 : K := .arr 2 (.int .i64)
def n0 (x : List Int) : Int := x.getD 0 0
def n1 (x : List Int) : Int := x.getD 1 0
theorem ar2 {H : Hp} {L : Ls} {x : List Int} {us : List Value} (h : Lv H L aK2 x us) : us = [.int .i64 (n0 x), .int .i64 (n1 x)] := by
  obtain ⟨_, h2, h3⟩ := h
  have h2 : x.length = 2 := h2
  match x, h2 with
  | [a, b], _ =>
    obtain ⟨u1, u2, rfl, rfl, v1, v2, rfl, rfl, hv⟩ := h3
    have hv : v2 = [] := hv
    rw [hv]
    rfl
def cfRf (x y : List Int) : Int := wrap64 (wrap64 (wrap64 (wrap64 (n0 x - n0 y) * 100) + n1 x) - n1 y)
def goodRf (_ : List Int) : Prop := True
theorem cfRf_ok : ∀ (H : Hp) (L : Ls) (x y : List Int) (us vs : List Value) (W : World), Lv H L aK2 x us → Lv H L aK2 y vs → goodRf x → goodRf y → Calls Try.prog 94 #[.agg us.toArray, .agg vs.toArray] W fun e w' => e = .returned (.int .i64 (cfRf x y)) ∧ ∃ q os', w' = grow (W.drewN q) os' := by
  intro H L x y us vs W hx hy _ _
  rw [ar2 hx, ar2 hy]
  exact closure94 (n0 x) (n1 x) (n0 y) (n1 y) W
def cmpZ (x y : Int) : Int := if x < y then -1 else if y < x then 1 else 0
def cfEq (x y : List Int) : Int := if cmpZ (n0 x) (n0 y) = 0 then cmpZ (n1 x) (n1 y) else cmpZ (n0 x) (n0 y)
def goodEq (_ : List Int) : Prop := True
theorem cfEq_ok : ∀ (H : Hp) (L : Ls) (x y : List Int) (us vs : List Value) (W : World), Lv H L aK2 x us → Lv H L aK2 y vs → goodEq x → goodEq y → Calls Try.prog 85 #[.agg us.toArray, .agg vs.toArray] W fun e w' => e = .returned (.int .i64 (cfEq x y)) ∧ ∃ q os', w' = grow (W.drewN q) os' := by
  intro H L x y us vs W hx hy _ _
  rw [ar2 hx, ar2 hy]
  exact closure85 (n0 x) (n1 x) (n0 y) (n1 y) W
end Go.Proofs.Ytofendipdfepoaa.Gp

/-
  DERIVED: THE SHELF's CONTRACTS AT THIS DUMP, IN PLAIN WORDS (tools/lay-plain.mjs out of 'YtofendipdfepoaaShelf.lean', which tools/lay-shelf.mjs wrote): THE SAME DECLARATIONS UNDER THE SAME NAMES: 'import', 'namespace', 'open', 'def', 'theorem' AND NOTHING ELSE: no command of the shelf's: FOR A HAND-IN. Each laying: the table of numbers ('.._ren') and one theorem, a field a fact of the dump's own or the kernel's comparison; each contract: ONE APPLICATION.
-/
namespace Go.Proofs
open Go.Shelf
def Try.laysSf84_ren : Go.Shelf.Ren := ⟨fun | 6 => 84 | 15 => 115 | 14 => 114 | 28 => 137 | 29 => 138 | 20 => 129 | 21 => 130 | 22 => 131 | 23 => 132 | 24 => 133 | 25 => 134 | 26 => 135 | 27 => 136 | 46 => 142 | 47 => 143 | 48 => 144 | 49 => 145 | 50 => 146 | 57 => 148 | n => n, fun | 22 => 79 | 24 => 85 | 25 => 150 | 3 => 3 | 39 => 158 | 0 => 0 | 53 => 199 | 55 => 201 | 4 => 4 | 46 => 193 | 45 => 192 | 50 => 94 | 5 => 5 | 9 => 9 | 66 => 202 | 70 => 206 | 76 => 208 | 77 => 155 | n => n, fun | n => n⟩
theorem Try.laysSf84 : Go.Proofs.SlLaysF0.n6 Try.prog Try.laysSf84_ren := {
  mixed := by kernel_rfl
  f6 := ⟨Try.f84.name, by decide, Try.func84.trans (congrArg some (by kernel_rfl))⟩
  f14 := ⟨Try.f114.name, by decide, Try.func114.trans (congrArg some (by kernel_rfl))⟩
  f15 := Try.func115.trans (congrArg some (by kernel_rfl))
  f20 := ⟨Try.f129.name, by decide, Try.func129.trans (congrArg some (by kernel_rfl))⟩
  f21 := ⟨Try.f130.name, by decide, Try.func130.trans (congrArg some (by kernel_rfl))⟩
  f22 := ⟨Try.f131.name, by decide, Try.func131.trans (congrArg some (by kernel_rfl))⟩
  f23 := ⟨Try.f132.name, by decide, Try.func132.trans (congrArg some (by kernel_rfl))⟩
  f24 := ⟨Try.f133.name, by decide, Try.func133.trans (congrArg some (by kernel_rfl))⟩
  f25 := ⟨Try.f134.name, by decide, Try.func134.trans (congrArg some (by kernel_rfl))⟩
  f26 := ⟨Try.f135.name, by decide, Try.func135.trans (congrArg some (by kernel_rfl))⟩
  f27 := ⟨Try.f136.name, by decide, Try.func136.trans (congrArg some (by kernel_rfl))⟩
  f28 := Try.func137.trans (congrArg some (by kernel_rfl))
  f29 := Try.func138.trans (congrArg some (by kernel_rfl))
  f46 := ⟨Try.f142.name, by decide, Try.func142.trans (congrArg some (by kernel_rfl))⟩
  f47 := Try.func143.trans (congrArg some (by kernel_rfl))
  f48 := Try.func144.trans (congrArg some (by kernel_rfl))
  f49 := ⟨Try.f145.name, by decide, Try.func145.trans (congrArg some (by kernel_rfl))⟩
  f50 := ⟨Try.f146.name, by decide, Try.func146.trans (congrArg some (by kernel_rfl))⟩
  f57 := ⟨Try.f148.name, by decide, Try.func148.trans (congrArg some (by kernel_rfl))⟩
  t0 := Try.underlying0
  a0 := Try.isAgg0
  z0 := Try.sizeOf0
  v0 := Try.zeroValue0
  t3 := Try.underlying3
  a3 := Try.isAgg3
  z3 := Try.sizeOf3
  v3 := Try.zeroValue3
  t4 := Try.underlying4
  a4 := Try.isAgg4
  z4 := Try.sizeOf4
  v4 := Try.zeroValue4
  t5 := Try.underlying5
  a5 := Try.isAgg5
  z5 := Try.sizeOf5
  v5 := Try.zeroValue5
  t9 := Try.underlying9
  a9 := Try.isAgg9
  z9 := Try.sizeOf9
  v9 := Try.zeroValue9
  t22 := Try.underlying79
  a22 := Try.isAgg79
  z22 := Try.sizeOf79
  v22 := Try.zeroValue79
  t25 := Try.underlying150
  a25 := Try.isAgg150
  z25 := Try.sizeOf150
  v25 := Try.zeroValue150
  t39 := Try.underlying158
  a39 := Try.isAgg158
  z39 := Try.sizeOf158
  v39 := Try.zeroValue158
  t45 := Try.underlying192
  a45 := Try.isAgg192
  z45 := Try.sizeOf192
  v45 := Try.zeroValue192
  t46 := Try.underlying193
  a46 := Try.isAgg193
  z46 := Try.sizeOf193
  v46 := Try.zeroValue193
  t50 := Try.underlying94
  a50 := Try.isAgg94
  z50 := Try.sizeOf94
  v50 := Try.zeroValue94
  t53 := Try.underlying199
  a53 := Try.isAgg199
  z53 := Try.sizeOf199
  v53 := Try.zeroValue199
  t55 := Try.underlying201
  a55 := Try.isAgg201
  z55 := Try.sizeOf201
  v55 := Try.zeroValue201
  t66 := Try.underlying202
  a66 := Try.isAgg202
  z66 := Try.sizeOf202
  v66 := Try.zeroValue202
  t70 := Try.underlying206
  a70 := Try.isAgg206
  z70 := Try.sizeOf206
  v70 := Try.zeroValue206
  t76 := Try.underlying208
  a76 := Try.isAgg208
  z76 := Try.sizeOf208
  v76 := Try.zeroValue208
  t77 := Try.underlying155
  a77 := Try.isAgg155
  z77 := Try.sizeOf155
  v77 := Try.zeroValue155 }
end Go.Proofs

/- Given contracts. -/
set_option linter.unusedVariables false
set_option maxRecDepth 100000
noncomputable section
namespace Go.Proofs.Ytofendipdfepoaa.Ef
open Go Go.Proofs.Ytofendipdfepoaa.Gp
open Classical in
def SortFunc84 (k : Nat) (_ : Unit) (_ : Unit) (o0 : List (tY66)) : Option (Unit × List (tY66)) := if SfOk (cfEq) (goodEq) o0 then some ((), sortBy (cfEq) o0) else none
def SortFunc84.S : Sig := sortFS 84 85 (kY12) (cfEq) (goodEq)
theorem SortFunc84.ok (k : Nat) : SoundAt Try.prog k SortFunc84.S := sortF_sound (κ := kY12) (g := 85) Try.laysSf84 rfl ⟨Try.f84, codeOf Try.f84, rfl, by kernel_rfl, rfl⟩ rfl Try.isAgg85 Try.sizeOf85 (fun _ _ _ _ h => Lv_cells h) (enters_of (fn := Try.f85) (c := codeOf Try.f85) rfl (by kernel_rfl) rfl) (cfEq) (goodEq) cfEq_ok k

open Classical in
def SortFunc84' (k : Nat) (_ : Unit) (_ : Unit) (o0 : List (tY66)) : Option (Unit × List (tY66)) := if SfOk (cfRf) (goodRf) o0 then some ((), sortBy (cfRf) o0) else none
def SortFunc84'.S : Sig := sortFS 84 94 (kY12) (cfRf) (goodRf)
theorem SortFunc84'.ok (k : Nat) : SoundAt Try.prog k SortFunc84'.S := sortF_sound (κ := kY12) (g := 94) Try.laysSf84 rfl ⟨Try.f84, codeOf Try.f84, rfl, by kernel_rfl, rfl⟩ rfl Try.isAgg85 Try.sizeOf85 (fun _ _ _ _ h => Lv_cells h) (enters_of (fn := Try.f94) (c := codeOf Try.f94) rfl (by kernel_rfl) rfl) (cfRf) (goodRf) cfRf_ok k
end Go.Proofs.Ytofendipdfepoaa.Ef

/- Go functions as plain Lean functions, and their contracts. -/
set_option linter.unusedVariables false
set_option maxRecDepth 100000
noncomputable section
namespace Go.Proofs.Ytofendipdfepoaa.Ef
open Go Go.Proofs.Ytofendipdfepoaa.Gp
def TableFault9.l0 (k : Nat) (t40 : tY62) : tY48 → Option tY32
  | (t_2, t52) =>
    cond (decide (t52 < (List.length t40 : Int)))
      ((rd t40 t52).bind fun t54 =>
      Option.bind (cond (decide (t54.1 < 0))
        (some true)
        ((if t_2.2.1 < 0 then none else some (shrI .i64 t54.1 t_2.2.1)).bind fun t64 =>
        some (t64 != 0))) fun t66 =>
      cond t66
        (some (Sum.inr (Sum.inr (Sum.inr (Sum.inr (1, ()))))))
        (cond (cond (decide (t54.2 < 0)) true (decide (t54.2 > (w64 ((List.length t_2.2.2 : Int) - 1)))))
          (some (Sum.inr (Sum.inr (Sum.inr (Sum.inr (4, ()))))))
          (some (Sum.inl (t_2, (w64 (t52 + 1)))))))
      (some (Sum.inr (Sum.inl t_2)))
def TableFault9.l1 (k : Nat) (t : tY50) : tY48 → Option tY45
  | (t_1, t38) =>
    cond (decide (t38 < (List.length t.2.2 : Int)))
      ((rd t.2.2 t38).bind fun t40 =>
      (rd ([1, 2, 4, 8, 16] : List Int) t_1.1).bind fun _ =>
      (rd ([1, 2, 4, 8, 16] : List Int) t_1.1).bind fun t48 =>
      cond ((List.length t40 : Int) != t48)
        (some (Sum.inr (Sum.inr (3, ()))))
        (Option.bind
          (loopN (TableFault9.l0 k t40) k (t_1, 0) : Option tY40) (joined fun (t_3 : tY50) =>
          some (Sum.inl (t_3, (w64 (t38 + 1)))))))
      (some (Sum.inr (Sum.inl ())))
def TableFault9 (k : Nat) (t : tY50) : Option tY64 :=
  cond (cond (cond (cond (cond (decide (t.1 < 0)) true (decide (t.1 > 4))) true (decide (t.2.1 < 0))) true (decide (t.2.1 > 10))) true (decide ((List.length t.2.2 : Int) > 64)))
    (some (2, ()))
    (cond ((List.length t.2.2 : Int) == 0)
      (some (13, ()))
      (Option.bind
        (loopN (TableFault9.l1 k t) k (t, 0) : Option tY58) (joined fun (_ : Unit) =>
        some (0, ()))))
def TableFault9.A : Ann := { conds := [], blocks := [(0, ⟨[], [], 0, [], 2417851639228983471505492⟩), (2, ⟨[(1, .fp kY5)], [], 0, [], 1208925815111029547335748⟩)], loops := [(6, ⟨[(1, .fp kY5), (38, .int .i64)], [], 0, [], 2417851639228983471505492⟩), (11, ⟨[(1, .fp kY5), (52, .int .i64)], [], 0, [], 1208925815111029547335748⟩)], keeps := [1, 6], orders := [] }
def TableFault9.S : Sig := { f := 9, params := [.st kY7], objs := [], res := .int .i64, outs := [], fix := [], run := fun k ds os => TableFault9 k ds }
def TableFault9.G : List Sig := []
theorem TableFault9.eq (k : Nat) : ∀ ds os, TableFault9.S.run k ds os = runF ⟨types, TableFault9.G, TableFault9.A, k, 0, []⟩ Try.f9 (codeOf Try.f9) TableFault9.S.params TableFault9.S.objs TableFault9.S.res TableFault9.S.outs ds os := by
  intro ds os; kernel_rfl
theorem TableFault9.dr : DrOk Try.prog TableFault9.A (codeOf Try.f9) := ⟨by kernel_rfl, by kernel_rfl⟩
theorem TableFault9.ok (k : Nat) : SoundAt Try.prog k TableFault9.S :=
  runF_sound (X := ⟨types, TableFault9.G, TableFault9.A, k, 0, []⟩) types_ok (fun s hs => absurd hs List.not_mem_nil) (fn := Try.f9) (c := codeOf Try.f9) rfl (by kernel_rfl) rfl rfl TableFault9.dr (TableFault9.eq k)

def pairFault44 (k : Nat) (c : tY44) (t : tY50) : Option tY64 :=
  (CircuitFault81 k c).bind fun t7 =>
  Option.bind
    (cond (t7.1 == 0)
      ((TableFault9 k t).bind fun t11 =>
      some (c, t, t11.1))
      (some (c, t, t7.1)) : Option tY36) fun ((c_1, t_1, f) : tY36) =>
  Option.bind
    (cond (cond (f == 0) (cond (c_1.1 != t_1.1) true ((List.length c_1.2.2.1 : Int) != t_1.2.1)) false)
      (some 8)
      (some f) : Option Int) fun (f_1 : Int) =>
  some (f_1, ())
def pairFault44.A : Ann := { conds := [(589827, ⟨[(2, .fp kY1), (3, .fp kY5), (5, .int .i64)], [], 0, [], 3104⟩), (1835013, ⟨[(5, .int .i64)], [], 0, [], 32⟩)], blocks := [], loops := [], keeps := [2, 3], orders := [] }
def pairFault44.S : Sig := { f := 44, params := [.st kY2, .st kY7], objs := [], res := .int .i64, outs := [], fix := [], run := fun k ds os => pairFault44 k ds.1 ds.2 }
def pairFault44.G : List Sig := [CircuitFault81.S, TableFault9.S]
theorem pairFault44.eq (k : Nat) : ∀ ds os, pairFault44.S.run k ds os = runF ⟨types, pairFault44.G, pairFault44.A, k, 0, []⟩ Try.f44 (codeOf Try.f44) pairFault44.S.params pairFault44.S.objs pairFault44.S.res pairFault44.S.outs ds os := by
  intro ds os; kernel_rfl
theorem pairFault44.dr : DrOk Try.prog pairFault44.A (codeOf Try.f44) := ⟨by kernel_rfl, by kernel_rfl⟩
theorem pairFault44.ok (k : Nat) : SoundAt Try.prog k pairFault44.S :=
  runF_sound (X := ⟨types, pairFault44.G, pairFault44.A, k, 0, []⟩) types_ok (mem_all (⟨CircuitFault81.ok k, ⟨TableFault9.ok k, trivial⟩⟩)) (fn := Try.f44) (c := codeOf Try.f44) rfl (by kernel_rfl) rfl rfl pairFault44.dr (pairFault44.eq k)

def Cert46.l0 (k : Nat) (t51 : Int) : tY6 → Option (tY6 ⊕ tY14)
  | (a_2, t_2, _, _, _, p, t52, o0_1, o1_1, o4_1) =>
    cond (decide (t52 < t51))
      ((step83 k a_2 t_2 p t52).bind fun t60 =>
      Option.bind
        (cond (!(Option.getD (α := Bool) (mget kY12 .bool o0_1 t60.1.2.2.1) false))
          ((if room (List.length o1_1 + List.length [t60.1.2.2.1]) 16 then some () else none).bind fun _ =>
          some (a_2, t_2, (), (), (), p, (mput kY12 .bool o0_1 t60.1.2.2.1 true), (o1_1 ++ [t60.1.2.2.1]), o4_1))
          (some (a_2, t_2, (), (), (), p, o0_1, o1_1, o4_1)) : Option tY9) fun ((a_3, t_3, _, _, _, p_1, o0_2, o1_2, o4_2) : tY9) =>
      some (Sum.inl (a_3, t_3, (), (), (), p_1, (w64 (t52 + 1)), o0_2, o1_2, o4_2)))
      (some (Sum.inr (a_2, t_2, (), (), (), o0_1, o1_1, o4_1)))
def Cert46.l1 (k : Nat) : tY14 → Option (tY14 ⊕ tY55)
  | (a_1, t_1, _, _, _, o0, o1, o4) =>
    cond (decide ((List.length o1 : Int) > 0))
      ((rd o1 0).bind fun _ =>
      (rd o1 0).bind fun t42 =>
      (slc o1 1 (List.length o1 : Int)).bind fun t44 =>
      (if room (List.length o4 + List.length [t42]) 16 then some () else none).bind fun _ =>
      (if a_1.1 < 0 then none else some (shlI .i64 1 a_1.1)).bind fun t51 =>
      Option.bind
        (loopN (Cert46.l0 k t51) k (a_1, t_1, (), (), (), t42, 0, o0, t44, (o4 ++ [t42])) : Option tY14) fun ((a_4, t_4, _, _, _, o0_3, o1_3, o4_3) : tY14) =>
      some (Sum.inl (a_4, t_4, (), (), (), o0_3, o1_3, o4_3)))
      (some (Sum.inr ((), o4)))
def Cert46 (k : Nat) (a : tY44) (t : tY50) : Option ((tY63 × tY64) × Unit) :=
  (Find45 k a t).bind fun t20 =>
  cond (t20.1.2.2.1 != 0)
    (some (([], t20.1.2.2.1, ()), ()))
    (cond t20.1.2.1
      (some (([], 7, ()), ()))
      ((Start82 k a).bind fun t30 =>
      (Start82 k a).bind fun t34 =>
      Option.bind
        (loopN (Cert46.l1 k) k (a, t, (), (), (), (mput kY12 .bool ([] : (List (tY66 × Bool))) ([t30.1, 0] : tY66) true), [[t34.1, 0]], []) : Option tY55) fun ((_, o4_4) : tY55) =>
      (SortFunc84 k () () o4_4).bind fun t76 =>
      some ((t76.2, 0, ()), ())))
def Cert46.A : Ann := { conds := [(4390929, ⟨[(2, .fp kY1), (3, .fp kY5), (9, .mm 0), (10, .ms 1), (11, .ms 4), (12, .fp kY12)], [(0, .map kY12 .bool), (1, .row kY12), (4, .row kY12)], 5, [], 18594318026299228029952⟩)], blocks := [(0, ⟨[(11, .ms 4)], [(4, .row kY12)], 5, [], 37778931862819722886144⟩), (2, ⟨[(2, .fp kY1), (3, .fp kY5), (9, .mm 0), (10, .ms 1), (11, .ms 4)], [(0, .map kY12 .bool), (1, .row kY12), (4, .row kY12)], 5, [], 37778927359357534462976⟩)], loops := [(9, ⟨[(2, .fp kY1), (3, .fp kY5), (9, .mm 0), (10, .ms 1), (11, .ms 4)], [(0, .map kY12 .bool), (1, .row kY12), (4, .row kY12)], 5, [(4, .arr 2 kY14)], 37778931862819722886144⟩), (13, ⟨[(2, .fp kY1), (3, .fp kY5), (9, .mm 0), (10, .ms 1), (11, .ms 4), (12, .fp kY12), (52, .int .i64)], [(0, .map kY12 .bool), (1, .row kY12), (4, .row kY12)], 5, [], 37778927359357534462976⟩)], keeps := [2, 3, 12, 16], orders := [(11, [(0, .weak), (1, .weak), (2, .strong), (3, .strong), (4, .eff true), (5, .eff false), (6, .strong), (7, .strong)])] }
def Cert46.S : Sig := { f := 46, params := [.st kY2, .st kY7], objs := [], res := .tup (.pair (.sl kY12) (.pair kY14 .unit)), outs := [], fix := [], run := fun k ds os => Cert46 k ds.1 ds.2 }
def Cert46.G : List Sig := [Find45.S, SortFunc84.S, Start82.S, step83.S]
theorem Cert46.eq (k : Nat) : ∀ ds os, Cert46.S.run k ds os = runF ⟨types, Cert46.G, Cert46.A, k, 0, []⟩ Try.f46 (codeOf Try.f46) Cert46.S.params Cert46.S.objs Cert46.S.res Cert46.S.outs ds os := by
  intro ds os; kernel_rfl
theorem Cert46.dr : DrOk Try.prog Cert46.A (codeOf Try.f46) := ⟨by kernel_rfl, by kernel_rfl⟩
theorem Cert46.ok (k : Nat) : SoundAt Try.prog k Cert46.S :=
  runF_sound (X := ⟨types, Cert46.G, Cert46.A, k, 0, []⟩) types_ok (mem_all (⟨Find45.ok k, ⟨SortFunc84.ok k, ⟨Start82.ok k, ⟨step83.ok k, trivial⟩⟩⟩⟩)) (fn := Try.f46) (c := codeOf Try.f46) rfl (by kernel_rfl) rfl rfl Cert46.dr (Cert46.eq k)
end Go.Proofs.Ytofendipdfepoaa.Ef

/- Go functions as plain Lean functions, and their contracts. -/
set_option linter.unusedVariables false
set_option maxRecDepth 100000
noncomputable section
namespace Go.Proofs.Ytofendipdfepoaa.Ef
open Go Go.Proofs.Ytofendipdfepoaa.Gp
def circuitBox89 (k : Nat) (c : tY44) : Option (tY42 × Unit) :=
  some ((c, ()), ())
def circuitBox89.A : Ann := { conds := [], blocks := [], loops := [], keeps := [1], orders := [] }
def circuitBox89.S : Sig := { f := 89, params := [.st kY2], objs := [], res := .fn 117 kY0, outs := [], fix := [], run := fun k ds os => circuitBox89 k ds }
def circuitBox89.G : List Sig := []
theorem circuitBox89.eq (k : Nat) : ∀ ds os, circuitBox89.S.run k ds os = runF ⟨types, circuitBox89.G, circuitBox89.A, k, 0, []⟩ Try.f89 (codeOf Try.f89) circuitBox89.S.params circuitBox89.S.objs circuitBox89.S.res circuitBox89.S.outs ds os := by
  intro ds os; kernel_rfl
theorem circuitBox89.dr : DrOk Try.prog circuitBox89.A (codeOf Try.f89) := ⟨by kernel_rfl, by kernel_rfl⟩
theorem circuitBox89.ok (k : Nat) : SoundAt Try.prog k circuitBox89.S :=
  runF_sound (X := ⟨types, circuitBox89.G, circuitBox89.A, k, 0, []⟩) types_ok (fun s hs => absurd hs List.not_mem_nil) (fn := Try.f89) (c := codeOf Try.f89) rfl (by kernel_rfl) rfl rfl circuitBox89.dr (circuitBox89.eq k)

def First91.l0 (k : Nat) (c : tY44) : tY65 → Option tY60
  | (out, t9) =>
    cond (decide (t9 < (List.length c.2.2.2.2 : Int)))
      ((rd c.2.2.2.2 t9).bind fun t12 =>
      Option.bind
        (cond (decide (t9 < 10))
          ((if t9 < 0 then none else some (shlI .i64 (ibits .and .i64 t12 1) t9)).bind fun t20 =>
          some (w64 (out + t20)))
          (some out) : Option Int) fun (out_1 : Int) =>
      some (Sum.inl (out_1, (w64 (t9 + 1)))))
      (some (Sum.inr out))
def First91 (k : Nat) (c : tY44) : Option tY64 :=
  Option.bind
    (loopN (First91.l0 k c) k (0, 0) : Option Int) fun (out_2 : Int) =>
  some (out_2, ())
def First91.A : Ann := { conds := [(983046, ⟨[(3, .int .i64)], [], 0, [], 4128776⟩)], blocks := [(0, ⟨[(3, .int .i64)], [], 0, [], 8388152⟩)], loops := [(3, ⟨[(3, .int .i64), (9, .int .i64)], [], 0, [], 8388152⟩)], keeps := [1], orders := [] }
def First91.S : Sig := { f := 91, params := [.st kY2], objs := [], res := .int .i64, outs := [], fix := [], run := fun k ds os => First91 k ds }
def First91.G : List Sig := []
theorem First91.eq (k : Nat) : ∀ ds os, First91.S.run k ds os = runF ⟨types, First91.G, First91.A, k, 0, []⟩ Try.f91 (codeOf Try.f91) First91.S.params First91.S.objs First91.S.res First91.S.outs ds os := by
  intro ds os; kernel_rfl
theorem First91.dr : DrOk Try.prog First91.A (codeOf Try.f91) := ⟨by kernel_rfl, by kernel_rfl⟩
theorem First91.ok (k : Nat) : SoundAt Try.prog k First91.S :=
  runF_sound (X := ⟨types, First91.G, First91.A, k, 0, []⟩) types_ok (fun s hs => absurd hs List.not_mem_nil) (fn := Try.f91) (c := codeOf Try.f91) rfl (by kernel_rfl) rfl rfl First91.dr (First91.eq k)
end Go.Proofs.Ytofendipdfepoaa.Ef

/- Go functions as plain Lean functions, and their contracts. -/
set_option linter.unusedVariables false
set_option maxRecDepth 100000
noncomputable section
namespace Go.Proofs.Ytofendipdfepoaa.Ef
open Go Go.Proofs.Ytofendipdfepoaa.Gp
abbrev GrpValue118.T := (Int → tY44 → Int → Int → Unit → Unit → tY62 → Option tY53) × (tY44 → Int → Int → Int → Unit → tY62 → Option tY56)
def Value1140.b (r_ : GrpValue118.T) (k : Nat) (x : Int) (t1 : tY44) (t2 : Int) (t3 : Int) (_ : Unit) (o0 : Unit) (o1 : tY62) : Option tY53 :=
  (r_.2 t1 t2 t3 x () o1).bind fun t12 =>
  some (t12.1, (), t12.2)
def Value118.b (r_ : GrpValue118.T) (k : Nat) (c : tY44) (state : Int) (in_ : Int) (k_ : Int) (_ : Unit) (o0 : tY62) : Option tY56 :=
  let t19 : (Option Int) := (mget kY14 kY14 o0 k_)
  cond (Option.isSome t19)
    (some ((Option.getD (α := Int) t19 (0 : Int)), o0))
    ((rd c.2.1 k_).bind fun t27 =>
    Option.bind
      (cond (t27.1 == 0)
        (some ((), t27.2.2.2.2, o0, ()))
        (Option.bind
          (cond (t27.1 == 1)
            (some (state, in_, (), t27, (c, state, in_, (), ()), (t27.1 == 1), o0, ()))
            (some (state, in_, (), t27, (c, state, in_, (), ()), (t27.1 == 2), o0, ())) : Option tY18) fun ((state_1, in__1, _, g, v, t36, o0_1, _) : tY18) =>
        Option.bind
          (cond t36
            ((if g.2.2.2.2 < 0 then none else some (shrI .i64 (Option.getD (α := Int) (mget kY14 kY14 (mput kY14 kY14 (mput kY14 kY14 ([] : tY62) (1 : Int) in__1) (2 : Int) state_1) g.1) (0 : Int)) g.2.2.2.2)).bind fun t48 =>
            some ((), (ibits .and .i64 t48 1), o0_1, ()))
            (Option.bind
              (cond (t27.1 == 3)
                ((r_.1 g.2.1 v.1 v.2.1 v.2.2.1 v.2.2.2.1 () o0_1).bind fun t55 =>
                some ((), (ibits .xor .i64 t55.1 1), t55.2.2, ()))
                (Option.bind
                  (cond (t27.1 == 4)
                    ((r_.1 g.2.1 v.1 v.2.1 v.2.2.1 v.2.2.2.1 () o0_1).bind fun t62 =>
                    (r_.1 g.2.2.1 v.1 v.2.1 v.2.2.1 v.2.2.2.1 () t62.2.2).bind fun t66 =>
                    some ((), (mnI t62.1 t66.1), t66.2.2, ()))
                    (Option.bind
                      (cond (t27.1 == 5)
                        ((r_.1 g.2.1 v.1 v.2.1 v.2.2.1 v.2.2.2.1 () o0_1).bind fun t73 =>
                        (r_.1 g.2.2.1 v.1 v.2.1 v.2.2.1 v.2.2.2.1 () t73.2.2).bind fun t77 =>
                        some ((), (mxI t73.1 t77.1), t77.2.2, ()))
                        (Option.bind
                          (cond (t27.1 == 6)
                            ((r_.1 g.2.1 v.1 v.2.1 v.2.2.1 v.2.2.2.1 () o0_1).bind fun t84 =>
                            (r_.1 g.2.2.1 v.1 v.2.1 v.2.2.1 v.2.2.2.1 () t84.2.2).bind fun t88 =>
                            some ((), (Int.tmod (w64 (t84.1 + t88.1)) 2), t88.2.2, ()))
                            (Option.bind
                              (cond (t27.1 == 7)
                                ((r_.1 g.2.2.2.1 v.1 v.2.1 v.2.2.1 v.2.2.2.1 () o0_1).bind fun t96 =>
                                (r_.1 g.2.1 v.1 v.2.1 v.2.2.1 v.2.2.2.1 () t96.2.2).bind fun t100 =>
                                Option.bind
                                  (cond (decide (t100.1 > 0))
                                    ((r_.1 g.2.2.1 v.1 v.2.1 v.2.2.1 v.2.2.2.1 () t100.2.2).bind fun t105 =>
                                    some ((), t105.1, t105.2.2, ()))
                                    (some ((), t96.1, t100.2.2, ())) : Option tY49) fun ((_, n, o0_2, _) : tY49) =>
                                some ((), n, o0_2, ()))
                                (some ((), 0, o0_1, ())) : Option tY49) fun ((_, n_1, o0_3, _) : tY49) =>
                            some ((), n_1, o0_3, ())) : Option tY49) fun ((_, n_2, o0_4, _) : tY49) =>
                        some ((), n_2, o0_4, ())) : Option tY49) fun ((_, n_3, o0_5, _) : tY49) =>
                    some ((), n_3, o0_5, ())) : Option tY49) fun ((_, n_4, o0_6, _) : tY49) =>
                some ((), n_4, o0_6, ())) : Option tY49) fun ((_, n_5, o0_7, _) : tY49) =>
            some ((), n_5, o0_7, ())) : Option tY49) fun ((_, n_6, o0_8, _) : tY49) =>
        some ((), n_6, o0_8, ())) : Option tY49) fun ((_, n_7, o0_9, _) : tY49) =>
    some (n_7, (mput kY14 kY14 o0_9 k_ n_7)))
def GrpValue118 : Nat → GrpValue118.T
  | 0 => ((fun _ _ _ _ _ _ _ => none), (fun _ _ _ _ _ _ => none))
  | k + 1 => (Value1140.b (GrpValue118 k) k, Value118.b (GrpValue118 k) k)
def Value1140 (k : Nat) : Int → tY44 → Int → Int → Unit → Unit → tY62 → Option tY53 := (GrpValue118 k).1
def Value118 (k : Nat) : tY44 → Int → Int → Int → Unit → tY62 → Option tY56 := (GrpValue118 k).2
def Value1140.A : Ann := { conds := [], blocks := [], loops := [], keeps := [], orders := [] }
def Value1140.S : Sig := { f := 140, params := [.int .i64, .fp kY1, .fp kY14, .fp kY14, .ptr 0 []], objs := [.var (.mm 1), .map kY14 kY14], res := .int .i64, outs := [.var (.mm 1), .map kY14 kY14], fix := [], run := fun k ds os => Value1140 k ds.1 ds.2.1 ds.2.2.1 ds.2.2.2.1 ds.2.2.2.2 os.1 os.2 }
def Value118.A : Ann := { conds := [(2097161, ⟨[(9, .ptr 1 []), (15, .int .i64)], [(0, .map kY14 kY14), (1, .var (.mm 0))], 2, [], 81129638414606681695771825307648⟩), (2359307, ⟨[(6, .fp kY14), (7, .fp kY14), (9, .ptr 1 []), (13, .fp kY4), (14, .fn 140 (.pair (.fp kY1) (.pair (.fp kY14) (.pair (.fp kY14) (.pair (.ptr 1 []) .unit))))), (36, .bool)], [(0, .map kY14 kY14), (1, .var (.mm 0))], 2, [], 343597383680⟩), (2359308, ⟨[(9, .ptr 1 []), (15, .int .i64)], [(0, .map kY14 kY14), (1, .var (.mm 0))], 2, [], 81129638414606681695239249362944⟩), (3276814, ⟨[(9, .ptr 1 []), (15, .int .i64)], [(0, .map kY14 kY14), (1, .var (.mm 0))], 2, [], 81129638414606677192189377806336⟩), (3735568, ⟨[(9, .ptr 1 []), (15, .int .i64)], [(0, .map kY14 kY14), (1, .var (.mm 0))], 2, [], 81129638414606105235036701753344⟩), (4456466, ⟨[(9, .ptr 1 []), (15, .int .i64)], [(0, .map kY14 kY14), (1, .var (.mm 0))], 2, [], 81129638413426090075071593873408⟩), (5177364, ⟨[(9, .ptr 1 []), (15, .int .i64)], [(0, .map kY14 kY14), (1, .var (.mm 0))], 2, [], 81129635996755042466530655764480⟩), (5963798, ⟨[(9, .ptr 1 []), (15, .int .i64)], [(0, .map kY14 kY14), (1, .var (.mm 0))], 2, [], 81119734894292398653589812183040⟩), (6619160, ⟨[(9, .ptr 1 []), (15, .int .i64)], [(0, .map kY14 kY14), (1, .var (.mm 0))], 2, [], 76059036013693764089802192355328⟩)], blocks := [], loops := [], keeps := [5, 6, 7, 13], orders := [(16, [(0, .strong), (1, .strong), (2, .strong), (4, .weak), (5, .weak), (6, .weak), (3, .eff false), (7, .eff false), (8, .strong), (9, .strong)]), (18, [(0, .strong), (1, .strong), (2, .strong), (4, .weak), (5, .weak), (6, .weak), (3, .eff false), (7, .eff false), (8, .strong), (9, .strong)]), (20, [(0, .strong), (1, .strong), (2, .strong), (4, .weak), (5, .weak), (6, .weak), (3, .eff false), (7, .eff false), (8, .strong), (9, .strong), (10, .strong)])] }
def Value118.S : Sig := { f := 118, params := [.st kY2, .int .i64, .int .i64, .int .i64, .mm 0], objs := [.map kY14 kY14], res := .int .i64, outs := [.map kY14 kY14], fix := [], run := fun k ds os => Value118 k ds.1 ds.2.1 ds.2.2.1 ds.2.2.2.1 ds.2.2.2.2 os }
def Value1140.G : List Sig := [Value118.S]
theorem Value1140.eq (k : Nat) : ∀ ds os, Value1140.S.run (k + 1) ds os = runF ⟨types, Value1140.G, Value1140.A, k, 0, []⟩ Try.f140 (codeOf Try.f140) Value1140.S.params Value1140.S.objs Value1140.S.res Value1140.S.outs ds os := by
  intro ds os; kernel_rfl
theorem Value1140.dr : DrOk Try.prog Value1140.A (codeOf Try.f140) := ⟨by kernel_rfl, by kernel_rfl⟩
def Value118.G : List Sig := [Value1140.S]
theorem Value118.eq (k : Nat) : ∀ ds os, Value118.S.run (k + 1) ds os = runF ⟨types, Value118.G, Value118.A, k, 0, []⟩ Try.f118 (codeOf Try.f118) Value118.S.params Value118.S.objs Value118.S.res Value118.S.outs ds os := by
  intro ds os; kernel_rfl
theorem Value118.dr : DrOk Try.prog Value118.A (codeOf Try.f118) := ⟨by kernel_rfl, by kernel_rfl⟩
theorem GrpValue118.ok : ∀ k, SoundAt Try.prog k Value1140.S ∧ SoundAt Try.prog k Value118.S := by
  intro k
  induction k with
  | zero => exact ⟨sound_none (fn := Try.f140) (c := codeOf Try.f140) rfl (by kernel_rfl) rfl (fun _ _ => rfl), sound_none (fn := Try.f118) (c := codeOf Try.f118) rfl (by kernel_rfl) rfl (fun _ _ => rfl)⟩
  | succ k ih => exact ⟨runF_sound (X := ⟨types, Value1140.G, Value1140.A, k, 0, []⟩) types_ok (mem_all (⟨ih.2, trivial⟩)) (fn := Try.f140) (c := codeOf Try.f140) rfl (by kernel_rfl) rfl rfl Value1140.dr (Value1140.eq k), runF_sound (X := ⟨types, Value118.G, Value118.A, k, 0, []⟩) types_ok (mem_all (⟨ih.1, trivial⟩)) (fn := Try.f118) (c := codeOf Try.f118) rfl (by kernel_rfl) rfl rfl Value118.dr (Value118.eq k)⟩
theorem Value118.ok (k : Nat) : SoundAt Try.prog k Value118.S := (GrpValue118.ok k).2
end Go.Proofs.Ytofendipdfepoaa.Ef

/- Go functions as plain Lean functions, and their contracts. -/
set_option linter.unusedVariables false
set_option maxRecDepth 100000
noncomputable section
namespace Go.Proofs.Ytofendipdfepoaa.Ef
open Go Go.Proofs.Ytofendipdfepoaa.Gp
def Stepped92.l0 (k : Nat) (state : Int) (in_ : Int) (t21 : Int) (t25 : tY66) : tY27 → Option (tY27 ⊕ tY29)
  | (c_2, _, _, _, t28, o0_1, o1_1, o2_1) =>
    cond (decide (t28 < (List.length t25 : Int)))
      ((rd t25 t28).bind fun t31 =>
      (if 0 ≤ t21 ∧ t21 < 2 then some () else none).bind fun _ =>
      (rd o1_1 t21).bind fun t35 =>
      (Value118 k c_2 state in_ t31 () o0_1).bind fun t41 =>
      (if t28 < 0 then none else some (shlI .i64 t41.1 t28)).bind fun t43 =>
      (if 0 ≤ t21 ∧ t21 < 2 then some () else none).bind fun _ =>
      (rd o1_1 t21).bind fun _ =>
      some (Sum.inl (c_2, (), (), (), (w64 (t28 + 1)), t41.2, (List.set o1_1 (Int.toNat t21) (w64 (t35 + t43))), o2_1)))
      (some (Sum.inr (c_2, (), (), (), o0_1, o1_1, o2_1)))
def Stepped92.l1 (k : Nat) (c : tY44) (state : Int) (in_ : Int) : tY27 → Option (tY27 ⊕ tY59)
  | (c_1, _, _, _, t21, o0, o1, o2) =>
    cond (decide (t21 < (List.length [c.2.2.1, c.2.2.2.1] : Int)))
      ((rd o2 t21).bind fun _ =>
      (rd o2 t21).bind fun t25 =>
      Option.bind
        (loopN (Stepped92.l0 k state in_ t21 t25) k (c_1, (), (), (), 0, o0, o1, o2) : Option tY29) fun ((c_3, _, _, _, o0_2, o1_2, o2_2) : tY29) =>
      some (Sum.inl (c_3, (), (), (), (w64 (t21 + 1)), o0_2, o1_2, o2_2)))
      (some (Sum.inr ((), o1)))
def Stepped92 (k : Nat) (c : tY44) (state : Int) (in_ : Int) : Option tY54 :=
  Option.bind
    (loopN (Stepped92.l1 k c state in_) k (c, (), (), (), 0, ([] : tY62), (List.replicate 2 0), [c.2.2.1, c.2.2.2.1]) : Option tY59) fun ((_, o1_3) : tY59) =>
  (if 0 ≤ 0 ∧ 0 < 2 then some () else none).bind fun _ =>
  (rd o1_3 0).bind fun t49 =>
  (if 0 ≤ 1 ∧ 1 < 2 then some () else none).bind fun _ =>
  (rd o1_3 1).bind fun t51 =>
  some ((t49, t51, ()), ())
def Stepped92.A : Ann := { conds := [], blocks := [(0, ⟨[(9, .ptr 1 [])], [(1, .var kY12)], 2, [], 281474974628864⟩), (2, ⟨[(3, .fp kY1), (8, .mm 0), (9, .ptr 1 []), (19, .ms 2)], [(0, .map kY14 kY14), (1, .var kY12), (2, .row kY13)], 3, [], 140737219932160⟩)], loops := [(4, ⟨[(3, .fp kY1), (8, .mm 0), (9, .ptr 1 []), (19, .ms 2), (21, .int .i64)], [(0, .map kY14 kY14), (1, .var kY12), (2, .row kY13)], 3, [], 281474974628864⟩), (7, ⟨[(3, .fp kY1), (8, .mm 0), (9, .ptr 1 []), (19, .ms 2), (28, .int .i64)], [(0, .map kY14 kY14), (1, .var kY12), (2, .row kY13)], 3, [], 140737219932160⟩)], keeps := [3], orders := [(9, [(0, .strong), (1, .strong), (2, .strong), (3, .strong), (4, .strong), (5, .strong), (6, .strong), (7, .strong), (9, .strong), (8, .eff true), (10, .strong), (11, .strong), (12, .strong), (13, .eff false)]), (12, [(0, .strong), (1, .strong), (2, .strong), (3, .strong), (4, .strong), (5, .strong)])], touches := [(9, 1)] }
def Stepped92.S : Sig := { f := 92, params := [.st kY2, .int .i64, .int .i64], objs := [], res := .tup kY8, outs := [], fix := [], run := fun k ds os => Stepped92 k ds.1 ds.2.1 ds.2.2 }
def Stepped92.G : List Sig := [Value118.S]
theorem Stepped92.eq (k : Nat) : ∀ ds os, Stepped92.S.run k ds os = runF ⟨types, Stepped92.G, Stepped92.A, k, 0, []⟩ Try.f92 (codeOf Try.f92) Stepped92.S.params Stepped92.S.objs Stepped92.S.res Stepped92.S.outs ds os := by
  intro ds os; kernel_rfl
theorem Stepped92.dr : DrOk Try.prog Stepped92.A (codeOf Try.f92) := ⟨by kernel_rfl, by kernel_rfl⟩
theorem Stepped92.ok (k : Nat) : SoundAt Try.prog k Stepped92.S :=
  runF_sound (X := ⟨types, Stepped92.G, Stepped92.A, k, 0, []⟩) types_ok (mem_all (⟨Value118.ok k, trivial⟩)) (fn := Try.f92) (c := codeOf Try.f92) rfl (by kernel_rfl) rfl rfl Stepped92.dr (Stepped92.eq k)

def circuitBox1117 (k : Nat) (s : Int) (in_ : Int) (t2 : tY44) : Option tY54 :=
  (Stepped92 k t2 s in_).bind fun t10 =>
  some ((t10.1.1, t10.1.2.1, ()), ())
def circuitBox1117.A : Ann := { conds := [], blocks := [], loops := [], keeps := [], orders := [] }
def circuitBox1117.S : Sig := { f := 117, params := [.int .i64, .int .i64, .fp kY1], objs := [], res := .tup kY8, outs := [], fix := [], run := fun k ds os => circuitBox1117 k ds.1 ds.2.1 ds.2.2 }
def circuitBox1117.G : List Sig := [Stepped92.S]
theorem circuitBox1117.eq (k : Nat) : ∀ ds os, circuitBox1117.S.run k ds os = runF ⟨types, circuitBox1117.G, circuitBox1117.A, k, 0, []⟩ Try.f117 (codeOf Try.f117) circuitBox1117.S.params circuitBox1117.S.objs circuitBox1117.S.res circuitBox1117.S.outs ds os := by
  intro ds os; kernel_rfl
theorem circuitBox1117.dr : DrOk Try.prog circuitBox1117.A (codeOf Try.f117) := ⟨by kernel_rfl, by kernel_rfl⟩
theorem circuitBox1117.ok (k : Nat) : SoundAt Try.prog k circuitBox1117.S :=
  runF_sound (X := ⟨types, circuitBox1117.G, circuitBox1117.A, k, 0, []⟩) types_ok (mem_all (⟨Stepped92.ok k, trivial⟩)) (fn := Try.f117) (c := codeOf Try.f117) rfl (by kernel_rfl) rfl rfl circuitBox1117.dr (circuitBox1117.eq k)

def Told190 (k : Nat) (s : Int) (in_ : Int) (t2 : tY50) : Option tY54 :=
  (rd t2.2.2 s).bind fun t10 =>
  (rd t10 in_).bind fun t13 =>
  (rd t2.2.2 s).bind fun t19 =>
  (rd t19 in_).bind fun t22 =>
  some ((t13.1, t22.2, ()), ())
def Told190.A : Ann := { conds := [], blocks := [], loops := [], keeps := [], orders := [(1, [(0, .strong), (1, .strong), (2, .strong), (3, .strong), (4, .strong), (5, .strong), (6, .strong), (7, .strong), (8, .strong), (9, .strong), (10, .strong), (11, .strong), (12, .strong), (13, .strong), (14, .strong), (15, .strong), (16, .strong), (17, .strong), (18, .strong), (19, .strong)])] }
def Told190.S : Sig := { f := 90, params := [.int .i64, .int .i64, .fp kY5], objs := [], res := .tup kY8, outs := [], fix := [], run := fun k ds os => Told190 k ds.1 ds.2.1 ds.2.2 }
def Told190.G : List Sig := []
theorem Told190.eq (k : Nat) : ∀ ds os, Told190.S.run k ds os = runF ⟨types, Told190.G, Told190.A, k, 0, []⟩ Try.f90 (codeOf Try.f90) Told190.S.params Told190.S.objs Told190.S.res Told190.S.outs ds os := by
  intro ds os; kernel_rfl
theorem Told190.dr : DrOk Try.prog Told190.A (codeOf Try.f90) := ⟨by kernel_rfl, by kernel_rfl⟩
theorem Told190.ok (k : Nat) : SoundAt Try.prog k Told190.S :=
  runF_sound (X := ⟨types, Told190.G, Told190.A, k, 0, []⟩) types_ok (fun s hs => absurd hs List.not_mem_nil) (fn := Try.f90) (c := codeOf Try.f90) rfl (by kernel_rfl) rfl rfl Told190.dr (Told190.eq k)
end Go.Proofs.Ytofendipdfepoaa.Ef

/- Go functions as plain Lean functions, and their contracts. -/
set_option linter.unusedVariables false
set_option maxRecDepth 100000
noncomputable section
namespace Go.Proofs.Ytofendipdfepoaa.Ef
open Go Go.Proofs.Ytofendipdfepoaa.Gp
def shortest88.l0 (k : Nat) (k_ : Int) (t62 : Int) : tY16 → Option (tY16 ⊕ tY20)
  | (a_2, b_2, _, _, t63, o0_1, o1_1) =>
    cond (decide (t63 < t62))
      ((rd o0_1 k_).bind fun _ =>
      (rd o0_1 k_).bind fun t72 =>
      (circuitBox1117 k t72.1 t63 a_2.1).bind fun t74 =>
      (rd o0_1 k_).bind fun _ =>
      (rd o0_1 k_).bind fun t83 =>
      (Told190 k t83.2 t63 b_2.1).bind fun t85 =>
      Option.bind
        (cond (!(Option.getD (α := Bool) (mget kY10 .bool o1_1 (t74.1.2.1, t85.1.2.1)) false))
          ((if room (List.length o0_1 + List.length [(t74.1.2.1, t85.1.2.1)]) 16 then some () else none).bind fun _ =>
          some (a_2, b_2, (), (), (o0_1 ++ [(t74.1.2.1, t85.1.2.1)]), (mput kY10 .bool o1_1 (t74.1.2.1, t85.1.2.1) true)))
          (some (a_2, b_2, (), (), o0_1, o1_1)) : Option tY20) fun ((a_3, b_3, _, _, o0_2, o1_2) : tY20) =>
      some (Sum.inl (a_3, b_3, (), (), (w64 (t63 + 1)), o0_2, o1_2)))
      (some (Sum.inr (a_2, b_2, (), (), o0_1, o1_1)))
def shortest88.l1 (k : Nat) (ins : Int) : tY16 → Option (tY16 ⊕ tY26)
  | (a_1, b_1, _, _, k_, o0, o1) =>
    cond (decide (k_ < (List.length o0 : Int)))
      ((if ins < 0 then none else some (shlI .i64 1 ins)).bind fun t62 =>
      Option.bind
        (loopN (shortest88.l0 k k_ t62) k (a_1, b_1, (), (), 0, o0, o1) : Option tY20) fun ((a_4, b_4, _, _, o0_3, o1_3) : tY20) =>
      some (Sum.inl (a_4, b_4, (), (), (w64 (k_ + 1)), o0_3, o1_3)))
      (some (Sum.inr (a_1, b_1, (), o0)))
def shortest88.l2 (k : Nat) (t111 : Int) : tY5 → Option (tY5 ⊕ tY12)
  | (a_8, b_8, _, _, changed_2, p, _, t112, o0_7, o1_6) =>
    cond (decide (t112 < t111))
      (Option.bind
        ((circuitBox1117 k p.1 t112 a_8.1).bind fun t120 =>
        (Told190 k p.2 t112 b_8.1).bind fun t128 =>
        Option.bind
          (cond (t120.1.1 == t128.1.1)
            (let t139 : (Option Int) := (mget kY10 kY14 o1_6 (t120.1.2.1, t128.1.2.1))
            cond (!(Option.isSome t139))
              (some (Sum.inr (a_8, b_8, (), (), changed_2, p, (), o0_7, o1_6)))
              (some (Sum.inl (a_8, b_8, (), (), p, (w64 ((Option.getD (α := Int) t139 (0 : Int)) + 1)), (), o0_7, o1_6))))
            (some (Sum.inl (a_8, b_8, (), (), p, 1, (), o0_7, o1_6))) : Option (tY8 ⊕ tY7)) (joined fun ((a_9, b_9, _, _, p_1, d, _, o0_8, o1_7) : tY8) =>
          let t149 : (Option Int) := (mget kY10 kY14 o1_7 p_1)
          Option.bind
            (cond (cond (!(Option.isSome t149)) true (decide (d < (Option.getD (α := Int) t149 (0 : Int)))))
              (some (a_9, b_9, (), (), true, p_1, (), o0_8, (mput kY10 kY14 o1_7 p_1 d)))
              (some (a_9, b_9, (), (), changed_2, p_1, (), o0_8, o1_7)) : Option tY7) fun ((a_10, b_10, _, _, changed_3, p_2, _, o0_9, o1_8) : tY7) =>
          some (a_10, b_10, (), (), changed_3, p_2, (), o0_9, o1_8)) : Option tY7) fun ((a_11, b_11, _, _, changed_4, p_3, _, o0_10, o1_9) : tY7) =>
      some (Sum.inl (a_11, b_11, (), (), changed_4, p_3, (), (w64 (t112 + 1)), o0_10, o1_9)))
      (some (Sum.inr (a_8, b_8, (), (), changed_2, (), o0_7, o1_6)))
def shortest88.l3 (k : Nat) (ins : Int) (o0_5 : tY62) : tY10 → Option (tY10 ⊕ tY17)
  | (a_7, b_7, _, _, changed_1, _, t106, o0_6, o1_5) =>
    cond (decide (t106 < (List.length o0_5 : Int)))
      ((rd o0_6 t106).bind fun _ =>
      (rd o0_6 t106).bind fun t109 =>
      (if ins < 0 then none else some (shlI .i64 1 ins)).bind fun t111 =>
      Option.bind
        (loopN (shortest88.l2 k t111) k (a_7, b_7, (), (), changed_1, t109, (), 0, o0_6, o1_5) : Option tY12) fun ((a_12, b_12, _, _, changed_5, _, o0_11, o1_10) : tY12) =>
      some (Sum.inl (a_12, b_12, (), (), changed_5, (), (w64 (t106 + 1)), o0_11, o1_10)))
      (some (Sum.inr (a_7, b_7, (), (), changed_1, o0_6, o1_5)))
def shortest88.l4 (k : Nat) (ins : Int) : tY17 → Option (tY17 ⊕ tY24)
  | (a_6, b_6, _, _, changed, o0_5, o1_4) =>
    cond changed
      (Option.bind
        (loopN (shortest88.l3 k ins o0_5) k (a_6, b_6, (), (), false, (), 0, o0_5, o1_4) : Option tY17) fun ((a_13, b_13, _, _, changed_6, o0_12, o1_11) : tY17) =>
      some (Sum.inl (a_13, b_13, (), (), changed_6, o0_12, o1_11)))
      (some (Sum.inr (a_6, b_6, (), o1_4)))
def shortest88.l5 (k : Nat) (t176 : Int) : tY11 → Option (tY11 ⊕ tY0)
  | (a_16, b_16, _, _, _, t177, o1_14, o2_1, o4_1) =>
    cond (decide (t177 < t176))
      ((circuitBox1117 k o2_1.1 t177 a_16.1).bind fun t185 =>
      (Told190 k o2_1.2 t177 b_16.1).bind fun t193 =>
      cond (cond (t185.1.1 != t193.1.1) ((Option.getD (α := Int) (mget kY10 kY14 o1_14 o2_1) (0 : Int)) == 1) false)
        ((if room (List.length o4_1 + List.length ([t177] : List Int)) 8 then some () else none).bind fun _ =>
        some (Sum.inr (Sum.inr (Sum.inr (((o4_1 ++ ([t177] : List Int)), true, ()), ())))))
        (let t214 : (Option Int) := (mget kY10 kY14 o1_14 (t185.1.2.1, t193.1.2.1))
        cond (cond (cond (t185.1.1 == t193.1.1) (Option.isSome t214) false) ((Option.getD (α := Int) t214 (0 : Int)) == (w64 ((Option.getD (α := Int) (mget kY10 kY14 o1_14 o2_1) (0 : Int)) - 1))) false)
          ((if room (List.length o4_1 + List.length ([t177] : List Int)) 8 then some () else none).bind fun _ =>
          some (Sum.inr (Sum.inl (a_16, b_16, (), (), (), o1_14, (t185.1.2.1, t193.1.2.1), (o4_1 ++ ([t177] : List Int))))))
          (some (Sum.inl (a_16, b_16, (), (), (), (w64 (t177 + 1)), o1_14, o2_1, o4_1)))))
      (some (Sum.inr (Sum.inl (a_16, b_16, (), (), (), o1_14, o2_1, o4_1))))
def shortest88.l6 (k : Nat) (ins : Int) : tY13 → Option (tY13 ⊕ tY51)
  | (a_15, b_15, _, _, _, o1_13, o2, o4) =>
    (if ins < 0 then none else some (shlI .i64 1 ins)).bind fun t176 =>
    Option.bind
      (loopN (shortest88.l5 k t176) k (a_15, b_15, (), (), (), 0, o1_13, o2, o4) : Option tY0) (joined fun ((a_17, b_17, _, _, _, o1_15, o2_2, o4_2) : tY13) =>
      some (Sum.inl (a_17, b_17, (), (), (), o1_15, o2_2, o4_2)))
def shortest88 (k : Nat) (a : tY42) (b : (tY50 × Unit)) (s : Int) (t : Int) (ins : Int) : Option tY51 :=
  Option.bind
    (loopN (shortest88.l1 k ins) k (a, b, (), (), 0, [(s, t)], (mput kY10 .bool ([] : (List (tY65 × Bool))) (s, t) true)) : Option tY26) fun ((a_5, b_5, _, o0_4) : tY26) =>
  Option.bind
    (loopN (shortest88.l4 k ins) k (a_5, b_5, (), (), true, o0_4, ([] : (List (tY65 × Int)))) : Option tY24) fun ((a_14, b_14, _, o1_12) : tY24) =>
  cond (!(Option.isSome (mget kY10 kY14 o1_12 (s, t))))
    (some (([], false, ()), ()))
    (loopN (shortest88.l6 k ins) k (a_14, b_14, (), (), (), o1_12, (s, t), []))
def shortest88.A : Ann := { conds := [(6160397, ⟨[(0, .fn 117 kY0), (1, .fn 90 kY3), (12, .ms 0), (13, .mm 1)], [(0, .row kY10), (1, .map kY10 .bool)], 2, [], 2495687119199326634196634439680⟩), (8716318, ⟨[(0, .fn 117 kY0), (1, .fn 90 kY3), (12, .ms 0), (21, .mm 1), (24, .fp kY10), (30, .int .i64), (104, .ms 0)], [(0, .row kY10), (1, .map kY10 kY14)], 2, [], 89181202722639552504481217115717820374581248⟩), (10354723, ⟨[(0, .fn 117 kY0), (1, .fn 90 kY3), (12, .ms 0), (21, .mm 1), (22, .bool), (24, .fp kY10), (104, .ms 0)], [(0, .row kY10), (1, .map kY10 kY14)], 2, [], 5115255730658160213712896914506990568795768094720⟩)], blocks := [(0, ⟨[(0, .fn 117 kY0), (1, .fn 90 kY3), (12, .ms 0)], [(0, .row kY10)], 1, [], 5070602400912881577189795942400⟩), (2, ⟨[(0, .fn 117 kY0), (1, .fn 90 kY3), (12, .ms 0), (13, .mm 1)], [(0, .row kY10), (1, .map kY10 .bool)], 2, [], 5070602400903694233949960114176⟩), (4, ⟨[(0, .fn 117 kY0), (1, .fn 90 kY3), (21, .mm 1)], [(1, .map kY10 kY14)], 2, [], 23384026197294446681117752521634693102555642200064⟩), (6, ⟨[(0, .fn 117 kY0), (1, .fn 90 kY3), (12, .ms 0), (21, .mm 1), (22, .bool)], [(0, .row kY10), (1, .map kY10 kY14)], 2, [], 23384026197294446610129318908853846618740262699008⟩), (8, ⟨[(0, .fn 117 kY0), (1, .fn 90 kY3), (12, .ms 0), (21, .mm 1), (22, .bool), (104, .ms 0)], [(0, .row kY10), (1, .map kY10 kY14)], 2, [], 11692013098647218153332620126902635626785461501952⟩), (9, ⟨[(0, .fn 117 kY0), (1, .fn 90 kY3), (12, .ms 0), (21, .mm 1), (22, .bool), (24, .fp kY10), (104, .ms 0)], [(0, .row kY10), (1, .map kY10 kY14)], 2, [], 5846006549323590903627305191554617956672743669760⟩), (12, ⟨[(0, .fn 117 kY0), (1, .fn 90 kY3), (21, .mm 1), (35, .ptr 2 []), (38, .ms 4)], [(1, .map kY10 kY14), (2, .var kY10), (4, .row kY14)], 5, [], 883423532389192164600086807763223150618948570044020831108530804239633408⟩)], loops := [(4, ⟨[(0, .fn 117 kY0), (1, .fn 90 kY3), (12, .ms 0), (13, .mm 1), (14, .int .i64)], [(0, .row kY10), (1, .map kY10 .bool)], 2, [], 5070602400912881577189795942400⟩), (7, ⟨[(0, .fn 117 kY0), (1, .fn 90 kY3), (12, .ms 0), (13, .mm 1), (63, .int .i64)], [(0, .row kY10), (1, .map kY10 .bool)], 2, [], 5070602400903694233949960114176⟩), (18, ⟨[(0, .fn 117 kY0), (1, .fn 90 kY3), (12, .ms 0), (21, .mm 1), (22, .bool)], [(0, .row kY10), (1, .map kY10 kY14)], 2, [], 23384026197294446681117752521634693102555642200064⟩), (21, ⟨[(0, .fn 117 kY0), (1, .fn 90 kY3), (12, .ms 0), (21, .mm 1), (22, .bool), (104, .ms 0), (106, .int .i64)], [(0, .row kY10), (1, .map kY10 kY14)], 2, [], 23384026197294446610129318908853846618740262699008⟩), (24, ⟨[(0, .fn 117 kY0), (1, .fn 90 kY3), (12, .ms 0), (21, .mm 1), (22, .bool), (24, .fp kY10), (104, .ms 0), (112, .int .i64)], [(0, .row kY10), (1, .map kY10 kY14)], 2, [], 11692013098647218153332620126902635626785461501952⟩), (43, ⟨[(0, .fn 117 kY0), (1, .fn 90 kY3), (21, .mm 1), (35, .ptr 2 []), (38, .ms 4)], [(1, .map kY10 kY14), (2, .var kY10), (4, .row kY14)], 5, [(4, .int .i64)], 883423532389192164743758264719400231090043603839362317072787596944346112⟩), (44, ⟨[(0, .fn 117 kY0), (1, .fn 90 kY3), (21, .mm 1), (35, .ptr 2 []), (38, .ms 4), (177, .int .i64)], [(1, .map kY10 kY14), (2, .var kY10), (4, .row kY14)], 5, [], 883423532389192164600086807763223150618948570044020831108530804239633408⟩)], keeps := [20, 24], orders := [] }
def shortest88.S : Sig := { f := 88, params := [.fn 117 kY0, .fn 90 kY3, .int .i64, .int .i64, .int .i64], objs := [], res := .tup kY9, outs := [], fix := [], run := fun k ds os => shortest88 k ds.1 ds.2.1 ds.2.2.1 ds.2.2.2.1 ds.2.2.2.2 }
def shortest88.G : List Sig := [Told190.S, circuitBox1117.S]
theorem shortest88.eq (k : Nat) : ∀ ds os, shortest88.S.run k ds os = runF ⟨types, shortest88.G, shortest88.A, k, 0, []⟩ Try.f88 (codeOf Try.f88) shortest88.S.params shortest88.S.objs shortest88.S.res shortest88.S.outs ds os := by
  intro ds os; kernel_rfl
theorem shortest88.dr : DrOk Try.prog shortest88.A (codeOf Try.f88) := ⟨by kernel_rfl, by kernel_rfl⟩
theorem shortest88.ok (k : Nat) : SoundAt Try.prog k shortest88.S :=
  runF_sound (X := ⟨types, shortest88.G, shortest88.A, k, 0, []⟩) types_ok (mem_all (⟨Told190.ok k, ⟨circuitBox1117.ok k, trivial⟩⟩)) (fn := Try.f88) (c := codeOf Try.f88) rfl (by kernel_rfl) rfl rfl shortest88.dr (shortest88.eq k)
end Go.Proofs.Ytofendipdfepoaa.Ef

/- Go functions as plain Lean functions, and their contracts. -/
set_option linter.unusedVariables false
set_option maxRecDepth 100000
noncomputable section
namespace Go.Proofs.Ytofendipdfepoaa.Ef
open Go Go.Proofs.Ytofendipdfepoaa.Gp
def Told48 (k : Nat) (c : tY44) (t : tY50) : Option tY51 :=
  (circuitBox89 k c).bind fun t7 =>
  (First91 k c).bind fun t10 =>
  (shortest88 k t7.1 (t, ()) t10.1 0 c.1).bind fun t13 =>
  some ((t13.1.1, t13.1.2.1, ()), ())
def Told48.A : Ann := { conds := [], blocks := [], loops := [], keeps := [2, 3], orders := [(1, [(0, .strong), (2, .strong), (3, .strong), (5, .strong), (6, .strong), (1, .eff true), (4, .eff true), (7, .eff true), (8, .strong), (9, .strong), (10, .strong), (11, .strong)])] }
def Told48.S : Sig := { f := 48, params := [.st kY2, .st kY7], objs := [], res := .tup kY9, outs := [], fix := [], run := fun k ds os => Told48 k ds.1 ds.2 }
def Told48.G : List Sig := [First91.S, circuitBox89.S, shortest88.S]
theorem Told48.eq (k : Nat) : ∀ ds os, Told48.S.run k ds os = runF ⟨types, Told48.G, Told48.A, k, 0, []⟩ Try.f48 (codeOf Try.f48) Told48.S.params Told48.S.objs Told48.S.res Told48.S.outs ds os := by
  intro ds os; kernel_rfl
theorem Told48.dr : DrOk Try.prog Told48.A (codeOf Try.f48) := ⟨by kernel_rfl, by kernel_rfl⟩
theorem Told48.ok (k : Nat) : SoundAt Try.prog k Told48.S :=
  runF_sound (X := ⟨types, Told48.G, Told48.A, k, 0, []⟩) types_ok (mem_all (⟨First91.ok k, ⟨circuitBox89.ok k, ⟨shortest88.ok k, trivial⟩⟩⟩)) (fn := Try.f48) (c := codeOf Try.f48) rfl (by kernel_rfl) rfl rfl Told48.dr (Told48.eq k)

def Index119.l0 (k : Nat) (s : tY63) : (tY66 × Int) → Option ((tY66 × Int) ⊕ tY58)
  | (v_1, t8) =>
    cond (decide (t8 < (List.length s : Int)))
      ((rd s t8).bind fun t14 =>
      cond (xor false (eqB kY12 v_1 t14))
        (some (Sum.inr (Sum.inr (t8, ()))))
        (some (Sum.inl (v_1, (w64 (t8 + 1))))))
      (some (Sum.inr (Sum.inl ())))
def Index119 (k : Nat) (s : tY63) (v : tY66) : Option tY64 :=
  Option.bind
    (loopN (Index119.l0 k s) k (v, 0) : Option tY58) (joined fun (_ : Unit) =>
    some ((-1), ()))
def Index119.A : Ann := { conds := [], blocks := [(0, ⟨[], [], 0, [], 524080⟩)], loops := [(2, ⟨[(3, .fp kY12), (8, .int .i64)], [], 0, [], 524080⟩)], keeps := [3], orders := [(4, [(0, .strong), (1, .strong), (2, .strong), (3, .strong), (4, .strong), (5, .strong)])] }
def Index119.S : Sig := { f := 119, params := [.sl kY12, .arr 2 kY14], objs := [], res := .int .i64, outs := [], fix := [], run := fun k ds os => Index119 k ds.1 ds.2 }
def Index119.G : List Sig := []
theorem Index119.eq (k : Nat) : ∀ ds os, Index119.S.run k ds os = runF ⟨types, Index119.G, Index119.A, k, 0, []⟩ Try.f119 (codeOf Try.f119) Index119.S.params Index119.S.objs Index119.S.res Index119.S.outs ds os := by
  intro ds os; kernel_rfl
theorem Index119.dr : DrOk Try.prog Index119.A (codeOf Try.f119) := ⟨by kernel_rfl, by kernel_rfl⟩
theorem Index119.ok (k : Nat) : SoundAt Try.prog k Index119.S :=
  runF_sound (X := ⟨types, Index119.G, Index119.A, k, 0, []⟩) types_ok (fun s hs => absurd hs List.not_mem_nil) (fn := Try.f119) (c := codeOf Try.f119) rfl (by kernel_rfl) rfl rfl Index119.dr (Index119.eq k)

def Contains93 (k : Nat) (s : tY63) (v : tY66) : Option (Bool × Unit) :=
  (Index119 k s v).bind fun t7 =>
  some ((decide (t7.1 ≥ 0)), ())
def Contains93.A : Ann := { conds := [], blocks := [], loops := [], keeps := [3], orders := [] }
def Contains93.S : Sig := { f := 93, params := [.sl kY12, .arr 2 kY14], objs := [], res := .bool, outs := [], fix := [], run := fun k ds os => Contains93 k ds.1 ds.2 }
def Contains93.G : List Sig := [Index119.S]
theorem Contains93.eq (k : Nat) : ∀ ds os, Contains93.S.run k ds os = runF ⟨types, Contains93.G, Contains93.A, k, 0, []⟩ Try.f93 (codeOf Try.f93) Contains93.S.params Contains93.S.objs Contains93.S.res Contains93.S.outs ds os := by
  intro ds os; kernel_rfl
theorem Contains93.dr : DrOk Try.prog Contains93.A (codeOf Try.f93) := ⟨by kernel_rfl, by kernel_rfl⟩
theorem Contains93.ok (k : Nat) : SoundAt Try.prog k Contains93.S :=
  runF_sound (X := ⟨types, Contains93.G, Contains93.A, k, 0, []⟩) types_ok (mem_all (⟨Index119.ok k, trivial⟩)) (fn := Try.f93) (c := codeOf Try.f93) rfl (by kernel_rfl) rfl rfl Contains93.dr (Contains93.eq k)

def Together50.l0 (k : Nat) (k_ : Int) (t23 : Int) : tY31 → Option (tY31 ⊕ tY33)
  | (c_2, t_2, _, t24, o0_1) =>
    cond (decide (t24 < t23))
      ((rd o0_1 k_).bind fun _ =>
      (if 0 ≤ 0 ∧ 0 < 2 then some () else none).bind fun _ =>
      (rd o0_1 k_).bind fun t33 =>
      (rd t33 0).bind fun t33_1 =>
      (Stepped92 k c_2 t33_1 t24).bind fun t35 =>
      (rd o0_1 k_).bind fun _ =>
      (if 0 ≤ 1 ∧ 1 < 2 then some () else none).bind fun _ =>
      (rd o0_1 k_).bind fun t45 =>
      (rd t45 1).bind fun t45_1 =>
      (rd t_2.2.2 t45_1).bind fun t46 =>
      (rd t46 t24).bind fun t49 =>
      (Contains93 k o0_1 [t35.1.2.1, t49.2]).bind fun t55 =>
      Option.bind
        (cond (!t55.1)
          ((if room (List.length o0_1 + List.length [[t35.1.2.1, t49.2]]) 16 then some () else none).bind fun _ =>
          some (c_2, t_2, (), (o0_1 ++ [[t35.1.2.1, t49.2]])))
          (some (c_2, t_2, (), o0_1)) : Option tY33) fun ((c_3, t_3, _, o0_2) : tY33) =>
      some (Sum.inl (c_3, t_3, (), (w64 (t24 + 1)), o0_2)))
      (some (Sum.inr (c_2, t_2, (), o0_1)))
def Together50.l1 (k : Nat) : tY31 → Option (tY31 ⊕ tY55)
  | (c_1, t_1, _, k_, o0) =>
    cond (decide (k_ < (List.length o0 : Int)))
      ((if c_1.1 < 0 then none else some (shlI .i64 1 c_1.1)).bind fun t23 =>
      Option.bind
        (loopN (Together50.l0 k k_ t23) k (c_1, t_1, (), 0, o0) : Option tY33) fun ((c_4, t_4, _, o0_3) : tY33) =>
      some (Sum.inl (c_4, t_4, (), (w64 (k_ + 1)), o0_3)))
      (some (Sum.inr ((), o0)))
def Together50 (k : Nat) (c : tY44) (t : tY50) : Option (tY63 × Unit) :=
  (First91 k c).bind fun t12 =>
  Option.bind
    (loopN (Together50.l1 k) k (c, t, (), 0, [[t12.1, 0]]) : Option tY55) fun ((_, o0_4) : tY55) =>
  (SortFunc84' k () () o0_4).bind fun t63 =>
  some (t63.2, ())
def Together50.A : Ann := { conds := [(3670027, ⟨[(2, .fp kY1), (3, .fp kY5), (5, .ms 0)], [(0, .row kY12)], 1, [], 2161727821137838112⟩)], blocks := [(0, ⟨[(5, .ms 0)], [(0, .row kY12)], 1, [], 4611686018427357152⟩), (2, ⟨[(2, .fp kY1), (3, .fp kY5), (5, .ms 0)], [(0, .row kY12)], 1, [], 4611686018410612640⟩)], loops := [(3, ⟨[(2, .fp kY1), (3, .fp kY5), (5, .ms 0), (6, .int .i64)], [(0, .row kY12)], 1, [], 4611686018427357152⟩), (6, ⟨[(2, .fp kY1), (3, .fp kY5), (5, .ms 0), (24, .int .i64)], [(0, .row kY12)], 1, [], 4611686018410612640⟩)], keeps := [2, 3, 10], orders := [(8, [(0, .strong), (1, .strong), (2, .strong), (3, .strong), (4, .strong), (5, .strong), (6, .strong), (7, .eff true), (8, .strong), (9, .strong), (10, .strong), (11, .strong), (12, .strong)]), (9, [(0, .strong), (1, .strong), (2, .strong), (3, .strong), (4, .strong), (5, .strong), (6, .strong), (7, .strong), (8, .strong), (9, .strong), (10, .strong), (11, .strong), (12, .strong), (13, .strong), (14, .strong), (15, .eff true), (16, .eff false)])] }
def Together50.S : Sig := { f := 50, params := [.st kY2, .st kY7], objs := [], res := .sl kY12, outs := [], fix := [], run := fun k ds os => Together50 k ds.1 ds.2 }
def Together50.G : List Sig := [Contains93.S, First91.S, SortFunc84'.S, Stepped92.S]
theorem Together50.eq (k : Nat) : ∀ ds os, Together50.S.run k ds os = runF ⟨types, Together50.G, Together50.A, k, 0, []⟩ Try.f50 (codeOf Try.f50) Together50.S.params Together50.S.objs Together50.S.res Together50.S.outs ds os := by
  intro ds os; kernel_rfl
theorem Together50.dr : DrOk Try.prog Together50.A (codeOf Try.f50) := ⟨by kernel_rfl, by kernel_rfl⟩
theorem Together50.ok (k : Nat) : SoundAt Try.prog k Together50.S :=
  runF_sound (X := ⟨types, Together50.G, Together50.A, k, 0, []⟩) types_ok (mem_all (⟨Contains93.ok k, ⟨First91.ok k, ⟨SortFunc84'.ok k, ⟨Stepped92.ok k, trivial⟩⟩⟩⟩)) (fn := Try.f50) (c := codeOf Try.f50) rfl (by kernel_rfl) rfl rfl Together50.dr (Together50.eq k)

def Equal49.l0 (k : Nat) (s1 : tY63) (s2 : tY63) : Int → Option (Int ⊕ tY57)
  | t13 =>
    cond (decide (t13 < (List.length s1 : Int)))
      ((rd s1 t13).bind fun t18 =>
      (rd s2 t13).bind fun t22 =>
      cond (xor true (eqB kY12 t18 t22))
        (some (Sum.inr (Sum.inr (false, ()))))
        (some (Sum.inl (w64 (t13 + 1)))))
      (some (Sum.inr (Sum.inl ())))
def Equal49 (k : Nat) (s1 : tY63) (s2 : tY63) : Option (Bool × Unit) :=
  cond ((List.length s1 : Int) != (List.length s2 : Int))
    (some (false, ()))
    (Option.bind
      (loopN (Equal49.l0 k s1 s2) k 0 : Option tY57) (joined fun (_ : Unit) =>
      some (true, ())))
def Equal49.A : Ann := { conds := [], blocks := [(0, ⟨[], [], 0, [], 67100720⟩)], loops := [(4, ⟨[(13, .int .i64)], [], 0, [], 67100720⟩)], keeps := [], orders := [(6, [(0, .strong), (1, .strong), (2, .strong), (3, .strong), (4, .strong), (5, .strong), (6, .strong), (7, .strong), (8, .strong)])] }
def Equal49.S : Sig := { f := 49, params := [.sl kY12, .sl kY12], objs := [], res := .bool, outs := [], fix := [], run := fun k ds os => Equal49 k ds.1 ds.2 }
def Equal49.G : List Sig := []
theorem Equal49.eq (k : Nat) : ∀ ds os, Equal49.S.run k ds os = runF ⟨types, Equal49.G, Equal49.A, k, 0, []⟩ Try.f49 (codeOf Try.f49) Equal49.S.params Equal49.S.objs Equal49.S.res Equal49.S.outs ds os := by
  intro ds os; kernel_rfl
theorem Equal49.dr : DrOk Try.prog Equal49.A (codeOf Try.f49) := ⟨by kernel_rfl, by kernel_rfl⟩
theorem Equal49.ok (k : Nat) : SoundAt Try.prog k Equal49.S :=
  runF_sound (X := ⟨types, Equal49.G, Equal49.A, k, 0, []⟩) types_ok (fun s hs => absurd hs List.not_mem_nil) (fn := Try.f49) (c := codeOf Try.f49) rfl (by kernel_rfl) rfl rfl Equal49.dr (Equal49.eq k)
end Go.Proofs.Ytofendipdfepoaa.Ef

/- Go functions as plain Lean functions, and their contracts. -/
set_option linter.unusedVariables false
set_option maxRecDepth 100000
noncomputable section
namespace Go.Proofs.Ytofendipdfepoaa.Ef
open Go Go.Proofs.Ytofendipdfepoaa.Gp
def Accept51.l0 (k : Nat) (l : tY63) : tY28 → Option (tY28 ⊕ tY25)
  | (a_1, t_1, _, t26, o0) =>
    cond (decide (t26 < (List.length l : Int)))
      ((rd l t26).bind fun t28 =>
      (rd t28 0).bind fun t30 =>
      Option.bind (cond (decide (t30 < 0))
        (some true)
        ((rd t28 0).bind fun t34 =>
        (if (List.length a_1.2.2.2.1 : Int) < 0 then none else some (shlI .i64 1 (List.length a_1.2.2.2.1 : Int))).bind fun t39 =>
        some (decide (t34 ≥ t39)))) fun t41 =>
      Option.bind (cond t41
        (some true)
        ((rd t28 1).bind fun t43 =>
        some (decide (t43 < 0)))) fun t46 =>
      Option.bind (cond t46
        (some true)
        ((rd t28 1).bind fun t48 =>
        some (decide (t48 ≥ (List.length t_1.2.2 : Int))))) fun t54 =>
      cond t54
        (some (Sum.inr (Sum.inr (4, ()))))
        (some (Sum.inl (a_1, t_1, (), (w64 (t26 + 1)), (mput kY12 .bool o0 t28 true)))))
      (some (Sum.inr (Sum.inl (a_1, t_1, (), o0))))
def Accept51.l1 (k : Nat) (t72 : Int) : tY23 → Option (tY23 ⊕ tY2)
  | (a_4, t_4, _, p, t73, o0_3) =>
    cond (decide (t73 < t72))
      ((step83 k a_4 t_4 p t73).bind fun t81 =>
      cond (t81.1.1 != t81.1.2.1)
        (some (Sum.inr (Sum.inr (Sum.inr (Sum.inr (12, ()))))))
        (cond (!(Option.getD (α := Bool) (mget kY12 .bool o0_3 t81.1.2.2.1) false))
          (some (Sum.inr (Sum.inr (Sum.inr (Sum.inr (13, ()))))))
          (some (Sum.inl (a_4, t_4, (), p, (w64 (t73 + 1)), o0_3)))))
      (some (Sum.inr (Sum.inl (a_4, t_4, (), o0_3))))
def Accept51.l2 (k : Nat) (l : tY63) : tY28 → Option (tY28 ⊕ tY58)
  | (a_3, t_3, _, t66, o0_2) =>
    cond (decide (t66 < (List.length l : Int)))
      ((rd l t66).bind fun t68 =>
      (if a_3.1 < 0 then none else some (shlI .i64 1 a_3.1)).bind fun t72 =>
      Option.bind
        (loopN (Accept51.l1 k t72) k (a_3, t_3, (), t68, 0, o0_2) : Option tY2) (joined fun ((a_5, t_5, _, o0_4) : tY30) =>
        some (Sum.inl (a_5, t_5, (), (w64 (t66 + 1)), o0_4))))
      (some (Sum.inr (Sum.inl ())))
def Accept51 (k : Nat) (a : tY44) (t : tY50) (l : tY63) : Option tY64 :=
  (Check47 k a t).bind fun t19 =>
  cond (t19.1 != 0)
    (some (t19.1, ()))
    (Option.bind
      (loopN (Accept51.l0 k l) k (a, t, (), 0, ([] : (List (tY66 × Bool)))) : Option tY25) (joined fun ((a_2, t_2, _, o0_1) : tY30) =>
      (Start82 k a_2).bind fun t60 =>
      cond (!(Option.getD (α := Bool) (mget kY12 .bool o0_1 ([t60.1, 0] : tY66)) false))
        (some (13, ()))
        (Option.bind
          (loopN (Accept51.l2 k l) k (a_2, t_2, (), 0, o0_1) : Option tY58) (joined fun (_ : Unit) =>
          some (0, ())))))
def Accept51.A : Ann := { conds := [], blocks := [(0, ⟨[(3, .fp kY1), (4, .fp kY5), (8, .mm 0)], [(0, .map kY12 .bool)], 1, [], 288230376084603968⟩), (2, ⟨[], [], 0, [], 19807040554779108103547908160⟩), (4, ⟨[(3, .fp kY1), (4, .fp kY5), (8, .mm 0)], [(0, .map kY12 .bool)], 1, [], 9903510869550076459902689344⟩)], loops := [(6, ⟨[(3, .fp kY1), (4, .fp kY5), (8, .mm 0), (26, .int .i64)], [(0, .map kY12 .bool)], 1, [], 288230376084603968⟩), (15, ⟨[(3, .fp kY1), (4, .fp kY5), (8, .mm 0), (66, .int .i64)], [(0, .map kY12 .bool)], 1, [], 19807040554779108103547908160⟩), (18, ⟨[(3, .fp kY1), (4, .fp kY5), (8, .mm 0), (12, .fp kY12), (73, .int .i64)], [(0, .map kY12 .bool)], 1, [], 9903510869550076459902689344⟩)], keeps := [3, 4, 10, 12, 16], orders := [(8, [(0, .strong), (1, .strong), (2, .strong), (3, .strong), (4, .strong), (5, .strong), (6, .strong), (7, .strong), (8, .strong), (9, .strong), (10, .strong), (11, .strong), (12, .strong), (13, .strong), (14, .strong), (15, .strong), (16, .strong), (17, .strong), (18, .strong), (19, .strong), (20, .strong), (21, .strong), (22, .strong), (23, .strong), (24, .strong)])] }
def Accept51.S : Sig := { f := 51, params := [.st kY2, .st kY7, .sl kY12], objs := [], res := .int .i64, outs := [], fix := [], run := fun k ds os => Accept51 k ds.1 ds.2.1 ds.2.2 }
def Accept51.G : List Sig := [Check47.S, Start82.S, step83.S]
theorem Accept51.eq (k : Nat) : ∀ ds os, Accept51.S.run k ds os = runF ⟨types, Accept51.G, Accept51.A, k, 0, []⟩ Try.f51 (codeOf Try.f51) Accept51.S.params Accept51.S.objs Accept51.S.res Accept51.S.outs ds os := by
  intro ds os; kernel_rfl
theorem Accept51.dr : DrOk Try.prog Accept51.A (codeOf Try.f51) := ⟨by kernel_rfl, by kernel_rfl⟩
theorem Accept51.ok (k : Nat) : SoundAt Try.prog k Accept51.S :=
  runF_sound (X := ⟨types, Accept51.G, Accept51.A, k, 0, []⟩) types_ok (mem_all (⟨Check47.ok k, ⟨Start82.ok k, ⟨step83.ok k, trivial⟩⟩⟩)) (fn := Try.f51) (c := codeOf Try.f51) rfl (by kernel_rfl) rfl rfl Accept51.dr (Accept51.eq k)

def EqualFinds8 (k : Nat) (c : tY44) (t : tY50) : Option (Bool × Unit) :=
  cond (decide ((List.length c.2.2.2.1 : Int) > 5))
    ((same43 k).bind fun t17 =>
    some (t17.1, ()))
    ((pairFault44 k c t).bind fun t20 =>
    (Find45 k c t).bind fun t24 =>
    (Cert46 k c t).bind fun t31 =>
    (same43 k).bind fun t34 =>
    Option.bind (cond (!t34.1)
      (some true)
      ((Check47 k c t).bind fun t39 =>
      some (t39.1 != t20.1))) fun t42 =>
    cond (cond t42 true (t24.1.2.2.1 != t20.1))
      (some (false, ()))
      (cond (t20.1 != 0)
        (some ((cond (cond (cond (!t24.1.2.1) ((List.length t24.1.1 : Int) == 0) false) (t31.1.2.1 == t20.1) false) ((List.length t31.1.1 : Int) == 0) false), ()))
        ((Told48 k c t).bind fun t70 =>
        Option.bind (cond (xor true (t24.1.2.1 == t70.1.2.1))
          (some true)
          ((Equal20 k t24.1.1 t70.1.1).bind fun t79 =>
          some (!t79.1))) fun t81 =>
        cond t81
          (some (false, ()))
          (cond t70.1.2.1
            (some ((cond (t31.1.2.1 == 7) ((List.length t31.1.1 : Int) == 0) false), ()))
            (Option.bind (cond (t31.1.2.1 == 0)
              ((Together50 k c t).bind fun t96 =>
              (Equal49 k t31.1.1 t96.1).bind fun t97 =>
              some t97.1)
              (some false)) fun t98 =>
            Option.bind (cond t98
              ((Accept51 k c t t31.1.1).bind fun t103 =>
              some (t103.1 == 0))
              (some false)) fun t105 =>
            some (t105, ()))))))
def EqualFinds8.A : Ann := { conds := [], blocks := [], loops := [], keeps := [2, 3], orders := [] }
def EqualFinds8.S : Sig := { f := 8, params := [.st kY2, .st kY7], objs := [], res := .bool, outs := [], fix := [], run := fun k ds os => EqualFinds8 k ds.1 ds.2 }
def EqualFinds8.G : List Sig := [Accept51.S, Cert46.S, Check47.S, Equal20.S, Equal49.S, Find45.S, Together50.S, Told48.S, pairFault44.S, same43.S]
theorem EqualFinds8.eq (k : Nat) : ∀ ds os, EqualFinds8.S.run k ds os = runF ⟨types, EqualFinds8.G, EqualFinds8.A, k, 0, []⟩ Try.f8 (codeOf Try.f8) EqualFinds8.S.params EqualFinds8.S.objs EqualFinds8.S.res EqualFinds8.S.outs ds os := by
  intro ds os; kernel_rfl
theorem EqualFinds8.dr : DrOk Try.prog EqualFinds8.A (codeOf Try.f8) := ⟨by kernel_rfl, by kernel_rfl⟩
theorem EqualFinds8.ok (k : Nat) : SoundAt Try.prog k EqualFinds8.S :=
  runF_sound (X := ⟨types, EqualFinds8.G, EqualFinds8.A, k, 0, []⟩) types_ok (mem_all (⟨Accept51.ok k, ⟨Cert46.ok k, ⟨Check47.ok k, ⟨Equal20.ok k, ⟨Equal49.ok k, ⟨Find45.ok k, ⟨Together50.ok k, ⟨Told48.ok k, ⟨pairFault44.ok k, ⟨same43.ok k, trivial⟩⟩⟩⟩⟩⟩⟩⟩⟩⟩)) (fn := Try.f8) (c := codeOf Try.f8) rfl (by kernel_rfl) rfl rfl EqualFinds8.dr (EqualFinds8.eq k)
end Go.Proofs.Ytofendipdfepoaa.Ef

/- What is left of a Go function, in the long run: rounds, loops, lists, numbers. No program in sight. -/
set_option linter.unusedVariables false
noncomputable section
namespace Go.Proofs.Ytofendipdfepoaa.Gp
open Go

/-- from some fuel on, f answers v -/
def Ev {α : Type} (f : Nat → Option α) (v : α) : Prop := ∃ n, ∀ k, n ≤ k → f k = some v
/-- .. a loop, from some fuel on and with enough rounds -/
def Lp {S R : Type} (body : Nat → S → Option (S ⊕ R)) (s : S) (r : R) : Prop := ∃ n m, ∀ k, n ≤ k → ∀ j, m ≤ j → loopN (body k) j s = some r

theorem Ev.ex {α : Type} {f : Nat → Option α} {v : α} (h : Ev f v) : ∃ k, f k = some v := by
  obtain ⟨n, h⟩ := h
  exact ⟨n, h n (Nat.le_refl _)⟩
theorem Ev.now {α : Type} (v : α) : Ev (fun _ => some v) v := ⟨0, fun _ _ => rfl⟩
theorem Ev.now' {α : Type} {v w : α} (h : v = w) : Ev (fun _ => some v) w := h ▸ .now v
/-- what hangs on no fuel -/
theorem Ev.const {α : Type} {o : Option α} {v : α} (h : o = some v) : Ev (fun _ => o) v := ⟨0, fun _ _ => h⟩
theorem Ev.to {α : Type} {f : Nat → Option α} {v w : α} (h : Ev f v) (e : v = w) : Ev f w := e ▸ h
theorem Ev.of {α : Type} {f g : Nat → Option α} {v : α} (h : Ev f v) (e : ∀ k, g k = f k) : Ev g v := by
  obtain ⟨n, h⟩ := h
  exact ⟨n, fun k hk => (e k).trans (h k hk)⟩
theorem Ev.bind {α β : Type} {f : Nat → Option α} {g : Nat → α → Option β} {a : α} {b : β} (h : Ev f a) (h2 : Ev (fun k => g k a) b) : Ev (fun k => (f k).bind (g k)) b := by
  obtain ⟨n, h⟩ := h
  obtain ⟨m, h2⟩ := h2
  refine ⟨max n m, fun k hk => ?_⟩
  show (f k).bind (g k) = _
  rw [h k (by omega)]
  exact h2 k (by omega)
/-- a value that hangs on no fuel -/
theorem Ev.val {α β : Type} {o : Option α} {g : Nat → α → Option β} {a : α} {b : β} (h : o = some a) (h2 : Ev (fun k => g k a) b) : Ev (fun k => o.bind (g k)) b := by
  subst h
  exact h2
theorem Ev.joinL {S α β : Type} {f : Nat → Option (α ⊕ β)} {g : Nat → α → Option β} {a : α} {b : β} (h : Ev f (.inl a)) (h2 : Ev (fun k => g k a) b) : Ev (fun k => (f k).bind (joined (g k))) b :=
  Ev.bind (g := fun k => joined (g k)) h h2
theorem Ev.joinR {α β : Type} {f : Nat → Option (α ⊕ β)} {g : Nat → α → Option β} {b : β} (h : Ev f (.inr b)) : Ev (fun k => (f k).bind (joined (g k))) b :=
  Ev.bind (g := fun k => joined (g k)) h (.now b)
/-- a join: how it came, and what follows -/
theorem Ev.join {α β : Type} {f : Nat → Option (α ⊕ β)} {g : Nat → α → Option β} {s : α ⊕ β} {b : β} (h : Ev f s) (h1 : ∀ a, s = .inl a → Ev (fun k => g k a) b) (h2 : ∀ r, s = .inr r → r = b) : Ev (fun k => (f k).bind (joined (g k))) b := by
  cases s with
  | inl a => exact Ev.bind (g := fun k => joined (g k)) h (h1 a rfl)
  | inr r => exact Ev.bind (g := fun k => joined (g k)) h (.now' (h2 r rfl))
theorem Ev.cnd {α : Type} {c : Bool} {f g : Nat → Option α} {v : α} (h1 : c = true → Ev f v) (h2 : c = false → Ev g v) : Ev (fun k => cond c (f k) (g k)) v := by
  cases c with
  | true => exact h1 rfl
  | false => exact h2 rfl
theorem Ev.yes {α : Type} {c : Bool} {f g : Nat → Option α} {v : α} (hc : c = true) (h : Ev f v) : Ev (fun k => cond c (f k) (g k)) v := by rw [hc]; exact h
theorem Ev.no {α : Type} {c : Bool} {f g : Nat → Option α} {v : α} (hc : c = false) (h : Ev g v) : Ev (fun k => cond c (f k) (g k)) v := by rw [hc]; exact h
theorem Ev.iff {α : Type} {c : Prop} [Decidable c] {f g : Nat → Option α} {v : α} (h1 : c → Ev f v) (h2 : ¬ c → Ev g v) : Ev (fun k => cond (decide c) (f k) (g k)) v := by
  by_cases h : c
  · exact .yes (decide_eq_true h) (h1 h)
  · exact .no (decide_eq_false h) (h2 h)
theorem Ev.map {α β : Type} {f : Nat → Option α} {g : α → β} {a : α} (h : Ev f a) : Ev (fun k => (f k).map g) (g a) := by
  obtain ⟨n, h⟩ := h
  exact ⟨n, fun k hk => by show (f k).map g = _; rw [h k hk]; rfl⟩

theorem Lp.ev {S R : Type} {body : Nat → S → Option (S ⊕ R)} {s : S} {r : R} (h : Lp body s r) : Ev (fun k => loopN (body k) k s) r := by
  obtain ⟨n, m, h⟩ := h
  exact ⟨max n m, fun k hk => h k (by omega) k (by omega)⟩
theorem Lp.done {S R : Type} {body : Nat → S → Option (S ⊕ R)} {s : S} {r : R} (h : Ev (fun k => body k s) (.inr r)) : Lp body s r := by
  obtain ⟨n, h⟩ := h
  refine ⟨n, 1, fun k hk j hj => ?_⟩
  obtain ⟨j, rfl⟩ : ∃ i, j = i + 1 := ⟨j - 1, by omega⟩
  show (body k s).bind _ = _
  rw [show body k s = _ from h k hk]
  rfl
theorem Lp.step {S R : Type} {body : Nat → S → Option (S ⊕ R)} {s s' : S} {r : R} (h : Ev (fun k => body k s) (.inl s')) (h2 : Lp body s' r) : Lp body s r := by
  obtain ⟨n, h⟩ := h
  obtain ⟨n2, m, h2⟩ := h2
  refine ⟨max n n2, m + 1, fun k hk j hj => ?_⟩
  obtain ⟨j, rfl⟩ : ∃ i, j = i + 1 := ⟨j - 1, by omega⟩
  show (body k s).bind _ = _
  rw [show body k s = _ from h k (by omega)]
  exact h2 k (by omega) j (by omega)

/-- a walk over a list, that may end early -/
def walk {α β R : Type} (f : β → α → β ⊕ R) (fin : β → R) : List α → β → R
  | [], b => fin b
  | x :: l, b => match f b x with | .inl b' => walk f fin l b' | .inr r => r
theorem walk_cons {α β R : Type} {f : β → α → β ⊕ R} {fin : β → R} {x : α} {l : List α} {b : β} : walk f fin (x :: l) b = match f b x with | .inl b' => walk f fin l b' | .inr r => r := rfl

/-- a loop over a list by its index: 'st b i' is the loop's state -/
theorem Lp.walk {α β S R : Type} {body : Nat → S → Option (S ⊕ R)} (l : List α) (st : β → Int → S) (f : β → α → β ⊕ R) (fin : β → R) (Inv : Nat → β → Prop)
    (hs : ∀ i x b, l[i]? = some x → Inv i b → Ev (fun k => body k (st b i)) (match f b x with | .inl b' => .inl (st b' ((i : Int) + 1)) | .inr r => .inr r) ∧ ∀ b', f b x = .inl b' → Inv (i + 1) b')
    (hd : ∀ b, Inv l.length b → Ev (fun k => body k (st b l.length)) (.inr (fin b))) {b : β} (h0 : Inv 0 b) : Lp body (st b 0) (walk f fin l b) := by
  have key : ∀ (suf pre : List α) (b : β), l = pre ++ suf → Inv pre.length b → Lp body (st b (pre.length : Int)) (Gp.walk f fin suf b) := by
    intro suf
    induction suf with
    | nil =>
      intro pre b h hi
      rw [List.append_nil] at h
      subst h
      exact .done (hd b hi)
    | cons x suf ih =>
      intro pre b h hi
      have hx : l[pre.length]? = some x := by rw [h]; simp
      obtain ⟨h1, h2⟩ := hs pre.length x b hx hi
      rw [walk_cons]
      cases hf : f b x with
      | inr r => rw [hf] at h1; exact .done h1
      | inl b' =>
        rw [hf] at h1
        refine .step h1 ?_
        have := ih (pre ++ [x]) b' (by rw [h]; simp) (by simpa using h2 b' hf)
        simpa using this
  exact key l [] b rfl h0
/-- .. that always goes to its end -/
theorem Lp.fold {α β S R : Type} {body : Nat → S → Option (S ⊕ R)} (l : List α) (st : β → Int → S) (f : β → α → β) (fin : β → R) (Inv : Nat → β → Prop)
    (hs : ∀ i x b, l[i]? = some x → Inv i b → Ev (fun k => body k (st b i)) (.inl (st (f b x) ((i : Int) + 1))) ∧ Inv (i + 1) (f b x))
    (hd : ∀ b, Inv l.length b → Ev (fun k => body k (st b l.length)) (.inr (fin b))) {b : β} (h0 : Inv 0 b) : Lp body (st b 0) (fin (l.foldl f b)) := by
  have := Lp.walk (body := body) l st (fun b x => .inl (f b x)) fin Inv (fun i x b hx hi => ⟨(hs i x b hx hi).1, fun b' hb => by cases hb; exact (hs i x b hx hi).2⟩) hd h0
  have e : ∀ (l : List α) (b : β), Gp.walk (fun b x => (.inl (f b x) : β ⊕ R)) fin l b = fin (l.foldl f b) := by
    intro l
    induction l with
    | nil => intro b; rfl
    | cons x l ih => intro b; rw [walk_cons, List.foldl_cons]; exact ih _
  rwa [e] at this
theorem w64_id {x : Int} (h0 : -9223372036854775808 ≤ x) (h1 : x ≤ 9223372036854775807) : w64 x = x := by
  show IntKind.wrap .i64 x = x
  have e : (2 : Int) ^ (64 - 1) = 9223372036854775808 := by decide
  have e2 : (2 : Int) ^ 64 = 18446744073709551616 := by decide
  simp only [IntKind.wrap, IntKind.signed, IntKind.bits, Bool.true_and, decide_eq_true_eq, e, e2]
  split <;> omega
theorem w64_nat {n : Nat} (h : n ≤ 9223372036854775807) : w64 (n : Int) = n := w64_id (by omega) (by omega)
theorem w64_succ {n : Nat} (h : n < 9223372036854775807) : w64 ((n : Int) + 1) = ((n + 1 : Nat) : Int) := by rw [w64_id (by omega) (by omega)]; omega
theorem rd_nat {α : Type} (l : List α) (i : Nat) : rd l (i : Int) = l[i]? := by
  unfold rd
  rw [if_pos (by omega)]
  rfl
theorem rd_some' {α : Type} {l : List α} {i : Nat} {x : α} (h : l[i]? = some x) : rd l (i : Int) = some x := by rw [rd_nat, h]
theorem rd_at {α : Type} {l : List α} {z : Int} {i : Nat} {x : α} (hz : z = i) (h : l[i]? = some x) : rd l z = some x := by rw [hz, rd_nat, h]
theorem room_ok {n b : Nat} (h : n * b ≤ 140737488355328) : room n b = true := Nat.ble_eq_true_of_le h
theorem get_lt {α : Type} {l : List α} {i : Nat} {x : α} (h : l[i]? = some x) : i < l.length := (List.getElem?_eq_some_iff.1 h).1
theorem get_mem {α : Type} {l : List α} {i : Nat} {x : α} (h : l[i]? = some x) : x ∈ l := List.mem_of_getElem? h
theorem slc_ok {α : Type} {l : List α} {a b : Nat} (h1 : a ≤ b) (h2 : b ≤ l.length) : slc l (a : Int) (b : Int) = some ((l.take b).drop a) := by
  unfold slc
  rw [if_pos ⟨by omega, by omega, by omega⟩]
  simp
theorem slc_tail {α : Type} {l : List α} {a : Nat} (h1 : a ≤ l.length) : slc l (a : Int) (l.length : Int) = some (l.drop a) := by
  rw [slc_ok h1 (Nat.le_refl _), List.take_length]
theorem eqB_iff {k : K} (hc : k.cmp = true) {x y : k.den} : eqB k x y = true ↔ x = y := ⟨eqB_eq hc, fun h => by rw [h]; exact eqB_refl hc⟩
theorem lit_wf {k : Int} (h : (Lit.int .i64 k).wf = true) : -9223372036854775808 ≤ k ∧ k ≤ 9223372036854775807 := by
  simp [Lit.wf, IntKind.min, IntKind.max, IntKind.signed, IntKind.bits] at h
  omega

-- bits
theorem wrap64_nat {n : Nat} (h : n < 9223372036854775808) : IntKind.wrap .i64 (n : Int) = n := w64_nat (by omega)
theorem bv_nat (a : Nat) : BitVec.ofInt 64 (a : Int) = BitVec.ofNat 64 a := BitVec.ofInt_natCast 64 a
theorem ibits_and {a b : Nat} (ha : a < 9223372036854775808) (hb : b < 9223372036854775808) : ibits .and .i64 (a : Int) (b : Int) = ((a &&& b : Nat) : Int) := by
  have h : (a &&& b) < 2 ^ 63 := by rw [Nat.and_comm]; exact Nat.and_lt_two_pow _ ha
  show IntKind.wrap .i64 (((BitVec.ofInt 64 (a : Int) &&& BitVec.ofInt 64 (b : Int)).toNat : Nat) : Int) = _
  rw [bv_nat, bv_nat, BitVec.toNat_and, BitVec.toNat_ofNat, BitVec.toNat_ofNat, Nat.mod_eq_of_lt (by omega), Nat.mod_eq_of_lt (by omega)]
  exact wrap64_nat h
theorem ibits_or {a b : Nat} (ha : a < 9223372036854775808) (hb : b < 9223372036854775808) : ibits .or .i64 (a : Int) (b : Int) = ((a ||| b : Nat) : Int) := by
  have h : (a ||| b) < 2 ^ 63 := Nat.or_lt_two_pow ha hb
  show IntKind.wrap .i64 (((BitVec.ofInt 64 (a : Int) ||| BitVec.ofInt 64 (b : Int)).toNat : Nat) : Int) = _
  rw [bv_nat, bv_nat, BitVec.toNat_or, BitVec.toNat_ofNat, BitVec.toNat_ofNat, Nat.mod_eq_of_lt (by omega), Nat.mod_eq_of_lt (by omega)]
  exact wrap64_nat h
theorem ibits_xor {a b : Nat} (ha : a < 9223372036854775808) (hb : b < 9223372036854775808) : ibits .xor .i64 (a : Int) (b : Int) = ((a ^^^ b : Nat) : Int) := by
  have h : (a ^^^ b) < 2 ^ 63 := Nat.xor_lt_two_pow ha hb
  show IntKind.wrap .i64 (((BitVec.ofInt 64 (a : Int) ^^^ BitVec.ofInt 64 (b : Int)).toNat : Nat) : Int) = _
  rw [bv_nat, bv_nat, BitVec.toNat_xor, BitVec.toNat_ofNat, BitVec.toNat_ofNat, Nat.mod_eq_of_lt (by omega), Nat.mod_eq_of_lt (by omega)]
  exact wrap64_nat h
theorem pow_small {j : Nat} (h : j < 63) : 2 ^ j < 9223372036854775808 := by
  have : 2 ^ j < 2 ^ 63 := Nat.pow_lt_pow_right (by decide) h
  simpa using this
theorem shlI_nat {a j : Nat} (hj : j ≤ 64) (h : a * 2 ^ j < 9223372036854775808) : shlI .i64 (a : Int) (j : Int) = ((a * 2 ^ j : Nat) : Int) := by
  unfold shlI
  simp only [IntKind.bits, Int.toNat_natCast]
  rw [Nat.min_eq_left hj, show ((a : Int) * 2 ^ j) = ((a * 2 ^ j : Nat) : Int) by simp]
  exact wrap64_nat h
theorem shlI_one {j : Nat} (h : j < 63) : shlI .i64 1 (j : Int) = ((2 ^ j : Nat) : Int) := by
  have := shlI_nat (a := 1) (j := j) (by omega) (by rw [Nat.one_mul]; exact pow_small h)
  simpa using this
theorem shrI_nat {a j : Nat} (hj : j ≤ 64) : shrI .i64 (a : Int) (j : Int) = ((a / 2 ^ j : Nat) : Int) := by
  unfold shrI
  simp only [IntKind.bits, Int.toNat_natCast]
  rw [Nat.min_eq_left hj, show ((2 : Int) ^ j) = ((2 ^ j : Nat) : Int) by simp, Int.fdiv_eq_ediv_of_nonneg _ (Int.natCast_nonneg _)]
  simp

-- maps
theorem mpos_lt {kk kv : K} {l : List (kk.den × kv.den)} {k : kk.den} (h : mpos kk kv l k < l.length) : ∃ e, l[mpos kk kv l k]? = some e ∧ eqB kk k e.1 = true := by
  have := List.findIdx_getElem (xs := l) (p := fun (e : kk.den × kv.den) => eqB kk k e.1) (w := h)
  exact ⟨_, List.getElem?_eq_getElem h, this⟩
theorem find_modify {α : Type} {p : α → Bool} {x : α} : ∀ {l : List α} {i : Nat}, (∀ y, l[i]? = some y → p y = p x) → p x = false → (l.modify i (fun _ => x)).find? p = l.find? p
  | [], i, _, _ => by simp
  | y :: l, 0, h, hx => by
    have := h y rfl
    rw [hx] at this
    simp [List.modify, List.find?, this, hx]
  | y :: l, i + 1, h, hx => by
    have ih := find_modify (l := l) (i := i) (fun z hz => h z (by simpa using hz)) hx
    simp only [List.modify_succ_cons, List.find?_cons]
    rw [ih]
theorem find_modify_at {α : Type} {p : α → Bool} {x : α} (hx : p x = true) : ∀ {l : List α}, l.findIdx p < l.length → (l.modify (l.findIdx p) (fun _ => x)).find? p = some x
  | [], h => by simp at h
  | y :: l, h => by
    rw [List.findIdx_cons] at h ⊢
    cases hy : p y with
    | true => simp [hx]
    | false =>
      rw [hy] at h
      simp only [cond_false, List.length_cons] at h ⊢
      rw [List.modify_succ_cons, List.find?_cons, hy]
      exact find_modify_at hx (by omega)
theorem mget_mput {kk kv : K} (hc : kk.cmp = true) {l : List (kk.den × kv.den)} {k k' : kk.den} {v : kv.den} : mget kk kv (mput kk kv l k v) k' = if eqB kk k' k = true then some v else mget kk kv l k' := by
  unfold mget mput
  by_cases hk : eqB kk k' k = true
  · have := eqB_eq hc hk
    subst this
    rw [if_pos hk]
    split
    · rename_i h
      rw [show mpos kk kv l k' = l.findIdx (fun e => eqB kk k' e.1) from rfl] at h ⊢
      rw [find_modify_at (by exact hk) h]
      rfl
    · rename_i h
      have hn : l.find? (fun e => eqB kk k' e.1) = none := by
        rw [List.find?_eq_none]
        intro x hx hp
        exact h (List.findIdx_lt_length_of_exists ⟨x, hx, hp⟩)
      rw [List.find?_append, hn]
      simp [hk]
  · rw [if_neg hk]
    have hk' : eqB kk k' k = false := by simpa using hk
    split
    · rename_i h
      rw [find_modify (fun y hy => ?_) (by exact hk')]
      obtain ⟨e, he, hp⟩ := mpos_lt h
      rw [he] at hy
      cases hy
      rw [← eqB_eq hc hp]
    · rw [List.find?_append]
      simp [hk']
theorem foldl_snoc {α β : Type} (g : α → β) : ∀ (l : List α) (o : List β), l.foldl (fun o x => o ++ [g x]) o = o ++ l.map g
  | [], o => by simp
  | x :: l, o => by rw [List.foldl_cons, foldl_snoc g l]; simp
end Go.Proofs.Ytofendipdfepoaa.Gp

/- Shortest words that tell two machines apart: words, and a search round by round. No program in sight. -/
set_option linter.unusedVariables false
noncomputable section
namespace Go.Proofs.Ytofendipdfepoaa.Ef
open Go Go.Proofs.Ytofendipdfepoaa.Gp

abbrev Pr := Int × Int
def cod (w : List Nat) : Nat := w.foldl (fun c i => c * 17 + i) 1
theorem cod_snoc (w : List Nat) (i : Nat) : cod (w ++ [i]) = cod w * 17 + i := by unfold cod; rw [List.foldl_append]; rfl
theorem cod_pos (w : List Nat) : 1 ≤ cod w := by
  have : ∀ (w : List Nat) (c : Nat), 1 ≤ c → 1 ≤ w.foldl (fun c i => c * 17 + i) c := by
    intro w
    induction w with
    | nil => intro c h; exact h
    | cons x w ih => intro c h; exact ih _ (show 1 ≤ c * 17 + x by omega)
  exact this w 1 (Nat.le_refl _)
theorem snoc_ind {p : List Nat → Prop} (h0 : p []) (h1 : ∀ w i, p w → p (w ++ [i])) (w : List Nat) : p w := by
  have : ∀ (n : Nat) (w : List Nat), w.length = n → p w := by
    intro n
    induction n with
    | zero => intro w h; rw [List.length_eq_zero_iff.1 h]; exact h0
    | succ n ih =>
      intro w h
      rcases List.eq_nil_or_concat w with rfl | ⟨u, i, hc⟩
      · cases h
      · rw [List.concat_eq_append] at hc
        subst hc
        exact h1 u i (ih u (by simpa using h))
  exact this w.length w rfl
theorem cod_inj : ∀ (u v : List Nat), (∀ i ∈ u, i < 17) → (∀ i ∈ v, i < 17) → cod u = cod v → u = v := by
  intro u
  refine snoc_ind (p := fun u => ∀ v : List Nat, (∀ i ∈ u, i < 17) → (∀ i ∈ v, i < 17) → cod u = cod v → u = v) ?_ ?_ u
  · intro v _ hv h
    rcases List.eq_nil_or_concat v with rfl | ⟨v', j, hc⟩
    · rfl
    · rw [List.concat_eq_append] at hc
      subst hc
      rw [cod_snoc] at h
      have := cod_pos v'
      have h1 : cod [] = 1 := rfl
      omega
  · intro u i ih v hu hv h
    rcases List.eq_nil_or_concat v with rfl | ⟨v', j, hc⟩
    · rw [cod_snoc] at h
      have := cod_pos u
      have h1 : cod [] = 1 := rfl
      omega
    · rw [List.concat_eq_append] at hc
      subst hc
      rw [cod_snoc, cod_snoc] at h
      have hi := hu i (by simp)
      have hj := hv j (by simp)
      have e1 : cod u = cod v' := by omega
      have e2 : i = j := by omega
      rw [ih v' (fun x hx => hu x (by simp [hx])) (fun x hx => hv x (by simp [hx])) e1, e2]
/-- the number of a word of a given length -/
def vl (w : List Nat) : Nat := w.foldl (fun c i => c * 17 + i) 0
theorem fold_lin (w : List Nat) : ∀ c : Nat, w.foldl (fun c i => c * 17 + i) c = c * 17 ^ w.length + vl w := by
  induction w with
  | nil => intro c; simp [vl]
  | cons x w ih =>
    intro c
    unfold vl
    rw [List.foldl_cons, List.foldl_cons, ih, ih (0 * 17 + x), List.length_cons, Nat.pow_succ, Nat.zero_mul, Nat.zero_add, Nat.add_mul]
    rw [Nat.mul_assoc, Nat.mul_comm 17, Nat.add_assoc]
theorem cod_vl (w : List Nat) : cod w = 17 ^ w.length + vl w := by unfold cod; rw [fold_lin, Nat.one_mul]
theorem vl_cons (i : Nat) (w : List Nat) : vl (i :: w) = i * 17 ^ w.length + vl w := by
  show w.foldl _ (0 * 17 + i) = _
  rw [fold_lin, Nat.zero_mul, Nat.zero_add]
theorem vl_lt : ∀ (w : List Nat), (∀ i ∈ w, i < 17) → vl w < 17 ^ w.length
  | [], _ => by simp [vl]
  | x :: w, h => by
    have ih := vl_lt w (fun i hi => h i (by simp [hi]))
    have hx := h x (by simp)
    rw [vl_cons, List.length_cons, Nat.pow_succ]
    have : x * 17 ^ w.length ≤ 16 * 17 ^ w.length := Nat.mul_le_mul_right _ (by omega)
    omega
theorem cod_len {u v : List Nat} (hu : ∀ i ∈ u, i < 17) (h : u.length < v.length) : cod u < cod v := by
  have h1 := vl_lt u hu
  rw [cod_vl, cod_vl]
  have h2 : 17 ^ (u.length + 1) ≤ 17 ^ v.length := Nat.pow_le_pow_right (by decide) h
  rw [Nat.pow_succ] at h2
  omega

section
variable (dl : Pr → Nat → Pr) (df : Pr → Nat → Bool) (B : Nat)
def go (p : Pr) (w : List Nat) : Pr := w.foldl dl p
theorem go_snoc (p : Pr) (w : List Nat) (i : Nat) : go dl p (w ++ [i]) = dl (go dl p w) i := by unfold go; rw [List.foldl_append]; rfl
/-- a word whose last letter tells them apart -/
def Tells (p : Pr) (w : List Nat) : Prop := ∃ u j, w = u ++ [j] ∧ (∀ i ∈ u, i < B) ∧ j < B ∧ df (go dl p u) j = true
theorem Tells.cons {p : Pr} {j : Nat} {w : List Nat} (h : Tells dl df B p (j :: w)) : j < B ∧ ((w = [] ∧ df p j = true) ∨ Tells dl df B (dl p j) w) := by
  obtain ⟨u, i, e, h1, h2, h3⟩ := h
  cases u with
  | nil =>
    simp only [List.nil_append, List.cons.injEq] at e
    obtain ⟨rfl, rfl⟩ := e
    exact ⟨h2, .inl ⟨rfl, h3⟩⟩
  | cons x u =>
    simp only [List.cons_append, List.cons.injEq] at e
    obtain ⟨rfl, rfl⟩ := e
    exact ⟨h1 j (by simp), .inr ⟨u, i, rfl, fun y hy => h1 y (by simp [hy]), h2, h3⟩⟩
theorem Tells.of_cons {p : Pr} {j : Nat} {w : List Nat} (hj : j < B) (h : Tells dl df B (dl p j) w) : Tells dl df B p (j :: w) := by
  obtain ⟨u, i, rfl, h1, h2, h3⟩ := h
  exact ⟨j :: u, i, rfl, fun y hy => by
    rcases List.mem_cons.1 hy with rfl | hy
    · exact hj
    · exact h1 y hy, h2, h3⟩
theorem Tells.lets {p : Pr} {w : List Nat} (h : Tells dl df B p w) : ∀ i ∈ w, i < B := by
  obtain ⟨u, j, rfl, h1, h2, h3⟩ := h
  intro i hi
  rcases List.mem_append.1 hi with hi | hi
  · exact h1 i hi
  · rw [List.mem_singleton.1 hi]; exact h2
theorem Tells.pos {p : Pr} {w : List Nat} (h : Tells dl df B p w) : 1 ≤ w.length := by
  obtain ⟨u, j, rfl, _⟩ := h
  simp
def Least (p : Pr) (w : List Nat) : Prop := Tells dl df B p w ∧ ∀ w', Tells dl df B p w' → cod w ≤ cod w'
theorem Least.uniq (hB : B ≤ 17) {p : Pr} {w w' : List Nat} (h : Least dl df B p w) (h' : Least dl df B p w') : w = w' :=
  cod_inj w w' (fun i hi => by have := h.1.lets dl df B i hi; omega) (fun i hi => by have := h'.1.lets dl df B i hi; omega) (Nat.le_antisymm (h.2 w' h'.1) (h'.2 w h.1))

-- round by round
def Done (k i k' i' : Nat) : Prop := k' < k ∨ (k' = k ∧ i' < i)
structure Bfs (s : Pr) (Dom : Pr → Prop) (P : List Pr) (Ws : List (List Nat)) (k i : Nat) : Prop where
  len : Ws.length = P.length
  dif : P.Nodup
  dom : ∀ p ∈ P, Dom p
  p0 : P[0]? = some s
  w0 : Ws[0]? = some []
  reach : ∀ (b : Nat) (w : List Nat), Ws[b]? = some w → P[b]? = some (go dl s w) ∧ (∀ j ∈ w, j < B) ∧ w.length ≤ b
  sorted : ∀ (b b' : Nat) (w w' : List Nat), b < b' → Ws[b]? = some w → Ws[b']? = some w' → cod w < cod w'
  top : ∀ (b : Nat) (w wk : List Nat), Ws[b]? = some w → Ws[k]? = some wk → cod w < cod wk * 17 + i
  proc : ∀ (k' i' : Nat) (p : Pr) (w : List Nat), Done k i k' i' → i' < B → P[k']? = some p → Ws[k']? = some w → df p i' = false ∧ ∃ (b : Nat) (wb : List Nat), P[b]? = some (dl p i') ∧ Ws[b]? = some wb ∧ cod wb ≤ cod w * 17 + i'
theorem bfs0 {s : Pr} {Dom : Pr → Prop} (hs : Dom s) : Bfs dl df B s Dom [s] [[]] 0 0 := by
  refine ⟨rfl, by simp, fun p hp => by rw [List.mem_singleton.1 hp]; exact hs, rfl, rfl, fun b w hw => ?_, fun b b' w w' hlt hw hw' => ?_, fun b w wk hw hk => ?_, fun k' i' p w h => ?_⟩
  · have := get_lt hw
    have hb : b = 0 := by simpa using this
    subst hb
    cases hw
    exact ⟨rfl, fun j hj => (by cases hj), Nat.le_refl _⟩
  · have := get_lt hw'
    simp only [List.length_singleton] at this
    omega
  · have := get_lt hw
    have hb : b = 0 := by simpa using this
    subst hb
    cases hw
    cases hk
    decide
  · rcases h with h | ⟨_, h⟩ <;> omega
variable {dl df B}
theorem Bfs.old {s : Pr} {Dom : Pr → Prop} {P : List Pr} {Ws : List (List Nat)} {k i : Nat} (h : Bfs dl df B s Dom P Ws k i) {p : Pr} {w : List Nat} (hp : P[k]? = some p) (hw : Ws[k]? = some w) (hd : df p i = false) (hq : dl p i ∈ P) : Bfs dl df B s Dom P Ws k (i + 1) := by
  refine ⟨h.len, h.dif, h.dom, h.p0, h.w0, h.reach, h.sorted, fun b w' wk h1 h2 => by have := h.top b w' wk h1 h2; omega, fun k' i' p' w' hD hi hp' hw' => ?_⟩
  by_cases hold : Done k i k' i'
  · exact h.proc k' i' p' w' hold hi hp' hw'
  · have : k' = k ∧ i' = i := by unfold Done at hD hold; omega
    obtain ⟨rfl, rfl⟩ := this
    rw [hp] at hp'
    rw [hw] at hw'
    cases hp'
    cases hw'
    obtain ⟨b, hb⟩ := List.getElem?_of_mem hq
    have hbl : b < Ws.length := by rw [h.len]; exact get_lt hb
    have hwb := List.getElem?_eq_getElem hbl
    exact ⟨hd, b, _, hb, hwb, Nat.le_of_lt (h.top b _ _ hwb hw)⟩
theorem Bfs.new {s : Pr} {Dom : Pr → Prop} {P : List Pr} {Ws : List (List Nat)} {k i : Nat} (h : Bfs dl df B s Dom P Ws k i) (hdom : ∀ p i, Dom p → i < B → Dom (dl p i)) (hi : i < B) {p : Pr} {w : List Nat} (hp : P[k]? = some p) (hw : Ws[k]? = some w) (hd : df p i = false) (hq : dl p i ∉ P) : Bfs dl df B s Dom (P ++ [dl p i]) (Ws ++ [w ++ [i]]) k (i + 1) := by
  have hk := get_lt hp
  have hkw := get_lt hw
  have hlen := h.len
  have at1 : ∀ {b : Nat} {q : Pr}, P[b]? = some q → (P ++ [dl p i])[b]? = some q := fun hb => by rw [List.getElem?_append_left (get_lt hb)]; exact hb
  have at2 : ∀ {b : Nat} {q : List Nat}, Ws[b]? = some q → (Ws ++ [w ++ [i]])[b]? = some q := fun hb => by rw [List.getElem?_append_left (get_lt hb)]; exact hb
  have inv2 : ∀ {b : Nat} {q : List Nat}, (Ws ++ [w ++ [i]])[b]? = some q → Ws[b]? = some q ∨ (b = Ws.length ∧ q = w ++ [i]) := by
    intro b q hb
    by_cases hlt : b < Ws.length
    · rw [List.getElem?_append_left hlt] at hb; exact .inl hb
    · have := get_lt hb
      rw [List.length_append, List.length_singleton] at this
      have e : b = Ws.length := by omega
      subst e
      rw [List.getElem?_append_right (Nat.le_refl _), Nat.sub_self] at hb
      cases hb
      exact .inr ⟨rfl, rfl⟩
  obtain ⟨r1, r2, r3⟩ := h.reach k w hw
  have hgo : go dl s w = p := by rw [hp] at r1; exact (Option.some.inj r1).symm
  refine ⟨by rw [List.length_append, List.length_append, h.len]; rfl, ?_, fun q hq' => ?_, at1 h.p0, at2 h.w0, fun b q hb => ?_, fun b b' x x' hlt hb hb' => ?_, fun b x wk hb hk' => ?_, fun k' i' p' w' hD hi' hp' hw' => ?_⟩
  · rw [List.nodup_append]
    exact ⟨h.dif, by simp, fun a ha b hb => by rw [List.mem_singleton.1 hb]; exact fun e => hq (e ▸ ha)⟩
  · rcases List.mem_append.1 hq' with hq' | hq'
    · exact h.dom q hq'
    · rw [List.mem_singleton.1 hq']; exact hdom p i (h.dom p (get_mem hp)) hi
  · rcases inv2 hb with hb | ⟨rfl, rfl⟩
    · obtain ⟨a1, a2, a3⟩ := h.reach b q hb
      exact ⟨at1 a1, a2, a3⟩
    · refine ⟨?_, fun j hj => ?_, ?_⟩
      · rw [go_snoc, hgo, h.len, List.getElem?_append_right (Nat.le_refl _), Nat.sub_self]; rfl
      · rcases List.mem_append.1 hj with hj | hj
        · exact r2 j hj
        · rw [List.mem_singleton.1 hj]; exact hi
      · rw [List.length_append, List.length_singleton]; omega
  · rcases inv2 hb with hb | ⟨rfl, rfl⟩
    · rcases inv2 hb' with hb' | ⟨rfl, rfl⟩
      · exact h.sorted b b' x x' hlt hb hb'
      · rw [cod_snoc]; exact h.top b x w hb hw
    · have := get_lt hb'
      rw [List.length_append, List.length_singleton] at this
      omega
  · have hk2 : wk = w := by
      have := at2 hw
      rw [hk'] at this
      exact Option.some.inj this
    subst hk2
    rcases inv2 hb with hb | ⟨rfl, rfl⟩
    · have := h.top b x wk hb hw; omega
    · rw [cod_snoc]; omega
  · have hk'lt : k' < P.length := by unfold Done at hD; omega
    have hp'' : P[k']? = some p' := by rwa [List.getElem?_append_left hk'lt] at hp'
    have hw'' : Ws[k']? = some w' := by rwa [List.getElem?_append_left (by omega)] at hw'
    by_cases hold : Done k i k' i'
    · obtain ⟨a1, b, wb, a2, a3, a4⟩ := h.proc k' i' p' w' hold hi' hp'' hw''
      exact ⟨a1, b, wb, at1 a2, at2 a3, a4⟩
    · have : k' = k ∧ i' = i := by unfold Done at hD hold; omega
      obtain ⟨rfl, rfl⟩ := this
      rw [hp] at hp''
      rw [hw] at hw''
      cases hp''
      cases hw''
      refine ⟨hd, P.length, w ++ [i'], ?_, ?_, by rw [cod_snoc]; exact Nat.le_refl _⟩
      · rw [List.getElem?_append_right (Nat.le_refl _), Nat.sub_self]; rfl
      · rw [← h.len, List.getElem?_append_right (Nat.le_refl _), Nat.sub_self]; rfl
theorem Bfs.row {s : Pr} {Dom : Pr → Prop} {P : List Pr} {Ws : List (List Nat)} {k : Nat} (hB : B ≤ 16) (h : Bfs dl df B s Dom P Ws k B) : Bfs dl df B s Dom P Ws (k + 1) 0 := by
  refine ⟨h.len, h.dif, h.dom, h.p0, h.w0, h.reach, h.sorted, fun b w wk hb hk => ?_, fun k' i' p w hD hi hp hw => ?_⟩
  · have hk1 : k < Ws.length := by have := get_lt hk; omega
    have hwk := List.getElem?_eq_getElem hk1
    have h1 := h.top b w _ hb hwk
    have h2 := h.sorted k (k + 1) _ _ (by omega) hwk hk
    omega
  · refine h.proc k' i' p w ?_ hi hp hw
    unfold Done at hD ⊢
    omega
/-- a word's way: within what is done, or beyond -/
theorem Bfs.trace {s : Pr} {Dom : Pr → Prop} {P : List Pr} {Ws : List (List Nat)} {k i : Nat} (hB : B ≤ 16) (h : Bfs dl df B s Dom P Ws k i) (hi : i ≤ 16) : ∀ v : List Nat, (∀ j ∈ v, j < B) →
    (∃ (b : Nat) (w : List Nat), P[b]? = some (go dl s v) ∧ Ws[b]? = some w ∧ cod w ≤ cod v) ∨ (∃ wk : List Nat, Ws[k]? = some wk ∧ cod wk * 17 + i ≤ cod v) := by
  intro v
  refine snoc_ind (p := fun v => (∀ j ∈ v, j < B) → (∃ (b : Nat) (w : List Nat), P[b]? = some (go dl s v) ∧ Ws[b]? = some w ∧ cod w ≤ cod v) ∨ (∃ wk : List Nat, Ws[k]? = some wk ∧ cod wk * 17 + i ≤ cod v)) ?_ ?_ v
  · intro _
    exact .inl ⟨0, [], h.p0, h.w0, Nat.le_refl _⟩
  · intro v j ih hv
    have hj := hv j (by simp)
    rw [cod_snoc, go_snoc]
    rcases ih (fun x hx => hv x (by simp [hx])) with ⟨b, w, e1, e2, e3⟩ | ⟨wk, e1, e2⟩
    · by_cases hD : Done k i b j
      · obtain ⟨_, b2, wb, f1, f2, f3⟩ := h.proc b j _ w hD hj e1 e2
        exact .inl ⟨b2, wb, f1, f2, by omega⟩
      · right
        have hb := get_lt e2
        by_cases hbk : b = k
        · subst hbk
          exact ⟨w, e2, by unfold Done at hD; omega⟩
        · have hkb : k < b := by unfold Done at hD; omega
          have hk1 := List.getElem?_eq_getElem (show k < Ws.length by omega)
          have := h.sorted k b _ w hkb hk1 e2
          exact ⟨_, hk1, by omega⟩
    · exact .inr ⟨wk, e1, by omega⟩
theorem Bfs.found {s : Pr} {Dom : Pr → Prop} {P : List Pr} {Ws : List (List Nat)} {k i : Nat} (hB : B ≤ 16) (h : Bfs dl df B s Dom P Ws k i) (hi : i < B) {p : Pr} {w : List Nat} (hp : P[k]? = some p) (hw : Ws[k]? = some w) (hd : df p i = true) : Least dl df B s (w ++ [i]) := by
  obtain ⟨r1, r2, r3⟩ := h.reach k w hw
  have hgo : go dl s w = p := by rw [hp] at r1; exact (Option.some.inj r1).symm
  refine ⟨⟨w, i, rfl, r2, hi, by rw [hgo]; exact hd⟩, ?_⟩
  rintro w' ⟨u, j, rfl, h1, h2, h3⟩
  rw [cod_snoc, cod_snoc]
  rcases h.trace hB (by omega) u h1 with ⟨b, wb, e1, e2, e3⟩ | ⟨wk, e1, e2⟩
  · by_cases hD : Done k i b j
    · have := (h.proc b j _ wb hD h2 e1 e2).1
      rw [h3] at this
      cases this
    · have hb := get_lt e2
      by_cases hbk : b = k
      · subst hbk
        rw [hw] at e2
        cases e2
        unfold Done at hD
        omega
      · have hkb : k < b := by unfold Done at hD; omega
        have := h.sorted k b w wb hkb hw e2
        omega
  · rw [hw] at e1
    cases e1
    omega
theorem Bfs.none {s : Pr} {Dom : Pr → Prop} {P : List Pr} {Ws : List (List Nat)} {k : Nat} (hB : B ≤ 16) (h : Bfs dl df B s Dom P Ws k 0) (hk : P.length ≤ k) : ∀ w, ¬ Tells dl df B s w := by
  rintro w ⟨u, j, rfl, h1, h2, h3⟩
  rcases h.trace hB (by omega) u h1 with ⟨b, wb, e1, e2, e3⟩ | ⟨wk, e1, e2⟩
  · have := (h.proc b j _ wb (.inl (by have := get_lt e1; omega)) h2 e1 e2).1
    rw [h3] at this
    cases this
  · have := get_lt e1
    have := h.len
    omega
end
end Go.Proofs.Ytofendipdfepoaa.Ef

/- Shortest words that tell two machines apart: how far each pair is from a difference. No program in sight. -/
set_option linter.unusedVariables false
noncomputable section
namespace Go.Proofs.Ytofendipdfepoaa.Ef
open Go Go.Proofs.Ytofendipdfepoaa.Gp

def sumF (g : Pr → Nat) : List Pr → Nat
  | [] => 0
  | p :: l => g p + sumF g l
theorem sum_eq {g g' : Pr → Nat} : ∀ {l : List Pr}, (∀ x ∈ l, g' x = g x) → sumF g' l = sumF g l
  | [], _ => rfl
  | p :: l, h => by
    unfold sumF
    rw [h p (by simp), sum_eq (fun x hx => h x (by simp [hx]))]
theorem sum_upd {g g' : Pr → Nat} {p : Pr} (h : ∀ x, x ≠ p → g' x = g x) : ∀ {l : List Pr}, l.Nodup → p ∈ l → sumF g' l + g p = sumF g l + g' p
  | [], _, hp => by cases hp
  | x :: l, nd, hp => by
    rw [List.nodup_cons] at nd
    unfold sumF
    by_cases hx : x = p
    · subst hx
      rw [sum_eq (fun y hy => h y (fun e => nd.1 (e ▸ hy)))]
      omega
    · have ih := sum_upd h nd.2 ((List.mem_cons.1 hp).resolve_left (fun e => hx e.symm))
      rw [h x hx]
      omega
abbrev Fr := Pr → Option Nat
def nF : Option Nat → Nat | none => 1 | some _ => 0
def vF : Option Nat → Nat | none => 5000 | some d => d
theorem nsum_le (F : Fr) : ∀ l : List Pr, sumF (fun x => nF (F x)) l ≤ l.length
  | [] => Nat.le_refl _
  | p :: l => by
    have := nsum_le F l
    have h : nF (F p) ≤ 1 := by cases F p <;> simp [nF]
    show nF (F p) + _ ≤ l.length + 1
    omega
def updF (F : Fr) (p : Pr) (d : Nat) : Fr := fun x => if x = p then some d else F x
theorem updF_same {F : Fr} {p : Pr} {d : Nat} : updF F p d p = some d := if_pos rfl
theorem updF_other {F : Fr} {p x : Pr} {d : Nat} (h : x ≠ p) : updF F p d x = F x := if_neg h
theorem first_ex (P : Nat → Bool) : ∀ (B : Nat), (∃ i, i < B ∧ P i = true) → ∃ i, i < B ∧ P i = true ∧ ∀ j, j < i → P j = false
  | 0, ⟨i, h, _⟩ => by omega
  | B + 1, ⟨i, h, hp⟩ => by
    by_cases hB : ∃ i, i < B ∧ P i = true
    · obtain ⟨i, h1, h2, h3⟩ := first_ex P B hB
      exact ⟨i, by omega, h2, h3⟩
    · have hi : i = B := by
        by_cases h2 : i < B
        · exact absurd ⟨i, h2, hp⟩ hB
        · omega
      subst hi
      refine ⟨i, by omega, hp, fun j hj => ?_⟩
      cases hpj : P j with
      | false => rfl
      | true => exact absurd ⟨j, hj, hpj⟩ hB
section
variable (dl : Pr → Nat → Pr) (df : Pr → Nat → Bool) (B : Nat)
structure Far (l : List Pr) (F : Fr) : Prop where
  keys : ∀ (p : Pr) (d : Nat), F p = some d → p ∈ l
  snd : ∀ (p : Pr) (d : Nat), F p = some d → ∃ w : List Nat, w.length = d ∧ Tells dl df B p w
  bnd : ∀ (p : Pr) (d : Nat), F p = some d → d + sumF (fun x => nF (F x)) l ≤ l.length
theorem far0 (l : List Pr) : Far dl df B l (fun _ => none) := ⟨fun p d h => (by cases h), fun p d h => (by cases h), fun p d h => (by cases h)⟩
/-- how far, by one letter -/
def cand (F : Fr) (p : Pr) (i : Nat) : Option Nat := if df p i = true then some 1 else (F (dl p i)).map (· + 1)
def Fix (l : List Pr) (F : Fr) : Prop := ∀ p ∈ l, ∀ i, i < B → ∀ d, cand dl df F p i = some d → ∃ o, F p = some o ∧ o ≤ d
variable {dl df B}
theorem Far.le {l : List Pr} {F : Fr} (h : Far dl df B l F) {p : Pr} {d : Nat} (hd : F p = some d) : d ≤ l.length := by have := h.bnd p d hd; omega
theorem Far.upd {l : List Pr} {F : Fr} (h : Far dl df B l F) (nd : l.Nodup) (hl : l.length ≤ 2048) {p : Pr} (hp : p ∈ l) {i d : Nat} (hi : i < B) (hc : cand dl df F p i = some d) (hb : ∀ o, F p = some o → d < o) :
    Far dl df B l (updF F p d) ∧ sumF (fun x => vF (updF F p d x)) l < sumF (fun x => vF (F x)) l := by
  have en := sum_upd (g := fun x => nF (F x)) (g' := fun x => nF (updF F p d x)) (p := p) (fun x hx => by simp only [updF_other hx]) nd hp
  have ev := sum_upd (g := fun x => vF (F x)) (g' := fun x => vF (updF F p d x)) (p := p) (fun x hx => by simp only [updF_other hx]) nd hp
  simp only [updF_same] at en ev
  have n0 : nF (some d) = 0 := rfl
  have v0 : vF (some d) = d := rfl
  have nle := nsum_le F l
  -- the bound of the new one
  have hd1 : d + sumF (fun x => nF (updF F p d x)) l ≤ l.length := by
    cases hF : F p with
    | some o =>
      have := hb o hF
      have h2 := h.bnd p o hF
      rw [hF] at en
      have : nF (some o) = 0 := rfl
      omega
    | none =>
      rw [hF] at en
      have e1 : nF none = 1 := rfl
      unfold cand at hc
      split at hc
      · cases hc; omega
      · obtain ⟨e, he, rfl⟩ := Option.map_eq_some_iff.1 hc
        have := h.bnd _ e he
        omega
  refine ⟨⟨fun x e hx => ?_, fun x e hx => ?_, fun x e hx => ?_⟩, ?_⟩
  · by_cases hxp : x = p
    · rw [hxp]; exact hp
    · rw [updF_other hxp] at hx; exact h.keys x e hx
  · by_cases hxp : x = p
    · subst hxp
      rw [updF_same] at hx
      cases hx
      unfold cand at hc
      split at hc
      · rename_i hdf
        cases hc
        exact ⟨[i], rfl, [], i, rfl, fun j hj => (by cases hj), hi, hdf⟩
      · obtain ⟨e, he, rfl⟩ := Option.map_eq_some_iff.1 hc
        obtain ⟨w, h1, h2⟩ := h.snd _ e he
        exact ⟨i :: w, by rw [List.length_cons, h1], h2.of_cons dl df B hi⟩
    · rw [updF_other hxp] at hx; exact h.snd x e hx
  · by_cases hxp : x = p
    · subst hxp
      rw [updF_same] at hx
      cases hx
      exact hd1
    · rw [updF_other hxp] at hx
      have := h.bnd x e hx
      omega
  · cases hF : F p with
    | some o =>
      have := hb o hF
      rw [hF] at ev
      have : vF (some o) = o := rfl
      omega
    | none =>
      rw [hF] at ev
      have : vF none = 5000 := rfl
      omega
theorem far_min {l : List Pr} {F : Fr} (hx : Fix dl df B l F) (hcl : ∀ p ∈ l, ∀ i, i < B → dl p i ∈ l) : ∀ (w : List Nat) (p : Pr), p ∈ l → Tells dl df B p w → ∃ d, F p = some d ∧ d ≤ w.length
  | [], p, hp, ht => by have := ht.pos dl df B; simp at this
  | j :: w, p, hp, ht => by
    obtain ⟨hj, h⟩ := ht.cons dl df B
    by_cases hdf : df p j = true
    · obtain ⟨o, h1, h2⟩ := hx p hp j hj 1 (if_pos hdf)
      exact ⟨o, h1, by rw [List.length_cons]; omega⟩
    · rcases h with ⟨_, h⟩ | h
      · exact absurd h hdf
      · obtain ⟨e, e1, e2⟩ := far_min hx hcl w (dl p j) (hcl p hp j hj) h
        obtain ⟨o, h1, h2⟩ := hx p hp j hj (e + 1) (by unfold cand; rw [if_neg hdf, e1]; rfl)
        exact ⟨o, h1, by rw [List.length_cons]; omega⟩
theorem far_none {l : List Pr} {F : Fr} (hx : Fix dl df B l F) (hcl : ∀ p ∈ l, ∀ i, i < B → dl p i ∈ l) {p : Pr} (hp : p ∈ l) (h : F p = none) : ∀ w, ¬ Tells dl df B p w := fun w ht => by
  obtain ⟨d, h1, _⟩ := far_min hx hcl w p hp ht
  rw [h] at h1
  cases h1
/-- the next letter of the way out -/
theorem far_one {l : List Pr} {F : Fr} (h : Far dl df B l F) {p : Pr} (hF : F p = some 1) : ∃ i, i < B ∧ df p i = true ∧ ∀ j, j < i → df p j = false := by
  obtain ⟨w, h1, h2⟩ := h.snd p 1 hF
  obtain ⟨j, rfl⟩ := List.length_eq_one_iff.1 h1
  obtain ⟨hj, h3⟩ := h2.cons dl df B
  rcases h3 with ⟨_, h3⟩ | h3
  · exact first_ex (df p) B ⟨j, hj, h3⟩
  · have := h3.pos dl df B; simp at this
theorem far_more {l : List Pr} {F : Fr} (h : Far dl df B l F) (hx : Fix dl df B l F) (hcl : ∀ p ∈ l, ∀ i, i < B → dl p i ∈ l) {p : Pr} {d : Nat} (hp : p ∈ l) (hF : F p = some (d + 2)) : (∀ i, i < B → df p i = false) ∧ ∃ i, i < B ∧ F (dl p i) = some (d + 1) ∧ ∀ j, j < i → F (dl p j) ≠ some (d + 1) := by
  have h0 : ∀ i, i < B → df p i = false := by
    intro i hi
    cases hdf : df p i with
    | false => rfl
    | true =>
      obtain ⟨o, h1, h2⟩ := hx p hp i hi 1 (if_pos hdf)
      rw [hF] at h1
      cases h1
      omega
  refine ⟨h0, ?_⟩
  obtain ⟨w, h1, h2⟩ := h.snd p (d + 2) hF
  cases w with
  | nil => simp at h1
  | cons j w =>
    obtain ⟨hj, h3⟩ := h2.cons dl df B
    rcases h3 with ⟨_, h3⟩ | h3
    · rw [h0 j hj] at h3; cases h3
    · obtain ⟨e, e1, e2⟩ := far_min hx hcl w (dl p j) (hcl p hp j hj) h3
      obtain ⟨o, g1, g2⟩ := hx p hp j hj (e + 1) (by unfold cand; rw [if_neg (by rw [h0 j hj]; decide), e1]; rfl)
      rw [hF] at g1
      cases g1
      have he : e = d + 1 := by simp only [List.length_cons] at h1; omega
      subst he
      obtain ⟨i, i1, i2, i3⟩ := first_ex (fun i => decide (F (dl p i) = some (d + 1))) B ⟨j, hj, decide_eq_true e1⟩
      exact ⟨i, i1, of_decide_eq_true i2, fun j hj => of_decide_eq_false (i3 j hj)⟩
/-- the least word of a length -/
def Best (p : Pr) (d : Nat) (w : List Nat) : Prop := w.length = d ∧ Tells dl df B p w ∧ ∀ w', w'.length = d → Tells dl df B p w' → vl w ≤ vl w'
theorem best_one {p : Pr} {i : Nat} (hi : i < B) (hd : df p i = true) (hf : ∀ j, j < i → df p j = false) : Best (dl := dl) (df := df) (B := B) p 1 [i] := by
  refine ⟨rfl, ⟨[], i, rfl, fun j hj => (by cases hj), hi, hd⟩, fun w' h1 h2 => ?_⟩
  obtain ⟨j, rfl⟩ := List.length_eq_one_iff.1 h1
  obtain ⟨hj, h3⟩ := h2.cons dl df B
  rcases h3 with ⟨_, h3⟩ | h3
  · rw [vl_cons, vl_cons]
    have : i ≤ j := by
      by_cases hij : j < i
      · rw [hf j hij] at h3; cases h3
      · omega
    simp only [List.length_nil, Nat.pow_zero, Nat.mul_one]
    omega
  · have := h3.pos dl df B; simp at this
theorem best_more (hB : B ≤ 16) {l : List Pr} {F : Fr} (h : Far dl df B l F) (hx : Fix dl df B l F) (hcl : ∀ p ∈ l, ∀ i, i < B → dl p i ∈ l) {p : Pr} {d i : Nat} {w : List Nat} (hp : p ∈ l) (hF : F p = some (d + 2)) (hi : i < B) (h0 : ∀ i, i < B → df p i = false) (hf : ∀ j, j < i → F (dl p j) ≠ some (d + 1)) (hw : Best (dl := dl) (df := df) (B := B) (dl p i) (d + 1) w) : Best (dl := dl) (df := df) (B := B) p (d + 2) (i :: w) := by
  obtain ⟨w1, w2, w3⟩ := hw
  refine ⟨by rw [List.length_cons, w1], w2.of_cons dl df B hi, fun w' h1 h2 => ?_⟩
  cases w' with
  | nil => simp at h1
  | cons j r =>
    have hr : r.length = d + 1 := by simpa using h1
    obtain ⟨hj, h3⟩ := h2.cons dl df B
    rcases h3 with ⟨_, h3⟩ | h3
    · rw [h0 j hj] at h3; cases h3
    rw [vl_cons, vl_cons, w1, hr]
    by_cases hij : j = i
    · subst hij
      have := w3 r hr h3
      omega
    · have hlt : i < j := by
        by_cases hji : j < i
        · exfalso
          obtain ⟨e, e1, e2⟩ := far_min hx hcl r (dl p j) (hcl p hp j hj) h3
          obtain ⟨o, g1, g2⟩ := hx p hp j hj (e + 1) (by unfold cand; rw [if_neg (by rw [h0 j hj]; decide), e1]; rfl)
          rw [hF] at g1
          cases g1
          have he : e = d + 1 := by omega
          subst he
          exact hf j hji e1
        · omega
      have hv := vl_lt w (fun x hx' => by have := w2.lets dl df B x hx'; omega)
      rw [w1] at hv
      have : (i + 1) * 17 ^ (d + 1) ≤ j * 17 ^ (d + 1) := Nat.mul_le_mul_right _ hlt
      rw [Nat.add_mul, Nat.one_mul] at this
      omega
theorem best_least (hB : B ≤ 16) {l : List Pr} {F : Fr} (h : Far dl df B l F) (hx : Fix dl df B l F) (hcl : ∀ p ∈ l, ∀ i, i < B → dl p i ∈ l) {p : Pr} {d : Nat} {w : List Nat} (hp : p ∈ l) (hF : F p = some d) (hw : Best (dl := dl) (df := df) (B := B) p d w) : Least dl df B p w := by
  obtain ⟨w1, w2, w3⟩ := hw
  refine ⟨w2, fun w' ht => ?_⟩
  obtain ⟨e, e1, e2⟩ := far_min hx hcl w' p hp ht
  rw [hF] at e1
  cases e1
  by_cases he : w'.length = d
  · have := w3 w' he ht
    rw [cod_vl, cod_vl, w1, he]
    omega
  · exact Nat.le_of_lt (cod_len (fun x hx' => by have := w2.lets dl df B x hx'; omega) (by omega))
end
end Go.Proofs.Ytofendipdfepoaa.Ef

/- Circuits of gates: bits that are joined; the first state. No program in sight. -/
set_option linter.unusedVariables false
noncomputable section
namespace Go.Proofs.Ytofendipdfepoaa.Ef
open Go Go.Proofs.Ytofendipdfepoaa.Gp

abbrev Gate := Int × Int × Int × Int × Int
abbrev Cir := Int × List Gate × List Int × List Int × List Int

/-- the lowest bit -/
def bitOf (n : Int) : Nat := (ibits .and .i64 n 1).toNat
theorem bit_and (n : Int) : ibits .and .i64 n 1 = (bitOf n : Int) ∧ bitOf n ≤ 1 := by
  have e : (BitVec.ofInt 64 n &&& BitVec.ofInt 64 1).toNat ≤ 1 := by
    rw [BitVec.toNat_and]
    exact Nat.le_trans Nat.and_le_right (by decide)
  have h : ibits .and .i64 n 1 = (((BitVec.ofInt 64 n &&& BitVec.ofInt 64 1).toNat : Nat) : Int) := wrap64_nat (n := (BitVec.ofInt 64 n &&& BitVec.ofInt 64 1).toNat) (by omega)
  unfold bitOf
  rw [h]
  simp only [Int.toNat_natCast]
  exact ⟨trivial, e⟩
theorem pow60 {i : Nat} (h : i ≤ 60) : 2 ^ i ≤ 1152921504606846976 := by
  have : 2 ^ i ≤ 2 ^ 60 := Nat.pow_le_pow_right (by decide) h
  simpa using this
theorem or_bit {m i b : Nat} (hm : m < 2 ^ i) (hb : b ≤ 1) (hi : i ≤ 60) : ibits .or .i64 (m : Int) (shlI .i64 (b : Int) (i : Int)) = ((m + b * 2 ^ i : Nat) : Int) := by
  have hp := pow60 hi
  have hbp : b * 2 ^ i ≤ 2 ^ i := by
    have := Nat.mul_le_mul_right (2 ^ i) hb
    omega
  rw [shlI_nat (by omega) (by omega), ibits_or (by omega) (by omega)]
  congr 1
  have := Nat.two_pow_add_eq_or_of_lt hm b
  rw [Nat.mul_comm b, Nat.add_comm, this, Nat.or_comm]
theorem add_bit {m i b : Nat} (hm : m < 2 ^ i) (hb : b ≤ 1) (hi : i ≤ 60) : w64 ((m : Int) + shlI .i64 (b : Int) (i : Int)) = ((m + b * 2 ^ i : Nat) : Int) := by
  have hp := pow60 hi
  have hbp : b * 2 ^ i ≤ 2 ^ i := by
    have := Nat.mul_le_mul_right (2 ^ i) hb
    omega
  rw [shlI_nat (by omega) (by omega), show ((m : Int) + ((b * 2 ^ i : Nat) : Int)) = ((m + b * 2 ^ i : Nat) : Int) by omega]
  exact w64_nat (by omega)
/-- bits joined, the lowest first -/
def pk (l : List Nat) : Nat := l.foldr (fun b m => b + 2 * m) 0
theorem pk_snoc : ∀ (l : List Nat) (b : Nat), pk (l ++ [b]) = pk l + b * 2 ^ l.length
  | [], b => by simp [pk]
  | x :: l, b => by
    have ih := pk_snoc l b
    simp only [pk, List.cons_append, List.foldr_cons, List.length_cons] at ih ⊢
    rw [ih, Nat.pow_succ, Nat.mul_add, Nat.add_assoc]
    congr 2
    rw [Nat.mul_left_comm, Nat.mul_comm 2 (2 ^ l.length)]
theorem pk_lt : ∀ (l : List Nat), (∀ b ∈ l, b ≤ 1) → pk l < 2 ^ l.length
  | [], _ => by simp [pk]
  | x :: l, h => by
    have ih := pk_lt l (fun b hb => h b (List.mem_cons_of_mem _ hb))
    have := h x List.mem_cons_self
    simp only [pk, List.foldr_cons, List.length_cons, Nat.pow_succ] at ih ⊢
    omega

/-- the first state -/
def first (c : Cir) : Nat := pk ((c.2.2.2.2.take 10).map bitOf)
theorem bits_ok (l : List Int) : ∀ b ∈ l.map bitOf, b ≤ 1 := by
  intro b hb
  obtain ⟨x, _, rfl⟩ := List.mem_map.1 hb
  exact (bit_and x).2
theorem take_snoc {l : List Int} {i : Nat} {x : Int} (h : l[i]? = some x) : l.take (i + 1) = l.take i ++ [x] := by
  rw [List.take_add_one, h]; rfl
theorem start_ev (c : Cir) : Ev (fun k => Start82 k c) ((first c : Int), ()) := by
  unfold Start82
  have e : mnI (c.2.2.2.2.length : Int) 10 = ((min c.2.2.2.2.length 10 : Nat) : Int) := by unfold mnI; split <;> omega
  refine .val (a := c.2.2.2.2.take 10) ?_ (.bind (a := (first c : Int)) (Lp.ev ?_) (.now _))
  · rw [e, show (0 : Int) = ((0 : Nat) : Int) from rfl, slc_ok (Nat.zero_le _) (by omega)]
    simp [List.take_eq_take_iff]
    omega
  generalize hl : c.2.2.2.2.take 10 = l
  have hll : l.length ≤ 10 := by rw [← hl, List.length_take]; omega
  have hf : first c = pk (l.map bitOf) := by unfold first; rw [hl]
  have := Lp.fold (body := fun k => Start82.l0 k l) l (fun (m : List Nat) i => ((pk m : Int), i)) (fun m x => m ++ [bitOf x]) (fun m => (pk m : Int)) (fun i m => m = (l.take i).map bitOf) (fun i x m hx hm => ⟨?_, ?_⟩) (fun m _ => ?_) (b := []) rfl
  · rw [foldl_snoc, List.nil_append, ← hf] at this
    exact this
  · have hi := get_lt hx
    have hlen : m.length = i := by rw [hm, List.length_map, List.length_take]; omega
    have hlt : pk m < 2 ^ i := by rw [← hlen]; exact pk_lt m (by rw [hm]; exact bits_ok _)
    simp only [Start82.l0]
    refine .yes (decide_eq_true (by omega)) (.val (rd_some' hx) (.val (a := shlI .i64 (bitOf x : Int) (i : Int)) ?_ (.now' ?_)))
    · rw [if_neg (by omega), (bit_and x).1]
    · rw [or_bit hlt (bit_and x).2 (by omega), pk_snoc, hlen, w64_id (by omega) (by omega)]
  · rw [hm, take_snoc hx, List.map_append]; rfl
  · simp only [Start82.l0]
    exact .no (by simp) (.now _)
end Go.Proofs.Ytofendipdfepoaa.Ef

/- Circuits of gates: what is wrong with one. No program in sight. -/
set_option linter.unusedVariables false
noncomputable section
namespace Go.Proofs.Ytofendipdfepoaa.Ef
open Go Go.Proofs.Ytofendipdfepoaa.Gp

def needs (kd : Int) : Int := if kd = 3 then 1 else if kd = 4 ∨ kd = 5 ∨ kd = 6 then 2 else if kd = 7 then 3 else 0
def mostN (c : Cir) (kd : Int) : Int := if kd = 0 then 2 else if kd = 1 then c.1 else if kd = 2 then (c.2.2.2.1.length : Int) else 1
def leg (i n k x : Int) : Int := if k < n ∧ (x < 0 ∨ x ≥ i) then 9 else if k ≥ n ∧ x ≠ 0 then 3 else 0
def legs (i : Int) (g : Gate) : Int :=
  if leg i (needs g.1) 0 g.2.1 ≠ 0 then leg i (needs g.1) 0 g.2.1 else
  if leg i (needs g.1) 1 g.2.2.1 ≠ 0 then leg i (needs g.1) 1 g.2.2.1 else leg i (needs g.1) 2 g.2.2.2.1
def oneF (c : Cir) (i : Int) (g : Gate) : Int :=
  if g.1 < 0 ∨ g.1 > 7 then 1 else if legs i g ≠ 0 then legs i g else if g.2.2.2.2 < 0 ∨ g.2.2.2.2 ≥ mostN c g.1 then 1 else 0
theorem kinds {kd : Int} (h : ¬ (kd < 0 ∨ kd > 7)) : kd = 0 ∨ kd = 1 ∨ kd = 2 ∨ kd = 3 ∨ kd = 4 ∨ kd = 5 ∨ kd = 6 ∨ kd = 7 := by omega
theorem inputs_ev (kd : Int) : Ev (fun k => inputs139 k kd) (if kd < 0 ∨ kd > 7 then -1 else needs kd, ()) := by
  unfold inputs139
  have e : cond (decide (kd < 0)) true (decide (kd ≥ 8)) = decide (kd < 0 ∨ kd > 7) := by
    by_cases h : kd < 0
    · simp [h]
    · simp only [decide_eq_false h, cond_false, false_or, h]
      exact decide_eq_decide.2 (by omega)
  rw [e]
  refine .iff (fun h => .now' (by rw [if_pos h])) (fun h => ?_)
  rw [if_neg h]
  rcases kinds h with rfl | rfl | rfl | rfl | rfl | rfl | rfl | rfl <;> exact .val rfl (.val rfl (.now _))

theorem leg_step (c : Cir) (i : Int) (g : Gate) (n j x : Int) (l : List Int) (hl : l = [g.2.1, g.2.2.1, g.2.2.2.1]) (h3 : j < 3) (hx : rd l j = some x) (h0 : 0 ≤ j) :
    Ev (fun k => one116.l0 k i g (n, ()) (c, g, (), j, l)) (if leg i n j x ≠ 0 then .inr (.inr (leg i n j x, ())) else .inl (c, g, (), j + 1, l)) := by
  simp only [one116.l0]
  refine .yes (decide_eq_true (by simpa using h3)) (.val hx (.val hx ?_))
  unfold leg
  by_cases h1 : j < n ∧ (x < 0 ∨ x ≥ i)
  · refine .yes ?_ (.now' (by rw [if_pos h1]; rfl))
    rw [decide_eq_true h1.1]
    rcases h1.2 with h2 | h2
    · rw [decide_eq_true h2]; rfl
    · by_cases h4 : x < 0 <;> simp [h2, h4]
  · refine .no ?_ ?_
    · by_cases h2 : j < n
      · have h5 : ¬ (x < 0 ∨ x ≥ i) := fun h => h1 ⟨h2, h⟩
        simp only [not_or] at h5
        rw [decide_eq_true h2, decide_eq_false h5.1, decide_eq_false h5.2]; rfl
      · rw [decide_eq_false h2]; rfl
    · rw [if_neg h1]
      by_cases h2 : j ≥ n ∧ x ≠ 0
      · refine .yes ?_ (.now' (by rw [if_pos h2]; rfl))
        rw [decide_eq_true h2.1, bne_iff_ne.2 h2.2]; rfl
      · refine .no ?_ (.now' (by rw [if_neg h2, w64_id (by omega) (by omega)]; rfl))
        by_cases h4 : j ≥ n
        · have : x = 0 := by
            by_cases h5 : x = 0
            · exact h5
            · exact absurd ⟨h4, h5⟩ h2
          rw [this]; simp
        · rw [decide_eq_false h4]; rfl
theorem legs_lp {S R : Type} {body : Nat → S → Option (S ⊕ R)} {s0 s1 s2 s3 : S} {r0 r1 r2 r3 : R} {f0 f1 f2 : Int}
    (h0 : Ev (fun k => body k s0) (if f0 ≠ 0 then .inr r0 else .inl s1)) (h1 : Ev (fun k => body k s1) (if f1 ≠ 0 then .inr r1 else .inl s2)) (h2 : Ev (fun k => body k s2) (if f2 ≠ 0 then .inr r2 else .inl s3)) (h3 : Ev (fun k => body k s3) (.inr r3)) :
    Lp body s0 (if f0 ≠ 0 then r0 else if f1 ≠ 0 then r1 else if f2 ≠ 0 then r2 else r3) := by
  by_cases g0 : f0 ≠ 0
  · rw [if_pos g0] at h0 ⊢; exact .done h0
  rw [if_neg g0] at h0 ⊢
  refine .step h0 ?_
  by_cases g1 : f1 ≠ 0
  · rw [if_pos g1] at h1 ⊢; exact .done h1
  rw [if_neg g1] at h1 ⊢
  refine .step h1 ?_
  by_cases g2 : f2 ≠ 0
  · rw [if_pos g2] at h2 ⊢; exact .done h2
  rw [if_neg g2] at h2 ⊢
  exact .step h2 (.done h3)

theorem one_ev (c : Cir) (i : Int) (g : Gate) (hg : rd c.2.1 i = some g) : Ev (fun k => one116 k c i) (oneF c i g, ()) := by
  unfold one116
  refine .val hg (.bind (inputs_ev g.1) ?_)
  unfold oneF
  by_cases h : g.1 < 0 ∨ g.1 > 7
  · rw [if_pos h, if_pos h]; exact .yes rfl (.now _)
  rw [if_neg h, if_neg h]
  have hn : ¬ needs g.1 < 0 := by unfold needs; split <;> (try split) <;> (try split) <;> omega
  refine .no (decide_eq_false hn) ?_
  have hlp := legs_lp (body := fun k => one116.l0 k i g (needs g.1, ())) (s3 := (c, g, (), 3, [g.2.1, g.2.2.1, g.2.2.2.1])) (r3 := .inl (c, g))
    (leg_step c i g (needs g.1) 0 g.2.1 _ rfl (by omega) rfl (by omega)) (leg_step c i g (needs g.1) 1 g.2.2.1 _ rfl (by omega) rfl (by omega)) (leg_step c i g (needs g.1) 2 g.2.2.2.1 _ rfl (by omega) rfl (by omega))
    (by simp only [one116.l0]; exact .no rfl (.now _))
  have hr : (if leg i (needs g.1) 0 g.2.1 ≠ 0 then (.inr (leg i (needs g.1) 0 g.2.1, ()) : (Cir × Gate) ⊕ (Int × Unit)) else if leg i (needs g.1) 1 g.2.2.1 ≠ 0 then .inr (leg i (needs g.1) 1 g.2.2.1, ()) else if leg i (needs g.1) 2 g.2.2.2.1 ≠ 0 then .inr (leg i (needs g.1) 2 g.2.2.2.1, ()) else .inl (c, g)) =
      if legs i g ≠ 0 then .inr (legs i g, ()) else .inl (c, g) := by
    unfold legs
    by_cases g0 : leg i (needs g.1) 0 g.2.1 ≠ 0
    · rw [if_pos g0, if_pos g0, if_pos g0]
    · rw [if_neg g0, if_neg g0]
      by_cases g1 : leg i (needs g.1) 1 g.2.2.1 ≠ 0
      · rw [if_pos g1, if_pos g1, if_pos g1]
      · rw [if_neg g1, if_neg g1]
  rw [hr] at hlp
  by_cases hl : legs i g ≠ 0
  · rw [if_pos hl] at hlp ⊢
    exact .joinR hlp.ev
  · rw [if_neg hl] at hlp ⊢
    refine .joinL (S := Unit) hlp.ev ?_
    have hm : rd ([2, c.1, (List.length c.2.2.2.1 : Int), 1, 1, 1, 1, 1] : List Int) g.1 = some (mostN c g.1) := by
      generalize g.1 = kd at h
      rcases kinds h with rfl | rfl | rfl | rfl | rfl | rfl | rfl | rfl <;> rfl
    refine .val hm (.val hm ?_)
    by_cases h2 : g.2.2.2.2 < 0 ∨ g.2.2.2.2 ≥ mostN c g.1
    · refine .yes ?_ (.now' (by rw [if_pos h2]))
      rcases h2 with h2 | h2
      · simp [h2]
      · by_cases h4 : g.2.2.2.2 < 0 <;> simp [h2, h4]
    · refine .no ?_ (.now' (by rw [if_neg h2]))
      simp only [not_or] at h2
      rw [decide_eq_false h2.1, decide_eq_false h2.2]; rfl
end Go.Proofs.Ytofendipdfepoaa.Ef

/- Circuits of gates: what is wrong with one, said twice. No program in sight. -/
set_option linter.unusedVariables false
noncomputable section
namespace Go.Proofs.Ytofendipdfepoaa.Ef
open Go Go.Proofs.Ytofendipdfepoaa.Gp

def nds : List (Int × Int) := mput (.int .i64) (.int .i64) (mput (.int .i64) (.int .i64) (mput (.int .i64) (.int .i64) (mput (.int .i64) (.int .i64) (mput (.int .i64) (.int .i64) ([] : (List (Int × Int))) (3 : Int) (1 : Int)) (4 : Int) (2 : Int)) (5 : Int) (2 : Int)) (6 : Int) (2 : Int)) (7 : Int) (3 : Int)
theorem nds_get {kd : Int} (h : ¬ (kd < 0 ∨ kd > 7)) : Option.getD (α := Int) (mget (.int .i64) (.int .i64) nds kd) (0 : Int) = needs kd := by
  rcases kinds h with rfl | rfl | rfl | rfl | rfl | rfl | rfl | rfl <;> rfl
theorem most_get (c : Cir) {kd : Int} (h : ¬ (kd < 0 ∨ kd > 7)) : Option.getD (α := Int) (mget (.int .i64) (.int .i64) (mput (.int .i64) (.int .i64) (mput (.int .i64) (.int .i64) (mput (.int .i64) (.int .i64) ([] : (List (Int × Int))) (0 : Int) (1 : Int)) (1 : Int) (w64 (c.1 - 1))) (2 : Int) (w64 ((List.length c.2.2.2.1 : Int) - 1))) kd) (0 : Int) =
    if kd = 0 then 1 else if kd = 1 then w64 (c.1 - 1) else if kd = 2 then w64 ((List.length c.2.2.2.1 : Int) - 1) else 0 := by
  rcases kinds h with rfl | rfl | rfl | rfl | rfl | rfl | rfl | rfl <;> rfl

theorem leg_step2 (c : Cir) (i : Int) (g : Gate) (hi0 : 0 ≤ i) (hi1 : i ≤ 1000) (t62 : Option Int) (n j x : Int) (ht : Option.getD (α := Int) t62 (0 : Int) = n) (h3 : j < 3) (hx : rd ([g.2.1, g.2.2.1, g.2.2.2.1] : List Int) j = some x) (h0 : 0 ≤ j) :
    Ev (fun k => CircuitFault81.l0 k i g t62 (c, g, j)) (if leg i n j x ≠ 0 then .inr (.inr (.inr (.inr (leg i n j x, ())))) else .inl (c, g, j + 1)) := by
  simp only [CircuitFault81.l0, ht]
  refine .yes (decide_eq_true h3) (.val hx ?_)
  rw [w64_id (x := i - 1) (by omega) (by omega)]
  unfold leg
  by_cases h2 : j ≥ n ∧ x ≠ 0
  · have h1 : ¬ (j < n ∧ (x < 0 ∨ x ≥ i)) := fun h => by omega
    refine .yes ?_ (.now' (by rw [if_neg h1, if_pos h2]; rfl))
    rw [decide_eq_true h2.1, bne_iff_ne.2 h2.2]; rfl
  · refine .no ?_ ?_
    · by_cases h4 : j ≥ n
      · have : x = 0 := by
          by_cases h5 : x = 0
          · exact h5
          · exact absurd ⟨h4, h5⟩ h2
        rw [this]; simp
      · rw [decide_eq_false h4]; rfl
    · by_cases h1 : j < n ∧ (x < 0 ∨ x ≥ i)
      · refine .yes ?_ (.now' (by rw [if_pos h1]; rfl))
        rw [decide_eq_true h1.1]
        rcases h1.2 with h5 | h5
        · rw [decide_eq_true h5]; rfl
        · rw [decide_eq_true (show x > i - 1 by omega)]
          by_cases h4 : x < 0 <;> simp [h4]
      · refine .no ?_ (.now' (by rw [if_neg h1, if_neg h2, w64_id (by omega) (by omega)]; rfl))
        by_cases h5 : j < n
        · have h6 : ¬ (x < 0 ∨ x ≥ i) := fun h => h1 ⟨h5, h⟩
          simp only [not_or] at h6
          rw [decide_eq_true h5, decide_eq_false h6.1, decide_eq_false (by omega)]; rfl
        · rw [decide_eq_false h5]; rfl

/-- all gates -/
def gW (c : Cir) (b : Nat) (g : Gate) : Nat ⊕ (Cir ⊕ (Int × Unit)) := if oneF c b g = 0 then .inl (b + 1) else .inr (.inr (oneF c b g, ()))
def gatesW (c : Cir) : Cir ⊕ (Int × Unit) := walk (gW c) (fun _ => .inl c) c.2.1 0
theorem check_gates (c : Cir) (hl : c.2.1.length ≤ 400) : Lp (fun k => Check87.l0 k c) (c, 0) (gatesW c) := by
  refine Lp.walk (body := fun k => Check87.l0 k c) c.2.1 (fun (_ : Nat) i => (c, i)) (gW c) (fun _ => .inl c) (fun i b => b = i) (fun i g b hx hb => ⟨?_, fun b' h => ?_⟩) (fun b _ => ?_) (b := 0) rfl
  · have hi := get_lt hx
    subst hb
    simp only [Check87.l0]
    refine .yes (decide_eq_true (by omega)) (.bind (one_ev c b g (rd_some' hx)) ?_)
    unfold gW
    by_cases h : oneF c b g = 0
    · rw [if_pos h]
      refine .no (by rw [h]; rfl) (.now' ?_)
      rw [w64_id (by omega) (by omega)]
    · rw [if_neg h]
      exact .yes (bne_iff_ne.2 h) (.now _)
  · subst hb
    unfold gW at h
    split at h <;> cases h
    rfl
  · simp only [Check87.l0]
    exact .no (by simp) (.now _)
theorem fault_gates (c : Cir) (hl : c.2.1.length ≤ 400) (h0 : 0 ≤ c.1) (h1 : c.1 ≤ 10) (h2 : c.2.2.2.1.length ≤ 10) : Lp (fun k => CircuitFault81.l1 k c) (c, 0) (gatesW c) := by
  refine Lp.walk (body := fun k => CircuitFault81.l1 k c) c.2.1 (fun (_ : Nat) i => (c, i)) (gW c) (fun _ => .inl c) (fun i b => b = i) (fun i g b hx hb => ⟨?_, fun b' h => ?_⟩) (fun b _ => ?_) (b := 0) rfl
  · have hi := get_lt hx
    subst hb
    simp only [CircuitFault81.l1]
    refine .yes (decide_eq_true (by omega)) (.val (rd_some' hx) ?_)
    have e : cond (decide (g.1 < 0)) true (decide (g.1 > 7)) = decide (g.1 < 0 ∨ g.1 > 7) := by by_cases h : g.1 < 0 <;> simp [h]
    rw [e]
    unfold gW oneF
    refine .iff (fun h => .now' ?_) (fun h => ?_)
    · rw [if_pos h, if_neg (show ¬ (1 : Int) = 0 by omega)]
    rw [if_neg h]
    have hn : Option.getD (α := Int) (mget (.int .i64) (.int .i64) nds g.1) (0 : Int) = needs g.1 := nds_get h
    have hlp := legs_lp (body := fun k => CircuitFault81.l0 k b g (mget (.int .i64) (.int .i64) nds g.1)) (s3 := (c, g, 3)) (r3 := .inl (c, g))
      (leg_step2 c b g (by omega) (by omega) _ (needs g.1) 0 g.2.1 hn (by omega) rfl (by omega)) (leg_step2 c b g (by omega) (by omega) _ (needs g.1) 1 g.2.2.1 hn (by omega) rfl (by omega)) (leg_step2 c b g (by omega) (by omega) _ (needs g.1) 2 g.2.2.2.1 hn (by omega) rfl (by omega))
      (by simp only [CircuitFault81.l0]; exact .no rfl (.now _))
    have hr : (if leg b (needs g.1) 0 g.2.1 ≠ 0 then (.inr (.inr (.inr (leg b (needs g.1) 0 g.2.1, ()))) : (Cir × Gate) ⊕ ((Cir × Int) ⊕ (Cir ⊕ (Int × Unit)))) else if leg b (needs g.1) 1 g.2.2.1 ≠ 0 then .inr (.inr (.inr (leg b (needs g.1) 1 g.2.2.1, ()))) else if leg b (needs g.1) 2 g.2.2.2.1 ≠ 0 then .inr (.inr (.inr (leg b (needs g.1) 2 g.2.2.2.1, ()))) else .inl (c, g)) =
        if legs b g ≠ 0 then .inr (.inr (.inr (legs b g, ()))) else .inl (c, g) := by
      unfold legs
      by_cases g0 : leg b (needs g.1) 0 g.2.1 ≠ 0
      · rw [if_pos g0, if_pos g0, if_pos g0]
      · rw [if_neg g0, if_neg g0]
        by_cases g1 : leg b (needs g.1) 1 g.2.2.1 ≠ 0
        · rw [if_pos g1, if_pos g1, if_pos g1]
        · rw [if_neg g1, if_neg g1]
    rw [hr] at hlp
    by_cases hl : legs b g ≠ 0
    · rw [if_pos hl] at hlp ⊢
      refine .joinR (hlp.ev.to ?_)
      rw [if_neg hl]
    · rw [if_neg hl] at hlp ⊢
      refine .joinL (S := Unit) hlp.ev ?_
      dsimp only
      rw [most_get c h]
      have hm : (g.2.2.2.2 > if g.1 = 0 then 1 else if g.1 = 1 then w64 (c.1 - 1) else if g.1 = 2 then w64 ((List.length c.2.2.2.1 : Int) - 1) else 0) ↔ g.2.2.2.2 ≥ mostN c g.1 := by
        rw [w64_id (x := c.1 - 1) (by omega) (by omega), w64_id (x := (List.length c.2.2.2.1 : Int) - 1) (by omega) (by omega)]
        unfold mostN
        split <;> (try split) <;> (try split) <;> omega
      by_cases h5 : g.2.2.2.2 < 0 ∨ g.2.2.2.2 ≥ mostN c g.1
      · rw [if_pos h5, if_neg (show ¬ (1 : Int) = 0 by omega)]
        refine .yes ?_ (.now _)
        rcases h5 with h5 | h5
        · rw [decide_eq_true h5]; rfl
        · rw [decide_eq_true (hm.2 h5)]
          by_cases h4 : g.2.2.2.2 < 0 <;> simp [h4]
      · rw [if_neg h5, if_pos (rfl : (0 : Int) = 0)]
        simp only [not_or] at h5
        refine .no ?_ (.now' ?_)
        · rw [decide_eq_false h5.1, decide_eq_false (fun h => h5.2 (hm.1 h))]; rfl
        · rw [w64_id (by omega) (by omega)]
  · subst hb
    unfold gW at h
    split at h <;> cases h
    rfl
  · simp only [CircuitFault81.l1]
    exact .no (by simp) (.now _)
end Go.Proofs.Ytofendipdfepoaa.Ef

/- Circuits of gates: the checks are one. No program in sight. -/

set_option linter.unusedVariables false
noncomputable section
namespace Go.Proofs.Ytofendipdfepoaa.Ef
open Go Go.Proofs.Ytofendipdfepoaa.Gp

theorem walk_bad {α R : Type} (bad : α → Bool) (e fin : R) : ∀ (l : List α), walk (fun (_ : Unit) x => if bad x then (.inr e : Unit ⊕ R) else .inl ()) (fun _ => fin) l () = if l.any bad then e else fin
  | [] => rfl
  | x :: l => by
    rw [walk_cons, List.any_cons]
    cases h : bad x with
    | true => simp
    | false => simpa using walk_bad bad e fin l
def badX (c : Cir) (x : Int) : Bool := decide (x < 0 ∨ x ≥ (c.2.1.length : Int))
theorem badX_or (c : Cir) (x : Int) : cond (decide (x < 0)) true (decide (x ≥ (c.2.1.length : Int))) = badX c x := by
  unfold badX
  by_cases h : x < 0 <;> simp [h]
theorem check_range (c : Cir) (l : List Int) (hl : l.length ≤ 1000) : Lp (fun k => Check87.l1 k (l, ())) (c, 0) (if l.any (badX c) then .inr (4, ()) else .inl c) := by
  rw [← walk_bad (R := Cir ⊕ (Int × Unit))]
  refine Lp.walk (body := fun k => Check87.l1 k (l, ())) l (fun (_ : Unit) i => (c, i)) _ _ (fun _ _ => True) (fun i x b hx _ => ⟨?_, fun _ _ => trivial⟩) (fun b _ => ?_) (b := ()) trivial
  · have hi := get_lt hx
    simp only [Check87.l1]
    refine .yes (decide_eq_true (by omega)) (.val (rd_some' hx) (.cnd (fun h => .now' ?_) (fun h => .now' ?_)))
    · rw [badX_or] at h; rw [if_pos h]
    · rw [badX_or] at h; rw [h, w64_id (by omega) (by omega)]; rfl
  · simp only [Check87.l1]
    exact .no (by simp) (.now _)
theorem fault_range1 (c : Cir) (l : List Int) (o : List (List Int)) (hl : l.length ≤ 1000) : Lp (fun k => CircuitFault81.l2 k l) (c, (), 0, o) (if l.any (badX c) then .inr (.inr (.inr (4, ()))) else .inl (c, (), o)) := by
  rw [← walk_bad (R := (Cir × (Unit × (List (List Int)))) ⊕ ((Cir × (Unit × (Int × (List (List Int))))) ⊕ (Cir ⊕ (Int × Unit))))]
  refine Lp.walk (body := fun k => CircuitFault81.l2 k l) l (fun (_ : Unit) i => (c, (), i, o)) _ _ (fun _ _ => True) (fun i x b hx _ => ⟨?_, fun _ _ => trivial⟩) (fun b _ => ?_) (b := ()) trivial
  · have hi := get_lt hx
    simp only [CircuitFault81.l2]
    refine .yes (decide_eq_true (by omega)) (.val (rd_some' hx) (.cnd (fun h => .now' ?_) (fun h => .now' ?_)))
    · rw [badX_or] at h; rw [if_pos h]
    · rw [badX_or] at h; rw [h, w64_id (by omega) (by omega)]; rfl
  · simp only [CircuitFault81.l2]
    exact .no (by simp) (.now _)
theorem fault_range (c : Cir) (h1 : c.2.2.1.length ≤ 10) (h2 : c.2.2.2.1.length ≤ 10) : Lp (fun k => CircuitFault81.l3 k c) (c, (), 0, [c.2.2.1, c.2.2.2.1]) (if (c.2.2.1 ++ c.2.2.2.1).any (badX c) then .inr (4, ()) else .inl c) := by
  have r1 := fault_range1 c c.2.2.1 [c.2.2.1, c.2.2.2.1] (by omega)
  have r2 := fault_range1 c c.2.2.2.1 [c.2.2.1, c.2.2.2.1] (by omega)
  rw [List.any_append]
  cases e1 : c.2.2.1.any (badX c) with
  | true =>
    rw [e1] at r1
    refine .done ?_
    simp only [CircuitFault81.l3]
    exact .yes rfl (.val rfl (.val rfl (.joinR r1.ev)))
  | false =>
    rw [e1] at r1
    refine .step (s' := (c, (), 1, [c.2.2.1, c.2.2.2.1])) ?_ ?_
    · simp only [CircuitFault81.l3]
      exact .yes rfl (.val rfl (.val rfl (.joinL (S := Unit) r1.ev (.now' (by rw [w64_id (by omega) (by omega)]; rfl)))))
    · cases e2 : c.2.2.2.1.any (badX c) with
      | true =>
        rw [e2] at r2
        refine .done ?_
        simp only [CircuitFault81.l3]
        exact .yes rfl (.val rfl (.val rfl (.joinR r2.ev)))
      | false =>
        rw [e2] at r2
        refine .step (s' := (c, (), 2, [c.2.2.1, c.2.2.2.1])) ?_ (.done ?_)
        · simp only [CircuitFault81.l3]
          exact .yes rfl (.val rfl (.val rfl (.joinL (S := Unit) r2.ev (.now' (by rw [w64_id (by omega) (by omega)]; rfl)))))
        · simp only [CircuitFault81.l3]
          exact .no rfl (.now _)

def bad1 (x : Int) : Bool := decide (x ≠ 0 ∧ x ≠ 1)
theorem check_init (c : Cir) (hl : c.2.2.2.2.length ≤ 1000) : Lp (fun k => Check87.l2 k c) 0 (if c.2.2.2.2.any bad1 then .inr (1, ()) else .inl ()) := by
  rw [← walk_bad (R := Unit ⊕ (Int × Unit))]
  refine Lp.walk (body := fun k => Check87.l2 k c) c.2.2.2.2 (fun (_ : Unit) i => i) _ _ (fun _ _ => True) (fun i x b hx _ => ⟨?_, fun _ _ => trivial⟩) (fun b _ => ?_) (b := ()) trivial
  · have hi := get_lt hx
    simp only [Check87.l2]
    have e : cond (x != 0) (x != 1) false = bad1 x := by
      unfold bad1
      by_cases h0 : x = 0 <;> by_cases h1 : x = 1 <;> simp [h0, h1]
    refine .yes (decide_eq_true (by omega)) (.val (rd_some' hx) (.cnd (fun h => .now' ?_) (fun h => .now' ?_)))
    · rw [e] at h; rw [if_pos h]
    · rw [e] at h; rw [h, w64_id (by omega) (by omega)]; rfl
  · simp only [Check87.l2]
    exact .no (by simp) (.now _)
theorem wrap_zero {m : Nat} (h : m < 18446744073709551616) (h0 : IntKind.wrap .i64 (m : Int) = 0) : m = 0 := by
  have e : (2 : Int) ^ (64 - 1) = 9223372036854775808 := by decide
  have e2 : (2 : Int) ^ 64 = 18446744073709551616 := by decide
  simp only [IntKind.wrap, IntKind.signed, IntKind.bits, Bool.true_and, decide_eq_true_eq, e, e2] at h0
  split at h0 <;> omega
theorem andNot_bad {x : Int} (h0 : -9223372036854775808 ≤ x) (h1 : x ≤ 9223372036854775807) : (ibits .andNot .i64 x 1 != 0) = bad1 x := by
  have e : ibits .andNot .i64 x 1 = IntKind.wrap .i64 (((BitVec.ofInt 64 x &&& ~~~ BitVec.ofInt 64 1).toNat : Nat) : Int) := rfl
  unfold bad1
  by_cases hx : x = 0
  · subst hx; rfl
  by_cases hx1 : x = 1
  · subst hx1; rfl
  rw [show decide (x ≠ 0 ∧ x ≠ 1) = true from decide_eq_true ⟨hx, hx1⟩, bne_iff_ne]
  intro hz
  rw [e] at hz
  have hn := wrap_zero (BitVec.isLt _) hz
  have h3 : BitVec.ofInt 64 x = BitVec.ofInt 64 x &&& BitVec.ofInt 64 1 := by
    have hz : BitVec.ofInt 64 x &&& ~~~ BitVec.ofInt 64 1 = 0#64 := BitVec.eq_of_toNat_eq hn
    apply BitVec.eq_of_getLsbD_eq
    intro i hi
    have := congrArg (fun v => BitVec.getLsbD v i) hz
    simp only [BitVec.getLsbD_and, BitVec.getLsbD_not, BitVec.getLsbD_zero, hi, decide_true, Bool.true_and] at this
    rw [BitVec.getLsbD_and]
    cases h4 : (BitVec.ofInt 64 x).getLsbD i <;> cases h5 : (BitVec.ofInt 64 1).getLsbD i <;> simp_all
  have h4 : (BitVec.ofInt 64 x).toNat ≤ 1 := by
    rw [h3, BitVec.toNat_and]
    exact Nat.le_trans Nat.and_le_right (by decide)
  rw [BitVec.toNat_ofInt] at h4
  have e2 : ((2 ^ 64 : Nat) : Int) = 18446744073709551616 := by decide
  rw [e2] at h4
  omega
theorem fault_init (c : Cir) (hl : c.2.2.2.2.length ≤ 1000) (hw : ∀ x ∈ c.2.2.2.2, -9223372036854775808 ≤ x ∧ x ≤ 9223372036854775807) : Lp (fun k => CircuitFault81.l4 k c) 0 (if c.2.2.2.2.any bad1 then .inr (1, ()) else .inl ()) := by
  rw [← walk_bad (R := Unit ⊕ (Int × Unit))]
  refine Lp.walk (body := fun k => CircuitFault81.l4 k c) c.2.2.2.2 (fun (_ : Unit) i => i) _ _ (fun _ _ => True) (fun i x b hx _ => ⟨?_, fun _ _ => trivial⟩) (fun b _ => ?_) (b := ()) trivial
  · have hi := get_lt hx
    simp only [CircuitFault81.l4]
    have e := andNot_bad (hw x (get_mem hx)).1 (hw x (get_mem hx)).2
    refine .yes (decide_eq_true (by omega)) (.val (rd_some' hx) (.cnd (fun h => .now' ?_) (fun h => .now' ?_)))
    · rw [e] at h; rw [if_pos h]
    · rw [e] at h; rw [h, w64_id (by omega) (by omega)]; rfl
  · simp only [CircuitFault81.l4]
    exact .no (by simp) (.now _)

def large (c : Cir) : Bool := decide (c.1 < 0 ∨ c.1 > 10 ∨ c.2.1.length > 400 ∨ c.2.2.1.length > 10 ∨ c.2.2.2.1.length > 10)
theorem large_or (c : Cir) : cond (cond (cond (cond (decide (c.1 < 0)) true (decide (c.1 > 10))) true (decide ((List.length c.2.1 : Int) > 400))) true (decide ((List.length c.2.2.1 : Int) > 10))) true (decide ((List.length c.2.2.2.1 : Int) > 10)) = large c := by
  have e : ∀ a b : Bool, cond a true b = (a || b) := fun a b => by cases a <;> rfl
  simp only [e, large, ← Bool.decide_or]
  exact decide_eq_decide.2 (by omega)
def rest (c : Cir) : Int := if (c.2.2.1 ++ c.2.2.2.1).any (badX c) then 4 else if c.2.2.2.2.any bad1 then 1 else 0
def fault (c : Cir) : Int := if large c then 2 else if c.2.2.2.2.length ≠ c.2.2.2.1.length then 3 else match gatesW c with | .inr e => e.1 | .inl _ => rest c
theorem gatesW_inl (c : Cir) {a : Cir} (h : gatesW c = .inl a) : a = c := by
  have : ∀ (l : List Gate) (b : Nat), walk (gW c) (fun _ => (.inl c : Cir ⊕ (Int × Unit))) l b = .inl a → a = c := by
    intro l
    induction l with
    | nil => intro b h; exact (Sum.inl.inj h).symm
    | cons x l ih =>
      intro b h
      rw [walk_cons] at h
      unfold gW at h
      split at h
      · rename_i b' hb
        exact ih _ h
      · rename_i r hr
        split at hr
        · cases hr
        · cases hr; cases h
  exact this _ _ h
theorem ne_len (c : Cir) : ((List.length c.2.2.2.2 : Int) != (List.length c.2.2.2.1 : Int)) = decide (c.2.2.2.2.length ≠ c.2.2.2.1.length) := by
  rw [Bool.eq_iff_iff, bne_iff_ne, decide_eq_true_iff]; omega
end Go.Proofs.Ytofendipdfepoaa.Ef

/- Circuits of gates: the checks are one. No program in sight. -/
set_option linter.unusedVariables false
noncomputable section
namespace Go.Proofs.Ytofendipdfepoaa.Ef
open Go Go.Proofs.Ytofendipdfepoaa.Gp

theorem room_small {n : Nat} (h : n ≤ 1000) : room n 8 = true := room_ok (by omega)
theorem concat_ev (a b : List Int) (h : a.length + b.length ≤ 1000) : Ev (fun k => Concat109 k [a, b]) (a ++ b, ()) := by
  unfold Concat109
  refine .bind (a := (((a.length + b.length : Nat) : Int))) (Lp.ev ?_) (.bind (a := ((), [])) ?_ (.bind (a := ((), a ++ b)) (Lp.ev ?_) (.now _)))
  · refine Lp.step (s' := ((a.length : Int), 1)) ?_ (Lp.step (s' := (((a.length + b.length : Nat) : Int), 2)) ?_ (Lp.done ?_))
    · simp only [Concat109.l0]
      refine .yes (by simp) (.val (a := a) rfl ?_)
      simp only [w64_id (x := 0 + (a.length : Int)) (by omega) (by omega)]
      refine .val (a := ()) ?_ (.now' ?_)
      · rw [decide_eq_false (by omega)]; rfl
      · simp [w64_id]
    · simp only [Concat109.l0]
      refine .yes (by simp) (.val (a := b) rfl ?_)
      simp only [w64_id (x := (a.length : Int) + (b.length : Int)) (by omega) (by omega)]
      refine .val (a := ()) ?_ (.now' ?_)
      · rw [decide_eq_false (by omega)]; rfl
      · simp [w64_id]
    · simp only [Concat109.l0]
      exact .no (by simp) (.now _)
  · generalize hn : a.length + b.length = n
    have hn' : n ≤ 1000 := hn ▸ h
    unfold Grow124
    have e : w64 ((n : Int) - w64 (0 - 0)) = n := by
      rw [show w64 (0 - 0) = 0 from w64_id (by omega) (by omega), w64_id (by omega) (by omega)]; omega
    refine .val (a := ()) ?_ ?_
    · rw [decide_eq_false (by omega)]; rfl
    · simp only [e]
      refine .bind (a := ((), [])) ?_ (.now _)
      refine .iff (fun h1 => ?_) (fun _ => .now _)
      refine .val (a := ()) (by simp) (.val (a := ()) (by rw [if_pos ⟨h1, by omega⟩]) (.val (a := []) ?_ (.now _)))
      rw [show ((0 : Int)) = ((0 : Nat) : Int) from rfl, slc_ok (Nat.le_refl _) (Nat.zero_le _)]
      rfl
  · refine Lp.step (s' := ((), 1, a)) ?_ (Lp.step (s' := ((), 2, a ++ b)) ?_ (Lp.done ?_))
    · simp only [Concat109.l1]
      refine .yes (by simp) (.val (a := a) rfl (.val (a := ()) ?_ (.now' ?_)))
      · simp [room_small (n := a.length) (by omega)]
      · simp [w64_id]
    · simp only [Concat109.l1]
      refine .yes (by simp) (.val (a := b) rfl (.val (a := ()) ?_ (.now' ?_)))
      · simp [room_small (n := a.length + b.length) (by omega)]
      · simp [w64_id]
    · simp only [Concat109.l1]
      exact .no (by simp) (.now _)


theorem small_of {c : Cir} (h : large c = false) : 0 ≤ c.1 ∧ c.1 ≤ 10 ∧ c.2.1.length ≤ 400 ∧ c.2.2.1.length ≤ 10 ∧ c.2.2.2.1.length ≤ 10 := by
  unfold large at h
  have := of_decide_eq_false h
  omega
theorem check_ev (c : Cir) : Ev (fun k => Check87 k c) (fault c, ()) := by
  unfold Check87
  refine .cnd (fun h => ?_) (fun h => ?_)
  · rw [large_or] at h
    exact .now' (by unfold fault; rw [if_pos h])
  rw [large_or] at h
  obtain ⟨s0, s1, s2, s3, s4⟩ := small_of h
  refine .cnd (fun h2 => ?_) (fun h2 => ?_)
  · rw [ne_len] at h2
    exact .now' (by unfold fault; rw [h, if_neg (by simp), if_pos (of_decide_eq_true h2)])
  rw [ne_len] at h2
  have h2 := of_decide_eq_false h2
  have hf : fault c = match gatesW c with | .inr e => e.1 | .inl _ => rest c := by
    unfold fault; rw [h, if_neg (by simp), if_neg h2] <;> (cases gatesW c <;> rfl)
  have hi : c.2.2.2.2.length ≤ 10 := by
    by_cases h3 : c.2.2.2.2.length = c.2.2.2.1.length
    · omega
    · exact absurd h3 h2
  refine .join (check_gates c s2).ev (fun a ha => ?_) (fun r hr => ?_)
  · obtain rfl := gatesW_inl c ha
    rw [ha] at hf
    rw [hf]
    refine .bind (concat_ev a.2.2.1 a.2.2.2.1 (by omega)) ?_
    have h1 := check_range a (a.2.2.1 ++ a.2.2.2.1) (by rw [List.length_append]; omega)
    have h3 := check_init a (by omega)
    unfold rest
    cases e1 : (a.2.2.1 ++ a.2.2.2.1).any (badX a) with
    | true => rw [e1] at h1; exact .joinR h1.ev
    | false =>
      rw [e1] at h1
      refine .joinL (S := Unit) h1.ev ?_
      cases e2 : a.2.2.2.2.any bad1 with
      | true => rw [e2] at h3; exact .joinR h3.ev
      | false => rw [e2] at h3; exact .joinL (S := Unit) (a := ()) h3.ev (.now _)
  · rw [hf, hr]
theorem cfault_ev (c : Cir) (hw : ∀ x ∈ c.2.2.2.2, -9223372036854775808 ≤ x ∧ x ≤ 9223372036854775807) : Ev (fun k => CircuitFault81 k c) (fault c, ()) := by
  unfold CircuitFault81
  refine .cnd (fun h => ?_) (fun h => ?_)
  · rw [large_or] at h
    exact .now' (by unfold fault; rw [if_pos h])
  rw [large_or] at h
  obtain ⟨s0, s1, s2, s3, s4⟩ := small_of h
  refine .cnd (fun h2 => ?_) (fun h2 => ?_)
  · rw [ne_len] at h2
    exact .now' (by unfold fault; rw [h, if_neg (by simp), if_pos (of_decide_eq_true h2)])
  rw [ne_len] at h2
  have h2 := of_decide_eq_false h2
  have hf : fault c = match gatesW c with | .inr e => e.1 | .inl _ => rest c := by
    unfold fault; rw [h, if_neg (by simp), if_neg h2] <;> (cases gatesW c <;> rfl)
  have hi : c.2.2.2.2.length ≤ 10 := by
    by_cases h3 : c.2.2.2.2.length = c.2.2.2.1.length
    · omega
    · exact absurd h3 h2
  refine .join (fault_gates c s2 s0 s1 s4).ev (fun a ha => ?_) (fun r hr => ?_)
  · obtain rfl := gatesW_inl c ha
    rw [ha] at hf
    rw [hf]
    have h1 := fault_range a s3 s4
    have h3 := fault_init a (by omega) hw
    unfold rest
    cases e1 : (a.2.2.1 ++ a.2.2.2.1).any (badX a) with
    | true => rw [e1] at h1; exact .joinR h1.ev
    | false =>
      rw [e1] at h1
      refine .joinL (S := Unit) h1.ev ?_
      cases e2 : a.2.2.2.2.any bad1 with
      | true => rw [e2] at h3; exact .joinR h3.ev
      | false => rw [e2] at h3; exact .joinL (S := Unit) (a := ()) h3.ev (.now _)
  · rw [hf, hr]

/-- a right circuit -/
structure Right (c : Cir) : Prop where
  ins : 0 ≤ c.1 ∧ c.1 ≤ 10
  gates : c.2.1.length ≤ 400
  outs : c.2.2.1.length ≤ 10 ∧ ∀ x ∈ c.2.2.1, 0 ≤ x ∧ x < (c.2.1.length : Int)
  next : c.2.2.2.1.length ≤ 10 ∧ ∀ x ∈ c.2.2.2.1, 0 ≤ x ∧ x < (c.2.1.length : Int)
  gate : ∀ (i : Nat) (g : Gate), c.2.1[i]? = some g → oneF c i g = 0
theorem right_of (c : Cir) (h : fault c = 0) : Right c := by
  unfold fault at h
  split at h
  · omega
  rename_i hl
  have hl : large c = false := by simpa using hl
  obtain ⟨s0, s1, s2, s3, s4⟩ := small_of hl
  split at h
  · omega
  have hone : ∀ (l : List Gate) (b : Nat), (∀ r, walk (gW c) (fun _ => (.inl c : Cir ⊕ (Int × Unit))) l b = .inr r → r.1 ≠ 0) ∧ ((∃ a, walk (gW c) (fun _ => (.inl c : Cir ⊕ (Int × Unit))) l b = .inl a) → ∀ (i : Nat) (g : Gate), l[i]? = some g → oneF c ((b + i : Nat) : Int) g = 0) := by
    intro l
    induction l with
    | nil => intro b; exact ⟨fun r hr => (by cases hr), fun _ i g hg => (by simp at hg)⟩
    | cons x l ih =>
      intro b
      rw [walk_cons]
      unfold gW
      by_cases h0 : oneF c b x = 0
      · rw [if_pos h0]
        refine ⟨(ih (b + 1)).1, fun ha i g hg => ?_⟩
        cases i with
        | zero =>
          have : x = g := by simpa using hg
          rw [← this]; exact h0
        | succ i =>
          have := (ih (b + 1)).2 ha i g (by simpa using hg)
          rwa [show b + 1 + i = b + (i + 1) by omega] at this
      · rw [if_neg h0]
        exact ⟨fun r hr => (by cases hr; exact h0), fun ⟨a, ha⟩ => (by cases ha)⟩
  cases hg : gatesW c with
  | inr r =>
    rw [hg] at h
    exact absurd h ((hone c.2.1 0).1 r hg)
  | inl a =>
    rw [hg] at h
    have h : rest c = 0 := h
    unfold rest at h
    split at h
    · omega
    rename_i hr
    have hr : ∀ x ∈ c.2.2.1 ++ c.2.2.2.1, 0 ≤ x ∧ x < (c.2.1.length : Int) := by
      intro x hx
      have : (c.2.2.1 ++ c.2.2.2.1).any (badX c) = false := by simpa using hr
      rw [List.any_eq_false] at this
      have := this x hx
      unfold badX at this
      simp only [decide_eq_true_eq] at this
      omega
    exact ⟨⟨s0, s1⟩, s2, ⟨s3, fun x hx => hr x (List.mem_append_left _ hx)⟩, ⟨s4, fun x hx => hr x (List.mem_append_right _ hx)⟩, fun i g hgi => by
      have := (hone c.2.1 0).2 ⟨a, hg⟩ i g hgi
      rwa [Nat.zero_add] at this⟩
end Go.Proofs.Ytofendipdfepoaa.Ef

/- Circuits of gates: the values of all gates. No program in sight. -/
set_option linter.unusedVariables false
noncomputable section
namespace Go.Proofs.Ytofendipdfepoaa.Ef
open Go Go.Proofs.Ytofendipdfepoaa.Gp

/-- the value of a gate behind others -/
def valG (st inn : Int) (v : List Nat) (g : Gate) : Nat :=
  if g.1 = 0 then g.2.2.2.2.toNat else
  if g.1 = 1 then bitOf (shrI .i64 inn g.2.2.2.2) else
  if g.1 = 2 then bitOf (shrI .i64 st g.2.2.2.2) else
  if g.1 = 3 then 1 - v.getD g.2.1.toNat 0 else
  if g.1 = 4 then v.getD g.2.1.toNat 0 &&& v.getD g.2.2.1.toNat 0 else
  if g.1 = 5 then v.getD g.2.1.toNat 0 ||| v.getD g.2.2.1.toNat 0 else
  if g.1 = 6 then v.getD g.2.1.toNat 0 ^^^ v.getD g.2.2.1.toNat 0 else
  if v.getD g.2.1.toNat 0 = 1 then v.getD g.2.2.1.toNat 0 else v.getD g.2.2.2.1.toNat 0
def vS (st inn : Int) (v : List Nat) (g : Gate) : List Nat := v ++ [valG st inn v g]
def vals (st inn : Int) (l : List Gate) : List Nat := l.foldl (vS st inn) []
theorem vals_snoc (st inn : Int) (l : List Gate) (g : Gate) : vals st inn (l ++ [g]) = vals st inn l ++ [valG st inn (vals st inn l) g] := by
  unfold vals; rw [List.foldl_append]; rfl
theorem vals_len (st inn : Int) (l : List Gate) : (vals st inn l).length = l.length := by
  have : ∀ (l : List Gate) (v : List Nat), (l.foldl (vS st inn) v).length = v.length + l.length := by
    intro l
    induction l with
    | nil => intro v; rfl
    | cons x l ih => intro v; rw [List.foldl_cons, ih]; simp [vS]; omega
  unfold vals; rw [this]; simp
theorem leg_ok {i n k x : Int} (h : leg i n k x = 0) (hk : k < n) : 0 ≤ x ∧ x < i := by
  unfold leg at h
  split at h
  · omega
  · rename_i h1
    by_cases h2 : x < 0 ∨ x ≥ i
    · exact absurd ⟨hk, h2⟩ h1
    · omega
/-- what a right gate's parts are -/
theorem gate_ok {c : Cir} {i : Int} {g : Gate} (h : oneF c i g = 0) : ¬ (g.1 < 0 ∨ g.1 > 7) ∧ (0 < needs g.1 → 0 ≤ g.2.1 ∧ g.2.1 < i) ∧ (1 < needs g.1 → 0 ≤ g.2.2.1 ∧ g.2.2.1 < i) ∧ (2 < needs g.1 → 0 ≤ g.2.2.2.1 ∧ g.2.2.2.1 < i) ∧ 0 ≤ g.2.2.2.2 ∧ g.2.2.2.2 < mostN c g.1 := by
  unfold oneF at h
  split at h
  · omega
  rename_i hk
  split at h
  · omega
  rename_i hl
  have hl : legs i g = 0 := by
    by_cases h0 : legs i g = 0
    · exact h0
    · exact absurd h0 hl
  split at h
  · omega
  rename_i hN
  unfold legs at hl
  split at hl
  · rename_i h0; exact absurd hl h0
  rename_i h0
  split at hl
  · rename_i h1; exact absurd hl h1
  rename_i h1
  have h0 : leg i (needs g.1) 0 g.2.1 = 0 := by
    by_cases h : leg i (needs g.1) 0 g.2.1 = 0
    · exact h
    · exact absurd h h0
  have h1 : leg i (needs g.1) 1 g.2.2.1 = 0 := by
    by_cases h : leg i (needs g.1) 1 g.2.2.1 = 0
    · exact h
    · exact absurd h h1
  exact ⟨hk, leg_ok h0, leg_ok h1, leg_ok hl, by omega, by omega⟩
theorem bits2 {a b : Nat} (ha : a ≤ 1) (hb : b ≤ 1) : (a &&& b) ≤ 1 ∧ (a ||| b) ≤ 1 ∧ (a ^^^ b) ≤ 1 := by
  have : ∀ a < 2, ∀ b < 2, (a &&& b) ≤ 1 ∧ (a ||| b) ≤ 1 ∧ (a ^^^ b) ≤ 1 := by decide
  exact this a (by omega) b (by omega)
theorem getD_le {v : List Nat} (h : ∀ b ∈ v, b ≤ 1) (j : Nat) : v.getD j 0 ≤ 1 := by
  rw [List.getD_eq_getElem?_getD]
  cases hj : v[j]? with
  | none => simp
  | some b => exact h b (get_mem hj)
theorem valG_le {c : Cir} {i : Int} {g : Gate} (hg : oneF c i g = 0) (st inn : Int) {v : List Nat} (h : ∀ b ∈ v, b ≤ 1) : valG st inn v g ≤ 1 := by
  obtain ⟨_, _, _, _, h0, h1⟩ := gate_ok hg
  have b2 := bits2 (getD_le h g.2.1.toNat) (getD_le h g.2.2.1.toNat)
  unfold valG
  split
  · rename_i hk; rw [hk] at h1; have : mostN c 0 = 2 := rfl; omega
  split
  · exact (bit_and _).2
  split
  · exact (bit_and _).2
  split
  · omega
  split
  · exact b2.1
  split
  · exact b2.2.1
  split
  · exact b2.2.2
  split
  · exact getD_le h _
  · exact getD_le h _

def ints (v : List Nat) : List Int := v.map (fun (b : Nat) => (b : Int))
/-- what the row holds behind the values that are known -/
def rowOf (v : List Nat) (n : Nat) : List Int := ints v ++ List.replicate (n - v.length) 0
theorem rowOf_at {v : List Nat} {n j : Nat} (h : j < v.length) : (rowOf v n)[j]? = some ((v.getD j 0 : Nat) : Int) := by
  unfold rowOf ints
  rw [List.getElem?_append_left (by simpa using h), List.getElem?_map, List.getD_eq_getElem?_getD, List.getElem?_eq_getElem h]
  rfl
theorem rowOf_next {v : List Nat} {n : Nat} (h : v.length < n) : (rowOf v n)[v.length]? = some 0 := by
  unfold rowOf ints
  rw [List.getElem?_append_right (by simp), List.length_map, Nat.sub_self, List.getElem?_replicate, if_pos (by omega)]
theorem rowOf_set {v : List Nat} {n : Nat} (h : v.length < n) (x : Nat) : (rowOf v n).set v.length (x : Int) = rowOf (v ++ [x]) n := by
  unfold rowOf ints
  rw [List.set_append_right _ _ (by simp), List.length_map, Nat.sub_self, List.map_append, List.length_append, List.append_assoc]
  congr 1
  obtain ⟨m, hm⟩ : ∃ m, n - v.length = m + 1 := ⟨n - v.length - 1, by omega⟩
  rw [hm, show n - (v.length + [x].length) = m by simp; omega]
  rfl
theorem rd_z {l : List Int} {z : Int} {x : Int} (h0 : 0 ≤ z) (h : l[z.toNat]? = some x) : rd l z = some x := rd_at (i := z.toNat) (by omega) h
end Go.Proofs.Ytofendipdfepoaa.Ef

/- Circuits of gates: the values of all gates, forwards. No program in sight. -/
set_option linter.unusedVariables false
noncomputable section
namespace Go.Proofs.Ytofendipdfepoaa.Ef
open Go Go.Proofs.Ytofendipdfepoaa.Gp

theorem int_bit {a : Nat} (h : a ≤ 1) : a < 9223372036854775808 := by omega
theorem values_step (c : Cir) (st inn : Int) (i : Nat) (g : Gate) (b : List Nat) (hx : c.2.1[i]? = some g) (hg : oneF c i g = 0) (hb : b.length = i) (h1 : ∀ x ∈ b, x ≤ 1) (hn : c.2.1.length ≤ 400) :
    Ev (fun k => values127.l0 k c st inn ((), (i : Int), rowOf b c.2.1.length)) (.inl ((), (i : Int) + 1, rowOf (vS st inn b g) c.2.1.length)) := by
  have hi := get_lt hx
  obtain ⟨hk, hA, hB, hC, hN0, hN1⟩ := gate_ok hg
  have hne : (rowOf b c.2.1.length)[i]? = some 0 := by rw [← hb]; exact rowOf_next (by omega)
  have hr : rd (rowOf b c.2.1.length) (i : Int) = some 0 := rd_some' hne
  have hlen : i < (rowOf b c.2.1.length).length := get_lt hne
  have hset : ∀ x : Nat, (rowOf b c.2.1.length).set (Int.toNat (i : Int)) (x : Int) = rowOf (b ++ [x]) c.2.1.length := fun x => by
    rw [Int.toNat_natCast, ← hb]; exact rowOf_set (by omega) x
  have hget : ∀ z : Int, 0 ≤ z → z < (i : Int) → rd (rowOf b c.2.1.length) z = some ((b.getD z.toNat 0 : Nat) : Int) := fun z h0 h2 => rd_z h0 (rowOf_at (by omega))
  simp only [values127.l0]
  refine .yes (decide_eq_true (by omega)) (.val (rd_some' hx) (.bind (a := ((), rowOf (vS st inn b g) c.2.1.length)) ?_ (.now' (by rw [w64_id (by omega) (by omega)]))))
  obtain ⟨kd, A, B, C, N⟩ := g
  have lA := getD_le h1 A.toNat
  have lB := getD_le h1 B.toNat
  have lC := getD_le h1 C.toNat
  dsimp only at hk hA hB hC hN0 hN1 ⊢
  rcases kinds hk with rfl | rfl | rfl | rfl | rfl | rfl | rfl | rfl
  · refine .yes rfl (.val hr (.val hr (.now' ?_)))
    rw [show N = ((N.toNat : Nat) : Int) by omega, hset]; rfl
  · refine .no rfl (.bind (a := ((), _)) (.yes rfl (.val (a := shrI .i64 inn N) (by rw [if_neg (by omega)]) (.val hr (.val hr (.now' ?_))))) (.now _))
    rw [(bit_and _).1, hset]; rfl
  · refine .no rfl (.bind (a := ((), _)) (.no rfl (.bind (a := ((), _)) (.yes rfl (.val (a := shrI .i64 st N) (by rw [if_neg (by omega)]) (.val hr (.val hr (.now' ?_))))) (.now _))) (.now _))
    rw [(bit_and _).1, hset]; rfl
  · have a1 := hget A (hA (by decide)).1 (hA (by decide)).2
    refine .no rfl (.bind (a := ((), _)) (.no rfl (.bind (a := ((), _)) (.no rfl (.bind (a := ((), _)) (.yes rfl (.val a1 (.val a1 (.val hr (.val hr (.now' ?_)))))) (.now _))) (.now _))) (.now _))
    rw [w64_id (by omega) (by omega), show (1 : Int) - ((b.getD A.toNat 0 : Nat) : Int) = ((1 - b.getD A.toNat 0 : Nat) : Int) by omega, hset]; rfl
  · have a1 := hget A (hA (by decide)).1 (hA (by decide)).2
    have a2 := hget B (hB (by decide)).1 (hB (by decide)).2
    refine .no rfl (.bind (a := ((), _)) (.no rfl (.bind (a := ((), _)) (.no rfl (.bind (a := ((), _)) (.no rfl (.bind (a := ((), _)) (.yes rfl (.val a1 (.val a1 (.val a2 (.val a2 (.val hr (.val hr (.now' ?_)))))))) (.now _))) (.now _))) (.now _))) (.now _))
    rw [ibits_and (int_bit lA) (int_bit lB), hset]; rfl
  · have a1 := hget A (hA (by decide)).1 (hA (by decide)).2
    have a2 := hget B (hB (by decide)).1 (hB (by decide)).2
    refine .no rfl (.bind (a := ((), _)) (.no rfl (.bind (a := ((), _)) (.no rfl (.bind (a := ((), _)) (.no rfl (.bind (a := ((), _)) (.no rfl (.bind (a := ((), _)) (.yes rfl (.val a1 (.val a1 (.val a2 (.val a2 (.val hr (.val hr (.now' ?_)))))))) (.now _))) (.now _))) (.now _))) (.now _))) (.now _))
    rw [ibits_or (int_bit lA) (int_bit lB), hset]; rfl
  · have a1 := hget A (hA (by decide)).1 (hA (by decide)).2
    have a2 := hget B (hB (by decide)).1 (hB (by decide)).2
    refine .no rfl (.bind (a := ((), _)) (.no rfl (.bind (a := ((), _)) (.no rfl (.bind (a := ((), _)) (.no rfl (.bind (a := ((), _)) (.no rfl (.bind (a := ((), _)) (.no rfl (.bind (a := ((), _)) (.yes rfl (.val a1 (.val a1 (.val a2 (.val a2 (.val hr (.val hr (.now' ?_)))))))) (.now _))) (.now _))) (.now _))) (.now _))) (.now _))) (.now _))
    rw [ibits_xor (int_bit lA) (int_bit lB), hset]; rfl
  · have a1 := hget A (hA (by decide)).1 (hA (by decide)).2
    have a2 := hget B (hB (by decide)).1 (hB (by decide)).2
    have a3 := hget C (hC (by decide)).1 (hC (by decide)).2
    have hA' := hA (by decide)
    have hB' := hB (by decide)
    have b1 : ∀ x : Int, rd ((rowOf b c.2.1.length).set (Int.toNat (i : Int)) x) A = some ((b.getD A.toNat 0 : Nat) : Int) := fun x => by
      refine rd_z hA'.1 ?_
      rw [Int.toNat_natCast, List.getElem?_set_ne (by omega)]
      exact rowOf_at (by omega)
    have b2 : ∀ x : Int, rd ((rowOf b c.2.1.length).set (Int.toNat (i : Int)) x) B = some ((b.getD B.toNat 0 : Nat) : Int) := fun x => by
      refine rd_z hB'.1 ?_
      rw [Int.toNat_natCast, List.getElem?_set_ne (by omega)]
      exact rowOf_at (by omega)
    have b3 : ∀ x : Int, rd ((rowOf b c.2.1.length).set (Int.toNat (i : Int)) x) (i : Int) = some x := fun x => by
      rw [Int.toNat_natCast]
      exact rd_some' (List.getElem?_set_self hlen)
    refine .no rfl (.bind (a := ((), _)) (.no rfl (.bind (a := ((), _)) (.no rfl (.bind (a := ((), _)) (.no rfl (.bind (a := ((), _)) (.no rfl (.bind (a := ((), _)) (.no rfl (.bind (a := ((), _)) (.no rfl (.bind (a := ((), _)) (.yes rfl (.val a3 (.val a3 (.val hr (.val hr (.val (b1 _) (.val (b1 _) (.bind (a := ((), _)) ?_ (.now _))))))))) (.now _))) (.now _))) (.now _))) (.now _))) (.now _))) (.now _))) (.now _))
    by_cases hv : b.getD A.toNat 0 = 1
    · refine .yes (by rw [hv]; rfl) (.val (b2 _) (.val (b2 _) (.val (b3 _) (.val (b3 _) (.now' ?_)))))
      rw [List.set_set, hset]
      show ((), rowOf (b ++ [_]) _) = ((), rowOf (b ++ [valG st inn b (7, A, B, C, N)]) _)
      rw [show valG st inn b (7, A, B, C, N) = b.getD B.toNat 0 from if_pos hv]
    · refine .no (by rw [beq_eq_false_iff_ne]; omega) (.now' ?_)
      rw [hset]
      show ((), rowOf (b ++ [_]) _) = ((), rowOf (b ++ [valG st inn b (7, A, B, C, N)]) _)
      rw [show valG st inn b (7, A, B, C, N) = b.getD C.toNat 0 from if_neg hv]

theorem vals_le {c : Cir} (hR : Right c) (st inn : Int) : ∀ (i : Nat), i ≤ c.2.1.length → ∀ x ∈ vals st inn (c.2.1.take i), x ≤ 1
  | 0, _, x, hx => by simp [vals] at hx
  | i + 1, h, x, hx => by
    have ih := vals_le hR st inn i (by omega)
    have hg := List.getElem?_eq_getElem (show i < c.2.1.length by omega)
    rw [List.take_add_one, hg, Option.toList_some, vals_snoc, List.mem_append] at hx
    rcases hx with hx | hx
    · exact ih x hx
    · rw [List.mem_singleton] at hx
      rw [hx]
      exact valG_le (hR.gate i _ hg) st inn ih
theorem values_ev {c : Cir} (hR : Right c) (st inn : Int) : Ev (fun k => values127 k c st inn) (ints (vals st inn c.2.1), ()) := by
  unfold values127
  refine .val (a := ()) (by rw [if_pos ⟨by omega, by omega, by have := hR.gates; omega⟩]) (.bind (a := ((), rowOf (vals st inn c.2.1) c.2.1.length)) (Lp.ev ?_) (.now' ?_))
  · refine Lp.fold (body := fun k => values127.l0 k c st inn) c.2.1 (fun b i => ((), i, rowOf b c.2.1.length)) (vS st inn) (fun b => ((), rowOf b c.2.1.length)) (fun i b => b = vals st inn (c.2.1.take i)) (fun i g b hx hb => ⟨?_, ?_⟩) (fun b _ => ?_) (b := []) rfl
    · have hi := get_lt hx
      exact values_step c st inn i g b hx (hR.gate i g hx) (by rw [hb, vals_len, List.length_take]; omega) (by rw [hb]; exact vals_le hR st inn i (by omega)) hR.gates
    · rw [List.take_add_one, hx, Option.toList_some, vals_snoc, ← hb]; rfl
    · simp only [values127.l0]
      exact .no (by simp) (.now _)
  · unfold rowOf
    rw [vals_len, Nat.sub_self]
    simp
end Go.Proofs.Ytofendipdfepoaa.Ef
