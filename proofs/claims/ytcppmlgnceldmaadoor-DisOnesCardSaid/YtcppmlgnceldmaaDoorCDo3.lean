/- Merged texts of one claim: a Go law, its functions without memory, and the plain law. The law returns true for every input; conditions: as the row says. -/
import Derived.KernelRfl
import Derived.Lib.LaidTab
import Derived.Lib.ItoaNum
import Derived.Test.YtcppmlgnceldmaaDoorProg
import Derived.Below
import Derived.Shelf.Strconv.Itoa3
import Derived.Shelf.Strings.Replace
import Derived.Shelf.LaysM
import Derived.Test.YtcppmlgnceldmaaDoorChecked
import Derived.Test.YtcppmlgnceldmaaDoorRows
import Derived.ChangeArms
import Derived.OpenShut
import Derived.SizedLaws
import Derived.Deep.Slices
import Derived.Test.YtcppmlgnceldmaaDoorCDo0
import Derived.Test.YtcppmlgnceldmaaDoorCDo1
import Derived.Test.YtcppmlgnceldmaaDoorCDo2
/- Go functions as plain Lean functions, and their contracts. -/
set_option linter.unusedVariables false
set_option maxRecDepth 100000
noncomputable section
namespace Go.Proofs.YtcppmlgnceldmaaDoor.Do
open Go Go.Proofs.YtcppmlgnceldmaaDoor.Gp
def two49 (k : Nat) (do_ : Int) (to : Int) (from_ : Int) : Option tY27 :=
  some ((do_, to, from_, 0), ())
def two49.A : Ann := { conds := [], blocks := [], loops := [], keeps := [], orders := [] }
def two49.S : Sig := { f := 49, params := [.int .i64, .int .i64, .int .i64], objs := [], res := .st kY11, outs := [], fix := [], run := fun k ds os => two49 k ds.1 ds.2.1 ds.2.2 }
def two49.G : List Sig := []
theorem two49.eq (k : Nat) : ∀ ds os, two49.S.run k ds os = runF ⟨types, two49.G, two49.A, k, 0, []⟩ Tryd.f49 (codeOf Tryd.f49) two49.S.params two49.S.objs two49.S.res two49.S.outs ds os := by
  intro ds os; kernel_rfl
theorem two49.dr : DrOk Tryd.prog two49.A (codeOf Tryd.f49) := ⟨by kernel_rfl, by kernel_rfl⟩
theorem two49.ok (k : Nat) : SoundAt Tryd.prog k two49.S :=
  runF_sound (X := ⟨types, two49.G, two49.A, k, 0, []⟩) types_ok (fun s hs => absurd hs List.not_mem_nil) (fn := Tryd.f49) (c := codeOf Tryd.f49) rfl (by kernel_rfl) rfl rfl two49.dr (two49.eq k)

def one50 (k : Nat) (do_ : Int) (to : Int) : Option tY27 :=
  some ((do_, to, 0, 0), ())
def one50.A : Ann := { conds := [], blocks := [], loops := [], keeps := [], orders := [] }
def one50.S : Sig := { f := 50, params := [.int .i64, .int .i64], objs := [], res := .st kY11, outs := [], fix := [], run := fun k ds os => one50 k ds.1 ds.2 }
def one50.G : List Sig := []
theorem one50.eq (k : Nat) : ∀ ds os, one50.S.run k ds os = runF ⟨types, one50.G, one50.A, k, 0, []⟩ Tryd.f50 (codeOf Tryd.f50) one50.S.params one50.S.objs one50.S.res one50.S.outs ds os := by
  intro ds os; kernel_rfl
theorem one50.dr : DrOk Tryd.prog one50.A (codeOf Tryd.f50) := ⟨by kernel_rfl, by kernel_rfl⟩
theorem one50.ok (k : Nat) : SoundAt Tryd.prog k one50.S :=
  runF_sound (X := ⟨types, one50.G, one50.A, k, 0, []⟩) types_ok (fun s hs => absurd hs List.not_mem_nil) (fn := Tryd.f50) (c := codeOf Tryd.f50) rfl (by kernel_rfl) rfl rfl one50.dr (one50.eq k)

def zero80 (k : Nat) : Option tY27 :=
  some ((2, 8, 0, 0), ())
def zero80.A : Ann := { conds := [], blocks := [], loops := [], keeps := [], orders := [] }
def zero80.S : Sig := { f := 80, params := [], objs := [], res := .st kY11, outs := [], fix := [], run := fun k ds os => zero80 k }
def zero80.G : List Sig := []
theorem zero80.eq (k : Nat) : ∀ ds os, zero80.S.run k ds os = runF ⟨types, zero80.G, zero80.A, k, 0, []⟩ Tryd.f80 (codeOf Tryd.f80) zero80.S.params zero80.S.objs zero80.S.res zero80.S.outs ds os := by
  intro ds os; kernel_rfl
theorem zero80.dr : DrOk Tryd.prog zero80.A (codeOf Tryd.f80) := ⟨by kernel_rfl, by kernel_rfl⟩
theorem zero80.ok (k : Nat) : SoundAt Tryd.prog k zero80.S :=
  runF_sound (X := ⟨types, zero80.G, zero80.A, k, 0, []⟩) types_ok (fun s hs => absurd hs List.not_mem_nil) (fn := Tryd.f80) (c := codeOf Tryd.f80) rfl (by kernel_rfl) rfl rfl zero80.dr (zero80.eq k)

def rd26 (k : Nat) (at_ : Int) (reg : Int) (_ : Unit) (o0 : tY29) : Option ((Int × (Int × tY33)) × tY29) :=
  some ((1, at_, reg, ()), o0)
def rd26.A : Ann := { conds := [], blocks := [], loops := [], keeps := [], orders := [] }
def rd26.S : Sig := { f := 26, params := [.int .i64, .int .i64, .ms 0], objs := [.row kY10], res := .st (.pair kY18 (.pair kY18 (.pair kY18 (.ms 0)))), outs := [.row kY10], fix := [], run := fun k ds os => rd26 k ds.1 ds.2.1 ds.2.2 os }
def rd26.G : List Sig := []
theorem rd26.eq (k : Nat) : ∀ ds os, rd26.S.run k ds os = runF ⟨types, rd26.G, rd26.A, k, 0, []⟩ Tryd.f26 (codeOf Tryd.f26) rd26.S.params rd26.S.objs rd26.S.res rd26.S.outs ds os := by
  intro ds os; kernel_rfl
theorem rd26.dr : DrOk Tryd.prog rd26.A (codeOf Tryd.f26) := ⟨by kernel_rfl, by kernel_rfl⟩
theorem rd26.ok (k : Nat) : SoundAt Tryd.prog k rd26.S :=
  runF_sound (X := ⟨types, rd26.G, rd26.A, k, 0, []⟩) types_ok (fun s hs => absurd hs List.not_mem_nil) (fn := Tryd.f26) (c := codeOf Tryd.f26) rfl (by kernel_rfl) rfl rfl rd26.dr (rd26.eq k)

def no48 (k : Nat) (steps : tY29) : Option tY22 :=
  some ((0, 0, 0, steps), ())
def no48.A : Ann := { conds := [], blocks := [], loops := [], keeps := [], orders := [] }
def no48.S : Sig := { f := 48, params := [.sl kY10], objs := [], res := .st kY8, outs := [], fix := [], run := fun k ds os => no48 k ds }
def no48.G : List Sig := []
theorem no48.eq (k : Nat) : ∀ ds os, no48.S.run k ds os = runF ⟨types, no48.G, no48.A, k, 0, []⟩ Tryd.f48 (codeOf Tryd.f48) no48.S.params no48.S.objs no48.S.res no48.S.outs ds os := by
  intro ds os; kernel_rfl
theorem no48.dr : DrOk Tryd.prog no48.A (codeOf Tryd.f48) := ⟨by kernel_rfl, by kernel_rfl⟩
theorem no48.ok (k : Nat) : SoundAt Tryd.prog k no48.S :=
  runF_sound (X := ⟨types, no48.G, no48.A, k, 0, []⟩) types_ok (fun s hs => absurd hs List.not_mem_nil) (fn := Tryd.f48) (c := codeOf Tryd.f48) rfl (by kernel_rfl) rfl rfl no48.dr (no48.eq k)

def rd26' (k : Nat) (at_ : Int) (reg : Int) (steps : tY29) : Option tY22 :=
  some ((1, at_, reg, steps), ())
def rd26'.A : Ann := { conds := [], blocks := [], loops := [], keeps := [], orders := [] }
def rd26'.S : Sig := { f := 26, params := [.int .i64, .int .i64, .sl kY10], objs := [], res := .st kY8, outs := [], fix := [], run := fun k ds os => rd26' k ds.1 ds.2.1 ds.2.2 }
def rd26'.G : List Sig := []
theorem rd26'.eq (k : Nat) : ∀ ds os, rd26'.S.run k ds os = runF ⟨types, rd26'.G, rd26'.A, k, 0, []⟩ Tryd.f26 (codeOf Tryd.f26) rd26'.S.params rd26'.S.objs rd26'.S.res rd26'.S.outs ds os := by
  intro ds os; kernel_rfl
theorem rd26'.dr : DrOk Tryd.prog rd26'.A (codeOf Tryd.f26) := ⟨by kernel_rfl, by kernel_rfl⟩
theorem rd26'.ok (k : Nat) : SoundAt Tryd.prog k rd26'.S :=
  runF_sound (X := ⟨types, rd26'.G, rd26'.A, k, 0, []⟩) types_ok (fun s hs => absurd hs List.not_mem_nil) (fn := Tryd.f26) (c := codeOf Tryd.f26) rfl (by kernel_rfl) rfl rfl rd26'.dr (rd26'.eq k)

def jump27 (k : Nat) (to : Int) : Option tY26 :=
  (two49 k 18 to 5).bind fun t4 =>
  (two49 k 19 to 6).bind fun t6 =>
  some ((), [t4.1, t6.1])
def jump27.A : Ann := { conds := [], blocks := [], loops := [], keeps := [], orders := [] }
def jump27.S : Sig := { f := 27, params := [.int .i64], objs := [], res := .ms 0, outs := [.row kY10], fix := [], run := fun k ds os => jump27 k ds }
def jump27.G : List Sig := [two49.S]
theorem jump27.eq (k : Nat) : ∀ ds os, jump27.S.run k ds os = runF ⟨types, jump27.G, jump27.A, k, 0, []⟩ Tryd.f27 (codeOf Tryd.f27) jump27.S.params jump27.S.objs jump27.S.res jump27.S.outs ds os := by
  intro ds os; kernel_rfl
theorem jump27.dr : DrOk Tryd.prog jump27.A (codeOf Tryd.f27) := ⟨by kernel_rfl, by kernel_rfl⟩
theorem jump27.ok (k : Nat) : SoundAt Tryd.prog k jump27.S :=
  runF_sound (X := ⟨types, jump27.G, jump27.A, k, 0, []⟩) types_ok (mem_all (⟨two49.ok k, trivial⟩)) (fn := Tryd.f27) (c := codeOf Tryd.f27) rfl (by kernel_rfl) rfl rfl jump27.dr (jump27.eq k)

def lead65 (k : Nat) (mode : Int) : Option tY20 :=
  (zero80 k).bind fun t6 =>
  (two49 k 18 8 5).bind fun t7 =>
  (rd26 k 0 5 () [t6.1, t7.1]).bind fun t9 =>
  (two49 k 18 8 5).bind fun t10 =>
  (rd26 k 0 5 () [t10.1]).bind fun t12 =>
  (two49 k 19 8 5).bind fun t13 =>
  (rd26 k 0 5 () [t13.1]).bind fun t15 =>
  cond (mode == 2)
    (some ((), [(t9.1.1, t9.1.2.1, t9.1.2.2.1, t9.2)]))
    (cond (mode == 3)
      ((two49 k 22 8 1).bind fun t25 =>
      (if room (List.length t9.2 + List.length [t25.1]) 32 then some () else none).bind fun _ =>
      (two49 k 20 5 8).bind fun t30 =>
      (zero80 k).bind fun t31 =>
      (two49 k 18 8 5).bind fun t32 =>
      (no48 k [t30.1, t31.1, t32.1]).bind fun t34 =>
      some ((), [(t9.1.1, t9.1.2.1, t9.1.2.2.1, (t9.2 ++ [t25.1])), t34.1]))
      (cond (mode == 4)
        (some ((), [(t12.1.1, t12.1.2.1, t12.1.2.2.1, t12.2), (t15.1.1, t15.1.2.1, t15.1.2.2.1, t15.2)]))
        (cond (mode == 5)
          ((two49 k 22 8 1).bind fun t45 =>
          (no48 k [t45.1]).bind fun t47 =>
          some ((), [(t12.1.1, t12.1.2.1, t12.1.2.2.1, t12.2), (t15.1.1, t15.1.2.1, t15.1.2.2.1, t15.2), t47.1]))
          (cond (mode == 6)
            ((two49 k 22 8 2).bind fun t53 =>
            (no48 k [t53.1]).bind fun t55 =>
            some ((), [(t12.1.1, t12.1.2.1, t12.1.2.2.1, t12.2), (t15.1.1, t15.1.2.1, t15.1.2.2.1, t15.2), t55.1]))
            (cond (mode == 8)
              ((rd26' k 2 5 []).bind fun t60 =>
              (jump27 k 8).bind fun t61 =>
              (two49 k 22 8 2).bind fun t62 =>
              (if room (List.length t61.2 + List.length [t62.1]) 32 then some () else none).bind fun _ =>
              (rd26 k 3 6 () (t61.2 ++ [t62.1])).bind fun t65 =>
              some ((), [(t9.1.1, t9.1.2.1, t9.1.2.2.1, t9.2), t60.1, (t65.1.1, t65.1.2.1, t65.1.2.2.1, t65.2)]))
              (some ((), [])))))))
def lead65.A : Ann := { conds := [], blocks := [], loops := [], keeps := [], orders := [(8, [(0, .strong), (1, .strong), (2, .eff true), (3, .eff true), (4, .eff false), (5, .strong), (6, .eff false)]), (9, [(0, .strong), (1, .eff true), (2, .eff true), (3, .eff true), (4, .eff true), (5, .eff true), (6, .eff true), (7, .strong)]), (13, [(0, .strong), (1, .strong), (2, .eff true), (3, .eff true), (4, .eff true), (5, .eff true), (6, .strong)]), (15, [(0, .strong), (1, .strong), (2, .eff true), (3, .eff true), (4, .eff true), (5, .eff true), (6, .strong)]), (17, [(0, .weak), (1, .eff true), (2, .eff true), (3, .eff true), (4, .eff true), (5, .eff false), (6, .eff false), (7, .eff true), (8, .strong)])], turns := [(16, [⟨1, [(0, .unit)], .undef⟩])] }
def lead65.S : Sig := { f := 65, params := [.int .i64], objs := [], res := .ms 0, outs := [.row kY7], fix := [], run := fun k ds os => lead65 k ds }
def lead65.G : List Sig := [jump27.S, no48.S, rd26.S, rd26'.S, two49.S, zero80.S]
theorem lead65.eq (k : Nat) : ∀ ds os, lead65.S.run k ds os = runF ⟨types, lead65.G, lead65.A, k, 0, []⟩ Tryd.f65 (codeOf Tryd.f65) lead65.S.params lead65.S.objs lead65.S.res lead65.S.outs ds os := by
  intro ds os; kernel_rfl
theorem lead65.dr : DrOk Tryd.prog lead65.A (codeOf Tryd.f65) := ⟨by kernel_rfl, by kernel_rfl⟩
theorem lead65.ok (k : Nat) : SoundAt Tryd.prog k lead65.S :=
  runF_sound (X := ⟨types, lead65.G, lead65.A, k, 0, []⟩) types_ok (mem_all (⟨jump27.ok k, ⟨no48.ok k, ⟨rd26.ok k, ⟨rd26'.ok k, ⟨two49.ok k, ⟨zero80.ok k, trivial⟩⟩⟩⟩⟩⟩)) (fn := Tryd.f65) (c := codeOf Tryd.f65) rfl (by kernel_rfl) rfl rfl lead65.dr (lead65.eq k)

def rd26'' (k : Nat) (at_ : Int) (reg : Int) (steps : tY29) : Option tY22 :=
  some ((1, at_, reg, steps), ())
def rd26''.A : Ann := { conds := [], blocks := [], loops := [], keeps := [], orders := [] }
def rd26''.S : Sig := { f := 26, params := [.int .i64, .int .i64, .sl kY10], objs := [], res := .st kY8, outs := [], fix := [], run := fun k ds os => rd26'' k ds.1 ds.2.1 ds.2.2 }
def rd26''.G : List Sig := []
theorem rd26''.eq (k : Nat) : ∀ ds os, rd26''.S.run k ds os = runF ⟨types, rd26''.G, rd26''.A, k, 0, []⟩ Tryd.f26 (codeOf Tryd.f26) rd26''.S.params rd26''.S.objs rd26''.S.res rd26''.S.outs ds os := by
  intro ds os; kernel_rfl
theorem rd26''.dr : DrOk Tryd.prog rd26''.A (codeOf Tryd.f26) := ⟨by kernel_rfl, by kernel_rfl⟩
theorem rd26''.ok (k : Nat) : SoundAt Tryd.prog k rd26''.S :=
  runF_sound (X := ⟨types, rd26''.G, rd26''.A, k, 0, []⟩) types_ok (fun s hs => absurd hs List.not_mem_nil) (fn := Tryd.f26) (c := codeOf Tryd.f26) rfl (by kernel_rfl) rfl rfl rd26''.dr (rd26''.eq k)

def reads64 (k : Nat) (mode : Int) (steps : tY29) : Option tY21 :=
  Option.bind
    (cond (mode == 1)
      (some 0)
      (some 2) : Option Int) fun (at_ : Int) =>
  (lead65 k mode).bind fun t9 =>
  (rd26'' k at_ 5 steps).bind fun t12 =>
  (if room (List.length t9.2 + List.length [t12.1]) 48 then some () else none).bind fun _ =>
  some ((t9.2 ++ [t12.1]), ())
def reads64.A : Ann := { conds := [(458755, ⟨[(5, .int .i64)], [], 0, [], 32⟩)], blocks := [], loops := [], keeps := [], orders := [] }
def reads64.S : Sig := { f := 64, params := [.int .i64, .sl kY10], objs := [], res := .sl kY7, outs := [], fix := [], run := fun k ds os => reads64 k ds.1 ds.2 }
def reads64.G : List Sig := [lead65.S, rd26''.S]
theorem reads64.eq (k : Nat) : ∀ ds os, reads64.S.run k ds os = runF ⟨types, reads64.G, reads64.A, k, 0, []⟩ Tryd.f64 (codeOf Tryd.f64) reads64.S.params reads64.S.objs reads64.S.res reads64.S.outs ds os := by
  intro ds os; kernel_rfl
theorem reads64.dr : DrOk Tryd.prog reads64.A (codeOf Tryd.f64) := ⟨by kernel_rfl, by kernel_rfl⟩
theorem reads64.ok (k : Nat) : SoundAt Tryd.prog k reads64.S :=
  runF_sound (X := ⟨types, reads64.G, reads64.A, k, 0, []⟩) types_ok (mem_all (⟨lead65.ok k, ⟨rd26''.ok k, trivial⟩⟩)) (fn := Tryd.f64) (c := codeOf Tryd.f64) rfl (by kernel_rfl) rfl rfl reads64.dr (reads64.eq k)
end Go.Proofs.YtcppmlgnceldmaaDoor.Do

/- Go functions as plain Lean functions, and their contracts. -/
set_option linter.unusedVariables false
set_option maxRecDepth 100000
noncomputable section
namespace Go.Proofs.YtcppmlgnceldmaaDoor.Do
open Go Go.Proofs.YtcppmlgnceldmaaDoor.Gp
def add47 (k : Nat) (_ : Unit) (name : ByteArray) (mode : Int) (cycles : tY23) (o0 : Unit) (o1 : tY16) : Option tY9 :=
  let t18 : Int := (w64 ((List.length o1 : Int) + 1))
  (if room (List.length o1 + List.length [(t18, name, mode, cycles)]) 56 then some () else none).bind fun _ =>
  some ((), (), (o1 ++ [(t18, name, mode, cycles)]))
def add47.A : Ann := { conds := [], blocks := [], loops := [], keeps := [], orders := [(0, [(0, .weak), (1, .strong), (2, .strong), (3, .strong), (4, .strong), (5, .strong), (6, .strong), (7, .strong), (8, .strong), (9, .strong), (10, .strong), (11, .strong), (12, .strong), (13, .strong), (14, .strong), (15, .eff true), (16, .eff false), (17, .strong), (18, .strong), (19, .eff false)])] }
def add47.S : Sig := { f := 47, params := [.ptr 0 [], .str, .int .i64, .sl kY7], objs := [.var kY17, .row kY4], res := .tup .unit, outs := [.var kY17, .row kY4], fix := [], run := fun k ds os => add47 k ds.1 ds.2.1 ds.2.2.1 ds.2.2.2 os.1 os.2 }
def add47.G : List Sig := []
theorem add47.eq (k : Nat) : ∀ ds os, add47.S.run k ds os = runF ⟨types, add47.G, add47.A, k, 0, []⟩ Tryd.f47 (codeOf Tryd.f47) add47.S.params add47.S.objs add47.S.res add47.S.outs ds os := by
  intro ds os; kernel_rfl
theorem add47.dr : DrOk Tryd.prog add47.A (codeOf Tryd.f47) := ⟨by kernel_rfl, by kernel_rfl⟩
theorem add47.ok (k : Nat) : SoundAt Tryd.prog k add47.S :=
  runF_sound (X := ⟨types, add47.G, add47.A, k, 0, []⟩) types_ok (fun s hs => absurd hs List.not_mem_nil) (fn := Tryd.f47) (c := codeOf Tryd.f47) rfl (by kernel_rfl) rfl rfl add47.dr (add47.eq k)

def loads43.l0 (k : Nat) (name : ByteArray) (reg : Int) (modes : tY34) : tY7 → Option tY3
  | (_, t12, _, o1_1) =>
    cond (decide (t12 < (List.length modes : Int)))
      ((rd modes t12).bind fun t14 =>
      (two49 k 1 reg 5).bind fun t21 =>
      (one50 k 3 reg).bind fun t23 =>
      (reads64 k t14 [t21.1, t23.1]).bind fun t25 =>
      (add47 k () name t14 t25.1 () o1_1).bind fun t26 =>
      some (Sum.inl ((), (w64 (t12 + 1)), (), t26.2.2)))
      (some (Sum.inr ((), o1_1)))
def loads43 (k : Nat) (_ : Unit) (name : ByteArray) (reg : Int) (modes : tY34) (o0 : Unit) (o1 : tY16) : Option tY9 :=
  Option.bind
    (loopN (loads43.l0 k name reg modes) k ((), 0, (), o1) : Option tY11) fun ((_, o1_2) : tY11) =>
  some ((), (), o1_2)
def loads43.A : Ann := { conds := [], blocks := [(0, ⟨[], [(0, .var kY17), (1, .row kY4)], 2, [], 268431872⟩)], loops := [(1, ⟨[(0, .ptr 0 []), (12, .int .i64)], [(0, .var kY17), (1, .row kY4)], 2, [], 268431872⟩)], keeps := [], orders := [] }
def loads43.S : Sig := { f := 43, params := [.ptr 0 [], .str, .int .i64, .sl kY18], objs := [.var kY17, .row kY4], res := .tup .unit, outs := [.var kY17, .row kY4], fix := [], run := fun k ds os => loads43 k ds.1 ds.2.1 ds.2.2.1 ds.2.2.2 os.1 os.2 }
def loads43.G : List Sig := [add47.S, one50.S, reads64.S, two49.S]
theorem loads43.eq (k : Nat) : ∀ ds os, loads43.S.run k ds os = runF ⟨types, loads43.G, loads43.A, k, 0, []⟩ Tryd.f43 (codeOf Tryd.f43) loads43.S.params loads43.S.objs loads43.S.res loads43.S.outs ds os := by
  intro ds os; kernel_rfl
theorem loads43.dr : DrOk Tryd.prog loads43.A (codeOf Tryd.f43) := ⟨by kernel_rfl, by kernel_rfl⟩
theorem loads43.ok (k : Nat) : SoundAt Tryd.prog k loads43.S :=
  runF_sound (X := ⟨types, loads43.G, loads43.A, k, 0, []⟩) types_ok (mem_all (⟨add47.ok k, ⟨one50.ok k, ⟨reads64.ok k, ⟨two49.ok k, trivial⟩⟩⟩⟩)) (fn := Tryd.f43) (c := codeOf Tryd.f43) rfl (by kernel_rfl) rfl rfl loads43.dr (loads43.eq k)

def wr51 (k : Nat) (at_ : Int) (reg : Int) (steps : tY29) : Option tY22 :=
  some ((2, at_, reg, steps), ())
def wr51.A : Ann := { conds := [], blocks := [], loops := [], keeps := [], orders := [] }
def wr51.S : Sig := { f := 51, params := [.int .i64, .int .i64, .sl kY10], objs := [], res := .st kY8, outs := [], fix := [], run := fun k ds os => wr51 k ds.1 ds.2.1 ds.2.2 }
def wr51.G : List Sig := []
theorem wr51.eq (k : Nat) : ∀ ds os, wr51.S.run k ds os = runF ⟨types, wr51.G, wr51.A, k, 0, []⟩ Tryd.f51 (codeOf Tryd.f51) wr51.S.params wr51.S.objs wr51.S.res wr51.S.outs ds os := by
  intro ds os; kernel_rfl
theorem wr51.dr : DrOk Tryd.prog wr51.A (codeOf Tryd.f51) := ⟨by kernel_rfl, by kernel_rfl⟩
theorem wr51.ok (k : Nat) : SoundAt Tryd.prog k wr51.S :=
  runF_sound (X := ⟨types, wr51.G, wr51.A, k, 0, []⟩) types_ok (fun s hs => absurd hs List.not_mem_nil) (fn := Tryd.f51) (c := codeOf Tryd.f51) rfl (by kernel_rfl) rfl rfl wr51.dr (wr51.eq k)

def stores44.l0 (k : Nat) (name : ByteArray) (reg : Int) (modes : tY34) : tY7 → Option tY3
  | (_, t12, _, o1_1) =>
    cond (decide (t12 < (List.length modes : Int)))
      ((rd modes t12).bind fun t14 =>
      (lead65 k t14).bind fun t20 =>
      (wr51 k 2 reg []).bind fun t22 =>
      (if room (List.length t20.2 + List.length [t22.1]) 48 then some () else none).bind fun _ =>
      (add47 k () name t14 (t20.2 ++ [t22.1]) () o1_1).bind fun t25 =>
      some (Sum.inl ((), (w64 (t12 + 1)), (), t25.2.2)))
      (some (Sum.inr ((), o1_1)))
def stores44 (k : Nat) (_ : Unit) (name : ByteArray) (reg : Int) (modes : tY34) (o0 : Unit) (o1 : tY16) : Option tY9 :=
  Option.bind
    (loopN (stores44.l0 k name reg modes) k ((), 0, (), o1) : Option tY11) fun ((_, o1_2) : tY11) =>
  some ((), (), o1_2)
def stores44.A : Ann := { conds := [], blocks := [(0, ⟨[], [(0, .var kY17), (1, .row kY4)], 2, [], 134214144⟩)], loops := [(1, ⟨[(0, .ptr 0 []), (12, .int .i64)], [(0, .var kY17), (1, .row kY4)], 2, [], 134214144⟩)], keeps := [], orders := [] }
def stores44.S : Sig := { f := 44, params := [.ptr 0 [], .str, .int .i64, .sl kY18], objs := [.var kY17, .row kY4], res := .tup .unit, outs := [.var kY17, .row kY4], fix := [], run := fun k ds os => stores44 k ds.1 ds.2.1 ds.2.2.1 ds.2.2.2 os.1 os.2 }
def stores44.G : List Sig := [add47.S, lead65.S, wr51.S]
theorem stores44.eq (k : Nat) : ∀ ds os, stores44.S.run k ds os = runF ⟨types, stores44.G, stores44.A, k, 0, []⟩ Tryd.f44 (codeOf Tryd.f44) stores44.S.params stores44.S.objs stores44.S.res stores44.S.outs ds os := by
  intro ds os; kernel_rfl
theorem stores44.dr : DrOk Tryd.prog stores44.A (codeOf Tryd.f44) := ⟨by kernel_rfl, by kernel_rfl⟩
theorem stores44.ok (k : Nat) : SoundAt Tryd.prog k stores44.S :=
  runF_sound (X := ⟨types, stores44.G, stores44.A, k, 0, []⟩) types_ok (mem_all (⟨add47.ok k, ⟨lead65.ok k, ⟨wr51.ok k, trivial⟩⟩⟩)) (fn := Tryd.f44) (c := codeOf Tryd.f44) rfl (by kernel_rfl) rfl rfl stores44.dr (stores44.eq k)

def joins45.l0 (k : Nat) (name : ByteArray) (do_ : Int) (reg : Int) (modes : tY34) : tY7 → Option tY3
  | (_, t14, _, o1_1) =>
    cond (decide (t14 < (List.length modes : Int)))
      ((rd modes t14).bind fun t16 =>
      (two49 k do_ reg 5).bind fun t24 =>
      (reads64 k t16 [t24.1]).bind fun t26 =>
      (add47 k () name t16 t26.1 () o1_1).bind fun t27 =>
      some (Sum.inl ((), (w64 (t14 + 1)), (), t27.2.2)))
      (some (Sum.inr ((), o1_1)))
def joins45 (k : Nat) (_ : Unit) (name : ByteArray) (do_ : Int) (reg : Int) (modes : tY34) (o0 : Unit) (o1 : tY16) : Option tY9 :=
  Option.bind
    (loopN (joins45.l0 k name do_ reg modes) k ((), 0, (), o1) : Option tY11) fun ((_, o1_2) : tY11) =>
  some ((), (), o1_2)
def joins45.A : Ann := { conds := [], blocks := [(0, ⟨[], [(0, .var kY17), (1, .row kY4)], 2, [], 536856576⟩)], loops := [(1, ⟨[(0, .ptr 0 []), (14, .int .i64)], [(0, .var kY17), (1, .row kY4)], 2, [], 536856576⟩)], keeps := [], orders := [] }
def joins45.S : Sig := { f := 45, params := [.ptr 0 [], .str, .int .i64, .int .i64, .sl kY18], objs := [.var kY17, .row kY4], res := .tup .unit, outs := [.var kY17, .row kY4], fix := [], run := fun k ds os => joins45 k ds.1 ds.2.1 ds.2.2.1 ds.2.2.2.1 ds.2.2.2.2 os.1 os.2 }
def joins45.G : List Sig := [add47.S, reads64.S, two49.S]
theorem joins45.eq (k : Nat) : ∀ ds os, joins45.S.run k ds os = runF ⟨types, joins45.G, joins45.A, k, 0, []⟩ Tryd.f45 (codeOf Tryd.f45) joins45.S.params joins45.S.objs joins45.S.res joins45.S.outs ds os := by
  intro ds os; kernel_rfl
theorem joins45.dr : DrOk Tryd.prog joins45.A (codeOf Tryd.f45) := ⟨by kernel_rfl, by kernel_rfl⟩
theorem joins45.ok (k : Nat) : SoundAt Tryd.prog k joins45.S :=
  runF_sound (X := ⟨types, joins45.G, joins45.A, k, 0, []⟩) types_ok (mem_all (⟨add47.ok k, ⟨reads64.ok k, ⟨two49.ok k, trivial⟩⟩⟩)) (fn := Tryd.f45) (c := codeOf Tryd.f45) rfl (by kernel_rfl) rfl rfl joins45.dr (joins45.eq k)
end Go.Proofs.YtcppmlgnceldmaaDoor.Do

/- Go functions as plain Lean functions, and their contracts. -/
set_option linter.unusedVariables false
set_option maxRecDepth 100000
noncomputable section
namespace Go.Proofs.YtcppmlgnceldmaaDoor.Do
open Go Go.Proofs.YtcppmlgnceldmaaDoor.Gp
def turns46.l0 (k : Nat) (name : ByteArray) (do_ : Int) (modes : tY34) : tY7 → Option tY3
  | (_, t12, _, o1_1) =>
    cond (decide (t12 < (List.length modes : Int)))
      (Option.bind
        ((rd modes t12).bind fun t14 =>
        cond (t14 == 0)
          ((one50 k do_ 0).bind fun t22 =>
          (no48 k [t22.1]).bind fun t24 =>
          (add47 k () name t14 [t24.1] () o1_1).bind fun t26 =>
          some ((), (), t26.2.2))
          ((lead65 k t14).bind fun t31 =>
          (one50 k do_ 5).bind fun t33 =>
          (rd26'' k 2 5 [t33.1]).bind fun t35 =>
          (wr51 k 2 5 []).bind fun t36 =>
          (if room (List.length t31.2 + List.length [t35.1, t36.1]) 48 then some () else none).bind fun _ =>
          (add47 k () name t14 (t31.2 ++ [t35.1, t36.1]) () o1_1).bind fun t39 =>
          some ((), (), t39.2.2)) : Option tY9) fun ((_, _, o1_2) : tY9) =>
      some (Sum.inl ((), (w64 (t12 + 1)), (), o1_2)))
      (some (Sum.inr ((), o1_1)))
def turns46 (k : Nat) (_ : Unit) (name : ByteArray) (do_ : Int) (modes : tY34) (o0 : Unit) (o1 : tY16) : Option tY9 :=
  Option.bind
    (loopN (turns46.l0 k name do_ modes) k ((), 0, (), o1) : Option tY11) fun ((_, o1_3) : tY11) =>
  some ((), (), o1_3)
def turns46.A : Ann := { conds := [], blocks := [(0, ⟨[], [(0, .var kY17), (1, .row kY4)], 2, [], 2199023251968⟩), (1, ⟨[(0, .ptr 0 [])], [(0, .var kY17), (1, .row kY4)], 2, [], 1099511611904⟩)], loops := [(1, ⟨[(0, .ptr 0 []), (12, .int .i64)], [(0, .var kY17), (1, .row kY4)], 2, [], 2199023251968⟩)], keeps := [], orders := [] }
def turns46.S : Sig := { f := 46, params := [.ptr 0 [], .str, .int .i64, .sl kY18], objs := [.var kY17, .row kY4], res := .tup .unit, outs := [.var kY17, .row kY4], fix := [], run := fun k ds os => turns46 k ds.1 ds.2.1 ds.2.2.1 ds.2.2.2 os.1 os.2 }
def turns46.G : List Sig := [add47.S, lead65.S, no48.S, one50.S, rd26''.S, wr51.S]
theorem turns46.eq (k : Nat) : ∀ ds os, turns46.S.run k ds os = runF ⟨types, turns46.G, turns46.A, k, 0, []⟩ Tryd.f46 (codeOf Tryd.f46) turns46.S.params turns46.S.objs turns46.S.res turns46.S.outs ds os := by
  intro ds os; kernel_rfl
theorem turns46.dr : DrOk Tryd.prog turns46.A (codeOf Tryd.f46) := ⟨by kernel_rfl, by kernel_rfl⟩
theorem turns46.ok (k : Nat) : SoundAt Tryd.prog k turns46.S :=
  runF_sound (X := ⟨types, turns46.G, turns46.A, k, 0, []⟩) types_ok (mem_all (⟨add47.ok k, ⟨lead65.ok k, ⟨no48.ok k, ⟨one50.ok k, ⟨rd26''.ok k, ⟨wr51.ok k, trivial⟩⟩⟩⟩⟩⟩)) (fn := Tryd.f46) (c := codeOf Tryd.f46) rfl (by kernel_rfl) rfl rfl turns46.dr (turns46.eq k)

def memory23.l0 (k : Nat) : tY6 → Option (tY6 ⊕ tY9)
  | (_, _, t30, _, o1_1, o8) =>
    cond (decide (t30 < (List.length [((ByteArray.mk #[97, 100, 99]), 4), ((ByteArray.mk #[115, 98, 99]), 5), ((ByteArray.mk #[97, 110, 100]), 7), ((ByteArray.mk #[111, 114, 97]), 8), ((ByteArray.mk #[101, 111, 114]), 9), ((ByteArray.mk #[99, 109, 112]), 6)] : Int)))
      ((rd o8 t30).bind fun _ =>
      (rd o8 t30).bind fun t33 =>
      (joins45 k () t33.1 t33.2 0 ([1, 2, 4, 5] : List Int) () o1_1).bind fun t40 =>
      some (Sum.inl ((), (), (w64 (t30 + 1)), (), t40.2.2, o8)))
      (some (Sum.inr ((), (), o1_1)))
def memory23 (k : Nat) (_ : Unit) (o0 : Unit) (o1 : tY16) : Option tY9 :=
  (loads43 k () (ByteArray.mk #[108, 100, 97]) 0 ([1, 2, 3, 4, 5, 6, 8] : List Int) () o1).bind fun t6 =>
  (loads43 k () (ByteArray.mk #[108, 100, 120]) 1 ([1, 2, 4] : List Int) () t6.2.2).bind fun t9 =>
  (loads43 k () (ByteArray.mk #[108, 100, 121]) 2 ([1, 2, 4] : List Int) () t9.2.2).bind fun t12 =>
  (stores44 k () (ByteArray.mk #[115, 116, 97]) 0 ([2, 3, 4, 5, 6, 8] : List Int) () t12.2.2).bind fun t15 =>
  (stores44 k () (ByteArray.mk #[115, 116, 120]) 1 ([2, 4] : List Int) () t15.2.2).bind fun t18 =>
  (stores44 k () (ByteArray.mk #[115, 116, 121]) 2 ([2, 4] : List Int) () t18.2.2).bind fun t21 =>
  Option.bind
    (loopN (memory23.l0 k) k ((), (), 0, (), t21.2.2, [((ByteArray.mk #[97, 100, 99]), 4), ((ByteArray.mk #[115, 98, 99]), 5), ((ByteArray.mk #[97, 110, 100]), 7), ((ByteArray.mk #[111, 114, 97]), 8), ((ByteArray.mk #[101, 111, 114]), 9), ((ByteArray.mk #[99, 109, 112]), 6)]) : Option tY9) fun ((_, _, o1_2) : tY9) =>
  (joins45 k () (ByteArray.mk #[99, 112, 120]) 6 1 ([1, 2] : List Int) () o1_2).bind fun t44 =>
  (joins45 k () (ByteArray.mk #[99, 112, 121]) 6 2 ([1, 2] : List Int) () t44.2.2).bind fun t47 =>
  (turns46 k () (ByteArray.mk #[105, 110, 99]) 10 ([2, 4] : List Int) () t47.2.2).bind fun t50 =>
  (turns46 k () (ByteArray.mk #[100, 101, 99]) 11 ([2, 4] : List Int) () t50.2.2).bind fun t53 =>
  (turns46 k () (ByteArray.mk #[97, 115, 108]) 12 ([0, 2] : List Int) () t53.2.2).bind fun t56 =>
  (turns46 k () (ByteArray.mk #[108, 115, 114]) 13 ([0, 2] : List Int) () t56.2.2).bind fun t59 =>
  (turns46 k () (ByteArray.mk #[114, 111, 108]) 14 ([0, 2] : List Int) () t59.2.2).bind fun t62 =>
  (turns46 k () (ByteArray.mk #[114, 111, 114]) 15 ([0, 2] : List Int) () t62.2.2).bind fun t65 =>
  some ((), (), t65.2.2)
def memory23.A : Ann := { conds := [], blocks := [(0, ⟨[(0, .ptr 0 [])], [(0, .var kY17), (1, .row kY4)], 2, [], 4396972769288⟩)], loops := [(7, ⟨[(0, .ptr 0 []), (28, .ms 8), (30, .int .i64)], [(0, .var kY17), (1, .row kY4), (8, .row (.st kY16))], 9, [], 4396972769288⟩)], keeps := [3], orders := [] }
def memory23.S : Sig := { f := 23, params := [.ptr 0 []], objs := [.var kY17, .row kY4], res := .tup .unit, outs := [.var kY17, .row kY4], fix := [], run := fun k ds os => memory23 k ds os.1 os.2 }
def memory23.G : List Sig := [joins45.S, loads43.S, stores44.S, turns46.S]
theorem memory23.eq (k : Nat) : ∀ ds os, memory23.S.run k ds os = runF ⟨types, memory23.G, memory23.A, k, 0, []⟩ Tryd.f23 (codeOf Tryd.f23) memory23.S.params memory23.S.objs memory23.S.res memory23.S.outs ds os := by
  intro ds os; kernel_rfl
theorem memory23.dr : DrOk Tryd.prog memory23.A (codeOf Tryd.f23) := ⟨by kernel_rfl, by kernel_rfl⟩
theorem memory23.ok (k : Nat) : SoundAt Tryd.prog k memory23.S :=
  runF_sound (X := ⟨types, memory23.G, memory23.A, k, 0, []⟩) types_ok (mem_all (⟨joins45.ok k, ⟨loads43.ok k, ⟨stores44.ok k, ⟨turns46.ok k, trivial⟩⟩⟩⟩)) (fn := Tryd.f23) (c := codeOf Tryd.f23) rfl (by kernel_rfl) rfl rfl memory23.dr (memory23.eq k)
end Go.Proofs.YtcppmlgnceldmaaDoor.Do

/- Go functions as plain Lean functions, and their contracts. -/
set_option linter.unusedVariables false
set_option maxRecDepth 100000
noncomputable section
namespace Go.Proofs.YtcppmlgnceldmaaDoor.Do
open Go Go.Proofs.YtcppmlgnceldmaaDoor.Gp
def alone24.l0 (k : Nat) : tY4 → Option (tY4 ⊕ tY9)
  | (_, _, t11, _, o1_1, o2) =>
    cond (decide (t11 < (List.length [((ByteArray.mk #[116, 97, 120]), 1, 0), ((ByteArray.mk #[116, 97, 121]), 2, 0), ((ByteArray.mk #[116, 120, 97]), 0, 1), ((ByteArray.mk #[116, 121, 97]), 0, 2), ((ByteArray.mk #[116, 115, 120]), 1, 3)] : Int)))
      ((rd o2 t11).bind fun _ =>
      (rd o2 t11).bind fun t14 =>
      (two49 k 1 t14.2.1 t14.2.2).bind fun t22 =>
      (one50 k 3 t14.2.1).bind fun t25 =>
      (no48 k [t22.1, t25.1]).bind fun t27 =>
      (add47 k () t14.1 0 [t27.1] () o1_1).bind fun t29 =>
      some (Sum.inl ((), (), (w64 (t11 + 1)), (), t29.2.2, o2)))
      (some (Sum.inr ((), (), o1_1)))
def alone24 (k : Nat) (_ : Unit) (o0 : Unit) (o1 : tY16) : Option tY9 :=
  Option.bind
    (loopN (alone24.l0 k) k ((), (), 0, (), o1, [((ByteArray.mk #[116, 97, 120]), 1, 0), ((ByteArray.mk #[116, 97, 121]), 2, 0), ((ByteArray.mk #[116, 120, 97]), 0, 1), ((ByteArray.mk #[116, 121, 97]), 0, 2), ((ByteArray.mk #[116, 115, 120]), 1, 3)]) : Option tY9) fun ((_, _, o1_2) : tY9) =>
  (two49 k 1 3 1).bind fun t32 =>
  (no48 k [t32.1]).bind fun t34 =>
  (add47 k () (ByteArray.mk #[116, 120, 115]) 0 [t34.1] () o1_2).bind fun t36 =>
  (one50 k 10 1).bind fun t38 =>
  (no48 k [t38.1]).bind fun t40 =>
  (add47 k () (ByteArray.mk #[105, 110, 120]) 0 [t40.1] () t36.2.2).bind fun t42 =>
  (one50 k 10 2).bind fun t44 =>
  (no48 k [t44.1]).bind fun t46 =>
  (add47 k () (ByteArray.mk #[105, 110, 121]) 0 [t46.1] () t42.2.2).bind fun t48 =>
  (one50 k 11 1).bind fun t50 =>
  (no48 k [t50.1]).bind fun t52 =>
  (add47 k () (ByteArray.mk #[100, 101, 120]) 0 [t52.1] () t48.2.2).bind fun t54 =>
  (one50 k 11 2).bind fun t56 =>
  (no48 k [t56.1]).bind fun t58 =>
  (add47 k () (ByteArray.mk #[100, 101, 121]) 0 [t58.1] () t54.2.2).bind fun t60 =>
  (no48 k [(17, 0, 0, 1)]).bind fun t64 =>
  (add47 k () (ByteArray.mk #[99, 108, 99]) 0 [t64.1] () t60.2.2).bind fun t66 =>
  (no48 k [(16, 0, 0, 1)]).bind fun t70 =>
  (add47 k () (ByteArray.mk #[115, 101, 99]) 0 [t70.1] () t66.2.2).bind fun t72 =>
  (no48 k [(17, 0, 0, 4)]).bind fun t76 =>
  (add47 k () (ByteArray.mk #[99, 108, 105]) 0 [t76.1] () t72.2.2).bind fun t78 =>
  (no48 k [(16, 0, 0, 4)]).bind fun t82 =>
  (add47 k () (ByteArray.mk #[115, 101, 105]) 0 [t82.1] () t78.2.2).bind fun t84 =>
  (no48 k []).bind fun t86 =>
  (add47 k () (ByteArray.mk #[110, 111, 112]) 0 [t86.1] () t84.2.2).bind fun t88 =>
  (wr51 k 4 0 []).bind fun t90 =>
  (add47 k () (ByteArray.mk #[112, 104, 97]) 0 [t90.1] () t88.2.2).bind fun t92 =>
  (one50 k 3 0).bind fun t94 =>
  (rd26'' k 5 0 [t94.1]).bind fun t96 =>
  (add47 k () (ByteArray.mk #[112, 108, 97]) 0 [t96.1] () t92.2.2).bind fun t98 =>
  (wr51 k 4 4 []).bind fun t100 =>
  (add47 k () (ByteArray.mk #[112, 104, 112]) 0 [t100.1] () t98.2.2).bind fun t102 =>
  (rd26'' k 5 4 []).bind fun t104 =>
  (add47 k () (ByteArray.mk #[112, 108, 112]) 0 [t104.1] () t102.2.2).bind fun t106 =>
  some ((), (), t106.2.2)
def alone24.A : Ann := { conds := [], blocks := [(0, ⟨[(0, .ptr 0 [])], [(0, .var kY17), (1, .row kY4)], 2, [], 2147481608⟩)], loops := [(1, ⟨[(0, .ptr 0 []), (9, .ms 2), (11, .int .i64)], [(0, .var kY17), (1, .row kY4), (2, .row kY13)], 3, [], 2147481608⟩)], keeps := [3], orders := [(3, [(0, .strong), (1, .strong), (2, .strong), (3, .strong), (4, .strong), (5, .strong), (6, .strong), (8, .strong), (9, .strong), (7, .eff true), (10, .eff true), (11, .eff true), (12, .eff true), (13, .eff true), (14, .eff false)])] }
def alone24.S : Sig := { f := 24, params := [.ptr 0 []], objs := [.var kY17, .row kY4], res := .tup .unit, outs := [.var kY17, .row kY4], fix := [], run := fun k ds os => alone24 k ds os.1 os.2 }
def alone24.G : List Sig := [add47.S, no48.S, one50.S, rd26''.S, two49.S, wr51.S]
theorem alone24.eq (k : Nat) : ∀ ds os, alone24.S.run k ds os = runF ⟨types, alone24.G, alone24.A, k, 0, []⟩ Tryd.f24 (codeOf Tryd.f24) alone24.S.params alone24.S.objs alone24.S.res alone24.S.outs ds os := by
  intro ds os; kernel_rfl
theorem alone24.dr : DrOk Tryd.prog alone24.A (codeOf Tryd.f24) := ⟨by kernel_rfl, by kernel_rfl⟩
theorem alone24.ok (k : Nat) : SoundAt Tryd.prog k alone24.S :=
  runF_sound (X := ⟨types, alone24.G, alone24.A, k, 0, []⟩) types_ok (mem_all (⟨add47.ok k, ⟨no48.ok k, ⟨one50.ok k, ⟨rd26''.ok k, ⟨two49.ok k, ⟨wr51.ok k, trivial⟩⟩⟩⟩⟩⟩)) (fn := Tryd.f24) (c := codeOf Tryd.f24) rfl (by kernel_rfl) rfl rfl alone24.dr (alone24.eq k)

def jump27' (k : Nat) (to : Int) : Option (tY29 × Unit) :=
  (two49 k 18 to 5).bind fun t4 =>
  (two49 k 19 to 6).bind fun t6 =>
  some ([t4.1, t6.1], ())
def jump27'.A : Ann := { conds := [], blocks := [], loops := [], keeps := [], orders := [] }
def jump27'.S : Sig := { f := 27, params := [.int .i64], objs := [], res := .sl kY10, outs := [], fix := [], run := fun k ds os => jump27' k ds }
def jump27'.G : List Sig := [two49.S]
theorem jump27'.eq (k : Nat) : ∀ ds os, jump27'.S.run k ds os = runF ⟨types, jump27'.G, jump27'.A, k, 0, []⟩ Tryd.f27 (codeOf Tryd.f27) jump27'.S.params jump27'.S.objs jump27'.S.res jump27'.S.outs ds os := by
  intro ds os; kernel_rfl
theorem jump27'.dr : DrOk Tryd.prog jump27'.A (codeOf Tryd.f27) := ⟨by kernel_rfl, by kernel_rfl⟩
theorem jump27'.ok (k : Nat) : SoundAt Tryd.prog k jump27'.S :=
  runF_sound (X := ⟨types, jump27'.G, jump27'.A, k, 0, []⟩) types_ok (mem_all (⟨two49.ok k, trivial⟩)) (fn := Tryd.f27) (c := codeOf Tryd.f27) rfl (by kernel_rfl) rfl rfl jump27'.dr (jump27'.eq k)

def ways25.l0 (k : Nat) : tY4 → Option (tY4 ⊕ tY11)
  | (_, _, t47, _, o1_1, o10) =>
    cond (decide (t47 < (List.length [((ByteArray.mk #[98, 101, 113]), 2, 1), ((ByteArray.mk #[98, 110, 101]), 2, 0), ((ByteArray.mk #[98, 99, 115]), 1, 1), ((ByteArray.mk #[98, 99, 99]), 1, 0), ((ByteArray.mk #[98, 109, 105]), 128, 1), ((ByteArray.mk #[98, 112, 108]), 128, 0)] : Int)))
      ((rd o10 t47).bind fun _ =>
      (rd o10 t47).bind fun t50 =>
      (rd26'' k 0 5 [(24, 0, t50.2.2, t50.2.1)]).bind fun t60 =>
      (two49 k 23 7 5).bind fun t61 =>
      (no48 k [t61.1]).bind fun t63 =>
      (add47 k () t50.1 7 [t60.1, t63.1] () o1_1).bind fun t65 =>
      some (Sum.inl ((), (), (w64 (t47 + 1)), (), t65.2.2, o10)))
      (some (Sum.inr ((), o1_1)))
def ways25 (k : Nat) (_ : Unit) (o0 : Unit) (o1 : tY16) : Option tY9 :=
  (rd26'' k 0 5 []).bind fun t5 =>
  (jump27' k 7).bind fun t6 =>
  (rd26'' k 0 6 t6.1).bind fun t7 =>
  (add47 k () (ByteArray.mk #[106, 109, 112]) 4 [t5.1, t7.1] () o1).bind fun t9 =>
  (two49 k 18 8 5).bind fun t11 =>
  (rd26'' k 0 5 [t11.1]).bind fun t13 =>
  (two49 k 19 8 5).bind fun t14 =>
  (two49 k 21 5 7).bind fun t15 =>
  (rd26'' k 0 5 [t14.1, t15.1]).bind fun t17 =>
  (two49 k 20 5 7).bind fun t18 =>
  (wr51 k 4 5 [t18.1]).bind fun t20 =>
  (two49 k 1 7 8).bind fun t21 =>
  (wr51 k 4 5 [t21.1]).bind fun t23 =>
  (add47 k () (ByteArray.mk #[106, 115, 114]) 4 [t13.1, t17.1, t20.1, t23.1] () t9.2.2).bind fun t25 =>
  (rd26'' k 5 5 []).bind fun t27 =>
  (jump27' k 7).bind fun t28 =>
  (rd26'' k 5 6 t28.1).bind fun t29 =>
  (add47 k () (ByteArray.mk #[114, 116, 115]) 0 [t27.1, t29.1] () t25.2.2).bind fun t31 =>
  (rd26'' k 5 4 []).bind fun t33 =>
  (rd26'' k 5 5 []).bind fun t34 =>
  (jump27' k 7).bind fun t35 =>
  (rd26'' k 5 6 t35.1).bind fun t36 =>
  (add47 k () (ByteArray.mk #[114, 116, 105]) 0 [t33.1, t34.1, t36.1] () t31.2.2).bind fun t38 =>
  Option.bind
    (loopN (ways25.l0 k) k ((), (), 0, (), t38.2.2, [((ByteArray.mk #[98, 101, 113]), 2, 1), ((ByteArray.mk #[98, 110, 101]), 2, 0), ((ByteArray.mk #[98, 99, 115]), 1, 1), ((ByteArray.mk #[98, 99, 99]), 1, 0), ((ByteArray.mk #[98, 109, 105]), 128, 1), ((ByteArray.mk #[98, 112, 108]), 128, 0)]) : Option tY11) fun ((_, o1_2) : tY11) =>
  some ((), (), o1_2)
def ways25.A : Ann := { conds := [], blocks := [(0, ⟨[], [(0, .var kY17), (1, .row kY4)], 2, [], 147573811852188057608⟩)], loops := [(5, ⟨[(0, .ptr 0 []), (45, .ms 10), (47, .int .i64)], [(0, .var kY17), (1, .row kY4), (10, .row kY13)], 11, [], 147573811852188057608⟩)], keeps := [3], orders := [(7, [(0, .strong), (1, .strong), (2, .strong), (3, .strong), (4, .strong), (5, .strong), (6, .strong), (7, .strong), (8, .eff true), (9, .eff true), (10, .eff true), (11, .eff true), (12, .eff true), (13, .eff true), (14, .eff false)])] }
def ways25.S : Sig := { f := 25, params := [.ptr 0 []], objs := [.var kY17, .row kY4], res := .tup .unit, outs := [.var kY17, .row kY4], fix := [], run := fun k ds os => ways25 k ds os.1 os.2 }
def ways25.G : List Sig := [add47.S, jump27'.S, no48.S, rd26''.S, two49.S, wr51.S]
theorem ways25.eq (k : Nat) : ∀ ds os, ways25.S.run k ds os = runF ⟨types, ways25.G, ways25.A, k, 0, []⟩ Tryd.f25 (codeOf Tryd.f25) ways25.S.params ways25.S.objs ways25.S.res ways25.S.outs ds os := by
  intro ds os; kernel_rfl
theorem ways25.dr : DrOk Tryd.prog ways25.A (codeOf Tryd.f25) := ⟨by kernel_rfl, by kernel_rfl⟩
theorem ways25.ok (k : Nat) : SoundAt Tryd.prog k ways25.S :=
  runF_sound (X := ⟨types, ways25.G, ways25.A, k, 0, []⟩) types_ok (mem_all (⟨add47.ok k, ⟨jump27'.ok k, ⟨no48.ok k, ⟨rd26''.ok k, ⟨two49.ok k, ⟨wr51.ok k, trivial⟩⟩⟩⟩⟩⟩)) (fn := Tryd.f25) (c := codeOf Tryd.f25) rfl (by kernel_rfl) rfl rfl ways25.dr (ways25.eq k)

def answers28 (k : Nat) (low : Int) (high : Int) : Option tY21 :=
  (two49 k 21 5 7).bind fun t5 =>
  (no48 k [t5.1]).bind fun t7 =>
  (two49 k 20 5 7).bind fun t8 =>
  (wr51 k 4 5 [t8.1]).bind fun t10 =>
  (wr51 k 4 5 []).bind fun t11 =>
  (wr51 k 4 4 [(16, 0, 0, 4)]).bind fun t14 =>
  (rd26'' k low 5 []).bind fun t16 =>
  (jump27' k 7).bind fun t18 =>
  (rd26'' k high 6 t18.1).bind fun t19 =>
  some ([t7.1, t10.1, t11.1, t14.1, t16.1, t19.1], ())
def answers28.A : Ann := { conds := [], blocks := [], loops := [], keeps := [], orders := [] }
def answers28.S : Sig := { f := 28, params := [.int .i64, .int .i64], objs := [], res := .sl kY7, outs := [], fix := [], run := fun k ds os => answers28 k ds.1 ds.2 }
def answers28.G : List Sig := [jump27'.S, no48.S, rd26''.S, two49.S, wr51.S]
theorem answers28.eq (k : Nat) : ∀ ds os, answers28.S.run k ds os = runF ⟨types, answers28.G, answers28.A, k, 0, []⟩ Tryd.f28 (codeOf Tryd.f28) answers28.S.params answers28.S.objs answers28.S.res answers28.S.outs ds os := by
  intro ds os; kernel_rfl
theorem answers28.dr : DrOk Tryd.prog answers28.A (codeOf Tryd.f28) := ⟨by kernel_rfl, by kernel_rfl⟩
theorem answers28.ok (k : Nat) : SoundAt Tryd.prog k answers28.S :=
  runF_sound (X := ⟨types, answers28.G, answers28.A, k, 0, []⟩) types_ok (mem_all (⟨jump27'.ok k, ⟨no48.ok k, ⟨rd26''.ok k, ⟨two49.ok k, ⟨wr51.ok k, trivial⟩⟩⟩⟩⟩)) (fn := Tryd.f28) (c := codeOf Tryd.f28) rfl (by kernel_rfl) rfl rfl answers28.dr (answers28.eq k)
end Go.Proofs.YtcppmlgnceldmaaDoor.Do

/- Go functions as plain Lean functions, and their contracts. -/
set_option linter.unusedVariables false
set_option maxRecDepth 100000
noncomputable section
namespace Go.Proofs.YtcppmlgnceldmaaDoor.Do
open Go Go.Proofs.YtcppmlgnceldmaaDoor.Gp
def Cpu8 (k : Nat) : Option (tY2 × Unit) :=
  (memory23 k () () []).bind fun t6 =>
  (alone24 k () () t6.2.2).bind fun t8 =>
  (ways25 k () () t8.2.2).bind fun t10 =>
  (rd26'' k 10 5 []).bind fun t11 =>
  (jump27 k 7).bind fun t12 =>
  (if room (List.length t12.2 + List.length [(2, 3, 0, 255)]) 32 then some () else none).bind fun _ =>
  (rd26'' k 11 6 (t12.2 ++ [(2, 3, 0, 255)])).bind fun t16 =>
  (answers28 k 6 7).bind fun t23 =>
  (answers28 k 8 9).bind fun t24 =>
  some (((ByteArray.mk #[115, 116, 100]), t10.2.2, [t11.1, t16.1], t23.1, t24.1), ())
def Cpu8.A : Ann := { conds := [], blocks := [], loops := [], keeps := [], orders := [(6, [(0, .strong), (1, .strong), (2, .strong), (3, .strong), (4, .strong), (5, .eff true), (6, .eff true), (7, .strong), (8, .eff false)])], turns := [(0, [⟨0, [(1, .st kY5), (2, .st kY8), (3, .st kY8), (4, .st kY8)], .st (.pair .str (.pair (.ms 1) (.pair (.ms 2) (.pair (.ms 3) (.ms 4)))))⟩]), (1, [⟨5, [(6, .st kY5)], .st (.ms 6)⟩])] }
def Cpu8.S : Sig := { f := 8, params := [], objs := [], res := .st kY1, outs := [], fix := [], run := fun k ds os => Cpu8 k }
def Cpu8.G : List Sig := [alone24.S, answers28.S, jump27.S, memory23.S, rd26''.S, ways25.S]
theorem Cpu8.eq (k : Nat) : ∀ ds os, Cpu8.S.run k ds os = runF ⟨types, Cpu8.G, Cpu8.A, k, 0, []⟩ Tryd.f8 (codeOf Tryd.f8) Cpu8.S.params Cpu8.S.objs Cpu8.S.res Cpu8.S.outs ds os := by
  intro ds os; kernel_rfl
theorem Cpu8.dr : DrOk Tryd.prog Cpu8.A (codeOf Tryd.f8) := ⟨by kernel_rfl, by kernel_rfl⟩
theorem Cpu8.ok (k : Nat) : SoundAt Tryd.prog k Cpu8.S :=
  runF_sound (X := ⟨types, Cpu8.G, Cpu8.A, k, 0, []⟩) types_ok (mem_all (⟨alone24.ok k, ⟨answers28.ok k, ⟨jump27.ok k, ⟨memory23.ok k, ⟨rd26''.ok k, ⟨ways25.ok k, trivial⟩⟩⟩⟩⟩⟩)) (fn := Tryd.f8) (c := codeOf Tryd.f8) rfl (by kernel_rfl) rfl rfl Cpu8.dr (Cpu8.eq k)

def Named152 (k : Nat) (x : tY17) (t1 : ByteArray) (t2 : Int) : Option tY32 :=
  some ((cond (streq x.2.1 t1) (x.2.2.1 == t2) false), ())
def Named152.A : Ann := { conds := [], blocks := [], loops := [], keeps := [3], orders := [] }
def Named152.S : Sig := { f := 52, params := [.st kY5, .fp .str, .fp kY18], objs := [], res := .bool, outs := [], fix := [], run := fun k ds os => Named152 k ds.1 ds.2.1 ds.2.2 }
def Named152.G : List Sig := []
theorem Named152.eq (k : Nat) : ∀ ds os, Named152.S.run k ds os = runF ⟨types, Named152.G, Named152.A, k, 0, []⟩ Tryd.f52 (codeOf Tryd.f52) Named152.S.params Named152.S.objs Named152.S.res Named152.S.outs ds os := by
  intro ds os; kernel_rfl
theorem Named152.dr : DrOk Tryd.prog Named152.A (codeOf Tryd.f52) := ⟨by kernel_rfl, by kernel_rfl⟩
theorem Named152.ok (k : Nat) : SoundAt Tryd.prog k Named152.S :=
  runF_sound (X := ⟨types, Named152.G, Named152.A, k, 0, []⟩) types_ok (fun s hs => absurd hs List.not_mem_nil) (fn := Tryd.f52) (c := codeOf Tryd.f52) rfl (by kernel_rfl) rfl rfl Named152.dr (Named152.eq k)

def IndexFunc30.l0 (k : Nat) (s : tY16) : (tY30 × Int) → Option ((tY30 × Int) ⊕ tY31)
  | (f_1, t8) =>
    cond (decide (t8 < (List.length s : Int)))
      ((rd s t8).bind fun t14 =>
      (Named152 k t14 f_1.1 f_1.2.1).bind fun t16 =>
      cond t16.1
        (some (Sum.inr (Sum.inr (t8, ()))))
        (some (Sum.inl (f_1, (w64 (t8 + 1))))))
      (some (Sum.inr (Sum.inl ())))
def IndexFunc30 (k : Nat) (s : tY16) (f : tY30) : Option tY33 :=
  Option.bind
    (loopN (IndexFunc30.l0 k s) k (f, 0) : Option tY31) (joined fun (_ : Unit) =>
    some ((-1), ()))
def IndexFunc30.A : Ann := { conds := [], blocks := [(0, ⟨[], [], 0, [], 524080⟩)], loops := [(2, ⟨[(1, .fn 52 kY14), (8, .int .i64)], [], 0, [], 524080⟩)], keeps := [], orders := [] }
def IndexFunc30.S : Sig := { f := 30, params := [.sl kY4, .fn 52 kY14], objs := [], res := .int .i64, outs := [], fix := [], run := fun k ds os => IndexFunc30 k ds.1 ds.2 }
def IndexFunc30.G : List Sig := [Named152.S]
theorem IndexFunc30.eq (k : Nat) : ∀ ds os, IndexFunc30.S.run k ds os = runF ⟨types, IndexFunc30.G, IndexFunc30.A, k, 0, []⟩ Tryd.f30 (codeOf Tryd.f30) IndexFunc30.S.params IndexFunc30.S.objs IndexFunc30.S.res IndexFunc30.S.outs ds os := by
  intro ds os; kernel_rfl
theorem IndexFunc30.dr : DrOk Tryd.prog IndexFunc30.A (codeOf Tryd.f30) := ⟨by kernel_rfl, by kernel_rfl⟩
theorem IndexFunc30.ok (k : Nat) : SoundAt Tryd.prog k IndexFunc30.S :=
  runF_sound (X := ⟨types, IndexFunc30.G, IndexFunc30.A, k, 0, []⟩) types_ok (mem_all (⟨Named152.ok k, trivial⟩)) (fn := Tryd.f30) (c := codeOf Tryd.f30) rfl (by kernel_rfl) rfl rfl IndexFunc30.dr (IndexFunc30.eq k)

def Clone68 (k : Nat) (s : tY23) : Option tY20 :=
  orNil (List.length s)
    (cond true
      (some ((), []))
      ((if room (0 + List.length s) 48 then some () else none).bind fun _ =>
      some ((), s)))
    (cond false
      (some ((), []))
      ((if room (0 + List.length s) 48 then some () else none).bind fun _ =>
      some ((), s)))
def Clone68.A : Ann := { conds := [], blocks := [], loops := [], keeps := [], orders := [] }
def Clone68.S : Sig := { f := 68, params := [.sl kY7], objs := [], res := .ms 0, outs := [.row kY7], fix := [], run := fun k ds os => Clone68 k ds }
def Clone68.G : List Sig := []
theorem Clone68.eq (k : Nat) : ∀ ds os, Clone68.S.run k ds os = runF ⟨types, Clone68.G, Clone68.A, k, 0, []⟩ Tryd.f68 (codeOf Tryd.f68) Clone68.S.params Clone68.S.objs Clone68.S.res Clone68.S.outs ds os := by
  intro ds os; kernel_rfl
theorem Clone68.dr : DrOk Tryd.prog Clone68.A (codeOf Tryd.f68) := ⟨by kernel_rfl, by kernel_rfl⟩
theorem Clone68.ok (k : Nat) : SoundAt Tryd.prog k Clone68.S :=
  runF_sound (X := ⟨types, Clone68.G, Clone68.A, k, 0, []⟩) types_ok (fun s hs => absurd hs List.not_mem_nil) (fn := Tryd.f68) (c := codeOf Tryd.f68) rfl (by kernel_rfl) rfl rfl Clone68.dr (Clone68.eq k)

def Clone69 (k : Nat) (s : tY29) : Option tY26 :=
  orNil (List.length s)
    (cond true
      (some ((), []))
      ((if room (0 + List.length s) 32 then some () else none).bind fun _ =>
      some ((), s)))
    (cond false
      (some ((), []))
      ((if room (0 + List.length s) 32 then some () else none).bind fun _ =>
      some ((), s)))
def Clone69.A : Ann := { conds := [], blocks := [], loops := [], keeps := [], orders := [] }
def Clone69.S : Sig := { f := 69, params := [.sl kY10], objs := [], res := .ms 0, outs := [.row kY10], fix := [], run := fun k ds os => Clone69 k ds }
def Clone69.G : List Sig := []
theorem Clone69.eq (k : Nat) : ∀ ds os, Clone69.S.run k ds os = runF ⟨types, Clone69.G, Clone69.A, k, 0, []⟩ Tryd.f69 (codeOf Tryd.f69) Clone69.S.params Clone69.S.objs Clone69.S.res Clone69.S.outs ds os := by
  intro ds os; kernel_rfl
theorem Clone69.dr : DrOk Tryd.prog Clone69.A (codeOf Tryd.f69) := ⟨by kernel_rfl, by kernel_rfl⟩
theorem Clone69.ok (k : Nat) : SoundAt Tryd.prog k Clone69.S :=
  runF_sound (X := ⟨types, Clone69.G, Clone69.A, k, 0, []⟩) types_ok (fun s hs => absurd hs List.not_mem_nil) (fn := Tryd.f69) (c := codeOf Tryd.f69) rfl (by kernel_rfl) rfl rfl Clone69.dr (Clone69.eq k)

def copies56.l0 (k : Nat) (t6 : tY20) : tY19 → Option (tY19 ⊕ tY20)
  | (_, t9, o0) =>
    cond (decide (t9 < (List.length t6.2 : Int)))
      ((rd o0 t9).bind fun _ =>
      (rd o0 t9).bind fun t18 =>
      (Clone69 k t18.2.2.2).bind fun t19 =>
      (rd o0 t9).bind fun _ =>
      (rd o0 t9).bind fun _x_2 =>
      some (Sum.inl ((), (w64 (t9 + 1)), (List.set o0 (Int.toNat t9) (_x_2.1, _x_2.2.1, _x_2.2.2.1, t19.2)))))
      (some (Sum.inr ((), o0)))
def copies56 (k : Nat) (l : tY23) : Option tY21 :=
  (Clone68 k l).bind fun t6 =>
  Option.bind
    (loopN (copies56.l0 k t6) k ((), 0, t6.2) : Option tY20) fun ((_, o0_1) : tY20) =>
  some (o0_1, ())
def copies56.A : Ann := { conds := [], blocks := [(0, ⟨[(3, .ms 0)], [(0, .row kY7)], 1, [], 8388112⟩)], loops := [(3, ⟨[(3, .ms 0), (9, .int .i64)], [(0, .row kY7)], 1, [], 8388112⟩)], keeps := [], orders := [] }
def copies56.S : Sig := { f := 56, params := [.sl kY7], objs := [], res := .sl kY7, outs := [], fix := [], run := fun k ds os => copies56 k ds }
def copies56.G : List Sig := [Clone68.S, Clone69.S]
theorem copies56.eq (k : Nat) : ∀ ds os, copies56.S.run k ds os = runF ⟨types, copies56.G, copies56.A, k, 0, []⟩ Tryd.f56 (codeOf Tryd.f56) copies56.S.params copies56.S.objs copies56.S.res copies56.S.outs ds os := by
  intro ds os; kernel_rfl
theorem copies56.dr : DrOk Tryd.prog copies56.A (codeOf Tryd.f56) := ⟨by kernel_rfl, by kernel_rfl⟩
theorem copies56.ok (k : Nat) : SoundAt Tryd.prog k copies56.S :=
  runF_sound (X := ⟨types, copies56.G, copies56.A, k, 0, []⟩) types_ok (mem_all (⟨Clone68.ok k, ⟨Clone69.ok k, trivial⟩⟩)) (fn := Tryd.f56) (c := codeOf Tryd.f56) rfl (by kernel_rfl) rfl rfl copies56.dr (copies56.eq k)

def Copy33 (k : Nat) (x : tY17) : Option tY13 :=
  (copies56 k x.2.2.2).bind fun t5 =>
  some ((x.1, x.2.1, x.2.2.1, t5.1), ())
def Copy33.A : Ann := { conds := [], blocks := [], loops := [], keeps := [], orders := [] }
def Copy33.S : Sig := { f := 33, params := [.st kY5], objs := [], res := .st kY5, outs := [], fix := [], run := fun k ds os => Copy33 k ds }
def Copy33.G : List Sig := [copies56.S]
theorem Copy33.eq (k : Nat) : ∀ ds os, Copy33.S.run k ds os = runF ⟨types, Copy33.G, Copy33.A, k, 0, []⟩ Tryd.f33 (codeOf Tryd.f33) Copy33.S.params Copy33.S.objs Copy33.S.res Copy33.S.outs ds os := by
  intro ds os; kernel_rfl
theorem Copy33.dr : DrOk Tryd.prog Copy33.A (codeOf Tryd.f33) := ⟨by kernel_rfl, by kernel_rfl⟩
theorem Copy33.ok (k : Nat) : SoundAt Tryd.prog k Copy33.S :=
  runF_sound (X := ⟨types, Copy33.G, Copy33.A, k, 0, []⟩) types_ok (mem_all (⟨copies56.ok k, trivial⟩)) (fn := Tryd.f33) (c := codeOf Tryd.f33) rfl (by kernel_rfl) rfl rfl Copy33.dr (Copy33.eq k)
end Go.Proofs.YtcppmlgnceldmaaDoor.Do

/- Go functions as plain Lean functions, and their contracts. -/
set_option linter.unusedVariables false
set_option maxRecDepth 100000
noncomputable section
namespace Go.Proofs.YtcppmlgnceldmaaDoor.Do
open Go Go.Proofs.YtcppmlgnceldmaaDoor.Gp
def Named29 (k : Nat) (c : tY2) (name : ByteArray) (mode : Int) : Option tY8 :=
  (IndexFunc30 k c.2.1 (name, mode, ())).bind fun t12 =>
  cond (decide (t12.1 < 0))
    (some (((0, (ByteArray.mk #[]), 0, []), false, ()), ()))
    ((rd c.2.1 t12.1).bind fun t19 =>
    (Copy33 k t19).bind fun t21 =>
    some ((t21.1, true, ()), ()))
def Named29.A : Ann := { conds := [], blocks := [], loops := [], keeps := [3, 4, 5], orders := [] }
def Named29.S : Sig := { f := 29, params := [.st kY1, .str, .int .i64], objs := [], res := .tup kY2, outs := [], fix := [], run := fun k ds os => Named29 k ds.1 ds.2.1 ds.2.2 }
def Named29.G : List Sig := [Copy33.S, IndexFunc30.S]
theorem Named29.eq (k : Nat) : ∀ ds os, Named29.S.run k ds os = runF ⟨types, Named29.G, Named29.A, k, 0, []⟩ Tryd.f29 (codeOf Tryd.f29) Named29.S.params Named29.S.objs Named29.S.res Named29.S.outs ds os := by
  intro ds os; kernel_rfl
theorem Named29.dr : DrOk Tryd.prog Named29.A (codeOf Tryd.f29) := ⟨by kernel_rfl, by kernel_rfl⟩
theorem Named29.ok (k : Nat) : SoundAt Tryd.prog k Named29.S :=
  runF_sound (X := ⟨types, Named29.G, Named29.A, k, 0, []⟩) types_ok (mem_all (⟨Copy33.ok k, ⟨IndexFunc30.ok k, trivial⟩⟩)) (fn := Tryd.f29) (c := codeOf Tryd.f29) rfl (by kernel_rfl) rfl rfl Named29.dr (Named29.eq k)

def nop9 (k : Nat) : Option ((Int × (tY34 × (List (ByteArray × Int)))) × Unit) :=
  (Cpu8 k).bind fun t6 =>
  (Named29 k t6.1 (ByteArray.mk #[110, 111, 112]) 0).bind fun t7 =>
  (Cpu8 k).bind fun t11 =>
  (Named29 k t11.1 (ByteArray.mk #[106, 109, 112]) 4).bind fun t12 =>
  some ((512, ([(IntKind.wrap .u8 t7.1.1.1), (IntKind.wrap .u8 t12.1.1.1), 0, 2] : List Int), []), ())
def nop9.A : Ann := { conds := [], blocks := [], loops := [], keeps := [1, 3], orders := [] }
def nop9.S : Sig := { f := 9, params := [], objs := [], res := .st kY9, outs := [], fix := [], run := fun k ds os => nop9 k }
def nop9.G : List Sig := [Cpu8.S, Named29.S]
theorem nop9.eq (k : Nat) : ∀ ds os, nop9.S.run k ds os = runF ⟨types, nop9.G, nop9.A, k, 0, []⟩ Tryd.f9 (codeOf Tryd.f9) nop9.S.params nop9.S.objs nop9.S.res nop9.S.outs ds os := by
  intro ds os; kernel_rfl
theorem nop9.dr : DrOk Tryd.prog nop9.A (codeOf Tryd.f9) := ⟨by kernel_rfl, by kernel_rfl⟩
theorem nop9.ok (k : Nat) : SoundAt Tryd.prog k nop9.S :=
  runF_sound (X := ⟨types, nop9.G, nop9.A, k, 0, []⟩) types_ok (mem_all (⟨Cpu8.ok k, ⟨Named29.ok k, trivial⟩⟩)) (fn := Tryd.f9) (c := codeOf Tryd.f9) rfl (by kernel_rfl) rfl rfl nop9.dr (nop9.eq k)

def Find132 (k : Nat) (x : tY17) (t1 : Int) : Option tY32 :=
  some ((x.1 == t1), ())
def Find132.A : Ann := { conds := [], blocks := [], loops := [], keeps := [2], orders := [] }
def Find132.S : Sig := { f := 32, params := [.st kY5, .fp kY18], objs := [], res := .bool, outs := [], fix := [], run := fun k ds os => Find132 k ds.1 ds.2 }
def Find132.G : List Sig := []
theorem Find132.eq (k : Nat) : ∀ ds os, Find132.S.run k ds os = runF ⟨types, Find132.G, Find132.A, k, 0, []⟩ Tryd.f32 (codeOf Tryd.f32) Find132.S.params Find132.S.objs Find132.S.res Find132.S.outs ds os := by
  intro ds os; kernel_rfl
theorem Find132.dr : DrOk Tryd.prog Find132.A (codeOf Tryd.f32) := ⟨by kernel_rfl, by kernel_rfl⟩
theorem Find132.ok (k : Nat) : SoundAt Tryd.prog k Find132.S :=
  runF_sound (X := ⟨types, Find132.G, Find132.A, k, 0, []⟩) types_ok (fun s hs => absurd hs List.not_mem_nil) (fn := Tryd.f32) (c := codeOf Tryd.f32) rfl (by kernel_rfl) rfl rfl Find132.dr (Find132.eq k)

def IndexFunc30'.l0 (k : Nat) (s : tY16) : (tY33 × Int) → Option ((tY33 × Int) ⊕ tY31)
  | (f_1, t8) =>
    cond (decide (t8 < (List.length s : Int)))
      ((rd s t8).bind fun t14 =>
      (Find132 k t14 f_1.1).bind fun t16 =>
      cond t16.1
        (some (Sum.inr (Sum.inr (t8, ()))))
        (some (Sum.inl (f_1, (w64 (t8 + 1))))))
      (some (Sum.inr (Sum.inl ())))
def IndexFunc30' (k : Nat) (s : tY16) (f : tY33) : Option tY33 :=
  Option.bind
    (loopN (IndexFunc30'.l0 k s) k (f, 0) : Option tY31) (joined fun (_ : Unit) =>
    some ((-1), ()))
def IndexFunc30'.A : Ann := { conds := [], blocks := [(0, ⟨[], [], 0, [], 524080⟩)], loops := [(2, ⟨[(1, .fn 32 (.pair (.fp kY18) .unit)), (8, .int .i64)], [], 0, [], 524080⟩)], keeps := [], orders := [] }
def IndexFunc30'.S : Sig := { f := 30, params := [.sl kY4, .fn 32 (.pair (.fp kY18) .unit)], objs := [], res := .int .i64, outs := [], fix := [], run := fun k ds os => IndexFunc30' k ds.1 ds.2 }
def IndexFunc30'.G : List Sig := [Find132.S]
theorem IndexFunc30'.eq (k : Nat) : ∀ ds os, IndexFunc30'.S.run k ds os = runF ⟨types, IndexFunc30'.G, IndexFunc30'.A, k, 0, []⟩ Tryd.f30 (codeOf Tryd.f30) IndexFunc30'.S.params IndexFunc30'.S.objs IndexFunc30'.S.res IndexFunc30'.S.outs ds os := by
  intro ds os; kernel_rfl
theorem IndexFunc30'.dr : DrOk Tryd.prog IndexFunc30'.A (codeOf Tryd.f30) := ⟨by kernel_rfl, by kernel_rfl⟩
theorem IndexFunc30'.ok (k : Nat) : SoundAt Tryd.prog k IndexFunc30'.S :=
  runF_sound (X := ⟨types, IndexFunc30'.G, IndexFunc30'.A, k, 0, []⟩) types_ok (mem_all (⟨Find132.ok k, trivial⟩)) (fn := Tryd.f30) (c := codeOf Tryd.f30) rfl (by kernel_rfl) rfl rfl IndexFunc30'.dr (IndexFunc30'.eq k)

def Find16 (k : Nat) (c : tY2) (op : Int) : Option tY8 :=
  (IndexFunc30' k c.2.1 (op, ())).bind fun t10 =>
  cond (decide (t10.1 < 0))
    (some (((0, (ByteArray.mk #[]), 0, []), false, ()), ()))
    ((rd c.2.1 t10.1).bind fun t17 =>
    (Copy33 k t17).bind fun t19 =>
    some ((t19.1, true, ()), ()))
def Find16.A : Ann := { conds := [], blocks := [], loops := [], keeps := [2, 3], orders := [] }
def Find16.S : Sig := { f := 16, params := [.st kY1, .int .i64], objs := [], res := .tup kY2, outs := [], fix := [], run := fun k ds os => Find16 k ds.1 ds.2 }
def Find16.G : List Sig := [Copy33.S, IndexFunc30'.S]
theorem Find16.eq (k : Nat) : ∀ ds os, Find16.S.run k ds os = runF ⟨types, Find16.G, Find16.A, k, 0, []⟩ Tryd.f16 (codeOf Tryd.f16) Find16.S.params Find16.S.objs Find16.S.res Find16.S.outs ds os := by
  intro ds os; kernel_rfl
theorem Find16.dr : DrOk Tryd.prog Find16.A (codeOf Tryd.f16) := ⟨by kernel_rfl, by kernel_rfl⟩
theorem Find16.ok (k : Nat) : SoundAt Tryd.prog k Find16.S :=
  runF_sound (X := ⟨types, Find16.G, Find16.A, k, 0, []⟩) types_ok (mem_all (⟨Copy33.ok k, ⟨IndexFunc30'.ok k, trivial⟩⟩)) (fn := Tryd.f16) (c := codeOf Tryd.f16) rfl (by kernel_rfl) rfl rfl Find16.dr (Find16.eq k)

def Size11 (k : Nat) (mode : Int) : Option tY33 :=
  cond (mode == 0)
    (some (0, ()))
    (Option.bind
      (cond (mode == 4)
        (some (mode == 4))
        (Option.bind
          (cond (mode == 5)
            (some (mode == 5))
            (some (mode == 6)) : Option Bool) fun (t6 : Bool) =>
        some t6) : Option Bool) fun (t6_1 : Bool) =>
    cond t6_1
      (some (2, ()))
      (Option.bind
        (cond (mode == 1)
          (some (mode == 1))
          (Option.bind
            (cond (mode == 2)
              (some (mode == 2))
              (Option.bind
                (cond (mode == 3)
                  (some (mode == 3))
                  (Option.bind
                    (cond (mode == 7)
                      (some (mode == 7))
                      (some (mode == 8)) : Option Bool) fun (t10 : Bool) =>
                  some t10) : Option Bool) fun (t10_1 : Bool) =>
              some t10_1) : Option Bool) fun (t10_2 : Bool) =>
          some t10_2) : Option Bool) fun (t10_3 : Bool) =>
      cond t10_3
        (some (1, ()))
        (some ((-1), ()))))
def Size11.A : Ann := { conds := [(393221, ⟨[(6, .bool)], [], 0, [], 832⟩), (393222, ⟨[(6, .bool)], [], 0, [], 576⟩), (655369, ⟨[(10, .bool)], [], 0, [], 62464⟩), (655370, ⟨[(10, .bool)], [], 0, [], 58368⟩), (655371, ⟨[(10, .bool)], [], 0, [], 50176⟩), (655372, ⟨[(10, .bool)], [], 0, [], 33792⟩)], blocks := [], loops := [], keeps := [], orders := [] }
def Size11.S : Sig := { f := 11, params := [.int .i64], objs := [], res := .int .i64, outs := [], fix := [], run := fun k ds os => Size11 k ds }
def Size11.G : List Sig := []
theorem Size11.eq (k : Nat) : ∀ ds os, Size11.S.run k ds os = runF ⟨types, Size11.G, Size11.A, k, 0, []⟩ Tryd.f11 (codeOf Tryd.f11) Size11.S.params Size11.S.objs Size11.S.res Size11.S.outs ds os := by
  intro ds os; kernel_rfl
theorem Size11.dr : DrOk Tryd.prog Size11.A (codeOf Tryd.f11) := ⟨by kernel_rfl, by kernel_rfl⟩
theorem Size11.ok (k : Nat) : SoundAt Tryd.prog k Size11.S :=
  runF_sound (X := ⟨types, Size11.G, Size11.A, k, 0, []⟩) types_ok (fun s hs => absurd hs List.not_mem_nil) (fn := Tryd.f11) (c := codeOf Tryd.f11) rfl (by kernel_rfl) rfl rfl Size11.dr (Size11.eq k)

def width36 (k : Nat) (bits : Int) : Option tY33 :=
  some ((mxI 0 (mnI bits 62)), ())
def width36.A : Ann := { conds := [], blocks := [], loops := [], keeps := [], orders := [] }
def width36.S : Sig := { f := 36, params := [.int .i64], objs := [], res := .int .i64, outs := [], fix := [], run := fun k ds os => width36 k ds }
def width36.G : List Sig := []
theorem width36.eq (k : Nat) : ∀ ds os, width36.S.run k ds os = runF ⟨types, width36.G, width36.A, k, 0, []⟩ Tryd.f36 (codeOf Tryd.f36) width36.S.params width36.S.objs width36.S.res width36.S.outs ds os := by
  intro ds os; kernel_rfl
theorem width36.dr : DrOk Tryd.prog width36.A (codeOf Tryd.f36) := ⟨by kernel_rfl, by kernel_rfl⟩
theorem width36.ok (k : Nat) : SoundAt Tryd.prog k width36.S :=
  runF_sound (X := ⟨types, width36.G, width36.A, k, 0, []⟩) types_ok (fun s hs => absurd hs List.not_mem_nil) (fn := Tryd.f36) (c := codeOf Tryd.f36) rfl (by kernel_rfl) rfl rfl width36.dr (width36.eq k)

def Low19 (k : Nat) (n : Int) (bits : Int) : Option tY33 :=
  (width36 k bits).bind fun t7 =>
  (if t7.1 < 0 then none else some (shlI .i64 1 t7.1)).bind fun t8 =>
  some ((ibits .and .i64 n (w64 (t8 - 1))), ())
def Low19.A : Ann := { conds := [], blocks := [], loops := [], keeps := [], orders := [] }
def Low19.S : Sig := { f := 19, params := [.int .i64, .int .i64], objs := [], res := .int .i64, outs := [], fix := [], run := fun k ds os => Low19 k ds.1 ds.2 }
def Low19.G : List Sig := [width36.S]
theorem Low19.eq (k : Nat) : ∀ ds os, Low19.S.run k ds os = runF ⟨types, Low19.G, Low19.A, k, 0, []⟩ Tryd.f19 (codeOf Tryd.f19) Low19.S.params Low19.S.objs Low19.S.res Low19.S.outs ds os := by
  intro ds os; kernel_rfl
theorem Low19.dr : DrOk Tryd.prog Low19.A (codeOf Tryd.f19) := ⟨by kernel_rfl, by kernel_rfl⟩
theorem Low19.ok (k : Nat) : SoundAt Tryd.prog k Low19.S :=
  runF_sound (X := ⟨types, Low19.G, Low19.A, k, 0, []⟩) types_ok (mem_all (⟨width36.ok k, trivial⟩)) (fn := Tryd.f19) (c := codeOf Tryd.f19) rfl (by kernel_rfl) rfl rfl Low19.dr (Low19.eq k)
end Go.Proofs.YtcppmlgnceldmaaDoor.Do

/- What is known of package-level variables: the table of strconv's powers of ten; some number stands in bytealg's variable. -/
noncomputable section
namespace Go.Proofs.YtcppmlgnceldmaaDoor.Gp
open Go
theorem pow10_eq : Lib.pow10Tab = pow10L := by kernel_rfl
theorem g_pow10 : Tryd.prog.globalNamed "internal/strconv.uint64pow10" = some 3 := by kernel_rfl
theorem tab_pow10 (H : Nat → Option Go.Obj) (w : World) (h : GH H) (ha : ∀ b o, H b = some o → w.heap[b]? = some o) : Lib.TabIs Tryd.prog w "internal/strconv.uint64pow10" .u64 Lib.pow10Tab := by
  obtain ⟨o, h1, t, z, h2⟩ := h _ (List.mem_cons_of_mem _ (List.mem_cons_self ..))
  have h1 : H 3 = some o := h1
  have h3 := ha _ _ h1
  rw [h2] at h3
  unfold Lib.TabIs World.var?
  rw [g_pow10]
  simp only [Option.bind_some, h3, pow10_eq]
theorem max_len (H : Nat → Option Go.Obj) (w : World) (h : GH H) (ha : ∀ b o, H b = some o → w.heap[b]? = some o) : ∃ m, w.cell? ⟨0, 0, none⟩ = some (.int .i64 m) := by
  obtain ⟨o, h1, cs, m, t, z, h2, h4⟩ := h _ (List.mem_cons_self ..)
  have h1 : H 0 = some o := h1
  have h3 := ha _ _ h1
  rw [h2] at h3
  refine ⟨m, ?_⟩
  unfold World.cell?
  simp [h3, h4]
/-- what a call begins with -/
theorem gh_of {W : World} (h : Lib.TabIs Tryd.prog W "internal/strconv.uint64pow10" .u64 Lib.pow10Tab) (hm : ∃ m, W.cell? ⟨0, 0, none⟩ = some (.int .i64 m)) : GH (fun b => W.heap[b]?) := by
  intro p hp
  rcases List.mem_cons.1 hp with rfl | hp
  · obtain ⟨m, hm⟩ := hm
    unfold World.cell? at hm
    cases hh : W.heap[0]? with
    | none => simp [hh] at hm
    | some o =>
      cases o with
      | cells cs t z =>
        refine ⟨_, hh, cs, m, t, z, rfl, ?_⟩
        simpa [hh] using hm
      | _ => simp [hh] at hm
  · rw [List.mem_singleton] at hp
    subst hp
    unfold Lib.TabIs World.var? at h
    rw [g_pow10, Option.bind_some] at h
    cases hh : W.heap[3]? with
    | none => rw [hh] at h; cases h
    | some o =>
      rw [hh] at h
      cases o with
      | cells cs t z =>
        refine ⟨_, hh, t, z, ?_⟩
        rw [Option.some.inj h, pow10_eq]
      | _ => cases h
end Go.Proofs.YtcppmlgnceldmaaDoor.Gp

/- Functions of the library that only answer: their contracts as ours. strconv.Itoa, strings.Replace. -/
set_option linter.unusedVariables false
noncomputable section
namespace Go.Proofs.YtcppmlgnceldmaaDoor.Gp
open Go Go.RowKit Go.Shelf

/-- a contract of a function that only answers: memory below stays -/
theorem pure_sound {P : Program} {f : Nat} {params : List K} {res : K} {run : HL params → Option res.den} (hfn : ∃ fn c, P.funcs[f]? = some fn ∧ (fn.name == "runtime.NumGoroutine") = false ∧ fn.body = some c)
    (h : ∀ ds r, run ds = some r → ∀ (xs : Array Value) (w : World) (H : Hp) (L : Ls), SRs H L (unpackL params ds) xs.toList → GH H → (∀ b o, H b = some o → w.heap[b]? = some o) →
      Calls P f xs w fun e w' => ∃ v, e = .returned v ∧ (∀ H' L', SR H' L' ⟨res, r⟩ v) ∧ Below w.heap.size w w') (k : Nat) :
    SoundAt P k { f := f, params := params, objs := [], res := res, outs := [], fix := [], run := fun _ ds _ => (run ds).map (fun r => (r, ())) } := by
  refine ⟨hfn, fun ds os q hq xs w H L hx hp hl => ?_⟩
  obtain ⟨r, hr, rfl⟩ := Option.map_eq_some_iff.1 hq
  refine (h ds r hr xs w H L hx hp.glob hp.agree).mono fun e w' hh => ?_
  obtain ⟨v, rfl, hv, hb⟩ := hh
  have hno : ∀ (L : Ls) b, ¬ Own (assoc O.dead (objsFrom 0 ([] : List OK) ())) L b := fun L b ⟨i, hi, _⟩ => hi
  refine ⟨v, H, (fun _ => default), rfl, hv _ _, ⟨fun i => trivial, fun b o hbo => ?_, fun i hi => hi.elim, fun i j hi => hi.elim, hp.glob⟩, (fun i hi => by cases hi), ⟨⟨fun _ _ h => h, fun b hlt _ => hb.block b hlt, fun _ _ h => .inl h, fun b hb => absurd hb (hno _ b), hb.size, hb.os, hb.tape, hb.output⟩, (fun i hi => by cases hi), (fun i hi => by cases hi)⟩⟩
  have hlt : b < w.heap.size := (Array.getElem?_eq_some_iff.1 (hp.agree b o hbo)).1
  rw [hb.block b hlt]
  exact hp.agree b o hbo
theorem sr_int {H : Hp} {L : Ls} {k : IntKind} {n : Int} {x : Value} (h : SR H L ⟨.int k, n⟩ x) : x = .int k n := by
  obtain ⟨us, hus, rfl⟩ := h
  have hus : us = [Value.int k n] := hus
  subst hus
  rfl
theorem sr_str {H : Hp} {L : Ls} {s : ByteArray} {x : Value} (h : SR H L ⟨.str, s⟩ x) : x = .string s := by
  obtain ⟨us, hus, rfl⟩ := h
  have hus : us = [Value.string s] := hus
  subst hus
  rfl
theorem str_sr {H : Hp} {L : Ls} {s : ByteArray} : SR H L ⟨.str, s⟩ (.string s) := ⟨[Value.string s], rfl, rfl⟩
def itoaF (n : Int) : Option ByteArray := if -9223372036854775808 ≤ n ∧ n ≤ 9223372036854775807 then some ⟨(Lib.itoa n).toArray⟩ else none
def itoaS (f : Nat) : Sig := { f := f, params := [.int .i64], objs := [], res := .str, outs := [], fix := [], run := fun _ (ds : Int) _ => (itoaF ds).map (fun r => (r, ())) }
theorem itoa_sound {P : Program} {ρ : Ren} (Ly : LaysM.n171 P ρ) {f : Nat} (hf : ρ.f 171 = f) (hfn : ∃ fn c, P.funcs[f]? = some fn ∧ (fn.name == "runtime.NumGoroutine") = false ∧ fn.body = some c)
    (htab : ∀ (H : Hp) (w : World), GH H → (∀ b o, H b = some o → w.heap[b]? = some o) → Lib.TabIs P w "internal/strconv.uint64pow10" .u64 Lib.pow10Tab) (k : Nat) : SoundAt P k (itoaS f) := by
  subst hf
  refine pure_sound (params := [.int .i64]) (res := .str) (run := itoaF) hfn (fun (ds : Int) r hr xs w H L hx hg ha => ?_) k
  unfold itoaF at hr
  split at hr
  case isFalse => cases hr
  rename_i hn
  cases hr
  have hxs : xs = #[.int .i64 ds] := by
    have hx : SRs H L [⟨.int .i64, ds⟩] xs.toList := hx
    generalize hl' : xs.toList = l at hx
    cases hx with
    | cons h1 h2 =>
      cases h2
      rw [sr_int h1] at hl'
      rw [← Array.toArray_toList (xs := xs), hl']
  subst hxs
  refine (Any.strconv_Itoa Ly ds hn.1 hn.2 w (htab H w hg ha)).mono ?_
  rintro e w' ⟨rfl, n, os, rfl⟩
  refine ⟨_, rfl, fun _ _ => str_sr, ⟨rfl, rfl, rfl, ?_, fun b hb => ?_⟩⟩
  · show w.heap.size ≤ (w.heap ++ os).size
    rw [Array.size_append]; omega
  · show (w.heap ++ os)[b]? = _
    rw [Array.getElem?_append_left hb]
def replB (s old new : ByteArray) (n : Int) : ByteArray := ⟨(Lib.replace s.data.toList old.data.toList new.data.toList n).toArray⟩
def replF (ds : ByteArray × ByteArray × ByteArray × Int) : Option ByteArray := if ds.1.size < 4294967281 ∧ 1 ≤ ds.2.1.size ∧ ds.1.size + Lib.countB ds.1 ds.2.1 * ds.2.2.1.size ≤ 140737488355328 then some (replB ds.1 ds.2.1 ds.2.2.1 ds.2.2.2) else none
def replS (f : Nat) : Sig := { f := f, params := [.str, .str, .str, .int .i64], objs := [], res := .str, outs := [], fix := [], run := fun _ (ds : ByteArray × ByteArray × ByteArray × Int) _ => (replF ds).map (fun r => (r, ())) }
theorem repl_sound {P : Program} {ρ : Ren} (Ly : Lays.n154 P ρ) (X : Builder.Extra P ρ) {f : Nat} (hf : ρ.f 154 = f) (hfn : ∃ fn c, P.funcs[f]? = some fn ∧ (fn.name == "runtime.NumGoroutine") = false ∧ fn.body = some c)
    (hml : ∀ (H : Hp) (w : World), GH H → (∀ b o, H b = some o → w.heap[b]? = some o) → ∃ m, w.cell? ⟨(ρ.g 1), 0, none⟩ = some (.int .i64 m)) (k : Nat) : SoundAt P k (replS f) := by
  subst hf
  refine pure_sound (params := [.str, .str, .str, .int .i64]) (res := .str) (run := replF) hfn (fun (ds : ByteArray × ByteArray × ByteArray × Int) r hr xs w H L hx hg ha => ?_) k
  obtain ⟨s, old, new, n⟩ := ds
  unfold replF at hr
  split at hr
  case isFalse => cases hr
  rename_i hn
  cases hr
  have hxs : xs = #[.string s, .string old, .string new, .int .i64 n] := by
    have hx : SRs H L [⟨.str, s⟩, ⟨.str, old⟩, ⟨.str, new⟩, ⟨.int .i64, n⟩] xs.toList := hx
    generalize hl' : xs.toList = l at hx
    cases hx with
    | cons h1 h2 =>
      cases h2 with
      | cons h3 h4 =>
        cases h4 with
        | cons h5 h6 =>
          cases h6 with
          | cons h7 h8 =>
            cases h8
            rw [sr_str h1, sr_str h3, sr_str h5, sr_int h7] at hl'
            rw [← Array.toArray_toList (xs := xs), hl']
  subst hxs
  obtain ⟨m, hm⟩ := hml H w hg ha
  refine (Any.strings_Replace Ly X s old new n m w hn.1 hm hn.2.1 hn.2.2).mono ?_
  rintro e w' ⟨rfl, hb⟩
  exact ⟨_, rfl, fun _ _ => str_sr, hb⟩
end Go.Proofs.YtcppmlgnceldmaaDoor.Gp

/-
  DERIVED: THE SHELF's CONTRACTS AT THIS DUMP, IN PLAIN WORDS (tools/lay-plain.mjs out of 'YtcppmlgnceldmaaDoorShelf.lean', which tools/lay-shelf.mjs wrote): THE SAME DECLARATIONS UNDER THE SAME NAMES: 'import', 'namespace', 'open', 'def', 'theorem' AND NOTHING ELSE: no command of the shelf's: FOR A HAND-IN. Each laying: the table of numbers ('.._ren') and one theorem, a field a fact of the dump's own or the kernel's comparison; each contract: ONE APPLICATION.
-/
namespace Go.Proofs
open Go.Shelf
def Tryd.laysM171_ren : Go.Shelf.Ren := ⟨fun | 171 => 17 | 243 => 34 | 246 => 57 | 283 => 70 | 284 => 71 | 285 => 72 | 286 => 73 | 129 => 82 | 317 => 81 | 318 => 83 | 319 => 84 | 320 => 85 | 337 => 88 | 338 => 89 | n => n, fun | 3 => 3 | 9 => 9 | 2 => 2 | 4 => 4 | 171 => 109 | 0 => 0 | 53 => 110 | 37 => 26 | 5 => 5 | 173 => 113 | 212 => 125 | 51 => 126 | 20 => 20 | 213 => 127 | 46 => 118 | 232 => 132 | 233 => 133 | n => n, fun | 17 => 3 | 18 => 4 | 19 => 5 | n => n⟩
theorem Tryd.laysM171 : Go.Proofs.LaysM.n171 Tryd.prog Tryd.laysM171_ren := {
  mixed := by kernel_rfl
  f129 := Tryd.func82.trans (congrArg some (by kernel_rfl))
  f171 := Tryd.func17.trans (congrArg some (by kernel_rfl))
  f243 := Tryd.func34.trans (congrArg some (by kernel_rfl))
  f246 := Tryd.func57.trans (congrArg some (by kernel_rfl))
  f283 := Tryd.func70.trans (congrArg some (by kernel_rfl))
  f284 := Tryd.func71.trans (congrArg some (by kernel_rfl))
  f285 := Tryd.func72.trans (congrArg some (by kernel_rfl))
  f286 := Tryd.func73.trans (congrArg some (by kernel_rfl))
  f317 := Tryd.func81.trans (congrArg some (by kernel_rfl))
  f318 := Tryd.func83.trans (congrArg some (by kernel_rfl))
  f319 := Tryd.func84.trans (congrArg some (by kernel_rfl))
  f320 := Tryd.func85.trans (congrArg some (by kernel_rfl))
  f337 := Tryd.func88.trans (congrArg some (by kernel_rfl))
  f338 := Tryd.func89.trans (congrArg some (by kernel_rfl))
  t0 := Tryd.underlying0
  a0 := Tryd.isAgg0
  z0 := Tryd.sizeOf0
  v0 := Tryd.zeroValue0
  t2 := Tryd.underlying2
  a2 := Tryd.isAgg2
  z2 := Tryd.sizeOf2
  v2 := Tryd.zeroValue2
  t3 := Tryd.underlying3
  a3 := Tryd.isAgg3
  z3 := Tryd.sizeOf3
  v3 := Tryd.zeroValue3
  t4 := Tryd.underlying4
  a4 := Tryd.isAgg4
  z4 := Tryd.sizeOf4
  v4 := Tryd.zeroValue4
  t5 := Tryd.underlying5
  a5 := Tryd.isAgg5
  z5 := Tryd.sizeOf5
  v5 := Tryd.zeroValue5
  t9 := Tryd.underlying9
  a9 := Tryd.isAgg9
  z9 := Tryd.sizeOf9
  v9 := Tryd.zeroValue9
  t20 := Tryd.underlying20
  a20 := Tryd.isAgg20
  z20 := Tryd.sizeOf20
  v20 := Tryd.zeroValue20
  t37 := Tryd.underlying26
  a37 := Tryd.isAgg26
  z37 := Tryd.sizeOf26
  v37 := Tryd.zeroValue26
  t46 := Tryd.underlying118
  a46 := Tryd.isAgg118
  z46 := Tryd.sizeOf118
  v46 := Tryd.zeroValue118
  t51 := Tryd.underlying126
  a51 := Tryd.isAgg126
  z51 := Tryd.sizeOf126
  v51 := Tryd.zeroValue126
  t53 := Tryd.underlying110
  a53 := Tryd.isAgg110
  z53 := Tryd.sizeOf110
  v53 := Tryd.zeroValue110
  t171 := Tryd.underlying109
  a171 := Tryd.isAgg109
  z171 := Tryd.sizeOf109
  v171 := Tryd.zeroValue109
  t173 := Tryd.underlying113
  a173 := Tryd.isAgg113
  z173 := Tryd.sizeOf113
  v173 := Tryd.zeroValue113
  t212 := Tryd.underlying125
  a212 := Tryd.isAgg125
  z212 := Tryd.sizeOf125
  v212 := Tryd.zeroValue125
  t213 := Tryd.underlying127
  a213 := Tryd.isAgg127
  z213 := Tryd.sizeOf127
  t232 := Tryd.underlying132
  a232 := Tryd.isAgg132
  z232 := Tryd.sizeOf132
  v232 := Tryd.zeroValue132
  t233 := Tryd.underlying133
  a233 := Tryd.isAgg133
  z233 := Tryd.sizeOf133
  v233 := Tryd.zeroValue133
  g17 := by kernel_rfl
  g18 := by kernel_rfl
  g19 := by kernel_rfl
  i0 := by kernel_rfl
  i2 := by kernel_rfl
  i3 := by kernel_rfl
  i4 := by kernel_rfl
  i5 := by kernel_rfl
  i9 := by kernel_rfl
  i20 := by kernel_rfl
  i37 := by kernel_rfl
  i46 := by kernel_rfl
  i51 := by kernel_rfl
  i53 := by kernel_rfl
  i171 := by kernel_rfl
  i173 := by kernel_rfl
  i212 := by kernel_rfl
  i232 := by kernel_rfl
  i233 := by kernel_rfl
  m17 := by kernel_rfl
  m18 := by kernel_rfl
  m19 := by kernel_rfl }
def Tryd.lays154_ren : Go.Shelf.Ren := ⟨fun | 154 => 22 | 138 => 37 | 165 => 38 | 143 => 39 | 166 => 40 | 197 => 41 | 169 => 42 | 195 => 58 | 218 => 59 | 240 => 60 | 241 => 61 | 219 => 62 | 260 => 63 | 276 => 74 | 277 => 75 | 217 => 76 | 225 => 77 | 224 => 78 | 267 => 79 | 266 => 86 | 314 => 87 | n => n, fun | 9 => 9 | 3 => 3 | 4 => 4 | 72 => 75 | 0 => 0 | 76 => 79 | 105 => 81 | 21 => 21 | 5 => 5 | 70 => 73 | 20 => 20 | 37 => 26 | 75 => 78 | 127 => 102 | 164 => 115 | 46 => 118 | 119 => 119 | 139 => 122 | 138 => 121 | 146 => 129 | 51 => 126 | 80 => 83 | n => n, fun | 1 => 0 | 3 => 1 | 4 => 2 | n => n⟩
theorem Tryd.lays154 : Go.Proofs.Lays.n154 Tryd.prog Tryd.lays154_ren := {
  mixed := by kernel_rfl
  f138 := Tryd.func37.trans (congrArg some (by kernel_rfl))
  f143 := Tryd.func39.trans (congrArg some (by kernel_rfl))
  f154 := Tryd.func22.trans (congrArg some (by kernel_rfl))
  f165 := Tryd.func38.trans (congrArg some (by kernel_rfl))
  f166 := Tryd.func40.trans (congrArg some (by kernel_rfl))
  f169 := Tryd.func42.trans (congrArg some (by kernel_rfl))
  f195 := Tryd.func58.trans (congrArg some (by kernel_rfl))
  f197 := Tryd.func41.trans (congrArg some (by kernel_rfl))
  f217 := Tryd.func76.trans (congrArg some (by kernel_rfl))
  f218 := Tryd.func59.trans (congrArg some (by kernel_rfl))
  f219 := Tryd.func62.trans (congrArg some (by kernel_rfl))
  f224 := Tryd.func78.trans (congrArg some (by kernel_rfl))
  f225 := Tryd.func77.trans (congrArg some (by kernel_rfl))
  f240 := Tryd.func60.trans (congrArg some (by kernel_rfl))
  f241 := Tryd.func61.trans (congrArg some (by kernel_rfl))
  f260 := Tryd.func63.trans (congrArg some (by kernel_rfl))
  f266 := Tryd.func86.trans (congrArg some (by kernel_rfl))
  f267 := Tryd.func79.trans (congrArg some (by kernel_rfl))
  f276 := Tryd.func74.trans (congrArg some (by kernel_rfl))
  f277 := Tryd.func75.trans (congrArg some (by kernel_rfl))
  f314 := Tryd.func87.trans (congrArg some (by kernel_rfl))
  t0 := Tryd.underlying0
  a0 := Tryd.isAgg0
  z0 := Tryd.sizeOf0
  v0 := Tryd.zeroValue0
  t3 := Tryd.underlying3
  a3 := Tryd.isAgg3
  z3 := Tryd.sizeOf3
  v3 := Tryd.zeroValue3
  t4 := Tryd.underlying4
  a4 := Tryd.isAgg4
  z4 := Tryd.sizeOf4
  v4 := Tryd.zeroValue4
  t5 := Tryd.underlying5
  a5 := Tryd.isAgg5
  z5 := Tryd.sizeOf5
  v5 := Tryd.zeroValue5
  t9 := Tryd.underlying9
  a9 := Tryd.isAgg9
  z9 := Tryd.sizeOf9
  v9 := Tryd.zeroValue9
  t20 := Tryd.underlying20
  a20 := Tryd.isAgg20
  z20 := Tryd.sizeOf20
  v20 := Tryd.zeroValue20
  t21 := Tryd.underlying21
  a21 := Tryd.isAgg21
  z21 := Tryd.sizeOf21
  v21 := Tryd.zeroValue21
  t37 := Tryd.underlying26
  a37 := Tryd.isAgg26
  z37 := Tryd.sizeOf26
  v37 := Tryd.zeroValue26
  t46 := Tryd.underlying118
  a46 := Tryd.isAgg118
  z46 := Tryd.sizeOf118
  v46 := Tryd.zeroValue118
  t51 := Tryd.underlying126
  a51 := Tryd.isAgg126
  z51 := Tryd.sizeOf126
  v51 := Tryd.zeroValue126
  t70 := Tryd.underlying73
  a70 := Tryd.isAgg73
  z70 := Tryd.sizeOf73
  v70 := Tryd.zeroValue73
  t72 := Tryd.underlying75
  a72 := Tryd.isAgg75
  z72 := Tryd.sizeOf75
  v72 := Tryd.zeroValue75
  t75 := Tryd.underlying78
  a75 := Tryd.isAgg78
  z75 := Tryd.sizeOf78
  v75 := Tryd.zeroValue78
  t76 := Tryd.underlying79
  a76 := Tryd.isAgg79
  z76 := Tryd.sizeOf79
  v76 := Tryd.zeroValue79
  t105 := Tryd.underlying81
  a105 := Tryd.isAgg81
  z105 := Tryd.sizeOf81
  v105 := Tryd.zeroValue81
  t119 := Tryd.underlying119
  a119 := Tryd.isAgg119
  z119 := Tryd.sizeOf119
  t127 := Tryd.underlying102
  a127 := Tryd.isAgg102
  z127 := Tryd.sizeOf102
  v127 := Tryd.zeroValue102
  t138 := Tryd.underlying121
  a138 := Tryd.isAgg121
  z138 := Tryd.sizeOf121
  v138 := Tryd.zeroValue121
  t139 := Tryd.underlying122
  a139 := Tryd.isAgg122
  z139 := Tryd.sizeOf122
  v139 := Tryd.zeroValue122
  t146 := Tryd.underlying129
  a146 := Tryd.isAgg129
  z146 := Tryd.sizeOf129
  v146 := Tryd.zeroValue129
  t164 := Tryd.underlying115
  a164 := Tryd.isAgg115
  z164 := Tryd.sizeOf115
  v164 := Tryd.zeroValue115
  g1 := by kernel_rfl
  g3 := by kernel_rfl
  g4 := by kernel_rfl }
theorem Tryd.Builder_Extra_154 : Builder.Extra Tryd.prog Tryd.lays154_ren := {
  sizeBuilder := by kernel_rfl
  liesBuilder := by kernel_rfl
  t5 := Tryd.underlying5
  a5 := Tryd.isAgg5
  z5 := Tryd.sizeOf5
  v5 := Tryd.zeroValue5
  infoByte := by kernel_rfl
  cellsByte := by kernel_rfl
  sizeByte := by kernel_rfl
  neB5 := by decide }
end Go.Proofs

/- Given contracts. -/
set_option linter.unusedVariables false
set_option maxRecDepth 100000
noncomputable section
namespace Go.Proofs.YtcppmlgnceldmaaDoor.Do
open Go Go.Proofs.YtcppmlgnceldmaaDoor.Gp
def Itoa17 (k : Nat) (n : Int) : Option (ByteArray × Unit) := (itoaF n).map (fun r => (r, ()))
def Itoa17.S : Sig := itoaS 17
theorem Itoa17.ok (k : Nat) : SoundAt Tryd.prog k Itoa17.S := itoa_sound Tryd.laysM171 rfl ⟨Tryd.f17, codeOf Tryd.f17, rfl, by kernel_rfl, rfl⟩ tab_pow10 k

def Replace22 (k : Nat) (s old new : ByteArray) (n : Int) : Option (ByteArray × Unit) := (replF (s, old, new, n)).map (fun r => (r, ()))
def Replace22.S : Sig := replS 22
theorem Replace22.ok (k : Nat) : SoundAt Tryd.prog k Replace22.S := repl_sound Tryd.lays154 Tryd.Builder_Extra_154 rfl ⟨Tryd.f22, codeOf Tryd.f22, rfl, by kernel_rfl, rfl⟩ max_len k
end Go.Proofs.YtcppmlgnceldmaaDoor.Do

/- Go functions as plain Lean functions, and their contracts. -/
set_option linter.unusedVariables false
set_option maxRecDepth 100000
noncomputable section
namespace Go.Proofs.YtcppmlgnceldmaaDoor.Do
open Go Go.Proofs.YtcppmlgnceldmaaDoor.Gp
def Signed35 (k : Nat) (n : Int) (bits : Int) : Option tY33 :=
  (width36 k bits).bind fun t6 =>
  (Low19 k n t6.1).bind fun t9 =>
  Option.bind (cond (decide (t6.1 > 0))
    (let t15 : Int := (w64 (t6.1 - 1))
    (if t15 < 0 then none else some (shrI .i64 t9.1 t15)).bind fun t16 =>
    some (t16 == 1))
    (some false)) fun t18 =>
  Option.bind
    (cond t18
      ((if t6.1 < 0 then none else some (shlI .i64 1 t6.1)).bind fun t21 =>
      some (w64 (t9.1 - t21)))
      (some t9.1) : Option Int) fun (n_1 : Int) =>
  some (n_1, ())
def Signed35.A : Ann := { conds := [(1179652, ⟨[(0, .int .i64)], [], 0, [], 7864321⟩)], blocks := [], loops := [], keeps := [], orders := [] }
def Signed35.S : Sig := { f := 35, params := [.int .i64, .int .i64], objs := [], res := .int .i64, outs := [], fix := [], run := fun k ds os => Signed35 k ds.1 ds.2 }
def Signed35.G : List Sig := [Low19.S, width36.S]
theorem Signed35.eq (k : Nat) : ∀ ds os, Signed35.S.run k ds os = runF ⟨types, Signed35.G, Signed35.A, k, 0, []⟩ Tryd.f35 (codeOf Tryd.f35) Signed35.S.params Signed35.S.objs Signed35.S.res Signed35.S.outs ds os := by
  intro ds os; kernel_rfl
theorem Signed35.dr : DrOk Tryd.prog Signed35.A (codeOf Tryd.f35) := ⟨by kernel_rfl, by kernel_rfl⟩
theorem Signed35.ok (k : Nat) : SoundAt Tryd.prog k Signed35.S :=
  runF_sound (X := ⟨types, Signed35.G, Signed35.A, k, 0, []⟩) types_ok (mem_all (⟨Low19.ok k, ⟨width36.ok k, trivial⟩⟩)) (fn := Tryd.f35) (c := codeOf Tryd.f35) rfl (by kernel_rfl) rfl rfl Signed35.dr (Signed35.eq k)

def operand18 (k : Nat) (mode : Int) (v : Int) (addr : Int) : Option (ByteArray × Unit) :=
  (Itoa17 k v).bind fun t9 =>
  cond (mode == 1)
    ((catS (ByteArray.mk #[32, 35]) t9.1).bind fun t14 =>
    some (t14, ()))
    (cond (mode == 2)
      ((catS (ByteArray.mk #[32, 42]) t9.1).bind fun t18 =>
      some (t18, ()))
      (cond (mode == 3)
        ((catS (ByteArray.mk #[32, 42]) t9.1).bind fun t22 =>
        (catS t22 (ByteArray.mk #[44, 120])).bind fun t23 =>
        some (t23, ()))
        (cond (mode == 4)
          ((catS (ByteArray.mk #[32]) t9.1).bind fun t27 =>
          some (t27, ()))
          (cond (mode == 5)
            ((catS (ByteArray.mk #[32]) t9.1).bind fun t31 =>
            (catS t31 (ByteArray.mk #[44, 120])).bind fun t32 =>
            some (t32, ()))
            (cond (mode == 6)
              ((catS (ByteArray.mk #[32]) t9.1).bind fun t36 =>
              (catS t36 (ByteArray.mk #[44, 121])).bind fun t37 =>
              some (t37, ()))
              (cond (mode == 7)
                ((Signed35 k v 8).bind fun t42 =>
                (Low19 k (w64 (addr + t42.1)) 16).bind fun t44 =>
                (Itoa17 k t44.1).bind fun t45 =>
                (catS (ByteArray.mk #[32, 64]) t45.1).bind fun t46 =>
                some (t46, ()))
                (cond (mode == 8)
                  ((catS (ByteArray.mk #[32, 40]) t9.1).bind fun t50 =>
                  (catS t50 (ByteArray.mk #[41, 44, 121])).bind fun t51 =>
                  some (t51, ()))
                  (some ((ByteArray.mk #[]), ())))))))))
def operand18.A : Ann := { conds := [], blocks := [], loops := [], keeps := [], orders := [] }
def operand18.S : Sig := { f := 18, params := [.int .i64, .int .i64, .int .i64], objs := [], res := .str, outs := [], fix := [], run := fun k ds os => operand18 k ds.1 ds.2.1 ds.2.2 }
def operand18.G : List Sig := [Itoa17.S, Low19.S, Signed35.S]
theorem operand18.eq (k : Nat) : ∀ ds os, operand18.S.run k ds os = runF ⟨types, operand18.G, operand18.A, k, 0, []⟩ Tryd.f18 (codeOf Tryd.f18) operand18.S.params operand18.S.objs operand18.S.res operand18.S.outs ds os := by
  intro ds os; kernel_rfl
theorem operand18.dr : DrOk Tryd.prog operand18.A (codeOf Tryd.f18) := ⟨by kernel_rfl, by kernel_rfl⟩
theorem operand18.ok (k : Nat) : SoundAt Tryd.prog k operand18.S :=
  runF_sound (X := ⟨types, operand18.G, operand18.A, k, 0, []⟩) types_ok (mem_all (⟨Itoa17.ok k, ⟨Low19.ok k, ⟨Signed35.ok k, trivial⟩⟩⟩)) (fn := Tryd.f18) (c := codeOf Tryd.f18) rfl (by kernel_rfl) rfl rfl operand18.dr (operand18.eq k)

def One6.l0 (k : Nat) (b : tY34) : tY12 → Option (tY12 ⊕ tY15)
  | (x_1, v, i) =>
    cond (decide (i > 0))
      ((rd b i).bind fun t57 =>
      some (Sum.inl (x_1, (w64 ((w64 (v * 256)) + (w64 t57))), (w64 (i - 1)))))
      (some (Sum.inr (x_1, v)))
def One6 (k : Nat) (c : tY2) (b : tY34) (addr : Int) : Option (tY30 × Unit) :=
  cond ((List.length b : Int) == 0)
    (some (((ByteArray.mk #[]), 0, ()), ()))
    (Option.bind
      ((rd b 0).bind fun t19 =>
      agree
        ((Find16 k c (w64 t19)).bind fun t22 =>
        some (t22.1.1, t22.1.2.1))
        ((Find16 k c (w64 t19)).bind fun t22_1 =>
        some (t22_1.1.1, t22_1.1.2.1)) : Option tY14) fun ((x, ok) : tY14) =>
    (Size11 k x.2.2.1).bind fun t27 =>
    let t28 : Int := (w64 (1 + t27.1))
    cond (cond (cond (!ok) true (decide (t28 < 1))) true (decide (t28 > (List.length b : Int))))
      ((rd b 0).bind fun t42 =>
      (Itoa17 k (w64 t42)).bind fun t45 =>
      (catS (ByteArray.mk #[98, 121, 116, 101, 32]) t45.1).bind fun t46 =>
      some ((t46, 1, ()), ()))
      (Option.bind
        (loopN (One6.l0 k b) k (x, 0, (w64 (t28 - 1))) : Option tY15) fun ((x_2, v_1) : tY15) =>
      (Low19 k addr 16).bind fun t67 =>
      (operand18 k x_2.2.2.1 v_1 (w64 (t67.1 + t28))).bind fun t70 =>
      (catS x_2.2.1 t70.1).bind fun t71 =>
      some ((t71, t28, ()), ())))
def One6.A : Ann := { conds := [], blocks := [(0, ⟨[(8, .fp kY4), (11, .int .i64)], [], 0, [], 2305280059260278784⟩)], loops := [(9, ⟨[(8, .fp kY4), (11, .int .i64), (12, .int .i64)], [], 0, [], 2305280059260278784⟩)], keeps := [3, 8], orders := [(12, [(0, .strong), (1, .strong), (2, .strong), (3, .strong), (4, .strong), (5, .strong), (7, .strong), (11, .strong), (6, .eff true), (8, .strong), (9, .eff true), (10, .strong), (12, .strong), (13, .strong)])], alts := [(3, ((.op 0 .strong (.op 1 .strong (.op 2 .strong (.op 3 .strong (.op 4 .strong (.alt (.op 5 (.eff true) (.op 6 .strong (.op 7 .strong (.op 8 .weak (.op 9 (.eff true) (.op 10 (.eff false) (.op 11 .strong (.leaf [])))))))) (.op 9 (.eff true) (.op 5 (.eff true) (.op 6 .strong (.op 7 .strong (.op 8 .weak (.op 10 (.eff false) (.op 11 .strong (.leaf [])))))))))))))), ⟨[(8, .fp kY4), (9, .bool)], [], 0, [], 33489664⟩))] }
def One6.S : Sig := { f := 6, params := [.st kY1, .sl (.int .u8), .int .i64], objs := [], res := .tup (.pair .str (.pair kY18 .unit)), outs := [], fix := [], run := fun k ds os => One6 k ds.1 ds.2.1 ds.2.2 }
def One6.G : List Sig := [Find16.S, Itoa17.S, Low19.S, Size11.S, operand18.S]
theorem One6.eq (k : Nat) : ∀ ds os, One6.S.run k ds os = runF ⟨types, One6.G, One6.A, k, 0, []⟩ Tryd.f6 (codeOf Tryd.f6) One6.S.params One6.S.objs One6.S.res One6.S.outs ds os := by
  intro ds os; kernel_rfl
theorem One6.dr : DrOk Tryd.prog One6.A (codeOf Tryd.f6) := ⟨by kernel_rfl, by kernel_rfl⟩
theorem One6.ok (k : Nat) : SoundAt Tryd.prog k One6.S :=
  runF_sound (X := ⟨types, One6.G, One6.A, k, 0, []⟩) types_ok (mem_all (⟨Find16.ok k, ⟨Itoa17.ok k, ⟨Low19.ok k, ⟨Size11.ok k, ⟨operand18.ok k, trivial⟩⟩⟩⟩⟩)) (fn := Tryd.f6) (c := codeOf Tryd.f6) rfl (by kernel_rfl) rfl rfl One6.dr (One6.eq k)

def told4 (k : Nat) : Option tY32 :=
  (Cpu8 k).bind fun t4 =>
  (nop9 k).bind fun t5 =>
  (slc t5.1.2.1 1 (List.length t5.1.2.1 : Int)).bind fun t7 =>
  (One6 k t4.1 t7 513).bind fun t8 =>
  some ((cond (streq t8.1.1 (ByteArray.mk #[106, 109, 112, 32, 53, 49, 50])) (t8.1.2.1 == 3) false), ())
def told4.A : Ann := { conds := [], blocks := [], loops := [], keeps := [], orders := [] }
def told4.S : Sig := { f := 4, params := [], objs := [], res := .bool, outs := [], fix := [], run := fun k ds os => told4 k }
def told4.G : List Sig := [Cpu8.S, One6.S, nop9.S]
theorem told4.eq (k : Nat) : ∀ ds os, told4.S.run k ds os = runF ⟨types, told4.G, told4.A, k, 0, []⟩ Tryd.f4 (codeOf Tryd.f4) told4.S.params told4.S.objs told4.S.res told4.S.outs ds os := by
  intro ds os; kernel_rfl
theorem told4.dr : DrOk Tryd.prog told4.A (codeOf Tryd.f4) := ⟨by kernel_rfl, by kernel_rfl⟩
theorem told4.ok (k : Nat) : SoundAt Tryd.prog k told4.S :=
  runF_sound (X := ⟨types, told4.G, told4.A, k, 0, []⟩) types_ok (mem_all (⟨Cpu8.ok k, ⟨One6.ok k, ⟨nop9.ok k, trivial⟩⟩⟩)) (fn := Tryd.f4) (c := codeOf Tryd.f4) rfl (by kernel_rfl) rfl rfl told4.dr (told4.eq k)

def Name10.l0 (k : Nat) (s : ByteArray) : (Unit × (Int × tY34)) → Option ((Unit × (Int × tY34)) ⊕ (Unit ⊕ tY32))
  | (_, t25, o0) =>
    cond (decide (t25 < (List.length (bytesOf s) : Int)))
      ((rd o0 t25).bind fun _ =>
      (rd o0 t25).bind fun t28 =>
      cond (!(cond (cond (cond (decide (t28 ≥ 97)) (decide (t28 ≤ 122)) false) true (cond (decide (t28 ≥ 48)) (decide (t28 ≤ 57)) false)) true (t28 == 45)))
        (some (Sum.inr (Sum.inr (false, ()))))
        (some (Sum.inl ((), (w64 (t25 + 1)), o0))))
      (some (Sum.inr (Sum.inl ())))
def Name10 (k : Nat) (s : ByteArray) : Option tY32 :=
  Option.bind (cond (cond (streq s (ByteArray.mk #[])) true (decide ((ByteArray.size s : Int) > 20)))
    (some true)
    ((rd (bytesOf s) 0).bind fun t14 =>
    some (decide (t14 < 97)))) fun t16 =>
  Option.bind (cond t16
    (some true)
    ((rd (bytesOf s) 0).bind fun t19 =>
    some (decide (t19 > 122)))) fun t21 =>
  cond t21
    (some (false, ()))
    (Option.bind
      (loopN (Name10.l0 k s) k ((), 0, (bytesOf s)) : Option (Unit ⊕ tY32)) (joined fun (_ : Unit) =>
      some (true, ())))
def Name10.A : Ann := { conds := [], blocks := [(0, ⟨[], [], 0, [], 562949919866900⟩)], loops := [(4, ⟨[(23, .ms 0), (25, .int .i64)], [(0, .row (.int .u8))], 1, [], 562949919866900⟩)], keeps := [], orders := [] }
def Name10.S : Sig := { f := 10, params := [.str], objs := [], res := .bool, outs := [], fix := [], run := fun k ds os => Name10 k ds }
def Name10.G : List Sig := []
theorem Name10.eq (k : Nat) : ∀ ds os, Name10.S.run k ds os = runF ⟨types, Name10.G, Name10.A, k, 0, []⟩ Tryd.f10 (codeOf Tryd.f10) Name10.S.params Name10.S.objs Name10.S.res Name10.S.outs ds os := by
  intro ds os; kernel_rfl
theorem Name10.dr : DrOk Tryd.prog Name10.A (codeOf Tryd.f10) := ⟨by kernel_rfl, by kernel_rfl⟩
theorem Name10.ok (k : Nat) : SoundAt Tryd.prog k Name10.S :=
  runF_sound (X := ⟨types, Name10.G, Name10.A, k, 0, []⟩) types_ok (fun s hs => absurd hs List.not_mem_nil) (fn := Tryd.f10) (c := codeOf Tryd.f10) rfl (by kernel_rfl) rfl rfl Name10.dr (Name10.eq k)

def Check113 (k : Nat) (y : tY17) (t1 : tY17) : Option tY32 :=
  some ((cond (streq y.2.1 t1.2.1) (y.2.2.1 == t1.2.2.1) false), ())
def Check113.A : Ann := { conds := [], blocks := [], loops := [], keeps := [2], orders := [] }
def Check113.S : Sig := { f := 13, params := [.st kY5, .fp kY4], objs := [], res := .bool, outs := [], fix := [], run := fun k ds os => Check113 k ds.1 ds.2 }
def Check113.G : List Sig := []
theorem Check113.eq (k : Nat) : ∀ ds os, Check113.S.run k ds os = runF ⟨types, Check113.G, Check113.A, k, 0, []⟩ Tryd.f13 (codeOf Tryd.f13) Check113.S.params Check113.S.objs Check113.S.res Check113.S.outs ds os := by
  intro ds os; kernel_rfl
theorem Check113.dr : DrOk Tryd.prog Check113.A (codeOf Tryd.f13) := ⟨by kernel_rfl, by kernel_rfl⟩
theorem Check113.ok (k : Nat) : SoundAt Tryd.prog k Check113.S :=
  runF_sound (X := ⟨types, Check113.G, Check113.A, k, 0, []⟩) types_ok (fun s hs => absurd hs List.not_mem_nil) (fn := Tryd.f13) (c := codeOf Tryd.f13) rfl (by kernel_rfl) rfl rfl Check113.dr (Check113.eq k)
end Go.Proofs.YtcppmlgnceldmaaDoor.Do

/- Go functions as plain Lean functions, and their contracts. -/
set_option linter.unusedVariables false
set_option maxRecDepth 100000
noncomputable section
namespace Go.Proofs.YtcppmlgnceldmaaDoor.Do
open Go Go.Proofs.YtcppmlgnceldmaaDoor.Gp
def IndexFunc30''.l0 (k : Nat) (s : tY16) : tY10 → Option (tY10 ⊕ tY31)
  | (f_1, t8) =>
    cond (decide (t8 < (List.length s : Int)))
      ((rd s t8).bind fun t14 =>
      (Check113 k t14 f_1.1).bind fun t16 =>
      cond t16.1
        (some (Sum.inr (Sum.inr (t8, ()))))
        (some (Sum.inl (f_1, (w64 (t8 + 1))))))
      (some (Sum.inr (Sum.inl ())))
def IndexFunc30'' (k : Nat) (s : tY16) (f : tY13) : Option tY33 :=
  Option.bind
    (loopN (IndexFunc30''.l0 k s) k (f, 0) : Option tY31) (joined fun (_ : Unit) =>
    some ((-1), ()))
def IndexFunc30''.A : Ann := { conds := [], blocks := [(0, ⟨[], [], 0, [], 524080⟩)], loops := [(2, ⟨[(1, .fn 13 kY3), (8, .int .i64)], [], 0, [], 524080⟩)], keeps := [], orders := [] }
def IndexFunc30''.S : Sig := { f := 30, params := [.sl kY4, .fn 13 kY3], objs := [], res := .int .i64, outs := [], fix := [], run := fun k ds os => IndexFunc30'' k ds.1 ds.2 }
def IndexFunc30''.G : List Sig := [Check113.S]
theorem IndexFunc30''.eq (k : Nat) : ∀ ds os, IndexFunc30''.S.run k ds os = runF ⟨types, IndexFunc30''.G, IndexFunc30''.A, k, 0, []⟩ Tryd.f30 (codeOf Tryd.f30) IndexFunc30''.S.params IndexFunc30''.S.objs IndexFunc30''.S.res IndexFunc30''.S.outs ds os := by
  intro ds os; kernel_rfl
theorem IndexFunc30''.dr : DrOk Tryd.prog IndexFunc30''.A (codeOf Tryd.f30) := ⟨by kernel_rfl, by kernel_rfl⟩
theorem IndexFunc30''.ok (k : Nat) : SoundAt Tryd.prog k IndexFunc30''.S :=
  runF_sound (X := ⟨types, IndexFunc30''.G, IndexFunc30''.A, k, 0, []⟩) types_ok (mem_all (⟨Check113.ok k, trivial⟩)) (fn := Tryd.f30) (c := codeOf Tryd.f30) rfl (by kernel_rfl) rfl rfl IndexFunc30''.dr (IndexFunc30''.eq k)

def ContainsFunc12 (k : Nat) (s : tY16) (f : tY13) : Option tY32 :=
  (IndexFunc30'' k s f).bind fun t7 =>
  some ((decide (t7.1 ≥ 0)), ())
def ContainsFunc12.A : Ann := { conds := [], blocks := [], loops := [], keeps := [], orders := [] }
def ContainsFunc12.S : Sig := { f := 12, params := [.sl kY4, .fn 13 kY3], objs := [], res := .bool, outs := [], fix := [], run := fun k ds os => ContainsFunc12 k ds.1 ds.2 }
def ContainsFunc12.G : List Sig := [IndexFunc30''.S]
theorem ContainsFunc12.eq (k : Nat) : ∀ ds os, ContainsFunc12.S.run k ds os = runF ⟨types, ContainsFunc12.G, ContainsFunc12.A, k, 0, []⟩ Tryd.f12 (codeOf Tryd.f12) ContainsFunc12.S.params ContainsFunc12.S.objs ContainsFunc12.S.res ContainsFunc12.S.outs ds os := by
  intro ds os; kernel_rfl
theorem ContainsFunc12.dr : DrOk Tryd.prog ContainsFunc12.A (codeOf Tryd.f12) := ⟨by kernel_rfl, by kernel_rfl⟩
theorem ContainsFunc12.ok (k : Nat) : SoundAt Tryd.prog k ContainsFunc12.S :=
  runF_sound (X := ⟨types, ContainsFunc12.G, ContainsFunc12.A, k, 0, []⟩) types_ok (mem_all (⟨IndexFunc30''.ok k, trivial⟩)) (fn := Tryd.f12) (c := codeOf Tryd.f12) rfl (by kernel_rfl) rfl rfl ContainsFunc12.dr (ContainsFunc12.eq k)

def register53 (k : Nat) (reg : Int) : Option tY32 :=
  some ((cond (decide (reg ≥ 0)) (decide (reg < 9)) false), ())
def register53.A : Ann := { conds := [], blocks := [], loops := [], keeps := [], orders := [] }
def register53.S : Sig := { f := 53, params := [.int .i64], objs := [], res := .bool, outs := [], fix := [], run := fun k ds os => register53 k ds }
def register53.G : List Sig := []
theorem register53.eq (k : Nat) : ∀ ds os, register53.S.run k ds os = runF ⟨types, register53.G, register53.A, k, 0, []⟩ Tryd.f53 (codeOf Tryd.f53) register53.S.params register53.S.objs register53.S.res register53.S.outs ds os := by
  intro ds os; kernel_rfl
theorem register53.dr : DrOk Tryd.prog register53.A (codeOf Tryd.f53) := ⟨by kernel_rfl, by kernel_rfl⟩
theorem register53.ok (k : Nat) : SoundAt Tryd.prog k register53.S :=
  runF_sound (X := ⟨types, register53.G, register53.A, k, 0, []⟩) types_ok (fun s hs => absurd hs List.not_mem_nil) (fn := Tryd.f53) (c := codeOf Tryd.f53) rfl (by kernel_rfl) rfl rfl register53.dr (register53.eq k)

def Wide54 (k : Nat) (reg : Int) : Option tY32 :=
  some ((cond (reg == 7) true (reg == 8)), ())
def Wide54.A : Ann := { conds := [], blocks := [], loops := [], keeps := [], orders := [] }
def Wide54.S : Sig := { f := 54, params := [.int .i64], objs := [], res := .bool, outs := [], fix := [], run := fun k ds os => Wide54 k ds }
def Wide54.G : List Sig := []
theorem Wide54.eq (k : Nat) : ∀ ds os, Wide54.S.run k ds os = runF ⟨types, Wide54.G, Wide54.A, k, 0, []⟩ Tryd.f54 (codeOf Tryd.f54) Wide54.S.params Wide54.S.objs Wide54.S.res Wide54.S.outs ds os := by
  intro ds os; kernel_rfl
theorem Wide54.dr : DrOk Tryd.prog Wide54.A (codeOf Tryd.f54) := ⟨by kernel_rfl, by kernel_rfl⟩
theorem Wide54.ok (k : Nat) : SoundAt Tryd.prog k Wide54.S :=
  runF_sound (X := ⟨types, Wide54.G, Wide54.A, k, 0, []⟩) types_ok (fun s hs => absurd hs List.not_mem_nil) (fn := Tryd.f54) (c := codeOf Tryd.f54) rfl (by kernel_rfl) rfl rfl Wide54.dr (Wide54.eq k)

def uses66 (k : Nat) (do_ : Int) : Option ((Int × (Int × tY32)) × Unit) :=
  cond (do_ == 1)
    (some ((115, 115, false, ()), ()))
    (cond (do_ == 2)
      (some ((97, 0, true, ()), ()))
      (Option.bind
        (cond (do_ == 3)
          (some (do_ == 3))
          (Option.bind
            (cond (do_ == 12)
              (some (do_ == 12))
              (Option.bind
                (cond (do_ == 13)
                  (some (do_ == 13))
                  (Option.bind
                    (cond (do_ == 14)
                      (some (do_ == 14))
                      (some (do_ == 15)) : Option Bool) fun (t10 : Bool) =>
                  some t10) : Option Bool) fun (t10_1 : Bool) =>
              some t10_1) : Option Bool) fun (t10_2 : Bool) =>
          some t10_2) : Option Bool) fun (t10_3 : Bool) =>
      cond t10_3
        (some ((98, 0, false, ()), ()))
        (Option.bind
          (cond (do_ == 4)
            (some (do_ == 4))
            (Option.bind
              (cond (do_ == 5)
                (some (do_ == 5))
                (Option.bind
                  (cond (do_ == 6)
                    (some (do_ == 6))
                    (Option.bind
                      (cond (do_ == 7)
                        (some (do_ == 7))
                        (Option.bind
                          (cond (do_ == 8)
                            (some (do_ == 8))
                            (some (do_ == 9)) : Option Bool) fun (t16 : Bool) =>
                        some t16) : Option Bool) fun (t16_1 : Bool) =>
                    some t16_1) : Option Bool) fun (t16_2 : Bool) =>
                some t16_2) : Option Bool) fun (t16_3 : Bool) =>
            some t16_3) : Option Bool) fun (t16_4 : Bool) =>
        cond t16_4
          (some ((98, 98, false, ()), ()))
          (Option.bind
            (cond (do_ == 10)
              (some (do_ == 10))
              (some (do_ == 11)) : Option Bool) fun (t23 : Bool) =>
          cond t23
            (some ((97, 0, false, ()), ()))
            (Option.bind
              (cond (do_ == 16)
                (some (do_ == 16))
                (some (do_ == 17)) : Option Bool) fun (t26 : Bool) =>
            cond t26
              (some ((0, 0, true, ()), ()))
              (Option.bind
                (cond (do_ == 18)
                  (some (do_ == 18))
                  (Option.bind
                    (cond (do_ == 19)
                      (some (do_ == 19))
                      (Option.bind
                        (cond (do_ == 22)
                          (some (do_ == 22))
                          (some (do_ == 23)) : Option Bool) fun (t29 : Bool) =>
                      some t29) : Option Bool) fun (t29_1 : Bool) =>
                  some t29_1) : Option Bool) fun (t29_2 : Bool) =>
              cond t29_2
                (some ((119, 98, false, ()), ()))
                (Option.bind
                  (cond (do_ == 20)
                    (some (do_ == 20))
                    (some (do_ == 21)) : Option Bool) fun (t34 : Bool) =>
                cond t34
                  (some ((98, 119, false, ()), ()))
                  (some ((0, 0, false, ()), ())))))))))
def uses66.A : Ann := { conds := [(655367, ⟨[(10, .bool)], [], 0, [], 62464⟩), (655368, ⟨[(10, .bool)], [], 0, [], 58368⟩), (655369, ⟨[(10, .bool)], [], 0, [], 50176⟩), (655370, ⟨[(10, .bool)], [], 0, [], 33792⟩), (1048589, ⟨[(16, .bool)], [], 0, [], 8192000⟩), (1048590, ⟨[(16, .bool)], [], 0, [], 7929856⟩), (1048591, ⟨[(16, .bool)], [], 0, [], 7405568⟩), (1048592, ⟨[(16, .bool)], [], 0, [], 6356992⟩), (1048593, ⟨[(16, .bool)], [], 0, [], 4259840⟩), (1507348, ⟨[(23, .bool)], [], 0, [], 41943040⟩), (1703959, ⟨[(26, .bool)], [], 0, [], 335544320⟩), (1900570, ⟨[(29, .bool)], [], 0, [], 15569256448⟩), (1900571, ⟨[(29, .bool)], [], 0, [], 13421772800⟩), (1900572, ⟨[(29, .bool)], [], 0, [], 9126805504⟩), (2228255, ⟨[(34, .bool)], [], 0, [], 85899345920⟩)], blocks := [], loops := [], keeps := [], orders := [] }
def uses66.S : Sig := { f := 66, params := [.int .i64], objs := [], res := .tup (.pair (.int .u8) (.pair (.int .u8) (.pair .bool .unit))), outs := [], fix := [], run := fun k ds os => uses66 k ds }
def uses66.G : List Sig := []
theorem uses66.eq (k : Nat) : ∀ ds os, uses66.S.run k ds os = runF ⟨types, uses66.G, uses66.A, k, 0, []⟩ Tryd.f66 (codeOf Tryd.f66) uses66.S.params uses66.S.objs uses66.S.res uses66.S.outs ds os := by
  intro ds os; kernel_rfl
theorem uses66.dr : DrOk Tryd.prog uses66.A (codeOf Tryd.f66) := ⟨by kernel_rfl, by kernel_rfl⟩
theorem uses66.ok (k : Nat) : SoundAt Tryd.prog k uses66.S :=
  runF_sound (X := ⟨types, uses66.G, uses66.A, k, 0, []⟩) types_ok (fun s hs => absurd hs List.not_mem_nil) (fn := Tryd.f66) (c := codeOf Tryd.f66) rfl (by kernel_rfl) rfl rfl uses66.dr (uses66.eq k)

def fits67 (k : Nat) (reg : Int) (need : Int) : Option tY32 :=
  cond (need == 0)
    (some ((reg == 0), ()))
    (cond (need == 119)
      ((register53 k reg).bind fun t13 =>
      Option.bind (cond t13.1
        ((Wide54 k reg).bind fun t16 =>
        some t16.1)
        (some false)) fun t17 =>
      some (t17, ()))
      (cond (need == 98)
        ((register53 k reg).bind fun t21 =>
        Option.bind (cond t21.1
          ((Wide54 k reg).bind fun t24 =>
          some (!t24.1))
          (some false)) fun t26 =>
        some (t26, ()))
        ((register53 k reg).bind fun t28 =>
        some (t28.1, ()))))
def fits67.A : Ann := { conds := [], blocks := [], loops := [], keeps := [], orders := [] }
def fits67.S : Sig := { f := 67, params := [.int .i64, .int .u8], objs := [], res := .bool, outs := [], fix := [], run := fun k ds os => fits67 k ds.1 ds.2 }
def fits67.G : List Sig := [Wide54.S, register53.S]
theorem fits67.eq (k : Nat) : ∀ ds os, fits67.S.run k ds os = runF ⟨types, fits67.G, fits67.A, k, 0, []⟩ Tryd.f67 (codeOf Tryd.f67) fits67.S.params fits67.S.objs fits67.S.res fits67.S.outs ds os := by
  intro ds os; kernel_rfl
theorem fits67.dr : DrOk Tryd.prog fits67.A (codeOf Tryd.f67) := ⟨by kernel_rfl, by kernel_rfl⟩
theorem fits67.ok (k : Nat) : SoundAt Tryd.prog k fits67.S :=
  runF_sound (X := ⟨types, fits67.G, fits67.A, k, 0, []⟩) types_ok (mem_all (⟨Wide54.ok k, ⟨register53.ok k, trivial⟩⟩)) (fn := Tryd.f67) (c := codeOf Tryd.f67) rfl (by kernel_rfl) rfl rfl fits67.dr (fits67.eq k)
end Go.Proofs.YtcppmlgnceldmaaDoor.Do

/- Go functions as plain Lean functions, and their contracts. -/
set_option linter.unusedVariables false
set_option maxRecDepth 100000
noncomputable section
namespace Go.Proofs.YtcppmlgnceldmaaDoor.Do
open Go Go.Proofs.YtcppmlgnceldmaaDoor.Gp
def step55 (k : Nat) (s : (Int × (Int × (Int × Int)))) : Option tY33 :=
  cond (cond (decide (s.1 < 0)) true (decide (s.1 ≥ 25)))
    (some (8, ()))
    (cond (s.1 == 24)
      (cond (cond (cond (cond (cond (s.2.1 != 0) true (decide (s.2.2.1 < 0))) true (decide (s.2.2.1 > 1))) true (decide (s.2.2.2 < 0))) true (decide (s.2.2.2 > 255)))
        (some (1, ()))
        (some (0, ())))
      ((uses66 k s.1).bind fun t44 =>
      Option.bind (cond (s.1 == 2)
        ((register53 k s.2.1).bind fun t54 =>
        some t54.1)
        (some false)) fun t55 =>
      Option.bind (cond t55
        ((Wide54 k s.2.1).bind fun t59 =>
        some t59.1)
        (some false)) fun t60 =>
      Option.bind
        (cond t60
          (some (s, 65535))
          (some (s, 255)) : Option tY28) fun ((s_1, most) : tY28) =>
      Option.bind
        (cond (!t44.1.2.2.1)
          (some (s_1, 0))
          (some (s_1, most)) : Option tY28) fun ((s_2, most_1) : tY28) =>
      (fits67 k s_2.2.1 t44.1.1).bind fun t66 =>
      Option.bind (cond (!t66.1)
        (some true)
        ((fits67 k s_2.2.2.1 t44.1.2.1).bind fun t72 =>
        some (!t72.1))) fun t74 =>
      Option.bind (cond t74
        (some true)
        (Option.bind (cond (t44.1.1 == 115)
          ((Wide54 k s_2.2.1).bind fun t81 =>
          (Wide54 k s_2.2.2.1).bind fun t84 =>
          some (xor true (t81.1 == t84.1)))
          (some false)) fun t86 =>
        some t86)) fun t87 =>
      cond (cond (cond t87 true (decide (s_2.2.2.2 < 0))) true (decide (s_2.2.2.2 > most_1)))
        (some (1, ()))
        (some (0, ()))))
def step55.A : Ann := { conds := [(3932170, ⟨[(1, .fp kY10), (6, .int .i64)], [], 0, [], 64⟩), (4063244, ⟨[(1, .fp kY10), (6, .int .i64)], [], 0, [], 64⟩)], blocks := [], loops := [], keeps := [1], orders := [(13, [(0, .strong), (1, .strong), (2, .strong), (3, .eff true), (4, .strong), (5, .strong), (6, .strong), (7, .strong), (8, .strong), (9, .eff true), (10, .strong), (11, .strong), (12, .strong), (13, .strong), (14, .strong), (15, .strong), (16, .strong), (17, .strong), (19, .strong), (20, .strong), (18, .eff true), (21, .eff true), (22, .strong), (23, .strong), (24, .strong), (25, .strong), (26, .strong), (27, .strong), (28, .strong), (29, .strong), (30, .strong), (31, .strong), (32, .strong), (33, .strong), (34, .strong), (35, .strong)])] }
def step55.S : Sig := { f := 55, params := [.st kY11], objs := [], res := .int .i64, outs := [], fix := [], run := fun k ds os => step55 k ds }
def step55.G : List Sig := [Wide54.S, fits67.S, register53.S, uses66.S]
theorem step55.eq (k : Nat) : ∀ ds os, step55.S.run k ds os = runF ⟨types, step55.G, step55.A, k, 0, []⟩ Tryd.f55 (codeOf Tryd.f55) step55.S.params step55.S.objs step55.S.res step55.S.outs ds os := by
  intro ds os; kernel_rfl
theorem step55.dr : DrOk Tryd.prog step55.A (codeOf Tryd.f55) := ⟨by kernel_rfl, by kernel_rfl⟩
theorem step55.ok (k : Nat) : SoundAt Tryd.prog k step55.S :=
  runF_sound (X := ⟨types, step55.G, step55.A, k, 0, []⟩) types_ok (mem_all (⟨Wide54.ok k, ⟨fits67.ok k, ⟨register53.ok k, ⟨uses66.ok k, trivial⟩⟩⟩⟩)) (fn := Tryd.f55) (c := codeOf Tryd.f55) rfl (by kernel_rfl) rfl rfl step55.dr (step55.eq k)

def cycle31.l0 (k : Nat) (c : tY24) : Int → Option (Int ⊕ tY31)
  | t57 =>
    cond (decide (t57 < (List.length c.2.2.2 : Int)))
      ((rd c.2.2.2 t57).bind fun t59 =>
      (step55 k t59).bind fun t62 =>
      cond (t62.1 != 0)
        (some (Sum.inr (Sum.inr (t62.1, ()))))
        (some (Sum.inl (w64 (t57 + 1)))))
      (some (Sum.inr (Sum.inl ())))
def cycle31 (k : Nat) (c : tY24) : Option tY33 :=
  cond (cond (decide (c.1 < 0)) true (decide (c.1 > 2)))
    (some (8, ()))
    (cond (cond (c.1 == 0) (cond (c.2.1 != 0) true (c.2.2.1 != 0)) false)
      (some (3, ()))
      (Option.bind (cond (cond (decide (c.2.1 < 0)) true (decide (c.2.1 ≥ 12)))
        (some true)
        ((register53 k c.2.2.1).bind fun t41 =>
        some (!t41.1))) fun t43 =>
      Option.bind (cond t43
        (some true)
        ((Wide54 k c.2.2.1).bind fun t47 =>
        some t47.1)) fun t48 =>
      cond t48
        (some (1, ()))
        (cond (decide ((List.length c.2.2.2 : Int) > 6))
          (some (2, ()))
          (Option.bind
            (loopN (cycle31.l0 k c) k 0 : Option tY31) (joined fun (_ : Unit) =>
            some (0, ()))))))
def cycle31.A : Ann := { conds := [], blocks := [(1, ⟨[], [], 0, [], 147429837401600557108⟩)], loops := [(10, ⟨[(57, .int .i64)], [], 0, [], 147429837401600557108⟩)], keeps := [1, 4], orders := [] }
def cycle31.S : Sig := { f := 31, params := [.st kY8], objs := [], res := .int .i64, outs := [], fix := [], run := fun k ds os => cycle31 k ds }
def cycle31.G : List Sig := [Wide54.S, register53.S, step55.S]
theorem cycle31.eq (k : Nat) : ∀ ds os, cycle31.S.run k ds os = runF ⟨types, cycle31.G, cycle31.A, k, 0, []⟩ Tryd.f31 (codeOf Tryd.f31) cycle31.S.params cycle31.S.objs cycle31.S.res cycle31.S.outs ds os := by
  intro ds os; kernel_rfl
theorem cycle31.dr : DrOk Tryd.prog cycle31.A (codeOf Tryd.f31) := ⟨by kernel_rfl, by kernel_rfl⟩
theorem cycle31.ok (k : Nat) : SoundAt Tryd.prog k cycle31.S :=
  runF_sound (X := ⟨types, cycle31.G, cycle31.A, k, 0, []⟩) types_ok (mem_all (⟨Wide54.ok k, ⟨register53.ok k, ⟨step55.ok k, trivial⟩⟩⟩)) (fn := Tryd.f31) (c := codeOf Tryd.f31) rfl (by kernel_rfl) rfl rfl cycle31.dr (cycle31.eq k)

def cycles14.l0 (k : Nat) (l : tY23) : Int → Option (Int ⊕ tY31)
  | t11 =>
    cond (decide (t11 < (List.length l : Int)))
      ((rd l t11).bind fun t13 =>
      (cycle31 k t13).bind fun t16 =>
      cond (t16.1 != 0)
        (some (Sum.inr (Sum.inr (t16.1, ()))))
        (some (Sum.inl (w64 (t11 + 1)))))
      (some (Sum.inr (Sum.inl ())))
def cycles14 (k : Nat) (l : tY23) : Option tY33 :=
  cond (decide ((List.length l : Int) > 8))
    (some (2, ()))
    (Option.bind
      (loopN (cycles14.l0 k l) k 0 : Option tY31) (joined fun (_ : Unit) =>
      some (0, ())))
def cycles14.A : Ann := { conds := [], blocks := [(0, ⟨[], [], 0, [], 2095156⟩)], loops := [(4, ⟨[(11, .int .i64)], [], 0, [], 2095156⟩)], keeps := [4], orders := [] }
def cycles14.S : Sig := { f := 14, params := [.sl kY7], objs := [], res := .int .i64, outs := [], fix := [], run := fun k ds os => cycles14 k ds }
def cycles14.G : List Sig := [cycle31.S]
theorem cycles14.eq (k : Nat) : ∀ ds os, cycles14.S.run k ds os = runF ⟨types, cycles14.G, cycles14.A, k, 0, []⟩ Tryd.f14 (codeOf Tryd.f14) cycles14.S.params cycles14.S.objs cycles14.S.res cycles14.S.outs ds os := by
  intro ds os; kernel_rfl
theorem cycles14.dr : DrOk Tryd.prog cycles14.A (codeOf Tryd.f14) := ⟨by kernel_rfl, by kernel_rfl⟩
theorem cycles14.ok (k : Nat) : SoundAt Tryd.prog k cycles14.S :=
  runF_sound (X := ⟨types, cycles14.G, cycles14.A, k, 0, []⟩) types_ok (mem_all (⟨cycle31.ok k, trivial⟩)) (fn := Tryd.f14) (c := codeOf Tryd.f14) rfl (by kernel_rfl) rfl rfl cycles14.dr (cycles14.eq k)

def operand15.l0 (k : Nat) (l : tY23) : (Int × Int) → Option ((Int × Int) ⊕ Int)
  | (n, t8) =>
    cond (decide (t8 < (List.length l : Int)))
      ((rd l t8).bind fun t10 =>
      Option.bind
        (cond (cond (t10.1 == 1) (t10.2.1 == 0) false)
          (some (w64 (n + 1)))
          (some n) : Option Int) fun (n_1 : Int) =>
      some (Sum.inl (n_1, (w64 (t8 + 1)))))
      (some (Sum.inr n))
def operand15 (k : Nat) (l : tY23) : Option tY33 :=
  Option.bind
    (loopN (operand15.l0 k l) k (0, 0) : Option Int) fun (n_2 : Int) =>
  some (n_2, ())
def operand15.A : Ann := { conds := [(1245190, ⟨[(3, .int .i64)], [], 0, [], 3145736⟩)], blocks := [(0, ⟨[(3, .int .i64)], [], 0, [], 8388392⟩)], loops := [(3, ⟨[(3, .int .i64), (8, .int .i64)], [], 0, [], 8388392⟩)], keeps := [5], orders := [] }
def operand15.S : Sig := { f := 15, params := [.sl kY7], objs := [], res := .int .i64, outs := [], fix := [], run := fun k ds os => operand15 k ds }
def operand15.G : List Sig := []
theorem operand15.eq (k : Nat) : ∀ ds os, operand15.S.run k ds os = runF ⟨types, operand15.G, operand15.A, k, 0, []⟩ Tryd.f15 (codeOf Tryd.f15) operand15.S.params operand15.S.objs operand15.S.res operand15.S.outs ds os := by
  intro ds os; kernel_rfl
theorem operand15.dr : DrOk Tryd.prog operand15.A (codeOf Tryd.f15) := ⟨by kernel_rfl, by kernel_rfl⟩
theorem operand15.ok (k : Nat) : SoundAt Tryd.prog k operand15.S :=
  runF_sound (X := ⟨types, operand15.G, operand15.A, k, 0, []⟩) types_ok (fun s hs => absurd hs List.not_mem_nil) (fn := Tryd.f15) (c := codeOf Tryd.f15) rfl (by kernel_rfl) rfl rfl operand15.dr (operand15.eq k)
end Go.Proofs.YtcppmlgnceldmaaDoor.Do

/- Go functions as plain Lean functions, and their contracts. -/
set_option linter.unusedVariables false
set_option maxRecDepth 100000
noncomputable section
namespace Go.Proofs.YtcppmlgnceldmaaDoor.Do
open Go Go.Proofs.YtcppmlgnceldmaaDoor.Gp
def Check5.l0 (k : Nat) (c : tY2) : tY1 → Option (tY1 ⊕ tY0)
  | (c_1, t22) =>
    cond (decide (t22 < (List.length c.2.1 : Int)))
      ((rd c.2.1 t22).bind fun t25 =>
      cond (cond (decide (t25.1 < 0)) true (decide (t25.1 > 255)))
        (some (Sum.inr (Sum.inr (1, ()))))
        (Option.bind (cond (decide (t22 > 0))
          ((rd c_1.2.1 (w64 (t22 - 1))).bind fun t46 =>
          some (decide (t25.1 ≤ t46.1)))
          (some false)) fun t50 =>
        cond t50
          (some (Sum.inr (Sum.inr (9, ()))))
          ((Name10 k t25.2.1).bind fun t54 =>
          cond (!t54.1)
            (some (Sum.inr (Sum.inr (15, ()))))
            ((Size11 k t25.2.2.1).bind fun t59 =>
            cond (decide (t59.1 < 0))
              (some (Sum.inr (Sum.inr (8, ()))))
              ((slc c_1.2.1 0 t22).bind fun t65 =>
              (ContainsFunc12 k t65 (t25, ())).bind fun t67 =>
              cond t67.1
                (some (Sum.inr (Sum.inr (5, ()))))
                ((cycles14 k t25.2.2.2).bind fun t70 =>
                cond (t70.1 != 0)
                  (some (Sum.inr (Sum.inr (t70.1, ()))))
                  ((operand15 k t25.2.2.2).bind fun t76 =>
                  (Size11 k t25.2.2.1).bind fun t79 =>
                  cond (t76.1 != t79.1)
                    (some (Sum.inr (Sum.inr (3, ()))))
                    (some (Sum.inl (c_1, (w64 (t22 + 1))))))))))))
      (some (Sum.inr (Sum.inl c_1)))
def Check5.l1 (k : Nat) (c_2 : tY2) : tY18 → Option (tY18 ⊕ tY31)
  | (_, t90, o0) =>
    cond (decide (t90 < (List.length [c_2.2.2.1, c_2.2.2.2.1, c_2.2.2.2.2] : Int)))
      ((rd o0 t90).bind fun _ =>
      (rd o0 t90).bind fun t93 =>
      (cycles14 k t93).bind fun t95 =>
      cond (t95.1 != 0)
        (some (Sum.inr (Sum.inr (t95.1, ()))))
        (some (Sum.inl ((), (w64 (t90 + 1)), o0))))
      (some (Sum.inr (Sum.inl ())))
def Check5 (k : Nat) (c : tY2) : Option tY33 :=
  (Name10 k c.1).bind fun t12 =>
  cond (!t12.1)
    (some (15, ()))
    (cond (decide ((List.length c.2.1 : Int) > 256))
      (some (2, ()))
      (Option.bind
        (loopN (Check5.l0 k c) k (c, 0) : Option tY0) (joined fun (c_2 : tY2) =>
        Option.bind
          (loopN (Check5.l1 k c_2) k ((), 0, [c_2.2.2.1, c_2.2.2.2.1, c_2.2.2.2.2]) : Option tY31) (joined fun (_ : Unit) =>
          some (0, ())))))
def Check5.A : Ann := { conds := [], blocks := [(1, ⟨[(1, .fp kY0)], [], 0, [], 4835703278458516694630460⟩), (4, ⟨[], [], 0, [], 1266412660188944021221804081540⟩)], loops := [(6, ⟨[(1, .fp kY0), (22, .int .i64)], [], 0, [], 4835703278458516694630460⟩), (25, ⟨[(88, .ms 0), (90, .int .i64)], [(0, .row kY6)], 1, [], 1266412660188944021221804081540⟩)], keeps := [1, 4], orders := [(10, [(0, .strong), (1, .strong), (2, .strong), (3, .strong), (4, .strong), (5, .strong), (6, .strong), (7, .strong), (8, .strong), (9, .strong), (10, .strong), (11, .strong), (12, .strong), (13, .strong), (14, .strong)]), (21, [(0, .strong), (1, .strong), (3, .strong), (4, .strong), (2, .eff true), (5, .eff true), (6, .strong)])] }
def Check5.S : Sig := { f := 5, params := [.st kY1], objs := [], res := .int .i64, outs := [], fix := [], run := fun k ds os => Check5 k ds }
def Check5.G : List Sig := [ContainsFunc12.S, Name10.S, Size11.S, cycles14.S, operand15.S]
theorem Check5.eq (k : Nat) : ∀ ds os, Check5.S.run k ds os = runF ⟨types, Check5.G, Check5.A, k, 0, []⟩ Tryd.f5 (codeOf Tryd.f5) Check5.S.params Check5.S.objs Check5.S.res Check5.S.outs ds os := by
  intro ds os; kernel_rfl
theorem Check5.dr : DrOk Tryd.prog Check5.A (codeOf Tryd.f5) := ⟨by kernel_rfl, by kernel_rfl⟩
theorem Check5.ok (k : Nat) : SoundAt Tryd.prog k Check5.S :=
  runF_sound (X := ⟨types, Check5.G, Check5.A, k, 0, []⟩) types_ok (mem_all (⟨ContainsFunc12.ok k, ⟨Name10.ok k, ⟨Size11.ok k, ⟨cycles14.ok k, ⟨operand15.ok k, trivial⟩⟩⟩⟩⟩)) (fn := Tryd.f5) (c := codeOf Tryd.f5) rfl (by kernel_rfl) rfl rfl Check5.dr (Check5.eq k)

def operands20 (k : Nat) : Option ((tY34 × ((List ByteArray) × Unit)) × Unit) :=
  some ((([0, 1, 1, 1, 2, 2, 2, 1, 1] : List Int), ([(ByteArray.mk #[]), (ByteArray.mk #[32, 35, 63]), (ByteArray.mk #[32, 42, 63]), (ByteArray.mk #[32, 42, 63, 44, 120]), (ByteArray.mk #[32, 63]), (ByteArray.mk #[32, 63, 44, 120]), (ByteArray.mk #[32, 63, 44, 121]), (ByteArray.mk #[32, 64, 63]), (ByteArray.mk #[32, 40, 63, 41, 44, 121])] : List ByteArray), ()), ())
def operands20.A : Ann := { conds := [], blocks := [], loops := [], keeps := [], orders := [] }
def operands20.S : Sig := { f := 20, params := [], objs := [], res := .tup (.pair (.sl kY18) (.pair (.sl .str) .unit)), outs := [], fix := [], run := fun k ds os => operands20 k }
def operands20.G : List Sig := []
theorem operands20.eq (k : Nat) : ∀ ds os, operands20.S.run k ds os = runF ⟨types, operands20.G, operands20.A, k, 0, []⟩ Tryd.f20 (codeOf Tryd.f20) operands20.S.params operands20.S.objs operands20.S.res operands20.S.outs ds os := by
  intro ds os; kernel_rfl
theorem operands20.dr : DrOk Tryd.prog operands20.A (codeOf Tryd.f20) := ⟨by kernel_rfl, by kernel_rfl⟩
theorem operands20.ok (k : Nat) : SoundAt Tryd.prog k operands20.S :=
  runF_sound (X := ⟨types, operands20.G, operands20.A, k, 0, []⟩) types_ok (fun s hs => absurd hs List.not_mem_nil) (fn := Tryd.f20) (c := codeOf Tryd.f20) rfl (by kernel_rfl) rfl rfl operands20.dr (operands20.eq k)

def with21.l0 (k : Nat) (c : tY2) (op : Int) : tY25 → Option (tY25 ⊕ tY5)
  | (_, t11, o0) =>
    cond (decide (t11 < (List.length c.2.1 : Int)))
      ((rd c.2.1 t11).bind fun t13 =>
      cond (t13.1 == op)
        (some (Sum.inr (Sum.inr ((t13, true, ()), ()))))
        (some (Sum.inl ((), (w64 (t11 + 1)), o0))))
      (some (Sum.inr (Sum.inl ((), o0))))
def with21 (k : Nat) (c : tY2) (op : Int) : Option tY8 :=
  Option.bind
    (loopN (with21.l0 k c op) k ((), 0, 0, (ByteArray.mk #[]), 0, ()) : Option tY5) (joined fun ((_, _) : (Unit × (Int × tY30))) =>
    some (((0, (ByteArray.mk #[]), 0, []), false, ()), ()))
def with21.A : Ann := { conds := [], blocks := [(0, ⟨[(4, .ptr 0 [])], [(0, .var kY12)], 1, [], 2095264⟩)], loops := [(2, ⟨[(4, .ptr 0 []), (11, .int .i64)], [(0, .var kY12)], 1, [], 2095264⟩)], keeps := [2, 7], orders := [] }
def with21.S : Sig := { f := 21, params := [.st kY1, .int .i64], objs := [], res := .tup kY2, outs := [], fix := [], run := fun k ds os => with21 k ds.1 ds.2 }
def with21.G : List Sig := []
theorem with21.eq (k : Nat) : ∀ ds os, with21.S.run k ds os = runF ⟨types, with21.G, with21.A, k, 0, []⟩ Tryd.f21 (codeOf Tryd.f21) with21.S.params with21.S.objs with21.S.res with21.S.outs ds os := by
  intro ds os; kernel_rfl
theorem with21.dr : DrOk Tryd.prog with21.A (codeOf Tryd.f21) := ⟨by kernel_rfl, by kernel_rfl⟩
theorem with21.ok (k : Nat) : SoundAt Tryd.prog k with21.S :=
  runF_sound (X := ⟨types, with21.G, with21.A, k, 0, []⟩) types_ok (fun s hs => absurd hs List.not_mem_nil) (fn := Tryd.f21) (c := codeOf Tryd.f21) rfl (by kernel_rfl) rfl rfl with21.dr (with21.eq k)
end Go.Proofs.YtcppmlgnceldmaaDoor.Do

/- Go functions as plain Lean functions, and their contracts. -/
set_option linter.unusedVariables false
set_option maxRecDepth 100000
noncomputable section
namespace Go.Proofs.YtcppmlgnceldmaaDoor.Do
open Go Go.Proofs.YtcppmlgnceldmaaDoor.Gp
def One7 (k : Nat) (c : tY2) (b : tY34) (addr : Int) : Option (tY30 × Unit) :=
  cond ((List.length b : Int) == 0)
    (some (((ByteArray.mk #[]), 0, ()), ()))
    ((operands20 k).bind fun t17 =>
    Option.bind
      ((rd b 0).bind fun t23 =>
      agree
        ((with21 k c (w64 t23)).bind fun t26 =>
        some (t26.1.1, t26.1.2.1))
        ((with21 k c (w64 t23)).bind fun t26_1 =>
        some (t26_1.1.1, t26_1.1.2.1)) : Option tY14) fun ((x, ok) : tY14) =>
    Option.bind (cond (!ok)
      (some true)
      ((rd t17.1.1 x.2.2.1).bind fun t37 =>
      some (decide ((List.length b : Int) ≤ t37)))) fun t40 =>
    cond t40
      ((rd b 0).bind fun t42 =>
      (Itoa17 k (w64 t42)).bind fun t45 =>
      (Replace22 k (ByteArray.mk #[98, 121, 116, 101, 32, 63]) (ByteArray.mk #[63]) t45.1 1).bind fun t46 =>
      some ((t46.1, 1, ()), ()))
      ((rd t17.1.1 x.2.2.1).bind fun t50 =>
      Option.bind
        (cond (decide (t50 > 0))
          ((rd b 1).bind fun t54 =>
          some (x, (w64 t54)))
          (some (x, 0)) : Option tY15) fun ((x_1, n) : tY15) =>
      (rd t17.1.1 x_1.2.2.1).bind fun t60 =>
      Option.bind
        (cond (decide (t60 > 1))
          ((rd b 2).bind fun t65 =>
          some (x_1, (w64 (n + (w64 (256 * (w64 t65)))))))
          (some (x_1, n)) : Option tY15) fun ((x_2, n_1) : tY15) =>
      Option.bind
        (cond (x_2.2.2.1 == 7)
          (Option.bind
            (cond (decide (n_1 > 127))
              (some (x_2, (w64 (n_1 - 256))))
              (some (x_2, n_1)) : Option tY15) fun ((x_3, n_2) : tY15) =>
          some (x_3, (Int.tmod (w64 ((Int.tmod (w64 ((w64 (addr + 2)) + n_2)) 65536) + 65536)) 65536)))
          (some (x_2, n_1)) : Option tY15) fun ((x_4, n_3) : tY15) =>
      (rd t17.1.2.1 x_4.2.2.1).bind fun t89 =>
      (rd t17.1.1 x_4.2.2.1).bind fun t98 =>
      (Itoa17 k n_3).bind fun t92 =>
      (Replace22 k t89 (ByteArray.mk #[63]) t92.1 1).bind fun t93 =>
      (catS x_4.2.1 t93.1).bind fun t94 =>
      some ((t94, (w64 (1 + t98)), ()), ())))
def One7.A : Ann := { conds := [(3407881, ⟨[(10, .fp kY4), (12, .int .i64)], [], 0, [], 135107988821118976⟩), (4063243, ⟨[(10, .fp kY4), (12, .int .i64)], [], 0, [], 1171368248680556531712⟩), (4718605, ⟨[(10, .fp kY4), (12, .int .i64)], [], 0, [], 19333368380868327504875520⟩), (4849678, ⟨[(10, .fp kY4), (12, .int .i64)], [], 0, [], 113336795588871485132800⟩)], blocks := [], loops := [], keeps := [3, 10], orders := [(16, [(0, .strong), (1, .strong), (2, .strong), (3, .strong), (4, .strong), (5, .strong), (6, .strong), (7, .strong), (11, .strong), (12, .strong), (13, .strong), (14, .strong), (15, .strong), (16, .strong), (8, .eff true), (9, .eff true), (10, .strong), (17, .strong), (18, .strong)])], alts := [(4, ((.op 0 .strong (.op 1 .strong (.op 2 .strong (.op 3 .strong (.op 4 .strong (.alt (.op 5 (.eff true) (.op 6 .strong (.op 7 .strong (.op 8 .weak (.op 9 (.eff true) (.op 10 (.eff false) (.op 11 .strong (.leaf [])))))))) (.op 9 (.eff true) (.op 5 (.eff true) (.op 6 .strong (.op 7 .strong (.op 8 .weak (.op 10 (.eff false) (.op 11 .strong (.leaf [])))))))))))))), ⟨[(10, .fp kY4), (11, .bool)], [], 0, [], 535825408⟩))] }
def One7.S : Sig := { f := 7, params := [.st kY1, .sl (.int .u8), .int .i64], objs := [], res := .tup (.pair .str (.pair kY18 .unit)), outs := [], fix := [], run := fun k ds os => One7 k ds.1 ds.2.1 ds.2.2 }
def One7.G : List Sig := [Itoa17.S, Replace22.S, operands20.S, with21.S]
theorem One7.eq (k : Nat) : ∀ ds os, One7.S.run k ds os = runF ⟨types, One7.G, One7.A, k, 0, []⟩ Tryd.f7 (codeOf Tryd.f7) One7.S.params One7.S.objs One7.S.res One7.S.outs ds os := by
  intro ds os; kernel_rfl
theorem One7.dr : DrOk Tryd.prog One7.A (codeOf Tryd.f7) := ⟨by kernel_rfl, by kernel_rfl⟩
theorem One7.ok (k : Nat) : SoundAt Tryd.prog k One7.S :=
  runF_sound (X := ⟨types, One7.G, One7.A, k, 0, []⟩) types_ok (mem_all (⟨Itoa17.ok k, ⟨Replace22.ok k, ⟨operands20.ok k, ⟨with21.ok k, trivial⟩⟩⟩⟩)) (fn := Tryd.f7) (c := codeOf Tryd.f7) rfl (by kernel_rfl) rfl rfl One7.dr (One7.eq k)

def DisOnes3 (k : Nat) (c : tY2) (b : tY34) (addr : Int) : Option tY32 :=
  (told4 k).bind fun t11 =>
  Option.bind (cond (!t11.1)
    (some true)
    ((Check5 k c).bind fun t15 =>
    some (t15.1 != 0))) fun t17 =>
  cond t17
    ((told4 k).bind fun t18 =>
    some (t18.1, ()))
    ((One6 k c b addr).bind fun t23 =>
    (One7 k c b addr).bind fun t30 =>
    some ((cond (streq t23.1.1 t30.1.1) (t23.1.2.1 == t30.1.2.1) false), ()))
def DisOnes3.A : Ann := { conds := [], blocks := [], loops := [], keeps := [3], orders := [] }
def DisOnes3.S : Sig := { f := 3, params := [.st kY1, .sl (.int .u8), .int .i64], objs := [], res := .bool, outs := [], fix := [], run := fun k ds os => DisOnes3 k ds.1 ds.2.1 ds.2.2 }
def DisOnes3.G : List Sig := [Check5.S, One6.S, One7.S, told4.S]
theorem DisOnes3.eq (k : Nat) : ∀ ds os, DisOnes3.S.run k ds os = runF ⟨types, DisOnes3.G, DisOnes3.A, k, 0, []⟩ Tryd.f3 (codeOf Tryd.f3) DisOnes3.S.params DisOnes3.S.objs DisOnes3.S.res DisOnes3.S.outs ds os := by
  intro ds os; kernel_rfl
theorem DisOnes3.dr : DrOk Tryd.prog DisOnes3.A (codeOf Tryd.f3) := ⟨by kernel_rfl, by kernel_rfl⟩
theorem DisOnes3.ok (k : Nat) : SoundAt Tryd.prog k DisOnes3.S :=
  runF_sound (X := ⟨types, DisOnes3.G, DisOnes3.A, k, 0, []⟩) types_ok (mem_all (⟨Check5.ok k, ⟨One6.ok k, ⟨One7.ok k, ⟨told4.ok k, trivial⟩⟩⟩⟩)) (fn := Tryd.f3) (c := codeOf Tryd.f3) rfl (by kernel_rfl) rfl rfl DisOnes3.dr (DisOnes3.eq k)
end Go.Proofs.YtcppmlgnceldmaaDoor.Do

/- What is left of a Go function, in the long run: rounds, loops, lists, numbers. No program in sight. -/
set_option linter.unusedVariables false
noncomputable section
namespace Go.Proofs.YtcppmlgnceldmaaDoor.Gp
open Go

/-- from some fuel on, f answers v -/
def Ev {α : Type} (f : Nat → Option α) (v : α) : Prop := ∃ n, ∀ k, n ≤ k → f k = some v
/-- .. a loop, from some fuel on and with enough rounds -/
def Lp {S R : Type} (body : Nat → S → Option (S ⊕ R)) (s : S) (r : R) : Prop := ∃ n m, ∀ k, n ≤ k → ∀ j, m ≤ j → loopN (body k) j s = some r

theorem Ev.ex {α : Type} {f : Nat → Option α} {v : α} (h : Ev f v) : ∃ k, f k = some v := by
  obtain ⟨n, h⟩ := h
  exact ⟨n, h n (Nat.le_refl _)⟩
theorem Ev.now {α : Type} (v : α) : Ev (fun _ => some v) v := ⟨0, fun _ _ => rfl⟩
theorem Ev.now' {α : Type} {v w : α} (h : v = w) : Ev (fun _ => some v) w := h ▸ .now v
/-- what hangs on no fuel -/
theorem Ev.const {α : Type} {o : Option α} {v : α} (h : o = some v) : Ev (fun _ => o) v := ⟨0, fun _ _ => h⟩
theorem Ev.to {α : Type} {f : Nat → Option α} {v w : α} (h : Ev f v) (e : v = w) : Ev f w := e ▸ h
theorem Ev.of {α : Type} {f g : Nat → Option α} {v : α} (h : Ev f v) (e : ∀ k, g k = f k) : Ev g v := by
  obtain ⟨n, h⟩ := h
  exact ⟨n, fun k hk => (e k).trans (h k hk)⟩
theorem Ev.bind {α β : Type} {f : Nat → Option α} {g : Nat → α → Option β} {a : α} {b : β} (h : Ev f a) (h2 : Ev (fun k => g k a) b) : Ev (fun k => (f k).bind (g k)) b := by
  obtain ⟨n, h⟩ := h
  obtain ⟨m, h2⟩ := h2
  refine ⟨max n m, fun k hk => ?_⟩
  show (f k).bind (g k) = _
  rw [h k (by omega)]
  exact h2 k (by omega)
/-- a value that hangs on no fuel -/
theorem Ev.val {α β : Type} {o : Option α} {g : Nat → α → Option β} {a : α} {b : β} (h : o = some a) (h2 : Ev (fun k => g k a) b) : Ev (fun k => o.bind (g k)) b := by
  subst h
  exact h2
theorem Ev.joinL {S α β : Type} {f : Nat → Option (α ⊕ β)} {g : Nat → α → Option β} {a : α} {b : β} (h : Ev f (.inl a)) (h2 : Ev (fun k => g k a) b) : Ev (fun k => (f k).bind (joined (g k))) b :=
  Ev.bind (g := fun k => joined (g k)) h h2
theorem Ev.joinR {α β : Type} {f : Nat → Option (α ⊕ β)} {g : Nat → α → Option β} {b : β} (h : Ev f (.inr b)) : Ev (fun k => (f k).bind (joined (g k))) b :=
  Ev.bind (g := fun k => joined (g k)) h (.now b)
/-- a join: how it came, and what follows -/
theorem Ev.join {α β : Type} {f : Nat → Option (α ⊕ β)} {g : Nat → α → Option β} {s : α ⊕ β} {b : β} (h : Ev f s) (h1 : ∀ a, s = .inl a → Ev (fun k => g k a) b) (h2 : ∀ r, s = .inr r → r = b) : Ev (fun k => (f k).bind (joined (g k))) b := by
  cases s with
  | inl a => exact Ev.bind (g := fun k => joined (g k)) h (h1 a rfl)
  | inr r => exact Ev.bind (g := fun k => joined (g k)) h (.now' (h2 r rfl))
theorem Ev.cnd {α : Type} {c : Bool} {f g : Nat → Option α} {v : α} (h1 : c = true → Ev f v) (h2 : c = false → Ev g v) : Ev (fun k => cond c (f k) (g k)) v := by
  cases c with
  | true => exact h1 rfl
  | false => exact h2 rfl
theorem Ev.yes {α : Type} {c : Bool} {f g : Nat → Option α} {v : α} (hc : c = true) (h : Ev f v) : Ev (fun k => cond c (f k) (g k)) v := by rw [hc]; exact h
theorem Ev.no {α : Type} {c : Bool} {f g : Nat → Option α} {v : α} (hc : c = false) (h : Ev g v) : Ev (fun k => cond c (f k) (g k)) v := by rw [hc]; exact h
theorem Ev.map {α β : Type} {f : Nat → Option α} {g : α → β} {a : α} (h : Ev f a) : Ev (fun k => (f k).map g) (g a) := by
  obtain ⟨n, h⟩ := h
  exact ⟨n, fun k hk => by show (f k).map g = _; rw [h k hk]; rfl⟩

theorem Lp.ev {S R : Type} {body : Nat → S → Option (S ⊕ R)} {s : S} {r : R} (h : Lp body s r) : Ev (fun k => loopN (body k) k s) r := by
  obtain ⟨n, m, h⟩ := h
  exact ⟨max n m, fun k hk => h k (by omega) k (by omega)⟩
theorem Lp.done {S R : Type} {body : Nat → S → Option (S ⊕ R)} {s : S} {r : R} (h : Ev (fun k => body k s) (.inr r)) : Lp body s r := by
  obtain ⟨n, h⟩ := h
  refine ⟨n, 1, fun k hk j hj => ?_⟩
  obtain ⟨j, rfl⟩ : ∃ i, j = i + 1 := ⟨j - 1, by omega⟩
  show (body k s).bind _ = _
  rw [show body k s = _ from h k hk]
  rfl
theorem Lp.step {S R : Type} {body : Nat → S → Option (S ⊕ R)} {s s' : S} {r : R} (h : Ev (fun k => body k s) (.inl s')) (h2 : Lp body s' r) : Lp body s r := by
  obtain ⟨n, h⟩ := h
  obtain ⟨n2, m, h2⟩ := h2
  refine ⟨max n n2, m + 1, fun k hk j hj => ?_⟩
  obtain ⟨j, rfl⟩ : ∃ i, j = i + 1 := ⟨j - 1, by omega⟩
  show (body k s).bind _ = _
  rw [show body k s = _ from h k (by omega)]
  exact h2 k (by omega) j (by omega)

/-- a walk over a list, that may end early -/
def walk {α β R : Type} (f : β → α → β ⊕ R) (fin : β → R) : List α → β → R
  | [], b => fin b
  | x :: l, b => match f b x with | .inl b' => walk f fin l b' | .inr r => r
theorem walk_cons {α β R : Type} {f : β → α → β ⊕ R} {fin : β → R} {x : α} {l : List α} {b : β} : walk f fin (x :: l) b = match f b x with | .inl b' => walk f fin l b' | .inr r => r := rfl

/-- a loop over a list by its index: 'st b i' is the loop's state -/
theorem Lp.walk {α β S R : Type} {body : Nat → S → Option (S ⊕ R)} (l : List α) (st : β → Int → S) (f : β → α → β ⊕ R) (fin : β → R) (Inv : Nat → β → Prop)
    (hs : ∀ i x b, l[i]? = some x → Inv i b → Ev (fun k => body k (st b i)) (match f b x with | .inl b' => .inl (st b' ((i : Int) + 1)) | .inr r => .inr r) ∧ ∀ b', f b x = .inl b' → Inv (i + 1) b')
    (hd : ∀ b, Inv l.length b → Ev (fun k => body k (st b l.length)) (.inr (fin b))) {b : β} (h0 : Inv 0 b) : Lp body (st b 0) (walk f fin l b) := by
  have key : ∀ (suf pre : List α) (b : β), l = pre ++ suf → Inv pre.length b → Lp body (st b (pre.length : Int)) (Gp.walk f fin suf b) := by
    intro suf
    induction suf with
    | nil =>
      intro pre b h hi
      rw [List.append_nil] at h
      subst h
      exact .done (hd b hi)
    | cons x suf ih =>
      intro pre b h hi
      have hx : l[pre.length]? = some x := by rw [h]; simp
      obtain ⟨h1, h2⟩ := hs pre.length x b hx hi
      rw [walk_cons]
      cases hf : f b x with
      | inr r => rw [hf] at h1; exact .done h1
      | inl b' =>
        rw [hf] at h1
        refine .step h1 ?_
        have := ih (pre ++ [x]) b' (by rw [h]; simp) (by simpa using h2 b' hf)
        simpa using this
  exact key l [] b rfl h0
/-- .. that always goes to its end -/
theorem Lp.fold {α β S R : Type} {body : Nat → S → Option (S ⊕ R)} (l : List α) (st : β → Int → S) (f : β → α → β) (fin : β → R) (Inv : Nat → β → Prop)
    (hs : ∀ i x b, l[i]? = some x → Inv i b → Ev (fun k => body k (st b i)) (.inl (st (f b x) ((i : Int) + 1))) ∧ Inv (i + 1) (f b x))
    (hd : ∀ b, Inv l.length b → Ev (fun k => body k (st b l.length)) (.inr (fin b))) {b : β} (h0 : Inv 0 b) : Lp body (st b 0) (fin (l.foldl f b)) := by
  have := Lp.walk (body := body) l st (fun b x => .inl (f b x)) fin Inv (fun i x b hx hi => ⟨(hs i x b hx hi).1, fun b' hb => by cases hb; exact (hs i x b hx hi).2⟩) hd h0
  have e : ∀ (l : List α) (b : β), Gp.walk (fun b x => (.inl (f b x) : β ⊕ R)) fin l b = fin (l.foldl f b) := by
    intro l
    induction l with
    | nil => intro b; rfl
    | cons x l ih => intro b; rw [walk_cons, List.foldl_cons]; exact ih _
  rwa [e] at this
/-- a loop that counts from 0 to n -/
theorem Lp.count {β S R : Type} {body : Nat → S → Option (S ⊕ R)} (n : Nat) (st : β → Int → S) (f : β → Nat → β) (fin : β → R) (Inv : Nat → β → Prop)
    (hs : ∀ i b, i < n → Inv i b → Ev (fun k => body k (st b i)) (.inl (st (f b i) ((i : Int) + 1))) ∧ Inv (i + 1) (f b i))
    (hd : ∀ b, Inv n b → Ev (fun k => body k (st b n)) (.inr (fin b))) {b : β} (h0 : Inv 0 b) : Lp body (st b 0) (fin ((List.range n).foldl f b)) := by
  refine Lp.fold (List.range n) st f fin Inv (fun i x b hx hi => ?_) (fun b hb => ?_) h0
  · obtain ⟨h1, h2⟩ := List.getElem?_eq_some_iff.1 hx
    rw [List.getElem_range] at h2
    subst h2
    exact hs i b (by simpa using h1) hi
  · rw [List.length_range] at hb ⊢
    exact hd b hb

-- numbers
theorem w64_id {x : Int} (h0 : -9223372036854775808 ≤ x) (h1 : x ≤ 9223372036854775807) : w64 x = x := by
  show IntKind.wrap .i64 x = x
  have e : (2 : Int) ^ (64 - 1) = 9223372036854775808 := by decide
  have e2 : (2 : Int) ^ 64 = 18446744073709551616 := by decide
  simp only [IntKind.wrap, IntKind.signed, IntKind.bits, Bool.true_and, decide_eq_true_eq, e, e2]
  split <;> omega
theorem w64_nat {n : Nat} (h : n ≤ 9223372036854775807) : w64 (n : Int) = n := w64_id (by omega) (by omega)
theorem w64_succ {n : Nat} (h : n < 9223372036854775807) : w64 ((n : Int) + 1) = ((n + 1 : Nat) : Int) := by rw [w64_id (by omega) (by omega)]; omega
theorem rd_nat {α : Type} (l : List α) (i : Nat) : rd l (i : Int) = l[i]? := by
  unfold rd
  rw [if_pos (by omega)]
  rfl
theorem rd_some' {α : Type} {l : List α} {i : Nat} {x : α} (h : l[i]? = some x) : rd l (i : Int) = some x := by rw [rd_nat, h]
theorem rd_at {α : Type} {l : List α} {z : Int} {i : Nat} {x : α} (hz : z = i) (h : l[i]? = some x) : rd l z = some x := by rw [hz, rd_nat, h]
theorem room_ok {n b : Nat} (h : n * b ≤ 140737488355328) : room n b = true := Nat.ble_eq_true_of_le h
theorem get_lt {α : Type} {l : List α} {i : Nat} {x : α} (h : l[i]? = some x) : i < l.length := (List.getElem?_eq_some_iff.1 h).1
theorem get_mem {α : Type} {l : List α} {i : Nat} {x : α} (h : l[i]? = some x) : x ∈ l := List.mem_of_getElem? h
theorem slc_ok {α : Type} {l : List α} {a b : Nat} (h1 : a ≤ b) (h2 : b ≤ l.length) : slc l (a : Int) (b : Int) = some ((l.take b).drop a) := by
  unfold slc
  rw [if_pos ⟨by omega, by omega, by omega⟩]
  simp
theorem slc_tail {α : Type} {l : List α} {a : Nat} (h1 : a ≤ l.length) : slc l (a : Int) (l.length : Int) = some (l.drop a) := by
  rw [slc_ok h1 (Nat.le_refl _), List.take_length]
theorem streq_iff {a b : ByteArray} : streq a b = true ↔ a = b := ⟨streq_eq, fun h => by rw [h]; exact streq_refl b⟩
theorem wrap64_nat {n : Nat} (h : n < 9223372036854775808) : IntKind.wrap .i64 (n : Int) = n := w64_nat (by omega)
theorem bv_nat (a : Nat) : BitVec.ofInt 64 (a : Int) = BitVec.ofNat 64 a := BitVec.ofInt_natCast 64 a
theorem shrI_nat {a j : Nat} (hj : j ≤ 64) : shrI .i64 (a : Int) (j : Int) = ((a / 2 ^ j : Nat) : Int) := by
  unfold shrI
  simp only [IntKind.bits, Int.toNat_natCast]
  rw [Nat.min_eq_left hj, show ((2 : Int) ^ j) = ((2 ^ j : Nat) : Int) by simp, Int.fdiv_eq_ediv_of_nonneg _ (Int.natCast_nonneg _)]
  simp

-- maps
end Go.Proofs.YtcppmlgnceldmaaDoor.Gp

/- More fuel, no other answer. -/
set_option linter.unusedVariables false
noncomputable section
namespace Go.Proofs.YtcppmlgnceldmaaDoor.Gp
open Go

def Mono {α : Type} (f : Nat → Option α) : Prop := ∀ k j v, k ≤ j → f k = some v → f j = some v
theorem Mono.ev {α : Type} {f : Nat → Option α} (h : Mono f) {n : Nat} {v : α} (e : f n = some v) : Ev f v := ⟨n, fun k hk => h n k v hk e⟩
theorem Mono.const {α : Type} (o : Option α) : Mono (fun _ => o) := fun _ _ _ _ h => h
theorem Mono.bind {α β : Type} {f : Nat → Option α} {g : Nat → α → Option β} (h : Mono f) (h2 : ∀ a, Mono (fun k => g k a)) : Mono (fun k => (f k).bind (g k)) := by
  intro k j v hk he
  obtain ⟨a, ha, hb⟩ := Option.bind_eq_some_iff.1 he
  exact Option.bind_eq_some_iff.2 ⟨a, h k j a hk ha, h2 a k j v hk hb⟩
theorem Mono.cond {α : Type} {c : Bool} {f g : Nat → Option α} (h : Mono f) (h2 : Mono g) : Mono (fun k => cond c (f k) (g k)) := by
  cases c
  · exact h2
  · exact h
theorem Mono.joined {α β : Type} {f : Nat → Option (α ⊕ β)} {g : Nat → α → Option β} (h : Mono f) (h2 : ∀ a, Mono (fun k => g k a)) : Mono (fun k => (f k).bind (joined (g k))) :=
  Mono.bind (g := fun k => Gp.joined (g k)) h (fun a => by
    cases a with
    | inl a => exact h2 a
    | inr b => exact Mono.const _)
theorem Mono.loop {S R : Type} {body : Nat → S → Option (S ⊕ R)} {s : S} (h : ∀ s, Mono (fun k => body k s)) : Mono (fun k => loopN (body k) k s) := by
  have key : ∀ (n : Nat) (k j m : Nat) (s : S) (v : R), k ≤ j → n ≤ m → loopN (body k) n s = some v → loopN (body j) m s = some v := by
    intro n
    induction n with
    | zero => intro k j m s v _ _ he; cases he
    | succ n ih =>
      intro k j m s v hk hm he
      obtain ⟨m, rfl⟩ : ∃ i, m = i + 1 := ⟨m - 1, by omega⟩
      obtain ⟨a, ha, hb⟩ := Option.bind_eq_some_iff.1 (show (body k s).bind _ = some v from he)
      refine Option.bind_eq_some_iff.2 ⟨a, h s k j a hk ha, ?_⟩
      cases a with
      | inl s' => exact ih k j m s' v hk (by omega) hb
      | inr r => exact hb
  intro k j v hk he
  exact key k k j j s v hk hk he
theorem Mono.agree {α : Type} {f g : Nat → Option α} (h : Mono f) (h2 : Mono g) : Mono (fun k => agree (f k) (g k)) := by
  intro k j v hk he
  obtain ⟨a, b⟩ := agree_some he
  show Gp.agree (f j) (g j) = some v
  rw [h k j v hk a, h2 k j v hk b]
  exact agree_self _
theorem Mono.orNil {α : Type} {n : Nat} {f g : Nat → Option α} (h : Mono f) (h2 : Mono g) : Mono (fun k => orNil n (f k) (g k)) := by
  intro k j v hk he
  obtain ⟨a, b⟩ := orNil_some he
  have h3 := h2 k j v hk a
  show Gp.orNil n (f j) (g j) = some v
  rw [orNil_same (fun e => by rw [h3, h k j v hk (b e)])]
  exact h3
theorem Mono.prod {α β γ : Type} {f : Nat → α × β → Option γ} (h : ∀ a b, Mono (fun k => f k (a, b))) : ∀ x, Mono (fun k => f k x) := fun x => by
  obtain ⟨a, b⟩ := x
  exact h a b
end Go.Proofs.YtcppmlgnceldmaaDoor.Gp

/- What is left of a Go function answers, and its answer has a property. No program in sight. -/
set_option linter.unusedVariables false
noncomputable section
namespace Go.Proofs.YtcppmlgnceldmaaDoor.Gp
open Go

def Tot {α : Type} (f : Nat → Option α) (P : α → Prop) : Prop := ∃ v, Ev f v ∧ P v
theorem Tot.ret {α : Type} {P : α → Prop} {v : α} (h : P v) : Tot (fun _ => some v) P := ⟨v, .now _, h⟩
theorem Tot.of {α : Type} {P : α → Prop} {f : Nat → Option α} {v : α} (h : Ev f v) (hp : P v) : Tot f P := ⟨v, h, hp⟩
theorem Tot.mono {α : Type} {P Q : α → Prop} {f : Nat → Option α} (h : Tot f P) (hp : ∀ v, P v → Q v) : Tot f Q := by
  obtain ⟨v, h1, h2⟩ := h
  exact ⟨v, h1, hp v h2⟩
theorem Tot.bind {α β : Type} {P : α → Prop} {Q : β → Prop} {f : Nat → Option α} {g : Nat → α → Option β} (h : Tot f P) (h2 : ∀ a, P a → Tot (fun k => g k a) Q) : Tot (fun k => (f k).bind (g k)) Q := by
  obtain ⟨a, h, ha⟩ := h
  obtain ⟨b, h2, hb⟩ := h2 a ha
  exact ⟨b, h.bind h2, hb⟩
theorem Tot.val {α β : Type} {Q : β → Prop} {o : Option α} {g : Nat → α → Option β} {a : α} (h : o = some a) (h2 : Tot (fun k => g k a) Q) : Tot (fun k => o.bind (g k)) Q := by
  subst h
  exact h2
theorem Tot.ask {β : Type} {Q : β → Prop} {c : Prop} [Decidable c] {g : Nat → Unit → Option β} (hc : c) (h2 : Tot (fun k => g k ()) Q) : Tot (fun k => (if c then some () else none).bind (g k)) Q := Tot.val (if_pos hc) h2
theorem Tot.cnd {α : Type} {P : α → Prop} {c : Bool} {f g : Nat → Option α} (h1 : c = true → Tot f P) (h2 : c = false → Tot g P) : Tot (fun k => cond c (f k) (g k)) P := by
  cases c with
  | true => exact h1 rfl
  | false => exact h2 rfl
theorem Tot.join {α β : Type} {P : α ⊕ β → Prop} {Q : β → Prop} {f : Nat → Option (α ⊕ β)} {g : Nat → α → Option β} (h : Tot f P) (h1 : ∀ a, P (.inl a) → Tot (fun k => g k a) Q) (h2 : ∀ b, P (.inr b) → Q b) : Tot (fun k => (f k).bind (joined (g k))) Q := by
  obtain ⟨v, h, hv⟩ := h
  cases v with
  | inl a =>
    obtain ⟨b, h3, hb⟩ := h1 a hv
    exact ⟨b, Ev.joinL (S := Unit) h h3, hb⟩
  | inr b => exact ⟨b, h.joinR, h2 b hv⟩
theorem Tot.read {α β : Type} {Q : β → Prop} {l : List α} {i : Int} {g : Nat → α → Option β} (h : 0 ≤ i ∧ i < (l.length : Int)) (h2 : ∀ a, l[i.toNat]? = some a → Tot (fun k => g k a) Q) : Tot (fun k => (rd l i).bind (g k)) Q := by
  have hlt : i.toNat < l.length := by omega
  have := List.getElem?_eq_getElem hlt
  exact Tot.val (rd_at (i := i.toNat) (by omega) this) (h2 _ this)
theorem Tot.ev {α : Type} {P : α → Prop} {f : Nat → Option α} (h : Tot f P) : ∃ v, Ev f v ∧ P v := h
/-- a loop over a list -/
theorem Tot.walk {α β S R : Type} {body : Nat → S → Option (S ⊕ R)} (l : List α) (st : β → Int → S) (Inv : β → Prop) (Q : R → Prop)
    (hs : ∀ (i : Nat) x b, l[i]? = some x → Inv b → Tot (fun k => body k (st b (i : Int))) (fun y => match y with | .inl s => ∃ b', s = st b' ((i : Int) + 1) ∧ Inv b' | .inr r => Q r))
    (hd : ∀ b, Inv b → Tot (fun k => body k (st b l.length)) (fun y => match y with | .inl s => False | .inr r => Q r)) {b : β} (h0 : Inv b) : Tot (fun k => loopN (body k) k (st b 0)) Q := by
  have key : ∀ (suf pre : List α) (b : β), l = pre ++ suf → Inv b → ∃ r, Lp body (st b (pre.length : Int)) r ∧ Q r := by
    intro suf
    induction suf with
    | nil =>
      intro pre b h hi
      rw [List.append_nil] at h
      subst h
      obtain ⟨y, h1, h2⟩ := hd b hi
      cases y with
      | inl s => exact h2.elim
      | inr r => exact ⟨r, .done h1, h2⟩
    | cons x suf ih =>
      intro pre b h hi
      have hx : l[pre.length]? = some x := by rw [h]; simp
      obtain ⟨y, h1, h2⟩ := hs pre.length x b hx hi
      cases y with
      | inr r => exact ⟨r, .done h1, h2⟩
      | inl s =>
        obtain ⟨b', rfl, hb'⟩ := h2
        obtain ⟨r, h3, h4⟩ := ih (pre ++ [x]) b' (by rw [h]; simp) hb'
        refine ⟨r, .step h1 ?_, h4⟩
        rw [List.length_append] at h3
        exact h3
  obtain ⟨r, h1, h2⟩ := key l [] b rfl h0
  exact ⟨r, h1.ev, h2⟩

/-- .. with what was seen so far -/
theorem Tot.walkI {α β S R : Type} {body : Nat → S → Option (S ⊕ R)} (l : List α) (st : β → Int → S) (Inv : Nat → β → Prop) (Q : R → Prop)
    (hs : ∀ (i : Nat) x b, l[i]? = some x → Inv i b → Tot (fun k => body k (st b (i : Int))) (fun y => match y with | .inl s => ∃ b', s = st b' ((i : Int) + 1) ∧ Inv (i + 1) b' | .inr r => Q r))
    (hd : ∀ b, Inv l.length b → Tot (fun k => body k (st b l.length)) (fun y => match y with | .inl s => False | .inr r => Q r)) {b : β} (h0 : Inv 0 b) : Tot (fun k => loopN (body k) k (st b 0)) Q := by
  have key : ∀ (suf pre : List α) (b : β), l = pre ++ suf → Inv pre.length b → ∃ r, Lp body (st b (pre.length : Int)) r ∧ Q r := by
    intro suf
    induction suf with
    | nil =>
      intro pre b h hi
      rw [List.append_nil] at h
      subst h
      obtain ⟨y, h1, h2⟩ := hd b hi
      cases y with
      | inl s => exact h2.elim
      | inr r => exact ⟨r, .done h1, h2⟩
    | cons x suf ih =>
      intro pre b h hi
      have hx : l[pre.length]? = some x := by rw [h]; simp
      obtain ⟨y, h1, h2⟩ := hs pre.length x b hx hi
      cases y with
      | inr r => exact ⟨r, .done h1, h2⟩
      | inl s =>
        obtain ⟨b', rfl, hb'⟩ := h2
        obtain ⟨r, h3, h4⟩ := ih (pre ++ [x]) b' (by rw [h]; simp) (by rw [List.length_append]; exact hb')
        refine ⟨r, .step h1 ?_, h4⟩
        rw [List.length_append] at h3
        exact h3
  obtain ⟨r, h1, h2⟩ := key l [] b rfl h0
  exact ⟨r, h1.ev, h2⟩

/-- all rows of numbers have nine -/
class Nin (α : Type) where
  p : α → Prop
instance : Nin Unit := ⟨fun _ => True⟩
instance : Nin Int := ⟨fun _ => True⟩
instance : Nin Bool := ⟨fun _ => True⟩
instance : Nin (List Int) := ⟨fun l => l.length = 9⟩
instance {α β : Type} [Nin α] [Nin β] : Nin (α × β) := ⟨fun x => Nin.p x.1 ∧ Nin.p x.2⟩
instance {α β : Type} [Nin α] [Nin β] : Nin (α ⊕ β) := ⟨fun x => match x with | .inl a => Nin.p a | .inr b => Nin.p b⟩
theorem Tot.prod {α β γ : Type} [Nin α] [Nin β] {Q : γ → Prop} {f : Nat → α × β → Option γ} (h : ∀ a, Nin.p a → ∀ b, Nin.p b → Tot (fun k => f k (a, b)) Q) : ∀ x : α × β, Nin.p x → Tot (fun k => f k x) Q := fun x hx => h x.1 hx.1 x.2 hx.2
/-- it answers -/
theorem Tot.bindT {α β : Type} {Q : β → Prop} {f : Nat → Option α} {g : Nat → α → Option β} (h : Tot f (fun _ => True)) (h2 : ∀ a, Tot (fun k => g k a) Q) : Tot (fun k => (f k).bind (g k)) Q := Tot.bind h (fun a _ => h2 a)
theorem Tot.any {α : Type} {P : α → Prop} {f : Nat → Option α} (h : Tot f P) : Tot f (fun _ => True) := h.mono fun _ _ => trivial
theorem Tot.prodT {α β γ : Type} {Q : γ → Prop} {f : Nat → α × β → Option γ} (h : ∀ a b, Tot (fun k => f k (a, b)) Q) : ∀ x : α × β, Tot (fun k => f k x) Q := fun x => h x.1 x.2
theorem Tot.joinT {α β : Type} {f : Nat → Option (α ⊕ β)} {g : Nat → α → Option β} (h : Tot f (fun _ => True)) (h1 : ∀ a, Tot (fun k => g k a) (fun _ => True)) : Tot (fun k => (f k).bind (Gp.joined (g k))) (fun _ => True) :=
  Tot.join (P := fun _ => True) h (fun a _ => h1 a) (fun _ _ => trivial)
end Go.Proofs.YtcppmlgnceldmaaDoor.Gp

/- What processors may do: the check. No program in sight. -/
set_option linter.unusedVariables false
set_option maxRecDepth 100000
noncomputable section
namespace Go.Proofs.YtcppmlgnceldmaaDoor.Do
open Go Go.Proofs.YtcppmlgnceldmaaDoor.Gp

abbrev Stp4 := Int × Int × Int × Int
abbrev Cyc := Int × Int × Int × List Stp4
abbrev Ins := Int × ByteArray × Int × List Cyc
abbrev Cpu := ByteArray × List Ins × List Cyc × List Cyc × List Cyc
theorem ibits_low (n : Int) {j : Nat} (hj : j ≤ 62) : ibits .and .i64 n ((2 ^ j - 1 : Nat) : Int) = n % ((2 ^ j : Nat) : Int) := by
  have hp : 2 ^ j ≤ 2 ^ 62 := Nat.pow_le_pow_right (by decide) hj
  have hpos : 0 < 2 ^ j := Nat.pow_pos (by decide)
  have e62 : (2 : Nat) ^ 62 = 4611686018427387904 := by decide
  have e64 : (2 : Nat) ^ 64 = 18446744073709551616 := by decide
  show IntKind.wrap .i64 (((BitVec.ofInt 64 n &&& BitVec.ofInt 64 ((2 ^ j - 1 : Nat) : Int)).toNat : Nat) : Int) = _
  rw [bv_nat, BitVec.toNat_and, BitVec.toNat_ofNat, Nat.mod_eq_of_lt (by omega), BitVec.toNat_ofInt, Nat.and_two_pow_sub_one_eq_mod]
  have hlt : (n % (2 ^ 64 : Nat)).toNat % 2 ^ j < 2 ^ j := Nat.mod_lt _ hpos
  rw [wrap64_nat (by omega), Int.natCast_emod, Int.toNat_of_nonneg (Int.emod_nonneg _ (by rw [e64]; decide))]
  exact Int.emod_emod_of_dvd n (Int.natCast_dvd_natCast.2 (Nat.pow_dvd_pow 2 (by omega)))
theorem low8_ev (n : Int) : Ev (fun k => Low19 k n 8) (n % 256, ()) := by
  unfold Low19
  refine .val (a := (8, ())) rfl (.val (a := shlI .i64 1 8) rfl (.now' ?_))
  have := ibits_low n (j := 8) (by decide)
  exact congrArg (fun x => (x, ())) this
theorem low16_ev (n : Int) : Ev (fun k => Low19 k n 16) (n % 65536, ()) := by
  unfold Low19
  refine .val (a := (16, ())) rfl (.val (a := shlI .i64 1 16) rfl (.now' ?_))
  have := ibits_low n (j := 16) (by decide)
  exact congrArg (fun x => (x, ())) this
def Wcyc (l : List Cyc) : Prop := l.length * 48 ≤ 140737488351232 ∧ ∀ y ∈ l, y.2.2.2.length * 32 ≤ 140737488351232
/-- no row is too long -/
structure Wc (c : Cpu) : Prop where
  len : c.2.1.length * 56 ≤ 140737488351232
  ins : ∀ x ∈ c.2.1, Wcyc x.2.2.2
  res : Wcyc c.2.2.1
  irq : Wcyc c.2.2.2.1
  nmi : Wcyc c.2.2.2.2
theorem clone_ev (s : List Cyc) (h : s.length * 48 ≤ 140737488351232) : Ev (fun k => Clone68 k s) ((), s) := by
  unfold Clone68
  have e : (if room (0 + List.length s) 48 then some () else none : Option Unit) = some () := if_pos (room_ok (by omega))
  refine Ev.const ?_
  rw [orNil_same (fun h0 => ?_)]
  · show Option.bind _ _ = _
    rw [e]; rfl
  · have := List.length_eq_zero_iff.1 h0
    subst this
    rw [e]; rfl
theorem clones_ev (s : List Stp4) (h : s.length * 32 ≤ 140737488351232) : Ev (fun k => Clone69 k s) ((), s) := by
  unfold Clone69
  have e : (if room (0 + List.length s) 32 then some () else none : Option Unit) = some () := if_pos (room_ok (by omega))
  refine Ev.const ?_
  rw [orNil_same (fun h0 => ?_)]
  · show Option.bind _ _ = _
    rw [e]; rfl
  · have := List.length_eq_zero_iff.1 h0
    subst this
    rw [e]; rfl
theorem copies_ev (l : List Cyc) (h : Wcyc l) : Ev (fun k => copies56 k l) (l, ()) := by
  have hl := h.1
  unfold copies56
  refine .bind (clone_ev l hl) (.bind (a := ((), l)) (Lp.ev ?_) (.now _))
  have := Lp.count (body := fun k => copies56.l0 k ((), l)) l.length (fun (_ : Unit) i => ((), i, l)) (fun _ _ => ()) (fun _ => ((), l)) (fun _ _ => True) (fun i b hi _ => ⟨?_, trivial⟩) (fun b _ => ?_) (b := ()) trivial
  · exact this
  · obtain ⟨x, hx⟩ : ∃ x, l[i]? = some x := ⟨l[i], List.getElem?_eq_getElem hi⟩
    have hr := rd_some' hx
    simp only [copies56.l0]
    refine .yes (decide_eq_true (by omega)) (.val hr (.val hr (.bind (clones_ev x.2.2.2 (h.2 x (get_mem hx))) (.val hr (.val hr (.now' ?_))))))
    rw [w64_id (by omega) (by omega), Int.toNat_natCast]
    have : l.set i x = l := by
      obtain ⟨h1, h2⟩ := List.getElem?_eq_some_iff.1 hx
      rw [← h2]
      exact List.set_getElem_self h1
    show (Sum.inl ((), (i : Int) + 1, l.set i x) : _ ⊕ _) = _
    rw [this]
  · simp only [copies56.l0]
    exact .no (decide_eq_false (by show ¬ (l.length : Int) < (l.length : Int); omega)) (.now _)
theorem copy_ev (x : Ins) (h : Wcyc x.2.2.2) : Ev (fun k => Copy33 k x) (x, ()) := by
  unfold Copy33
  exact .bind (copies_ev _ h) (.now _)
def findI (c : Cpu) (op : Int) : Option Ins := c.2.1.find? (fun x => x.1 == op)
theorem idx_lp {c : Cpu} (hc : Wc c) (op : Int) : ∀ (suf pre : List Ins), c.2.1 = pre ++ suf → ∃ r, Lp (fun k => IndexFunc30'.l0 k c.2.1) ((op, ()), (pre.length : Int)) r ∧
    (match suf.find? (fun x => x.1 == op) with | none => r = .inl () | some x => ∃ j : Nat, r = .inr ((j : Int), ()) ∧ c.2.1[j]? = some x) := by
  have hl := hc.len
  intro suf
  induction suf with
  | nil =>
    intro pre h
    rw [List.append_nil] at h
    refine ⟨.inl (), .done ?_, rfl⟩
    simp only [IndexFunc30'.l0]
    exact .no (decide_eq_false (by rw [h]; omega)) (.now _)
  | cons x suf ih =>
    intro pre h
    have hx : c.2.1[pre.length]? = some x := by rw [h]; simp
    have hlt := get_lt hx
    cases hp : (x.1 == op) with
    | true =>
      refine ⟨.inr ((pre.length : Int), ()), .done ?_, ?_⟩
      · simp only [IndexFunc30'.l0]
        refine .yes (decide_eq_true (by omega)) (.val (rd_some' hx) (.bind (a := (true, ())) (.const ?_) (.yes rfl (.now _))))
        show some ((x.1 == op), ()) = _
        rw [hp]
      · rw [List.find?_cons_of_pos (by exact hp)]
        exact ⟨pre.length, rfl, hx⟩
    | false =>
      obtain ⟨r, h1, h2⟩ := ih (pre ++ [x]) (by rw [h]; simp)
      refine ⟨r, .step ?_ h1, ?_⟩
      · simp only [IndexFunc30'.l0]
        refine .yes (decide_eq_true (by omega)) (.val (rd_some' hx) (.bind (a := (false, ())) (.const ?_) (.no rfl (.now' ?_))))
        · show some ((x.1 == op), ()) = _
          rw [hp]
        · rw [w64_succ (by omega)]; simp
      · rw [List.find?_cons_of_neg (by rw [hp]; decide)]
        exact h2
def none4 : Ins := (0, ByteArray.mk #[], 0, [])
def findR (c : Cpu) (op : Int) : Ins × Bool × Unit := match findI c op with | some x => (x, true, ()) | none => (none4, false, ())
theorem find_ev {c : Cpu} (hc : Wc c) (op : Int) : Ev (fun k => Find16 k c op) (findR c op, ()) := by
  unfold Find16 IndexFunc30'
  obtain ⟨r, h1, h2⟩ := idx_lp hc op c.2.1 [] rfl
  unfold findR findI
  cases hf : c.2.1.find? (fun x => x.1 == op) with
  | none =>
    rw [hf] at h2
    subst h2
    exact .bind (.joinL (S := Unit) h1.ev (.now _)) (.yes rfl (.now _))
  | some x =>
    rw [hf] at h2
    obtain ⟨j, rfl, hj⟩ := h2
    exact .bind (.joinR h1.ev) (.no (decide_eq_false (by show ¬ (j : Int) < 0; omega)) (.val (rd_some' hj) (.bind (copy_ev x (hc.ins x (get_mem hj))) (.now _))))
/-- names are no longer than texts can be -/
def Wn (c : Cpu) : Prop := c.1.size ≤ 140737488351232 ∧ ∀ x ∈ c.2.1, x.2.1.size ≤ 140737488351232
theorem bytes_len (s : ByteArray) : (bytesOf s).length = s.size := by unfold bytesOf; rw [List.length_map, Array.length_toList]; rfl
theorem name_t (s : ByteArray) (h : s.size ≤ 140737488351232) : Tot (fun k => Name10 k s) (fun _ => True) := by
  unfold Name10
  have hl := bytes_len s
  have at0 : ∀ {β : Type} {Q : β → Prop} {g : Nat → Int → Option β}, ¬ streq s (ByteArray.mk #[]) = true → (∀ a, Tot (fun k => g k a) Q) → Tot (fun k => (rd (bytesOf s) 0).bind (g k)) Q := by
    intro β Q g hne hg
    refine .read ⟨by decide, ?_⟩ fun a _ => hg a
    rw [hl]
    by_cases h0 : s.size = 0
    · exfalso
      refine hne (streq_iff.2 ?_)
      cases s with
      | mk d =>
        have hd : d.size = 0 := h0
        have := Array.size_eq_zero_iff.1 hd
        rw [this]
    · omega
  refine .bind (P := fun b => b = false → ¬ streq s (ByteArray.mk #[]) = true) (.cnd (fun _ => .ret (fun h => by cases h)) (fun h => ?_)) fun t16 h16 => .bind (P := fun _ => True) (.cnd (fun _ => .ret trivial) (fun h => at0 (h16 h) fun a => .ret trivial)) fun t21 _ => .cnd (fun _ => .ret trivial) fun _ => .joinT ?_ (fun _ => .ret trivial)
  · have hne : ¬ streq s (ByteArray.mk #[]) = true := by
      intro h2
      rw [h2] at h
      cases h
    exact at0 hne fun a => .ret (fun _ => hne)
  · refine Tot.walk (body := fun k => Name10.l0 k s) (bytesOf s) (fun (_ : Unit) i => ((), i, bytesOf s)) (fun _ => True) _ (fun i x b hx _ => ?_) (fun b _ => ?_) (b := ()) trivial
    · have hi := get_lt hx
      simp only [Name10.l0]
      refine .cnd (fun _ => .val (rd_some' hx) (.val (rd_some' hx) (.cnd (fun _ => .ret trivial) (fun _ => .ret ⟨(), ?_, trivial⟩)))) (fun h => absurd (of_decide_eq_false h) (by omega))
      rw [w64_id (by omega) (by omega)]
    · simp only [Name10.l0]
      exact .cnd (fun h => absurd (of_decide_eq_true h) (by omega)) (fun _ => .ret trivial)
theorem size_t (m : Int) : Tot (fun k => Size11 k m) (fun _ => True) := by unfold Size11; repeat' (first | with_reducible exact Tot.ret trivial | with_reducible refine Tot.cnd ?_ ?_ | with_reducible refine Tot.bindT ?_ ?_ | with_reducible refine Tot.prodT ?_ | intro _ | (dsimp only))
theorem operand_t {l : List Cyc} (h : Wcyc l) : Tot (fun k => operand15 k l) (fun _ => True) := by
  have hl := h.1
  unfold operand15
  refine .bindT ?_ fun _ => .ret trivial
  refine Tot.walk (body := fun k => operand15.l0 k l) l (fun (n : Int) i => (n, i)) (fun _ => True) _ (fun i x b hx _ => ?_) (fun b _ => ?_) (b := 0) trivial
  · have hi := get_lt hx
    simp only [operand15.l0]
    refine .cnd (fun _ => .val (rd_some' hx) (.bindT (.cnd (fun _ => .ret trivial) (fun _ => .ret trivial)) fun n => .ret ⟨n, ?_, trivial⟩)) (fun h => absurd (of_decide_eq_false h) (by omega))
    rw [w64_id (by omega) (by omega)]
  · simp only [operand15.l0]
    exact .cnd (fun h => absurd (of_decide_eq_true h) (by omega)) (fun _ => .ret trivial)
theorem there_t {s : List Ins} (h : s.length * 56 ≤ 140737488351232) (f : Ins) : Tot (fun k => ContainsFunc12 k s (f, ())) (fun _ => True) := by
  unfold ContainsFunc12 IndexFunc30''
  refine .bindT (.joinT ?_ (fun _ => .ret trivial)) fun _ => .ret trivial
  refine Tot.walk (body := fun k => IndexFunc30''.l0 k s) s (fun (_ : Unit) i => ((f, ()), i)) (fun _ => True) _ (fun i x b hx _ => ?_) (fun b _ => ?_) (b := ()) trivial
  · have hi := get_lt hx
    simp only [IndexFunc30''.l0]
    refine .cnd (fun _ => .val (rd_some' hx) (.bindT (by unfold Check113; exact .ret trivial) fun v => .cnd (fun _ => .ret trivial) (fun _ => .ret ⟨(), ?_, trivial⟩))) (fun h => absurd (of_decide_eq_false h) (by omega))
    rw [w64_id (by omega) (by omega)]
  · simp only [IndexFunc30''.l0]
    exact .cnd (fun h => absurd (of_decide_eq_true h) (by omega)) (fun _ => .ret trivial)
theorem size_in {m : Int} (h : 0 ≤ m ∧ m ≤ 8) : ∃ n : Nat, n ≤ 2 ∧ Ev (fun k => Size11 k m) ((n : Int), ()) ∧ rd ([0, 1, 1, 1, 2, 2, 2, 1, 1] : List Int) m = some (n : Int) := by
  have : m = 0 ∨ m = 1 ∨ m = 2 ∨ m = 3 ∨ m = 4 ∨ m = 5 ∨ m = 6 ∨ m = 7 ∨ m = 8 := by omega
  rcases this with rfl | rfl | rfl | rfl | rfl | rfl | rfl | rfl | rfl
  · exact ⟨0, by decide, .const rfl, rfl⟩
  · exact ⟨1, by decide, .const rfl, rfl⟩
  · exact ⟨1, by decide, .const rfl, rfl⟩
  · exact ⟨1, by decide, .const rfl, rfl⟩
  · exact ⟨2, by decide, .const rfl, rfl⟩
  · exact ⟨2, by decide, .const rfl, rfl⟩
  · exact ⟨2, by decide, .const rfl, rfl⟩
  · exact ⟨1, by decide, .const rfl, rfl⟩
  · exact ⟨1, by decide, .const rfl, rfl⟩
theorem size_out {m : Int} (h : ¬ (0 ≤ m ∧ m ≤ 8)) : Ev (fun k => Size11 k m) (-1, ()) := by
  have f : ∀ c : Int, 0 ≤ c ∧ c ≤ 8 → (m == c) = false := fun c hc => by simpa using (by omega : ¬ m = c)
  have h0 := f 0 (by decide)
  have h1 := f 1 (by decide)
  have h2 := f 2 (by decide)
  have h3 := f 3 (by decide)
  have h4 := f 4 (by decide)
  have h5 := f 5 (by decide)
  have h6 := f 6 (by decide)
  have h7 := f 7 (by decide)
  have h8 := f 8 (by decide)
  unfold Size11
  simp only [h0, h1, h2, h3, h4, h5, h6, h7, h8]
  exact .const rfl
theorem size_tt (m : Int) : Tot (fun k => Size11 k m) (fun v => 0 ≤ v.1 → 0 ≤ m ∧ m ≤ 8) := by
  by_cases h : 0 ≤ m ∧ m ≤ 8
  · obtain ⟨n, _, e, _⟩ := size_in h
    exact .of e fun _ => h
  · exact .of (size_out h) fun h => absurd h (by decide)
-- what a right step may be
def wd (i : Int) : Bool := cond (i == 7) true (i == 8)
def inR (i : Int) : Bool := cond (decide (i ≥ 0)) (decide (i < 9)) false
theorem inR_iff {i : Int} (h : inR i = true) : 0 ≤ i ∧ i < 9 := by
  unfold inR at h
  by_cases h0 : i ≥ 0
  · rw [decide_eq_true h0] at h
    exact ⟨h0, of_decide_eq_true h⟩
  · rw [decide_eq_false h0] at h; cases h
theorem wide_ev (i : Int) : Ev (fun k => Wide54 k i) (wd i, ()) := .now _
theorem reg_ev (i : Int) : Ev (fun k => register53 k i) (inR i, ()) := .now _
theorem Ev.two {α : Type} {c : Bool} {f g : Nat → Option α} {x y : α} (h1 : Ev f x) (h2 : Ev g y) : Ev (fun k => cond c (f k) (g k)) (cond c x y) := by
  cases c with
  | true => exact h1
  | false => exact h2
def fitsV (i need : Int) : Bool := cond (need == 0) (i == 0) (cond (need == 119) (cond (inR i) (wd i) false) (cond (need == 98) (cond (inR i) (!wd i) false) (inR i)))
theorem fits_ev (i need : Int) : Ev (fun k => fits67 k i need) (fitsV i need, ()) := by
  unfold fits67 fitsV
  cases need == 0 with
  | true => exact .now _
  | false =>
    cases need == 119 with
    | true =>
      refine .bind (a := cond (inR i) (wd i) false) ?_ (.now _)
      refine Ev.two ?_ (.now _)
      exact .bind (wide_ev i) (.now _)
    | false =>
      cases need == 98 with
      | true =>
        refine .bind (a := cond (inR i) (!wd i) false) ?_ (.now _)
        refine Ev.two ?_ (.now _)
        exact .bind (wide_ev i) (.now _)
      | false =>
        exact .now _
abbrev UsV := Int × Int × Bool × Unit
def mostV (d to : Int) (n : Bool) : Int := cond (!n) 0 (cond (cond (cond (d == 2) (inR to) false) (wd to) false) 65535 255)
structure Core (d to fr n : Int) (U : UsV) : Prop where
  hto : fitsV to U.1 = true
  hfr : fitsV fr U.2.1 = true
  same : U.1 = 115 → wd to = wd fr
  low : 0 ≤ n
  most : n ≤ mostV d to U.2.2.1
theorem core_t (d to fr n : Int) (U : UsV) (hu : Ev (fun k => uses66 k d) (U, ())) (h24 : d ≠ 24) : Tot (fun k => step55 k (d, to, fr, n)) (fun v => v.1 = 0 → Core d to fr n U) := by
  unfold step55
  refine .cnd (fun _ => .ret (by intro h; cases h)) fun _ => .cnd (fun h => absurd (by simpa using h) h24) fun _ => .bind (P := fun v => v = (U, ())) (.of hu rfl) fun u hu' => ?_
  subst hu'
  refine .bind (P := fun v => v = cond (d == 2) (inR to) false) (.of (Ev.two (.bind (reg_ev to) (.now _)) (.now _)) rfl) fun v hv => ?_
  subst hv
  refine .bind (P := fun v => v = cond (cond (d == 2) (inR to) false) (wd to) false) (.of (Ev.two (.bind (wide_ev to) (.now _)) (.now _)) rfl) fun v hv => ?_
  subst hv
  refine .bind (P := fun v => v = ((d, to, fr, n), cond (cond (cond (d == 2) (inR to) false) (wd to) false) 65535 255)) (.of ?_ rfl) fun v hv => ?_
  · cases cond (cond (d == 2) (inR to) false) (wd to) false with
    | true => exact .now _
    | false => exact .now _
  subst hv
  refine .bind (P := fun v => v = ((d, to, fr, n), mostV d to U.2.2.1)) (.of ?_ rfl) fun v hv => ?_
  · unfold mostV
    cases U.2.2.1 with
    | true => exact .now _
    | false => exact .now _
  subst hv
  refine .bind (P := fun v => v = (fitsV to U.1, ())) (.of (fits_ev to U.1) rfl) fun v hv => ?_
  subst hv
  refine .bind (P := fun v => v = cond (!fitsV to U.1) true (!fitsV fr U.2.1)) (.of (Ev.two (.now _) (.bind (fits_ev fr U.2.1) (.now _))) rfl) fun v hv => ?_
  subst hv
  refine .bind (P := fun v => v = cond (cond (!fitsV to U.1) true (!fitsV fr U.2.1)) true (cond (U.1 == 115) (xor true (wd to == wd fr)) false)) (.of (Ev.two (.now _) (.bind (Ev.two (.bind (wide_ev to) (.bind (wide_ev fr) (.now _))) (.now _)) (.now _))) rfl) fun v hv => ?_
  subst hv
  refine .cnd (fun _ => .ret (by intro h; cases h)) fun hc => .ret fun _ => ?_
  have orF : ∀ {a b : Bool}, cond a true b = false → a = false ∧ b = false := fun {a b} h => by cases a <;> cases b <;> first | exact ⟨rfl, rfl⟩ | cases h
  obtain ⟨hc, h1⟩ := orF hc
  obtain ⟨hc, h2⟩ := orF hc
  obtain ⟨hc, h3⟩ := orF hc
  obtain ⟨h4, h5⟩ := orF hc
  refine ⟨by simpa using h4, by simpa using h5, fun h => ?_, by have h : ¬ n < 0 := of_decide_eq_false h2; omega, by have h : ¬ n > mostV d to U.2.2.1 := of_decide_eq_false h1; omega⟩
  rw [h] at h3
  cases hx : wd to <;> cases hy : wd fr <;> rw [hx, hy] at h3 <;> first | rfl | cases h3
/-- a right step -/
structure OkS (s : Stp4) : Prop where
  d : 0 ≤ s.1 ∧ s.1 < 25
  to : s.1 ≠ 24 → 0 ≤ s.2.1 ∧ s.2.1 < 9
  fr : s.1 ≠ 24 → 0 ≤ s.2.2.1 ∧ s.2.2.1 < 9
  move : s.1 = 1 → wd s.2.1 = wd s.2.2.1
  lit : s.1 = 2 → 0 ≤ s.2.2.2 ∧ s.2.2.2 ≤ cond (wd s.2.1) 65535 255
  wb : s.1 = 18 ∨ s.1 = 19 ∨ s.1 = 22 ∨ s.1 = 23 → wd s.2.1 = true ∧ wd s.2.2.1 = false
  bw : s.1 = 20 ∨ s.1 = 21 → wd s.2.1 = false ∧ wd s.2.2.1 = true
theorem fitsV_in {i need : Int} (h : fitsV i need = true) : 0 ≤ i ∧ i < 9 := by
  unfold fitsV at h
  cases h0 : need == 0 with
  | true =>
    rw [h0] at h
    have : i = 0 := by simpa using h
    omega
  | false =>
    rw [h0] at h
    refine inR_iff ?_
    cases h1 : need == 119 <;> cases h2 : need == 98 <;> cases hr : inR i <;> rw [h1, h2, hr] at h <;> first | rfl | (simp at h; done)
theorem step_ok (s : Stp4) : Tot (fun k => step55 k s) (fun v => v.1 = 0 → OkS s) := by
  obtain ⟨d, to, fr, n⟩ := s
  by_cases hd : ¬ (0 ≤ d ∧ d < 25)
  · unfold step55
    refine .cnd (fun _ => .ret (by intro h; cases h)) fun h => ?_
    exfalso
    refine hd ?_
    by_cases h0 : d < 0
    · have : cond (decide (d < 0)) true (decide (d ≥ 25)) = true := by rw [decide_eq_true h0]; rfl
      rw [show ((d, to, fr, n) : Stp4).1 = d from rfl, this] at h; cases h
    · rw [show ((d, to, fr, n) : Stp4).1 = d from rfl, decide_eq_false h0] at h
      have h : ¬ d ≥ 25 := of_decide_eq_false h
      omega
  have hd : 0 ≤ d ∧ d < 25 := by omega
  by_cases h24 : d = 24
  · subst h24
    unfold step55
    refine .cnd (fun _ => .ret (by intro h; cases h)) fun _ => .cnd (fun _ => .cnd (fun _ => .ret (by intro h; cases h)) fun _ => .ret fun _ => ?_) (fun h => by cases h)
    exact ⟨hd, fun h => absurd rfl h, fun h => absurd rfl h, fun h => absurd h (by show ¬ (24 : Int) = 1; decide), fun h => absurd h (by show ¬ (24 : Int) = 2; decide), fun h => absurd h (by show ¬ ((24 : Int) = 18 ∨ (24 : Int) = 19 ∨ (24 : Int) = 22 ∨ (24 : Int) = 23); decide), fun h => absurd h (by show ¬ ((24 : Int) = 20 ∨ (24 : Int) = 21); decide)⟩
  have go : ∀ (U : UsV), Ev (fun k => uses66 k d) (U, ()) → (d = 1 → U.1 = 115) → (d = 2 → U.2.2.1 = true) → (d = 18 ∨ d = 19 ∨ d = 22 ∨ d = 23 → U.1 = 119 ∧ U.2.1 = 98) → (d = 20 ∨ d = 21 → U.1 = 98 ∧ U.2.1 = 119) → Tot (fun k => step55 k (d, to, fr, n)) (fun v => v.1 = 0 → OkS (d, to, fr, n)) := fun U hu g1 g2 g3 g4 => by
    refine (core_t d to fr n U hu h24).mono fun v hv h0 => ?_
    have c := hv h0
    have wF : ∀ {i : Int}, fitsV i 119 = true → wd i = true := fun {i} h => by
      have h : cond (inR i) (wd i) false = true := h
      cases hr : inR i <;> rw [hr] at h
      · cases h
      · exact h
    have bF : ∀ {i : Int}, fitsV i 98 = true → wd i = false := fun {i} h => by
      have h : cond (inR i) (!wd i) false = true := h
      cases hr : inR i <;> rw [hr] at h
      · cases h
      · simpa using h
    refine ⟨hd, fun _ => fitsV_in c.hto, fun _ => fitsV_in c.hfr, fun h => c.same (g1 h), fun h => ⟨c.low, ?_⟩, fun h => ?_, fun h => ?_⟩
    · have h : d = 2 := h
      have hm := c.most
      rw [g2 h, h] at hm
      have hm : n ≤ cond (cond (inR to) (wd to) false) 65535 255 := hm
      show n ≤ cond (wd to) 65535 255
      cases hr : inR to <;> cases hw : wd to <;> rw [hr, hw] at hm <;> simp at hm ⊢ <;> omega
    · obtain ⟨e1, e2⟩ := g3 h
      have h1 := c.hto
      have h2 := c.hfr
      rw [e1] at h1
      rw [e2] at h2
      exact ⟨wF h1, bF h2⟩
    · obtain ⟨e1, e2⟩ := g4 h
      have h1 := c.hto
      have h2 := c.hfr
      rw [e1] at h1
      rw [e2] at h2
      exact ⟨bF h1, wF h2⟩
  have hh : d = 0 ∨ d = 1 ∨ d = 2 ∨ d = 3 ∨ d = 4 ∨ d = 5 ∨ d = 6 ∨ d = 7 ∨ d = 8 ∨ d = 9 ∨ d = 10 ∨ d = 11 ∨ d = 12 ∨ d = 13 ∨ d = 14 ∨ d = 15 ∨ d = 16 ∨ d = 17 ∨ d = 18 ∨ d = 19 ∨ d = 20 ∨ d = 21 ∨ d = 22 ∨ d = 23 := by omega
  rcases hh with rfl | rfl | rfl | rfl | rfl | rfl | rfl | rfl | rfl | rfl | rfl | rfl | rfl | rfl | rfl | rfl | rfl | rfl | rfl | rfl | rfl | rfl | rfl | rfl
  · exact go (0, 0, false, ()) (.const rfl) (by decide) (by decide) (by decide) (by decide)
  · exact go (115, 115, false, ()) (.const rfl) (by decide) (by decide) (by decide) (by decide)
  · exact go (97, 0, true, ()) (.const rfl) (by decide) (by decide) (by decide) (by decide)
  · exact go (98, 0, false, ()) (.const rfl) (by decide) (by decide) (by decide) (by decide)
  · exact go (98, 98, false, ()) (.const rfl) (by decide) (by decide) (by decide) (by decide)
  · exact go (98, 98, false, ()) (.const rfl) (by decide) (by decide) (by decide) (by decide)
  · exact go (98, 98, false, ()) (.const rfl) (by decide) (by decide) (by decide) (by decide)
  · exact go (98, 98, false, ()) (.const rfl) (by decide) (by decide) (by decide) (by decide)
  · exact go (98, 98, false, ()) (.const rfl) (by decide) (by decide) (by decide) (by decide)
  · exact go (98, 98, false, ()) (.const rfl) (by decide) (by decide) (by decide) (by decide)
  · exact go (97, 0, false, ()) (.const rfl) (by decide) (by decide) (by decide) (by decide)
  · exact go (97, 0, false, ()) (.const rfl) (by decide) (by decide) (by decide) (by decide)
  · exact go (98, 0, false, ()) (.const rfl) (by decide) (by decide) (by decide) (by decide)
  · exact go (98, 0, false, ()) (.const rfl) (by decide) (by decide) (by decide) (by decide)
  · exact go (98, 0, false, ()) (.const rfl) (by decide) (by decide) (by decide) (by decide)
  · exact go (98, 0, false, ()) (.const rfl) (by decide) (by decide) (by decide) (by decide)
  · exact go (0, 0, true, ()) (.const rfl) (by decide) (by decide) (by decide) (by decide)
  · exact go (0, 0, true, ()) (.const rfl) (by decide) (by decide) (by decide) (by decide)
  · exact go (119, 98, false, ()) (.const rfl) (by decide) (by decide) (by decide) (by decide)
  · exact go (119, 98, false, ()) (.const rfl) (by decide) (by decide) (by decide) (by decide)
  · exact go (98, 119, false, ()) (.const rfl) (by decide) (by decide) (by decide) (by decide)
  · exact go (98, 119, false, ()) (.const rfl) (by decide) (by decide) (by decide) (by decide)
  · exact go (119, 98, false, ()) (.const rfl) (by decide) (by decide) (by decide) (by decide)
  · exact go (119, 98, false, ()) (.const rfl) (by decide) (by decide) (by decide) (by decide)
end Go.Proofs.YtcppmlgnceldmaaDoor.Do

/- What right processors are. No program in sight. -/
set_option linter.unusedVariables false
set_option maxRecDepth 100000
noncomputable section
namespace Go.Proofs.YtcppmlgnceldmaaDoor.Do
open Go Go.Proofs.YtcppmlgnceldmaaDoor.Gp

structure OkC (c : Cyc) : Prop where
  bus : 0 ≤ c.1 ∧ c.1 ≤ 2
  at' : 0 ≤ c.2.1 ∧ c.2.1 < 12
  reg : 0 ≤ c.2.2.1 ∧ c.2.2.1 < 9
  low : wd c.2.2.1 = false
  len : c.2.2.2.length ≤ 6
  steps : ∀ s ∈ c.2.2.2, OkS s
structure OkL (l : List Cyc) : Prop where
  len : l.length ≤ 8
  ok : ∀ c ∈ l, OkC c
theorem cycle_ok (c : Cyc) (hw : c.2.2.2.length * 32 ≤ 140737488351232) : Tot (fun k => cycle31 k c) (fun v => v.1 = 0 → OkC c) := by
  have orF : ∀ {a b : Bool}, cond a true b = false → a = false ∧ b = false := fun {a b} h => by cases a <;> cases b <;> first | exact ⟨rfl, rfl⟩ | cases h
  unfold cycle31
  refine .cnd (fun _ => .ret (by intro h; cases h)) fun hb => .cnd (fun _ => .ret (by intro h; cases h)) fun _ => ?_
  obtain ⟨b1, b2⟩ := orF hb
  have b1 := of_decide_eq_false b1
  have b2 := of_decide_eq_false b2
  refine .bind (P := fun v => v = cond (cond (decide (c.2.1 < 0)) true (decide (c.2.1 ≥ 12))) true (!inR c.2.2.1)) (.of (Ev.two (.now _) (.bind (reg_ev c.2.2.1) (.now _))) rfl) fun v hv => ?_
  subst hv
  refine .bind (P := fun v => v = cond (cond (cond (decide (c.2.1 < 0)) true (decide (c.2.1 ≥ 12))) true (!inR c.2.2.1)) true (wd c.2.2.1)) (.of (Ev.two (.now _) (.bind (wide_ev c.2.2.1) (.now _))) rfl) fun v hv => ?_
  subst hv
  refine .cnd (fun _ => .ret (by intro h; cases h)) fun h1 => .cnd (fun _ => .ret (by intro h; cases h)) fun h2 => ?_
  obtain ⟨h1, h3⟩ := orF h1
  obtain ⟨h1, h4⟩ := orF h1
  obtain ⟨h5, h6⟩ := orF h1
  have h5 := of_decide_eq_false h5
  have h6 := of_decide_eq_false h6
  have h2 := of_decide_eq_false h2
  have hr := inR_iff (i := c.2.2.1) (by simpa using h4)
  refine .join (P := fun y => match y with | .inl _ => ∀ s ∈ c.2.2.2, OkS s | .inr v => v.1 ≠ 0) ?_ (fun _ hs => .ret fun _ => ⟨by omega, by omega, hr, h3, by omega, hs⟩) (fun _ h h0 => absurd h0 h)
  refine Tot.walkI (body := fun k => cycle31.l0 k c) c.2.2.2 (fun (_ : Unit) i => i) (fun i _ => ∀ (j : Nat) s, j < i → c.2.2.2[j]? = some s → OkS s) _ (fun i x b hx hI => ?_) (fun b hI => ?_) (b := ()) (fun j x hj => absurd hj (Nat.not_lt_zero _))
  · have hi := get_lt hx
    simp only [cycle31.l0]
    refine .cnd (fun _ => .val (rd_some' hx) (.bind (step_ok x) fun v hv => .cnd (fun h => .ret (by simpa using h)) (fun h => .ret ⟨(), ?_, fun j s hj hs => ?_⟩))) (fun h => absurd (of_decide_eq_false h) (by omega))
    · rw [w64_id (by omega) (by omega)]
    · by_cases hji : j = i
      · subst hji
        rw [hx] at hs
        cases hs
        exact hv (by simpa using h)
      · exact hI j s (by omega) hs
  · simp only [cycle31.l0]
    refine .cnd (fun h => absurd (of_decide_eq_true h) (by omega)) (fun _ => .ret fun s hs => ?_)
    obtain ⟨j, hj⟩ := List.mem_iff_getElem?.1 hs
    exact hI j s (get_lt hj) hj
theorem cycs_ok {l : List Cyc} (h : Wcyc l) : Tot (fun k => cycles14 k l) (fun v => v.1 = 0 → OkL l) := by
  have hl := h.1
  unfold cycles14
  refine .cnd (fun _ => .ret (by intro h; cases h)) fun h8 => .join (P := fun y => match y with | .inl _ => ∀ s ∈ l, OkC s | .inr v => v.1 ≠ 0) ?_ (fun _ hs => .ret fun _ => ⟨by have := of_decide_eq_false h8; omega, hs⟩) (fun _ h h0 => absurd h0 h)
  refine Tot.walkI (body := fun k => cycles14.l0 k l) l (fun (_ : Unit) i => i) (fun i _ => ∀ (j : Nat) s, j < i → l[j]? = some s → OkC s) _ (fun i x b hx hI => ?_) (fun b hI => ?_) (b := ()) (fun j x hj => absurd hj (Nat.not_lt_zero _))
  · have hi := get_lt hx
    simp only [cycles14.l0]
    refine .cnd (fun _ => .val (rd_some' hx) (.bind (cycle_ok x (h.2 x (get_mem hx))) fun v hv => .cnd (fun h => .ret (by simpa using h)) (fun h => .ret ⟨(), ?_, fun j s hj hs => ?_⟩))) (fun h => absurd (of_decide_eq_false h) (by omega))
    · rw [w64_id (by omega) (by omega)]
    · by_cases hji : j = i
      · subst hji
        rw [hx] at hs
        cases hs
        exact hv (by simpa using h)
      · exact hI j s (by omega) hs
  · simp only [cycles14.l0]
    refine .cnd (fun h => absurd (of_decide_eq_true h) (by omega)) (fun _ => .ret fun s hs => ?_)
    obtain ⟨j, hj⟩ := List.mem_iff_getElem?.1 hs
    exact hI j s (get_lt hj) hj
/-- a right instruction -/
structure OkI (x : Ins) : Prop where
  op : 0 ≤ x.1 ∧ x.1 ≤ 255
  mode : 0 ≤ x.2.2.1 ∧ x.2.2.1 ≤ 8
  cyc : OkL x.2.2.2
theorem check_ok {c : Cpu} (hc : Wc c) (hn : Wn c) : Tot (fun k => Check5 k c) (fun v => v.1 = 0 → ∀ x ∈ c.2.1, OkI x) := by
  have hl := hc.len
  have orF : ∀ {a b : Bool}, cond a true b = false → a = false ∧ b = false := fun {a b} h => by cases a <;> cases b <;> first | exact ⟨rfl, rfl⟩ | cases h
  unfold Check5
  refine .bindT (name_t _ hn.1) fun _ => .cnd (fun _ => .ret (fun h => by cases h)) fun _ => .cnd (fun _ => .ret (fun h => by cases h)) fun _ => .join (P := fun y => match y with | .inl y => y = c ∧ ∀ x ∈ c.2.1, OkI x | .inr v => v.1 ≠ 0) ?_ (fun c2 h2 => ?_) (fun _ h h0 => absurd h0 h)
  · refine Tot.walkI (body := fun k => Check5.l0 k c) c.2.1 (fun (_ : Unit) i => (c, i)) (fun i _ => ∀ (j : Nat) x, j < i → c.2.1[j]? = some x → OkI x) _ (fun i x b hx hI => ?_) (fun b hI => ?_) (b := ()) (fun j x hj => absurd hj (Nat.not_lt_zero _))
    · have hi := get_lt hx
      have hm := get_mem hx
      simp only [Check5.l0]
      refine .cnd (fun _ => .val (rd_some' hx) (.cnd (fun _ => .ret (show (1 : Int) ≠ 0 by decide)) fun hop => .bindT (.cnd (fun h => ?_) (fun _ => .ret trivial)) fun _ => .cnd (fun _ => .ret (show (9 : Int) ≠ 0 by decide)) fun _ => .bindT (name_t _ (hn.2 x hm)) fun _ => .cnd (fun _ => .ret (show (15 : Int) ≠ 0 by decide)) fun _ => .bind (size_tt _) fun sz hsz => .cnd (fun _ => .ret (show (8 : Int) ≠ 0 by decide)) fun hneg =>
        .val (a := (c.2.1.take i).drop 0) (slc_ok (a := 0) (Nat.zero_le _) (by omega)) (.bindT (there_t (by rw [List.drop_zero, List.length_take]; omega) x) fun _ => .cnd (fun _ => .ret (show (5 : Int) ≠ 0 by decide)) fun _ => .bind (cycs_ok (hc.ins x hm)) fun cy hcy0 => .cnd (fun hcy => .ret (by simpa using hcy)) fun hcy => .bindT (operand_t (hc.ins x hm)) fun _ => .bindT (size_t _) fun _ => .cnd (fun _ => .ret (show (3 : Int) ≠ 0 by decide)) fun _ => .ret ⟨(), ?_, fun j y hj hy => ?_⟩))) (fun h => absurd (of_decide_eq_false h) (by omega))
      · have h := of_decide_eq_true h
        rw [w64_id (by omega) (by omega)]
        exact .read ⟨by omega, by omega⟩ fun a _ => .ret trivial
      · rw [w64_id (by omega) (by omega)]
      · by_cases hji : j = i
        · subst hji
          rw [hx] at hy
          cases hy
          have hg : ¬ sz.1 < 0 := of_decide_eq_false hneg
          obtain ⟨o1, o2⟩ := orF hop
          have o1 := of_decide_eq_false o1
          have o2 := of_decide_eq_false o2
          exact ⟨⟨by omega, by omega⟩, hsz (by omega), hcy0 (by simpa using hcy)⟩
        · exact hI j y (by omega) hy
    · simp only [Check5.l0]
      refine .cnd (fun h => absurd (of_decide_eq_true h) (by omega)) (fun _ => .ret ⟨rfl, fun x hx => ?_⟩)
      obtain ⟨j, hj⟩ := List.mem_iff_getElem?.1 hx
      exact hI j x (get_lt hj) hj
  · obtain ⟨h2, hmode⟩ := h2
    subst h2
    refine .join (P := fun y => match y with | .inl _ => True | .inr v => v.1 ≠ 0) ?_ (fun _ _ => .ret fun _ => hmode) (fun _ h h0 => absurd h0 h)
    refine Tot.walk (body := fun k => Check5.l1 k c2) [c2.2.2.1, c2.2.2.2.1, c2.2.2.2.2] (fun (_ : Unit) i => ((), i, [c2.2.2.1, c2.2.2.2.1, c2.2.2.2.2])) (fun _ => True) _ (fun i x b hx _ => ?_) (fun b _ => ?_) (b := ()) trivial
    · have hi : i < 3 := get_lt hx
      have hw : Wcyc x := by
        have hm := get_mem hx
        simp only [List.mem_cons, List.not_mem_nil, or_false] at hm
        rcases hm with rfl | rfl | rfl
        · exact hc.res
        · exact hc.irq
        · exact hc.nmi
      simp only [Check5.l1]
      refine .cnd (fun _ => .val (rd_some' hx) (.val (rd_some' hx) (.bindT (cycs_ok hw).any fun v => .cnd (fun hv => .ret (by simpa using hv)) (fun _ => .ret ⟨(), ?_, trivial⟩)))) (fun h => absurd (of_decide_eq_false h) (by show ¬ ¬ (i : Int) < ((3 : Nat) : Int); omega))
      rw [w64_id (by omega) (by omega)]
    · simp only [Check5.l1]
      exact .cnd (fun h => absurd (of_decide_eq_true h) (by show ¬ ((3 : Nat) : Int) < ((3 : Nat) : Int); omega)) (fun _ => .ret trivial)
end Go.Proofs.YtcppmlgnceldmaaDoor.Do

/- More fuel, no other answer: the functions. Printed by mono.py. -/
set_option linter.unusedVariables false
set_option maxRecDepth 100000
noncomputable section
namespace Go.Proofs.YtcppmlgnceldmaaDoor.Do
open Go Go.Proofs.YtcppmlgnceldmaaDoor.Gp
theorem two49.mono : ∀ a0_ a1_ a2_, Mono (fun k => two49 k a0_ a1_ a2_) := by
  intro a0_ a1_ a2_
  unfold two49
  repeat' (first | exact Mono.const _ | with_reducible refine Mono.cond ?_ ?_ | with_reducible refine Mono.orNil ?_ ?_ | with_reducible refine Mono.agree ?_ ?_ | with_reducible refine Mono.joined ?_ ?_ | with_reducible refine Mono.bind ?_ ?_ | with_reducible refine Mono.loop ?_ | with_reducible refine Mono.prod ?_ | intro _ | (dsimp only))

theorem one50.mono : ∀ a0_ a1_, Mono (fun k => one50 k a0_ a1_) := by
  intro a0_ a1_
  unfold one50
  repeat' (first | exact Mono.const _ | with_reducible refine Mono.cond ?_ ?_ | with_reducible refine Mono.orNil ?_ ?_ | with_reducible refine Mono.agree ?_ ?_ | with_reducible refine Mono.joined ?_ ?_ | with_reducible refine Mono.bind ?_ ?_ | with_reducible refine Mono.loop ?_ | with_reducible refine Mono.prod ?_ | intro _ | (dsimp only))

theorem zero80.mono : Mono (fun k => zero80 k) := by
  unfold zero80
  repeat' (first | exact Mono.const _ | with_reducible refine Mono.cond ?_ ?_ | with_reducible refine Mono.orNil ?_ ?_ | with_reducible refine Mono.agree ?_ ?_ | with_reducible refine Mono.joined ?_ ?_ | with_reducible refine Mono.bind ?_ ?_ | with_reducible refine Mono.loop ?_ | with_reducible refine Mono.prod ?_ | intro _ | (dsimp only))

theorem rd26.mono : ∀ a0_ a1_ a2_ a3_, Mono (fun k => rd26 k a0_ a1_ a2_ a3_) := by
  intro a0_ a1_ a2_ a3_
  unfold rd26
  repeat' (first | exact Mono.const _ | with_reducible refine Mono.cond ?_ ?_ | with_reducible refine Mono.orNil ?_ ?_ | with_reducible refine Mono.agree ?_ ?_ | with_reducible refine Mono.joined ?_ ?_ | with_reducible refine Mono.bind ?_ ?_ | with_reducible refine Mono.loop ?_ | with_reducible refine Mono.prod ?_ | intro _ | (dsimp only))

theorem no48.mono : ∀ a0_, Mono (fun k => no48 k a0_) := by
  intro a0_
  unfold no48
  repeat' (first | exact Mono.const _ | with_reducible refine Mono.cond ?_ ?_ | with_reducible refine Mono.orNil ?_ ?_ | with_reducible refine Mono.agree ?_ ?_ | with_reducible refine Mono.joined ?_ ?_ | with_reducible refine Mono.bind ?_ ?_ | with_reducible refine Mono.loop ?_ | with_reducible refine Mono.prod ?_ | intro _ | (dsimp only))

theorem rd26'.mono : ∀ a0_ a1_ a2_, Mono (fun k => rd26' k a0_ a1_ a2_) := by
  intro a0_ a1_ a2_
  unfold rd26'
  repeat' (first | exact Mono.const _ | with_reducible refine Mono.cond ?_ ?_ | with_reducible refine Mono.orNil ?_ ?_ | with_reducible refine Mono.agree ?_ ?_ | with_reducible refine Mono.joined ?_ ?_ | with_reducible refine Mono.bind ?_ ?_ | with_reducible refine Mono.loop ?_ | with_reducible refine Mono.prod ?_ | intro _ | (dsimp only))

theorem jump27.mono : ∀ a0_, Mono (fun k => jump27 k a0_) := by
  intro a0_
  unfold jump27
  repeat' (first | exact Mono.const _ | with_reducible exact two49.mono _ _ _ | with_reducible refine Mono.cond ?_ ?_ | with_reducible refine Mono.orNil ?_ ?_ | with_reducible refine Mono.agree ?_ ?_ | with_reducible refine Mono.joined ?_ ?_ | with_reducible refine Mono.bind ?_ ?_ | with_reducible refine Mono.loop ?_ | with_reducible refine Mono.prod ?_ | intro _ | (dsimp only))

theorem lead65.mono : ∀ a0_, Mono (fun k => lead65 k a0_) := by
  intro a0_
  unfold lead65
  repeat' (first | exact Mono.const _ | with_reducible exact two49.mono _ _ _ | with_reducible exact zero80.mono | with_reducible exact rd26.mono _ _ _ _ | with_reducible exact no48.mono _ | with_reducible exact rd26'.mono _ _ _ | with_reducible exact jump27.mono _ | with_reducible refine Mono.cond ?_ ?_ | with_reducible refine Mono.orNil ?_ ?_ | with_reducible refine Mono.agree ?_ ?_ | with_reducible refine Mono.joined ?_ ?_ | with_reducible refine Mono.bind ?_ ?_ | with_reducible refine Mono.loop ?_ | with_reducible refine Mono.prod ?_ | intro _ | (dsimp only))

theorem rd26''.mono : ∀ a0_ a1_ a2_, Mono (fun k => rd26'' k a0_ a1_ a2_) := by
  intro a0_ a1_ a2_
  unfold rd26''
  repeat' (first | exact Mono.const _ | with_reducible refine Mono.cond ?_ ?_ | with_reducible refine Mono.orNil ?_ ?_ | with_reducible refine Mono.agree ?_ ?_ | with_reducible refine Mono.joined ?_ ?_ | with_reducible refine Mono.bind ?_ ?_ | with_reducible refine Mono.loop ?_ | with_reducible refine Mono.prod ?_ | intro _ | (dsimp only))

theorem reads64.mono : ∀ a0_ a1_, Mono (fun k => reads64 k a0_ a1_) := by
  intro a0_ a1_
  unfold reads64
  repeat' (first | exact Mono.const _ | with_reducible exact lead65.mono _ | with_reducible exact rd26''.mono _ _ _ | with_reducible refine Mono.cond ?_ ?_ | with_reducible refine Mono.orNil ?_ ?_ | with_reducible refine Mono.agree ?_ ?_ | with_reducible refine Mono.joined ?_ ?_ | with_reducible refine Mono.bind ?_ ?_ | with_reducible refine Mono.loop ?_ | with_reducible refine Mono.prod ?_ | intro _ | (dsimp only))

theorem add47.mono : ∀ a0_ a1_ a2_ a3_ a4_ a5_, Mono (fun k => add47 k a0_ a1_ a2_ a3_ a4_ a5_) := by
  intro a0_ a1_ a2_ a3_ a4_ a5_
  unfold add47
  repeat' (first | exact Mono.const _ | with_reducible refine Mono.cond ?_ ?_ | with_reducible refine Mono.orNil ?_ ?_ | with_reducible refine Mono.agree ?_ ?_ | with_reducible refine Mono.joined ?_ ?_ | with_reducible refine Mono.bind ?_ ?_ | with_reducible refine Mono.loop ?_ | with_reducible refine Mono.prod ?_ | intro _ | (dsimp only))

theorem loads43.l0.mono : ∀ a0_ a1_ a2_, ∀ s, Mono (fun k => loads43.l0 k a0_ a1_ a2_ s) := by
  intro a0_ a1_ a2_
  unfold loads43.l0
  repeat' (first | exact Mono.const _ | with_reducible exact two49.mono _ _ _ | with_reducible exact one50.mono _ _ | with_reducible exact reads64.mono _ _ | with_reducible exact add47.mono _ _ _ _ _ _ | with_reducible refine Mono.cond ?_ ?_ | with_reducible refine Mono.orNil ?_ ?_ | with_reducible refine Mono.agree ?_ ?_ | with_reducible refine Mono.joined ?_ ?_ | with_reducible refine Mono.bind ?_ ?_ | with_reducible refine Mono.loop ?_ | with_reducible refine Mono.prod ?_ | intro _ | (dsimp only))

theorem loads43.mono : ∀ a0_ a1_ a2_ a3_ a4_ a5_, Mono (fun k => loads43 k a0_ a1_ a2_ a3_ a4_ a5_) := by
  intro a0_ a1_ a2_ a3_ a4_ a5_
  unfold loads43
  repeat' (first | exact Mono.const _ | with_reducible exact loads43.l0.mono _ _ _ | with_reducible refine Mono.cond ?_ ?_ | with_reducible refine Mono.orNil ?_ ?_ | with_reducible refine Mono.agree ?_ ?_ | with_reducible refine Mono.joined ?_ ?_ | with_reducible refine Mono.bind ?_ ?_ | with_reducible refine Mono.loop ?_ | with_reducible refine Mono.prod ?_ | intro _ | (dsimp only))

theorem wr51.mono : ∀ a0_ a1_ a2_, Mono (fun k => wr51 k a0_ a1_ a2_) := by
  intro a0_ a1_ a2_
  unfold wr51
  repeat' (first | exact Mono.const _ | with_reducible refine Mono.cond ?_ ?_ | with_reducible refine Mono.orNil ?_ ?_ | with_reducible refine Mono.agree ?_ ?_ | with_reducible refine Mono.joined ?_ ?_ | with_reducible refine Mono.bind ?_ ?_ | with_reducible refine Mono.loop ?_ | with_reducible refine Mono.prod ?_ | intro _ | (dsimp only))

theorem stores44.l0.mono : ∀ a0_ a1_ a2_, ∀ s, Mono (fun k => stores44.l0 k a0_ a1_ a2_ s) := by
  intro a0_ a1_ a2_
  unfold stores44.l0
  repeat' (first | exact Mono.const _ | with_reducible exact lead65.mono _ | with_reducible exact add47.mono _ _ _ _ _ _ | with_reducible exact wr51.mono _ _ _ | with_reducible refine Mono.cond ?_ ?_ | with_reducible refine Mono.orNil ?_ ?_ | with_reducible refine Mono.agree ?_ ?_ | with_reducible refine Mono.joined ?_ ?_ | with_reducible refine Mono.bind ?_ ?_ | with_reducible refine Mono.loop ?_ | with_reducible refine Mono.prod ?_ | intro _ | (dsimp only))

theorem stores44.mono : ∀ a0_ a1_ a2_ a3_ a4_ a5_, Mono (fun k => stores44 k a0_ a1_ a2_ a3_ a4_ a5_) := by
  intro a0_ a1_ a2_ a3_ a4_ a5_
  unfold stores44
  repeat' (first | exact Mono.const _ | with_reducible exact stores44.l0.mono _ _ _ | with_reducible refine Mono.cond ?_ ?_ | with_reducible refine Mono.orNil ?_ ?_ | with_reducible refine Mono.agree ?_ ?_ | with_reducible refine Mono.joined ?_ ?_ | with_reducible refine Mono.bind ?_ ?_ | with_reducible refine Mono.loop ?_ | with_reducible refine Mono.prod ?_ | intro _ | (dsimp only))

theorem joins45.l0.mono : ∀ a0_ a1_ a2_ a3_, ∀ s, Mono (fun k => joins45.l0 k a0_ a1_ a2_ a3_ s) := by
  intro a0_ a1_ a2_ a3_
  unfold joins45.l0
  repeat' (first | exact Mono.const _ | with_reducible exact two49.mono _ _ _ | with_reducible exact reads64.mono _ _ | with_reducible exact add47.mono _ _ _ _ _ _ | with_reducible refine Mono.cond ?_ ?_ | with_reducible refine Mono.orNil ?_ ?_ | with_reducible refine Mono.agree ?_ ?_ | with_reducible refine Mono.joined ?_ ?_ | with_reducible refine Mono.bind ?_ ?_ | with_reducible refine Mono.loop ?_ | with_reducible refine Mono.prod ?_ | intro _ | (dsimp only))

theorem joins45.mono : ∀ a0_ a1_ a2_ a3_ a4_ a5_ a6_, Mono (fun k => joins45 k a0_ a1_ a2_ a3_ a4_ a5_ a6_) := by
  intro a0_ a1_ a2_ a3_ a4_ a5_ a6_
  unfold joins45
  repeat' (first | exact Mono.const _ | with_reducible exact joins45.l0.mono _ _ _ _ | with_reducible refine Mono.cond ?_ ?_ | with_reducible refine Mono.orNil ?_ ?_ | with_reducible refine Mono.agree ?_ ?_ | with_reducible refine Mono.joined ?_ ?_ | with_reducible refine Mono.bind ?_ ?_ | with_reducible refine Mono.loop ?_ | with_reducible refine Mono.prod ?_ | intro _ | (dsimp only))

theorem turns46.l0.mono : ∀ a0_ a1_ a2_, ∀ s, Mono (fun k => turns46.l0 k a0_ a1_ a2_ s) := by
  intro a0_ a1_ a2_
  unfold turns46.l0
  repeat' (first | exact Mono.const _ | with_reducible exact one50.mono _ _ | with_reducible exact no48.mono _ | with_reducible exact lead65.mono _ | with_reducible exact rd26''.mono _ _ _ | with_reducible exact add47.mono _ _ _ _ _ _ | with_reducible exact wr51.mono _ _ _ | with_reducible refine Mono.cond ?_ ?_ | with_reducible refine Mono.orNil ?_ ?_ | with_reducible refine Mono.agree ?_ ?_ | with_reducible refine Mono.joined ?_ ?_ | with_reducible refine Mono.bind ?_ ?_ | with_reducible refine Mono.loop ?_ | with_reducible refine Mono.prod ?_ | intro _ | (dsimp only))

theorem turns46.mono : ∀ a0_ a1_ a2_ a3_ a4_ a5_, Mono (fun k => turns46 k a0_ a1_ a2_ a3_ a4_ a5_) := by
  intro a0_ a1_ a2_ a3_ a4_ a5_
  unfold turns46
  repeat' (first | exact Mono.const _ | with_reducible exact turns46.l0.mono _ _ _ | with_reducible refine Mono.cond ?_ ?_ | with_reducible refine Mono.orNil ?_ ?_ | with_reducible refine Mono.agree ?_ ?_ | with_reducible refine Mono.joined ?_ ?_ | with_reducible refine Mono.bind ?_ ?_ | with_reducible refine Mono.loop ?_ | with_reducible refine Mono.prod ?_ | intro _ | (dsimp only))

theorem memory23.l0.mono : ∀ s, Mono (fun k => memory23.l0 k s) := by
  unfold memory23.l0
  repeat' (first | exact Mono.const _ | with_reducible exact joins45.mono _ _ _ _ _ _ _ | with_reducible refine Mono.cond ?_ ?_ | with_reducible refine Mono.orNil ?_ ?_ | with_reducible refine Mono.agree ?_ ?_ | with_reducible refine Mono.joined ?_ ?_ | with_reducible refine Mono.bind ?_ ?_ | with_reducible refine Mono.loop ?_ | with_reducible refine Mono.prod ?_ | intro _ | (dsimp only))

theorem memory23.mono : ∀ a0_ a1_ a2_, Mono (fun k => memory23 k a0_ a1_ a2_) := by
  intro a0_ a1_ a2_
  unfold memory23
  repeat' (first | exact Mono.const _ | with_reducible exact loads43.mono _ _ _ _ _ _ | with_reducible exact stores44.mono _ _ _ _ _ _ | with_reducible exact joins45.mono _ _ _ _ _ _ _ | with_reducible exact turns46.mono _ _ _ _ _ _ | with_reducible exact memory23.l0.mono | with_reducible refine Mono.cond ?_ ?_ | with_reducible refine Mono.orNil ?_ ?_ | with_reducible refine Mono.agree ?_ ?_ | with_reducible refine Mono.joined ?_ ?_ | with_reducible refine Mono.bind ?_ ?_ | with_reducible refine Mono.loop ?_ | with_reducible refine Mono.prod ?_ | intro _ | (dsimp only))

theorem alone24.l0.mono : ∀ s, Mono (fun k => alone24.l0 k s) := by
  unfold alone24.l0
  repeat' (first | exact Mono.const _ | with_reducible exact two49.mono _ _ _ | with_reducible exact one50.mono _ _ | with_reducible exact no48.mono _ | with_reducible exact add47.mono _ _ _ _ _ _ | with_reducible refine Mono.cond ?_ ?_ | with_reducible refine Mono.orNil ?_ ?_ | with_reducible refine Mono.agree ?_ ?_ | with_reducible refine Mono.joined ?_ ?_ | with_reducible refine Mono.bind ?_ ?_ | with_reducible refine Mono.loop ?_ | with_reducible refine Mono.prod ?_ | intro _ | (dsimp only))

theorem alone24.mono : ∀ a0_ a1_ a2_, Mono (fun k => alone24 k a0_ a1_ a2_) := by
  intro a0_ a1_ a2_
  unfold alone24
  repeat' (first | exact Mono.const _ | with_reducible exact two49.mono _ _ _ | with_reducible exact one50.mono _ _ | with_reducible exact no48.mono _ | with_reducible exact rd26''.mono _ _ _ | with_reducible exact add47.mono _ _ _ _ _ _ | with_reducible exact wr51.mono _ _ _ | with_reducible exact alone24.l0.mono | with_reducible refine Mono.cond ?_ ?_ | with_reducible refine Mono.orNil ?_ ?_ | with_reducible refine Mono.agree ?_ ?_ | with_reducible refine Mono.joined ?_ ?_ | with_reducible refine Mono.bind ?_ ?_ | with_reducible refine Mono.loop ?_ | with_reducible refine Mono.prod ?_ | intro _ | (dsimp only))

theorem jump27'.mono : ∀ a0_, Mono (fun k => jump27' k a0_) := by
  intro a0_
  unfold jump27'
  repeat' (first | exact Mono.const _ | with_reducible exact two49.mono _ _ _ | with_reducible refine Mono.cond ?_ ?_ | with_reducible refine Mono.orNil ?_ ?_ | with_reducible refine Mono.agree ?_ ?_ | with_reducible refine Mono.joined ?_ ?_ | with_reducible refine Mono.bind ?_ ?_ | with_reducible refine Mono.loop ?_ | with_reducible refine Mono.prod ?_ | intro _ | (dsimp only))

theorem ways25.l0.mono : ∀ s, Mono (fun k => ways25.l0 k s) := by
  unfold ways25.l0
  repeat' (first | exact Mono.const _ | with_reducible exact two49.mono _ _ _ | with_reducible exact no48.mono _ | with_reducible exact rd26''.mono _ _ _ | with_reducible exact add47.mono _ _ _ _ _ _ | with_reducible refine Mono.cond ?_ ?_ | with_reducible refine Mono.orNil ?_ ?_ | with_reducible refine Mono.agree ?_ ?_ | with_reducible refine Mono.joined ?_ ?_ | with_reducible refine Mono.bind ?_ ?_ | with_reducible refine Mono.loop ?_ | with_reducible refine Mono.prod ?_ | intro _ | (dsimp only))

theorem ways25.mono : ∀ a0_ a1_ a2_, Mono (fun k => ways25 k a0_ a1_ a2_) := by
  intro a0_ a1_ a2_
  unfold ways25
  repeat' (first | exact Mono.const _ | with_reducible exact two49.mono _ _ _ | with_reducible exact rd26''.mono _ _ _ | with_reducible exact add47.mono _ _ _ _ _ _ | with_reducible exact wr51.mono _ _ _ | with_reducible exact jump27'.mono _ | with_reducible exact ways25.l0.mono | with_reducible refine Mono.cond ?_ ?_ | with_reducible refine Mono.orNil ?_ ?_ | with_reducible refine Mono.agree ?_ ?_ | with_reducible refine Mono.joined ?_ ?_ | with_reducible refine Mono.bind ?_ ?_ | with_reducible refine Mono.loop ?_ | with_reducible refine Mono.prod ?_ | intro _ | (dsimp only))

theorem answers28.mono : ∀ a0_ a1_, Mono (fun k => answers28 k a0_ a1_) := by
  intro a0_ a1_
  unfold answers28
  repeat' (first | exact Mono.const _ | with_reducible exact two49.mono _ _ _ | with_reducible exact no48.mono _ | with_reducible exact rd26''.mono _ _ _ | with_reducible exact wr51.mono _ _ _ | with_reducible exact jump27'.mono _ | with_reducible refine Mono.cond ?_ ?_ | with_reducible refine Mono.orNil ?_ ?_ | with_reducible refine Mono.agree ?_ ?_ | with_reducible refine Mono.joined ?_ ?_ | with_reducible refine Mono.bind ?_ ?_ | with_reducible refine Mono.loop ?_ | with_reducible refine Mono.prod ?_ | intro _ | (dsimp only))

theorem Cpu8.mono : Mono (fun k => Cpu8 k) := by
  unfold Cpu8
  repeat' (first | exact Mono.const _ | with_reducible exact jump27.mono _ | with_reducible exact rd26''.mono _ _ _ | with_reducible exact memory23.mono _ _ _ | with_reducible exact alone24.mono _ _ _ | with_reducible exact ways25.mono _ _ _ | with_reducible exact answers28.mono _ _ | with_reducible refine Mono.cond ?_ ?_ | with_reducible refine Mono.orNil ?_ ?_ | with_reducible refine Mono.agree ?_ ?_ | with_reducible refine Mono.joined ?_ ?_ | with_reducible refine Mono.bind ?_ ?_ | with_reducible refine Mono.loop ?_ | with_reducible refine Mono.prod ?_ | intro _ | (dsimp only))

theorem Find132.mono : ∀ a0_ a1_, Mono (fun k => Find132 k a0_ a1_) := by
  intro a0_ a1_
  unfold Find132
  repeat' (first | exact Mono.const _ | with_reducible refine Mono.cond ?_ ?_ | with_reducible refine Mono.orNil ?_ ?_ | with_reducible refine Mono.agree ?_ ?_ | with_reducible refine Mono.joined ?_ ?_ | with_reducible refine Mono.bind ?_ ?_ | with_reducible refine Mono.loop ?_ | with_reducible refine Mono.prod ?_ | intro _ | (dsimp only))

theorem IndexFunc30'.l0.mono : ∀ a0_, ∀ s, Mono (fun k => IndexFunc30'.l0 k a0_ s) := by
  intro a0_
  unfold IndexFunc30'.l0
  repeat' (first | exact Mono.const _ | with_reducible exact Find132.mono _ _ | with_reducible refine Mono.cond ?_ ?_ | with_reducible refine Mono.orNil ?_ ?_ | with_reducible refine Mono.agree ?_ ?_ | with_reducible refine Mono.joined ?_ ?_ | with_reducible refine Mono.bind ?_ ?_ | with_reducible refine Mono.loop ?_ | with_reducible refine Mono.prod ?_ | intro _ | (dsimp only))

theorem IndexFunc30'.mono : ∀ a0_ a1_, Mono (fun k => IndexFunc30' k a0_ a1_) := by
  intro a0_ a1_
  unfold IndexFunc30'
  repeat' (first | exact Mono.const _ | with_reducible exact IndexFunc30'.l0.mono _ | with_reducible refine Mono.cond ?_ ?_ | with_reducible refine Mono.orNil ?_ ?_ | with_reducible refine Mono.agree ?_ ?_ | with_reducible refine Mono.joined ?_ ?_ | with_reducible refine Mono.bind ?_ ?_ | with_reducible refine Mono.loop ?_ | with_reducible refine Mono.prod ?_ | intro _ | (dsimp only))

theorem Size11.mono : ∀ a0_, Mono (fun k => Size11 k a0_) := by
  intro a0_
  unfold Size11
  repeat' (first | exact Mono.const _ | with_reducible refine Mono.cond ?_ ?_ | with_reducible refine Mono.orNil ?_ ?_ | with_reducible refine Mono.agree ?_ ?_ | with_reducible refine Mono.joined ?_ ?_ | with_reducible refine Mono.bind ?_ ?_ | with_reducible refine Mono.loop ?_ | with_reducible refine Mono.prod ?_ | intro _ | (dsimp only))

theorem Name10.l0.mono : ∀ a0_, ∀ s, Mono (fun k => Name10.l0 k a0_ s) := by
  intro a0_
  unfold Name10.l0
  repeat' (first | exact Mono.const _ | with_reducible refine Mono.cond ?_ ?_ | with_reducible refine Mono.orNil ?_ ?_ | with_reducible refine Mono.agree ?_ ?_ | with_reducible refine Mono.joined ?_ ?_ | with_reducible refine Mono.bind ?_ ?_ | with_reducible refine Mono.loop ?_ | with_reducible refine Mono.prod ?_ | intro _ | (dsimp only))

theorem Name10.mono : ∀ a0_, Mono (fun k => Name10 k a0_) := by
  intro a0_
  unfold Name10
  repeat' (first | exact Mono.const _ | with_reducible exact Name10.l0.mono _ | with_reducible refine Mono.cond ?_ ?_ | with_reducible refine Mono.orNil ?_ ?_ | with_reducible refine Mono.agree ?_ ?_ | with_reducible refine Mono.joined ?_ ?_ | with_reducible refine Mono.bind ?_ ?_ | with_reducible refine Mono.loop ?_ | with_reducible refine Mono.prod ?_ | intro _ | (dsimp only))

theorem Check113.mono : ∀ a0_ a1_, Mono (fun k => Check113 k a0_ a1_) := by
  intro a0_ a1_
  unfold Check113
  repeat' (first | exact Mono.const _ | with_reducible refine Mono.cond ?_ ?_ | with_reducible refine Mono.orNil ?_ ?_ | with_reducible refine Mono.agree ?_ ?_ | with_reducible refine Mono.joined ?_ ?_ | with_reducible refine Mono.bind ?_ ?_ | with_reducible refine Mono.loop ?_ | with_reducible refine Mono.prod ?_ | intro _ | (dsimp only))

theorem IndexFunc30''.l0.mono : ∀ a0_, ∀ s, Mono (fun k => IndexFunc30''.l0 k a0_ s) := by
  intro a0_
  unfold IndexFunc30''.l0
  repeat' (first | exact Mono.const _ | with_reducible exact Check113.mono _ _ | with_reducible refine Mono.cond ?_ ?_ | with_reducible refine Mono.orNil ?_ ?_ | with_reducible refine Mono.agree ?_ ?_ | with_reducible refine Mono.joined ?_ ?_ | with_reducible refine Mono.bind ?_ ?_ | with_reducible refine Mono.loop ?_ | with_reducible refine Mono.prod ?_ | intro _ | (dsimp only))

theorem IndexFunc30''.mono : ∀ a0_ a1_, Mono (fun k => IndexFunc30'' k a0_ a1_) := by
  intro a0_ a1_
  unfold IndexFunc30''
  repeat' (first | exact Mono.const _ | with_reducible exact IndexFunc30''.l0.mono _ | with_reducible refine Mono.cond ?_ ?_ | with_reducible refine Mono.orNil ?_ ?_ | with_reducible refine Mono.agree ?_ ?_ | with_reducible refine Mono.joined ?_ ?_ | with_reducible refine Mono.bind ?_ ?_ | with_reducible refine Mono.loop ?_ | with_reducible refine Mono.prod ?_ | intro _ | (dsimp only))

theorem ContainsFunc12.mono : ∀ a0_ a1_, Mono (fun k => ContainsFunc12 k a0_ a1_) := by
  intro a0_ a1_
  unfold ContainsFunc12
  repeat' (first | exact Mono.const _ | with_reducible exact IndexFunc30''.mono _ _ | with_reducible refine Mono.cond ?_ ?_ | with_reducible refine Mono.orNil ?_ ?_ | with_reducible refine Mono.agree ?_ ?_ | with_reducible refine Mono.joined ?_ ?_ | with_reducible refine Mono.bind ?_ ?_ | with_reducible refine Mono.loop ?_ | with_reducible refine Mono.prod ?_ | intro _ | (dsimp only))

theorem register53.mono : ∀ a0_, Mono (fun k => register53 k a0_) := by
  intro a0_
  unfold register53
  repeat' (first | exact Mono.const _ | with_reducible refine Mono.cond ?_ ?_ | with_reducible refine Mono.orNil ?_ ?_ | with_reducible refine Mono.agree ?_ ?_ | with_reducible refine Mono.joined ?_ ?_ | with_reducible refine Mono.bind ?_ ?_ | with_reducible refine Mono.loop ?_ | with_reducible refine Mono.prod ?_ | intro _ | (dsimp only))

theorem Wide54.mono : ∀ a0_, Mono (fun k => Wide54 k a0_) := by
  intro a0_
  unfold Wide54
  repeat' (first | exact Mono.const _ | with_reducible refine Mono.cond ?_ ?_ | with_reducible refine Mono.orNil ?_ ?_ | with_reducible refine Mono.agree ?_ ?_ | with_reducible refine Mono.joined ?_ ?_ | with_reducible refine Mono.bind ?_ ?_ | with_reducible refine Mono.loop ?_ | with_reducible refine Mono.prod ?_ | intro _ | (dsimp only))

theorem uses66.mono : ∀ a0_, Mono (fun k => uses66 k a0_) := by
  intro a0_
  unfold uses66
  repeat' (first | exact Mono.const _ | with_reducible refine Mono.cond ?_ ?_ | with_reducible refine Mono.orNil ?_ ?_ | with_reducible refine Mono.agree ?_ ?_ | with_reducible refine Mono.joined ?_ ?_ | with_reducible refine Mono.bind ?_ ?_ | with_reducible refine Mono.loop ?_ | with_reducible refine Mono.prod ?_ | intro _ | (dsimp only))

theorem fits67.mono : ∀ a0_ a1_, Mono (fun k => fits67 k a0_ a1_) := by
  intro a0_ a1_
  unfold fits67
  repeat' (first | exact Mono.const _ | with_reducible exact register53.mono _ | with_reducible exact Wide54.mono _ | with_reducible refine Mono.cond ?_ ?_ | with_reducible refine Mono.orNil ?_ ?_ | with_reducible refine Mono.agree ?_ ?_ | with_reducible refine Mono.joined ?_ ?_ | with_reducible refine Mono.bind ?_ ?_ | with_reducible refine Mono.loop ?_ | with_reducible refine Mono.prod ?_ | intro _ | (dsimp only))

theorem step55.mono : ∀ a0_, Mono (fun k => step55 k a0_) := by
  intro a0_
  unfold step55
  repeat' (first | exact Mono.const _ | with_reducible exact register53.mono _ | with_reducible exact Wide54.mono _ | with_reducible exact uses66.mono _ | with_reducible exact fits67.mono _ _ | with_reducible refine Mono.cond ?_ ?_ | with_reducible refine Mono.orNil ?_ ?_ | with_reducible refine Mono.agree ?_ ?_ | with_reducible refine Mono.joined ?_ ?_ | with_reducible refine Mono.bind ?_ ?_ | with_reducible refine Mono.loop ?_ | with_reducible refine Mono.prod ?_ | intro _ | (dsimp only))

theorem cycle31.l0.mono : ∀ a0_, ∀ s, Mono (fun k => cycle31.l0 k a0_ s) := by
  intro a0_
  unfold cycle31.l0
  repeat' (first | exact Mono.const _ | with_reducible exact step55.mono _ | with_reducible refine Mono.cond ?_ ?_ | with_reducible refine Mono.orNil ?_ ?_ | with_reducible refine Mono.agree ?_ ?_ | with_reducible refine Mono.joined ?_ ?_ | with_reducible refine Mono.bind ?_ ?_ | with_reducible refine Mono.loop ?_ | with_reducible refine Mono.prod ?_ | intro _ | (dsimp only))

theorem cycle31.mono : ∀ a0_, Mono (fun k => cycle31 k a0_) := by
  intro a0_
  unfold cycle31
  repeat' (first | exact Mono.const _ | with_reducible exact register53.mono _ | with_reducible exact Wide54.mono _ | with_reducible exact cycle31.l0.mono _ | with_reducible refine Mono.cond ?_ ?_ | with_reducible refine Mono.orNil ?_ ?_ | with_reducible refine Mono.agree ?_ ?_ | with_reducible refine Mono.joined ?_ ?_ | with_reducible refine Mono.bind ?_ ?_ | with_reducible refine Mono.loop ?_ | with_reducible refine Mono.prod ?_ | intro _ | (dsimp only))

theorem cycles14.l0.mono : ∀ a0_, ∀ s, Mono (fun k => cycles14.l0 k a0_ s) := by
  intro a0_
  unfold cycles14.l0
  repeat' (first | exact Mono.const _ | with_reducible exact cycle31.mono _ | with_reducible refine Mono.cond ?_ ?_ | with_reducible refine Mono.orNil ?_ ?_ | with_reducible refine Mono.agree ?_ ?_ | with_reducible refine Mono.joined ?_ ?_ | with_reducible refine Mono.bind ?_ ?_ | with_reducible refine Mono.loop ?_ | with_reducible refine Mono.prod ?_ | intro _ | (dsimp only))

theorem cycles14.mono : ∀ a0_, Mono (fun k => cycles14 k a0_) := by
  intro a0_
  unfold cycles14
  repeat' (first | exact Mono.const _ | with_reducible exact cycles14.l0.mono _ | with_reducible refine Mono.cond ?_ ?_ | with_reducible refine Mono.orNil ?_ ?_ | with_reducible refine Mono.agree ?_ ?_ | with_reducible refine Mono.joined ?_ ?_ | with_reducible refine Mono.bind ?_ ?_ | with_reducible refine Mono.loop ?_ | with_reducible refine Mono.prod ?_ | intro _ | (dsimp only))

theorem operand15.l0.mono : ∀ a0_, ∀ s, Mono (fun k => operand15.l0 k a0_ s) := by
  intro a0_
  unfold operand15.l0
  repeat' (first | exact Mono.const _ | with_reducible refine Mono.cond ?_ ?_ | with_reducible refine Mono.orNil ?_ ?_ | with_reducible refine Mono.agree ?_ ?_ | with_reducible refine Mono.joined ?_ ?_ | with_reducible refine Mono.bind ?_ ?_ | with_reducible refine Mono.loop ?_ | with_reducible refine Mono.prod ?_ | intro _ | (dsimp only))

theorem operand15.mono : ∀ a0_, Mono (fun k => operand15 k a0_) := by
  intro a0_
  unfold operand15
  repeat' (first | exact Mono.const _ | with_reducible exact operand15.l0.mono _ | with_reducible refine Mono.cond ?_ ?_ | with_reducible refine Mono.orNil ?_ ?_ | with_reducible refine Mono.agree ?_ ?_ | with_reducible refine Mono.joined ?_ ?_ | with_reducible refine Mono.bind ?_ ?_ | with_reducible refine Mono.loop ?_ | with_reducible refine Mono.prod ?_ | intro _ | (dsimp only))

theorem Check5.l0.mono : ∀ a0_, ∀ s, Mono (fun k => Check5.l0 k a0_ s) := by
  intro a0_
  unfold Check5.l0
  repeat' (first | exact Mono.const _ | with_reducible exact Size11.mono _ | with_reducible exact Name10.mono _ | with_reducible exact ContainsFunc12.mono _ _ | with_reducible exact cycles14.mono _ | with_reducible exact operand15.mono _ | with_reducible refine Mono.cond ?_ ?_ | with_reducible refine Mono.orNil ?_ ?_ | with_reducible refine Mono.agree ?_ ?_ | with_reducible refine Mono.joined ?_ ?_ | with_reducible refine Mono.bind ?_ ?_ | with_reducible refine Mono.loop ?_ | with_reducible refine Mono.prod ?_ | intro _ | (dsimp only))

theorem Check5.l1.mono : ∀ a0_, ∀ s, Mono (fun k => Check5.l1 k a0_ s) := by
  intro a0_
  unfold Check5.l1
  repeat' (first | exact Mono.const _ | with_reducible exact cycles14.mono _ | with_reducible refine Mono.cond ?_ ?_ | with_reducible refine Mono.orNil ?_ ?_ | with_reducible refine Mono.agree ?_ ?_ | with_reducible refine Mono.joined ?_ ?_ | with_reducible refine Mono.bind ?_ ?_ | with_reducible refine Mono.loop ?_ | with_reducible refine Mono.prod ?_ | intro _ | (dsimp only))

theorem Check5.mono : ∀ a0_, Mono (fun k => Check5 k a0_) := by
  intro a0_
  unfold Check5
  repeat' (first | exact Mono.const _ | with_reducible exact Name10.mono _ | with_reducible exact Check5.l0.mono _ | with_reducible exact Check5.l1.mono _ | with_reducible refine Mono.cond ?_ ?_ | with_reducible refine Mono.orNil ?_ ?_ | with_reducible refine Mono.agree ?_ ?_ | with_reducible refine Mono.joined ?_ ?_ | with_reducible refine Mono.bind ?_ ?_ | with_reducible refine Mono.loop ?_ | with_reducible refine Mono.prod ?_ | intro _ | (dsimp only))

end Go.Proofs.YtcppmlgnceldmaaDoor.Do

/- What an argument of a law reads as, kind by kind. -/
set_option linter.unusedVariables false
noncomputable section
namespace Go.Proofs.YtcppmlgnceldmaaDoor.Gp
open Go Go.ChangeShapes Go.WideShapes Go.RowKit

/-- the input's memory, all of it frozen -/
def memH (W : World) : Hp := fun b => W.heap[b]?

structure Gd (P : Program) (t : TypeId) (k : K) (wf : k.den → Prop) (siz : k.den → Nat) : Prop where
  cells : P.cellsOf t = k.w
  one : k.one = true
  pur : k.pur = true
  val : ∀ {W : World} {r : Reach} {base : Nat} {v : Value}, Value.okWide P W r base t v → v = k.mk v.cells.toList
  read : ∀ {H : Type} {enc : TypeId × Value → H} {W : World} {base : Nat} {spare : Nat → Bool} {held : Bool} {fuel : Nat} {cs : List Value} {x : DataW H × List MemPlace},
    DataW.trod enc P W base spare held fuel t cs = some x → (∀ n ∈ x.1.weights P t, n ≤ reachBytes) → ∃ y, (∀ L, Lv (memH W) L k y cs) ∧ wf y ∧ siz y ≤ Rows.uptoBulk x.1

variable {P : Program}

theorem str_len {s : ByteArray} : s.data.toList.length = s.size := Array.length_toList
theorem gd_int {t : TypeId} {k : IntKind} (hu : P.underlying t = some (.int k)) (hc : P.cellsOf t = 1) : Gd P t (.int k) (fun (y : Int) => (Lit.int k y).wf = true) (fun _ => 1) :=
  ⟨hc, rfl, rfl, fun h => by obtain ⟨n, rfl⟩ := okWide_int hu h; rfl, fun h _ => by
    obtain ⟨n, rfl, rfl, hw⟩ := DataW.trod_int hu h
    exact ⟨n, fun _ => rfl, hw, by simp [Rows.uptoBulk]⟩⟩
theorem gd_str {t : TypeId} (hu : P.underlying t = some .string) (hc : P.cellsOf t = 1) : Gd P t .str (fun (y : ByteArray) => y.size ≤ 140737488351232) (fun (y : ByteArray) => y.size + 1) :=
  ⟨hc, rfl, rfl, fun h => by
    simp only [Value.okWide, hu, Cell.okWide] at h
    rename_i v
    cases v <;> first | rfl | (simp_all [Cell.ok]; done), fun h hw => by
    obtain ⟨s, rfl, rfl, _⟩ := DataW.trod_string hu h
    refine ⟨s, fun _ => rfl, ?_, ?_⟩
    · have := hw s.data.toList.length (by simp [DataW.weights])
      rw [str_len] at this
      exact this
    · simp only [Rows.uptoBulk]
      rw [str_len]
      omega⟩

theorem weights_all {H : Type} {e : TypeId} {n : Nat} : ∀ {l : List (DataW H)} {d : DataW H}, d ∈ l → n ∈ d.weights P e → n ∈ DataW.weightsAll P e l
  | x :: r, d, hd, hn => by
    rw [DataW.weightsAll]
    rcases List.mem_cons.1 hd with rfl | hd
    · exact List.mem_append_left _ hn
    · exact List.mem_append_right _ (weights_all hd hn)
theorem buildL {α : Type} {H : Type} {wf : α → Prop} {siz : α → Nat} : ∀ (es : List (DataW H × List MemPlace)) (p : Nat → α → Prop),
    (∀ i x, es[i]? = some x → ∃ y, p i y ∧ wf y ∧ siz y ≤ Rows.uptoBulk x.1) →
    ∃ ys : List α, ys.length = es.length ∧ (∀ j y, ys[j]? = some y → p j y ∧ wf y) ∧ (ys.map siz).sum ≤ Rows.uptoBulkAll (es.map (·.1))
  | [], _, _ => ⟨[], rfl, fun j y h => by simp at h, by simp⟩
  | x :: r, p, h => by
    obtain ⟨y, hp, hw, hs⟩ := h 0 x rfl
    obtain ⟨ys, hl, hy, hsum⟩ := buildL r (fun i => p (i + 1)) (fun i x hx => h (i + 1) x (by simpa using hx))
    refine ⟨y :: ys, by simp [hl], fun j z hz => ?_, ?_⟩
    · cases j with
      | zero => simp only [List.getElem?_cons_zero, Option.some.injEq] at hz; subst hz; exact ⟨hp, hw⟩
      | succ j => exact hy j z (by simpa using hz)
    · simp only [List.map_cons, List.sum_cons, Rows.uptoBulkAll]
      omega

def sizL {α : Type} (siz : α → Nat) (l : List α) : Nat := (l.map siz).sum + 1
def wfL {α : Type} (B : Nat) (wf : α → Prop) (l : List α) : Prop := l.length * B ≤ 140737488351232 ∧ ∀ y ∈ l, wf y

theorem LvL_mk {α : Type} {R : α → List Value → Prop} {w : Nat} {C : List Value} : ∀ {ys : List α} {o : Nat}, (∀ j y, ys[j]? = some y → ∃ c : List Value, c.length = w ∧ R y c ∧ ∀ i u, c[i]? = some u → C[o + (j * w + i)]? = some u) →
    LvL R ys ((C.drop o).take (ys.length * w))
  | [], o, h => by simp [LvL]
  | y :: ys, o, h => by
    obtain ⟨c, hc, hr, hu⟩ := h 0 y rfl
    have e : (C.drop o).take w = c := by
      apply List.ext_getElem?
      intro i
      rw [cut_get]
      by_cases hi : i < w
      · rw [if_pos hi]
        have hi' : i < c.length := by omega
        have := hu i c[i] (List.getElem?_eq_getElem hi')
        rw [Nat.zero_mul, Nat.zero_add] at this
        rw [this, List.getElem?_eq_getElem hi']
      · rw [if_neg hi, List.getElem?_eq_none (by omega)]
    refine ⟨c, (C.drop (o + w)).take (ys.length * w), ?_, hr, LvL_mk (fun j z hz => ?_)⟩
    · rw [List.length_cons, Nat.add_mul, Nat.one_mul, Nat.add_comm (ys.length * w) w, List.take_add, e, List.drop_drop]
    · obtain ⟨c', h1, h2, h3⟩ := h (j + 1) z hz
      refine ⟨c', h1, h2, fun i u hi => ?_⟩
      have := h3 i u hi
      rw [Nat.add_mul, Nat.one_mul] at this
      rw [show o + w + (j * w + i) = o + (j * w + w + i) by omega]
      exact this

theorem gd_sl {t e : TypeId} {k : K} {wf : k.den → Prop} {siz : k.den → Nat} {B : Nat} (hu : P.underlying t = some (.slice e)) (hc : P.cellsOf t = 1) (hB : P.bytesOf e = B) (hk : 0 < k.w) (r : Gd P e k wf siz) :
    Gd P t (.sl k) (wfL (α := k.den) B wf) (sizL (α := k.den) siz) :=
  ⟨hc, rfl, r.pur, fun h => by obtain ⟨a, len, cap, rfl⟩ := okWide_slice hu h; rfl, fun {H enc W base spare held fuel cs x} h hw => by
    rcases DataW.trod_slice hu h with ⟨rfl, rfl⟩ | ⟨a, len, cap, elems, rest, n, _, rfl, rfl, hb, hl, hm, hlen, hel, _, _⟩
    · exact ⟨([] : List k.den), fun L => ⟨r.pur, none, 0, rfl, Nat.le_refl _, fun hn => absurd rfl hn⟩, ⟨by simp, fun y hy => by simp at hy⟩, by simp [sizL, Rows.uptoBulk]⟩
    · simp only [DataW.weights, hu] at hw
      have hw1 : (elems.length + rest.length) * B ≤ 140737488351232 := by
        have := hw ((elems.length + rest.length) * B) (by simp [hB])
        exact this
      obtain ⟨ys, hyl, hyp, hys⟩ := buildL (wf := wf) (siz := siz) elems (fun i y => ∃ c : List Value, c.length = k.w ∧ (∀ L, Lv (memH W) L k y c) ∧ ∀ j u, c[j]? = some u → W.cell? (a.add (i * k.w + j)) = some u) (fun i z hz => by
        have hi : i < len := by
          have := (List.getElem?_eq_some_iff.1 hz).1
          omega
        have h1 := hel i hi
        rw [hz] at h1
        obtain ⟨c, hc1, hc2⟩ := Option.bind_eq_some_iff.1 h1
        obtain ⟨y, hK, hwf, hsz⟩ := r.read hc2 (fun q hq => hw q (List.mem_cons_of_mem _ (List.mem_append_left _ (weights_all (List.mem_map.2 ⟨z, List.mem_of_getElem? hz, rfl⟩) hq))))
        obtain ⟨_, hcl, hcell⟩ := World.cells?_some hc1
        refine ⟨y, ⟨c, Lv_len (hK default), hK, fun j u hu => ?_⟩, hwf, hsz⟩
        have hj : j < P.cellsOf e := by
          have := (List.getElem?_eq_some_iff.1 hu).1
          omega
        have h3 := hcell j hj
        rw [Go.Deep.add_add, r.cells] at h3
        rw [h3]
        exact hu)
      refine ⟨ys, fun L => ⟨r.pur, some a, cap, by rw [hyl, hlen], by omega, fun hn => ?_⟩, ⟨?_, fun y hy => ?_⟩, ?_⟩
      · have hn : ys.length ≠ 0 := hn
        obtain ⟨y, hy⟩ : ∃ y, ys[0]? = some y := ⟨ys[0]'(by omega), List.getElem?_eq_getElem (by omega)⟩
        obtain ⟨c, c1, c2, c3⟩ := (hyp 0 y hy).1
        obtain ⟨u, hu0⟩ : ∃ u, c[0]? = some u := ⟨c[0]'(by omega), List.getElem?_eq_getElem (by omega)⟩
        have hcell := c3 0 u hu0
        rw [Nat.zero_mul, Nat.zero_add, show a.add 0 = a from rfl] at hcell
        unfold World.cell? at hcell
        split at hcell
        · rename_i C ee zz hblk
          split at hcell
          · cases hcell
          · rename_i hsp
            have hsp : a.spot = none := by cases hs : a.spot with | none => rfl | some q => rw [hs] at hsp; exact absurd rfl hsp
            refine ⟨a.block, a.off, C, ee, zz, by cases a; simp only at hsp; rw [hsp], hblk, LvL_mk (C := C.toList) (fun j y hy => ?_)⟩
            obtain ⟨c, c1, c2, c3⟩ := (hyp j y hy).1
            refine ⟨c, c1, c2 L, fun i u hi => ?_⟩
            have h5 := c3 i u hi
            have hadd : (a.add (j * k.w + i)).block = a.block ∧ (a.add (j * k.w + i)).off = a.off + (j * k.w + i) ∧ (a.add (j * k.w + i)).spot = none := by
              unfold Addr.add
              split
              · rename_i h0; exact ⟨rfl, by omega, hsp⟩
              · exact ⟨rfl, rfl, rfl⟩
            unfold World.cell? at h5
            rw [hadd.1, hblk, hadd.2.1, hadd.2.2] at h5
            rw [Array.getElem?_toList]
            exact h5
        · cases hcell
      · rw [hyl]
        exact Nat.le_trans (Nat.mul_le_mul_right _ (Nat.le_add_right _ _)) hw1
      · obtain ⟨j, hj⟩ := List.mem_iff_getElem?.1 hy
        exact (hyp j y hj).2
      · simp only [sizL, Rows.uptoBulk]
        omega⟩

/-- fields in line, from cell 'off' on -/
structure GdF (P : Program) (off : Nat) (fs : List Field) (k : K) (wf : k.den → Prop) (siz : k.den → Nat) : Prop where
  pur : k.pur = true
  read : ∀ {H : Type} {enc : TypeId × Value → H} {W : World} {base : Nat} {spare : Nat → Bool} {held : Bool} {fuel : Nat} {cs : List Value} {xs : List (DataW H × List MemPlace)},
    cs.length = off + k.w → xs.length = fs.length →
    (∀ (i : Nat) (f : Field), fs[i]? = some f → DataW.trod enc P W base spare held fuel f.type ((cs.drop f.offset).take (P.cellsOf f.type)) = xs[i]?) →
    (∀ n ∈ DataW.weightsEach P (fs.map (·.type)) (xs.map (·.1)), n ≤ reachBytes) →
    ∃ y, (∀ L, Lv (memH W) L k y (cs.drop off)) ∧ wf y ∧ siz y ≤ Rows.uptoBulkAll (xs.map (·.1))

theorem gdf_cons {off : Nat} {f : Field} {fs : List Field} {k k' : K} {wf : k.den → Prop} {wf' : k'.den → Prop} {siz : k.den → Nat} {siz' : k'.den → Nat} (ho : f.offset = off) (r : Gd P f.type k wf siz)
    (rs : GdF P (off + k.w) fs k' wf' siz') : GdF P off (f :: fs) (.pair k k') (fun (y : k.den × k'.den) => wf y.1 ∧ wf' y.2) (fun (y : k.den × k'.den) => siz y.1 + siz' y.2) := by
  refine ⟨by simp only [K.pur, r.pur, rs.pur]; rfl, ?_⟩
  intro H enc W base spare held fuel cs xs hl hxl hx hw
  have hl' : cs.length = off + (k.w + k'.w) := hl
  match xs, hxl with
  | x :: xs, hxl =>
    have h := hx 0 f rfl
    rw [ho, r.cells] at h
    simp only [List.getElem?_cons_zero] at h
    obtain ⟨y, h1, h2, h3⟩ := r.read h (fun n hn => hw n (by simp [DataW.weightsEach, hn]))
    obtain ⟨z, g1, g2, g3⟩ := rs.read (enc := enc) (W := W) (base := base) (spare := spare) (held := held) (fuel := fuel) (cs := cs) (xs := xs) (by omega) (by simpa using hxl)
      (fun i g hg => by simpa using hx (i + 1) g (by simpa using hg)) (fun n hn => hw n (by simp only [List.map_cons, DataW.weightsEach]; exact List.mem_append_right _ hn))
    refine ⟨(y, z), fun L => ⟨(cs.drop off).take k.w, cs.drop (off + k.w), ?_, h1 L, g1 L⟩, ⟨h2, g2⟩, ?_⟩
    · rw [← List.drop_drop]
      exact (List.take_append_drop _ _).symm
    · simp only [List.map_cons, Rows.uptoBulkAll]
      omega
theorem gdf_one {off : Nat} {f : Field} {k : K} {wf : k.den → Prop} {siz : k.den → Nat} (ho : f.offset = off) (r : Gd P f.type k wf siz) : GdF P off [f] k wf siz := by
  refine ⟨r.pur, ?_⟩
  intro H enc W base spare held fuel cs xs hl hxl hx hw
  match xs, hxl with
  | [x], hxl =>
    have h := hx 0 f rfl
    rw [ho, r.cells] at h
    simp only [List.getElem?_cons_zero] at h
    have e : (cs.drop off).take k.w = cs.drop off := List.take_of_length_le (by rw [List.length_drop, hl]; omega)
    rw [e] at h
    obtain ⟨y, h1, h2, h3⟩ := r.read h (fun n hn => hw n (by simp [DataW.weightsEach, hn]))
    refine ⟨y, h1, h2, ?_⟩
    simp only [List.map_cons, List.map_nil, Rows.uptoBulkAll]
    omega
theorem gd_st {t : TypeId} {fs : Array Field} {k : K} {wf : k.den → Prop} {siz : k.den → Nat} (hu : P.underlying t = some (.struct fs)) (hc : P.cellsOf t = k.w) (r : GdF P 0 fs.toList k wf siz) : Gd P t (.st k) wf siz :=
  ⟨hc, rfl, r.pur, fun h => by
    simp only [Value.okWide, hu] at h
    obtain ⟨cs, rfl, _⟩ := h
    rfl, fun h hw => by
    obtain ⟨xs, n, _, rfl, hl, hxl, hx⟩ := DataW.trod_struct hu h
    obtain ⟨y, h1, h2, h3⟩ := r.read (by rw [hl, hc]; omega) (by rw [hxl]; simp) (fun i f hf => hx i f (by simpa using hf)) (fun n hn => hw n (by simp only [DataW.weights, hu]; exact hn))
    refine ⟨y, h1, h2, ?_⟩
    simp only [Rows.uptoBulk]
    omega⟩

/-- an argument -/
theorem Gd.arg {t : TypeId} {k : K} {wf : k.den → Prop} {siz : k.den → Nat} (r : Gd P t k wf siz) {H : Type} {enc : TypeId × Value → H} {W : World} {base : Nat} {spare : Nat → Bool} {held : Bool} {rr : Reach} {b2 : Nat} {v : Value} {x : DataW H} {ps : List MemPlace}
    (hval : Value.okWide P W rr b2 t v) (h : DataW.Trod enc P W base spare held t v x ps) (hw : ∀ n ∈ x.weights P t, n ≤ reachBytes) : ∃ y : k.den, (∀ L, SR (memH W) L ⟨k, y⟩ v) ∧ wf y ∧ siz y ≤ Rows.uptoBulk x := by
  obtain ⟨fuel, hf⟩ := h
  obtain ⟨y, h1, h2, h3⟩ := r.read hf hw
  refine ⟨y, fun L => ?_, h2, h3⟩
  rw [r.val hval]
  exact SR_mk (h1 L)

def noLoc : Ls := fun _ => default
theorem law_calls {fuel : Nat} {f : FuncId} {params : List K} {run : Nat → HL params → HL (List.map (·.toK) ([] : List OK)) → Option (K.bool.den × HL (List.map (·.toK) ([] : List OK)))} (hs : SoundAt P fuel ⟨f, params, [], .bool, [], [], run⟩) {ds : HL params}
    (hr : run fuel ds () = some (true, ())) {args : Array Value} {W : World} (hv : SRs (memH W) noLoc (unpackL params ds) args.toList) (hg : GH (memH W) := by exact GH.none _) : Calls P f args W (fun e W' => e = .returned (.bool true) ∧ Below W.heap.size W W') := by
  have hno : ∀ b, ¬ Own (assoc O.dead (objsFrom 0 ([] : List OK) ())) noLoc b := fun b ⟨i, hi, _⟩ => hi
  refine Calls.mono (hs.2 ds () (true, ()) hr args W (memH W) noLoc hv ⟨fun i => trivial, fun b o h => h, fun i hi => hi.elim, fun i j hi => hi.elim, hg⟩ (fun i hi => by cases hi)) fun e W' hh => ?_
  obtain ⟨v, H', L', rfl, h1, _, _, hp⟩ := hh
  have h1 : SR H' L' ⟨.bool, true⟩ v := h1
  refine ⟨by rw [bool_at h1], hp.fr.os, hp.fr.tape, hp.fr.output, hp.fr.size, fun b hb => hp.fr.same b hb (hno b)⟩
/-- The weights of one argument. -/
theorem weights_at {H : Type} {ts : List TypeId} {ds : List (DataW H)} (hsz : (DataW.weightsEach P ts ds).all (· ≤ reachBytes) = true) (j : Nat) {t : TypeId} {d : DataW H} (ht : ts[j]? = some t) (hd : ds[j]? = some d) :
    ∀ n ∈ d.weights P t, n ≤ reachBytes := fun n hn => by
  have := List.all_eq_true.1 hsz n (DataW.weights_mem_each ht hd n hn)
  simpa using this

end Go.Proofs.YtcppmlgnceldmaaDoor.Gp

/- The museum's processor, and what a row reads. No program in sight. -/
set_option linter.unusedVariables false
set_option maxRecDepth 100000
noncomputable section
namespace Go.Proofs.YtcppmlgnceldmaaDoor.Do
open Go Go.Proofs.YtcppmlgnceldmaaDoor.Gp

theorem Ev.one {α : Type} {f : Nat → Option α} {v w : α} (h : Ev f v) (h2 : Ev f w) : v = w := by
  obtain ⟨n, h⟩ := h
  obtain ⟨m, h2⟩ := h2
  have a := h (max n m) (by omega)
  rw [h2 (max n m) (by omega)] at a
  exact (Option.some.inj a).symm
def cpuV : Cpu := match Cpu8 20 with | some v => v.1 | none => (ByteArray.mk #[], [], [], [], [])
def isS {α : Type} (o : Option α) : Bool := match o with | some _ => true | none => false
theorem isS_some {α : Type} {o : Option α} (h : isS o = true) : ∃ v, o = some v := by
  cases o with
  | none => cases h
  | some v => exact ⟨v, rfl⟩
theorem cpu_isS : isS (Cpu8 20) = true := by kernel_rfl
theorem cpu_ev : Ev (fun k => Cpu8 k) (cpuV, ()) := by
  obtain ⟨v, hv⟩ := isS_some cpu_isS
  have e : cpuV = v.1 := by unfold cpuV; rw [hv]
  rw [e]
  exact Mono.ev Cpu8.mono hv
def wcycB (l : List Cyc) : Bool := Nat.ble (l.length * 48) 140737488351232 && l.all (fun y => Nat.ble (y.2.2.2.length * 32) 140737488351232)
def wcB (c : Cpu) : Bool := Nat.ble (c.2.1.length * 56) 140737488351232 && c.2.1.all (fun x => wcycB x.2.2.2) && wcycB c.2.2.1 && wcycB c.2.2.2.1 && wcycB c.2.2.2.2
theorem wcyc_of {l : List Cyc} (h : wcycB l = true) : Wcyc l := by
  unfold wcycB at h
  simp only [Bool.and_eq_true] at h
  exact ⟨Nat.le_of_ble_eq_true h.1, fun y hy => Nat.le_of_ble_eq_true (List.all_eq_true.1 h.2 y hy)⟩
theorem wc_of {c : Cpu} (h : wcB c = true) : Wc c := by
  unfold wcB at h
  simp only [Bool.and_eq_true] at h
  exact ⟨Nat.le_of_ble_eq_true h.1.1.1.1, fun x hx => wcyc_of (List.all_eq_true.1 h.1.1.1.2 x hx), wcyc_of h.1.1.2, wcyc_of h.1.2, wcyc_of h.2⟩
theorem cpu_wcB : wcB cpuV = true := by kernel_rfl
theorem cpu_wc : Wc cpuV := wc_of cpu_wcB
-- instructions by their names
def isN (name : ByteArray) (mode : Int) (x : Ins) : Bool := cond (streq x.2.1 name) (x.2.2.1 == mode) false
theorem nidx_lp {c : Cpu} (hc : Wc c) (name : ByteArray) (mode : Int) : ∀ (suf pre : List Ins), c.2.1 = pre ++ suf → ∃ r, Lp (fun k => IndexFunc30.l0 k c.2.1) ((name, mode, ()), (pre.length : Int)) r ∧
    (match suf.find? (isN name mode) with | none => r = .inl () | some x => ∃ j : Nat, r = .inr ((j : Int), ()) ∧ c.2.1[j]? = some x) := by
  have hl := hc.len
  intro suf
  induction suf with
  | nil =>
    intro pre h
    rw [List.append_nil] at h
    refine ⟨.inl (), .done ?_, rfl⟩
    simp only [IndexFunc30.l0]
    exact .no (decide_eq_false (by rw [h]; omega)) (.now _)
  | cons x suf ih =>
    intro pre h
    have hx : c.2.1[pre.length]? = some x := by rw [h]; simp
    have hlt := get_lt hx
    cases hp : isN name mode x with
    | true =>
      refine ⟨.inr ((pre.length : Int), ()), .done ?_, ?_⟩
      · simp only [IndexFunc30.l0]
        refine .yes (decide_eq_true (by omega)) (.val (rd_some' hx) (.bind (a := (true, ())) (.const ?_) (.yes rfl (.now _))))
        show some (isN name mode x, ()) = _
        rw [hp]
      · rw [List.find?_cons_of_pos (by exact hp)]
        exact ⟨pre.length, rfl, hx⟩
    | false =>
      obtain ⟨r, h1, h2⟩ := ih (pre ++ [x]) (by rw [h]; simp)
      refine ⟨r, .step ?_ h1, ?_⟩
      · simp only [IndexFunc30.l0]
        refine .yes (decide_eq_true (by omega)) (.val (rd_some' hx) (.bind (a := (false, ())) (.const ?_) (.no rfl (.now' ?_))))
        · show some (isN name mode x, ()) = _
          rw [hp]
        · rw [w64_succ (by omega)]; simp
      · rw [List.find?_cons_of_neg (by rw [hp]; decide)]
        exact h2
def namedR (c : Cpu) (name : ByteArray) (mode : Int) : Ins × Bool × Unit := match c.2.1.find? (isN name mode) with | some x => (x, true, ()) | none => (none4, false, ())
theorem named_ev {c : Cpu} (hc : Wc c) (name : ByteArray) (mode : Int) : Ev (fun k => Named29 k c name mode) (namedR c name mode, ()) := by
  unfold Named29 IndexFunc30
  obtain ⟨r, h1, h2⟩ := nidx_lp hc name mode c.2.1 [] rfl
  unfold namedR
  cases hf : c.2.1.find? (isN name mode) with
  | none =>
    rw [hf] at h2
    subst h2
    exact .bind (.joinL (S := Unit) h1.ev (.now _)) (.yes rfl (.now _))
  | some x =>
    rw [hf] at h2
    obtain ⟨j, rfl, hj⟩ := h2
    exact .bind (.joinR h1.ev) (.no (decide_eq_false (by show ¬ (j : Int) < 0; omega)) (.val (rd_some' hj) (.bind (copy_ev x (hc.ins x (get_mem hj))) (.now _))))
theorem wrap8 (x : Int) : 0 ≤ IntKind.wrap .u8 x ∧ IntKind.wrap .u8 x < 256 := by
  have e2 : (2 : Int) ^ 8 = 256 := by decide
  simp only [IntKind.wrap, IntKind.signed, IntKind.bits, Bool.false_and, e2]
  constructor
  · simp; omega
  · simp; omega
def nopB : List Int := [IntKind.wrap .u8 (namedR cpuV (ByteArray.mk #[110, 111, 112]) 0).1.1, IntKind.wrap .u8 (namedR cpuV (ByteArray.mk #[106, 109, 112]) 4).1.1, 0, 2]
theorem nop_ev : Ev (fun k => nop9 k) ((512, nopB, []), ()) := by
  unfold nop9
  exact .bind cpu_ev (.bind (named_ev cpu_wc _ _) (.bind cpu_ev (.bind (named_ev cpu_wc _ _) (.now _))))
theorem lit8 {k : Int} (h : (Lit.int .u8 k).wf = true) : 0 ≤ k ∧ k < 256 := by
  simp [Lit.wf, IntKind.min, IntKind.max, IntKind.signed, IntKind.bits] at h
  omega
abbrev WfCpu (c : Cpu) : Prop := (c.1.size ≤ 140737488351232) ∧ wfL (α := Ins) 56 (fun x => (Lit.int .i64 x.1).wf = true ∧ x.2.1.size ≤ 140737488351232 ∧ (Lit.int .i64 x.2.2.1).wf = true ∧ wfL (α := Cyc) 48 (fun y => (Lit.int .i64 y.1).wf = true ∧ (Lit.int .i64 y.2.1).wf = true ∧ (Lit.int .i64 y.2.2.1).wf = true ∧ wfL (α := Stp4) 32 (fun z => (Lit.int .i64 z.1).wf = true ∧ (Lit.int .i64 z.2.1).wf = true ∧ (Lit.int .i64 z.2.2.1).wf = true ∧ (Lit.int .i64 z.2.2.2).wf = true) y.2.2.2) x.2.2.2) c.2.1 ∧
    wfL (α := Cyc) 48 (fun y => (Lit.int .i64 y.1).wf = true ∧ (Lit.int .i64 y.2.1).wf = true ∧ (Lit.int .i64 y.2.2.1).wf = true ∧ wfL (α := Stp4) 32 (fun z => (Lit.int .i64 z.1).wf = true ∧ (Lit.int .i64 z.2.1).wf = true ∧ (Lit.int .i64 z.2.2.1).wf = true ∧ (Lit.int .i64 z.2.2.2).wf = true) y.2.2.2) c.2.2.1 ∧
    wfL (α := Cyc) 48 (fun y => (Lit.int .i64 y.1).wf = true ∧ (Lit.int .i64 y.2.1).wf = true ∧ (Lit.int .i64 y.2.2.1).wf = true ∧ wfL (α := Stp4) 32 (fun z => (Lit.int .i64 z.1).wf = true ∧ (Lit.int .i64 z.2.1).wf = true ∧ (Lit.int .i64 z.2.2.1).wf = true ∧ (Lit.int .i64 z.2.2.2).wf = true) y.2.2.2) c.2.2.2.1 ∧
    wfL (α := Cyc) 48 (fun y => (Lit.int .i64 y.1).wf = true ∧ (Lit.int .i64 y.2.1).wf = true ∧ (Lit.int .i64 y.2.2.1).wf = true ∧ wfL (α := Stp4) 32 (fun z => (Lit.int .i64 z.1).wf = true ∧ (Lit.int .i64 z.2.1).wf = true ∧ (Lit.int .i64 z.2.2.1).wf = true ∧ (Lit.int .i64 z.2.2.2).wf = true) y.2.2.2) c.2.2.2.2
theorem wc_row {c : Cpu} (h : WfCpu c) : Wc c ∧ Wn c := by
  obtain ⟨h1, h2, h3, h4, h5⟩ := h
  exact ⟨⟨h2.1, fun x hx => ⟨(h2.2 x hx).2.2.2.1, fun y hy => ((h2.2 x hx).2.2.2.2 y hy).2.2.2.1⟩, ⟨h3.1, fun y hy => (h3.2 y hy).2.2.2.1⟩, ⟨h4.1, fun y hy => (h4.2 y hy).2.2.2.1⟩, ⟨h5.1, fun y hy => (h5.2 y hy).2.2.2.1⟩⟩, h1, fun x hx => (h2.2 x hx).2.1⟩
def wnB (c : Cpu) : Bool := Nat.ble c.1.size 140737488351232 && c.2.1.all (fun x => Nat.ble x.2.1.size 140737488351232)
theorem wn_of {c : Cpu} (h : wnB c = true) : Wn c := by
  unfold wnB at h
  rw [Bool.and_eq_true, List.all_eq_true] at h
  exact ⟨Nat.le_of_ble_eq_true h.1, fun x hx => Nat.le_of_ble_eq_true (h.2 x hx)⟩
theorem cpu_wn : Wn cpuV := wn_of (by kernel_rfl)
def sizeV (m : Int) : Nat := ([0, 1, 1, 1, 2, 2, 2, 1, 1] : List Nat).getD m.toNat 0
theorem size_ev {m : Int} (h : 0 ≤ m ∧ m ≤ 8) : Ev (fun k => Size11 k m) ((sizeV m : Int), ()) := by
  have : m = 0 ∨ m = 1 ∨ m = 2 ∨ m = 3 ∨ m = 4 ∨ m = 5 ∨ m = 6 ∨ m = 7 ∨ m = 8 := by omega
  rcases this with rfl | rfl | rfl | rfl | rfl | rfl | rfl | rfl | rfl <;> exact .const rfl
theorem sizeV_le (m : Int) : sizeV m ≤ 2 := by
  unfold sizeV
  rw [List.getD_eq_getElem?_getD]
  cases h : ([0, 1, 1, 1, 2, 2, 2, 1, 1] : List Nat)[m.toNat]? with
  | none => decide
  | some x =>
    have := get_mem h
    simp only [List.mem_cons, List.not_mem_nil, or_false] at this
    show x ≤ 2
    omega
theorem size_rd {m : Int} (h : 0 ≤ m ∧ m ≤ 8) : rd ([0, 1, 1, 1, 2, 2, 2, 1, 1] : List Int) m = some (sizeV m : Int) := by
  have : m = 0 ∨ m = 1 ∨ m = 2 ∨ m = 3 ∨ m = 4 ∨ m = 5 ∨ m = 6 ∨ m = 7 ∨ m = 8 := by omega
  rcases this with rfl | rfl | rfl | rfl | rfl | rfl | rfl | rfl | rfl <;> rfl
theorem Ev.agr {α : Type} {f g : Nat → Option α} {v : α} (h1 : Ev f v) (h2 : Ev g v) : Ev (fun k => agree (f k) (g k)) v := by
  obtain ⟨a, h1⟩ := h1
  obtain ⟨b, h2⟩ := h2
  refine ⟨max a b, fun k hk => ?_⟩
  show agree (f k) (g k) = some v
  rw [h1 k (by omega), h2 k (by omega)]
  exact agree_self _
theorem findI_mem {c : Cpu} {op : Int} {x : Ins} (h : findI c op = some x) : x ∈ c.2.1 := List.mem_of_find?_eq_some h
end Go.Proofs.YtcppmlgnceldmaaDoor.Do
